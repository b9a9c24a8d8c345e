/- Functions of the library, by the contracts that are proved once for all programs. -/
import Derived.Shelf.SlSortCmp.NoneTotal
import Derived.Shelf.Strconv.Itoa3
import Derived.Shelf.Strings.OnBuilder
import Derived.Shelf.Strings.Repeat
import Derived.Test.YtdlhgdfjpilcjaaGreatDoorProg
import Derived.Test.YtdlhgdfjpilcjaaGreatDoorExplainWhyPure
set_option linter.all false
section
open Go Go.Kx Go.Proofs
namespace Gx
set_option maxRecDepth 20000
def Zqr:Go.Shelf.Ren:=⟨fun x=>match x with
  | 6=>242
  | 15=>274
  | 14=>273
  | 28=>293
  | 29=>277
  | 20=>285
  | 21=>286
  | 22=>287
  | 23=>288
  | 24=>289
  | 25=>290
  | 26=>291
  | 27=>292
  | 46=>301
  | 47=>302
  | 48=>303
  | 49=>304
  | 50=>305
  | 57=>311
  | n=>n,fun x=>match x with
  | 22=>92
  | 24=>3
  | 25=>229
  | 3=>3
  | 39=>230
  | 0=>0
  | 53=>268
  | 55=>271
  | 4=>4
  | 46=>296
  | 45=>295
  | 50=>217
  | 5=>5
  | 9=>9
  | 66=>307
  | 70=>311
  | 76=>315
  | 77=>158
  | n=>n,fun x=>x⟩
theorem ZrO:Go.Proofs.SlLaysF.n6 Go.Proofs.Tryz.prog Zqr :=
  { mixed:=by kernel_rfl,
    f6:=⟨ "slices.SortFunc[[]int,int]",of_decide_eq_true (by kernel_rfl),Eq.trans Go.Proofs.Tryz.func242 (congrArg some (by kernel_rfl))⟩,
    f14:=⟨ "slices.pdqsortCmpFunc[int]",of_decide_eq_true (by kernel_rfl),Eq.trans Go.Proofs.Tryz.func273 (congrArg some (by kernel_rfl))⟩,
    f15:=Eq.trans Go.Proofs.Tryz.func274 (congrArg some (by kernel_rfl)),
    f20:=⟨ "slices.insertionSortCmpFunc[int]",of_decide_eq_true (by kernel_rfl),Eq.trans Go.Proofs.Tryz.func285 (congrArg some (by kernel_rfl))⟩,
    f21:=⟨ "slices.heapSortCmpFunc[int]",of_decide_eq_true (by kernel_rfl),Eq.trans Go.Proofs.Tryz.func286 (congrArg some (by kernel_rfl))⟩,
    f22:=⟨ "slices.breakPatternsCmpFunc[int]",of_decide_eq_true (by kernel_rfl),Eq.trans Go.Proofs.Tryz.func287 (congrArg some (by kernel_rfl))⟩,
    f23:=⟨ "slices.choosePivotCmpFunc[int]",of_decide_eq_true (by kernel_rfl),Eq.trans Go.Proofs.Tryz.func288 (congrArg some (by kernel_rfl))⟩,
    f24:=⟨ "slices.reverseRangeCmpFunc[int]",of_decide_eq_true (by kernel_rfl),Eq.trans Go.Proofs.Tryz.func289 (congrArg some (by kernel_rfl))⟩,
    f25:=⟨ "slices.partialInsertionSortCmpFunc[int]",of_decide_eq_true (by kernel_rfl),Eq.trans Go.Proofs.Tryz.func290 (congrArg some (by kernel_rfl))⟩,
    f26:=⟨ "slices.partitionEqualCmpFunc[int]",of_decide_eq_true (by kernel_rfl),Eq.trans Go.Proofs.Tryz.func291 (congrArg some (by kernel_rfl))⟩,
    f27:=⟨ "slices.partitionCmpFunc[int]",of_decide_eq_true (by kernel_rfl),Eq.trans Go.Proofs.Tryz.func292 (congrArg some (by kernel_rfl))⟩,
    f28:=Eq.trans Go.Proofs.Tryz.func293 (congrArg some (by kernel_rfl)),
    f29:=Eq.trans Go.Proofs.Tryz.func277 (congrArg some (by kernel_rfl)),
    f46:=⟨ "slices.siftDownCmpFunc[int]",of_decide_eq_true (by kernel_rfl),Eq.trans Go.Proofs.Tryz.func301 (congrArg some (by kernel_rfl))⟩,
    f47:=Eq.trans Go.Proofs.Tryz.func302 (congrArg some (by kernel_rfl)),
    f48:=Eq.trans Go.Proofs.Tryz.func303 (congrArg some (by kernel_rfl)),
    f49:=⟨ "slices.medianAdjacentCmpFunc[int]",of_decide_eq_true (by kernel_rfl),Eq.trans Go.Proofs.Tryz.func304 (congrArg some (by kernel_rfl))⟩,
    f50:=⟨ "slices.medianCmpFunc[int]",of_decide_eq_true (by kernel_rfl),Eq.trans Go.Proofs.Tryz.func305 (congrArg some (by kernel_rfl))⟩,
    f57:=⟨ "slices.order2CmpFunc[int]",of_decide_eq_true (by kernel_rfl),Eq.trans Go.Proofs.Tryz.func311 (congrArg some (by kernel_rfl))⟩,
    t0:=Go.Proofs.Tryz.underlying0,
    a0:=Go.Proofs.Tryz.isAgg0,
    z0:=Go.Proofs.Tryz.sizeOf0,
    v0:=Go.Proofs.Tryz.zeroValue0,
    t3:=Go.Proofs.Tryz.underlying3,
    a3:=Go.Proofs.Tryz.isAgg3,
    z3:=Go.Proofs.Tryz.sizeOf3,
    v3:=Go.Proofs.Tryz.zeroValue3,
    t4:=Go.Proofs.Tryz.underlying4,
    a4:=Go.Proofs.Tryz.isAgg4,
    z4:=Go.Proofs.Tryz.sizeOf4,
    v4:=Go.Proofs.Tryz.zeroValue4,
    t5:=Go.Proofs.Tryz.underlying5,
    a5:=Go.Proofs.Tryz.isAgg5,
    z5:=Go.Proofs.Tryz.sizeOf5,
    v5:=Go.Proofs.Tryz.zeroValue5,
    t9:=Go.Proofs.Tryz.underlying9,
    a9:=Go.Proofs.Tryz.isAgg9,
    z9:=Go.Proofs.Tryz.sizeOf9,
    v9:=Go.Proofs.Tryz.zeroValue9,
    t22:=Go.Proofs.Tryz.underlying92,
    a22:=Go.Proofs.Tryz.isAgg92,
    z22:=Go.Proofs.Tryz.sizeOf92,
    v22:=Go.Proofs.Tryz.zeroValue92,
    a24:=Go.Proofs.Tryz.isAgg3,
    z24:=Go.Proofs.Tryz.sizeOf3,
    t25:=Go.Proofs.Tryz.underlying229,
    a25:=Go.Proofs.Tryz.isAgg229,
    z25:=Go.Proofs.Tryz.sizeOf229,
    v25:=Go.Proofs.Tryz.zeroValue229,
    t39:=Go.Proofs.Tryz.underlying230,
    a39:=Go.Proofs.Tryz.isAgg230,
    z39:=Go.Proofs.Tryz.sizeOf230,
    v39:=Go.Proofs.Tryz.zeroValue230,
    t45:=Go.Proofs.Tryz.underlying295,
    a45:=Go.Proofs.Tryz.isAgg295,
    z45:=Go.Proofs.Tryz.sizeOf295,
    v45:=Go.Proofs.Tryz.zeroValue295,
    t46:=Go.Proofs.Tryz.underlying296,
    a46:=Go.Proofs.Tryz.isAgg296,
    z46:=Go.Proofs.Tryz.sizeOf296,
    v46:=Go.Proofs.Tryz.zeroValue296,
    t50:=Go.Proofs.Tryz.underlying217,
    a50:=Go.Proofs.Tryz.isAgg217,
    z50:=Go.Proofs.Tryz.sizeOf217,
    v50:=Go.Proofs.Tryz.zeroValue217,
    t53:=Go.Proofs.Tryz.underlying268,
    a53:=Go.Proofs.Tryz.isAgg268,
    z53:=Go.Proofs.Tryz.sizeOf268,
    v53:=Go.Proofs.Tryz.zeroValue268,
    t55:=Go.Proofs.Tryz.underlying271,
    a55:=Go.Proofs.Tryz.isAgg271,
    z55:=Go.Proofs.Tryz.sizeOf271,
    v55:=Go.Proofs.Tryz.zeroValue271,
    t66:=Go.Proofs.Tryz.underlying307,
    a66:=Go.Proofs.Tryz.isAgg307,
    z66:=Go.Proofs.Tryz.sizeOf307,
    v66:=Go.Proofs.Tryz.zeroValue307,
    t70:=Go.Proofs.Tryz.underlying311,
    a70:=Go.Proofs.Tryz.isAgg311,
    z70:=Go.Proofs.Tryz.sizeOf311,
    v70:=Go.Proofs.Tryz.zeroValue311,
    t76:=Go.Proofs.Tryz.underlying315,
    a76:=Go.Proofs.Tryz.isAgg315,
    z76:=Go.Proofs.Tryz.sizeOf315,
    v76:=Go.Proofs.Tryz.zeroValue315,
    t77:=Go.Proofs.Tryz.underlying158,
    a77:=Go.Proofs.Tryz.isAgg158,
    z77:=Go.Proofs.Tryz.sizeOf158,
    v77:=Go.Proofs.Tryz.zeroValue158 }
end Gx
end
section
open Go Go.Kx Go.Proofs
namespace Gx
set_option maxRecDepth 20000
def Zoh:Go.Shelf.Ren:=⟨fun x=>match x with
  | 171=>65
  | 243=>138
  | 246=>215
  | 283=>256
  | 284=>257
  | 285=>258
  | 286=>259
  | 129=>277
  | 317=>276
  | 318=>278
  | 319=>279
  | 320=>280
  | 337=>295
  | 338=>296
  | n=>n,fun x=>match x with
  | 3=>3
  | 9=>9
  | 2=>2
  | 4=>4
  | 171=>275
  | 0=>0
  | 53=>271
  | 37=>130
  | 5=>5
  | 173=>278
  | 212=>291
  | 51=>268
  | 20=>20
  | 213=>292
  | 46=>230
  | 232=>313
  | 233=>314
  | n=>n,fun x=>match x with
  | 17=>1
  | 18=>2
  | 19=>3
  | n=>n⟩
theorem Zkl:Go.Proofs.LaysM.n171 Go.Proofs.Tryz.prog Zoh :=
  { mixed:=by kernel_rfl,
    f129:=Eq.trans Go.Proofs.Tryz.func277 (congrArg some (by kernel_rfl)),
    f171:=Eq.trans Go.Proofs.Tryz.func65 (congrArg some (by kernel_rfl)),
    f243:=Eq.trans Go.Proofs.Tryz.func138 (congrArg some (by kernel_rfl)),
    f246:=Eq.trans Go.Proofs.Tryz.func215 (congrArg some (by kernel_rfl)),
    f283:=Eq.trans Go.Proofs.Tryz.func256 (congrArg some (by kernel_rfl)),
    f284:=Eq.trans Go.Proofs.Tryz.func257 (congrArg some (by kernel_rfl)),
    f285:=Eq.trans Go.Proofs.Tryz.func258 (congrArg some (by kernel_rfl)),
    f286:=Eq.trans Go.Proofs.Tryz.func259 (congrArg some (by kernel_rfl)),
    f317:=Eq.trans Go.Proofs.Tryz.func276 (congrArg some (by kernel_rfl)),
    f318:=Eq.trans Go.Proofs.Tryz.func278 (congrArg some (by kernel_rfl)),
    f319:=Eq.trans Go.Proofs.Tryz.func279 (congrArg some (by kernel_rfl)),
    f320:=Eq.trans Go.Proofs.Tryz.func280 (congrArg some (by kernel_rfl)),
    f337:=Eq.trans Go.Proofs.Tryz.func295 (congrArg some (by kernel_rfl)),
    f338:=Eq.trans Go.Proofs.Tryz.func296 (congrArg some (by kernel_rfl)),
    t0:=Go.Proofs.Tryz.underlying0,
    a0:=Go.Proofs.Tryz.isAgg0,
    z0:=Go.Proofs.Tryz.sizeOf0,
    v0:=Go.Proofs.Tryz.zeroValue0,
    t2:=Go.Proofs.Tryz.underlying2,
    a2:=Go.Proofs.Tryz.isAgg2,
    z2:=Go.Proofs.Tryz.sizeOf2,
    v2:=Go.Proofs.Tryz.zeroValue2,
    t3:=Go.Proofs.Tryz.underlying3,
    a3:=Go.Proofs.Tryz.isAgg3,
    z3:=Go.Proofs.Tryz.sizeOf3,
    v3:=Go.Proofs.Tryz.zeroValue3,
    t4:=Go.Proofs.Tryz.underlying4,
    a4:=Go.Proofs.Tryz.isAgg4,
    z4:=Go.Proofs.Tryz.sizeOf4,
    v4:=Go.Proofs.Tryz.zeroValue4,
    t5:=Go.Proofs.Tryz.underlying5,
    a5:=Go.Proofs.Tryz.isAgg5,
    z5:=Go.Proofs.Tryz.sizeOf5,
    v5:=Go.Proofs.Tryz.zeroValue5,
    t9:=Go.Proofs.Tryz.underlying9,
    a9:=Go.Proofs.Tryz.isAgg9,
    z9:=Go.Proofs.Tryz.sizeOf9,
    v9:=Go.Proofs.Tryz.zeroValue9,
    t20:=Go.Proofs.Tryz.underlying20,
    a20:=Go.Proofs.Tryz.isAgg20,
    z20:=Go.Proofs.Tryz.sizeOf20,
    v20:=Go.Proofs.Tryz.zeroValue20,
    t37:=Go.Proofs.Tryz.underlying130,
    a37:=Go.Proofs.Tryz.isAgg130,
    z37:=Go.Proofs.Tryz.sizeOf130,
    v37:=Go.Proofs.Tryz.zeroValue130,
    t46:=Go.Proofs.Tryz.underlying230,
    a46:=Go.Proofs.Tryz.isAgg230,
    z46:=Go.Proofs.Tryz.sizeOf230,
    v46:=Go.Proofs.Tryz.zeroValue230,
    t51:=Go.Proofs.Tryz.underlying268,
    a51:=Go.Proofs.Tryz.isAgg268,
    z51:=Go.Proofs.Tryz.sizeOf268,
    v51:=Go.Proofs.Tryz.zeroValue268,
    t53:=Go.Proofs.Tryz.underlying271,
    a53:=Go.Proofs.Tryz.isAgg271,
    z53:=Go.Proofs.Tryz.sizeOf271,
    v53:=Go.Proofs.Tryz.zeroValue271,
    t171:=Go.Proofs.Tryz.underlying275,
    a171:=Go.Proofs.Tryz.isAgg275,
    z171:=Go.Proofs.Tryz.sizeOf275,
    v171:=Go.Proofs.Tryz.zeroValue275,
    t173:=Go.Proofs.Tryz.underlying278,
    a173:=Go.Proofs.Tryz.isAgg278,
    z173:=Go.Proofs.Tryz.sizeOf278,
    v173:=Go.Proofs.Tryz.zeroValue278,
    t212:=Go.Proofs.Tryz.underlying291,
    a212:=Go.Proofs.Tryz.isAgg291,
    z212:=Go.Proofs.Tryz.sizeOf291,
    v212:=Go.Proofs.Tryz.zeroValue291,
    t213:=Go.Proofs.Tryz.underlying292,
    a213:=Go.Proofs.Tryz.isAgg292,
    z213:=Go.Proofs.Tryz.sizeOf292,
    t232:=Go.Proofs.Tryz.underlying313,
    a232:=Go.Proofs.Tryz.isAgg313,
    z232:=Go.Proofs.Tryz.sizeOf313,
    v232:=Go.Proofs.Tryz.zeroValue313,
    t233:=Go.Proofs.Tryz.underlying314,
    a233:=Go.Proofs.Tryz.isAgg314,
    z233:=Go.Proofs.Tryz.sizeOf314,
    v233:=Go.Proofs.Tryz.zeroValue314,
    g17:=by kernel_rfl,
    g18:=by kernel_rfl,
    g19:=by kernel_rfl,
    i0:=by kernel_rfl,
    i2:=by kernel_rfl,
    i3:=by kernel_rfl,
    i4:=by kernel_rfl,
    i5:=by kernel_rfl,
    i9:=by kernel_rfl,
    i20:=by kernel_rfl,
    i37:=by kernel_rfl,
    i46:=by kernel_rfl,
    i51:=by kernel_rfl,
    i53:=by kernel_rfl,
    i171:=by kernel_rfl,
    i173:=by kernel_rfl,
    i212:=by kernel_rfl,
    i232:=by kernel_rfl,
    i233:=by kernel_rfl,
    m17:=by kernel_rfl,
    m18:=by kernel_rfl,
    m19:=by kernel_rfl }
instance LxT:LxP:=⟨True⟩
theorem ZjC:∀ (f u:Nat),u < 10 ^ (f+1)→Vm (f+1) u=Go.Lib.decDigits u:=by
  intro f
  induction f with
  | zero =>
    intro u h
    have h:u < 10:=by simpa using h
    rw [Go.Lib.decDigits,dif_pos h]
    unfold Vm
    have:Nat.blt u 10=true:=by unfold Nat.blt;exact Nat.ble_eq_true_of_le h
    rw [this];rfl
  | succ f ih =>
    intro u h
    rw [Go.Lib.decDigits]
    unfold Vm
    by_cases c:u < 10
    · rw [dif_pos c]
      have:Nat.blt u 10=true:=by unfold Nat.blt;exact Nat.ble_eq_true_of_le c
      rw [this];rfl
    · rw [dif_neg c]
      have:Nat.blt u 10=false:=by
        cases hb:Nat.blt u 10 with
        | false=>rfl
        | true=>exact absurd (Z3 hb) c
      rw [this,cond_false,ih (u / 10) (by rw [Nat.pow_succ] at h;omega)]
theorem Zkj (n:Int) (h0:-9223372036854775808≤n) (h1:n≤9223372036854775807):XE n=⟨(Go.Lib.itoa n).toArray⟩:=by
  unfold XE Go.Lib.itoa
  by_cases c:n < 0
  · rw [decide_eq_true c,if_pos c,cond_true,ZjC 24 _ (by omega)]
  · rw [decide_eq_false c,if_neg c,cond_false,ZjC 24 _ (by omega)]
abbrev powT:Mx:=ZjX Tryz.prog 1 "internal/strconv.uint64pow10" .u64 Go.Lib.pow10Tab
/-- A number's numeral: the text of the library, walked once for all. -/
theorem ZsO (n:Int) (h0:-9223372036854775808≤n) (h1:n≤9223372036854775807):Fn Tryz.prog 65 ⟨1,[.c (.i .i64 n)],[],[(0,.abs powT)],1,.c (.s (XE n)),[],[(0,.abs powT)]⟩:=by
  refine ⟨⟨Tryz.f65,Tryz.func65,rfl,rfl⟩,fun E F w hp=>?_⟩
  have hT:F 1∧Tryz.prog.globalNamed "internal/strconv.uint64pow10"=some 1∧Go.Lib.TabIs Tryz.prog w "internal/strconv.uint64pow10" .u64 Go.Lib.pow10Tab:=hp.M 0 (.abs powT) rfl
  refine (Any.strconv_Itoa Zkl n h0 h1 w hT.2.2).mono ?_
  rintro e w' ⟨rfl,k,os,rfl⟩
  have hold:∀ b,b < w.heap.size→(Go.Sort.grow (w.drewN k) os).heap[b]? = w.heap[b]? := fun b hb=>Go.Sort.heap_grow_old (w.drewN k) os hb
  have hsz:w.heap.size≤(Go.Sort.grow (w.drewN k) os).heap.size:=by
    show w.heap.size≤(w.heap++os).size
    simp
  refine ⟨E,F,by rw [Zkj n h0 h1];rfl,{
    env:=fun k hk=>⟨rfl,rfl⟩
    one:=hp.one
    V:=fun k f h=>(nomatch h)
    M:=fun k m h=>by
      rw [ZQ] at h
      split at h
      · cases h
        exact powT.mono (F:=F) (w:=w) ⟨fun _ h=>h,fun b hb=>hold b (hp.hF b hb)⟩ (fun b h=>h.elim) hT
      · cases h
    dis:=fun k k' m m' h h' hne=>by
      rw [ZQ] at h
      split at h
      · cases h;exact fun b hb=>hb.elim
      · cases h
    mF:=fun k m h b hb=>by
      rw [ZQ] at h
      split at h
      · cases h;exact hb.elim
      · cases h
    fresh:=fun k m h hf b hb=>by
      rw [ZQ] at h
      split at h
      · cases h;exact hb.elim
      · cases h
    F0:=fun _ h=>h
    F1:=fun _ h=>.inl h
    Fs:=fun b h=>Nat.lt_of_lt_of_le (hp.hF b h) (hsz)
    ext:=⟨rfl,rfl,⟨rfl,.inl trivial⟩,hsz,fun b hb=>hold b hb.1⟩ }⟩
end Gx
end
section
open Go Go.Kx Go.Proofs
namespace Gx
set_option maxRecDepth 20000
def ZjM:Go.Shelf.Ren:=⟨fun x=>match x with
  | 156=>40
  | 165=>75
  | 166=>76
  | 169=>77
  | 240=>153
  | 241=>154
  | 276=>223
  | 277=>224
  | n=>n,fun x=>match x with
  | 31=>22
  | 9=>9
  | 3=>3
  | 4=>4
  | 0=>0
  | 20=>20
  | 72=>132
  | 76=>136
  | 70=>129
  | 37=>130
  | 75=>135
  | 127=>207
  | 164=>247
  | 5=>5
  | 80=>138
  | n=>n,fun x=>x⟩
theorem ZiA:Go.Proofs.Lays.n156 Go.Proofs.Tryz.prog ZjM :=
  { mixed:=by kernel_rfl,
    f156:=Eq.trans Go.Proofs.Tryz.func40 (congrArg some (by kernel_rfl)),
    f165:=Eq.trans Go.Proofs.Tryz.func75 (congrArg some (by kernel_rfl)),
    f166:=Eq.trans Go.Proofs.Tryz.func76 (congrArg some (by kernel_rfl)),
    f169:=Eq.trans Go.Proofs.Tryz.func77 (congrArg some (by kernel_rfl)),
    f240:=Eq.trans Go.Proofs.Tryz.func153 (congrArg some (by kernel_rfl)),
    f241:=Eq.trans Go.Proofs.Tryz.func154 (congrArg some (by kernel_rfl)),
    f276:=Eq.trans Go.Proofs.Tryz.func223 (congrArg some (by kernel_rfl)),
    f277:=Eq.trans Go.Proofs.Tryz.func224 (congrArg some (by kernel_rfl)),
    t0:=Go.Proofs.Tryz.underlying0,
    a0:=Go.Proofs.Tryz.isAgg0,
    z0:=Go.Proofs.Tryz.sizeOf0,
    v0:=Go.Proofs.Tryz.zeroValue0,
    t3:=Go.Proofs.Tryz.underlying3,
    a3:=Go.Proofs.Tryz.isAgg3,
    z3:=Go.Proofs.Tryz.sizeOf3,
    v3:=Go.Proofs.Tryz.zeroValue3,
    t4:=Go.Proofs.Tryz.underlying4,
    a4:=Go.Proofs.Tryz.isAgg4,
    z4:=Go.Proofs.Tryz.sizeOf4,
    v4:=Go.Proofs.Tryz.zeroValue4,
    t9:=Go.Proofs.Tryz.underlying9,
    a9:=Go.Proofs.Tryz.isAgg9,
    z9:=Go.Proofs.Tryz.sizeOf9,
    v9:=Go.Proofs.Tryz.zeroValue9,
    t20:=Go.Proofs.Tryz.underlying20,
    a20:=Go.Proofs.Tryz.isAgg20,
    z20:=Go.Proofs.Tryz.sizeOf20,
    v20:=Go.Proofs.Tryz.zeroValue20,
    t31:=Go.Proofs.Tryz.underlying22,
    a31:=Go.Proofs.Tryz.isAgg22,
    z31:=Go.Proofs.Tryz.sizeOf22,
    v31:=Go.Proofs.Tryz.zeroValue22,
    t37:=Go.Proofs.Tryz.underlying130,
    a37:=Go.Proofs.Tryz.isAgg130,
    z37:=Go.Proofs.Tryz.sizeOf130,
    v37:=Go.Proofs.Tryz.zeroValue130,
    t70:=Go.Proofs.Tryz.underlying129,
    a70:=Go.Proofs.Tryz.isAgg129,
    z70:=Go.Proofs.Tryz.sizeOf129,
    v70:=Go.Proofs.Tryz.zeroValue129,
    t72:=Go.Proofs.Tryz.underlying132,
    a72:=Go.Proofs.Tryz.isAgg132,
    z72:=Go.Proofs.Tryz.sizeOf132,
    v72:=Go.Proofs.Tryz.zeroValue132,
    t75:=Go.Proofs.Tryz.underlying135,
    a75:=Go.Proofs.Tryz.isAgg135,
    z75:=Go.Proofs.Tryz.sizeOf135,
    v75:=Go.Proofs.Tryz.zeroValue135,
    t76:=Go.Proofs.Tryz.underlying136,
    a76:=Go.Proofs.Tryz.isAgg136,
    z76:=Go.Proofs.Tryz.sizeOf136,
    v76:=Go.Proofs.Tryz.zeroValue136,
    t127:=Go.Proofs.Tryz.underlying207,
    a127:=Go.Proofs.Tryz.isAgg207,
    z127:=Go.Proofs.Tryz.sizeOf207,
    v127:=Go.Proofs.Tryz.zeroValue207,
    t164:=Go.Proofs.Tryz.underlying247,
    a164:=Go.Proofs.Tryz.isAgg247,
    z164:=Go.Proofs.Tryz.sizeOf247,
    v164:=Go.Proofs.Tryz.zeroValue247 }
theorem Zgk:Builder.Extra Tryz.prog ZjM where
  sizeBuilder:=by kernel_rfl
  liesBuilder:=by kernel_rfl
  t5:=Tryz.underlying5
  a5:=Tryz.isAgg5
  z5:=Tryz.sizeOf5
  v5:=Tryz.zeroValue5
  infoByte:=by kernel_rfl
  cellsByte:=by kernel_rfl
  sizeByte:=by kernel_rfl
  neB5:=by decide
theorem Zs3 (sep:List UInt8):∀ xs:List (List UInt8),Xr sep xs=Go.Lib.join xs sep
  | []=>rfl
  | x::r=>(Go.Lib.join_cons x r sep).symm
/-- Texts, one behind the other: the text of the library, walked once for all. -/
theorem ZnM (xs:List ByteArray) (sep:ByteArray) (hN:xs.length≤140737488355328) (hlen:(Xr sep.data.toList (xs.map (·.data.toList))).length≤140737488355328) :
    Fn Tryz.prog 40 ⟨1,[.c (.sl 0),.c (.s sep)],[(0,.sl rS xs)],[],1,.c (.s ⟨(Xr sep.data.toList (xs.map (·.data.toList))).toArray⟩),[],[]⟩:=by
  refine ⟨⟨Tryz.f40,Tryz.func40,rfl,rfl⟩,fun E F w hp=>?_⟩
  have hV:=hp.V 0 (.sl rS xs) rfl
  have key:Calls Tryz.prog 40 #[E.ρ 0,.string sep] w fun e w'=>e=.returned (.string ⟨(Xr sep.data.toList (xs.map (·.data.toList))).toArray⟩)∧Go.RowKit.Below w.heap.size w w':=by
    rw [Zs3] at hlen ⊢
    rcases hV with ⟨rfl,a,c,hv⟩ | ⟨b,off,cap,arr,el,fz,hv,hc,hF,hh,hr⟩
    · rw [hv]
      refine (Any.strings_Join_none ZiA Zgk a c sep w).mono ?_
      rintro e w' ⟨rfl,rfl⟩
      exact ⟨rfl,Go.RowKit.Below.refl _ _⟩
    · rw [hv]
      refine Any.strings_Join ZiA Zgk b off cap xs sep w (fun j x hx=>?_) (hp.hF b hF) hN hc hlen
      obtain ⟨vs,hvs,hrow⟩:=hr j x hx
      have hvs:vs=[.string x]:=hvs
      subst hvs
      have:=hrow 0 (.string x) rfl
      unfold World.cell?
      rw [hh]
      simpa [rS] using this
  refine key.mono ?_
  rintro e w' ⟨rfl,hb⟩
  exact ⟨E,F,rfl,{
    env:=fun k hk=>⟨rfl,rfl⟩
    one:=hp.one
    V:=fun k f h=>(nomatch h)
    M:=fun k m h=>(nomatch h)
    dis:=fun k k' m m' h=>(nomatch h)
    mF:=fun k m h=>(nomatch h)
    fresh:=fun k m h=>(nomatch h)
    F0:=fun _ h=>h
    F1:=fun _ h=>.inl h
    Fs:=fun b h=>Nat.lt_of_lt_of_le (hp.hF b h) hb.size
    ext:=⟨hb.os,hb.tape,⟨hb.output,.inl trivial⟩,hb.size,fun b hz=>hb.block b hz.1⟩ }⟩
end Gx
end
section
open Go Go.Kx Go.Proofs
namespace Gx
set_option maxRecDepth 20000
def ZgT:Go.Shelf.Ren:=⟨fun x=>match x with
  | 105=>113
  | 212=>201
  | 99=>202
  | 165=>75
  | 166=>76
  | 170=>203
  | 169=>77
  | 263=>251
  | 264=>252
  | 206=>253
  | 240=>153
  | 241=>154
  | 276=>223
  | 277=>224
  | n=>n,fun x=>match x with
  | 9=>9
  | 3=>3
  | 4=>4
  | 20=>20
  | 0=>0
  | 46=>230
  | 109=>231
  | 5=>5
  | 72=>132
  | 76=>136
  | 51=>268
  | 146=>269
  | 53=>271
  | 148=>272
  | 70=>129
  | 37=>130
  | 75=>135
  | 127=>207
  | 164=>247
  | 80=>138
  | n=>n,fun x=>x⟩
theorem rpLays:Go.Proofs.Lays.n105 Go.Proofs.Tryz.prog ZgT :=
  { mixed:=by kernel_rfl,
    f99:=Eq.trans Go.Proofs.Tryz.func202 (congrArg some (by kernel_rfl)),
    f105:=Eq.trans Go.Proofs.Tryz.func113 (congrArg some (by kernel_rfl)),
    f165:=Eq.trans Go.Proofs.Tryz.func75 (congrArg some (by kernel_rfl)),
    f166:=Eq.trans Go.Proofs.Tryz.func76 (congrArg some (by kernel_rfl)),
    f169:=Eq.trans Go.Proofs.Tryz.func77 (congrArg some (by kernel_rfl)),
    f170:=Eq.trans Go.Proofs.Tryz.func203 (congrArg some (by kernel_rfl)),
    f206:=Eq.trans Go.Proofs.Tryz.func253 (congrArg some (by kernel_rfl)),
    f212:=Eq.trans Go.Proofs.Tryz.func201 (congrArg some (by kernel_rfl)),
    f240:=Eq.trans Go.Proofs.Tryz.func153 (congrArg some (by kernel_rfl)),
    f241:=Eq.trans Go.Proofs.Tryz.func154 (congrArg some (by kernel_rfl)),
    f263:=Eq.trans Go.Proofs.Tryz.func251 (congrArg some (by kernel_rfl)),
    f264:=Eq.trans Go.Proofs.Tryz.func252 (congrArg some (by kernel_rfl)),
    f276:=Eq.trans Go.Proofs.Tryz.func223 (congrArg some (by kernel_rfl)),
    f277:=Eq.trans Go.Proofs.Tryz.func224 (congrArg some (by kernel_rfl)),
    t0:=Go.Proofs.Tryz.underlying0,
    a0:=Go.Proofs.Tryz.isAgg0,
    z0:=Go.Proofs.Tryz.sizeOf0,
    v0:=Go.Proofs.Tryz.zeroValue0,
    t3:=Go.Proofs.Tryz.underlying3,
    a3:=Go.Proofs.Tryz.isAgg3,
    z3:=Go.Proofs.Tryz.sizeOf3,
    v3:=Go.Proofs.Tryz.zeroValue3,
    t4:=Go.Proofs.Tryz.underlying4,
    a4:=Go.Proofs.Tryz.isAgg4,
    z4:=Go.Proofs.Tryz.sizeOf4,
    v4:=Go.Proofs.Tryz.zeroValue4,
    t5:=Go.Proofs.Tryz.underlying5,
    a5:=Go.Proofs.Tryz.isAgg5,
    z5:=Go.Proofs.Tryz.sizeOf5,
    v5:=Go.Proofs.Tryz.zeroValue5,
    t9:=Go.Proofs.Tryz.underlying9,
    a9:=Go.Proofs.Tryz.isAgg9,
    z9:=Go.Proofs.Tryz.sizeOf9,
    v9:=Go.Proofs.Tryz.zeroValue9,
    t20:=Go.Proofs.Tryz.underlying20,
    a20:=Go.Proofs.Tryz.isAgg20,
    z20:=Go.Proofs.Tryz.sizeOf20,
    v20:=Go.Proofs.Tryz.zeroValue20,
    t37:=Go.Proofs.Tryz.underlying130,
    a37:=Go.Proofs.Tryz.isAgg130,
    z37:=Go.Proofs.Tryz.sizeOf130,
    v37:=Go.Proofs.Tryz.zeroValue130,
    t46:=Go.Proofs.Tryz.underlying230,
    a46:=Go.Proofs.Tryz.isAgg230,
    z46:=Go.Proofs.Tryz.sizeOf230,
    v46:=Go.Proofs.Tryz.zeroValue230,
    t51:=Go.Proofs.Tryz.underlying268,
    a51:=Go.Proofs.Tryz.isAgg268,
    z51:=Go.Proofs.Tryz.sizeOf268,
    v51:=Go.Proofs.Tryz.zeroValue268,
    t53:=Go.Proofs.Tryz.underlying271,
    a53:=Go.Proofs.Tryz.isAgg271,
    z53:=Go.Proofs.Tryz.sizeOf271,
    v53:=Go.Proofs.Tryz.zeroValue271,
    t70:=Go.Proofs.Tryz.underlying129,
    a70:=Go.Proofs.Tryz.isAgg129,
    z70:=Go.Proofs.Tryz.sizeOf129,
    v70:=Go.Proofs.Tryz.zeroValue129,
    t72:=Go.Proofs.Tryz.underlying132,
    a72:=Go.Proofs.Tryz.isAgg132,
    z72:=Go.Proofs.Tryz.sizeOf132,
    v72:=Go.Proofs.Tryz.zeroValue132,
    t75:=Go.Proofs.Tryz.underlying135,
    a75:=Go.Proofs.Tryz.isAgg135,
    z75:=Go.Proofs.Tryz.sizeOf135,
    v75:=Go.Proofs.Tryz.zeroValue135,
    t76:=Go.Proofs.Tryz.underlying136,
    a76:=Go.Proofs.Tryz.isAgg136,
    z76:=Go.Proofs.Tryz.sizeOf136,
    v76:=Go.Proofs.Tryz.zeroValue136,
    t109:=Go.Proofs.Tryz.underlying231,
    a109:=Go.Proofs.Tryz.isAgg231,
    z109:=Go.Proofs.Tryz.sizeOf231,
    v109:=Go.Proofs.Tryz.zeroValue231,
    t127:=Go.Proofs.Tryz.underlying207,
    a127:=Go.Proofs.Tryz.isAgg207,
    z127:=Go.Proofs.Tryz.sizeOf207,
    v127:=Go.Proofs.Tryz.zeroValue207,
    t146:=Go.Proofs.Tryz.underlying269,
    a146:=Go.Proofs.Tryz.isAgg269,
    z146:=Go.Proofs.Tryz.sizeOf269,
    v146:=Go.Proofs.Tryz.zeroValue269,
    t148:=Go.Proofs.Tryz.underlying272,
    a148:=Go.Proofs.Tryz.isAgg272,
    z148:=Go.Proofs.Tryz.sizeOf272,
    v148:=Go.Proofs.Tryz.zeroValue272,
    t164:=Go.Proofs.Tryz.underlying247,
    a164:=Go.Proofs.Tryz.isAgg247,
    z164:=Go.Proofs.Tryz.sizeOf247,
    v164:=Go.Proofs.Tryz.zeroValue247 }
theorem Zpz:Builder.Extra Tryz.prog ZgT where
  sizeBuilder:=by kernel_rfl
  liesBuilder:=by kernel_rfl
  t5:=rpLays.t5
  a5:=rpLays.a5
  z5:=rpLays.z5
  v5:=rpLays.v5
  infoByte:=by kernel_rfl
  cellsByte:=by kernel_rfl
  sizeByte:=by kernel_rfl
  neB5:=by decide
/-- So many copies of a text: the text of the library, walked once for all. -/
theorem ZoV (s:ByteArray) (c:Nat) (hc:c≤9223372036854775807) (hlen:s.size * c≤140737488355328):Fn Tryz.prog 113 ⟨0,[.c (.s s),.c (.i .i64 (c:Int))],[],[],0,.c (.s ⟨(Go.Lib.repeatL s.data.toList c).toArray⟩),[],[]⟩:=by
  refine ⟨⟨Tryz.f113,Tryz.func113,rfl,rfl⟩,fun E F w hp=>?_⟩
  refine (Any.strings_Repeat rpLays Zpz s c w hc hlen).mono ?_
  rintro e w' ⟨rfl,hb⟩
  exact ⟨E,F,rfl,{
    env:=fun k hk=>absurd hk (Nat.not_lt_zero k)
    one:=hp.one
    V:=fun k f h=>(nomatch h)
    M:=fun k m h=>(nomatch h)
    dis:=fun k k' m m' h=>(nomatch h)
    mF:=fun k m h=>(nomatch h)
    fresh:=fun k m h=>(nomatch h)
    F0:=fun _ h=>h
    F1:=fun _ h=>.inl h
    Fs:=fun b h=>Nat.lt_of_lt_of_le (hp.hF b h) hb.size
    ext:=⟨hb.os,hb.tape,⟨hb.output,.inl trivial⟩,hb.size,fun b hz=>hb.block b hz.1⟩ }⟩
end Gx
end
