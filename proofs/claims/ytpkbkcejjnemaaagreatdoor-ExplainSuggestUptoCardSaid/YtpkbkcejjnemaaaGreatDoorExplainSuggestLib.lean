/- Functions of the library, by the contracts that are proved once for all programs. -/
import Derived.Shelf.SlSortCmp.NoneTotal
import Derived.Shelf.Strconv.Itoa3
import Derived.Shelf.Strings.OnBuilder
import Derived.Shelf.Strings.Repeat
import Derived.Test.YtpkbkcejjnemaaaGreatDoorProg
import Derived.Test.YtpkbkcejjnemaaaGreatDoorExplainSuggestPure
set_option linter.all false
section
open Go Go.Kx Go.Proofs
namespace Gx
set_option maxRecDepth 20000
def Zsi:Go.Shelf.Ren:=⟨fun x=>match x with
  | 6=>174
  | 15=>221
  | 14=>220
  | 28=>252
  | 29=>253
  | 20=>244
  | 21=>245
  | 22=>246
  | 23=>247
  | 24=>248
  | 25=>249
  | 26=>250
  | 27=>251
  | 46=>264
  | 47=>265
  | 48=>266
  | 49=>267
  | 50=>268
  | 57=>275
  | n=>n,fun x=>match x with
  | 22=>84
  | 24=>3
  | 25=>184
  | 3=>3
  | 39=>185
  | 0=>0
  | 53=>231
  | 55=>234
  | 4=>4
  | 46=>274
  | 45=>273
  | 50=>242
  | 5=>5
  | 9=>9
  | 66=>287
  | 70=>291
  | 76=>294
  | 77=>203
  | n=>n,fun x=>x⟩
theorem Zsh:Go.Proofs.SlLaysF.n6 Go.Proofs.Tryz.prog Zsi :=
  { mixed:=by kernel_rfl,
    f6:=⟨ "slices.SortFunc[[]int,int]",of_decide_eq_true (by kernel_rfl),Eq.trans Go.Proofs.Tryz.func174 (congrArg some (by kernel_rfl))⟩,
    f14:=⟨ "slices.pdqsortCmpFunc[int]",of_decide_eq_true (by kernel_rfl),Eq.trans Go.Proofs.Tryz.func220 (congrArg some (by kernel_rfl))⟩,
    f15:=Eq.trans Go.Proofs.Tryz.func221 (congrArg some (by kernel_rfl)),
    f20:=⟨ "slices.insertionSortCmpFunc[int]",of_decide_eq_true (by kernel_rfl),Eq.trans Go.Proofs.Tryz.func244 (congrArg some (by kernel_rfl))⟩,
    f21:=⟨ "slices.heapSortCmpFunc[int]",of_decide_eq_true (by kernel_rfl),Eq.trans Go.Proofs.Tryz.func245 (congrArg some (by kernel_rfl))⟩,
    f22:=⟨ "slices.breakPatternsCmpFunc[int]",of_decide_eq_true (by kernel_rfl),Eq.trans Go.Proofs.Tryz.func246 (congrArg some (by kernel_rfl))⟩,
    f23:=⟨ "slices.choosePivotCmpFunc[int]",of_decide_eq_true (by kernel_rfl),Eq.trans Go.Proofs.Tryz.func247 (congrArg some (by kernel_rfl))⟩,
    f24:=⟨ "slices.reverseRangeCmpFunc[int]",of_decide_eq_true (by kernel_rfl),Eq.trans Go.Proofs.Tryz.func248 (congrArg some (by kernel_rfl))⟩,
    f25:=⟨ "slices.partialInsertionSortCmpFunc[int]",of_decide_eq_true (by kernel_rfl),Eq.trans Go.Proofs.Tryz.func249 (congrArg some (by kernel_rfl))⟩,
    f26:=⟨ "slices.partitionEqualCmpFunc[int]",of_decide_eq_true (by kernel_rfl),Eq.trans Go.Proofs.Tryz.func250 (congrArg some (by kernel_rfl))⟩,
    f27:=⟨ "slices.partitionCmpFunc[int]",of_decide_eq_true (by kernel_rfl),Eq.trans Go.Proofs.Tryz.func251 (congrArg some (by kernel_rfl))⟩,
    f28:=Eq.trans Go.Proofs.Tryz.func252 (congrArg some (by kernel_rfl)),
    f29:=Eq.trans Go.Proofs.Tryz.func253 (congrArg some (by kernel_rfl)),
    f46:=⟨ "slices.siftDownCmpFunc[int]",of_decide_eq_true (by kernel_rfl),Eq.trans Go.Proofs.Tryz.func264 (congrArg some (by kernel_rfl))⟩,
    f47:=Eq.trans Go.Proofs.Tryz.func265 (congrArg some (by kernel_rfl)),
    f48:=Eq.trans Go.Proofs.Tryz.func266 (congrArg some (by kernel_rfl)),
    f49:=⟨ "slices.medianAdjacentCmpFunc[int]",of_decide_eq_true (by kernel_rfl),Eq.trans Go.Proofs.Tryz.func267 (congrArg some (by kernel_rfl))⟩,
    f50:=⟨ "slices.medianCmpFunc[int]",of_decide_eq_true (by kernel_rfl),Eq.trans Go.Proofs.Tryz.func268 (congrArg some (by kernel_rfl))⟩,
    f57:=⟨ "slices.order2CmpFunc[int]",of_decide_eq_true (by kernel_rfl),Eq.trans Go.Proofs.Tryz.func275 (congrArg some (by kernel_rfl))⟩,
    t0:=Go.Proofs.Tryz.underlying0,
    a0:=Go.Proofs.Tryz.isAgg0,
    z0:=Go.Proofs.Tryz.sizeOf0,
    v0:=Go.Proofs.Tryz.zeroValue0,
    t3:=Go.Proofs.Tryz.underlying3,
    a3:=Go.Proofs.Tryz.isAgg3,
    z3:=Go.Proofs.Tryz.sizeOf3,
    v3:=Go.Proofs.Tryz.zeroValue3,
    t4:=Go.Proofs.Tryz.underlying4,
    a4:=Go.Proofs.Tryz.isAgg4,
    z4:=Go.Proofs.Tryz.sizeOf4,
    v4:=Go.Proofs.Tryz.zeroValue4,
    t5:=Go.Proofs.Tryz.underlying5,
    a5:=Go.Proofs.Tryz.isAgg5,
    z5:=Go.Proofs.Tryz.sizeOf5,
    v5:=Go.Proofs.Tryz.zeroValue5,
    t9:=Go.Proofs.Tryz.underlying9,
    a9:=Go.Proofs.Tryz.isAgg9,
    z9:=Go.Proofs.Tryz.sizeOf9,
    v9:=Go.Proofs.Tryz.zeroValue9,
    t22:=Go.Proofs.Tryz.underlying84,
    a22:=Go.Proofs.Tryz.isAgg84,
    z22:=Go.Proofs.Tryz.sizeOf84,
    v22:=Go.Proofs.Tryz.zeroValue84,
    a24:=Go.Proofs.Tryz.isAgg3,
    z24:=Go.Proofs.Tryz.sizeOf3,
    t25:=Go.Proofs.Tryz.underlying184,
    a25:=Go.Proofs.Tryz.isAgg184,
    z25:=Go.Proofs.Tryz.sizeOf184,
    v25:=Go.Proofs.Tryz.zeroValue184,
    t39:=Go.Proofs.Tryz.underlying185,
    a39:=Go.Proofs.Tryz.isAgg185,
    z39:=Go.Proofs.Tryz.sizeOf185,
    v39:=Go.Proofs.Tryz.zeroValue185,
    t45:=Go.Proofs.Tryz.underlying273,
    a45:=Go.Proofs.Tryz.isAgg273,
    z45:=Go.Proofs.Tryz.sizeOf273,
    v45:=Go.Proofs.Tryz.zeroValue273,
    t46:=Go.Proofs.Tryz.underlying274,
    a46:=Go.Proofs.Tryz.isAgg274,
    z46:=Go.Proofs.Tryz.sizeOf274,
    v46:=Go.Proofs.Tryz.zeroValue274,
    t50:=Go.Proofs.Tryz.underlying242,
    a50:=Go.Proofs.Tryz.isAgg242,
    z50:=Go.Proofs.Tryz.sizeOf242,
    v50:=Go.Proofs.Tryz.zeroValue242,
    t53:=Go.Proofs.Tryz.underlying231,
    a53:=Go.Proofs.Tryz.isAgg231,
    z53:=Go.Proofs.Tryz.sizeOf231,
    v53:=Go.Proofs.Tryz.zeroValue231,
    t55:=Go.Proofs.Tryz.underlying234,
    a55:=Go.Proofs.Tryz.isAgg234,
    z55:=Go.Proofs.Tryz.sizeOf234,
    v55:=Go.Proofs.Tryz.zeroValue234,
    t66:=Go.Proofs.Tryz.underlying287,
    a66:=Go.Proofs.Tryz.isAgg287,
    z66:=Go.Proofs.Tryz.sizeOf287,
    v66:=Go.Proofs.Tryz.zeroValue287,
    t70:=Go.Proofs.Tryz.underlying291,
    a70:=Go.Proofs.Tryz.isAgg291,
    z70:=Go.Proofs.Tryz.sizeOf291,
    v70:=Go.Proofs.Tryz.zeroValue291,
    t76:=Go.Proofs.Tryz.underlying294,
    a76:=Go.Proofs.Tryz.isAgg294,
    z76:=Go.Proofs.Tryz.sizeOf294,
    v76:=Go.Proofs.Tryz.zeroValue294,
    t77:=Go.Proofs.Tryz.underlying203,
    a77:=Go.Proofs.Tryz.isAgg203,
    z77:=Go.Proofs.Tryz.sizeOf203,
    v77:=Go.Proofs.Tryz.zeroValue203 }
end Gx
end
section
open Go Go.Kx Go.Proofs
namespace Gx
set_option maxRecDepth 20000
def Zot:Go.Shelf.Ren:=⟨fun x=>match x with
  | 171=>89
  | 243=>149
  | 246=>202
  | 283=>235
  | 284=>236
  | 285=>237
  | 286=>238
  | 129=>253
  | 317=>259
  | 318=>260
  | 319=>261
  | 320=>262
  | 337=>273
  | 338=>274
  | n=>n,fun x=>match x with
  | 3=>3
  | 9=>9
  | 2=>2
  | 4=>4
  | 171=>265
  | 0=>0
  | 53=>234
  | 37=>162
  | 5=>5
  | 173=>268
  | 212=>285
  | 51=>231
  | 20=>20
  | 213=>286
  | 46=>185
  | 232=>300
  | 233=>301
  | n=>n,fun x=>match x with
  | 17=>1
  | 18=>2
  | 19=>3
  | n=>n⟩
theorem Zos:Go.Proofs.LaysM.n171 Go.Proofs.Tryz.prog Zot :=
  { mixed:=by kernel_rfl,
    f129:=Eq.trans Go.Proofs.Tryz.func253 (congrArg some (by kernel_rfl)),
    f171:=Eq.trans Go.Proofs.Tryz.func89 (congrArg some (by kernel_rfl)),
    f243:=Eq.trans Go.Proofs.Tryz.func149 (congrArg some (by kernel_rfl)),
    f246:=Eq.trans Go.Proofs.Tryz.func202 (congrArg some (by kernel_rfl)),
    f283:=Eq.trans Go.Proofs.Tryz.func235 (congrArg some (by kernel_rfl)),
    f284:=Eq.trans Go.Proofs.Tryz.func236 (congrArg some (by kernel_rfl)),
    f285:=Eq.trans Go.Proofs.Tryz.func237 (congrArg some (by kernel_rfl)),
    f286:=Eq.trans Go.Proofs.Tryz.func238 (congrArg some (by kernel_rfl)),
    f317:=Eq.trans Go.Proofs.Tryz.func259 (congrArg some (by kernel_rfl)),
    f318:=Eq.trans Go.Proofs.Tryz.func260 (congrArg some (by kernel_rfl)),
    f319:=Eq.trans Go.Proofs.Tryz.func261 (congrArg some (by kernel_rfl)),
    f320:=Eq.trans Go.Proofs.Tryz.func262 (congrArg some (by kernel_rfl)),
    f337:=Eq.trans Go.Proofs.Tryz.func273 (congrArg some (by kernel_rfl)),
    f338:=Eq.trans Go.Proofs.Tryz.func274 (congrArg some (by kernel_rfl)),
    t0:=Go.Proofs.Tryz.underlying0,
    a0:=Go.Proofs.Tryz.isAgg0,
    z0:=Go.Proofs.Tryz.sizeOf0,
    v0:=Go.Proofs.Tryz.zeroValue0,
    t2:=Go.Proofs.Tryz.underlying2,
    a2:=Go.Proofs.Tryz.isAgg2,
    z2:=Go.Proofs.Tryz.sizeOf2,
    v2:=Go.Proofs.Tryz.zeroValue2,
    t3:=Go.Proofs.Tryz.underlying3,
    a3:=Go.Proofs.Tryz.isAgg3,
    z3:=Go.Proofs.Tryz.sizeOf3,
    v3:=Go.Proofs.Tryz.zeroValue3,
    t4:=Go.Proofs.Tryz.underlying4,
    a4:=Go.Proofs.Tryz.isAgg4,
    z4:=Go.Proofs.Tryz.sizeOf4,
    v4:=Go.Proofs.Tryz.zeroValue4,
    t5:=Go.Proofs.Tryz.underlying5,
    a5:=Go.Proofs.Tryz.isAgg5,
    z5:=Go.Proofs.Tryz.sizeOf5,
    v5:=Go.Proofs.Tryz.zeroValue5,
    t9:=Go.Proofs.Tryz.underlying9,
    a9:=Go.Proofs.Tryz.isAgg9,
    z9:=Go.Proofs.Tryz.sizeOf9,
    v9:=Go.Proofs.Tryz.zeroValue9,
    t20:=Go.Proofs.Tryz.underlying20,
    a20:=Go.Proofs.Tryz.isAgg20,
    z20:=Go.Proofs.Tryz.sizeOf20,
    v20:=Go.Proofs.Tryz.zeroValue20,
    t37:=Go.Proofs.Tryz.underlying162,
    a37:=Go.Proofs.Tryz.isAgg162,
    z37:=Go.Proofs.Tryz.sizeOf162,
    v37:=Go.Proofs.Tryz.zeroValue162,
    t46:=Go.Proofs.Tryz.underlying185,
    a46:=Go.Proofs.Tryz.isAgg185,
    z46:=Go.Proofs.Tryz.sizeOf185,
    v46:=Go.Proofs.Tryz.zeroValue185,
    t51:=Go.Proofs.Tryz.underlying231,
    a51:=Go.Proofs.Tryz.isAgg231,
    z51:=Go.Proofs.Tryz.sizeOf231,
    v51:=Go.Proofs.Tryz.zeroValue231,
    t53:=Go.Proofs.Tryz.underlying234,
    a53:=Go.Proofs.Tryz.isAgg234,
    z53:=Go.Proofs.Tryz.sizeOf234,
    v53:=Go.Proofs.Tryz.zeroValue234,
    t171:=Go.Proofs.Tryz.underlying265,
    a171:=Go.Proofs.Tryz.isAgg265,
    z171:=Go.Proofs.Tryz.sizeOf265,
    v171:=Go.Proofs.Tryz.zeroValue265,
    t173:=Go.Proofs.Tryz.underlying268,
    a173:=Go.Proofs.Tryz.isAgg268,
    z173:=Go.Proofs.Tryz.sizeOf268,
    v173:=Go.Proofs.Tryz.zeroValue268,
    t212:=Go.Proofs.Tryz.underlying285,
    a212:=Go.Proofs.Tryz.isAgg285,
    z212:=Go.Proofs.Tryz.sizeOf285,
    v212:=Go.Proofs.Tryz.zeroValue285,
    t213:=Go.Proofs.Tryz.underlying286,
    a213:=Go.Proofs.Tryz.isAgg286,
    z213:=Go.Proofs.Tryz.sizeOf286,
    t232:=Go.Proofs.Tryz.underlying300,
    a232:=Go.Proofs.Tryz.isAgg300,
    z232:=Go.Proofs.Tryz.sizeOf300,
    v232:=Go.Proofs.Tryz.zeroValue300,
    t233:=Go.Proofs.Tryz.underlying301,
    a233:=Go.Proofs.Tryz.isAgg301,
    z233:=Go.Proofs.Tryz.sizeOf301,
    v233:=Go.Proofs.Tryz.zeroValue301,
    g17:=by kernel_rfl,
    g18:=by kernel_rfl,
    g19:=by kernel_rfl,
    i0:=by kernel_rfl,
    i2:=by kernel_rfl,
    i3:=by kernel_rfl,
    i4:=by kernel_rfl,
    i5:=by kernel_rfl,
    i9:=by kernel_rfl,
    i20:=by kernel_rfl,
    i37:=by kernel_rfl,
    i46:=by kernel_rfl,
    i51:=by kernel_rfl,
    i53:=by kernel_rfl,
    i171:=by kernel_rfl,
    i173:=by kernel_rfl,
    i212:=by kernel_rfl,
    i232:=by kernel_rfl,
    i233:=by kernel_rfl,
    m17:=by kernel_rfl,
    m18:=by kernel_rfl,
    m19:=by kernel_rfl }
instance LxT:LxP:=⟨True⟩
theorem ZhJ:∀ (f u:Nat),u < 10 ^ (f+1)->MI (f+1) u=Go.Lib.decDigits u:=by
  intro f
  induction f with
  | zero =>
    intro u h
    have h:u < 10:=by simpa using h
    rw [Go.Lib.decDigits,dif_pos h]
    unfold MI
    have:Nat.blt u 10=true:=by unfold Nat.blt;exact Nat.ble_eq_true_of_le h
    rw [this];rfl
  | succ f ih =>
    intro u h
    rw [Go.Lib.decDigits]
    unfold MI
    by_cases c:u < 10
    · rw [dif_pos c]
      have:Nat.blt u 10=true:=by unfold Nat.blt;exact Nat.ble_eq_true_of_le c
      rw [this];rfl
    · rw [dif_neg c]
      have:Nat.blt u 10=false:=by
        cases hb:Nat.blt u 10 with
        | false=>rfl
        | true=>exact absurd (YZ hb) c
      rw [this,cond_false,ih (u / 10) (by rw [Nat.pow_succ] at h;omega)]
theorem Zou (n:Int) (h0:-9223372036854775808<=n) (h1:n<=9223372036854775807):BM n=⟨(Go.Lib.itoa n).toArray⟩:=by
  unfold BM Go.Lib.itoa
  by_cases c:n < 0
  · rw [decide_eq_true c,if_pos c,cond_true,ZhJ 24 _ (by omega)]
  · rw [decide_eq_false c,if_neg c,cond_false,ZhJ 24 _ (by omega)]
abbrev powT:Ms:=Zkt Tryz.prog 1 "internal/strconv.uint64pow10" .u64 Go.Lib.pow10Tab
/-- A number's numeral: the text of the library, walked once for all. -/
theorem Zov (n:Int) (h0:-9223372036854775808<=n) (h1:n<=9223372036854775807):Fn Tryz.prog 89 ⟨1,[.c (.i .i64 n)],[],[(0,.abs powT)],1,.c (.s (BM n)),[],[(0,.abs powT)]⟩:=by
  refine ⟨⟨Tryz.f89,Tryz.func89,rfl,rfl⟩,fun E F w hp=>?_⟩
  have hT:F 1/\Tryz.prog.globalNamed "internal/strconv.uint64pow10"=some 1/\Go.Lib.TabIs Tryz.prog w "internal/strconv.uint64pow10" .u64 Go.Lib.pow10Tab:=hp.M 0 (.abs powT) rfl
  refine (Any.strconv_Itoa Zos n h0 h1 w hT.2.2).mono ?_
  rintro e w' ⟨rfl,k,os,rfl⟩
  have hold:∀ b,b < w.heap.size->(Go.Sort.grow (w.drewN k) os).heap[b]? = w.heap[b]? := fun b hb=>Go.Sort.heap_grow_old (w.drewN k) os hb
  have hsz:w.heap.size<=(Go.Sort.grow (w.drewN k) os).heap.size:=by
    show w.heap.size<=(w.heap++os).size
    simp
  refine ⟨E,F,by rw [Zou n h0 h1];rfl,{
    env:=fun k hk=>⟨rfl,rfl⟩
    one:=hp.one
    V:=fun k f h=>(nomatch h)
    M:=fun k m h=>by
      rw [YC] at h
      split at h
      · cases h
        exact powT.mono (F:=F) (w:=w) ⟨fun _ h=>h,fun b hb=>hold b (hp.hF b hb)⟩ (fun b h=>h.elim) hT
      · cases h
    dis:=fun k k' m m' h h' hne=>by
      rw [YC] at h
      split at h
      · cases h;exact fun b hb=>hb.elim
      · cases h
    mF:=fun k m h b hb=>by
      rw [YC] at h
      split at h
      · cases h;exact hb.elim
      · cases h
    fresh:=fun k m h hf b hb=>by
      rw [YC] at h
      split at h
      · cases h;exact hb.elim
      · cases h
    F0:=fun _ h=>h
    F1:=fun _ h=>.inl h
    Fs:=fun b h=>Zi (hp.hF b h) (hsz)
    ext:=⟨rfl,rfl,⟨rfl,.inl trivial⟩,hsz,fun b hb=>hold b hb.1⟩ }⟩
end Gx
end
section
open Go Go.Kx Go.Proofs
namespace Gx
set_option maxRecDepth 20000
def Zim:Go.Shelf.Ren:=⟨fun x=>match x with
  | 156=>39
  | 165=>93
  | 166=>94
  | 169=>95
  | 240=>155
  | 241=>156
  | 276=>207
  | 277=>208
  | n=>n,fun x=>match x with
  | 31=>22
  | 9=>9
  | 3=>3
  | 4=>4
  | 0=>0
  | 20=>20
  | 72=>164
  | 76=>168
  | 70=>161
  | 37=>162
  | 75=>167
  | 127=>209
  | 164=>247
  | 5=>5
  | 80=>170
  | n=>n,fun x=>x⟩
theorem Zil:Go.Proofs.Lays.n156 Go.Proofs.Tryz.prog Zim :=
  { mixed:=by kernel_rfl,
    f156:=Eq.trans Go.Proofs.Tryz.func39 (congrArg some (by kernel_rfl)),
    f165:=Eq.trans Go.Proofs.Tryz.func93 (congrArg some (by kernel_rfl)),
    f166:=Eq.trans Go.Proofs.Tryz.func94 (congrArg some (by kernel_rfl)),
    f169:=Eq.trans Go.Proofs.Tryz.func95 (congrArg some (by kernel_rfl)),
    f240:=Eq.trans Go.Proofs.Tryz.func155 (congrArg some (by kernel_rfl)),
    f241:=Eq.trans Go.Proofs.Tryz.func156 (congrArg some (by kernel_rfl)),
    f276:=Eq.trans Go.Proofs.Tryz.func207 (congrArg some (by kernel_rfl)),
    f277:=Eq.trans Go.Proofs.Tryz.func208 (congrArg some (by kernel_rfl)),
    t0:=Go.Proofs.Tryz.underlying0,
    a0:=Go.Proofs.Tryz.isAgg0,
    z0:=Go.Proofs.Tryz.sizeOf0,
    v0:=Go.Proofs.Tryz.zeroValue0,
    t3:=Go.Proofs.Tryz.underlying3,
    a3:=Go.Proofs.Tryz.isAgg3,
    z3:=Go.Proofs.Tryz.sizeOf3,
    v3:=Go.Proofs.Tryz.zeroValue3,
    t4:=Go.Proofs.Tryz.underlying4,
    a4:=Go.Proofs.Tryz.isAgg4,
    z4:=Go.Proofs.Tryz.sizeOf4,
    v4:=Go.Proofs.Tryz.zeroValue4,
    t9:=Go.Proofs.Tryz.underlying9,
    a9:=Go.Proofs.Tryz.isAgg9,
    z9:=Go.Proofs.Tryz.sizeOf9,
    v9:=Go.Proofs.Tryz.zeroValue9,
    t20:=Go.Proofs.Tryz.underlying20,
    a20:=Go.Proofs.Tryz.isAgg20,
    z20:=Go.Proofs.Tryz.sizeOf20,
    v20:=Go.Proofs.Tryz.zeroValue20,
    t31:=Go.Proofs.Tryz.underlying22,
    a31:=Go.Proofs.Tryz.isAgg22,
    z31:=Go.Proofs.Tryz.sizeOf22,
    v31:=Go.Proofs.Tryz.zeroValue22,
    t37:=Go.Proofs.Tryz.underlying162,
    a37:=Go.Proofs.Tryz.isAgg162,
    z37:=Go.Proofs.Tryz.sizeOf162,
    v37:=Go.Proofs.Tryz.zeroValue162,
    t70:=Go.Proofs.Tryz.underlying161,
    a70:=Go.Proofs.Tryz.isAgg161,
    z70:=Go.Proofs.Tryz.sizeOf161,
    v70:=Go.Proofs.Tryz.zeroValue161,
    t72:=Go.Proofs.Tryz.underlying164,
    a72:=Go.Proofs.Tryz.isAgg164,
    z72:=Go.Proofs.Tryz.sizeOf164,
    v72:=Go.Proofs.Tryz.zeroValue164,
    t75:=Go.Proofs.Tryz.underlying167,
    a75:=Go.Proofs.Tryz.isAgg167,
    z75:=Go.Proofs.Tryz.sizeOf167,
    v75:=Go.Proofs.Tryz.zeroValue167,
    t76:=Go.Proofs.Tryz.underlying168,
    a76:=Go.Proofs.Tryz.isAgg168,
    z76:=Go.Proofs.Tryz.sizeOf168,
    v76:=Go.Proofs.Tryz.zeroValue168,
    t127:=Go.Proofs.Tryz.underlying209,
    a127:=Go.Proofs.Tryz.isAgg209,
    z127:=Go.Proofs.Tryz.sizeOf209,
    v127:=Go.Proofs.Tryz.zeroValue209,
    t164:=Go.Proofs.Tryz.underlying247,
    a164:=Go.Proofs.Tryz.isAgg247,
    z164:=Go.Proofs.Tryz.sizeOf247,
    v164:=Go.Proofs.Tryz.zeroValue247 }
theorem Zik:Builder.Extra Tryz.prog Zim where
  sizeBuilder:=by kernel_rfl
  liesBuilder:=by kernel_rfl
  t5:=Tryz.underlying5
  a5:=Tryz.isAgg5
  z5:=Tryz.sizeOf5
  v5:=Tryz.zeroValue5
  infoByte:=by kernel_rfl
  cellsByte:=by kernel_rfl
  sizeByte:=by kernel_rfl
  neB5:=by decide
theorem Zoy (sep:List UInt8):∀ xs:List (List UInt8),Pa sep xs=Go.Lib.join xs sep
  | []=>rfl
  | x::r=>(Go.Lib.join_cons x r sep).symm
/-- Texts, one behind the other: the text of the library, walked once for all. -/
theorem Zoz (xs:List ByteArray) (sep:ByteArray) (hN:xs.length<=140737488355328) (hlen:(Pa sep.data.toList (xs.map (·.data.toList))).length<=140737488355328) :
    Fn Tryz.prog 39 ⟨1,[.c (.sl 0),.c (.s sep)],[(0,.sl rS xs)],[],1,.c (.s ⟨(Pa sep.data.toList (xs.map (·.data.toList))).toArray⟩),[],[]⟩:=by
  refine ⟨⟨Tryz.f39,Tryz.func39,rfl,rfl⟩,fun E F w hp=>?_⟩
  have hV:=hp.V 0 (.sl rS xs) rfl
  have key:Calls Tryz.prog 39 #[E.ρ 0,.string sep] w fun e w'=>e=.returned (.string ⟨(Pa sep.data.toList (xs.map (·.data.toList))).toArray⟩)/\Go.RowKit.Below w.heap.size w w':=by
    rw [Zoy] at hlen ⊢
    rcases hV with ⟨rfl,a,c,hv⟩ | ⟨b,off,Yk,arr,el,fz,hv,hc,hF,hh,hr⟩
    · rw [hv]
      refine (Any.strings_Join_none Zil Zik a c sep w).mono ?_
      rintro e w' ⟨rfl,rfl⟩
      exact ⟨rfl,Go.RowKit.Below.refl _ _⟩
    · rw [hv]
      refine Any.strings_Join Zil Zik b off Yk xs sep w (fun j x hx=>?_) (hp.hF b hF) hN hc hlen
      have ⟨vs,hvs,hrow⟩:=hr j x hx
      have hvs:vs=[.string x]:=hvs
      subst hvs
      have:=hrow 0 (.string x) rfl
      unfold World.cell?
      rw [hh]
      simpa [rS] using this
  refine key.mono ?_
  rintro e w' ⟨rfl,hb⟩
  exact ⟨E,F,rfl,{
    env:=fun k hk=>⟨rfl,rfl⟩
    one:=hp.one
    V:=fun k f h=>(nomatch h)
    M:=fun k m h=>(nomatch h)
    dis:=fun k k' m m' h=>(nomatch h)
    mF:=fun k m h=>(nomatch h)
    fresh:=fun k m h=>(nomatch h)
    F0:=fun _ h=>h
    F1:=fun _ h=>.inl h
    Fs:=fun b h=>Zi (hp.hF b h) hb.size
    ext:=⟨hb.os,hb.tape,⟨hb.output,.inl trivial⟩,hb.size,fun b hz=>hb.block b hz.1⟩ }⟩
end Gx
end
section
open Go Go.Kx Go.Proofs
namespace Gx
set_option maxRecDepth 20000
def ZjV:Go.Shelf.Ren:=⟨fun x=>match x with
  | 105=>60
  | 212=>129
  | 99=>130
  | 165=>93
  | 166=>94
  | 170=>131
  | 169=>95
  | 263=>191
  | 264=>192
  | 206=>193
  | 240=>155
  | 241=>156
  | 276=>207
  | 277=>208
  | n=>n,fun x=>match x with
  | 9=>9
  | 3=>3
  | 4=>4
  | 20=>20
  | 0=>0
  | 46=>185
  | 109=>186
  | 5=>5
  | 72=>164
  | 76=>168
  | 51=>231
  | 146=>232
  | 53=>234
  | 148=>235
  | 70=>161
  | 37=>162
  | 75=>167
  | 127=>209
  | 164=>247
  | 80=>170
  | n=>n,fun x=>x⟩
theorem rpLays:Go.Proofs.Lays.n105 Go.Proofs.Tryz.prog ZjV :=
  { mixed:=by kernel_rfl,
    f99:=Eq.trans Go.Proofs.Tryz.func130 (congrArg some (by kernel_rfl)),
    f105:=Eq.trans Go.Proofs.Tryz.func60 (congrArg some (by kernel_rfl)),
    f165:=Eq.trans Go.Proofs.Tryz.func93 (congrArg some (by kernel_rfl)),
    f166:=Eq.trans Go.Proofs.Tryz.func94 (congrArg some (by kernel_rfl)),
    f169:=Eq.trans Go.Proofs.Tryz.func95 (congrArg some (by kernel_rfl)),
    f170:=Eq.trans Go.Proofs.Tryz.func131 (congrArg some (by kernel_rfl)),
    f206:=Eq.trans Go.Proofs.Tryz.func193 (congrArg some (by kernel_rfl)),
    f212:=Eq.trans Go.Proofs.Tryz.func129 (congrArg some (by kernel_rfl)),
    f240:=Eq.trans Go.Proofs.Tryz.func155 (congrArg some (by kernel_rfl)),
    f241:=Eq.trans Go.Proofs.Tryz.func156 (congrArg some (by kernel_rfl)),
    f263:=Eq.trans Go.Proofs.Tryz.func191 (congrArg some (by kernel_rfl)),
    f264:=Eq.trans Go.Proofs.Tryz.func192 (congrArg some (by kernel_rfl)),
    f276:=Eq.trans Go.Proofs.Tryz.func207 (congrArg some (by kernel_rfl)),
    f277:=Eq.trans Go.Proofs.Tryz.func208 (congrArg some (by kernel_rfl)),
    t0:=Go.Proofs.Tryz.underlying0,
    a0:=Go.Proofs.Tryz.isAgg0,
    z0:=Go.Proofs.Tryz.sizeOf0,
    v0:=Go.Proofs.Tryz.zeroValue0,
    t3:=Go.Proofs.Tryz.underlying3,
    a3:=Go.Proofs.Tryz.isAgg3,
    z3:=Go.Proofs.Tryz.sizeOf3,
    v3:=Go.Proofs.Tryz.zeroValue3,
    t4:=Go.Proofs.Tryz.underlying4,
    a4:=Go.Proofs.Tryz.isAgg4,
    z4:=Go.Proofs.Tryz.sizeOf4,
    v4:=Go.Proofs.Tryz.zeroValue4,
    t5:=Go.Proofs.Tryz.underlying5,
    a5:=Go.Proofs.Tryz.isAgg5,
    z5:=Go.Proofs.Tryz.sizeOf5,
    v5:=Go.Proofs.Tryz.zeroValue5,
    t9:=Go.Proofs.Tryz.underlying9,
    a9:=Go.Proofs.Tryz.isAgg9,
    z9:=Go.Proofs.Tryz.sizeOf9,
    v9:=Go.Proofs.Tryz.zeroValue9,
    t20:=Go.Proofs.Tryz.underlying20,
    a20:=Go.Proofs.Tryz.isAgg20,
    z20:=Go.Proofs.Tryz.sizeOf20,
    v20:=Go.Proofs.Tryz.zeroValue20,
    t37:=Go.Proofs.Tryz.underlying162,
    a37:=Go.Proofs.Tryz.isAgg162,
    z37:=Go.Proofs.Tryz.sizeOf162,
    v37:=Go.Proofs.Tryz.zeroValue162,
    t46:=Go.Proofs.Tryz.underlying185,
    a46:=Go.Proofs.Tryz.isAgg185,
    z46:=Go.Proofs.Tryz.sizeOf185,
    v46:=Go.Proofs.Tryz.zeroValue185,
    t51:=Go.Proofs.Tryz.underlying231,
    a51:=Go.Proofs.Tryz.isAgg231,
    z51:=Go.Proofs.Tryz.sizeOf231,
    v51:=Go.Proofs.Tryz.zeroValue231,
    t53:=Go.Proofs.Tryz.underlying234,
    a53:=Go.Proofs.Tryz.isAgg234,
    z53:=Go.Proofs.Tryz.sizeOf234,
    v53:=Go.Proofs.Tryz.zeroValue234,
    t70:=Go.Proofs.Tryz.underlying161,
    a70:=Go.Proofs.Tryz.isAgg161,
    z70:=Go.Proofs.Tryz.sizeOf161,
    v70:=Go.Proofs.Tryz.zeroValue161,
    t72:=Go.Proofs.Tryz.underlying164,
    a72:=Go.Proofs.Tryz.isAgg164,
    z72:=Go.Proofs.Tryz.sizeOf164,
    v72:=Go.Proofs.Tryz.zeroValue164,
    t75:=Go.Proofs.Tryz.underlying167,
    a75:=Go.Proofs.Tryz.isAgg167,
    z75:=Go.Proofs.Tryz.sizeOf167,
    v75:=Go.Proofs.Tryz.zeroValue167,
    t76:=Go.Proofs.Tryz.underlying168,
    a76:=Go.Proofs.Tryz.isAgg168,
    z76:=Go.Proofs.Tryz.sizeOf168,
    v76:=Go.Proofs.Tryz.zeroValue168,
    t109:=Go.Proofs.Tryz.underlying186,
    a109:=Go.Proofs.Tryz.isAgg186,
    z109:=Go.Proofs.Tryz.sizeOf186,
    v109:=Go.Proofs.Tryz.zeroValue186,
    t127:=Go.Proofs.Tryz.underlying209,
    a127:=Go.Proofs.Tryz.isAgg209,
    z127:=Go.Proofs.Tryz.sizeOf209,
    v127:=Go.Proofs.Tryz.zeroValue209,
    t146:=Go.Proofs.Tryz.underlying232,
    a146:=Go.Proofs.Tryz.isAgg232,
    z146:=Go.Proofs.Tryz.sizeOf232,
    v146:=Go.Proofs.Tryz.zeroValue232,
    t148:=Go.Proofs.Tryz.underlying235,
    a148:=Go.Proofs.Tryz.isAgg235,
    z148:=Go.Proofs.Tryz.sizeOf235,
    v148:=Go.Proofs.Tryz.zeroValue235,
    t164:=Go.Proofs.Tryz.underlying247,
    a164:=Go.Proofs.Tryz.isAgg247,
    z164:=Go.Proofs.Tryz.sizeOf247,
    v164:=Go.Proofs.Tryz.zeroValue247 }
theorem ZrR:Builder.Extra Tryz.prog ZjV where
  sizeBuilder:=by kernel_rfl
  liesBuilder:=by kernel_rfl
  t5:=rpLays.t5
  a5:=rpLays.a5
  z5:=rpLays.z5
  v5:=rpLays.v5
  infoByte:=by kernel_rfl
  cellsByte:=by kernel_rfl
  sizeByte:=by kernel_rfl
  neB5:=by decide
/-- So many copies of a text: the text of the library, walked once for all. -/
theorem ZrF (s:ByteArray) (c:Nat) (hc:c<=9223372036854775807) (hlen:s.size * c<=140737488355328):Fn Tryz.prog 60 ⟨0,[.c (.s s),.c (.i .i64 (c:Int))],[],[],0,.c (.s ⟨(Go.Lib.repeatL s.data.toList c).toArray⟩),[],[]⟩:=by
  refine ⟨⟨Tryz.f60,Tryz.func60,rfl,rfl⟩,fun E F w hp=>?_⟩
  refine (Any.strings_Repeat rpLays ZrR s c w hc hlen).mono ?_
  rintro e w' ⟨rfl,hb⟩
  exact ⟨E,F,rfl,{
    env:=fun k hk=>absurd hk (Nat.not_lt_zero k)
    one:=hp.one
    V:=fun k f h=>(nomatch h)
    M:=fun k m h=>(nomatch h)
    dis:=fun k k' m m' h=>(nomatch h)
    mF:=fun k m h=>(nomatch h)
    fresh:=fun k m h=>(nomatch h)
    F0:=fun _ h=>h
    F1:=fun _ h=>.inl h
    Fs:=fun b h=>Zi (hp.hF b h) hb.size
    ext:=⟨hb.os,hb.tape,⟨hb.output,.inl trivial⟩,hb.size,fun b hz=>hb.block b hz.1⟩ }⟩
end Gx
end
