/- Functions of the library, by the contracts that are proved once for all programs. -/
import Derived.Shelf.SlSortCmp.NoneTotal
import Derived.Shelf.Strconv.Itoa3
import Derived.Shelf.Strings.OnBuilder
import Derived.Shelf.Strings.Repeat
import Derived.Test.YtopoacpklgcfnaaGreatDoorProg
import Derived.Test.YtopoacpklgcfnaaGreatDoorExplainParsedPure
set_option linter.all false
section
open Go Go.Kx Go.Proofs
namespace Gx
set_option maxRecDepth 20000
def slRen:Go.Shelf.Ren:=⟨fun x=>match x with
  | 6=>203
  | 15=>233
  | 14=>232
  | 28=>254
  | 29=>238
  | 20=>246
  | 21=>247
  | 22=>248
  | 23=>249
  | 24=>250
  | 25=>251
  | 26=>252
  | 27=>253
  | 46=>262
  | 47=>263
  | 48=>264
  | 49=>265
  | 50=>266
  | 57=>268
  | n=>n,fun x=>match x with
  | 22=>106
  | 24=>3
  | 25=>239
  | 3=>3
  | 39=>240
  | 0=>0
  | 53=>277
  | 55=>280
  | 4=>4
  | 46=>303
  | 45=>302
  | 50=>263
  | 5=>5
  | 9=>9
  | 66=>314
  | 70=>144
  | 76=>321
  | 77=>225
  | n=>n,fun x=>x⟩
theorem slLays:Go.Proofs.SlLaysF.n6 Go.Proofs.Tryz.prog slRen :=
  { mixed:=by kernel_rfl,
    f6:=⟨ "slices.SortFunc[[]int,int]",of_decide_eq_true (by kernel_rfl),Eq.trans Go.Proofs.Tryz.func203 (congrArg some (by kernel_rfl))⟩,
    f14:=⟨ "slices.pdqsortCmpFunc[int]",of_decide_eq_true (by kernel_rfl),Eq.trans Go.Proofs.Tryz.func232 (congrArg some (by kernel_rfl))⟩,
    f15:=Eq.trans Go.Proofs.Tryz.func233 (congrArg some (by kernel_rfl)),
    f20:=⟨ "slices.insertionSortCmpFunc[int]",of_decide_eq_true (by kernel_rfl),Eq.trans Go.Proofs.Tryz.func246 (congrArg some (by kernel_rfl))⟩,
    f21:=⟨ "slices.heapSortCmpFunc[int]",of_decide_eq_true (by kernel_rfl),Eq.trans Go.Proofs.Tryz.func247 (congrArg some (by kernel_rfl))⟩,
    f22:=⟨ "slices.breakPatternsCmpFunc[int]",of_decide_eq_true (by kernel_rfl),Eq.trans Go.Proofs.Tryz.func248 (congrArg some (by kernel_rfl))⟩,
    f23:=⟨ "slices.choosePivotCmpFunc[int]",of_decide_eq_true (by kernel_rfl),Eq.trans Go.Proofs.Tryz.func249 (congrArg some (by kernel_rfl))⟩,
    f24:=⟨ "slices.reverseRangeCmpFunc[int]",of_decide_eq_true (by kernel_rfl),Eq.trans Go.Proofs.Tryz.func250 (congrArg some (by kernel_rfl))⟩,
    f25:=⟨ "slices.partialInsertionSortCmpFunc[int]",of_decide_eq_true (by kernel_rfl),Eq.trans Go.Proofs.Tryz.func251 (congrArg some (by kernel_rfl))⟩,
    f26:=⟨ "slices.partitionEqualCmpFunc[int]",of_decide_eq_true (by kernel_rfl),Eq.trans Go.Proofs.Tryz.func252 (congrArg some (by kernel_rfl))⟩,
    f27:=⟨ "slices.partitionCmpFunc[int]",of_decide_eq_true (by kernel_rfl),Eq.trans Go.Proofs.Tryz.func253 (congrArg some (by kernel_rfl))⟩,
    f28:=Eq.trans Go.Proofs.Tryz.func254 (congrArg some (by kernel_rfl)),
    f29:=Eq.trans Go.Proofs.Tryz.func238 (congrArg some (by kernel_rfl)),
    f46:=⟨ "slices.siftDownCmpFunc[int]",of_decide_eq_true (by kernel_rfl),Eq.trans Go.Proofs.Tryz.func262 (congrArg some (by kernel_rfl))⟩,
    f47:=Eq.trans Go.Proofs.Tryz.func263 (congrArg some (by kernel_rfl)),
    f48:=Eq.trans Go.Proofs.Tryz.func264 (congrArg some (by kernel_rfl)),
    f49:=⟨ "slices.medianAdjacentCmpFunc[int]",of_decide_eq_true (by kernel_rfl),Eq.trans Go.Proofs.Tryz.func265 (congrArg some (by kernel_rfl))⟩,
    f50:=⟨ "slices.medianCmpFunc[int]",of_decide_eq_true (by kernel_rfl),Eq.trans Go.Proofs.Tryz.func266 (congrArg some (by kernel_rfl))⟩,
    f57:=⟨ "slices.order2CmpFunc[int]",of_decide_eq_true (by kernel_rfl),Eq.trans Go.Proofs.Tryz.func268 (congrArg some (by kernel_rfl))⟩,
    t0:=Go.Proofs.Tryz.underlying0,
    a0:=Go.Proofs.Tryz.isAgg0,
    z0:=Go.Proofs.Tryz.sizeOf0,
    v0:=Go.Proofs.Tryz.zeroValue0,
    t3:=Go.Proofs.Tryz.underlying3,
    a3:=Go.Proofs.Tryz.isAgg3,
    z3:=Go.Proofs.Tryz.sizeOf3,
    v3:=Go.Proofs.Tryz.zeroValue3,
    t4:=Go.Proofs.Tryz.underlying4,
    a4:=Go.Proofs.Tryz.isAgg4,
    z4:=Go.Proofs.Tryz.sizeOf4,
    v4:=Go.Proofs.Tryz.zeroValue4,
    t5:=Go.Proofs.Tryz.underlying5,
    a5:=Go.Proofs.Tryz.isAgg5,
    z5:=Go.Proofs.Tryz.sizeOf5,
    v5:=Go.Proofs.Tryz.zeroValue5,
    t9:=Go.Proofs.Tryz.underlying9,
    a9:=Go.Proofs.Tryz.isAgg9,
    z9:=Go.Proofs.Tryz.sizeOf9,
    v9:=Go.Proofs.Tryz.zeroValue9,
    t22:=Go.Proofs.Tryz.underlying106,
    a22:=Go.Proofs.Tryz.isAgg106,
    z22:=Go.Proofs.Tryz.sizeOf106,
    v22:=Go.Proofs.Tryz.zeroValue106,
    a24:=Go.Proofs.Tryz.isAgg3,
    z24:=Go.Proofs.Tryz.sizeOf3,
    t25:=Go.Proofs.Tryz.underlying239,
    a25:=Go.Proofs.Tryz.isAgg239,
    z25:=Go.Proofs.Tryz.sizeOf239,
    v25:=Go.Proofs.Tryz.zeroValue239,
    t39:=Go.Proofs.Tryz.underlying240,
    a39:=Go.Proofs.Tryz.isAgg240,
    z39:=Go.Proofs.Tryz.sizeOf240,
    v39:=Go.Proofs.Tryz.zeroValue240,
    t45:=Go.Proofs.Tryz.underlying302,
    a45:=Go.Proofs.Tryz.isAgg302,
    z45:=Go.Proofs.Tryz.sizeOf302,
    v45:=Go.Proofs.Tryz.zeroValue302,
    t46:=Go.Proofs.Tryz.underlying303,
    a46:=Go.Proofs.Tryz.isAgg303,
    z46:=Go.Proofs.Tryz.sizeOf303,
    v46:=Go.Proofs.Tryz.zeroValue303,
    t50:=Go.Proofs.Tryz.underlying263,
    a50:=Go.Proofs.Tryz.isAgg263,
    z50:=Go.Proofs.Tryz.sizeOf263,
    v50:=Go.Proofs.Tryz.zeroValue263,
    t53:=Go.Proofs.Tryz.underlying277,
    a53:=Go.Proofs.Tryz.isAgg277,
    z53:=Go.Proofs.Tryz.sizeOf277,
    v53:=Go.Proofs.Tryz.zeroValue277,
    t55:=Go.Proofs.Tryz.underlying280,
    a55:=Go.Proofs.Tryz.isAgg280,
    z55:=Go.Proofs.Tryz.sizeOf280,
    v55:=Go.Proofs.Tryz.zeroValue280,
    t66:=Go.Proofs.Tryz.underlying314,
    a66:=Go.Proofs.Tryz.isAgg314,
    z66:=Go.Proofs.Tryz.sizeOf314,
    v66:=Go.Proofs.Tryz.zeroValue314,
    t70:=Go.Proofs.Tryz.underlying144,
    a70:=Go.Proofs.Tryz.isAgg144,
    z70:=Go.Proofs.Tryz.sizeOf144,
    v70:=Go.Proofs.Tryz.zeroValue144,
    t76:=Go.Proofs.Tryz.underlying321,
    a76:=Go.Proofs.Tryz.isAgg321,
    z76:=Go.Proofs.Tryz.sizeOf321,
    v76:=Go.Proofs.Tryz.zeroValue321,
    t77:=Go.Proofs.Tryz.underlying225,
    a77:=Go.Proofs.Tryz.isAgg225,
    z77:=Go.Proofs.Tryz.sizeOf225,
    v77:=Go.Proofs.Tryz.zeroValue225 }
end Gx
end
section
open Go Go.Kx Go.Proofs
namespace Gx
set_option maxRecDepth 20000
def itRen:Go.Shelf.Ren:=⟨fun x=>match x with
  | 171=>48
  | 243=>106
  | 246=>176
  | 283=>217
  | 284=>218
  | 285=>219
  | 286=>220
  | 129=>238
  | 317=>237
  | 318=>239
  | 319=>240
  | 320=>241
  | 337=>259
  | 338=>260
  | n=>n,fun x=>match x with
  | 3=>3
  | 9=>9
  | 2=>2
  | 4=>4
  | 171=>286
  | 0=>0
  | 53=>280
  | 37=>122
  | 5=>5
  | 173=>289
  | 212=>299
  | 51=>277
  | 20=>20
  | 213=>300
  | 46=>240
  | 232=>319
  | 233=>320
  | n=>n,fun x=>match x with
  | 17=>1
  | 18=>2
  | 19=>3
  | n=>n⟩
theorem itLays:Go.Proofs.LaysM.n171 Go.Proofs.Tryz.prog itRen :=
  { mixed:=by kernel_rfl,
    f129:=Eq.trans Go.Proofs.Tryz.func238 (congrArg some (by kernel_rfl)),
    f171:=Eq.trans Go.Proofs.Tryz.func48 (congrArg some (by kernel_rfl)),
    f243:=Eq.trans Go.Proofs.Tryz.func106 (congrArg some (by kernel_rfl)),
    f246:=Eq.trans Go.Proofs.Tryz.func176 (congrArg some (by kernel_rfl)),
    f283:=Eq.trans Go.Proofs.Tryz.func217 (congrArg some (by kernel_rfl)),
    f284:=Eq.trans Go.Proofs.Tryz.func218 (congrArg some (by kernel_rfl)),
    f285:=Eq.trans Go.Proofs.Tryz.func219 (congrArg some (by kernel_rfl)),
    f286:=Eq.trans Go.Proofs.Tryz.func220 (congrArg some (by kernel_rfl)),
    f317:=Eq.trans Go.Proofs.Tryz.func237 (congrArg some (by kernel_rfl)),
    f318:=Eq.trans Go.Proofs.Tryz.func239 (congrArg some (by kernel_rfl)),
    f319:=Eq.trans Go.Proofs.Tryz.func240 (congrArg some (by kernel_rfl)),
    f320:=Eq.trans Go.Proofs.Tryz.func241 (congrArg some (by kernel_rfl)),
    f337:=Eq.trans Go.Proofs.Tryz.func259 (congrArg some (by kernel_rfl)),
    f338:=Eq.trans Go.Proofs.Tryz.func260 (congrArg some (by kernel_rfl)),
    t0:=Go.Proofs.Tryz.underlying0,
    a0:=Go.Proofs.Tryz.isAgg0,
    z0:=Go.Proofs.Tryz.sizeOf0,
    v0:=Go.Proofs.Tryz.zeroValue0,
    t2:=Go.Proofs.Tryz.underlying2,
    a2:=Go.Proofs.Tryz.isAgg2,
    z2:=Go.Proofs.Tryz.sizeOf2,
    v2:=Go.Proofs.Tryz.zeroValue2,
    t3:=Go.Proofs.Tryz.underlying3,
    a3:=Go.Proofs.Tryz.isAgg3,
    z3:=Go.Proofs.Tryz.sizeOf3,
    v3:=Go.Proofs.Tryz.zeroValue3,
    t4:=Go.Proofs.Tryz.underlying4,
    a4:=Go.Proofs.Tryz.isAgg4,
    z4:=Go.Proofs.Tryz.sizeOf4,
    v4:=Go.Proofs.Tryz.zeroValue4,
    t5:=Go.Proofs.Tryz.underlying5,
    a5:=Go.Proofs.Tryz.isAgg5,
    z5:=Go.Proofs.Tryz.sizeOf5,
    v5:=Go.Proofs.Tryz.zeroValue5,
    t9:=Go.Proofs.Tryz.underlying9,
    a9:=Go.Proofs.Tryz.isAgg9,
    z9:=Go.Proofs.Tryz.sizeOf9,
    v9:=Go.Proofs.Tryz.zeroValue9,
    t20:=Go.Proofs.Tryz.underlying20,
    a20:=Go.Proofs.Tryz.isAgg20,
    z20:=Go.Proofs.Tryz.sizeOf20,
    v20:=Go.Proofs.Tryz.zeroValue20,
    t37:=Go.Proofs.Tryz.underlying122,
    a37:=Go.Proofs.Tryz.isAgg122,
    z37:=Go.Proofs.Tryz.sizeOf122,
    v37:=Go.Proofs.Tryz.zeroValue122,
    t46:=Go.Proofs.Tryz.underlying240,
    a46:=Go.Proofs.Tryz.isAgg240,
    z46:=Go.Proofs.Tryz.sizeOf240,
    v46:=Go.Proofs.Tryz.zeroValue240,
    t51:=Go.Proofs.Tryz.underlying277,
    a51:=Go.Proofs.Tryz.isAgg277,
    z51:=Go.Proofs.Tryz.sizeOf277,
    v51:=Go.Proofs.Tryz.zeroValue277,
    t53:=Go.Proofs.Tryz.underlying280,
    a53:=Go.Proofs.Tryz.isAgg280,
    z53:=Go.Proofs.Tryz.sizeOf280,
    v53:=Go.Proofs.Tryz.zeroValue280,
    t171:=Go.Proofs.Tryz.underlying286,
    a171:=Go.Proofs.Tryz.isAgg286,
    z171:=Go.Proofs.Tryz.sizeOf286,
    v171:=Go.Proofs.Tryz.zeroValue286,
    t173:=Go.Proofs.Tryz.underlying289,
    a173:=Go.Proofs.Tryz.isAgg289,
    z173:=Go.Proofs.Tryz.sizeOf289,
    v173:=Go.Proofs.Tryz.zeroValue289,
    t212:=Go.Proofs.Tryz.underlying299,
    a212:=Go.Proofs.Tryz.isAgg299,
    z212:=Go.Proofs.Tryz.sizeOf299,
    v212:=Go.Proofs.Tryz.zeroValue299,
    t213:=Go.Proofs.Tryz.underlying300,
    a213:=Go.Proofs.Tryz.isAgg300,
    z213:=Go.Proofs.Tryz.sizeOf300,
    t232:=Go.Proofs.Tryz.underlying319,
    a232:=Go.Proofs.Tryz.isAgg319,
    z232:=Go.Proofs.Tryz.sizeOf319,
    v232:=Go.Proofs.Tryz.zeroValue319,
    t233:=Go.Proofs.Tryz.underlying320,
    a233:=Go.Proofs.Tryz.isAgg320,
    z233:=Go.Proofs.Tryz.sizeOf320,
    v233:=Go.Proofs.Tryz.zeroValue320,
    g17:=by kernel_rfl,
    g18:=by kernel_rfl,
    g19:=by kernel_rfl,
    i0:=by kernel_rfl,
    i2:=by kernel_rfl,
    i3:=by kernel_rfl,
    i4:=by kernel_rfl,
    i5:=by kernel_rfl,
    i9:=by kernel_rfl,
    i20:=by kernel_rfl,
    i37:=by kernel_rfl,
    i46:=by kernel_rfl,
    i51:=by kernel_rfl,
    i53:=by kernel_rfl,
    i171:=by kernel_rfl,
    i173:=by kernel_rfl,
    i212:=by kernel_rfl,
    i232:=by kernel_rfl,
    i233:=by kernel_rfl,
    m17:=by kernel_rfl,
    m18:=by kernel_rfl,
    m19:=by kernel_rfl }
instance LxT:LxP:=⟨True⟩
theorem digN_eq:∀ (f u:Nat),u < 10 ^ (f+1)→digN (f+1) u=Go.Lib.decDigits u:=by
  intro f
  induction f with
  | zero =>
    intro u h
    have h:u < 10:=by simpa using h
    rw [Go.Lib.decDigits,dif_pos h]
    unfold digN
    have:Nat.blt u 10=true:=by unfold Nat.blt;exact Nat.ble_eq_true_of_le h
    rw [this];rfl
  | succ f ih =>
    intro u h
    rw [Go.Lib.decDigits]
    unfold digN
    by_cases c:u < 10
    · rw [dif_pos c]
      have:Nat.blt u 10=true:=by unfold Nat.blt;exact Nat.ble_eq_true_of_le c
      rw [this];rfl
    · rw [dif_neg c]
      have:Nat.blt u 10=false:=by
        cases hb:Nat.blt u 10 with
        | false=>rfl
        | true=>exact absurd (blt_lt hb) c
      rw [this,cond_false,ih (u / 10) (by rw [Nat.pow_succ] at h;omega)]
theorem itoaS_eq (n:Int) (h0:-9223372036854775808≤n) (h1:n≤9223372036854775807):itoaS n=⟨(Go.Lib.itoa n).toArray⟩:=by
  unfold itoaS Go.Lib.itoa
  by_cases c:n < 0
  · rw [decide_eq_true c,if_pos c,cond_true,digN_eq 24 _ (by omega)]
  · rw [decide_eq_false c,if_neg c,cond_false,digN_eq 24 _ (by omega)]
abbrev powT:AbsR:=tabG Tryz.prog 1 "internal/strconv.uint64pow10" .u64 Go.Lib.pow10Tab
/-- A number's numeral: the text of the library, walked once for all. -/
theorem itoa_fn (n:Int) (h0:-9223372036854775808≤n) (h1:n≤9223372036854775807):Fn Tryz.prog 48 ⟨1,[.c (.i .i64 n)],[],[(0,.abs powT)],1,.c (.s (itoaS n)),[],[(0,.abs powT)]⟩:=by
  refine ⟨⟨Tryz.f48,Tryz.func48,rfl,rfl⟩,fun E F w hp=>?_⟩
  have hT:F 1∧Tryz.prog.globalNamed "internal/strconv.uint64pow10"=some 1∧Go.Lib.TabIs Tryz.prog w "internal/strconv.uint64pow10" .u64 Go.Lib.pow10Tab:=hp.M 0 (.abs powT) rfl
  refine (Any.strconv_Itoa itLays n h0 h1 w hT.2.2).mono ?_
  rintro e w' ⟨rfl,k,os,rfl⟩
  have hold:∀ b,b < w.heap.size→(Go.Sort.grow (w.drewN k) os).heap[b]? = w.heap[b]? := fun b hb=>Go.Sort.heap_grow_old (w.drewN k) os hb
  have hsz:w.heap.size≤(Go.Sort.grow (w.drewN k) os).heap.size:=by
    show w.heap.size≤(w.heap++os).size
    simp
  refine ⟨E,F,by rw [itoaS_eq n h0 h1];rfl,{
    env:=fun k hk=>⟨rfl,rfl⟩
    one:=hp.one
    V:=fun k f h=>(nomatch h)
    M:=fun k m h=>by
      rw [look_cons] at h
      split at h
      · cases h
        exact powT.mono (F:=F) (w:=w) ⟨fun _ h=>h,fun b hb=>hold b (hp.hF b hb)⟩ (fun b h=>h.elim) hT
      · cases h
    dis:=fun k k' m m' h h' hne=>by
      rw [look_cons] at h
      split at h
      · cases h;exact fun b hb=>hb.elim
      · cases h
    mF:=fun k m h b hb=>by
      rw [look_cons] at h
      split at h
      · cases h;exact hb.elim
      · cases h
    fresh:=fun k m h hf b hb=>by
      rw [look_cons] at h
      split at h
      · cases h;exact hb.elim
      · cases h
    F0:=fun _ h=>h
    F1:=fun _ h=>.inl h
    Fs:=fun b h=>Nat.lt_of_lt_of_le (hp.hF b h) (hsz)
    ext:=⟨rfl,rfl,⟨rfl,.inl trivial⟩,hsz,fun b hb=>hold b hb.1⟩ }⟩
end Gx
end
section
open Go Go.Kx Go.Proofs
namespace Gx
set_option maxRecDepth 20000
def jnRen:Go.Shelf.Ren:=⟨fun x=>match x with
  | 156=>25
  | 165=>51
  | 166=>52
  | 169=>53
  | 240=>109
  | 241=>110
  | 276=>177
  | 277=>178
  | n=>n,fun x=>match x with
  | 31=>38
  | 9=>9
  | 3=>3
  | 4=>4
  | 0=>0
  | 20=>20
  | 72=>124
  | 76=>128
  | 70=>121
  | 37=>122
  | 75=>127
  | 127=>194
  | 164=>250
  | 5=>5
  | 80=>130
  | n=>n,fun x=>x⟩
theorem jnLays:Go.Proofs.Lays.n156 Go.Proofs.Tryz.prog jnRen :=
  { mixed:=by kernel_rfl,
    f156:=Eq.trans Go.Proofs.Tryz.func25 (congrArg some (by kernel_rfl)),
    f165:=Eq.trans Go.Proofs.Tryz.func51 (congrArg some (by kernel_rfl)),
    f166:=Eq.trans Go.Proofs.Tryz.func52 (congrArg some (by kernel_rfl)),
    f169:=Eq.trans Go.Proofs.Tryz.func53 (congrArg some (by kernel_rfl)),
    f240:=Eq.trans Go.Proofs.Tryz.func109 (congrArg some (by kernel_rfl)),
    f241:=Eq.trans Go.Proofs.Tryz.func110 (congrArg some (by kernel_rfl)),
    f276:=Eq.trans Go.Proofs.Tryz.func177 (congrArg some (by kernel_rfl)),
    f277:=Eq.trans Go.Proofs.Tryz.func178 (congrArg some (by kernel_rfl)),
    t0:=Go.Proofs.Tryz.underlying0,
    a0:=Go.Proofs.Tryz.isAgg0,
    z0:=Go.Proofs.Tryz.sizeOf0,
    v0:=Go.Proofs.Tryz.zeroValue0,
    t3:=Go.Proofs.Tryz.underlying3,
    a3:=Go.Proofs.Tryz.isAgg3,
    z3:=Go.Proofs.Tryz.sizeOf3,
    v3:=Go.Proofs.Tryz.zeroValue3,
    t4:=Go.Proofs.Tryz.underlying4,
    a4:=Go.Proofs.Tryz.isAgg4,
    z4:=Go.Proofs.Tryz.sizeOf4,
    v4:=Go.Proofs.Tryz.zeroValue4,
    t9:=Go.Proofs.Tryz.underlying9,
    a9:=Go.Proofs.Tryz.isAgg9,
    z9:=Go.Proofs.Tryz.sizeOf9,
    v9:=Go.Proofs.Tryz.zeroValue9,
    t20:=Go.Proofs.Tryz.underlying20,
    a20:=Go.Proofs.Tryz.isAgg20,
    z20:=Go.Proofs.Tryz.sizeOf20,
    v20:=Go.Proofs.Tryz.zeroValue20,
    t31:=Go.Proofs.Tryz.underlying38,
    a31:=Go.Proofs.Tryz.isAgg38,
    z31:=Go.Proofs.Tryz.sizeOf38,
    v31:=Go.Proofs.Tryz.zeroValue38,
    t37:=Go.Proofs.Tryz.underlying122,
    a37:=Go.Proofs.Tryz.isAgg122,
    z37:=Go.Proofs.Tryz.sizeOf122,
    v37:=Go.Proofs.Tryz.zeroValue122,
    t70:=Go.Proofs.Tryz.underlying121,
    a70:=Go.Proofs.Tryz.isAgg121,
    z70:=Go.Proofs.Tryz.sizeOf121,
    v70:=Go.Proofs.Tryz.zeroValue121,
    t72:=Go.Proofs.Tryz.underlying124,
    a72:=Go.Proofs.Tryz.isAgg124,
    z72:=Go.Proofs.Tryz.sizeOf124,
    v72:=Go.Proofs.Tryz.zeroValue124,
    t75:=Go.Proofs.Tryz.underlying127,
    a75:=Go.Proofs.Tryz.isAgg127,
    z75:=Go.Proofs.Tryz.sizeOf127,
    v75:=Go.Proofs.Tryz.zeroValue127,
    t76:=Go.Proofs.Tryz.underlying128,
    a76:=Go.Proofs.Tryz.isAgg128,
    z76:=Go.Proofs.Tryz.sizeOf128,
    v76:=Go.Proofs.Tryz.zeroValue128,
    t127:=Go.Proofs.Tryz.underlying194,
    a127:=Go.Proofs.Tryz.isAgg194,
    z127:=Go.Proofs.Tryz.sizeOf194,
    v127:=Go.Proofs.Tryz.zeroValue194,
    t164:=Go.Proofs.Tryz.underlying250,
    a164:=Go.Proofs.Tryz.isAgg250,
    z164:=Go.Proofs.Tryz.sizeOf250,
    v164:=Go.Proofs.Tryz.zeroValue250 }
theorem jnExtra:Builder.Extra Tryz.prog jnRen where
  sizeBuilder:=by kernel_rfl
  liesBuilder:=by kernel_rfl
  t5:=Tryz.underlying5
  a5:=Tryz.isAgg5
  z5:=Tryz.sizeOf5
  v5:=Tryz.zeroValue5
  infoByte:=by kernel_rfl
  cellsByte:=by kernel_rfl
  sizeByte:=by kernel_rfl
  neB5:=by decide
theorem joinL_eq (sep:List UInt8):∀ xs:List (List UInt8),joinL sep xs=Go.Lib.join xs sep
  | []=>rfl
  | x::r=>(Go.Lib.join_cons x r sep).symm
/-- Texts, one behind the other: the text of the library, walked once for all. -/
theorem join_fn (xs:List ByteArray) (sep:ByteArray) (hN:xs.length≤140737488355328) (hlen:(joinL sep.data.toList (xs.map (·.data.toList))).length≤140737488355328) :
    Fn Tryz.prog 25 ⟨1,[.c (.sl 0),.c (.s sep)],[(0,.sl rS xs)],[],1,.c (.s ⟨(joinL sep.data.toList (xs.map (·.data.toList))).toArray⟩),[],[]⟩:=by
  refine ⟨⟨Tryz.f25,Tryz.func25,rfl,rfl⟩,fun E F w hp=>?_⟩
  have hV:=hp.V 0 (.sl rS xs) rfl
  have key:Calls Tryz.prog 25 #[E.ρ 0,.string sep] w fun e w'=>e=.returned (.string ⟨(joinL sep.data.toList (xs.map (·.data.toList))).toArray⟩)∧Go.RowKit.Below w.heap.size w w':=by
    rw [joinL_eq] at hlen ⊢
    rcases hV with ⟨rfl,a,c,hv⟩ | ⟨b,off,cap,arr,el,fz,hv,hc,hF,hh,hr⟩
    · rw [hv]
      refine (Any.strings_Join_none jnLays jnExtra a c sep w).mono ?_
      rintro e w' ⟨rfl,rfl⟩
      exact ⟨rfl,Go.RowKit.Below.refl _ _⟩
    · rw [hv]
      refine Any.strings_Join jnLays jnExtra b off cap xs sep w (fun j x hx=>?_) (hp.hF b hF) hN hc hlen
      obtain ⟨vs,hvs,hrow⟩:=hr j x hx
      have hvs:vs=[.string x]:=hvs
      subst hvs
      have:=hrow 0 (.string x) rfl
      unfold World.cell?
      rw [hh]
      simpa [rS] using this
  refine key.mono ?_
  rintro e w' ⟨rfl,hb⟩
  exact ⟨E,F,rfl,{
    env:=fun k hk=>⟨rfl,rfl⟩
    one:=hp.one
    V:=fun k f h=>(nomatch h)
    M:=fun k m h=>(nomatch h)
    dis:=fun k k' m m' h=>(nomatch h)
    mF:=fun k m h=>(nomatch h)
    fresh:=fun k m h=>(nomatch h)
    F0:=fun _ h=>h
    F1:=fun _ h=>.inl h
    Fs:=fun b h=>Nat.lt_of_lt_of_le (hp.hF b h) hb.size
    ext:=⟨hb.os,hb.tape,⟨hb.output,.inl trivial⟩,hb.size,fun b hz=>hb.block b hz.1⟩ }⟩
end Gx
end
section
open Go Go.Kx Go.Proofs
namespace Gx
set_option maxRecDepth 20000
def rpRen:Go.Shelf.Ren:=⟨fun x=>match x with
  | 105=>86
  | 212=>162
  | 99=>112
  | 165=>51
  | 166=>52
  | 170=>163
  | 169=>53
  | 263=>212
  | 264=>213
  | 206=>180
  | 240=>109
  | 241=>110
  | 276=>177
  | 277=>178
  | n=>n,fun x=>match x with
  | 9=>9
  | 3=>3
  | 4=>4
  | 20=>20
  | 0=>0
  | 46=>240
  | 109=>241
  | 5=>5
  | 72=>124
  | 76=>128
  | 51=>277
  | 146=>278
  | 53=>280
  | 148=>281
  | 70=>121
  | 37=>122
  | 75=>127
  | 127=>194
  | 164=>250
  | 80=>130
  | n=>n,fun x=>x⟩
theorem rpLays:Go.Proofs.Lays.n105 Go.Proofs.Tryz.prog rpRen :=
  { mixed:=by kernel_rfl,
    f99:=Eq.trans Go.Proofs.Tryz.func112 (congrArg some (by kernel_rfl)),
    f105:=Eq.trans Go.Proofs.Tryz.func86 (congrArg some (by kernel_rfl)),
    f165:=Eq.trans Go.Proofs.Tryz.func51 (congrArg some (by kernel_rfl)),
    f166:=Eq.trans Go.Proofs.Tryz.func52 (congrArg some (by kernel_rfl)),
    f169:=Eq.trans Go.Proofs.Tryz.func53 (congrArg some (by kernel_rfl)),
    f170:=Eq.trans Go.Proofs.Tryz.func163 (congrArg some (by kernel_rfl)),
    f206:=Eq.trans Go.Proofs.Tryz.func180 (congrArg some (by kernel_rfl)),
    f212:=Eq.trans Go.Proofs.Tryz.func162 (congrArg some (by kernel_rfl)),
    f240:=Eq.trans Go.Proofs.Tryz.func109 (congrArg some (by kernel_rfl)),
    f241:=Eq.trans Go.Proofs.Tryz.func110 (congrArg some (by kernel_rfl)),
    f263:=Eq.trans Go.Proofs.Tryz.func212 (congrArg some (by kernel_rfl)),
    f264:=Eq.trans Go.Proofs.Tryz.func213 (congrArg some (by kernel_rfl)),
    f276:=Eq.trans Go.Proofs.Tryz.func177 (congrArg some (by kernel_rfl)),
    f277:=Eq.trans Go.Proofs.Tryz.func178 (congrArg some (by kernel_rfl)),
    t0:=Go.Proofs.Tryz.underlying0,
    a0:=Go.Proofs.Tryz.isAgg0,
    z0:=Go.Proofs.Tryz.sizeOf0,
    v0:=Go.Proofs.Tryz.zeroValue0,
    t3:=Go.Proofs.Tryz.underlying3,
    a3:=Go.Proofs.Tryz.isAgg3,
    z3:=Go.Proofs.Tryz.sizeOf3,
    v3:=Go.Proofs.Tryz.zeroValue3,
    t4:=Go.Proofs.Tryz.underlying4,
    a4:=Go.Proofs.Tryz.isAgg4,
    z4:=Go.Proofs.Tryz.sizeOf4,
    v4:=Go.Proofs.Tryz.zeroValue4,
    t5:=Go.Proofs.Tryz.underlying5,
    a5:=Go.Proofs.Tryz.isAgg5,
    z5:=Go.Proofs.Tryz.sizeOf5,
    v5:=Go.Proofs.Tryz.zeroValue5,
    t9:=Go.Proofs.Tryz.underlying9,
    a9:=Go.Proofs.Tryz.isAgg9,
    z9:=Go.Proofs.Tryz.sizeOf9,
    v9:=Go.Proofs.Tryz.zeroValue9,
    t20:=Go.Proofs.Tryz.underlying20,
    a20:=Go.Proofs.Tryz.isAgg20,
    z20:=Go.Proofs.Tryz.sizeOf20,
    v20:=Go.Proofs.Tryz.zeroValue20,
    t37:=Go.Proofs.Tryz.underlying122,
    a37:=Go.Proofs.Tryz.isAgg122,
    z37:=Go.Proofs.Tryz.sizeOf122,
    v37:=Go.Proofs.Tryz.zeroValue122,
    t46:=Go.Proofs.Tryz.underlying240,
    a46:=Go.Proofs.Tryz.isAgg240,
    z46:=Go.Proofs.Tryz.sizeOf240,
    v46:=Go.Proofs.Tryz.zeroValue240,
    t51:=Go.Proofs.Tryz.underlying277,
    a51:=Go.Proofs.Tryz.isAgg277,
    z51:=Go.Proofs.Tryz.sizeOf277,
    v51:=Go.Proofs.Tryz.zeroValue277,
    t53:=Go.Proofs.Tryz.underlying280,
    a53:=Go.Proofs.Tryz.isAgg280,
    z53:=Go.Proofs.Tryz.sizeOf280,
    v53:=Go.Proofs.Tryz.zeroValue280,
    t70:=Go.Proofs.Tryz.underlying121,
    a70:=Go.Proofs.Tryz.isAgg121,
    z70:=Go.Proofs.Tryz.sizeOf121,
    v70:=Go.Proofs.Tryz.zeroValue121,
    t72:=Go.Proofs.Tryz.underlying124,
    a72:=Go.Proofs.Tryz.isAgg124,
    z72:=Go.Proofs.Tryz.sizeOf124,
    v72:=Go.Proofs.Tryz.zeroValue124,
    t75:=Go.Proofs.Tryz.underlying127,
    a75:=Go.Proofs.Tryz.isAgg127,
    z75:=Go.Proofs.Tryz.sizeOf127,
    v75:=Go.Proofs.Tryz.zeroValue127,
    t76:=Go.Proofs.Tryz.underlying128,
    a76:=Go.Proofs.Tryz.isAgg128,
    z76:=Go.Proofs.Tryz.sizeOf128,
    v76:=Go.Proofs.Tryz.zeroValue128,
    t109:=Go.Proofs.Tryz.underlying241,
    a109:=Go.Proofs.Tryz.isAgg241,
    z109:=Go.Proofs.Tryz.sizeOf241,
    v109:=Go.Proofs.Tryz.zeroValue241,
    t127:=Go.Proofs.Tryz.underlying194,
    a127:=Go.Proofs.Tryz.isAgg194,
    z127:=Go.Proofs.Tryz.sizeOf194,
    v127:=Go.Proofs.Tryz.zeroValue194,
    t146:=Go.Proofs.Tryz.underlying278,
    a146:=Go.Proofs.Tryz.isAgg278,
    z146:=Go.Proofs.Tryz.sizeOf278,
    v146:=Go.Proofs.Tryz.zeroValue278,
    t148:=Go.Proofs.Tryz.underlying281,
    a148:=Go.Proofs.Tryz.isAgg281,
    z148:=Go.Proofs.Tryz.sizeOf281,
    v148:=Go.Proofs.Tryz.zeroValue281,
    t164:=Go.Proofs.Tryz.underlying250,
    a164:=Go.Proofs.Tryz.isAgg250,
    z164:=Go.Proofs.Tryz.sizeOf250,
    v164:=Go.Proofs.Tryz.zeroValue250 }
theorem rpExtra:Builder.Extra Tryz.prog rpRen where
  sizeBuilder:=by kernel_rfl
  liesBuilder:=by kernel_rfl
  t5:=rpLays.t5
  a5:=rpLays.a5
  z5:=rpLays.z5
  v5:=rpLays.v5
  infoByte:=by kernel_rfl
  cellsByte:=by kernel_rfl
  sizeByte:=by kernel_rfl
  neB5:=by decide
/-- So many copies of a text: the text of the library, walked once for all. -/
theorem repeat_fn (s:ByteArray) (c:Nat) (hc:c≤9223372036854775807) (hlen:s.size * c≤140737488355328):Fn Tryz.prog 86 ⟨0,[.c (.s s),.c (.i .i64 (c:Int))],[],[],0,.c (.s ⟨(Go.Lib.repeatL s.data.toList c).toArray⟩),[],[]⟩:=by
  refine ⟨⟨Tryz.f86,Tryz.func86,rfl,rfl⟩,fun E F w hp=>?_⟩
  refine (Any.strings_Repeat rpLays rpExtra s c w hc hlen).mono ?_
  rintro e w' ⟨rfl,hb⟩
  exact ⟨E,F,rfl,{
    env:=fun k hk=>absurd hk (Nat.not_lt_zero k)
    one:=hp.one
    V:=fun k f h=>(nomatch h)
    M:=fun k m h=>(nomatch h)
    dis:=fun k k' m m' h=>(nomatch h)
    mF:=fun k m h=>(nomatch h)
    fresh:=fun k m h=>(nomatch h)
    F0:=fun _ h=>h
    F1:=fun _ h=>.inl h
    Fs:=fun b h=>Nat.lt_of_lt_of_le (hp.hF b h) hb.size
    ext:=⟨hb.os,hb.tape,⟨hb.output,.inl trivial⟩,hb.size,fun b hz=>hb.block b hz.1⟩ }⟩
end Gx
end
