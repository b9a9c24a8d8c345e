/- Functions of the library, by the contracts that are proved once for all programs. -/
import Derived.Shelf.SlSortCmp.NoneTotal
import Derived.Shelf.Strconv.Itoa3
import Derived.Shelf.Strings.OnBuilder
import Derived.WalkKit
import Derived.BigCall
import Derived.Test.YtdomlpmomldmhaaGreatDoorProg
import Derived.Test.YtdomlpmomldmhaaGreatDoorBlameShowPure
set_option linter.all false
section
open Go Go.Kx Go.Proofs
namespace Gx
set_option maxRecDepth 20000
def slRen:Go.Shelf.Ren:=⟨fun x=>match x with
  | 6=>215
  | 15=>263
  | 14=>262
  | 28=>288
  | 29=>289
  | 20=>280
  | 21=>281
  | 22=>282
  | 23=>283
  | 24=>284
  | 25=>285
  | 26=>286
  | 27=>287
  | 46=>304
  | 47=>305
  | 48=>306
  | 49=>307
  | 50=>308
  | 57=>317
  | n=>n,fun x=>match x with
  | 22=>189
  | 24=>3
  | 25=>269
  | 3=>3
  | 39=>273
  | 0=>0
  | 53=>336
  | 55=>338
  | 4=>4
  | 46=>330
  | 45=>329
  | 50=>214
  | 5=>5
  | 9=>9
  | 66=>353
  | 70=>357
  | 76=>364
  | 77=>156
  | n=>n,fun x=>x⟩
theorem slLays:SlLaysF.n6 Tryz.prog slRen :=
  { mixed:=by kernel_rfl,
    f6:=⟨ "slices.SortFunc[[]int,int]",of_decide_eq_true (by kernel_rfl),Eq.trans Tryz.func215 (congrArg some (by kernel_rfl))⟩,
    f14:=⟨ "slices.pdqsortCmpFunc[int]",of_decide_eq_true (by kernel_rfl),Eq.trans Tryz.func262 (congrArg some (by kernel_rfl))⟩,
    f15:=Eq.trans Tryz.func263 (congrArg some (by kernel_rfl)),
    f20:=⟨ "slices.insertionSortCmpFunc[int]",of_decide_eq_true (by kernel_rfl),Eq.trans Tryz.func280 (congrArg some (by kernel_rfl))⟩,
    f21:=⟨ "slices.heapSortCmpFunc[int]",of_decide_eq_true (by kernel_rfl),Eq.trans Tryz.func281 (congrArg some (by kernel_rfl))⟩,
    f22:=⟨ "slices.breakPatternsCmpFunc[int]",of_decide_eq_true (by kernel_rfl),Eq.trans Tryz.func282 (congrArg some (by kernel_rfl))⟩,
    f23:=⟨ "slices.choosePivotCmpFunc[int]",of_decide_eq_true (by kernel_rfl),Eq.trans Tryz.func283 (congrArg some (by kernel_rfl))⟩,
    f24:=⟨ "slices.reverseRangeCmpFunc[int]",of_decide_eq_true (by kernel_rfl),Eq.trans Tryz.func284 (congrArg some (by kernel_rfl))⟩,
    f25:=⟨ "slices.partialInsertionSortCmpFunc[int]",of_decide_eq_true (by kernel_rfl),Eq.trans Tryz.func285 (congrArg some (by kernel_rfl))⟩,
    f26:=⟨ "slices.partitionEqualCmpFunc[int]",of_decide_eq_true (by kernel_rfl),Eq.trans Tryz.func286 (congrArg some (by kernel_rfl))⟩,
    f27:=⟨ "slices.partitionCmpFunc[int]",of_decide_eq_true (by kernel_rfl),Eq.trans Tryz.func287 (congrArg some (by kernel_rfl))⟩,
    f28:=Eq.trans Tryz.func288 (congrArg some (by kernel_rfl)),
    f29:=Eq.trans Tryz.func289 (congrArg some (by kernel_rfl)),
    f46:=⟨ "slices.siftDownCmpFunc[int]",of_decide_eq_true (by kernel_rfl),Eq.trans Tryz.func304 (congrArg some (by kernel_rfl))⟩,
    f47:=Eq.trans Tryz.func305 (congrArg some (by kernel_rfl)),
    f48:=Eq.trans Tryz.func306 (congrArg some (by kernel_rfl)),
    f49:=⟨ "slices.medianAdjacentCmpFunc[int]",of_decide_eq_true (by kernel_rfl),Eq.trans Tryz.func307 (congrArg some (by kernel_rfl))⟩,
    f50:=⟨ "slices.medianCmpFunc[int]",of_decide_eq_true (by kernel_rfl),Eq.trans Tryz.func308 (congrArg some (by kernel_rfl))⟩,
    f57:=⟨ "slices.order2CmpFunc[int]",of_decide_eq_true (by kernel_rfl),Eq.trans Tryz.func317 (congrArg some (by kernel_rfl))⟩,
    t0:=Tryz.underlying0,
    a0:=Tryz.isAgg0,
    z0:=Tryz.sizeOf0,
    v0:=Tryz.zeroValue0,
    t3:=Tryz.underlying3,
    a3:=Tryz.isAgg3,
    z3:=Tryz.sizeOf3,
    v3:=Tryz.zeroValue3,
    t4:=Tryz.underlying4,
    a4:=Tryz.isAgg4,
    z4:=Tryz.sizeOf4,
    v4:=Tryz.zeroValue4,
    t5:=Tryz.underlying5,
    a5:=Tryz.isAgg5,
    z5:=Tryz.sizeOf5,
    v5:=Tryz.zeroValue5,
    t9:=Tryz.underlying9,
    a9:=Tryz.isAgg9,
    z9:=Tryz.sizeOf9,
    v9:=Tryz.zeroValue9,
    t22:=Tryz.underlying189,
    a22:=Tryz.isAgg189,
    z22:=Tryz.sizeOf189,
    v22:=Tryz.zeroValue189,
    a24:=Tryz.isAgg3,
    z24:=Tryz.sizeOf3,
    t25:=Tryz.underlying269,
    a25:=Tryz.isAgg269,
    z25:=Tryz.sizeOf269,
    v25:=Tryz.zeroValue269,
    t39:=Tryz.underlying273,
    a39:=Tryz.isAgg273,
    z39:=Tryz.sizeOf273,
    v39:=Tryz.zeroValue273,
    t45:=Tryz.underlying329,
    a45:=Tryz.isAgg329,
    z45:=Tryz.sizeOf329,
    v45:=Tryz.zeroValue329,
    t46:=Tryz.underlying330,
    a46:=Tryz.isAgg330,
    z46:=Tryz.sizeOf330,
    v46:=Tryz.zeroValue330,
    t50:=Tryz.underlying214,
    a50:=Tryz.isAgg214,
    z50:=Tryz.sizeOf214,
    v50:=Tryz.zeroValue214,
    t53:=Tryz.underlying336,
    a53:=Tryz.isAgg336,
    z53:=Tryz.sizeOf336,
    v53:=Tryz.zeroValue336,
    t55:=Tryz.underlying338,
    a55:=Tryz.isAgg338,
    z55:=Tryz.sizeOf338,
    v55:=Tryz.zeroValue338,
    t66:=Tryz.underlying353,
    a66:=Tryz.isAgg353,
    z66:=Tryz.sizeOf353,
    v66:=Tryz.zeroValue353,
    t70:=Tryz.underlying357,
    a70:=Tryz.isAgg357,
    z70:=Tryz.sizeOf357,
    v70:=Tryz.zeroValue357,
    t76:=Tryz.underlying364,
    a76:=Tryz.isAgg364,
    z76:=Tryz.sizeOf364,
    v76:=Tryz.zeroValue364,
    t77:=Tryz.underlying156,
    a77:=Tryz.isAgg156,
    z77:=Tryz.sizeOf156,
    v77:=Tryz.zeroValue156 }
end Gx
end
section
open Go Go.Kx Go.Proofs
namespace Gx
set_option maxRecDepth 20000
def itRen:Go.Shelf.Ren:=⟨fun x=>match x with
  | 171=>164
  | 243=>228
  | 246=>271
  | 283=>295
  | 284=>296
  | 285=>297
  | 286=>298
  | 129=>289
  | 317=>313
  | 318=>314
  | 319=>315
  | 320=>316
  | 337=>322
  | 338=>323
  | n=>n,fun x=>match x with
  | 3=>3
  | 9=>9
  | 2=>2
  | 4=>4
  | 171=>342
  | 0=>0
  | 53=>338
  | 37=>283
  | 5=>5
  | 173=>344
  | 212=>362
  | 51=>336
  | 20=>20
  | 213=>363
  | 46=>273
  | 232=>370
  | 233=>371
  | n=>n,fun x=>match x with
  | 17=>0
  | 18=>2
  | 19=>3
  | n=>n⟩
theorem itLays:Go.Proofs.LaysM.n171 Go.Proofs.Tryz.prog itRen :=
  { mixed:=by kernel_rfl,
    f129:=Eq.trans Go.Proofs.Tryz.func289 (congrArg some (by kernel_rfl)),
    f171:=Eq.trans Go.Proofs.Tryz.func164 (congrArg some (by kernel_rfl)),
    f243:=Eq.trans Go.Proofs.Tryz.func228 (congrArg some (by kernel_rfl)),
    f246:=Eq.trans Go.Proofs.Tryz.func271 (congrArg some (by kernel_rfl)),
    f283:=Eq.trans Go.Proofs.Tryz.func295 (congrArg some (by kernel_rfl)),
    f284:=Eq.trans Go.Proofs.Tryz.func296 (congrArg some (by kernel_rfl)),
    f285:=Eq.trans Go.Proofs.Tryz.func297 (congrArg some (by kernel_rfl)),
    f286:=Eq.trans Go.Proofs.Tryz.func298 (congrArg some (by kernel_rfl)),
    f317:=Eq.trans Go.Proofs.Tryz.func313 (congrArg some (by kernel_rfl)),
    f318:=Eq.trans Go.Proofs.Tryz.func314 (congrArg some (by kernel_rfl)),
    f319:=Eq.trans Go.Proofs.Tryz.func315 (congrArg some (by kernel_rfl)),
    f320:=Eq.trans Go.Proofs.Tryz.func316 (congrArg some (by kernel_rfl)),
    f337:=Eq.trans Go.Proofs.Tryz.func322 (congrArg some (by kernel_rfl)),
    f338:=Eq.trans Go.Proofs.Tryz.func323 (congrArg some (by kernel_rfl)),
    t0:=Go.Proofs.Tryz.underlying0,
    a0:=Go.Proofs.Tryz.isAgg0,
    z0:=Go.Proofs.Tryz.sizeOf0,
    v0:=Go.Proofs.Tryz.zeroValue0,
    t2:=Go.Proofs.Tryz.underlying2,
    a2:=Go.Proofs.Tryz.isAgg2,
    z2:=Go.Proofs.Tryz.sizeOf2,
    v2:=Go.Proofs.Tryz.zeroValue2,
    t3:=Go.Proofs.Tryz.underlying3,
    a3:=Go.Proofs.Tryz.isAgg3,
    z3:=Go.Proofs.Tryz.sizeOf3,
    v3:=Go.Proofs.Tryz.zeroValue3,
    t4:=Go.Proofs.Tryz.underlying4,
    a4:=Go.Proofs.Tryz.isAgg4,
    z4:=Go.Proofs.Tryz.sizeOf4,
    v4:=Go.Proofs.Tryz.zeroValue4,
    t5:=Go.Proofs.Tryz.underlying5,
    a5:=Go.Proofs.Tryz.isAgg5,
    z5:=Go.Proofs.Tryz.sizeOf5,
    v5:=Go.Proofs.Tryz.zeroValue5,
    t9:=Go.Proofs.Tryz.underlying9,
    a9:=Go.Proofs.Tryz.isAgg9,
    z9:=Go.Proofs.Tryz.sizeOf9,
    v9:=Go.Proofs.Tryz.zeroValue9,
    t20:=Go.Proofs.Tryz.underlying20,
    a20:=Go.Proofs.Tryz.isAgg20,
    z20:=Go.Proofs.Tryz.sizeOf20,
    v20:=Go.Proofs.Tryz.zeroValue20,
    t37:=Go.Proofs.Tryz.underlying283,
    a37:=Go.Proofs.Tryz.isAgg283,
    z37:=Go.Proofs.Tryz.sizeOf283,
    v37:=Go.Proofs.Tryz.zeroValue283,
    t46:=Go.Proofs.Tryz.underlying273,
    a46:=Go.Proofs.Tryz.isAgg273,
    z46:=Go.Proofs.Tryz.sizeOf273,
    v46:=Go.Proofs.Tryz.zeroValue273,
    t51:=Go.Proofs.Tryz.underlying336,
    a51:=Go.Proofs.Tryz.isAgg336,
    z51:=Go.Proofs.Tryz.sizeOf336,
    v51:=Go.Proofs.Tryz.zeroValue336,
    t53:=Go.Proofs.Tryz.underlying338,
    a53:=Go.Proofs.Tryz.isAgg338,
    z53:=Go.Proofs.Tryz.sizeOf338,
    v53:=Go.Proofs.Tryz.zeroValue338,
    t171:=Go.Proofs.Tryz.underlying342,
    a171:=Go.Proofs.Tryz.isAgg342,
    z171:=Go.Proofs.Tryz.sizeOf342,
    v171:=Go.Proofs.Tryz.zeroValue342,
    t173:=Go.Proofs.Tryz.underlying344,
    a173:=Go.Proofs.Tryz.isAgg344,
    z173:=Go.Proofs.Tryz.sizeOf344,
    v173:=Go.Proofs.Tryz.zeroValue344,
    t212:=Go.Proofs.Tryz.underlying362,
    a212:=Go.Proofs.Tryz.isAgg362,
    z212:=Go.Proofs.Tryz.sizeOf362,
    v212:=Go.Proofs.Tryz.zeroValue362,
    t213:=Go.Proofs.Tryz.underlying363,
    a213:=Go.Proofs.Tryz.isAgg363,
    z213:=Go.Proofs.Tryz.sizeOf363,
    t232:=Go.Proofs.Tryz.underlying370,
    a232:=Go.Proofs.Tryz.isAgg370,
    z232:=Go.Proofs.Tryz.sizeOf370,
    v232:=Go.Proofs.Tryz.zeroValue370,
    t233:=Go.Proofs.Tryz.underlying371,
    a233:=Go.Proofs.Tryz.isAgg371,
    z233:=Go.Proofs.Tryz.sizeOf371,
    v233:=Go.Proofs.Tryz.zeroValue371,
    g17:=by kernel_rfl,
    g18:=by kernel_rfl,
    g19:=by kernel_rfl,
    i0:=by kernel_rfl,
    i2:=by kernel_rfl,
    i3:=by kernel_rfl,
    i4:=by kernel_rfl,
    i5:=by kernel_rfl,
    i9:=by kernel_rfl,
    i20:=by kernel_rfl,
    i37:=by kernel_rfl,
    i46:=by kernel_rfl,
    i51:=by kernel_rfl,
    i53:=by kernel_rfl,
    i171:=by kernel_rfl,
    i173:=by kernel_rfl,
    i212:=by kernel_rfl,
    i232:=by kernel_rfl,
    i233:=by kernel_rfl,
    m17:=by kernel_rfl,
    m18:=by kernel_rfl,
    m19:=by kernel_rfl }
instance LxT:LxP:=⟨True⟩
theorem digN_eq:∀ (f u:Nat),u < 10 ^ (f+1)→digN (f+1) u=Go.Lib.decDigits u:=by
  intro f
  induction f with
  | zero =>
    intro u h
    have h:u < 10:=by simpa using h
    rw [Go.Lib.decDigits,dif_pos h]
    unfold digN
    have:Nat.blt u 10=true:=by unfold Nat.blt;exact Nat.ble_eq_true_of_le h
    rw [this];rfl
  | succ f ih =>
    intro u h
    rw [Go.Lib.decDigits]
    unfold digN
    by_cases c:u < 10
    · rw [dif_pos c]
      have:Nat.blt u 10=true:=by unfold Nat.blt;exact Nat.ble_eq_true_of_le c
      rw [this];rfl
    · rw [dif_neg c]
      have:Nat.blt u 10=false:=by
        cases hb:Nat.blt u 10 with
        | false=>rfl
        | true=>exact absurd (blt_lt hb) c
      rw [this,cond_false,ih (u / 10) (by rw [Nat.pow_succ] at h;omega)]
theorem itoaS_eq (n:Int) (h0:-9223372036854775808≤n) (h1:n≤9223372036854775807):itoaS n=⟨(Go.Lib.itoa n).toArray⟩:=by
  unfold itoaS Go.Lib.itoa
  by_cases c:n < 0
  · rw [decide_eq_true c,if_pos c,cond_true,digN_eq 24 _ (by omega)]
  · rw [decide_eq_false c,if_neg c,cond_false,digN_eq 24 _ (by omega)]
abbrev powT:AbsR:=tabG Tryz.prog 0 "internal/strconv.uint64pow10" .u64 Go.Lib.pow10Tab
/-- A number's numeral: the text of the library, walked once for all. -/
theorem itoa_fn (n:Int) (h0:-9223372036854775808≤n) (h1:n≤9223372036854775807):Fn Tryz.prog 164 ⟨1,[.c (.i .i64 n)],[],[(0,.abs powT)],1,.c (.s (itoaS n)),[],[(0,.abs powT)]⟩:=by
  refine ⟨⟨Tryz.f164,Tryz.func164,rfl,rfl⟩,fun E F w hp=>?_⟩
  have hT:F 0∧Tryz.prog.globalNamed "internal/strconv.uint64pow10"=some 0∧Go.Lib.TabIs Tryz.prog w "internal/strconv.uint64pow10" .u64 Go.Lib.pow10Tab:=hp.M 0 (.abs powT) rfl
  refine (Any.strconv_Itoa itLays n h0 h1 w hT.2.2).mono ?_
  rintro e w' ⟨rfl,k,os,rfl⟩
  have hold:∀ b,b < w.heap.size→(Go.Sort.grow (w.drewN k) os).heap[b]? = w.heap[b]? := fun b hb=>Go.Sort.heap_grow_old (w.drewN k) os hb
  have hsz:w.heap.size≤(Go.Sort.grow (w.drewN k) os).heap.size:=by
    show w.heap.size≤(w.heap++os).size
    simp
  refine ⟨E,F,by rw [itoaS_eq n h0 h1];rfl,{
    env:=fun k hk=>⟨rfl,rfl⟩
    one:=hp.one
    V:=fun k f h=>(nomatch h)
    M:=fun k m h=>by
      rw [look_cons] at h
      split at h
      · cases h
        exact powT.mono (F:=F) (w:=w) ⟨fun _ h=>h,fun b hb=>hold b (hp.hF b hb)⟩ (fun b h=>h.elim) hT
      · cases h
    dis:=fun k k' m m' h h' hne=>by
      rw [look_cons] at h
      split at h
      · cases h;exact fun b hb=>hb.elim
      · cases h
    mF:=fun k m h b hb=>by
      rw [look_cons] at h
      split at h
      · cases h;exact hb.elim
      · cases h
    fresh:=fun k m h hf b hb=>by
      rw [look_cons] at h
      split at h
      · cases h;exact hb.elim
      · cases h
    F0:=fun _ h=>h
    F1:=fun _ h=>.inl h
    Fs:=fun b h=>Nat.lt_of_lt_of_le (hp.hF b h) (hsz)
    ext:=⟨rfl,rfl,⟨rfl,.inl trivial⟩,hsz,fun b hb=>hold b hb.1⟩ }⟩
end Gx
end
section
open Go Go.Kx Go.Proofs
namespace Gx
set_option maxRecDepth 20000
def jnRen:Go.Shelf.Ren:=⟨fun x=>match x with
  | 156=>167
  | 165=>231
  | 166=>232
  | 169=>230
  | 240=>272
  | 241=>273
  | 276=>299
  | 277=>300
  | n=>n,fun x=>match x with
  | 31=>22
  | 9=>9
  | 3=>3
  | 4=>4
  | 0=>0
  | 20=>20
  | 72=>285
  | 76=>291
  | 70=>282
  | 37=>283
  | 75=>287
  | 127=>320
  | 164=>346
  | 5=>5
  | 80=>289
  | n=>n,fun x=>x⟩
theorem jnLays:Go.Proofs.Lays.n156 Go.Proofs.Tryz.prog jnRen :=
  { mixed:=by kernel_rfl,
    f156:=Eq.trans Go.Proofs.Tryz.func167 (congrArg some (by kernel_rfl)),
    f165:=Eq.trans Go.Proofs.Tryz.func231 (congrArg some (by kernel_rfl)),
    f166:=Eq.trans Go.Proofs.Tryz.func232 (congrArg some (by kernel_rfl)),
    f169:=Eq.trans Go.Proofs.Tryz.func230 (congrArg some (by kernel_rfl)),
    f240:=Eq.trans Go.Proofs.Tryz.func272 (congrArg some (by kernel_rfl)),
    f241:=Eq.trans Go.Proofs.Tryz.func273 (congrArg some (by kernel_rfl)),
    f276:=Eq.trans Go.Proofs.Tryz.func299 (congrArg some (by kernel_rfl)),
    f277:=Eq.trans Go.Proofs.Tryz.func300 (congrArg some (by kernel_rfl)),
    t0:=Go.Proofs.Tryz.underlying0,
    a0:=Go.Proofs.Tryz.isAgg0,
    z0:=Go.Proofs.Tryz.sizeOf0,
    v0:=Go.Proofs.Tryz.zeroValue0,
    t3:=Go.Proofs.Tryz.underlying3,
    a3:=Go.Proofs.Tryz.isAgg3,
    z3:=Go.Proofs.Tryz.sizeOf3,
    v3:=Go.Proofs.Tryz.zeroValue3,
    t4:=Go.Proofs.Tryz.underlying4,
    a4:=Go.Proofs.Tryz.isAgg4,
    z4:=Go.Proofs.Tryz.sizeOf4,
    v4:=Go.Proofs.Tryz.zeroValue4,
    t9:=Go.Proofs.Tryz.underlying9,
    a9:=Go.Proofs.Tryz.isAgg9,
    z9:=Go.Proofs.Tryz.sizeOf9,
    v9:=Go.Proofs.Tryz.zeroValue9,
    t20:=Go.Proofs.Tryz.underlying20,
    a20:=Go.Proofs.Tryz.isAgg20,
    z20:=Go.Proofs.Tryz.sizeOf20,
    v20:=Go.Proofs.Tryz.zeroValue20,
    t31:=Go.Proofs.Tryz.underlying22,
    a31:=Go.Proofs.Tryz.isAgg22,
    z31:=Go.Proofs.Tryz.sizeOf22,
    v31:=Go.Proofs.Tryz.zeroValue22,
    t37:=Go.Proofs.Tryz.underlying283,
    a37:=Go.Proofs.Tryz.isAgg283,
    z37:=Go.Proofs.Tryz.sizeOf283,
    v37:=Go.Proofs.Tryz.zeroValue283,
    t70:=Go.Proofs.Tryz.underlying282,
    a70:=Go.Proofs.Tryz.isAgg282,
    z70:=Go.Proofs.Tryz.sizeOf282,
    v70:=Go.Proofs.Tryz.zeroValue282,
    t72:=Go.Proofs.Tryz.underlying285,
    a72:=Go.Proofs.Tryz.isAgg285,
    z72:=Go.Proofs.Tryz.sizeOf285,
    v72:=Go.Proofs.Tryz.zeroValue285,
    t75:=Go.Proofs.Tryz.underlying287,
    a75:=Go.Proofs.Tryz.isAgg287,
    z75:=Go.Proofs.Tryz.sizeOf287,
    v75:=Go.Proofs.Tryz.zeroValue287,
    t76:=Go.Proofs.Tryz.underlying291,
    a76:=Go.Proofs.Tryz.isAgg291,
    z76:=Go.Proofs.Tryz.sizeOf291,
    v76:=Go.Proofs.Tryz.zeroValue291,
    t127:=Go.Proofs.Tryz.underlying320,
    a127:=Go.Proofs.Tryz.isAgg320,
    z127:=Go.Proofs.Tryz.sizeOf320,
    v127:=Go.Proofs.Tryz.zeroValue320,
    t164:=Go.Proofs.Tryz.underlying346,
    a164:=Go.Proofs.Tryz.isAgg346,
    z164:=Go.Proofs.Tryz.sizeOf346,
    v164:=Go.Proofs.Tryz.zeroValue346 }
theorem jnExtra:Builder.Extra Tryz.prog jnRen where
  sizeBuilder:=by kernel_rfl
  liesBuilder:=by kernel_rfl
  t5:=Tryz.underlying5
  a5:=Tryz.isAgg5
  z5:=Tryz.sizeOf5
  v5:=Tryz.zeroValue5
  infoByte:=by kernel_rfl
  cellsByte:=by kernel_rfl
  sizeByte:=by kernel_rfl
  neB5:=by decide
theorem joinL_eq (sep:List UInt8):∀ xs:List (List UInt8),joinL sep xs=Go.Lib.join xs sep
  | []=>rfl
  | x::r=>(Go.Lib.join_cons x r sep).symm
/-- Texts, one behind the other: the text of the library, walked once for all. -/
theorem join_fn (xs:List ByteArray) (sep:ByteArray) (hN:xs.length≤140737488355328) (hlen:(joinL sep.data.toList (xs.map (·.data.toList))).length≤140737488355328) :
    Fn Tryz.prog 167 ⟨1,[.c (.sl 0),.c (.s sep)],[(0,.sl rS xs)],[],1,.c (.s ⟨(joinL sep.data.toList (xs.map (·.data.toList))).toArray⟩),[],[]⟩:=by
  refine ⟨⟨Tryz.f167,Tryz.func167,rfl,rfl⟩,fun E F w hp=>?_⟩
  have hV:=hp.V 0 (.sl rS xs) rfl
  have key:Calls Tryz.prog 167 #[E.ρ 0,.string sep] w fun e w'=>e=.returned (.string ⟨(joinL sep.data.toList (xs.map (·.data.toList))).toArray⟩)∧Go.RowKit.Below w.heap.size w w':=by
    rw [joinL_eq] at hlen ⊢
    rcases hV with ⟨rfl,a,c,hv⟩ | ⟨b,off,cap,arr,el,fz,hv,hc,hF,hh,hr⟩
    · rw [hv]
      refine (Any.strings_Join_none jnLays jnExtra a c sep w).mono ?_
      rintro e w' ⟨rfl,rfl⟩
      exact ⟨rfl,Go.RowKit.Below.refl _ _⟩
    · rw [hv]
      refine Any.strings_Join jnLays jnExtra b off cap xs sep w (fun j x hx=>?_) (hp.hF b hF) hN hc hlen
      obtain ⟨vs,hvs,hrow⟩:=hr j x hx
      have hvs:vs=[.string x]:=hvs
      subst hvs
      have:=hrow 0 (.string x) rfl
      unfold World.cell?
      rw [hh]
      simpa [rS] using this
  refine key.mono ?_
  rintro e w' ⟨rfl,hb⟩
  exact ⟨E,F,rfl,{
    env:=fun k hk=>⟨rfl,rfl⟩
    one:=hp.one
    V:=fun k f h=>(nomatch h)
    M:=fun k m h=>(nomatch h)
    dis:=fun k k' m m' h=>(nomatch h)
    mF:=fun k m h=>(nomatch h)
    fresh:=fun k m h=>(nomatch h)
    F0:=fun _ h=>h
    F1:=fun _ h=>.inl h
    Fs:=fun b h=>Nat.lt_of_lt_of_le (hp.hF b h) hb.size
    ext:=⟨hb.os,hb.tape,⟨hb.output,.inl trivial⟩,hb.size,fun b hz=>hb.block b hz.1⟩ }⟩
end Gx
end
section
open Go Go.Kx Go.Proofs
namespace Gx
set_option maxRecDepth 20000
def wbRen:Go.Shelf.Ren:=⟨fun x=>match x with
  | 156=>167
  | 165=>231
  | 166=>232
  | 169=>230
  | 240=>272
  | 241=>273
  | 276=>299
  | 277=>300
  | 167=>229
  | n=>n,jnRen.t,jnRen.g⟩
theorem wbLays:Go.Proofs.Lays.n167 Tryz.prog wbRen :=
  { mixed:=by kernel_rfl,
    f167:=Eq.trans Tryz.func229 (congrArg some (by kernel_rfl)),
    f240:=Eq.trans Tryz.func272 (congrArg some (by kernel_rfl)),
    f276:=Eq.trans Tryz.func299 (congrArg some (by kernel_rfl)),
    t0:=Tryz.underlying0,
    a0:=Tryz.isAgg0,
    z0:=Tryz.sizeOf0,
    v0:=Tryz.zeroValue0,
    t4:=Tryz.underlying4,
    a4:=Tryz.isAgg4,
    z4:=Tryz.sizeOf4,
    v4:=Tryz.zeroValue4,
    t5:=Tryz.underlying5,
    a5:=Tryz.isAgg5,
    z5:=Tryz.sizeOf5,
    v5:=Tryz.zeroValue5,
    t9:=Tryz.underlying9,
    a9:=Tryz.isAgg9,
    z9:=Tryz.sizeOf9,
    v9:=Tryz.zeroValue9,
    t20:=Tryz.underlying20,
    a20:=Tryz.isAgg20,
    z20:=Tryz.sizeOf20,
    v20:=Tryz.zeroValue20,
    t37:=Tryz.underlying283,
    a37:=Tryz.isAgg283,
    z37:=Tryz.sizeOf283,
    v37:=Tryz.zeroValue283,
    t70:=Tryz.underlying282,
    a70:=Tryz.isAgg282,
    z70:=Tryz.sizeOf282,
    v70:=Tryz.zeroValue282,
    t72:=Tryz.underlying285,
    a72:=Tryz.isAgg285,
    z72:=Tryz.sizeOf285,
    v72:=Tryz.zeroValue285,
    t75:=Tryz.underlying287,
    a75:=Tryz.isAgg287,
    z75:=Tryz.sizeOf287,
    v75:=Tryz.zeroValue287,
    t164:=Tryz.underlying346,
    a164:=Tryz.isAgg346,
    z164:=Tryz.sizeOf346,
    v164:=Tryz.zeroValue346 }
theorem wbExtra:Builder.Extra Tryz.prog wbRen where
  sizeBuilder:=by kernel_rfl
  liesBuilder:=by kernel_rfl
  t5:=Tryz.underlying5
  a5:=Tryz.isAgg5
  z5:=Tryz.sizeOf5
  v5:=Tryz.zeroValue5
  infoByte:=by kernel_rfl
  cellsByte:=by kernel_rfl
  sizeByte:=by kernel_rfl
  neB5:=by decide
theorem stLays:Go.Proofs.Lays.n169 Tryz.prog jnRen:={ jnLays with }
end Gx
end
section
open Go Go.Kx Go.Proofs Go.RowKit
namespace Gx
theorem calls_flat {P:Program} {f:FuncId} {args:List SV} {b:Bool} (h:Fn P f ⟨0,args,[],[],0,.c (.b b),[],[]⟩) (w:World):Calls P f (args.map (denV E00)).toArray w fun e w'=>e=.returned (.bool b)∧Below w.heap.size w w':=by
  refine (h.calls E00 (fun _=>False) w { one:=fun k=>rfl,hF:=fun b h=>h.elim,V:=fun k f h=>(nomatch h),M:=fun k m h=>(nomatch h),dis:=fun k k' m m' h=>(nomatch h),mF:=fun k m h=>(nomatch h) }).mono ?_
  rintro e w' ⟨E',F',rfl,hp⟩
  exact ⟨rfl,hp.ext.os,hp.ext.tape,hp.ext.output.out,hp.ext.size,fun b hb=>hp.ext.block b ⟨hb,fun ⟨k,m,hk,_⟩=>(nomatch hk)⟩⟩
theorem quoB_len (b:UInt8):(quoB b).length≤2:=by unfold quoB;split<;>simp
theorem quoL_len:∀ l:List UInt8,(quoL l).length≤2 * l.length
  | []=>by simp [quoL]
  | b::l=>by
    have:=quoL_len l
    have h2:=quoB_len b
    have e:quoL (b::l)=quoB b++quoL l:=by simp [quoL]
    rw [e,List.length_append,List.length_cons];omega
theorem quoL_next (l:List UInt8) (j:Nat) (h:j < l.length):quoL (l.take (j+1))=quoL (l.take j)++quoB l[j]:=by
  unfold quoL
  rw [List.take_succ_eq_append_getElem h,List.map_append,List.flatten_append]
  simp
theorem quo_hal (l:List UInt8) (j n:Nat) (h:j≤n) (hn:n≤35184372088832):([34]++quoL (l.take j)).length+1≤140737488355328:=by
  have hq:=quoL_len (l.take j)
  rw [List.length_take] at hq
  rw [List.length_append,List.length_singleton]
  omega
theorem quo_hal2 (l:List UInt8) (j n:Nat) (c:UInt8) (h:j≤n) (hn:n≤35184372088832):([34]++quoL (l.take j)++[c]).length+1≤140737488355328:=by
  have hq:=quoL_len (l.take j)
  rw [List.length_take] at hq
  rw [List.length_append,List.length_append,List.length_singleton,List.length_singleton]
  omega
theorem meas (n j:Nat) (h:j < n):n-(Go.RowKit.intOf (Value.int IntKind.i64 ((j:Int)+1))).toNat < n-(Go.RowKit.intOf (Value.int IntKind.i64 (j:Int))).toNat:=by
  show n-((j:Int)+1).toNat < n-((j:Int)).toNat
  omega
theorem e92:(92:Int)=((92:UInt8).toNat:Int):=by decide
theorem e34:(34:Int)=((34:UInt8).toNat:Int):=by decide
theorem ba_len (s:ByteArray):s.data.toList.length=s.size:=rfl
theorem ba_get (s:ByteArray) (j:Nat) (h:j < s.size):s.data.toList[j]'(by rw [ba_len];exact h)=s[j]'h:=by
  rw [Array.getElem_toList];rfl
theorem wbk {B:Nat} (acc:List UInt8) (c:UInt8) (n:Int) (hn:n=(c.toNat:Int)) {wr:World} (hI:Go.Lib.IsBuilder 285 5 B B (Go.Lib.byteCells acc) wr) (hl:acc.length+1≤140737488355328) (hBw:B≤wr.heap.size) :
    Calls Tryz.prog 229 #[.pointer (some ⟨B,0,none⟩),.int .u8 n] wr fun e w'=>e=.returned .nilIface∧Go.Lib.IsBuilder 285 5 B B (Go.Lib.byteCells (acc++[c])) w'∧Below B wr w':=by
  subst hn
  refine (Any.Builder_WriteByte wbLays wbExtra B B _ (c.toNat:Int) wr hI (by rw [Go.Lib.byteCells_length];exact hl) hBw).mono ?_
  rintro e w' ⟨rfl,h1,h2⟩
  refine ⟨rfl,?_,h2⟩
  rw [Go.Lib.byteCells_append]
  exact Or.inr h1
theorem wbx {B:Nat} (acc:List UInt8) (n:Int) (hn:∃ c:UInt8,n=(c.toNat:Int)) {wr:World} (hI:Go.Lib.IsBuilder 285 5 B B (Go.Lib.byteCells acc) wr) (hl:acc.length+1≤140737488355328) (hBw:B≤wr.heap.size) :
    Calls Tryz.prog 229 #[.pointer (some ⟨B,0,none⟩),.int .u8 n] wr fun e w'=>e=.returned .nilIface∧(∃ c:UInt8,n=(c.toNat:Int)∧Go.Lib.IsBuilder 285 5 B B (Go.Lib.byteCells (acc++[c])) w')∧Below B wr w':=by
  obtain ⟨c,hc⟩:=hn
  exact (wbk acc c n hc hI hl hBw).mono fun e w' ⟨h1,h2,h3⟩=>⟨h1,⟨c,hc,h2⟩,h3⟩
theorem u8_inj {a b:UInt8} (h:(a.toNat:Int)=(b.toNat:Int)):a=b:=UInt8.toNat.inj (by omega)
theorem u8_92 {c:UInt8} (h:(92:Int)=(c.toNat:Int)):c=92:=u8_inj (h.symm.trans e92)
theorem quo_34 {c:UInt8} (h:(c.toNat:Int)=34):quoB c=[92]++[c]:=by
  have:c=34:=u8_inj (h.trans e34)
  subst this;rfl
theorem quo_92 {c:UInt8} (h1:¬ (c.toNat:Int)=34) (h:((c.toNat:Int)==34)=true∨((c.toNat:Int)==92)=true):quoB c=[92]++[c]:=by
  have:c=92:=by
    rcases h with h | h
    · exact absurd (eq_of_beq h) h1
    · exact u8_inj ((eq_of_beq h).trans e92)
  subst this;rfl
theorem quo_no {c:UInt8} (h:((c.toNat:Int)==34)=false∧((c.toNat:Int)==92)=false):quoB c=[c]:=by
  unfold quoB
  rw [if_neg]
  rintro (e | e)
  · subst e;exact absurd h.1 (by decide)
  · subst e;exact absurd h.2 (by decide)
set_option maxHeartbeats 4000000 in
set_option maxRecDepth 1000000 in
theorem show_walk (k n:Int) (s:ByteArray) (w:World) (b:Bool) (hv:Fn Tryz.prog 139 ⟨0,[.a [.i .i64 k,.i .i64 n,.s s]],[],[],0,.c (.b b),[],[]⟩) (hn:∀ (w':World),Below w.heap.size w w'→Go.Lib.TabIs Tryz.prog w' "internal/strconv.uint64pow10" .u64 Go.Lib.pow10Tab)
    (h0:-9223372036854775808≤n) (h1:n≤9223372036854775807) (hs:s.size≤35184372088832) :
    Calls Tryz.prog 165 #[.agg #[.int .i64 k,.int .i64 n,.string s]] w fun e w'=>e=.returned (.string (if b=false then str [63] else if k=1 then itoaS n else ⟨([34]++quoL s.data.toList++[34]).toArray⟩))∧Below w.heap.size w w':=by
  go_enter Tryz.func165,Tryz.ntmps165
  go_wp2_with (go_at_call 139;refine (calls_flat hv _).mono ?_)
  rintro e w1 ⟨rfl,hb1⟩
  have hlt0:w.heap.size < (w.alloc (Obj.cells #[Value.int IntKind.i64 k,Value.int IntKind.i64 n,Value.string s] 89)).heap.size:=by
    show w.heap.size < (w.heap.push _).size
    rw [Array.size_push];omega
  have hblk:w1.heap[w.heap.size]? = some (.cells #[.int .i64 k,.int .i64 n,.string s] 89 (0,0)):=by
    rw [hb1.block _ hlt0]
    exact heap_alloc_new w _
  have c0:w1.cell? ⟨w.heap.size,0,none⟩=some (.int .i64 k):=by rw [Go.Lib.cell_of_heap hblk];rfl
  have c1:w1.cell? ⟨w.heap.size,1,none⟩=some (.int .i64 n):=by rw [Go.Lib.cell_of_heap hblk];rfl
  have c2:w1.cell? ⟨w.heap.size,2,none⟩=some (.string s):=by rw [Go.Lib.cell_of_heap hblk];rfl
  have hbw:Below w.heap.size w w1:=((Below.refl _ w).alloc (Nat.le_refl _) _).trans (hb1.mono (Nat.le_of_lt hlt0))
  cases b with
  | false =>
    go_wp2
    go_ret
    exact ⟨rfl,hbw⟩
  | true =>
    by_cases hk:k=1
    · subst hk
      go_wp2_with (go_at_call 164;refine (Any.strconv_Itoa itLays n h0 h1 _ (hn _ hbw)).mono ?_)
      rintro e w2 ⟨rfl,q,os,rfl⟩
      go_wp2
      go_ret
      exact ⟨by rw [itoaS_eq n h0 h1];rfl,hbw.trans ⟨rfl,rfl,rfl,by show w1.heap.size≤(w1.heap++os).size;simp,fun j hj=>Go.Sort.heap_grow_old (w1.drewN q) os (Nat.lt_of_lt_of_le hj hbw.size)⟩⟩
    · have hB:w.heap.size < w1.heap.size:=Nat.lt_of_lt_of_le hlt0 hb1.size
      go_wp2_with (go_at_call 229;refine (Any.Builder_WriteByte wbLays wbExtra w1.heap.size w1.heap.size [] 34 _ (Go.Lib.fresh_isBuilder 285 5 w1) (by simp) (by show w1.heap.size≤(w1.heap.push _).size;simp)).mono ?_)
      rintro e w2 ⟨rfl,hI2,hb2⟩
      have hb2':Below w1.heap.size w1 w2:=((Below.refl _ w1).alloc (Nat.le_refl _) _).trans hb2
      clear hb2
      have c2':w2.cell? ⟨w.heap.size,2,none⟩=some (.string s):=by
        have:w2.heap[w.heap.size]? = w1.heap[w.heap.size]? := hb2'.block _ hB
        rw [hblk] at this
        rw [Go.Lib.cell_of_heap this];rfl
      go_wp2
      have hlen:=ba_len s
      go_loopw [20] (fun i wr=>∃ k:Nat,i=.int .i64 k∧k≤s.size∧Go.Lib.IsBuilder 285 5 w1.heap.size w1.heap.size (Go.Lib.byteCells ([34]++quoL (s.data.toList.take k))) wr∧Below w1.heap.size w1 wr) (fun i _=>s.size-(Go.RowKit.intOf i).toNat)
      case atStart=>exact ⟨0,rfl,Nat.zero_le _,Or.inr hI2,hb2'⟩
      case round =>
        obtain ⟨j,rfl,hj,hI,hbr⟩:=hrel
        have c2r:wr.cell? ⟨w.heap.size,2,none⟩=some (.string s):=by
          have:wr.heap[w.heap.size]? = w1.heap[w.heap.size]? := hbr.block _ hB
          rw [hblk] at this
          rw [Go.Lib.cell_of_heap this];rfl
        have hal:=quo_hal s.data.toList j s.size hj hs
        by_cases hjs:j < s.size
        · have hnx:=quoL_next s.data.toList j (by rw [hlen];exact hjs)
          rw [ba_get s j hjs] at hnx
          go_wp2_with (go_at_call 229;refine (wbx _ _ (by first | exact ⟨_,rfl⟩ | exact ⟨92,e92⟩) hI hal hbr.size).mono ?_)
          · rintro e w3 ⟨rfl,⟨c,hc,hI3⟩,hb3⟩
            rename_i HH K0 a0
            obtain rfl:c=92:=u8_92 hc
            have hqb:quoB (s[j]'hjs)=[92]++[s[j]'hjs]:=quo_34 HH
            have c3:w3.cell? ⟨w.heap.size,2,none⟩=some (.string s):=by
              have:w3.heap[w.heap.size]? = w1.heap[w.heap.size]? := (hbr.trans hb3).block _ hB
              rw [hblk] at this
              rw [Go.Lib.cell_of_heap this];rfl
            go_wp2_with (go_at_call 229;refine (wbk _ 34 34 e34 hI3 (quo_hal2 s.data.toList j s.size 92 hj hs) (hbr.trans hb3).size).mono ?_)
            rintro e w4 ⟨rfl,hI4,hb4⟩
            go_wp2
            go_roundw
            case rel =>
              refine ⟨j+1,rfl,hjs,?_,(hbr.trans hb3).trans hb4⟩
              rw [hnx,hqb,← List.append_assoc,← List.append_assoc,show s[j]'hjs=34 from u8_inj (HH.trans e34)]
              exact hI4
            case measure=>exact meas s.size j hjs
          · rintro e w3 ⟨rfl,⟨c,hc,hI3⟩,hb3⟩
            rename_i H1 HH K0 a0
            obtain rfl:c=92:=u8_92 hc
            have hqb:quoB (s[j]'hjs)=[92]++[s[j]'hjs]:=quo_92 H1 HH
            have c3:w3.cell? ⟨w.heap.size,2,none⟩=some (.string s):=by
              have:w3.heap[w.heap.size]? = w1.heap[w.heap.size]? := (hbr.trans hb3).block _ hB
              rw [hblk] at this
              rw [Go.Lib.cell_of_heap this];rfl
            go_wp2_with (go_at_call 229;refine (wbk _ (s[j]'hjs) _ rfl hI3 (quo_hal2 s.data.toList j s.size 92 hj hs) (hbr.trans hb3).size).mono ?_)
            rintro e w4 ⟨rfl,hI4,hb4⟩
            go_wp2
            go_roundw
            case rel =>
              refine ⟨j+1,rfl,hjs,?_,(hbr.trans hb3).trans hb4⟩
              rw [hnx,hqb,← List.append_assoc,← List.append_assoc]
              exact hI4
            case measure=>exact meas s.size j hjs
          · rintro e w3 ⟨rfl,⟨c,hc,hI3⟩,hb3⟩
            obtain rfl:s[j]'hjs=c:=u8_inj hc
            have HH:(((s[j]'hjs).toNat:Int)==34)=false∧(((s[j]'hjs).toNat:Int)==92)=false:=by assumption
            have hqb:quoB (s[j]'hjs)=[s[j]'hjs]:=quo_no HH
            go_wp2
            go_roundw
            case rel =>
              refine ⟨j+1,rfl,hjs,?_,hbr.trans hb3⟩
              rw [hnx,hqb,← List.append_assoc]
              exact hI3
            case measure=>exact meas s.size j hjs
        · have hje:j=s.size:=by omega
          go_wp2_with (go_at_call 229;refine (wbk _ 34 _ e34 hI hal hbr.size).mono ?_)
          rintro e w3 ⟨rfl,hI3,hb3⟩
          go_wp2_with (go_at_call 230;refine (Any.Builder_String_any stLays jnExtra w1.heap.size w1.heap.size _ w3 hI3 (hbr.trans hb3).size).mono ?_)
          rintro e w4 ⟨rfl,hb4⟩
          go_wp2
          go_ret
          subst hje
          have htk:s.data.toList.take s.size=s.data.toList:=List.take_of_length_le (Nat.le_of_eq (ba_len s))
          rw [htk]
          refine ⟨?_,hbw.trans (((hbr.trans hb3).trans hb4).mono (Nat.le_of_lt hB))⟩
          rfl
/-- The notation of a value. -/
theorem show_fn (k n:Int) (s:ByteArray) (b:Bool) (hv:Fn Tryz.prog 139 ⟨0,[.a [.i .i64 k,.i .i64 n,.s s]],[],[],0,.c (.b b),[],[]⟩) (h0:-9223372036854775808≤n) (h1:n≤9223372036854775807) (hs:s.size≤35184372088832) :
    Fn Tryz.prog 165 ⟨1,[.a [.i .i64 k,.i .i64 n,.s s]],[],[(0,.abs powT)],1,.c (.s (if b=false then str [63] else if k=1 then itoaS n else ⟨([34]++quoL s.data.toList++[34]).toArray⟩)),[],[(0,.abs powT)]⟩:=by
  refine ⟨⟨Tryz.f165,Tryz.func165,rfl,rfl⟩,fun E F w hp=>?_⟩
  have hT:F 0∧Tryz.prog.globalNamed "internal/strconv.uint64pow10"=some 0∧Go.Lib.TabIs Tryz.prog w "internal/strconv.uint64pow10" .u64 Go.Lib.pow10Tab:=hp.M 0 (.abs powT) rfl
  have tab:∀ w',Below w.heap.size w w'→powT.ok F w':=fun w' hb=>powT.mono (F:=F) (w:=w) ⟨fun _ h=>h,fun b h=>hb.block b (hp.hF b h)⟩ (fun b h=>h.elim) hT
  refine (show_walk k n s w b hv (fun w' hb=>(tab w' hb).2.2) h0 h1 hs).mono ?_
  rintro e w' ⟨rfl,hb⟩
  refine ⟨E,F,rfl,{
    env:=fun k hk=>⟨rfl,rfl⟩
    one:=hp.one
    V:=fun k f h=>(nomatch h)
    M:=fun k m h=>by
      rw [look_cons] at h
      split at h
      · cases h;exact tab w' hb
      · cases h
    dis:=fun k k' m m' h h' hne=>by
      rw [look_cons] at h
      split at h
      · cases h;exact fun b hb=>hb.elim
      · cases h
    mF:=fun k m h b hb=>by
      rw [look_cons] at h
      split at h
      · cases h;exact hb.elim
      · cases h
    fresh:=fun k m h hf b hb=>by
      rw [look_cons] at h
      split at h
      · cases h;exact hb.elim
      · cases h
    F0:=fun _ h=>h
    F1:=fun _ h=>.inl h
    Fs:=fun b h=>Nat.lt_of_lt_of_le (hp.hF b h) hb.size
    ext:=⟨hb.os,hb.tape,⟨hb.output,.inl trivial⟩,hb.size,fun b hz=>hb.block b hz.1⟩ }⟩
end Gx
end
