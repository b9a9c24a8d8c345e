/- A function of the library, by the contract that is proved once for all programs. -/
import Derived.Shelf.SlSortCmp.NoneTotal
import Derived.Test.YtdomlpmomldmhaaGreatDoorProg
import Derived.Test.YtdomlpmomldmhaaGreatDoorBlameFirstCore3
set_option linter.all false
section
open Go Go.Kx Go.Proofs
namespace Gx
set_option maxRecDepth 20000
def slRen:Go.Shelf.Ren:=⟨fun x=>match x with
  | 6=>215
  | 15=>263
  | 14=>262
  | 28=>288
  | 29=>289
  | 20=>280
  | 21=>281
  | 22=>282
  | 23=>283
  | 24=>284
  | 25=>285
  | 26=>286
  | 27=>287
  | 46=>304
  | 47=>305
  | 48=>306
  | 49=>307
  | 50=>308
  | 57=>317
  | n=>n,fun x=>match x with
  | 22=>189
  | 24=>3
  | 25=>269
  | 3=>3
  | 39=>273
  | 0=>0
  | 53=>336
  | 55=>338
  | 4=>4
  | 46=>330
  | 45=>329
  | 50=>214
  | 5=>5
  | 9=>9
  | 66=>353
  | 70=>357
  | 76=>364
  | 77=>156
  | n=>n,fun x=>x⟩
theorem slLays:SlLaysF.n6 Tryz.prog slRen :=
  { mixed:=by kernel_rfl,
    f6:=⟨ "slices.SortFunc[[]int,int]",of_decide_eq_true (by kernel_rfl),Eq.trans Tryz.func215 (congrArg some (by kernel_rfl))⟩,
    f14:=⟨ "slices.pdqsortCmpFunc[int]",of_decide_eq_true (by kernel_rfl),Eq.trans Tryz.func262 (congrArg some (by kernel_rfl))⟩,
    f15:=Eq.trans Tryz.func263 (congrArg some (by kernel_rfl)),
    f20:=⟨ "slices.insertionSortCmpFunc[int]",of_decide_eq_true (by kernel_rfl),Eq.trans Tryz.func280 (congrArg some (by kernel_rfl))⟩,
    f21:=⟨ "slices.heapSortCmpFunc[int]",of_decide_eq_true (by kernel_rfl),Eq.trans Tryz.func281 (congrArg some (by kernel_rfl))⟩,
    f22:=⟨ "slices.breakPatternsCmpFunc[int]",of_decide_eq_true (by kernel_rfl),Eq.trans Tryz.func282 (congrArg some (by kernel_rfl))⟩,
    f23:=⟨ "slices.choosePivotCmpFunc[int]",of_decide_eq_true (by kernel_rfl),Eq.trans Tryz.func283 (congrArg some (by kernel_rfl))⟩,
    f24:=⟨ "slices.reverseRangeCmpFunc[int]",of_decide_eq_true (by kernel_rfl),Eq.trans Tryz.func284 (congrArg some (by kernel_rfl))⟩,
    f25:=⟨ "slices.partialInsertionSortCmpFunc[int]",of_decide_eq_true (by kernel_rfl),Eq.trans Tryz.func285 (congrArg some (by kernel_rfl))⟩,
    f26:=⟨ "slices.partitionEqualCmpFunc[int]",of_decide_eq_true (by kernel_rfl),Eq.trans Tryz.func286 (congrArg some (by kernel_rfl))⟩,
    f27:=⟨ "slices.partitionCmpFunc[int]",of_decide_eq_true (by kernel_rfl),Eq.trans Tryz.func287 (congrArg some (by kernel_rfl))⟩,
    f28:=Eq.trans Tryz.func288 (congrArg some (by kernel_rfl)),
    f29:=Eq.trans Tryz.func289 (congrArg some (by kernel_rfl)),
    f46:=⟨ "slices.siftDownCmpFunc[int]",of_decide_eq_true (by kernel_rfl),Eq.trans Tryz.func304 (congrArg some (by kernel_rfl))⟩,
    f47:=Eq.trans Tryz.func305 (congrArg some (by kernel_rfl)),
    f48:=Eq.trans Tryz.func306 (congrArg some (by kernel_rfl)),
    f49:=⟨ "slices.medianAdjacentCmpFunc[int]",of_decide_eq_true (by kernel_rfl),Eq.trans Tryz.func307 (congrArg some (by kernel_rfl))⟩,
    f50:=⟨ "slices.medianCmpFunc[int]",of_decide_eq_true (by kernel_rfl),Eq.trans Tryz.func308 (congrArg some (by kernel_rfl))⟩,
    f57:=⟨ "slices.order2CmpFunc[int]",of_decide_eq_true (by kernel_rfl),Eq.trans Tryz.func317 (congrArg some (by kernel_rfl))⟩,
    t0:=Tryz.underlying0,
    a0:=Tryz.isAgg0,
    z0:=Tryz.sizeOf0,
    v0:=Tryz.zeroValue0,
    t3:=Tryz.underlying3,
    a3:=Tryz.isAgg3,
    z3:=Tryz.sizeOf3,
    v3:=Tryz.zeroValue3,
    t4:=Tryz.underlying4,
    a4:=Tryz.isAgg4,
    z4:=Tryz.sizeOf4,
    v4:=Tryz.zeroValue4,
    t5:=Tryz.underlying5,
    a5:=Tryz.isAgg5,
    z5:=Tryz.sizeOf5,
    v5:=Tryz.zeroValue5,
    t9:=Tryz.underlying9,
    a9:=Tryz.isAgg9,
    z9:=Tryz.sizeOf9,
    v9:=Tryz.zeroValue9,
    t22:=Tryz.underlying189,
    a22:=Tryz.isAgg189,
    z22:=Tryz.sizeOf189,
    v22:=Tryz.zeroValue189,
    a24:=Tryz.isAgg3,
    z24:=Tryz.sizeOf3,
    t25:=Tryz.underlying269,
    a25:=Tryz.isAgg269,
    z25:=Tryz.sizeOf269,
    v25:=Tryz.zeroValue269,
    t39:=Tryz.underlying273,
    a39:=Tryz.isAgg273,
    z39:=Tryz.sizeOf273,
    v39:=Tryz.zeroValue273,
    t45:=Tryz.underlying329,
    a45:=Tryz.isAgg329,
    z45:=Tryz.sizeOf329,
    v45:=Tryz.zeroValue329,
    t46:=Tryz.underlying330,
    a46:=Tryz.isAgg330,
    z46:=Tryz.sizeOf330,
    v46:=Tryz.zeroValue330,
    t50:=Tryz.underlying214,
    a50:=Tryz.isAgg214,
    z50:=Tryz.sizeOf214,
    v50:=Tryz.zeroValue214,
    t53:=Tryz.underlying336,
    a53:=Tryz.isAgg336,
    z53:=Tryz.sizeOf336,
    v53:=Tryz.zeroValue336,
    t55:=Tryz.underlying338,
    a55:=Tryz.isAgg338,
    z55:=Tryz.sizeOf338,
    v55:=Tryz.zeroValue338,
    t66:=Tryz.underlying353,
    a66:=Tryz.isAgg353,
    z66:=Tryz.sizeOf353,
    v66:=Tryz.zeroValue353,
    t70:=Tryz.underlying357,
    a70:=Tryz.isAgg357,
    z70:=Tryz.sizeOf357,
    v70:=Tryz.zeroValue357,
    t76:=Tryz.underlying364,
    a76:=Tryz.isAgg364,
    z76:=Tryz.sizeOf364,
    v76:=Tryz.zeroValue364,
    t77:=Tryz.underlying156,
    a77:=Tryz.isAgg156,
    z77:=Tryz.sizeOf156,
    v77:=Tryz.zeroValue156 }
end Gx
end
