/- Functions of the library, by the contracts that are proved once for all programs. -/
import Derived.Shelf.SlSortCmp.NoneTotal
import Derived.Test.YtaahbojckmgghaaGreatDoorProg
import Derived.Test.YtaahbojckmgghaaGreatDoorMonitorActorsPure
set_option linter.all false
section
open Go Go.Kx Go.Proofs
namespace Gx
set_option maxRecDepth 20000
def Zlg:Go.Shelf.Ren:=⟨fun x=>match x with
  | 6=>207
  | 15=>223
  | 14=>222
  | 28=>235
  | 29=>236
  | 20=>227
  | 21=>228
  | 22=>229
  | 23=>230
  | 24=>231
  | 25=>232
  | 26=>233
  | 27=>234
  | 46=>240
  | 47=>241
  | 48=>242
  | 49=>243
  | 50=>244
  | 57=>249
  | n=>n,fun x=>match x with
  | 22=>132
  | 24=>3
  | 25=>213
  | 3=>3
  | 39=>255
  | 0=>0
  | 53=>272
  | 55=>275
  | 4=>4
  | 46=>284
  | 45=>283
  | 50=>288
  | 5=>5
  | 9=>9
  | 66=>293
  | 70=>297
  | 76=>303
  | 77=>223
  | n=>n,fun x=>x⟩
theorem Zt2:Go.Proofs.SlLaysF.n6 Go.Proofs.Tryz.prog Zlg :=
  { mixed:=by kernel_rfl,
    f6:=⟨ "slices.SortFunc[[]int,int]",of_decide_eq_true (by kernel_rfl),Eq.trans Go.Proofs.Tryz.func207 (congrArg some (by kernel_rfl))⟩,
    f14:=⟨ "slices.pdqsortCmpFunc[int]",of_decide_eq_true (by kernel_rfl),Eq.trans Go.Proofs.Tryz.func222 (congrArg some (by kernel_rfl))⟩,
    f15:=Eq.trans Go.Proofs.Tryz.func223 (congrArg some (by kernel_rfl)),
    f20:=⟨ "slices.insertionSortCmpFunc[int]",of_decide_eq_true (by kernel_rfl),Eq.trans Go.Proofs.Tryz.func227 (congrArg some (by kernel_rfl))⟩,
    f21:=⟨ "slices.heapSortCmpFunc[int]",of_decide_eq_true (by kernel_rfl),Eq.trans Go.Proofs.Tryz.func228 (congrArg some (by kernel_rfl))⟩,
    f22:=⟨ "slices.breakPatternsCmpFunc[int]",of_decide_eq_true (by kernel_rfl),Eq.trans Go.Proofs.Tryz.func229 (congrArg some (by kernel_rfl))⟩,
    f23:=⟨ "slices.choosePivotCmpFunc[int]",of_decide_eq_true (by kernel_rfl),Eq.trans Go.Proofs.Tryz.func230 (congrArg some (by kernel_rfl))⟩,
    f24:=⟨ "slices.reverseRangeCmpFunc[int]",of_decide_eq_true (by kernel_rfl),Eq.trans Go.Proofs.Tryz.func231 (congrArg some (by kernel_rfl))⟩,
    f25:=⟨ "slices.partialInsertionSortCmpFunc[int]",of_decide_eq_true (by kernel_rfl),Eq.trans Go.Proofs.Tryz.func232 (congrArg some (by kernel_rfl))⟩,
    f26:=⟨ "slices.partitionEqualCmpFunc[int]",of_decide_eq_true (by kernel_rfl),Eq.trans Go.Proofs.Tryz.func233 (congrArg some (by kernel_rfl))⟩,
    f27:=⟨ "slices.partitionCmpFunc[int]",of_decide_eq_true (by kernel_rfl),Eq.trans Go.Proofs.Tryz.func234 (congrArg some (by kernel_rfl))⟩,
    f28:=Eq.trans Go.Proofs.Tryz.func235 (congrArg some (by kernel_rfl)),
    f29:=Eq.trans Go.Proofs.Tryz.func236 (congrArg some (by kernel_rfl)),
    f46:=⟨ "slices.siftDownCmpFunc[int]",of_decide_eq_true (by kernel_rfl),Eq.trans Go.Proofs.Tryz.func240 (congrArg some (by kernel_rfl))⟩,
    f47:=Eq.trans Go.Proofs.Tryz.func241 (congrArg some (by kernel_rfl)),
    f48:=Eq.trans Go.Proofs.Tryz.func242 (congrArg some (by kernel_rfl)),
    f49:=⟨ "slices.medianAdjacentCmpFunc[int]",of_decide_eq_true (by kernel_rfl),Eq.trans Go.Proofs.Tryz.func243 (congrArg some (by kernel_rfl))⟩,
    f50:=⟨ "slices.medianCmpFunc[int]",of_decide_eq_true (by kernel_rfl),Eq.trans Go.Proofs.Tryz.func244 (congrArg some (by kernel_rfl))⟩,
    f57:=⟨ "slices.order2CmpFunc[int]",of_decide_eq_true (by kernel_rfl),Eq.trans Go.Proofs.Tryz.func249 (congrArg some (by kernel_rfl))⟩,
    t0:=Go.Proofs.Tryz.underlying0,
    a0:=Go.Proofs.Tryz.isAgg0,
    z0:=Go.Proofs.Tryz.sizeOf0,
    v0:=Go.Proofs.Tryz.zeroValue0,
    t3:=Go.Proofs.Tryz.underlying3,
    a3:=Go.Proofs.Tryz.isAgg3,
    z3:=Go.Proofs.Tryz.sizeOf3,
    v3:=Go.Proofs.Tryz.zeroValue3,
    t4:=Go.Proofs.Tryz.underlying4,
    a4:=Go.Proofs.Tryz.isAgg4,
    z4:=Go.Proofs.Tryz.sizeOf4,
    v4:=Go.Proofs.Tryz.zeroValue4,
    t5:=Go.Proofs.Tryz.underlying5,
    a5:=Go.Proofs.Tryz.isAgg5,
    z5:=Go.Proofs.Tryz.sizeOf5,
    v5:=Go.Proofs.Tryz.zeroValue5,
    t9:=Go.Proofs.Tryz.underlying9,
    a9:=Go.Proofs.Tryz.isAgg9,
    z9:=Go.Proofs.Tryz.sizeOf9,
    v9:=Go.Proofs.Tryz.zeroValue9,
    t22:=Go.Proofs.Tryz.underlying132,
    a22:=Go.Proofs.Tryz.isAgg132,
    z22:=Go.Proofs.Tryz.sizeOf132,
    v22:=Go.Proofs.Tryz.zeroValue132,
    a24:=Go.Proofs.Tryz.isAgg3,
    z24:=Go.Proofs.Tryz.sizeOf3,
    t25:=Go.Proofs.Tryz.underlying213,
    a25:=Go.Proofs.Tryz.isAgg213,
    z25:=Go.Proofs.Tryz.sizeOf213,
    v25:=Go.Proofs.Tryz.zeroValue213,
    t39:=Go.Proofs.Tryz.underlying255,
    a39:=Go.Proofs.Tryz.isAgg255,
    z39:=Go.Proofs.Tryz.sizeOf255,
    v39:=Go.Proofs.Tryz.zeroValue255,
    t45:=Go.Proofs.Tryz.underlying283,
    a45:=Go.Proofs.Tryz.isAgg283,
    z45:=Go.Proofs.Tryz.sizeOf283,
    v45:=Go.Proofs.Tryz.zeroValue283,
    t46:=Go.Proofs.Tryz.underlying284,
    a46:=Go.Proofs.Tryz.isAgg284,
    z46:=Go.Proofs.Tryz.sizeOf284,
    v46:=Go.Proofs.Tryz.zeroValue284,
    t50:=Go.Proofs.Tryz.underlying288,
    a50:=Go.Proofs.Tryz.isAgg288,
    z50:=Go.Proofs.Tryz.sizeOf288,
    v50:=Go.Proofs.Tryz.zeroValue288,
    t53:=Go.Proofs.Tryz.underlying272,
    a53:=Go.Proofs.Tryz.isAgg272,
    z53:=Go.Proofs.Tryz.sizeOf272,
    v53:=Go.Proofs.Tryz.zeroValue272,
    t55:=Go.Proofs.Tryz.underlying275,
    a55:=Go.Proofs.Tryz.isAgg275,
    z55:=Go.Proofs.Tryz.sizeOf275,
    v55:=Go.Proofs.Tryz.zeroValue275,
    t66:=Go.Proofs.Tryz.underlying293,
    a66:=Go.Proofs.Tryz.isAgg293,
    z66:=Go.Proofs.Tryz.sizeOf293,
    v66:=Go.Proofs.Tryz.zeroValue293,
    t70:=Go.Proofs.Tryz.underlying297,
    a70:=Go.Proofs.Tryz.isAgg297,
    z70:=Go.Proofs.Tryz.sizeOf297,
    v70:=Go.Proofs.Tryz.zeroValue297,
    t76:=Go.Proofs.Tryz.underlying303,
    a76:=Go.Proofs.Tryz.isAgg303,
    z76:=Go.Proofs.Tryz.sizeOf303,
    v76:=Go.Proofs.Tryz.zeroValue303,
    t77:=Go.Proofs.Tryz.underlying223,
    a77:=Go.Proofs.Tryz.isAgg223,
    z77:=Go.Proofs.Tryz.sizeOf223,
    v77:=Go.Proofs.Tryz.zeroValue223 }
end Gx
end
section
open Go Go.Kx Go.Proofs
namespace Gx
instance LxT:LxP:=⟨True⟩
end Gx
end
