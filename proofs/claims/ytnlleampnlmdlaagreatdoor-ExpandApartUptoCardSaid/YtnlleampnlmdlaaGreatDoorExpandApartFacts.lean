/- Facts of the program that the row states, each one by itself. -/
import Derived.LaidLaws
import Derived.Test.YtnlleampnlmdlaaGreatDoorCards
import Derived.Test.YtnlleampnlmdlaaGreatDoorTie
import Derived.Test.YtnlleampnlmdlaaGreatDoorChecked
set_option linter.all false
section
open Go Go.Proofs
namespace Go.Proofs.YtnlleampnlmdlaaGreatDoor
theorem jA:(Rows.expandApartUptoRow.inPlace==Tryz.pinned.checked.prog.inPlace 6)=true:=by kernel_rfl
theorem jB:(Rows.expandApartUptoRow.unfollowed==Tryz.pinned.checked.prog.unfollowed 6)=true:=by kernel_rfl
theorem jC:(Rows.expandApartUptoRow.recurses==Tryz.pinned.checked.prog.recurses 6)=true:=by kernel_rfl
theorem jD:(Rows.expandApartUptoRow.named==Tryz.pinned.checked.prog.varsNamed 6)=true:=by kernel_rfl
theorem jE:laidOutB Tryz.pinned.checked.prog=true:=by kernel_rfl
theorem jF:mapsRowed Tryz.pinned.checked.prog=true:=by kernel_rfl
theorem closed:joinedFacts Tryz.pinned.checked.prog 6 Tryz.f6 (Rows.OpenSpec.upto Rows.expandApartSpec).bare Rows.expandApartUptoRow=true:=by
  unfold joinedFacts
  rw [jA,jB,jC,jD,jE,jF]
  kernel_rfl
end Go.Proofs.YtnlleampnlmdlaaGreatDoor
end
