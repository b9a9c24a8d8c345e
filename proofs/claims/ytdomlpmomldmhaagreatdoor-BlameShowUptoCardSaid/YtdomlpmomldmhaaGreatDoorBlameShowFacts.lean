/- Facts of the program that the row states, each one by itself. -/
import Derived.LaidLaws
import Derived.Test.YtdomlpmomldmhaaGreatDoorCards
import Derived.Test.YtdomlpmomldmhaaGreatDoorTie
import Derived.Test.YtdomlpmomldmhaaGreatDoorChecked
set_option linter.all false
section
open Go Go.Proofs
namespace Go.Proofs.YtdomlpmomldmhaaGreatDoor
theorem jA:(Rows.blameShowUptoRow.inPlace==Tryz.pinned.checked.prog.inPlace 9)=true:=by kernel_rfl
theorem jB:(Rows.blameShowUptoRow.unfollowed==Tryz.pinned.checked.prog.unfollowed 9)=true:=by kernel_rfl
theorem jC:(Rows.blameShowUptoRow.recurses==Tryz.pinned.checked.prog.recurses 9)=true:=by kernel_rfl
theorem jD:(Rows.blameShowUptoRow.named==Tryz.pinned.checked.prog.varsNamed 9)=true:=by kernel_rfl
theorem jE:laidOutB Tryz.pinned.checked.prog=true:=by kernel_rfl
theorem jF:mapsRowed Tryz.pinned.checked.prog=true:=by kernel_rfl
theorem closed:joinedFacts Tryz.pinned.checked.prog 9 Tryz.f9 (Rows.OpenSpec.upto Rows.blameShowSpec).bare Rows.blameShowUptoRow=true:=by
  unfold joinedFacts
  rw [jA,jB,jC,jD,jE,jF]
  kernel_rfl
end Go.Proofs.YtdomlpmomldmhaaGreatDoor
end
