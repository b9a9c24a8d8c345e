/- Facts of the program that the row states, each one by itself. -/
import Derived.LaidLaws
import Derived.Test.YtdomlpmomldmhaaGreatDoorCards
import Derived.Test.YtdomlpmomldmhaaGreatDoorTie
import Derived.Test.YtdomlpmomldmhaaGreatDoorChecked
set_option linter.all false
section
open Go Go.Proofs
namespace Go.Proofs.YtdomlpmomldmhaaGreatDoor
theorem jA:(Rows.blameRoleUptoRow.inPlace==Tryz.pinned.checked.prog.inPlace 12)=true:=by kernel_rfl
theorem jB:(Rows.blameRoleUptoRow.unfollowed==Tryz.pinned.checked.prog.unfollowed 12)=true:=by kernel_rfl
theorem jC:(Rows.blameRoleUptoRow.recurses==Tryz.pinned.checked.prog.recurses 12)=true:=by kernel_rfl
theorem jD:(Rows.blameRoleUptoRow.named==Tryz.pinned.checked.prog.varsNamed 12)=true:=by kernel_rfl
theorem jE:laidOutB Tryz.pinned.checked.prog=true:=by kernel_rfl
theorem jF:mapsRowed Tryz.pinned.checked.prog=true:=by kernel_rfl
theorem closed:joinedFacts Tryz.pinned.checked.prog 12 Tryz.f12 (Rows.OpenSpec.upto Rows.blameRoleSpec).bare Rows.blameRoleUptoRow=true:=by
  unfold joinedFacts
  rw [jA,jB,jC,jD,jE,jF]
  kernel_rfl
end Go.Proofs.YtdomlpmomldmhaaGreatDoor
end
