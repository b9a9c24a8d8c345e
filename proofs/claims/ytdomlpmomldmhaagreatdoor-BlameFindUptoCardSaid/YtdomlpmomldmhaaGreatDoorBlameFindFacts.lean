/- Facts of the program that the row states, each one by itself. -/
import Derived.LaidLaws
import Derived.Test.YtdomlpmomldmhaaGreatDoorCards
import Derived.Test.YtdomlpmomldmhaaGreatDoorTie
import Derived.Test.YtdomlpmomldmhaaGreatDoorChecked
set_option linter.all false
section
open Go Go.Proofs
namespace Go.Proofs.YtdomlpmomldmhaaGreatDoor
theorem jA:(Rows.blameFindUptoRow.inPlace==Tryz.pinned.checked.prog.inPlace 8)=true:=by kernel_rfl
theorem jB:(Rows.blameFindUptoRow.unfollowed==Tryz.pinned.checked.prog.unfollowed 8)=true:=by kernel_rfl
theorem jC:(Rows.blameFindUptoRow.recurses==Tryz.pinned.checked.prog.recurses 8)=true:=by kernel_rfl
theorem jD:(Rows.blameFindUptoRow.named==Tryz.pinned.checked.prog.varsNamed 8)=true:=by kernel_rfl
theorem jE:laidOutB Tryz.pinned.checked.prog=true:=by kernel_rfl
theorem jF:mapsRowed Tryz.pinned.checked.prog=true:=by kernel_rfl
theorem closed:joinedFacts Tryz.pinned.checked.prog 8 Tryz.f8 (Rows.OpenSpec.upto Rows.blameFindSpec).bare Rows.blameFindUptoRow=true:=by
  unfold joinedFacts
  rw [jA,jB,jC,jD,jE,jF]
  kernel_rfl
end Go.Proofs.YtdomlpmomldmhaaGreatDoor
end
