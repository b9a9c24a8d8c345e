/- Facts of the program that the row states, each one by itself. -/
import Derived.LaidLaws
import Derived.Test.YthmedickagkdoaaGreatDoorCards
import Derived.Test.YthmedickagkdoaaGreatDoorTie
import Derived.Test.YthmedickagkdoaaGreatDoorChecked
set_option linter.all false
section
open Go Go.Proofs
namespace Go.Proofs.YthmedickagkdoaaGreatDoor
theorem jA:(Rows.guardDeclsUptoRow.inPlace==Tryz.pinned.checked.prog.inPlace 3)=true:=by kernel_rfl
theorem jB:(Rows.guardDeclsUptoRow.unfollowed==Tryz.pinned.checked.prog.unfollowed 3)=true:=by kernel_rfl
theorem jC:(Rows.guardDeclsUptoRow.recurses==Tryz.pinned.checked.prog.recurses 3)=true:=by kernel_rfl
theorem jD:(Rows.guardDeclsUptoRow.named==Tryz.pinned.checked.prog.varsNamed 3)=true:=by kernel_rfl
theorem jE:laidOutB Tryz.pinned.checked.prog=true:=by kernel_rfl
theorem jF:mapsRowed Tryz.pinned.checked.prog=true:=by kernel_rfl
theorem closed:joinedFacts Tryz.pinned.checked.prog 3 Tryz.f3 (Rows.OpenSpec.upto Rows.guardDeclsSpec).bare Rows.guardDeclsUptoRow=true:=by
  unfold joinedFacts
  rw [jA,jB,jC,jD,jE,jF]
  kernel_rfl
end Go.Proofs.YthmedickagkdoaaGreatDoor
end
