/- Facts of the program that the row states, each one by itself. -/
import Derived.LaidLaws
import Derived.Test.YteimgnlbpphmjaaGreatDoorCards
import Derived.Test.YteimgnlbpphmjaaGreatDoorTie
import Derived.Test.YteimgnlbpphmjaaGreatDoorChecked
set_option linter.all false
section
open Go Go.Proofs
namespace Go.Proofs.YteimgnlbpphmjaaGreatDoor
theorem jA:(Rows.syntaxPrintUptoRow.inPlace==Tryz.pinned.checked.prog.inPlace 4)=true:=by kernel_rfl
theorem jB:(Rows.syntaxPrintUptoRow.unfollowed==Tryz.pinned.checked.prog.unfollowed 4)=true:=by kernel_rfl
theorem jC:(Rows.syntaxPrintUptoRow.recurses==Tryz.pinned.checked.prog.recurses 4)=true:=by kernel_rfl
theorem jD:(Rows.syntaxPrintUptoRow.named==Tryz.pinned.checked.prog.varsNamed 4)=true:=by kernel_rfl
theorem jE:laidOutB Tryz.pinned.checked.prog=true:=by kernel_rfl
theorem jF:mapsRowed Tryz.pinned.checked.prog=true:=by kernel_rfl
theorem closed:joinedFacts Tryz.pinned.checked.prog 4 Tryz.f4 (Rows.OpenSpec.upto Rows.syntaxPrintSpec).bare Rows.syntaxPrintUptoRow=true:=by
  unfold joinedFacts
  rw [jA,jB,jC,jD,jE,jF]
  kernel_rfl
end Go.Proofs.YteimgnlbpphmjaaGreatDoor
end
