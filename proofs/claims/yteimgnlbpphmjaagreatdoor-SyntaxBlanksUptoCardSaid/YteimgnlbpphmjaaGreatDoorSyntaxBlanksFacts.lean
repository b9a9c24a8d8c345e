/- Facts of the program that the row states, each one by itself. -/
import Derived.LaidLaws
import Derived.Test.YteimgnlbpphmjaaGreatDoorCards
import Derived.Test.YteimgnlbpphmjaaGreatDoorTie
import Derived.Test.YteimgnlbpphmjaaGreatDoorChecked
set_option linter.all false
section
open Go Go.Proofs
namespace Go.Proofs.YteimgnlbpphmjaaGreatDoor
theorem jA:(Rows.syntaxBlanksUptoRow.inPlace==Tryz.pinned.checked.prog.inPlace 8)=true:=by kernel_rfl
theorem jB:(Rows.syntaxBlanksUptoRow.unfollowed==Tryz.pinned.checked.prog.unfollowed 8)=true:=by kernel_rfl
theorem jC:(Rows.syntaxBlanksUptoRow.recurses==Tryz.pinned.checked.prog.recurses 8)=true:=by kernel_rfl
theorem jD:(Rows.syntaxBlanksUptoRow.named==Tryz.pinned.checked.prog.varsNamed 8)=true:=by kernel_rfl
theorem jE:laidOutB Tryz.pinned.checked.prog=true:=by kernel_rfl
theorem jF:mapsRowed Tryz.pinned.checked.prog=true:=by kernel_rfl
theorem closed:joinedFacts Tryz.pinned.checked.prog 8 Tryz.f8 (Rows.OpenSpec.upto Rows.syntaxBlanksSpec).bare Rows.syntaxBlanksUptoRow=true:=by
  unfold joinedFacts
  rw [jA,jB,jC,jD,jE,jF]
  kernel_rfl
end Go.Proofs.YteimgnlbpphmjaaGreatDoor
end
