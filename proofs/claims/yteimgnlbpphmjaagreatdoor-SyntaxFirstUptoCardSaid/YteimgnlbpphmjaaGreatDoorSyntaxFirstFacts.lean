/- Facts of the program that the row states, each one by itself. -/
import Derived.LaidLaws
import Derived.Test.YteimgnlbpphmjaaGreatDoorCards
import Derived.Test.YteimgnlbpphmjaaGreatDoorTie
import Derived.Test.YteimgnlbpphmjaaGreatDoorChecked
set_option linter.all false
section
open Go Go.Proofs
namespace Go.Proofs.YteimgnlbpphmjaaGreatDoor
theorem jA:(Rows.syntaxFirstUptoRow.inPlace==Tryz.pinned.checked.prog.inPlace 7)=true:=by kernel_rfl
theorem jB:(Rows.syntaxFirstUptoRow.unfollowed==Tryz.pinned.checked.prog.unfollowed 7)=true:=by kernel_rfl
theorem jC:(Rows.syntaxFirstUptoRow.recurses==Tryz.pinned.checked.prog.recurses 7)=true:=by kernel_rfl
theorem jD:(Rows.syntaxFirstUptoRow.named==Tryz.pinned.checked.prog.varsNamed 7)=true:=by kernel_rfl
theorem jE:laidOutB Tryz.pinned.checked.prog=true:=by kernel_rfl
theorem jF:mapsRowed Tryz.pinned.checked.prog=true:=by kernel_rfl
theorem closed:joinedFacts Tryz.pinned.checked.prog 7 Tryz.f7 (Rows.OpenSpec.upto Rows.syntaxFirstSpec).bare Rows.syntaxFirstUptoRow=true:=by
  unfold joinedFacts
  rw [jA,jB,jC,jD,jE,jF]
  kernel_rfl
end Go.Proofs.YteimgnlbpphmjaaGreatDoor
end
