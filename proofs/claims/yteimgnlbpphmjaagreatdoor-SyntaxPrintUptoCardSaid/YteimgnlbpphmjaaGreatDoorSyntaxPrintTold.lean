/- Further facts of the program that the card states, each one by itself. -/
import Derived.LaidLaws
import Derived.Test.YteimgnlbpphmjaaGreatDoorCards
import Derived.Test.YteimgnlbpphmjaaGreatDoorTie
import Derived.Test.YteimgnlbpphmjaaGreatDoorChecked
set_option linter.all false
section
open Go Go.Proofs
namespace Go.Proofs.YteimgnlbpphmjaaGreatDoor
theorem jW:Rows.syntaxPrintUptoRow.wfByText (Rows.OpenSpec.upto Rows.syntaxPrintSpec)=true:=by kernel_rfl
theorem jM:Tryz.pinned.checked.prog.mainIs=some (Rows.syntaxPrintUptoCard.stood.harness.1,Rows.syntaxPrintUptoCard.stood.harness.2.toList):=by kernel_rfl
theorem jG:false=Rows.syntaxPrintUptoRow.goesBy Tryz.pinned.checked.prog:=by kernel_rfl
theorem jN:false=Tryz.pinned.checked.prog.looks []:=by kernel_rfl
end Go.Proofs.YteimgnlbpphmjaaGreatDoor
end
