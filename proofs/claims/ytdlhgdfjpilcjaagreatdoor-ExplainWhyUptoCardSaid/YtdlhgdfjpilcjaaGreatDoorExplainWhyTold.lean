/- Further facts of the program that the card states, each one by itself. -/
import Derived.LaidLaws
import Derived.Test.YtdlhgdfjpilcjaaGreatDoorCards
import Derived.Test.YtdlhgdfjpilcjaaGreatDoorTie
import Derived.Test.YtdlhgdfjpilcjaaGreatDoorChecked
set_option linter.all false
section
open Go Go.Proofs
namespace Go.Proofs.YtdlhgdfjpilcjaaGreatDoor
theorem jW:Rows.explainWhyUptoRow.wfByText (Rows.OpenSpec.upto Rows.explainWhySpec)=true:=by kernel_rfl
theorem jM:Tryz.pinned.checked.prog.mainIs=some (Rows.explainWhyUptoCard.stood.harness.1,Rows.explainWhyUptoCard.stood.harness.2.toList):=by kernel_rfl
theorem jG:false=Rows.explainWhyUptoRow.goesBy Tryz.pinned.checked.prog:=by kernel_rfl
theorem jN:false=Tryz.pinned.checked.prog.looks []:=by kernel_rfl
end Go.Proofs.YtdlhgdfjpilcjaaGreatDoor
end
