/- Further facts of the program that the card states, each one by itself. -/
import Derived.LaidLaws
import Derived.Test.YtnlleampnlmdlaaGreatDoorCards
import Derived.Test.YtnlleampnlmdlaaGreatDoorTie
import Derived.Test.YtnlleampnlmdlaaGreatDoorChecked
set_option linter.all false
section
open Go Go.Proofs
namespace Go.Proofs.YtnlleampnlmdlaaGreatDoor
theorem jW:Rows.expandProblemsUptoRow.wfByText (Rows.OpenSpec.upto Rows.expandProblemsSpec)=true:=by kernel_rfl
theorem jM:Tryz.pinned.checked.prog.mainIs=some (Rows.expandProblemsUptoCard.stood.harness.1,Rows.expandProblemsUptoCard.stood.harness.2.toList):=by kernel_rfl
theorem jG:false=Rows.expandProblemsUptoRow.goesBy Tryz.pinned.checked.prog:=by kernel_rfl
theorem jN:false=Tryz.pinned.checked.prog.looks []:=by kernel_rfl
end Go.Proofs.YtnlleampnlmdlaaGreatDoor
end
