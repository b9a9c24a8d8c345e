/- Further facts of the program that the card states, each one by itself. -/
import Derived.LaidLaws
import Derived.Test.YtdomlpmomldmhaaGreatDoorCards
import Derived.Test.YtdomlpmomldmhaaGreatDoorTie
import Derived.Test.YtdomlpmomldmhaaGreatDoorChecked
set_option linter.all false
section
open Go Go.Proofs
namespace Go.Proofs.YtdomlpmomldmhaaGreatDoor
theorem jW:Rows.blameShowUptoRow.wfByText (Rows.OpenSpec.upto Rows.blameShowSpec)=true:=by kernel_rfl
theorem jM:Tryz.pinned.checked.prog.mainIs=some (Rows.blameShowUptoCard.stood.harness.1,Rows.blameShowUptoCard.stood.harness.2.toList):=by kernel_rfl
theorem jG:false=Rows.blameShowUptoRow.goesBy Tryz.pinned.checked.prog:=by kernel_rfl
theorem jN:false=Tryz.pinned.checked.prog.looks []:=by kernel_rfl
end Go.Proofs.YtdomlpmomldmhaaGreatDoor
end
