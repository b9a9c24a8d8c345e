/- Further facts of the program that the card states, each one by itself. -/
import Derived.LaidLaws
import Derived.Test.YtaahbojckmgghaaGreatDoorCards
import Derived.Test.YtaahbojckmgghaaGreatDoorTie
import Derived.Test.YtaahbojckmgghaaGreatDoorChecked
set_option linter.all false
section
open Go Go.Proofs
namespace Go.Proofs.YtaahbojckmgghaaGreatDoor
theorem jW:Rows.monitorActorsUptoRow.wfByText (Rows.OpenSpec.upto Rows.monitorActorsSpec)=true:=by kernel_rfl
theorem jM:Tryz.pinned.checked.prog.mainIs=some (Rows.monitorActorsUptoCard.stood.harness.1,Rows.monitorActorsUptoCard.stood.harness.2.toList):=by kernel_rfl
theorem jG:false=Rows.monitorActorsUptoRow.goesBy Tryz.pinned.checked.prog:=by kernel_rfl
theorem jN:false=Tryz.pinned.checked.prog.looks []:=by kernel_rfl
end Go.Proofs.YtaahbojckmgghaaGreatDoor
end
