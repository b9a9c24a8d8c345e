/- Further facts of the program that the card states, each one by itself. -/
import Derived.LaidLaws
import Derived.Test.YtknelkokbekhnaaGreatDoorCards
import Derived.Test.YtknelkokbekhnaaGreatDoorTie
import Derived.Test.YtknelkokbekhnaaGreatDoorChecked
set_option linter.all false
section
open Go Go.Proofs
namespace Go.Proofs.YtknelkokbekhnaaGreatDoor
theorem jW:Rows.namesRenameUptoRow.wfByText (Rows.OpenSpec.upto Rows.namesRenameSpec)=true:=by kernel_rfl
theorem jM:Tryz.pinned.checked.prog.mainIs=some (Rows.namesRenameUptoCard.stood.harness.1,Rows.namesRenameUptoCard.stood.harness.2.toList):=by kernel_rfl
theorem jG:false=Rows.namesRenameUptoRow.goesBy Tryz.pinned.checked.prog:=by kernel_rfl
theorem jN:false=Tryz.pinned.checked.prog.looks []:=by kernel_rfl
end Go.Proofs.YtknelkokbekhnaaGreatDoor
end
