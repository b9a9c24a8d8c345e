/- Further facts of the program that the card states, each one by itself. -/
import Derived.LaidLaws
import Derived.Test.YthmedickagkdoaaGreatDoorCards
import Derived.Test.YthmedickagkdoaaGreatDoorTie
import Derived.Test.YthmedickagkdoaaGreatDoorChecked
set_option linter.all false
section
open Go Go.Proofs
namespace Go.Proofs.YthmedickagkdoaaGreatDoor
theorem jW:Rows.guardDeclsUptoRow.wfByText (Rows.OpenSpec.upto Rows.guardDeclsSpec)=true:=by kernel_rfl
theorem jM:Tryz.pinned.checked.prog.mainIs=some (Rows.guardDeclsUptoCard.stood.harness.1,Rows.guardDeclsUptoCard.stood.harness.2.toList):=by kernel_rfl
theorem jG:false=Rows.guardDeclsUptoRow.goesBy Tryz.pinned.checked.prog:=by kernel_rfl
theorem jN:false=Tryz.pinned.checked.prog.looks []:=by kernel_rfl
end Go.Proofs.YthmedickagkdoaaGreatDoor
end
