/- Further facts of the program that the card states, each one by itself. -/
import Derived.LaidLaws
import Derived.Test.YtopoacpklgcfnaaGreatDoorCards
import Derived.Test.YtopoacpklgcfnaaGreatDoorTie
import Derived.Test.YtopoacpklgcfnaaGreatDoorChecked
set_option linter.all false
section
open Go Go.Proofs
namespace Go.Proofs.YtopoacpklgcfnaaGreatDoor
theorem jW:Rows.explainParsedUptoRow.wfByText (Rows.OpenSpec.upto Rows.explainParsedSpec)=true:=by kernel_rfl
theorem jM:Tryz.pinned.checked.prog.mainIs=some (Rows.explainParsedUptoCard.stood.harness.1,Rows.explainParsedUptoCard.stood.harness.2.toList):=by kernel_rfl
theorem jG:false=Rows.explainParsedUptoRow.goesBy Tryz.pinned.checked.prog:=by kernel_rfl
theorem jN:false=Tryz.pinned.checked.prog.looks []:=by kernel_rfl
end Go.Proofs.YtopoacpklgcfnaaGreatDoor
end
