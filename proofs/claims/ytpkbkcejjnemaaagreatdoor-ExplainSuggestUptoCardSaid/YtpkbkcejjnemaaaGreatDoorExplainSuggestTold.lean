/- Further facts of the program that the card states, each one by itself. -/
import Derived.LaidLaws
import Derived.Test.YtpkbkcejjnemaaaGreatDoorCards
import Derived.Test.YtpkbkcejjnemaaaGreatDoorTie
import Derived.Test.YtpkbkcejjnemaaaGreatDoorChecked
set_option linter.all false
section
open Go Go.Proofs
namespace Go.Proofs.YtpkbkcejjnemaaaGreatDoor
theorem jW:Rows.explainSuggestUptoRow.wfByText (Rows.OpenSpec.upto Rows.explainSuggestSpec)=true:=by kernel_rfl
theorem jM:Tryz.pinned.checked.prog.mainIs=some (Rows.explainSuggestUptoCard.stood.harness.1,Rows.explainSuggestUptoCard.stood.harness.2.toList):=by kernel_rfl
theorem jG:false=Rows.explainSuggestUptoRow.goesBy Tryz.pinned.checked.prog:=by kernel_rfl
theorem jN:false=Tryz.pinned.checked.prog.looks []:=by kernel_rfl
end Go.Proofs.YtpkbkcejjnemaaaGreatDoor
end
