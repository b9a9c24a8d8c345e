/- Further facts of the program that the card states, each one by itself. -/
import Derived.LaidLaws
import Derived.Test.YtploppegiebboaaGreatDoorCards
import Derived.Test.YtploppegiebboaaGreatDoorTie
import Derived.Test.YtploppegiebboaaGreatDoorChecked
set_option linter.all false
section
open Go Go.Proofs
namespace Go.Proofs.YtploppegiebboaaGreatDoor
theorem jW:Rows.flowApartUptoRow.wfByText (Rows.OpenSpec.upto Rows.flowApartSpec)=true:=by kernel_rfl
theorem jM:Tryz.pinned.checked.prog.mainIs=some (Rows.flowApartUptoCard.stood.harness.1,Rows.flowApartUptoCard.stood.harness.2.toList):=by kernel_rfl
theorem jG:false=Rows.flowApartUptoRow.goesBy Tryz.pinned.checked.prog:=by kernel_rfl
theorem jN:false=Tryz.pinned.checked.prog.looks []:=by kernel_rfl
end Go.Proofs.YtploppegiebboaaGreatDoor
end
