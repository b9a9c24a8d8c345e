/- Facts of the program that the row states, each one by itself. -/
import Derived.LaidLaws
import Derived.Test.YtbaebccneokflaaGreatDoorCards
import Derived.Test.YtbaebccneokflaaGreatDoorTie
import Derived.Test.YtbaebccneokflaaGreatDoorChecked
set_option linter.all false
section
open Go Go.Proofs
namespace Go.Proofs.YtbaebccneokflaaGreatDoor
theorem jA : (Rows.guardBoundsUptoRow.inPlace == Tryz.pinned.checked.prog.inPlace 8) = true := by kernel_rfl
theorem jB : (Rows.guardBoundsUptoRow.unfollowed == Tryz.pinned.checked.prog.unfollowed 8) = true := by kernel_rfl
theorem jC : (Rows.guardBoundsUptoRow.recurses == Tryz.pinned.checked.prog.recurses 8) = true := by kernel_rfl
theorem jD : (Rows.guardBoundsUptoRow.named == Tryz.pinned.checked.prog.varsNamed 8) = true := by kernel_rfl
theorem jE : laidOutB Tryz.pinned.checked.prog = true := by kernel_rfl
theorem jF : mapsRowed Tryz.pinned.checked.prog = true := by kernel_rfl
theorem closed : joinedFacts Tryz.pinned.checked.prog 8 Tryz.f8 (Rows.OpenSpec.upto Rows.guardBoundsSpec).bare Rows.guardBoundsUptoRow = true := by
  unfold joinedFacts
  rw [jA, jB, jC, jD, jE, jF]
  kernel_rfl
end Go.Proofs.YtbaebccneokflaaGreatDoor
end
