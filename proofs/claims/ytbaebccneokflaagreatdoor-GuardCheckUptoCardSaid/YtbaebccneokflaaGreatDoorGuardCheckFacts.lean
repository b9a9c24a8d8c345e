/- Facts of the program that the row states, each one by itself. -/
import Derived.LaidLaws
import Derived.Test.YtbaebccneokflaaGreatDoorCards
import Derived.Test.YtbaebccneokflaaGreatDoorTie
import Derived.Test.YtbaebccneokflaaGreatDoorChecked
set_option linter.all false
section
open Go Go.Proofs
namespace Go.Proofs.YtbaebccneokflaaGreatDoor
theorem jA : (Rows.guardCheckUptoRow.inPlace == Tryz.pinned.checked.prog.inPlace 9) = true := by kernel_rfl
theorem jB : (Rows.guardCheckUptoRow.unfollowed == Tryz.pinned.checked.prog.unfollowed 9) = true := by kernel_rfl
theorem jC : (Rows.guardCheckUptoRow.recurses == Tryz.pinned.checked.prog.recurses 9) = true := by kernel_rfl
theorem jD : (Rows.guardCheckUptoRow.named == Tryz.pinned.checked.prog.varsNamed 9) = true := by kernel_rfl
theorem jE : laidOutB Tryz.pinned.checked.prog = true := by kernel_rfl
theorem jF : mapsRowed Tryz.pinned.checked.prog = true := by kernel_rfl
theorem closed : joinedFacts Tryz.pinned.checked.prog 9 Tryz.f9 (Rows.OpenSpec.upto Rows.guardCheckSpec).bare Rows.guardCheckUptoRow = true := by
  unfold joinedFacts
  rw [jA, jB, jC, jD, jE, jF]
  kernel_rfl
end Go.Proofs.YtbaebccneokflaaGreatDoor
end
