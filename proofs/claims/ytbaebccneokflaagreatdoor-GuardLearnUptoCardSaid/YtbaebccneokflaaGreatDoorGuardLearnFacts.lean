/- Facts of the program that the row states, each one by itself. -/
import Derived.LaidLaws
import Derived.Test.YtbaebccneokflaaGreatDoorCards
import Derived.Test.YtbaebccneokflaaGreatDoorTie
import Derived.Test.YtbaebccneokflaaGreatDoorChecked
set_option linter.all false
section
open Go Go.Proofs
namespace Go.Proofs.YtbaebccneokflaaGreatDoor
theorem jA : (Rows.guardLearnUptoRow.inPlace == Tryz.pinned.checked.prog.inPlace 10) = true := by kernel_rfl
theorem jB : (Rows.guardLearnUptoRow.unfollowed == Tryz.pinned.checked.prog.unfollowed 10) = true := by kernel_rfl
theorem jC : (Rows.guardLearnUptoRow.recurses == Tryz.pinned.checked.prog.recurses 10) = true := by kernel_rfl
theorem jD : (Rows.guardLearnUptoRow.named == Tryz.pinned.checked.prog.varsNamed 10) = true := by kernel_rfl
theorem jE : laidOutB Tryz.pinned.checked.prog = true := by kernel_rfl
theorem jF : mapsRowed Tryz.pinned.checked.prog = true := by kernel_rfl
theorem closed : joinedFacts Tryz.pinned.checked.prog 10 Tryz.f10 (Rows.OpenSpec.upto Rows.guardLearnSpec).bare Rows.guardLearnUptoRow = true := by
  unfold joinedFacts
  rw [jA, jB, jC, jD, jE, jF]
  kernel_rfl
end Go.Proofs.YtbaebccneokflaaGreatDoor
end
