/-
  DERIVED. GIVEN WITH THE SEED: THE CARDS: each row of YtnlleampnlmdlaaGreatDoorRows.lean that lists a variable, with what it lists TIED to the program's text (the seventh form; the later family's looks); each row that meets fmt, with fmt's text TOLD by the authors' own Lean function (tested against real Go, not proved from fmt's source: count such statements apart). THE CARD IS WHAT COUNTS. Prove the row's statement (the work); the ties are given (YtnlleampnlmdlaaGreatDoorTie.lean); close each card by the builder's one call (the guide's Derived/Test/ToyasCard.lean, 'card_holds'). Laid BY PROGRAM, IN A SANDBOX (cutbox-door.mjs). By AI agents, Wed Nov 11 2026. No macro, syntax, notation, axiom, sorry.
-/
import Derived.Test.YtnlleampnlmdlaaGreatDoorRows
import GoSem.ClaimSeven
namespace Go.Proofs.YtnlleampnlmdlaaGreatDoor
namespace Rows

/-- THE TIED CARD OF 'farandolelaw12.ExpandShared'. -/
def expandSharedCard : Claim7 := { stood := { row := expandSharedRow, standIns := [], harness := (true, "8c15a26c731b50086b4e2c2fcb8d7a4c8d8d1c426785086212380fc4b6c5b669"), looks := false }, kinds := [], alts := [], laidByText := true, laidKinds := [.data, .data, .data, .data, .pinned], laidTests := true, laidLooks := .later }
def ExpandSharedCardSaid : Prop := Claim7.holds Tryz.pinned (.plain (OpenSpec.ofChange expandSharedSpec)) expandSharedCard

/-- THE TIED CARD OF 'farandolelaw12.ExpandProblems'. -/
def expandProblemsCard : Claim7 := { stood := { row := expandProblemsRow, standIns := [], harness := (true, "8c15a26c731b50086b4e2c2fcb8d7a4c8d8d1c426785086212380fc4b6c5b669"), looks := false }, kinds := [], alts := [], laidByText := true, laidKinds := [.data, .data, .data, .data, .pinned], laidTests := true, laidLooks := .later }
def ExpandProblemsCardSaid : Prop := Claim7.holds Tryz.pinned (.plain (OpenSpec.ofChange expandProblemsSpec)) expandProblemsCard

/-- THE TIED CARD OF 'farandolelaw12.ExpandSame'. -/
def expandSameCard : Claim7 := { stood := { row := expandSameRow, standIns := [], harness := (true, "8c15a26c731b50086b4e2c2fcb8d7a4c8d8d1c426785086212380fc4b6c5b669"), looks := false }, kinds := [], alts := [], laidByText := true, laidKinds := [.data, .data, .data, .data, .pinned], laidTests := true, laidLooks := .later }
def ExpandSameCardSaid : Prop := Claim7.holds Tryz.pinned (.plain (OpenSpec.ofChange expandSameSpec)) expandSameCard

/-- THE TIED CARD OF 'farandolelaw12.ExpandApart'. -/
def expandApartCard : Claim7 := { stood := { row := expandApartRow, standIns := [], harness := (true, "8c15a26c731b50086b4e2c2fcb8d7a4c8d8d1c426785086212380fc4b6c5b669"), looks := false }, kinds := [], alts := [], laidByText := true, laidKinds := [.data, .data, .data, .data, .pinned], laidTests := true, laidLooks := .later }
def ExpandApartCardSaid : Prop := Claim7.holds Tryz.pinned (.plain (OpenSpec.ofChange expandApartSpec)) expandApartCard

/-- THE SECOND FORM's CARD OF 'farandolelaw12.ExpandShared'. -/
def expandSharedUptoCard : Claim7 := { stood := { row := expandSharedUptoRow, standIns := [], harness := (true, "8c15a26c731b50086b4e2c2fcb8d7a4c8d8d1c426785086212380fc4b6c5b669"), looks := false }, kinds := [], alts := [], laidByText := true, laidKinds := [.data, .data, .data, .data, .pinned], laidTests := true, laidLooks := .later }
def ExpandSharedUptoCardSaid : Prop := Claim7.holds Tryz.pinned (.plain (OpenSpec.upto expandSharedSpec)) expandSharedUptoCard

/-- THE SECOND FORM's CARD OF 'farandolelaw12.ExpandProblems'. -/
def expandProblemsUptoCard : Claim7 := { stood := { row := expandProblemsUptoRow, standIns := [], harness := (true, "8c15a26c731b50086b4e2c2fcb8d7a4c8d8d1c426785086212380fc4b6c5b669"), looks := false }, kinds := [], alts := [], laidByText := true, laidKinds := [.data, .data, .data, .data, .pinned], laidTests := true, laidLooks := .later }
def ExpandProblemsUptoCardSaid : Prop := Claim7.holds Tryz.pinned (.plain (OpenSpec.upto expandProblemsSpec)) expandProblemsUptoCard

/-- THE SECOND FORM's CARD OF 'farandolelaw12.ExpandSame'. -/
def expandSameUptoCard : Claim7 := { stood := { row := expandSameUptoRow, standIns := [], harness := (true, "8c15a26c731b50086b4e2c2fcb8d7a4c8d8d1c426785086212380fc4b6c5b669"), looks := false }, kinds := [], alts := [], laidByText := true, laidKinds := [.data, .data, .data, .data, .pinned], laidTests := true, laidLooks := .later }
def ExpandSameUptoCardSaid : Prop := Claim7.holds Tryz.pinned (.plain (OpenSpec.upto expandSameSpec)) expandSameUptoCard

/-- THE SECOND FORM's CARD OF 'farandolelaw12.ExpandApart'. -/
def expandApartUptoCard : Claim7 := { stood := { row := expandApartUptoRow, standIns := [], harness := (true, "8c15a26c731b50086b4e2c2fcb8d7a4c8d8d1c426785086212380fc4b6c5b669"), looks := false }, kinds := [], alts := [], laidByText := true, laidKinds := [.data, .data, .data, .data, .pinned], laidTests := true, laidLooks := .later }
def ExpandApartUptoCardSaid : Prop := Claim7.holds Tryz.pinned (.plain (OpenSpec.upto expandApartSpec)) expandApartUptoCard
end Rows
end Go.Proofs.YtnlleampnlmdlaaGreatDoor
