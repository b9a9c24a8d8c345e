/-
  DERIVED. GIVEN WITH THE SEED: THE CARDS: each row of YtopoacpklgcfnaaGreatDoorRows.lean that lists a variable, with what it lists TIED to the program's text (the seventh form; the later family's looks); each row that meets fmt, with fmt's text TOLD by the authors' own Lean function (tested against real Go, not proved from fmt's source: count such statements apart). THE CARD IS WHAT COUNTS. Prove the row's statement (the work); the ties are given (YtopoacpklgcfnaaGreatDoorTie.lean); close each card by the builder's one call (the guide's Derived/Test/ToyasCard.lean, 'card_holds'). Laid BY PROGRAM, IN A SANDBOX (cutbox-door.mjs). By AI agents, Wed Nov 11 2026. No macro, syntax, notation, axiom, sorry.
-/
import Derived.Test.YtopoacpklgcfnaaGreatDoorRows
import GoSem.ClaimSeven
namespace Go.Proofs.YtopoacpklgcfnaaGreatDoor
namespace Rows

/-- THE TIED CARD OF 'farandolelaw43.ExplainParsed'. -/
def explainParsedCard : Claim7 := { stood := { row := explainParsedRow, standIns := [], harness := (true, "52289a7f8ed68a841cce13a2ecb55fe12a25f31f85fc65b6feff1ff6a572bdf6"), looks := false }, kinds := [], alts := [], laidByText := true, laidKinds := [.data, .data, .data, .data, .pinned], laidTests := true, laidLooks := .later }
def ExplainParsedCardSaid : Prop := Claim7.holds Tryz.pinned (.plain (OpenSpec.ofChange explainParsedSpec)) explainParsedCard

/-- THE SECOND FORM's CARD OF 'farandolelaw43.ExplainParsed'. -/
def explainParsedUptoCard : Claim7 := { stood := { row := explainParsedUptoRow, standIns := [], harness := (true, "52289a7f8ed68a841cce13a2ecb55fe12a25f31f85fc65b6feff1ff6a572bdf6"), looks := false }, kinds := [], alts := [], laidByText := true, laidKinds := [.data, .data, .data, .data, .pinned], laidTests := true, laidLooks := .later }
def ExplainParsedUptoCardSaid : Prop := Claim7.holds Tryz.pinned (.plain (OpenSpec.upto explainParsedSpec)) explainParsedUptoCard
end Rows
end Go.Proofs.YtopoacpklgcfnaaGreatDoor
