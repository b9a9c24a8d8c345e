/-
  DERIVED. GIVEN WITH THE SEED: THE CARDS: each row of YtpkbkcejjnemaaaGreatDoorRows.lean that lists a variable, with what it lists TIED to the program's text (the seventh form; the later family's looks); each row that meets fmt, with fmt's text TOLD by the authors' own Lean function (tested against real Go, not proved from fmt's source: count such statements apart). THE CARD IS WHAT COUNTS. Prove the row's statement (the work); the ties are given (YtpkbkcejjnemaaaGreatDoorTie.lean); close each card by the builder's one call (the guide's Derived/Test/ToyasCard.lean, 'card_holds'). Laid BY PROGRAM, IN A SANDBOX (cutbox-door.mjs). By AI agents, Wed Nov 11 2026. No macro, syntax, notation, axiom, sorry.
-/
import Derived.Test.YtpkbkcejjnemaaaGreatDoorRows
import GoSem.ClaimSeven
namespace Go.Proofs.YtpkbkcejjnemaaaGreatDoor
namespace Rows

/-- THE TIED CARD OF 'farandolelaw43.ExplainSuggest'. -/
def explainSuggestCard : Claim7 := { stood := { row := explainSuggestRow, standIns := [], harness := (true, "0bdbaa3fe6ae50ef8ce43f3748264c76bff0d04741b8d5ebb49060847d4215b8"), looks := false }, kinds := [], alts := [], laidByText := true, laidKinds := [.data, .data, .data, .data, .pinned], laidTests := true, laidLooks := .later }
def ExplainSuggestCardSaid : Prop := Claim7.holds Tryz.pinned (.plain (OpenSpec.ofChange explainSuggestSpec)) explainSuggestCard

/-- THE SECOND FORM's CARD OF 'farandolelaw43.ExplainSuggest'. -/
def explainSuggestUptoCard : Claim7 := { stood := { row := explainSuggestUptoRow, standIns := [], harness := (true, "0bdbaa3fe6ae50ef8ce43f3748264c76bff0d04741b8d5ebb49060847d4215b8"), looks := false }, kinds := [], alts := [], laidByText := true, laidKinds := [.data, .data, .data, .data, .pinned], laidTests := true, laidLooks := .later }
def ExplainSuggestUptoCardSaid : Prop := Claim7.holds Tryz.pinned (.plain (OpenSpec.upto explainSuggestSpec)) explainSuggestUptoCard
end Rows
end Go.Proofs.YtpkbkcejjnemaaaGreatDoor
