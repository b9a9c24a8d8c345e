/-
  DERIVED. GIVEN WITH THE SEED: THE CARDS: each row of YtdlhgdfjpilcjaaGreatDoorRows.lean that lists a variable, with what it lists TIED to the program's text (the seventh form; the later family's looks); each row that meets fmt, with fmt's text TOLD by the authors' own Lean function (tested against real Go, not proved from fmt's source: count such statements apart). THE CARD IS WHAT COUNTS. Prove the row's statement (the work); the ties are given (YtdlhgdfjpilcjaaGreatDoorTie.lean); close each card by the builder's one call (the guide's Derived/Test/ToyasCard.lean, 'card_holds'). Laid BY PROGRAM, IN A SANDBOX (cutbox-door.mjs). By AI agents, Wed Nov 11 2026. No macro, syntax, notation, axiom, sorry.
-/
import Derived.Test.YtdlhgdfjpilcjaaGreatDoorRows
import GoSem.ClaimSeven
namespace Go.Proofs.YtdlhgdfjpilcjaaGreatDoor
namespace Rows

/-- THE TIED CARD OF 'farandolelaw43.ExplainPermitted'. -/
def explainPermittedCard : Claim7 := { stood := { row := explainPermittedRow, standIns := [], harness := (true, "dd68d321aecaf99e6ed5852ad5484845049649dc00d06ccf181f72e03cd944a4"), looks := false }, kinds := [], alts := [], laidByText := true, laidKinds := [.data, .data, .data, .data, .pinned], laidTests := true, laidLooks := .later }
def ExplainPermittedCardSaid : Prop := Claim7.holds Tryz.pinned (.plain (OpenSpec.ofChange explainPermittedSpec)) explainPermittedCard

/-- THE TIED CARD OF 'farandolelaw43.ExplainWhy'. -/
def explainWhyCard : Claim7 := { stood := { row := explainWhyRow, standIns := [], harness := (true, "dd68d321aecaf99e6ed5852ad5484845049649dc00d06ccf181f72e03cd944a4"), looks := false }, kinds := [], alts := [], laidByText := true, laidKinds := [.data, .data, .data, .data, .pinned], laidTests := true, laidLooks := .later }
def ExplainWhyCardSaid : Prop := Claim7.holds Tryz.pinned (.plain (OpenSpec.ofChange explainWhySpec)) explainWhyCard

/-- THE TIED CARD OF 'farandolelaw43.ExplainAll'. -/
def explainAllCard : Claim7 := { stood := { row := explainAllRow, standIns := [], harness := (true, "dd68d321aecaf99e6ed5852ad5484845049649dc00d06ccf181f72e03cd944a4"), looks := false }, kinds := [], alts := [], laidByText := true, laidKinds := [.data, .data, .data, .data, .pinned], laidTests := true, laidLooks := .later }
def ExplainAllCardSaid : Prop := Claim7.holds Tryz.pinned (.plain (OpenSpec.ofChange explainAllSpec)) explainAllCard

/-- THE TIED CARD OF 'farandolelaw43.ExplainPermits'. -/
def explainPermitsCard : Claim7 := { stood := { row := explainPermitsRow, standIns := [], harness := (true, "dd68d321aecaf99e6ed5852ad5484845049649dc00d06ccf181f72e03cd944a4"), looks := false }, kinds := [], alts := [], laidByText := true, laidKinds := [.data, .data, .data, .data, .pinned], laidTests := true, laidLooks := .later }
def ExplainPermitsCardSaid : Prop := Claim7.holds Tryz.pinned (.plain (OpenSpec.ofChange explainPermitsSpec)) explainPermitsCard

/-- THE TIED CARD OF 'farandolelaw43.ExplainSuggest'. -/
def explainSuggestCard : Claim7 := { stood := { row := explainSuggestRow, standIns := [], harness := (true, "dd68d321aecaf99e6ed5852ad5484845049649dc00d06ccf181f72e03cd944a4"), looks := false }, kinds := [], alts := [], laidByText := true, laidKinds := [.data, .data, .data, .data, .pinned], laidTests := true, laidLooks := .later }
def ExplainSuggestCardSaid : Prop := Claim7.holds Tryz.pinned (.plain (OpenSpec.ofChange explainSuggestSpec)) explainSuggestCard

/-- THE SECOND FORM's CARD OF 'farandolelaw43.ExplainPermitted'. -/
def explainPermittedUptoCard : Claim7 := { stood := { row := explainPermittedUptoRow, standIns := [], harness := (true, "dd68d321aecaf99e6ed5852ad5484845049649dc00d06ccf181f72e03cd944a4"), looks := false }, kinds := [], alts := [], laidByText := true, laidKinds := [.data, .data, .data, .data, .pinned], laidTests := true, laidLooks := .later }
def ExplainPermittedUptoCardSaid : Prop := Claim7.holds Tryz.pinned (.plain (OpenSpec.upto explainPermittedSpec)) explainPermittedUptoCard

/-- THE SECOND FORM's CARD OF 'farandolelaw43.ExplainWhy'. -/
def explainWhyUptoCard : Claim7 := { stood := { row := explainWhyUptoRow, standIns := [], harness := (true, "dd68d321aecaf99e6ed5852ad5484845049649dc00d06ccf181f72e03cd944a4"), looks := false }, kinds := [], alts := [], laidByText := true, laidKinds := [.data, .data, .data, .data, .pinned], laidTests := true, laidLooks := .later }
def ExplainWhyUptoCardSaid : Prop := Claim7.holds Tryz.pinned (.plain (OpenSpec.upto explainWhySpec)) explainWhyUptoCard

/-- THE SECOND FORM's CARD OF 'farandolelaw43.ExplainAll'. -/
def explainAllUptoCard : Claim7 := { stood := { row := explainAllUptoRow, standIns := [], harness := (true, "dd68d321aecaf99e6ed5852ad5484845049649dc00d06ccf181f72e03cd944a4"), looks := false }, kinds := [], alts := [], laidByText := true, laidKinds := [.data, .data, .data, .data, .pinned], laidTests := true, laidLooks := .later }
def ExplainAllUptoCardSaid : Prop := Claim7.holds Tryz.pinned (.plain (OpenSpec.upto explainAllSpec)) explainAllUptoCard

/-- THE SECOND FORM's CARD OF 'farandolelaw43.ExplainPermits'. -/
def explainPermitsUptoCard : Claim7 := { stood := { row := explainPermitsUptoRow, standIns := [], harness := (true, "dd68d321aecaf99e6ed5852ad5484845049649dc00d06ccf181f72e03cd944a4"), looks := false }, kinds := [], alts := [], laidByText := true, laidKinds := [.data, .data, .data, .data, .pinned], laidTests := true, laidLooks := .later }
def ExplainPermitsUptoCardSaid : Prop := Claim7.holds Tryz.pinned (.plain (OpenSpec.upto explainPermitsSpec)) explainPermitsUptoCard

/-- THE SECOND FORM's CARD OF 'farandolelaw43.ExplainSuggest'. -/
def explainSuggestUptoCard : Claim7 := { stood := { row := explainSuggestUptoRow, standIns := [], harness := (true, "dd68d321aecaf99e6ed5852ad5484845049649dc00d06ccf181f72e03cd944a4"), looks := false }, kinds := [], alts := [], laidByText := true, laidKinds := [.data, .data, .data, .data, .pinned], laidTests := true, laidLooks := .later }
def ExplainSuggestUptoCardSaid : Prop := Claim7.holds Tryz.pinned (.plain (OpenSpec.upto explainSuggestSpec)) explainSuggestUptoCard
end Rows
end Go.Proofs.YtdlhgdfjpilcjaaGreatDoor
