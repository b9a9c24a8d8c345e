/-
  DERIVED. GIVEN WITH THE SEED: THE CARDS: each row of YtploppegiebboaaGreatDoorRows.lean that lists a variable, with what it lists TIED to the program's text (the seventh form; the later family's looks); each row that meets fmt, with fmt's text TOLD by the authors' own Lean function (tested against real Go, not proved from fmt's source: count such statements apart). THE CARD IS WHAT COUNTS. Prove the row's statement (the work); the ties are given (YtploppegiebboaaGreatDoorTie.lean); close each card by the builder's one call (the guide's Derived/Test/ToyasCard.lean, 'card_holds'). Laid BY PROGRAM, IN A SANDBOX (cutbox-door.mjs). By AI agents, Wed Nov 11 2026. No macro, syntax, notation, axiom, sorry.
-/
import Derived.Test.YtploppegiebboaaGreatDoorRows
import GoSem.ClaimSeven
namespace Go.Proofs.YtploppegiebboaaGreatDoor
namespace Rows

/-- THE TIED CARD OF 'farandolelaw16.FlowForm'. -/
def flowFormCard : Claim7 := { stood := { row := flowFormRow, standIns := [], harness := (true, "2d9fcc892c33bfdd4201c1e1c9e219a9016f68f4e42e0eef6dc1cc3f39bedf6f"), looks := false }, kinds := [], alts := [], laidByText := true, laidKinds := [.data, .data, .data, .data, .pinned], laidTests := true, laidLooks := .later }
def FlowFormCardSaid : Prop := Claim7.holds Tryz.pinned (.plain (OpenSpec.ofChange flowFormSpec)) flowFormCard

/-- THE TIED CARD OF 'farandolelaw16.FlowApart'. -/
def flowApartCard : Claim7 := { stood := { row := flowApartRow, standIns := [], harness := (true, "2d9fcc892c33bfdd4201c1e1c9e219a9016f68f4e42e0eef6dc1cc3f39bedf6f"), looks := false }, kinds := [], alts := [], laidByText := true, laidKinds := [.data, .data, .data, .data, .pinned], laidTests := true, laidLooks := .later }
def FlowApartCardSaid : Prop := Claim7.holds Tryz.pinned (.plain (OpenSpec.ofChange flowApartSpec)) flowApartCard

/-- THE SECOND FORM's CARD OF 'farandolelaw16.FlowForm'. -/
def flowFormUptoCard : Claim7 := { stood := { row := flowFormUptoRow, standIns := [], harness := (true, "2d9fcc892c33bfdd4201c1e1c9e219a9016f68f4e42e0eef6dc1cc3f39bedf6f"), looks := false }, kinds := [], alts := [], laidByText := true, laidKinds := [.data, .data, .data, .data, .pinned], laidTests := true, laidLooks := .later }
def FlowFormUptoCardSaid : Prop := Claim7.holds Tryz.pinned (.plain (OpenSpec.upto flowFormSpec)) flowFormUptoCard

/-- THE SECOND FORM's CARD OF 'farandolelaw16.FlowApart'. -/
def flowApartUptoCard : Claim7 := { stood := { row := flowApartUptoRow, standIns := [], harness := (true, "2d9fcc892c33bfdd4201c1e1c9e219a9016f68f4e42e0eef6dc1cc3f39bedf6f"), looks := false }, kinds := [], alts := [], laidByText := true, laidKinds := [.data, .data, .data, .data, .pinned], laidTests := true, laidLooks := .later }
def FlowApartUptoCardSaid : Prop := Claim7.holds Tryz.pinned (.plain (OpenSpec.upto flowApartSpec)) flowApartUptoCard
end Rows
end Go.Proofs.YtploppegiebboaaGreatDoor
