/-
  DERIVED. GIVEN WITH THE SEED: THE CARDS: each row of YtngljfgicoflaaaGreatDoorRows.lean that lists a variable, with what it lists TIED to the program's text (the seventh form; the later family's looks); each row that meets fmt, with fmt's text TOLD by the authors' own Lean function (tested against real Go, not proved from fmt's source: count such statements apart). THE CARD IS WHAT COUNTS. Prove the row's statement (the work); the ties are given (YtngljfgicoflaaaGreatDoorTie.lean); close each card by the builder's one call (the guide's Derived/Test/ToyasCard.lean, 'card_holds'). Laid BY PROGRAM, IN A SANDBOX (cutbox-door.mjs). By AI agents, Wed Nov 11 2026. No macro, syntax, notation, axiom, sorry.
-/
import Derived.Test.YtngljfgicoflaaaGreatDoorRows
import GoSem.ClaimSeven
namespace Go.Proofs.YtngljfgicoflaaaGreatDoor
namespace Rows

/-- THE TIED CARD OF 'farandolelaw14.GuardFill'. -/
def guardFillCard : Claim7 := { stood := { row := guardFillRow, standIns := [], harness := (true, "4c4cafbc1142283b802efc7df88f68202f3461b314ff6e012b1f3a2f25dd1ac6"), looks := false }, kinds := [], alts := [], laidByText := true, laidKinds := [.data, .data, .data, .data, .pinned], laidTests := true, laidLooks := .later }
def GuardFillCardSaid : Prop := Claim7.holds Tryz.pinned (.plain (OpenSpec.ofChange guardFillSpec)) guardFillCard

/-- THE SECOND FORM's CARD OF 'farandolelaw14.GuardFill'. -/
def guardFillUptoCard : Claim7 := { stood := { row := guardFillUptoRow, standIns := [], harness := (true, "4c4cafbc1142283b802efc7df88f68202f3461b314ff6e012b1f3a2f25dd1ac6"), looks := false }, kinds := [], alts := [], laidByText := true, laidKinds := [.data, .data, .data, .data, .pinned], laidTests := true, laidLooks := .later }
def GuardFillUptoCardSaid : Prop := Claim7.holds Tryz.pinned (.plain (OpenSpec.upto guardFillSpec)) guardFillUptoCard
end Rows
end Go.Proofs.YtngljfgicoflaaaGreatDoor
