/-
  DERIVED. GIVEN WITH THE SEED: THE CARDS: each row of YthmedickagkdoaaGreatDoorRows.lean that lists a variable, with what it lists TIED to the program's text (the seventh form; the later family's looks); each row that meets fmt, with fmt's text TOLD by the authors' own Lean function (tested against real Go, not proved from fmt's source: count such statements apart). THE CARD IS WHAT COUNTS. Prove the row's statement (the work); the ties are given (YthmedickagkdoaaGreatDoorTie.lean); close each card by the builder's one call (the guide's Derived/Test/ToyasCard.lean, 'card_holds'). Laid BY PROGRAM, IN A SANDBOX (cutbox-door.mjs). By AI agents, Wed Nov 11 2026. No macro, syntax, notation, axiom, sorry.
-/
import Derived.Test.YthmedickagkdoaaGreatDoorRows
import GoSem.ClaimSeven
namespace Go.Proofs.YthmedickagkdoaaGreatDoor
namespace Rows

/-- THE TIED CARD OF 'farandolelaw14.GuardDecls'. -/
def guardDeclsCard : Claim7 := { stood := { row := guardDeclsRow, standIns := [], harness := (true, "b64accfae1a17dc7dcd21fa4e6c81629f7c38f2e048ae95109a4fd982b744a30"), looks := false }, kinds := [], alts := [], laidByText := true, laidKinds := [.data, .data, .data, .data, .pinned], laidTests := true, laidLooks := .later }
def GuardDeclsCardSaid : Prop := Claim7.holds Tryz.pinned (.plain (OpenSpec.ofChange guardDeclsSpec)) guardDeclsCard

/-- THE SECOND FORM's CARD OF 'farandolelaw14.GuardDecls'. -/
def guardDeclsUptoCard : Claim7 := { stood := { row := guardDeclsUptoRow, standIns := [], harness := (true, "b64accfae1a17dc7dcd21fa4e6c81629f7c38f2e048ae95109a4fd982b744a30"), looks := false }, kinds := [], alts := [], laidByText := true, laidKinds := [.data, .data, .data, .data, .pinned], laidTests := true, laidLooks := .later }
def GuardDeclsUptoCardSaid : Prop := Claim7.holds Tryz.pinned (.plain (OpenSpec.upto guardDeclsSpec)) guardDeclsUptoCard
end Rows
end Go.Proofs.YthmedickagkdoaaGreatDoor
