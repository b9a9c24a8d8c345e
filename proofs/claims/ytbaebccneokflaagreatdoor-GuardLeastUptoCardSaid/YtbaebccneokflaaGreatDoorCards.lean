/-
  DERIVED. GIVEN WITH THE SEED: THE CARDS: each row of YtbaebccneokflaaGreatDoorRows.lean that lists a variable, with what it lists TIED to the program's text (the seventh form; the later family's looks); each row that meets fmt, with fmt's text TOLD by the authors' own Lean function (tested against real Go, not proved from fmt's source: count such statements apart). THE CARD IS WHAT COUNTS. Prove the row's statement (the work); the ties are given (YtbaebccneokflaaGreatDoorTie.lean); close each card by the builder's one call (the guide's Derived/Test/ToyasCard.lean, 'card_holds'). Laid BY PROGRAM, IN A SANDBOX (cutbox-door.mjs). By AI agents, Wed Nov 11 2026. No macro, syntax, notation, axiom, sorry.
-/
import Derived.Test.YtbaebccneokflaaGreatDoorRows
import GoSem.ClaimSeven
namespace Go.Proofs.YtbaebccneokflaaGreatDoor
namespace Rows

/-- THE TIED CARD OF 'farandolelaw14.GuardFill'. -/
def guardFillCard : Claim7 := { stood := { row := guardFillRow, standIns := [], harness := (true, "fb13b01483f152099179a5e2660ac386bd932abea7b8fe948c4d8a2007dd34a7"), looks := false }, kinds := [], alts := [], laidByText := true, laidKinds := [.data, .data, .data, .data, .pinned], laidTests := true, laidLooks := .later }
def GuardFillCardSaid : Prop := Claim7.holds Tryz.pinned (.plain (OpenSpec.ofChange guardFillSpec)) guardFillCard

/-- THE TIED CARD OF 'farandolelaw14.GuardLeast'. -/
def guardLeastCard : Claim7 := { stood := { row := guardLeastRow, standIns := [], harness := (true, "fb13b01483f152099179a5e2660ac386bd932abea7b8fe948c4d8a2007dd34a7"), looks := false }, kinds := [], alts := [], laidByText := true, laidKinds := [.data, .data, .data, .data, .pinned], laidTests := true, laidLooks := .later }
def GuardLeastCardSaid : Prop := Claim7.holds Tryz.pinned (.plain (OpenSpec.ofChange guardLeastSpec)) guardLeastCard

/-- THE TIED CARD OF 'farandolelaw14.GuardOwn'. -/
def guardOwnCard : Claim7 := { stood := { row := guardOwnRow, standIns := [], harness := (true, "fb13b01483f152099179a5e2660ac386bd932abea7b8fe948c4d8a2007dd34a7"), looks := false }, kinds := [], alts := [], laidByText := true, laidKinds := [.data, .data, .data, .data, .pinned], laidTests := true, laidLooks := .later }
def GuardOwnCardSaid : Prop := Claim7.holds Tryz.pinned (.plain (OpenSpec.ofChange guardOwnSpec)) guardOwnCard

/-- THE TIED CARD OF 'farandolelaw14.GuardParts'. -/
def guardPartsCard : Claim7 := { stood := { row := guardPartsRow, standIns := [], harness := (true, "fb13b01483f152099179a5e2660ac386bd932abea7b8fe948c4d8a2007dd34a7"), looks := false }, kinds := [], alts := [], laidByText := true, laidKinds := [.data, .data, .data, .data, .pinned], laidTests := true, laidLooks := .later }
def GuardPartsCardSaid : Prop := Claim7.holds Tryz.pinned (.plain (OpenSpec.ofChange guardPartsSpec)) guardPartsCard

/-- THE TIED CARD OF 'farandolelaw14.GuardDecls'. -/
def guardDeclsCard : Claim7 := { stood := { row := guardDeclsRow, standIns := [], harness := (true, "fb13b01483f152099179a5e2660ac386bd932abea7b8fe948c4d8a2007dd34a7"), looks := false }, kinds := [], alts := [], laidByText := true, laidKinds := [.data, .data, .data, .data, .pinned], laidTests := true, laidLooks := .later }
def GuardDeclsCardSaid : Prop := Claim7.holds Tryz.pinned (.plain (OpenSpec.ofChange guardDeclsSpec)) guardDeclsCard

/-- THE TIED CARD OF 'farandolelaw14.GuardBounds'. -/
def guardBoundsCard : Claim7 := { stood := { row := guardBoundsRow, standIns := [], harness := (true, "fb13b01483f152099179a5e2660ac386bd932abea7b8fe948c4d8a2007dd34a7"), looks := false }, kinds := [], alts := [], laidByText := true, laidKinds := [.data, .data, .data, .data, .pinned], laidTests := true, laidLooks := .later }
def GuardBoundsCardSaid : Prop := Claim7.holds Tryz.pinned (.plain (OpenSpec.ofChange guardBoundsSpec)) guardBoundsCard

/-- THE TIED CARD OF 'farandolelaw14.GuardCheck'. -/
def guardCheckCard : Claim7 := { stood := { row := guardCheckRow, standIns := [], harness := (true, "fb13b01483f152099179a5e2660ac386bd932abea7b8fe948c4d8a2007dd34a7"), looks := false }, kinds := [], alts := [], laidByText := true, laidKinds := [.data, .data, .data, .data, .pinned], laidTests := true, laidLooks := .later }
def GuardCheckCardSaid : Prop := Claim7.holds Tryz.pinned (.plain (OpenSpec.ofChange guardCheckSpec)) guardCheckCard

/-- THE TIED CARD OF 'farandolelaw14.GuardLearn'. -/
def guardLearnCard : Claim7 := { stood := { row := guardLearnRow, standIns := [], harness := (true, "fb13b01483f152099179a5e2660ac386bd932abea7b8fe948c4d8a2007dd34a7"), looks := false }, kinds := [], alts := [], laidByText := true, laidKinds := [.data, .data, .data, .data, .pinned], laidTests := true, laidLooks := .later }
def GuardLearnCardSaid : Prop := Claim7.holds Tryz.pinned (.plain (OpenSpec.ofChange guardLearnSpec)) guardLearnCard

/-- THE SECOND FORM's CARD OF 'farandolelaw14.GuardFill'. -/
def guardFillUptoCard : Claim7 := { stood := { row := guardFillUptoRow, standIns := [], harness := (true, "fb13b01483f152099179a5e2660ac386bd932abea7b8fe948c4d8a2007dd34a7"), looks := false }, kinds := [], alts := [], laidByText := true, laidKinds := [.data, .data, .data, .data, .pinned], laidTests := true, laidLooks := .later }
def GuardFillUptoCardSaid : Prop := Claim7.holds Tryz.pinned (.plain (OpenSpec.upto guardFillSpec)) guardFillUptoCard

/-- THE SECOND FORM's CARD OF 'farandolelaw14.GuardLeast'. -/
def guardLeastUptoCard : Claim7 := { stood := { row := guardLeastUptoRow, standIns := [], harness := (true, "fb13b01483f152099179a5e2660ac386bd932abea7b8fe948c4d8a2007dd34a7"), looks := false }, kinds := [], alts := [], laidByText := true, laidKinds := [.data, .data, .data, .data, .pinned], laidTests := true, laidLooks := .later }
def GuardLeastUptoCardSaid : Prop := Claim7.holds Tryz.pinned (.plain (OpenSpec.upto guardLeastSpec)) guardLeastUptoCard

/-- THE SECOND FORM's CARD OF 'farandolelaw14.GuardOwn'. -/
def guardOwnUptoCard : Claim7 := { stood := { row := guardOwnUptoRow, standIns := [], harness := (true, "fb13b01483f152099179a5e2660ac386bd932abea7b8fe948c4d8a2007dd34a7"), looks := false }, kinds := [], alts := [], laidByText := true, laidKinds := [.data, .data, .data, .data, .pinned], laidTests := true, laidLooks := .later }
def GuardOwnUptoCardSaid : Prop := Claim7.holds Tryz.pinned (.plain (OpenSpec.upto guardOwnSpec)) guardOwnUptoCard

/-- THE SECOND FORM's CARD OF 'farandolelaw14.GuardParts'. -/
def guardPartsUptoCard : Claim7 := { stood := { row := guardPartsUptoRow, standIns := [], harness := (true, "fb13b01483f152099179a5e2660ac386bd932abea7b8fe948c4d8a2007dd34a7"), looks := false }, kinds := [], alts := [], laidByText := true, laidKinds := [.data, .data, .data, .data, .pinned], laidTests := true, laidLooks := .later }
def GuardPartsUptoCardSaid : Prop := Claim7.holds Tryz.pinned (.plain (OpenSpec.upto guardPartsSpec)) guardPartsUptoCard

/-- THE SECOND FORM's CARD OF 'farandolelaw14.GuardDecls'. -/
def guardDeclsUptoCard : Claim7 := { stood := { row := guardDeclsUptoRow, standIns := [], harness := (true, "fb13b01483f152099179a5e2660ac386bd932abea7b8fe948c4d8a2007dd34a7"), looks := false }, kinds := [], alts := [], laidByText := true, laidKinds := [.data, .data, .data, .data, .pinned], laidTests := true, laidLooks := .later }
def GuardDeclsUptoCardSaid : Prop := Claim7.holds Tryz.pinned (.plain (OpenSpec.upto guardDeclsSpec)) guardDeclsUptoCard

/-- THE SECOND FORM's CARD OF 'farandolelaw14.GuardBounds'. -/
def guardBoundsUptoCard : Claim7 := { stood := { row := guardBoundsUptoRow, standIns := [], harness := (true, "fb13b01483f152099179a5e2660ac386bd932abea7b8fe948c4d8a2007dd34a7"), looks := false }, kinds := [], alts := [], laidByText := true, laidKinds := [.data, .data, .data, .data, .pinned], laidTests := true, laidLooks := .later }
def GuardBoundsUptoCardSaid : Prop := Claim7.holds Tryz.pinned (.plain (OpenSpec.upto guardBoundsSpec)) guardBoundsUptoCard

/-- THE SECOND FORM's CARD OF 'farandolelaw14.GuardCheck'. -/
def guardCheckUptoCard : Claim7 := { stood := { row := guardCheckUptoRow, standIns := [], harness := (true, "fb13b01483f152099179a5e2660ac386bd932abea7b8fe948c4d8a2007dd34a7"), looks := false }, kinds := [], alts := [], laidByText := true, laidKinds := [.data, .data, .data, .data, .pinned], laidTests := true, laidLooks := .later }
def GuardCheckUptoCardSaid : Prop := Claim7.holds Tryz.pinned (.plain (OpenSpec.upto guardCheckSpec)) guardCheckUptoCard

/-- THE SECOND FORM's CARD OF 'farandolelaw14.GuardLearn'. -/
def guardLearnUptoCard : Claim7 := { stood := { row := guardLearnUptoRow, standIns := [], harness := (true, "fb13b01483f152099179a5e2660ac386bd932abea7b8fe948c4d8a2007dd34a7"), looks := false }, kinds := [], alts := [], laidByText := true, laidKinds := [.data, .data, .data, .data, .pinned], laidTests := true, laidLooks := .later }
def GuardLearnUptoCardSaid : Prop := Claim7.holds Tryz.pinned (.plain (OpenSpec.upto guardLearnSpec)) guardLearnUptoCard
end Rows
end Go.Proofs.YtbaebccneokflaaGreatDoor
