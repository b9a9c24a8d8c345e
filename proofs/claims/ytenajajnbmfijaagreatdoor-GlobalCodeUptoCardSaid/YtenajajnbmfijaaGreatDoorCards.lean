/-
  DERIVED. GIVEN WITH THE SEED: THE CARDS: each row of YtenajajnbmfijaaGreatDoorRows.lean that lists a variable, with what it lists TIED to the program's text (the seventh form; the later family's looks); each row that meets fmt, with fmt's text TOLD by the authors' own Lean function (tested against real Go, not proved from fmt's source: count such statements apart). THE CARD IS WHAT COUNTS. Prove the row's statement (the work); the ties are given (YtenajajnbmfijaaGreatDoorTie.lean); close each card by the builder's one call (the guide's Derived/Test/ToyasCard.lean, 'card_holds'). Laid BY PROGRAM, IN A SANDBOX (cutbox-door.mjs). By AI agents, Wed Nov 11 2026. No macro, syntax, notation, axiom, sorry.
-/
import Derived.Test.YtenajajnbmfijaaGreatDoorRows
import GoSem.ClaimSeven
namespace Go.Proofs.YtenajajnbmfijaaGreatDoor
namespace Rows

/-- THE TIED CARD OF 'farandolelaw18.GlobalWords'. -/
def globalWordsCard : Claim7 := { stood := { row := globalWordsRow, standIns := [], harness := (true, "3563f232acc84f617c9d93cda7cc62a0dcefa9f9f5b727172dcae1e2c409bcae"), looks := false }, kinds := [], alts := [], laidByText := true, laidKinds := [.data, .pinned], laidTests := true, laidLooks := .later }
def GlobalWordsCardSaid : Prop := Claim7.holds Tryz.pinned (.plain (OpenSpec.ofChange globalWordsSpec)) globalWordsCard

/-- THE TIED CARD OF 'farandolelaw18.GlobalTurned'. -/
def globalTurnedCard : Claim7 := { stood := { row := globalTurnedRow, standIns := [], harness := (true, "3563f232acc84f617c9d93cda7cc62a0dcefa9f9f5b727172dcae1e2c409bcae"), looks := false }, kinds := [], alts := [], laidByText := true, laidKinds := [.data, .pinned], laidTests := true, laidLooks := .later }
def GlobalTurnedCardSaid : Prop := Claim7.holds Tryz.pinned (.plain (OpenSpec.ofChange globalTurnedSpec)) globalTurnedCard

/-- THE TIED CARD OF 'farandolelaw18.GlobalSame'. -/
def globalSameCard : Claim7 := { stood := { row := globalSameRow, standIns := [], harness := (true, "3563f232acc84f617c9d93cda7cc62a0dcefa9f9f5b727172dcae1e2c409bcae"), looks := false }, kinds := [], alts := [], laidByText := true, laidKinds := [.data, .pinned], laidTests := true, laidLooks := .later }
def GlobalSameCardSaid : Prop := Claim7.holds Tryz.pinned (.plain (OpenSpec.ofChange globalSameSpec)) globalSameCard

/-- THE TIED CARD OF 'farandolelaw18.GlobalSearch'. -/
def globalSearchCard : Claim7 := { stood := { row := globalSearchRow, standIns := [], harness := (true, "3563f232acc84f617c9d93cda7cc62a0dcefa9f9f5b727172dcae1e2c409bcae"), looks := false }, kinds := [], alts := [], laidByText := true, laidKinds := [.data, .pinned], laidTests := true, laidLooks := .later }
def GlobalSearchCardSaid : Prop := Claim7.holds Tryz.pinned (.plain (OpenSpec.ofChange globalSearchSpec)) globalSearchCard

/-- THE TIED CARD OF 'farandolelaw18.GlobalValid'. -/
def globalValidCard : Claim7 := { stood := { row := globalValidRow, standIns := [], harness := (true, "3563f232acc84f617c9d93cda7cc62a0dcefa9f9f5b727172dcae1e2c409bcae"), looks := false }, kinds := [], alts := [], laidByText := true, laidKinds := [.data, .pinned], laidTests := true, laidLooks := .later }
def GlobalValidCardSaid : Prop := Claim7.holds Tryz.pinned (.plain (OpenSpec.ofChange globalValidSpec)) globalValidCard

/-- THE TIED CARD OF 'farandolelaw18.GlobalEnds'. -/
def globalEndsCard : Claim7 := { stood := { row := globalEndsRow, standIns := [], harness := (true, "3563f232acc84f617c9d93cda7cc62a0dcefa9f9f5b727172dcae1e2c409bcae"), looks := false }, kinds := [], alts := [], laidByText := true, laidKinds := [.data, .pinned], laidTests := true, laidLooks := .later }
def GlobalEndsCardSaid : Prop := Claim7.holds Tryz.pinned (.plain (OpenSpec.ofChange globalEndsSpec)) globalEndsCard

/-- THE TIED CARD OF 'farandolelaw18.GlobalCode'. -/
def globalCodeCard : Claim7 := { stood := { row := globalCodeRow, standIns := [], harness := (true, "3563f232acc84f617c9d93cda7cc62a0dcefa9f9f5b727172dcae1e2c409bcae"), looks := false }, kinds := [], alts := [], laidByText := true, laidKinds := [.data, .pinned], laidTests := true, laidLooks := .later }
def GlobalCodeCardSaid : Prop := Claim7.holds Tryz.pinned (.plain (OpenSpec.ofChange globalCodeSpec)) globalCodeCard

/-- THE TIED CARD OF 'farandolelaw18.GlobalDecode'. -/
def globalDecodeCard : Claim7 := { stood := { row := globalDecodeRow, standIns := [], harness := (true, "3563f232acc84f617c9d93cda7cc62a0dcefa9f9f5b727172dcae1e2c409bcae"), looks := false }, kinds := [], alts := [], laidByText := true, laidKinds := [.data, .pinned], laidTests := true, laidLooks := .later }
def GlobalDecodeCardSaid : Prop := Claim7.holds Tryz.pinned (.plain (OpenSpec.ofChange globalDecodeSpec)) globalDecodeCard

/-- THE TIED CARD OF 'farandolelaw18.GlobalDamage'. -/
def globalDamageCard : Claim7 := { stood := { row := globalDamageRow, standIns := [], harness := (true, "3563f232acc84f617c9d93cda7cc62a0dcefa9f9f5b727172dcae1e2c409bcae"), looks := false }, kinds := [], alts := [], laidByText := true, laidKinds := [.data, .pinned], laidTests := true, laidLooks := .later }
def GlobalDamageCardSaid : Prop := Claim7.holds Tryz.pinned (.plain (OpenSpec.ofChange globalDamageSpec)) globalDamageCard

/-- THE SECOND FORM's CARD OF 'farandolelaw18.GlobalWords'. -/
def globalWordsUptoCard : Claim7 := { stood := { row := globalWordsUptoRow, standIns := [], harness := (true, "3563f232acc84f617c9d93cda7cc62a0dcefa9f9f5b727172dcae1e2c409bcae"), looks := false }, kinds := [], alts := [], laidByText := true, laidKinds := [.data, .pinned], laidTests := true, laidLooks := .later }
def GlobalWordsUptoCardSaid : Prop := Claim7.holds Tryz.pinned (.plain (OpenSpec.upto globalWordsSpec)) globalWordsUptoCard

/-- THE SECOND FORM's CARD OF 'farandolelaw18.GlobalTurned'. -/
def globalTurnedUptoCard : Claim7 := { stood := { row := globalTurnedUptoRow, standIns := [], harness := (true, "3563f232acc84f617c9d93cda7cc62a0dcefa9f9f5b727172dcae1e2c409bcae"), looks := false }, kinds := [], alts := [], laidByText := true, laidKinds := [.data, .pinned], laidTests := true, laidLooks := .later }
def GlobalTurnedUptoCardSaid : Prop := Claim7.holds Tryz.pinned (.plain (OpenSpec.upto globalTurnedSpec)) globalTurnedUptoCard

/-- THE SECOND FORM's CARD OF 'farandolelaw18.GlobalSame'. -/
def globalSameUptoCard : Claim7 := { stood := { row := globalSameUptoRow, standIns := [], harness := (true, "3563f232acc84f617c9d93cda7cc62a0dcefa9f9f5b727172dcae1e2c409bcae"), looks := false }, kinds := [], alts := [], laidByText := true, laidKinds := [.data, .pinned], laidTests := true, laidLooks := .later }
def GlobalSameUptoCardSaid : Prop := Claim7.holds Tryz.pinned (.plain (OpenSpec.upto globalSameSpec)) globalSameUptoCard

/-- THE SECOND FORM's CARD OF 'farandolelaw18.GlobalSearch'. -/
def globalSearchUptoCard : Claim7 := { stood := { row := globalSearchUptoRow, standIns := [], harness := (true, "3563f232acc84f617c9d93cda7cc62a0dcefa9f9f5b727172dcae1e2c409bcae"), looks := false }, kinds := [], alts := [], laidByText := true, laidKinds := [.data, .pinned], laidTests := true, laidLooks := .later }
def GlobalSearchUptoCardSaid : Prop := Claim7.holds Tryz.pinned (.plain (OpenSpec.upto globalSearchSpec)) globalSearchUptoCard

/-- THE SECOND FORM's CARD OF 'farandolelaw18.GlobalValid'. -/
def globalValidUptoCard : Claim7 := { stood := { row := globalValidUptoRow, standIns := [], harness := (true, "3563f232acc84f617c9d93cda7cc62a0dcefa9f9f5b727172dcae1e2c409bcae"), looks := false }, kinds := [], alts := [], laidByText := true, laidKinds := [.data, .pinned], laidTests := true, laidLooks := .later }
def GlobalValidUptoCardSaid : Prop := Claim7.holds Tryz.pinned (.plain (OpenSpec.upto globalValidSpec)) globalValidUptoCard

/-- THE SECOND FORM's CARD OF 'farandolelaw18.GlobalEnds'. -/
def globalEndsUptoCard : Claim7 := { stood := { row := globalEndsUptoRow, standIns := [], harness := (true, "3563f232acc84f617c9d93cda7cc62a0dcefa9f9f5b727172dcae1e2c409bcae"), looks := false }, kinds := [], alts := [], laidByText := true, laidKinds := [.data, .pinned], laidTests := true, laidLooks := .later }
def GlobalEndsUptoCardSaid : Prop := Claim7.holds Tryz.pinned (.plain (OpenSpec.upto globalEndsSpec)) globalEndsUptoCard

/-- THE SECOND FORM's CARD OF 'farandolelaw18.GlobalCode'. -/
def globalCodeUptoCard : Claim7 := { stood := { row := globalCodeUptoRow, standIns := [], harness := (true, "3563f232acc84f617c9d93cda7cc62a0dcefa9f9f5b727172dcae1e2c409bcae"), looks := false }, kinds := [], alts := [], laidByText := true, laidKinds := [.data, .pinned], laidTests := true, laidLooks := .later }
def GlobalCodeUptoCardSaid : Prop := Claim7.holds Tryz.pinned (.plain (OpenSpec.upto globalCodeSpec)) globalCodeUptoCard

/-- THE SECOND FORM's CARD OF 'farandolelaw18.GlobalDecode'. -/
def globalDecodeUptoCard : Claim7 := { stood := { row := globalDecodeUptoRow, standIns := [], harness := (true, "3563f232acc84f617c9d93cda7cc62a0dcefa9f9f5b727172dcae1e2c409bcae"), looks := false }, kinds := [], alts := [], laidByText := true, laidKinds := [.data, .pinned], laidTests := true, laidLooks := .later }
def GlobalDecodeUptoCardSaid : Prop := Claim7.holds Tryz.pinned (.plain (OpenSpec.upto globalDecodeSpec)) globalDecodeUptoCard

/-- THE SECOND FORM's CARD OF 'farandolelaw18.GlobalDamage'. -/
def globalDamageUptoCard : Claim7 := { stood := { row := globalDamageUptoRow, standIns := [], harness := (true, "3563f232acc84f617c9d93cda7cc62a0dcefa9f9f5b727172dcae1e2c409bcae"), looks := false }, kinds := [], alts := [], laidByText := true, laidKinds := [.data, .pinned], laidTests := true, laidLooks := .later }
def GlobalDamageUptoCardSaid : Prop := Claim7.holds Tryz.pinned (.plain (OpenSpec.upto globalDamageSpec)) globalDamageUptoCard
end Rows
end Go.Proofs.YtenajajnbmfijaaGreatDoor
