/-
  DERIVED. GIVEN WITH THE SEED: THE CARDS: each row of YteimgnlbpphmjaaGreatDoorRows.lean that lists a variable, with what it lists TIED to the program's text (the seventh form; the later family's looks); each row that meets fmt, with fmt's text TOLD by the authors' own Lean function (tested against real Go, not proved from fmt's source: count such statements apart). THE CARD IS WHAT COUNTS. Prove the row's statement (the work); the ties are given (YteimgnlbpphmjaaGreatDoorTie.lean); close each card by the builder's one call (the guide's Derived/Test/ToyasCard.lean, 'card_holds'). Laid BY PROGRAM, IN A SANDBOX (cutbox-door.mjs). By AI agents, Wed Nov 11 2026. No macro, syntax, notation, axiom, sorry.
-/
import Derived.Test.YteimgnlbpphmjaaGreatDoorRows
import GoSem.ClaimSeven
namespace Go.Proofs.YteimgnlbpphmjaaGreatDoor
namespace Rows

/-- THE TIED CARD OF 'farandolelaw10.SyntaxSource'. -/
def syntaxSourceCard : Claim7 := { stood := { row := syntaxSourceRow, standIns := [], harness := (true, "0645d7ce24a4b7c3dafc6840c117afb9919470d23ceffb9ecc5bfa6fe2f5bf32"), looks := false }, kinds := [], alts := [], laidByText := true, laidKinds := [.data, .data, .data, .data, .pinned], laidTests := true, laidLooks := .later }
def SyntaxSourceCardSaid : Prop := Claim7.holds Tryz.pinned (.plain (OpenSpec.ofChange syntaxSourceSpec)) syntaxSourceCard

/-- THE TIED CARD OF 'farandolelaw10.SyntaxPrint'. -/
def syntaxPrintCard : Claim7 := { stood := { row := syntaxPrintRow, standIns := [], harness := (true, "0645d7ce24a4b7c3dafc6840c117afb9919470d23ceffb9ecc5bfa6fe2f5bf32"), looks := false }, kinds := [], alts := [], laidByText := true, laidKinds := [.data, .data, .data, .data, .pinned], laidTests := true, laidLooks := .later }
def SyntaxPrintCardSaid : Prop := Claim7.holds Tryz.pinned (.plain (OpenSpec.ofChange syntaxPrintSpec)) syntaxPrintCard

/-- THE TIED CARD OF 'farandolelaw10.SyntaxEqual'. -/
def syntaxEqualCard : Claim7 := { stood := { row := syntaxEqualRow, standIns := [], harness := (true, "0645d7ce24a4b7c3dafc6840c117afb9919470d23ceffb9ecc5bfa6fe2f5bf32"), looks := false }, kinds := [], alts := [], laidByText := true, laidKinds := [.data, .data, .data, .data, .pinned], laidTests := true, laidLooks := .later }
def SyntaxEqualCardSaid : Prop := Claim7.holds Tryz.pinned (.plain (OpenSpec.ofChange syntaxEqualSpec)) syntaxEqualCard

/-- THE TIED CARD OF 'farandolelaw10.SyntaxParts'. -/
def syntaxPartsCard : Claim7 := { stood := { row := syntaxPartsRow, standIns := [], harness := (true, "0645d7ce24a4b7c3dafc6840c117afb9919470d23ceffb9ecc5bfa6fe2f5bf32"), looks := false }, kinds := [], alts := [], laidByText := true, laidKinds := [.data, .data, .data, .data, .pinned], laidTests := true, laidLooks := .later }
def SyntaxPartsCardSaid : Prop := Claim7.holds Tryz.pinned (.plain (OpenSpec.ofChange syntaxPartsSpec)) syntaxPartsCard

/-- THE TIED CARD OF 'farandolelaw10.SyntaxFirst'. -/
def syntaxFirstCard : Claim7 := { stood := { row := syntaxFirstRow, standIns := [], harness := (true, "0645d7ce24a4b7c3dafc6840c117afb9919470d23ceffb9ecc5bfa6fe2f5bf32"), looks := false }, kinds := [], alts := [], laidByText := true, laidKinds := [.data, .data, .data, .data, .pinned], laidTests := true, laidLooks := .later }
def SyntaxFirstCardSaid : Prop := Claim7.holds Tryz.pinned (.plain (OpenSpec.ofChange syntaxFirstSpec)) syntaxFirstCard

/-- THE TIED CARD OF 'farandolelaw10.SyntaxBlanks'. -/
def syntaxBlanksCard : Claim7 := { stood := { row := syntaxBlanksRow, standIns := [], harness := (true, "0645d7ce24a4b7c3dafc6840c117afb9919470d23ceffb9ecc5bfa6fe2f5bf32"), looks := false }, kinds := [], alts := [], laidByText := true, laidKinds := [.data, .data, .data, .data, .pinned], laidTests := true, laidLooks := .later }
def SyntaxBlanksCardSaid : Prop := Claim7.holds Tryz.pinned (.plain (OpenSpec.ofChange syntaxBlanksSpec)) syntaxBlanksCard

/-- THE SECOND FORM's CARD OF 'farandolelaw10.SyntaxSource'. -/
def syntaxSourceUptoCard : Claim7 := { stood := { row := syntaxSourceUptoRow, standIns := [], harness := (true, "0645d7ce24a4b7c3dafc6840c117afb9919470d23ceffb9ecc5bfa6fe2f5bf32"), looks := false }, kinds := [], alts := [], laidByText := true, laidKinds := [.data, .data, .data, .data, .pinned], laidTests := true, laidLooks := .later }
def SyntaxSourceUptoCardSaid : Prop := Claim7.holds Tryz.pinned (.plain (OpenSpec.upto syntaxSourceSpec)) syntaxSourceUptoCard

/-- THE SECOND FORM's CARD OF 'farandolelaw10.SyntaxPrint'. -/
def syntaxPrintUptoCard : Claim7 := { stood := { row := syntaxPrintUptoRow, standIns := [], harness := (true, "0645d7ce24a4b7c3dafc6840c117afb9919470d23ceffb9ecc5bfa6fe2f5bf32"), looks := false }, kinds := [], alts := [], laidByText := true, laidKinds := [.data, .data, .data, .data, .pinned], laidTests := true, laidLooks := .later }
def SyntaxPrintUptoCardSaid : Prop := Claim7.holds Tryz.pinned (.plain (OpenSpec.upto syntaxPrintSpec)) syntaxPrintUptoCard

/-- THE SECOND FORM's CARD OF 'farandolelaw10.SyntaxEqual'. -/
def syntaxEqualUptoCard : Claim7 := { stood := { row := syntaxEqualUptoRow, standIns := [], harness := (true, "0645d7ce24a4b7c3dafc6840c117afb9919470d23ceffb9ecc5bfa6fe2f5bf32"), looks := false }, kinds := [], alts := [], laidByText := true, laidKinds := [.data, .data, .data, .data, .pinned], laidTests := true, laidLooks := .later }
def SyntaxEqualUptoCardSaid : Prop := Claim7.holds Tryz.pinned (.plain (OpenSpec.upto syntaxEqualSpec)) syntaxEqualUptoCard

/-- THE SECOND FORM's CARD OF 'farandolelaw10.SyntaxParts'. -/
def syntaxPartsUptoCard : Claim7 := { stood := { row := syntaxPartsUptoRow, standIns := [], harness := (true, "0645d7ce24a4b7c3dafc6840c117afb9919470d23ceffb9ecc5bfa6fe2f5bf32"), looks := false }, kinds := [], alts := [], laidByText := true, laidKinds := [.data, .data, .data, .data, .pinned], laidTests := true, laidLooks := .later }
def SyntaxPartsUptoCardSaid : Prop := Claim7.holds Tryz.pinned (.plain (OpenSpec.upto syntaxPartsSpec)) syntaxPartsUptoCard

/-- THE SECOND FORM's CARD OF 'farandolelaw10.SyntaxFirst'. -/
def syntaxFirstUptoCard : Claim7 := { stood := { row := syntaxFirstUptoRow, standIns := [], harness := (true, "0645d7ce24a4b7c3dafc6840c117afb9919470d23ceffb9ecc5bfa6fe2f5bf32"), looks := false }, kinds := [], alts := [], laidByText := true, laidKinds := [.data, .data, .data, .data, .pinned], laidTests := true, laidLooks := .later }
def SyntaxFirstUptoCardSaid : Prop := Claim7.holds Tryz.pinned (.plain (OpenSpec.upto syntaxFirstSpec)) syntaxFirstUptoCard

/-- THE SECOND FORM's CARD OF 'farandolelaw10.SyntaxBlanks'. -/
def syntaxBlanksUptoCard : Claim7 := { stood := { row := syntaxBlanksUptoRow, standIns := [], harness := (true, "0645d7ce24a4b7c3dafc6840c117afb9919470d23ceffb9ecc5bfa6fe2f5bf32"), looks := false }, kinds := [], alts := [], laidByText := true, laidKinds := [.data, .data, .data, .data, .pinned], laidTests := true, laidLooks := .later }
def SyntaxBlanksUptoCardSaid : Prop := Claim7.holds Tryz.pinned (.plain (OpenSpec.upto syntaxBlanksSpec)) syntaxBlanksUptoCard
end Rows
end Go.Proofs.YteimgnlbpphmjaaGreatDoor
