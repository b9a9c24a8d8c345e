/-
  DERIVED. GIVEN WITH THE SEED: THE CARDS: each row of YtknelkokbekhnaaGreatDoorRows.lean that lists a variable, with what it lists TIED to the program's text (the seventh form; the later family's looks); each row that meets fmt, with fmt's text TOLD by the authors' own Lean function (tested against real Go, not proved from fmt's source: count such statements apart). THE CARD IS WHAT COUNTS. Prove the row's statement (the work); the ties are given (YtknelkokbekhnaaGreatDoorTie.lean); close each card by the builder's one call (the guide's Derived/Test/ToyasCard.lean, 'card_holds'). Laid BY PROGRAM, IN A SANDBOX (cutbox-door.mjs). By AI agents, Wed Nov 11 2026. No macro, syntax, notation, axiom, sorry.
-/
import Derived.Test.YtknelkokbekhnaaGreatDoorRows
import GoSem.ClaimSeven
namespace Go.Proofs.YtknelkokbekhnaaGreatDoor
namespace Rows

/-- THE TIED CARD OF 'farandolelaw11.NamesOrder'. -/
def namesOrderCard : Claim7 := { stood := { row := namesOrderRow, standIns := [], harness := (true, "2dbaf5f8738d51103221ec9eee72554905b26aeaa33d4a1b102e13cc16378be9"), looks := false }, kinds := [], alts := [], laidByText := true, laidKinds := [.data, .data, .data, .data, .pinned], laidTests := true, laidLooks := .later }
def NamesOrderCardSaid : Prop := Claim7.holds Tryz.pinned (.plain (OpenSpec.ofChange namesOrderSpec)) namesOrderCard

/-- THE TIED CARD OF 'farandolelaw11.NamesAlone'. -/
def namesAloneCard : Claim7 := { stood := { row := namesAloneRow, standIns := [], harness := (true, "2dbaf5f8738d51103221ec9eee72554905b26aeaa33d4a1b102e13cc16378be9"), looks := false }, kinds := [], alts := [], laidByText := true, laidKinds := [.data, .data, .data, .data, .pinned], laidTests := true, laidLooks := .later }
def NamesAloneCardSaid : Prop := Claim7.holds Tryz.pinned (.plain (OpenSpec.ofChange namesAloneSpec)) namesAloneCard

/-- THE TIED CARD OF 'farandolelaw11.NamesRename'. -/
def namesRenameCard : Claim7 := { stood := { row := namesRenameRow, standIns := [], harness := (true, "2dbaf5f8738d51103221ec9eee72554905b26aeaa33d4a1b102e13cc16378be9"), looks := false }, kinds := [], alts := [], laidByText := true, laidKinds := [.data, .data, .data, .data, .pinned], laidTests := true, laidLooks := .later }
def NamesRenameCardSaid : Prop := Claim7.holds Tryz.pinned (.plain (OpenSpec.ofChange namesRenameSpec)) namesRenameCard

/-- THE TIED CARD OF 'farandolelaw11.NamesTakes'. -/
def namesTakesCard : Claim7 := { stood := { row := namesTakesRow, standIns := [], harness := (true, "2dbaf5f8738d51103221ec9eee72554905b26aeaa33d4a1b102e13cc16378be9"), looks := false }, kinds := [], alts := [], laidByText := true, laidKinds := [.data, .data, .data, .data, .pinned], laidTests := true, laidLooks := .later }
def NamesTakesCardSaid : Prop := Claim7.holds Tryz.pinned (.plain (OpenSpec.ofChange namesTakesSpec)) namesTakesCard

/-- THE SECOND FORM's CARD OF 'farandolelaw11.NamesOrder'. -/
def namesOrderUptoCard : Claim7 := { stood := { row := namesOrderUptoRow, standIns := [], harness := (true, "2dbaf5f8738d51103221ec9eee72554905b26aeaa33d4a1b102e13cc16378be9"), looks := false }, kinds := [], alts := [], laidByText := true, laidKinds := [.data, .data, .data, .data, .pinned], laidTests := true, laidLooks := .later }
def NamesOrderUptoCardSaid : Prop := Claim7.holds Tryz.pinned (.plain (OpenSpec.upto namesOrderSpec)) namesOrderUptoCard

/-- THE SECOND FORM's CARD OF 'farandolelaw11.NamesAlone'. -/
def namesAloneUptoCard : Claim7 := { stood := { row := namesAloneUptoRow, standIns := [], harness := (true, "2dbaf5f8738d51103221ec9eee72554905b26aeaa33d4a1b102e13cc16378be9"), looks := false }, kinds := [], alts := [], laidByText := true, laidKinds := [.data, .data, .data, .data, .pinned], laidTests := true, laidLooks := .later }
def NamesAloneUptoCardSaid : Prop := Claim7.holds Tryz.pinned (.plain (OpenSpec.upto namesAloneSpec)) namesAloneUptoCard

/-- THE SECOND FORM's CARD OF 'farandolelaw11.NamesRename'. -/
def namesRenameUptoCard : Claim7 := { stood := { row := namesRenameUptoRow, standIns := [], harness := (true, "2dbaf5f8738d51103221ec9eee72554905b26aeaa33d4a1b102e13cc16378be9"), looks := false }, kinds := [], alts := [], laidByText := true, laidKinds := [.data, .data, .data, .data, .pinned], laidTests := true, laidLooks := .later }
def NamesRenameUptoCardSaid : Prop := Claim7.holds Tryz.pinned (.plain (OpenSpec.upto namesRenameSpec)) namesRenameUptoCard

/-- THE SECOND FORM's CARD OF 'farandolelaw11.NamesTakes'. -/
def namesTakesUptoCard : Claim7 := { stood := { row := namesTakesUptoRow, standIns := [], harness := (true, "2dbaf5f8738d51103221ec9eee72554905b26aeaa33d4a1b102e13cc16378be9"), looks := false }, kinds := [], alts := [], laidByText := true, laidKinds := [.data, .data, .data, .data, .pinned], laidTests := true, laidLooks := .later }
def NamesTakesUptoCardSaid : Prop := Claim7.holds Tryz.pinned (.plain (OpenSpec.upto namesTakesSpec)) namesTakesUptoCard
end Rows
end Go.Proofs.YtknelkokbekhnaaGreatDoor
