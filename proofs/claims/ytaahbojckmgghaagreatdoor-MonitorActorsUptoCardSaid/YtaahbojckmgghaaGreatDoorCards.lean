/-
  DERIVED. GIVEN WITH THE SEED: THE CARDS: each row of YtaahbojckmgghaaGreatDoorRows.lean that lists a variable, with what it lists TIED to the program's text (the seventh form; the later family's looks); each row that meets fmt, with fmt's text TOLD by the authors' own Lean function (tested against real Go, not proved from fmt's source: count such statements apart). THE CARD IS WHAT COUNTS. Prove the row's statement (the work); the ties are given (YtaahbojckmgghaaGreatDoorTie.lean); close each card by the builder's one call (the guide's Derived/Test/ToyasCard.lean, 'card_holds'). Laid BY PROGRAM, IN A SANDBOX (cutbox-door.mjs). By AI agents, Wed Nov 11 2026. No macro, syntax, notation, axiom, sorry.
-/
import Derived.Test.YtaahbojckmgghaaGreatDoorRows
import GoSem.ClaimSeven
namespace Go.Proofs.YtaahbojckmgghaaGreatDoor
namespace Rows

/-- THE TIED CARD OF 'farandolelaw40.MonitorRun'. -/
def monitorRunCard : Claim7 := { stood := { row := monitorRunRow, standIns := [], harness := (true, "4bef9b1ec2594ec670b80ab18edc367de8304904f03d185f5f4e9fb55e966328"), looks := false }, kinds := [], alts := [], laidByText := true, laidKinds := [.data, .pinned], laidTests := true, laidLooks := .later }
def MonitorRunCardSaid : Prop := Claim7.holds Tryz.pinned (.plain (OpenSpec.ofChange monitorRunSpec)) monitorRunCard

/-- THE TIED CARD OF 'farandolelaw40.MonitorActors'. -/
def monitorActorsCard : Claim7 := { stood := { row := monitorActorsRow, standIns := [], harness := (true, "4bef9b1ec2594ec670b80ab18edc367de8304904f03d185f5f4e9fb55e966328"), looks := false }, kinds := [], alts := [], laidByText := true, laidKinds := [.data, .pinned], laidTests := true, laidLooks := .later }
def MonitorActorsCardSaid : Prop := Claim7.holds Tryz.pinned (.plain (OpenSpec.ofChange monitorActorsSpec)) monitorActorsCard

/-- THE SECOND FORM's CARD OF 'farandolelaw40.MonitorRun'. -/
def monitorRunUptoCard : Claim7 := { stood := { row := monitorRunUptoRow, standIns := [], harness := (true, "4bef9b1ec2594ec670b80ab18edc367de8304904f03d185f5f4e9fb55e966328"), looks := false }, kinds := [], alts := [], laidByText := true, laidKinds := [.data, .pinned], laidTests := true, laidLooks := .later }
def MonitorRunUptoCardSaid : Prop := Claim7.holds Tryz.pinned (.plain (OpenSpec.upto monitorRunSpec)) monitorRunUptoCard

/-- THE SECOND FORM's CARD OF 'farandolelaw40.MonitorActors'. -/
def monitorActorsUptoCard : Claim7 := { stood := { row := monitorActorsUptoRow, standIns := [], harness := (true, "4bef9b1ec2594ec670b80ab18edc367de8304904f03d185f5f4e9fb55e966328"), looks := false }, kinds := [], alts := [], laidByText := true, laidKinds := [.data, .pinned], laidTests := true, laidLooks := .later }
def MonitorActorsUptoCardSaid : Prop := Claim7.holds Tryz.pinned (.plain (OpenSpec.upto monitorActorsSpec)) monitorActorsUptoCard
end Rows
end Go.Proofs.YtaahbojckmgghaaGreatDoor
