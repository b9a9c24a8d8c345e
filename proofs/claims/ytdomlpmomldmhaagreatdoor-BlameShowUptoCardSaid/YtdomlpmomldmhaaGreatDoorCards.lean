/-
  DERIVED. GIVEN WITH THE SEED: THE CARDS: each row of YtdomlpmomldmhaaGreatDoorRows.lean that lists a variable, with what it lists TIED to the program's text (the seventh form; the later family's looks); each row that meets fmt, with fmt's text TOLD by the authors' own Lean function (tested against real Go, not proved from fmt's source: count such statements apart). THE CARD IS WHAT COUNTS. Prove the row's statement (the work); the ties are given (YtdomlpmomldmhaaGreatDoorTie.lean); close each card by the builder's one call (the guide's Derived/Test/ToyasCard.lean, 'card_holds'). Laid BY PROGRAM, IN A SANDBOX (cutbox-door.mjs). By AI agents, Wed Nov 11 2026. No macro, syntax, notation, axiom, sorry.
-/
import Derived.Test.YtdomlpmomldmhaaGreatDoorRows
import GoSem.ClaimSeven
namespace Go.Proofs.YtdomlpmomldmhaaGreatDoor
namespace Rows

/-- THE TIED CARD OF 'farandolelaw40.MonitorRun'. -/
def monitorRunCard : Claim7 := { stood := { row := monitorRunRow, standIns := [], harness := (true, "7368ae84d19d882f56b690c10e67209bf74f2b008eed8dd5686703316b57817f"), looks := false }, kinds := [], alts := [], laidByText := true, laidKinds := [.data, .pinned], laidTests := true, laidLooks := .later }
def MonitorRunCardSaid : Prop := Claim7.holds Tryz.pinned (.plain (OpenSpec.ofChange monitorRunSpec)) monitorRunCard

/-- THE TIED CARD OF 'farandolelaw40.MonitorActors'. -/
def monitorActorsCard : Claim7 := { stood := { row := monitorActorsRow, standIns := [], harness := (true, "7368ae84d19d882f56b690c10e67209bf74f2b008eed8dd5686703316b57817f"), looks := false }, kinds := [], alts := [], laidByText := true, laidKinds := [.data, .pinned], laidTests := true, laidLooks := .later }
def MonitorActorsCardSaid : Prop := Claim7.holds Tryz.pinned (.plain (OpenSpec.ofChange monitorActorsSpec)) monitorActorsCard

/-- THE TIED CARD OF 'farandolelaw40.MonitorStep'. -/
def monitorStepCard : Claim7 := { stood := { row := monitorStepRow, standIns := [], harness := (true, "7368ae84d19d882f56b690c10e67209bf74f2b008eed8dd5686703316b57817f"), looks := false }, kinds := [], alts := [], laidByText := true, laidKinds := [.data, .pinned], laidTests := true, laidLooks := .later }
def MonitorStepCardSaid : Prop := Claim7.holds Tryz.pinned (.plain (OpenSpec.ofChange monitorStepSpec)) monitorStepCard

/-- THE TIED CARD OF 'farandolelaw40.MonitorPrefix'. -/
def monitorPrefixCard : Claim7 := { stood := { row := monitorPrefixRow, standIns := [], harness := (true, "7368ae84d19d882f56b690c10e67209bf74f2b008eed8dd5686703316b57817f"), looks := false }, kinds := [], alts := [], laidByText := true, laidKinds := [.data, .pinned], laidTests := true, laidLooks := .later }
def MonitorPrefixCardSaid : Prop := Claim7.holds Tryz.pinned (.plain (OpenSpec.ofChange monitorPrefixSpec)) monitorPrefixCard

/-- THE TIED CARD OF 'farandolelaw40.MonitorExact'. -/
def monitorExactCard : Claim7 := { stood := { row := monitorExactRow, standIns := [], harness := (true, "7368ae84d19d882f56b690c10e67209bf74f2b008eed8dd5686703316b57817f"), looks := false }, kinds := [], alts := [], laidByText := true, laidKinds := [.data, .pinned], laidTests := true, laidLooks := .later }
def MonitorExactCardSaid : Prop := Claim7.holds Tryz.pinned (.plain (OpenSpec.ofChange monitorExactSpec)) monitorExactCard

/-- THE TIED CARD OF 'farandolelaw41.BlameFind'. -/
def blameFindCard : Claim7 := { stood := { row := blameFindRow, standIns := [], harness := (true, "7368ae84d19d882f56b690c10e67209bf74f2b008eed8dd5686703316b57817f"), looks := false }, kinds := [], alts := [], laidByText := true, laidKinds := [.data, .data, .data, .data, .pinned], laidTests := true, laidLooks := .later }
def BlameFindCardSaid : Prop := Claim7.holds Tryz.pinned (.plain (OpenSpec.ofChange blameFindSpec)) blameFindCard

/-- THE TIED CARD OF 'farandolelaw41.BlameShow'. -/
def blameShowCard : Claim7 := { stood := { row := blameShowRow, standIns := [], harness := (true, "7368ae84d19d882f56b690c10e67209bf74f2b008eed8dd5686703316b57817f"), looks := false }, kinds := [], alts := [], laidByText := true, laidKinds := [.data, .data, .data, .data, .pinned], laidTests := true, laidLooks := .later }
def BlameShowCardSaid : Prop := Claim7.holds Tryz.pinned (.plain (OpenSpec.ofChange blameShowSpec)) blameShowCard

/-- THE TIED CARD OF 'farandolelaw41.BlameFirst'. -/
def blameFirstCard : Claim7 := { stood := { row := blameFirstRow, standIns := [], harness := (true, "7368ae84d19d882f56b690c10e67209bf74f2b008eed8dd5686703316b57817f"), looks := false }, kinds := [], alts := [], laidByText := true, laidKinds := [.data, .data, .data, .data, .pinned], laidTests := true, laidLooks := .later }
def BlameFirstCardSaid : Prop := Claim7.holds Tryz.pinned (.plain (OpenSpec.ofChange blameFirstSpec)) blameFirstCard

/-- THE TIED CARD OF 'farandolelaw41.BlameParts'. -/
def blamePartsCard : Claim7 := { stood := { row := blamePartsRow, standIns := [], harness := (true, "7368ae84d19d882f56b690c10e67209bf74f2b008eed8dd5686703316b57817f"), looks := false }, kinds := [], alts := [], laidByText := true, laidKinds := [.data, .data, .data, .data, .pinned], laidTests := true, laidLooks := .later }
def BlamePartsCardSaid : Prop := Claim7.holds Tryz.pinned (.plain (OpenSpec.ofChange blamePartsSpec)) blamePartsCard

/-- THE TIED CARD OF 'farandolelaw41.BlameRole'. -/
def blameRoleCard : Claim7 := { stood := { row := blameRoleRow, standIns := [], harness := (true, "7368ae84d19d882f56b690c10e67209bf74f2b008eed8dd5686703316b57817f"), looks := false }, kinds := [], alts := [], laidByText := true, laidKinds := [.data, .data, .data, .data, .pinned], laidTests := true, laidLooks := .later }
def BlameRoleCardSaid : Prop := Claim7.holds Tryz.pinned (.plain (OpenSpec.ofChange blameRoleSpec)) blameRoleCard

/-- THE SECOND FORM's CARD OF 'farandolelaw40.MonitorRun'. -/
def monitorRunUptoCard : Claim7 := { stood := { row := monitorRunUptoRow, standIns := [], harness := (true, "7368ae84d19d882f56b690c10e67209bf74f2b008eed8dd5686703316b57817f"), looks := false }, kinds := [], alts := [], laidByText := true, laidKinds := [.data, .pinned], laidTests := true, laidLooks := .later }
def MonitorRunUptoCardSaid : Prop := Claim7.holds Tryz.pinned (.plain (OpenSpec.upto monitorRunSpec)) monitorRunUptoCard

/-- THE SECOND FORM's CARD OF 'farandolelaw40.MonitorActors'. -/
def monitorActorsUptoCard : Claim7 := { stood := { row := monitorActorsUptoRow, standIns := [], harness := (true, "7368ae84d19d882f56b690c10e67209bf74f2b008eed8dd5686703316b57817f"), looks := false }, kinds := [], alts := [], laidByText := true, laidKinds := [.data, .pinned], laidTests := true, laidLooks := .later }
def MonitorActorsUptoCardSaid : Prop := Claim7.holds Tryz.pinned (.plain (OpenSpec.upto monitorActorsSpec)) monitorActorsUptoCard

/-- THE SECOND FORM's CARD OF 'farandolelaw40.MonitorStep'. -/
def monitorStepUptoCard : Claim7 := { stood := { row := monitorStepUptoRow, standIns := [], harness := (true, "7368ae84d19d882f56b690c10e67209bf74f2b008eed8dd5686703316b57817f"), looks := false }, kinds := [], alts := [], laidByText := true, laidKinds := [.data, .pinned], laidTests := true, laidLooks := .later }
def MonitorStepUptoCardSaid : Prop := Claim7.holds Tryz.pinned (.plain (OpenSpec.upto monitorStepSpec)) monitorStepUptoCard

/-- THE SECOND FORM's CARD OF 'farandolelaw40.MonitorPrefix'. -/
def monitorPrefixUptoCard : Claim7 := { stood := { row := monitorPrefixUptoRow, standIns := [], harness := (true, "7368ae84d19d882f56b690c10e67209bf74f2b008eed8dd5686703316b57817f"), looks := false }, kinds := [], alts := [], laidByText := true, laidKinds := [.data, .pinned], laidTests := true, laidLooks := .later }
def MonitorPrefixUptoCardSaid : Prop := Claim7.holds Tryz.pinned (.plain (OpenSpec.upto monitorPrefixSpec)) monitorPrefixUptoCard

/-- THE SECOND FORM's CARD OF 'farandolelaw40.MonitorExact'. -/
def monitorExactUptoCard : Claim7 := { stood := { row := monitorExactUptoRow, standIns := [], harness := (true, "7368ae84d19d882f56b690c10e67209bf74f2b008eed8dd5686703316b57817f"), looks := false }, kinds := [], alts := [], laidByText := true, laidKinds := [.data, .pinned], laidTests := true, laidLooks := .later }
def MonitorExactUptoCardSaid : Prop := Claim7.holds Tryz.pinned (.plain (OpenSpec.upto monitorExactSpec)) monitorExactUptoCard

/-- THE SECOND FORM's CARD OF 'farandolelaw41.BlameFind'. -/
def blameFindUptoCard : Claim7 := { stood := { row := blameFindUptoRow, standIns := [], harness := (true, "7368ae84d19d882f56b690c10e67209bf74f2b008eed8dd5686703316b57817f"), looks := false }, kinds := [], alts := [], laidByText := true, laidKinds := [.data, .data, .data, .data, .pinned], laidTests := true, laidLooks := .later }
def BlameFindUptoCardSaid : Prop := Claim7.holds Tryz.pinned (.plain (OpenSpec.upto blameFindSpec)) blameFindUptoCard

/-- THE SECOND FORM's CARD OF 'farandolelaw41.BlameShow'. -/
def blameShowUptoCard : Claim7 := { stood := { row := blameShowUptoRow, standIns := [], harness := (true, "7368ae84d19d882f56b690c10e67209bf74f2b008eed8dd5686703316b57817f"), looks := false }, kinds := [], alts := [], laidByText := true, laidKinds := [.data, .data, .data, .data, .pinned], laidTests := true, laidLooks := .later }
def BlameShowUptoCardSaid : Prop := Claim7.holds Tryz.pinned (.plain (OpenSpec.upto blameShowSpec)) blameShowUptoCard

/-- THE SECOND FORM's CARD OF 'farandolelaw41.BlameFirst'. -/
def blameFirstUptoCard : Claim7 := { stood := { row := blameFirstUptoRow, standIns := [], harness := (true, "7368ae84d19d882f56b690c10e67209bf74f2b008eed8dd5686703316b57817f"), looks := false }, kinds := [], alts := [], laidByText := true, laidKinds := [.data, .data, .data, .data, .pinned], laidTests := true, laidLooks := .later }
def BlameFirstUptoCardSaid : Prop := Claim7.holds Tryz.pinned (.plain (OpenSpec.upto blameFirstSpec)) blameFirstUptoCard

/-- THE SECOND FORM's CARD OF 'farandolelaw41.BlameParts'. -/
def blamePartsUptoCard : Claim7 := { stood := { row := blamePartsUptoRow, standIns := [], harness := (true, "7368ae84d19d882f56b690c10e67209bf74f2b008eed8dd5686703316b57817f"), looks := false }, kinds := [], alts := [], laidByText := true, laidKinds := [.data, .data, .data, .data, .pinned], laidTests := true, laidLooks := .later }
def BlamePartsUptoCardSaid : Prop := Claim7.holds Tryz.pinned (.plain (OpenSpec.upto blamePartsSpec)) blamePartsUptoCard

/-- THE SECOND FORM's CARD OF 'farandolelaw41.BlameRole'. -/
def blameRoleUptoCard : Claim7 := { stood := { row := blameRoleUptoRow, standIns := [], harness := (true, "7368ae84d19d882f56b690c10e67209bf74f2b008eed8dd5686703316b57817f"), looks := false }, kinds := [], alts := [], laidByText := true, laidKinds := [.data, .data, .data, .data, .pinned], laidTests := true, laidLooks := .later }
def BlameRoleUptoCardSaid : Prop := Claim7.holds Tryz.pinned (.plain (OpenSpec.upto blameRoleSpec)) blameRoleUptoCard
end Rows
end Go.Proofs.YtdomlpmomldmhaaGreatDoor
