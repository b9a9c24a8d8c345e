/-
  NARROWER THAN 'FOR EVERY INPUT', by the rows' own cells (each row's printed sentence says how): MonitorRun: laid · MonitorActors: laid · MonitorStep: laid · MonitorPrefix: laid · MonitorExact: laid · BlameFind: laid · BlameShow: laid · BlameFirst: laid · BlameParts: laid · BlameRole: laid.
  DERIVED. THE GIVEN ROWS OF THIS SEAT. 10 by the template 'for every input the law returns true; each argument reads behind the call as it read before'; 0 by the template 'total and deterministic' (their statements: YtdomlpmomldmhaaGreatDoorTotals.lean).
  GIVEN WITH THE SEED: the statements are not yours to turn. If you find one false, say at which input.
  Laid BY PROGRAM, IN A SANDBOX (cutbox-rows.mjs): the forced cells as the released guide's own fill.sh prints them over the translation 5595c5d312748c2a… (all of the seat's roots in one cut). By AI agents, Wed Nov 11 2026. No macro, syntax, notation, axiom, sorry.
-/
import Derived.Test.YtdomlpmomldmhaaGreatDoorChecked
import GoSem.PinnedTables
import GoSem.Claim
import GoSem.ClaimJoined
import GoSem.ClaimMapViews
import Derived.JoinedTies
import Derived.KernelRfl
namespace Go.Proofs.YtdomlpmomldmhaaGreatDoor
/- THE CELL 'sum', in the pinned program and in every row, IS THE sha256 OF THE DUMP (.gsa) THAT YtdomlpmomldmhaaGreatDoorProg.lean LOADS. Nothing in Lean hashes anything: it is a label: what it is worth is what the hold of that sum in a sandbox is worth. -/
noncomputable def Tryz.pinned : Pinned := { name := "ytdomlpmomldmhaagreatdoor", sum := "5595c5d312748c2af2003e5ce3db9de4b70b61dad579cd957dcf1d64bd7eac99", checked := Tryz.checked }
namespace Rows
def none {H : Type} : Left H := { results := [], args := [] }

/- WHAT THE LISTED PACKAGE-LEVEL VARIABLES READ AS WHEN THE CALL BEGINS. Each datum BY PROGRAM (the guide's laid-datum.mjs) off the statement by which the dump's own 'gosem.cut.vars' lays the variable. In a bare row this is a premise. The card (YtdomlpmomldmhaaGreatDoorCards.lean) ties it to the program's text. -/
def laid_unicode_utf8_acceptRanges {H : Type} : DataW H := .agg [.agg [.lit (.int .u8 128), .lit (.int .u8 191)], .agg [.lit (.int .u8 160), .lit (.int .u8 191)], .agg [.lit (.int .u8 128), .lit (.int .u8 159)], .agg [.lit (.int .u8 144), .lit (.int .u8 191)], .agg [.lit (.int .u8 128), .lit (.int .u8 143)], .agg [.lit (.int .u8 0), .lit (.int .u8 0)], .agg [.lit (.int .u8 0), .lit (.int .u8 0)], .agg [.lit (.int .u8 0), .lit (.int .u8 0)], .agg [.lit (.int .u8 0), .lit (.int .u8 0)], .agg [.lit (.int .u8 0), .lit (.int .u8 0)], .agg [.lit (.int .u8 0), .lit (.int .u8 0)], .agg [.lit (.int .u8 0), .lit (.int .u8 0)], .agg [.lit (.int .u8 0), .lit (.int .u8 0)], .agg [.lit (.int .u8 0), .lit (.int .u8 0)], .agg [.lit (.int .u8 0), .lit (.int .u8 0)], .agg [.lit (.int .u8 0), .lit (.int .u8 0)]]
/-- One of Go's own tables, pinned by name: the form's constant. -/
def laid_unicode_utf8_first : DataW Unit := Go.Pinned.utf8First
def laid_math_bits_deBruijn32tab {H : Type} : DataW H := .agg [.lit (.int .u8 0), .lit (.int .u8 1), .lit (.int .u8 28), .lit (.int .u8 2), .lit (.int .u8 29), .lit (.int .u8 14), .lit (.int .u8 24), .lit (.int .u8 3), .lit (.int .u8 30), .lit (.int .u8 22), .lit (.int .u8 20), .lit (.int .u8 15), .lit (.int .u8 25), .lit (.int .u8 17), .lit (.int .u8 4), .lit (.int .u8 8), .lit (.int .u8 31), .lit (.int .u8 27), .lit (.int .u8 13), .lit (.int .u8 23), .lit (.int .u8 21), .lit (.int .u8 19), .lit (.int .u8 16), .lit (.int .u8 7), .lit (.int .u8 26), .lit (.int .u8 12), .lit (.int .u8 18), .lit (.int .u8 6), .lit (.int .u8 11), .lit (.int .u8 5), .lit (.int .u8 10), .lit (.int .u8 9)]
def laid_math_bits_deBruijn64tab {H : Type} : DataW H := .agg [.lit (.int .u8 0), .lit (.int .u8 1), .lit (.int .u8 56), .lit (.int .u8 2), .lit (.int .u8 57), .lit (.int .u8 49), .lit (.int .u8 28), .lit (.int .u8 3), .lit (.int .u8 61), .lit (.int .u8 58), .lit (.int .u8 42), .lit (.int .u8 50), .lit (.int .u8 38), .lit (.int .u8 29), .lit (.int .u8 17), .lit (.int .u8 4), .lit (.int .u8 62), .lit (.int .u8 47), .lit (.int .u8 59), .lit (.int .u8 36), .lit (.int .u8 45), .lit (.int .u8 43), .lit (.int .u8 51), .lit (.int .u8 22), .lit (.int .u8 53), .lit (.int .u8 39), .lit (.int .u8 33), .lit (.int .u8 30), .lit (.int .u8 24), .lit (.int .u8 18), .lit (.int .u8 12), .lit (.int .u8 5), .lit (.int .u8 63), .lit (.int .u8 55), .lit (.int .u8 48), .lit (.int .u8 27), .lit (.int .u8 60), .lit (.int .u8 41), .lit (.int .u8 37), .lit (.int .u8 16), .lit (.int .u8 46), .lit (.int .u8 35), .lit (.int .u8 44), .lit (.int .u8 21), .lit (.int .u8 52), .lit (.int .u8 32), .lit (.int .u8 23), .lit (.int .u8 11), .lit (.int .u8 54), .lit (.int .u8 26), .lit (.int .u8 40), .lit (.int .u8 15), .lit (.int .u8 34), .lit (.int .u8 20), .lit (.int .u8 31), .lit (.int .u8 10), .lit (.int .u8 25), .lit (.int .u8 14), .lit (.int .u8 19), .lit (.int .u8 9), .lit (.int .u8 13), .lit (.int .u8 8), .lit (.int .u8 7), .lit (.int .u8 6)]
def laid_internal_strconv_uint64pow10 {H : Type} : DataW H := .agg [.lit (.int .u64 1), .lit (.int .u64 10), .lit (.int .u64 100), .lit (.int .u64 1000), .lit (.int .u64 10000), .lit (.int .u64 100000), .lit (.int .u64 1000000), .lit (.int .u64 10000000), .lit (.int .u64 100000000), .lit (.int .u64 1000000000), .lit (.int .u64 10000000000), .lit (.int .u64 100000000000), .lit (.int .u64 1000000000000), .lit (.int .u64 10000000000000), .lit (.int .u64 100000000000000), .lit (.int .u64 1000000000000000), .lit (.int .u64 10000000000000000), .lit (.int .u64 100000000000000000), .lit (.int .u64 1000000000000000000), .lit (.int .u64 10000000000000000000)]

/-- 'farandolelaw40.MonitorRun': WHATEVER THE INPUT: true; the input reads as it did. -/
def monitorRunSpec : ChangeSpec := { name := "monitorRun", fn := fun _ => fun
  | [d1, d2, d3] => { results := [.lit (.bool true)], args := [d1, d2, d3] }
  | _ => none }
def monitorRunRow : OpenClaim := { program := "ytdomlpmomldmhaagreatdoor", sum := "5595c5d312748c2af2003e5ce3db9de4b70b61dad579cd957dcf1d64bd7eac99", func := "farandole/farandolelaw40.MonitorRun", spec := "monitorRun", inPlace := ["internal/bytealg.CountString", "internal/bytealg.IndexByteString", "internal/bytealg.IndexString"], unfollowed := true, recurses := true, named := ["unicode/utf8.first", "unicode/utf8.acceptRanges", "internal/bytealg.MaxLen"], apart := false, laid := [("unicode/utf8.acceptRanges", laid_unicode_utf8_acceptRanges), ("unicode/utf8.first", laid_unicode_utf8_first)] }
def MonitorRunSaid : Prop := monitorRunRow.holds Tryz.pinned (OpenSpec.ofChange monitorRunSpec)

/-- ITS FALSE NEIGHBOUR: 'it returns false'. Refute it at one input. -/
def monitorRunWrong : ChangeSpec := { name := "monitorRun", fn := fun _ => fun
  | [d1, d2, d3] => { results := [.lit (.bool false)], args := [d1, d2, d3] }
  | _ => none }
def MonitorRunWrongFalsely : Prop := monitorRunRow.holds Tryz.pinned (OpenSpec.ofChange monitorRunWrong)

/-- 'farandolelaw40.MonitorActors': WHATEVER THE INPUT: true; the input reads as it did. -/
def monitorActorsSpec : ChangeSpec := { name := "monitorActors", fn := fun _ => fun
  | [d1, d2] => { results := [.lit (.bool true)], args := [d1, d2] }
  | _ => none }
def monitorActorsRow : OpenClaim := { program := "ytdomlpmomldmhaagreatdoor", sum := "5595c5d312748c2af2003e5ce3db9de4b70b61dad579cd957dcf1d64bd7eac99", func := "farandole/farandolelaw40.MonitorActors", spec := "monitorActors", inPlace := ["internal/bytealg.CountString", "internal/bytealg.IndexByteString", "internal/bytealg.IndexString"], unfollowed := true, recurses := true, named := ["unicode/utf8.first", "unicode/utf8.acceptRanges", "internal/bytealg.MaxLen"], apart := false, laid := [("unicode/utf8.acceptRanges", laid_unicode_utf8_acceptRanges), ("unicode/utf8.first", laid_unicode_utf8_first)] }
def MonitorActorsSaid : Prop := monitorActorsRow.holds Tryz.pinned (OpenSpec.ofChange monitorActorsSpec)

/-- ITS FALSE NEIGHBOUR: 'it returns false'. Refute it at one input. -/
def monitorActorsWrong : ChangeSpec := { name := "monitorActors", fn := fun _ => fun
  | [d1, d2] => { results := [.lit (.bool false)], args := [d1, d2] }
  | _ => none }
def MonitorActorsWrongFalsely : Prop := monitorActorsRow.holds Tryz.pinned (OpenSpec.ofChange monitorActorsWrong)

/-- 'farandolelaw40.MonitorStep': WHATEVER THE INPUT: true; the input reads as it did. -/
def monitorStepSpec : ChangeSpec := { name := "monitorStep", fn := fun _ => fun
  | [d1, d2, d3] => { results := [.lit (.bool true)], args := [d1, d2, d3] }
  | _ => none }
def monitorStepRow : OpenClaim := { program := "ytdomlpmomldmhaagreatdoor", sum := "5595c5d312748c2af2003e5ce3db9de4b70b61dad579cd957dcf1d64bd7eac99", func := "farandole/farandolelaw40.MonitorStep", spec := "monitorStep", inPlace := ["internal/bytealg.CountString", "internal/bytealg.IndexByteString", "internal/bytealg.IndexString"], unfollowed := true, recurses := true, named := ["unicode/utf8.first", "unicode/utf8.acceptRanges", "internal/bytealg.MaxLen"], apart := false, laid := [("unicode/utf8.acceptRanges", laid_unicode_utf8_acceptRanges), ("unicode/utf8.first", laid_unicode_utf8_first)] }
def MonitorStepSaid : Prop := monitorStepRow.holds Tryz.pinned (OpenSpec.ofChange monitorStepSpec)

/-- ITS FALSE NEIGHBOUR: 'it returns false'. Refute it at one input. -/
def monitorStepWrong : ChangeSpec := { name := "monitorStep", fn := fun _ => fun
  | [d1, d2, d3] => { results := [.lit (.bool false)], args := [d1, d2, d3] }
  | _ => none }
def MonitorStepWrongFalsely : Prop := monitorStepRow.holds Tryz.pinned (OpenSpec.ofChange monitorStepWrong)

/-- 'farandolelaw40.MonitorPrefix': WHATEVER THE INPUT: true; the input reads as it did. -/
def monitorPrefixSpec : ChangeSpec := { name := "monitorPrefix", fn := fun _ => fun
  | [d1, d2, d3] => { results := [.lit (.bool true)], args := [d1, d2, d3] }
  | _ => none }
def monitorPrefixRow : OpenClaim := { program := "ytdomlpmomldmhaagreatdoor", sum := "5595c5d312748c2af2003e5ce3db9de4b70b61dad579cd957dcf1d64bd7eac99", func := "farandole/farandolelaw40.MonitorPrefix", spec := "monitorPrefix", inPlace := ["internal/bytealg.CountString", "internal/bytealg.IndexByteString", "internal/bytealg.IndexString"], unfollowed := true, recurses := true, named := ["unicode/utf8.first", "unicode/utf8.acceptRanges", "internal/bytealg.MaxLen"], apart := false, laid := [("unicode/utf8.acceptRanges", laid_unicode_utf8_acceptRanges), ("unicode/utf8.first", laid_unicode_utf8_first)] }
def MonitorPrefixSaid : Prop := monitorPrefixRow.holds Tryz.pinned (OpenSpec.ofChange monitorPrefixSpec)

/-- ITS FALSE NEIGHBOUR: 'it returns false'. Refute it at one input. -/
def monitorPrefixWrong : ChangeSpec := { name := "monitorPrefix", fn := fun _ => fun
  | [d1, d2, d3] => { results := [.lit (.bool false)], args := [d1, d2, d3] }
  | _ => none }
def MonitorPrefixWrongFalsely : Prop := monitorPrefixRow.holds Tryz.pinned (OpenSpec.ofChange monitorPrefixWrong)

/-- 'farandolelaw40.MonitorExact': WHATEVER THE INPUT: true; the input reads as it did. -/
def monitorExactSpec : ChangeSpec := { name := "monitorExact", fn := fun _ => fun
  | [d1, d2, d3] => { results := [.lit (.bool true)], args := [d1, d2, d3] }
  | _ => none }
def monitorExactRow : OpenClaim := { program := "ytdomlpmomldmhaagreatdoor", sum := "5595c5d312748c2af2003e5ce3db9de4b70b61dad579cd957dcf1d64bd7eac99", func := "farandole/farandolelaw40.MonitorExact", spec := "monitorExact", inPlace := ["internal/bytealg.CountString", "internal/bytealg.IndexByteString", "internal/bytealg.IndexString"], unfollowed := true, recurses := true, named := ["unicode/utf8.first", "unicode/utf8.acceptRanges", "internal/bytealg.MaxLen"], apart := false, laid := [("unicode/utf8.acceptRanges", laid_unicode_utf8_acceptRanges), ("unicode/utf8.first", laid_unicode_utf8_first)] }
def MonitorExactSaid : Prop := monitorExactRow.holds Tryz.pinned (OpenSpec.ofChange monitorExactSpec)

/-- ITS FALSE NEIGHBOUR: 'it returns false'. Refute it at one input. -/
def monitorExactWrong : ChangeSpec := { name := "monitorExact", fn := fun _ => fun
  | [d1, d2, d3] => { results := [.lit (.bool false)], args := [d1, d2, d3] }
  | _ => none }
def MonitorExactWrongFalsely : Prop := monitorExactRow.holds Tryz.pinned (OpenSpec.ofChange monitorExactWrong)

/-- 'farandolelaw41.BlameFind': WHATEVER THE INPUT: true; the input reads as it did. -/
def blameFindSpec : ChangeSpec := { name := "blameFind", fn := fun _ => fun
  | [d1, d2, d3] => { results := [.lit (.bool true)], args := [d1, d2, d3] }
  | _ => none }
def blameFindRow : OpenClaim := { program := "ytdomlpmomldmhaagreatdoor", sum := "5595c5d312748c2af2003e5ce3db9de4b70b61dad579cd957dcf1d64bd7eac99", func := "farandole/farandolelaw41.BlameFind", spec := "blameFind", inPlace := ["internal/bytealg.CountString", "internal/bytealg.IndexByteString", "internal/bytealg.IndexString", "internal/abi.NoEscape", "internal/bytealg.MakeNoZero"], unfollowed := true, recurses := true, named := ["unicode/utf8.first", "unicode/utf8.acceptRanges", "internal/bytealg.MaxLen", "internal/strconv.uint64pow10", "math/bits.deBruijn32tab", "math/bits.deBruijn64tab"], apart := false, laid := [("math/bits.deBruijn32tab", laid_math_bits_deBruijn32tab), ("math/bits.deBruijn64tab", laid_math_bits_deBruijn64tab), ("internal/strconv.uint64pow10", laid_internal_strconv_uint64pow10), ("unicode/utf8.acceptRanges", laid_unicode_utf8_acceptRanges), ("unicode/utf8.first", laid_unicode_utf8_first)] }
def BlameFindSaid : Prop := blameFindRow.holds Tryz.pinned (OpenSpec.ofChange blameFindSpec)

/-- ITS FALSE NEIGHBOUR: 'it returns false'. Refute it at one input. -/
def blameFindWrong : ChangeSpec := { name := "blameFind", fn := fun _ => fun
  | [d1, d2, d3] => { results := [.lit (.bool false)], args := [d1, d2, d3] }
  | _ => none }
def BlameFindWrongFalsely : Prop := blameFindRow.holds Tryz.pinned (OpenSpec.ofChange blameFindWrong)

/-- 'farandolelaw41.BlameShow': WHATEVER THE INPUT: true; the input reads as it did. -/
def blameShowSpec : ChangeSpec := { name := "blameShow", fn := fun _ => fun
  | [d1, d2, d3] => { results := [.lit (.bool true)], args := [d1, d2, d3] }
  | _ => none }
def blameShowRow : OpenClaim := { program := "ytdomlpmomldmhaagreatdoor", sum := "5595c5d312748c2af2003e5ce3db9de4b70b61dad579cd957dcf1d64bd7eac99", func := "farandole/farandolelaw41.BlameShow", spec := "blameShow", inPlace := ["internal/bytealg.CountString", "internal/bytealg.IndexByteString", "internal/bytealg.IndexString", "internal/abi.NoEscape", "internal/bytealg.MakeNoZero"], unfollowed := true, recurses := true, named := ["unicode/utf8.first", "unicode/utf8.acceptRanges", "internal/bytealg.MaxLen", "internal/strconv.uint64pow10", "math/bits.deBruijn32tab", "math/bits.deBruijn64tab"], apart := false, laid := [("math/bits.deBruijn32tab", laid_math_bits_deBruijn32tab), ("math/bits.deBruijn64tab", laid_math_bits_deBruijn64tab), ("internal/strconv.uint64pow10", laid_internal_strconv_uint64pow10), ("unicode/utf8.acceptRanges", laid_unicode_utf8_acceptRanges), ("unicode/utf8.first", laid_unicode_utf8_first)] }
def BlameShowSaid : Prop := blameShowRow.holds Tryz.pinned (OpenSpec.ofChange blameShowSpec)

/-- ITS FALSE NEIGHBOUR: 'it returns false'. Refute it at one input. -/
def blameShowWrong : ChangeSpec := { name := "blameShow", fn := fun _ => fun
  | [d1, d2, d3] => { results := [.lit (.bool false)], args := [d1, d2, d3] }
  | _ => none }
def BlameShowWrongFalsely : Prop := blameShowRow.holds Tryz.pinned (OpenSpec.ofChange blameShowWrong)

/-- 'farandolelaw41.BlameFirst': WHATEVER THE INPUT: true; the input reads as it did. -/
def blameFirstSpec : ChangeSpec := { name := "blameFirst", fn := fun _ => fun
  | [d1, d2, d3] => { results := [.lit (.bool true)], args := [d1, d2, d3] }
  | _ => none }
def blameFirstRow : OpenClaim := { program := "ytdomlpmomldmhaagreatdoor", sum := "5595c5d312748c2af2003e5ce3db9de4b70b61dad579cd957dcf1d64bd7eac99", func := "farandole/farandolelaw41.BlameFirst", spec := "blameFirst", inPlace := ["internal/bytealg.CountString", "internal/bytealg.IndexByteString", "internal/bytealg.IndexString", "internal/abi.NoEscape", "internal/bytealg.MakeNoZero"], unfollowed := true, recurses := true, named := ["unicode/utf8.first", "unicode/utf8.acceptRanges", "internal/bytealg.MaxLen", "internal/strconv.uint64pow10", "math/bits.deBruijn32tab", "math/bits.deBruijn64tab"], apart := false, laid := [("math/bits.deBruijn32tab", laid_math_bits_deBruijn32tab), ("math/bits.deBruijn64tab", laid_math_bits_deBruijn64tab), ("internal/strconv.uint64pow10", laid_internal_strconv_uint64pow10), ("unicode/utf8.acceptRanges", laid_unicode_utf8_acceptRanges), ("unicode/utf8.first", laid_unicode_utf8_first)] }
def BlameFirstSaid : Prop := blameFirstRow.holds Tryz.pinned (OpenSpec.ofChange blameFirstSpec)

/-- ITS FALSE NEIGHBOUR: 'it returns false'. Refute it at one input. -/
def blameFirstWrong : ChangeSpec := { name := "blameFirst", fn := fun _ => fun
  | [d1, d2, d3] => { results := [.lit (.bool false)], args := [d1, d2, d3] }
  | _ => none }
def BlameFirstWrongFalsely : Prop := blameFirstRow.holds Tryz.pinned (OpenSpec.ofChange blameFirstWrong)

/-- 'farandolelaw41.BlameParts': WHATEVER THE INPUT: true; the input reads as it did. -/
def blamePartsSpec : ChangeSpec := { name := "blameParts", fn := fun _ => fun
  | [d1, d2, d3] => { results := [.lit (.bool true)], args := [d1, d2, d3] }
  | _ => none }
def blamePartsRow : OpenClaim := { program := "ytdomlpmomldmhaagreatdoor", sum := "5595c5d312748c2af2003e5ce3db9de4b70b61dad579cd957dcf1d64bd7eac99", func := "farandole/farandolelaw41.BlameParts", spec := "blameParts", inPlace := ["internal/bytealg.CountString", "internal/bytealg.IndexByteString", "internal/bytealg.IndexString", "internal/abi.NoEscape", "internal/bytealg.MakeNoZero"], unfollowed := true, recurses := true, named := ["unicode/utf8.first", "unicode/utf8.acceptRanges", "internal/bytealg.MaxLen", "internal/strconv.uint64pow10", "math/bits.deBruijn32tab", "math/bits.deBruijn64tab"], apart := false, laid := [("math/bits.deBruijn32tab", laid_math_bits_deBruijn32tab), ("math/bits.deBruijn64tab", laid_math_bits_deBruijn64tab), ("internal/strconv.uint64pow10", laid_internal_strconv_uint64pow10), ("unicode/utf8.acceptRanges", laid_unicode_utf8_acceptRanges), ("unicode/utf8.first", laid_unicode_utf8_first)] }
def BlamePartsSaid : Prop := blamePartsRow.holds Tryz.pinned (OpenSpec.ofChange blamePartsSpec)

/-- ITS FALSE NEIGHBOUR: 'it returns false'. Refute it at one input. -/
def blamePartsWrong : ChangeSpec := { name := "blameParts", fn := fun _ => fun
  | [d1, d2, d3] => { results := [.lit (.bool false)], args := [d1, d2, d3] }
  | _ => none }
def BlamePartsWrongFalsely : Prop := blamePartsRow.holds Tryz.pinned (OpenSpec.ofChange blamePartsWrong)

/-- 'farandolelaw41.BlameRole': WHATEVER THE INPUT: true; the input reads as it did. -/
def blameRoleSpec : ChangeSpec := { name := "blameRole", fn := fun _ => fun
  | [d1, d2, d3] => { results := [.lit (.bool true)], args := [d1, d2, d3] }
  | _ => none }
def blameRoleRow : OpenClaim := { program := "ytdomlpmomldmhaagreatdoor", sum := "5595c5d312748c2af2003e5ce3db9de4b70b61dad579cd957dcf1d64bd7eac99", func := "farandole/farandolelaw41.BlameRole", spec := "blameRole", inPlace := ["internal/bytealg.CountString", "internal/bytealg.IndexByteString", "internal/bytealg.IndexString", "internal/abi.NoEscape", "internal/bytealg.MakeNoZero"], unfollowed := true, recurses := true, named := ["unicode/utf8.first", "unicode/utf8.acceptRanges", "internal/bytealg.MaxLen", "internal/strconv.uint64pow10", "math/bits.deBruijn32tab", "math/bits.deBruijn64tab"], apart := false, laid := [("math/bits.deBruijn32tab", laid_math_bits_deBruijn32tab), ("math/bits.deBruijn64tab", laid_math_bits_deBruijn64tab), ("internal/strconv.uint64pow10", laid_internal_strconv_uint64pow10), ("unicode/utf8.acceptRanges", laid_unicode_utf8_acceptRanges), ("unicode/utf8.first", laid_unicode_utf8_first)] }
def BlameRoleSaid : Prop := blameRoleRow.holds Tryz.pinned (OpenSpec.ofChange blameRoleSpec)

/-- ITS FALSE NEIGHBOUR: 'it returns false'. Refute it at one input. -/
def blameRoleWrong : ChangeSpec := { name := "blameRole", fn := fun _ => fun
  | [d1, d2, d3] => { results := [.lit (.bool false)], args := [d1, d2, d3] }
  | _ => none }
def BlameRoleWrongFalsely : Prop := blameRoleRow.holds Tryz.pinned (OpenSpec.ofChange blameRoleWrong)

/- THE SECOND FORM. 'bulk': how many values and letters a reading holds, each counted each time it is reached (what is shared counts as often as it is met; a slice's spare places count too). A statement '..UptoSaid' is the law's where the arguments, and the package variables that the reading takes, are together of bulk at most 1048576: NARROWER than '..Said'. Prove '..Said' where nothing that the law and all that it calls make is longer than what came in: it says more and counts as full. Else prove '..UptoSaid'. A law counts once. -/
mutual
def uptoBulk {H : Type} : DataW H → Nat
  | .lit (.string bytes) => bytes.length + 1
  | .lit _ => 1
  | .nil => 1
  | .ptr d => uptoBulk d + 1
  | .slice elems spare => uptoBulkAll elems + uptoBulkAll spare + 1
  | .agg parts => uptoBulkAll parts + 1
  | .iface _ d => uptoBulk d + 1
  | .map entries => uptoBulkEntries entries + 1
  | .held _ => 1
def uptoBulkAll {H : Type} : List (DataW H) → Nat
  | [] => 0
  | d :: r => uptoBulk d + uptoBulkAll r
def uptoBulkEntries {H : Type} : List (Lit × DataW H) → Nat
  | [] => 0
  | x :: r => uptoBulkEntry x + uptoBulkEntries r
def uptoBulkEntry {H : Type} : Lit × DataW H → Nat
  | (.string bytes, d) => bytes.length + uptoBulk d + 1
  | (_, d) => uptoBulk d + 1
 end
def uptoSmall : (H : Type) → List (DataW H) → Bool := fun _ ds => decide (uptoBulkAll ds ≤ 1048576)
def OpenSpec.upto (s : _root_.Go.ChangeSpec) : _root_.Go.OpenSpec := { _root_.Go.OpenSpec.ofChange s with cond := some uptoSmall }

/-- 'farandolelaw40.MonitorRun', WHERE WHAT IT READS IS OF BULK AT MOST 1048576: true; the input reads as it did. -/
def monitorRunUptoRow : OpenClaim := { program := "ytdomlpmomldmhaagreatdoor", sum := "5595c5d312748c2af2003e5ce3db9de4b70b61dad579cd957dcf1d64bd7eac99", func := "farandole/farandolelaw40.MonitorRun", spec := "monitorRun", inPlace := ["internal/bytealg.CountString", "internal/bytealg.IndexByteString", "internal/bytealg.IndexString"], unfollowed := true, recurses := true, named := ["unicode/utf8.first", "unicode/utf8.acceptRanges", "internal/bytealg.MaxLen"], apart := false, laid := [("unicode/utf8.acceptRanges", laid_unicode_utf8_acceptRanges), ("unicode/utf8.first", laid_unicode_utf8_first)], narrowed := true }
def MonitorRunUptoSaid : Prop := monitorRunUptoRow.holds Tryz.pinned (OpenSpec.upto monitorRunSpec)

/-- 'farandolelaw40.MonitorActors', WHERE WHAT IT READS IS OF BULK AT MOST 1048576: true; the input reads as it did. -/
def monitorActorsUptoRow : OpenClaim := { program := "ytdomlpmomldmhaagreatdoor", sum := "5595c5d312748c2af2003e5ce3db9de4b70b61dad579cd957dcf1d64bd7eac99", func := "farandole/farandolelaw40.MonitorActors", spec := "monitorActors", inPlace := ["internal/bytealg.CountString", "internal/bytealg.IndexByteString", "internal/bytealg.IndexString"], unfollowed := true, recurses := true, named := ["unicode/utf8.first", "unicode/utf8.acceptRanges", "internal/bytealg.MaxLen"], apart := false, laid := [("unicode/utf8.acceptRanges", laid_unicode_utf8_acceptRanges), ("unicode/utf8.first", laid_unicode_utf8_first)], narrowed := true }
def MonitorActorsUptoSaid : Prop := monitorActorsUptoRow.holds Tryz.pinned (OpenSpec.upto monitorActorsSpec)

/-- 'farandolelaw40.MonitorStep', WHERE WHAT IT READS IS OF BULK AT MOST 1048576: true; the input reads as it did. -/
def monitorStepUptoRow : OpenClaim := { program := "ytdomlpmomldmhaagreatdoor", sum := "5595c5d312748c2af2003e5ce3db9de4b70b61dad579cd957dcf1d64bd7eac99", func := "farandole/farandolelaw40.MonitorStep", spec := "monitorStep", inPlace := ["internal/bytealg.CountString", "internal/bytealg.IndexByteString", "internal/bytealg.IndexString"], unfollowed := true, recurses := true, named := ["unicode/utf8.first", "unicode/utf8.acceptRanges", "internal/bytealg.MaxLen"], apart := false, laid := [("unicode/utf8.acceptRanges", laid_unicode_utf8_acceptRanges), ("unicode/utf8.first", laid_unicode_utf8_first)], narrowed := true }
def MonitorStepUptoSaid : Prop := monitorStepUptoRow.holds Tryz.pinned (OpenSpec.upto monitorStepSpec)

/-- 'farandolelaw40.MonitorPrefix', WHERE WHAT IT READS IS OF BULK AT MOST 1048576: true; the input reads as it did. -/
def monitorPrefixUptoRow : OpenClaim := { program := "ytdomlpmomldmhaagreatdoor", sum := "5595c5d312748c2af2003e5ce3db9de4b70b61dad579cd957dcf1d64bd7eac99", func := "farandole/farandolelaw40.MonitorPrefix", spec := "monitorPrefix", inPlace := ["internal/bytealg.CountString", "internal/bytealg.IndexByteString", "internal/bytealg.IndexString"], unfollowed := true, recurses := true, named := ["unicode/utf8.first", "unicode/utf8.acceptRanges", "internal/bytealg.MaxLen"], apart := false, laid := [("unicode/utf8.acceptRanges", laid_unicode_utf8_acceptRanges), ("unicode/utf8.first", laid_unicode_utf8_first)], narrowed := true }
def MonitorPrefixUptoSaid : Prop := monitorPrefixUptoRow.holds Tryz.pinned (OpenSpec.upto monitorPrefixSpec)

/-- 'farandolelaw40.MonitorExact', WHERE WHAT IT READS IS OF BULK AT MOST 1048576: true; the input reads as it did. -/
def monitorExactUptoRow : OpenClaim := { program := "ytdomlpmomldmhaagreatdoor", sum := "5595c5d312748c2af2003e5ce3db9de4b70b61dad579cd957dcf1d64bd7eac99", func := "farandole/farandolelaw40.MonitorExact", spec := "monitorExact", inPlace := ["internal/bytealg.CountString", "internal/bytealg.IndexByteString", "internal/bytealg.IndexString"], unfollowed := true, recurses := true, named := ["unicode/utf8.first", "unicode/utf8.acceptRanges", "internal/bytealg.MaxLen"], apart := false, laid := [("unicode/utf8.acceptRanges", laid_unicode_utf8_acceptRanges), ("unicode/utf8.first", laid_unicode_utf8_first)], narrowed := true }
def MonitorExactUptoSaid : Prop := monitorExactUptoRow.holds Tryz.pinned (OpenSpec.upto monitorExactSpec)

/-- 'farandolelaw41.BlameFind', WHERE WHAT IT READS IS OF BULK AT MOST 1048576: true; the input reads as it did. -/
def blameFindUptoRow : OpenClaim := { program := "ytdomlpmomldmhaagreatdoor", sum := "5595c5d312748c2af2003e5ce3db9de4b70b61dad579cd957dcf1d64bd7eac99", func := "farandole/farandolelaw41.BlameFind", spec := "blameFind", inPlace := ["internal/bytealg.CountString", "internal/bytealg.IndexByteString", "internal/bytealg.IndexString", "internal/abi.NoEscape", "internal/bytealg.MakeNoZero"], unfollowed := true, recurses := true, named := ["unicode/utf8.first", "unicode/utf8.acceptRanges", "internal/bytealg.MaxLen", "internal/strconv.uint64pow10", "math/bits.deBruijn32tab", "math/bits.deBruijn64tab"], apart := false, laid := [("math/bits.deBruijn32tab", laid_math_bits_deBruijn32tab), ("math/bits.deBruijn64tab", laid_math_bits_deBruijn64tab), ("internal/strconv.uint64pow10", laid_internal_strconv_uint64pow10), ("unicode/utf8.acceptRanges", laid_unicode_utf8_acceptRanges), ("unicode/utf8.first", laid_unicode_utf8_first)], narrowed := true }
def BlameFindUptoSaid : Prop := blameFindUptoRow.holds Tryz.pinned (OpenSpec.upto blameFindSpec)

/-- 'farandolelaw41.BlameShow', WHERE WHAT IT READS IS OF BULK AT MOST 1048576: true; the input reads as it did. -/
def blameShowUptoRow : OpenClaim := { program := "ytdomlpmomldmhaagreatdoor", sum := "5595c5d312748c2af2003e5ce3db9de4b70b61dad579cd957dcf1d64bd7eac99", func := "farandole/farandolelaw41.BlameShow", spec := "blameShow", inPlace := ["internal/bytealg.CountString", "internal/bytealg.IndexByteString", "internal/bytealg.IndexString", "internal/abi.NoEscape", "internal/bytealg.MakeNoZero"], unfollowed := true, recurses := true, named := ["unicode/utf8.first", "unicode/utf8.acceptRanges", "internal/bytealg.MaxLen", "internal/strconv.uint64pow10", "math/bits.deBruijn32tab", "math/bits.deBruijn64tab"], apart := false, laid := [("math/bits.deBruijn32tab", laid_math_bits_deBruijn32tab), ("math/bits.deBruijn64tab", laid_math_bits_deBruijn64tab), ("internal/strconv.uint64pow10", laid_internal_strconv_uint64pow10), ("unicode/utf8.acceptRanges", laid_unicode_utf8_acceptRanges), ("unicode/utf8.first", laid_unicode_utf8_first)], narrowed := true }
def BlameShowUptoSaid : Prop := blameShowUptoRow.holds Tryz.pinned (OpenSpec.upto blameShowSpec)

/-- 'farandolelaw41.BlameFirst', WHERE WHAT IT READS IS OF BULK AT MOST 1048576: true; the input reads as it did. -/
def blameFirstUptoRow : OpenClaim := { program := "ytdomlpmomldmhaagreatdoor", sum := "5595c5d312748c2af2003e5ce3db9de4b70b61dad579cd957dcf1d64bd7eac99", func := "farandole/farandolelaw41.BlameFirst", spec := "blameFirst", inPlace := ["internal/bytealg.CountString", "internal/bytealg.IndexByteString", "internal/bytealg.IndexString", "internal/abi.NoEscape", "internal/bytealg.MakeNoZero"], unfollowed := true, recurses := true, named := ["unicode/utf8.first", "unicode/utf8.acceptRanges", "internal/bytealg.MaxLen", "internal/strconv.uint64pow10", "math/bits.deBruijn32tab", "math/bits.deBruijn64tab"], apart := false, laid := [("math/bits.deBruijn32tab", laid_math_bits_deBruijn32tab), ("math/bits.deBruijn64tab", laid_math_bits_deBruijn64tab), ("internal/strconv.uint64pow10", laid_internal_strconv_uint64pow10), ("unicode/utf8.acceptRanges", laid_unicode_utf8_acceptRanges), ("unicode/utf8.first", laid_unicode_utf8_first)], narrowed := true }
def BlameFirstUptoSaid : Prop := blameFirstUptoRow.holds Tryz.pinned (OpenSpec.upto blameFirstSpec)

/-- 'farandolelaw41.BlameParts', WHERE WHAT IT READS IS OF BULK AT MOST 1048576: true; the input reads as it did. -/
def blamePartsUptoRow : OpenClaim := { program := "ytdomlpmomldmhaagreatdoor", sum := "5595c5d312748c2af2003e5ce3db9de4b70b61dad579cd957dcf1d64bd7eac99", func := "farandole/farandolelaw41.BlameParts", spec := "blameParts", inPlace := ["internal/bytealg.CountString", "internal/bytealg.IndexByteString", "internal/bytealg.IndexString", "internal/abi.NoEscape", "internal/bytealg.MakeNoZero"], unfollowed := true, recurses := true, named := ["unicode/utf8.first", "unicode/utf8.acceptRanges", "internal/bytealg.MaxLen", "internal/strconv.uint64pow10", "math/bits.deBruijn32tab", "math/bits.deBruijn64tab"], apart := false, laid := [("math/bits.deBruijn32tab", laid_math_bits_deBruijn32tab), ("math/bits.deBruijn64tab", laid_math_bits_deBruijn64tab), ("internal/strconv.uint64pow10", laid_internal_strconv_uint64pow10), ("unicode/utf8.acceptRanges", laid_unicode_utf8_acceptRanges), ("unicode/utf8.first", laid_unicode_utf8_first)], narrowed := true }
def BlamePartsUptoSaid : Prop := blamePartsUptoRow.holds Tryz.pinned (OpenSpec.upto blamePartsSpec)

/-- 'farandolelaw41.BlameRole', WHERE WHAT IT READS IS OF BULK AT MOST 1048576: true; the input reads as it did. -/
def blameRoleUptoRow : OpenClaim := { program := "ytdomlpmomldmhaagreatdoor", sum := "5595c5d312748c2af2003e5ce3db9de4b70b61dad579cd957dcf1d64bd7eac99", func := "farandole/farandolelaw41.BlameRole", spec := "blameRole", inPlace := ["internal/bytealg.CountString", "internal/bytealg.IndexByteString", "internal/bytealg.IndexString", "internal/abi.NoEscape", "internal/bytealg.MakeNoZero"], unfollowed := true, recurses := true, named := ["unicode/utf8.first", "unicode/utf8.acceptRanges", "internal/bytealg.MaxLen", "internal/strconv.uint64pow10", "math/bits.deBruijn32tab", "math/bits.deBruijn64tab"], apart := false, laid := [("math/bits.deBruijn32tab", laid_math_bits_deBruijn32tab), ("math/bits.deBruijn64tab", laid_math_bits_deBruijn64tab), ("internal/strconv.uint64pow10", laid_internal_strconv_uint64pow10), ("unicode/utf8.acceptRanges", laid_unicode_utf8_acceptRanges), ("unicode/utf8.first", laid_unicode_utf8_first)], narrowed := true }
def BlameRoleUptoSaid : Prop := blameRoleUptoRow.holds Tryz.pinned (OpenSpec.upto blameRoleSpec)

end Rows
end Go.Proofs.YtdomlpmomldmhaaGreatDoor
