/-
  NARROWER THAN 'FOR EVERY INPUT', by the rows' own cells (each row's printed sentence says how): GlobalWords: laid · GlobalTurned: laid · GlobalSame: laid · GlobalSearch: laid · GlobalValid: laid · GlobalEnds: laid · GlobalCode: laid · GlobalDecode: laid · GlobalDamage: laid.
  DERIVED. THE GIVEN ROWS OF THIS SEAT. 9 by the template 'for every input the law returns true; each argument reads behind the call as it read before'; 0 by the template 'total and deterministic' (their statements: YtenajajnbmfijaaGreatDoorTotals.lean).
  GIVEN WITH THE SEED: the statements are not yours to turn. If you find one false, say at which input.
  Laid BY PROGRAM, IN A SANDBOX (cutbox-rows.mjs): the forced cells as the released guide's own fill.sh prints them over the translation 3c7466de2da9b957… (all of the seat's roots in one cut). By AI agents, Wed Nov 11 2026. No macro, syntax, notation, axiom, sorry.
-/
import Derived.Test.YtenajajnbmfijaaGreatDoorChecked
import GoSem.PinnedTables
import GoSem.Claim
import GoSem.ClaimJoined
import GoSem.ClaimMapViews
import Derived.JoinedTies
import Derived.KernelRfl
namespace Go.Proofs.YtenajajnbmfijaaGreatDoor
/- THE CELL 'sum', in the pinned program and in every row, IS THE sha256 OF THE DUMP (.gsa) THAT YtenajajnbmfijaaGreatDoorProg.lean LOADS. Nothing in Lean hashes anything: it is a label: what it is worth is what the hold of that sum in a sandbox is worth. -/
noncomputable def Tryz.pinned : Pinned := { name := "ytenajajnbmfijaagreatdoor", sum := "3c7466de2da9b957e0450139970e4cce35783c577dcf9856de8f7ce3da9fe5d3", checked := Tryz.checked }
namespace Rows
def none {H : Type} : Left H := { results := [], args := [] }

/- WHAT THE LISTED PACKAGE-LEVEL VARIABLES READ AS WHEN THE CALL BEGINS. Each datum BY PROGRAM (the guide's laid-datum.mjs) off the statement by which the dump's own 'gosem.cut.vars' lays the variable. In a bare row this is a premise. The card (YtenajajnbmfijaaGreatDoorCards.lean) ties it to the program's text. -/
def laid_unicode_utf8_acceptRanges {H : Type} : DataW H := .agg [.agg [.lit (.int .u8 128), .lit (.int .u8 191)], .agg [.lit (.int .u8 160), .lit (.int .u8 191)], .agg [.lit (.int .u8 128), .lit (.int .u8 159)], .agg [.lit (.int .u8 144), .lit (.int .u8 191)], .agg [.lit (.int .u8 128), .lit (.int .u8 143)], .agg [.lit (.int .u8 0), .lit (.int .u8 0)], .agg [.lit (.int .u8 0), .lit (.int .u8 0)], .agg [.lit (.int .u8 0), .lit (.int .u8 0)], .agg [.lit (.int .u8 0), .lit (.int .u8 0)], .agg [.lit (.int .u8 0), .lit (.int .u8 0)], .agg [.lit (.int .u8 0), .lit (.int .u8 0)], .agg [.lit (.int .u8 0), .lit (.int .u8 0)], .agg [.lit (.int .u8 0), .lit (.int .u8 0)], .agg [.lit (.int .u8 0), .lit (.int .u8 0)], .agg [.lit (.int .u8 0), .lit (.int .u8 0)], .agg [.lit (.int .u8 0), .lit (.int .u8 0)]]
/-- One of Go's own tables, pinned by name: the form's constant. -/
def laid_unicode_utf8_first : DataW Unit := Go.Pinned.utf8First

/-- 'farandolelaw18.GlobalWords': WHATEVER THE INPUT: true; the input reads as it did. -/
def globalWordsSpec : ChangeSpec := { name := "globalWords", fn := fun _ => fun
  | [d1, d2] => { results := [.lit (.bool true)], args := [d1, d2] }
  | _ => none }
def globalWordsRow : OpenClaim := { program := "ytenajajnbmfijaagreatdoor", sum := "3c7466de2da9b957e0450139970e4cce35783c577dcf9856de8f7ce3da9fe5d3", func := "farandole/farandolelaw18.GlobalWords", spec := "globalWords", inPlace := ["internal/bytealg.CountString", "internal/bytealg.IndexByteString", "internal/bytealg.IndexString"], unfollowed := true, recurses := true, named := ["unicode/utf8.first", "unicode/utf8.acceptRanges", "internal/bytealg.MaxLen"], apart := false, laid := [("unicode/utf8.acceptRanges", laid_unicode_utf8_acceptRanges), ("unicode/utf8.first", laid_unicode_utf8_first)] }
def GlobalWordsSaid : Prop := globalWordsRow.holds Tryz.pinned (OpenSpec.ofChange globalWordsSpec)

/-- ITS FALSE NEIGHBOUR: 'it returns false'. Refute it at one input. -/
def globalWordsWrong : ChangeSpec := { name := "globalWords", fn := fun _ => fun
  | [d1, d2] => { results := [.lit (.bool false)], args := [d1, d2] }
  | _ => none }
def GlobalWordsWrongFalsely : Prop := globalWordsRow.holds Tryz.pinned (OpenSpec.ofChange globalWordsWrong)

/-- 'farandolelaw18.GlobalTurned': WHATEVER THE INPUT: true; the input reads as it did. -/
def globalTurnedSpec : ChangeSpec := { name := "globalTurned", fn := fun _ => fun
  | [d1, d2, d3] => { results := [.lit (.bool true)], args := [d1, d2, d3] }
  | _ => none }
def globalTurnedRow : OpenClaim := { program := "ytenajajnbmfijaagreatdoor", sum := "3c7466de2da9b957e0450139970e4cce35783c577dcf9856de8f7ce3da9fe5d3", func := "farandole/farandolelaw18.GlobalTurned", spec := "globalTurned", inPlace := ["internal/bytealg.CountString", "internal/bytealg.IndexByteString", "internal/bytealg.IndexString"], unfollowed := true, recurses := true, named := ["unicode/utf8.first", "unicode/utf8.acceptRanges", "internal/bytealg.MaxLen"], apart := false, laid := [("unicode/utf8.acceptRanges", laid_unicode_utf8_acceptRanges), ("unicode/utf8.first", laid_unicode_utf8_first)] }
def GlobalTurnedSaid : Prop := globalTurnedRow.holds Tryz.pinned (OpenSpec.ofChange globalTurnedSpec)

/-- ITS FALSE NEIGHBOUR: 'it returns false'. Refute it at one input. -/
def globalTurnedWrong : ChangeSpec := { name := "globalTurned", fn := fun _ => fun
  | [d1, d2, d3] => { results := [.lit (.bool false)], args := [d1, d2, d3] }
  | _ => none }
def GlobalTurnedWrongFalsely : Prop := globalTurnedRow.holds Tryz.pinned (OpenSpec.ofChange globalTurnedWrong)

/-- 'farandolelaw18.GlobalSame': WHATEVER THE INPUT: true; the input reads as it did. -/
def globalSameSpec : ChangeSpec := { name := "globalSame", fn := fun _ => fun
  | [d] => { results := [.lit (.bool true)], args := [d] }
  | _ => none }
def globalSameRow : OpenClaim := { program := "ytenajajnbmfijaagreatdoor", sum := "3c7466de2da9b957e0450139970e4cce35783c577dcf9856de8f7ce3da9fe5d3", func := "farandole/farandolelaw18.GlobalSame", spec := "globalSame", inPlace := ["internal/bytealg.CountString", "internal/bytealg.IndexByteString", "internal/bytealg.IndexString"], unfollowed := true, recurses := true, named := ["unicode/utf8.first", "unicode/utf8.acceptRanges", "internal/bytealg.MaxLen"], apart := false, laid := [("unicode/utf8.acceptRanges", laid_unicode_utf8_acceptRanges), ("unicode/utf8.first", laid_unicode_utf8_first)] }
def GlobalSameSaid : Prop := globalSameRow.holds Tryz.pinned (OpenSpec.ofChange globalSameSpec)

/-- ITS FALSE NEIGHBOUR: 'it returns false'. Refute it at one input. -/
def globalSameWrong : ChangeSpec := { name := "globalSame", fn := fun _ => fun
  | [d] => { results := [.lit (.bool false)], args := [d] }
  | _ => none }
def GlobalSameWrongFalsely : Prop := globalSameRow.holds Tryz.pinned (OpenSpec.ofChange globalSameWrong)

/-- 'farandolelaw18.GlobalSearch': WHATEVER THE INPUT: true; the input reads as it did. -/
def globalSearchSpec : ChangeSpec := { name := "globalSearch", fn := fun _ => fun
  | [d1, d2, d3] => { results := [.lit (.bool true)], args := [d1, d2, d3] }
  | _ => none }
def globalSearchRow : OpenClaim := { program := "ytenajajnbmfijaagreatdoor", sum := "3c7466de2da9b957e0450139970e4cce35783c577dcf9856de8f7ce3da9fe5d3", func := "farandole/farandolelaw18.GlobalSearch", spec := "globalSearch", inPlace := ["internal/bytealg.CountString", "internal/bytealg.IndexByteString", "internal/bytealg.IndexString"], unfollowed := true, recurses := true, named := ["unicode/utf8.first", "unicode/utf8.acceptRanges", "internal/bytealg.MaxLen"], apart := false, laid := [("unicode/utf8.acceptRanges", laid_unicode_utf8_acceptRanges), ("unicode/utf8.first", laid_unicode_utf8_first)] }
def GlobalSearchSaid : Prop := globalSearchRow.holds Tryz.pinned (OpenSpec.ofChange globalSearchSpec)

/-- ITS FALSE NEIGHBOUR: 'it returns false'. Refute it at one input. -/
def globalSearchWrong : ChangeSpec := { name := "globalSearch", fn := fun _ => fun
  | [d1, d2, d3] => { results := [.lit (.bool false)], args := [d1, d2, d3] }
  | _ => none }
def GlobalSearchWrongFalsely : Prop := globalSearchRow.holds Tryz.pinned (OpenSpec.ofChange globalSearchWrong)

/-- 'farandolelaw18.GlobalValid': WHATEVER THE INPUT: true; the input reads as it did. -/
def globalValidSpec : ChangeSpec := { name := "globalValid", fn := fun _ => fun
  | [d] => { results := [.lit (.bool true)], args := [d] }
  | _ => none }
def globalValidRow : OpenClaim := { program := "ytenajajnbmfijaagreatdoor", sum := "3c7466de2da9b957e0450139970e4cce35783c577dcf9856de8f7ce3da9fe5d3", func := "farandole/farandolelaw18.GlobalValid", spec := "globalValid", inPlace := ["internal/bytealg.CountString", "internal/bytealg.IndexByteString", "internal/bytealg.IndexString"], unfollowed := true, recurses := true, named := ["unicode/utf8.first", "unicode/utf8.acceptRanges", "internal/bytealg.MaxLen"], apart := false, laid := [("unicode/utf8.acceptRanges", laid_unicode_utf8_acceptRanges), ("unicode/utf8.first", laid_unicode_utf8_first)] }
def GlobalValidSaid : Prop := globalValidRow.holds Tryz.pinned (OpenSpec.ofChange globalValidSpec)

/-- ITS FALSE NEIGHBOUR: 'it returns false'. Refute it at one input. -/
def globalValidWrong : ChangeSpec := { name := "globalValid", fn := fun _ => fun
  | [d] => { results := [.lit (.bool false)], args := [d] }
  | _ => none }
def GlobalValidWrongFalsely : Prop := globalValidRow.holds Tryz.pinned (OpenSpec.ofChange globalValidWrong)

/-- 'farandolelaw18.GlobalEnds': WHATEVER THE INPUT: true; the input reads as it did. -/
def globalEndsSpec : ChangeSpec := { name := "globalEnds", fn := fun _ => fun
  | [d] => { results := [.lit (.bool true)], args := [d] }
  | _ => none }
def globalEndsRow : OpenClaim := { program := "ytenajajnbmfijaagreatdoor", sum := "3c7466de2da9b957e0450139970e4cce35783c577dcf9856de8f7ce3da9fe5d3", func := "farandole/farandolelaw18.GlobalEnds", spec := "globalEnds", inPlace := ["internal/bytealg.CountString", "internal/bytealg.IndexByteString", "internal/bytealg.IndexString"], unfollowed := true, recurses := true, named := ["unicode/utf8.first", "unicode/utf8.acceptRanges", "internal/bytealg.MaxLen"], apart := false, laid := [("unicode/utf8.acceptRanges", laid_unicode_utf8_acceptRanges), ("unicode/utf8.first", laid_unicode_utf8_first)] }
def GlobalEndsSaid : Prop := globalEndsRow.holds Tryz.pinned (OpenSpec.ofChange globalEndsSpec)

/-- ITS FALSE NEIGHBOUR: 'it returns false'. Refute it at one input. -/
def globalEndsWrong : ChangeSpec := { name := "globalEnds", fn := fun _ => fun
  | [d] => { results := [.lit (.bool false)], args := [d] }
  | _ => none }
def GlobalEndsWrongFalsely : Prop := globalEndsRow.holds Tryz.pinned (OpenSpec.ofChange globalEndsWrong)

/-- 'farandolelaw18.GlobalCode': WHATEVER THE INPUT: true; the input reads as it did. -/
def globalCodeSpec : ChangeSpec := { name := "globalCode", fn := fun _ => fun
  | [d] => { results := [.lit (.bool true)], args := [d] }
  | _ => none }
def globalCodeRow : OpenClaim := { program := "ytenajajnbmfijaagreatdoor", sum := "3c7466de2da9b957e0450139970e4cce35783c577dcf9856de8f7ce3da9fe5d3", func := "farandole/farandolelaw18.GlobalCode", spec := "globalCode", inPlace := ["internal/bytealg.CountString", "internal/bytealg.IndexByteString", "internal/bytealg.IndexString"], unfollowed := true, recurses := true, named := ["unicode/utf8.first", "unicode/utf8.acceptRanges", "internal/bytealg.MaxLen"], apart := false, laid := [("unicode/utf8.acceptRanges", laid_unicode_utf8_acceptRanges), ("unicode/utf8.first", laid_unicode_utf8_first)] }
def GlobalCodeSaid : Prop := globalCodeRow.holds Tryz.pinned (OpenSpec.ofChange globalCodeSpec)

/-- ITS FALSE NEIGHBOUR: 'it returns false'. Refute it at one input. -/
def globalCodeWrong : ChangeSpec := { name := "globalCode", fn := fun _ => fun
  | [d] => { results := [.lit (.bool false)], args := [d] }
  | _ => none }
def GlobalCodeWrongFalsely : Prop := globalCodeRow.holds Tryz.pinned (OpenSpec.ofChange globalCodeWrong)

/-- 'farandolelaw18.GlobalDecode': WHATEVER THE INPUT: true; the input reads as it did. -/
def globalDecodeSpec : ChangeSpec := { name := "globalDecode", fn := fun _ => fun
  | [d] => { results := [.lit (.bool true)], args := [d] }
  | _ => none }
def globalDecodeRow : OpenClaim := { program := "ytenajajnbmfijaagreatdoor", sum := "3c7466de2da9b957e0450139970e4cce35783c577dcf9856de8f7ce3da9fe5d3", func := "farandole/farandolelaw18.GlobalDecode", spec := "globalDecode", inPlace := ["internal/bytealg.CountString", "internal/bytealg.IndexByteString", "internal/bytealg.IndexString"], unfollowed := true, recurses := true, named := ["unicode/utf8.first", "unicode/utf8.acceptRanges", "internal/bytealg.MaxLen"], apart := false, laid := [("unicode/utf8.acceptRanges", laid_unicode_utf8_acceptRanges), ("unicode/utf8.first", laid_unicode_utf8_first)] }
def GlobalDecodeSaid : Prop := globalDecodeRow.holds Tryz.pinned (OpenSpec.ofChange globalDecodeSpec)

/-- ITS FALSE NEIGHBOUR: 'it returns false'. Refute it at one input. -/
def globalDecodeWrong : ChangeSpec := { name := "globalDecode", fn := fun _ => fun
  | [d] => { results := [.lit (.bool false)], args := [d] }
  | _ => none }
def GlobalDecodeWrongFalsely : Prop := globalDecodeRow.holds Tryz.pinned (OpenSpec.ofChange globalDecodeWrong)

/-- 'farandolelaw18.GlobalDamage': WHATEVER THE INPUT: true; the input reads as it did. -/
def globalDamageSpec : ChangeSpec := { name := "globalDamage", fn := fun _ => fun
  | [d1, d2] => { results := [.lit (.bool true)], args := [d1, d2] }
  | _ => none }
def globalDamageRow : OpenClaim := { program := "ytenajajnbmfijaagreatdoor", sum := "3c7466de2da9b957e0450139970e4cce35783c577dcf9856de8f7ce3da9fe5d3", func := "farandole/farandolelaw18.GlobalDamage", spec := "globalDamage", inPlace := ["internal/bytealg.CountString", "internal/bytealg.IndexByteString", "internal/bytealg.IndexString"], unfollowed := true, recurses := true, named := ["unicode/utf8.first", "unicode/utf8.acceptRanges", "internal/bytealg.MaxLen"], apart := false, laid := [("unicode/utf8.acceptRanges", laid_unicode_utf8_acceptRanges), ("unicode/utf8.first", laid_unicode_utf8_first)] }
def GlobalDamageSaid : Prop := globalDamageRow.holds Tryz.pinned (OpenSpec.ofChange globalDamageSpec)

/-- ITS FALSE NEIGHBOUR: 'it returns false'. Refute it at one input. -/
def globalDamageWrong : ChangeSpec := { name := "globalDamage", fn := fun _ => fun
  | [d1, d2] => { results := [.lit (.bool false)], args := [d1, d2] }
  | _ => none }
def GlobalDamageWrongFalsely : Prop := globalDamageRow.holds Tryz.pinned (OpenSpec.ofChange globalDamageWrong)

/- THE SECOND FORM. 'bulk': how many values and letters a reading holds, each counted each time it is reached (what is shared counts as often as it is met; a slice's spare places count too). A statement '..UptoSaid' is the law's where the arguments, and the package variables that the reading takes, are together of bulk at most 1048576: NARROWER than '..Said'. Prove '..Said' where nothing that the law and all that it calls make is longer than what came in: it says more and counts as full. Else prove '..UptoSaid'. A law counts once. -/
mutual
def uptoBulk {H : Type} : DataW H → Nat
  | .lit (.string bytes) => bytes.length + 1
  | .lit _ => 1
  | .nil => 1
  | .ptr d => uptoBulk d + 1
  | .slice elems spare => uptoBulkAll elems + uptoBulkAll spare + 1
  | .agg parts => uptoBulkAll parts + 1
  | .iface _ d => uptoBulk d + 1
  | .map entries => uptoBulkEntries entries + 1
  | .held _ => 1
def uptoBulkAll {H : Type} : List (DataW H) → Nat
  | [] => 0
  | d :: r => uptoBulk d + uptoBulkAll r
def uptoBulkEntries {H : Type} : List (Lit × DataW H) → Nat
  | [] => 0
  | x :: r => uptoBulkEntry x + uptoBulkEntries r
def uptoBulkEntry {H : Type} : Lit × DataW H → Nat
  | (.string bytes, d) => bytes.length + uptoBulk d + 1
  | (_, d) => uptoBulk d + 1
 end
def uptoSmall : (H : Type) → List (DataW H) → Bool := fun _ ds => decide (uptoBulkAll ds ≤ 1048576)
def OpenSpec.upto (s : _root_.Go.ChangeSpec) : _root_.Go.OpenSpec := { _root_.Go.OpenSpec.ofChange s with cond := some uptoSmall }

/-- 'farandolelaw18.GlobalWords', WHERE WHAT IT READS IS OF BULK AT MOST 1048576: true; the input reads as it did. -/
def globalWordsUptoRow : OpenClaim := { program := "ytenajajnbmfijaagreatdoor", sum := "3c7466de2da9b957e0450139970e4cce35783c577dcf9856de8f7ce3da9fe5d3", func := "farandole/farandolelaw18.GlobalWords", spec := "globalWords", inPlace := ["internal/bytealg.CountString", "internal/bytealg.IndexByteString", "internal/bytealg.IndexString"], unfollowed := true, recurses := true, named := ["unicode/utf8.first", "unicode/utf8.acceptRanges", "internal/bytealg.MaxLen"], apart := false, laid := [("unicode/utf8.acceptRanges", laid_unicode_utf8_acceptRanges), ("unicode/utf8.first", laid_unicode_utf8_first)], narrowed := true }
def GlobalWordsUptoSaid : Prop := globalWordsUptoRow.holds Tryz.pinned (OpenSpec.upto globalWordsSpec)

/-- 'farandolelaw18.GlobalTurned', WHERE WHAT IT READS IS OF BULK AT MOST 1048576: true; the input reads as it did. -/
def globalTurnedUptoRow : OpenClaim := { program := "ytenajajnbmfijaagreatdoor", sum := "3c7466de2da9b957e0450139970e4cce35783c577dcf9856de8f7ce3da9fe5d3", func := "farandole/farandolelaw18.GlobalTurned", spec := "globalTurned", inPlace := ["internal/bytealg.CountString", "internal/bytealg.IndexByteString", "internal/bytealg.IndexString"], unfollowed := true, recurses := true, named := ["unicode/utf8.first", "unicode/utf8.acceptRanges", "internal/bytealg.MaxLen"], apart := false, laid := [("unicode/utf8.acceptRanges", laid_unicode_utf8_acceptRanges), ("unicode/utf8.first", laid_unicode_utf8_first)], narrowed := true }
def GlobalTurnedUptoSaid : Prop := globalTurnedUptoRow.holds Tryz.pinned (OpenSpec.upto globalTurnedSpec)

/-- 'farandolelaw18.GlobalSame', WHERE WHAT IT READS IS OF BULK AT MOST 1048576: true; the input reads as it did. -/
def globalSameUptoRow : OpenClaim := { program := "ytenajajnbmfijaagreatdoor", sum := "3c7466de2da9b957e0450139970e4cce35783c577dcf9856de8f7ce3da9fe5d3", func := "farandole/farandolelaw18.GlobalSame", spec := "globalSame", inPlace := ["internal/bytealg.CountString", "internal/bytealg.IndexByteString", "internal/bytealg.IndexString"], unfollowed := true, recurses := true, named := ["unicode/utf8.first", "unicode/utf8.acceptRanges", "internal/bytealg.MaxLen"], apart := false, laid := [("unicode/utf8.acceptRanges", laid_unicode_utf8_acceptRanges), ("unicode/utf8.first", laid_unicode_utf8_first)], narrowed := true }
def GlobalSameUptoSaid : Prop := globalSameUptoRow.holds Tryz.pinned (OpenSpec.upto globalSameSpec)

/-- 'farandolelaw18.GlobalSearch', WHERE WHAT IT READS IS OF BULK AT MOST 1048576: true; the input reads as it did. -/
def globalSearchUptoRow : OpenClaim := { program := "ytenajajnbmfijaagreatdoor", sum := "3c7466de2da9b957e0450139970e4cce35783c577dcf9856de8f7ce3da9fe5d3", func := "farandole/farandolelaw18.GlobalSearch", spec := "globalSearch", inPlace := ["internal/bytealg.CountString", "internal/bytealg.IndexByteString", "internal/bytealg.IndexString"], unfollowed := true, recurses := true, named := ["unicode/utf8.first", "unicode/utf8.acceptRanges", "internal/bytealg.MaxLen"], apart := false, laid := [("unicode/utf8.acceptRanges", laid_unicode_utf8_acceptRanges), ("unicode/utf8.first", laid_unicode_utf8_first)], narrowed := true }
def GlobalSearchUptoSaid : Prop := globalSearchUptoRow.holds Tryz.pinned (OpenSpec.upto globalSearchSpec)

/-- 'farandolelaw18.GlobalValid', WHERE WHAT IT READS IS OF BULK AT MOST 1048576: true; the input reads as it did. -/
def globalValidUptoRow : OpenClaim := { program := "ytenajajnbmfijaagreatdoor", sum := "3c7466de2da9b957e0450139970e4cce35783c577dcf9856de8f7ce3da9fe5d3", func := "farandole/farandolelaw18.GlobalValid", spec := "globalValid", inPlace := ["internal/bytealg.CountString", "internal/bytealg.IndexByteString", "internal/bytealg.IndexString"], unfollowed := true, recurses := true, named := ["unicode/utf8.first", "unicode/utf8.acceptRanges", "internal/bytealg.MaxLen"], apart := false, laid := [("unicode/utf8.acceptRanges", laid_unicode_utf8_acceptRanges), ("unicode/utf8.first", laid_unicode_utf8_first)], narrowed := true }
def GlobalValidUptoSaid : Prop := globalValidUptoRow.holds Tryz.pinned (OpenSpec.upto globalValidSpec)

/-- 'farandolelaw18.GlobalEnds', WHERE WHAT IT READS IS OF BULK AT MOST 1048576: true; the input reads as it did. -/
def globalEndsUptoRow : OpenClaim := { program := "ytenajajnbmfijaagreatdoor", sum := "3c7466de2da9b957e0450139970e4cce35783c577dcf9856de8f7ce3da9fe5d3", func := "farandole/farandolelaw18.GlobalEnds", spec := "globalEnds", inPlace := ["internal/bytealg.CountString", "internal/bytealg.IndexByteString", "internal/bytealg.IndexString"], unfollowed := true, recurses := true, named := ["unicode/utf8.first", "unicode/utf8.acceptRanges", "internal/bytealg.MaxLen"], apart := false, laid := [("unicode/utf8.acceptRanges", laid_unicode_utf8_acceptRanges), ("unicode/utf8.first", laid_unicode_utf8_first)], narrowed := true }
def GlobalEndsUptoSaid : Prop := globalEndsUptoRow.holds Tryz.pinned (OpenSpec.upto globalEndsSpec)

/-- 'farandolelaw18.GlobalCode', WHERE WHAT IT READS IS OF BULK AT MOST 1048576: true; the input reads as it did. -/
def globalCodeUptoRow : OpenClaim := { program := "ytenajajnbmfijaagreatdoor", sum := "3c7466de2da9b957e0450139970e4cce35783c577dcf9856de8f7ce3da9fe5d3", func := "farandole/farandolelaw18.GlobalCode", spec := "globalCode", inPlace := ["internal/bytealg.CountString", "internal/bytealg.IndexByteString", "internal/bytealg.IndexString"], unfollowed := true, recurses := true, named := ["unicode/utf8.first", "unicode/utf8.acceptRanges", "internal/bytealg.MaxLen"], apart := false, laid := [("unicode/utf8.acceptRanges", laid_unicode_utf8_acceptRanges), ("unicode/utf8.first", laid_unicode_utf8_first)], narrowed := true }
def GlobalCodeUptoSaid : Prop := globalCodeUptoRow.holds Tryz.pinned (OpenSpec.upto globalCodeSpec)

/-- 'farandolelaw18.GlobalDecode', WHERE WHAT IT READS IS OF BULK AT MOST 1048576: true; the input reads as it did. -/
def globalDecodeUptoRow : OpenClaim := { program := "ytenajajnbmfijaagreatdoor", sum := "3c7466de2da9b957e0450139970e4cce35783c577dcf9856de8f7ce3da9fe5d3", func := "farandole/farandolelaw18.GlobalDecode", spec := "globalDecode", inPlace := ["internal/bytealg.CountString", "internal/bytealg.IndexByteString", "internal/bytealg.IndexString"], unfollowed := true, recurses := true, named := ["unicode/utf8.first", "unicode/utf8.acceptRanges", "internal/bytealg.MaxLen"], apart := false, laid := [("unicode/utf8.acceptRanges", laid_unicode_utf8_acceptRanges), ("unicode/utf8.first", laid_unicode_utf8_first)], narrowed := true }
def GlobalDecodeUptoSaid : Prop := globalDecodeUptoRow.holds Tryz.pinned (OpenSpec.upto globalDecodeSpec)

/-- 'farandolelaw18.GlobalDamage', WHERE WHAT IT READS IS OF BULK AT MOST 1048576: true; the input reads as it did. -/
def globalDamageUptoRow : OpenClaim := { program := "ytenajajnbmfijaagreatdoor", sum := "3c7466de2da9b957e0450139970e4cce35783c577dcf9856de8f7ce3da9fe5d3", func := "farandole/farandolelaw18.GlobalDamage", spec := "globalDamage", inPlace := ["internal/bytealg.CountString", "internal/bytealg.IndexByteString", "internal/bytealg.IndexString"], unfollowed := true, recurses := true, named := ["unicode/utf8.first", "unicode/utf8.acceptRanges", "internal/bytealg.MaxLen"], apart := false, laid := [("unicode/utf8.acceptRanges", laid_unicode_utf8_acceptRanges), ("unicode/utf8.first", laid_unicode_utf8_first)], narrowed := true }
def GlobalDamageUptoSaid : Prop := globalDamageUptoRow.holds Tryz.pinned (OpenSpec.upto globalDamageSpec)

end Rows
end Go.Proofs.YtenajajnbmfijaaGreatDoor
