/- How typed values lie in the machine, and the types of the program. -/
import Derived.Test.YtenajajnbmfijaaGreatDoorChecked
import Derived.Test.YtenajajnbmfijaaGreatDoorGlobalDamagePure
set_option linter.all false
section
open Go Go.Kx Go.Proofs
namespace Gx
abbrev rR7 : TRep T7 := rM (fun x => (x.Kind, x.Lo, x.Hi)) (rP (rI .i64) (rP (rI .i64) (rI .i64)))
abbrev oO7 : Opn rR7 := oM _ (oP (oI .i64) (oP (oI .i64) (oI .i64)))
abbrev rR3 : TRep T3 := rM (fun x => (x.Name, x.Sort')) (rP rS rR7)
abbrev oO3 : Opn rR3 := oM _ (oP oS oO7)
abbrev rR1 : TRep T1 := rM (fun x => (x.X, x.Y, x.C)) (rP (rI .i64) (rP (rI .i64) (rI .i64)))
abbrev oO1 : Opn rR1 := oM _ (oP (oI .i64) (oP (oI .i64) (oI .i64)))
abbrev rR5 : TRep T5 := rM (fun x => (x.Diffs, x.Equals)) (rP (rSl rR1) (rSl (rP (rI .i64) (rI .i64))))
abbrev oO5 : Opn rR5 := oM _ (oP (oSl rR1) (oSl (rP (rI .i64) (rI .i64))))
abbrev rR0 : TRep T0 := rM (fun x => (x.Name, x.Fields, x.First, x.Guard)) (rP rS (rP (rSl rR3) (rP (rI .i64) rR5)))
abbrev oO0 : Opn rR0 := oM _ (oP oS (oP (oSl rR3) (oP (oI .i64) oO5)))
abbrev rR6 : TRep T6 := rM (fun x => (x.From, x.To, x.Label)) (rP (rI .i64) (rP (rI .i64) (rI .i64)))
abbrev oO6 : Opn rR6 := oM _ (oP (oI .i64) (oP (oI .i64) (oI .i64)))
abbrev rR2 : TRep T2 := rM (fun x => (x.From, x.Act, x.To, x.Again)) (rP (rI .i64) (rP rR6 (rP (rI .i64) rB)))
abbrev oO2 : Opn rR2 := oM _ (oP (oI .i64) (oP oO6 (oP (oI .i64) oB)))
abbrev rR8 : TRep T8 := rM (fun x => (x.State, x.Ticks, x.Else)) (rP (rI .i64) (rP (rI .i64) (rI .i64)))
abbrev oO8 : Opn rR8 := oM _ (oP (oI .i64) (oP (oI .i64) (oI .i64)))
abbrev rR4 : TRep T4 := rM (fun x => (x.Name, x.Roles, x.Decls, x.States, x.Start, x.End, x.Edges, x.Timeouts)) (rP rS (rP (rSl rS) (rP (rSl rR0) (rP (rI .i64) (rP (rI .i64) (rP (rI .i64) (rP (rSl rR2) (rSl rR8))))))))
abbrev oO4 : Opn rR4 := oM _ (oP oS (oP (oSl rS) (oP (oSl rR0) (oP (oI .i64) (oP (oI .i64) (oP (oI .i64) (oP (oSl rR2) (oSl rR8))))))))
abbrev rR10 : TRep T10 := rM (fun x => (x.State, x.Act, x.Name)) (rP (rI .i64) (rP rR6 rS))
abbrev oO10 : Opn rR10 := oM _ (oP (oI .i64) (oP oO6 oS))
abbrev rR12 : TRep T12 := rM (fun x => (x.b', x.at', x.failed')) (rP (rSl (rI .u8)) (rP (rI .i64) rB))
abbrev oO12 : Opn rR12 := oM _ (oP (oSl (rI .u8)) (oP (oI .i64) oB))
abbrev rR11 : TRep T11 := rM (fun x => (x.B, x.At, x.Failed)) (rP (rSl (rI .u8)) (rP (rI .i64) rB))
abbrev oO11 : Opn rR11 := oM _ (oP (oSl (rI .u8)) (oP (oI .i64) oB))
abbrev rR9 : TRep T9 := rM (fun x => (x.At, x.To)) (rP (rI .u16) (rI .u8))
abbrev oO9 : Opn rR9 := oM _ (oP (oI .u16) (oI .u8))
end Gx
namespace Go.Kx
abbrev SV.I (n : Int) : SV := .c (.i .i64 n)
abbrev SC.I (n : Int) : SC := .i .i64 n
abbrev SV.O (b : Bool) : SV := .c (.b b)
abbrev SV.B (k o : Nat) : SV := .c (.bp k o)
abbrev SV.P (k o : Nat) : SV := .c (.px k o)
abbrev SV.S (k : Nat) : SV := .c (.sl k)
end Go.Kx
namespace Gx
def rg (a : Nat) : Nat → List Nat
  | 0 => []
  | n + 1 => a :: rg (a + 1) n
abbrev cC7 (e : T7) : List SC := [.i .i64 e.Kind, .i .i64 e.Lo, .i .i64 e.Hi]
abbrev cC3 (e : T3) : List SC := [.s e.Name, .i .i64 e.Sort'.Kind, .i .i64 e.Sort'.Lo, .i .i64 e.Sort'.Hi]
abbrev cC1 (e : T1) : List SC := [.i .i64 e.X, .i .i64 e.Y, .i .i64 e.C]
abbrev cC0 (k0 k1 k2 : Nat) (e : T0) : List SC := [.s e.Name, .sl k0, .i .i64 e.First, .sl k1, .sl k2]
abbrev vV0 (k0 k1 k2 : Nat) (e : T0) (l : List (Nat × VF)) : List (Nat × VF) := (k0, .sl rR3 e.Fields) :: (k1, .sl rR1 e.Guard.Diffs) :: (k2, .sl (rP (rI .i64) (rI .i64)) e.Guard.Equals) :: l
abbrev cC6 (e : T6) : List SC := [.i .i64 e.From, .i .i64 e.To, .i .i64 e.Label]
abbrev cC2 (e : T2) : List SC := [.i .i64 e.From, .i .i64 e.Act.From, .i .i64 e.Act.To, .i .i64 e.Act.Label, .i .i64 e.To, .b e.Again]
abbrev cC8 (e : T8) : List SC := [.i .i64 e.State, .i .i64 e.Ticks, .i .i64 e.Else]
abbrev cC4 (k0 k1 k2 k3 : Nat) (e : T4) : List SC := [.s e.Name, .sl k0, .sl k1, .i .i64 e.States, .i .i64 e.Start, .i .i64 e.End, .sl k2, .sl k3]
abbrev vV4 (k0 k1 k2 k3 : Nat) (e : T4) (l : List (Nat × VF)) : List (Nat × VF) := (k0, .sl rS e.Roles) :: (k1, .sl rR0 e.Decls) :: (k2, .sl rR2 e.Edges) :: (k3, .sl rR8 e.Timeouts) :: l
abbrev cC10 (e : T10) : List SC := [.i .i64 e.State, .i .i64 e.Act.From, .i .i64 e.Act.To, .i .i64 e.Act.Label, .s e.Name]
abbrev cC12 (k0 : Nat) (e : T12) : List SC := [.sl k0, .i .i64 e.at', .b e.failed']
abbrev cC11 (k0 : Nat) (e : T11) : List SC := [.sl k0, .i .i64 e.At, .b e.Failed]
abbrev cC9 (e : T9) : List SC := [.i .u16 e.At, .i .u8 e.To]
def tt : List (Nat × TD) := [
 (3, { sz := 1, byt := 8, ag := false, z := [.i .i64 (0 : Int)], kd := 3, ik := some .i64 }),
 (4, { sz := 1, byt := 1, ag := false, z := [.b false], kd := 1 }),
 (5, { sz := 1, byt := 1, ag := false, z := [.i .u8 (0 : Int)], kd := 3, ik := some .u8 }),
 (9, { sz := 1, byt := 16, ag := false, z := [.s (str [])], kd := 2 }),
 (21, { sz := 1, byt := 4, ag := false, z := [.i .i32 (0 : Int)], kd := 3, ik := some .i32 }),
 (22, { sz := 1, byt := 24, ag := false, z := [.nil], kd := 6, es := 1, eb := 16, el := 9 }),
 (23, { sz := 1, byt := 24, ag := false, z := [.nil], kd := 6, es := 5, eb := 96, el := 94 }),
 (24, { sz := 1, byt := 24, ag := false, z := [.nil], kd := 6, es := 6, eb := 48, el := 43 }),
 (25, { sz := 1, byt := 24, ag := false, z := [.nil], kd := 6, es := 3, eb := 24, el := 79 }),
 (27, { sz := 8, byt := 136, ag := true, z := [.s (str []), .nil, .nil, .i .i64 (0 : Int), .i .i64 (0 : Int), .i .i64 (0 : Int), .nil, .nil], kd := 4, fo := [(0, 1, false), (1, 1, false), (2, 1, false), (3, 1, false), (4, 1, false), (5, 1, false), (6, 1, false), (7, 1, false)] }),
 (30, { sz := 1, byt := 24, ag := false, z := [.nil], kd := 6, es := 1, eb := 24, el := 35 }),
 (35, { sz := 1, byt := 24, ag := false, z := [.nil], kd := 6, es := 3, eb := 24, el := 37 }),
 (37, { sz := 3, byt := 24, ag := true, z := [.i .i64 (0 : Int), .i .i64 (0 : Int), .i .i64 (0 : Int)], kd := 4, fo := [(0, 1, false), (1, 1, false), (2, 1, false)] }),
 (40, { sz := 1, byt := 24, ag := false, z := [.nil], kd := 6, es := 1, eb := 8, el := 3 }),
 (43, { sz := 6, byt := 48, ag := true, z := [.i .i64 (0 : Int), .i .i64 (0 : Int), .i .i64 (0 : Int), .i .i64 (0 : Int), .i .i64 (0 : Int), .b false], kd := 4, fo := [(0, 1, false), (1, 3, true), (4, 1, false), (5, 1, false)] }),
 (49, { sz := 1, byt := 8, ag := false, z := [.i .u64 (0 : Int)], kd := 3, ik := some .u64 }),
 (55, { sz := 5, byt := 48, ag := true, z := [.i .i64 (0 : Int), .i .i64 (0 : Int), .i .i64 (0 : Int), .i .i64 (0 : Int), .s (str [])], kd := 4, fo := [(0, 1, false), (1, 3, true), (4, 1, false)] }),
 (61, { sz := 1, byt := 24, ag := false, z := [.nil], kd := 6, es := 1, eb := 1, el := 5 }),
 (66, { sz := 1, byt := 2, ag := false, z := [.i .u16 (0 : Int)], kd := 3, ik := some .u16 }),
 (68, { sz := 2, byt := 4, ag := true, z := [.i .u16 (0 : Int), .i .u8 (0 : Int)], kd := 4, fo := [(0, 1, false), (1, 1, false)] }),
 (79, { sz := 3, byt := 24, ag := true, z := [.i .i64 (0 : Int), .i .i64 (0 : Int), .i .i64 (0 : Int)], kd := 4, fo := [(0, 1, false), (1, 1, false), (2, 1, false)] }),
 (88, { sz := 1, byt := 24, ag := false, z := [.nil], kd := 6, es := 4, eb := 40, el := 141 }),
 (89, { sz := 1, byt := 24, ag := false, z := [.nil], kd := 6, es := 3, eb := 24, el := 144 }),
 (90, { sz := 1, byt := 24, ag := false, z := [.nil], kd := 6, es := 2, eb := 16, el := 146 }),
 (92, { sz := 2, byt := 48, ag := true, z := [.nil, .nil], kd := 4, fo := [(0, 1, false), (1, 1, false)] }),
 (94, { sz := 5, byt := 96, ag := true, z := [.s (str []), .nil, .i .i64 (0 : Int), .nil, .nil], kd := 4, fo := [(0, 1, false), (1, 1, false), (2, 1, false), (3, 2, true)] }),
 (115, { sz := 1, byt := 8, ag := false, z := [.v (.pointer none)], kd := 0 }),
 (130, { sz := 3, byt := 40, ag := true, z := [.nil, .i .i64 (0 : Int), .b false], kd := 4, fo := [(0, 1, false), (1, 1, false), (2, 1, false)] }),
 (135, { sz := 1, byt := 24, ag := false, z := [.nil], kd := 6, es := 1, eb := 1, el := 4 }),
 (139, { sz := 3, byt := 24, ag := true, z := [.i .i64 (0 : Int), .i .i64 (0 : Int), .i .i64 (0 : Int)], kd := 4, fo := [(0, 1, false), (1, 1, false), (2, 1, false)] }),
 (141, { sz := 4, byt := 40, ag := true, z := [.s (str []), .i .i64 (0 : Int), .i .i64 (0 : Int), .i .i64 (0 : Int)], kd := 4, fo := [(0, 1, false), (1, 3, true)] }),
 (144, { sz := 3, byt := 24, ag := true, z := [.i .i64 (0 : Int), .i .i64 (0 : Int), .i .i64 (0 : Int)], kd := 4, fo := [(0, 1, false), (1, 1, false), (2, 1, false)] }),
 (146, { sz := 2, byt := 16, ag := true, z := [.i .i64 (0 : Int), .i .i64 (0 : Int)], kd := 5, n := 2, es := 1, el := 3 }),
 (147, { sz := 1, byt := 8, ag := false, z := [.i .u64 (0 : Int)], kd := 3, ik := some .u64 }),
 (160, { sz := 3, byt := 40, ag := true, z := [.nil, .i .i64 (0 : Int), .b false], kd := 4, fo := [(0, 1, false), (1, 1, false), (2, 1, false)] }),
 (175, { sz := 1, byt := 4, ag := false, z := [.i .u32 (0 : Int)], kd := 3, ik := some .u32 }),
 (180, { sz := 28, byt := 448, ag := true, z := [.s (str []), .s (str []), .s (str []), .s (str []), .s (str []), .s (str []), .s (str []), .s (str []), .s (str []), .s (str []), .s (str []), .s (str []), .s (str []), .s (str []), .s (str []), .s (str []), .s (str []), .s (str []), .s (str []), .s (str []), .s (str []), .s (str []), .s (str []), .s (str []), .s (str []), .s (str []), .s (str []), .s (str [])], kd := 5, n := 28, es := 1, el := 9 }),
 (206, { sz := 2, byt := 2, ag := true, z := [.i .u8 (0 : Int), .i .u8 (0 : Int)], kd := 4, fo := [(0, 1, false), (1, 1, false)] }),
 (207, { sz := 32, byt := 32, ag := true, z := [.i .u8 (0 : Int), .i .u8 (0 : Int), .i .u8 (0 : Int), .i .u8 (0 : Int), .i .u8 (0 : Int), .i .u8 (0 : Int), .i .u8 (0 : Int), .i .u8 (0 : Int), .i .u8 (0 : Int), .i .u8 (0 : Int), .i .u8 (0 : Int), .i .u8 (0 : Int), .i .u8 (0 : Int), .i .u8 (0 : Int), .i .u8 (0 : Int), .i .u8 (0 : Int), .i .u8 (0 : Int), .i .u8 (0 : Int), .i .u8 (0 : Int), .i .u8 (0 : Int), .i .u8 (0 : Int), .i .u8 (0 : Int), .i .u8 (0 : Int), .i .u8 (0 : Int), .i .u8 (0 : Int), .i .u8 (0 : Int), .i .u8 (0 : Int), .i .u8 (0 : Int), .i .u8 (0 : Int), .i .u8 (0 : Int), .i .u8 (0 : Int), .i .u8 (0 : Int)], kd := 5, n := 16, es := 2, el := 206 })]
theorem htt : TTOk Tryz.prog tt := by
  unfold tt
  exact ⟨⟨by kernel_rfl, by kernel_rfl, by kernel_rfl, by kernel_rfl⟩,
    ⟨by kernel_rfl, by kernel_rfl, by kernel_rfl, by kernel_rfl⟩,
    ⟨by kernel_rfl, by kernel_rfl, by kernel_rfl, by kernel_rfl⟩,
    ⟨by kernel_rfl, by kernel_rfl, by kernel_rfl, by kernel_rfl⟩,
    ⟨by kernel_rfl, by kernel_rfl, by kernel_rfl, by kernel_rfl⟩,
    ⟨by kernel_rfl, by kernel_rfl, by kernel_rfl, by kernel_rfl⟩,
    ⟨by kernel_rfl, by kernel_rfl, by kernel_rfl, by kernel_rfl⟩,
    ⟨by kernel_rfl, by kernel_rfl, by kernel_rfl, by kernel_rfl⟩,
    ⟨by kernel_rfl, by kernel_rfl, by kernel_rfl, by kernel_rfl⟩,
    ⟨by kernel_rfl, by kernel_rfl, by kernel_rfl, by kernel_rfl⟩,
    ⟨by kernel_rfl, by kernel_rfl, by kernel_rfl, by kernel_rfl⟩,
    ⟨by kernel_rfl, by kernel_rfl, by kernel_rfl, by kernel_rfl⟩,
    ⟨by kernel_rfl, by kernel_rfl, by kernel_rfl, by kernel_rfl⟩,
    ⟨by kernel_rfl, by kernel_rfl, by kernel_rfl, by kernel_rfl⟩,
    ⟨by kernel_rfl, by kernel_rfl, by kernel_rfl, by kernel_rfl⟩,
    ⟨by kernel_rfl, by kernel_rfl, by kernel_rfl, by kernel_rfl⟩,
    ⟨by kernel_rfl, by kernel_rfl, by kernel_rfl, by kernel_rfl⟩,
    ⟨by kernel_rfl, by kernel_rfl, by kernel_rfl, by kernel_rfl⟩,
    ⟨by kernel_rfl, by kernel_rfl, by kernel_rfl, by kernel_rfl⟩,
    ⟨by kernel_rfl, by kernel_rfl, by kernel_rfl, by kernel_rfl⟩,
    ⟨by kernel_rfl, by kernel_rfl, by kernel_rfl, by kernel_rfl⟩,
    ⟨by kernel_rfl, by kernel_rfl, by kernel_rfl, by kernel_rfl⟩,
    ⟨by kernel_rfl, by kernel_rfl, by kernel_rfl, by kernel_rfl⟩,
    ⟨by kernel_rfl, by kernel_rfl, by kernel_rfl, by kernel_rfl⟩,
    ⟨by kernel_rfl, by kernel_rfl, by kernel_rfl, by kernel_rfl⟩,
    ⟨by kernel_rfl, by kernel_rfl, by kernel_rfl, by kernel_rfl⟩,
    ⟨by kernel_rfl, by kernel_rfl, by kernel_rfl, by kernel_rfl⟩,
    ⟨by kernel_rfl, by kernel_rfl, by kernel_rfl, by kernel_rfl⟩,
    ⟨by kernel_rfl, by kernel_rfl, by kernel_rfl, by kernel_rfl⟩,
    ⟨by kernel_rfl, by kernel_rfl, by kernel_rfl, by kernel_rfl⟩,
    ⟨by kernel_rfl, by kernel_rfl, by kernel_rfl, by kernel_rfl⟩,
    ⟨by kernel_rfl, by kernel_rfl, by kernel_rfl, by kernel_rfl⟩,
    ⟨by kernel_rfl, by kernel_rfl, by kernel_rfl, by kernel_rfl⟩,
    ⟨by kernel_rfl, by kernel_rfl, by kernel_rfl, by kernel_rfl⟩,
    ⟨by kernel_rfl, by kernel_rfl, by kernel_rfl, by kernel_rfl⟩,
    ⟨by kernel_rfl, by kernel_rfl, by kernel_rfl, by kernel_rfl⟩,
    ⟨by kernel_rfl, by kernel_rfl, by kernel_rfl, by kernel_rfl⟩,
    ⟨by kernel_rfl, by kernel_rfl, by kernel_rfl, by kernel_rfl⟩,
    ⟨by kernel_rfl, by kernel_rfl, by kernel_rfl, by kernel_rfl⟩, trivial⟩
def J := @htt
theorem Q {α : Sort _} {a : α} : a = a := rfl
theorem wx {X : Ctx} {s : St} {ops : Array Oper} {todo : Act → World → Prop} {tt : List (Nat × TD)} (s' : St) (htt : TTOk X.P tt) (n : Nat) {idx : List Nat} (k : WPr X ops [] todo s') (h : (silN tt X.fn.ntmps ops n idx s).map (fun p => (p.1, restS p.2 s')) = some ([], s') := by kernel_rfl) : WPr X ops idx todo s := WPr.silx [] s' htt n h k
theorem xw {X : Ctx} {s : St} {ops : Array Oper} {todo : Act → World → Prop} {tt : List (Nat × TD)} (idx' : List Nat) (s' : St) (htt : TTOk X.P tt) (n : Nat) {idx : List Nat} (k : WPr X ops idx' todo s') (h : (silN tt X.fn.ntmps ops n idx s).map (fun p => (p.1, restS p.2 s')) = some (idx', s') := by kernel_rfl) : WPr X ops idx todo s := WPr.silx idx' s' htt n h k
theorem qx {X : Ctx} {s : St} {ops : Array Oper} {todo : List Item} {tt : List (Nat × TD)} (s' : St) (htt : TTOk X.P tt) (n : Nat) {idx : List Nat} (k : WPq X ops [] todo s') (h : (silQ tt X.fn.ntmps ops n idx s).map (fun p => (p.1, restS p.2 s')) = some ([], s') := by kernel_rfl) : WPq X ops idx todo s := WPq.silx [] s' htt n h k
theorem xq {X : Ctx} {s : St} {ops : Array Oper} {todo : List Item} {tt : List (Nat × TD)} (idx' : List Nat) (s' : St) (htt : TTOk X.P tt) (n : Nat) {idx : List Nat} (k : WPq X ops idx' todo s') (h : (silQ tt X.fn.ntmps ops n idx s).map (fun p => (p.1, restS p.2 s')) = some (idx', s') := by kernel_rfl) : WPq X ops idx todo s := WPq.silx idx' s' htt n h k
def ws := @WPr.sil
def wn := @WPr.nil
def wq := @WP.seq
def wg := @WP.region
def wt := @WP.condT
def wf := @WP.condF
def wu := @WP.sub
def wi := @WP.skip
def wb := @WP.inBlock
def wy := @WPr.kb
def wc := @WPr.call
def we := @WP.ret
def wo := @WP.block
def wl := @LS.sil
def qy := @WPq.kb
def qn := @WPq.nil
def wj := @WPr.ix
def wz := @WP.exit
def wD := @WP.regionD
def wQ := @WP.regionQ
def wO := @LS.of
def wX := @WPr.ixo
def wL := @WPr.ldo
def wC := @WP.cut
def wI := @WP.loopI
def wN := @WP.nm
end Gx
end
