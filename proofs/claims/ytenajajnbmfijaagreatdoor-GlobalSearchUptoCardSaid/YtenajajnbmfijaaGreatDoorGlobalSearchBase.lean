/- How typed values lie in the machine, and the types of the program. -/
import Derived.Test.YtenajajnbmfijaaGreatDoorChecked
import Derived.Test.YtenajajnbmfijaaGreatDoorGlobalSearchPure
set_option linter.all false
section
set_option linter.unusedVariables false
open Go Go.Kx Go.Proofs
namespace Gx
abbrev r_api_Sort : TRep T_api_Sort := rM (fun x => (x.Kind, x.Lo, x.Hi)) (rP (rI .i64) (rP (rI .i64) (rI .i64)))
abbrev o_api_Sort : Opn r_api_Sort := oM _ (oP (oI .i64) (oP (oI .i64) (oI .i64)))
abbrev r_api_Field : TRep T_api_Field := rM (fun x => (x.Name, x.Sort')) (rP rS r_api_Sort)
abbrev o_api_Field : Opn r_api_Field := oM _ (oP oS o_api_Sort)
abbrev r_api_Diff : TRep T_api_Diff := rM (fun x => (x.X, x.Y, x.C)) (rP (rI .i64) (rP (rI .i64) (rI .i64)))
abbrev o_api_Diff : Opn r_api_Diff := oM _ (oP (oI .i64) (oP (oI .i64) (oI .i64)))
abbrev r_api_Guard : TRep T_api_Guard := rM (fun x => (x.Diffs, x.Equals)) (rP (rSl r_api_Diff) (rSl (rP (rI .i64) (rI .i64))))
abbrev o_api_Guard : Opn r_api_Guard := oM _ (oP (oSl r_api_Diff) (oSl (rP (rI .i64) (rI .i64))))
abbrev r_api_Decl : TRep T_api_Decl := rM (fun x => (x.Name, x.Fields, x.First, x.Guard)) (rP rS (rP (rSl r_api_Field) (rP (rI .i64) r_api_Guard)))
abbrev o_api_Decl : Opn r_api_Decl := oM _ (oP oS (oP (oSl r_api_Field) (oP (oI .i64) o_api_Guard)))
abbrev r_api_Interaction : TRep T_api_Interaction := rM (fun x => (x.From, x.To, x.Label)) (rP (rI .i64) (rP (rI .i64) (rI .i64)))
abbrev o_api_Interaction : Opn r_api_Interaction := oM _ (oP (oI .i64) (oP (oI .i64) (oI .i64)))
abbrev r_api_Edge : TRep T_api_Edge := rM (fun x => (x.From, x.Act, x.To, x.Again)) (rP (rI .i64) (rP r_api_Interaction (rP (rI .i64) rB)))
abbrev o_api_Edge : Opn r_api_Edge := oM _ (oP (oI .i64) (oP o_api_Interaction (oP (oI .i64) oB)))
abbrev r_api_Timeout : TRep T_api_Timeout := rM (fun x => (x.State, x.Ticks, x.Else)) (rP (rI .i64) (rP (rI .i64) (rI .i64)))
abbrev o_api_Timeout : Opn r_api_Timeout := oM _ (oP (oI .i64) (oP (oI .i64) (oI .i64)))
abbrev r_api_Global : TRep T_api_Global := rM (fun x => (x.Name, x.Roles, x.Decls, x.States, x.Start, x.End, x.Edges, x.Timeouts)) (rP rS (rP (rSl rS) (rP (rSl r_api_Decl) (rP (rI .i64) (rP (rI .i64) (rP (rI .i64) (rP (rSl r_api_Edge) (rSl r_api_Timeout))))))))
abbrev o_api_Global : Opn r_api_Global := oM _ (oP oS (oP (oSl rS) (oP (oSl r_api_Decl) (oP (oI .i64) (oP (oI .i64) (oP (oI .i64) (oP (oSl r_api_Edge) (oSl r_api_Timeout))))))))
abbrev r_law18_Query : TRep T_law18_Query := rM (fun x => (x.State, x.Act, x.Name)) (rP (rI .i64) (rP r_api_Interaction rS))
abbrev o_law18_Query : Opn r_law18_Query := oM _ (oP (oI .i64) (oP o_api_Interaction oS))
abbrev r_wire_Reader : TRep T_wire_Reader := rM (fun x => (x.b', x.at', x.failed')) (rP (rSl (rI .u8)) (rP (rI .i64) rB))
abbrev o_wire_Reader : Opn r_wire_Reader := oM _ (oP (oSl (rI .u8)) (oP (oI .i64) oB))
abbrev r_ref01_Reader : TRep T_ref01_Reader := rM (fun x => (x.B, x.At, x.Failed)) (rP (rSl (rI .u8)) (rP (rI .i64) rB))
abbrev o_ref01_Reader : Opn r_ref01_Reader := oM _ (oP (oSl (rI .u8)) (oP (oI .i64) oB))
abbrev r_law18_Change : TRep T_law18_Change := rM (fun x => (x.At, x.To)) (rP (rI .u16) (rI .u8))
abbrev o_law18_Change : Opn r_law18_Change := oM _ (oP (oI .u16) (oI .u8))
end Gx
namespace Go.Kx
abbrev SV.I (n : Int) : SV := .c (.i .i64 n)
abbrev SC.I (n : Int) : SC := .i .i64 n
abbrev SV.O (b : Bool) : SV := .c (.b b)
abbrev SV.B (k o : Nat) : SV := .c (.bp k o)
abbrev SV.P (k o : Nat) : SV := .c (.px k o)
abbrev SV.S (k : Nat) : SV := .c (.sl k)
end Go.Kx
namespace Gx
def rg (a : Nat) : Nat → List Nat
  | 0 => []
  | n + 1 => a :: rg (a + 1) n
abbrev c_api_Sort (e : T_api_Sort) : List SC := [.i .i64 e.Kind, .i .i64 e.Lo, .i .i64 e.Hi]
abbrev c_api_Field (e : T_api_Field) : List SC := [.s e.Name, .i .i64 e.Sort'.Kind, .i .i64 e.Sort'.Lo, .i .i64 e.Sort'.Hi]
abbrev c_api_Diff (e : T_api_Diff) : List SC := [.i .i64 e.X, .i .i64 e.Y, .i .i64 e.C]
abbrev c_api_Decl (k0 k1 k2 : Nat) (e : T_api_Decl) : List SC := [.s e.Name, .sl k0, .i .i64 e.First, .sl k1, .sl k2]
abbrev v_api_Decl (k0 k1 k2 : Nat) (e : T_api_Decl) (l : List (Nat × VF)) : List (Nat × VF) := (k0, .sl r_api_Field e.Fields) :: (k1, .sl r_api_Diff e.Guard.Diffs) :: (k2, .sl (rP (rI .i64) (rI .i64)) e.Guard.Equals) :: l
abbrev c_api_Interaction (e : T_api_Interaction) : List SC := [.i .i64 e.From, .i .i64 e.To, .i .i64 e.Label]
abbrev c_api_Edge (e : T_api_Edge) : List SC := [.i .i64 e.From, .i .i64 e.Act.From, .i .i64 e.Act.To, .i .i64 e.Act.Label, .i .i64 e.To, .b e.Again]
abbrev c_api_Timeout (e : T_api_Timeout) : List SC := [.i .i64 e.State, .i .i64 e.Ticks, .i .i64 e.Else]
abbrev c_api_Global (k0 k1 k2 k3 : Nat) (e : T_api_Global) : List SC := [.s e.Name, .sl k0, .sl k1, .i .i64 e.States, .i .i64 e.Start, .i .i64 e.End, .sl k2, .sl k3]
abbrev v_api_Global (k0 k1 k2 k3 : Nat) (e : T_api_Global) (l : List (Nat × VF)) : List (Nat × VF) := (k0, .sl rS e.Roles) :: (k1, .sl r_api_Decl e.Decls) :: (k2, .sl r_api_Edge e.Edges) :: (k3, .sl r_api_Timeout e.Timeouts) :: l
abbrev c_law18_Query (e : T_law18_Query) : List SC := [.i .i64 e.State, .i .i64 e.Act.From, .i .i64 e.Act.To, .i .i64 e.Act.Label, .s e.Name]
abbrev c_wire_Reader (k0 : Nat) (e : T_wire_Reader) : List SC := [.sl k0, .i .i64 e.at', .b e.failed']
abbrev c_ref01_Reader (k0 : Nat) (e : T_ref01_Reader) : List SC := [.sl k0, .i .i64 e.At, .b e.Failed]
abbrev c_law18_Change (e : T_law18_Change) : List SC := [.i .u16 e.At, .i .u8 e.To]
def tt : List (Nat × TD) := [
 (3, { sz := 1, byt := 8, ag := false, z := [.i .i64 (0 : Int)], kd := 3, ik := some .i64 }),
 (4, { sz := 1, byt := 1, ag := false, z := [.b false], kd := 1 }),
 (5, { sz := 1, byt := 1, ag := false, z := [.i .u8 (0 : Int)], kd := 3, ik := some .u8 }),
 (9, { sz := 1, byt := 16, ag := false, z := [.s (str [])], kd := 2 }),
 (21, { sz := 1, byt := 4, ag := false, z := [.i .i32 (0 : Int)], kd := 3, ik := some .i32 }),
 (22, { sz := 1, byt := 24, ag := false, z := [.nil], kd := 6, es := 1, eb := 16, el := 9 }),
 (23, { sz := 1, byt := 24, ag := false, z := [.nil], kd := 6, es := 5, eb := 96, el := 94 }),
 (24, { sz := 1, byt := 24, ag := false, z := [.nil], kd := 6, es := 6, eb := 48, el := 43 }),
 (25, { sz := 1, byt := 24, ag := false, z := [.nil], kd := 6, es := 3, eb := 24, el := 79 }),
 (27, { sz := 8, byt := 136, ag := true, z := [.s (str []), .nil, .nil, .i .i64 (0 : Int), .i .i64 (0 : Int), .i .i64 (0 : Int), .nil, .nil], kd := 4, fo := [(0, 1, false), (1, 1, false), (2, 1, false), (3, 1, false), (4, 1, false), (5, 1, false), (6, 1, false), (7, 1, false)] }),
 (30, { sz := 1, byt := 24, ag := false, z := [.nil], kd := 6, es := 1, eb := 24, el := 35 }),
 (35, { sz := 1, byt := 24, ag := false, z := [.nil], kd := 6, es := 3, eb := 24, el := 37 }),
 (37, { sz := 3, byt := 24, ag := true, z := [.i .i64 (0 : Int), .i .i64 (0 : Int), .i .i64 (0 : Int)], kd := 4, fo := [(0, 1, false), (1, 1, false), (2, 1, false)] }),
 (40, { sz := 1, byt := 24, ag := false, z := [.nil], kd := 6, es := 1, eb := 8, el := 3 }),
 (43, { sz := 6, byt := 48, ag := true, z := [.i .i64 (0 : Int), .i .i64 (0 : Int), .i .i64 (0 : Int), .i .i64 (0 : Int), .i .i64 (0 : Int), .b false], kd := 4, fo := [(0, 1, false), (1, 3, true), (4, 1, false), (5, 1, false)] }),
 (49, { sz := 1, byt := 8, ag := false, z := [.i .u64 (0 : Int)], kd := 3, ik := some .u64 }),
 (55, { sz := 5, byt := 48, ag := true, z := [.i .i64 (0 : Int), .i .i64 (0 : Int), .i .i64 (0 : Int), .i .i64 (0 : Int), .s (str [])], kd := 4, fo := [(0, 1, false), (1, 3, true), (4, 1, false)] }),
 (61, { sz := 1, byt := 24, ag := false, z := [.nil], kd := 6, es := 1, eb := 1, el := 5 }),
 (66, { sz := 1, byt := 2, ag := false, z := [.i .u16 (0 : Int)], kd := 3, ik := some .u16 }),
 (68, { sz := 2, byt := 4, ag := true, z := [.i .u16 (0 : Int), .i .u8 (0 : Int)], kd := 4, fo := [(0, 1, false), (1, 1, false)] }),
 (79, { sz := 3, byt := 24, ag := true, z := [.i .i64 (0 : Int), .i .i64 (0 : Int), .i .i64 (0 : Int)], kd := 4, fo := [(0, 1, false), (1, 1, false), (2, 1, false)] }),
 (88, { sz := 1, byt := 24, ag := false, z := [.nil], kd := 6, es := 4, eb := 40, el := 141 }),
 (89, { sz := 1, byt := 24, ag := false, z := [.nil], kd := 6, es := 3, eb := 24, el := 144 }),
 (90, { sz := 1, byt := 24, ag := false, z := [.nil], kd := 6, es := 2, eb := 16, el := 146 }),
 (92, { sz := 2, byt := 48, ag := true, z := [.nil, .nil], kd := 4, fo := [(0, 1, false), (1, 1, false)] }),
 (94, { sz := 5, byt := 96, ag := true, z := [.s (str []), .nil, .i .i64 (0 : Int), .nil, .nil], kd := 4, fo := [(0, 1, false), (1, 1, false), (2, 1, false), (3, 2, true)] }),
 (115, { sz := 1, byt := 8, ag := false, z := [.v (.pointer none)], kd := 0 }),
 (130, { sz := 3, byt := 40, ag := true, z := [.nil, .i .i64 (0 : Int), .b false], kd := 4, fo := [(0, 1, false), (1, 1, false), (2, 1, false)] }),
 (135, { sz := 1, byt := 24, ag := false, z := [.nil], kd := 6, es := 1, eb := 1, el := 4 }),
 (139, { sz := 3, byt := 24, ag := true, z := [.i .i64 (0 : Int), .i .i64 (0 : Int), .i .i64 (0 : Int)], kd := 4, fo := [(0, 1, false), (1, 1, false), (2, 1, false)] }),
 (141, { sz := 4, byt := 40, ag := true, z := [.s (str []), .i .i64 (0 : Int), .i .i64 (0 : Int), .i .i64 (0 : Int)], kd := 4, fo := [(0, 1, false), (1, 3, true)] }),
 (144, { sz := 3, byt := 24, ag := true, z := [.i .i64 (0 : Int), .i .i64 (0 : Int), .i .i64 (0 : Int)], kd := 4, fo := [(0, 1, false), (1, 1, false), (2, 1, false)] }),
 (146, { sz := 2, byt := 16, ag := true, z := [.i .i64 (0 : Int), .i .i64 (0 : Int)], kd := 5, n := 2, es := 1, el := 3 }),
 (147, { sz := 1, byt := 8, ag := false, z := [.i .u64 (0 : Int)], kd := 3, ik := some .u64 }),
 (160, { sz := 3, byt := 40, ag := true, z := [.nil, .i .i64 (0 : Int), .b false], kd := 4, fo := [(0, 1, false), (1, 1, false), (2, 1, false)] }),
 (175, { sz := 1, byt := 4, ag := false, z := [.i .u32 (0 : Int)], kd := 3, ik := some .u32 }),
 (180, { sz := 28, byt := 448, ag := true, z := [.s (str []), .s (str []), .s (str []), .s (str []), .s (str []), .s (str []), .s (str []), .s (str []), .s (str []), .s (str []), .s (str []), .s (str []), .s (str []), .s (str []), .s (str []), .s (str []), .s (str []), .s (str []), .s (str []), .s (str []), .s (str []), .s (str []), .s (str []), .s (str []), .s (str []), .s (str []), .s (str []), .s (str [])], kd := 5, n := 28, es := 1, el := 9 }),
 (206, { sz := 2, byt := 2, ag := true, z := [.i .u8 (0 : Int), .i .u8 (0 : Int)], kd := 4, fo := [(0, 1, false), (1, 1, false)] }),
 (207, { sz := 32, byt := 32, ag := true, z := [.i .u8 (0 : Int), .i .u8 (0 : Int), .i .u8 (0 : Int), .i .u8 (0 : Int), .i .u8 (0 : Int), .i .u8 (0 : Int), .i .u8 (0 : Int), .i .u8 (0 : Int), .i .u8 (0 : Int), .i .u8 (0 : Int), .i .u8 (0 : Int), .i .u8 (0 : Int), .i .u8 (0 : Int), .i .u8 (0 : Int), .i .u8 (0 : Int), .i .u8 (0 : Int), .i .u8 (0 : Int), .i .u8 (0 : Int), .i .u8 (0 : Int), .i .u8 (0 : Int), .i .u8 (0 : Int), .i .u8 (0 : Int), .i .u8 (0 : Int), .i .u8 (0 : Int), .i .u8 (0 : Int), .i .u8 (0 : Int), .i .u8 (0 : Int), .i .u8 (0 : Int), .i .u8 (0 : Int), .i .u8 (0 : Int), .i .u8 (0 : Int), .i .u8 (0 : Int)], kd := 5, n := 16, es := 2, el := 206 })]
theorem htt : TTOk Tryz.prog tt := by
  unfold tt
  exact ⟨⟨by kernel_rfl, by kernel_rfl, by kernel_rfl, by kernel_rfl⟩,
    ⟨by kernel_rfl, by kernel_rfl, by kernel_rfl, by kernel_rfl⟩,
    ⟨by kernel_rfl, by kernel_rfl, by kernel_rfl, by kernel_rfl⟩,
    ⟨by kernel_rfl, by kernel_rfl, by kernel_rfl, by kernel_rfl⟩,
    ⟨by kernel_rfl, by kernel_rfl, by kernel_rfl, by kernel_rfl⟩,
    ⟨by kernel_rfl, by kernel_rfl, by kernel_rfl, by kernel_rfl⟩,
    ⟨by kernel_rfl, by kernel_rfl, by kernel_rfl, by kernel_rfl⟩,
    ⟨by kernel_rfl, by kernel_rfl, by kernel_rfl, by kernel_rfl⟩,
    ⟨by kernel_rfl, by kernel_rfl, by kernel_rfl, by kernel_rfl⟩,
    ⟨by kernel_rfl, by kernel_rfl, by kernel_rfl, by kernel_rfl⟩,
    ⟨by kernel_rfl, by kernel_rfl, by kernel_rfl, by kernel_rfl⟩,
    ⟨by kernel_rfl, by kernel_rfl, by kernel_rfl, by kernel_rfl⟩,
    ⟨by kernel_rfl, by kernel_rfl, by kernel_rfl, by kernel_rfl⟩,
    ⟨by kernel_rfl, by kernel_rfl, by kernel_rfl, by kernel_rfl⟩,
    ⟨by kernel_rfl, by kernel_rfl, by kernel_rfl, by kernel_rfl⟩,
    ⟨by kernel_rfl, by kernel_rfl, by kernel_rfl, by kernel_rfl⟩,
    ⟨by kernel_rfl, by kernel_rfl, by kernel_rfl, by kernel_rfl⟩,
    ⟨by kernel_rfl, by kernel_rfl, by kernel_rfl, by kernel_rfl⟩,
    ⟨by kernel_rfl, by kernel_rfl, by kernel_rfl, by kernel_rfl⟩,
    ⟨by kernel_rfl, by kernel_rfl, by kernel_rfl, by kernel_rfl⟩,
    ⟨by kernel_rfl, by kernel_rfl, by kernel_rfl, by kernel_rfl⟩,
    ⟨by kernel_rfl, by kernel_rfl, by kernel_rfl, by kernel_rfl⟩,
    ⟨by kernel_rfl, by kernel_rfl, by kernel_rfl, by kernel_rfl⟩,
    ⟨by kernel_rfl, by kernel_rfl, by kernel_rfl, by kernel_rfl⟩,
    ⟨by kernel_rfl, by kernel_rfl, by kernel_rfl, by kernel_rfl⟩,
    ⟨by kernel_rfl, by kernel_rfl, by kernel_rfl, by kernel_rfl⟩,
    ⟨by kernel_rfl, by kernel_rfl, by kernel_rfl, by kernel_rfl⟩,
    ⟨by kernel_rfl, by kernel_rfl, by kernel_rfl, by kernel_rfl⟩,
    ⟨by kernel_rfl, by kernel_rfl, by kernel_rfl, by kernel_rfl⟩,
    ⟨by kernel_rfl, by kernel_rfl, by kernel_rfl, by kernel_rfl⟩,
    ⟨by kernel_rfl, by kernel_rfl, by kernel_rfl, by kernel_rfl⟩,
    ⟨by kernel_rfl, by kernel_rfl, by kernel_rfl, by kernel_rfl⟩,
    ⟨by kernel_rfl, by kernel_rfl, by kernel_rfl, by kernel_rfl⟩,
    ⟨by kernel_rfl, by kernel_rfl, by kernel_rfl, by kernel_rfl⟩,
    ⟨by kernel_rfl, by kernel_rfl, by kernel_rfl, by kernel_rfl⟩,
    ⟨by kernel_rfl, by kernel_rfl, by kernel_rfl, by kernel_rfl⟩,
    ⟨by kernel_rfl, by kernel_rfl, by kernel_rfl, by kernel_rfl⟩,
    ⟨by kernel_rfl, by kernel_rfl, by kernel_rfl, by kernel_rfl⟩,
    ⟨by kernel_rfl, by kernel_rfl, by kernel_rfl, by kernel_rfl⟩, trivial⟩
end Gx
end
