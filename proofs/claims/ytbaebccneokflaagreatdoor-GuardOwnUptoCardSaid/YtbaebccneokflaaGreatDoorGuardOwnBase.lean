/- How typed values lie in the machine, and the types of the program. -/
import Derived.Test.YtbaebccneokflaaGreatDoorChecked
import Derived.Test.YtbaebccneokflaaGreatDoorGuardOwnPure
set_option linter.all false
section
open Go Go.Kx Go.Proofs
namespace Gx
abbrev rR4 : TRep T4 := rM (fun x => (x.Kind, x.Lo, x.Hi)) (rP (rI .i64) (rP (rI .i64) (rI .i64)))
abbrev oO4 : Opn rR4 := oM _ (oP (oI .i64) (oP (oI .i64) (oI .i64)))
abbrev rR2 : TRep T2 := rM (fun x => (x.Name, x.Sort')) (rP rS rR4)
abbrev oO2 : Opn rR2 := oM _ (oP oS oO4)
abbrev rR1 : TRep T1 := rM (fun x => (x.X, x.Y, x.C)) (rP (rI .i64) (rP (rI .i64) (rI .i64)))
abbrev oO1 : Opn rR1 := oM _ (oP (oI .i64) (oP (oI .i64) (oI .i64)))
abbrev rR3 : TRep T3 := rM (fun x => (x.Diffs, x.Equals)) (rP (rSl rR1) (rSl (rP (rI .i64) (rI .i64))))
abbrev oO3 : Opn rR3 := oM _ (oP (oSl rR1) (oSl (rP (rI .i64) (rI .i64))))
abbrev rR0 : TRep T0 := rM (fun x => (x.Name, x.Fields, x.First, x.Guard)) (rP rS (rP (rSl rR2) (rP (rI .i64) rR3)))
abbrev oO0 : Opn rR0 := oM _ (oP oS (oP (oSl rR2) (oP (oI .i64) oO3)))
abbrev rR5 : TRep T5 := rM (fun x => (x.Kind, x.N, x.S)) (rP (rI .i64) (rP (rI .i64) rS))
abbrev oO5 : Opn rR5 := oM _ (oP (oI .i64) (oP (oI .i64) oS))
abbrev rR6 : TRep T6 := rM (fun x => (x.Values, x.Known)) (rP (rSl rR5) (rSl rR5))
abbrev oO6 : Opn rR6 := oM _ (oP (oSl rR5) (oSl rR5))
abbrev rR7 : TRep T7 := rM (fun x => (x.N, x.B)) (rP (rI .i64) (rSl (rI .i64)))
abbrev oO7 : Opn rR7 := oM _ (oP (oI .i64) (oSl (rI .i64)))
def tt : List (Nat × TD) := [
 (3, { sz := 1, byt := 8, ag := false, z := [.i .i64 (0 : Int)], kd := 3, ik := some .i64 }),
 (4, { sz := 1, byt := 1, ag := false, z := [.b false], kd := 1 }),
 (5, { sz := 1, byt := 1, ag := false, z := [.i .u8 (0 : Int)], kd := 3, ik := some .u8 }),
 (9, { sz := 1, byt := 16, ag := false, z := [.s (str [])], kd := 2 }),
 (21, { sz := 1, byt := 4, ag := false, z := [.i .i32 (0 : Int)], kd := 3, ik := some .i32 }),
 (22, { sz := 1, byt := 24, ag := false, z := [.nil], kd := 6, es := 5, eb := 96, el := 44 }),
 (23, { sz := 1, byt := 24, ag := false, z := [.nil], kd := 6, es := 3, eb := 32, el := 46 }),
 (31, { sz := 2, byt := 48, ag := true, z := [.nil, .nil], kd := 4, fo := [(0, 1, false), (1, 1, false)] }),
 (33, { sz := 1, byt := 24, ag := false, z := [.nil], kd := 6, es := 1, eb := 8, el := 3 }),
 (38, { sz := 1, byt := 24, ag := false, z := [.nil], kd := 6, es := 4, eb := 40, el := 89 }),
 (39, { sz := 1, byt := 24, ag := false, z := [.nil], kd := 6, es := 3, eb := 24, el := 48 }),
 (40, { sz := 1, byt := 24, ag := false, z := [.nil], kd := 6, es := 2, eb := 16, el := 49 }),
 (42, { sz := 2, byt := 48, ag := true, z := [.nil, .nil], kd := 4, fo := [(0, 1, false), (1, 1, false)] }),
 (44, { sz := 5, byt := 96, ag := true, z := [.s (str []), .nil, .i .i64 (0 : Int), .nil, .nil], kd := 4, fo := [(0, 1, false), (1, 1, false), (2, 1, false), (3, 2, true)] }),
 (46, { sz := 3, byt := 32, ag := true, z := [.i .i64 (0 : Int), .i .i64 (0 : Int), .s (str [])], kd := 4, fo := [(0, 1, false), (1, 1, false), (2, 1, false)] }),
 (48, { sz := 3, byt := 24, ag := true, z := [.i .i64 (0 : Int), .i .i64 (0 : Int), .i .i64 (0 : Int)], kd := 4, fo := [(0, 1, false), (1, 1, false), (2, 1, false)] }),
 (49, { sz := 2, byt := 16, ag := true, z := [.i .i64 (0 : Int), .i .i64 (0 : Int)], kd := 5, n := 2, es := 1, el := 3 }),
 (51, { sz := 1, byt := 24, ag := false, z := [.nil], kd := 6, es := 1, eb := 16, el := 9 }),
 (78, { sz := 2, byt := 32, ag := true, z := [.i .i64 (0 : Int), .nil], kd := 4, fo := [(0, 1, false), (1, 1, false)] }),
 (87, { sz := 3, byt := 24, ag := true, z := [.i .i64 (0 : Int), .i .i64 (0 : Int), .i .i64 (0 : Int)], kd := 4, fo := [(0, 1, false), (1, 1, false), (2, 1, false)] }),
 (89, { sz := 4, byt := 40, ag := true, z := [.s (str []), .i .i64 (0 : Int), .i .i64 (0 : Int), .i .i64 (0 : Int)], kd := 4, fo := [(0, 1, false), (1, 3, true)] }),
 (96, { sz := 1, byt := 24, ag := false, z := [.nil], kd := 6, es := 1, eb := 1, el := 4 }),
 (263, { sz := 28, byt := 448, ag := true, z := [.s (str []), .s (str []), .s (str []), .s (str []), .s (str []), .s (str []), .s (str []), .s (str []), .s (str []), .s (str []), .s (str []), .s (str []), .s (str []), .s (str []), .s (str []), .s (str []), .s (str []), .s (str []), .s (str []), .s (str []), .s (str []), .s (str []), .s (str []), .s (str []), .s (str []), .s (str []), .s (str []), .s (str [])], kd := 5, n := 28, es := 1, el := 9 })]
theorem htt : TTOk Tryz.prog tt := by
  unfold tt
  exact ⟨⟨by kernel_rfl, by kernel_rfl, by kernel_rfl, by kernel_rfl⟩,
    ⟨by kernel_rfl, by kernel_rfl, by kernel_rfl, by kernel_rfl⟩,
    ⟨by kernel_rfl, by kernel_rfl, by kernel_rfl, by kernel_rfl⟩,
    ⟨by kernel_rfl, by kernel_rfl, by kernel_rfl, by kernel_rfl⟩,
    ⟨by kernel_rfl, by kernel_rfl, by kernel_rfl, by kernel_rfl⟩,
    ⟨by kernel_rfl, by kernel_rfl, by kernel_rfl, by kernel_rfl⟩,
    ⟨by kernel_rfl, by kernel_rfl, by kernel_rfl, by kernel_rfl⟩,
    ⟨by kernel_rfl, by kernel_rfl, by kernel_rfl, by kernel_rfl⟩,
    ⟨by kernel_rfl, by kernel_rfl, by kernel_rfl, by kernel_rfl⟩,
    ⟨by kernel_rfl, by kernel_rfl, by kernel_rfl, by kernel_rfl⟩,
    ⟨by kernel_rfl, by kernel_rfl, by kernel_rfl, by kernel_rfl⟩,
    ⟨by kernel_rfl, by kernel_rfl, by kernel_rfl, by kernel_rfl⟩,
    ⟨by kernel_rfl, by kernel_rfl, by kernel_rfl, by kernel_rfl⟩,
    ⟨by kernel_rfl, by kernel_rfl, by kernel_rfl, by kernel_rfl⟩,
    ⟨by kernel_rfl, by kernel_rfl, by kernel_rfl, by kernel_rfl⟩,
    ⟨by kernel_rfl, by kernel_rfl, by kernel_rfl, by kernel_rfl⟩,
    ⟨by kernel_rfl, by kernel_rfl, by kernel_rfl, by kernel_rfl⟩,
    ⟨by kernel_rfl, by kernel_rfl, by kernel_rfl, by kernel_rfl⟩,
    ⟨by kernel_rfl, by kernel_rfl, by kernel_rfl, by kernel_rfl⟩,
    ⟨by kernel_rfl, by kernel_rfl, by kernel_rfl, by kernel_rfl⟩,
    ⟨by kernel_rfl, by kernel_rfl, by kernel_rfl, by kernel_rfl⟩,
    ⟨by kernel_rfl, by kernel_rfl, by kernel_rfl, by kernel_rfl⟩,
    ⟨by kernel_rfl, by kernel_rfl, by kernel_rfl, by kernel_rfl⟩, trivial⟩
end Gx
end
