/- Each function of the statement computes what its plain definition says, part 1. -/
import Derived.Test.YtenajajnbmfijaaGreatDoorGlobalEndsBase
set_option linter.all false
section
set_option linter.unusedVariables false
set_option maxRecDepth 10000
set_option maxHeartbeats 4000000
open Go Go.Kx Go.Proofs
namespace Gx
theorem z43_ct (N : Nat) (r : T4) (h : z43 N = some r) :
  Fn Tryz.prog 43 ⟨0, [], [], [], 4, .a (cC4 0 1 2 3 r), (vV4 0 1 2 3 r []), []⟩ := by
  refine Fn.intro _ _ Tryz.func43 rfl (by kernel_rfl) rfl (fun E F w => ?_)
  unfold z43 at h
  refine WP.seq (WP.region (WPr.sil htt 1 rfl (WPr.nil (WP.seq (WP.region (WPr.bs (cs := [.s (str [65]), .s (str [66])]) oS htt ([(str [65]), (str [66])] : List ByteArray) rfl rfl rfl rfl rfl rfl (by kernel_rfl) (by exact (an rfl (an rfl rfl))) rfl (WPr.silx (rg 2 6) ⟨[(0, .B 0 0), (1, .S 1), (2, .a [.s (str [120]), .nil, .I (0 : Int), .nil, .nil])], [(0, .box [.s (str []), .nil, .nil, .I (0 : Int), .I (0 : Int), .I (0 : Int), .nil, .nil] 27), (1, .own rS ([(str [65]), (str [66])] : List ByteArray) true)], [], 2⟩ htt 1 (by kernel_rfl) (WPr.bs (cs := [.s (str [120]), .nil, .I (0 : Int), .nil, .nil]) oO0 htt ([(⟨(str [120]), ([] : List T3), (0 : Int), (⟨([] : List T1), ([] : List (Int × Int))⟩ : T5)⟩ : T0)] : List T0) rfl rfl rfl rfl rfl rfl (by kernel_rfl) (by exact (an (an rfl (an rfl (an rfl (an rfl rfl)))) rfl)) rfl (WPr.silx [5, 6, 7] ⟨[(0, .B 0 0), (1, .S 1), (3, .S 2), (5, .a [.I (0 : Int), .I (0 : Int), .I (1 : Int), .I (0 : Int), .I (1 : Int), .b false])], [(0, .box [.s (str []), .nil, .nil, .I (0 : Int), .I (0 : Int), .I (0 : Int), .nil, .nil] 27), (1, .own rS ([(str [65]), (str [66])] : List ByteArray) true), (2, .own rR0 ([(⟨(str [120]), ([] : List T3), (0 : Int), (⟨([] : List T1), ([] : List (Int × Int))⟩ : T5)⟩ : T0)] : List T0) true)], [], 3⟩ htt 2 (by kernel_rfl) (WPr.bs (cs := [.I (0 : Int), .I (0 : Int), .I (1 : Int), .I (0 : Int), .I (1 : Int), .b false]) oO2 htt ([(⟨(0 : Int), (⟨(0 : Int), (1 : Int), (0 : Int)⟩ : T6), (1 : Int), false⟩ : T2)] : List T2) rfl rfl rfl rfl rfl rfl (by kernel_rfl) (by exact (an (an rfl (an (an rfl (an rfl rfl)) (an rfl rfl))) rfl)) rfl (WPr.silx [] ⟨[(0, .B 0 0)], [(0, .box [.s (str [80]), .sl 1, .sl 2, .I (2 : Int), .I (0 : Int), .I (1 : Int), .sl 3, .nil] 27), (1, .own rS ([(str [65]), (str [66])] : List ByteArray) true), (2, .own rR0 ([(⟨(str [120]), ([] : List T3), (0 : Int), (⟨([] : List T1), ([] : List (Int × Int))⟩ : T5)⟩ : T0)] : List T0) true), (3, .own rR2 ([(⟨(0 : Int), (⟨(0 : Int), (1 : Int), (0 : Int)⟩ : T6), (1 : Int), false⟩ : T2)] : List T2) true)], [], 4⟩ htt 2 (by kernel_rfl) (WPr.nil (WP.frz 1 rfl (WP.frz 2 rfl (WP.frz 3 rfl (?_))))))))))))))))
  cases h
  exact WP.ret htt Tryz.func43 [(0, .sl 1), (1, .sl 2), (2, .sl 3), (3, .nil)] rfl rfl rfl rfl
theorem z173_ct (N : Nat) (c_ : Int) (r : Bool) (h : z173 N c_ = some r) :
  Fn Tryz.prog 173 ⟨0, [.c (.i .u8 c_)], [], [], 0, .O r, [], []⟩ := by
  refine Fn.intro _ _ Tryz.func173 rfl (by kernel_rfl) rfl (fun E F w => ?_)
  unfold z173 at h
  refine WP.seq (WP.region (WPr.sil htt 1 rfl (WPr.nil (WP.seq (WP.region (WPr.silx (rg 3 12) ⟨[(0, .c (.i .u8 c_)), (5, .O (decide ((97 : Int) ≤ c_)))], [], [], 0⟩ htt 3 (by kernel_rfl) (?_)))))))
  rcases oc' h with ⟨hc, h⟩ | ⟨hc, h⟩
  · refine WPr.kb 5 hc rfl (WPr.silx [10, 11, 12, 13, 14] ⟨[(0, .c (.i .u8 c_)), (9, .O false), (12, .O (decide ((65 : Int) ≤ c_)))], [], [], 0⟩ htt 7 (by kernel_rfl) (?_))
    rcases oc h with ⟨hc, h⟩ | ⟨hc, h⟩
    · refine WPr.kb 12 hc rfl (WPr.silx [] ⟨[(2, .O (decide (c_ ≤ (90 : Int))))], [], [], 0⟩ htt 5 (by kernel_rfl) (WPr.nil (?_)))
      cases h
      exact WP.ret htt Tryz.func173 [] rfl rfl rfl rfl
    refine WPr.kb 12 hc rfl (WPr.silx [] ⟨[(2, .O false)], [], [], 0⟩ htt 5 (by kernel_rfl) (WPr.nil (?_)))
    cases h
    exact WP.ret htt Tryz.func173 [] rfl rfl rfl rfl
  refine WPr.kb 5 hc rfl (WPr.silx (rg 7 8) ⟨[(0, .c (.i .u8 c_)), (9, .O (decide (c_ ≤ (122 : Int))))], [], [], 0⟩ htt 4 (by kernel_rfl) (?_))
  rcases oc h with ⟨hc, h⟩ | ⟨hc, h⟩
  · refine WPr.kb 9 hc rfl (WPr.silx [] ⟨[(2, .O true)], [], [], 0⟩ htt 8 (by kernel_rfl) (WPr.nil (?_)))
    cases h
    exact WP.ret htt Tryz.func173 [] rfl rfl rfl rfl
  refine WPr.kb 9 hc rfl (WPr.silx [10, 11, 12, 13, 14] ⟨[(0, .c (.i .u8 c_)), (9, .O false), (12, .O (decide ((65 : Int) ≤ c_)))], [], [], 0⟩ htt 3 (by kernel_rfl) (?_))
  rcases oc h with ⟨hc, h⟩ | ⟨hc, h⟩
  · refine WPr.kb 12 hc rfl (WPr.silx [] ⟨[(2, .O (decide (c_ ≤ (90 : Int))))], [], [], 0⟩ htt 5 (by kernel_rfl) (WPr.nil (?_)))
    cases h
    exact WP.ret htt Tryz.func173 [] rfl rfl rfl rfl
  refine WPr.kb 12 hc rfl (WPr.silx [] ⟨[(2, .O false)], [], [], 0⟩ htt 5 (by kernel_rfl) (WPr.nil (?_)))
  cases h
  exact WP.ret htt Tryz.func173 [] rfl rfl rfl rfl
theorem z186_ct (N : Nat) (c_ : Int) (r : Bool) (h : z186 N c_ = some r) :
  Fn Tryz.prog 186 ⟨0, [.c (.i .u8 c_)], [], [], 0, .O r, [], []⟩ := by
  refine Fn.intro _ _ Tryz.func186 rfl (by kernel_rfl) rfl (fun E F w => ?_)
  unfold z186 at h
  refine WP.seq (WP.region (WPr.sil htt 1 rfl (WPr.nil (WP.seq (WP.region (WPr.silx [3, 4, 5, 6] ⟨[(0, .c (.i .u8 c_)), (5, .O (decide ((48 : Int) ≤ c_)))], [], [], 0⟩ htt 3 (by kernel_rfl) (?_)))))))
  rcases oc h with ⟨hc, h⟩ | ⟨hc, h⟩
  · refine WPr.kb 5 hc rfl (WPr.silx [] ⟨[(2, .O (decide (c_ ≤ (57 : Int))))], [], [], 0⟩ htt 4 (by kernel_rfl) (WPr.nil (?_)))
    cases h
    exact WP.ret htt Tryz.func186 [] rfl rfl rfl rfl
  refine WPr.kb 5 hc rfl (WPr.silx [] ⟨[(2, .O false)], [], [], 0⟩ htt 4 (by kernel_rfl) (WPr.nil (?_)))
  cases h
  exact WP.ret htt Tryz.func186 [] rfl rfl rfl rfl
theorem z174_ct (N : Nat) (c_ : Int) (r : Bool) (h : z174 N c_ = some r) :
  Fn Tryz.prog 174 ⟨0, [.c (.i .u8 c_)], [], [], 0, .O r, [], []⟩ := by
  refine Fn.intro _ _ Tryz.func174 rfl (by kernel_rfl) rfl (fun E F w => ?_)
  unfold z174 at h
  refine WP.seq (WP.region (WPr.sil htt 1 rfl (WPr.nil (WP.seq (WP.region (WPr.sil htt 1 rfl (?_)))))))
  obtain ⟨x1, hx1, h⟩ := ob h
  refine WPr.call (z173_ct N c_ _ hx1) [] [] rfl rfl rfl rfl rfl rfl rfl rfl (.inl rfl) rfl (WPr.silx (rg 3 8) ⟨[(0, .c (.i .u8 c_)), (5, .O x1)], [], [], 0⟩ htt 1 (by kernel_rfl) (?_))
  rcases oc h with ⟨hc, h⟩ | ⟨hc, h⟩
  · refine WPr.kb 5 hc rfl (WPr.silx [] ⟨[(2, .O true)], [], [], 0⟩ htt 8 (by kernel_rfl) (WPr.nil (?_)))
    cases h
    exact WP.ret htt Tryz.func174 [] rfl rfl rfl rfl
  refine WPr.kb 5 hc rfl (WPr.sil htt 1 rfl (?_))
  obtain ⟨x2, hx2, h⟩ := ob h
  refine WPr.call (z186_ct N c_ _ hx2) [] [] rfl rfl rfl rfl rfl rfl rfl rfl (.inl rfl) rfl (WPr.silx [7, 8, 9, 10] ⟨[(0, .c (.i .u8 c_)), (9, .O x2)], [], [], 0⟩ htt 2 (by kernel_rfl) (?_))
  rcases oc h with ⟨hc, h⟩ | ⟨hc, h⟩
  · refine WPr.kb 9 hc rfl (WPr.silx [] ⟨[(2, .O true)], [], [], 0⟩ htt 4 (by kernel_rfl) (WPr.nil (?_)))
    cases h
    exact WP.ret htt Tryz.func174 [] rfl rfl rfl rfl
  refine WPr.kb 9 hc rfl (WPr.silx [] ⟨[(2, .O (c_ == (95 : Int)))], [], [], 0⟩ htt 4 (by kernel_rfl) (WPr.nil (?_)))
  cases h
  exact WP.ret htt Tryz.func174 [] rfl rfl rfl rfl
theorem z157_ct (N : Nat) (s_ : ByteArray) (r : Bool) (h : z157 N s_ = some r) :
  Fn Tryz.prog 157 ⟨0, [.c (.s s_)], [], [], 0, .O r, [], []⟩ := by
  refine Fn.intro _ _ Tryz.func157 rfl (by kernel_rfl) rfl (fun E F w => ?_)
  unfold z157 at h
  refine WP.seq (WP.region (WPr.sil htt 1 rfl (WPr.nil (WP.seq (WP.seq (WP.region (WPr.silx (rg 3 10) ⟨[(0, .c (.s s_)), (2, .O false), (6, .O (s_.toList == (str []).toList))], [], [], 0⟩ htt 3 (by kernel_rfl) (?_))))))))
  rcases oc h with ⟨hc, h⟩ | ⟨hc, h⟩
  · refine WPr.kb 6 hc rfl (WPr.silx [] ⟨[(0, .c (.s s_)), (2, .O false), (16, .O true)], [], [], 0⟩ htt 10 (by kernel_rfl) (WPr.nil (WP.condT rfl rfl (WP.seq (WP.region (WPr.sil htt 1 rfl (WPr.nil (?_))))))))
    cases h
    exact WP.ret htt Tryz.func157 [] rfl rfl rfl rfl
  refine WPr.kb 6 hc rfl (WPr.silx [8, 9, 10, 11, 12] ⟨[(0, .c (.s s_)), (2, .O false), (11, .O (decide ((s_.size : Int) > (16 : Int))))], [], [], 0⟩ htt 5 (by kernel_rfl) (?_))
  rcases oc h with ⟨hc, h⟩ | ⟨hc, h⟩
  · refine WPr.kb 11 hc rfl (WPr.silx [] ⟨[(0, .c (.s s_)), (2, .O false), (16, .O true)], [], [], 0⟩ htt 5 (by kernel_rfl) (WPr.nil (WP.condT rfl rfl (WP.seq (WP.region (WPr.sil htt 1 rfl (WPr.nil (?_))))))))
    cases h
    exact WP.ret htt Tryz.func157 [] rfl rfl rfl rfl
  refine WPr.kb 11 hc rfl (WPr.sil htt 1 rfl (?_))
  obtain ⟨x1, hx1, h⟩ := ob h
  refine WPr.sx htt hx1 rfl rfl rfl rfl rfl rfl rfl rfl rfl (?_)
  obtain ⟨x2, hx2, h⟩ := ob h
  refine WPr.call (z173_ct N x1 _ hx2) [] [] rfl rfl rfl rfl rfl rfl rfl rfl (.inl rfl) rfl (WPr.silx [] ⟨[(0, .c (.s s_)), (2, .O false), (16, .O (!x2))], [], [], 0⟩ htt 2 (by kernel_rfl) (WPr.nil (?_)))
  rcases oc h with ⟨hc, h⟩ | ⟨hc, h⟩
  · refine WP.condT hc rfl (WP.seq (WP.region (WPr.sil htt 1 rfl (WPr.nil (?_)))))
    cases h
    exact WP.ret htt Tryz.func157 [] rfl rfl rfl rfl
  refine WP.condF hc rfl (WP.skip (WP.seq (WP.seq (WP.region (WPr.silx [] ⟨[(0, .c (.s s_)), (2, .O false), (18, .I (s_.size : Int)), (19, .I (0 : Int))], [], [], 0⟩ htt 3 (by kernel_rfl) (WPr.nil (?_)))))))
  refine WP.cut (σ := Unit) (fun st => ⟨[], [], [], 0⟩) (fun st => z157_k1 = some r) ?_ (fun j1 => ?_)
  · intro _ h
    replace h : z157_k1 = some r := h
    unfold z157_k1 at h
    refine WP.seq (WP.region (WPr.sil htt 1 rfl (WPr.nil (?_))))
    cases h
    exact WP.ret htt Tryz.func157 [] rfl rfl rfl rfl
  refine WP.block (?_)
  refine WP.loopI (σ := Int) (fun st => ⟨[(0, .c (.s s_)), (18, .I (s_.size : Int)), (19, .I st)], [], [], 0⟩) (fun n st => z157_l2 N s_ n st) (r := r) (fun _ => rfl) ?_ (fun ih => ?_)
  · intro n2 ih3
    intro v19_3 h
    replace h : z157_l2 N s_ (n2 + 1) v19_3 = some r := h
    unfold z157_l2 at h
    refine WP.seq (WP.region (WPr.sil htt 1 rfl (WPr.nil (WP.seq (?_)))))
    rcases oc' h with ⟨hc, h⟩ | ⟨hc, h⟩
    · exact WP.condF hc rfl (WP.exit rfl (WP.sub [] (j1 () h) rfl rfl rfl rfl))
    refine WP.condT hc rfl (WP.skip (WP.seq (WP.block (WP.seq (WP.region (WPr.silx [] ⟨[(0, .c (.s s_)), (3, .I v19_3), (18, .I (s_.size : Int)), (19, .I v19_3)], [], [], 0⟩ htt 2 (by kernel_rfl) (WPr.nil (WP.seq (WP.region (WPr.sil htt 2 rfl (?_)))))))))))
    obtain ⟨x19, hx19, h⟩ := ob h
    refine WPr.sx htt hx19 rfl rfl rfl rfl rfl rfl rfl rfl rfl (WPr.silx [3, 4] ⟨[(0, .c (.s s_)), (18, .I (s_.size : Int)), (19, .I v19_3), (24, .c (.i .u8 x19))], [], [], 0⟩ htt 0 (by kernel_rfl) (?_))
    obtain ⟨x20, hx20, h⟩ := ob h
    refine WPr.call (z174_ct N x19 _ hx20) [] [] rfl rfl rfl rfl rfl rfl rfl rfl (.inl rfl) rfl (WPr.silx [] ⟨[(0, .c (.s s_)), (18, .I (s_.size : Int)), (19, .I v19_3), (26, .O (!x20))], [], [], 0⟩ htt 1 (by kernel_rfl) (WPr.nil (?_)))
    rcases oc h with ⟨hc, h⟩ | ⟨hc, h⟩
    · refine WP.condT hc rfl (WP.seq (WP.region (WPr.sil htt 1 rfl (WPr.nil (?_)))))
      cases h
      exact WP.ret htt Tryz.func157 [] rfl rfl rfl rfl
    exact WP.condF hc rfl (WP.skip (WP.inBlock (WP.region (WPr.sil htt 2 rfl (WPr.nil (WP.sub [] (ih3 (w64 (v19_3 + (1 : Int))) h) rfl rfl rfl rfl))))))
  exact WP.sub [] (ih N (0 : Int) h) rfl rfl rfl rfl
theorem z75_ct (N : Nat) (s_ : (List ByteArray)) (v_ : ByteArray) (r : Int) (h : z75 N s_ v_ = some r) :
  Fn Tryz.prog 75 ⟨1, [.S 0, .c (.s v_)], [(0, .sl rS s_)], [], 1, .I r, [], []⟩ := by
  refine Fn.intro _ _ Tryz.func75 rfl (by kernel_rfl) rfl (fun E F w => ?_)
  unfold z75 at h
  refine WP.seq (WP.region (WPr.sil htt 1 rfl (WPr.nil (WP.seq (WP.seq (WP.region (WPr.silx [] ⟨[(0, .S 0), (1, .c (.s v_)), (4, .I (0 : Int)), (7, .I (s_.length : Int)), (8, .I (0 : Int))], [], [(0, .sl rS s_)], 1⟩ htt 3 (by kernel_rfl) (WPr.nil (?_)))))))))
  refine WP.cut (σ := Unit) (fun st => ⟨[], [], [(0, .sl rS s_)], 1⟩) (fun st => z75_k1 = some r) ?_ (fun j1 => ?_)
  · intro _ h
    replace h : z75_k1 = some r := h
    unfold z75_k1 at h
    refine WP.seq (WP.region (WPr.sil htt 1 rfl (WPr.nil (?_))))
    cases h
    exact WP.ret htt Tryz.func75 [] rfl rfl rfl rfl
  refine WP.block (?_)
  refine WP.loopI (σ := Int) (fun st => ⟨[(0, .S 0), (1, .c (.s v_)), (7, .I (s_.length : Int)), (8, .I st)], [], [(0, .sl rS s_)], 1⟩) (fun n st => z75_l2 s_ v_ n st) (r := r) (fun _ => rfl) ?_ (fun ih => ?_)
  · intro n2 ih3
    intro v8_3 h
    replace h : z75_l2 s_ v_ (n2 + 1) v8_3 = some r := h
    unfold z75_l2 at h
    refine WP.seq (WP.region (WPr.sil htt 1 rfl (WPr.nil (WP.seq (?_)))))
    rcases oc' h with ⟨hc, h⟩ | ⟨hc, h⟩
    · exact WP.condF hc rfl (WP.exit rfl (WP.sub [] (j1 () h) rfl rfl rfl rfl))
    refine WP.condT hc rfl (WP.skip (WP.seq (WP.block (WP.seq (WP.region (WPr.silx [] ⟨[(0, .S 0), (1, .c (.s v_)), (5, .I v8_3), (7, .I (s_.length : Int)), (8, .I v8_3)], [], [(0, .sl rS s_)], 1⟩ htt 2 (by kernel_rfl) (WPr.nil (WP.seq (WP.region (WPr.silx [3, 4, 5] ⟨[(0, .S 0), (1, .c (.s v_)), (5, .I v8_3), (7, .I (s_.length : Int)), (8, .I v8_3), (11, .c (.s v_)), (12, .S 0), (13, .I v8_3)], [], [(0, .sl rS s_)], 1⟩ htt 3 (by kernel_rfl) (?_)))))))))))
    obtain ⟨x9, hx9, h⟩ := ob h
    refine WPr.ix oS htt hx9 rfl rfl rfl rfl rfl rfl rfl rfl rfl (WPr.silx [] ⟨[(0, .S 0), (1, .c (.s v_)), (5, .I v8_3), (7, .I (s_.length : Int)), (8, .I v8_3), (16, .O (v_.toList == x9.toList))], [], [(0, .sl rS s_)], 2⟩ htt 2 (by kernel_rfl) (WPr.nil (?_)))
    rcases oc h with ⟨hc, h⟩ | ⟨hc, h⟩
    · refine WP.condT hc rfl (WP.seq (WP.region (WPr.sil htt 2 rfl (WPr.nil (?_)))))
      cases h
      exact WP.ret htt Tryz.func75 [] rfl rfl rfl rfl
    exact WP.condF hc rfl (WP.skip (WP.inBlock (WP.region (WPr.sil htt 2 rfl (WPr.nil (WP.sub [] (ih3 (w64 (v8_3 + (1 : Int))) h) rfl rfl rfl rfl))))))
  exact WP.sub [] (ih N (0 : Int) h) rfl rfl rfl rfl
theorem z121_ct (N : Nat) (s_ : (List ByteArray)) (v_ : ByteArray) (r : Bool) (h : z121 N s_ v_ = some r) :
  Fn Tryz.prog 121 ⟨1, [.S 0, .c (.s v_)], [(0, .sl rS s_)], [], 1, .O r, [], []⟩ := by
  refine Fn.intro _ _ Tryz.func121 rfl (by kernel_rfl) rfl (fun E F w => ?_)
  unfold z121 at h
  refine WP.seq (WP.region (WPr.sil htt 1 rfl (WPr.nil (WP.seq (WP.region (WPr.silx [2, 3, 4] ⟨[(5, .S 0), (6, .c (.s v_))], [], [(0, .sl rS s_)], 1⟩ htt 2 (by kernel_rfl) (?_)))))))
  obtain ⟨x1, hx1, h⟩ := ob h
  refine WPr.call (z75_ct N s_ v_ _ hx1) [(0, .sl 0)] [] rfl rfl rfl rfl rfl rfl rfl rfl (.inl rfl) rfl (WPr.silx [] ⟨[(4, .O (decide (x1 ≥ (0 : Int))))], [], [(0, .sl rS s_)], 1⟩ htt 2 (by kernel_rfl) (WPr.nil (?_)))
  cases h
  exact WP.ret htt Tryz.func121 [] rfl rfl rfl rfl
theorem z120_ct (N : Nat) (s_ : ByteArray) (r : Bool) (h : z120 N s_ = some r) :
  Fn Tryz.prog 120 ⟨0, [.c (.s s_)], [], [], 0, .O r, [], []⟩ := by
  refine Fn.intro _ _ Tryz.func120 rfl (by kernel_rfl) rfl (fun E F w => ?_)
  unfold z120 at h
  refine WP.seq (WP.region (WPr.sil htt 1 rfl (WPr.nil (WP.seq (WP.region (WPr.silx [] ⟨[(0, .c (.s s_)), (2, .O false), (3, .B 0 0)], [(0, .box [.s (str [97, 103, 97, 105, 110]), .s (str [97, 110, 100]), .s (str [97, 115]), .s (str [97, 116]), .s (str [99, 97, 108, 108]), .s (str [99, 104, 111, 105, 99, 101]), .s (str [101, 108, 115, 101]), .s (str [102, 114, 111, 109]), .s (str [105, 102]), .s (str [105, 110, 116]), .s (str [108, 101, 110]), .s (str [108, 111, 111, 112]), .s (str [109, 101, 115, 115, 97, 103, 101]), .s (str [111, 102]), .s (str [111, 102, 102, 101, 114]), .s (str [111, 110]), .s (str [111, 114]), .s (str [112, 97, 114]), .s (str [112, 108, 97, 121, 115]), .s (str [112, 114, 111, 116, 111, 99, 111, 108]), .s (str [115, 101, 114, 118, 105, 99, 101]), .s (str [116, 101, 120, 116]), .s (str [116, 105, 109, 101, 115]), .s (str [116, 111]), .s (str [118, 97, 114]), .s (str [119, 104, 101, 114, 101]), .s (str [119, 104, 105, 108, 101]), .s (str [119, 105, 116, 104, 105, 110])] 180)], [], 1⟩ htt 3 (by kernel_rfl) (WPr.nil (WP.seq (WP.region (WPr.sil htt 1 rfl (?_)))))))))))
  obtain ⟨x1, hx1, h⟩ := ob h
  refine WPr.call (z157_ct N s_ _ hx1) [] [] rfl rfl rfl rfl rfl rfl rfl rfl (.inl rfl) rfl (WPr.silx (rg 3 6) ⟨[(0, .c (.s s_)), (3, .B 0 0), (7, .O x1)], [(0, .box [.s (str [97, 103, 97, 105, 110]), .s (str [97, 110, 100]), .s (str [97, 115]), .s (str [97, 116]), .s (str [99, 97, 108, 108]), .s (str [99, 104, 111, 105, 99, 101]), .s (str [101, 108, 115, 101]), .s (str [102, 114, 111, 109]), .s (str [105, 102]), .s (str [105, 110, 116]), .s (str [108, 101, 110]), .s (str [108, 111, 111, 112]), .s (str [109, 101, 115, 115, 97, 103, 101]), .s (str [111, 102]), .s (str [111, 102, 102, 101, 114]), .s (str [111, 110]), .s (str [111, 114]), .s (str [112, 97, 114]), .s (str [112, 108, 97, 121, 115]), .s (str [112, 114, 111, 116, 111, 99, 111, 108]), .s (str [115, 101, 114, 118, 105, 99, 101]), .s (str [116, 101, 120, 116]), .s (str [116, 105, 109, 101, 115]), .s (str [116, 111]), .s (str [118, 97, 114]), .s (str [119, 104, 101, 114, 101]), .s (str [119, 104, 105, 108, 101]), .s (str [119, 105, 116, 104, 105, 110])] 180)], [], 1⟩ htt 1 (by kernel_rfl) (?_))
  rcases oc' h with ⟨hc, h⟩ | ⟨hc, h⟩
  · refine WPr.kb 7 hc rfl (WPr.silx [] ⟨[(2, .O false)], [], [], 1⟩ htt 6 (by kernel_rfl) (WPr.nil (?_)))
    cases h
    exact WP.ret htt Tryz.func120 [] rfl rfl rfl rfl
  refine WPr.kb 7 hc rfl (WPr.slb (len := 28) (el := 9) oS ([(str [97, 103, 97, 105, 110]), (str [97, 110, 100]), (str [97, 115]), (str [97, 116]), (str [99, 97, 108, 108]), (str [99, 104, 111, 105, 99, 101]), (str [101, 108, 115, 101]), (str [102, 114, 111, 109]), (str [105, 102]), (str [105, 110, 116]), (str [108, 101, 110]), (str [108, 111, 111, 112]), (str [109, 101, 115, 115, 97, 103, 101]), (str [111, 102]), (str [111, 102, 102, 101, 114]), (str [111, 110]), (str [111, 114]), (str [112, 97, 114]), (str [112, 108, 97, 121, 115]), (str [112, 114, 111, 116, 111, 99, 111, 108]), (str [115, 101, 114, 118, 105, 99, 101]), (str [116, 101, 120, 116]), (str [116, 105, 109, 101, 115]), (str [116, 111]), (str [118, 97, 114]), (str [119, 104, 101, 114, 101]), (str [119, 104, 105, 108, 101]), (str [119, 105, 116, 104, 105, 110])] : List ByteArray) (by exact (an rfl (an rfl (an rfl (an rfl (an rfl (an rfl (an rfl (an rfl (an rfl (an rfl (an rfl (an rfl (an rfl (an rfl (an rfl (an rfl (an rfl (an rfl (an rfl (an rfl (an rfl (an rfl (an rfl (an rfl (an rfl (an rfl (an rfl (an rfl rfl))))))))))))))))))))))))))))) rfl rfl rfl rfl (by kernel_rfl) (by kernel_rfl) rfl rfl rfl (WPr.sil htt 1 rfl (?_)))
  obtain ⟨x2, hx2, h⟩ := ob h
  refine WPr.call (z121_ct N ([(str [97, 103, 97, 105, 110]), (str [97, 110, 100]), (str [97, 115]), (str [97, 116]), (str [99, 97, 108, 108]), (str [99, 104, 111, 105, 99, 101]), (str [101, 108, 115, 101]), (str [102, 114, 111, 109]), (str [105, 102]), (str [105, 110, 116]), (str [108, 101, 110]), (str [108, 111, 111, 112]), (str [109, 101, 115, 115, 97, 103, 101]), (str [111, 102]), (str [111, 102, 102, 101, 114]), (str [111, 110]), (str [111, 114]), (str [112, 97, 114]), (str [112, 108, 97, 121, 115]), (str [112, 114, 111, 116, 111, 99, 111, 108]), (str [115, 101, 114, 118, 105, 99, 101]), (str [116, 101, 120, 116]), (str [116, 105, 109, 101, 115]), (str [116, 111]), (str [118, 97, 114]), (str [119, 104, 101, 114, 101]), (str [119, 104, 105, 108, 101]), (str [119, 105, 116, 104, 105, 110])] : List ByteArray) s_ _ hx2) [(0, .sl 1)] [1] rfl rfl rfl rfl rfl rfl rfl rfl (.inr ⟨rfl, trivial⟩) rfl (WPr.silx [] ⟨[(2, .O (!x2))], [], [], 2⟩ htt 3 (by kernel_rfl) (WPr.nil (?_)))
  cases h
  exact WP.ret htt Tryz.func120 [] rfl rfl rfl rfl
theorem z61_ct (N : Nat) (g_ : T4) (r : Bool) (h : z61 N g_ = some r) :
  Fn Tryz.prog 61 ⟨4, [.a (cC4 0 1 2 3 g_)], (vV4 0 1 2 3 g_ []), [], 4, .O r, [], []⟩ := by
  refine Fn.intro _ _ Tryz.func61 rfl (by kernel_rfl) rfl (fun E F w => ?_)
  unfold z61 at h
  refine WP.seq (WP.region (WPr.sil htt 2 rfl (WPr.nil (WP.seq (WP.seq (WP.region (WPr.silx (rg 2 14) ⟨[(1, .B 4 0), (2, .O false), (6, .c (.s g_.Name))], [(4, .box (cC4 0 1 2 3 g_) 27)], (vV4 0 1 2 3 g_ []), 5⟩ htt 2 (by kernel_rfl) (?_))))))))
  obtain ⟨x1, hx1, h⟩ := ob h
  refine WPr.call (z120_ct N g_.Name _ hx1) [] [] rfl rfl rfl rfl rfl rfl rfl rfl (.inl rfl) rfl (WPr.silx (rg 5 11) ⟨[(1, .B 4 0), (2, .O false), (9, .O (!x1))], [(4, .box (cC4 0 1 2 3 g_) 27)], (vV4 0 1 2 3 g_ []), 5⟩ htt 2 (by kernel_rfl) (?_))
  rcases oc h with ⟨hc, h⟩ | ⟨hc, h⟩
  · refine WPr.kb 9 hc rfl (WPr.silx [] ⟨[(1, .B 4 0), (2, .O false), (20, .O true)], [(4, .box (cC4 0 1 2 3 g_) 27)], (vV4 0 1 2 3 g_ []), 5⟩ htt 11 (by kernel_rfl) (WPr.nil (WP.condT rfl rfl (WP.seq (WP.region (WPr.sil htt 1 rfl (WPr.nil (?_))))))))
    cases h
    exact WP.ret htt Tryz.func61 [] rfl rfl rfl rfl
  refine WPr.kb 9 hc rfl (WPr.silx [11, 12, 13, 14, 15] ⟨[(1, .B 4 0), (2, .O false), (15, .O (decide ((g_.Roles.length : Int) < (1 : Int))))], [(4, .box (cC4 0 1 2 3 g_) 27)], (vV4 0 1 2 3 g_ []), 5⟩ htt 6 (by kernel_rfl) (?_))
  rcases oc h with ⟨hc, h⟩ | ⟨hc, h⟩
  · refine WPr.kb 15 hc rfl (WPr.silx [] ⟨[(1, .B 4 0), (2, .O false), (20, .O true)], [(4, .box (cC4 0 1 2 3 g_) 27)], (vV4 0 1 2 3 g_ []), 5⟩ htt 5 (by kernel_rfl) (WPr.nil (WP.condT rfl rfl (WP.seq (WP.region (WPr.sil htt 1 rfl (WPr.nil (?_))))))))
    cases h
    exact WP.ret htt Tryz.func61 [] rfl rfl rfl rfl
  refine WPr.kb 15 hc rfl (WPr.silx [] ⟨[(1, .B 4 0), (2, .O false), (20, .O (decide ((g_.Roles.length : Int) > (6 : Int))))], [(4, .box (cC4 0 1 2 3 g_) 27)], (vV4 0 1 2 3 g_ []), 5⟩ htt 5 (by kernel_rfl) (WPr.nil (?_)))
  rcases oc h with ⟨hc, h⟩ | ⟨hc, h⟩
  · refine WP.condT hc rfl (WP.seq (WP.region (WPr.sil htt 1 rfl (WPr.nil (?_)))))
    cases h
    exact WP.ret htt Tryz.func61 [] rfl rfl rfl rfl
  refine WP.condF hc rfl (WP.skip (WP.seq (WP.seq (WP.region (WPr.silx [] ⟨[(1, .B 4 0), (2, .O false), (22, .S 0), (23, .I (g_.Roles.length : Int)), (24, .I (0 : Int))], [(4, .box (cC4 0 1 2 3 g_) 27)], (vV4 0 1 2 3 g_ []), 5⟩ htt 4 (by kernel_rfl) (WPr.nil (?_)))))))
  refine WP.cut (σ := Unit) (fun st => ⟨[], [], (vV4 0 1 2 3 g_ []), 5⟩) (fun st => z61_k1 = some r) ?_ (fun j1 => ?_)
  · intro _ h
    replace h : z61_k1 = some r := h
    unfold z61_k1 at h
    refine WP.seq (WP.region (WPr.sil htt 1 rfl (WPr.nil (?_))))
    cases h
    exact WP.ret htt Tryz.func61 [] rfl rfl rfl rfl
  refine WP.block (?_)
  refine WP.loopI (σ := Int) (fun st => ⟨[(1, .B 4 0), (22, .S 0), (23, .I (g_.Roles.length : Int)), (24, .I st)], [(4, .box (cC4 0 1 2 3 g_) 27)], (vV4 0 1 2 3 g_ []), 5⟩) (fun n st => z61_l2 N g_ n st) (r := r) (fun _ => rfl) ?_ (fun ih => ?_)
  · intro n2 ih3
    intro v24_3 h
    replace h : z61_l2 N g_ (n2 + 1) v24_3 = some r := h
    unfold z61_l2 at h
    refine WP.seq (WP.region (WPr.sil htt 1 rfl (WPr.nil (WP.seq (?_)))))
    rcases oc' h with ⟨hc, h⟩ | ⟨hc, h⟩
    · exact WP.condF hc rfl (WP.exit rfl (WP.sub [] (j1 () h) rfl rfl rfl rfl))
    refine WP.condT hc rfl (WP.skip (WP.seq (WP.block (WP.seq (WP.region (WPr.sil htt 1 rfl (?_)))))))
    obtain ⟨x34, hx34, h⟩ := ob h
    refine WPr.ix oS htt hx34 rfl rfl rfl rfl rfl rfl rfl rfl rfl (WPr.silx [] ⟨[(1, .B 4 0), (3, .I v24_3), (4, .c (.s x34)), (22, .S 0), (23, .I (g_.Roles.length : Int)), (24, .I v24_3)], [(4, .box (cC4 0 1 2 3 g_) 27)], (vV4 0 1 2 3 g_ []), 6⟩ htt 3 (by kernel_rfl) (WPr.nil (WP.seq (WP.region (WPr.sil htt 1 rfl (?_))))))
    obtain ⟨x35, hx35, h⟩ := ob h
    refine WPr.call (z120_ct N x34 _ hx35) [] [] rfl rfl rfl rfl rfl rfl rfl rfl (.inl rfl) rfl (WPr.silx (rg 4 7) ⟨[(1, .B 4 0), (3, .I v24_3), (4, .c (.s x34)), (22, .S 0), (23, .I (g_.Roles.length : Int)), (24, .I v24_3), (32, .O (!x35))], [(4, .box (cC4 0 1 2 3 g_) 27)], (vV4 0 1 2 3 g_ []), 6⟩ htt 2 (by kernel_rfl) (?_))
    rcases oc h with ⟨hc, h⟩ | ⟨hc, h⟩
    · refine WPr.kb 32 hc rfl (WPr.silx [] ⟨[(1, .B 4 0), (22, .S 0), (23, .I (g_.Roles.length : Int)), (24, .I v24_3), (39, .O true)], [(4, .box (cC4 0 1 2 3 g_) 27)], (vV4 0 1 2 3 g_ []), 6⟩ htt 7 (by kernel_rfl) (WPr.nil (WP.condT rfl rfl (WP.seq (WP.region (WPr.sil htt 1 rfl (WPr.nil (?_))))))))
      cases h
      exact WP.ret htt Tryz.func61 [] rfl rfl rfl rfl
    refine WPr.kb 32 hc rfl (WPr.silx [7, 8, 9, 10] ⟨[(1, .B 4 0), (4, .c (.s x34)), (22, .S 0), (23, .I (g_.Roles.length : Int)), (24, .I v24_3), (32, .O false), (34, .S 0), (35, .I v24_3)], [(4, .box (cC4 0 1 2 3 g_) 27)], (vV4 0 1 2 3 g_ []), 6⟩ htt 3 (by kernel_rfl) (?_))
    obtain ⟨x36, hx36, h⟩ := ob h
    refine WPr.isl htt (l := none) (h := some (.i64, v24_3)) hx36 rfl rfl rfl rfl rfl rfl rfl rfl rfl rfl (WPr.sil htt 1 rfl (?_))
    obtain ⟨x37, hx37, h⟩ := ob h
    refine WPr.call (z121_ct N x36 x34 _ hx37) [(0, .sl 6)] [] rfl rfl rfl rfl rfl rfl rfl rfl (.inl rfl) rfl (WPr.silx [] ⟨[(1, .B 4 0), (22, .S 0), (23, .I (g_.Roles.length : Int)), (24, .I v24_3), (39, .O x37)], [(4, .box (cC4 0 1 2 3 g_) 27)], (vV4 0 1 2 3 g_ []), 7⟩ htt 1 (by kernel_rfl) (WPr.nil (?_)))
    rcases oc h with ⟨hc, h⟩ | ⟨hc, h⟩
    · refine WP.condT hc rfl (WP.seq (WP.region (WPr.sil htt 1 rfl (WPr.nil (?_)))))
      cases h
      exact WP.ret htt Tryz.func61 [] rfl rfl rfl rfl
    exact WP.condF hc rfl (WP.skip (WP.inBlock (WP.region (WPr.sil htt 2 rfl (WPr.nil (WP.sub [] (ih3 (w64 (v24_3 + (1 : Int))) h) rfl rfl rfl rfl))))))
  exact WP.sub [] (ih N (0 : Int) h) rfl rfl rfl rfl
theorem z62_ct (N : Nat) (g_ : T4) (r : Bool) (h : z62 N g_ = some r) :
  Fn Tryz.prog 62 ⟨4, [.a (cC4 0 1 2 3 g_)], (vV4 0 1 2 3 g_ []), [], 4, .O r, [], []⟩ := by
  refine Fn.intro _ _ Tryz.func62 rfl (by kernel_rfl) rfl (fun E F w => ?_)
  unfold z62 at h
  refine WP.seq (WP.region (WPr.sil htt 2 rfl (WPr.nil (WP.seq (WP.seq (WP.region (WPr.silx (rg 4 28) ⟨[(1, .B 4 0), (2, .O false), (9, .O (decide (g_.States < (1 : Int))))], [(4, .box (cC4 0 1 2 3 g_) 27)], (vV4 0 1 2 3 g_ []), 5⟩ htt 4 (by kernel_rfl) (?_))))))))
  rcases oc h with ⟨hc, h⟩ | ⟨hc, h⟩
  · refine WPr.kb 9 hc rfl (WPr.silx [] ⟨[(1, .B 4 0), (2, .O false), (37, .O true)], [(4, .box (cC4 0 1 2 3 g_) 27)], (vV4 0 1 2 3 g_ []), 5⟩ htt 28 (by kernel_rfl) (WPr.nil (WP.condT rfl rfl (WP.seq (WP.region (WPr.sil htt 1 rfl (WPr.nil (?_))))))))
    cases h
    exact WP.ret htt Tryz.func62 [] rfl rfl rfl rfl
  refine WPr.kb 9 hc rfl (WPr.silx (rg 9 23) ⟨[(1, .B 4 0), (2, .O false), (14, .O (decide (g_.States > (200 : Int))))], [(4, .box (cC4 0 1 2 3 g_) 27)], (vV4 0 1 2 3 g_ []), 5⟩ htt 5 (by kernel_rfl) (?_))
  rcases oc h with ⟨hc, h⟩ | ⟨hc, h⟩
  · refine WPr.kb 14 hc rfl (WPr.silx [] ⟨[(1, .B 4 0), (2, .O false), (37, .O true)], [(4, .box (cC4 0 1 2 3 g_) 27)], (vV4 0 1 2 3 g_ []), 5⟩ htt 23 (by kernel_rfl) (WPr.nil (WP.condT rfl rfl (WP.seq (WP.region (WPr.sil htt 1 rfl (WPr.nil (?_))))))))
    cases h
    exact WP.ret htt Tryz.func62 [] rfl rfl rfl rfl
  refine WPr.kb 14 hc rfl (WPr.silx (rg 17 15) ⟨[(1, .B 4 0), (2, .O false), (22, .O (decide ((minI g_.Start g_.End) < (0 : Int))))], [(4, .box (cC4 0 1 2 3 g_) 27)], (vV4 0 1 2 3 g_ []), 5⟩ htt 8 (by kernel_rfl) (?_))
  rcases oc h with ⟨hc, h⟩ | ⟨hc, h⟩
  · refine WPr.kb 22 hc rfl (WPr.silx [] ⟨[(1, .B 4 0), (2, .O false), (37, .O true)], [(4, .box (cC4 0 1 2 3 g_) 27)], (vV4 0 1 2 3 g_ []), 5⟩ htt 15 (by kernel_rfl) (WPr.nil (WP.condT rfl rfl (WP.seq (WP.region (WPr.sil htt 1 rfl (WPr.nil (?_))))))))
    cases h
    exact WP.ret htt Tryz.func62 [] rfl rfl rfl rfl
  refine WPr.kb 22 hc rfl (WPr.silx [27, 28, 29, 30, 31] ⟨[(1, .B 4 0), (2, .O false), (32, .O (decide ((maxI g_.Start g_.End) ≥ g_.States)))], [(4, .box (cC4 0 1 2 3 g_) 27)], (vV4 0 1 2 3 g_ []), 5⟩ htt 10 (by kernel_rfl) (?_))
  rcases oc h with ⟨hc, h⟩ | ⟨hc, h⟩
  · refine WPr.kb 32 hc rfl (WPr.silx [] ⟨[(1, .B 4 0), (2, .O false), (37, .O true)], [(4, .box (cC4 0 1 2 3 g_) 27)], (vV4 0 1 2 3 g_ []), 5⟩ htt 5 (by kernel_rfl) (WPr.nil (WP.condT rfl rfl (WP.seq (WP.region (WPr.sil htt 1 rfl (WPr.nil (?_))))))))
    cases h
    exact WP.ret htt Tryz.func62 [] rfl rfl rfl rfl
  refine WPr.kb 32 hc rfl (WPr.silx [] ⟨[(1, .B 4 0), (2, .O false), (37, .O (decide ((g_.Edges.length : Int) > (400 : Int))))], [(4, .box (cC4 0 1 2 3 g_) 27)], (vV4 0 1 2 3 g_ []), 5⟩ htt 5 (by kernel_rfl) (WPr.nil (?_)))
  rcases oc h with ⟨hc, h⟩ | ⟨hc, h⟩
  · refine WP.condT hc rfl (WP.seq (WP.region (WPr.sil htt 1 rfl (WPr.nil (?_)))))
    cases h
    exact WP.ret htt Tryz.func62 [] rfl rfl rfl rfl
  refine WP.condF hc rfl (WP.skip (WP.seq (WP.seq (WP.region (WPr.silx [] ⟨[(1, .B 4 0), (2, .O false), (39, .S 2), (40, .I (g_.Edges.length : Int)), (41, .I (0 : Int))], [(4, .box (cC4 0 1 2 3 g_) 27)], (vV4 0 1 2 3 g_ []), 5⟩ htt 4 (by kernel_rfl) (WPr.nil (?_)))))))
  refine WP.cut (σ := Unit) (fun st => ⟨[], [], (vV4 0 1 2 3 g_ []), 5⟩) (fun st => z62_k1 = some r) ?_ (fun j1 => ?_)
  · intro _ h
    replace h : z62_k1 = some r := h
    unfold z62_k1 at h
    refine WP.seq (WP.region (WPr.sil htt 1 rfl (WPr.nil (?_))))
    cases h
    exact WP.ret htt Tryz.func62 [] rfl rfl rfl rfl
  refine WP.block (?_)
  refine WP.loopI (σ := Int) (fun st => ⟨[(1, .B 4 0), (39, .S 2), (40, .I (g_.Edges.length : Int)), (41, .I st)], [(4, .box (cC4 0 1 2 3 g_) 27)], (vV4 0 1 2 3 g_ []), 5⟩) (fun n st => z62_l2 g_ n st) (r := r) (fun _ => rfl) ?_ (fun ih => ?_)
  · intro n2 ih3
    intro v41_3 h
    replace h : z62_l2 g_ (n2 + 1) v41_3 = some r := h
    unfold z62_l2 at h
    refine WP.seq (WP.region (WPr.sil htt 1 rfl (WPr.nil (WP.seq (?_)))))
    rcases oc' h with ⟨hc, h⟩ | ⟨hc, h⟩
    · exact WP.condF hc rfl (WP.exit rfl (WP.sub [] (j1 () h) rfl rfl rfl rfl))
    refine WP.condT hc rfl (WP.skip (WP.seq (WP.block (WP.seq (WP.region (?_))))))
    obtain ⟨x9, hx9, h⟩ := ob h
    refine WPr.ix oO2 htt hx9 rfl rfl rfl rfl rfl rfl rfl rfl rfl (WPr.silx [] ⟨[(1, .B 4 0), (4, .B 6 0), (39, .S 2), (40, .I (g_.Edges.length : Int)), (41, .I v41_3)], [(4, .box (cC4 0 1 2 3 g_) 27), (6, .box (cC2 x9) 43)], (vV4 0 1 2 3 g_ []), 7⟩ htt 3 (by kernel_rfl) (WPr.nil (WP.seq (WP.region (WPr.silx [] ⟨[(1, .B 4 0), (4, .B 6 0), (5, .B 7 0), (39, .S 2), (40, .I (g_.Edges.length : Int)), (41, .I v41_3)], [(4, .box (cC4 0 1 2 3 g_) 27), (6, .box (cC2 x9) 43), (7, .box (cC6 x9.Act) 37)], (vV4 0 1 2 3 g_ []), 8⟩ htt 4 (by kernel_rfl) (WPr.nil (WP.seq (WP.region (WPr.silx (rg 13 35) ⟨[(1, .B 4 0), (4, .B 6 0), (5, .B 7 0), (39, .S 2), (40, .I (g_.Edges.length : Int)), (41, .I v41_3), (59, .O (decide ((minI (minI (minI (minI x9.From x9.To) x9.Act.From) x9.Act.To) x9.Act.Label) < (0 : Int))))], [(4, .box (cC4 0 1 2 3 g_) 27), (6, .box (cC2 x9) 43), (7, .box (cC6 x9.Act) 37)], (vV4 0 1 2 3 g_ []), 8⟩ htt 13 (by kernel_rfl) (?_))))))))))
    rcases oc h with ⟨hc, h⟩ | ⟨hc, h⟩
    · refine WPr.kb 59 hc rfl (WPr.silx [] ⟨[(1, .B 4 0), (39, .S 2), (40, .I (g_.Edges.length : Int)), (41, .I v41_3), (94, .O true)], [(4, .box (cC4 0 1 2 3 g_) 27)], (vV4 0 1 2 3 g_ []), 8⟩ htt 35 (by kernel_rfl) (WPr.nil (WP.condT rfl rfl (WP.seq (WP.region (WPr.sil htt 1 rfl (WPr.nil (?_))))))))
      cases h
      exact WP.ret htt Tryz.func62 [] rfl rfl rfl rfl
    refine WPr.kb 59 hc rfl (WPr.silx (rg 23 25) ⟨[(1, .B 4 0), (5, .B 7 0), (39, .S 2), (40, .I (g_.Edges.length : Int)), (41, .I v41_3), (69, .O (decide ((maxI x9.From x9.To) ≥ g_.States)))], [(4, .box (cC4 0 1 2 3 g_) 27), (7, .box (cC6 x9.Act) 37)], (vV4 0 1 2 3 g_ []), 8⟩ htt 10 (by kernel_rfl) (?_))
    rcases oc h with ⟨hc, h⟩ | ⟨hc, h⟩
    · refine WPr.kb 69 hc rfl (WPr.silx [] ⟨[(1, .B 4 0), (39, .S 2), (40, .I (g_.Edges.length : Int)), (41, .I v41_3), (94, .O true)], [(4, .box (cC4 0 1 2 3 g_) 27)], (vV4 0 1 2 3 g_ []), 8⟩ htt 25 (by kernel_rfl) (WPr.nil (WP.condT rfl rfl (WP.seq (WP.region (WPr.sil htt 1 rfl (WPr.nil (?_))))))))
      cases h
      exact WP.ret htt Tryz.func62 [] rfl rfl rfl rfl
    refine WPr.kb 69 hc rfl (WPr.silx (rg 34 14) ⟨[(1, .B 4 0), (5, .B 7 0), (39, .S 2), (40, .I (g_.Edges.length : Int)), (41, .I v41_3), (80, .O (decide ((maxI x9.Act.From x9.Act.To) ≥ (g_.Roles.length : Int))))], [(4, .box (cC4 0 1 2 3 g_) 27), (7, .box (cC6 x9.Act) 37)], (vV4 0 1 2 3 g_ []), 8⟩ htt 11 (by kernel_rfl) (?_))
    rcases oc h with ⟨hc, h⟩ | ⟨hc, h⟩
    · refine WPr.kb 80 hc rfl (WPr.silx [] ⟨[(1, .B 4 0), (39, .S 2), (40, .I (g_.Edges.length : Int)), (41, .I v41_3), (94, .O true)], [(4, .box (cC4 0 1 2 3 g_) 27)], (vV4 0 1 2 3 g_ []), 8⟩ htt 14 (by kernel_rfl) (WPr.nil (WP.condT rfl rfl (WP.seq (WP.region (WPr.sil htt 1 rfl (WPr.nil (?_))))))))
      cases h
      exact WP.ret htt Tryz.func62 [] rfl rfl rfl rfl
    refine WPr.kb 80 hc rfl (WPr.silx (rg 41 7) ⟨[(1, .B 4 0), (5, .B 7 0), (39, .S 2), (40, .I (g_.Edges.length : Int)), (41, .I v41_3), (87, .O (x9.Act.From == x9.Act.To))], [(4, .box (cC4 0 1 2 3 g_) 27), (7, .box (cC6 x9.Act) 37)], (vV4 0 1 2 3 g_ []), 8⟩ htt 7 (by kernel_rfl) (?_))
    rcases oc h with ⟨hc, h⟩ | ⟨hc, h⟩
    · refine WPr.kb 87 hc rfl (WPr.silx [] ⟨[(1, .B 4 0), (39, .S 2), (40, .I (g_.Edges.length : Int)), (41, .I v41_3), (94, .O true)], [(4, .box (cC4 0 1 2 3 g_) 27)], (vV4 0 1 2 3 g_ []), 8⟩ htt 7 (by kernel_rfl) (WPr.nil (WP.condT rfl rfl (WP.seq (WP.region (WPr.sil htt 1 rfl (WPr.nil (?_))))))))
      cases h
      exact WP.ret htt Tryz.func62 [] rfl rfl rfl rfl
    refine WPr.kb 87 hc rfl (WPr.silx [] ⟨[(1, .B 4 0), (39, .S 2), (40, .I (g_.Edges.length : Int)), (41, .I v41_3), (94, .O (decide (x9.Act.Label ≥ (g_.Decls.length : Int))))], [(4, .box (cC4 0 1 2 3 g_) 27)], (vV4 0 1 2 3 g_ []), 8⟩ htt 7 (by kernel_rfl) (WPr.nil (?_)))
    rcases oc h with ⟨hc, h⟩ | ⟨hc, h⟩
    · refine WP.condT hc rfl (WP.seq (WP.region (WPr.sil htt 1 rfl (WPr.nil (?_)))))
      cases h
      exact WP.ret htt Tryz.func62 [] rfl rfl rfl rfl
    exact WP.condF hc rfl (WP.skip (WP.inBlock (WP.region (WPr.sil htt 2 rfl (WPr.nil (WP.sub [] (ih3 (w64 (v41_3 + (1 : Int))) h) rfl rfl rfl rfl))))))
  exact WP.sub [] (ih N (0 : Int) h) rfl rfl rfl rfl
theorem z175_ct (N : Nat) (l_ : (List T0)) (r : (List T3)) (h : z175 N l_ = some r) :
  Fn Tryz.prog 175 ⟨1, [.S 0], [(0, .sl rR0 l_)], [], 2, .S 1, [], [(1, .own rR3 r true)]⟩ := by
  refine Fn.intro _ _ Tryz.func175 rfl (by kernel_rfl) rfl (fun E F w => ?_)
  unfold z175 at h
  refine WP.seq (WP.region (WPr.sil htt 1 rfl (WPr.nil (WP.seq (WP.region (WPr.sil htt 1 rfl (WPr.nil (WP.seq (WP.seq (WP.region (WPr.silx [] ⟨[(2, .c .nil), (3, .c .nil), (6, .S 0), (7, .I (l_.length : Int)), (8, .I (0 : Int))], [], [(0, .sl rR0 l_)], 1⟩ htt 3 (by kernel_rfl) (WPr.nil (?_)))))))))))))
  refine WP.cut (σ := (List T3)) (fun st => ⟨[(3, .S 1)], [(1, .own rR3 st true)], [(0, .sl rR0 l_)], 2⟩) (fun st => z175_k1 st = some r) ?_ (fun j1 => ?_)
  · intro v3_1 h
    replace h : z175_k1 v3_1 = some r := h
    unfold z175_k1 at h
    refine WP.seq (WP.region (WPr.sil htt 2 rfl (WPr.nil (?_))))
    cases h
    exact WP.ret htt Tryz.func175 [(1, .sl 1)] rfl rfl rfl rfl
  refine WP.block (?_)
  refine WP.loopI (σ := (List T3) × Int) (fun st => ⟨[(3, .S 1), (6, .S 0), (7, .I (l_.length : Int)), (8, .I st.2)], [(1, .own rR3 st.1 true)], [(0, .sl rR0 l_)], 2⟩) (fun n st => z175_l2 l_ n st.1 st.2) (r := r) (fun _ => rfl) ?_ (fun ih => ?_)
  · intro n2 ih3
    rintro ⟨v3_3, v8_3⟩ h
    replace h : z175_l2 l_ (n2 + 1) v3_3 v8_3 = some r := h
    unfold z175_l2 at h
    refine WP.seq (WP.region (WPr.sil htt 1 rfl (WPr.nil (WP.seq (?_)))))
    rcases oc' h with ⟨hc, h⟩ | ⟨hc, h⟩
    · exact WP.condF hc rfl (WP.exit rfl (WP.sub [] (j1 v3_3 h) rfl rfl rfl rfl))
    refine WP.condT hc rfl (WP.skip (WP.seq (WP.block (WP.seq (WP.region (?_))))))
    obtain ⟨x17, hx17, h⟩ := ob h
    refine WPr.ix oO0 htt hx17 rfl rfl rfl rfl rfl rfl rfl rfl rfl (WPr.silx [] ⟨[(3, .S 1), (5, .B 6 0), (6, .S 0), (7, .I (l_.length : Int)), (8, .I v8_3)], [(1, .own rR3 v3_3 true), (6, .box (cC0 3 4 5 x17) 94)], ((0, .sl rR0 l_) :: vV0 3 4 5 x17 []), 7⟩ htt 3 (by kernel_rfl) (WPr.nil (WP.region (WPr.silx [3, 4] ⟨[(6, .S 0), (7, .I (l_.length : Int)), (8, .I v8_3), (12, .S 1), (14, .S 3)], [(1, .own rR3 v3_3 true)], [(0, .sl rR0 l_), (3, .sl rR3 x17.Fields)], 7⟩ htt 3 (by kernel_rfl) (?_)))))
    obtain ⟨x18, hx18, h⟩ := ob h
    exact WPr.app htt hx18 (by exact (srcI rfl)) rfl rfl rfl rfl rfl rfl rfl rfl rfl rfl (WPr.silx [] ⟨[(3, .S 7), (6, .S 0), (7, .I (l_.length : Int)), (8, .I v8_3)], [(7, .own rR3 x18 true)], [(0, .sl rR0 l_)], 8⟩ htt 1 (by kernel_rfl) (WPr.nil (WP.inBlock (WP.region (WPr.sil htt 2 rfl (WPr.nil (WP.sub [(1, .sl 7)] (ih3 (x18, (w64 (v8_3 + (1 : Int)))) h) rfl rfl rfl rfl)))))))
  exact WP.sub [(1, .nil)] (ih N (([] : List T3), (0 : Int)) h) rfl rfl rfl rfl
theorem z196_ct (N : Nat) (s_ : ByteArray) (r : Int) (h : z196 N s_ = some r) :
  Fn Tryz.prog 196 ⟨0, [.c (.s s_)], [], [], 0, .I r, [], []⟩ := by
  refine Fn.intro _ _ Tryz.func196 rfl (by kernel_rfl) rfl (fun E F w => ?_)
  unfold z196 at h
  refine WP.seq (WP.region (WPr.sil htt 1 rfl (WPr.nil (WP.seq (WP.seq (WP.region (WPr.sil htt 1 rfl (?_))))))))
  cases h
theorem z200_ct (N : Nat) (s_ : ByteArray) (r : Int × Int) (h : z200 N s_ = some r) :
  Fn Tryz.prog 200 ⟨0, [.c (.s s_)], [], [], 0, .t [.inl (.i .i32 r.1), .inl (.I r.2)], [], []⟩ := by
  refine Fn.intro _ _ Tryz.func200 rfl (by kernel_rfl) rfl (fun E F w => ?_)
  unfold z200 at h
  refine WP.seq (WP.region (WPr.sil htt 2 rfl (WPr.nil (WP.seq (WP.region (WPr.silx [] ⟨[(0, .c (.s s_)), (2, .c (.i .i32 (0 : Int))), (3, .I (0 : Int)), (4, .I (s_.size : Int))], [], [], 0⟩ htt 3 (by kernel_rfl) (WPr.nil (WP.seq (WP.seq (WP.region (WPr.sil htt 2 rfl (WPr.nil (?_)))))))))))))
  rcases oc h with ⟨hc, h⟩ | ⟨hc, h⟩
  · refine WP.condT hc rfl (WP.seq (WP.region (WPr.silx [] ⟨[(2, .c (.i .i32 (65533 : Int))), (3, .I (0 : Int))], [], [], 0⟩ htt 2 (by kernel_rfl) (WPr.nil (?_)))))
    cases h
    exact WP.ret htt Tryz.func200 [] rfl rfl rfl rfl
  refine WP.condF hc rfl (WP.skip (WP.seq (WP.region (WPr.silx [1, 2] ⟨[(0, .c (.s s_)), (2, .c (.i .i32 (0 : Int))), (3, .I (0 : Int)), (4, .I (s_.size : Int)), (17, .c (.s s_))], [], [], 0⟩ htt 1 (by kernel_rfl) (?_)))))
  obtain ⟨x1, hx1, h⟩ := ob h
  refine WPr.sx htt hx1 rfl rfl rfl rfl rfl rfl rfl rfl rfl (WPr.sil htt 1 rfl (WPr.nil (WP.seq (WP.region (WPr.silx [1, 2, 3] ⟨[(0, .c (.s s_)), (2, .c (.i .i32 (0 : Int))), (3, .I (0 : Int)), (4, .I (s_.size : Int)), (5, .c (.i .u8 x1)), (19, .c (.i .u8 x1))], [], [], 0⟩ htt 1 (by kernel_rfl) (?_))))))
  cases h
theorem z197_ct (N : Nat) (s_ : ByteArray) (r : Int × Int) (h : z197 N s_ = some r) :
  Fn Tryz.prog 197 ⟨0, [.c (.s s_)], [], [], 0, .t [.inl (.i .i32 r.1), .inl (.I r.2)], [], []⟩ := by
  refine Fn.intro _ _ Tryz.func197 rfl (by kernel_rfl) rfl (fun E F w => ?_)
  unfold z197 at h
  refine WP.seq (WP.region (WPr.sil htt 2 rfl (WPr.nil (WP.seq (WP.seq (WP.region (WPr.silx [3, 4, 5, 6] ⟨[(0, .c (.s s_)), (2, .c (.i .i32 (0 : Int))), (3, .I (0 : Int)), (6, .O (!(s_.toList == (str []).toList)))], [], [], 0⟩ htt 3 (by kernel_rfl) (?_))))))))
  rcases oc' h with ⟨hc, h⟩ | ⟨hc, h⟩
  · refine WPr.kb 6 hc rfl (WPr.silx [] ⟨[(0, .c (.s s_)), (2, .c (.i .i32 (0 : Int))), (3, .I (0 : Int)), (10, .O false)], [], [], 0⟩ htt 4 (by kernel_rfl) (WPr.nil (WP.condF rfl rfl (WP.region (WPr.sil htt 1 rfl (?_))))))
    obtain ⟨x4, hx4, h⟩ := ob h
    refine WPr.call (z200_ct N s_ _ hx4) [] [] rfl rfl rfl rfl rfl rfl rfl rfl (.inl rfl) rfl (WPr.silx [] ⟨[(2, .c (.i .i32 x4.1)), (3, .I x4.2)], [], [], 0⟩ htt 5 (by kernel_rfl) (WPr.nil (?_)))
    cases h
    exact WP.ret htt Tryz.func197 [] rfl rfl rfl rfl
  refine WPr.kb 6 hc rfl (WPr.sil htt 1 rfl (?_))
  obtain ⟨x1, hx1, h⟩ := ob h
  refine WPr.sx htt hx1 rfl rfl rfl rfl rfl rfl rfl rfl rfl (WPr.silx [] ⟨[(0, .c (.s s_)), (2, .c (.i .i32 (0 : Int))), (3, .I (0 : Int)), (10, .O (decide (x1 < (128 : Int))))], [], [], 0⟩ htt 2 (by kernel_rfl) (WPr.nil (?_)))
  rcases oc h with ⟨hc, h⟩ | ⟨hc, h⟩
  · refine WP.condT hc rfl (WP.seq (WP.region (WPr.sil htt 1 rfl (?_))))
    obtain ⟨x2, hx2, h⟩ := ob h
    refine WPr.sx htt hx2 rfl rfl rfl rfl rfl rfl rfl rfl rfl (WPr.silx [] ⟨[(2, .c (.i .i32 (wk .i32 (x2)))), (3, .I (1 : Int))], [], [], 0⟩ htt 3 (by kernel_rfl) (WPr.nil (?_)))
    cases h
    exact WP.ret htt Tryz.func197 [] rfl rfl rfl rfl
  refine WP.condF hc rfl (WP.region (WPr.sil htt 1 rfl (?_)))
  obtain ⟨x3, hx3, h⟩ := ob h
  refine WPr.call (z200_ct N s_ _ hx3) [] [] rfl rfl rfl rfl rfl rfl rfl rfl (.inl rfl) rfl (WPr.silx [] ⟨[(2, .c (.i .i32 x3.1)), (3, .I x3.2)], [], [], 0⟩ htt 5 (by kernel_rfl) (WPr.nil (?_)))
  cases h
  exact WP.ret htt Tryz.func197 [] rfl rfl rfl rfl
theorem z193_ct (N : Nat) (s_ : ByteArray) (n_ : Int) (r : (List ByteArray)) (h : z193 N s_ n_ = some r) :
  Fn Tryz.prog 193 ⟨0, [.c (.s s_), .I n_], [], [], 1, .S 0, [], [(0, .own rS r true)]⟩ := by
  refine Fn.intro _ _ Tryz.func193 rfl (by kernel_rfl) rfl (fun E F w => ?_)
  unfold z193 at h
  refine WP.seq (WP.region (WPr.sil htt 1 rfl (WPr.nil (WP.seq (WP.region (WPr.sil htt 1 rfl (?_)))))))
  obtain ⟨x1, hx1, h⟩ := ob h
  refine WPr.call (z196_ct N s_ _ hx1) [] [] rfl rfl rfl rfl rfl rfl rfl rfl (.inl rfl) rfl (WPr.silx [] ⟨[(0, .c (.s s_)), (1, .I n_), (4, .c .nil), (5, .I x1)], [], [], 0⟩ htt 1 (by kernel_rfl) (WPr.nil (WP.seq (WP.seq (WP.region (WPr.silx [3, 4, 5, 6] ⟨[(0, .c (.s s_)), (1, .I n_), (4, .c .nil), (5, .I x1), (14, .O (decide (n_ < (0 : Int))))], [], [], 0⟩ htt 3 (by kernel_rfl) (?_)))))))
  refine WP.cutr (σ := Bool) (fun st => ⟨[(0, .c (.s s_)), (1, .I n_), (5, .I x1), (18, .O st)], [], [], 0⟩) (fun st => z193_k4 N s_ n_ x1 st = some r) ?_ (fun j1 => ?_)
  · intro v18_1 h
    replace h : z193_k4 N s_ n_ x1 v18_1 = some r := h
    unfold z193_k4 at h
    refine WP.cut (σ := Int) (fun st => ⟨[(0, .c (.s s_)), (1, .I st)], [], [], 0⟩) (fun st => z193_k3 N s_ st = some r) ?_ (fun j2 => ?_)
    · intro v1_2 h
      replace h : z193_k3 N s_ v1_2 = some r := h
      unfold z193_k3 at h
      refine WP.seq (WP.region (WPr.sil htt 1 rfl (?_)))
      obtain ⟨x2, hx2, h⟩ := ob h
      refine WPr.mk oS htt (str []) hx2 rfl rfl rfl rfl rfl rfl rfl rfl (by exact an rfl rfl) rfl (WPr.silx [] ⟨[(0, .c (.s s_)), (1, .I v1_2), (6, .S 0)], [(0, .own rS x2 true)], [], 1⟩ htt 1 (by kernel_rfl) (WPr.nil (WP.seq (WP.seq (WP.region (WPr.sil htt 1 rfl (WPr.nil (?_))))))))
      refine WP.cut (σ := ByteArray × (List ByteArray)) (fun st => ⟨[(0, .c (.s st.1)), (1, .I v1_2), (6, .S 0)], [(0, .own rS st.2 true)], [], 1⟩) (fun st => z193_k1 v1_2 st.1 st.2 = some r) ?_ (fun j3 => ?_)
      · rintro ⟨v0_3, v6_3⟩ h
        replace h : z193_k1 v1_2 v0_3 v6_3 = some r := h
        unfold z193_k1 at h
        refine WP.seq (WP.seq (WP.region (WPr.sil htt 2 rfl (WPr.nil (?_)))))
        rcases oc' h with ⟨hc, h⟩ | ⟨hc, h⟩
        · refine WP.condF hc rfl (WP.skip (WP.seq (WP.region (WPr.silx [] ⟨[(4, .S 0)], [(0, .own rS v6_3 true)], [], 1⟩ htt 2 (by kernel_rfl) (WPr.nil (?_))))))
          cases h
          exact WP.ret htt Tryz.func193 [(0, .sl 0)] rfl rfl rfl rfl
        refine WP.condT hc rfl (WP.region (WPr.silx [4, 5] ⟨[(6, .S 0), (44, .S 0), (46, .I (w64 (v1_2 - (1 : Int)))), (47, .c (.s v0_3))], [(0, .own rS v6_3 true)], [], 1⟩ htt 4 (by kernel_rfl) (?_)))
        obtain ⟨x19, hx19, h⟩ := ob h
        refine WPr.ixo htt hx19 rfl rfl rfl rfl rfl rfl rfl rfl rfl (WPr.sto oS htt v0_3 hx19 rfl rfl rfl rfl rfl rfl rfl rfl rfl rfl (by exact rfl) rfl (WPr.nil (WP.seq (WP.region (WPr.silx [] ⟨[(4, .S 0)], [(0, .own rS (setL' v6_3 (w64 (v1_2 - (1 : Int))) v0_3) true)], [], 2⟩ htt 2 (by kernel_rfl) (WPr.nil (?_)))))))
        cases h
        exact WP.ret htt Tryz.func193 [(0, .sl 0)] rfl rfl rfl rfl
      refine WP.block (?_)
      refine WP.loopI (σ := ByteArray × (List ByteArray) × Int) (fun st => ⟨[(0, .c (.s st.1)), (1, .I v1_2), (6, .S 0), (7, .I st.2.2)], [(0, .own rS st.2.1 true)], [], 1⟩) (fun n st => z193_l2 N v1_2 n st.1 st.2.1 st.2.2) (r := r) (fun _ => rfl) ?_ (fun ih => ?_)
      · intro n2 ih5
        rintro ⟨v0_5, v6_5, v7_5⟩ h
        replace h : z193_l2 N v1_2 (n2 + 1) v0_5 v6_5 v7_5 = some r := h
        unfold z193_l2 at h
        refine WP.seq (WP.seq (WP.region (WPr.silx [] ⟨[(0, .c (.s v0_5)), (1, .I v1_2), (6, .S 0), (7, .I v7_5), (25, .O (decide (v7_5 < (w64 (v1_2 - (1 : Int))))))], [(0, .own rS v6_5 true)], [], 1⟩ htt 4 (by kernel_rfl) (WPr.nil (?_)))))
        rcases oc' h with ⟨hc, h⟩ | ⟨hc, h⟩
        · exact WP.condF hc rfl (WP.exit rfl (WP.sub [] (j3 (v0_5, v6_5) h) rfl rfl rfl rfl))
        refine WP.condT hc rfl (WP.skip (WP.seq (WP.block (WP.seq (WP.region (WPr.sil htt 1 rfl (?_)))))))
        obtain ⟨x36, hx36, h⟩ := ob h
        refine WPr.call (z197_ct N v0_5 _ hx36) [] [] rfl rfl rfl rfl rfl rfl rfl rfl (.inl rfl) rfl (WPr.silx [] ⟨[(0, .c (.s v0_5)), (1, .I v1_2), (6, .S 0), (7, .I v7_5), (9, .I x36.2)], [(0, .own rS v6_5 true)], [], 1⟩ htt 5 (by kernel_rfl) (WPr.nil (WP.seq (WP.region (WPr.silx [4, 5, 6] ⟨[(0, .c (.s v0_5)), (1, .I v1_2), (6, .S 0), (7, .I v7_5), (9, .I x36.2), (33, .S 0), (34, .I v7_5), (35, .c (.s v0_5)), (36, .I x36.2)], [(0, .own rS v6_5 true)], [], 1⟩ htt 4 (by kernel_rfl) (?_))))))
        obtain ⟨x37, hx37, h⟩ := ob h
        refine WPr.ssl htt (l := none) (h := some (.i64, x36.2)) hx37 rfl rfl rfl rfl rfl rfl rfl rfl rfl rfl (?_)
        obtain ⟨x38, hx38, h⟩ := ob h
        refine WPr.ixo htt hx38 rfl rfl rfl rfl rfl rfl rfl rfl rfl (WPr.sto oS htt x37 hx38 rfl rfl rfl rfl rfl rfl rfl rfl rfl rfl (by exact rfl) rfl (WPr.silx [] ⟨[(0, .c (.s v0_5)), (1, .I v1_2), (6, .S 0), (7, .I v7_5), (9, .I x36.2)], [(0, .own rS (setL' v6_5 v7_5 x37) true)], [], 2⟩ htt 0 (by kernel_rfl) (WPr.nil (WP.region (WPr.sil htt 2 rfl (?_))))))
        obtain ⟨x39, hx39, h⟩ := ob h
        exact WPr.ssl htt (l := some (.i64, x36.2)) (h := none) hx39 rfl rfl rfl rfl rfl rfl rfl rfl rfl rfl (WPr.silx [] ⟨[(0, .c (.s x39)), (1, .I v1_2), (6, .S 0), (7, .I v7_5)], [(0, .own rS (setL' v6_5 v7_5 x37) true)], [], 2⟩ htt 1 (by kernel_rfl) (WPr.nil (WP.inBlock (WP.region (WPr.silx [] ⟨[(0, .c (.s x39)), (1, .I v1_2), (6, .S 0), (7, .I (w64 (v7_5 + (1 : Int))))], [(0, .own rS (setL' v6_5 v7_5 x37) true)], [], 2⟩ htt 3 (by kernel_rfl) (WPr.nil (WP.sub [] (ih5 (x39, (setL' v6_5 v7_5 x37), (w64 (v7_5 + (1 : Int)))) h) rfl rfl rfl rfl)))))))
      exact WP.sub [] (ih N (s_, x2, (0 : Int)) h) rfl rfl rfl rfl
    rcases oc h with ⟨hc, h⟩ | ⟨hc, h⟩
    · exact WP.condT hc rfl (WP.region (WPr.sil htt 2 rfl (WPr.nil (WP.sub [] (j2 x1 h) rfl rfl rfl rfl))))
    exact WP.condF hc rfl (WP.skip (WP.sub [] (j2 n_ h) rfl rfl rfl rfl))
  rcases oc h with ⟨hc, h⟩ | ⟨hc, h⟩
  · exact WPr.kb 14 hc rfl (WPr.silx [] ⟨[(0, .c (.s s_)), (1, .I n_), (4, .c .nil), (5, .I x1), (18, .O true)], [], [], 0⟩ htt 4 (by kernel_rfl) (WPr.nil (WP.sub [] (j1 true h) rfl rfl rfl rfl)))
  exact WPr.kb 14 hc rfl (WPr.silx [] ⟨[(0, .c (.s s_)), (1, .I n_), (4, .c .nil), (5, .I x1), (18, .O (decide (n_ > x1)))], [], [], 0⟩ htt 4 (by kernel_rfl) (WPr.nil (WP.sub [] (j1 (decide (n_ > x1)) h) rfl rfl rfl rfl)))
theorem z201_ct (N : Nat) (s_ : ByteArray) (c_ : Int) (r : Int) (h : z201 N s_ c_ = some r) :
  Fn Tryz.prog 201 ⟨0, [.c (.s s_), .c (.i .u8 c_)], [], [], 0, .I r, [], []⟩ := by
  refine Fn.intro _ _ Tryz.func201 rfl (by kernel_rfl) rfl (fun E F w => ?_)
  unfold z201 at h
  refine WP.seq (WP.region (WPr.sil htt 1 rfl (WPr.nil (WP.seq (WP.region (WPr.silx [2, 3] ⟨[(5, .c (.s s_)), (6, .c (.i .u8 c_))], [], [], 0⟩ htt 2 (by kernel_rfl) (WPr.ext (ext_indexByte Tryz.func205 (by kernel_rfl) (by kernel_rfl) (by kernel_rfl) (by kernel_rfl) s_ c_) (fun _ => trivial) rfl rfl rfl rfl rfl rfl (WPr.silx [] ⟨[(4, .I (firstB s_ c_))], [], [], 0⟩ htt 1 (by kernel_rfl) (WPr.nil (?_))))))))))
  cases h
  exact WP.ret htt Tryz.func201 [] rfl rfl rfl rfl
theorem z199_ct (N : Nat) (s_ : ByteArray) (substr_ : ByteArray) (r : Int) (h : z199 N s_ substr_ = some r) :
  Fn Tryz.prog 199 ⟨0, [.c (.s s_), .c (.s substr_)], [], [], 0, .I r, [], []⟩ := by
  refine Fn.intro _ _ Tryz.func199 rfl (by kernel_rfl) rfl (fun E F w => ?_)
  unfold z199 at h
  refine WP.seq (WP.region (WPr.sil htt 1 rfl (WPr.nil (WP.seq (WP.region (WPr.silx [] ⟨[(0, .c (.s s_)), (1, .c (.s substr_)), (4, .I (0 : Int)), (5, .I (substr_.size : Int))], [], [], 0⟩ htt 3 (by kernel_rfl) (WPr.nil (WP.seq (WP.block (WP.seq (WP.region (WPr.silx [3, 4, 5, 6, 7] ⟨[(0, .c (.s s_)), (1, .c (.s substr_)), (4, .I (0 : Int)), (5, .I (substr_.size : Int)), (19, .O ((substr_.size : Int) == (0 : Int)))], [], [], 0⟩ htt 3 (by kernel_rfl) (?_)))))))))))))
  rcases oc h with ⟨hc, h⟩ | ⟨hc, h⟩
  · refine WPr.kb 19 hc rfl (WPr.silx [] ⟨[(0, .c (.s s_)), (1, .c (.s substr_)), (4, .I (0 : Int)), (5, .I (substr_.size : Int)), (16, .O true)], [], [], 0⟩ htt 5 (by kernel_rfl) (WPr.nil (WP.condT rfl rfl (WP.seq (WP.region (WPr.sil htt 1 rfl (WPr.nil (?_))))))))
    cases h
    exact WP.ret htt Tryz.func199 [] rfl rfl rfl rfl
  refine WPr.kb 19 hc rfl (WPr.silx [] ⟨[(0, .c (.s s_)), (1, .c (.s substr_)), (4, .I (0 : Int)), (5, .I (substr_.size : Int)), (16, .O (substr_.toList == s_.toList))], [], [], 0⟩ htt 5 (by kernel_rfl) (WPr.nil (?_)))
  rcases oc h with ⟨hc, h⟩ | ⟨hc, h⟩
  · refine WP.condT hc rfl (WP.seq (WP.region (WPr.sil htt 1 rfl (WPr.nil (?_)))))
    cases h
    exact WP.ret htt Tryz.func199 [] rfl rfl rfl rfl
  refine WP.condF hc rfl (WP.seq (WP.region (WPr.silx [] ⟨[(0, .c (.s s_)), (1, .c (.s substr_)), (4, .I (0 : Int)), (5, .I (substr_.size : Int)), (24, .O ((substr_.size : Int) == (1 : Int)))], [], [], 0⟩ htt 3 (by kernel_rfl) (WPr.nil (?_)))))
  rcases oc h with ⟨hc, h⟩ | ⟨hc, h⟩
  · refine WP.condT hc rfl (WP.seq (WP.region (WPr.sil htt 2 rfl (?_))))
    obtain ⟨x1, hx1, h⟩ := ob h
    refine WPr.sx htt hx1 rfl rfl rfl rfl rfl rfl rfl rfl rfl (WPr.silx [3, 4] ⟨[(27, .c (.s s_)), (29, .c (.i .u8 x1))], [], [], 0⟩ htt 0 (by kernel_rfl) (?_))
    obtain ⟨x2, hx2, h⟩ := ob h
    refine WPr.call (z201_ct N s_ x1 _ hx2) [] [] rfl rfl rfl rfl rfl rfl rfl rfl (.inl rfl) rfl (WPr.silx [] ⟨[(4, .I x2)], [], [], 0⟩ htt 1 (by kernel_rfl) (WPr.nil (?_)))
    cases h
    exact WP.ret htt Tryz.func199 [] rfl rfl rfl rfl
  refine WP.condF hc rfl (WP.seq (WP.region (WPr.silx [] ⟨[(0, .c (.s s_)), (1, .c (.s substr_)), (4, .I (0 : Int)), (5, .I (substr_.size : Int)), (31, .O (decide ((substr_.size : Int) ≥ (s_.size : Int))))], [], [], 0⟩ htt 5 (by kernel_rfl) (WPr.nil (?_)))))
  rcases oc h with ⟨hc, h⟩ | ⟨hc, h⟩
  · refine WP.condT hc rfl (WP.seq (WP.region (WPr.sil htt 1 rfl (WPr.nil (?_)))))
    cases h
    exact WP.ret htt Tryz.func199 [] rfl rfl rfl rfl
  refine WP.condF hc rfl (WP.seq (WP.region (WPr.sil htt 1 rfl (?_))))
  cases h
theorem z195_ct (N : Nat) (s_ : ByteArray) (substr_ : ByteArray) (r : Int) (h : z195 N s_ substr_ = some r) :
  Fn Tryz.prog 195 ⟨0, [.c (.s s_), .c (.s substr_)], [], [], 0, .I r, [], []⟩ := by
  refine Fn.intro _ _ Tryz.func195 rfl (by kernel_rfl) rfl (fun E F w => ?_)
  unfold z195 at h
  refine WP.seq (WP.region (WPr.sil htt 1 rfl (WPr.nil (WP.seq (WP.region (WPr.silx [2, 3] ⟨[(5, .c (.s s_)), (6, .c (.s substr_))], [], [], 0⟩ htt 2 (by kernel_rfl) (?_)))))))
  obtain ⟨x1, hx1, h⟩ := ob h
  refine WPr.call (z199_ct N s_ substr_ _ hx1) [] [] rfl rfl rfl rfl rfl rfl rfl rfl (.inl rfl) rfl (WPr.silx [] ⟨[(4, .I x1)], [], [], 0⟩ htt 1 (by kernel_rfl) (WPr.nil (?_)))
  cases h
  exact WP.ret htt Tryz.func195 [] rfl rfl rfl rfl
theorem z194_ct (N : Nat) (s_ : ByteArray) (substr_ : ByteArray) (r : Int) (h : z194 N s_ substr_ = some r) :
  Fn Tryz.prog 194 ⟨0, [.c (.s s_), .c (.s substr_)], [], [], 0, .I r, [], []⟩ := by
  refine Fn.intro _ _ Tryz.func194 rfl (by kernel_rfl) rfl (fun E F w => ?_)
  unfold z194 at h
  refine WP.seq (WP.region (WPr.sil htt 1 rfl (WPr.nil (WP.seq (WP.seq (WP.region (WPr.silx [] ⟨[(0, .c (.s s_)), (1, .c (.s substr_)), (4, .I (0 : Int)), (9, .O ((substr_.size : Int) == (0 : Int)))], [], [], 0⟩ htt 3 (by kernel_rfl) (WPr.nil (?_)))))))))
  rcases oc h with ⟨hc, h⟩ | ⟨hc, h⟩
  · refine WP.condT hc rfl (WP.seq (WP.region (WPr.sil htt 1 rfl (?_))))
    obtain ⟨x1, hx1, h⟩ := ob h
    refine WPr.call (z196_ct N s_ _ hx1) [] [] rfl rfl rfl rfl rfl rfl rfl rfl (.inl rfl) rfl (WPr.silx [] ⟨[(4, .I (w64 (x1 + (1 : Int))))], [], [], 0⟩ htt 2 (by kernel_rfl) (WPr.nil (?_)))
    cases h
    exact WP.ret htt Tryz.func194 [] rfl rfl rfl rfl
  refine WP.condF hc rfl (WP.skip (WP.seq (WP.seq (WP.region (WPr.silx [] ⟨[(0, .c (.s s_)), (1, .c (.s substr_)), (4, .I (0 : Int)), (15, .O ((substr_.size : Int) == (1 : Int)))], [], [], 0⟩ htt 3 (by kernel_rfl) (WPr.nil (?_)))))))
  rcases oc h with ⟨hc, h⟩ | ⟨hc, h⟩
  · refine WP.condT hc rfl (WP.seq (WP.region (WPr.sil htt 2 rfl (?_))))
    obtain ⟨x2, hx2, h⟩ := ob h
    refine WPr.sx htt hx2 rfl rfl rfl rfl rfl rfl rfl rfl rfl (WPr.silx [3, 4] ⟨[(16, .c (.s s_)), (18, .c (.i .u8 x2))], [], [], 0⟩ htt 0 (by kernel_rfl) (WPr.ext (ext_countByte Tryz.func198 (by kernel_rfl) (by kernel_rfl) (by kernel_rfl) (by kernel_rfl) s_ x2) (fun _ => trivial) rfl rfl rfl rfl rfl rfl (WPr.silx [] ⟨[(4, .I (countB s_ x2))], [], [], 0⟩ htt 1 (by kernel_rfl) (WPr.nil (?_)))))
    cases h
    exact WP.ret htt Tryz.func194 [] rfl rfl rfl rfl
  refine WP.condF hc rfl (WP.skip (WP.seq (WP.region (WPr.sil htt 1 rfl (WPr.nil (WP.block (?_)))))))
  refine WP.loopI (σ := ByteArray × Int) (fun st => ⟨[(0, .c (.s st.1)), (1, .c (.s substr_)), (5, .I st.2)], [], [], 0⟩) (fun n st => z194_l1 N substr_ n st.1 st.2) (r := r) (fun _ => rfl) ?_ (fun ih => ?_)
  · intro n1 ih1
    rintro ⟨v0_1, v5_1⟩ h
    replace h : z194_l1 N substr_ (n1 + 1) v0_1 v5_1 = some r := h
    unfold z194_l1 at h
    refine WP.block (WP.seq (WP.region (WPr.sil htt 2 rfl (?_))))
    obtain ⟨x11, hx11, h⟩ := ob h
    refine WPr.call (z195_ct N v0_1 substr_ _ hx11) [] [] rfl rfl rfl rfl rfl rfl rfl rfl (.inl rfl) rfl (WPr.silx [] ⟨[(0, .c (.s v0_1)), (1, .c (.s substr_)), (5, .I v5_1), (6, .I x11)], [], [], 0⟩ htt 1 (by kernel_rfl) (WPr.nil (WP.seq (WP.seq (WP.region (WPr.sil htt 2 rfl (WPr.nil (?_))))))))
    rcases oc h with ⟨hc, h⟩ | ⟨hc, h⟩
    · refine WP.condT hc rfl (WP.seq (WP.region (WPr.silx [] ⟨[(4, .I v5_1)], [], [], 0⟩ htt 2 (by kernel_rfl) (WPr.nil (?_)))))
      cases h
      exact WP.ret htt Tryz.func194 [] rfl rfl rfl rfl
    refine WP.condF hc rfl (WP.skip (WP.seq (WP.region (WPr.silx [] ⟨[(0, .c (.s v0_1)), (1, .c (.s substr_)), (5, .I (w64 (v5_1 + (1 : Int)))), (6, .I x11)], [], [], 0⟩ htt 3 (by kernel_rfl) (WPr.nil (WP.region (WPr.silx [5, 6] ⟨[(1, .c (.s substr_)), (5, .I (w64 (v5_1 + (1 : Int)))), (28, .c (.s v0_1)), (32, .I (w64 (x11 + (substr_.size : Int))))], [], [], 0⟩ htt 5 (by kernel_rfl) (?_))))))))
    obtain ⟨x12, hx12, h⟩ := ob h
    exact WPr.ssl htt (l := some (.i64, (w64 (x11 + (substr_.size : Int))))) (h := none) hx12 rfl rfl rfl rfl rfl rfl rfl rfl rfl rfl (WPr.sil htt 1 rfl (WPr.nil (WP.inBlock (WP.sub [] (ih1 (x12, (w64 (v5_1 + (1 : Int)))) h) rfl rfl rfl rfl))))
  exact WP.sub [] (ih N (s_, (0 : Int)) h) rfl rfl rfl rfl
theorem z192_ct (N : Nat) (s_ : ByteArray) (sep_ : ByteArray) (sepSave_ : Int) (n_ : Int) (r : (List ByteArray)) (h : z192 N s_ sep_ sepSave_ n_ = some r) :
  Fn Tryz.prog 192 ⟨0, [.c (.s s_), .c (.s sep_), .I sepSave_, .I n_], [], [], 1, .S 0, [], [(0, .own rS r true)]⟩ := by
  refine Fn.intro _ _ Tryz.func192 rfl (by kernel_rfl) rfl (fun E F w => ?_)
  unfold z192 at h
  refine WP.seq (WP.region (WPr.sil htt 1 rfl (WPr.nil (WP.seq (WP.seq (WP.region (WPr.silx [] ⟨[(0, .c (.s s_)), (1, .c (.s sep_)), (2, .I sepSave_), (3, .I n_), (8, .c .nil), (13, .O (n_ == (0 : Int)))], [], [], 0⟩ htt 2 (by kernel_rfl) (WPr.nil (?_)))))))))
  rcases oc h with ⟨hc, h⟩ | ⟨hc, h⟩
  · refine WP.condT hc rfl (WP.seq (WP.region (WPr.sil htt 1 rfl (WPr.nil (?_)))))
    cases h
    exact WP.ret htt Tryz.func192 [(0, .nil)] rfl rfl rfl rfl
  refine WP.condF hc rfl (WP.skip (WP.seq (WP.seq (WP.region (WPr.sil htt 2 rfl (WPr.nil (?_)))))))
  rcases oc h with ⟨hc, h⟩ | ⟨hc, h⟩
  · refine WP.condT hc rfl (WP.seq (WP.region (WPr.silx [2, 3] ⟨[(16, .c (.s s_)), (17, .I n_)], [], [], 0⟩ htt 2 (by kernel_rfl) (?_))))
    obtain ⟨x1, hx1, h⟩ := ob h
    refine WPr.call (z193_ct N s_ n_ _ hx1) [] [] rfl rfl rfl rfl rfl rfl rfl rfl (.inl rfl) rfl (WPr.silx [] ⟨[(8, .S 0)], [(0, .own rS x1 true)], [], 1⟩ htt 1 (by kernel_rfl) (WPr.nil (?_)))
    cases h
    exact WP.ret htt Tryz.func192 [(0, .sl 0)] rfl rfl rfl rfl
  refine WP.condF hc rfl (WP.skip (WP.seq (WP.seq (WP.region (WPr.silx [] ⟨[(0, .c (.s s_)), (1, .c (.s sep_)), (2, .I sepSave_), (3, .I n_), (8, .c .nil), (20, .O (decide (n_ < (0 : Int))))], [], [], 0⟩ htt 2 (by kernel_rfl) (WPr.nil (?_)))))))
  refine WP.cut (σ := Int) (fun st => ⟨[(0, .c (.s s_)), (1, .c (.s sep_)), (2, .I sepSave_), (3, .I st)], [], [], 0⟩) (fun st => z192_k3 N s_ sep_ sepSave_ st = some r) ?_ (fun j1 => ?_)
  · intro v3_1 h
    replace h : z192_k3 N s_ sep_ sepSave_ v3_1 = some r := h
    unfold z192_k3 at h
    refine WP.seq (WP.region (WPr.silx [] ⟨[(0, .c (.s s_)), (1, .c (.s sep_)), (2, .I sepSave_), (3, .I (minI v3_1 (w64 ((s_.size : Int) + (1 : Int)))))], [], [], 0⟩ htt 6 (by kernel_rfl) (WPr.nil (WP.seq (WP.region (WPr.sil htt 1 rfl (?_)))))))
    obtain ⟨x3, hx3, h⟩ := ob h
    refine WPr.mk oS htt (str []) hx3 rfl rfl rfl rfl rfl rfl rfl rfl (by exact an rfl rfl) rfl (WPr.silx [] ⟨[(0, .c (.s s_)), (1, .c (.s sep_)), (2, .I sepSave_), (3, .I (minI v3_1 (w64 ((s_.size : Int) + (1 : Int))))), (9, .S 0)], [(0, .own rS x3 true)], [], 1⟩ htt 1 (by kernel_rfl) (WPr.nil (WP.seq (WP.region (WPr.silx [] ⟨[(0, .c (.s s_)), (1, .c (.s sep_)), (2, .I sepSave_), (3, .I (w64 ((minI v3_1 (w64 ((s_.size : Int) + (1 : Int)))) - (1 : Int)))), (9, .S 0)], [(0, .own rS x3 true)], [], 1⟩ htt 3 (by kernel_rfl) (WPr.nil (WP.seq (WP.region (WPr.sil htt 1 rfl (WPr.nil (WP.seq (?_))))))))))))
    refine WP.cut (σ := ByteArray × (List ByteArray) × Int) (fun st => ⟨[(0, .c (.s st.1)), (9, .S 0), (10, .I st.2.2)], [(0, .own rS st.2.1 true)], [], 1⟩) (fun st => z192_k1 st.1 st.2.1 st.2.2 = some r) ?_ (fun j2 => ?_)
    · rintro ⟨v0_2, v9_2, v10_2⟩ h
      replace h : z192_k1 v0_2 v9_2 v10_2 = some r := h
      unfold z192_k1 at h
      refine WP.seq (WP.region (WPr.silx [3, 4] ⟨[(9, .S 0), (10, .I v10_2), (58, .S 0), (59, .I v10_2), (60, .c (.s v0_2))], [(0, .own rS v9_2 true)], [], 1⟩ htt 3 (by kernel_rfl) (?_)))
      obtain ⟨x20, hx20, h⟩ := ob h
      refine WPr.ixo htt hx20 rfl rfl rfl rfl rfl rfl rfl rfl rfl (WPr.sto oS htt v0_2 hx20 rfl rfl rfl rfl rfl rfl rfl rfl rfl rfl (by exact rfl) rfl (WPr.nil (WP.seq (WP.region (WPr.silx [3, 4] ⟨[(62, .S 0), (64, .I (w64 (v10_2 + (1 : Int))))], [(0, .own rS (setL' v9_2 v10_2 v0_2) true)], [], 2⟩ htt 3 (by kernel_rfl) (?_))))))
      obtain ⟨x21, hx21, h⟩ := ob h
      refine WPr.vw htt (l := none) (h := some (.i64, (w64 (v10_2 + (1 : Int))))) hx21 rfl rfl rfl rfl rfl rfl rfl rfl rfl rfl (WPr.sil htt 1 rfl (WPr.nil (WP.stl 2 hx21 rfl rfl rfl (?_))))
      cases h
      exact WP.ret htt Tryz.func192 [(0, .sl 2)] rfl rfl rfl rfl
    refine WP.block (?_)
    refine WP.loopI (σ := ByteArray × (List ByteArray) × Int) (fun st => ⟨[(0, .c (.s st.1)), (1, .c (.s sep_)), (2, .I sepSave_), (3, .I (w64 ((minI v3_1 (w64 ((s_.size : Int) + (1 : Int)))) - (1 : Int)))), (9, .S 0), (10, .I st.2.2)], [(0, .own rS st.2.1 true)], [], 1⟩) (fun n st => z192_l2 N s_ sep_ sepSave_ v3_1 n st.1 st.2.1 st.2.2) (r := r) (fun _ => rfl) ?_ (fun ih => ?_)
    · intro n2 ih4
      rintro ⟨v0_4, v9_4, v10_4⟩ h
      replace h : z192_l2 N s_ sep_ sepSave_ v3_1 (n2 + 1) v0_4 v9_4 v10_4 = some r := h
      unfold z192_l2 at h
      refine WP.seq (WP.seq (WP.region (WPr.silx [] ⟨[(0, .c (.s v0_4)), (1, .c (.s sep_)), (2, .I sepSave_), (3, .I (w64 ((minI v3_1 (w64 ((s_.size : Int) + (1 : Int)))) - (1 : Int)))), (9, .S 0), (10, .I v10_4), (36, .O (decide (v10_4 < (w64 ((minI v3_1 (w64 ((s_.size : Int) + (1 : Int)))) - (1 : Int))))))], [(0, .own rS v9_4 true)], [], 1⟩ htt 3 (by kernel_rfl) (WPr.nil (?_)))))
      rcases oc' h with ⟨hc, h⟩ | ⟨hc, h⟩
      · exact WP.condF hc rfl (WP.exit rfl (WP.sub [] (j2 (v0_4, v9_4, v10_4) h) rfl rfl rfl rfl))
      refine WP.condT hc rfl (WP.skip (WP.block (WP.seq (WP.region (WPr.sil htt 2 rfl (?_))))))
      obtain ⟨x38, hx38, h⟩ := ob h
      refine WPr.call (z195_ct N v0_4 sep_ _ hx38) [] [] rfl rfl rfl rfl rfl rfl rfl rfl (.inl rfl) rfl (WPr.silx [] ⟨[(0, .c (.s v0_4)), (1, .c (.s sep_)), (2, .I sepSave_), (3, .I (w64 ((minI v3_1 (w64 ((s_.size : Int) + (1 : Int)))) - (1 : Int)))), (9, .S 0), (10, .I v10_4), (11, .I x38)], [(0, .own rS v9_4 true)], [], 1⟩ htt 1 (by kernel_rfl) (WPr.nil (WP.seq (WP.seq (WP.region (WPr.sil htt 2 rfl (WPr.nil (?_))))))))
      rcases oc h with ⟨hc, h⟩ | ⟨hc, h⟩
      · exact WP.condT hc rfl (WP.exit rfl (WP.sub [] (j2 (v0_4, v9_4, v10_4) h) rfl rfl rfl rfl))
      refine WP.condF hc rfl (WP.skip (WP.seq (WP.region (WPr.silx [6, 7, 8] ⟨[(0, .c (.s v0_4)), (1, .c (.s sep_)), (2, .I sepSave_), (3, .I (w64 ((minI v3_1 (w64 ((s_.size : Int) + (1 : Int)))) - (1 : Int)))), (9, .S 0), (10, .I v10_4), (11, .I x38), (42, .S 0), (43, .I v10_4), (44, .c (.s v0_4)), (47, .I (w64 (x38 + sepSave_)))], [(0, .own rS v9_4 true)], [], 1⟩ htt 6 (by kernel_rfl) (?_)))))
      obtain ⟨x39, hx39, h⟩ := ob h
      refine WPr.ssl htt (l := none) (h := some (.i64, (w64 (x38 + sepSave_)))) hx39 rfl rfl rfl rfl rfl rfl rfl rfl rfl rfl (?_)
      obtain ⟨x40, hx40, h⟩ := ob h
      refine WPr.ixo htt hx40 rfl rfl rfl rfl rfl rfl rfl rfl rfl (WPr.sto oS htt x39 hx40 rfl rfl rfl rfl rfl rfl rfl rfl rfl rfl (by exact rfl) rfl (WPr.silx [] ⟨[(0, .c (.s v0_4)), (1, .c (.s sep_)), (2, .I sepSave_), (3, .I (w64 ((minI v3_1 (w64 ((s_.size : Int) + (1 : Int)))) - (1 : Int)))), (9, .S 0), (10, .I v10_4), (11, .I x38)], [(0, .own rS (setL' v9_4 v10_4 x39) true)], [], 2⟩ htt 0 (by kernel_rfl) (WPr.nil (WP.seq (WP.region (WPr.silx [5, 6] ⟨[(1, .c (.s sep_)), (2, .I sepSave_), (3, .I (w64 ((minI v3_1 (w64 ((s_.size : Int) + (1 : Int)))) - (1 : Int)))), (9, .S 0), (10, .I v10_4), (50, .c (.s v0_4)), (54, .I (w64 (x38 + (sep_.size : Int))))], [(0, .own rS (setL' v9_4 v10_4 x39) true)], [], 2⟩ htt 5 (by kernel_rfl) (?_)))))))
      obtain ⟨x41, hx41, h⟩ := ob h
      exact WPr.ssl htt (l := some (.i64, (w64 (x38 + (sep_.size : Int))))) (h := none) hx41 rfl rfl rfl rfl rfl rfl rfl rfl rfl rfl (WPr.sil htt 1 rfl (WPr.nil (WP.region (WPr.silx [] ⟨[(0, .c (.s x41)), (1, .c (.s sep_)), (2, .I sepSave_), (3, .I (w64 ((minI v3_1 (w64 ((s_.size : Int) + (1 : Int)))) - (1 : Int)))), (9, .S 0), (10, .I (w64 (v10_4 + (1 : Int))))], [(0, .own rS (setL' v9_4 v10_4 x39) true)], [], 2⟩ htt 3 (by kernel_rfl) (WPr.nil (WP.inBlock (WP.sub [] (ih4 (x41, (setL' v9_4 v10_4 x39), (w64 (v10_4 + (1 : Int)))) h) rfl rfl rfl rfl)))))))
    exact WP.sub [] (ih N (s_, x3, (0 : Int)) h) rfl rfl rfl rfl
  rcases oc' h with ⟨hc, h⟩ | ⟨hc, h⟩
  · exact WP.condF hc rfl (WP.skip (WP.sub [] (j1 n_ h) rfl rfl rfl rfl))
  refine WP.condT hc rfl (WP.region (WPr.sil htt 2 rfl (?_)))
  obtain ⟨x42, hx42, h⟩ := ob h
  exact WPr.call (z194_ct N s_ sep_ _ hx42) [] [] rfl rfl rfl rfl rfl rfl rfl rfl (.inl rfl) rfl (WPr.silx [] ⟨[(0, .c (.s s_)), (1, .c (.s sep_)), (2, .I sepSave_), (3, .I (w64 (x42 + (1 : Int)))), (8, .c .nil)], [], [], 0⟩ htt 2 (by kernel_rfl) (WPr.nil (WP.sub [] (j1 (w64 (x42 + (1 : Int))) h) rfl rfl rfl rfl)))
theorem z188_ct (N : Nat) (s_ : ByteArray) (sep_ : ByteArray) (r : (List ByteArray)) (h : z188 N s_ sep_ = some r) :
  Fn Tryz.prog 188 ⟨0, [.c (.s s_), .c (.s sep_)], [], [], 1, .S 0, [], [(0, .own rS r true)]⟩ := by
  refine Fn.intro _ _ Tryz.func188 rfl (by kernel_rfl) rfl (fun E F w => ?_)
  unfold z188 at h
  refine WP.seq (WP.region (WPr.sil htt 1 rfl (WPr.nil (WP.seq (WP.region (WPr.silx [2, 3] ⟨[(5, .c (.s s_)), (6, .c (.s sep_))], [], [], 0⟩ htt 2 (by kernel_rfl) (?_)))))))
  obtain ⟨x1, hx1, h⟩ := ob h
  refine WPr.call (z192_ct N s_ sep_ (0 : Int) (-1 : Int) _ hx1) [] [] rfl rfl rfl rfl rfl rfl rfl rfl (.inl rfl) rfl (WPr.silx [] ⟨[(4, .S 0)], [(0, .own rS x1 true)], [], 1⟩ htt 1 (by kernel_rfl) (WPr.nil (?_)))
  cases h
  exact WP.ret htt Tryz.func188 [(0, .sl 0)] rfl rfl rfl rfl
theorem z189_ct (N : Nat) (w_ : ByteArray) (r : Bool) (h : z189 N w_ = some r) :
  Fn Tryz.prog 189 ⟨0, [.c (.s w_)], [], [], 0, .O r, [], []⟩ := by
  refine Fn.intro _ _ Tryz.func189 rfl (by kernel_rfl) rfl (fun E F w => ?_)
  unfold z189 at h
  refine WP.seq (WP.region (WPr.sil htt 1 rfl (WPr.nil (WP.seq (WP.region (WPr.sil htt 1 rfl (?_)))))))
  obtain ⟨x1, hx1, h⟩ := ob h
  refine WPr.call (z120_ct N w_ _ hx1) [] [] rfl rfl rfl rfl rfl rfl rfl rfl (.inl rfl) rfl (WPr.silx [] ⟨[(2, .O (!x1))], [], [], 0⟩ htt 2 (by kernel_rfl) (WPr.nil (?_)))
  cases h
  exact WP.ret htt Tryz.func189 [] rfl rfl rfl rfl
theorem z191_0_ct (N : Nat) (s_ : (List ByteArray)) (r : Int) (h : z191_0 N s_ = some r) :
  Fn Tryz.prog 191 ⟨1, [.S 0, .c (.cl 189 [] [])], [(0, .sl rS s_)], [], 1, .I r, [], []⟩ := by
  refine Fn.intro _ _ Tryz.func191 rfl (by kernel_rfl) rfl (fun E F w => ?_)
  unfold z191_0 at h
  refine WP.seq (WP.region (WPr.sil htt 1 rfl (WPr.nil (WP.seq (WP.seq (WP.region (WPr.silx [] ⟨[(0, .S 0), (1, .c (.cl 189 [] [])), (4, .I (0 : Int)), (7, .I (s_.length : Int)), (8, .I (0 : Int))], [], [(0, .sl rS s_)], 1⟩ htt 3 (by kernel_rfl) (WPr.nil (?_)))))))))
  refine WP.cut (σ := Unit) (fun st => ⟨[], [], [(0, .sl rS s_)], 1⟩) (fun st => z191_0_k1 = some r) ?_ (fun j1 => ?_)
  · intro _ h
    replace h : z191_0_k1 = some r := h
    unfold z191_0_k1 at h
    refine WP.seq (WP.region (WPr.sil htt 1 rfl (WPr.nil (?_))))
    cases h
    exact WP.ret htt Tryz.func191 [] rfl rfl rfl rfl
  refine WP.block (?_)
  refine WP.loopI (σ := Int) (fun st => ⟨[(0, .S 0), (1, .c (.cl 189 [] [])), (7, .I (s_.length : Int)), (8, .I st)], [], [(0, .sl rS s_)], 1⟩) (fun n st => z191_0_l2 N s_ n st) (r := r) (fun _ => rfl) ?_ (fun ih => ?_)
  · intro n2 ih3
    intro v8_3 h
    replace h : z191_0_l2 N s_ (n2 + 1) v8_3 = some r := h
    unfold z191_0_l2 at h
    refine WP.seq (WP.region (WPr.sil htt 1 rfl (WPr.nil (WP.seq (?_)))))
    rcases oc' h with ⟨hc, h⟩ | ⟨hc, h⟩
    · exact WP.condF hc rfl (WP.exit rfl (WP.sub [] (j1 () h) rfl rfl rfl rfl))
    refine WP.condT hc rfl (WP.skip (WP.seq (WP.block (WP.seq (WP.region (WPr.silx [] ⟨[(0, .S 0), (1, .c (.cl 189 [] [])), (5, .I v8_3), (7, .I (s_.length : Int)), (8, .I v8_3)], [], [(0, .sl rS s_)], 1⟩ htt 2 (by kernel_rfl) (WPr.nil (WP.seq (WP.region (WPr.silx [3, 4, 5] ⟨[(0, .S 0), (1, .c (.cl 189 [] [])), (5, .I v8_3), (7, .I (s_.length : Int)), (8, .I v8_3), (11, .c (.cl 189 [] [])), (12, .S 0), (13, .I v8_3)], [], [(0, .sl rS s_)], 1⟩ htt 3 (by kernel_rfl) (?_)))))))))))
    obtain ⟨x17, hx17, h⟩ := ob h
    refine WPr.ix oS htt hx17 rfl rfl rfl rfl rfl rfl rfl rfl rfl (WPr.sil htt 1 rfl (?_))
    obtain ⟨x18, hx18, h⟩ := ob h
    refine WPr.callc (z189_ct N x17 _ hx18) [] [] rfl rfl rfl rfl rfl rfl rfl rfl rfl (.inl rfl) rfl (WPr.silx [] ⟨[(0, .S 0), (1, .c (.cl 189 [] [])), (5, .I v8_3), (7, .I (s_.length : Int)), (8, .I v8_3), (16, .O x18)], [], [(0, .sl rS s_)], 2⟩ htt 0 (by kernel_rfl) (WPr.nil (?_)))
    rcases oc h with ⟨hc, h⟩ | ⟨hc, h⟩
    · refine WP.condT hc rfl (WP.seq (WP.region (WPr.sil htt 2 rfl (WPr.nil (?_)))))
      cases h
      exact WP.ret htt Tryz.func191 [] rfl rfl rfl rfl
    exact WP.condF hc rfl (WP.skip (WP.inBlock (WP.region (WPr.sil htt 2 rfl (WPr.nil (WP.sub [] (ih3 (w64 (v8_3 + (1 : Int))) h) rfl rfl rfl rfl))))))
  exact WP.sub [] (ih N (0 : Int) h) rfl rfl rfl rfl
theorem z187_1_ct (N : Nat) (s_ : (List ByteArray)) (r : Bool) (h : z187_1 N s_ = some r) :
  Fn Tryz.prog 187 ⟨1, [.S 0, .c (.cl 189 [] [])], [(0, .sl rS s_)], [], 1, .O r, [], []⟩ := by
  refine Fn.intro _ _ Tryz.func187 rfl (by kernel_rfl) rfl (fun E F w => ?_)
  unfold z187_1 at h
  refine WP.seq (WP.region (WPr.sil htt 1 rfl (WPr.nil (WP.seq (WP.region (WPr.silx [2, 3, 4] ⟨[(5, .S 0), (6, .c (.cl 189 [] []))], [], [(0, .sl rS s_)], 1⟩ htt 2 (by kernel_rfl) (?_)))))))
  obtain ⟨x1, hx1, h⟩ := ob h
  refine WPr.call (z191_0_ct N s_ _ hx1) [(0, .sl 0)] [] rfl rfl rfl rfl rfl rfl rfl rfl (.inl rfl) rfl (WPr.silx [] ⟨[(4, .O (decide (x1 ≥ (0 : Int))))], [], [(0, .sl rS s_)], 1⟩ htt 2 (by kernel_rfl) (WPr.nil (?_)))
  cases h
  exact WP.ret htt Tryz.func187 [] rfl rfl rfl rfl
theorem z176_ct (N : Nat) (s_ : ByteArray) (r : Bool) (h : z176 N s_ = some r) :
  Fn Tryz.prog 176 ⟨0, [.c (.s s_)], [], [], 0, .O r, [], []⟩ := by
  refine Fn.intro _ _ Tryz.func176 rfl (by kernel_rfl) rfl (fun E F w => ?_)
  unfold z176 at h
  refine WP.seq (WP.region (WPr.sil htt 1 rfl (WPr.nil (WP.seq (WP.region (WPr.silx (rg 4 6) ⟨[(0, .c (.s s_)), (6, .O (decide ((s_.size : Int) ≤ (50 : Int))))], [], [], 0⟩ htt 4 (by kernel_rfl) (?_)))))))
  rcases oc' h with ⟨hc, h⟩ | ⟨hc, h⟩
  · refine WPr.kb 6 hc rfl (WPr.silx [] ⟨[(2, .O false)], [], [], 0⟩ htt 6 (by kernel_rfl) (WPr.nil (?_)))
    cases h
    exact WP.ret htt Tryz.func176 [] rfl rfl rfl rfl
  refine WPr.kb 6 hc rfl (WPr.sil htt 1 rfl (?_))
  obtain ⟨x1, hx1, h⟩ := ob h
  refine WPr.call (z188_ct N s_ (str [46]) _ hx1) [] [] rfl rfl rfl rfl rfl rfl rfl rfl (.inl rfl) rfl (WPr.silx [6, 7, 8, 9] ⟨[(6, .O true), (8, .S 0)], [(0, .own rS x1 true)], [], 1⟩ htt 0 (by kernel_rfl) (?_))
  obtain ⟨x2, hx2, h⟩ := ob h
  refine WPr.call (z187_1_ct N x1 _ hx2) [(0, .sl 0)] [0] rfl rfl rfl rfl rfl rfl rfl rfl (.inr ⟨rfl, trivial⟩) rfl (WPr.silx [] ⟨[(2, .O (!x2))], [], [], 1⟩ htt 3 (by kernel_rfl) (WPr.nil (?_)))
  cases h
  exact WP.ret htt Tryz.func176 [] rfl rfl rfl rfl
theorem z178_2_ct (N : Nat) (x_ : T0) (c0_ : T0) (r : Bool) (h : z178_2 N x_ c0_ = some r) :
  Fn Tryz.prog 178 ⟨7, [.a (cC0 0 1 2 x_), .B 3 0], (vV0 0 1 2 x_ (vV0 4 5 6 c0_ [])), [(3, .box (cC0 4 5 6 c0_) 94)], 7, .O r, [], [(3, .box (cC0 4 5 6 c0_) 94)]⟩ := by
  refine Fn.intro _ _ Tryz.func178 rfl (by kernel_rfl) rfl (fun E F w => ?_)
  unfold z178_2 at h
  refine WP.seq (WP.region (WPr.sil htt 2 rfl (WPr.nil (WP.seq (WP.region (WPr.silx [] ⟨[(3, .O (x_.Name.toList == c0_.Name.toList))], [(3, .box (cC0 4 5 6 c0_) 94)], (vV0 0 1 2 x_ (vV0 4 5 6 c0_ [])), 8⟩ htt 6 (by kernel_rfl) (WPr.nil (?_))))))))
  cases h
  exact WP.ret htt Tryz.func178 [] rfl rfl rfl rfl
theorem z77_3_ct (N : Nat) (s_ : (List T0)) (c0_ : T0) (r : Int) (h : z77_3 N s_ c0_ = some r) :
  Fn Tryz.prog 77 ⟨5, [.S 0, .c (.cl 178 [] [1])], ((0, .sl rR0 s_) :: vV0 2 3 4 c0_ []), [(1, .box (cC0 2 3 4 c0_) 94)], 5, .I r, [], [(1, .box (cC0 2 3 4 c0_) 94)]⟩ := by
  refine Fn.intro _ _ Tryz.func77 rfl (by kernel_rfl) rfl (fun E F w => ?_)
  unfold z77_3 at h
  refine WP.seq (WP.region (WPr.sil htt 1 rfl (WPr.nil (WP.seq (WP.seq (WP.region (WPr.silx [] ⟨[(0, .S 0), (1, .c (.cl 178 [] [1])), (4, .I (0 : Int)), (7, .I (s_.length : Int)), (8, .I (0 : Int))], [(1, .box (cC0 2 3 4 c0_) 94)], ((0, .sl rR0 s_) :: vV0 2 3 4 c0_ []), 5⟩ htt 3 (by kernel_rfl) (WPr.nil (?_)))))))))
  refine WP.cut (σ := Unit) (fun st => ⟨[], [(1, .box (cC0 2 3 4 c0_) 94)], ((0, .sl rR0 s_) :: vV0 2 3 4 c0_ []), 5⟩) (fun st => z77_3_k1 = some r) ?_ (fun j1 => ?_)
  · intro _ h
    replace h : z77_3_k1 = some r := h
    unfold z77_3_k1 at h
    refine WP.seq (WP.region (WPr.sil htt 1 rfl (WPr.nil (?_))))
    cases h
    exact WP.ret htt Tryz.func77 [] rfl rfl rfl rfl
  refine WP.block (?_)
  refine WP.loopI (σ := Int) (fun st => ⟨[(0, .S 0), (1, .c (.cl 178 [] [1])), (7, .I (s_.length : Int)), (8, .I st)], [(1, .box (cC0 2 3 4 c0_) 94)], ((0, .sl rR0 s_) :: vV0 2 3 4 c0_ []), 5⟩) (fun n st => z77_3_l2 N s_ c0_ n st) (r := r) (fun _ => rfl) ?_ (fun ih => ?_)
  · intro n2 ih3
    intro v8_3 h
    replace h : z77_3_l2 N s_ c0_ (n2 + 1) v8_3 = some r := h
    unfold z77_3_l2 at h
    refine WP.seq (WP.region (WPr.sil htt 1 rfl (WPr.nil (WP.seq (?_)))))
    rcases oc' h with ⟨hc, h⟩ | ⟨hc, h⟩
    · exact WP.condF hc rfl (WP.exit rfl (WP.sub [] (j1 () h) rfl rfl rfl rfl))
    refine WP.condT hc rfl (WP.skip (WP.seq (WP.block (WP.seq (WP.region (WPr.silx [] ⟨[(0, .S 0), (1, .c (.cl 178 [] [1])), (5, .I v8_3), (7, .I (s_.length : Int)), (8, .I v8_3)], [(1, .box (cC0 2 3 4 c0_) 94)], ((0, .sl rR0 s_) :: vV0 2 3 4 c0_ []), 5⟩ htt 2 (by kernel_rfl) (WPr.nil (WP.seq (WP.region (WPr.silx [3, 4, 5] ⟨[(0, .S 0), (1, .c (.cl 178 [] [1])), (5, .I v8_3), (7, .I (s_.length : Int)), (8, .I v8_3), (11, .c (.cl 178 [] [1])), (12, .S 0), (13, .I v8_3)], [(1, .box (cC0 2 3 4 c0_) 94)], ((0, .sl rR0 s_) :: vV0 2 3 4 c0_ []), 5⟩ htt 3 (by kernel_rfl) (?_)))))))))))
    obtain ⟨x17, hx17, h⟩ := ob h
    refine WPr.ix oO0 htt hx17 rfl rfl rfl rfl rfl rfl rfl rfl rfl (WPr.sil htt 1 rfl (?_))
    obtain ⟨x18, hx18, h⟩ := ob h
    refine WPr.callc (z178_2_ct N x17 c0_ _ hx18) [(0, .sl 6), (1, .sl 7), (2, .sl 8), (3, .bp 1 0), (4, .sl 2), (5, .sl 3), (6, .sl 4)] [] rfl rfl rfl rfl rfl rfl rfl rfl rfl (.inl rfl) rfl (WPr.silx [] ⟨[(0, .S 0), (1, .c (.cl 178 [] [1])), (5, .I v8_3), (7, .I (s_.length : Int)), (8, .I v8_3), (16, .O x18)], [(1, .box (cC0 2 3 4 c0_) 94)], ((0, .sl rR0 s_) :: vV0 2 3 4 c0_ []), 9⟩ htt 0 (by kernel_rfl) (WPr.nil (?_)))
    rcases oc h with ⟨hc, h⟩ | ⟨hc, h⟩
    · refine WP.condT hc rfl (WP.seq (WP.region (WPr.sil htt 2 rfl (WPr.nil (?_)))))
      cases h
      exact WP.ret htt Tryz.func77 [] rfl rfl rfl rfl
    exact WP.condF hc rfl (WP.skip (WP.inBlock (WP.region (WPr.sil htt 2 rfl (WPr.nil (WP.sub [] (ih3 (w64 (v8_3 + (1 : Int))) h) rfl rfl rfl rfl))))))
  exact WP.sub [] (ih N (0 : Int) h) rfl rfl rfl rfl
theorem z177_4_ct (N : Nat) (s_ : (List T0)) (c0_ : T0) (r : Bool) (h : z177_4 N s_ c0_ = some r) :
  Fn Tryz.prog 177 ⟨5, [.S 0, .c (.cl 178 [] [1])], ((0, .sl rR0 s_) :: vV0 2 3 4 c0_ []), [(1, .box (cC0 2 3 4 c0_) 94)], 5, .O r, [], [(1, .box (cC0 2 3 4 c0_) 94)]⟩ := by
  refine Fn.intro _ _ Tryz.func177 rfl (by kernel_rfl) rfl (fun E F w => ?_)
  unfold z177_4 at h
  refine WP.seq (WP.region (WPr.sil htt 1 rfl (WPr.nil (WP.seq (WP.region (WPr.silx [2, 3, 4] ⟨[(5, .S 0), (6, .c (.cl 178 [] [1]))], [(1, .box (cC0 2 3 4 c0_) 94)], ((0, .sl rR0 s_) :: vV0 2 3 4 c0_ []), 5⟩ htt 2 (by kernel_rfl) (?_)))))))
  obtain ⟨x1, hx1, h⟩ := ob h
  refine WPr.call (z77_3_ct N s_ c0_ _ hx1) [(0, .sl 0), (1, .bp 1 0), (2, .sl 2), (3, .sl 3), (4, .sl 4)] [] rfl rfl rfl rfl rfl rfl rfl rfl (.inl rfl) rfl (WPr.silx [] ⟨[(4, .O (decide (x1 ≥ (0 : Int))))], [(1, .box (cC0 2 3 4 c0_) 94)], ((0, .sl rR0 s_) :: vV0 2 3 4 c0_ []), 5⟩ htt 2 (by kernel_rfl) (WPr.nil (?_)))
  cases h
  exact WP.ret htt Tryz.func177 [] rfl rfl rfl rfl
theorem z179_ct (N : Nat) (s_ : T7) (r : Bool) (h : z179 N s_ = some r) :
  Fn Tryz.prog 179 ⟨0, [.a (cC7 s_)], [], [], 0, .O r, [], []⟩ := by
  refine Fn.intro _ _ Tryz.func179 rfl (by kernel_rfl) rfl (fun E F w => ?_)
  unfold z179 at h
  refine WP.seq (WP.region (WPr.sil htt 2 rfl (WPr.nil (WP.seq (WP.seq (WP.region (WPr.silx [] ⟨[(1, .B 0 0), (2, .O false), (4, .I s_.Kind)], [(0, .box (cC7 s_) 139)], [], 1⟩ htt 2 (by kernel_rfl) (WPr.nil (WP.block (WP.seq (WP.region (WPr.sil htt 2 rfl (WPr.nil (?_))))))))))))))
  rcases oc h with ⟨hc, h⟩ | ⟨hc, h⟩
  · refine WP.condT hc rfl (WP.seq (WP.region (WPr.silx (rg 4 12) ⟨[(1, .B 0 0), (10, .O (decide (s_.Lo ≥ (-1000 : Int))))], [(0, .box (cC7 s_) 139)], [], 1⟩ htt 4 (by kernel_rfl) (?_))))
    rcases oc' h with ⟨hc, h⟩ | ⟨hc, h⟩
    · refine WPr.kb 10 hc rfl (WPr.silx [] ⟨[(2, .O false)], [], [], 1⟩ htt 12 (by kernel_rfl) (WPr.nil (?_)))
      cases h
      exact WP.ret htt Tryz.func179 [] rfl rfl rfl rfl
    refine WPr.kb 10 hc rfl (WPr.silx [11, 12, 13, 14, 15] ⟨[(1, .B 0 0), (17, .O (decide (s_.Lo ≤ s_.Hi)))], [(0, .box (cC7 s_) 139)], [], 1⟩ htt 7 (by kernel_rfl) (?_))
    rcases oc h with ⟨hc, h⟩ | ⟨hc, h⟩
    · refine WPr.kb 17 hc rfl (WPr.silx [] ⟨[(2, .O (decide (s_.Hi ≤ (1000 : Int))))], [], [], 1⟩ htt 5 (by kernel_rfl) (WPr.nil (?_)))
      cases h
      exact WP.ret htt Tryz.func179 [] rfl rfl rfl rfl
    refine WPr.kb 17 hc rfl (WPr.silx [] ⟨[(2, .O false)], [], [], 1⟩ htt 5 (by kernel_rfl) (WPr.nil (?_)))
    cases h
    exact WP.ret htt Tryz.func179 [] rfl rfl rfl rfl
  refine WP.condF hc rfl (WP.seq (WP.region (WPr.silx [] ⟨[(1, .B 0 0), (2, .O false), (22, .O (s_.Kind == (2 : Int)))], [(0, .box (cC7 s_) 139)], [], 1⟩ htt 2 (by kernel_rfl) (WPr.nil (?_)))))
  rcases oc' h with ⟨hc, h⟩ | ⟨hc, h⟩
  · refine WP.condF hc rfl (WP.skip (WP.inBlock (WP.seq (WP.region (WPr.sil htt 1 rfl (WPr.nil (?_)))))))
    cases h
    exact WP.ret htt Tryz.func179 [] rfl rfl rfl rfl
  refine WP.condT hc rfl (WP.seq (WP.region (WPr.silx (rg 4 12) ⟨[(1, .B 0 0), (27, .O (decide (s_.Lo ≥ (0 : Int))))], [(0, .box (cC7 s_) 139)], [], 1⟩ htt 4 (by kernel_rfl) (?_))))
  rcases oc' h with ⟨hc, h⟩ | ⟨hc, h⟩
  · refine WPr.kb 27 hc rfl (WPr.silx [] ⟨[(2, .O false)], [], [], 1⟩ htt 12 (by kernel_rfl) (WPr.nil (?_)))
    cases h
    exact WP.ret htt Tryz.func179 [] rfl rfl rfl rfl
  refine WPr.kb 27 hc rfl (WPr.silx [11, 12, 13, 14, 15] ⟨[(1, .B 0 0), (34, .O (decide (s_.Lo ≤ s_.Hi)))], [(0, .box (cC7 s_) 139)], [], 1⟩ htt 7 (by kernel_rfl) (?_))
  rcases oc h with ⟨hc, h⟩ | ⟨hc, h⟩
  · refine WPr.kb 34 hc rfl (WPr.silx [] ⟨[(2, .O (decide (s_.Hi ≤ (40 : Int))))], [], [], 1⟩ htt 5 (by kernel_rfl) (WPr.nil (?_)))
    cases h
    exact WP.ret htt Tryz.func179 [] rfl rfl rfl rfl
  refine WPr.kb 34 hc rfl (WPr.silx [] ⟨[(2, .O false)], [], [], 1⟩ htt 5 (by kernel_rfl) (WPr.nil (?_)))
  cases h
  exact WP.ret htt Tryz.func179 [] rfl rfl rfl rfl
theorem z181_5_ct (N : Nat) (x_ : T3) (c0_ : T3) (r : Bool) (h : z181_5 N x_ c0_ = some r) :
  Fn Tryz.prog 181 ⟨1, [.a (cC3 x_), .B 0 0], [], [(0, .box (cC3 c0_) 141)], 1, .O r, [], [(0, .box (cC3 c0_) 141)]⟩ := by
  refine Fn.intro _ _ Tryz.func181 rfl (by kernel_rfl) rfl (fun E F w => ?_)
  unfold z181_5 at h
  refine WP.seq (WP.region (WPr.sil htt 2 rfl (WPr.nil (WP.seq (WP.region (WPr.silx [] ⟨[(3, .O (x_.Name.toList == c0_.Name.toList))], [(0, .box (cC3 c0_) 141)], [], 2⟩ htt 6 (by kernel_rfl) (WPr.nil (?_))))))))
  cases h
  exact WP.ret htt Tryz.func181 [] rfl rfl rfl rfl
theorem z190_6_ct (N : Nat) (s_ : (List T3)) (c0_ : T3) (r : Int) (h : z190_6 N s_ c0_ = some r) :
  Fn Tryz.prog 190 ⟨2, [.S 0, .c (.cl 181 [] [1])], [(0, .sl rR3 s_)], [(1, .box (cC3 c0_) 141)], 2, .I r, [], [(1, .box (cC3 c0_) 141)]⟩ := by
  refine Fn.intro _ _ Tryz.func190 rfl (by kernel_rfl) rfl (fun E F w => ?_)
  unfold z190_6 at h
  refine WP.seq (WP.region (WPr.sil htt 1 rfl (WPr.nil (WP.seq (WP.seq (WP.region (WPr.silx [] ⟨[(0, .S 0), (1, .c (.cl 181 [] [1])), (4, .I (0 : Int)), (7, .I (s_.length : Int)), (8, .I (0 : Int))], [(1, .box (cC3 c0_) 141)], [(0, .sl rR3 s_)], 2⟩ htt 3 (by kernel_rfl) (WPr.nil (?_)))))))))
  refine WP.cut (σ := Unit) (fun st => ⟨[], [(1, .box (cC3 c0_) 141)], [(0, .sl rR3 s_)], 2⟩) (fun st => z190_6_k1 = some r) ?_ (fun j1 => ?_)
  · intro _ h
    replace h : z190_6_k1 = some r := h
    unfold z190_6_k1 at h
    refine WP.seq (WP.region (WPr.sil htt 1 rfl (WPr.nil (?_))))
    cases h
    exact WP.ret htt Tryz.func190 [] rfl rfl rfl rfl
  refine WP.block (?_)
  refine WP.loopI (σ := Int) (fun st => ⟨[(0, .S 0), (1, .c (.cl 181 [] [1])), (7, .I (s_.length : Int)), (8, .I st)], [(1, .box (cC3 c0_) 141)], [(0, .sl rR3 s_)], 2⟩) (fun n st => z190_6_l2 N s_ c0_ n st) (r := r) (fun _ => rfl) ?_ (fun ih => ?_)
  · intro n2 ih3
    intro v8_3 h
    replace h : z190_6_l2 N s_ c0_ (n2 + 1) v8_3 = some r := h
    unfold z190_6_l2 at h
    refine WP.seq (WP.region (WPr.sil htt 1 rfl (WPr.nil (WP.seq (?_)))))
    rcases oc' h with ⟨hc, h⟩ | ⟨hc, h⟩
    · exact WP.condF hc rfl (WP.exit rfl (WP.sub [] (j1 () h) rfl rfl rfl rfl))
    refine WP.condT hc rfl (WP.skip (WP.seq (WP.block (WP.seq (WP.region (WPr.silx [] ⟨[(0, .S 0), (1, .c (.cl 181 [] [1])), (5, .I v8_3), (7, .I (s_.length : Int)), (8, .I v8_3)], [(1, .box (cC3 c0_) 141)], [(0, .sl rR3 s_)], 2⟩ htt 2 (by kernel_rfl) (WPr.nil (WP.seq (WP.region (WPr.silx [3, 4, 5] ⟨[(0, .S 0), (1, .c (.cl 181 [] [1])), (5, .I v8_3), (7, .I (s_.length : Int)), (8, .I v8_3), (11, .c (.cl 181 [] [1])), (12, .S 0), (13, .I v8_3)], [(1, .box (cC3 c0_) 141)], [(0, .sl rR3 s_)], 2⟩ htt 3 (by kernel_rfl) (?_)))))))))))
    obtain ⟨x17, hx17, h⟩ := ob h
    refine WPr.ix oO3 htt hx17 rfl rfl rfl rfl rfl rfl rfl rfl rfl (WPr.sil htt 1 rfl (?_))
    obtain ⟨x18, hx18, h⟩ := ob h
    refine WPr.callc (z181_5_ct N x17 c0_ _ hx18) [(0, .bp 1 0)] [] rfl rfl rfl rfl rfl rfl rfl rfl rfl (.inl rfl) rfl (WPr.silx [] ⟨[(0, .S 0), (1, .c (.cl 181 [] [1])), (5, .I v8_3), (7, .I (s_.length : Int)), (8, .I v8_3), (16, .O x18)], [(1, .box (cC3 c0_) 141)], [(0, .sl rR3 s_)], 3⟩ htt 0 (by kernel_rfl) (WPr.nil (?_)))
    rcases oc h with ⟨hc, h⟩ | ⟨hc, h⟩
    · refine WP.condT hc rfl (WP.seq (WP.region (WPr.sil htt 2 rfl (WPr.nil (?_)))))
      cases h
      exact WP.ret htt Tryz.func190 [] rfl rfl rfl rfl
    exact WP.condF hc rfl (WP.skip (WP.inBlock (WP.region (WPr.sil htt 2 rfl (WPr.nil (WP.sub [] (ih3 (w64 (v8_3 + (1 : Int))) h) rfl rfl rfl rfl))))))
  exact WP.sub [] (ih N (0 : Int) h) rfl rfl rfl rfl
theorem z180_7_ct (N : Nat) (s_ : (List T3)) (c0_ : T3) (r : Bool) (h : z180_7 N s_ c0_ = some r) :
  Fn Tryz.prog 180 ⟨2, [.S 0, .c (.cl 181 [] [1])], [(0, .sl rR3 s_)], [(1, .box (cC3 c0_) 141)], 2, .O r, [], [(1, .box (cC3 c0_) 141)]⟩ := by
  refine Fn.intro _ _ Tryz.func180 rfl (by kernel_rfl) rfl (fun E F w => ?_)
  unfold z180_7 at h
  refine WP.seq (WP.region (WPr.sil htt 1 rfl (WPr.nil (WP.seq (WP.region (WPr.silx [2, 3, 4] ⟨[(5, .S 0), (6, .c (.cl 181 [] [1]))], [(1, .box (cC3 c0_) 141)], [(0, .sl rR3 s_)], 2⟩ htt 2 (by kernel_rfl) (?_)))))))
  obtain ⟨x1, hx1, h⟩ := ob h
  refine WPr.call (z190_6_ct N s_ c0_ _ hx1) [(0, .sl 0), (1, .bp 1 0)] [] rfl rfl rfl rfl rfl rfl rfl rfl (.inl rfl) rfl (WPr.silx [] ⟨[(4, .O (decide (x1 ≥ (0 : Int))))], [(1, .box (cC3 c0_) 141)], [(0, .sl rR3 s_)], 2⟩ htt 2 (by kernel_rfl) (WPr.nil (?_)))
  cases h
  exact WP.ret htt Tryz.func180 [] rfl rfl rfl rfl
theorem z182_ct (N : Nat) (g_ : T5) (all_ : (List T3)) (r : Bool) (h : z182 N g_ all_ = some r) :
  Fn Tryz.prog 182 ⟨3, [.a [.sl 0, .sl 1], .S 2], [(0, .sl rR1 g_.Diffs), (1, .sl (rP (rI .i64) (rI .i64)) g_.Equals), (2, .sl rR3 all_)], [], 3, .O r, [], []⟩ := by
  refine Fn.intro _ _ Tryz.func182 rfl (by kernel_rfl) rfl (fun E F w => ?_)
  unfold z182 at h
  refine WP.seq (WP.region (WPr.sil htt 2 rfl (WPr.nil (WP.seq (WP.seq (WP.region (WPr.silx [5, 6, 7, 8, 9] ⟨[(1, .S 2), (2, .B 3 0), (4, .O false), (15, .O (decide ((g_.Diffs.length : Int) > (20 : Int))))], [(3, .box [.sl 0, .sl 1] 92)], [(0, .sl rR1 g_.Diffs), (1, .sl (rP (rI .i64) (rI .i64)) g_.Equals), (2, .sl rR3 all_)], 4⟩ htt 5 (by kernel_rfl) (?_))))))))
  rcases oc h with ⟨hc, h⟩ | ⟨hc, h⟩
  · refine WPr.kb 15 hc rfl (WPr.silx [] ⟨[(1, .S 2), (2, .B 3 0), (4, .O false), (20, .O true)], [(3, .box [.sl 0, .sl 1] 92)], [(0, .sl rR1 g_.Diffs), (1, .sl (rP (rI .i64) (rI .i64)) g_.Equals), (2, .sl rR3 all_)], 4⟩ htt 5 (by kernel_rfl) (WPr.nil (WP.condT rfl rfl (WP.seq (WP.region (WPr.sil htt 1 rfl (WPr.nil (?_))))))))
    cases h
    exact WP.ret htt Tryz.func182 [] rfl rfl rfl rfl
  refine WPr.kb 15 hc rfl (WPr.silx [] ⟨[(1, .S 2), (2, .B 3 0), (4, .O false), (20, .O (decide ((g_.Equals.length : Int) > (20 : Int))))], [(3, .box [.sl 0, .sl 1] 92)], [(0, .sl rR1 g_.Diffs), (1, .sl (rP (rI .i64) (rI .i64)) g_.Equals), (2, .sl rR3 all_)], 4⟩ htt 5 (by kernel_rfl) (WPr.nil (?_)))
  rcases oc h with ⟨hc, h⟩ | ⟨hc, h⟩
  · refine WP.condT hc rfl (WP.seq (WP.region (WPr.sil htt 1 rfl (WPr.nil (?_)))))
    cases h
    exact WP.ret htt Tryz.func182 [] rfl rfl rfl rfl
  refine WP.condF hc rfl (WP.skip (WP.seq (WP.seq (WP.region (WPr.silx [] ⟨[(1, .S 2), (2, .B 3 0), (4, .O false), (22, .S 0), (23, .I (g_.Diffs.length : Int)), (24, .I (0 : Int))], [(3, .box [.sl 0, .sl 1] 92)], [(0, .sl rR1 g_.Diffs), (1, .sl (rP (rI .i64) (rI .i64)) g_.Equals), (2, .sl rR3 all_)], 4⟩ htt 4 (by kernel_rfl) (WPr.nil (?_)))))))
  refine WP.cut (σ := Unit) (fun st => ⟨[(1, .S 2), (2, .B 3 0)], [(3, .box [.sl 0, .sl 1] 92)], [(0, .sl rR1 g_.Diffs), (1, .sl (rP (rI .i64) (rI .i64)) g_.Equals), (2, .sl rR3 all_)], 4⟩) (fun st => z182_k5 N g_ all_ = some r) ?_ (fun j1 => ?_)
  · intro _ h
    replace h : z182_k5 N g_ all_ = some r := h
    unfold z182_k5 at h
    refine WP.seq (WP.seq (WP.region (WPr.silx [] ⟨[(1, .S 2), (56, .S 1), (57, .I (g_.Equals.length : Int)), (58, .I (0 : Int))], [], [(0, .sl rR1 g_.Diffs), (1, .sl (rP (rI .i64) (rI .i64)) g_.Equals), (2, .sl rR3 all_)], 4⟩ htt 4 (by kernel_rfl) (WPr.nil (?_)))))
    refine WP.cut (σ := Unit) (fun st => ⟨[], [], [(0, .sl rR1 g_.Diffs), (1, .sl (rP (rI .i64) (rI .i64)) g_.Equals), (2, .sl rR3 all_)], 4⟩) (fun st => z182_k1 = some r) ?_ (fun j3 => ?_)
    · intro _ h
      replace h : z182_k1 = some r := h
      unfold z182_k1 at h
      refine WP.seq (WP.region (WPr.sil htt 1 rfl (WPr.nil (?_))))
      cases h
      exact WP.ret htt Tryz.func182 [] rfl rfl rfl rfl
    refine WP.block (?_)
    refine WP.loopI (σ := Int) (fun st => ⟨[(1, .S 2), (56, .S 1), (57, .I (g_.Equals.length : Int)), (58, .I st)], [], [(0, .sl rR1 g_.Diffs), (1, .sl (rP (rI .i64) (rI .i64)) g_.Equals), (2, .sl rR3 all_)], 4⟩) (fun n st => z182_l2 N g_ all_ n st) (r := r) (fun _ => rfl) ?_ (fun ih => ?_)
    · intro n13 ih14
      intro v58_14 h
      replace h : z182_l2 N g_ all_ (n13 + 1) v58_14 = some r := h
      unfold z182_l2 at h
      refine WP.seq (WP.region (WPr.sil htt 1 rfl (WPr.nil (WP.seq (?_)))))
      rcases oc' h with ⟨hc, h⟩ | ⟨hc, h⟩
      · exact WP.condF hc rfl (WP.exit rfl (WP.sub [] (j3 () h) rfl rfl rfl rfl))
      refine WP.condT hc rfl (WP.skip (WP.seq (WP.block (WP.seq (WP.region (?_))))))
      obtain ⟨x127, hx127, h⟩ := ob h
      refine WPr.ix (oP (oI .i64) (oI .i64)) htt hx127 rfl rfl rfl rfl rfl rfl rfl rfl rfl (WPr.silx [] ⟨[(1, .S 2), (8, .B 5 0), (56, .S 1), (57, .I (g_.Equals.length : Int)), (58, .I v58_14)], [(5, .box [.I x127.1, .I x127.2] 146)], [(0, .sl rR1 g_.Diffs), (1, .sl (rP (rI .i64) (rI .i64)) g_.Equals), (2, .sl rR3 all_)], 6⟩ htt 3 (by kernel_rfl) (WPr.nil (WP.seq (WP.region (WPr.sil htt 2 rfl (WPr.nil (?_)))))))
      refine WP.cut (σ := Unit) (fun st => ⟨[(1, .S 2), (56, .S 1), (57, .I (g_.Equals.length : Int)), (58, .I v58_14)], [], [(0, .sl rR1 g_.Diffs), (1, .sl (rP (rI .i64) (rI .i64)) g_.Equals), (2, .sl rR3 all_)], 6⟩) (fun st => z182_k3 v58_14 (z182_l2 N g_ all_ n13) = some r) ?_ (fun j21 => ?_)
      · intro _ h
        replace h : z182_k3 v58_14 (z182_l2 N g_ all_ n13) = some r := h
        unfold z182_k3 at h
        exact WP.inBlock (WP.region (WPr.sil htt 2 rfl (WPr.nil (WP.sub [] (ih14 (w64 (v58_14 + (1 : Int))) h) rfl rfl rfl rfl))))
      refine WP.block (?_)
      refine WP.loopI (σ := Int) (fun st => ⟨[(1, .S 2), (56, .S 1), (57, .I (g_.Equals.length : Int)), (58, .I v58_14), (62, .a [.I x127.1, .I x127.2]), (63, .I st)], [], [(0, .sl rR1 g_.Diffs), (1, .sl (rP (rI .i64) (rI .i64)) g_.Equals), (2, .sl rR3 all_)], 6⟩) (fun n st => z182_l4 all_ v58_14 (z182_l2 N g_ all_ n13) x127 n st) (r := r) (fun _ => rfl) ?_ (fun ih => ?_)
      · intro n15 ih23
        intro v63_23 h
        replace h : z182_l4 all_ v58_14 (z182_l2 N g_ all_ n13) x127 (n15 + 1) v63_23 = some r := h
        unfold z182_l4 at h
        refine WP.seq (WP.region (WPr.sil htt 1 rfl (WPr.nil (WP.seq (?_)))))
        rcases oc' h with ⟨hc, h⟩ | ⟨hc, h⟩
        · exact WP.condF hc rfl (WP.exit rfl (WP.sub [] (j21 () h) rfl rfl rfl rfl))
        refine WP.condT hc rfl (WP.skip (WP.seq (WP.block (WP.seq (WP.region (?_))))))
        obtain ⟨x142, hx142, h⟩ := ob h
        refine WPr.ax (len := 2) (el := 3) (SC.i .i64) ([x127.1, x127.2] : List Int) hx142 rfl rfl rfl rfl (by kernel_rfl) (by kernel_rfl) (by kernel_rfl) (by kernel_rfl) rfl rfl rfl rfl (WPr.silx [] ⟨[(1, .S 2), (10, .I x142), (56, .S 1), (57, .I (g_.Equals.length : Int)), (58, .I v58_14), (62, .a [.I x127.1, .I x127.2]), (63, .I v63_23)], [], [(0, .sl rR1 g_.Diffs), (1, .sl (rP (rI .i64) (rI .i64)) g_.Equals), (2, .sl rR3 all_)], 6⟩ htt 1 (by kernel_rfl) (WPr.nil (WP.seq (WP.region (WPr.silx (rg 3 14) ⟨[(1, .S 2), (10, .I x142), (56, .S 1), (57, .I (g_.Equals.length : Int)), (58, .I v58_14), (62, .a [.I x127.1, .I x127.2]), (63, .I v63_23), (68, .O (decide (x142 < (0 : Int))))], [], [(0, .sl rR1 g_.Diffs), (1, .sl (rP (rI .i64) (rI .i64)) g_.Equals), (2, .sl rR3 all_)], 6⟩ htt 3 (by kernel_rfl) (?_))))))
        rcases oc h with ⟨hc, h⟩ | ⟨hc, h⟩
        · refine WPr.kb 68 hc rfl (WPr.silx [] ⟨[(1, .S 2), (56, .S 1), (57, .I (g_.Equals.length : Int)), (58, .I v58_14), (62, .a [.I x127.1, .I x127.2]), (63, .I v63_23), (82, .O true)], [], [(0, .sl rR1 g_.Diffs), (1, .sl (rP (rI .i64) (rI .i64)) g_.Equals), (2, .sl rR3 all_)], 6⟩ htt 14 (by kernel_rfl) (WPr.nil (WP.condT rfl rfl (WP.seq (WP.region (WPr.sil htt 1 rfl (WPr.nil (?_))))))))
          cases h
          exact WP.ret htt Tryz.func182 [] rfl rfl rfl rfl
        refine WPr.kb 68 hc rfl (WPr.silx (rg 9 8) ⟨[(1, .S 2), (10, .I x142), (56, .S 1), (57, .I (g_.Equals.length : Int)), (58, .I v58_14), (62, .a [.I x127.1, .I x127.2]), (63, .I v63_23), (74, .O (decide (x142 ≥ (all_.length : Int))))], [], [(0, .sl rR1 g_.Diffs), (1, .sl (rP (rI .i64) (rI .i64)) g_.Equals), (2, .sl rR3 all_)], 6⟩ htt 6 (by kernel_rfl) (?_))
        rcases oc h with ⟨hc, h⟩ | ⟨hc, h⟩
        · refine WPr.kb 74 hc rfl (WPr.silx [] ⟨[(1, .S 2), (56, .S 1), (57, .I (g_.Equals.length : Int)), (58, .I v58_14), (62, .a [.I x127.1, .I x127.2]), (63, .I v63_23), (82, .O true)], [], [(0, .sl rR1 g_.Diffs), (1, .sl (rP (rI .i64) (rI .i64)) g_.Equals), (2, .sl rR3 all_)], 6⟩ htt 8 (by kernel_rfl) (WPr.nil (WP.condT rfl rfl (WP.seq (WP.region (WPr.sil htt 1 rfl (WPr.nil (?_))))))))
          cases h
          exact WP.ret htt Tryz.func182 [] rfl rfl rfl rfl
        refine WPr.kb 74 hc rfl (WPr.sil htt 2 rfl (?_))
        obtain ⟨x143, hx143, h⟩ := ob h
        refine WPr.ix oO3 htt hx143 rfl rfl rfl rfl rfl rfl rfl rfl rfl (WPr.silx [] ⟨[(1, .S 2), (56, .S 1), (57, .I (g_.Equals.length : Int)), (58, .I v58_14), (62, .a [.I x127.1, .I x127.2]), (63, .I v63_23), (82, .O (x143.Sort'.Kind != (2 : Int)))], [], [(0, .sl rR1 g_.Diffs), (1, .sl (rP (rI .i64) (rI .i64)) g_.Equals), (2, .sl rR3 all_)], 7⟩ htt 5 (by kernel_rfl) (WPr.nil (?_)))
        rcases oc h with ⟨hc, h⟩ | ⟨hc, h⟩
        · refine WP.condT hc rfl (WP.seq (WP.region (WPr.sil htt 1 rfl (WPr.nil (?_)))))
          cases h
          exact WP.ret htt Tryz.func182 [] rfl rfl rfl rfl
        exact WP.condF hc rfl (WP.skip (WP.inBlock (WP.region (WPr.sil htt 2 rfl (WPr.nil (WP.sub [] (ih23 (w64 (v63_23 + (1 : Int))) h) rfl rfl rfl rfl))))))
      exact WP.sub [] (ih N (0 : Int) h) rfl rfl rfl rfl
    exact WP.sub [] (ih N (0 : Int) h) rfl rfl rfl rfl
  refine WP.block (?_)
  refine WP.loopI (σ := Int) (fun st => ⟨[(1, .S 2), (2, .B 3 0), (22, .S 0), (23, .I (g_.Diffs.length : Int)), (24, .I st)], [(3, .box [.sl 0, .sl 1] 92)], [(0, .sl rR1 g_.Diffs), (1, .sl (rP (rI .i64) (rI .i64)) g_.Equals), (2, .sl rR3 all_)], 4⟩) (fun n st => z182_l6 N g_ all_ n st) (r := r) (fun _ => rfl) ?_ (fun ih => ?_)
  · intro n16 ih24
    intro v24_24 h
    replace h : z182_l6 N g_ all_ (n16 + 1) v24_24 = some r := h
    unfold z182_l6 at h
    refine WP.seq (WP.region (WPr.sil htt 1 rfl (WPr.nil (WP.seq (?_)))))
    rcases oc' h with ⟨hc, h⟩ | ⟨hc, h⟩
    · exact WP.condF hc rfl (WP.exit rfl (WP.sub [] (j1 () h) rfl rfl rfl rfl))
    refine WP.condT hc rfl (WP.skip (WP.seq (WP.block (WP.seq (WP.region (?_))))))
    obtain ⟨x148, hx148, h⟩ := ob h
    refine WPr.ix oO1 htt hx148 rfl rfl rfl rfl rfl rfl rfl rfl rfl (WPr.silx [] ⟨[(1, .S 2), (2, .B 3 0), (6, .B 5 0), (22, .S 0), (23, .I (g_.Diffs.length : Int)), (24, .I v24_24)], [(3, .box [.sl 0, .sl 1] 92), (5, .box (cC1 x148) 144)], [(0, .sl rR1 g_.Diffs), (1, .sl (rP (rI .i64) (rI .i64)) g_.Equals), (2, .sl rR3 all_)], 6⟩ htt 3 (by kernel_rfl) (WPr.nil (WP.seq (WP.region (WPr.silx (rg 7 19) ⟨[(1, .S 2), (2, .B 3 0), (6, .B 5 0), (22, .S 0), (23, .I (g_.Diffs.length : Int)), (24, .I v24_24), (34, .O (decide ((minI x148.X x148.Y) < (-1 : Int))))], [(3, .box [.sl 0, .sl 1] 92), (5, .box (cC1 x148) 144)], [(0, .sl rR1 g_.Diffs), (1, .sl (rP (rI .i64) (rI .i64)) g_.Equals), (2, .sl rR3 all_)], 6⟩ htt 7 (by kernel_rfl) (?_))))))
    rcases oc h with ⟨hc, h⟩ | ⟨hc, h⟩
    · refine WPr.kb 34 hc rfl (WPr.silx [] ⟨[(1, .S 2), (2, .B 3 0), (22, .S 0), (23, .I (g_.Diffs.length : Int)), (24, .I v24_24), (53, .O true)], [(3, .box [.sl 0, .sl 1] 92)], [(0, .sl rR1 g_.Diffs), (1, .sl (rP (rI .i64) (rI .i64)) g_.Equals), (2, .sl rR3 all_)], 6⟩ htt 19 (by kernel_rfl) (WPr.nil (WP.condT rfl rfl (WP.seq (WP.region (WPr.sil htt 1 rfl (WPr.nil (?_))))))))
      cases h
      exact WP.ret htt Tryz.func182 [] rfl rfl rfl rfl
    refine WPr.kb 34 hc rfl (WPr.silx (rg 17 9) ⟨[(1, .S 2), (2, .B 3 0), (6, .B 5 0), (22, .S 0), (23, .I (g_.Diffs.length : Int)), (24, .I v24_24), (44, .O (decide ((maxI x148.X x148.Y) ≥ (all_.length : Int))))], [(3, .box [.sl 0, .sl 1] 92), (5, .box (cC1 x148) 144)], [(0, .sl rR1 g_.Diffs), (1, .sl (rP (rI .i64) (rI .i64)) g_.Equals), (2, .sl rR3 all_)], 6⟩ htt 10 (by kernel_rfl) (?_))
    rcases oc h with ⟨hc, h⟩ | ⟨hc, h⟩
    · refine WPr.kb 44 hc rfl (WPr.silx [] ⟨[(1, .S 2), (2, .B 3 0), (22, .S 0), (23, .I (g_.Diffs.length : Int)), (24, .I v24_24), (53, .O true)], [(3, .box [.sl 0, .sl 1] 92)], [(0, .sl rR1 g_.Diffs), (1, .sl (rP (rI .i64) (rI .i64)) g_.Equals), (2, .sl rR3 all_)], 6⟩ htt 9 (by kernel_rfl) (WPr.nil (WP.condT rfl rfl (WP.seq (WP.region (WPr.sil htt 1 rfl (WPr.nil (?_))))))))
      cases h
      exact WP.ret htt Tryz.func182 [] rfl rfl rfl rfl
    refine WPr.kb 44 hc rfl (WPr.silx [22, 23, 24, 25] ⟨[(1, .S 2), (2, .B 3 0), (6, .B 5 0), (22, .S 0), (23, .I (g_.Diffs.length : Int)), (24, .I v24_24), (49, .O (decide (x148.C < (-20000 : Int))))], [(3, .box [.sl 0, .sl 1] 92), (5, .box (cC1 x148) 144)], [(0, .sl rR1 g_.Diffs), (1, .sl (rP (rI .i64) (rI .i64)) g_.Equals), (2, .sl rR3 all_)], 6⟩ htt 5 (by kernel_rfl) (?_))
    rcases oc h with ⟨hc, h⟩ | ⟨hc, h⟩
    · refine WPr.kb 49 hc rfl (WPr.silx [] ⟨[(1, .S 2), (2, .B 3 0), (22, .S 0), (23, .I (g_.Diffs.length : Int)), (24, .I v24_24), (53, .O true)], [(3, .box [.sl 0, .sl 1] 92)], [(0, .sl rR1 g_.Diffs), (1, .sl (rP (rI .i64) (rI .i64)) g_.Equals), (2, .sl rR3 all_)], 6⟩ htt 4 (by kernel_rfl) (WPr.nil (WP.condT rfl rfl (WP.seq (WP.region (WPr.sil htt 1 rfl (WPr.nil (?_))))))))
      cases h
      exact WP.ret htt Tryz.func182 [] rfl rfl rfl rfl
    refine WPr.kb 49 hc rfl (WPr.silx [] ⟨[(1, .S 2), (2, .B 3 0), (22, .S 0), (23, .I (g_.Diffs.length : Int)), (24, .I v24_24), (53, .O (decide (x148.C > (20000 : Int))))], [(3, .box [.sl 0, .sl 1] 92)], [(0, .sl rR1 g_.Diffs), (1, .sl (rP (rI .i64) (rI .i64)) g_.Equals), (2, .sl rR3 all_)], 6⟩ htt 4 (by kernel_rfl) (WPr.nil (?_)))
    rcases oc h with ⟨hc, h⟩ | ⟨hc, h⟩
    · refine WP.condT hc rfl (WP.seq (WP.region (WPr.sil htt 1 rfl (WPr.nil (?_)))))
      cases h
      exact WP.ret htt Tryz.func182 [] rfl rfl rfl rfl
    exact WP.condF hc rfl (WP.skip (WP.inBlock (WP.region (WPr.sil htt 2 rfl (WPr.nil (WP.sub [] (ih24 (w64 (v24_24 + (1 : Int))) h) rfl rfl rfl rfl))))))
  exact WP.sub [] (ih N (0 : Int) h) rfl rfl rfl rfl
theorem z158_ct (N : Nat) (l_ : (List T0)) (r : Bool) (h : z158 N l_ = some r) :
  Fn Tryz.prog 158 ⟨1, [.S 0], [(0, .sl rR0 l_)], [], 1, .O r, [], []⟩ := by
  refine Fn.intro _ _ Tryz.func158 rfl (by kernel_rfl) rfl (fun E F w => ?_)
  unfold z158 at h
  refine WP.seq (WP.region (WPr.sil htt 1 rfl (WPr.nil (WP.seq (WP.seq (WP.region (WPr.silx [] ⟨[(0, .S 0), (2, .O false), (11, .O (decide ((l_.length : Int) > (40 : Int))))], [], [(0, .sl rR0 l_)], 1⟩ htt 3 (by kernel_rfl) (WPr.nil (?_)))))))))
  rcases oc h with ⟨hc, h⟩ | ⟨hc, h⟩
  · refine WP.condT hc rfl (WP.seq (WP.region (WPr.sil htt 1 rfl (WPr.nil (?_)))))
    cases h
    exact WP.ret htt Tryz.func158 [] rfl rfl rfl rfl
  refine WP.condF hc rfl (WP.skip (WP.seq (WP.region (WPr.sil htt 1 rfl (?_)))))
  obtain ⟨x1, hx1, h⟩ := ob h
  refine WPr.call (z175_ct N l_ _ hx1) [(0, .sl 0)] [] rfl rfl rfl rfl rfl rfl rfl rfl (.inl rfl) rfl (WPr.silx [] ⟨[(0, .S 0), (2, .O false), (3, .S 1)], [(1, .own rR3 x1 true)], [(0, .sl rR0 l_)], 2⟩ htt 1 (by kernel_rfl) (WPr.nil (WP.seq (WP.seq (WP.region (WPr.silx [] ⟨[(0, .S 0), (2, .O false), (3, .S 1), (16, .O (decide ((x1.length : Int) > (24 : Int))))], [(1, .own rR3 x1 true)], [(0, .sl rR0 l_)], 2⟩ htt 3 (by kernel_rfl) (WPr.nil (?_))))))))
  rcases oc h with ⟨hc, h⟩ | ⟨hc, h⟩
  · refine WP.condT hc rfl (WP.seq (WP.region (WPr.sil htt 1 rfl (WPr.nil (?_)))))
    cases h
    exact WP.ret htt Tryz.func158 [] rfl rfl rfl rfl
  refine WP.condF hc rfl (WP.skip (WP.seq (WP.region (WPr.sil htt 1 rfl (WPr.nil (WP.seq (WP.seq (WP.region (WPr.silx [] ⟨[(0, .S 0), (2, .O false), (3, .S 1), (4, .I (0 : Int)), (17, .S 0), (18, .I (l_.length : Int)), (19, .I (0 : Int))], [(1, .own rR3 x1 true)], [(0, .sl rR0 l_)], 2⟩ htt 3 (by kernel_rfl) (WPr.nil (?_)))))))))))
  refine WP.cut (σ := Unit) (fun st => ⟨[], [], [(0, .sl rR0 l_)], 2⟩) (fun st => z158_k1 = some r) ?_ (fun j1 => ?_)
  · intro _ h
    replace h : z158_k1 = some r := h
    unfold z158_k1 at h
    refine WP.seq (WP.region (WPr.sil htt 1 rfl (WPr.nil (?_))))
    cases h
    exact WP.ret htt Tryz.func158 [] rfl rfl rfl rfl
  refine WP.block (?_)
  refine WP.loopI (σ := Int × Int) (fun st => ⟨[(0, .S 0), (3, .S 1), (4, .I st.1), (17, .S 0), (18, .I (l_.length : Int)), (19, .I st.2)], [(1, .own rR3 x1 true)], [(0, .sl rR0 l_)], 2⟩) (fun n st => z158_l2 N l_ x1 n st.1 st.2) (r := r) (fun _ => rfl) ?_ (fun ih => ?_)
  · intro n12 ih12
    rintro ⟨v4_12, v19_12⟩ h
    replace h : z158_l2 N l_ x1 (n12 + 1) v4_12 v19_12 = some r := h
    unfold z158_l2 at h
    refine WP.seq (WP.region (WPr.sil htt 1 rfl (WPr.nil (WP.seq (?_)))))
    rcases oc' h with ⟨hc, h⟩ | ⟨hc, h⟩
    · exact WP.condF hc rfl (WP.exit rfl (WP.sub [] (j1 () h) rfl rfl rfl rfl))
    refine WP.condT hc rfl (WP.skip (WP.seq (WP.block (WP.seq (WP.region (WPr.sil htt 1 rfl (?_)))))))
    obtain ⟨x367, hx367, h⟩ := ob h
    refine WPr.ix oO0 htt hx367 rfl rfl rfl rfl rfl rfl rfl rfl rfl (WPr.silx [] ⟨[(0, .S 0), (3, .S 1), (4, .I v4_12), (5, .I v19_12), (6, .B 6 0), (17, .S 0), (18, .I (l_.length : Int)), (19, .I v19_12)], [(1, .own rR3 x1 true), (6, .box (cC0 3 4 5 x367) 94)], ((0, .sl rR0 l_) :: vV0 3 4 5 x367 []), 7⟩ htt 4 (by kernel_rfl) (WPr.nil (WP.seq (WP.seq (WP.region (WPr.sil htt 2 rfl (?_)))))))
    obtain ⟨x368, hx368, h⟩ := ob h
    refine WPr.call (z176_ct N x367.Name _ hx368) [] [] rfl rfl rfl rfl rfl rfl rfl rfl (.inl rfl) rfl (WPr.silx (rg 5 18) ⟨[(0, .S 0), (3, .S 1), (4, .I v4_12), (5, .I v19_12), (6, .B 6 0), (17, .S 0), (18, .I (l_.length : Int)), (19, .I v19_12), (28, .O (!x368))], [(1, .own rR3 x1 true), (6, .box (cC0 3 4 5 x367) 94)], ((0, .sl rR0 l_) :: vV0 3 4 5 x367 []), 7⟩ htt 2 (by kernel_rfl) (?_))
    rcases oc h with ⟨hc, h⟩ | ⟨hc, h⟩
    · refine WPr.kb 28 hc rfl (WPr.silx [] ⟨[(0, .S 0), (3, .S 1), (4, .I v4_12), (6, .B 6 0), (17, .S 0), (18, .I (l_.length : Int)), (19, .I v19_12), (46, .O true)], [(1, .own rR3 x1 true), (6, .box (cC0 3 4 5 x367) 94)], ((0, .sl rR0 l_) :: vV0 3 4 5 x367 []), 7⟩ htt 18 (by kernel_rfl) (WPr.nil (WP.condT rfl rfl (WP.seq (WP.region (WPr.sil htt 1 rfl (WPr.nil (?_))))))))
      cases h
      exact WP.ret htt Tryz.func158 [] rfl rfl rfl rfl
    refine WPr.kb 28 hc rfl (WPr.silx (rg 11 12) ⟨[(0, .S 0), (3, .S 1), (4, .I v4_12), (5, .I v19_12), (6, .B 6 0), (17, .S 0), (18, .I (l_.length : Int)), (19, .I v19_12), (34, .O (decide ((x367.Fields.length : Int) > (4 : Int))))], [(1, .own rR3 x1 true), (6, .box (cC0 3 4 5 x367) 94)], ((0, .sl rR0 l_) :: vV0 3 4 5 x367 []), 7⟩ htt 6 (by kernel_rfl) (?_))
    rcases oc h with ⟨hc, h⟩ | ⟨hc, h⟩
    · refine WPr.kb 34 hc rfl (WPr.silx [] ⟨[(0, .S 0), (3, .S 1), (4, .I v4_12), (6, .B 6 0), (17, .S 0), (18, .I (l_.length : Int)), (19, .I v19_12), (46, .O true)], [(1, .own rR3 x1 true), (6, .box (cC0 3 4 5 x367) 94)], ((0, .sl rR0 l_) :: vV0 3 4 5 x367 []), 7⟩ htt 12 (by kernel_rfl) (WPr.nil (WP.condT rfl rfl (WP.seq (WP.region (WPr.sil htt 1 rfl (WPr.nil (?_))))))))
      cases h
      exact WP.ret htt Tryz.func158 [] rfl rfl rfl rfl
    refine WPr.kb 34 hc rfl (WPr.silx (rg 17 6) ⟨[(0, .S 0), (3, .S 1), (4, .I v4_12), (5, .I v19_12), (6, .B 6 0), (17, .S 0), (18, .I (l_.length : Int)), (19, .I v19_12), (40, .O (x367.First != v4_12))], [(1, .own rR3 x1 true), (6, .box (cC0 3 4 5 x367) 94)], ((0, .sl rR0 l_) :: vV0 3 4 5 x367 []), 7⟩ htt 6 (by kernel_rfl) (?_))
    rcases oc h with ⟨hc, h⟩ | ⟨hc, h⟩
    · refine WPr.kb 40 hc rfl (WPr.silx [] ⟨[(0, .S 0), (3, .S 1), (4, .I v4_12), (6, .B 6 0), (17, .S 0), (18, .I (l_.length : Int)), (19, .I v19_12), (46, .O true)], [(1, .own rR3 x1 true), (6, .box (cC0 3 4 5 x367) 94)], ((0, .sl rR0 l_) :: vV0 3 4 5 x367 []), 7⟩ htt 6 (by kernel_rfl) (WPr.nil (WP.condT rfl rfl (WP.seq (WP.region (WPr.sil htt 1 rfl (WPr.nil (?_))))))))
      cases h
      exact WP.ret htt Tryz.func158 [] rfl rfl rfl rfl
    refine WPr.kb 40 hc rfl (WPr.sil htt 2 rfl (?_))
    obtain ⟨x369, hx369, h⟩ := ob h
    refine WPr.isl htt (l := none) (h := some (.i64, v19_12)) hx369 rfl rfl rfl rfl rfl rfl rfl rfl rfl rfl (WPr.silx [21, 22] ⟨[(0, .S 0), (3, .S 1), (4, .I v4_12), (6, .B 6 0), (17, .S 0), (18, .I (l_.length : Int)), (19, .I v19_12), (40, .O false), (43, .S 7), (44, .c (.cl 178 [] [6]))], [(1, .own rR3 x1 true), (6, .box (cC0 3 4 5 x367) 94)], ((0, .sl rR0 l_) :: vV0 3 4 5 x367 [(7, .sl rR0 x369)]), 8⟩ htt 1 (by kernel_rfl) (?_))
    obtain ⟨x370, hx370, h⟩ := ob h
    refine WPr.call (z177_4_ct N x369 x367 _ hx370) [(0, .sl 7), (1, .bp 6 0), (2, .sl 3), (3, .sl 4), (4, .sl 5)] [] rfl rfl rfl rfl rfl rfl rfl rfl (.inl rfl) rfl (WPr.silx [] ⟨[(0, .S 0), (3, .S 1), (4, .I v4_12), (6, .B 6 0), (17, .S 0), (18, .I (l_.length : Int)), (19, .I v19_12), (46, .O x370)], [(1, .own rR3 x1 true), (6, .box (cC0 3 4 5 x367) 94)], ((0, .sl rR0 l_) :: vV0 3 4 5 x367 []), 8⟩ htt 1 (by kernel_rfl) (WPr.nil (?_)))
    rcases oc h with ⟨hc, h⟩ | ⟨hc, h⟩
    · refine WP.condT hc rfl (WP.seq (WP.region (WPr.sil htt 1 rfl (WPr.nil (?_)))))
      cases h
      exact WP.ret htt Tryz.func158 [] rfl rfl rfl rfl
    refine WP.condF hc rfl (WP.skip (WP.seq (WP.region (WPr.silx [] ⟨[(0, .S 0), (3, .S 1), (4, .I (w64 (v4_12 + (x367.Fields.length : Int)))), (6, .B 6 0), (17, .S 0), (18, .I (l_.length : Int)), (19, .I v19_12)], [(1, .own rR3 x1 true), (6, .box (cC0 3 4 5 x367) 94)], ((0, .sl rR0 l_) :: vV0 3 4 5 x367 []), 8⟩ htt 6 (by kernel_rfl) (WPr.nil (WP.seq (WP.seq (WP.region (WPr.silx [] ⟨[(0, .S 0), (3, .S 1), (4, .I (w64 (v4_12 + (x367.Fields.length : Int)))), (6, .B 6 0), (17, .S 0), (18, .I (l_.length : Int)), (19, .I v19_12), (53, .S 3), (54, .I (x367.Fields.length : Int)), (55, .I (0 : Int))], [(1, .own rR3 x1 true), (6, .box (cC0 3 4 5 x367) 94)], ((0, .sl rR0 l_) :: vV0 3 4 5 x367 []), 8⟩ htt 4 (by kernel_rfl) (WPr.nil (?_)))))))))))
    refine WP.cut (σ := Unit) (fun st => ⟨[(0, .S 0), (3, .S 1), (4, .I (w64 (v4_12 + (x367.Fields.length : Int)))), (6, .B 6 0), (17, .S 0), (18, .I (l_.length : Int)), (19, .I v19_12)], [(1, .own rR3 x1 true), (6, .box (cC0 3 4 5 x367) 94)], ((0, .sl rR0 l_) :: vV0 3 4 5 x367 []), 8⟩) (fun st => z158_k3 N x1 v4_12 v19_12 (z158_l2 N l_ x1 n12) x367 = some r) ?_ (fun j19 => ?_)
    · intro _ h
      replace h : z158_k3 N x1 v4_12 v19_12 (z158_l2 N l_ x1 n12) x367 = some r := h
      unfold z158_k3 at h
      refine WP.seq (WP.region (WPr.silx [3, 4] ⟨[(0, .S 0), (3, .S 1), (4, .I (w64 (v4_12 + (x367.Fields.length : Int)))), (17, .S 0), (18, .I (l_.length : Int)), (19, .I v19_12), (80, .a [.sl 4, .sl 5]), (81, .S 1)], [(1, .own rR3 x1 true)], [(0, .sl rR0 l_), (4, .sl rR1 x367.Guard.Diffs), (5, .sl (rP (rI .i64) (rI .i64)) x367.Guard.Equals)], 8⟩ htt 3 (by kernel_rfl) (?_)))
      obtain ⟨x391, hx391, h⟩ := ob h
      refine WPr.call (z182_ct N x367.Guard x1 _ hx391) [(0, .sl 4), (1, .sl 5), (2, .sl 1)] [1] rfl rfl rfl rfl rfl rfl rfl rfl (.inr ⟨rfl, trivial⟩) rfl (WPr.silx [] ⟨[(0, .S 0), (3, .S 1), (4, .I (w64 (v4_12 + (x367.Fields.length : Int)))), (17, .S 0), (18, .I (l_.length : Int)), (19, .I v19_12), (83, .O (!x391))], [(1, .own rR3 x1 true)], [(0, .sl rR0 l_)], 8⟩ htt 1 (by kernel_rfl) (WPr.nil (?_)))
      rcases oc h with ⟨hc, h⟩ | ⟨hc, h⟩
      · refine WP.condT hc rfl (WP.seq (WP.region (WPr.sil htt 1 rfl (WPr.nil (?_)))))
        cases h
        exact WP.ret htt Tryz.func158 [] rfl rfl rfl rfl
      exact WP.condF hc rfl (WP.skip (WP.inBlock (WP.region (WPr.sil htt 2 rfl (WPr.nil (WP.sub [] (ih12 ((w64 (v4_12 + (x367.Fields.length : Int))), (w64 (v19_12 + (1 : Int)))) h) rfl rfl rfl rfl))))))
    refine WP.block (?_)
    refine WP.loopI (σ := Int) (fun st => ⟨[(0, .S 0), (3, .S 1), (4, .I (w64 (v4_12 + (x367.Fields.length : Int)))), (6, .B 6 0), (17, .S 0), (18, .I (l_.length : Int)), (19, .I v19_12), (53, .S 3), (54, .I (x367.Fields.length : Int)), (55, .I st)], [(1, .own rR3 x1 true), (6, .box (cC0 3 4 5 x367) 94)], ((0, .sl rR0 l_) :: vV0 3 4 5 x367 []), 8⟩) (fun n st => z158_l4 N x1 v4_12 v19_12 (z158_l2 N l_ x1 n12) x367 n st) (r := r) (fun _ => rfl) ?_ (fun ih => ?_)
    · intro n14 ih21
      intro v55_21 h
      replace h : z158_l4 N x1 v4_12 v19_12 (z158_l2 N l_ x1 n12) x367 (n14 + 1) v55_21 = some r := h
      unfold z158_l4 at h
      refine WP.seq (WP.region (WPr.sil htt 1 rfl (WPr.nil (WP.seq (?_)))))
      rcases oc' h with ⟨hc, h⟩ | ⟨hc, h⟩
      · exact WP.condF hc rfl (WP.exit rfl (WP.sub [] (j19 () h) rfl rfl rfl rfl))
      refine WP.condT hc rfl (WP.skip (WP.seq (WP.block (WP.seq (WP.region (WPr.sil htt 1 rfl (?_)))))))
      obtain ⟨x412, hx412, h⟩ := ob h
      refine WPr.ix oO3 htt hx412 rfl rfl rfl rfl rfl rfl rfl rfl rfl (WPr.silx [] ⟨[(0, .S 0), (3, .S 1), (4, .I (w64 (v4_12 + (x367.Fields.length : Int)))), (6, .B 6 0), (7, .I v55_21), (8, .B 9 0), (17, .S 0), (18, .I (l_.length : Int)), (19, .I v19_12), (53, .S 3), (54, .I (x367.Fields.length : Int)), (55, .I v55_21)], [(1, .own rR3 x1 true), (6, .box (cC0 3 4 5 x367) 94), (9, .box (cC3 x412) 141)], ((0, .sl rR0 l_) :: vV0 3 4 5 x367 []), 10⟩ htt 4 (by kernel_rfl) (WPr.nil (WP.seq (WP.region (WPr.sil htt 2 rfl (?_))))))
      obtain ⟨x413, hx413, h⟩ := ob h
      refine WPr.call (z120_ct N x412.Name _ hx413) [] [] rfl rfl rfl rfl rfl rfl rfl rfl (.inl rfl) rfl (WPr.silx (rg 5 13) ⟨[(0, .S 0), (3, .S 1), (4, .I (w64 (v4_12 + (x367.Fields.length : Int)))), (6, .B 6 0), (7, .I v55_21), (8, .B 9 0), (17, .S 0), (18, .I (l_.length : Int)), (19, .I v19_12), (53, .S 3), (54, .I (x367.Fields.length : Int)), (55, .I v55_21), (64, .O (!x413))], [(1, .own rR3 x1 true), (6, .box (cC0 3 4 5 x367) 94), (9, .box (cC3 x412) 141)], ((0, .sl rR0 l_) :: vV0 3 4 5 x367 []), 10⟩ htt 2 (by kernel_rfl) (?_))
      rcases oc h with ⟨hc, h⟩ | ⟨hc, h⟩
      · refine WPr.kb 64 hc rfl (WPr.silx [] ⟨[(0, .S 0), (3, .S 1), (4, .I (w64 (v4_12 + (x367.Fields.length : Int)))), (6, .B 6 0), (17, .S 0), (18, .I (l_.length : Int)), (19, .I v19_12), (53, .S 3), (54, .I (x367.Fields.length : Int)), (55, .I v55_21), (77, .O true)], [(1, .own rR3 x1 true), (6, .box (cC0 3 4 5 x367) 94)], ((0, .sl rR0 l_) :: vV0 3 4 5 x367 []), 10⟩ htt 13 (by kernel_rfl) (WPr.nil (WP.condT rfl rfl (WP.seq (WP.region (WPr.sil htt 1 rfl (WPr.nil (?_))))))))
        cases h
        exact WP.ret htt Tryz.func158 [] rfl rfl rfl rfl
      refine WPr.kb 64 hc rfl (WPr.sil htt 2 rfl (?_))
      obtain ⟨x414, hx414, h⟩ := ob h
      refine WPr.call (z179_ct N x412.Sort' _ hx414) [] [] rfl rfl rfl rfl rfl rfl rfl rfl (.inl rfl) rfl (WPr.silx (rg 11 7) ⟨[(0, .S 0), (3, .S 1), (4, .I (w64 (v4_12 + (x367.Fields.length : Int)))), (6, .B 6 0), (7, .I v55_21), (8, .B 9 0), (17, .S 0), (18, .I (l_.length : Int)), (19, .I v19_12), (53, .S 3), (54, .I (x367.Fields.length : Int)), (55, .I v55_21), (70, .O (!x414))], [(1, .own rR3 x1 true), (6, .box (cC0 3 4 5 x367) 94), (9, .box (cC3 x412) 141)], ((0, .sl rR0 l_) :: vV0 3 4 5 x367 []), 10⟩ htt 3 (by kernel_rfl) (?_))
      rcases oc h with ⟨hc, h⟩ | ⟨hc, h⟩
      · refine WPr.kb 70 hc rfl (WPr.silx [] ⟨[(0, .S 0), (3, .S 1), (4, .I (w64 (v4_12 + (x367.Fields.length : Int)))), (6, .B 6 0), (17, .S 0), (18, .I (l_.length : Int)), (19, .I v19_12), (53, .S 3), (54, .I (x367.Fields.length : Int)), (55, .I v55_21), (77, .O true)], [(1, .own rR3 x1 true), (6, .box (cC0 3 4 5 x367) 94)], ((0, .sl rR0 l_) :: vV0 3 4 5 x367 []), 10⟩ htt 7 (by kernel_rfl) (WPr.nil (WP.condT rfl rfl (WP.seq (WP.region (WPr.sil htt 1 rfl (WPr.nil (?_))))))))
        cases h
        exact WP.ret htt Tryz.func158 [] rfl rfl rfl rfl
      refine WPr.kb 70 hc rfl (WPr.silx [14, 15, 16, 17] ⟨[(0, .S 0), (3, .S 1), (4, .I (w64 (v4_12 + (x367.Fields.length : Int)))), (6, .B 6 0), (8, .B 9 0), (17, .S 0), (18, .I (l_.length : Int)), (19, .I v19_12), (53, .S 3), (54, .I (x367.Fields.length : Int)), (55, .I v55_21), (70, .O false), (72, .S 3), (73, .I v55_21)], [(1, .own rR3 x1 true), (6, .box (cC0 3 4 5 x367) 94), (9, .box (cC3 x412) 141)], ((0, .sl rR0 l_) :: vV0 3 4 5 x367 []), 10⟩ htt 3 (by kernel_rfl) (?_))
      obtain ⟨x415, hx415, h⟩ := ob h
      refine WPr.isl htt (l := none) (h := some (.i64, v55_21)) hx415 rfl rfl rfl rfl rfl rfl rfl rfl rfl rfl (WPr.sil htt 1 rfl (?_))
      obtain ⟨x416, hx416, h⟩ := ob h
      refine WPr.call (z180_7_ct N x415 x412 _ hx416) [(0, .sl 10), (1, .bp 9 0)] [] rfl rfl rfl rfl rfl rfl rfl rfl (.inl rfl) rfl (WPr.silx [] ⟨[(0, .S 0), (3, .S 1), (4, .I (w64 (v4_12 + (x367.Fields.length : Int)))), (6, .B 6 0), (17, .S 0), (18, .I (l_.length : Int)), (19, .I v19_12), (53, .S 3), (54, .I (x367.Fields.length : Int)), (55, .I v55_21), (77, .O x416)], [(1, .own rR3 x1 true), (6, .box (cC0 3 4 5 x367) 94)], ((0, .sl rR0 l_) :: vV0 3 4 5 x367 []), 11⟩ htt 1 (by kernel_rfl) (WPr.nil (?_)))
      rcases oc h with ⟨hc, h⟩ | ⟨hc, h⟩
      · refine WP.condT hc rfl (WP.seq (WP.region (WPr.sil htt 1 rfl (WPr.nil (?_)))))
        cases h
        exact WP.ret htt Tryz.func158 [] rfl rfl rfl rfl
      exact WP.condF hc rfl (WP.skip (WP.inBlock (WP.region (WPr.sil htt 2 rfl (WPr.nil (WP.sub [] (ih21 (w64 (v55_21 + (1 : Int))) h) rfl rfl rfl rfl))))))
    exact WP.sub [] (ih N (0 : Int) h) rfl rfl rfl rfl
  exact WP.sub [] (ih N ((0 : Int), (0 : Int)) h) rfl rfl rfl rfl
theorem z159_ct (N : Nat) (d_ : T0) (r : (List T1)) (h : z159 N d_ = some r) :
  Fn Tryz.prog 159 ⟨3, [.a (cC0 0 1 2 d_)], (vV0 0 1 2 d_ []), [], 4, .S 3, [], [(3, .own rR1 r true)]⟩ := by
  refine Fn.intro _ _ Tryz.func159 rfl (by kernel_rfl) rfl (fun E F w => ?_)
  unfold z159 at h
  refine WP.seq (WP.region (WPr.sil htt 2 rfl (WPr.nil (WP.seq (WP.region (WPr.silx [] ⟨[(1, .B 3 0), (2, .c .nil), (3, .c .nil)], [(3, .box (cC0 0 1 2 d_) 94)], (vV0 0 1 2 d_ []), 4⟩ htt 1 (by kernel_rfl) (WPr.nil (WP.seq (WP.seq (WP.region (WPr.silx [] ⟨[(1, .B 3 0), (2, .c .nil), (3, .c .nil), (9, .S 0), (10, .I (d_.Fields.length : Int)), (11, .I (0 : Int))], [(3, .box (cC0 0 1 2 d_) 94)], (vV0 0 1 2 d_ []), 4⟩ htt 4 (by kernel_rfl) (WPr.nil (?_)))))))))))))
  refine WP.cut (σ := (List T1)) (fun st => ⟨[(1, .B 3 0), (3, .S 4)], [(3, .box (cC0 0 1 2 d_) 94), (4, .own rR1 st true)], (vV0 0 1 2 d_ []), 5⟩) (fun st => z159_k3 N d_ st = some r) ?_ (fun j1 => ?_)
  · intro v3_1 h
    replace h : z159_k3 N d_ v3_1 = some r := h
    unfold z159_k3 at h
    refine WP.seq (WP.region (WPr.silx [4, 5] ⟨[(1, .B 3 0), (37, .S 4), (40, .S 1)], [(3, .box (cC0 0 1 2 d_) 94), (4, .own rR1 v3_1 true)], (vV0 0 1 2 d_ []), 5⟩ htt 4 (by kernel_rfl) (?_)))
    obtain ⟨x9, hx9, h⟩ := ob h
    refine WPr.app htt hx9 (by exact (srcI rfl)) rfl rfl rfl rfl rfl rfl rfl rfl rfl rfl (WPr.silx [] ⟨[(1, .B 3 0), (3, .S 5)], [(3, .box (cC0 0 1 2 d_) 94), (5, .own rR1 x9 true)], (vV0 0 1 2 d_ []), 6⟩ htt 1 (by kernel_rfl) (WPr.nil (WP.seq (WP.seq (WP.region (WPr.silx [] ⟨[(3, .S 5), (44, .S 2), (45, .I (d_.Guard.Equals.length : Int)), (46, .I (0 : Int))], [(5, .own rR1 x9 true)], (vV0 0 1 2 d_ []), 6⟩ htt 5 (by kernel_rfl) (WPr.nil (?_))))))))
    refine WP.cut (σ := (List T1)) (fun st => ⟨[(3, .S 6)], [(6, .own rR1 st true)], (vV0 0 1 2 d_ []), 7⟩) (fun st => z159_k1 st = some r) ?_ (fun j3 => ?_)
    · intro v3_3 h
      replace h : z159_k1 v3_3 = some r := h
      unfold z159_k1 at h
      refine WP.seq (WP.region (WPr.sil htt 2 rfl (WPr.nil (?_))))
      cases h
      exact WP.ret htt Tryz.func159 [(3, .sl 6)] rfl rfl rfl rfl
    refine WP.block (?_)
    refine WP.loopI (σ := (List T1) × Int) (fun st => ⟨[(3, .S 6), (44, .S 2), (45, .I (d_.Guard.Equals.length : Int)), (46, .I st.2)], [(6, .own rR1 st.1 true)], (vV0 0 1 2 d_ []), 7⟩) (fun n st => z159_l2 d_ n st.1 st.2) (r := r) (fun _ => rfl) ?_ (fun ih => ?_)
    · intro n3 ih5
      rintro ⟨v3_5, v46_5⟩ h
      replace h : z159_l2 d_ (n3 + 1) v3_5 v46_5 = some r := h
      unfold z159_l2 at h
      refine WP.seq (WP.region (WPr.sil htt 1 rfl (WPr.nil (WP.seq (?_)))))
      rcases oc' h with ⟨hc, h⟩ | ⟨hc, h⟩
      · exact WP.condF hc rfl (WP.exit rfl (WP.sub [] (j3 v3_5 h) rfl rfl rfl rfl))
      refine WP.condT hc rfl (WP.skip (WP.seq (WP.block (WP.seq (WP.region (?_))))))
      obtain ⟨x26, hx26, h⟩ := ob h
      refine WPr.ix (oP (oI .i64) (oI .i64)) htt hx26 rfl rfl rfl rfl rfl rfl rfl rfl rfl (WPr.silx [] ⟨[(3, .S 6), (7, .B 8 0), (44, .S 2), (45, .I (d_.Guard.Equals.length : Int)), (46, .I v46_5)], [(6, .own rR1 v3_5 true), (8, .box [.I x26.1, .I x26.2] 146)], (vV0 0 1 2 d_ []), 9⟩ htt 3 (by kernel_rfl) (WPr.nil (WP.region (WPr.sil htt 1 rfl (WPr.axb (len := 2) (el := 3) (es := 1) 0 rfl rfl rfl rfl rfl (by kernel_rfl) (by kernel_rfl) rfl rfl rfl rfl (WPr.silx (rg 3 11) ⟨[(7, .B 8 0), (44, .S 2), (45, .I (d_.Guard.Equals.length : Int)), (46, .I v46_5), (50, .S 6), (52, .I x26.1)], [(6, .own rR1 v3_5 true), (8, .box [.I x26.1, .I x26.2] 146)], (vV0 0 1 2 d_ []), 9⟩ htt 1 (by kernel_rfl) (WPr.axb (len := 2) (el := 3) (es := 1) 1 rfl rfl rfl rfl rfl (by kernel_rfl) (by kernel_rfl) rfl rfl rfl rfl (WPr.silx (rg 6 8) ⟨[(7, .B 8 0), (44, .S 2), (45, .I (d_.Guard.Equals.length : Int)), (46, .I v46_5), (50, .S 6), (55, .a [.I x26.1, .I x26.2, .I (0 : Int)])], [(6, .own rR1 v3_5 true), (8, .box [.I x26.1, .I x26.2] 146)], (vV0 0 1 2 d_ []), 9⟩ htt 2 (by kernel_rfl) (WPr.axb (len := 2) (el := 3) (es := 1) 1 rfl rfl rfl rfl rfl (by kernel_rfl) (by kernel_rfl) rfl rfl rfl rfl (WPr.sil htt 1 rfl (WPr.axb (len := 2) (el := 3) (es := 1) 0 rfl rfl rfl rfl rfl (by kernel_rfl) (by kernel_rfl) rfl rfl rfl rfl (WPr.silx [11, 12, 13] ⟨[(44, .S 2), (45, .I (d_.Guard.Equals.length : Int)), (46, .I v46_5), (50, .S 6), (55, .a [.I x26.1, .I x26.2, .I (0 : Int)]), (60, .a [.I x26.2, .I x26.1, .I (0 : Int)])], [(6, .own rR1 v3_5 true)], (vV0 0 1 2 d_ []), 9⟩ htt 2 (by kernel_rfl) (WPr.bs (cs := [.I x26.1, .I x26.2, .I (0 : Int), .I x26.2, .I x26.1, .I (0 : Int)]) oO1 htt ([(⟨x26.1, x26.2, (0 : Int)⟩ : T1), (⟨x26.2, x26.1, (0 : Int)⟩ : T1)] : List T1) rfl rfl rfl rfl rfl rfl (by kernel_rfl) (by exact (an (an rfl (an rfl rfl)) (an (an rfl (an rfl rfl)) rfl))) rfl (?_))))))))))))))
      obtain ⟨x27, hx27, h⟩ := ob h
      exact WPr.app htt hx27 (by exact (srcO rfl)) rfl rfl rfl rfl rfl rfl rfl rfl rfl rfl (WPr.silx [] ⟨[(3, .S 10), (44, .S 2), (45, .I (d_.Guard.Equals.length : Int)), (46, .I v46_5)], [(10, .own rR1 x27 true)], (vV0 0 1 2 d_ []), 11⟩ htt 1 (by kernel_rfl) (WPr.nil (WP.inBlock (WP.region (WPr.sil htt 2 rfl (WPr.nil (WP.sub [(6, .sl 10)] (ih5 (x27, (w64 (v46_5 + (1 : Int)))) h) rfl rfl rfl rfl)))))))
    exact WP.sub [(6, .sl 5)] (ih N (x9, (0 : Int)) h) rfl rfl rfl rfl
  refine WP.block (?_)
  refine WP.loopI (σ := (List T1) × Int) (fun st => ⟨[(1, .B 3 0), (3, .S 4), (9, .S 0), (10, .I (d_.Fields.length : Int)), (11, .I st.2)], [(3, .box (cC0 0 1 2 d_) 94), (4, .own rR1 st.1 true)], (vV0 0 1 2 d_ []), 5⟩) (fun n st => z159_l4 N d_ n st.1 st.2) (r := r) (fun _ => rfl) ?_ (fun ih => ?_)
  · intro n4 ih6
    rintro ⟨v3_6, v11_6⟩ h
    replace h : z159_l4 N d_ (n4 + 1) v3_6 v11_6 = some r := h
    unfold z159_l4 at h
    refine WP.seq (WP.region (WPr.sil htt 1 rfl (WPr.nil (WP.seq (?_)))))
    rcases oc' h with ⟨hc, h⟩ | ⟨hc, h⟩
    · exact WP.condF hc rfl (WP.exit rfl (WP.sub [] (j1 v3_6 h) rfl rfl rfl rfl))
    refine WP.condT hc rfl (WP.skip (WP.seq (WP.block (WP.seq (WP.region (WPr.sil htt 1 rfl (?_)))))))
    obtain ⟨x36, hx36, h⟩ := ob h
    refine WPr.ix oO3 htt hx36 rfl rfl rfl rfl rfl rfl rfl rfl rfl (WPr.silx [] ⟨[(1, .B 3 0), (3, .S 4), (4, .I v11_6), (5, .B 6 0), (9, .S 0), (10, .I (d_.Fields.length : Int)), (11, .I v11_6)], [(3, .box (cC0 0 1 2 d_) 94), (4, .own rR1 v3_6 true), (6, .box (cC3 x36) 141)], (vV0 0 1 2 d_ []), 7⟩ htt 4 (by kernel_rfl) (WPr.nil (WP.region (WPr.silx [18, 19, 20] ⟨[(1, .B 3 0), (9, .S 0), (10, .I (d_.Fields.length : Int)), (11, .I v11_6), (16, .S 4), (24, .a [.I (w64 (d_.First + v11_6)), .I (-1 : Int), .I x36.Sort'.Hi]), (33, .a [.I (-1 : Int), .I (w64 (d_.First + v11_6)), .I (w64 (0 - x36.Sort'.Lo))])], [(3, .box (cC0 0 1 2 d_) 94), (4, .own rR1 v3_6 true)], (vV0 0 1 2 d_ []), 7⟩ htt 18 (by kernel_rfl) (WPr.bs (cs := [.I (w64 (d_.First + v11_6)), .I (-1 : Int), .I x36.Sort'.Hi, .I (-1 : Int), .I (w64 (d_.First + v11_6)), .I (w64 (0 - x36.Sort'.Lo))]) oO1 htt ([(⟨(w64 (d_.First + v11_6)), (-1 : Int), x36.Sort'.Hi⟩ : T1), (⟨(-1 : Int), (w64 (d_.First + v11_6)), (w64 (0 - x36.Sort'.Lo))⟩ : T1)] : List T1) rfl rfl rfl rfl rfl rfl (by kernel_rfl) (by exact (an (an rfl (an rfl rfl)) (an (an rfl (an rfl rfl)) rfl))) rfl (?_))))))
    obtain ⟨x37, hx37, h⟩ := ob h
    exact WPr.app htt hx37 (by exact (srcO rfl)) rfl rfl rfl rfl rfl rfl rfl rfl rfl rfl (WPr.silx [] ⟨[(1, .B 3 0), (3, .S 8), (9, .S 0), (10, .I (d_.Fields.length : Int)), (11, .I v11_6)], [(3, .box (cC0 0 1 2 d_) 94), (8, .own rR1 x37 true)], (vV0 0 1 2 d_ []), 9⟩ htt 1 (by kernel_rfl) (WPr.nil (WP.inBlock (WP.region (WPr.sil htt 2 rfl (WPr.nil (WP.sub [(4, .sl 8)] (ih6 (x37, (w64 (v11_6 + (1 : Int)))) h) rfl rfl rfl rfl)))))))
  exact WP.sub [(4, .nil)] (ih N (([] : List T1), (0 : Int)) h) rfl rfl rfl rfl
theorem z122_ct (N : Nat) (decls_ : (List T0)) (label_ : Int) (r : (List T1) × Int) (h : z122 N decls_ label_ = some r) :
  Fn Tryz.prog 122 ⟨1, [.S 0, .I label_], [(0, .sl rR0 decls_)], [], 2, .t [.inl (.sl 1), .inl (.I r.2)], [], [(1, .own rR1 r.1 true)]⟩ := by
  refine Fn.intro _ _ Tryz.func122 rfl (by kernel_rfl) rfl (fun E F w => ?_)
  unfold z122 at h
  refine WP.seq (WP.region (WPr.sil htt 2 rfl (WPr.nil (WP.seq (WP.seq (WP.region (WPr.silx (rg 3 10) ⟨[(0, .S 0), (1, .I label_), (4, .c .nil), (5, .I (0 : Int)), (8, .O (decide (label_ < (0 : Int))))], [], [(0, .sl rR0 decls_)], 1⟩ htt 3 (by kernel_rfl) (?_))))))))
  rcases oc h with ⟨hc, h⟩ | ⟨hc, h⟩
  · refine WPr.kb 8 hc rfl (WPr.silx [] ⟨[(0, .S 0), (1, .I label_), (4, .c .nil), (5, .I (0 : Int)), (18, .O true)], [], [(0, .sl rR0 decls_)], 1⟩ htt 10 (by kernel_rfl) (WPr.nil (WP.condT rfl rfl (WP.seq (WP.region (WPr.sil htt 2 rfl (WPr.nil (?_))))))))
    cases h
    exact WP.ret htt Tryz.func122 [(1, .nil)] rfl rfl rfl rfl
  refine WPr.kb 8 hc rfl (WPr.silx [9, 10, 11, 12] ⟨[(0, .S 0), (1, .I label_), (4, .c .nil), (5, .I (0 : Int)), (14, .O (decide (label_ ≥ (decls_.length : Int))))], [], [(0, .sl rR0 decls_)], 1⟩ htt 6 (by kernel_rfl) (?_))
  rcases oc h with ⟨hc, h⟩ | ⟨hc, h⟩
  · refine WPr.kb 14 hc rfl (WPr.silx [] ⟨[(0, .S 0), (1, .I label_), (4, .c .nil), (5, .I (0 : Int)), (18, .O true)], [], [(0, .sl rR0 decls_)], 1⟩ htt 4 (by kernel_rfl) (WPr.nil (WP.condT rfl rfl (WP.seq (WP.region (WPr.sil htt 2 rfl (WPr.nil (?_))))))))
    cases h
    exact WP.ret htt Tryz.func122 [(1, .nil)] rfl rfl rfl rfl
  refine WPr.kb 14 hc rfl (WPr.sil htt 1 rfl (?_))
  obtain ⟨x1, hx1, h⟩ := ob h
  refine WPr.call (z158_ct N decls_ _ hx1) [(0, .sl 0)] [] rfl rfl rfl rfl rfl rfl rfl rfl (.inl rfl) rfl (WPr.silx [] ⟨[(0, .S 0), (1, .I label_), (4, .c .nil), (5, .I (0 : Int)), (18, .O (!x1))], [], [(0, .sl rR0 decls_)], 1⟩ htt 2 (by kernel_rfl) (WPr.nil (?_)))
  rcases oc h with ⟨hc, h⟩ | ⟨hc, h⟩
  · refine WP.condT hc rfl (WP.seq (WP.region (WPr.sil htt 2 rfl (WPr.nil (?_)))))
    cases h
    exact WP.ret htt Tryz.func122 [(1, .nil)] rfl rfl rfl rfl
  refine WP.condF hc rfl (WP.skip (WP.seq (WP.region (WPr.sil htt 2 rfl (?_)))))
  obtain ⟨x2, hx2, h⟩ := ob h
  refine WPr.ix oO0 htt hx2 rfl rfl rfl rfl rfl rfl rfl rfl rfl (WPr.silx [4, 5, 6] ⟨[(22, .a (cC0 2 3 4 x2))], [], ((0, .sl rR0 decls_) :: vV0 2 3 4 x2 []), 5⟩ htt 1 (by kernel_rfl) (?_))
  obtain ⟨x3, hx3, h⟩ := ob h
  refine WPr.call (z159_ct N x2 _ hx3) [(0, .sl 2), (1, .sl 3), (2, .sl 4)] [] rfl rfl rfl rfl rfl rfl rfl rfl (.inl rfl) rfl (WPr.silx [] ⟨[(4, .S 5), (5, .I (0 : Int))], [(5, .own rR1 x3 true)], [(0, .sl rR0 decls_)], 6⟩ htt 2 (by kernel_rfl) (WPr.nil (?_)))
  cases h
  exact WP.ret htt Tryz.func122 [(1, .sl 5)] rfl rfl rfl rfl
theorem z63_ct (N : Nat) (l_ : (List T0)) (r : Bool) (h : z63 N l_ = some r) :
  Fn Tryz.prog 63 ⟨1, [.S 0], [(0, .sl rR0 l_)], [], 1, .O r, [], []⟩ := by
  refine Fn.intro _ _ Tryz.func63 rfl (by kernel_rfl) rfl (fun E F w => ?_)
  unfold z63 at h
  refine WP.seq (WP.region (WPr.sil htt 1 rfl (WPr.nil (WP.seq (WP.seq (WP.region (WPr.silx [] ⟨[(0, .S 0), (2, .O false), (7, .O ((l_.length : Int) == (0 : Int)))], [], [(0, .sl rR0 l_)], 1⟩ htt 3 (by kernel_rfl) (WPr.nil (?_)))))))))
  rcases oc h with ⟨hc, h⟩ | ⟨hc, h⟩
  · refine WP.condT hc rfl (WP.seq (WP.region (WPr.sil htt 1 rfl (WPr.nil (?_)))))
    cases h
    exact WP.ret htt Tryz.func63 [] rfl rfl rfl rfl
  refine WP.condF hc rfl (WP.skip (WP.seq (WP.region (WPr.sil htt 1 rfl (?_)))))
  obtain ⟨x1, hx1, h⟩ := ob h
  refine WPr.call (z122_ct N l_ (0 : Int) _ hx1) [(0, .sl 0)] [] rfl rfl rfl rfl rfl rfl rfl rfl (.inl rfl) rfl (WPr.silx [] ⟨[(2, .O false), (4, .I x1.2)], [], [(0, .sl rR0 l_)], 2⟩ htt 5 (by kernel_rfl) (WPr.nil (WP.seq (WP.region (WPr.silx [] ⟨[(2, .O (x1.2 == (0 : Int)))], [], [(0, .sl rR0 l_)], 2⟩ htt 3 (by kernel_rfl) (WPr.nil (?_)))))))
  cases h
  exact WP.ret htt Tryz.func63 [] rfl rfl rfl rfl
theorem z64_ct (N : Nat) (g_ : T4) (r : Bool) (h : z64 N g_ = some r) :
  Fn Tryz.prog 64 ⟨4, [.a (cC4 0 1 2 3 g_)], (vV4 0 1 2 3 g_ []), [], 4, .O r, [], []⟩ := by
  refine Fn.intro _ _ Tryz.func64 rfl (by kernel_rfl) rfl (fun E F w => ?_)
  unfold z64 at h
  refine WP.seq (WP.region (WPr.sil htt 2 rfl (WPr.nil (WP.seq (WP.seq (WP.region (WPr.silx [] ⟨[(1, .B 4 0), (2, .O false), (8, .S 2), (9, .I (g_.Edges.length : Int)), (10, .I (0 : Int))], [(4, .box (cC4 0 1 2 3 g_) 27)], (vV4 0 1 2 3 g_ []), 5⟩ htt 4 (by kernel_rfl) (WPr.nil (?_)))))))))
  refine WP.cut (σ := Unit) (fun st => ⟨[], [], (vV4 0 1 2 3 g_ []), 5⟩) (fun st => z64_k1 = some r) ?_ (fun j1 => ?_)
  · intro _ h
    replace h : z64_k1 = some r := h
    unfold z64_k1 at h
    refine WP.seq (WP.region (WPr.sil htt 1 rfl (WPr.nil (?_))))
    cases h
    exact WP.ret htt Tryz.func64 [] rfl rfl rfl rfl
  refine WP.block (?_)
  refine WP.loopI (σ := Int) (fun st => ⟨[(1, .B 4 0), (8, .S 2), (9, .I (g_.Edges.length : Int)), (10, .I st)], [(4, .box (cC4 0 1 2 3 g_) 27)], (vV4 0 1 2 3 g_ []), 5⟩) (fun n st => z64_l2 N g_ n st) (r := r) (fun _ => rfl) ?_ (fun ih => ?_)
  · intro n12 ih33
    intro v10_33 h
    replace h : z64_l2 N g_ (n12 + 1) v10_33 = some r := h
    unfold z64_l2 at h
    refine WP.seq (WP.region (WPr.sil htt 1 rfl (WPr.nil (WP.seq (?_)))))
    rcases oc' h with ⟨hc, h⟩ | ⟨hc, h⟩
    · exact WP.condF hc rfl (WP.exit rfl (WP.sub [] (j1 () h) rfl rfl rfl rfl))
    refine WP.condT hc rfl (WP.skip (WP.seq (WP.block (WP.seq (WP.region (WPr.sil htt 1 rfl (?_)))))))
    obtain ⟨x74, hx74, h⟩ := ob h
    refine WPr.ix oO2 htt hx74 rfl rfl rfl rfl rfl rfl rfl rfl rfl (WPr.silx [] ⟨[(1, .B 4 0), (3, .I v10_33), (4, .B 6 0), (8, .S 2), (9, .I (g_.Edges.length : Int)), (10, .I v10_33)], [(4, .box (cC4 0 1 2 3 g_) 27), (6, .box (cC2 x74) 43)], (vV4 0 1 2 3 g_ []), 7⟩ htt 4 (by kernel_rfl) (WPr.nil (WP.seq (WP.seq (WP.region (WPr.silx (rg 6 10) ⟨[(1, .B 4 0), (3, .I v10_33), (4, .B 6 0), (8, .S 2), (9, .I (g_.Edges.length : Int)), (10, .I v10_33), (20, .O (x74.From == g_.End))], [(4, .box (cC4 0 1 2 3 g_) 27), (6, .box (cC2 x74) 43)], (vV4 0 1 2 3 g_ []), 7⟩ htt 6 (by kernel_rfl) (?_)))))))
    refine WP.cutr (σ := Bool) (fun st => ⟨[(1, .B 4 0), (3, .I v10_33), (4, .B 6 0), (8, .S 2), (9, .I (g_.Edges.length : Int)), (10, .I v10_33), (30, .O st)], [(4, .box (cC4 0 1 2 3 g_) 27), (6, .box (cC2 x74) 43)], (vV4 0 1 2 3 g_ []), 7⟩) (fun st => z64_k6 N g_ v10_33 (z64_l2 N g_ n12) x74 st = some r) ?_ (fun j54 => ?_)
    · intro v30_54 h
      replace h : z64_k6 N g_ v10_33 (z64_l2 N g_ n12) x74 v30_54 = some r := h
      unfold z64_k6 at h
      rcases oc h with ⟨hc, h⟩ | ⟨hc, h⟩
      · refine WP.condT hc rfl (WP.seq (WP.region (WPr.sil htt 1 rfl (WPr.nil (?_)))))
        cases h
        exact WP.ret htt Tryz.func64 [] rfl rfl rfl rfl
      refine WP.condF hc rfl (WP.skip (WP.seq (WP.region (WPr.silx [] ⟨[(1, .B 4 0), (3, .I v10_33), (4, .B 6 0), (8, .S 2), (9, .I (g_.Edges.length : Int)), (10, .I v10_33), (32, .S 2), (33, .I (g_.Edges.length : Int)), (34, .I (0 : Int))], [(4, .box (cC4 0 1 2 3 g_) 27), (6, .box (cC2 x74) 43)], (vV4 0 1 2 3 g_ []), 7⟩ htt 4 (by kernel_rfl) (WPr.nil (?_))))))
      refine WP.cut (σ := Unit) (fun st => ⟨[(1, .B 4 0), (8, .S 2), (9, .I (g_.Edges.length : Int)), (10, .I v10_33)], [(4, .box (cC4 0 1 2 3 g_) 27)], (vV4 0 1 2 3 g_ []), 7⟩) (fun st => z64_k3 v10_33 (z64_l2 N g_ n12) = some r) ?_ (fun j55 => ?_)
      · intro _ h
        replace h : z64_k3 v10_33 (z64_l2 N g_ n12) = some r := h
        unfold z64_k3 at h
        exact WP.inBlock (WP.region (WPr.sil htt 2 rfl (WPr.nil (WP.sub [] (ih33 (w64 (v10_33 + (1 : Int))) h) rfl rfl rfl rfl))))
      refine WP.block (?_)
      refine WP.loopI (σ := Int) (fun st => ⟨[(1, .B 4 0), (3, .I v10_33), (4, .B 6 0), (8, .S 2), (9, .I (g_.Edges.length : Int)), (10, .I v10_33), (32, .S 2), (33, .I (g_.Edges.length : Int)), (34, .I st)], [(4, .box (cC4 0 1 2 3 g_) 27), (6, .box (cC2 x74) 43)], (vV4 0 1 2 3 g_ []), 7⟩) (fun n st => z64_l4 g_ v10_33 (z64_l2 N g_ n12) x74 n st) (r := r) (fun _ => rfl) ?_ (fun ih => ?_)
      · intro n14 ih60
        intro v34_60 h
        replace h : z64_l4 g_ v10_33 (z64_l2 N g_ n12) x74 (n14 + 1) v34_60 = some r := h
        unfold z64_l4 at h
        refine WP.seq (WP.region (WPr.sil htt 1 rfl (WPr.nil (WP.seq (?_)))))
        rcases oc' h with ⟨hc, h⟩ | ⟨hc, h⟩
        · exact WP.condF hc rfl (WP.exit rfl (WP.sub [] (j55 () h) rfl rfl rfl rfl))
        refine WP.condT hc rfl (WP.skip (WP.seq (WP.block (WP.seq (WP.region (WPr.sil htt 1 rfl (?_)))))))
        obtain ⟨x83, hx83, h⟩ := ob h
        refine WPr.ix oO2 htt hx83 rfl rfl rfl rfl rfl rfl rfl rfl rfl (WPr.silx [] ⟨[(1, .B 4 0), (3, .I v10_33), (4, .B 6 0), (5, .I v34_60), (6, .B 8 0), (8, .S 2), (9, .I (g_.Edges.length : Int)), (10, .I v10_33), (32, .S 2), (33, .I (g_.Edges.length : Int)), (34, .I v34_60)], [(4, .box (cC4 0 1 2 3 g_) 27), (6, .box (cC2 x74) 43), (8, .box (cC2 x83) 43)], (vV4 0 1 2 3 g_ []), 9⟩ htt 4 (by kernel_rfl) (WPr.nil (WP.seq (WP.seq (WP.region (WPr.silx (rg 4 26) ⟨[(1, .B 4 0), (3, .I v10_33), (4, .B 6 0), (6, .B 8 0), (8, .S 2), (9, .I (g_.Edges.length : Int)), (10, .I v10_33), (32, .S 2), (33, .I (g_.Edges.length : Int)), (34, .I v34_60), (42, .O (v10_33 != v34_60))], [(4, .box (cC4 0 1 2 3 g_) 27), (6, .box (cC2 x74) 43), (8, .box (cC2 x83) 43)], (vV4 0 1 2 3 g_ []), 9⟩ htt 4 (by kernel_rfl) (?_)))))))
        refine WP.cutr (σ := Bool) (fun st => ⟨[(1, .B 4 0), (3, .I v10_33), (4, .B 6 0), (6, .B 8 0), (8, .S 2), (9, .I (g_.Edges.length : Int)), (10, .I v10_33), (32, .S 2), (33, .I (g_.Edges.length : Int)), (34, .I v34_60), (68, .O st)], [(4, .box (cC4 0 1 2 3 g_) 27), (6, .box (cC2 x74) 43), (8, .box (cC2 x83) 43)], (vV4 0 1 2 3 g_ []), 9⟩) (fun st => z64_k5 x74 v34_60 (z64_l4 g_ v10_33 (z64_l2 N g_ n12) x74 n14) x83 st = some r) ?_ (fun j63 => ?_)
        · intro v68_63 h
          replace h : z64_k5 x74 v34_60 (z64_l4 g_ v10_33 (z64_l2 N g_ n12) x74 n14) x83 v68_63 = some r := h
          unfold z64_k5 at h
          rcases oc h with ⟨hc, h⟩ | ⟨hc, h⟩
          · refine WP.condT hc rfl (WP.seq (WP.region (WPr.sil htt 1 rfl (WPr.nil (?_)))))
            cases h
            exact WP.ret htt Tryz.func64 [] rfl rfl rfl rfl
          refine WP.condF hc rfl (WP.skip (WP.seq (WP.region (WPr.silx (rg 3 24) ⟨[(1, .B 4 0), (3, .I v10_33), (4, .B 6 0), (6, .B 8 0), (8, .S 2), (9, .I (g_.Edges.length : Int)), (10, .I v10_33), (32, .S 2), (33, .I (g_.Edges.length : Int)), (34, .I v34_60), (71, .O x74.Again)], [(4, .box (cC4 0 1 2 3 g_) 27), (6, .box (cC2 x74) 43), (8, .box (cC2 x83) 43)], (vV4 0 1 2 3 g_ []), 9⟩ htt 3 (by kernel_rfl) (?_)))))
          rcases oc' h with ⟨hc, h⟩ | ⟨hc, h⟩
          · exact WPr.kb 71 hc rfl (WPr.silx [] ⟨[(1, .B 4 0), (3, .I v10_33), (4, .B 6 0), (8, .S 2), (9, .I (g_.Edges.length : Int)), (10, .I v10_33), (32, .S 2), (33, .I (g_.Edges.length : Int)), (34, .I v34_60), (95, .O false)], [(4, .box (cC4 0 1 2 3 g_) 27), (6, .box (cC2 x74) 43)], (vV4 0 1 2 3 g_ []), 9⟩ htt 24 (by kernel_rfl) (WPr.nil (WP.condF rfl rfl (WP.skip (WP.inBlock (WP.region (WPr.sil htt 2 rfl (WPr.nil (WP.sub [] (ih60 (w64 (v34_60 + (1 : Int))) h) rfl rfl rfl rfl)))))))))
          refine WPr.kb 71 hc rfl (WPr.silx (rg 10 17) ⟨[(1, .B 4 0), (3, .I v10_33), (4, .B 6 0), (6, .B 8 0), (8, .S 2), (9, .I (g_.Edges.length : Int)), (10, .I v10_33), (32, .S 2), (33, .I (g_.Edges.length : Int)), (34, .I v34_60), (78, .O (x83.To == x74.From))], [(4, .box (cC4 0 1 2 3 g_) 27), (6, .box (cC2 x74) 43), (8, .box (cC2 x83) 43)], (vV4 0 1 2 3 g_ []), 9⟩ htt 7 (by kernel_rfl) (?_))
          rcases oc' h with ⟨hc, h⟩ | ⟨hc, h⟩
          · exact WPr.kb 78 hc rfl (WPr.silx [] ⟨[(1, .B 4 0), (3, .I v10_33), (4, .B 6 0), (8, .S 2), (9, .I (g_.Edges.length : Int)), (10, .I v10_33), (32, .S 2), (33, .I (g_.Edges.length : Int)), (34, .I v34_60), (95, .O false)], [(4, .box (cC4 0 1 2 3 g_) 27), (6, .box (cC2 x74) 43)], (vV4 0 1 2 3 g_ []), 9⟩ htt 17 (by kernel_rfl) (WPr.nil (WP.condF rfl rfl (WP.skip (WP.inBlock (WP.region (WPr.sil htt 2 rfl (WPr.nil (WP.sub [] (ih60 (w64 (v34_60 + (1 : Int))) h) rfl rfl rfl rfl)))))))))
          refine WPr.kb 78 hc rfl (WPr.silx (rg 18 9) ⟨[(1, .B 4 0), (3, .I v10_33), (4, .B 6 0), (6, .B 8 0), (8, .S 2), (9, .I (g_.Edges.length : Int)), (10, .I v10_33), (32, .S 2), (33, .I (g_.Edges.length : Int)), (34, .I v34_60), (78, .O true), (86, .O (x74.Act.From != x83.Act.From))], [(4, .box (cC4 0 1 2 3 g_) 27), (6, .box (cC2 x74) 43), (8, .box (cC2 x83) 43)], (vV4 0 1 2 3 g_ []), 9⟩ htt 8 (by kernel_rfl) (?_))
          rcases oc h with ⟨hc, h⟩ | ⟨hc, h⟩
          · refine WPr.kb 86 hc rfl (WPr.silx [] ⟨[(1, .B 4 0), (3, .I v10_33), (4, .B 6 0), (8, .S 2), (9, .I (g_.Edges.length : Int)), (10, .I v10_33), (32, .S 2), (33, .I (g_.Edges.length : Int)), (34, .I v34_60), (95, .O true)], [(4, .box (cC4 0 1 2 3 g_) 27), (6, .box (cC2 x74) 43)], (vV4 0 1 2 3 g_ []), 9⟩ htt 9 (by kernel_rfl) (WPr.nil (WP.condT rfl rfl (WP.seq (WP.region (WPr.sil htt 1 rfl (WPr.nil (?_))))))))
            cases h
            exact WP.ret htt Tryz.func64 [] rfl rfl rfl rfl
          refine WPr.kb 86 hc rfl (WPr.silx [] ⟨[(1, .B 4 0), (3, .I v10_33), (4, .B 6 0), (8, .S 2), (9, .I (g_.Edges.length : Int)), (10, .I v10_33), (32, .S 2), (33, .I (g_.Edges.length : Int)), (34, .I v34_60), (95, .O (x74.Act.Label != x83.Act.Label))], [(4, .box (cC4 0 1 2 3 g_) 27), (6, .box (cC2 x74) 43)], (vV4 0 1 2 3 g_ []), 9⟩ htt 9 (by kernel_rfl) (WPr.nil (?_)))
          rcases oc h with ⟨hc, h⟩ | ⟨hc, h⟩
          · refine WP.condT hc rfl (WP.seq (WP.region (WPr.sil htt 1 rfl (WPr.nil (?_)))))
            cases h
            exact WP.ret htt Tryz.func64 [] rfl rfl rfl rfl
          exact WP.condF hc rfl (WP.skip (WP.inBlock (WP.region (WPr.sil htt 2 rfl (WPr.nil (WP.sub [] (ih60 (w64 (v34_60 + (1 : Int))) h) rfl rfl rfl rfl))))))
        rcases oc' h with ⟨hc, h⟩ | ⟨hc, h⟩
        · exact WPr.kb 42 hc rfl (WPr.silx [] ⟨[(1, .B 4 0), (3, .I v10_33), (4, .B 6 0), (6, .B 8 0), (8, .S 2), (9, .I (g_.Edges.length : Int)), (10, .I v10_33), (32, .S 2), (33, .I (g_.Edges.length : Int)), (34, .I v34_60), (68, .O false)], [(4, .box (cC4 0 1 2 3 g_) 27), (6, .box (cC2 x74) 43), (8, .box (cC2 x83) 43)], (vV4 0 1 2 3 g_ []), 9⟩ htt 26 (by kernel_rfl) (WPr.nil (WP.sub [] (j63 false h) rfl rfl rfl rfl)))
        refine WPr.kb 42 hc rfl (WPr.silx (rg 11 19) ⟨[(1, .B 4 0), (3, .I v10_33), (4, .B 6 0), (6, .B 8 0), (8, .S 2), (9, .I (g_.Edges.length : Int)), (10, .I v10_33), (32, .S 2), (33, .I (g_.Edges.length : Int)), (34, .I v34_60), (49, .O (x74.From == x83.From))], [(4, .box (cC4 0 1 2 3 g_) 27), (6, .box (cC2 x74) 43), (8, .box (cC2 x83) 43)], (vV4 0 1 2 3 g_ []), 9⟩ htt 7 (by kernel_rfl) (?_))
        rcases oc' h with ⟨hc, h⟩ | ⟨hc, h⟩
        · exact WPr.kb 49 hc rfl (WPr.silx [] ⟨[(1, .B 4 0), (3, .I v10_33), (4, .B 6 0), (6, .B 8 0), (8, .S 2), (9, .I (g_.Edges.length : Int)), (10, .I v10_33), (32, .S 2), (33, .I (g_.Edges.length : Int)), (34, .I v34_60), (68, .O false)], [(4, .box (cC4 0 1 2 3 g_) 27), (6, .box (cC2 x74) 43), (8, .box (cC2 x83) 43)], (vV4 0 1 2 3 g_ []), 9⟩ htt 19 (by kernel_rfl) (WPr.nil (WP.sub [] (j63 false h) rfl rfl rfl rfl)))
        refine WPr.kb 49 hc rfl (WPr.silx (rg 15 15) ⟨[(1, .B 4 0), (3, .I v10_33), (4, .B 6 0), (6, .B 8 0), (8, .S 2), (9, .I (g_.Edges.length : Int)), (10, .I v10_33), (32, .S 2), (33, .I (g_.Edges.length : Int)), (34, .I v34_60), (49, .O true), (51, .a (cC6 x74.Act)), (53, .a (cC6 x83.Act))], [(4, .box (cC4 0 1 2 3 g_) 27), (6, .box (cC2 x74) 43), (8, .box (cC2 x83) 43)], (vV4 0 1 2 3 g_ []), 9⟩ htt 4 (by kernel_rfl) (WPr.eqa (neg := false) (equal_run (b := ((x74.Act.From == x83.Act.From) && ((x74.Act.To == x83.Act.To) && ((x74.Act.Label == x83.Act.Label) && true)))) (by kernel_rfl) (by kernel_rfl)) (by kernel_rfl) rfl rfl rfl rfl rfl rfl rfl (WPr.sil htt 1 rfl (?_))))
        rcases oc h with ⟨hc, h⟩ | ⟨hc, h⟩
        · exact WPr.kb 55 hc rfl (WPr.silx [] ⟨[(1, .B 4 0), (3, .I v10_33), (4, .B 6 0), (6, .B 8 0), (8, .S 2), (9, .I (g_.Edges.length : Int)), (10, .I v10_33), (32, .S 2), (33, .I (g_.Edges.length : Int)), (34, .I v34_60), (68, .O true)], [(4, .box (cC4 0 1 2 3 g_) 27), (6, .box (cC2 x74) 43), (8, .box (cC2 x83) 43)], (vV4 0 1 2 3 g_ []), 9⟩ htt 13 (by kernel_rfl) (WPr.nil (WP.sub [] (j63 true h) rfl rfl rfl rfl)))
        refine WPr.kb 55 hc rfl (WPr.silx [26, 27, 28, 29] ⟨[(1, .B 4 0), (3, .I v10_33), (4, .B 6 0), (6, .B 8 0), (8, .S 2), (9, .I (g_.Edges.length : Int)), (10, .I v10_33), (32, .S 2), (33, .I (g_.Edges.length : Int)), (34, .I v34_60), (49, .O true), (64, .O (x74.Act.From != x83.Act.From))], [(4, .box (cC4 0 1 2 3 g_) 27), (6, .box (cC2 x74) 43), (8, .box (cC2 x83) 43)], (vV4 0 1 2 3 g_ []), 9⟩ htt 9 (by kernel_rfl) (?_))
        rcases oc h with ⟨hc, h⟩ | ⟨hc, h⟩
        · exact WPr.kb 64 hc rfl (WPr.silx [] ⟨[(1, .B 4 0), (3, .I v10_33), (4, .B 6 0), (6, .B 8 0), (8, .S 2), (9, .I (g_.Edges.length : Int)), (10, .I v10_33), (32, .S 2), (33, .I (g_.Edges.length : Int)), (34, .I v34_60), (68, .O true)], [(4, .box (cC4 0 1 2 3 g_) 27), (6, .box (cC2 x74) 43), (8, .box (cC2 x83) 43)], (vV4 0 1 2 3 g_ []), 9⟩ htt 4 (by kernel_rfl) (WPr.nil (WP.sub [] (j63 true h) rfl rfl rfl rfl)))
        exact WPr.kb 64 hc rfl (WPr.silx [] ⟨[(1, .B 4 0), (3, .I v10_33), (4, .B 6 0), (6, .B 8 0), (8, .S 2), (9, .I (g_.Edges.length : Int)), (10, .I v10_33), (32, .S 2), (33, .I (g_.Edges.length : Int)), (34, .I v34_60), (68, .O x74.Again)], [(4, .box (cC4 0 1 2 3 g_) 27), (6, .box (cC2 x74) 43), (8, .box (cC2 x83) 43)], (vV4 0 1 2 3 g_ []), 9⟩ htt 4 (by kernel_rfl) (WPr.nil (WP.sub [] (j63 x74.Again h) rfl rfl rfl rfl)))
      exact WP.sub [] (ih N (0 : Int) h) rfl rfl rfl rfl
    rcases oc h with ⟨hc, h⟩ | ⟨hc, h⟩
    · exact WPr.kb 20 hc rfl (WPr.silx [] ⟨[(1, .B 4 0), (3, .I v10_33), (4, .B 6 0), (8, .S 2), (9, .I (g_.Edges.length : Int)), (10, .I v10_33), (30, .O true)], [(4, .box (cC4 0 1 2 3 g_) 27), (6, .box (cC2 x74) 43)], (vV4 0 1 2 3 g_ []), 7⟩ htt 10 (by kernel_rfl) (WPr.nil (WP.sub [] (j54 true h) rfl rfl rfl rfl)))
    refine WPr.kb 20 hc rfl (WPr.silx (rg 9 7) ⟨[(1, .B 4 0), (3, .I v10_33), (4, .B 6 0), (8, .S 2), (9, .I (g_.Edges.length : Int)), (10, .I v10_33), (20, .O false), (23, .O x74.Again)], [(4, .box (cC4 0 1 2 3 g_) 27), (6, .box (cC2 x74) 43)], (vV4 0 1 2 3 g_ []), 7⟩ htt 3 (by kernel_rfl) (?_))
    rcases oc h with ⟨hc, h⟩ | ⟨hc, h⟩
    · exact WPr.kb 23 hc rfl (WPr.silx [] ⟨[(1, .B 4 0), (3, .I v10_33), (4, .B 6 0), (8, .S 2), (9, .I (g_.Edges.length : Int)), (10, .I v10_33), (30, .O (x74.From == g_.Start))], [(4, .box (cC4 0 1 2 3 g_) 27), (6, .box (cC2 x74) 43)], (vV4 0 1 2 3 g_ []), 7⟩ htt 7 (by kernel_rfl) (WPr.nil (WP.sub [] (j54 (x74.From == g_.Start) h) rfl rfl rfl rfl)))
    exact WPr.kb 23 hc rfl (WPr.silx [] ⟨[(1, .B 4 0), (3, .I v10_33), (4, .B 6 0), (8, .S 2), (9, .I (g_.Edges.length : Int)), (10, .I v10_33), (30, .O false)], [(4, .box (cC4 0 1 2 3 g_) 27), (6, .box (cC2 x74) 43)], (vV4 0 1 2 3 g_ []), 7⟩ htt 7 (by kernel_rfl) (WPr.nil (WP.sub [] (j54 false h) rfl rfl rfl rfl)))
  exact WP.sub [] (ih N (0 : Int) h) rfl rfl rfl rfl
theorem z65_ct (N : Nat) (g_ : T4) (r : Bool) (h : z65 N g_ = some r) :
  Fn Tryz.prog 65 ⟨4, [.a (cC4 0 1 2 3 g_)], (vV4 0 1 2 3 g_ []), [], 4, .O r, [], []⟩ := by
  refine Fn.intro _ _ Tryz.func65 rfl (by kernel_rfl) rfl (fun E F w => ?_)
  unfold z65 at h
  refine WP.seq (WP.region (WPr.sil htt 2 rfl (WPr.nil (WP.seq (WP.region (WPr.silx [] ⟨[(1, .B 4 0), (2, .O false), (3, .I (-1 : Int))], [(4, .box (cC4 0 1 2 3 g_) 27)], (vV4 0 1 2 3 g_ []), 5⟩ htt 1 (by kernel_rfl) (WPr.nil (WP.seq (WP.seq (WP.region (WPr.silx [] ⟨[(1, .B 4 0), (2, .O false), (3, .I (-1 : Int)), (7, .S 3), (8, .I (g_.Timeouts.length : Int)), (9, .I (0 : Int))], [(4, .box (cC4 0 1 2 3 g_) 27)], (vV4 0 1 2 3 g_ []), 5⟩ htt 4 (by kernel_rfl) (WPr.nil (?_)))))))))))))
  refine WP.cut (σ := Unit) (fun st => ⟨[], [], (vV4 0 1 2 3 g_ []), 5⟩) (fun st => z65_k1 = some r) ?_ (fun j1 => ?_)
  · intro _ h
    replace h : z65_k1 = some r := h
    unfold z65_k1 at h
    refine WP.seq (WP.region (WPr.sil htt 1 rfl (WPr.nil (?_))))
    cases h
    exact WP.ret htt Tryz.func65 [] rfl rfl rfl rfl
  refine WP.block (?_)
  refine WP.loopI (σ := Int × Int) (fun st => ⟨[(1, .B 4 0), (3, .I st.1), (7, .S 3), (8, .I (g_.Timeouts.length : Int)), (9, .I st.2)], [(4, .box (cC4 0 1 2 3 g_) 27)], (vV4 0 1 2 3 g_ []), 5⟩) (fun n st => z65_l2 g_ n st.1 st.2) (r := r) (fun _ => rfl) ?_ (fun ih => ?_)
  · intro n2 ih3
    rintro ⟨v3_3, v9_3⟩ h
    replace h : z65_l2 g_ (n2 + 1) v3_3 v9_3 = some r := h
    unfold z65_l2 at h
    refine WP.seq (WP.region (WPr.sil htt 1 rfl (WPr.nil (WP.seq (?_)))))
    rcases oc' h with ⟨hc, h⟩ | ⟨hc, h⟩
    · exact WP.condF hc rfl (WP.exit rfl (WP.sub [] (j1 () h) rfl rfl rfl rfl))
    refine WP.condT hc rfl (WP.skip (WP.seq (WP.block (WP.seq (WP.region (?_))))))
    obtain ⟨x41, hx41, h⟩ := ob h
    refine WPr.ix oO8 htt hx41 rfl rfl rfl rfl rfl rfl rfl rfl rfl (WPr.silx [] ⟨[(1, .B 4 0), (3, .I v3_3), (5, .B 6 0), (7, .S 3), (8, .I (g_.Timeouts.length : Int)), (9, .I v9_3)], [(4, .box (cC4 0 1 2 3 g_) 27), (6, .box (cC8 x41) 79)], (vV4 0 1 2 3 g_ []), 7⟩ htt 3 (by kernel_rfl) (WPr.nil (WP.seq (WP.seq (WP.regionQ (by kernel_rfl) (by kernel_rfl) (WPq.silx (rg 5 43) ⟨[(1, .B 4 0), (5, .B 6 0), (7, .S 3), (8, .I (g_.Timeouts.length : Int)), (9, .I v9_3), (17, .O (decide (x41.State ≤ v3_3)))], [(4, .box (cC4 0 1 2 3 g_) 27), (6, .box (cC8 x41) 79)], (vV4 0 1 2 3 g_ []), 7⟩ htt 5 (by kernel_rfl) (?_)))))))
    rcases oc h with ⟨hc, h⟩ | ⟨hc, h⟩
    · refine WPq.kb 17 hc rfl (WPq.silx [] ⟨[(1, .B 4 0), (5, .B 6 0), (7, .S 3), (8, .I (g_.Timeouts.length : Int)), (9, .I v9_3), (60, .O true)], [(4, .box (cC4 0 1 2 3 g_) 27), (6, .box (cC8 x41) 79)], (vV4 0 1 2 3 g_ []), 7⟩ htt 43 (by kernel_rfl) (WPq.nil (WP.condT rfl rfl (WP.seq (WP.region (WPr.sil htt 1 rfl (WPr.nil (?_))))))))
      cases h
      exact WP.ret htt Tryz.func65 [] rfl rfl rfl rfl
    refine WPq.kb 17 hc rfl (WPq.silx (rg 10 38) ⟨[(1, .B 4 0), (5, .B 6 0), (7, .S 3), (8, .I (g_.Timeouts.length : Int)), (9, .I v9_3), (22, .O (decide (x41.Ticks < (1 : Int))))], [(4, .box (cC4 0 1 2 3 g_) 27), (6, .box (cC8 x41) 79)], (vV4 0 1 2 3 g_ []), 7⟩ htt 5 (by kernel_rfl) (?_))
    rcases oc h with ⟨hc, h⟩ | ⟨hc, h⟩
    · refine WPq.kb 22 hc rfl (WPq.silx [] ⟨[(1, .B 4 0), (5, .B 6 0), (7, .S 3), (8, .I (g_.Timeouts.length : Int)), (9, .I v9_3), (60, .O true)], [(4, .box (cC4 0 1 2 3 g_) 27), (6, .box (cC8 x41) 79)], (vV4 0 1 2 3 g_ []), 7⟩ htt 38 (by kernel_rfl) (WPq.nil (WP.condT rfl rfl (WP.seq (WP.region (WPr.sil htt 1 rfl (WPr.nil (?_))))))))
      cases h
      exact WP.ret htt Tryz.func65 [] rfl rfl rfl rfl
    refine WPq.kb 22 hc rfl (WPq.silx (rg 15 33) ⟨[(1, .B 4 0), (5, .B 6 0), (7, .S 3), (8, .I (g_.Timeouts.length : Int)), (9, .I v9_3), (27, .O (decide (x41.Ticks > (1000 : Int))))], [(4, .box (cC4 0 1 2 3 g_) 27), (6, .box (cC8 x41) 79)], (vV4 0 1 2 3 g_ []), 7⟩ htt 5 (by kernel_rfl) (?_))
    rcases oc h with ⟨hc, h⟩ | ⟨hc, h⟩
    · refine WPq.kb 27 hc rfl (WPq.silx [] ⟨[(1, .B 4 0), (5, .B 6 0), (7, .S 3), (8, .I (g_.Timeouts.length : Int)), (9, .I v9_3), (60, .O true)], [(4, .box (cC4 0 1 2 3 g_) 27), (6, .box (cC8 x41) 79)], (vV4 0 1 2 3 g_ []), 7⟩ htt 33 (by kernel_rfl) (WPq.nil (WP.condT rfl rfl (WP.seq (WP.region (WPr.sil htt 1 rfl (WPr.nil (?_))))))))
      cases h
      exact WP.ret htt Tryz.func65 [] rfl rfl rfl rfl
    refine WPq.kb 27 hc rfl (WPq.silx (rg 20 28) ⟨[(1, .B 4 0), (5, .B 6 0), (7, .S 3), (8, .I (g_.Timeouts.length : Int)), (9, .I v9_3), (32, .O (decide (x41.Else < (0 : Int))))], [(4, .box (cC4 0 1 2 3 g_) 27), (6, .box (cC8 x41) 79)], (vV4 0 1 2 3 g_ []), 7⟩ htt 5 (by kernel_rfl) (?_))
    rcases oc h with ⟨hc, h⟩ | ⟨hc, h⟩
    · refine WPq.kb 32 hc rfl (WPq.silx [] ⟨[(1, .B 4 0), (5, .B 6 0), (7, .S 3), (8, .I (g_.Timeouts.length : Int)), (9, .I v9_3), (60, .O true)], [(4, .box (cC4 0 1 2 3 g_) 27), (6, .box (cC8 x41) 79)], (vV4 0 1 2 3 g_ []), 7⟩ htt 28 (by kernel_rfl) (WPq.nil (WP.condT rfl rfl (WP.seq (WP.region (WPr.sil htt 1 rfl (WPr.nil (?_))))))))
      cases h
      exact WP.ret htt Tryz.func65 [] rfl rfl rfl rfl
    refine WPq.kb 32 hc rfl (WPq.silx (rg 28 20) ⟨[(1, .B 4 0), (5, .B 6 0), (7, .S 3), (8, .I (g_.Timeouts.length : Int)), (9, .I v9_3), (40, .O (decide (x41.Else ≥ (g_.Edges.length : Int))))], [(4, .box (cC4 0 1 2 3 g_) 27), (6, .box (cC8 x41) 79)], (vV4 0 1 2 3 g_ []), 7⟩ htt 8 (by kernel_rfl) (?_))
    rcases oc h with ⟨hc, h⟩ | ⟨hc, h⟩
    · refine WPq.kb 40 hc rfl (WPq.silx [] ⟨[(1, .B 4 0), (5, .B 6 0), (7, .S 3), (8, .I (g_.Timeouts.length : Int)), (9, .I v9_3), (60, .O true)], [(4, .box (cC4 0 1 2 3 g_) 27), (6, .box (cC8 x41) 79)], (vV4 0 1 2 3 g_ []), 7⟩ htt 20 (by kernel_rfl) (WPq.nil (WP.condT rfl rfl (WP.seq (WP.region (WPr.sil htt 1 rfl (WPr.nil (?_))))))))
      cases h
      exact WP.ret htt Tryz.func65 [] rfl rfl rfl rfl
    refine WPq.kb 40 hc rfl (WPq.silx (rg 32 16) ⟨[(1, .B 4 0), (5, .B 6 0), (7, .S 3), (8, .I (g_.Timeouts.length : Int)), (9, .I v9_3), (40, .O false), (42, .S 2), (44, .I x41.Else)], [(4, .box (cC4 0 1 2 3 g_) 27), (6, .box (cC8 x41) 79)], (vV4 0 1 2 3 g_ []), 7⟩ htt 4 (by kernel_rfl) (?_))
    obtain ⟨x44, hx44, h⟩ := ob h
    refine WPq.op rfl rfl (VN.vs (VN.ix oO2 htt hx44 rfl rfl rfl rfl rfl rfl rfl)) (WPq.silx (rg 40 8) ⟨[(1, .B 4 0), (5, .B 6 0), (7, .S 3), (8, .I (g_.Timeouts.length : Int)), (9, .I v9_3), (52, .O (x44.From != x41.State))], [(4, .box (cC4 0 1 2 3 g_) 27), (6, .box (cC8 x41) 79)], (vV4 0 1 2 3 g_ []), 8⟩ htt 7 (by kernel_rfl) (?_))
    rcases oc h with ⟨hc, h⟩ | ⟨hc, h⟩
    · refine WPq.kb 52 hc rfl (WPq.silx [] ⟨[(1, .B 4 0), (5, .B 6 0), (7, .S 3), (8, .I (g_.Timeouts.length : Int)), (9, .I v9_3), (60, .O true)], [(4, .box (cC4 0 1 2 3 g_) 27), (6, .box (cC8 x41) 79)], (vV4 0 1 2 3 g_ []), 8⟩ htt 8 (by kernel_rfl) (WPq.nil (WP.condT rfl rfl (WP.seq (WP.region (WPr.sil htt 1 rfl (WPr.nil (?_))))))))
      cases h
      exact WP.ret htt Tryz.func65 [] rfl rfl rfl rfl
    refine WPq.kb 52 hc rfl (WPq.silx [44, 45, 46, 47] ⟨[(1, .B 4 0), (5, .B 6 0), (7, .S 3), (8, .I (g_.Timeouts.length : Int)), (9, .I v9_3), (52, .O false), (54, .S 2), (56, .I x41.Else)], [(4, .box (cC4 0 1 2 3 g_) 27), (6, .box (cC8 x41) 79)], (vV4 0 1 2 3 g_ []), 8⟩ htt 4 (by kernel_rfl) (?_))
    obtain ⟨x45, hx45, h⟩ := ob h
    refine WPq.op rfl rfl (VN.vs (VN.ix oO2 htt hx45 rfl rfl rfl rfl rfl rfl rfl)) (WPq.silx [] ⟨[(1, .B 4 0), (5, .B 6 0), (7, .S 3), (8, .I (g_.Timeouts.length : Int)), (9, .I v9_3), (60, .O x45.Again)], [(4, .box (cC4 0 1 2 3 g_) 27), (6, .box (cC8 x41) 79)], (vV4 0 1 2 3 g_ []), 9⟩ htt 3 (by kernel_rfl) (WPq.nil (?_)))
    rcases oc h with ⟨hc, h⟩ | ⟨hc, h⟩
    · refine WP.condT hc rfl (WP.seq (WP.region (WPr.sil htt 1 rfl (WPr.nil (?_)))))
      cases h
      exact WP.ret htt Tryz.func65 [] rfl rfl rfl rfl
    exact WP.condF hc rfl (WP.skip (WP.region (WPr.silx [] ⟨[(1, .B 4 0), (3, .I x41.State), (7, .S 3), (8, .I (g_.Timeouts.length : Int)), (9, .I v9_3)], [(4, .box (cC4 0 1 2 3 g_) 27)], (vV4 0 1 2 3 g_ []), 9⟩ htt 3 (by kernel_rfl) (WPr.nil (WP.inBlock (WP.region (WPr.sil htt 2 rfl (WPr.nil (WP.sub [] (ih3 (x41.State, (w64 (v9_3 + (1 : Int)))) h) rfl rfl rfl rfl)))))))))
  exact WP.sub [] (ih N ((-1 : Int), (0 : Int)) h) rfl rfl rfl rfl
theorem z156_ct (N : Nat) (x_ : Int) (y_ : Int) (r : Int × Int) (h : z156 N x_ y_ = some r) :
  Fn Tryz.prog 156 ⟨0, [.c (.i .u64 x_), .c (.i .u64 y_)], [], [], 0, .t [.inl (.i .u64 r.1), .inl (.i .u64 r.2)], [], []⟩ := by
  refine Fn.intro _ _ Tryz.func156 rfl (by kernel_rfl) rfl (fun E F w => ?_)
  unfold z156 at h
  refine WP.seq (WP.region (WPr.sil htt 2 rfl (WPr.nil (WP.seq (WP.region (WPr.silx [1, 2] ⟨[(0, .c (.i .u64 x_)), (1, .c (.i .u64 y_)), (4, .c (.i .u64 (0 : Int))), (5, .c (.i .u64 (0 : Int))), (14, .c (.i .u64 x_))], [], [], 0⟩ htt 1 (by kernel_rfl) (?_)))))))
  obtain ⟨x1, hx1, h⟩ := ob h
  refine WPr.bin hx1 rfl rfl rfl rfl rfl rfl rfl rfl (WPr.sil htt 1 rfl (WPr.nil (WP.seq (WP.region (WPr.silx [1, 2] ⟨[(0, .c (.i .u64 x_)), (1, .c (.i .u64 y_)), (4, .c (.i .u64 (0 : Int))), (5, .c (.i .u64 (0 : Int))), (6, .c (.i .u64 x1)), (16, .c (.i .u64 x_))], [], [], 0⟩ htt 1 (by kernel_rfl) (?_))))))
  obtain ⟨x2, hx2, h⟩ := ob h
  refine WPr.bin hx2 rfl rfl rfl rfl rfl rfl rfl rfl (WPr.sil htt 1 rfl (WPr.nil (WP.seq (WP.region (WPr.silx [1, 2] ⟨[(0, .c (.i .u64 x_)), (1, .c (.i .u64 y_)), (4, .c (.i .u64 (0 : Int))), (5, .c (.i .u64 (0 : Int))), (6, .c (.i .u64 x1)), (7, .c (.i .u64 x2)), (18, .c (.i .u64 y_))], [], [], 0⟩ htt 1 (by kernel_rfl) (?_))))))
  obtain ⟨x3, hx3, h⟩ := ob h
  refine WPr.bin hx3 rfl rfl rfl rfl rfl rfl rfl rfl (WPr.sil htt 1 rfl (WPr.nil (WP.seq (WP.region (WPr.silx [1, 2] ⟨[(0, .c (.i .u64 x_)), (1, .c (.i .u64 y_)), (4, .c (.i .u64 (0 : Int))), (5, .c (.i .u64 (0 : Int))), (6, .c (.i .u64 x1)), (7, .c (.i .u64 x2)), (8, .c (.i .u64 x3)), (20, .c (.i .u64 y_))], [], [], 0⟩ htt 1 (by kernel_rfl) (?_))))))
  obtain ⟨x4, hx4, h⟩ := ob h
  refine WPr.bin hx4 rfl rfl rfl rfl rfl rfl rfl rfl (WPr.sil htt 1 rfl (WPr.nil (WP.seq (WP.region (WPr.silx [] ⟨[(0, .c (.i .u64 x_)), (1, .c (.i .u64 y_)), (4, .c (.i .u64 (0 : Int))), (5, .c (.i .u64 (0 : Int))), (6, .c (.i .u64 x1)), (7, .c (.i .u64 x2)), (8, .c (.i .u64 x3)), (9, .c (.i .u64 x4)), (10, .c (.i .u64 (wk .u64 (x1 * x3))))], [], [], 0⟩ htt 4 (by kernel_rfl) (WPr.nil (WP.seq (WP.region (WPr.silx [4, 5, 6] ⟨[(0, .c (.i .u64 x_)), (1, .c (.i .u64 y_)), (4, .c (.i .u64 (0 : Int))), (5, .c (.i .u64 (0 : Int))), (6, .c (.i .u64 x1)), (7, .c (.i .u64 x2)), (9, .c (.i .u64 x4)), (27, .c (.i .u64 (wk .u64 (x2 * x3)))), (28, .c (.i .u64 (wk .u64 (x1 * x3))))], [], [], 0⟩ htt 4 (by kernel_rfl) (?_))))))))))
  obtain ⟨x5, hx5, h⟩ := ob h
  refine WPr.bin hx5 rfl rfl rfl rfl rfl rfl rfl rfl (WPr.silx [] ⟨[(0, .c (.i .u64 x_)), (1, .c (.i .u64 y_)), (4, .c (.i .u64 (0 : Int))), (5, .c (.i .u64 (0 : Int))), (6, .c (.i .u64 x1)), (7, .c (.i .u64 x2)), (9, .c (.i .u64 x4)), (11, .c (.i .u64 (wk .u64 ((wk .u64 (x2 * x3)) + x5))))], [], [], 0⟩ htt 2 (by kernel_rfl) (WPr.nil (WP.seq (WP.region (WPr.sil htt 1 rfl (?_))))))
  obtain ⟨x6, hx6, h⟩ := ob h
  refine WPr.bin hx6 rfl rfl rfl rfl rfl rfl rfl rfl (WPr.silx [] ⟨[(0, .c (.i .u64 x_)), (1, .c (.i .u64 y_)), (4, .c (.i .u64 (0 : Int))), (5, .c (.i .u64 (0 : Int))), (6, .c (.i .u64 x1)), (7, .c (.i .u64 x2)), (9, .c (.i .u64 x4)), (11, .c (.i .u64 (wk .u64 ((wk .u64 (x2 * x3)) + x5)))), (12, .c (.i .u64 x6))], [], [], 0⟩ htt 1 (by kernel_rfl) (WPr.nil (WP.seq (WP.region (WPr.sil htt 1 rfl (?_))))))
  obtain ⟨x7, hx7, h⟩ := ob h
  refine WPr.bin hx7 rfl rfl rfl rfl rfl rfl rfl rfl (WPr.silx [] ⟨[(0, .c (.i .u64 x_)), (1, .c (.i .u64 y_)), (4, .c (.i .u64 (0 : Int))), (5, .c (.i .u64 (0 : Int))), (6, .c (.i .u64 x1)), (7, .c (.i .u64 x2)), (9, .c (.i .u64 x4)), (12, .c (.i .u64 x6)), (13, .c (.i .u64 x7))], [], [], 0⟩ htt 1 (by kernel_rfl) (WPr.nil (WP.seq (WP.region (WPr.silx [] ⟨[(0, .c (.i .u64 x_)), (1, .c (.i .u64 y_)), (4, .c (.i .u64 (0 : Int))), (5, .c (.i .u64 (0 : Int))), (7, .c (.i .u64 x2)), (9, .c (.i .u64 x4)), (12, .c (.i .u64 (wk .u64 (x6 + (wk .u64 (x1 * x4)))))), (13, .c (.i .u64 x7))], [], [], 0⟩ htt 6 (by kernel_rfl) (WPr.nil (WP.seq (WP.region (WPr.silx [6, 7, 8] ⟨[(0, .c (.i .u64 x_)), (1, .c (.i .u64 y_)), (5, .c (.i .u64 (0 : Int))), (44, .c (.i .u64 (wk .u64 ((wk .u64 (x2 * x4)) + x7)))), (45, .c (.i .u64 (wk .u64 (x6 + (wk .u64 (x1 * x4))))))], [], [], 0⟩ htt 6 (by kernel_rfl) (?_))))))))))
  obtain ⟨x8, hx8, h⟩ := ob h
  refine WPr.bin hx8 rfl rfl rfl rfl rfl rfl rfl rfl (WPr.silx [] ⟨[(0, .c (.i .u64 x_)), (1, .c (.i .u64 y_)), (4, .c (.i .u64 (wk .u64 ((wk .u64 ((wk .u64 (x2 * x4)) + x7)) + x8)))), (5, .c (.i .u64 (0 : Int)))], [], [], 0⟩ htt 2 (by kernel_rfl) (WPr.nil (WP.seq (WP.region (WPr.silx [] ⟨[(4, .c (.i .u64 (wk .u64 ((wk .u64 ((wk .u64 (x2 * x4)) + x7)) + x8)))), (5, .c (.i .u64 (wk .u64 (x_ * y_))))], [], [], 0⟩ htt 4 (by kernel_rfl) (WPr.nil (?_)))))))
  cases h
  exact WP.ret htt Tryz.func156 [] rfl rfl rfl rfl
theorem z119_ct (N : Nat) (x_ : Int) (y_ : Int) (r : Int × Int) (h : z119 N x_ y_ = some r) :
  Fn Tryz.prog 119 ⟨0, [.c (.i .u64 x_), .c (.i .u64 y_)], [], [], 0, .t [.inl (.i .u64 r.1), .inl (.i .u64 r.2)], [], []⟩ := by
  refine Fn.intro _ _ Tryz.func119 rfl (by kernel_rfl) rfl (fun E F w => ?_)
  unfold z119 at h
  refine WP.seq (WP.region (WPr.sil htt 2 rfl (WPr.nil (WP.seq (WP.condCF (WP.skip (WP.seq (WP.region (WPr.silx (rg 2 6) ⟨[(4, .c (.i .u64 (0 : Int))), (5, .c (.i .u64 (0 : Int))), (23, .c (.i .u64 x_)), (24, .c (.i .u64 y_))], [], [], 0⟩ htt 2 (by kernel_rfl) (?_))))))))))
  obtain ⟨x1, hx1, h⟩ := ob h
  refine WPr.call (z156_ct N x_ y_ _ hx1) [] [] rfl rfl rfl rfl rfl rfl rfl rfl (.inl rfl) rfl (WPr.silx [] ⟨[(4, .c (.i .u64 (0 : Int))), (5, .c (.i .u64 (0 : Int))), (8, .c (.i .u64 x1.1)), (9, .c (.i .u64 x1.2))], [], [], 0⟩ htt 5 (by kernel_rfl) (WPr.nil (WP.seq (WP.region (WPr.silx [] ⟨[(4, .c (.i .u64 x1.1)), (5, .c (.i .u64 x1.2))], [], [], 0⟩ htt 4 (by kernel_rfl) (WPr.nil (?_)))))))
  cases h
  exact WP.ret htt Tryz.func119 [] rfl rfl rfl rfl
theorem z58_ct (N : Nat) (x_ : (List Int)) (count_ : Int) (r : (List Int)) (h : z58 N x_ count_ = some r) :
  Fn Tryz.prog 58 ⟨1, [.S 0, .I count_], [(0, .sl (rI .i64) x_)], [], 2, .S 1, [], [(1, .own (rI .i64) r true)]⟩ := by
  refine Fn.intro _ _ Tryz.func58 rfl (by kernel_rfl) rfl (fun E F w => ?_)
  unfold z58 at h
  refine WP.seq (WP.region (WPr.sil htt 1 rfl (WPr.nil (WP.seq (WP.seq (WP.region (WPr.silx [] ⟨[(0, .S 0), (1, .I count_), (4, .c .nil), (10, .O (decide (count_ < (0 : Int))))], [], [(0, .sl (rI .i64) x_)], 1⟩ htt 2 (by kernel_rfl) (WPr.nil (?_)))))))))
  rcases oc h with ⟨hc, h⟩ | ⟨hc, h⟩
  · refine WP.condT hc rfl (WP.region (?_))
    cases h
  refine WP.condF hc rfl (WP.skip (WP.seq (WP.region (WPr.silx (rg 5 6) ⟨[(0, .S 0), (4, .c .nil), (15, .c (.i .u64 (wk .u64 ((x_.length : Int))))), (17, .c (.i .u64 (wk .u64 (count_))))], [], [(0, .sl (rI .i64) x_)], 1⟩ htt 5 (by kernel_rfl) (?_)))))
  obtain ⟨x1, hx1, h⟩ := ob h
  refine WPr.call (z119_ct N (wk .u64 ((x_.length : Int))) (wk .u64 (count_)) _ hx1) [] [] rfl rfl rfl rfl rfl rfl rfl rfl (.inl rfl) rfl (WPr.silx [] ⟨[(0, .S 0), (4, .c .nil), (5, .c (.i .u64 x1.1)), (6, .c (.i .u64 x1.2))], [], [(0, .sl (rI .i64) x_)], 1⟩ htt 5 (by kernel_rfl) (WPr.nil (WP.seq (WP.seq (WP.region (WPr.silx [3, 4, 5] ⟨[(0, .S 0), (4, .c .nil), (6, .c (.i .u64 x1.2)), (23, .O (decide (x1.1 > (0 : Int))))], [], [(0, .sl (rI .i64) x_)], 1⟩ htt 3 (by kernel_rfl) (?_)))))))
  refine WP.cutr (σ := Bool) (fun st => ⟨[(0, .S 0), (6, .c (.i .u64 x1.2)), (26, .O st)], [], [(0, .sl (rI .i64) x_)], 1⟩) (fun st => z58_k3 N x_ x1 st = some r) ?_ (fun j2 => ?_)
  · intro v26_2 h
    replace h : z58_k3 N x_ x1 v26_2 = some r := h
    unfold z58_k3 at h
    rcases oc h with ⟨hc, h⟩ | ⟨hc, h⟩
    · refine WP.condT hc rfl (WP.region (?_))
      cases h
    refine WP.condF hc rfl (WP.skip (WP.seq (WP.region (WPr.sil htt 2 rfl (?_)))))
    obtain ⟨x2, hx2, h⟩ := ob h
    refine WPr.mk (oI .i64) htt (0 : Int) hx2 rfl rfl rfl rfl rfl rfl rfl rfl (by exact an rfl rfl) rfl (WPr.silx [] ⟨[(0, .S 0), (7, .S 1)], [(1, .own (rI .i64) x2 true)], [(0, .sl (rI .i64) x_)], 2⟩ htt 1 (by kernel_rfl) (WPr.nil (WP.seq (WP.region (WPr.sil htt 2 rfl (?_))))))
    obtain ⟨x3, hx3, h⟩ := ob h
    refine WPr.cp htt hx3 (by exact (srcI rfl)) rfl rfl rfl rfl rfl (Or.inr ⟨rfl, rfl, rfl⟩) rfl rfl rfl rfl (WPr.silx [] ⟨[(7, .S 1), (8, .I x3.2)], [(1, .own (rI .i64) x3.1 true)], [(0, .sl (rI .i64) x_)], 2⟩ htt 1 (by kernel_rfl) (WPr.nil (WP.seq (?_))))
    refine WP.cut (σ := (List Int)) (fun st => ⟨[(7, .S 1)], [(1, .own (rI .i64) st true)], [(0, .sl (rI .i64) x_)], 2⟩) (fun st => z58_k1 st = some r) ?_ (fun j4 => ?_)
    · intro v7_4 h
      replace h : z58_k1 v7_4 = some r := h
      unfold z58_k1 at h
      refine WP.seq (WP.region (WPr.sil htt 2 rfl (WPr.nil (?_))))
      cases h
      exact WP.ret htt Tryz.func58 [(1, .sl 1)] rfl rfl rfl rfl
    refine WP.block (?_)
    refine WP.loopI (σ := (List Int) × Int) (fun st => ⟨[(7, .S 1), (8, .I st.2)], [(1, .own (rI .i64) st.1 true)], [(0, .sl (rI .i64) x_)], 2⟩) (fun n st => z58_l2 n st.1 st.2) (r := r) (fun _ => rfl) ?_ (fun ih => ?_)
    · intro n2 ih6
      rintro ⟨v7_6, v8_6⟩ h
      replace h : z58_l2 (n2 + 1) v7_6 v8_6 = some r := h
      unfold z58_l2 at h
      refine WP.seq (WP.seq (WP.region (WPr.silx [] ⟨[(7, .S 1), (8, .I v8_6), (37, .O (decide (v8_6 < (v7_6.length : Int))))], [(1, .own (rI .i64) v7_6 true)], [(0, .sl (rI .i64) x_)], 2⟩ htt 4 (by kernel_rfl) (WPr.nil (?_)))))
      rcases oc' h with ⟨hc, h⟩ | ⟨hc, h⟩
      · exact WP.condF hc rfl (WP.exit rfl (WP.sub [] (j4 v7_6 h) rfl rfl rfl rfl))
      refine WP.condT hc rfl (WP.skip (WP.block (WP.nm (fun A9 tA9 fA9 => ?_))))
      have st108 : A9 0 ⟨[(8, .I v8_6)], [], [], [], 2, [(38, .I v8_6)], [], [], 2⟩ := tA9 _ _ (LS.sil htt rfl rfl rfl rfl rfl rfl)
      have st109 : A9 1 ⟨[(7, .S 1)], [], [], [], 2, [(39, .S 1)], [], [], 2⟩ := tA9 _ _ (LS.sil htt rfl rfl rfl rfl rfl rfl)
      have st110 : A9 2 ⟨[(8, .I v8_6)], [], [], [], 2, [(40, .I v8_6)], [], [], 2⟩ := tA9 _ _ (LS.sil htt rfl rfl rfl rfl rfl rfl)
      obtain ⟨x111, hx111, h⟩ := ob h
      have st112 : A9 3 ⟨[(39, .S 1), (40, .I v8_6)], [], [], [(1, .own (rI .i64) v7_6 true)], 2, [(41, .S 2)], [(2, .vw 1 (some v8_6) none ((rI .i64)).sz)], [], 3⟩ := tA9 _ _ (LS.of rfl rfl rfl (fun _ _ _ _ _ _ _ k => WPr.vw htt (l := some (.i64, v8_6)) (h := none) hx111 rfl rfl rfl rfl rfl rfl rfl rfl rfl rfl (k)) rfl)
      have st113 : A9 4 ⟨[(7, .S 1)], [], [], [], 3, [(42, .S 1)], [], [], 3⟩ := tA9 _ _ (LS.sil htt rfl rfl rfl rfl rfl rfl)
      have st114 : A9 5 ⟨[(8, .I v8_6)], [], [], [], 3, [(43, .I v8_6)], [], [], 3⟩ := tA9 _ _ (LS.sil htt rfl rfl rfl rfl rfl rfl)
      obtain ⟨x115, hx115, h⟩ := ob h
      have st116 : A9 6 ⟨[(42, .S 1), (43, .I v8_6)], [], [], [(1, .own (rI .i64) v7_6 true)], 3, [(44, .S 3)], [(3, .vw 1 none (some v8_6) ((rI .i64)).sz)], [], 4⟩ := tA9 _ _ (LS.of rfl rfl rfl (fun _ _ _ _ _ _ _ k => WPr.vw htt (l := none) (h := some (.i64, v8_6)) hx115 rfl rfl rfl rfl rfl rfl rfl rfl rfl rfl (k)) rfl)
      obtain ⟨x117, hx117, h⟩ := ob h
      have st118 : A9 7 ⟨[(41, .S 2), (44, .S 3)], [(2, .vw 1 (some v8_6) none ((rI .i64)).sz), (3, .vw 1 none (some v8_6) ((rI .i64)).sz)], [(1, .own (rI .i64) v7_6 true)], [], 4, [(45, .I x117.2)], [], [(1, .own (rI .i64) x117.1 true)], 4⟩ := tA9 _ _ (LS.of rfl rfl rfl (fun _ _ _ _ _ _ _ k => WPr.cp htt hx117 (by exact (srcV hx115 rfl rfl)) rfl rfl rfl rfl rfl (Or.inl rfl) rfl rfl rfl rfl (k)) rfl)
      have st119 : A9 8 ⟨[(38, .I v8_6), (45, .I x117.2)], [], [], [], 4, [(46, .I (w64 (v8_6 + x117.2)))], [], [], 4⟩ := tA9 _ _ (LS.sil htt rfl rfl rfl rfl rfl rfl)
      have st120 : A9 9 ⟨[(46, .I (w64 (v8_6 + x117.2)))], [], [], [], 4, [(8, .I (w64 (v8_6 + x117.2)))], [], [], 4⟩ := tA9 _ _ (LS.sil htt rfl rfl rfl rfl rfl rfl)
      exact WP.regionD (t := ⟨[(7, .S 1), (8, .I (w64 (v8_6 + x117.2)))], [(1, .own (rI .i64) x117.1 true)], [(0, .sl (rI .i64) x_)], 4⟩) [0, 0, 0, 6, 0, 0, 48, 126, 255, 511] (.cons (fA9 _ _ st108) (.cons (fA9 _ _ st109) (.cons (fA9 _ _ st110) (.cons (fA9 _ _ st112) (.cons (fA9 _ _ st113) (.cons (fA9 _ _ st114) (.cons (fA9 _ _ st116) (.cons (fA9 _ _ st118) (.cons (fA9 _ _ st119) (.cons (fA9 _ _ st120) .nil)))))))))) (by kernel_rfl) (by kernel_rfl) (by kernel_rfl) (by kernel_rfl) (WP.inBlock (WP.sub [] (ih6 (x117.1, (w64 (v8_6 + x117.2))) h) rfl rfl rfl rfl))
    exact WP.sub [] (ih N (x3.1, x3.2) h) rfl rfl rfl rfl
  rcases oc h with ⟨hc, h⟩ | ⟨hc, h⟩
  · exact WPr.kb 23 hc rfl (WPr.silx [] ⟨[(0, .S 0), (4, .c .nil), (6, .c (.i .u64 x1.2)), (26, .O true)], [], [(0, .sl (rI .i64) x_)], 1⟩ htt 3 (by kernel_rfl) (WPr.nil (WP.sub [] (j2 true h) rfl rfl rfl rfl)))
  exact WPr.kb 23 hc rfl (WPr.silx [] ⟨[(0, .S 0), (4, .c .nil), (6, .c (.i .u64 x1.2)), (26, .O (decide (x1.2 > (9223372036854775807 : Int))))], [], [(0, .sl (rI .i64) x_)], 1⟩ htt 3 (by kernel_rfl) (WPr.nil (WP.sub [] (j2 (decide (x1.2 > (9223372036854775807 : Int))) h) rfl rfl rfl rfl)))
theorem z67_ct (N : Nat) (g_ : T4) (from_ : Int) (back_ : Bool) (r : (List Int)) (h : z67 N g_ from_ back_ = some r) :
  Fn Tryz.prog 67 ⟨4, [.a (cC4 0 1 2 3 g_), .I from_, .O back_], (vV4 0 1 2 3 g_ []), [], 5, .S 4, [], [(4, .own (rI .i64) r true)]⟩ := by
  refine Fn.intro _ _ Tryz.func67 rfl (by kernel_rfl) rfl (fun E F w => ?_)
  unfold z67 at h
  refine WP.seq (WP.region (WPr.sil htt 2 rfl (WPr.nil (WP.seq (WP.region (WPr.bs (cs := [.I (-1 : Int)]) (oI .i64) htt ([(-1 : Int)] : List Int) rfl rfl rfl rfl rfl rfl (by kernel_rfl) (by exact (an rfl rfl)) rfl (WPr.silx [3, 4] ⟨[(1, .I from_), (2, .O back_), (3, .B 4 0), (6, .c .nil), (13, .S 5), (15, .I g_.States)], [(4, .box (cC4 0 1 2 3 g_) 27), (5, .own (rI .i64) ([(-1 : Int)] : List Int) true)], (vV4 0 1 2 3 g_ []), 6⟩ htt 2 (by kernel_rfl) (?_))))))))
  obtain ⟨x1, hx1, h⟩ := ob h
  refine WPr.call (z58_ct N ([(-1 : Int)] : List Int) g_.States _ hx1) [(0, .sl 5)] [5] rfl rfl rfl rfl rfl rfl rfl rfl (.inr ⟨rfl, ⟨(rI_flat _), trivial⟩⟩) rfl (WPr.silx [] ⟨[(1, .I from_), (2, .O back_), (3, .B 4 0), (6, .c .nil), (7, .S 6)], [(4, .box (cC4 0 1 2 3 g_) 27), (6, .own (rI .i64) x1 true)], (vV4 0 1 2 3 g_ []), 7⟩ htt 1 (by kernel_rfl) (WPr.nil (WP.seq (WP.region (WPr.sil htt 2 rfl (?_))))))
  obtain ⟨x2, hx2, h⟩ := ob h
  refine WPr.ixo htt hx2 rfl rfl rfl rfl rfl rfl rfl rfl rfl (WPr.silx [3] ⟨[(1, .I from_), (2, .O back_), (3, .B 4 0), (6, .c .nil), (7, .S 6), (19, .P 7 0)], [(4, .box (cC4 0 1 2 3 g_) 27), (6, .own (rI .i64) x1 true)], (vV4 0 1 2 3 g_ [(7, .el 6 ((from_).toNat * ((rI .i64)).sz))]), 8⟩ htt 0 (by kernel_rfl) (WPr.sto (oI .i64) htt (0 : Int) hx2 rfl rfl rfl rfl rfl rfl rfl rfl rfl rfl (by exact rfl) rfl (WPr.nil (WP.seq (WP.seq (WP.region (WPr.sil htt 1 rfl (WPr.bs (cs := [.I from_]) (oI .i64) htt ([from_] : List Int) rfl rfl rfl rfl rfl rfl (by kernel_rfl) (by exact (an rfl rfl)) rfl (WPr.silx [] ⟨[(2, .O back_), (3, .B 4 0), (6, .c .nil), (7, .S 6), (8, .S 8)], [(4, .box (cC4 0 1 2 3 g_) 27), (6, .own (rI .i64) (setL' x1 from_ (0 : Int)) true), (8, .own (rI .i64) ([from_] : List Int) true)], (vV4 0 1 2 3 g_ []), 9⟩ htt 1 (by kernel_rfl) (WPr.nil (?_)))))))))))
  refine WP.cut (σ := (List Int)) (fun st => ⟨[(7, .S 6)], [(6, .own (rI .i64) st true)], (vV4 0 1 2 3 g_ []), 9⟩) (fun st => z67_k1 st = some r) ?_ (fun j1 => ?_)
  · intro v7_1 h
    replace h : z67_k1 v7_1 = some r := h
    unfold z67_k1 at h
    refine WP.seq (WP.region (WPr.sil htt 2 rfl (WPr.nil (?_))))
    cases h
    exact WP.ret htt Tryz.func67 [(4, .sl 6)] rfl rfl rfl rfl
  refine WP.block (?_)
  refine WP.loopI (σ := (List Int) × (List Int)) (fun st => ⟨[(2, .O back_), (3, .B 4 0), (7, .S 6), (8, .S 9)], [(4, .box (cC4 0 1 2 3 g_) 27), (6, .own (rI .i64) st.1 true), (9, .own (rI .i64) st.2 true)], (vV4 0 1 2 3 g_ []), 10⟩) (fun n st => z67_l2 N g_ back_ n st.1 st.2) (r := r) (fun _ => rfl) ?_ (fun ih => ?_)
  · intro n12 ih30
    rintro ⟨v7_30, v8_30⟩ h
    replace h : z67_l2 N g_ back_ (n12 + 1) v7_30 v8_30 = some r := h
    unfold z67_l2 at h
    refine WP.seq (WP.seq (WP.region (WPr.silx [] ⟨[(2, .O back_), (3, .B 4 0), (7, .S 6), (8, .S 9), (24, .O (decide ((v8_30.length : Int) > (0 : Int))))], [(4, .box (cC4 0 1 2 3 g_) 27), (6, .own (rI .i64) v7_30 true), (9, .own (rI .i64) v8_30 true)], (vV4 0 1 2 3 g_ []), 10⟩ htt 3 (by kernel_rfl) (WPr.nil (?_)))))
    rcases oc' h with ⟨hc, h⟩ | ⟨hc, h⟩
    · exact WP.condF hc rfl (WP.exit rfl (WP.sub [] (j1 v7_30 h) rfl rfl rfl rfl))
    refine WP.condT hc rfl (WP.skip (WP.seq (WP.block (WP.seq (WP.region (WPr.silx [] ⟨[(2, .O back_), (3, .B 4 0), (7, .S 6), (8, .S 9), (28, .S 2), (29, .I (g_.Edges.length : Int)), (30, .I (0 : Int))], [(4, .box (cC4 0 1 2 3 g_) 27), (6, .own (rI .i64) v7_30 true), (9, .own (rI .i64) v8_30 true)], (vV4 0 1 2 3 g_ []), 10⟩ htt 4 (by kernel_rfl) (WPr.nil (?_))))))))
    refine WP.cut (σ := (List Int) × (List Int)) (fun st => ⟨[(2, .O back_), (3, .B 4 0), (7, .S 6), (8, .S 10)], [(4, .box (cC4 0 1 2 3 g_) 27), (6, .own (rI .i64) st.1 true), (10, .own (rI .i64) st.2 true)], (vV4 0 1 2 3 g_ []), 11⟩) (fun st => z67_k3 (z67_l2 N g_ back_ n12) st.1 st.2 = some r) ?_ (fun j49 => ?_)
    · rintro ⟨v7_49, v8_49⟩ h
      replace h : z67_k3 (z67_l2 N g_ back_ n12) v7_49 v8_49 = some r := h
      unfold z67_k3 at h
      refine WP.inBlock (WP.region (WPr.sil htt 1 rfl (?_)))
      obtain ⟨x425, hx425, h⟩ := ob h
      exact WPr.vw htt (l := some (.i64, (1 : Int))) (h := none) hx425 rfl rfl rfl rfl rfl rfl rfl rfl rfl rfl (WPr.silx [] ⟨[(2, .O back_), (3, .B 4 0), (7, .S 6), (8, .S 11)], [(4, .box (cC4 0 1 2 3 g_) 27), (6, .own (rI .i64) v7_49 true), (10, .own (rI .i64) v8_49 true)], (vV4 0 1 2 3 g_ [(11, .vw 10 (some (1 : Int)) none ((rI .i64)).sz)]), 12⟩ htt 1 (by kernel_rfl) (WPr.nil (WP.stl 11 hx425 rfl rfl rfl (WP.sub [(9, .sl 11)] (ih30 (v7_49, x425) h) rfl rfl rfl rfl))))
    refine WP.block (?_)
    refine WP.loopI (σ := (List Int) × (List Int) × Int) (fun st => ⟨[(2, .O back_), (3, .B 4 0), (7, .S 6), (8, .S 10), (28, .S 2), (29, .I (g_.Edges.length : Int)), (30, .I st.2.2)], [(4, .box (cC4 0 1 2 3 g_) 27), (6, .own (rI .i64) st.1 true), (10, .own (rI .i64) st.2.1 true)], (vV4 0 1 2 3 g_ []), 11⟩) (fun n st => z67_l4 g_ back_ (z67_l2 N g_ back_ n12) n st.1 st.2.1 st.2.2) (r := r) (fun _ => rfl) ?_ (fun ih => ?_)
    · intro n14 ih54
      rintro ⟨v7_54, v8_54, v30_54⟩ h
      replace h : z67_l4 g_ back_ (z67_l2 N g_ back_ n12) (n14 + 1) v7_54 v8_54 v30_54 = some r := h
      unfold z67_l4 at h
      refine WP.seq (WP.region (WPr.sil htt 1 rfl (WPr.nil (WP.seq (?_)))))
      rcases oc' h with ⟨hc, h⟩ | ⟨hc, h⟩
      · exact WP.condF hc rfl (WP.exit rfl (WP.sub [] (j49 (v7_54, v8_54) h) rfl rfl rfl rfl))
      refine WP.condT hc rfl (WP.skip (WP.seq (WP.block (WP.seq (WP.region (?_))))))
      obtain ⟨x450, hx450, h⟩ := ob h
      refine WPr.ix oO2 htt hx450 rfl rfl rfl rfl rfl rfl rfl rfl rfl (WPr.silx [] ⟨[(2, .O back_), (3, .B 4 0), (7, .S 6), (8, .S 10), (10, .B 12 0), (28, .S 2), (29, .I (g_.Edges.length : Int)), (30, .I v30_54)], [(4, .box (cC4 0 1 2 3 g_) 27), (6, .own (rI .i64) v7_54 true), (10, .own (rI .i64) v8_54 true), (12, .box (cC2 x450) 43)], (vV4 0 1 2 3 g_ []), 13⟩ htt 3 (by kernel_rfl) (WPr.nil (WP.seq (WP.regionQ (by kernel_rfl) (by kernel_rfl) (WPq.silx [] ⟨[(2, .O back_), (3, .B 4 0), (7, .S 6), (8, .S 10), (11, .I x450.From), (12, .I x450.To), (28, .S 2), (29, .I (g_.Edges.length : Int)), (30, .I v30_54)], [(4, .box (cC4 0 1 2 3 g_) 27), (6, .own (rI .i64) v7_54 true), (10, .own (rI .i64) v8_54 true)], (vV4 0 1 2 3 g_ []), 13⟩ htt 6 (by kernel_rfl) (WPq.nil (WP.seq (WP.seq (WP.region (WPr.sil htt 1 rfl (WPr.nil (?_))))))))))))
      refine WP.cut (σ := Int × Int) (fun st => ⟨[(2, .O back_), (3, .B 4 0), (7, .S 6), (8, .S 10), (11, .I st.1), (12, .I st.2), (28, .S 2), (29, .I (g_.Edges.length : Int)), (30, .I v30_54)], [(4, .box (cC4 0 1 2 3 g_) 27), (6, .own (rI .i64) v7_54 true), (10, .own (rI .i64) v8_54 true)], (vV4 0 1 2 3 g_ []), 13⟩) (fun st => z67_k5 v7_54 v8_54 v30_54 (z67_l4 g_ back_ (z67_l2 N g_ back_ n12) n14) st.1 st.2 = some r) ?_ (fun j57 => ?_)
      · rintro ⟨v11_57, v12_57⟩ h
        replace h : z67_k5 v7_54 v8_54 v30_54 (z67_l4 g_ back_ (z67_l2 N g_ back_ n12) n14) v11_57 v12_57 = some r := h
        unfold z67_k5 at h
        refine WP.seq (WP.region (WPr.sil htt 2 rfl (?_)))
        obtain ⟨x451, hx451, h⟩ := ob h
        refine WPr.ixo htt hx451 rfl rfl rfl rfl rfl rfl rfl rfl rfl (WPr.silx (rg 3 9) ⟨[(2, .O back_), (3, .B 4 0), (7, .S 6), (8, .S 10), (11, .I v11_57), (12, .I v12_57), (28, .S 2), (29, .I (g_.Edges.length : Int)), (30, .I v30_54), (41, .I v11_57), (43, .P 13 0)], [(4, .box (cC4 0 1 2 3 g_) 27), (6, .own (rI .i64) v7_54 true), (10, .own (rI .i64) v8_54 true)], (vV4 0 1 2 3 g_ [(13, .el 10 (((0 : Int)).toNat * ((rI .i64)).sz))]), 14⟩ htt 0 (by kernel_rfl) (WPr.ldo (oI .i64) htt hx451 rfl rfl rfl rfl rfl rfl rfl rfl rfl rfl (WPr.silx (rg 6 6) ⟨[(2, .O back_), (3, .B 4 0), (7, .S 6), (8, .S 10), (11, .I v11_57), (12, .I v12_57), (28, .S 2), (29, .I (g_.Edges.length : Int)), (30, .I v30_54), (46, .O (v11_57 == x451))], [(4, .box (cC4 0 1 2 3 g_) 27), (6, .own (rI .i64) v7_54 true), (10, .own (rI .i64) v8_54 true)], (vV4 0 1 2 3 g_ []), 14⟩ htt 2 (by kernel_rfl) (?_))))
        rcases oc' h with ⟨hc, h⟩ | ⟨hc, h⟩
        · exact WPr.kb 46 hc rfl (WPr.silx [] ⟨[(2, .O back_), (3, .B 4 0), (7, .S 6), (8, .S 10), (11, .I v11_57), (12, .I v12_57), (28, .S 2), (29, .I (g_.Edges.length : Int)), (30, .I v30_54), (52, .O false)], [(4, .box (cC4 0 1 2 3 g_) 27), (6, .own (rI .i64) v7_54 true), (10, .own (rI .i64) v8_54 true)], (vV4 0 1 2 3 g_ []), 14⟩ htt 6 (by kernel_rfl) (WPr.nil (WP.condF rfl rfl (WP.skip (WP.inBlock (WP.region (WPr.sil htt 2 rfl (WPr.nil (WP.sub [] (ih54 (v7_54, v8_54, (w64 (v30_54 + (1 : Int)))) h) rfl rfl rfl rfl)))))))))
        refine WPr.kb 46 hc rfl (WPr.sil htt 2 rfl (?_))
        obtain ⟨x452, hx452, h⟩ := ob h
        refine WPr.ixo htt hx452 rfl rfl rfl rfl rfl rfl rfl rfl rfl (WPr.silx [9, 10, 11] ⟨[(2, .O back_), (3, .B 4 0), (7, .S 6), (8, .S 10), (11, .I v11_57), (12, .I v12_57), (28, .S 2), (29, .I (g_.Edges.length : Int)), (30, .I v30_54), (46, .O true), (49, .P 14 0)], [(4, .box (cC4 0 1 2 3 g_) 27), (6, .own (rI .i64) v7_54 true), (10, .own (rI .i64) v8_54 true)], (vV4 0 1 2 3 g_ [(14, .el 6 ((v12_57).toNat * ((rI .i64)).sz))]), 15⟩ htt 0 (by kernel_rfl) (WPr.ldo (oI .i64) htt hx452 rfl rfl rfl rfl rfl rfl rfl rfl rfl rfl (WPr.silx [] ⟨[(2, .O back_), (3, .B 4 0), (7, .S 6), (8, .S 10), (11, .I v11_57), (12, .I v12_57), (28, .S 2), (29, .I (g_.Edges.length : Int)), (30, .I v30_54), (52, .O (decide (x452 < (0 : Int))))], [(4, .box (cC4 0 1 2 3 g_) 27), (6, .own (rI .i64) v7_54 true), (10, .own (rI .i64) v8_54 true)], (vV4 0 1 2 3 g_ []), 15⟩ htt 2 (by kernel_rfl) (WPr.nil (?_)))))
        rcases oc' h with ⟨hc, h⟩ | ⟨hc, h⟩
        · exact WP.condF hc rfl (WP.skip (WP.inBlock (WP.region (WPr.sil htt 2 rfl (WPr.nil (WP.sub [] (ih54 (v7_54, v8_54, (w64 (v30_54 + (1 : Int)))) h) rfl rfl rfl rfl))))))
        refine WP.condT hc rfl (WP.seq (WP.region (WPr.silx [4, 5, 6, 7, 8] ⟨[(2, .O back_), (3, .B 4 0), (7, .S 6), (8, .S 10), (12, .I v12_57), (28, .S 2), (29, .I (g_.Edges.length : Int)), (30, .I v30_54), (53, .S 6), (54, .I v12_57), (55, .S 6), (56, .I v11_57)], [(4, .box (cC4 0 1 2 3 g_) 27), (6, .own (rI .i64) v7_54 true), (10, .own (rI .i64) v8_54 true)], (vV4 0 1 2 3 g_ []), 15⟩ htt 4 (by kernel_rfl) (?_))))
        obtain ⟨x453, hx453, h⟩ := ob h
        refine WPr.ixo htt hx453 rfl rfl rfl rfl rfl rfl rfl rfl rfl (WPr.ldo (oI .i64) htt hx453 rfl rfl rfl rfl rfl rfl rfl rfl rfl rfl (WPr.silx [7, 8] ⟨[(2, .O back_), (3, .B 4 0), (7, .S 6), (8, .S 10), (12, .I v12_57), (28, .S 2), (29, .I (g_.Edges.length : Int)), (30, .I v30_54), (53, .S 6), (54, .I v12_57), (59, .I (w64 (x453 + (1 : Int))))], [(4, .box (cC4 0 1 2 3 g_) 27), (6, .own (rI .i64) v7_54 true), (10, .own (rI .i64) v8_54 true)], (vV4 0 1 2 3 g_ []), 16⟩ htt 1 (by kernel_rfl) (?_)))
        obtain ⟨x454, hx454, h⟩ := ob h
        refine WPr.ixo htt hx454 rfl rfl rfl rfl rfl rfl rfl rfl rfl (WPr.sto (oI .i64) htt (w64 (x453 + (1 : Int))) hx454 rfl rfl rfl rfl rfl rfl rfl rfl rfl rfl (by exact rfl) rfl (WPr.nil (WP.region (WPr.silx [2, 3, 4] ⟨[(2, .O back_), (3, .B 4 0), (7, .S 6), (28, .S 2), (29, .I (g_.Edges.length : Int)), (30, .I v30_54), (61, .S 10), (62, .I v12_57)], [(4, .box (cC4 0 1 2 3 g_) 27), (6, .own (rI .i64) (setL' v7_54 v12_57 (w64 (x453 + (1 : Int)))) true), (10, .own (rI .i64) v8_54 true)], (vV4 0 1 2 3 g_ []), 17⟩ htt 2 (by kernel_rfl) (WPr.bs (cs := [.I v12_57]) (oI .i64) htt ([v12_57] : List Int) rfl rfl rfl rfl rfl rfl (by kernel_rfl) (by exact (an rfl rfl)) rfl (?_))))))
        obtain ⟨x455, hx455, h⟩ := ob h
        exact WPr.app htt hx455 (by exact (srcO rfl)) rfl rfl rfl rfl rfl rfl rfl rfl rfl rfl (WPr.silx [] ⟨[(2, .O back_), (3, .B 4 0), (7, .S 6), (8, .S 18), (28, .S 2), (29, .I (g_.Edges.length : Int)), (30, .I v30_54)], [(4, .box (cC4 0 1 2 3 g_) 27), (6, .own (rI .i64) (setL' v7_54 v12_57 (w64 (x453 + (1 : Int)))) true), (18, .own (rI .i64) x455 true)], (vV4 0 1 2 3 g_ []), 19⟩ htt 1 (by kernel_rfl) (WPr.nil (WP.inBlock (WP.region (WPr.sil htt 2 rfl (WPr.nil (WP.sub [(10, .sl 18)] (ih54 ((setL' v7_54 v12_57 (w64 (x453 + (1 : Int)))), x455, (w64 (v30_54 + (1 : Int)))) h) rfl rfl rfl rfl)))))))
      rcases oc h with ⟨hc, h⟩ | ⟨hc, h⟩
      · exact WP.condT hc rfl (WP.region (WPr.silx [] ⟨[(2, .O back_), (3, .B 4 0), (7, .S 6), (8, .S 10), (11, .I x450.To), (12, .I x450.From), (28, .S 2), (29, .I (g_.Edges.length : Int)), (30, .I v30_54)], [(4, .box (cC4 0 1 2 3 g_) 27), (6, .own (rI .i64) v7_54 true), (10, .own (rI .i64) v8_54 true)], (vV4 0 1 2 3 g_ []), 13⟩ htt 4 (by kernel_rfl) (WPr.nil (WP.sub [] (j57 (x450.To, x450.From) h) rfl rfl rfl rfl))))
      exact WP.condF hc rfl (WP.skip (WP.sub [] (j57 (x450.From, x450.To) h) rfl rfl rfl rfl))
    exact WP.sub [(10, .sl 9)] (ih N (v7_30, v8_30, (0 : Int)) h) rfl rfl rfl rfl
  exact WP.sub [(9, .sl 8)] (ih N ((setL' x1 from_ (0 : Int)), ([from_] : List Int)) h) rfl rfl rfl rfl
theorem z123_ct (N : Nat) (s_ : (List Int)) (v_ : Int) (r : Int) (h : z123 N s_ v_ = some r) :
  Fn Tryz.prog 123 ⟨1, [.S 0, .I v_], [(0, .sl (rI .i64) s_)], [], 1, .I r, [], []⟩ := by
  refine Fn.intro _ _ Tryz.func123 rfl (by kernel_rfl) rfl (fun E F w => ?_)
  unfold z123 at h
  refine WP.seq (WP.region (WPr.sil htt 1 rfl (WPr.nil (WP.seq (WP.seq (WP.region (WPr.silx [] ⟨[(0, .S 0), (1, .I v_), (4, .I (0 : Int)), (7, .I (s_.length : Int)), (8, .I (0 : Int))], [], [(0, .sl (rI .i64) s_)], 1⟩ htt 3 (by kernel_rfl) (WPr.nil (?_)))))))))
  refine WP.cut (σ := Unit) (fun st => ⟨[], [], [(0, .sl (rI .i64) s_)], 1⟩) (fun st => z123_k1 = some r) ?_ (fun j1 => ?_)
  · intro _ h
    replace h : z123_k1 = some r := h
    unfold z123_k1 at h
    refine WP.seq (WP.region (WPr.sil htt 1 rfl (WPr.nil (?_))))
    cases h
    exact WP.ret htt Tryz.func123 [] rfl rfl rfl rfl
  refine WP.block (?_)
  refine WP.loopI (σ := Int) (fun st => ⟨[(0, .S 0), (1, .I v_), (7, .I (s_.length : Int)), (8, .I st)], [], [(0, .sl (rI .i64) s_)], 1⟩) (fun n st => z123_l2 s_ v_ n st) (r := r) (fun _ => rfl) ?_ (fun ih => ?_)
  · intro n2 ih3
    intro v8_3 h
    replace h : z123_l2 s_ v_ (n2 + 1) v8_3 = some r := h
    unfold z123_l2 at h
    refine WP.seq (WP.region (WPr.sil htt 1 rfl (WPr.nil (WP.seq (?_)))))
    rcases oc' h with ⟨hc, h⟩ | ⟨hc, h⟩
    · exact WP.condF hc rfl (WP.exit rfl (WP.sub [] (j1 () h) rfl rfl rfl rfl))
    refine WP.condT hc rfl (WP.skip (WP.seq (WP.block (WP.seq (WP.region (WPr.silx [] ⟨[(0, .S 0), (1, .I v_), (5, .I v8_3), (7, .I (s_.length : Int)), (8, .I v8_3)], [], [(0, .sl (rI .i64) s_)], 1⟩ htt 2 (by kernel_rfl) (WPr.nil (WP.seq (WP.region (WPr.silx [3, 4, 5] ⟨[(0, .S 0), (1, .I v_), (5, .I v8_3), (7, .I (s_.length : Int)), (8, .I v8_3), (11, .I v_), (12, .S 0), (13, .I v8_3)], [], [(0, .sl (rI .i64) s_)], 1⟩ htt 3 (by kernel_rfl) (?_)))))))))))
    obtain ⟨x9, hx9, h⟩ := ob h
    refine WPr.ix (oI .i64) htt hx9 rfl rfl rfl rfl rfl rfl rfl rfl rfl (WPr.silx [] ⟨[(0, .S 0), (1, .I v_), (5, .I v8_3), (7, .I (s_.length : Int)), (8, .I v8_3), (16, .O (v_ == x9))], [], [(0, .sl (rI .i64) s_)], 2⟩ htt 2 (by kernel_rfl) (WPr.nil (?_)))
    rcases oc h with ⟨hc, h⟩ | ⟨hc, h⟩
    · refine WP.condT hc rfl (WP.seq (WP.region (WPr.sil htt 2 rfl (WPr.nil (?_)))))
      cases h
      exact WP.ret htt Tryz.func123 [] rfl rfl rfl rfl
    exact WP.condF hc rfl (WP.skip (WP.inBlock (WP.region (WPr.sil htt 2 rfl (WPr.nil (WP.sub [] (ih3 (w64 (v8_3 + (1 : Int))) h) rfl rfl rfl rfl))))))
  exact WP.sub [] (ih N (0 : Int) h) rfl rfl rfl rfl
theorem z66_ct (N : Nat) (s_ : (List Int)) (v_ : Int) (r : Bool) (h : z66 N s_ v_ = some r) :
  Fn Tryz.prog 66 ⟨1, [.S 0, .I v_], [(0, .sl (rI .i64) s_)], [], 1, .O r, [], []⟩ := by
  refine Fn.intro _ _ Tryz.func66 rfl (by kernel_rfl) rfl (fun E F w => ?_)
  unfold z66 at h
  refine WP.seq (WP.region (WPr.sil htt 1 rfl (WPr.nil (WP.seq (WP.region (WPr.silx [2, 3, 4] ⟨[(5, .S 0), (6, .I v_)], [], [(0, .sl (rI .i64) s_)], 1⟩ htt 2 (by kernel_rfl) (?_)))))))
  obtain ⟨x1, hx1, h⟩ := ob h
  refine WPr.call (z123_ct N s_ v_ _ hx1) [(0, .sl 0)] [] rfl rfl rfl rfl rfl rfl rfl rfl (.inl rfl) rfl (WPr.silx [] ⟨[(4, .O (decide (x1 ≥ (0 : Int))))], [], [(0, .sl (rI .i64) s_)], 1⟩ htt 2 (by kernel_rfl) (WPr.nil (?_)))
  cases h
  exact WP.ret htt Tryz.func66 [] rfl rfl rfl rfl
theorem z22_ct (N : Nat) (g_ : T4) (r : Bool) (h : z22 N g_ = some r) :
  Fn Tryz.prog 22 ⟨4, [.a (cC4 0 1 2 3 g_)], (vV4 0 1 2 3 g_ []), [], 4, .O r, [], []⟩ := by
  refine Fn.intro _ _ Tryz.func22 rfl (by kernel_rfl) rfl (fun E F w => ?_)
  unfold z22 at h
  refine WP.seq (WP.region (WPr.sil htt 2 rfl (WPr.nil (WP.seq (WP.region (WPr.silx (rg 1 35) ⟨[(1, .B 4 0), (3, .a (cC4 0 1 2 3 g_))], [(4, .box (cC4 0 1 2 3 g_) 27)], (vV4 0 1 2 3 g_ []), 5⟩ htt 1 (by kernel_rfl) (?_)))))))
  obtain ⟨x1, hx1, h⟩ := ob h
  refine WPr.call (z61_ct N g_ _ hx1) [(0, .sl 0), (1, .sl 1), (2, .sl 2), (3, .sl 3)] [] rfl rfl rfl rfl rfl rfl rfl rfl (.inl rfl) rfl (WPr.silx (rg 3 33) ⟨[(1, .B 4 0), (5, .O x1)], [(4, .box (cC4 0 1 2 3 g_) 27)], (vV4 0 1 2 3 g_ []), 5⟩ htt 1 (by kernel_rfl) (?_))
  rcases oc' h with ⟨hc, h⟩ | ⟨hc, h⟩
  · refine WPr.kb 5 hc rfl (WPr.silx [] ⟨[(2, .O false)], [], (vV4 0 1 2 3 g_ []), 5⟩ htt 33 (by kernel_rfl) (WPr.nil (?_)))
    cases h
    exact WP.ret htt Tryz.func22 [] rfl rfl rfl rfl
  refine WPr.kb 5 hc rfl (WPr.sil htt 1 rfl (?_))
  obtain ⟨x2, hx2, h⟩ := ob h
  refine WPr.call (z62_ct N g_ _ hx2) [(0, .sl 0), (1, .sl 1), (2, .sl 2), (3, .sl 3)] [] rfl rfl rfl rfl rfl rfl rfl rfl (.inl rfl) rfl (WPr.silx (rg 7 29) ⟨[(1, .B 4 0), (9, .O x2)], [(4, .box (cC4 0 1 2 3 g_) 27)], (vV4 0 1 2 3 g_ []), 5⟩ htt 2 (by kernel_rfl) (?_))
  rcases oc' h with ⟨hc, h⟩ | ⟨hc, h⟩
  · refine WPr.kb 9 hc rfl (WPr.silx [] ⟨[(2, .O false)], [], (vV4 0 1 2 3 g_ []), 5⟩ htt 29 (by kernel_rfl) (WPr.nil (?_)))
    cases h
    exact WP.ret htt Tryz.func22 [] rfl rfl rfl rfl
  refine WPr.kb 9 hc rfl (WPr.sil htt 2 rfl (?_))
  obtain ⟨x3, hx3, h⟩ := ob h
  refine WPr.call (z63_ct N g_.Decls _ hx3) [(0, .sl 1)] [] rfl rfl rfl rfl rfl rfl rfl rfl (.inl rfl) rfl (WPr.silx (rg 12 24) ⟨[(1, .B 4 0), (14, .O x3)], [(4, .box (cC4 0 1 2 3 g_) 27)], (vV4 0 1 2 3 g_ []), 5⟩ htt 2 (by kernel_rfl) (?_))
  rcases oc' h with ⟨hc, h⟩ | ⟨hc, h⟩
  · refine WPr.kb 14 hc rfl (WPr.silx [] ⟨[(2, .O false)], [], (vV4 0 1 2 3 g_ []), 5⟩ htt 24 (by kernel_rfl) (WPr.nil (?_)))
    cases h
    exact WP.ret htt Tryz.func22 [] rfl rfl rfl rfl
  refine WPr.kb 14 hc rfl (WPr.sil htt 1 rfl (?_))
  obtain ⟨x4, hx4, h⟩ := ob h
  refine WPr.call (z64_ct N g_ _ hx4) [(0, .sl 0), (1, .sl 1), (2, .sl 2), (3, .sl 3)] [] rfl rfl rfl rfl rfl rfl rfl rfl (.inl rfl) rfl (WPr.silx (rg 16 20) ⟨[(1, .B 4 0), (18, .O x4)], [(4, .box (cC4 0 1 2 3 g_) 27)], (vV4 0 1 2 3 g_ []), 5⟩ htt 2 (by kernel_rfl) (?_))
  rcases oc' h with ⟨hc, h⟩ | ⟨hc, h⟩
  · refine WPr.kb 18 hc rfl (WPr.silx [] ⟨[(2, .O false)], [], (vV4 0 1 2 3 g_ []), 5⟩ htt 20 (by kernel_rfl) (WPr.nil (?_)))
    cases h
    exact WP.ret htt Tryz.func22 [] rfl rfl rfl rfl
  refine WPr.kb 18 hc rfl (WPr.sil htt 1 rfl (?_))
  obtain ⟨x5, hx5, h⟩ := ob h
  refine WPr.call (z65_ct N g_ _ hx5) [(0, .sl 0), (1, .sl 1), (2, .sl 2), (3, .sl 3)] [] rfl rfl rfl rfl rfl rfl rfl rfl (.inl rfl) rfl (WPr.silx (rg 20 16) ⟨[(1, .B 4 0), (22, .O x5)], [(4, .box (cC4 0 1 2 3 g_) 27)], (vV4 0 1 2 3 g_ []), 5⟩ htt 2 (by kernel_rfl) (?_))
  rcases oc' h with ⟨hc, h⟩ | ⟨hc, h⟩
  · refine WPr.kb 22 hc rfl (WPr.silx [] ⟨[(2, .O false)], [], (vV4 0 1 2 3 g_ []), 5⟩ htt 16 (by kernel_rfl) (WPr.nil (?_)))
    cases h
    exact WP.ret htt Tryz.func22 [] rfl rfl rfl rfl
  refine WPr.kb 22 hc rfl (WPr.silx (rg 23 13) ⟨[(1, .B 4 0), (22, .O true), (23, .a (cC4 0 1 2 3 g_)), (25, .I g_.Start)], [(4, .box (cC4 0 1 2 3 g_) 27)], (vV4 0 1 2 3 g_ []), 5⟩ htt 3 (by kernel_rfl) (?_))
  obtain ⟨x6, hx6, h⟩ := ob h
  refine WPr.call (z67_ct N g_ g_.Start false _ hx6) [(0, .sl 0), (1, .sl 1), (2, .sl 2), (3, .sl 3)] [] rfl rfl rfl rfl rfl rfl rfl rfl (.inl rfl) rfl (WPr.silx (rg 24 12) ⟨[(1, .B 4 0), (22, .O true), (26, .S 5)], [(4, .box (cC4 0 1 2 3 g_) 27), (5, .own (rI .i64) x6 true)], (vV4 0 1 2 3 g_ []), 6⟩ htt 0 (by kernel_rfl) (?_))
  obtain ⟨x7, hx7, h⟩ := ob h
  refine WPr.call (z66_ct N x6 (-1 : Int) _ hx7) [(0, .sl 5)] [5] rfl rfl rfl rfl rfl rfl rfl rfl (.inr ⟨rfl, trivial⟩) rfl (WPr.silx (rg 28 8) ⟨[(1, .B 4 0), (30, .O (!x7))], [(4, .box (cC4 0 1 2 3 g_) 27)], (vV4 0 1 2 3 g_ []), 6⟩ htt 3 (by kernel_rfl) (?_))
  rcases oc' h with ⟨hc, h⟩ | ⟨hc, h⟩
  · refine WPr.kb 30 hc rfl (WPr.silx [] ⟨[(2, .O false)], [], (vV4 0 1 2 3 g_ []), 6⟩ htt 8 (by kernel_rfl) (WPr.nil (?_)))
    cases h
    exact WP.ret htt Tryz.func22 [] rfl rfl rfl rfl
  refine WPr.kb 30 hc rfl (WPr.silx [31, 32, 33, 34, 35] ⟨[(30, .O true), (31, .a (cC4 0 1 2 3 g_)), (33, .I g_.End)], [], (vV4 0 1 2 3 g_ []), 6⟩ htt 3 (by kernel_rfl) (?_))
  obtain ⟨x8, hx8, h⟩ := ob h
  refine WPr.call (z67_ct N g_ g_.End true _ hx8) [(0, .sl 0), (1, .sl 1), (2, .sl 2), (3, .sl 3)] [] rfl rfl rfl rfl rfl rfl rfl rfl (.inl rfl) rfl (WPr.silx [32, 33, 34, 35] ⟨[(30, .O true), (34, .S 6)], [(6, .own (rI .i64) x8 true)], (vV4 0 1 2 3 g_ []), 7⟩ htt 0 (by kernel_rfl) (?_))
  obtain ⟨x9, hx9, h⟩ := ob h
  refine WPr.call (z66_ct N x8 (-1 : Int) _ hx9) [(0, .sl 6)] [6] rfl rfl rfl rfl rfl rfl rfl rfl (.inr ⟨rfl, trivial⟩) rfl (WPr.silx [] ⟨[(2, .O (!x9))], [], (vV4 0 1 2 3 g_ []), 7⟩ htt 3 (by kernel_rfl) (WPr.nil (?_)))
  cases h
  exact WP.ret htt Tryz.func22 [] rfl rfl rfl rfl
theorem z111_ct (N : Nat) (x_ : Int) (r : Bool) (h : z111 N x_ = some r) :
  Fn Tryz.prog 111 ⟨0, [.I x_], [], [], 0, .O r, [], []⟩ := by
  refine Fn.intro _ _ Tryz.func111 rfl (by kernel_rfl) rfl (fun E F w => ?_)
  unfold z111 at h
  refine WP.seq (WP.region (WPr.sil htt 1 rfl (WPr.nil (WP.seq (WP.region (WPr.silx [] ⟨[(2, .O (x_ != x_))], [], [], 0⟩ htt 4 (by kernel_rfl) (WPr.nil (?_))))))))
  cases h
  exact WP.ret htt Tryz.func111 [] rfl rfl rfl rfl
theorem z50_ct (N : Nat) (x_ : Int) (y_ : Int) (r : Int) (h : z50 N x_ y_ = some r) :
  Fn Tryz.prog 50 ⟨0, [.I x_, .I y_], [], [], 0, .I r, [], []⟩ := by
  refine Fn.intro _ _ Tryz.func50 rfl (by kernel_rfl) rfl (fun E F w => ?_)
  unfold z50 at h
  refine WP.seq (WP.region (WPr.sil htt 1 rfl (WPr.nil (WP.seq (WP.region (WPr.sil htt 1 rfl (?_)))))))
  obtain ⟨x1, hx1, h⟩ := ob h
  refine WPr.call (z111_ct N x_ _ hx1) [] [] rfl rfl rfl rfl rfl rfl rfl rfl (.inl rfl) rfl (WPr.silx [] ⟨[(0, .I x_), (1, .I y_), (4, .I (0 : Int)), (5, .O x1)], [], [], 0⟩ htt 1 (by kernel_rfl) (WPr.nil (WP.seq (WP.region (WPr.sil htt 1 rfl (?_))))))
  obtain ⟨x2, hx2, h⟩ := ob h
  refine WPr.call (z111_ct N y_ _ hx2) [] [] rfl rfl rfl rfl rfl rfl rfl rfl (.inl rfl) rfl (WPr.silx [] ⟨[(0, .I x_), (1, .I y_), (4, .I (0 : Int)), (5, .O x1), (6, .O x2)], [], [], 0⟩ htt 1 (by kernel_rfl) (WPr.nil (WP.seq (WP.seq (WP.region (WPr.sil htt 1 rfl (WPr.nil (?_))))))))
  rcases oc h with ⟨hc, h⟩ | ⟨hc, h⟩
  · refine WP.condT hc rfl (WP.seq (WP.seq (WP.region (WPr.sil htt 1 rfl (WPr.nil (?_))))))
    rcases oc h with ⟨hc, h⟩ | ⟨hc, h⟩
    · refine WP.condT hc rfl (WP.seq (WP.region (WPr.silx [] ⟨[(4, .I (0 : Int))], [], [], 0⟩ htt 1 (by kernel_rfl) (WPr.nil (?_)))))
      cases h
      exact WP.ret htt Tryz.func50 [] rfl rfl rfl rfl
    refine WP.condF hc rfl (WP.skip (WP.seq (WP.region (WPr.silx [] ⟨[(4, .I (-1 : Int))], [], [], 0⟩ htt 1 (by kernel_rfl) (WPr.nil (?_))))))
    cases h
    exact WP.ret htt Tryz.func50 [] rfl rfl rfl rfl
  refine WP.condF hc rfl (WP.skip (WP.seq (WP.seq (WP.region (WPr.sil htt 1 rfl (WPr.nil (?_)))))))
  rcases oc h with ⟨hc, h⟩ | ⟨hc, h⟩
  · refine WP.condT hc rfl (WP.seq (WP.region (WPr.silx [] ⟨[(4, .I (1 : Int))], [], [], 0⟩ htt 1 (by kernel_rfl) (WPr.nil (?_)))))
    cases h
    exact WP.ret htt Tryz.func50 [] rfl rfl rfl rfl
  refine WP.condF hc rfl (WP.skip (WP.seq (WP.seq (WP.region (WPr.silx [] ⟨[(0, .I x_), (1, .I y_), (4, .I (0 : Int)), (16, .O (decide (x_ < y_)))], [], [], 0⟩ htt 3 (by kernel_rfl) (WPr.nil (?_)))))))
  rcases oc h with ⟨hc, h⟩ | ⟨hc, h⟩
  · refine WP.condT hc rfl (WP.seq (WP.region (WPr.sil htt 1 rfl (WPr.nil (?_)))))
    cases h
    exact WP.ret htt Tryz.func50 [] rfl rfl rfl rfl
  refine WP.condF hc rfl (WP.skip (WP.seq (WP.seq (WP.region (WPr.silx [] ⟨[(4, .I (0 : Int)), (19, .O (decide (x_ > y_)))], [], [], 0⟩ htt 3 (by kernel_rfl) (WPr.nil (?_)))))))
  rcases oc h with ⟨hc, h⟩ | ⟨hc, h⟩
  · refine WP.condT hc rfl (WP.seq (WP.region (WPr.sil htt 1 rfl (WPr.nil (?_)))))
    cases h
    exact WP.ret htt Tryz.func50 [] rfl rfl rfl rfl
  refine WP.condF hc rfl (WP.skip (WP.seq (WP.region (WPr.sil htt 1 rfl (WPr.nil (?_))))))
  cases h
  exact WP.ret htt Tryz.func50 [] rfl rfl rfl rfl
theorem z49_ct (N : Nat) (vals_ : (List Int)) (r : Int) (h : z49 N vals_ = some r) :
  Fn Tryz.prog 49 ⟨1, [.S 0], [(0, .sl (rI .i64) vals_)], [], 1, .I r, [], []⟩ := by
  refine Fn.intro _ _ Tryz.func49 rfl (by kernel_rfl) rfl (fun E F w => ?_)
  unfold z49 at h
  refine WP.seq (WP.region (WPr.sil htt 1 rfl (WPr.nil (WP.seq (WP.region (WPr.sil htt 1 rfl (WPr.nil (WP.seq (WP.seq (WP.region (WPr.silx [] ⟨[(2, .I (0 : Int)), (3, .I (0 : Int)), (6, .S 0), (7, .I (vals_.length : Int)), (8, .I (0 : Int))], [], [(0, .sl (rI .i64) vals_)], 1⟩ htt 3 (by kernel_rfl) (WPr.nil (?_)))))))))))))
  refine WP.cut (σ := Unit) (fun st => ⟨[(3, .I (0 : Int))], [], [(0, .sl (rI .i64) vals_)], 1⟩) (fun st => z49_k1 = some r) ?_ (fun j1 => ?_)
  · intro _ h
    replace h : z49_k1 = some r := h
    unfold z49_k1 at h
    refine WP.seq (WP.region (WPr.sil htt 2 rfl (WPr.nil (?_))))
    cases h
    exact WP.ret htt Tryz.func49 [] rfl rfl rfl rfl
  refine WP.block (?_)
  refine WP.loopI (σ := Int) (fun st => ⟨[(3, .I (0 : Int)), (6, .S 0), (7, .I (vals_.length : Int)), (8, .I st)], [], [(0, .sl (rI .i64) vals_)], 1⟩) (fun n st => z49_l2 vals_ n st) (r := r) (fun _ => rfl) ?_ (fun ih => ?_)
  · intro n2 ih3
    intro v8_3 h
    replace h : z49_l2 vals_ (n2 + 1) v8_3 = some r := h
    unfold z49_l2 at h
    refine WP.seq (WP.region (WPr.sil htt 1 rfl (WPr.nil (WP.seq (?_)))))
    rcases oc' h with ⟨hc, h⟩ | ⟨hc, h⟩
    · exact WP.condF hc rfl (WP.exit rfl (WP.sub [] (j1 () h) rfl rfl rfl rfl))
    refine WP.condT hc rfl (WP.skip (WP.seq (WP.block (WP.seq (WP.region (?_))))))
    obtain ⟨x9, hx9, h⟩ := ob h
    refine WPr.ix (oI .i64) htt hx9 rfl rfl rfl rfl rfl rfl rfl rfl rfl (WPr.silx [] ⟨[(3, .I (0 : Int)), (5, .I x9), (6, .S 0), (7, .I (vals_.length : Int)), (8, .I v8_3)], [], [(0, .sl (rI .i64) vals_)], 2⟩ htt 2 (by kernel_rfl) (WPr.nil (WP.seq (WP.region (WPr.silx [] ⟨[(3, .I (0 : Int)), (5, .I x9), (6, .S 0), (7, .I (vals_.length : Int)), (8, .I v8_3), (14, .O (x9 != (0 : Int)))], [], [(0, .sl (rI .i64) vals_)], 2⟩ htt 3 (by kernel_rfl) (WPr.nil (?_)))))))
    rcases oc h with ⟨hc, h⟩ | ⟨hc, h⟩
    · refine WP.condT hc rfl (WP.seq (WP.region (WPr.sil htt 2 rfl (WPr.nil (?_)))))
      cases h
      exact WP.ret htt Tryz.func49 [] rfl rfl rfl rfl
    exact WP.condF hc rfl (WP.skip (WP.inBlock (WP.region (WPr.sil htt 2 rfl (WPr.nil (WP.sub [] (ih3 (w64 (v8_3 + (1 : Int))) h) rfl rfl rfl rfl))))))
  exact WP.sub [] (ih N (0 : Int) h) rfl rfl rfl rfl
end Gx
end
