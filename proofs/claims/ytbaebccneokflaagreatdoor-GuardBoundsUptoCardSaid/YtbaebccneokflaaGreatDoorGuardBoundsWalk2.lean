/- Each function of the statement computes what its plain definition says, part 2. -/
import Derived.Test.YtbaebccneokflaaGreatDoorGuardBoundsWalk1
set_option linter.all false
section
set_option maxRecDepth 10000
set_option maxHeartbeats 4000000
open Go Go.Kx Go.Proofs Tryz
namespace Gx
theorem z35_ct (N : Nat) (d_ : T0) (r : (List T1)) (h : z35 N d_ = some r) :
  Fn Tryz.prog 35 ⟨3, [.a [.s d_.Name, .sl 0, .i .i64 d_.First, .sl 1, .sl 2]], [(0, .sl rR2 d_.Fields), (1, .sl rR1 d_.Guard.Diffs), (2, .sl (rP (rI .i64) (rI .i64)) d_.Guard.Equals)], [], 4, .c (.sl 3), [], [(3, .own rR1 r true)]⟩ := by
  refine Fn.intro _ _ Tryz.func35 rfl (by kernel_rfl) rfl (fun E F w => ?_)
  unfold z35 at h
  refine WP.seq (WP.region (WPr.sil htt 2 rfl (WPr.nil (WP.seq (WP.region (WPr.silx [] ⟨[(1, .c (.bp 3 0)), (2, .c .nil), (3, .c .nil)], [(3, .box [.s d_.Name, .sl 0, .i .i64 d_.First, .sl 1, .sl 2] 44)], [(0, .sl rR2 d_.Fields), (1, .sl rR1 d_.Guard.Diffs), (2, .sl (rP (rI .i64) (rI .i64)) d_.Guard.Equals)], 4⟩ htt 1 (by kernel_rfl) (WPr.nil (WP.seq (WP.seq (WP.region (WPr.silx [] ⟨[(1, .c (.bp 3 0)), (2, .c .nil), (3, .c .nil), (9, .c (.sl 0)), (10, .c (.i .i64 (d_.Fields.length : Int))), (11, .c (.i .i64 (0 : Int)))], [(3, .box [.s d_.Name, .sl 0, .i .i64 d_.First, .sl 1, .sl 2] 44)], [(0, .sl rR2 d_.Fields), (1, .sl rR1 d_.Guard.Diffs), (2, .sl (rP (rI .i64) (rI .i64)) d_.Guard.Equals)], 4⟩ htt 4 (by kernel_rfl) (WPr.nil (?_)))))))))))))
  refine WP.cut (σ := (List T1)) (fun st => ⟨[(1, .c (.bp 3 0)), (3, .c (.sl 4))], [(3, .box [.s d_.Name, .sl 0, .i .i64 d_.First, .sl 1, .sl 2] 44), (4, .own rR1 st true)], [(0, .sl rR2 d_.Fields), (1, .sl rR1 d_.Guard.Diffs), (2, .sl (rP (rI .i64) (rI .i64)) d_.Guard.Equals)], 5⟩) (fun st => z35_k3 N d_ st = some r) ?_ (fun j1 => ?_)
  · intro v3_1 h
    replace h : z35_k3 N d_ v3_1 = some r := h
    unfold z35_k3 at h
    refine WP.seq (WP.region (WPr.silx [4, 5] ⟨[(1, .c (.bp 3 0)), (37, .c (.sl 4)), (40, .c (.sl 1))], [(3, .box [.s d_.Name, .sl 0, .i .i64 d_.First, .sl 1, .sl 2] 44), (4, .own rR1 v3_1 true)], [(0, .sl rR2 d_.Fields), (1, .sl rR1 d_.Guard.Diffs), (2, .sl (rP (rI .i64) (rI .i64)) d_.Guard.Equals)], 5⟩ htt 4 (by kernel_rfl) (?_)))
    obtain ⟨x9, hx9, h⟩ := ob h
    refine WPr.app htt hx9 (by exact (srcI rfl)) rfl rfl rfl rfl rfl rfl rfl rfl rfl rfl (WPr.silx [] ⟨[(1, .c (.bp 3 0)), (3, .c (.sl 5))], [(3, .box [.s d_.Name, .sl 0, .i .i64 d_.First, .sl 1, .sl 2] 44), (5, .own rR1 x9 true)], [(0, .sl rR2 d_.Fields), (1, .sl rR1 d_.Guard.Diffs), (2, .sl (rP (rI .i64) (rI .i64)) d_.Guard.Equals)], 6⟩ htt 1 (by kernel_rfl) (WPr.nil (WP.seq (WP.seq (WP.region (WPr.silx [] ⟨[(3, .c (.sl 5)), (44, .c (.sl 2)), (45, .c (.i .i64 (d_.Guard.Equals.length : Int))), (46, .c (.i .i64 (0 : Int)))], [(5, .own rR1 x9 true)], [(0, .sl rR2 d_.Fields), (1, .sl rR1 d_.Guard.Diffs), (2, .sl (rP (rI .i64) (rI .i64)) d_.Guard.Equals)], 6⟩ htt 5 (by kernel_rfl) (WPr.nil (?_))))))))
    refine WP.cut (σ := (List T1)) (fun st => ⟨[(3, .c (.sl 6))], [(6, .own rR1 st true)], [(0, .sl rR2 d_.Fields), (1, .sl rR1 d_.Guard.Diffs), (2, .sl (rP (rI .i64) (rI .i64)) d_.Guard.Equals)], 7⟩) (fun st => z35_k1 st = some r) ?_ (fun j3 => ?_)
    · intro v3_3 h
      replace h : z35_k1 v3_3 = some r := h
      unfold z35_k1 at h
      refine WP.seq (WP.region (WPr.sil htt 2 rfl (WPr.nil (?_))))
      cases h
      exact WP.ret htt Tryz.func35 [(3, .sl 6)] rfl rfl rfl rfl
    refine WP.block (?_)
    refine WP.loopI (σ := (List T1) × Int) (fun st => ⟨[(3, .c (.sl 6)), (44, .c (.sl 2)), (45, .c (.i .i64 (d_.Guard.Equals.length : Int))), (46, .c (.i .i64 st.2))], [(6, .own rR1 st.1 true)], [(0, .sl rR2 d_.Fields), (1, .sl rR1 d_.Guard.Diffs), (2, .sl (rP (rI .i64) (rI .i64)) d_.Guard.Equals)], 7⟩) (fun n st => z35_l2 d_ n st.1 st.2) (r := r) (fun _ => rfl) ?_ (fun ih => ?_)
    · intro n3 ih5
      rintro ⟨v3_5, v46_5⟩ h
      replace h : z35_l2 d_ (n3 + 1) v3_5 v46_5 = some r := h
      unfold z35_l2 at h
      refine WP.seq (WP.region (WPr.sil htt 1 rfl (WPr.nil (WP.seq (?_)))))
      rcases oc' h with ⟨hc, h⟩ | ⟨hc, h⟩
      · exact WP.condF hc rfl (WP.exit rfl (WP.sub [] (j3 v3_5 h) rfl rfl rfl rfl))
      refine WP.condT hc rfl (WP.skip (WP.seq (WP.block (WP.seq (WP.region (?_))))))
      obtain ⟨x26, hx26, h⟩ := ob h
      refine WPr.ix (oP (oI .i64) (oI .i64)) htt hx26 rfl rfl rfl rfl rfl rfl rfl rfl rfl (WPr.silx [] ⟨[(3, .c (.sl 6)), (7, .c (.bp 8 0)), (44, .c (.sl 2)), (45, .c (.i .i64 (d_.Guard.Equals.length : Int))), (46, .c (.i .i64 v46_5))], [(6, .own rR1 v3_5 true), (8, .box [.i .i64 x26.1, .i .i64 x26.2] 49)], [(0, .sl rR2 d_.Fields), (1, .sl rR1 d_.Guard.Diffs), (2, .sl (rP (rI .i64) (rI .i64)) d_.Guard.Equals)], 9⟩ htt 3 (by kernel_rfl) (WPr.nil (WP.region (WPr.sil htt 1 rfl (WPr.axb (len := 2) (el := 3) (es := 1) 0 rfl rfl rfl rfl rfl (by kernel_rfl) (by kernel_rfl) rfl rfl rfl rfl (WPr.silx [3, 4, 5, 6, 7, 8, 9, 10, 11, 12, 13] ⟨[(7, .c (.bp 8 0)), (44, .c (.sl 2)), (45, .c (.i .i64 (d_.Guard.Equals.length : Int))), (46, .c (.i .i64 v46_5)), (50, .c (.sl 6)), (52, .c (.i .i64 x26.1))], [(6, .own rR1 v3_5 true), (8, .box [.i .i64 x26.1, .i .i64 x26.2] 49)], [(0, .sl rR2 d_.Fields), (1, .sl rR1 d_.Guard.Diffs), (2, .sl (rP (rI .i64) (rI .i64)) d_.Guard.Equals)], 9⟩ htt 1 (by kernel_rfl) (WPr.axb (len := 2) (el := 3) (es := 1) 1 rfl rfl rfl rfl rfl (by kernel_rfl) (by kernel_rfl) rfl rfl rfl rfl (WPr.silx [6, 7, 8, 9, 10, 11, 12, 13] ⟨[(7, .c (.bp 8 0)), (44, .c (.sl 2)), (45, .c (.i .i64 (d_.Guard.Equals.length : Int))), (46, .c (.i .i64 v46_5)), (50, .c (.sl 6)), (55, .a [.i .i64 x26.1, .i .i64 x26.2, .i .i64 (0 : Int)])], [(6, .own rR1 v3_5 true), (8, .box [.i .i64 x26.1, .i .i64 x26.2] 49)], [(0, .sl rR2 d_.Fields), (1, .sl rR1 d_.Guard.Diffs), (2, .sl (rP (rI .i64) (rI .i64)) d_.Guard.Equals)], 9⟩ htt 2 (by kernel_rfl) (WPr.axb (len := 2) (el := 3) (es := 1) 1 rfl rfl rfl rfl rfl (by kernel_rfl) (by kernel_rfl) rfl rfl rfl rfl (WPr.sil htt 1 rfl (WPr.axb (len := 2) (el := 3) (es := 1) 0 rfl rfl rfl rfl rfl (by kernel_rfl) (by kernel_rfl) rfl rfl rfl rfl (WPr.silx [11, 12, 13] ⟨[(44, .c (.sl 2)), (45, .c (.i .i64 (d_.Guard.Equals.length : Int))), (46, .c (.i .i64 v46_5)), (50, .c (.sl 6)), (55, .a [.i .i64 x26.1, .i .i64 x26.2, .i .i64 (0 : Int)]), (60, .a [.i .i64 x26.2, .i .i64 x26.1, .i .i64 (0 : Int)])], [(6, .own rR1 v3_5 true)], [(0, .sl rR2 d_.Fields), (1, .sl rR1 d_.Guard.Diffs), (2, .sl (rP (rI .i64) (rI .i64)) d_.Guard.Equals)], 9⟩ htt 2 (by kernel_rfl) (WPr.bs (cs := [.i .i64 x26.1, .i .i64 x26.2, .i .i64 (0 : Int), .i .i64 x26.2, .i .i64 x26.1, .i .i64 (0 : Int)]) oO1 htt ([(⟨x26.1, x26.2, (0 : Int)⟩ : T1), (⟨x26.2, x26.1, (0 : Int)⟩ : T1)] : List T1) rfl rfl rfl rfl rfl rfl (by kernel_rfl) (by exact (an (an rfl (an rfl rfl)) (an (an rfl (an rfl rfl)) rfl))) rfl (?_))))))))))))))
      obtain ⟨x27, hx27, h⟩ := ob h
      exact WPr.app htt hx27 (by exact (srcO rfl)) rfl rfl rfl rfl rfl rfl rfl rfl rfl rfl (WPr.silx [] ⟨[(3, .c (.sl 10)), (44, .c (.sl 2)), (45, .c (.i .i64 (d_.Guard.Equals.length : Int))), (46, .c (.i .i64 v46_5))], [(10, .own rR1 x27 true)], [(0, .sl rR2 d_.Fields), (1, .sl rR1 d_.Guard.Diffs), (2, .sl (rP (rI .i64) (rI .i64)) d_.Guard.Equals)], 11⟩ htt 1 (by kernel_rfl) (WPr.nil (WP.inBlock (WP.region (WPr.sil htt 2 rfl (WPr.nil (WP.sub [(6, .sl 10)] (ih5 (x27, (w64 (v46_5 + (1 : Int)))) h) rfl rfl rfl rfl)))))))
    exact WP.sub [(6, .sl 5)] (ih N (x9, (0 : Int)) h) rfl rfl rfl rfl
  refine WP.block (?_)
  refine WP.loopI (σ := (List T1) × Int) (fun st => ⟨[(1, .c (.bp 3 0)), (3, .c (.sl 4)), (9, .c (.sl 0)), (10, .c (.i .i64 (d_.Fields.length : Int))), (11, .c (.i .i64 st.2))], [(3, .box [.s d_.Name, .sl 0, .i .i64 d_.First, .sl 1, .sl 2] 44), (4, .own rR1 st.1 true)], [(0, .sl rR2 d_.Fields), (1, .sl rR1 d_.Guard.Diffs), (2, .sl (rP (rI .i64) (rI .i64)) d_.Guard.Equals)], 5⟩) (fun n st => z35_l4 N d_ n st.1 st.2) (r := r) (fun _ => rfl) ?_ (fun ih => ?_)
  · intro n4 ih6
    rintro ⟨v3_6, v11_6⟩ h
    replace h : z35_l4 N d_ (n4 + 1) v3_6 v11_6 = some r := h
    unfold z35_l4 at h
    refine WP.seq (WP.region (WPr.sil htt 1 rfl (WPr.nil (WP.seq (?_)))))
    rcases oc' h with ⟨hc, h⟩ | ⟨hc, h⟩
    · exact WP.condF hc rfl (WP.exit rfl (WP.sub [] (j1 v3_6 h) rfl rfl rfl rfl))
    refine WP.condT hc rfl (WP.skip (WP.seq (WP.block (WP.seq (WP.region (WPr.sil htt 1 rfl (?_)))))))
    obtain ⟨x36, hx36, h⟩ := ob h
    refine WPr.ix oO2 htt hx36 rfl rfl rfl rfl rfl rfl rfl rfl rfl (WPr.silx [] ⟨[(1, .c (.bp 3 0)), (3, .c (.sl 4)), (4, .c (.i .i64 v11_6)), (5, .c (.bp 6 0)), (9, .c (.sl 0)), (10, .c (.i .i64 (d_.Fields.length : Int))), (11, .c (.i .i64 v11_6))], [(3, .box [.s d_.Name, .sl 0, .i .i64 d_.First, .sl 1, .sl 2] 44), (4, .own rR1 v3_6 true), (6, .box [.s x36.Name, .i .i64 x36.Sort'.Kind, .i .i64 x36.Sort'.Lo, .i .i64 x36.Sort'.Hi] 89)], [(0, .sl rR2 d_.Fields), (1, .sl rR1 d_.Guard.Diffs), (2, .sl (rP (rI .i64) (rI .i64)) d_.Guard.Equals)], 7⟩ htt 4 (by kernel_rfl) (WPr.nil (WP.region (WPr.silx [18, 19, 20] ⟨[(1, .c (.bp 3 0)), (9, .c (.sl 0)), (10, .c (.i .i64 (d_.Fields.length : Int))), (11, .c (.i .i64 v11_6)), (16, .c (.sl 4)), (24, .a [.i .i64 (w64 (d_.First + v11_6)), .i .i64 (-1 : Int), .i .i64 x36.Sort'.Hi]), (33, .a [.i .i64 (-1 : Int), .i .i64 (w64 (d_.First + v11_6)), .i .i64 (w64 (0 - x36.Sort'.Lo))])], [(3, .box [.s d_.Name, .sl 0, .i .i64 d_.First, .sl 1, .sl 2] 44), (4, .own rR1 v3_6 true)], [(0, .sl rR2 d_.Fields), (1, .sl rR1 d_.Guard.Diffs), (2, .sl (rP (rI .i64) (rI .i64)) d_.Guard.Equals)], 7⟩ htt 18 (by kernel_rfl) (WPr.bs (cs := [.i .i64 (w64 (d_.First + v11_6)), .i .i64 (-1 : Int), .i .i64 x36.Sort'.Hi, .i .i64 (-1 : Int), .i .i64 (w64 (d_.First + v11_6)), .i .i64 (w64 (0 - x36.Sort'.Lo))]) oO1 htt ([(⟨(w64 (d_.First + v11_6)), (-1 : Int), x36.Sort'.Hi⟩ : T1), (⟨(-1 : Int), (w64 (d_.First + v11_6)), (w64 (0 - x36.Sort'.Lo))⟩ : T1)] : List T1) rfl rfl rfl rfl rfl rfl (by kernel_rfl) (by exact (an (an rfl (an rfl rfl)) (an (an rfl (an rfl rfl)) rfl))) rfl (?_))))))
    obtain ⟨x37, hx37, h⟩ := ob h
    exact WPr.app htt hx37 (by exact (srcO rfl)) rfl rfl rfl rfl rfl rfl rfl rfl rfl rfl (WPr.silx [] ⟨[(1, .c (.bp 3 0)), (3, .c (.sl 8)), (9, .c (.sl 0)), (10, .c (.i .i64 (d_.Fields.length : Int))), (11, .c (.i .i64 v11_6))], [(3, .box [.s d_.Name, .sl 0, .i .i64 d_.First, .sl 1, .sl 2] 44), (8, .own rR1 x37 true)], [(0, .sl rR2 d_.Fields), (1, .sl rR1 d_.Guard.Diffs), (2, .sl (rP (rI .i64) (rI .i64)) d_.Guard.Equals)], 9⟩ htt 1 (by kernel_rfl) (WPr.nil (WP.inBlock (WP.region (WPr.sil htt 2 rfl (WPr.nil (WP.sub [(4, .sl 8)] (ih6 (x37, (w64 (v11_6 + (1 : Int)))) h) rfl rfl rfl rfl)))))))
  exact WP.sub [(4, .nil)] (ih N (([] : List T1), (0 : Int)) h) rfl rfl rfl rfl
theorem z25_ct (N : Nat) (decls_ : (List T0)) (label_ : Int) (r : (List T1) × Int) (h : z25 N decls_ label_ = some r) :
  Fn Tryz.prog 25 ⟨1, [.c (.sl 0), .c (.i .i64 label_)], [(0, .sl rR0 decls_)], [], 2, .t [.inl (.sl 1), .inl (.i .i64 r.2)], [], [(1, .own rR1 r.1 true)]⟩ := by
  refine Fn.intro _ _ Tryz.func25 rfl (by kernel_rfl) rfl (fun E F w => ?_)
  unfold z25 at h
  refine WP.seq (WP.region (WPr.sil htt 2 rfl (WPr.nil (WP.seq (WP.seq (WP.region (WPr.silx [3, 4, 5, 6, 7, 8, 9, 10, 11, 12] ⟨[(0, .c (.sl 0)), (1, .c (.i .i64 label_)), (4, .c .nil), (5, .c (.i .i64 (0 : Int))), (8, .c (.b (decide (label_ < (0 : Int)))))], [], [(0, .sl rR0 decls_)], 1⟩ htt 3 (by kernel_rfl) (?_))))))))
  rcases oc h with ⟨hc, h⟩ | ⟨hc, h⟩
  · refine WPr.kb 8 hc rfl (WPr.silx [] ⟨[(0, .c (.sl 0)), (1, .c (.i .i64 label_)), (4, .c .nil), (5, .c (.i .i64 (0 : Int))), (18, .c (.b true))], [], [(0, .sl rR0 decls_)], 1⟩ htt 10 (by kernel_rfl) (WPr.nil (WP.condT rfl rfl (WP.seq (WP.region (WPr.sil htt 2 rfl (WPr.nil (?_))))))))
    cases h
    exact WP.ret htt Tryz.func25 [(1, .nil)] rfl rfl rfl rfl
  refine WPr.kb 8 hc rfl (WPr.silx [9, 10, 11, 12] ⟨[(0, .c (.sl 0)), (1, .c (.i .i64 label_)), (4, .c .nil), (5, .c (.i .i64 (0 : Int))), (14, .c (.b (decide (label_ ≥ (decls_.length : Int)))))], [], [(0, .sl rR0 decls_)], 1⟩ htt 6 (by kernel_rfl) (?_))
  rcases oc h with ⟨hc, h⟩ | ⟨hc, h⟩
  · refine WPr.kb 14 hc rfl (WPr.silx [] ⟨[(0, .c (.sl 0)), (1, .c (.i .i64 label_)), (4, .c .nil), (5, .c (.i .i64 (0 : Int))), (18, .c (.b true))], [], [(0, .sl rR0 decls_)], 1⟩ htt 4 (by kernel_rfl) (WPr.nil (WP.condT rfl rfl (WP.seq (WP.region (WPr.sil htt 2 rfl (WPr.nil (?_))))))))
    cases h
    exact WP.ret htt Tryz.func25 [(1, .nil)] rfl rfl rfl rfl
  refine WPr.kb 14 hc rfl (WPr.sil htt 1 rfl (?_))
  obtain ⟨x1, hx1, h⟩ := ob h
  refine WPr.call (z74_ct N decls_ _ hx1) [(0, .sl 0)] [] rfl rfl rfl rfl rfl rfl rfl rfl (.inl rfl) rfl (WPr.silx [] ⟨[(0, .c (.sl 0)), (1, .c (.i .i64 label_)), (4, .c .nil), (5, .c (.i .i64 (0 : Int))), (18, .c (.b (!x1)))], [], [(0, .sl rR0 decls_)], 1⟩ htt 2 (by kernel_rfl) (WPr.nil (?_)))
  rcases oc h with ⟨hc, h⟩ | ⟨hc, h⟩
  · refine WP.condT hc rfl (WP.seq (WP.region (WPr.sil htt 2 rfl (WPr.nil (?_)))))
    cases h
    exact WP.ret htt Tryz.func25 [(1, .nil)] rfl rfl rfl rfl
  refine WP.condF hc rfl (WP.skip (WP.seq (WP.region (WPr.sil htt 2 rfl (?_)))))
  obtain ⟨x2, hx2, h⟩ := ob h
  refine WPr.ix oO0 htt hx2 rfl rfl rfl rfl rfl rfl rfl rfl rfl (WPr.silx [4, 5, 6] ⟨[(22, .a [.s x2.Name, .sl 2, .i .i64 x2.First, .sl 3, .sl 4])], [], [(0, .sl rR0 decls_), (2, .sl rR2 x2.Fields), (3, .sl rR1 x2.Guard.Diffs), (4, .sl (rP (rI .i64) (rI .i64)) x2.Guard.Equals)], 5⟩ htt 1 (by kernel_rfl) (?_))
  obtain ⟨x3, hx3, h⟩ := ob h
  refine WPr.call (z35_ct N x2 _ hx3) [(0, .sl 2), (1, .sl 3), (2, .sl 4)] [] rfl rfl rfl rfl rfl rfl rfl rfl (.inl rfl) rfl (WPr.silx [] ⟨[(4, .c (.sl 5)), (5, .c (.i .i64 (0 : Int)))], [(5, .own rR1 x3 true)], [(0, .sl rR0 decls_)], 6⟩ htt 2 (by kernel_rfl) (WPr.nil (?_)))
  cases h
  exact WP.ret htt Tryz.func25 [(1, .sl 5)] rfl rfl rfl rfl
theorem z44_ct (N : Nat) (decls_ : (List T0)) (label_ : Int) (r : Bool) (h : z44 N decls_ label_ = some r) :
  Fn Tryz.prog 44 ⟨1, [.c (.sl 0), .c (.i .i64 label_)], [(0, .sl rR0 decls_)], [], 1, .c (.b r), [], []⟩ := by
  refine Fn.intro _ _ Tryz.func44 rfl (by kernel_rfl) rfl (fun E F w => ?_)
  unfold z44 at h
  refine WP.seq (WP.region (WPr.sil htt 1 rfl (WPr.nil (WP.seq (WP.region (WPr.sil htt 1 rfl (?_)))))))
  obtain ⟨x1, hx1, h⟩ := ob h
  refine WPr.call (z18_ct N decls_ _ hx1) [(0, .sl 0)] [] rfl rfl rfl rfl rfl rfl rfl rfl (.inl rfl) rfl (WPr.silx [3, 4, 5, 6, 7, 8, 9, 10, 11, 12] ⟨[(0, .c (.sl 0)), (1, .c (.i .i64 label_)), (7, .c (.b x1))], [], [(0, .sl rR0 decls_)], 1⟩ htt 1 (by kernel_rfl) (?_))
  rcases oc' h with ⟨hc, h⟩ | ⟨hc, h⟩
  · refine WPr.kb 7 hc rfl (WPr.silx [] ⟨[(4, .c (.b false))], [], [(0, .sl rR0 decls_)], 1⟩ htt 10 (by kernel_rfl) (WPr.nil (?_)))
    cases h
    exact WP.ret htt Tryz.func44 [] rfl rfl rfl rfl
  refine WPr.kb 7 hc rfl (WPr.silx [7, 8, 9, 10, 11, 12] ⟨[(0, .c (.sl 0)), (1, .c (.i .i64 label_)), (11, .c (.b (decide (label_ ≥ (0 : Int)))))], [], [(0, .sl rR0 decls_)], 1⟩ htt 4 (by kernel_rfl) (?_))
  rcases oc h with ⟨hc, h⟩ | ⟨hc, h⟩
  · refine WPr.kb 11 hc rfl (WPr.silx [] ⟨[(4, .c (.b (decide (label_ < (decls_.length : Int)))))], [], [(0, .sl rR0 decls_)], 1⟩ htt 6 (by kernel_rfl) (WPr.nil (?_)))
    cases h
    exact WP.ret htt Tryz.func44 [] rfl rfl rfl rfl
  refine WPr.kb 11 hc rfl (WPr.silx [] ⟨[(4, .c (.b false))], [], [(0, .sl rR0 decls_)], 1⟩ htt 6 (by kernel_rfl) (WPr.nil (?_)))
  cases h
  exact WP.ret htt Tryz.func44 [] rfl rfl rfl rfl
theorem z26_ct (N : Nat) (decls_ : (List T0)) (label_ : Int) (r : (List T1) × Int) (h : z26 N decls_ label_ = some r) :
  Fn Tryz.prog 26 ⟨1, [.c (.sl 0), .c (.i .i64 label_)], [(0, .sl rR0 decls_)], [], 2, .t [.inl (.sl 1), .inl (.i .i64 r.2)], [], [(1, .own rR1 r.1 true)]⟩ := by
  refine Fn.intro _ _ Tryz.func26 rfl (by kernel_rfl) rfl (fun E F w => ?_)
  unfold z26 at h
  refine WP.seq (WP.region (WPr.sil htt 2 rfl (WPr.nil (WP.seq (WP.seq (WP.region (WPr.silx [2, 3] ⟨[(0, .c (.sl 0)), (1, .c (.i .i64 label_)), (4, .c .nil), (5, .c (.i .i64 (0 : Int))), (13, .c (.sl 0)), (14, .c (.i .i64 label_))], [], [(0, .sl rR0 decls_)], 1⟩ htt 2 (by kernel_rfl) (?_))))))))
  obtain ⟨x1, hx1, h⟩ := ob h
  refine WPr.call (z44_ct N decls_ label_ _ hx1) [(0, .sl 0)] [] rfl rfl rfl rfl rfl rfl rfl rfl (.inl rfl) rfl (WPr.silx [] ⟨[(0, .c (.sl 0)), (1, .c (.i .i64 label_)), (4, .c .nil), (5, .c (.i .i64 (0 : Int))), (16, .c (.b (!x1)))], [], [(0, .sl rR0 decls_)], 1⟩ htt 1 (by kernel_rfl) (WPr.nil (?_)))
  rcases oc h with ⟨hc, h⟩ | ⟨hc, h⟩
  · refine WP.condT hc rfl (WP.seq (WP.region (WPr.sil htt 2 rfl (WPr.nil (?_)))))
    cases h
    exact WP.ret htt Tryz.func26 [(1, .nil)] rfl rfl rfl rfl
  refine WP.condF hc rfl (WP.skip (WP.seq (WP.region (WPr.sil htt 1 rfl (WPr.nil (WP.seq (WP.region (WPr.silx [2, 3, 4, 5] ⟨[(4, .c .nil), (5, .c (.i .i64 (0 : Int))), (6, .c .nil), (17, .c (.sl 0)), (18, .c (.i .i64 label_))], [], [(0, .sl rR0 decls_)], 1⟩ htt 2 (by kernel_rfl) (?_)))))))))
  obtain ⟨x2, hx2, h⟩ := ob h
  refine WPr.ix oO0 htt hx2 rfl rfl rfl rfl rfl rfl rfl rfl rfl (WPr.silx [] ⟨[(4, .c .nil), (5, .c (.i .i64 (0 : Int))), (6, .c .nil), (7, .c (.bp 5 0))], [(5, .box [.s x2.Name, .sl 2, .i .i64 x2.First, .sl 3, .sl 4] 44)], [(0, .sl rR0 decls_), (2, .sl rR2 x2.Fields), (3, .sl rR1 x2.Guard.Diffs), (4, .sl (rP (rI .i64) (rI .i64)) x2.Guard.Equals)], 6⟩ htt 3 (by kernel_rfl) (WPr.nil (WP.seq (WP.seq (WP.region (WPr.sil htt 1 rfl (WPr.nil (?_))))))))
  refine WP.cut (σ := (List T1)) (fun st => ⟨[(6, .c (.sl 6)), (7, .c (.bp 5 0))], [(5, .box [.s x2.Name, .sl 2, .i .i64 x2.First, .sl 3, .sl 4] 44), (6, .own rR1 st true)], [(0, .sl rR0 decls_), (2, .sl rR2 x2.Fields), (3, .sl rR1 x2.Guard.Diffs), (4, .sl (rP (rI .i64) (rI .i64)) x2.Guard.Equals)], 7⟩) (fun st => z26_k3 N x2 st = some r) ?_ (fun j1 => ?_)
  · intro v6_1 h
    replace h : z26_k3 N x2 v6_1 = some r := h
    unfold z26_k3 at h
    refine WP.seq (WP.region (WPr.silx [4, 5] ⟨[(7, .c (.bp 5 0)), (54, .c (.sl 6)), (57, .c (.sl 3))], [(5, .box [.s x2.Name, .sl 2, .i .i64 x2.First, .sl 3, .sl 4] 44), (6, .own rR1 v6_1 true)], [(0, .sl rR0 decls_), (2, .sl rR2 x2.Fields), (3, .sl rR1 x2.Guard.Diffs), (4, .sl (rP (rI .i64) (rI .i64)) x2.Guard.Equals)], 7⟩ htt 4 (by kernel_rfl) (?_)))
    obtain ⟨x107, hx107, h⟩ := ob h
    refine WPr.app htt hx107 (by exact (srcI rfl)) rfl rfl rfl rfl rfl rfl rfl rfl rfl rfl (WPr.silx [] ⟨[(6, .c (.sl 7)), (7, .c (.bp 5 0))], [(5, .box [.s x2.Name, .sl 2, .i .i64 x2.First, .sl 3, .sl 4] 44), (7, .own rR1 x107 true)], [(0, .sl rR0 decls_), (2, .sl rR2 x2.Fields), (3, .sl rR1 x2.Guard.Diffs), (4, .sl (rP (rI .i64) (rI .i64)) x2.Guard.Equals)], 8⟩ htt 1 (by kernel_rfl) (WPr.nil (WP.seq (WP.seq (WP.region (WPr.sil htt 1 rfl (WPr.nil (?_))))))))
    refine WP.cut (σ := (List T1)) (fun st => ⟨[(6, .c (.sl 8))], [(8, .own rR1 st true)], [(0, .sl rR0 decls_)], 9⟩) (fun st => z26_k1 st = some r) ?_ (fun j3 => ?_)
    · intro v6_3 h
      replace h : z26_k1 v6_3 = some r := h
      unfold z26_k1 at h
      refine WP.seq (WP.region (WPr.silx [] ⟨[(4, .c (.sl 8)), (5, .c (.i .i64 (0 : Int)))], [(8, .own rR1 v6_3 true)], [(0, .sl rR0 decls_)], 9⟩ htt 3 (by kernel_rfl) (WPr.nil (?_))))
      cases h
      exact WP.ret htt Tryz.func26 [(1, .sl 8)] rfl rfl rfl rfl
    refine WP.block (?_)
    refine WP.loopI (σ := (List T1) × Int) (fun st => ⟨[(6, .c (.sl 8)), (7, .c (.bp 5 0)), (10, .c (.i .i64 st.2))], [(5, .box [.s x2.Name, .sl 2, .i .i64 x2.First, .sl 3, .sl 4] 44), (8, .own rR1 st.1 true)], [(0, .sl rR0 decls_), (2, .sl rR2 x2.Fields), (3, .sl rR1 x2.Guard.Diffs), (4, .sl (rP (rI .i64) (rI .i64)) x2.Guard.Equals)], 9⟩) (fun n st => z26_l2 x2 n st.1 st.2) (r := r) (fun _ => rfl) ?_ (fun ih => ?_)
    · intro n3 ih5
      rintro ⟨v6_5, v10_5⟩ h
      replace h : z26_l2 x2 (n3 + 1) v6_5 v10_5 = some r := h
      unfold z26_l2 at h
      refine WP.seq (WP.seq (WP.region (WPr.silx [] ⟨[(6, .c (.sl 8)), (7, .c (.bp 5 0)), (10, .c (.i .i64 v10_5)), (64, .c (.b (decide (v10_5 < (x2.Guard.Equals.length : Int)))))], [(5, .box [.s x2.Name, .sl 2, .i .i64 x2.First, .sl 3, .sl 4] 44), (8, .own rR1 v6_5 true)], [(0, .sl rR0 decls_), (2, .sl rR2 x2.Fields), (3, .sl rR1 x2.Guard.Diffs), (4, .sl (rP (rI .i64) (rI .i64)) x2.Guard.Equals)], 9⟩ htt 6 (by kernel_rfl) (WPr.nil (?_)))))
      rcases oc' h with ⟨hc, h⟩ | ⟨hc, h⟩
      · exact WP.condF hc rfl (WP.exit rfl (WP.sub [] (j3 v6_5 h) rfl rfl rfl rfl))
      refine WP.condT hc rfl (WP.skip (WP.seq (WP.block (WP.seq (WP.nm (fun A13 tA13 fA13 => ?_))))))
      have st269 : A13 0 ⟨[(7, .c (.bp 5 0))], [], [], [], 9, [(67, .c (.bp 5 3))], [], [], 9⟩ := tA13 _ _ (LS.sil htt rfl rfl rfl rfl rfl rfl)
      have st270 : A13 1 ⟨[(67, .c (.bp 5 3))], [], [], [], 9, [(68, .c (.bp 5 4))], [], [], 9⟩ := tA13 _ _ (LS.sil htt rfl rfl rfl rfl rfl rfl)
      have st271 : A13 2 ⟨[(68, .c (.bp 5 4))], [(2, .sl rR2 x2.Fields), (3, .sl rR1 x2.Guard.Diffs), (4, .sl (rP (rI .i64) (rI .i64)) x2.Guard.Equals)], [], [(5, .box [.s x2.Name, .sl 2, .i .i64 x2.First, .sl 3, .sl 4] 44)], 9, [(69, .c (.sl 4))], [], [], 9⟩ := tA13 _ _ (LS.sil htt rfl rfl rfl rfl rfl rfl)
      have st272 : A13 3 ⟨[(10, .c (.i .i64 v10_5))], [], [], [], 9, [(70, .c (.i .i64 v10_5))], [], [], 9⟩ := tA13 _ _ (LS.sil htt rfl rfl rfl rfl rfl rfl)
      obtain ⟨x273, hx273, h⟩ := ob h
      have st274 : A13 4 ⟨[(69, .c (.sl 4)), (70, .c (.i .i64 v10_5))], [(4, .sl (rP (rI .i64) (rI .i64)) x2.Guard.Equals)], [], [], 9, [(71, .c (.px 9 0))], [(9, .pl [.i .i64 x273.1, .i .i64 x273.2])], [], 10⟩ := tA13 _ _ (LS.of rfl rfl rfl (fun _ _ _ _ _ _ _ k => WPr.ix (oP (oI .i64) (oI .i64)) htt hx273 rfl rfl rfl rfl rfl rfl rfl rfl rfl (k)) rfl)
      have st275 : A13 5 ⟨[(71, .c (.px 9 0))], [(9, .pl [.i .i64 x273.1, .i .i64 x273.2])], [], [], 10, [(72, .c (.px 9 0))], [], [], 10⟩ := tA13 _ _ (LS.of rfl rfl rfl (fun _ _ _ _ _ _ _ k => WPr.axp (len := 2) (el := 3) (es := 1) 0 rfl rfl rfl rfl rfl (by kernel_rfl) (by kernel_rfl) rfl rfl (Or.inl ⟨_, rfl⟩) rfl rfl (k)) rfl)
      have st276 : A13 6 ⟨[(72, .c (.px 9 0))], [(9, .pl [.i .i64 x273.1, .i .i64 x273.2])], [], [], 10, [(73, .c (.i .i64 x273.1))], [], [], 10⟩ := tA13 _ _ (LS.sil htt rfl rfl rfl rfl rfl rfl)
      have st277 : A13 7 ⟨[(7, .c (.bp 5 0))], [], [], [], 10, [(74, .c (.bp 5 3))], [], [], 10⟩ := tA13 _ _ (LS.sil htt rfl rfl rfl rfl rfl rfl)
      have st278 : A13 8 ⟨[(74, .c (.bp 5 3))], [], [], [], 10, [(75, .c (.bp 5 4))], [], [], 10⟩ := tA13 _ _ (LS.sil htt rfl rfl rfl rfl rfl rfl)
      have st279 : A13 9 ⟨[(75, .c (.bp 5 4))], [(2, .sl rR2 x2.Fields), (3, .sl rR1 x2.Guard.Diffs), (4, .sl (rP (rI .i64) (rI .i64)) x2.Guard.Equals)], [], [(5, .box [.s x2.Name, .sl 2, .i .i64 x2.First, .sl 3, .sl 4] 44)], 10, [(76, .c (.sl 4))], [], [], 10⟩ := tA13 _ _ (LS.sil htt rfl rfl rfl rfl rfl rfl)
      have st280 : A13 10 ⟨[(10, .c (.i .i64 v10_5))], [], [], [], 10, [(77, .c (.i .i64 v10_5))], [], [], 10⟩ := tA13 _ _ (LS.sil htt rfl rfl rfl rfl rfl rfl)
      obtain ⟨x281, hx281, h⟩ := ob h
      have st282 : A13 11 ⟨[(76, .c (.sl 4)), (77, .c (.i .i64 v10_5))], [(4, .sl (rP (rI .i64) (rI .i64)) x2.Guard.Equals)], [], [], 10, [(78, .c (.px 10 0))], [(10, .pl [.i .i64 x281.1, .i .i64 x281.2])], [], 11⟩ := tA13 _ _ (LS.of rfl rfl rfl (fun _ _ _ _ _ _ _ k => WPr.ix (oP (oI .i64) (oI .i64)) htt hx281 rfl rfl rfl rfl rfl rfl rfl rfl rfl (k)) rfl)
      have st283 : A13 12 ⟨[(78, .c (.px 10 0))], [(10, .pl [.i .i64 x281.1, .i .i64 x281.2])], [], [], 11, [(79, .c (.px 10 1))], [], [], 11⟩ := tA13 _ _ (LS.of rfl rfl rfl (fun _ _ _ _ _ _ _ k => WPr.axp (len := 2) (el := 3) (es := 1) 1 rfl rfl rfl rfl rfl (by kernel_rfl) (by kernel_rfl) rfl rfl (Or.inl ⟨_, rfl⟩) rfl rfl (k)) rfl)
      have st284 : A13 13 ⟨[(79, .c (.px 10 1))], [(10, .pl [.i .i64 x281.1, .i .i64 x281.2])], [], [], 11, [(80, .c (.i .i64 x281.2))], [], [], 11⟩ := tA13 _ _ (LS.sil htt rfl rfl rfl rfl rfl rfl)
      have st285 : A13 14 ⟨[(73, .c (.i .i64 x273.1))], [], [], [], 11, [(11, .c (.i .i64 x273.1))], [], [], 11⟩ := tA13 _ _ (LS.sil htt rfl rfl rfl rfl rfl rfl)
      have st286 : A13 15 ⟨[(80, .c (.i .i64 x281.2))], [], [], [], 11, [(12, .c (.i .i64 x281.2))], [], [], 11⟩ := tA13 _ _ (LS.sil htt rfl rfl rfl rfl rfl rfl)
      refine WP.regionD (t := ⟨[(6, .c (.sl 8)), (7, .c (.bp 5 0)), (10, .c (.i .i64 v10_5)), (11, .c (.i .i64 x273.1)), (12, .c (.i .i64 x281.2))], [(5, .box [.s x2.Name, .sl 2, .i .i64 x2.First, .sl 3, .sl 4] 44), (8, .own rR1 v6_5 true)], [(0, .sl rR0 decls_), (2, .sl rR2 x2.Fields), (3, .sl rR1 x2.Guard.Diffs), (4, .sl (rP (rI .i64) (rI .i64)) x2.Guard.Equals)], 11⟩) [0, 1, 3, 0, 15, 31, 63, 0, 128, 384, 0, 1920, 3968, 8064, 127, 32767] (.cons (fA13 _ _ st269) (.cons (fA13 _ _ st270) (.cons (fA13 _ _ st271) (.cons (fA13 _ _ st272) (.cons (fA13 _ _ st274) (.cons (fA13 _ _ st275) (.cons (fA13 _ _ st276) (.cons (fA13 _ _ st277) (.cons (fA13 _ _ st278) (.cons (fA13 _ _ st279) (.cons (fA13 _ _ st280) (.cons (fA13 _ _ st282) (.cons (fA13 _ _ st283) (.cons (fA13 _ _ st284) (.cons (fA13 _ _ st285) (.cons (fA13 _ _ st286) .nil)))))))))))))))) (by kernel_rfl) (by kernel_rfl) (by kernel_rfl) (by kernel_rfl) (WP.region (WPr.silx [7, 8, 9] ⟨[(7, .c (.bp 5 0)), (10, .c (.i .i64 v10_5)), (81, .c (.sl 8)), (84, .a [.i .i64 x273.1, .i .i64 x281.2, .i .i64 (0 : Int)]), (87, .a [.i .i64 x281.2, .i .i64 x273.1, .i .i64 (0 : Int)])], [(5, .box [.s x2.Name, .sl 2, .i .i64 x2.First, .sl 3, .sl 4] 44), (8, .own rR1 v6_5 true)], [(0, .sl rR0 decls_), (2, .sl rR2 x2.Fields), (3, .sl rR1 x2.Guard.Diffs), (4, .sl (rP (rI .i64) (rI .i64)) x2.Guard.Equals)], 11⟩ htt 7 (by kernel_rfl) (WPr.bs (cs := [.i .i64 x273.1, .i .i64 x281.2, .i .i64 (0 : Int), .i .i64 x281.2, .i .i64 x273.1, .i .i64 (0 : Int)]) oO1 htt ([(⟨x273.1, x281.2, (0 : Int)⟩ : T1), (⟨x281.2, x273.1, (0 : Int)⟩ : T1)] : List T1) rfl rfl rfl rfl rfl rfl (by kernel_rfl) (by exact (an (an rfl (an rfl rfl)) (an (an rfl (an rfl rfl)) rfl))) rfl (?_))))
      obtain ⟨x287, hx287, h⟩ := ob h
      exact WPr.app htt hx287 (by exact (srcO rfl)) rfl rfl rfl rfl rfl rfl rfl rfl rfl rfl (WPr.silx [] ⟨[(6, .c (.sl 12)), (7, .c (.bp 5 0)), (10, .c (.i .i64 v10_5))], [(5, .box [.s x2.Name, .sl 2, .i .i64 x2.First, .sl 3, .sl 4] 44), (12, .own rR1 x287 true)], [(0, .sl rR0 decls_), (2, .sl rR2 x2.Fields), (3, .sl rR1 x2.Guard.Diffs), (4, .sl (rP (rI .i64) (rI .i64)) x2.Guard.Equals)], 13⟩ htt 1 (by kernel_rfl) (WPr.nil (WP.inBlock (WP.region (WPr.silx [] ⟨[(6, .c (.sl 12)), (7, .c (.bp 5 0)), (10, .c (.i .i64 (w64 (v10_5 + (1 : Int)))))], [(5, .box [.s x2.Name, .sl 2, .i .i64 x2.First, .sl 3, .sl 4] 44), (12, .own rR1 x287 true)], [(0, .sl rR0 decls_), (2, .sl rR2 x2.Fields), (3, .sl rR1 x2.Guard.Diffs), (4, .sl (rP (rI .i64) (rI .i64)) x2.Guard.Equals)], 13⟩ htt 3 (by kernel_rfl) (WPr.nil (WP.sub [(8, .sl 12)] (ih5 (x287, (w64 (v10_5 + (1 : Int)))) h) rfl rfl rfl rfl)))))))
    exact WP.sub [(8, .sl 7)] (ih N (x107, (0 : Int)) h) rfl rfl rfl rfl
  refine WP.block (?_)
  refine WP.loopI (σ := (List T1) × Int) (fun st => ⟨[(6, .c (.sl 6)), (7, .c (.bp 5 0)), (8, .c (.i .i64 st.2))], [(5, .box [.s x2.Name, .sl 2, .i .i64 x2.First, .sl 3, .sl 4] 44), (6, .own rR1 st.1 true)], [(0, .sl rR0 decls_), (2, .sl rR2 x2.Fields), (3, .sl rR1 x2.Guard.Diffs), (4, .sl (rP (rI .i64) (rI .i64)) x2.Guard.Equals)], 7⟩) (fun n st => z26_l4 N x2 n st.1 st.2) (r := r) (fun _ => rfl) ?_ (fun ih => ?_)
  · intro n4 ih6
    rintro ⟨v6_6, v8_6⟩ h
    replace h : z26_l4 N x2 (n4 + 1) v6_6 v8_6 = some r := h
    unfold z26_l4 at h
    refine WP.seq (WP.seq (WP.region (WPr.silx [] ⟨[(6, .c (.sl 6)), (7, .c (.bp 5 0)), (8, .c (.i .i64 v8_6)), (25, .c (.b (decide (v8_6 < (x2.Fields.length : Int)))))], [(5, .box [.s x2.Name, .sl 2, .i .i64 x2.First, .sl 3, .sl 4] 44), (6, .own rR1 v6_6 true)], [(0, .sl rR0 decls_), (2, .sl rR2 x2.Fields), (3, .sl rR1 x2.Guard.Diffs), (4, .sl (rP (rI .i64) (rI .i64)) x2.Guard.Equals)], 7⟩ htt 5 (by kernel_rfl) (WPr.nil (?_)))))
    rcases oc' h with ⟨hc, h⟩ | ⟨hc, h⟩
    · exact WP.condF hc rfl (WP.exit rfl (WP.sub [] (j1 v6_6 h) rfl rfl rfl rfl))
    refine WP.condT hc rfl (WP.skip (WP.seq (WP.block (WP.seq (WP.region (WPr.silx [] ⟨[(6, .c (.sl 6)), (7, .c (.bp 5 0)), (8, .c (.i .i64 v8_6)), (9, .c (.i .i64 (w64 (x2.First + v8_6))))], [(5, .box [.s x2.Name, .sl 2, .i .i64 x2.First, .sl 3, .sl 4] 44), (6, .own rR1 v6_6 true)], [(0, .sl rR0 decls_), (2, .sl rR2 x2.Fields), (3, .sl rR1 x2.Guard.Diffs), (4, .sl (rP (rI .i64) (rI .i64)) x2.Guard.Equals)], 7⟩ htt 5 (by kernel_rfl) (WPr.nil (WP.nm (fun A18 tA18 fA18 => ?_)))))))))
    have st392 : A18 0 ⟨[(6, .c (.sl 6))], [], [], [], 7, [(32, .c (.sl 6))], [], [], 7⟩ := tA18 _ _ (LS.sil htt rfl rfl rfl rfl rfl rfl)
    have st393 : A18 1 ⟨[(9, .c (.i .i64 (w64 (x2.First + v8_6))))], [], [], [], 7, [(33, .c (.i .i64 (w64 (x2.First + v8_6))))], [], [], 7⟩ := tA18 _ _ (LS.sil htt rfl rfl rfl rfl rfl rfl)
    have st394 : A18 2 ⟨[(7, .c (.bp 5 0))], [], [], [], 7, [(34, .c (.bp 5 1))], [], [], 7⟩ := tA18 _ _ (LS.sil htt rfl rfl rfl rfl rfl rfl)
    have st395 : A18 3 ⟨[(34, .c (.bp 5 1))], [(2, .sl rR2 x2.Fields), (3, .sl rR1 x2.Guard.Diffs), (4, .sl (rP (rI .i64) (rI .i64)) x2.Guard.Equals)], [], [(5, .box [.s x2.Name, .sl 2, .i .i64 x2.First, .sl 3, .sl 4] 44)], 7, [(35, .c (.sl 2))], [], [], 7⟩ := tA18 _ _ (LS.sil htt rfl rfl rfl rfl rfl rfl)
    have st396 : A18 4 ⟨[(8, .c (.i .i64 v8_6))], [], [], [], 7, [(36, .c (.i .i64 v8_6))], [], [], 7⟩ := tA18 _ _ (LS.sil htt rfl rfl rfl rfl rfl rfl)
    obtain ⟨x397, hx397, h⟩ := ob h
    have st398 : A18 5 ⟨[(35, .c (.sl 2)), (36, .c (.i .i64 v8_6))], [(2, .sl rR2 x2.Fields)], [], [], 7, [(37, .c (.px 7 0))], [(7, .pl [.s x397.Name, .i .i64 x397.Sort'.Kind, .i .i64 x397.Sort'.Lo, .i .i64 x397.Sort'.Hi])], [], 8⟩ := tA18 _ _ (LS.of rfl rfl rfl (fun _ _ _ _ _ _ _ k => WPr.ix oO2 htt hx397 rfl rfl rfl rfl rfl rfl rfl rfl rfl (k)) rfl)
    have st399 : A18 6 ⟨[(37, .c (.px 7 0))], [(7, .pl [.s x397.Name, .i .i64 x397.Sort'.Kind, .i .i64 x397.Sort'.Lo, .i .i64 x397.Sort'.Hi])], [], [], 8, [(38, .c (.px 7 1))], [], [], 8⟩ := tA18 _ _ (LS.sil htt rfl rfl rfl rfl rfl rfl)
    have st400 : A18 7 ⟨[(38, .c (.px 7 1))], [(7, .pl [.s x397.Name, .i .i64 x397.Sort'.Kind, .i .i64 x397.Sort'.Lo, .i .i64 x397.Sort'.Hi])], [], [], 8, [(39, .c (.px 7 3))], [], [], 8⟩ := tA18 _ _ (LS.sil htt rfl rfl rfl rfl rfl rfl)
    have st401 : A18 8 ⟨[(39, .c (.px 7 3))], [(7, .pl [.s x397.Name, .i .i64 x397.Sort'.Kind, .i .i64 x397.Sort'.Lo, .i .i64 x397.Sort'.Hi])], [], [], 8, [(40, .c (.i .i64 x397.Sort'.Hi))], [], [], 8⟩ := tA18 _ _ (LS.sil htt rfl rfl rfl rfl rfl rfl)
    have st402 : A18 9 ⟨[(33, .c (.i .i64 (w64 (x2.First + v8_6)))), (40, .c (.i .i64 x397.Sort'.Hi))], [], [], [], 8, [(41, .a [.i .i64 (w64 (x2.First + v8_6)), .i .i64 (-1 : Int), .i .i64 x397.Sort'.Hi])], [], [], 8⟩ := tA18 _ _ (LS.sil htt rfl rfl rfl rfl rfl rfl)
    have st403 : A18 10 ⟨[(9, .c (.i .i64 (w64 (x2.First + v8_6))))], [], [], [], 8, [(42, .c (.i .i64 (w64 (x2.First + v8_6))))], [], [], 8⟩ := tA18 _ _ (LS.sil htt rfl rfl rfl rfl rfl rfl)
    have st404 : A18 11 ⟨[(7, .c (.bp 5 0))], [], [], [], 8, [(43, .c (.bp 5 1))], [], [], 8⟩ := tA18 _ _ (LS.sil htt rfl rfl rfl rfl rfl rfl)
    have st405 : A18 12 ⟨[(43, .c (.bp 5 1))], [(2, .sl rR2 x2.Fields), (3, .sl rR1 x2.Guard.Diffs), (4, .sl (rP (rI .i64) (rI .i64)) x2.Guard.Equals)], [], [(5, .box [.s x2.Name, .sl 2, .i .i64 x2.First, .sl 3, .sl 4] 44)], 8, [(44, .c (.sl 2))], [], [], 8⟩ := tA18 _ _ (LS.sil htt rfl rfl rfl rfl rfl rfl)
    have st406 : A18 13 ⟨[(8, .c (.i .i64 v8_6))], [], [], [], 8, [(45, .c (.i .i64 v8_6))], [], [], 8⟩ := tA18 _ _ (LS.sil htt rfl rfl rfl rfl rfl rfl)
    obtain ⟨x407, hx407, h⟩ := ob h
    have st408 : A18 14 ⟨[(44, .c (.sl 2)), (45, .c (.i .i64 v8_6))], [(2, .sl rR2 x2.Fields)], [], [], 8, [(46, .c (.px 8 0))], [(8, .pl [.s x407.Name, .i .i64 x407.Sort'.Kind, .i .i64 x407.Sort'.Lo, .i .i64 x407.Sort'.Hi])], [], 9⟩ := tA18 _ _ (LS.of rfl rfl rfl (fun _ _ _ _ _ _ _ k => WPr.ix oO2 htt hx407 rfl rfl rfl rfl rfl rfl rfl rfl rfl (k)) rfl)
    have st409 : A18 15 ⟨[(46, .c (.px 8 0))], [(8, .pl [.s x407.Name, .i .i64 x407.Sort'.Kind, .i .i64 x407.Sort'.Lo, .i .i64 x407.Sort'.Hi])], [], [], 9, [(47, .c (.px 8 1))], [], [], 9⟩ := tA18 _ _ (LS.sil htt rfl rfl rfl rfl rfl rfl)
    have st410 : A18 16 ⟨[(47, .c (.px 8 1))], [(8, .pl [.s x407.Name, .i .i64 x407.Sort'.Kind, .i .i64 x407.Sort'.Lo, .i .i64 x407.Sort'.Hi])], [], [], 9, [(48, .c (.px 8 2))], [], [], 9⟩ := tA18 _ _ (LS.sil htt rfl rfl rfl rfl rfl rfl)
    have st411 : A18 17 ⟨[(48, .c (.px 8 2))], [(8, .pl [.s x407.Name, .i .i64 x407.Sort'.Kind, .i .i64 x407.Sort'.Lo, .i .i64 x407.Sort'.Hi])], [], [], 9, [(49, .c (.i .i64 x407.Sort'.Lo))], [], [], 9⟩ := tA18 _ _ (LS.sil htt rfl rfl rfl rfl rfl rfl)
    have st412 : A18 18 ⟨[(49, .c (.i .i64 x407.Sort'.Lo))], [], [], [], 9, [(50, .c (.i .i64 (w64 (0 - x407.Sort'.Lo))))], [], [], 9⟩ := tA18 _ _ (LS.sil htt rfl rfl rfl rfl rfl rfl)
    have st413 : A18 19 ⟨[(42, .c (.i .i64 (w64 (x2.First + v8_6)))), (50, .c (.i .i64 (w64 (0 - x407.Sort'.Lo))))], [], [], [], 9, [(51, .a [.i .i64 (-1 : Int), .i .i64 (w64 (x2.First + v8_6)), .i .i64 (w64 (0 - x407.Sort'.Lo))])], [], [], 9⟩ := tA18 _ _ (LS.sil htt rfl rfl rfl rfl rfl rfl)
    have st414 : A18 20 ⟨[(41, .a [.i .i64 (w64 (x2.First + v8_6)), .i .i64 (-1 : Int), .i .i64 x397.Sort'.Hi]), (51, .a [.i .i64 (-1 : Int), .i .i64 (w64 (x2.First + v8_6)), .i .i64 (w64 (0 - x407.Sort'.Lo))])], [], [], [], 9, [(52, .c (.sl 9))], [], [(9, .own rR1 ([(⟨(w64 (x2.First + v8_6)), (-1 : Int), x397.Sort'.Hi⟩ : T1), (⟨(-1 : Int), (w64 (x2.First + v8_6)), (w64 (0 - x407.Sort'.Lo))⟩ : T1)] : List T1) true)], 10⟩ := tA18 _ _ (LS.of rfl rfl rfl (fun _ _ _ _ _ _ _ k => WPr.bs (cs := [.i .i64 (w64 (x2.First + v8_6)), .i .i64 (-1 : Int), .i .i64 x397.Sort'.Hi, .i .i64 (-1 : Int), .i .i64 (w64 (x2.First + v8_6)), .i .i64 (w64 (0 - x407.Sort'.Lo))]) oO1 htt ([(⟨(w64 (x2.First + v8_6)), (-1 : Int), x397.Sort'.Hi⟩ : T1), (⟨(-1 : Int), (w64 (x2.First + v8_6)), (w64 (0 - x407.Sort'.Lo))⟩ : T1)] : List T1) rfl rfl rfl rfl rfl rfl (by kernel_rfl) (by exact (an (an rfl (an rfl rfl)) (an (an rfl (an rfl rfl)) rfl))) rfl (k)) rfl)
    obtain ⟨x415, hx415, h⟩ := ob h
    have st416 : A18 21 ⟨[(32, .c (.sl 6)), (52, .c (.sl 9))], [], [(6, .own rR1 v6_6 true)], [(9, .own rR1 ([(⟨(w64 (x2.First + v8_6)), (-1 : Int), x397.Sort'.Hi⟩ : T1), (⟨(-1 : Int), (w64 (x2.First + v8_6)), (w64 (0 - x407.Sort'.Lo))⟩ : T1)] : List T1) true)], 10, [(53, .c (.sl 10))], [], [(6, .gone), (10, .own rR1 x415 true)], 11⟩ := tA18 _ _ (LS.of rfl rfl rfl (fun _ _ _ _ _ _ _ k => WPr.app htt hx415 (by exact (srcO rfl)) rfl rfl rfl rfl rfl rfl rfl rfl rfl rfl (k)) rfl)
    have st417 : A18 22 ⟨[(53, .c (.sl 10))], [], [], [], 11, [(6, .c (.sl 10))], [], [], 11⟩ := tA18 _ _ (LS.sil htt rfl rfl rfl rfl rfl rfl)
    exact WP.regionD (t := ⟨[(6, .c (.sl 10)), (7, .c (.bp 5 0)), (8, .c (.i .i64 v8_6))], [(5, .box [.s x2.Name, .sl 2, .i .i64 x2.First, .sl 3, .sl 4] 44), (10, .own rR1 x415 true)], [(0, .sl rR0 decls_), (2, .sl rR2 x2.Fields), (3, .sl rR1 x2.Guard.Diffs), (4, .sl (rP (rI .i64) (rI .i64)) x2.Guard.Equals)], 11⟩) [0, 0, 0, 4, 0, 28, 60, 124, 252, 510, 0, 0, 2048, 0, 14336, 30720, 63488, 129024, 260096, 523264, 1048574, 2097151, 4194303] (.cons (fA18 _ _ st392) (.cons (fA18 _ _ st393) (.cons (fA18 _ _ st394) (.cons (fA18 _ _ st395) (.cons (fA18 _ _ st396) (.cons (fA18 _ _ st398) (.cons (fA18 _ _ st399) (.cons (fA18 _ _ st400) (.cons (fA18 _ _ st401) (.cons (fA18 _ _ st402) (.cons (fA18 _ _ st403) (.cons (fA18 _ _ st404) (.cons (fA18 _ _ st405) (.cons (fA18 _ _ st406) (.cons (fA18 _ _ st408) (.cons (fA18 _ _ st409) (.cons (fA18 _ _ st410) (.cons (fA18 _ _ st411) (.cons (fA18 _ _ st412) (.cons (fA18 _ _ st413) (.cons (fA18 _ _ st414) (.cons (fA18 _ _ st416) (.cons (fA18 _ _ st417) .nil))))))))))))))))))))))) (by kernel_rfl) (by kernel_rfl) (by kernel_rfl) (by kernel_rfl) (WP.inBlock (WP.region (WPr.silx [] ⟨[(6, .c (.sl 10)), (7, .c (.bp 5 0)), (8, .c (.i .i64 (w64 (v8_6 + (1 : Int)))))], [(5, .box [.s x2.Name, .sl 2, .i .i64 x2.First, .sl 3, .sl 4] 44), (10, .own rR1 x415 true)], [(0, .sl rR0 decls_), (2, .sl rR2 x2.Fields), (3, .sl rR1 x2.Guard.Diffs), (4, .sl (rP (rI .i64) (rI .i64)) x2.Guard.Equals)], 11⟩ htt 3 (by kernel_rfl) (WPr.nil (WP.sub [(6, .sl 10)] (ih6 (x415, (w64 (v8_6 + (1 : Int)))) h) rfl rfl rfl rfl)))))
  exact WP.sub [(6, .nil)] (ih N (([] : List T1), (0 : Int)) h) rfl rfl rfl rfl
theorem z27_ct (N : Nat) (a_ : (List T1)) (b_ : (List T1)) (r : Bool) (h : z27 N a_ b_ = some r) :
  Fn Tryz.prog 27 ⟨2, [.c (.sl 0), .c (.sl 1)], [(0, .sl rR1 a_), (1, .sl rR1 b_)], [], 2, .c (.b r), [], []⟩ := by
  refine Fn.intro _ _ Tryz.func27 rfl (by kernel_rfl) rfl (fun E F w => ?_)
  unfold z27 at h
  refine WP.seq (WP.region (WPr.sil htt 1 rfl (WPr.nil (WP.seq (WP.seq (WP.region (WPr.silx [] ⟨[(0, .c (.sl 0)), (1, .c (.sl 1)), (4, .c (.b false)), (10, .c (.b ((a_.length : Int) != (b_.length : Int))))], [], [(0, .sl rR1 a_), (1, .sl rR1 b_)], 2⟩ htt 5 (by kernel_rfl) (WPr.nil (?_)))))))))
  rcases oc h with ⟨hc, h⟩ | ⟨hc, h⟩
  · refine WP.condT hc rfl (WP.seq (WP.region (WPr.sil htt 1 rfl (WPr.nil (?_)))))
    cases h
    exact WP.ret htt Tryz.func27 [] rfl rfl rfl rfl
  refine WP.condF hc rfl (WP.skip (WP.seq (WP.seq (WP.region (WPr.sil htt 1 rfl (WPr.nil (?_)))))))
  refine WP.cut (σ := Unit) (fun st => ⟨[], [], [(0, .sl rR1 a_), (1, .sl rR1 b_)], 2⟩) (fun st => z27_k1 = some r) ?_ (fun j1 => ?_)
  · intro _ h
    replace h : z27_k1 = some r := h
    unfold z27_k1 at h
    refine WP.seq (WP.region (WPr.sil htt 1 rfl (WPr.nil (?_))))
    cases h
    exact WP.ret htt Tryz.func27 [] rfl rfl rfl rfl
  refine WP.block (?_)
  refine WP.loopI (σ := Int) (fun st => ⟨[(0, .c (.sl 0)), (1, .c (.sl 1)), (5, .c (.i .i64 st))], [], [(0, .sl rR1 a_), (1, .sl rR1 b_)], 2⟩) (fun n st => z27_l2 a_ b_ n st) (r := r) (fun _ => rfl) ?_ (fun ih => ?_)
  · intro n2 ih3
    intro v5_3 h
    replace h : z27_l2 a_ b_ (n2 + 1) v5_3 = some r := h
    unfold z27_l2 at h
    refine WP.seq (WP.seq (WP.region (WPr.silx [] ⟨[(0, .c (.sl 0)), (1, .c (.sl 1)), (5, .c (.i .i64 v5_3)), (14, .c (.b (decide (v5_3 < (a_.length : Int)))))], [], [(0, .sl rR1 a_), (1, .sl rR1 b_)], 2⟩ htt 4 (by kernel_rfl) (WPr.nil (?_)))))
    rcases oc' h with ⟨hc, h⟩ | ⟨hc, h⟩
    · exact WP.condF hc rfl (WP.exit rfl (WP.sub [] (j1 () h) rfl rfl rfl rfl))
    refine WP.condT hc rfl (WP.skip (WP.seq (WP.block (WP.seq (WP.regionQ (by kernel_rfl) (by kernel_rfl) (WPq.sil htt 2 rfl (?_)))))))
    obtain ⟨x35, hx35, h⟩ := ob h
    refine WPq.op rfl rfl (VN.vs (VN.ix oO1 htt hx35 rfl rfl rfl rfl rfl rfl rfl)) (WPq.silx [6, 7, 8] ⟨[(0, .c (.sl 0)), (1, .c (.sl 1)), (5, .c (.i .i64 v5_3)), (20, .a [.i .i64 x35.X, .i .i64 x35.Y, .i .i64 x35.C]), (21, .c (.sl 1)), (22, .c (.i .i64 v5_3))], [], [(0, .sl rR1 a_), (1, .sl rR1 b_)], 3⟩ htt 3 (by kernel_rfl) (?_))
    obtain ⟨x36, hx36, h⟩ := ob h
    refine WPq.op rfl rfl (VN.vs (VN.ix oO1 htt hx36 rfl rfl rfl rfl rfl rfl rfl)) (WPq.sil htt 1 rfl (WPq.op rfl rfl (VN.vs (VN.eqa (neg := true) (equal_run (b := ((x35.X == x36.X) && ((x35.Y == x36.Y) && ((x35.C == x36.C) && true)))) (by kernel_rfl) (by kernel_rfl)) (by kernel_rfl) rfl rfl rfl rfl rfl)) (WPq.silx [] ⟨[(0, .c (.sl 0)), (1, .c (.sl 1)), (5, .c (.i .i64 v5_3)), (25, .c (.b (!((x35.X == x36.X) && ((x35.Y == x36.Y) && ((x35.C == x36.C) && true))))))], [], [(0, .sl rR1 a_), (1, .sl rR1 b_)], 4⟩ htt 0 (by kernel_rfl) (WPq.nil (?_)))))
    rcases oc h with ⟨hc, h⟩ | ⟨hc, h⟩
    · refine WP.condT hc rfl (WP.seq (WP.region (WPr.sil htt 1 rfl (WPr.nil (?_)))))
      cases h
      exact WP.ret htt Tryz.func27 [] rfl rfl rfl rfl
    exact WP.condF hc rfl (WP.skip (WP.inBlock (WP.region (WPr.silx [] ⟨[(0, .c (.sl 0)), (1, .c (.sl 1)), (5, .c (.i .i64 (w64 (v5_3 + (1 : Int)))))], [], [(0, .sl rR1 a_), (1, .sl rR1 b_)], 4⟩ htt 3 (by kernel_rfl) (WPr.nil (WP.sub [] (ih3 (w64 (v5_3 + (1 : Int))) h) rfl rfl rfl rfl))))))
  exact WP.sub [] (ih N (0 : Int) h) rfl rfl rfl rfl
theorem law14_GuardBounds_ct (N : Nat) (d_ : (List T0)) (label_ : Int) (r : Bool) (h : law14_GuardBounds N d_ label_ = some r) :
  Fn Tryz.prog 8 ⟨1, [.c (.sl 0), .c (.i .i64 label_)], [(0, .sl rR0 d_)], [], 1, .c (.b r), [], []⟩ := by
  refine Fn.intro _ _ Tryz.func8 rfl (by kernel_rfl) rfl (fun E F w => ?_)
  unfold law14_GuardBounds at h
  refine WP.seq (WP.region (WPr.sil htt 1 rfl (WPr.nil (WP.seq (WP.seq (WP.region (?_)))))))
  obtain ⟨x1, hx1, h⟩ := ob h
  refine WPr.call (z11_ct N _ hx1) [] [] rfl rfl rfl rfl rfl rfl rfl rfl (.inl rfl) rfl (WPr.silx [3, 4, 5, 6] ⟨[(0, .c (.sl 0)), (1, .c (.i .i64 label_)), (4, .c (.b false)), (11, .c (.b (!x1)))], [], [(0, .sl rR0 d_)], 1⟩ htt 2 (by kernel_rfl) (?_))
  rcases oc h with ⟨hc, h⟩ | ⟨hc, h⟩
  · refine WPr.kb 11 hc rfl (WPr.silx [] ⟨[(0, .c (.sl 0)), (1, .c (.i .i64 label_)), (4, .c (.b false)), (15, .c (.b true))], [], [(0, .sl rR0 d_)], 1⟩ htt 4 (by kernel_rfl) (WPr.nil (WP.condT rfl rfl (WP.seq (WP.region (?_))))))
    obtain ⟨x2, hx2, h⟩ := ob h
    refine WPr.call (z11_ct N _ hx2) [] [] rfl rfl rfl rfl rfl rfl rfl rfl (.inl rfl) rfl (WPr.silx [] ⟨[(4, .c (.b x2))], [], [(0, .sl rR0 d_)], 1⟩ htt 1 (by kernel_rfl) (WPr.nil (?_)))
    cases h
    exact WP.ret htt Tryz.func8 [] rfl rfl rfl rfl
  refine WPr.kb 11 hc rfl (WPr.sil htt 1 rfl (?_))
  obtain ⟨x3, hx3, h⟩ := ob h
  refine WPr.call (z12_ct N d_ ([] : List T5) ([] : List T5) _ hx3) [(0, .sl 0), (1, .nil), (2, .nil)] [] rfl rfl rfl rfl rfl rfl rfl rfl (.inl rfl) rfl (WPr.silx [] ⟨[(0, .c (.sl 0)), (1, .c (.i .i64 label_)), (4, .c (.b false)), (15, .c (.b (!x3)))], [], [(0, .sl rR0 d_)], 1⟩ htt 2 (by kernel_rfl) (WPr.nil (?_)))
  rcases oc h with ⟨hc, h⟩ | ⟨hc, h⟩
  · refine WP.condT hc rfl (WP.seq (WP.region (?_)))
    obtain ⟨x4, hx4, h⟩ := ob h
    refine WPr.call (z11_ct N _ hx4) [] [] rfl rfl rfl rfl rfl rfl rfl rfl (.inl rfl) rfl (WPr.silx [] ⟨[(4, .c (.b x4))], [], [(0, .sl rR0 d_)], 1⟩ htt 1 (by kernel_rfl) (WPr.nil (?_)))
    cases h
    exact WP.ret htt Tryz.func8 [] rfl rfl rfl rfl
  refine WP.condF hc rfl (WP.skip (WP.seq (WP.region (WPr.sil htt 2 rfl (?_)))))
  obtain ⟨x5, hx5, h⟩ := ob h
  refine WPr.call (z25_ct N d_ label_ _ hx5) [(0, .sl 0)] [] rfl rfl rfl rfl rfl rfl rfl rfl (.inl rfl) rfl (WPr.silx [] ⟨[(0, .c (.sl 0)), (1, .c (.i .i64 label_)), (4, .c (.b false)), (5, .c (.sl 1)), (6, .c (.i .i64 x5.2))], [(1, .own rR1 x5.1 true)], [(0, .sl rR0 d_)], 2⟩ htt 5 (by kernel_rfl) (WPr.nil (WP.seq (WP.region (WPr.sil htt 2 rfl (?_))))))
  obtain ⟨x6, hx6, h⟩ := ob h
  refine WPr.call (z26_ct N d_ label_ _ hx6) [(0, .sl 0)] [] rfl rfl rfl rfl rfl rfl rfl rfl (.inl rfl) rfl (WPr.silx [] ⟨[(4, .c (.b false)), (5, .c (.sl 1)), (6, .c (.i .i64 x5.2)), (7, .c (.sl 2)), (8, .c (.i .i64 x6.2))], [(1, .own rR1 x5.1 true), (2, .own rR1 x6.1 true)], [(0, .sl rR0 d_)], 3⟩ htt 5 (by kernel_rfl) (WPr.nil (WP.seq (WP.region (WPr.silx [4, 5, 6, 7, 8] ⟨[(5, .c (.sl 1)), (7, .c (.sl 2)), (32, .c (.b (x5.2 == x6.2)))], [(1, .own rR1 x5.1 true), (2, .own rR1 x6.1 true)], [(0, .sl rR0 d_)], 3⟩ htt 4 (by kernel_rfl) (?_))))))
  rcases oc' h with ⟨hc, h⟩ | ⟨hc, h⟩
  · refine WPr.kb 32 hc rfl (WPr.silx [] ⟨[(4, .c (.b false))], [], [(0, .sl rR0 d_)], 3⟩ htt 5 (by kernel_rfl) (WPr.nil (?_)))
    cases h
    exact WP.ret htt Tryz.func8 [] rfl rfl rfl rfl
  refine WPr.kb 32 hc rfl (WPr.sil htt 2 rfl (?_))
  obtain ⟨x7, hx7, h⟩ := ob h
  refine WPr.call (z27_ct N x5.1 x6.1 _ hx7) [(0, .sl 1), (1, .sl 2)] [1, 2] rfl rfl rfl rfl rfl rfl rfl rfl (.inr ⟨rfl, trivial⟩) rfl (WPr.silx [] ⟨[(4, .c (.b x7))], [], [(0, .sl rR0 d_)], 3⟩ htt 2 (by kernel_rfl) (WPr.nil (?_)))
  cases h
  exact WP.ret htt Tryz.func8 [] rfl rfl rfl rfl
end Gx
end
