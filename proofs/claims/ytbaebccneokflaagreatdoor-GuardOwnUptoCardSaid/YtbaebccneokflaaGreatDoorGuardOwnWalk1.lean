/- Each function of the statement computes what its plain definition says, part 1. -/
import Derived.Test.YtbaebccneokflaaGreatDoorGuardOwnBase
import Derived.Test.YtbaebccneokflaaGreatDoorGuardOwnEvalA
import Derived.Test.YtbaebccneokflaaGreatDoorGuardOwnLib
set_option linter.all false
section
set_option maxRecDepth 10000
set_option maxHeartbeats 4000000
open Go Go.Kx Go.Proofs Tryz
namespace Gx
theorem z11_ct (N : Nat) (r : Bool) (h : z11 N = some r) : Fn Tryz.prog 11 ⟨0, [], [], [], 0, .c (.b r), [], []⟩ := by
  cases h
  exact awake_fn
theorem z32_ct (N : Nat) (l_ : (List T0)) (r : Bool) (h : z32 N l_ = some r) :
  Fn Tryz.prog 32 ⟨1, [.c (.sl 0)], [(0, .sl rR0 l_)], [], 1, .c (.b r), [], []⟩ := by
  refine Fn.intro _ _ Tryz.func32 rfl (by kernel_rfl) rfl (fun E F w => ?_)
  unfold z32 at h
  refine WP.seq (WP.region (WPr.sil htt 1 rfl (WPr.nil (WP.seq (WP.region (WPr.sil htt 1 rfl (WPr.nil (WP.seq (WP.seq (WP.region (WPr.silx [] ⟨[(0, .c (.sl 0)), (2, .c (.b false)), (3, .c (.i .i64 (0 : Int))), (4, .c (.i .i64 (0 : Int)))], [], [(0, .sl rR0 l_)], 1⟩ htt 1 (by kernel_rfl) (WPr.nil (?_)))))))))))))
  refine WP.cut (σ := Int) (fun st => ⟨[(0, .c (.sl 0)), (3, .c (.i .i64 st))], [], [(0, .sl rR0 l_)], 1⟩) (fun st => z32_k1 l_ st = some r) ?_ (fun j1 => ?_)
  · intro v3_1 h
    replace h : z32_k1 l_ v3_1 = some r := h
    unfold z32_k1 at h
    refine WP.seq (WP.region (WPr.silx [4, 5, 6, 7] ⟨[(3, .c (.i .i64 v3_1)), (38, .c (.b (decide ((l_.length : Int) ≤ (60 : Int)))))], [], [(0, .sl rR0 l_)], 1⟩ htt 4 (by kernel_rfl) (?_)))
    rcases oc h with ⟨hc, h⟩ | ⟨hc, h⟩
    · refine WPr.kb 38 hc rfl (WPr.silx [] ⟨[(2, .c (.b (decide (v3_1 ≤ (100 : Int)))))], [], [(0, .sl rR0 l_)], 1⟩ htt 4 (by kernel_rfl) (WPr.nil (?_)))
      cases h
      exact WP.ret htt Tryz.func32 [] rfl rfl rfl rfl
    refine WPr.kb 38 hc rfl (WPr.silx [] ⟨[(2, .c (.b false))], [], [(0, .sl rR0 l_)], 1⟩ htt 4 (by kernel_rfl) (WPr.nil (?_)))
    cases h
    exact WP.ret htt Tryz.func32 [] rfl rfl rfl rfl
  refine WP.block (?_)
  refine WP.loopI (σ := Int × Int) (fun st => ⟨[(0, .c (.sl 0)), (3, .c (.i .i64 st.1)), (4, .c (.i .i64 st.2))], [], [(0, .sl rR0 l_)], 1⟩) (fun n st => z32_l2 l_ n st.1 st.2) (r := r) (fun _ => rfl) ?_ (fun ih => ?_)
  · intro n2 ih3
    rintro ⟨v3_3, v4_3⟩ h
    replace h : z32_l2 l_ (n2 + 1) v3_3 v4_3 = some r := h
    unfold z32_l2 at h
    refine WP.seq (WP.seq (WP.region (WPr.silx [] ⟨[(0, .c (.sl 0)), (3, .c (.i .i64 v3_3)), (4, .c (.i .i64 v4_3)), (8, .c (.b (decide (v4_3 < (l_.length : Int)))))], [], [(0, .sl rR0 l_)], 1⟩ htt 4 (by kernel_rfl) (WPr.nil (?_)))))
    rcases oc' h with ⟨hc, h⟩ | ⟨hc, h⟩
    · exact WP.condF hc rfl (WP.exit rfl (WP.sub [] (j1 v3_3 h) rfl rfl rfl rfl))
    refine WP.condT hc rfl (WP.skip (WP.seq (WP.block (WP.regionQ (by kernel_rfl) (by kernel_rfl) (WPq.silx [3, 4, 5, 6, 7, 8, 9, 10, 11, 12, 13, 14, 15, 16, 17, 18, 19, 20, 21, 22, 23, 24] ⟨[(0, .c (.sl 0)), (4, .c (.i .i64 v4_3)), (11, .c (.i .i64 v3_3)), (12, .c (.sl 0)), (13, .c (.i .i64 v4_3))], [], [(0, .sl rR0 l_)], 1⟩ htt 3 (by kernel_rfl) (?_))))))
    obtain ⟨x52, hx52, h⟩ := ob h
    refine WPq.op rfl rfl (VN.vs (VN.ix oO0 htt hx52 rfl rfl rfl rfl rfl rfl rfl)) (WPq.silx [9, 10, 11, 12, 13, 14, 15, 16, 17, 18, 19, 20, 21, 22, 23, 24] ⟨[(0, .c (.sl 0)), (4, .c (.i .i64 v4_3)), (11, .c (.i .i64 v3_3)), (17, .c (.i .i64 (x52.Fields.length : Int))), (18, .c (.sl 0)), (19, .c (.i .i64 v4_3))], [], [(0, .sl rR0 l_)], 5⟩ htt 5 (by kernel_rfl) (?_))
    obtain ⟨x53, hx53, h⟩ := ob h
    refine WPq.op rfl rfl (VN.vs (VN.ix oO0 htt hx53 rfl rfl rfl rfl rfl rfl rfl)) (WPq.silx [17, 18, 19, 20, 21, 22, 23, 24] ⟨[(0, .c (.sl 0)), (4, .c (.i .i64 v4_3)), (11, .c (.i .i64 v3_3)), (25, .c (.i .i64 (w64 ((x52.Fields.length : Int) + (x53.Guard.Diffs.length : Int))))), (26, .c (.sl 0)), (27, .c (.i .i64 v4_3))], [], [(0, .sl rR0 l_)], 9⟩ htt 7 (by kernel_rfl) (?_))
    obtain ⟨x54, hx54, h⟩ := ob h
    exact WPq.op rfl rfl (VN.vs (VN.ix oO0 htt hx54 rfl rfl rfl rfl rfl rfl rfl)) (WPq.silx [] ⟨[(0, .c (.sl 0)), (3, .c (.i .i64 (w64 (v3_3 + (w64 ((w64 ((x52.Fields.length : Int) + (x53.Guard.Diffs.length : Int))) + (x54.Guard.Equals.length : Int))))))), (4, .c (.i .i64 v4_3))], [], [(0, .sl rR0 l_)], 13⟩ htt 7 (by kernel_rfl) (WPq.nil (WP.inBlock (WP.region (WPr.silx [] ⟨[(0, .c (.sl 0)), (3, .c (.i .i64 (w64 (v3_3 + (w64 ((w64 ((x52.Fields.length : Int) + (x53.Guard.Diffs.length : Int))) + (x54.Guard.Equals.length : Int))))))), (4, .c (.i .i64 (w64 (v4_3 + (1 : Int)))))], [], [(0, .sl rR0 l_)], 13⟩ htt 3 (by kernel_rfl) (WPr.nil (WP.sub [] (ih3 ((w64 (v3_3 + (w64 ((w64 ((x52.Fields.length : Int) + (x53.Guard.Diffs.length : Int))) + (x54.Guard.Equals.length : Int))))), (w64 (v4_3 + (1 : Int)))) h) rfl rfl rfl rfl)))))))
  exact WP.sub [] (ih N ((0 : Int), (0 : Int)) h) rfl rfl rfl rfl
theorem z12_ct (N : Nat) (d_ : (List T0)) (values_ : (List T5)) (known_ : (List T5)) (r : Bool) (h : z12 N d_ values_ known_ = some r) :
  Fn Tryz.prog 12 ⟨3, [.c (.sl 0), .c (.sl 1), .c (.sl 2)], [(0, .sl rR0 d_), (1, .sl rR5 values_), (2, .sl rR5 known_)], [], 3, .c (.b r), [], []⟩ := by
  refine Fn.intro _ _ Tryz.func12 rfl (by kernel_rfl) rfl (fun E F w => ?_)
  unfold z12 at h
  refine WP.seq (WP.region (WPr.sil htt 1 rfl (WPr.nil (WP.seq (WP.region (WPr.sil htt 1 rfl (?_)))))))
  obtain ⟨x1, hx1, h⟩ := ob h
  refine WPr.call (z32_ct N d_ _ hx1) [(0, .sl 0)] [] rfl rfl rfl rfl rfl rfl rfl rfl (.inl rfl) rfl (WPr.silx [3, 4, 5, 6, 7, 8, 9, 10, 11, 12] ⟨[(1, .c (.sl 1)), (2, .c (.sl 2)), (9, .c (.b x1))], [], [(0, .sl rR0 d_), (1, .sl rR5 values_), (2, .sl rR5 known_)], 3⟩ htt 1 (by kernel_rfl) (?_))
  rcases oc' h with ⟨hc, h⟩ | ⟨hc, h⟩
  · refine WPr.kb 9 hc rfl (WPr.silx [] ⟨[(6, .c (.b false))], [], [(0, .sl rR0 d_), (1, .sl rR5 values_), (2, .sl rR5 known_)], 3⟩ htt 10 (by kernel_rfl) (WPr.nil (?_)))
    cases h
    exact WP.ret htt Tryz.func12 [] rfl rfl rfl rfl
  refine WPr.kb 9 hc rfl (WPr.silx [8, 9, 10, 11, 12] ⟨[(2, .c (.sl 2)), (14, .c (.b (decide ((values_.length : Int) ≤ (30 : Int)))))], [], [(0, .sl rR0 d_), (1, .sl rR5 values_), (2, .sl rR5 known_)], 3⟩ htt 5 (by kernel_rfl) (?_))
  rcases oc h with ⟨hc, h⟩ | ⟨hc, h⟩
  · refine WPr.kb 14 hc rfl (WPr.silx [] ⟨[(6, .c (.b (decide ((known_.length : Int) ≤ (60 : Int)))))], [], [(0, .sl rR0 d_), (1, .sl rR5 values_), (2, .sl rR5 known_)], 3⟩ htt 5 (by kernel_rfl) (WPr.nil (?_)))
    cases h
    exact WP.ret htt Tryz.func12 [] rfl rfl rfl rfl
  refine WPr.kb 14 hc rfl (WPr.silx [] ⟨[(6, .c (.b false))], [], [(0, .sl rR0 d_), (1, .sl rR5 values_), (2, .sl rR5 known_)], 3⟩ htt 5 (by kernel_rfl) (WPr.nil (?_)))
  cases h
  exact WP.ret htt Tryz.func12 [] rfl rfl rfl rfl
theorem z55_ct (N : Nat) (decls_ : (List T0)) (r : Int) (h : z55 N decls_ = some r) :
  Fn Tryz.prog 55 ⟨1, [.c (.sl 0)], [(0, .sl rR0 decls_)], [], 1, .c (.i .i64 r), [], []⟩ := by
  refine Fn.intro _ _ Tryz.func55 rfl (by kernel_rfl) rfl (fun E F w => ?_)
  unfold z55 at h
  refine WP.seq (WP.region (WPr.sil htt 1 rfl (WPr.nil (WP.seq (WP.region (WPr.sil htt 1 rfl (WPr.nil (WP.seq (WP.seq (WP.region (WPr.silx [] ⟨[(0, .c (.sl 0)), (2, .c (.i .i64 (0 : Int))), (3, .c (.i .i64 (0 : Int))), (4, .c (.i .i64 (0 : Int)))], [], [(0, .sl rR0 decls_)], 1⟩ htt 1 (by kernel_rfl) (WPr.nil (?_)))))))))))))
  refine WP.cut (σ := Int) (fun st => ⟨[(3, .c (.i .i64 st))], [], [(0, .sl rR0 decls_)], 1⟩) (fun st => z55_k1 st = some r) ?_ (fun j1 => ?_)
  · intro v3_1 h
    replace h : z55_k1 v3_1 = some r := h
    unfold z55_k1 at h
    refine WP.seq (WP.region (WPr.sil htt 2 rfl (WPr.nil (?_))))
    cases h
    exact WP.ret htt Tryz.func55 [] rfl rfl rfl rfl
  refine WP.block (?_)
  refine WP.loopI (σ := Int × Int) (fun st => ⟨[(0, .c (.sl 0)), (3, .c (.i .i64 st.1)), (4, .c (.i .i64 st.2))], [], [(0, .sl rR0 decls_)], 1⟩) (fun n st => z55_l2 decls_ n st.1 st.2) (r := r) (fun _ => rfl) ?_ (fun ih => ?_)
  · intro n2 ih3
    rintro ⟨v3_3, v4_3⟩ h
    replace h : z55_l2 decls_ (n2 + 1) v3_3 v4_3 = some r := h
    unfold z55_l2 at h
    refine WP.seq (WP.seq (WP.region (WPr.silx [] ⟨[(0, .c (.sl 0)), (3, .c (.i .i64 v3_3)), (4, .c (.i .i64 v4_3)), (8, .c (.b (decide (v4_3 < (decls_.length : Int)))))], [], [(0, .sl rR0 decls_)], 1⟩ htt 4 (by kernel_rfl) (WPr.nil (?_)))))
    rcases oc' h with ⟨hc, h⟩ | ⟨hc, h⟩
    · exact WP.condF hc rfl (WP.exit rfl (WP.sub [] (j1 v3_3 h) rfl rfl rfl rfl))
    refine WP.condT hc rfl (WP.skip (WP.seq (WP.block (WP.region (WPr.silx [3, 4, 5, 6, 7, 8] ⟨[(0, .c (.sl 0)), (4, .c (.i .i64 v4_3)), (11, .c (.i .i64 v3_3)), (12, .c (.sl 0)), (13, .c (.i .i64 v4_3))], [], [(0, .sl rR0 decls_)], 1⟩ htt 3 (by kernel_rfl) (?_))))))
    obtain ⟨x9, hx9, h⟩ := ob h
    exact WPr.ix oO0 htt hx9 rfl rfl rfl rfl rfl rfl rfl rfl rfl (WPr.silx [] ⟨[(0, .c (.sl 0)), (3, .c (.i .i64 (w64 (v3_3 + (x9.Fields.length : Int))))), (4, .c (.i .i64 v4_3))], [], [(0, .sl rR0 decls_)], 5⟩ htt 5 (by kernel_rfl) (WPr.nil (WP.inBlock (WP.region (WPr.silx [] ⟨[(0, .c (.sl 0)), (3, .c (.i .i64 (w64 (v3_3 + (x9.Fields.length : Int))))), (4, .c (.i .i64 (w64 (v4_3 + (1 : Int)))))], [], [(0, .sl rR0 decls_)], 5⟩ htt 3 (by kernel_rfl) (WPr.nil (WP.sub [] (ih3 ((w64 (v3_3 + (x9.Fields.length : Int))), (w64 (v4_3 + (1 : Int)))) h) rfl rfl rfl rfl)))))))
  exact WP.sub [] (ih N ((0 : Int), (0 : Int)) h) rfl rfl rfl rfl
theorem z56_ct (N : Nat) (s_ : T4) (r : Bool) (h : z56 N s_ = some r) :
  Fn Tryz.prog 56 ⟨0, [.a [.i .i64 s_.Kind, .i .i64 s_.Lo, .i .i64 s_.Hi]], [], [], 0, .c (.b r), [], []⟩ := by
  refine Fn.intro _ _ Tryz.func56 rfl (by kernel_rfl) rfl (fun E F w => ?_)
  unfold z56 at h
  refine WP.seq (WP.region (WPr.sil htt 2 rfl (WPr.nil (WP.seq (WP.region (WPr.silx [] ⟨[(1, .c (.bp 0 0)), (2, .c (.b false)), (3, .c (.i .i64 (-1000 : Int))), (4, .c (.i .i64 (1000 : Int)))], [(0, .box [.i .i64 s_.Kind, .i .i64 s_.Lo, .i .i64 s_.Hi] 87)], [], 1⟩ htt 2 (by kernel_rfl) (WPr.nil (WP.seq (WP.seq (WP.region (WPr.silx [] ⟨[(1, .c (.bp 0 0)), (2, .c (.b false)), (3, .c (.i .i64 (-1000 : Int))), (4, .c (.i .i64 (1000 : Int))), (7, .c (.b (s_.Kind == (2 : Int))))], [(0, .box [.i .i64 s_.Kind, .i .i64 s_.Lo, .i .i64 s_.Hi] 87)], [], 1⟩ htt 3 (by kernel_rfl) (WPr.nil (?_)))))))))))))
  refine WP.cut (σ := Int × Int) (fun st => ⟨[(1, .c (.bp 0 0)), (3, .c (.i .i64 st.1)), (4, .c (.i .i64 st.2))], [(0, .box [.i .i64 s_.Kind, .i .i64 s_.Lo, .i .i64 s_.Hi] 87)], [], 1⟩) (fun st => z56_k1 s_ st.1 st.2 = some r) ?_ (fun j1 => ?_)
  · rintro ⟨v3_1, v4_1⟩ h
    replace h : z56_k1 s_ v3_1 v4_1 = some r := h
    unfold z56_k1 at h
    refine WP.seq (WP.region (WPr.silx [4, 5, 6, 7, 8, 9, 10, 11, 12, 13, 14, 15, 16, 17, 18, 19, 20, 21, 22, 23, 24, 25, 26, 27] ⟨[(1, .c (.bp 0 0)), (3, .c (.i .i64 v3_1)), (4, .c (.i .i64 v4_1)), (11, .c (.b (s_.Kind == (1 : Int))))], [(0, .box [.i .i64 s_.Kind, .i .i64 s_.Lo, .i .i64 s_.Hi] 87)], [], 1⟩ htt 4 (by kernel_rfl) (?_)))
    rcases oc h with ⟨hc, h⟩ | ⟨hc, h⟩
    · refine WPr.kb 11 hc rfl (WPr.silx [15, 16, 17, 18, 19, 20, 21, 22, 23, 24, 25, 26, 27] ⟨[(1, .c (.bp 0 0)), (4, .c (.i .i64 v4_1)), (22, .c (.b (decide (s_.Lo ≥ v3_1))))], [(0, .box [.i .i64 s_.Kind, .i .i64 s_.Lo, .i .i64 s_.Hi] 87)], [], 1⟩ htt 11 (by kernel_rfl) (?_))
      rcases oc' h with ⟨hc, h⟩ | ⟨hc, h⟩
      · refine WPr.kb 22 hc rfl (WPr.silx [] ⟨[(2, .c (.b false))], [], [], 1⟩ htt 13 (by kernel_rfl) (WPr.nil (?_)))
        cases h
        exact WP.ret htt Tryz.func56 [] rfl rfl rfl rfl
      refine WPr.kb 22 hc rfl (WPr.silx [21, 22, 23, 24, 25, 26, 27] ⟨[(1, .c (.bp 0 0)), (28, .c (.b (decide (s_.Hi ≤ v4_1))))], [(0, .box [.i .i64 s_.Kind, .i .i64 s_.Lo, .i .i64 s_.Hi] 87)], [], 1⟩ htt 6 (by kernel_rfl) (?_))
      rcases oc h with ⟨hc, h⟩ | ⟨hc, h⟩
      · refine WPr.kb 28 hc rfl (WPr.silx [] ⟨[(2, .c (.b (decide (s_.Lo ≤ s_.Hi))))], [], [], 1⟩ htt 7 (by kernel_rfl) (WPr.nil (?_)))
        cases h
        exact WP.ret htt Tryz.func56 [] rfl rfl rfl rfl
      refine WPr.kb 28 hc rfl (WPr.silx [] ⟨[(2, .c (.b false))], [], [], 1⟩ htt 7 (by kernel_rfl) (WPr.nil (?_)))
      cases h
      exact WP.ret htt Tryz.func56 [] rfl rfl rfl rfl
    refine WPr.kb 11 hc rfl (WPr.silx [9, 10, 11, 12, 13, 14, 15, 16, 17, 18, 19, 20, 21, 22, 23, 24, 25, 26, 27] ⟨[(1, .c (.bp 0 0)), (3, .c (.i .i64 v3_1)), (4, .c (.i .i64 v4_1)), (16, .c (.b (s_.Kind == (2 : Int))))], [(0, .box [.i .i64 s_.Kind, .i .i64 s_.Lo, .i .i64 s_.Hi] 87)], [], 1⟩ htt 5 (by kernel_rfl) (?_))
    rcases oc' h with ⟨hc, h⟩ | ⟨hc, h⟩
    · refine WPr.kb 16 hc rfl (WPr.silx [] ⟨[(2, .c (.b false))], [], [], 1⟩ htt 19 (by kernel_rfl) (WPr.nil (?_)))
      cases h
      exact WP.ret htt Tryz.func56 [] rfl rfl rfl rfl
    refine WPr.kb 16 hc rfl (WPr.silx [15, 16, 17, 18, 19, 20, 21, 22, 23, 24, 25, 26, 27] ⟨[(1, .c (.bp 0 0)), (4, .c (.i .i64 v4_1)), (22, .c (.b (decide (s_.Lo ≥ v3_1))))], [(0, .box [.i .i64 s_.Kind, .i .i64 s_.Lo, .i .i64 s_.Hi] 87)], [], 1⟩ htt 6 (by kernel_rfl) (?_))
    rcases oc' h with ⟨hc, h⟩ | ⟨hc, h⟩
    · refine WPr.kb 22 hc rfl (WPr.silx [] ⟨[(2, .c (.b false))], [], [], 1⟩ htt 13 (by kernel_rfl) (WPr.nil (?_)))
      cases h
      exact WP.ret htt Tryz.func56 [] rfl rfl rfl rfl
    refine WPr.kb 22 hc rfl (WPr.silx [21, 22, 23, 24, 25, 26, 27] ⟨[(1, .c (.bp 0 0)), (28, .c (.b (decide (s_.Hi ≤ v4_1))))], [(0, .box [.i .i64 s_.Kind, .i .i64 s_.Lo, .i .i64 s_.Hi] 87)], [], 1⟩ htt 6 (by kernel_rfl) (?_))
    rcases oc h with ⟨hc, h⟩ | ⟨hc, h⟩
    · refine WPr.kb 28 hc rfl (WPr.silx [] ⟨[(2, .c (.b (decide (s_.Lo ≤ s_.Hi))))], [], [], 1⟩ htt 7 (by kernel_rfl) (WPr.nil (?_)))
      cases h
      exact WP.ret htt Tryz.func56 [] rfl rfl rfl rfl
    refine WPr.kb 28 hc rfl (WPr.silx [] ⟨[(2, .c (.b false))], [], [], 1⟩ htt 7 (by kernel_rfl) (WPr.nil (?_)))
    cases h
    exact WP.ret htt Tryz.func56 [] rfl rfl rfl rfl
  rcases oc h with ⟨hc, h⟩ | ⟨hc, h⟩
  · exact WP.condT hc rfl (WP.region (WPr.sil htt 2 rfl (WPr.nil (WP.sub [] (j1 ((0 : Int), (40 : Int)) h) rfl rfl rfl rfl))))
  exact WP.condF hc rfl (WP.skip (WP.sub [] (j1 ((-1000 : Int), (1000 : Int)) h) rfl rfl rfl rfl))
theorem z154_ct (N : Nat) (c_ : Int) (r : Bool) (h : z154 N c_ = some r) :
  Fn Tryz.prog 154 ⟨0, [.c (.i .u8 c_)], [], [], 0, .c (.b r), [], []⟩ := by
  refine Fn.intro _ _ Tryz.func154 rfl (by kernel_rfl) rfl (fun E F w => ?_)
  unfold z154 at h
  refine WP.seq (WP.region (WPr.sil htt 1 rfl (WPr.nil (WP.seq (WP.region (WPr.silx [3, 4, 5, 6, 7, 8, 9, 10, 11, 12, 13, 14] ⟨[(0, .c (.i .u8 c_)), (5, .c (.b (decide (c_ ≥ (97 : Int)))))], [], [], 0⟩ htt 3 (by kernel_rfl) (?_)))))))
  rcases oc' h with ⟨hc, h⟩ | ⟨hc, h⟩
  · refine WPr.kb 5 hc rfl (WPr.silx [10, 11, 12, 13, 14] ⟨[(0, .c (.i .u8 c_)), (9, .c (.b false)), (12, .c (.b (decide (c_ ≥ (65 : Int)))))], [], [], 0⟩ htt 7 (by kernel_rfl) (?_))
    rcases oc h with ⟨hc, h⟩ | ⟨hc, h⟩
    · refine WPr.kb 12 hc rfl (WPr.silx [] ⟨[(2, .c (.b (decide (c_ ≤ (90 : Int)))))], [], [], 0⟩ htt 5 (by kernel_rfl) (WPr.nil (?_)))
      cases h
      exact WP.ret htt Tryz.func154 [] rfl rfl rfl rfl
    refine WPr.kb 12 hc rfl (WPr.silx [] ⟨[(2, .c (.b false))], [], [], 0⟩ htt 5 (by kernel_rfl) (WPr.nil (?_)))
    cases h
    exact WP.ret htt Tryz.func154 [] rfl rfl rfl rfl
  refine WPr.kb 5 hc rfl (WPr.silx [7, 8, 9, 10, 11, 12, 13, 14] ⟨[(0, .c (.i .u8 c_)), (9, .c (.b (decide (c_ ≤ (122 : Int)))))], [], [], 0⟩ htt 4 (by kernel_rfl) (?_))
  rcases oc h with ⟨hc, h⟩ | ⟨hc, h⟩
  · refine WPr.kb 9 hc rfl (WPr.silx [] ⟨[(2, .c (.b true))], [], [], 0⟩ htt 8 (by kernel_rfl) (WPr.nil (?_)))
    cases h
    exact WP.ret htt Tryz.func154 [] rfl rfl rfl rfl
  refine WPr.kb 9 hc rfl (WPr.silx [10, 11, 12, 13, 14] ⟨[(0, .c (.i .u8 c_)), (9, .c (.b false)), (12, .c (.b (decide (c_ ≥ (65 : Int)))))], [], [], 0⟩ htt 3 (by kernel_rfl) (?_))
  rcases oc h with ⟨hc, h⟩ | ⟨hc, h⟩
  · refine WPr.kb 12 hc rfl (WPr.silx [] ⟨[(2, .c (.b (decide (c_ ≤ (90 : Int)))))], [], [], 0⟩ htt 5 (by kernel_rfl) (WPr.nil (?_)))
    cases h
    exact WP.ret htt Tryz.func154 [] rfl rfl rfl rfl
  refine WPr.kb 12 hc rfl (WPr.silx [] ⟨[(2, .c (.b false))], [], [], 0⟩ htt 5 (by kernel_rfl) (WPr.nil (?_)))
  cases h
  exact WP.ret htt Tryz.func154 [] rfl rfl rfl rfl
theorem z216_ct (N : Nat) (c_ : Int) (r : Bool) (h : z216 N c_ = some r) :
  Fn Tryz.prog 216 ⟨0, [.c (.i .u8 c_)], [], [], 0, .c (.b r), [], []⟩ := by
  refine Fn.intro _ _ Tryz.func216 rfl (by kernel_rfl) rfl (fun E F w => ?_)
  unfold z216 at h
  refine WP.seq (WP.region (WPr.sil htt 1 rfl (WPr.nil (WP.seq (WP.region (WPr.silx [3, 4, 5, 6] ⟨[(0, .c (.i .u8 c_)), (5, .c (.b (decide (c_ ≥ (48 : Int)))))], [], [], 0⟩ htt 3 (by kernel_rfl) (?_)))))))
  rcases oc h with ⟨hc, h⟩ | ⟨hc, h⟩
  · refine WPr.kb 5 hc rfl (WPr.silx [] ⟨[(2, .c (.b (decide (c_ ≤ (57 : Int)))))], [], [], 0⟩ htt 4 (by kernel_rfl) (WPr.nil (?_)))
    cases h
    exact WP.ret htt Tryz.func216 [] rfl rfl rfl rfl
  refine WPr.kb 5 hc rfl (WPr.silx [] ⟨[(2, .c (.b false))], [], [], 0⟩ htt 4 (by kernel_rfl) (WPr.nil (?_)))
  cases h
  exact WP.ret htt Tryz.func216 [] rfl rfl rfl rfl
theorem z155_ct (N : Nat) (c_ : Int) (r : Bool) (h : z155 N c_ = some r) :
  Fn Tryz.prog 155 ⟨0, [.c (.i .u8 c_)], [], [], 0, .c (.b r), [], []⟩ := by
  refine Fn.intro _ _ Tryz.func155 rfl (by kernel_rfl) rfl (fun E F w => ?_)
  unfold z155 at h
  refine WP.seq (WP.region (WPr.sil htt 1 rfl (WPr.nil (WP.seq (WP.region (WPr.sil htt 1 rfl (?_)))))))
  obtain ⟨x1, hx1, h⟩ := ob h
  refine WPr.call (z154_ct N c_ _ hx1) [] [] rfl rfl rfl rfl rfl rfl rfl rfl (.inl rfl) rfl (WPr.silx [3, 4, 5, 6, 7, 8, 9, 10] ⟨[(0, .c (.i .u8 c_)), (5, .c (.b x1))], [], [], 0⟩ htt 1 (by kernel_rfl) (?_))
  rcases oc h with ⟨hc, h⟩ | ⟨hc, h⟩
  · refine WPr.kb 5 hc rfl (WPr.silx [] ⟨[(2, .c (.b true))], [], [], 0⟩ htt 8 (by kernel_rfl) (WPr.nil (?_)))
    cases h
    exact WP.ret htt Tryz.func155 [] rfl rfl rfl rfl
  refine WPr.kb 5 hc rfl (WPr.sil htt 1 rfl (?_))
  obtain ⟨x2, hx2, h⟩ := ob h
  refine WPr.call (z216_ct N c_ _ hx2) [] [] rfl rfl rfl rfl rfl rfl rfl rfl (.inl rfl) rfl (WPr.silx [7, 8, 9, 10] ⟨[(0, .c (.i .u8 c_)), (9, .c (.b x2))], [], [], 0⟩ htt 2 (by kernel_rfl) (?_))
  rcases oc h with ⟨hc, h⟩ | ⟨hc, h⟩
  · refine WPr.kb 9 hc rfl (WPr.silx [] ⟨[(2, .c (.b true))], [], [], 0⟩ htt 4 (by kernel_rfl) (WPr.nil (?_)))
    cases h
    exact WP.ret htt Tryz.func155 [] rfl rfl rfl rfl
  refine WPr.kb 9 hc rfl (WPr.silx [] ⟨[(2, .c (.b (c_ == (95 : Int))))], [], [], 0⟩ htt 4 (by kernel_rfl) (WPr.nil (?_)))
  cases h
  exact WP.ret htt Tryz.func155 [] rfl rfl rfl rfl
theorem z98_ct (N : Nat) (s_ : ByteArray) (r : Bool) (h : z98 N s_ = some r) :
  Fn Tryz.prog 98 ⟨0, [.c (.s s_)], [], [], 0, .c (.b r), [], []⟩ := by
  refine Fn.intro _ _ Tryz.func98 rfl (by kernel_rfl) rfl (fun E F w => ?_)
  unfold z98 at h
  refine WP.seq (WP.region (WPr.sil htt 1 rfl (WPr.nil (WP.seq (WP.seq (WP.region (WPr.silx [3, 4, 5, 6, 7, 8, 9, 10, 11, 12] ⟨[(0, .c (.s s_)), (2, .c (.b false)), (6, .c (.b (s_.toList == (str []).toList)))], [], [], 0⟩ htt 3 (by kernel_rfl) (?_))))))))
  rcases oc h with ⟨hc, h⟩ | ⟨hc, h⟩
  · refine WPr.kb 6 hc rfl (WPr.silx [] ⟨[(0, .c (.s s_)), (2, .c (.b false)), (16, .c (.b true))], [], [], 0⟩ htt 10 (by kernel_rfl) (WPr.nil (WP.condT rfl rfl (WP.seq (WP.region (WPr.sil htt 1 rfl (WPr.nil (?_))))))))
    cases h
    exact WP.ret htt Tryz.func98 [] rfl rfl rfl rfl
  refine WPr.kb 6 hc rfl (WPr.sil htt 1 rfl (?_))
  obtain ⟨x1, hx1, h⟩ := ob h
  refine WPr.sx htt hx1 rfl rfl rfl rfl rfl rfl rfl rfl rfl (?_)
  obtain ⟨x2, hx2, h⟩ := ob h
  refine WPr.call (z154_ct N x1 _ hx2) [] [] rfl rfl rfl rfl rfl rfl rfl rfl (.inl rfl) rfl (WPr.silx [9, 10, 11, 12] ⟨[(0, .c (.s s_)), (2, .c (.b false)), (12, .c (.b (!x2)))], [], [], 0⟩ htt 3 (by kernel_rfl) (?_))
  rcases oc h with ⟨hc, h⟩ | ⟨hc, h⟩
  · refine WPr.kb 12 hc rfl (WPr.silx [] ⟨[(0, .c (.s s_)), (2, .c (.b false)), (16, .c (.b true))], [], [], 0⟩ htt 4 (by kernel_rfl) (WPr.nil (WP.condT rfl rfl (WP.seq (WP.region (WPr.sil htt 1 rfl (WPr.nil (?_))))))))
    cases h
    exact WP.ret htt Tryz.func98 [] rfl rfl rfl rfl
  refine WPr.kb 12 hc rfl (WPr.silx [] ⟨[(0, .c (.s s_)), (2, .c (.b false)), (16, .c (.b (decide ((s_.size : Int) > (16 : Int)))))], [], [], 0⟩ htt 4 (by kernel_rfl) (WPr.nil (?_)))
  rcases oc h with ⟨hc, h⟩ | ⟨hc, h⟩
  · refine WP.condT hc rfl (WP.seq (WP.region (WPr.sil htt 1 rfl (WPr.nil (?_)))))
    cases h
    exact WP.ret htt Tryz.func98 [] rfl rfl rfl rfl
  refine WP.condF hc rfl (WP.skip (WP.seq (WP.seq (WP.region (WPr.sil htt 1 rfl (WPr.nil (?_)))))))
  refine WP.cut (σ := Unit) (fun st => ⟨[], [], [], 0⟩) (fun st => z98_k1 = some r) ?_ (fun j1 => ?_)
  · intro _ h
    replace h : z98_k1 = some r := h
    unfold z98_k1 at h
    refine WP.seq (WP.region (WPr.sil htt 1 rfl (WPr.nil (?_))))
    cases h
    exact WP.ret htt Tryz.func98 [] rfl rfl rfl rfl
  refine WP.block (?_)
  refine WP.loopI (σ := Int) (fun st => ⟨[(0, .c (.s s_)), (3, .c (.i .i64 st))], [], [], 0⟩) (fun n st => z98_l2 N s_ n st) (r := r) (fun _ => rfl) ?_ (fun ih => ?_)
  · intro n2 ih3
    intro v3_3 h
    replace h : z98_l2 N s_ (n2 + 1) v3_3 = some r := h
    unfold z98_l2 at h
    refine WP.seq (WP.seq (WP.region (WPr.silx [] ⟨[(0, .c (.s s_)), (3, .c (.i .i64 v3_3)), (20, .c (.b (decide (v3_3 < (s_.size : Int)))))], [], [], 0⟩ htt 4 (by kernel_rfl) (WPr.nil (?_)))))
    rcases oc' h with ⟨hc, h⟩ | ⟨hc, h⟩
    · exact WP.condF hc rfl (WP.exit rfl (WP.sub [] (j1 () h) rfl rfl rfl rfl))
    refine WP.condT hc rfl (WP.skip (WP.seq (WP.block (WP.seq (WP.region (WPr.sil htt 2 rfl (?_)))))))
    obtain ⟨x19, hx19, h⟩ := ob h
    refine WPr.sx htt hx19 rfl rfl rfl rfl rfl rfl rfl rfl rfl (WPr.silx [3, 4] ⟨[(0, .c (.s s_)), (3, .c (.i .i64 v3_3)), (25, .c (.i .u8 x19))], [], [], 0⟩ htt 0 (by kernel_rfl) (?_))
    obtain ⟨x20, hx20, h⟩ := ob h
    refine WPr.call (z155_ct N x19 _ hx20) [] [] rfl rfl rfl rfl rfl rfl rfl rfl (.inl rfl) rfl (WPr.silx [] ⟨[(0, .c (.s s_)), (3, .c (.i .i64 v3_3)), (27, .c (.b (!x20)))], [], [], 0⟩ htt 1 (by kernel_rfl) (WPr.nil (?_)))
    rcases oc h with ⟨hc, h⟩ | ⟨hc, h⟩
    · refine WP.condT hc rfl (WP.seq (WP.region (WPr.sil htt 1 rfl (WPr.nil (?_)))))
      cases h
      exact WP.ret htt Tryz.func98 [] rfl rfl rfl rfl
    exact WP.condF hc rfl (WP.skip (WP.inBlock (WP.region (WPr.silx [] ⟨[(0, .c (.s s_)), (3, .c (.i .i64 (w64 (v3_3 + (1 : Int)))))], [], [], 0⟩ htt 3 (by kernel_rfl) (WPr.nil (WP.sub [] (ih3 (w64 (v3_3 + (1 : Int))) h) rfl rfl rfl rfl))))))
  exact WP.sub [] (ih N (0 : Int) h) rfl rfl rfl rfl
theorem z100_ct (N : Nat) (r : (List ByteArray)) (h : z100 N = some r) :
  Fn Tryz.prog 100 ⟨0, [], [], [], 1, .c (.sl 0), [], [(0, .own rS r true)]⟩ := by
  refine Fn.intro _ _ Tryz.func100 rfl (by kernel_rfl) rfl (fun E F w => ?_)
  unfold z100 at h
  refine WP.seq (WP.region (WPr.sil htt 1 rfl (WPr.nil (WP.seq (WP.region (WPr.bs (cs := [.s (str [97, 103, 97, 105, 110]), .s (str [97, 110, 100]), .s (str [97, 115]), .s (str [97, 116]), .s (str [99, 97, 108, 108]), .s (str [99, 104, 111, 105, 99, 101]), .s (str [101, 108, 115, 101]), .s (str [102, 114, 111, 109]), .s (str [105, 102]), .s (str [105, 110, 116]), .s (str [108, 101, 110]), .s (str [108, 111, 111, 112]), .s (str [109, 101, 115, 115, 97, 103, 101]), .s (str [111, 102]), .s (str [111, 102, 102, 101, 114]), .s (str [111, 110]), .s (str [111, 114]), .s (str [112, 97, 114]), .s (str [112, 108, 97, 121, 115]), .s (str [112, 114, 111, 116, 111, 99, 111, 108]), .s (str [115, 101, 114, 118, 105, 99, 101]), .s (str [116, 101, 120, 116]), .s (str [116, 105, 109, 101, 115]), .s (str [116, 111]), .s (str [118, 97, 114]), .s (str [119, 104, 101, 114, 101]), .s (str [119, 104, 105, 108, 101]), .s (str [119, 105, 116, 104, 105, 110])]) oS htt ([(str [97, 103, 97, 105, 110]), (str [97, 110, 100]), (str [97, 115]), (str [97, 116]), (str [99, 97, 108, 108]), (str [99, 104, 111, 105, 99, 101]), (str [101, 108, 115, 101]), (str [102, 114, 111, 109]), (str [105, 102]), (str [105, 110, 116]), (str [108, 101, 110]), (str [108, 111, 111, 112]), (str [109, 101, 115, 115, 97, 103, 101]), (str [111, 102]), (str [111, 102, 102, 101, 114]), (str [111, 110]), (str [111, 114]), (str [112, 97, 114]), (str [112, 108, 97, 121, 115]), (str [112, 114, 111, 116, 111, 99, 111, 108]), (str [115, 101, 114, 118, 105, 99, 101]), (str [116, 101, 120, 116]), (str [116, 105, 109, 101, 115]), (str [116, 111]), (str [118, 97, 114]), (str [119, 104, 101, 114, 101]), (str [119, 104, 105, 108, 101]), (str [119, 105, 116, 104, 105, 110])] : List ByteArray) rfl rfl rfl rfl rfl rfl (by kernel_rfl) (by exact (an rfl (an rfl (an rfl (an rfl (an rfl (an rfl (an rfl (an rfl (an rfl (an rfl (an rfl (an rfl (an rfl (an rfl (an rfl (an rfl (an rfl (an rfl (an rfl (an rfl (an rfl (an rfl (an rfl (an rfl (an rfl (an rfl (an rfl (an rfl rfl))))))))))))))))))))))))))))) rfl (WPr.silx [] ⟨[(0, .c (.sl 0))], [(0, .own rS ([(str [97, 103, 97, 105, 110]), (str [97, 110, 100]), (str [97, 115]), (str [97, 116]), (str [99, 97, 108, 108]), (str [99, 104, 111, 105, 99, 101]), (str [101, 108, 115, 101]), (str [102, 114, 111, 109]), (str [105, 102]), (str [105, 110, 116]), (str [108, 101, 110]), (str [108, 111, 111, 112]), (str [109, 101, 115, 115, 97, 103, 101]), (str [111, 102]), (str [111, 102, 102, 101, 114]), (str [111, 110]), (str [111, 114]), (str [112, 97, 114]), (str [112, 108, 97, 121, 115]), (str [112, 114, 111, 116, 111, 99, 111, 108]), (str [115, 101, 114, 118, 105, 99, 101]), (str [116, 101, 120, 116]), (str [116, 105, 109, 101, 115]), (str [116, 111]), (str [118, 97, 114]), (str [119, 104, 101, 114, 101]), (str [119, 104, 105, 108, 101]), (str [119, 105, 116, 104, 105, 110])] : List ByteArray) true)], [], 1⟩ htt 1 (by kernel_rfl) (WPr.nil (?_)))))))))
  cases h
  exact WP.ret htt Tryz.func100 [(0, .sl 0)] rfl rfl rfl rfl
theorem z99_ct (N : Nat) (l_ : (List ByteArray)) (s_ : ByteArray) (r : Bool) (h : z99 N l_ s_ = some r) :
  Fn Tryz.prog 99 ⟨1, [.c (.sl 0), .c (.s s_)], [(0, .sl rS l_)], [], 1, .c (.b r), [], []⟩ := by
  refine Fn.intro _ _ Tryz.func99 rfl (by kernel_rfl) rfl (fun E F w => ?_)
  unfold z99 at h
  refine WP.seq (WP.region (WPr.sil htt 1 rfl (WPr.nil (WP.seq (WP.seq (WP.region (WPr.sil htt 1 rfl (WPr.nil (?_)))))))))
  refine WP.cut (σ := Unit) (fun st => ⟨[], [], [(0, .sl rS l_)], 1⟩) (fun st => z99_k1 = some r) ?_ (fun j1 => ?_)
  · intro _ h
    replace h : z99_k1 = some r := h
    unfold z99_k1 at h
    refine WP.seq (WP.region (WPr.sil htt 1 rfl (WPr.nil (?_))))
    cases h
    exact WP.ret htt Tryz.func99 [] rfl rfl rfl rfl
  refine WP.block (?_)
  refine WP.loopI (σ := Int) (fun st => ⟨[(0, .c (.sl 0)), (1, .c (.s s_)), (5, .c (.i .i64 st))], [], [(0, .sl rS l_)], 1⟩) (fun n st => z99_l2 l_ s_ n st) (r := r) (fun _ => rfl) ?_ (fun ih => ?_)
  · intro n2 ih3
    intro v5_3 h
    replace h : z99_l2 l_ s_ (n2 + 1) v5_3 = some r := h
    unfold z99_l2 at h
    refine WP.seq (WP.seq (WP.region (WPr.silx [] ⟨[(0, .c (.sl 0)), (1, .c (.s s_)), (5, .c (.i .i64 v5_3)), (9, .c (.b (decide (v5_3 < (l_.length : Int)))))], [], [(0, .sl rS l_)], 1⟩ htt 4 (by kernel_rfl) (WPr.nil (?_)))))
    rcases oc' h with ⟨hc, h⟩ | ⟨hc, h⟩
    · exact WP.condF hc rfl (WP.exit rfl (WP.sub [] (j1 () h) rfl rfl rfl rfl))
    refine WP.condT hc rfl (WP.skip (WP.seq (WP.block (WP.seq (WP.region (WPr.sil htt 2 rfl (?_)))))))
    obtain ⟨x9, hx9, h⟩ := ob h
    refine WPr.ix oS htt hx9 rfl rfl rfl rfl rfl rfl rfl rfl rfl (WPr.silx [] ⟨[(0, .c (.sl 0)), (1, .c (.s s_)), (5, .c (.i .i64 v5_3)), (17, .c (.b (x9.toList == s_.toList)))], [], [(0, .sl rS l_)], 2⟩ htt 3 (by kernel_rfl) (WPr.nil (?_)))
    rcases oc h with ⟨hc, h⟩ | ⟨hc, h⟩
    · refine WP.condT hc rfl (WP.seq (WP.region (WPr.sil htt 1 rfl (WPr.nil (?_)))))
      cases h
      exact WP.ret htt Tryz.func99 [] rfl rfl rfl rfl
    exact WP.condF hc rfl (WP.skip (WP.inBlock (WP.region (WPr.silx [] ⟨[(0, .c (.sl 0)), (1, .c (.s s_)), (5, .c (.i .i64 (w64 (v5_3 + (1 : Int)))))], [], [(0, .sl rS l_)], 2⟩ htt 3 (by kernel_rfl) (WPr.nil (WP.sub [] (ih3 (w64 (v5_3 + (1 : Int))) h) rfl rfl rfl rfl))))))
  exact WP.sub [] (ih N (0 : Int) h) rfl rfl rfl rfl
theorem z57_ct (N : Nat) (s_ : ByteArray) (r : Bool) (h : z57 N s_ = some r) :
  Fn Tryz.prog 57 ⟨0, [.c (.s s_)], [], [], 0, .c (.b r), [], []⟩ := by
  refine Fn.intro _ _ Tryz.func57 rfl (by kernel_rfl) rfl (fun E F w => ?_)
  unfold z57 at h
  refine WP.seq (WP.region (WPr.sil htt 1 rfl (WPr.nil (WP.seq (WP.region (WPr.sil htt 1 rfl (?_)))))))
  obtain ⟨x1, hx1, h⟩ := ob h
  refine WPr.call (z98_ct N s_ _ hx1) [] [] rfl rfl rfl rfl rfl rfl rfl rfl (.inl rfl) rfl (WPr.silx [3, 4, 5, 6, 7, 8] ⟨[(0, .c (.s s_)), (5, .c (.b x1))], [], [], 0⟩ htt 1 (by kernel_rfl) (?_))
  rcases oc' h with ⟨hc, h⟩ | ⟨hc, h⟩
  · refine WPr.kb 5 hc rfl (WPr.silx [] ⟨[(2, .c (.b false))], [], [], 0⟩ htt 6 (by kernel_rfl) (WPr.nil (?_)))
    cases h
    exact WP.ret htt Tryz.func57 [] rfl rfl rfl rfl
  refine WPr.kb 5 hc rfl (?_)
  obtain ⟨x2, hx2, h⟩ := ob h
  refine WPr.call (z100_ct N _ hx2) [] [] rfl rfl rfl rfl rfl rfl rfl rfl (.inl rfl) rfl (WPr.silx [5, 6, 7, 8] ⟨[(5, .c (.b true)), (6, .c (.sl 0)), (7, .c (.s s_))], [(0, .own rS x2 true)], [], 1⟩ htt 1 (by kernel_rfl) (?_))
  obtain ⟨x3, hx3, h⟩ := ob h
  refine WPr.call (z99_ct N x2 s_ _ hx3) [(0, .sl 0)] [0] rfl rfl rfl rfl rfl rfl rfl rfl (.inr ⟨rfl, trivial⟩) rfl (WPr.silx [] ⟨[(2, .c (.b (!x3)))], [], [], 1⟩ htt 3 (by kernel_rfl) (WPr.nil (?_)))
  cases h
  exact WP.ret htt Tryz.func57 [] rfl rfl rfl rfl
theorem z101_ct (N : Nat) (s_ : ByteArray) (r : Bool) (h : z101 N s_ = some r) :
  Fn Tryz.prog 101 ⟨0, [.c (.s s_)], [], [], 0, .c (.b r), [], []⟩ := by
  refine Fn.intro _ _ Tryz.func101 rfl (by kernel_rfl) rfl (fun E F w => ?_)
  unfold z101 at h
  refine WP.seq (WP.region (WPr.sil htt 1 rfl (WPr.nil (WP.seq (WP.region (WPr.sil htt 1 rfl (?_)))))))
  obtain ⟨x1, hx1, h⟩ := ob h
  refine WPr.call (z57_ct N s_ _ hx1) [] [] rfl rfl rfl rfl rfl rfl rfl rfl (.inl rfl) rfl (WPr.silx [] ⟨[(2, .c (.b x1))], [], [], 0⟩ htt 1 (by kernel_rfl) (WPr.nil (?_)))
  cases h
  exact WP.ret htt Tryz.func101 [] rfl rfl rfl rfl
theorem z58_ct (N : Nat) (s_ : ByteArray) (r : Bool) (h : z58 N s_ = some r) :
  Fn Tryz.prog 58 ⟨0, [.c (.s s_)], [], [], 0, .c (.b r), [], []⟩ := by
  refine Fn.intro _ _ Tryz.func58 rfl (by kernel_rfl) rfl (fun E F w => ?_)
  unfold z58 at h
  refine WP.seq (WP.region (WPr.sil htt 1 rfl (WPr.nil (WP.seq (WP.region (WPr.sil htt 1 rfl (WPr.nil (WP.seq (WP.seq (WP.region (WPr.silx [] ⟨[(0, .c (.s s_)), (2, .c (.b false)), (3, .c (.i .i64 (0 : Int))), (4, .c (.i .i64 (0 : Int)))], [], [], 0⟩ htt 1 (by kernel_rfl) (WPr.nil (?_)))))))))))))
  refine WP.cut (σ := Unit) (fun st => ⟨[(0, .c (.s s_))], [], [], 0⟩) (fun st => z58_k1 s_ = some r) ?_ (fun j1 => ?_)
  · intro _ h
    replace h : z58_k1 s_ = some r := h
    unfold z58_k1 at h
    refine WP.seq (WP.region (WPr.silx [] ⟨[(2, .c (.b (decide ((s_.size : Int) ≤ (50 : Int)))))], [], [], 0⟩ htt 4 (by kernel_rfl) (WPr.nil (?_))))
    cases h
    exact WP.ret htt Tryz.func58 [] rfl rfl rfl rfl
  refine WP.block (?_)
  refine WP.loopI (σ := Int × Int) (fun st => ⟨[(0, .c (.s s_)), (3, .c (.i .i64 st.1)), (4, .c (.i .i64 st.2))], [], [], 0⟩) (fun n st => z58_l2 N s_ n st.1 st.2) (r := r) (fun _ => rfl) ?_ (fun ih => ?_)
  · intro n2 ih6
    rintro ⟨v3_6, v4_6⟩ h
    replace h : z58_l2 N s_ (n2 + 1) v3_6 v4_6 = some r := h
    unfold z58_l2 at h
    refine WP.seq (WP.seq (WP.region (WPr.silx [] ⟨[(0, .c (.s s_)), (3, .c (.i .i64 v3_6)), (4, .c (.i .i64 v4_6)), (8, .c (.b (decide (v4_6 ≤ (s_.size : Int)))))], [], [], 0⟩ htt 4 (by kernel_rfl) (WPr.nil (?_)))))
    rcases oc' h with ⟨hc, h⟩ | ⟨hc, h⟩
    · exact WP.condF hc rfl (WP.exit rfl (WP.sub [] (j1 () h) rfl rfl rfl rfl))
    refine WP.condT hc rfl (WP.skip (WP.seq (WP.block (WP.seq (WP.region (WPr.silx [5, 6, 7, 8, 9] ⟨[(0, .c (.s s_)), (3, .c (.i .i64 v3_6)), (4, .c (.i .i64 v4_6)), (15, .c (.b (v4_6 == (s_.size : Int))))], [], [], 0⟩ htt 5 (by kernel_rfl) (?_)))))))
    refine WP.cutr (σ := Bool) (fun st => ⟨[(0, .c (.s s_)), (3, .c (.i .i64 v3_6)), (4, .c (.i .i64 v4_6)), (20, .c (.b st))], [], [], 0⟩) (fun st => z58_k3 N s_ v3_6 v4_6 (z58_l2 N s_ n2) st = some r) ?_ (fun j9 => ?_)
    · intro v20_9 h
      replace h : z58_k3 N s_ v3_6 v4_6 (z58_l2 N s_ n2) v20_9 = some r := h
      unfold z58_k3 at h
      rcases oc' h with ⟨hc, h⟩ | ⟨hc, h⟩
      · exact WP.condF hc rfl (WP.skip (WP.inBlock (WP.region (WPr.silx [] ⟨[(0, .c (.s s_)), (3, .c (.i .i64 v3_6)), (4, .c (.i .i64 (w64 (v4_6 + (1 : Int)))))], [], [], 0⟩ htt 3 (by kernel_rfl) (WPr.nil (WP.sub [] (ih6 (v3_6, (w64 (v4_6 + (1 : Int)))) h) rfl rfl rfl rfl))))))
      refine WP.condT hc rfl (WP.seq (WP.seq (WP.region (WPr.silx [3, 4, 5] ⟨[(0, .c (.s s_)), (4, .c (.i .i64 v4_6)), (21, .c (.s s_)), (22, .c (.i .i64 v3_6)), (23, .c (.i .i64 v4_6))], [], [], 0⟩ htt 3 (by kernel_rfl) (?_)))))
      obtain ⟨x34, hx34, h⟩ := ob h
      refine WPr.ssl htt (l := some (.i64, v3_6)) (h := some (.i64, v4_6)) hx34 rfl rfl rfl rfl rfl rfl rfl rfl rfl rfl (?_)
      obtain ⟨x35, hx35, h⟩ := ob h
      refine WPr.call (z101_ct N x34 _ hx35) [] [] rfl rfl rfl rfl rfl rfl rfl rfl (.inl rfl) rfl (WPr.silx [] ⟨[(0, .c (.s s_)), (4, .c (.i .i64 v4_6)), (26, .c (.b (!x35)))], [], [], 0⟩ htt 1 (by kernel_rfl) (WPr.nil (?_)))
      rcases oc h with ⟨hc, h⟩ | ⟨hc, h⟩
      · refine WP.condT hc rfl (WP.seq (WP.region (WPr.sil htt 1 rfl (WPr.nil (?_)))))
        cases h
        exact WP.ret htt Tryz.func58 [] rfl rfl rfl rfl
      exact WP.condF hc rfl (WP.skip (WP.region (WPr.silx [] ⟨[(0, .c (.s s_)), (3, .c (.i .i64 (w64 (v4_6 + (1 : Int))))), (4, .c (.i .i64 v4_6))], [], [], 0⟩ htt 3 (by kernel_rfl) (WPr.nil (WP.inBlock (WP.region (WPr.silx [] ⟨[(0, .c (.s s_)), (3, .c (.i .i64 (w64 (v4_6 + (1 : Int))))), (4, .c (.i .i64 (w64 (v4_6 + (1 : Int)))))], [], [], 0⟩ htt 3 (by kernel_rfl) (WPr.nil (WP.sub [] (ih6 ((w64 (v4_6 + (1 : Int))), (w64 (v4_6 + (1 : Int)))) h) rfl rfl rfl rfl)))))))))
    rcases oc h with ⟨hc, h⟩ | ⟨hc, h⟩
    · exact WPr.kb 15 hc rfl (WPr.silx [] ⟨[(0, .c (.s s_)), (3, .c (.i .i64 v3_6)), (4, .c (.i .i64 v4_6)), (20, .c (.b true))], [], [], 0⟩ htt 5 (by kernel_rfl) (WPr.nil (WP.sub [] (j9 true h) rfl rfl rfl rfl)))
    refine WPr.kb 15 hc rfl (WPr.sil htt 2 rfl (?_))
    obtain ⟨x36, hx36, h⟩ := ob h
    exact WPr.sx htt hx36 rfl rfl rfl rfl rfl rfl rfl rfl rfl (WPr.silx [] ⟨[(0, .c (.s s_)), (3, .c (.i .i64 v3_6)), (4, .c (.i .i64 v4_6)), (20, .c (.b (x36 == (46 : Int))))], [], [], 0⟩ htt 2 (by kernel_rfl) (WPr.nil (WP.sub [] (j9 (x36 == (46 : Int)) h) rfl rfl rfl rfl)))
  exact WP.sub [] (ih N ((0 : Int), (0 : Int)) h) rfl rfl rfl rfl
theorem z61_ct (N : Nat) (decls_ : (List T0)) (x_ : Int) (r : T2) (h : z61 N decls_ x_ = some r) :
  Fn Tryz.prog 61 ⟨1, [.c (.sl 0), .c (.i .i64 x_)], [(0, .sl rR0 decls_)], [], 1, .a [.s r.Name, .i .i64 r.Sort'.Kind, .i .i64 r.Sort'.Lo, .i .i64 r.Sort'.Hi], [], []⟩ := by
  refine Fn.intro _ _ Tryz.func61 rfl (by kernel_rfl) rfl (fun E F w => ?_)
  unfold z61 at h
  refine WP.seq (WP.region (WPr.sil htt 1 rfl (WPr.nil (WP.seq (WP.seq (WP.region (WPr.sil htt 1 rfl (WPr.nil (?_)))))))))
  refine WP.cut (σ := Unit) (fun st => ⟨[(4, .c (.bp 1 0))], [(1, .box [.s (str []), .i .i64 (0 : Int), .i .i64 (0 : Int), .i .i64 (0 : Int)] 89)], [(0, .sl rR0 decls_)], 2⟩) (fun st => z61_k1 = some r) ?_ (fun j1 => ?_)
  · intro _ h
    replace h : z61_k1 = some r := h
    unfold z61_k1 at h
    refine WP.seq (WP.region (WPr.sil htt 2 rfl (WPr.nil (?_))))
    cases h
    exact WP.ret htt Tryz.func61 [] rfl rfl rfl rfl
  refine WP.block (?_)
  refine WP.loopI (σ := Int × Int) (fun st => ⟨[(0, .c (.sl 0)), (1, .c (.i .i64 st.1)), (4, .c (.bp 1 0)), (5, .c (.i .i64 st.2))], [(1, .box [.s (str []), .i .i64 (0 : Int), .i .i64 (0 : Int), .i .i64 (0 : Int)] 89)], [(0, .sl rR0 decls_)], 2⟩) (fun n st => z61_l2 decls_ n st.1 st.2) (r := r) (fun _ => rfl) ?_ (fun ih => ?_)
  · intro n2 ih3
    rintro ⟨v1_3, v5_3⟩ h
    replace h : z61_l2 decls_ (n2 + 1) v1_3 v5_3 = some r := h
    unfold z61_l2 at h
    refine WP.seq (WP.seq (WP.region (WPr.silx [] ⟨[(0, .c (.sl 0)), (1, .c (.i .i64 v1_3)), (4, .c (.bp 1 0)), (5, .c (.i .i64 v5_3)), (9, .c (.b (decide (v5_3 < (decls_.length : Int)))))], [(1, .box [.s (str []), .i .i64 (0 : Int), .i .i64 (0 : Int), .i .i64 (0 : Int)] 89)], [(0, .sl rR0 decls_)], 2⟩ htt 4 (by kernel_rfl) (WPr.nil (?_)))))
    rcases oc' h with ⟨hc, h⟩ | ⟨hc, h⟩
    · exact WP.condF hc rfl (WP.exit rfl (WP.sub [] (j1 () h) rfl rfl rfl rfl))
    refine WP.condT hc rfl (WP.skip (WP.seq (WP.block (WP.seq (WP.seq (WP.region (WPr.silx [3, 4, 5, 6, 7] ⟨[(0, .c (.sl 0)), (1, .c (.i .i64 v1_3)), (4, .c (.bp 1 0)), (5, .c (.i .i64 v5_3)), (12, .c (.i .i64 v1_3)), (13, .c (.sl 0)), (14, .c (.i .i64 v5_3))], [(1, .box [.s (str []), .i .i64 (0 : Int), .i .i64 (0 : Int), .i .i64 (0 : Int)] 89)], [(0, .sl rR0 decls_)], 2⟩ htt 3 (by kernel_rfl) (?_))))))))
    obtain ⟨x33, hx33, h⟩ := ob h
    refine WPr.ix oO0 htt hx33 rfl rfl rfl rfl rfl rfl rfl rfl rfl (WPr.silx [] ⟨[(0, .c (.sl 0)), (1, .c (.i .i64 v1_3)), (4, .c (.bp 1 0)), (5, .c (.i .i64 v5_3)), (19, .c (.b (decide (v1_3 < (x33.Fields.length : Int)))))], [(1, .box [.s (str []), .i .i64 (0 : Int), .i .i64 (0 : Int), .i .i64 (0 : Int)] 89)], [(0, .sl rR0 decls_)], 6⟩ htt 4 (by kernel_rfl) (WPr.nil (?_)))
    rcases oc' h with ⟨hc, h⟩ | ⟨hc, h⟩
    · refine WP.condF hc rfl (WP.skip (WP.region (WPr.silx [3, 4, 5, 6, 7, 8] ⟨[(0, .c (.sl 0)), (4, .c (.bp 1 0)), (5, .c (.i .i64 v5_3)), (28, .c (.i .i64 v1_3)), (29, .c (.sl 0)), (30, .c (.i .i64 v5_3))], [(1, .box [.s (str []), .i .i64 (0 : Int), .i .i64 (0 : Int), .i .i64 (0 : Int)] 89)], [(0, .sl rR0 decls_)], 6⟩ htt 3 (by kernel_rfl) (?_))))
      obtain ⟨x36, hx36, h⟩ := ob h
      exact WPr.ix oO0 htt hx36 rfl rfl rfl rfl rfl rfl rfl rfl rfl (WPr.silx [] ⟨[(0, .c (.sl 0)), (1, .c (.i .i64 (w64 (v1_3 - (x36.Fields.length : Int))))), (4, .c (.bp 1 0)), (5, .c (.i .i64 v5_3))], [(1, .box [.s (str []), .i .i64 (0 : Int), .i .i64 (0 : Int), .i .i64 (0 : Int)] 89)], [(0, .sl rR0 decls_)], 10⟩ htt 5 (by kernel_rfl) (WPr.nil (WP.inBlock (WP.region (WPr.silx [] ⟨[(0, .c (.sl 0)), (1, .c (.i .i64 (w64 (v1_3 - (x36.Fields.length : Int))))), (4, .c (.bp 1 0)), (5, .c (.i .i64 (w64 (v5_3 + (1 : Int)))))], [(1, .box [.s (str []), .i .i64 (0 : Int), .i .i64 (0 : Int), .i .i64 (0 : Int)] 89)], [(0, .sl rR0 decls_)], 10⟩ htt 3 (by kernel_rfl) (WPr.nil (WP.sub [] (ih3 ((w64 (v1_3 - (x36.Fields.length : Int))), (w64 (v5_3 + (1 : Int)))) h) rfl rfl rfl rfl)))))))
    refine WP.condT hc rfl (WP.seq (WP.region (WPr.sil htt 2 rfl (?_))))
    obtain ⟨x34, hx34, h⟩ := ob h
    refine WPr.ix oO0 htt hx34 rfl rfl rfl rfl rfl rfl rfl rfl rfl (WPr.silx [6, 7, 8] ⟨[(4, .c (.bp 1 0)), (24, .c (.sl 7)), (25, .c (.i .i64 v1_3))], [(1, .box [.s (str []), .i .i64 (0 : Int), .i .i64 (0 : Int), .i .i64 (0 : Int)] 89)], [(0, .sl rR0 decls_), (7, .sl rR2 x34.Fields)], 10⟩ htt 3 (by kernel_rfl) (?_))
    obtain ⟨x35, hx35, h⟩ := ob h
    refine WPr.ix oO2 htt hx35 rfl rfl rfl rfl rfl rfl rfl rfl rfl (WPr.silx [] ⟨[(4, .c (.bp 1 0))], [(1, .box [.s x35.Name, .i .i64 x35.Sort'.Kind, .i .i64 x35.Sort'.Lo, .i .i64 x35.Sort'.Hi] 89)], [(0, .sl rR0 decls_)], 11⟩ htt 2 (by kernel_rfl) (WPr.nil (?_)))
    cases h
    exact WP.ret htt Tryz.func61 [] rfl rfl rfl rfl
  exact WP.sub [] (ih N (x_, (0 : Int)) h) rfl rfl rfl rfl
theorem z102_ct (N : Nat) (decls_ : (List T0)) (x_ : Int) (r : Bool) (h : z102 N decls_ x_ = some r) :
  Fn Tryz.prog 102 ⟨1, [.c (.sl 0), .c (.i .i64 x_)], [(0, .sl rR0 decls_)], [], 1, .c (.b r), [], []⟩ := by
  refine Fn.intro _ _ Tryz.func102 rfl (by kernel_rfl) rfl (fun E F w => ?_)
  unfold z102 at h
  refine WP.seq (WP.region (WPr.sil htt 1 rfl (WPr.nil (WP.seq (WP.region (WPr.silx [3, 4, 5, 6, 7, 8, 9, 10, 11, 12, 13, 14, 15, 16] ⟨[(0, .c (.sl 0)), (1, .c (.i .i64 x_)), (7, .c (.b (decide (x_ ≥ (0 : Int)))))], [], [(0, .sl rR0 decls_)], 1⟩ htt 3 (by kernel_rfl) (?_)))))))
  rcases oc' h with ⟨hc, h⟩ | ⟨hc, h⟩
  · refine WPr.kb 7 hc rfl (WPr.silx [] ⟨[(4, .c (.b false))], [], [(0, .sl rR0 decls_)], 1⟩ htt 14 (by kernel_rfl) (WPr.nil (?_)))
    cases h
    exact WP.ret htt Tryz.func102 [] rfl rfl rfl rfl
  refine WPr.kb 7 hc rfl (WPr.sil htt 2 rfl (?_))
  obtain ⟨x1, hx1, h⟩ := ob h
  refine WPr.call (z55_ct N decls_ _ hx1) [(0, .sl 0)] [] rfl rfl rfl rfl rfl rfl rfl rfl (.inl rfl) rfl (WPr.silx [9, 10, 11, 12, 13, 14, 15, 16] ⟨[(0, .c (.sl 0)), (1, .c (.i .i64 x_)), (13, .c (.b (decide (x_ < x1))))], [], [(0, .sl rR0 decls_)], 1⟩ htt 3 (by kernel_rfl) (?_))
  rcases oc' h with ⟨hc, h⟩ | ⟨hc, h⟩
  · refine WPr.kb 13 hc rfl (WPr.silx [] ⟨[(4, .c (.b false))], [], [(0, .sl rR0 decls_)], 1⟩ htt 8 (by kernel_rfl) (WPr.nil (?_)))
    cases h
    exact WP.ret htt Tryz.func102 [] rfl rfl rfl rfl
  refine WPr.kb 13 hc rfl (WPr.sil htt 2 rfl (?_))
  obtain ⟨x2, hx2, h⟩ := ob h
  refine WPr.call (z61_ct N decls_ x_ _ hx2) [(0, .sl 0)] [] rfl rfl rfl rfl rfl rfl rfl rfl (.inl rfl) rfl (WPr.silx [] ⟨[(4, .c (.b (x2.Sort'.Kind == (2 : Int))))], [], [(0, .sl rR0 decls_)], 1⟩ htt 5 (by kernel_rfl) (WPr.nil (?_)))
  cases h
  exact WP.ret htt Tryz.func102 [] rfl rfl rfl rfl
theorem z59_ct (N : Nat) (decls_ : (List T0)) (g_ : T3) (r : Bool) (h : z59 N decls_ g_ = some r) :
  Fn Tryz.prog 59 ⟨3, [.c (.sl 0), .a [.sl 1, .sl 2]], [(0, .sl rR0 decls_), (1, .sl rR1 g_.Diffs), (2, .sl (rP (rI .i64) (rI .i64)) g_.Equals)], [], 3, .c (.b r), [], []⟩ := by
  refine Fn.intro _ _ Tryz.func59 rfl (by kernel_rfl) rfl (fun E F w => ?_)
  unfold z59 at h
  refine WP.seq (WP.region (WPr.sil htt 2 rfl (WPr.nil (WP.seq (WP.region (WPr.silx [1, 2] ⟨[(0, .c (.sl 0)), (3, .c (.bp 3 0)), (4, .c (.b false)), (9, .c (.sl 0))], [(3, .box [.sl 1, .sl 2] 42)], [(0, .sl rR0 decls_), (1, .sl rR1 g_.Diffs), (2, .sl (rP (rI .i64) (rI .i64)) g_.Equals)], 4⟩ htt 1 (by kernel_rfl) (?_)))))))
  obtain ⟨x1, hx1, h⟩ := ob h
  refine WPr.call (z55_ct N decls_ _ hx1) [(0, .sl 0)] [] rfl rfl rfl rfl rfl rfl rfl rfl (.inl rfl) rfl (WPr.silx [] ⟨[(0, .c (.sl 0)), (3, .c (.bp 3 0)), (4, .c (.b false)), (5, .c (.i .i64 x1))], [(3, .box [.sl 1, .sl 2] 42)], [(0, .sl rR0 decls_), (1, .sl rR1 g_.Diffs), (2, .sl (rP (rI .i64) (rI .i64)) g_.Equals)], 4⟩ htt 1 (by kernel_rfl) (WPr.nil (WP.seq (WP.seq (WP.region (WPr.sil htt 1 rfl (WPr.nil (?_))))))))
  refine WP.cut (σ := Unit) (fun st => ⟨[(0, .c (.sl 0)), (3, .c (.bp 3 0))], [(3, .box [.sl 1, .sl 2] 42)], [(0, .sl rR0 decls_), (1, .sl rR1 g_.Diffs), (2, .sl (rP (rI .i64) (rI .i64)) g_.Equals)], 4⟩) (fun st => z59_k3 N decls_ g_ = some r) ?_ (fun j1 => ?_)
  · intro _ h
    replace h : z59_k3 N decls_ g_ = some r := h
    unfold z59_k3 at h
    refine WP.seq (WP.seq (WP.region (WPr.sil htt 1 rfl (WPr.nil (?_)))))
    refine WP.cut (σ := Unit) (fun st => ⟨[(3, .c (.bp 3 0))], [(3, .box [.sl 1, .sl 2] 42)], [(0, .sl rR0 decls_), (1, .sl rR1 g_.Diffs), (2, .sl (rP (rI .i64) (rI .i64)) g_.Equals)], 4⟩) (fun st => z59_k1 g_ = some r) ?_ (fun j3 => ?_)
    · intro _ h
      replace h : z59_k1 g_ = some r := h
      unfold z59_k1 at h
      refine WP.seq (WP.region (WPr.silx [5, 6, 7, 8, 9, 10] ⟨[(3, .c (.bp 3 0)), (84, .c (.b (decide ((g_.Diffs.length : Int) ≤ (20 : Int)))))], [(3, .box [.sl 1, .sl 2] 42)], [(0, .sl rR0 decls_), (1, .sl rR1 g_.Diffs), (2, .sl (rP (rI .i64) (rI .i64)) g_.Equals)], 4⟩ htt 5 (by kernel_rfl) (?_)))
      rcases oc h with ⟨hc, h⟩ | ⟨hc, h⟩
      · refine WPr.kb 84 hc rfl (WPr.silx [] ⟨[(4, .c (.b (decide ((g_.Equals.length : Int) ≤ (20 : Int)))))], [], [(0, .sl rR0 decls_), (1, .sl rR1 g_.Diffs), (2, .sl (rP (rI .i64) (rI .i64)) g_.Equals)], 4⟩ htt 6 (by kernel_rfl) (WPr.nil (?_)))
        cases h
        exact WP.ret htt Tryz.func59 [] rfl rfl rfl rfl
      refine WPr.kb 84 hc rfl (WPr.silx [] ⟨[(4, .c (.b false))], [], [(0, .sl rR0 decls_), (1, .sl rR1 g_.Diffs), (2, .sl (rP (rI .i64) (rI .i64)) g_.Equals)], 4⟩ htt 6 (by kernel_rfl) (WPr.nil (?_)))
      cases h
      exact WP.ret htt Tryz.func59 [] rfl rfl rfl rfl
    refine WP.block (?_)
    refine WP.loopI (σ := Int) (fun st => ⟨[(0, .c (.sl 0)), (3, .c (.bp 3 0)), (8, .c (.i .i64 st))], [(3, .box [.sl 1, .sl 2] 42)], [(0, .sl rR0 decls_), (1, .sl rR1 g_.Diffs), (2, .sl (rP (rI .i64) (rI .i64)) g_.Equals)], 4⟩) (fun n st => z59_l2 N decls_ g_ n st) (r := r) (fun _ => rfl) ?_ (fun ih => ?_)
    · intro n3 ih5
      intro v8_5 h
      replace h : z59_l2 N decls_ g_ (n3 + 1) v8_5 = some r := h
      unfold z59_l2 at h
      refine WP.seq (WP.seq (WP.region (WPr.silx [] ⟨[(0, .c (.sl 0)), (3, .c (.bp 3 0)), (8, .c (.i .i64 v8_5)), (57, .c (.b (decide (v8_5 < (g_.Equals.length : Int)))))], [(3, .box [.sl 1, .sl 2] 42)], [(0, .sl rR0 decls_), (1, .sl rR1 g_.Diffs), (2, .sl (rP (rI .i64) (rI .i64)) g_.Equals)], 4⟩ htt 5 (by kernel_rfl) (WPr.nil (?_)))))
      rcases oc' h with ⟨hc, h⟩ | ⟨hc, h⟩
      · exact WP.condF hc rfl (WP.exit rfl (WP.sub [] (j3 () h) rfl rfl rfl rfl))
      refine WP.condT hc rfl (WP.skip (WP.seq (WP.block (WP.seq (WP.region (WPr.silx [4, 5, 6, 7, 8, 9, 10, 11, 12, 13, 14, 15, 16, 17, 18, 19] ⟨[(0, .c (.sl 0)), (3, .c (.bp 3 0)), (8, .c (.i .i64 v8_5)), (60, .c (.sl 0)), (62, .c (.sl 2)), (63, .c (.i .i64 v8_5))], [(3, .box [.sl 1, .sl 2] 42)], [(0, .sl rR0 decls_), (1, .sl rR1 g_.Diffs), (2, .sl (rP (rI .i64) (rI .i64)) g_.Equals)], 4⟩ htt 4 (by kernel_rfl) (?_)))))))
      obtain ⟨x38, hx38, h⟩ := ob h
      refine WPr.ix (oP (oI .i64) (oI .i64)) htt hx38 rfl rfl rfl rfl rfl rfl rfl rfl rfl (WPr.axp (len := 2) (el := 3) (es := 1) 0 rfl rfl rfl rfl rfl (by kernel_rfl) (by kernel_rfl) rfl rfl (Or.inl ⟨_, rfl⟩) rfl rfl (WPr.silx [7, 8, 9, 10, 11, 12, 13, 14, 15, 16, 17, 18, 19] ⟨[(0, .c (.sl 0)), (3, .c (.bp 3 0)), (8, .c (.i .i64 v8_5)), (60, .c (.sl 0)), (66, .c (.i .i64 x38.1))], [(3, .box [.sl 1, .sl 2] 42)], [(0, .sl rR0 decls_), (1, .sl rR1 g_.Diffs), (2, .sl (rP (rI .i64) (rI .i64)) g_.Equals)], 5⟩ htt 1 (by kernel_rfl) (?_)))
      obtain ⟨x39, hx39, h⟩ := ob h
      refine WPr.call (z102_ct N decls_ x38.1 _ hx39) [(0, .sl 0)] [] rfl rfl rfl rfl rfl rfl rfl rfl (.inl rfl) rfl (WPr.silx [10, 11, 12, 13, 14, 15, 16, 17, 18, 19] ⟨[(0, .c (.sl 0)), (3, .c (.bp 3 0)), (8, .c (.i .i64 v8_5)), (69, .c (.b (!x39)))], [(3, .box [.sl 1, .sl 2] 42)], [(0, .sl rR0 decls_), (1, .sl rR1 g_.Diffs), (2, .sl (rP (rI .i64) (rI .i64)) g_.Equals)], 5⟩ htt 2 (by kernel_rfl) (?_))
      rcases oc h with ⟨hc, h⟩ | ⟨hc, h⟩
      · refine WPr.kb 69 hc rfl (WPr.silx [] ⟨[(0, .c (.sl 0)), (3, .c (.bp 3 0)), (8, .c (.i .i64 v8_5)), (79, .c (.b true))], [(3, .box [.sl 1, .sl 2] 42)], [(0, .sl rR0 decls_), (1, .sl rR1 g_.Diffs), (2, .sl (rP (rI .i64) (rI .i64)) g_.Equals)], 5⟩ htt 10 (by kernel_rfl) (WPr.nil (WP.condT rfl rfl (WP.seq (WP.region (WPr.sil htt 1 rfl (WPr.nil (?_))))))))
        cases h
        exact WP.ret htt Tryz.func59 [] rfl rfl rfl rfl
      refine WPr.kb 69 hc rfl (WPr.silx [14, 15, 16, 17, 18, 19] ⟨[(0, .c (.sl 0)), (3, .c (.bp 3 0)), (8, .c (.i .i64 v8_5)), (69, .c (.b false)), (70, .c (.sl 0)), (72, .c (.sl 2)), (73, .c (.i .i64 v8_5))], [(3, .box [.sl 1, .sl 2] 42)], [(0, .sl rR0 decls_), (1, .sl rR1 g_.Diffs), (2, .sl (rP (rI .i64) (rI .i64)) g_.Equals)], 5⟩ htt 4 (by kernel_rfl) (?_))
      obtain ⟨x40, hx40, h⟩ := ob h
      refine WPr.ix (oP (oI .i64) (oI .i64)) htt hx40 rfl rfl rfl rfl rfl rfl rfl rfl rfl (WPr.axp (len := 2) (el := 3) (es := 1) 1 rfl rfl rfl rfl rfl (by kernel_rfl) (by kernel_rfl) rfl rfl (Or.inl ⟨_, rfl⟩) rfl rfl (WPr.silx [17, 18, 19] ⟨[(0, .c (.sl 0)), (3, .c (.bp 3 0)), (8, .c (.i .i64 v8_5)), (69, .c (.b false)), (70, .c (.sl 0)), (76, .c (.i .i64 x40.2))], [(3, .box [.sl 1, .sl 2] 42)], [(0, .sl rR0 decls_), (1, .sl rR1 g_.Diffs), (2, .sl (rP (rI .i64) (rI .i64)) g_.Equals)], 6⟩ htt 1 (by kernel_rfl) (?_)))
      obtain ⟨x41, hx41, h⟩ := ob h
      refine WPr.call (z102_ct N decls_ x40.2 _ hx41) [(0, .sl 0)] [] rfl rfl rfl rfl rfl rfl rfl rfl (.inl rfl) rfl (WPr.silx [] ⟨[(0, .c (.sl 0)), (3, .c (.bp 3 0)), (8, .c (.i .i64 v8_5)), (79, .c (.b (!x41)))], [(3, .box [.sl 1, .sl 2] 42)], [(0, .sl rR0 decls_), (1, .sl rR1 g_.Diffs), (2, .sl (rP (rI .i64) (rI .i64)) g_.Equals)], 6⟩ htt 2 (by kernel_rfl) (WPr.nil (?_)))
      rcases oc h with ⟨hc, h⟩ | ⟨hc, h⟩
      · refine WP.condT hc rfl (WP.seq (WP.region (WPr.sil htt 1 rfl (WPr.nil (?_)))))
        cases h
        exact WP.ret htt Tryz.func59 [] rfl rfl rfl rfl
      exact WP.condF hc rfl (WP.skip (WP.inBlock (WP.region (WPr.silx [] ⟨[(0, .c (.sl 0)), (3, .c (.bp 3 0)), (8, .c (.i .i64 (w64 (v8_5 + (1 : Int)))))], [(3, .box [.sl 1, .sl 2] 42)], [(0, .sl rR0 decls_), (1, .sl rR1 g_.Diffs), (2, .sl (rP (rI .i64) (rI .i64)) g_.Equals)], 6⟩ htt 3 (by kernel_rfl) (WPr.nil (WP.sub [] (ih5 (w64 (v8_5 + (1 : Int))) h) rfl rfl rfl rfl))))))
    exact WP.sub [] (ih N (0 : Int) h) rfl rfl rfl rfl
  refine WP.block (?_)
  refine WP.loopI (σ := Int) (fun st => ⟨[(0, .c (.sl 0)), (3, .c (.bp 3 0)), (5, .c (.i .i64 x1)), (6, .c (.i .i64 st))], [(3, .box [.sl 1, .sl 2] 42)], [(0, .sl rR0 decls_), (1, .sl rR1 g_.Diffs), (2, .sl (rP (rI .i64) (rI .i64)) g_.Equals)], 4⟩) (fun n st => z59_l4 N decls_ g_ x1 n st) (r := r) (fun _ => rfl) ?_ (fun ih => ?_)
  · intro n4 ih6
    intro v6_6 h
    replace h : z59_l4 N decls_ g_ x1 (n4 + 1) v6_6 = some r := h
    unfold z59_l4 at h
    refine WP.seq (WP.seq (WP.region (WPr.silx [] ⟨[(0, .c (.sl 0)), (3, .c (.bp 3 0)), (5, .c (.i .i64 x1)), (6, .c (.i .i64 v6_6)), (15, .c (.b (decide (v6_6 < (g_.Diffs.length : Int)))))], [(3, .box [.sl 1, .sl 2] 42)], [(0, .sl rR0 decls_), (1, .sl rR1 g_.Diffs), (2, .sl (rP (rI .i64) (rI .i64)) g_.Equals)], 4⟩ htt 5 (by kernel_rfl) (WPr.nil (?_)))))
    rcases oc' h with ⟨hc, h⟩ | ⟨hc, h⟩
    · exact WP.condF hc rfl (WP.exit rfl (WP.sub [] (j1 () h) rfl rfl rfl rfl))
    refine WP.condT hc rfl (WP.skip (WP.seq (WP.block (WP.seq (WP.region (WPr.silx [3, 4, 5, 6] ⟨[(0, .c (.sl 0)), (3, .c (.bp 3 0)), (5, .c (.i .i64 x1)), (6, .c (.i .i64 v6_6)), (19, .c (.sl 1)), (20, .c (.i .i64 v6_6))], [(3, .box [.sl 1, .sl 2] 42)], [(0, .sl rR0 decls_), (1, .sl rR1 g_.Diffs), (2, .sl (rP (rI .i64) (rI .i64)) g_.Equals)], 4⟩ htt 3 (by kernel_rfl) (?_)))))))
    obtain ⟨x46, hx46, h⟩ := ob h
    refine WPr.ix oO1 htt hx46 rfl rfl rfl rfl rfl rfl rfl rfl rfl (WPr.silx [] ⟨[(0, .c (.sl 0)), (3, .c (.bp 3 0)), (5, .c (.i .i64 x1)), (6, .c (.i .i64 v6_6)), (7, .c (.bp 5 0))], [(3, .box [.sl 1, .sl 2] 42), (5, .box [.i .i64 x46.X, .i .i64 x46.Y, .i .i64 x46.C] 48)], [(0, .sl rR0 decls_), (1, .sl rR1 g_.Diffs), (2, .sl (rP (rI .i64) (rI .i64)) g_.Equals)], 6⟩ htt 3 (by kernel_rfl) (WPr.nil (WP.seq (WP.region (WPr.silx [4, 5, 6, 7, 8, 9, 10, 11, 12, 13, 14, 15, 16, 17, 18, 19, 20, 21, 22, 23, 24, 25, 26, 27, 28, 29] ⟨[(0, .c (.sl 0)), (3, .c (.bp 3 0)), (5, .c (.i .i64 x1)), (6, .c (.i .i64 v6_6)), (7, .c (.bp 5 0)), (26, .c (.b (decide (x46.X < (-1 : Int)))))], [(3, .box [.sl 1, .sl 2] 42), (5, .box [.i .i64 x46.X, .i .i64 x46.Y, .i .i64 x46.C] 48)], [(0, .sl rR0 decls_), (1, .sl rR1 g_.Diffs), (2, .sl (rP (rI .i64) (rI .i64)) g_.Equals)], 6⟩ htt 4 (by kernel_rfl) (?_))))))
    rcases oc h with ⟨hc, h⟩ | ⟨hc, h⟩
    · refine WPr.kb 26 hc rfl (WPr.silx [] ⟨[(0, .c (.sl 0)), (3, .c (.bp 3 0)), (5, .c (.i .i64 x1)), (6, .c (.i .i64 v6_6)), (52, .c (.b true))], [(3, .box [.sl 1, .sl 2] 42)], [(0, .sl rR0 decls_), (1, .sl rR1 g_.Diffs), (2, .sl (rP (rI .i64) (rI .i64)) g_.Equals)], 6⟩ htt 26 (by kernel_rfl) (WPr.nil (WP.condT rfl rfl (WP.seq (WP.region (WPr.sil htt 1 rfl (WPr.nil (?_))))))))
      cases h
      exact WP.ret htt Tryz.func59 [] rfl rfl rfl rfl
    refine WPr.kb 26 hc rfl (WPr.silx [10, 11, 12, 13, 14, 15, 16, 17, 18, 19, 20, 21, 22, 23, 24, 25, 26, 27, 28, 29] ⟨[(0, .c (.sl 0)), (3, .c (.bp 3 0)), (5, .c (.i .i64 x1)), (6, .c (.i .i64 v6_6)), (7, .c (.bp 5 0)), (32, .c (.b (decide (x46.X ≥ x1))))], [(3, .box [.sl 1, .sl 2] 42), (5, .box [.i .i64 x46.X, .i .i64 x46.Y, .i .i64 x46.C] 48)], [(0, .sl rR0 decls_), (1, .sl rR1 g_.Diffs), (2, .sl (rP (rI .i64) (rI .i64)) g_.Equals)], 6⟩ htt 6 (by kernel_rfl) (?_))
    rcases oc h with ⟨hc, h⟩ | ⟨hc, h⟩
    · refine WPr.kb 32 hc rfl (WPr.silx [] ⟨[(0, .c (.sl 0)), (3, .c (.bp 3 0)), (5, .c (.i .i64 x1)), (6, .c (.i .i64 v6_6)), (52, .c (.b true))], [(3, .box [.sl 1, .sl 2] 42)], [(0, .sl rR0 decls_), (1, .sl rR1 g_.Diffs), (2, .sl (rP (rI .i64) (rI .i64)) g_.Equals)], 6⟩ htt 20 (by kernel_rfl) (WPr.nil (WP.condT rfl rfl (WP.seq (WP.region (WPr.sil htt 1 rfl (WPr.nil (?_))))))))
      cases h
      exact WP.ret htt Tryz.func59 [] rfl rfl rfl rfl
    refine WPr.kb 32 hc rfl (WPr.silx [15, 16, 17, 18, 19, 20, 21, 22, 23, 24, 25, 26, 27, 28, 29] ⟨[(0, .c (.sl 0)), (3, .c (.bp 3 0)), (5, .c (.i .i64 x1)), (6, .c (.i .i64 v6_6)), (7, .c (.bp 5 0)), (37, .c (.b (decide (x46.Y < (-1 : Int)))))], [(3, .box [.sl 1, .sl 2] 42), (5, .box [.i .i64 x46.X, .i .i64 x46.Y, .i .i64 x46.C] 48)], [(0, .sl rR0 decls_), (1, .sl rR1 g_.Diffs), (2, .sl (rP (rI .i64) (rI .i64)) g_.Equals)], 6⟩ htt 5 (by kernel_rfl) (?_))
    rcases oc h with ⟨hc, h⟩ | ⟨hc, h⟩
    · refine WPr.kb 37 hc rfl (WPr.silx [] ⟨[(0, .c (.sl 0)), (3, .c (.bp 3 0)), (5, .c (.i .i64 x1)), (6, .c (.i .i64 v6_6)), (52, .c (.b true))], [(3, .box [.sl 1, .sl 2] 42)], [(0, .sl rR0 decls_), (1, .sl rR1 g_.Diffs), (2, .sl (rP (rI .i64) (rI .i64)) g_.Equals)], 6⟩ htt 15 (by kernel_rfl) (WPr.nil (WP.condT rfl rfl (WP.seq (WP.region (WPr.sil htt 1 rfl (WPr.nil (?_))))))))
      cases h
      exact WP.ret htt Tryz.func59 [] rfl rfl rfl rfl
    refine WPr.kb 37 hc rfl (WPr.silx [21, 22, 23, 24, 25, 26, 27, 28, 29] ⟨[(0, .c (.sl 0)), (3, .c (.bp 3 0)), (5, .c (.i .i64 x1)), (6, .c (.i .i64 v6_6)), (7, .c (.bp 5 0)), (43, .c (.b (decide (x46.Y ≥ x1))))], [(3, .box [.sl 1, .sl 2] 42), (5, .box [.i .i64 x46.X, .i .i64 x46.Y, .i .i64 x46.C] 48)], [(0, .sl rR0 decls_), (1, .sl rR1 g_.Diffs), (2, .sl (rP (rI .i64) (rI .i64)) g_.Equals)], 6⟩ htt 6 (by kernel_rfl) (?_))
    rcases oc h with ⟨hc, h⟩ | ⟨hc, h⟩
    · refine WPr.kb 43 hc rfl (WPr.silx [] ⟨[(0, .c (.sl 0)), (3, .c (.bp 3 0)), (5, .c (.i .i64 x1)), (6, .c (.i .i64 v6_6)), (52, .c (.b true))], [(3, .box [.sl 1, .sl 2] 42)], [(0, .sl rR0 decls_), (1, .sl rR1 g_.Diffs), (2, .sl (rP (rI .i64) (rI .i64)) g_.Equals)], 6⟩ htt 9 (by kernel_rfl) (WPr.nil (WP.condT rfl rfl (WP.seq (WP.region (WPr.sil htt 1 rfl (WPr.nil (?_))))))))
      cases h
      exact WP.ret htt Tryz.func59 [] rfl rfl rfl rfl
    refine WPr.kb 43 hc rfl (WPr.silx [26, 27, 28, 29] ⟨[(0, .c (.sl 0)), (3, .c (.bp 3 0)), (5, .c (.i .i64 x1)), (6, .c (.i .i64 v6_6)), (7, .c (.bp 5 0)), (48, .c (.b (decide (x46.C < (-20000 : Int)))))], [(3, .box [.sl 1, .sl 2] 42), (5, .box [.i .i64 x46.X, .i .i64 x46.Y, .i .i64 x46.C] 48)], [(0, .sl rR0 decls_), (1, .sl rR1 g_.Diffs), (2, .sl (rP (rI .i64) (rI .i64)) g_.Equals)], 6⟩ htt 5 (by kernel_rfl) (?_))
    rcases oc h with ⟨hc, h⟩ | ⟨hc, h⟩
    · refine WPr.kb 48 hc rfl (WPr.silx [] ⟨[(0, .c (.sl 0)), (3, .c (.bp 3 0)), (5, .c (.i .i64 x1)), (6, .c (.i .i64 v6_6)), (52, .c (.b true))], [(3, .box [.sl 1, .sl 2] 42)], [(0, .sl rR0 decls_), (1, .sl rR1 g_.Diffs), (2, .sl (rP (rI .i64) (rI .i64)) g_.Equals)], 6⟩ htt 4 (by kernel_rfl) (WPr.nil (WP.condT rfl rfl (WP.seq (WP.region (WPr.sil htt 1 rfl (WPr.nil (?_))))))))
      cases h
      exact WP.ret htt Tryz.func59 [] rfl rfl rfl rfl
    refine WPr.kb 48 hc rfl (WPr.silx [] ⟨[(0, .c (.sl 0)), (3, .c (.bp 3 0)), (5, .c (.i .i64 x1)), (6, .c (.i .i64 v6_6)), (52, .c (.b (decide (x46.C > (20000 : Int)))))], [(3, .box [.sl 1, .sl 2] 42)], [(0, .sl rR0 decls_), (1, .sl rR1 g_.Diffs), (2, .sl (rP (rI .i64) (rI .i64)) g_.Equals)], 6⟩ htt 4 (by kernel_rfl) (WPr.nil (?_)))
    rcases oc h with ⟨hc, h⟩ | ⟨hc, h⟩
    · refine WP.condT hc rfl (WP.seq (WP.region (WPr.sil htt 1 rfl (WPr.nil (?_)))))
      cases h
      exact WP.ret htt Tryz.func59 [] rfl rfl rfl rfl
    exact WP.condF hc rfl (WP.skip (WP.inBlock (WP.region (WPr.silx [] ⟨[(0, .c (.sl 0)), (3, .c (.bp 3 0)), (5, .c (.i .i64 x1)), (6, .c (.i .i64 (w64 (v6_6 + (1 : Int)))))], [(3, .box [.sl 1, .sl 2] 42)], [(0, .sl rR0 decls_), (1, .sl rR1 g_.Diffs), (2, .sl (rP (rI .i64) (rI .i64)) g_.Equals)], 6⟩ htt 3 (by kernel_rfl) (WPr.nil (WP.sub [] (ih6 (w64 (v6_6 + (1 : Int))) h) rfl rfl rfl rfl))))))
  exact WP.sub [] (ih N (0 : Int) h) rfl rfl rfl rfl
theorem z18_ct (N : Nat) (decls_ : (List T0)) (r : Bool) (h : z18 N decls_ = some r) :
  Fn Tryz.prog 18 ⟨1, [.c (.sl 0)], [(0, .sl rR0 decls_)], [], 1, .c (.b r), [], []⟩ := by
  refine Fn.intro _ _ Tryz.func18 rfl (by kernel_rfl) rfl (fun E F w => ?_)
  unfold z18 at h
  refine WP.seq (WP.region (WPr.sil htt 1 rfl (WPr.nil (WP.seq (WP.seq (WP.region (WPr.silx [4, 5, 6, 7] ⟨[(0, .c (.sl 0)), (2, .c (.b false)), (12, .c (.b (decide ((decls_.length : Int) > (40 : Int)))))], [], [(0, .sl rR0 decls_)], 1⟩ htt 4 (by kernel_rfl) (?_))))))))
  rcases oc h with ⟨hc, h⟩ | ⟨hc, h⟩
  · refine WPr.kb 12 hc rfl (WPr.silx [] ⟨[(0, .c (.sl 0)), (2, .c (.b false)), (16, .c (.b true))], [], [(0, .sl rR0 decls_)], 1⟩ htt 4 (by kernel_rfl) (WPr.nil (WP.condT rfl rfl (WP.seq (WP.region (WPr.sil htt 1 rfl (WPr.nil (?_))))))))
    cases h
    exact WP.ret htt Tryz.func18 [] rfl rfl rfl rfl
  refine WPr.kb 12 hc rfl (WPr.sil htt 1 rfl (?_))
  obtain ⟨x1, hx1, h⟩ := ob h
  refine WPr.call (z55_ct N decls_ _ hx1) [(0, .sl 0)] [] rfl rfl rfl rfl rfl rfl rfl rfl (.inl rfl) rfl (WPr.silx [] ⟨[(0, .c (.sl 0)), (2, .c (.b false)), (16, .c (.b (decide (x1 > (24 : Int)))))], [], [(0, .sl rR0 decls_)], 1⟩ htt 2 (by kernel_rfl) (WPr.nil (?_)))
  rcases oc h with ⟨hc, h⟩ | ⟨hc, h⟩
  · refine WP.condT hc rfl (WP.seq (WP.region (WPr.sil htt 1 rfl (WPr.nil (?_)))))
    cases h
    exact WP.ret htt Tryz.func18 [] rfl rfl rfl rfl
  refine WP.condF hc rfl (WP.skip (WP.seq (WP.region (WPr.sil htt 1 rfl (WPr.nil (WP.seq (WP.seq (WP.region (WPr.sil htt 1 rfl (WPr.nil (?_)))))))))))
  refine WP.cut (σ := Unit) (fun st => ⟨[], [], [(0, .sl rR0 decls_)], 1⟩) (fun st => z18_k1 = some r) ?_ (fun j1 => ?_)
  · intro _ h
    replace h : z18_k1 = some r := h
    unfold z18_k1 at h
    refine WP.seq (WP.region (WPr.sil htt 1 rfl (WPr.nil (?_))))
    cases h
    exact WP.ret htt Tryz.func18 [] rfl rfl rfl rfl
  refine WP.block (?_)
  refine WP.loopI (σ := Int × Int) (fun st => ⟨[(0, .c (.sl 0)), (3, .c (.i .i64 st.1)), (4, .c (.i .i64 st.2))], [], [(0, .sl rR0 decls_)], 1⟩) (fun n st => z18_l2 N decls_ n st.1 st.2) (r := r) (fun _ => rfl) ?_ (fun ih => ?_)
  · intro n82 ih75
    rintro ⟨v3_75, v4_75⟩ h
    replace h : z18_l2 N decls_ (n82 + 1) v3_75 v4_75 = some r := h
    unfold z18_l2 at h
    refine WP.seq (WP.seq (WP.region (WPr.silx [] ⟨[(0, .c (.sl 0)), (3, .c (.i .i64 v3_75)), (4, .c (.i .i64 v4_75)), (20, .c (.b (decide (v4_75 < (decls_.length : Int)))))], [], [(0, .sl rR0 decls_)], 1⟩ htt 4 (by kernel_rfl) (WPr.nil (?_)))))
    rcases oc' h with ⟨hc, h⟩ | ⟨hc, h⟩
    · exact WP.condF hc rfl (WP.exit rfl (WP.sub [] (j1 () h) rfl rfl rfl rfl))
    refine WP.condT hc rfl (WP.skip (WP.seq (WP.block (WP.seq (WP.region (WPr.sil htt 2 rfl (?_)))))))
    obtain ⟨x2504, hx2504, h⟩ := ob h
    refine WPr.ix oO0 htt hx2504 rfl rfl rfl rfl rfl rfl rfl rfl rfl (WPr.silx [] ⟨[(0, .c (.sl 0)), (3, .c (.i .i64 v3_75)), (4, .c (.i .i64 v4_75)), (5, .c (.bp 5 0))], [(5, .box [.s x2504.Name, .sl 2, .i .i64 x2504.First, .sl 3, .sl 4] 44)], [(0, .sl rR0 decls_), (2, .sl rR2 x2504.Fields), (3, .sl rR1 x2504.Guard.Diffs), (4, .sl (rP (rI .i64) (rI .i64)) x2504.Guard.Equals)], 6⟩ htt 3 (by kernel_rfl) (WPr.nil (WP.seq (WP.seq (WP.region (WPr.sil htt 1 rfl (WPr.nil (?_))))))))
    refine WP.cut (σ := Unit) (fun st => ⟨[(0, .c (.sl 0)), (3, .c (.i .i64 v3_75)), (4, .c (.i .i64 v4_75)), (5, .c (.bp 5 0))], [(5, .box [.s x2504.Name, .sl 2, .i .i64 x2504.First, .sl 3, .sl 4] 44)], [(0, .sl rR0 decls_), (2, .sl rR2 x2504.Fields), (3, .sl rR1 x2504.Guard.Diffs), (4, .sl (rP (rI .i64) (rI .i64)) x2504.Guard.Equals)], 6⟩) (fun st => z18_k7 N decls_ v3_75 v4_75 (z18_l2 N decls_ n82) x2504 = some r) ?_ (fun j124 => ?_)
    · intro _ h
      replace h : z18_k7 N decls_ v3_75 v4_75 (z18_l2 N decls_ n82) x2504 = some r := h
      unfold z18_k7 at h
      refine WP.seq (WP.seq (WP.region (WPr.sil htt 1 rfl (WPr.nil (?_)))))
      refine WP.cut (σ := Unit) (fun st => ⟨[(0, .c (.sl 0)), (3, .c (.i .i64 v3_75)), (4, .c (.i .i64 v4_75)), (5, .c (.bp 5 0))], [(5, .box [.s x2504.Name, .sl 2, .i .i64 x2504.First, .sl 3, .sl 4] 44)], [(0, .sl rR0 decls_), (2, .sl rR2 x2504.Fields), (3, .sl rR1 x2504.Guard.Diffs), (4, .sl (rP (rI .i64) (rI .i64)) x2504.Guard.Equals)], 6⟩) (fun st => z18_k3 N decls_ v3_75 v4_75 (z18_l2 N decls_ n82) x2504 = some r) ?_ (fun j126 => ?_)
      · intro _ h
        replace h : z18_k3 N decls_ v3_75 v4_75 (z18_l2 N decls_ n82) x2504 = some r := h
        unfold z18_k3 at h
        refine WP.seq (WP.seq (WP.region (WPr.sil htt 2 rfl (?_))))
        obtain ⟨x2657, hx2657, h⟩ := ob h
        refine WPr.call (z58_ct N x2504.Name _ hx2657) [] [] rfl rfl rfl rfl rfl rfl rfl rfl (.inl rfl) rfl (WPr.silx [5, 6, 7, 8, 9, 10, 11, 12, 13, 14, 15, 16, 17, 18, 19, 20, 21, 22] ⟨[(0, .c (.sl 0)), (3, .c (.i .i64 v3_75)), (4, .c (.i .i64 v4_75)), (5, .c (.bp 5 0)), (87, .c (.b (!x2657)))], [(5, .box [.s x2504.Name, .sl 2, .i .i64 x2504.First, .sl 3, .sl 4] 44)], [(0, .sl rR0 decls_), (2, .sl rR2 x2504.Fields), (3, .sl rR1 x2504.Guard.Diffs), (4, .sl (rP (rI .i64) (rI .i64)) x2504.Guard.Equals)], 6⟩ htt 2 (by kernel_rfl) (?_))
        rcases oc h with ⟨hc, h⟩ | ⟨hc, h⟩
        · refine WPr.kb 87 hc rfl (WPr.silx [] ⟨[(0, .c (.sl 0)), (3, .c (.i .i64 v3_75)), (4, .c (.i .i64 v4_75)), (5, .c (.bp 5 0)), (105, .c (.b true))], [(5, .box [.s x2504.Name, .sl 2, .i .i64 x2504.First, .sl 3, .sl 4] 44)], [(0, .sl rR0 decls_), (2, .sl rR2 x2504.Fields), (3, .sl rR1 x2504.Guard.Diffs), (4, .sl (rP (rI .i64) (rI .i64)) x2504.Guard.Equals)], 6⟩ htt 18 (by kernel_rfl) (WPr.nil (WP.condT rfl rfl (WP.seq (WP.region (WPr.sil htt 1 rfl (WPr.nil (?_))))))))
          cases h
          exact WP.ret htt Tryz.func18 [] rfl rfl rfl rfl
        refine WPr.kb 87 hc rfl (WPr.silx [11, 12, 13, 14, 15, 16, 17, 18, 19, 20, 21, 22] ⟨[(0, .c (.sl 0)), (3, .c (.i .i64 v3_75)), (4, .c (.i .i64 v4_75)), (5, .c (.bp 5 0)), (93, .c (.b (decide ((x2504.Fields.length : Int) > (4 : Int)))))], [(5, .box [.s x2504.Name, .sl 2, .i .i64 x2504.First, .sl 3, .sl 4] 44)], [(0, .sl rR0 decls_), (2, .sl rR2 x2504.Fields), (3, .sl rR1 x2504.Guard.Diffs), (4, .sl (rP (rI .i64) (rI .i64)) x2504.Guard.Equals)], 6⟩ htt 6 (by kernel_rfl) (?_))
        rcases oc h with ⟨hc, h⟩ | ⟨hc, h⟩
        · refine WPr.kb 93 hc rfl (WPr.silx [] ⟨[(0, .c (.sl 0)), (3, .c (.i .i64 v3_75)), (4, .c (.i .i64 v4_75)), (5, .c (.bp 5 0)), (105, .c (.b true))], [(5, .box [.s x2504.Name, .sl 2, .i .i64 x2504.First, .sl 3, .sl 4] 44)], [(0, .sl rR0 decls_), (2, .sl rR2 x2504.Fields), (3, .sl rR1 x2504.Guard.Diffs), (4, .sl (rP (rI .i64) (rI .i64)) x2504.Guard.Equals)], 6⟩ htt 12 (by kernel_rfl) (WPr.nil (WP.condT rfl rfl (WP.seq (WP.region (WPr.sil htt 1 rfl (WPr.nil (?_))))))))
          cases h
          exact WP.ret htt Tryz.func18 [] rfl rfl rfl rfl
        refine WPr.kb 93 hc rfl (WPr.silx [17, 18, 19, 20, 21, 22] ⟨[(0, .c (.sl 0)), (3, .c (.i .i64 v3_75)), (4, .c (.i .i64 v4_75)), (5, .c (.bp 5 0)), (99, .c (.b (x2504.First != v3_75)))], [(5, .box [.s x2504.Name, .sl 2, .i .i64 x2504.First, .sl 3, .sl 4] 44)], [(0, .sl rR0 decls_), (2, .sl rR2 x2504.Fields), (3, .sl rR1 x2504.Guard.Diffs), (4, .sl (rP (rI .i64) (rI .i64)) x2504.Guard.Equals)], 6⟩ htt 6 (by kernel_rfl) (?_))
        rcases oc h with ⟨hc, h⟩ | ⟨hc, h⟩
        · refine WPr.kb 99 hc rfl (WPr.silx [] ⟨[(0, .c (.sl 0)), (3, .c (.i .i64 v3_75)), (4, .c (.i .i64 v4_75)), (5, .c (.bp 5 0)), (105, .c (.b true))], [(5, .box [.s x2504.Name, .sl 2, .i .i64 x2504.First, .sl 3, .sl 4] 44)], [(0, .sl rR0 decls_), (2, .sl rR2 x2504.Fields), (3, .sl rR1 x2504.Guard.Diffs), (4, .sl (rP (rI .i64) (rI .i64)) x2504.Guard.Equals)], 6⟩ htt 6 (by kernel_rfl) (WPr.nil (WP.condT rfl rfl (WP.seq (WP.region (WPr.sil htt 1 rfl (WPr.nil (?_))))))))
          cases h
          exact WP.ret htt Tryz.func18 [] rfl rfl rfl rfl
        refine WPr.kb 99 hc rfl (WPr.silx [20, 21, 22] ⟨[(0, .c (.sl 0)), (3, .c (.i .i64 v3_75)), (4, .c (.i .i64 v4_75)), (5, .c (.bp 5 0)), (99, .c (.b false)), (100, .c (.sl 0)), (102, .a [.sl 3, .sl 4])], [(5, .box [.s x2504.Name, .sl 2, .i .i64 x2504.First, .sl 3, .sl 4] 44)], [(0, .sl rR0 decls_), (2, .sl rR2 x2504.Fields), (3, .sl rR1 x2504.Guard.Diffs), (4, .sl (rP (rI .i64) (rI .i64)) x2504.Guard.Equals)], 6⟩ htt 3 (by kernel_rfl) (?_))
        obtain ⟨x2658, hx2658, h⟩ := ob h
        refine WPr.call (z59_ct N decls_ x2504.Guard _ hx2658) [(0, .sl 0), (1, .sl 3), (2, .sl 4)] [] rfl rfl rfl rfl rfl rfl rfl rfl (.inl rfl) rfl (WPr.silx [] ⟨[(0, .c (.sl 0)), (3, .c (.i .i64 v3_75)), (4, .c (.i .i64 v4_75)), (5, .c (.bp 5 0)), (105, .c (.b (!x2658)))], [(5, .box [.s x2504.Name, .sl 2, .i .i64 x2504.First, .sl 3, .sl 4] 44)], [(0, .sl rR0 decls_), (2, .sl rR2 x2504.Fields), (3, .sl rR1 x2504.Guard.Diffs), (4, .sl (rP (rI .i64) (rI .i64)) x2504.Guard.Equals)], 6⟩ htt 2 (by kernel_rfl) (WPr.nil (?_)))
        rcases oc h with ⟨hc, h⟩ | ⟨hc, h⟩
        · refine WP.condT hc rfl (WP.seq (WP.region (WPr.sil htt 1 rfl (WPr.nil (?_)))))
          cases h
          exact WP.ret htt Tryz.func18 [] rfl rfl rfl rfl
        exact WP.condF hc rfl (WP.skip (WP.region (WPr.silx [] ⟨[(0, .c (.sl 0)), (3, .c (.i .i64 (w64 (v3_75 + (x2504.Fields.length : Int))))), (4, .c (.i .i64 v4_75))], [], [(0, .sl rR0 decls_)], 6⟩ htt 6 (by kernel_rfl) (WPr.nil (WP.inBlock (WP.region (WPr.silx [] ⟨[(0, .c (.sl 0)), (3, .c (.i .i64 (w64 (v3_75 + (x2504.Fields.length : Int))))), (4, .c (.i .i64 (w64 (v4_75 + (1 : Int)))))], [], [(0, .sl rR0 decls_)], 6⟩ htt 3 (by kernel_rfl) (WPr.nil (WP.sub [] (ih75 ((w64 (v3_75 + (x2504.Fields.length : Int))), (w64 (v4_75 + (1 : Int)))) h) rfl rfl rfl rfl)))))))))
      refine WP.block (?_)
      refine WP.loopI (σ := Int) (fun st => ⟨[(0, .c (.sl 0)), (3, .c (.i .i64 v3_75)), (4, .c (.i .i64 v4_75)), (5, .c (.bp 5 0)), (7, .c (.i .i64 st))], [(5, .box [.s x2504.Name, .sl 2, .i .i64 x2504.First, .sl 3, .sl 4] 44)], [(0, .sl rR0 decls_), (2, .sl rR2 x2504.Fields), (3, .sl rR1 x2504.Guard.Diffs), (4, .sl (rP (rI .i64) (rI .i64)) x2504.Guard.Equals)], 6⟩) (fun n st => z18_l4 N decls_ v3_75 v4_75 (z18_l2 N decls_ n82) x2504 n st) (r := r) (fun _ => rfl) ?_ (fun ih => ?_)
      · intro n95 ih137
        intro v7_137 h
        replace h : z18_l4 N decls_ v3_75 v4_75 (z18_l2 N decls_ n82) x2504 (n95 + 1) v7_137 = some r := h
        unfold z18_l4 at h
        refine WP.seq (WP.seq (WP.region (WPr.silx [] ⟨[(0, .c (.sl 0)), (3, .c (.i .i64 v3_75)), (4, .c (.i .i64 v4_75)), (5, .c (.bp 5 0)), (7, .c (.i .i64 v7_137)), (44, .c (.b (decide (v7_137 < (x2504.Fields.length : Int)))))], [(5, .box [.s x2504.Name, .sl 2, .i .i64 x2504.First, .sl 3, .sl 4] 44)], [(0, .sl rR0 decls_), (2, .sl rR2 x2504.Fields), (3, .sl rR1 x2504.Guard.Diffs), (4, .sl (rP (rI .i64) (rI .i64)) x2504.Guard.Equals)], 6⟩ htt 5 (by kernel_rfl) (WPr.nil (?_)))))
        rcases oc' h with ⟨hc, h⟩ | ⟨hc, h⟩
        · exact WP.condF hc rfl (WP.exit rfl (WP.sub [] (j126 () h) rfl rfl rfl rfl))
        refine WP.condT hc rfl (WP.skip (WP.seq (WP.block (WP.seq (WP.seq (WP.region (WPr.silx [3, 4, 5, 6, 7, 8, 9, 10, 11, 12, 13, 14, 15, 16, 17] ⟨[(0, .c (.sl 0)), (3, .c (.i .i64 v3_75)), (4, .c (.i .i64 v4_75)), (5, .c (.bp 5 0)), (7, .c (.i .i64 v7_137)), (48, .c (.sl 2)), (49, .c (.i .i64 v7_137))], [(5, .box [.s x2504.Name, .sl 2, .i .i64 x2504.First, .sl 3, .sl 4] 44)], [(0, .sl rR0 decls_), (2, .sl rR2 x2504.Fields), (3, .sl rR1 x2504.Guard.Diffs), (4, .sl (rP (rI .i64) (rI .i64)) x2504.Guard.Equals)], 6⟩ htt 3 (by kernel_rfl) (?_))))))))
        obtain ⟨x2807, hx2807, h⟩ := ob h
        refine WPr.ix oO2 htt hx2807 rfl rfl rfl rfl rfl rfl rfl rfl rfl (WPr.silx [6, 7, 8, 9, 10, 11, 12, 13, 14, 15, 16, 17] ⟨[(0, .c (.sl 0)), (3, .c (.i .i64 v3_75)), (4, .c (.i .i64 v4_75)), (5, .c (.bp 5 0)), (7, .c (.i .i64 v7_137)), (52, .a [.i .i64 x2807.Sort'.Kind, .i .i64 x2807.Sort'.Lo, .i .i64 x2807.Sort'.Hi])], [(5, .box [.s x2504.Name, .sl 2, .i .i64 x2504.First, .sl 3, .sl 4] 44)], [(0, .sl rR0 decls_), (2, .sl rR2 x2504.Fields), (3, .sl rR1 x2504.Guard.Diffs), (4, .sl (rP (rI .i64) (rI .i64)) x2504.Guard.Equals)], 7⟩ htt 2 (by kernel_rfl) (?_))
        obtain ⟨x2808, hx2808, h⟩ := ob h
        refine WPr.call (z56_ct N x2807.Sort' _ hx2808) [] [] rfl rfl rfl rfl rfl rfl rfl rfl (.inl rfl) rfl (WPr.silx [9, 10, 11, 12, 13, 14, 15, 16, 17] ⟨[(0, .c (.sl 0)), (3, .c (.i .i64 v3_75)), (4, .c (.i .i64 v4_75)), (5, .c (.bp 5 0)), (7, .c (.i .i64 v7_137)), (55, .c (.b (!x2808)))], [(5, .box [.s x2504.Name, .sl 2, .i .i64 x2504.First, .sl 3, .sl 4] 44)], [(0, .sl rR0 decls_), (2, .sl rR2 x2504.Fields), (3, .sl rR1 x2504.Guard.Diffs), (4, .sl (rP (rI .i64) (rI .i64)) x2504.Guard.Equals)], 7⟩ htt 2 (by kernel_rfl) (?_))
        rcases oc h with ⟨hc, h⟩ | ⟨hc, h⟩
        · refine WPr.kb 55 hc rfl (WPr.silx [] ⟨[(0, .c (.sl 0)), (3, .c (.i .i64 v3_75)), (4, .c (.i .i64 v4_75)), (5, .c (.bp 5 0)), (7, .c (.i .i64 v7_137)), (64, .c (.b true))], [(5, .box [.s x2504.Name, .sl 2, .i .i64 x2504.First, .sl 3, .sl 4] 44)], [(0, .sl rR0 decls_), (2, .sl rR2 x2504.Fields), (3, .sl rR1 x2504.Guard.Diffs), (4, .sl (rP (rI .i64) (rI .i64)) x2504.Guard.Equals)], 7⟩ htt 9 (by kernel_rfl) (WPr.nil (WP.condT rfl rfl (WP.seq (WP.region (WPr.sil htt 1 rfl (WPr.nil (?_))))))))
          cases h
          exact WP.ret htt Tryz.func18 [] rfl rfl rfl rfl
        refine WPr.kb 55 hc rfl (WPr.silx [12, 13, 14, 15, 16, 17] ⟨[(0, .c (.sl 0)), (3, .c (.i .i64 v3_75)), (4, .c (.i .i64 v4_75)), (5, .c (.bp 5 0)), (7, .c (.i .i64 v7_137)), (55, .c (.b false)), (57, .c (.sl 2)), (58, .c (.i .i64 v7_137))], [(5, .box [.s x2504.Name, .sl 2, .i .i64 x2504.First, .sl 3, .sl 4] 44)], [(0, .sl rR0 decls_), (2, .sl rR2 x2504.Fields), (3, .sl rR1 x2504.Guard.Diffs), (4, .sl (rP (rI .i64) (rI .i64)) x2504.Guard.Equals)], 7⟩ htt 3 (by kernel_rfl) (?_))
        obtain ⟨x2809, hx2809, h⟩ := ob h
        refine WPr.ix oO2 htt hx2809 rfl rfl rfl rfl rfl rfl rfl rfl rfl (WPr.silx [15, 16, 17] ⟨[(0, .c (.sl 0)), (3, .c (.i .i64 v3_75)), (4, .c (.i .i64 v4_75)), (5, .c (.bp 5 0)), (7, .c (.i .i64 v7_137)), (55, .c (.b false)), (61, .c (.s x2809.Name))], [(5, .box [.s x2504.Name, .sl 2, .i .i64 x2504.First, .sl 3, .sl 4] 44)], [(0, .sl rR0 decls_), (2, .sl rR2 x2504.Fields), (3, .sl rR1 x2504.Guard.Diffs), (4, .sl (rP (rI .i64) (rI .i64)) x2504.Guard.Equals)], 8⟩ htt 2 (by kernel_rfl) (?_))
        obtain ⟨x2810, hx2810, h⟩ := ob h
        refine WPr.call (z57_ct N x2809.Name _ hx2810) [] [] rfl rfl rfl rfl rfl rfl rfl rfl (.inl rfl) rfl (WPr.silx [] ⟨[(0, .c (.sl 0)), (3, .c (.i .i64 v3_75)), (4, .c (.i .i64 v4_75)), (5, .c (.bp 5 0)), (7, .c (.i .i64 v7_137)), (64, .c (.b (!x2810)))], [(5, .box [.s x2504.Name, .sl 2, .i .i64 x2504.First, .sl 3, .sl 4] 44)], [(0, .sl rR0 decls_), (2, .sl rR2 x2504.Fields), (3, .sl rR1 x2504.Guard.Diffs), (4, .sl (rP (rI .i64) (rI .i64)) x2504.Guard.Equals)], 8⟩ htt 2 (by kernel_rfl) (WPr.nil (?_)))
        rcases oc h with ⟨hc, h⟩ | ⟨hc, h⟩
        · refine WP.condT hc rfl (WP.seq (WP.region (WPr.sil htt 1 rfl (WPr.nil (?_)))))
          cases h
          exact WP.ret htt Tryz.func18 [] rfl rfl rfl rfl
        refine WP.condF hc rfl (WP.skip (WP.seq (WP.region (WPr.sil htt 1 rfl (WPr.nil (?_))))))
        refine WP.cut (σ := Unit) (fun st => ⟨[(0, .c (.sl 0)), (3, .c (.i .i64 v3_75)), (4, .c (.i .i64 v4_75)), (5, .c (.bp 5 0)), (7, .c (.i .i64 v7_137))], [(5, .box [.s x2504.Name, .sl 2, .i .i64 x2504.First, .sl 3, .sl 4] 44)], [(0, .sl rR0 decls_), (2, .sl rR2 x2504.Fields), (3, .sl rR1 x2504.Guard.Diffs), (4, .sl (rP (rI .i64) (rI .i64)) x2504.Guard.Equals)], 8⟩) (fun st => z18_k5 v7_137 (z18_l4 N decls_ v3_75 v4_75 (z18_l2 N decls_ n82) x2504 n95) = some r) ?_ (fun j144 => ?_)
        · intro _ h
          replace h : z18_k5 v7_137 (z18_l4 N decls_ v3_75 v4_75 (z18_l2 N decls_ n82) x2504 n95) = some r := h
          unfold z18_k5 at h
          exact WP.inBlock (WP.region (WPr.silx [] ⟨[(0, .c (.sl 0)), (3, .c (.i .i64 v3_75)), (4, .c (.i .i64 v4_75)), (5, .c (.bp 5 0)), (7, .c (.i .i64 (w64 (v7_137 + (1 : Int)))))], [(5, .box [.s x2504.Name, .sl 2, .i .i64 x2504.First, .sl 3, .sl 4] 44)], [(0, .sl rR0 decls_), (2, .sl rR2 x2504.Fields), (3, .sl rR1 x2504.Guard.Diffs), (4, .sl (rP (rI .i64) (rI .i64)) x2504.Guard.Equals)], 8⟩ htt 3 (by kernel_rfl) (WPr.nil (WP.sub [] (ih137 (w64 (v7_137 + (1 : Int))) h) rfl rfl rfl rfl))))
        refine WP.block (?_)
        refine WP.loopI (σ := Int) (fun st => ⟨[(0, .c (.sl 0)), (3, .c (.i .i64 v3_75)), (4, .c (.i .i64 v4_75)), (5, .c (.bp 5 0)), (7, .c (.i .i64 v7_137)), (8, .c (.i .i64 st))], [(5, .box [.s x2504.Name, .sl 2, .i .i64 x2504.First, .sl 3, .sl 4] 44)], [(0, .sl rR0 decls_), (2, .sl rR2 x2504.Fields), (3, .sl rR1 x2504.Guard.Diffs), (4, .sl (rP (rI .i64) (rI .i64)) x2504.Guard.Equals)], 8⟩) (fun n st => z18_l6 x2504 v7_137 (z18_l4 N decls_ v3_75 v4_75 (z18_l2 N decls_ n82) x2504 n95) n st) (r := r) (fun _ => rfl) ?_ (fun ih => ?_)
        · intro n97 ih146
          intro v8_146 h
          replace h : z18_l6 x2504 v7_137 (z18_l4 N decls_ v3_75 v4_75 (z18_l2 N decls_ n82) x2504 n95) (n97 + 1) v8_146 = some r := h
          unfold z18_l6 at h
          refine WP.seq (WP.seq (WP.region (WPr.silx [] ⟨[(0, .c (.sl 0)), (3, .c (.i .i64 v3_75)), (4, .c (.i .i64 v4_75)), (5, .c (.bp 5 0)), (7, .c (.i .i64 v7_137)), (8, .c (.i .i64 v8_146)), (67, .c (.b (decide (v8_146 < v7_137))))], [(5, .box [.s x2504.Name, .sl 2, .i .i64 x2504.First, .sl 3, .sl 4] 44)], [(0, .sl rR0 decls_), (2, .sl rR2 x2504.Fields), (3, .sl rR1 x2504.Guard.Diffs), (4, .sl (rP (rI .i64) (rI .i64)) x2504.Guard.Equals)], 8⟩ htt 3 (by kernel_rfl) (WPr.nil (?_)))))
          rcases oc' h with ⟨hc, h⟩ | ⟨hc, h⟩
          · exact WP.condF hc rfl (WP.exit rfl (WP.sub [] (j144 () h) rfl rfl rfl rfl))
          refine WP.condT hc rfl (WP.skip (WP.seq (WP.block (WP.seq (WP.regionQ (by kernel_rfl) (by kernel_rfl) (WPq.silx [3, 4, 5, 6, 7, 8, 9, 10, 11, 12] ⟨[(0, .c (.sl 0)), (3, .c (.i .i64 v3_75)), (4, .c (.i .i64 v4_75)), (5, .c (.bp 5 0)), (7, .c (.i .i64 v7_137)), (8, .c (.i .i64 v8_146)), (71, .c (.sl 2)), (72, .c (.i .i64 v8_146))], [(5, .box [.s x2504.Name, .sl 2, .i .i64 x2504.First, .sl 3, .sl 4] 44)], [(0, .sl rR0 decls_), (2, .sl rR2 x2504.Fields), (3, .sl rR1 x2504.Guard.Diffs), (4, .sl (rP (rI .i64) (rI .i64)) x2504.Guard.Equals)], 8⟩ htt 3 (by kernel_rfl) (?_)))))))
          obtain ⟨x2845, hx2845, h⟩ := ob h
          refine WPq.op rfl rfl (VN.vs (VN.ix oO2 htt hx2845 rfl rfl rfl rfl rfl rfl rfl)) (WPq.silx [9, 10, 11, 12] ⟨[(0, .c (.sl 0)), (3, .c (.i .i64 v3_75)), (4, .c (.i .i64 v4_75)), (5, .c (.bp 5 0)), (7, .c (.i .i64 v7_137)), (8, .c (.i .i64 v8_146)), (75, .c (.s x2845.Name)), (77, .c (.sl 2)), (78, .c (.i .i64 v7_137))], [(5, .box [.s x2504.Name, .sl 2, .i .i64 x2504.First, .sl 3, .sl 4] 44)], [(0, .sl rR0 decls_), (2, .sl rR2 x2504.Fields), (3, .sl rR1 x2504.Guard.Diffs), (4, .sl (rP (rI .i64) (rI .i64)) x2504.Guard.Equals)], 9⟩ htt 5 (by kernel_rfl) (?_))
          obtain ⟨x2846, hx2846, h⟩ := ob h
          refine WPq.op rfl rfl (VN.vs (VN.ix oO2 htt hx2846 rfl rfl rfl rfl rfl rfl rfl)) (WPq.silx [] ⟨[(0, .c (.sl 0)), (3, .c (.i .i64 v3_75)), (4, .c (.i .i64 v4_75)), (5, .c (.bp 5 0)), (7, .c (.i .i64 v7_137)), (8, .c (.i .i64 v8_146)), (82, .c (.b (x2845.Name.toList == x2846.Name.toList)))], [(5, .box [.s x2504.Name, .sl 2, .i .i64 x2504.First, .sl 3, .sl 4] 44)], [(0, .sl rR0 decls_), (2, .sl rR2 x2504.Fields), (3, .sl rR1 x2504.Guard.Diffs), (4, .sl (rP (rI .i64) (rI .i64)) x2504.Guard.Equals)], 10⟩ htt 3 (by kernel_rfl) (WPq.nil (?_)))
          rcases oc h with ⟨hc, h⟩ | ⟨hc, h⟩
          · refine WP.condT hc rfl (WP.seq (WP.region (WPr.sil htt 1 rfl (WPr.nil (?_)))))
            cases h
            exact WP.ret htt Tryz.func18 [] rfl rfl rfl rfl
          exact WP.condF hc rfl (WP.skip (WP.inBlock (WP.region (WPr.silx [] ⟨[(0, .c (.sl 0)), (3, .c (.i .i64 v3_75)), (4, .c (.i .i64 v4_75)), (5, .c (.bp 5 0)), (7, .c (.i .i64 v7_137)), (8, .c (.i .i64 (w64 (v8_146 + (1 : Int)))))], [(5, .box [.s x2504.Name, .sl 2, .i .i64 x2504.First, .sl 3, .sl 4] 44)], [(0, .sl rR0 decls_), (2, .sl rR2 x2504.Fields), (3, .sl rR1 x2504.Guard.Diffs), (4, .sl (rP (rI .i64) (rI .i64)) x2504.Guard.Equals)], 10⟩ htt 3 (by kernel_rfl) (WPr.nil (WP.sub [] (ih146 (w64 (v8_146 + (1 : Int))) h) rfl rfl rfl rfl))))))
        exact WP.sub [] (ih N (0 : Int) h) rfl rfl rfl rfl
      exact WP.sub [] (ih N (0 : Int) h) rfl rfl rfl rfl
    refine WP.block (?_)
    refine WP.loopI (σ := Int) (fun st => ⟨[(0, .c (.sl 0)), (3, .c (.i .i64 v3_75)), (4, .c (.i .i64 v4_75)), (5, .c (.bp 5 0)), (6, .c (.i .i64 st))], [(5, .box [.s x2504.Name, .sl 2, .i .i64 x2504.First, .sl 3, .sl 4] 44)], [(0, .sl rR0 decls_), (2, .sl rR2 x2504.Fields), (3, .sl rR1 x2504.Guard.Diffs), (4, .sl (rP (rI .i64) (rI .i64)) x2504.Guard.Equals)], 6⟩) (fun n st => z18_l8 N decls_ v3_75 v4_75 (z18_l2 N decls_ n82) x2504 n st) (r := r) (fun _ => rfl) ?_ (fun ih => ?_)
    · intro n98 ih147
      intro v6_147 h
      replace h : z18_l8 N decls_ v3_75 v4_75 (z18_l2 N decls_ n82) x2504 (n98 + 1) v6_147 = some r := h
      unfold z18_l8 at h
      refine WP.seq (WP.seq (WP.region (WPr.silx [] ⟨[(0, .c (.sl 0)), (3, .c (.i .i64 v3_75)), (4, .c (.i .i64 v4_75)), (5, .c (.bp 5 0)), (6, .c (.i .i64 v6_147)), (29, .c (.b (decide (v6_147 < v4_75))))], [(5, .box [.s x2504.Name, .sl 2, .i .i64 x2504.First, .sl 3, .sl 4] 44)], [(0, .sl rR0 decls_), (2, .sl rR2 x2504.Fields), (3, .sl rR1 x2504.Guard.Diffs), (4, .sl (rP (rI .i64) (rI .i64)) x2504.Guard.Equals)], 6⟩ htt 3 (by kernel_rfl) (WPr.nil (?_)))))
      rcases oc' h with ⟨hc, h⟩ | ⟨hc, h⟩
      · exact WP.condF hc rfl (WP.exit rfl (WP.sub [] (j124 () h) rfl rfl rfl rfl))
      refine WP.condT hc rfl (WP.skip (WP.seq (WP.block (WP.seq (WP.regionQ (by kernel_rfl) (by kernel_rfl) (WPq.sil htt 2 rfl (?_)))))))
      obtain ⟨x2856, hx2856, h⟩ := ob h
      refine WPq.op rfl rfl (VN.vs (VN.ix oO0 htt hx2856 rfl rfl rfl rfl rfl rfl rfl)) (WPq.silx [] ⟨[(0, .c (.sl 0)), (3, .c (.i .i64 v3_75)), (4, .c (.i .i64 v4_75)), (5, .c (.bp 5 0)), (6, .c (.i .i64 v6_147)), (39, .c (.b (x2856.Name.toList == x2504.Name.toList)))], [(5, .box [.s x2504.Name, .sl 2, .i .i64 x2504.First, .sl 3, .sl 4] 44)], [(0, .sl rR0 decls_), (2, .sl rR2 x2504.Fields), (3, .sl rR1 x2504.Guard.Diffs), (4, .sl (rP (rI .i64) (rI .i64)) x2504.Guard.Equals)], 10⟩ htt 5 (by kernel_rfl) (WPq.nil (?_)))
      rcases oc h with ⟨hc, h⟩ | ⟨hc, h⟩
      · refine WP.condT hc rfl (WP.seq (WP.region (WPr.sil htt 1 rfl (WPr.nil (?_)))))
        cases h
        exact WP.ret htt Tryz.func18 [] rfl rfl rfl rfl
      exact WP.condF hc rfl (WP.skip (WP.inBlock (WP.region (WPr.silx [] ⟨[(0, .c (.sl 0)), (3, .c (.i .i64 v3_75)), (4, .c (.i .i64 v4_75)), (5, .c (.bp 5 0)), (6, .c (.i .i64 (w64 (v6_147 + (1 : Int)))))], [(5, .box [.s x2504.Name, .sl 2, .i .i64 x2504.First, .sl 3, .sl 4] 44)], [(0, .sl rR0 decls_), (2, .sl rR2 x2504.Fields), (3, .sl rR1 x2504.Guard.Diffs), (4, .sl (rP (rI .i64) (rI .i64)) x2504.Guard.Equals)], 10⟩ htt 3 (by kernel_rfl) (WPr.nil (WP.sub [] (ih147 (w64 (v6_147 + (1 : Int))) h) rfl rfl rfl rfl))))))
    exact WP.sub [] (ih N (0 : Int) h) rfl rfl rfl rfl
  exact WP.sub [] (ih N ((0 : Int), (0 : Int)) h) rfl rfl rfl rfl
theorem z49_ct (N : Nat) (v_ : T5) (r : Int) (h : z49 N v_ = some r) :
  Fn Tryz.prog 49 ⟨0, [.a [.i .i64 v_.Kind, .i .i64 v_.N, .s v_.S]], [], [], 0, .c (.i .i64 r), [], []⟩ := by
  refine Fn.intro _ _ Tryz.func49 rfl (by kernel_rfl) rfl (fun E F w => ?_)
  unfold z49 at h
  refine WP.seq (WP.region (WPr.sil htt 2 rfl (WPr.nil (WP.seq (WP.seq (WP.region (WPr.silx [] ⟨[(1, .c (.bp 0 0)), (2, .c (.i .i64 (0 : Int))), (5, .c (.b (v_.Kind == (2 : Int))))], [(0, .box [.i .i64 v_.Kind, .i .i64 v_.N, .s v_.S] 46)], [], 1⟩ htt 3 (by kernel_rfl) (WPr.nil (?_)))))))))
  rcases oc h with ⟨hc, h⟩ | ⟨hc, h⟩
  · refine WP.condT hc rfl (WP.seq (WP.region (WPr.silx [] ⟨[(2, .c (.i .i64 (v_.S.size : Int)))], [], [], 1⟩ htt 4 (by kernel_rfl) (WPr.nil (?_)))))
    cases h
    exact WP.ret htt Tryz.func49 [] rfl rfl rfl rfl
  refine WP.condF hc rfl (WP.skip (WP.seq (WP.region (WPr.silx [] ⟨[(2, .c (.i .i64 v_.N))], [], [], 1⟩ htt 3 (by kernel_rfl) (WPr.nil (?_))))))
  cases h
  exact WP.ret htt Tryz.func49 [] rfl rfl rfl rfl
theorem z60_ct (N : Nat) (s_ : T4) (v_ : T5) (r : Bool) (h : z60 N s_ v_ = some r) :
  Fn Tryz.prog 60 ⟨0, [.a [.i .i64 s_.Kind, .i .i64 s_.Lo, .i .i64 s_.Hi], .a [.i .i64 v_.Kind, .i .i64 v_.N, .s v_.S]], [], [], 0, .c (.b r), [], []⟩ := by
  refine Fn.intro _ _ Tryz.func60 rfl (by kernel_rfl) rfl (fun E F w => ?_)
  unfold z60 at h
  refine WP.seq (WP.region (WPr.silx [] ⟨[(2, .c (.bp 0 0)), (3, .c (.bp 1 0)), (4, .c (.b false))], [(0, .box [.i .i64 s_.Kind, .i .i64 s_.Lo, .i .i64 s_.Hi] 87), (1, .box [.i .i64 v_.Kind, .i .i64 v_.N, .s v_.S] 46)], [], 2⟩ htt 3 (by kernel_rfl) (WPr.nil (WP.seq (WP.seq (WP.region (WPr.sil htt 1 rfl (WPr.nil (?_)))))))))
  refine WP.cut (σ := Unit) (fun st => ⟨[(2, .c (.bp 0 0)), (3, .c (.bp 1 0))], [(0, .box [.i .i64 s_.Kind, .i .i64 s_.Lo, .i .i64 s_.Hi] 87), (1, .box [.i .i64 v_.Kind, .i .i64 v_.N, .s v_.S] 46)], [], 2⟩) (fun st => z60_k2 N s_ v_ = some r) ?_ (fun j1 => ?_)
  · intro _ h
    replace h : z60_k2 N s_ v_ = some r := h
    unfold z60_k2 at h
    refine WP.seq (WP.seq (WP.region (WPr.silx [4, 5, 6, 7, 8, 9, 10, 11, 12, 13, 14, 15, 16, 17] ⟨[(2, .c (.bp 0 0)), (3, .c (.bp 1 0)), (28, .c (.b (v_.Kind == (2 : Int))))], [(0, .box [.i .i64 s_.Kind, .i .i64 s_.Lo, .i .i64 s_.Hi] 87), (1, .box [.i .i64 v_.Kind, .i .i64 v_.N, .s v_.S] 46)], [], 2⟩ htt 4 (by kernel_rfl) (?_))))
    refine WP.cutr (σ := Bool) (fun st => ⟨[(2, .c (.bp 0 0)), (3, .c (.bp 1 0)), (42, .c (.b st))], [(0, .box [.i .i64 s_.Kind, .i .i64 s_.Lo, .i .i64 s_.Hi] 87), (1, .box [.i .i64 v_.Kind, .i .i64 v_.N, .s v_.S] 46)], [], 2⟩) (fun st => z60_k1 N s_ v_ st = some r) ?_ (fun j3 => ?_)
    · intro v42_3 h
      replace h : z60_k1 N s_ v_ v42_3 = some r := h
      unfold z60_k1 at h
      rcases oc h with ⟨hc, h⟩ | ⟨hc, h⟩
      · refine WP.condT hc rfl (WP.seq (WP.region (WPr.sil htt 1 rfl (WPr.nil (?_)))))
        cases h
        exact WP.ret htt Tryz.func60 [] rfl rfl rfl rfl
      refine WP.condF hc rfl (WP.skip (WP.seq (WP.regionQ (by kernel_rfl) (by kernel_rfl) (WPq.silx [6, 7, 8, 9, 10, 11, 12, 13, 14, 15, 16, 17, 18, 19] ⟨[(2, .c (.bp 0 0)), (3, .c (.bp 1 0)), (48, .c (.b (v_.Kind == s_.Kind)))], [(0, .box [.i .i64 s_.Kind, .i .i64 s_.Lo, .i .i64 s_.Hi] 87), (1, .box [.i .i64 v_.Kind, .i .i64 v_.N, .s v_.S] 46)], [], 2⟩ htt 6 (by kernel_rfl) (?_)))))
      rcases oc' h with ⟨hc, h⟩ | ⟨hc, h⟩
      · refine WPq.kb 48 hc rfl (WPq.silx [] ⟨[(4, .c (.b false))], [], [], 2⟩ htt 14 (by kernel_rfl) (WPq.nil (?_)))
        cases h
        exact WP.ret htt Tryz.func60 [] rfl rfl rfl rfl
      refine WPq.kb 48 hc rfl (WPq.sil htt 1 rfl (?_))
      obtain ⟨x11, hx11, h⟩ := ob h
      refine WPq.call (z49_ct N v_ _ hx11) [] [] rfl rfl rfl rfl rfl rfl rfl rfl rfl rfl rfl rfl (WPq.silx [13, 14, 15, 16, 17, 18, 19] ⟨[(2, .c (.bp 0 0)), (3, .c (.bp 1 0)), (55, .c (.b (decide (x11 ≥ s_.Lo))))], [(0, .box [.i .i64 s_.Kind, .i .i64 s_.Lo, .i .i64 s_.Hi] 87), (1, .box [.i .i64 v_.Kind, .i .i64 v_.N, .s v_.S] 46)], [], 2⟩ htt 5 (by kernel_rfl) (?_))
      rcases oc' h with ⟨hc, h⟩ | ⟨hc, h⟩
      · refine WPq.kb 55 hc rfl (WPq.silx [] ⟨[(4, .c (.b false))], [], [], 2⟩ htt 7 (by kernel_rfl) (WPq.nil (?_)))
        cases h
        exact WP.ret htt Tryz.func60 [] rfl rfl rfl rfl
      refine WPq.kb 55 hc rfl (WPq.sil htt 1 rfl (?_))
      obtain ⟨x12, hx12, h⟩ := ob h
      refine WPq.call (z49_ct N v_ _ hx12) [] [] rfl rfl rfl rfl rfl rfl rfl rfl rfl rfl rfl rfl (WPq.silx [] ⟨[(4, .c (.b (decide (x12 ≤ s_.Hi))))], [], [], 2⟩ htt 5 (by kernel_rfl) (WPq.nil (?_)))
      cases h
      exact WP.ret htt Tryz.func60 [] rfl rfl rfl rfl
    rcases oc' h with ⟨hc, h⟩ | ⟨hc, h⟩
    · refine WPr.kb 28 hc rfl (WPr.silx [13, 14, 15, 16, 17] ⟨[(2, .c (.bp 0 0)), (3, .c (.bp 1 0)), (33, .c (.b false)), (37, .c (.b (v_.Kind == (1 : Int))))], [(0, .box [.i .i64 s_.Kind, .i .i64 s_.Lo, .i .i64 s_.Hi] 87), (1, .box [.i .i64 v_.Kind, .i .i64 v_.N, .s v_.S] 46)], [], 2⟩ htt 9 (by kernel_rfl) (?_))
      rcases oc h with ⟨hc, h⟩ | ⟨hc, h⟩
      · exact WPr.kb 37 hc rfl (WPr.silx [] ⟨[(2, .c (.bp 0 0)), (3, .c (.bp 1 0)), (42, .c (.b (!(v_.S.toList == (str []).toList))))], [(0, .box [.i .i64 s_.Kind, .i .i64 s_.Lo, .i .i64 s_.Hi] 87), (1, .box [.i .i64 v_.Kind, .i .i64 v_.N, .s v_.S] 46)], [], 2⟩ htt 5 (by kernel_rfl) (WPr.nil (WP.sub [] (j3 (!(v_.S.toList == (str []).toList)) h) rfl rfl rfl rfl)))
      exact WPr.kb 37 hc rfl (WPr.silx [] ⟨[(2, .c (.bp 0 0)), (3, .c (.bp 1 0)), (42, .c (.b false))], [(0, .box [.i .i64 s_.Kind, .i .i64 s_.Lo, .i .i64 s_.Hi] 87), (1, .box [.i .i64 v_.Kind, .i .i64 v_.N, .s v_.S] 46)], [], 2⟩ htt 5 (by kernel_rfl) (WPr.nil (WP.sub [] (j3 false h) rfl rfl rfl rfl)))
    refine WPr.kb 28 hc rfl (WPr.silx [9, 10, 11, 12, 13, 14, 15, 16, 17] ⟨[(2, .c (.bp 0 0)), (3, .c (.bp 1 0)), (33, .c (.b (v_.N != (0 : Int))))], [(0, .box [.i .i64 s_.Kind, .i .i64 s_.Lo, .i .i64 s_.Hi] 87), (1, .box [.i .i64 v_.Kind, .i .i64 v_.N, .s v_.S] 46)], [], 2⟩ htt 5 (by kernel_rfl) (?_))
    rcases oc h with ⟨hc, h⟩ | ⟨hc, h⟩
    · exact WPr.kb 33 hc rfl (WPr.silx [] ⟨[(2, .c (.bp 0 0)), (3, .c (.bp 1 0)), (42, .c (.b true))], [(0, .box [.i .i64 s_.Kind, .i .i64 s_.Lo, .i .i64 s_.Hi] 87), (1, .box [.i .i64 v_.Kind, .i .i64 v_.N, .s v_.S] 46)], [], 2⟩ htt 9 (by kernel_rfl) (WPr.nil (WP.sub [] (j3 true h) rfl rfl rfl rfl)))
    refine WPr.kb 33 hc rfl (WPr.silx [13, 14, 15, 16, 17] ⟨[(2, .c (.bp 0 0)), (3, .c (.bp 1 0)), (33, .c (.b false)), (37, .c (.b (v_.Kind == (1 : Int))))], [(0, .box [.i .i64 s_.Kind, .i .i64 s_.Lo, .i .i64 s_.Hi] 87), (1, .box [.i .i64 v_.Kind, .i .i64 v_.N, .s v_.S] 46)], [], 2⟩ htt 4 (by kernel_rfl) (?_))
    rcases oc h with ⟨hc, h⟩ | ⟨hc, h⟩
    · exact WPr.kb 37 hc rfl (WPr.silx [] ⟨[(2, .c (.bp 0 0)), (3, .c (.bp 1 0)), (42, .c (.b (!(v_.S.toList == (str []).toList))))], [(0, .box [.i .i64 s_.Kind, .i .i64 s_.Lo, .i .i64 s_.Hi] 87), (1, .box [.i .i64 v_.Kind, .i .i64 v_.N, .s v_.S] 46)], [], 2⟩ htt 5 (by kernel_rfl) (WPr.nil (WP.sub [] (j3 (!(v_.S.toList == (str []).toList)) h) rfl rfl rfl rfl)))
    exact WPr.kb 37 hc rfl (WPr.silx [] ⟨[(2, .c (.bp 0 0)), (3, .c (.bp 1 0)), (42, .c (.b false))], [(0, .box [.i .i64 s_.Kind, .i .i64 s_.Lo, .i .i64 s_.Hi] 87), (1, .box [.i .i64 v_.Kind, .i .i64 v_.N, .s v_.S] 46)], [], 2⟩ htt 5 (by kernel_rfl) (WPr.nil (WP.sub [] (j3 false h) rfl rfl rfl rfl)))
  refine WP.block (?_)
  refine WP.loopI (σ := Int) (fun st => ⟨[(2, .c (.bp 0 0)), (3, .c (.bp 1 0)), (5, .c (.i .i64 st))], [(0, .box [.i .i64 s_.Kind, .i .i64 s_.Lo, .i .i64 s_.Hi] 87), (1, .box [.i .i64 v_.Kind, .i .i64 v_.N, .s v_.S] 46)], [], 2⟩) (fun n st => z60_l3 N s_ v_ n st) (r := r) (fun _ => rfl) ?_ (fun ih => ?_)
  · intro n2 ih4
    intro v5_4 h
    replace h : z60_l3 N s_ v_ (n2 + 1) v5_4 = some r := h
    unfold z60_l3 at h
    refine WP.seq (WP.seq (WP.region (WPr.silx [] ⟨[(2, .c (.bp 0 0)), (3, .c (.bp 1 0)), (5, .c (.i .i64 v5_4)), (10, .c (.b (decide (v5_4 < (v_.S.size : Int)))))], [(0, .box [.i .i64 s_.Kind, .i .i64 s_.Lo, .i .i64 s_.Hi] 87), (1, .box [.i .i64 v_.Kind, .i .i64 v_.N, .s v_.S] 46)], [], 2⟩ htt 5 (by kernel_rfl) (WPr.nil (?_)))))
    rcases oc' h with ⟨hc, h⟩ | ⟨hc, h⟩
    · exact WP.condF hc rfl (WP.exit rfl (WP.sub [] (j1 () h) rfl rfl rfl rfl))
    refine WP.condT hc rfl (WP.skip (WP.seq (WP.block (WP.seq (WP.region (WPr.silx [3, 4, 5, 6, 7, 8, 9, 10, 11] ⟨[(2, .c (.bp 0 0)), (3, .c (.bp 1 0)), (5, .c (.i .i64 v5_4)), (14, .c (.s v_.S)), (15, .c (.i .i64 v5_4))], [(0, .box [.i .i64 s_.Kind, .i .i64 s_.Lo, .i .i64 s_.Hi] 87), (1, .box [.i .i64 v_.Kind, .i .i64 v_.N, .s v_.S] 46)], [], 2⟩ htt 3 (by kernel_rfl) (?_)))))))
    obtain ⟨x21, hx21, h⟩ := ob h
    refine WPr.sx htt hx21 rfl rfl rfl rfl rfl rfl rfl rfl rfl (WPr.silx [6, 7, 8, 9, 10, 11] ⟨[(2, .c (.bp 0 0)), (3, .c (.bp 1 0)), (5, .c (.i .i64 v5_4)), (18, .c (.b (decide (x21 < (32 : Int)))))], [(0, .box [.i .i64 s_.Kind, .i .i64 s_.Lo, .i .i64 s_.Hi] 87), (1, .box [.i .i64 v_.Kind, .i .i64 v_.N, .s v_.S] 46)], [], 2⟩ htt 2 (by kernel_rfl) (?_))
    rcases oc h with ⟨hc, h⟩ | ⟨hc, h⟩
    · refine WPr.kb 18 hc rfl (WPr.silx [] ⟨[(2, .c (.bp 0 0)), (3, .c (.bp 1 0)), (5, .c (.i .i64 v5_4)), (24, .c (.b true))], [(0, .box [.i .i64 s_.Kind, .i .i64 s_.Lo, .i .i64 s_.Hi] 87), (1, .box [.i .i64 v_.Kind, .i .i64 v_.N, .s v_.S] 46)], [], 2⟩ htt 6 (by kernel_rfl) (WPr.nil (WP.condT rfl rfl (WP.seq (WP.region (WPr.sil htt 1 rfl (WPr.nil (?_))))))))
      cases h
      exact WP.ret htt Tryz.func60 [] rfl rfl rfl rfl
    refine WPr.kb 18 hc rfl (WPr.silx [9, 10, 11] ⟨[(2, .c (.bp 0 0)), (3, .c (.bp 1 0)), (5, .c (.i .i64 v5_4)), (18, .c (.b false)), (20, .c (.s v_.S)), (21, .c (.i .i64 v5_4))], [(0, .box [.i .i64 s_.Kind, .i .i64 s_.Lo, .i .i64 s_.Hi] 87), (1, .box [.i .i64 v_.Kind, .i .i64 v_.N, .s v_.S] 46)], [], 2⟩ htt 3 (by kernel_rfl) (?_))
    obtain ⟨x22, hx22, h⟩ := ob h
    refine WPr.sx htt hx22 rfl rfl rfl rfl rfl rfl rfl rfl rfl (WPr.silx [] ⟨[(2, .c (.bp 0 0)), (3, .c (.bp 1 0)), (5, .c (.i .i64 v5_4)), (24, .c (.b (decide (x22 > (126 : Int)))))], [(0, .box [.i .i64 s_.Kind, .i .i64 s_.Lo, .i .i64 s_.Hi] 87), (1, .box [.i .i64 v_.Kind, .i .i64 v_.N, .s v_.S] 46)], [], 2⟩ htt 2 (by kernel_rfl) (WPr.nil (?_)))
    rcases oc h with ⟨hc, h⟩ | ⟨hc, h⟩
    · refine WP.condT hc rfl (WP.seq (WP.region (WPr.sil htt 1 rfl (WPr.nil (?_)))))
      cases h
      exact WP.ret htt Tryz.func60 [] rfl rfl rfl rfl
    exact WP.condF hc rfl (WP.skip (WP.inBlock (WP.region (WPr.silx [] ⟨[(2, .c (.bp 0 0)), (3, .c (.bp 1 0)), (5, .c (.i .i64 (w64 (v5_4 + (1 : Int)))))], [(0, .box [.i .i64 s_.Kind, .i .i64 s_.Lo, .i .i64 s_.Hi] 87), (1, .box [.i .i64 v_.Kind, .i .i64 v_.N, .s v_.S] 46)], [], 2⟩ htt 3 (by kernel_rfl) (WPr.nil (WP.sub [] (ih4 (w64 (v5_4 + (1 : Int))) h) rfl rfl rfl rfl))))))
  exact WP.sub [] (ih N (0 : Int) h) rfl rfl rfl rfl
theorem z19_ct (N : Nat) (decls_ : (List T0)) (known_ : (List T5)) (r : Bool) (h : z19 N decls_ known_ = some r) :
  Fn Tryz.prog 19 ⟨2, [.c (.sl 0), .c (.sl 1)], [(0, .sl rR0 decls_), (1, .sl rR5 known_)], [], 2, .c (.b r), [], []⟩ := by
  refine Fn.intro _ _ Tryz.func19 rfl (by kernel_rfl) rfl (fun E F w => ?_)
  unfold z19 at h
  refine WP.seq (WP.region (WPr.sil htt 1 rfl (WPr.nil (WP.seq (WP.seq (WP.region (WPr.silx [3, 4] ⟨[(0, .c (.sl 0)), (1, .c (.sl 1)), (4, .c (.b false)), (7, .c (.i .i64 (known_.length : Int))), (8, .c (.sl 0))], [], [(0, .sl rR0 decls_), (1, .sl rR5 known_)], 2⟩ htt 3 (by kernel_rfl) (?_))))))))
  obtain ⟨x1, hx1, h⟩ := ob h
  refine WPr.call (z55_ct N decls_ _ hx1) [(0, .sl 0)] [] rfl rfl rfl rfl rfl rfl rfl rfl (.inl rfl) rfl (WPr.silx [] ⟨[(0, .c (.sl 0)), (1, .c (.sl 1)), (4, .c (.b false)), (10, .c (.b ((known_.length : Int) != x1)))], [], [(0, .sl rR0 decls_), (1, .sl rR5 known_)], 2⟩ htt 1 (by kernel_rfl) (WPr.nil (?_)))
  rcases oc h with ⟨hc, h⟩ | ⟨hc, h⟩
  · refine WP.condT hc rfl (WP.seq (WP.region (WPr.sil htt 1 rfl (WPr.nil (?_)))))
    cases h
    exact WP.ret htt Tryz.func19 [] rfl rfl rfl rfl
  refine WP.condF hc rfl (WP.skip (WP.seq (WP.seq (WP.region (WPr.sil htt 1 rfl (WPr.nil (?_)))))))
  refine WP.cut (σ := Unit) (fun st => ⟨[], [], [(0, .sl rR0 decls_), (1, .sl rR5 known_)], 2⟩) (fun st => z19_k1 = some r) ?_ (fun j1 => ?_)
  · intro _ h
    replace h : z19_k1 = some r := h
    unfold z19_k1 at h
    refine WP.seq (WP.region (WPr.sil htt 1 rfl (WPr.nil (?_))))
    cases h
    exact WP.ret htt Tryz.func19 [] rfl rfl rfl rfl
  refine WP.block (?_)
  refine WP.loopI (σ := Int) (fun st => ⟨[(0, .c (.sl 0)), (1, .c (.sl 1)), (5, .c (.i .i64 st))], [], [(0, .sl rR0 decls_), (1, .sl rR5 known_)], 2⟩) (fun n st => z19_l2 N decls_ known_ n st) (r := r) (fun _ => rfl) ?_ (fun ih => ?_)
  · intro n2 ih3
    intro v5_3 h
    replace h : z19_l2 N decls_ known_ (n2 + 1) v5_3 = some r := h
    unfold z19_l2 at h
    refine WP.seq (WP.seq (WP.region (WPr.silx [] ⟨[(0, .c (.sl 0)), (1, .c (.sl 1)), (5, .c (.i .i64 v5_3)), (14, .c (.b (decide (v5_3 < (known_.length : Int)))))], [], [(0, .sl rR0 decls_), (1, .sl rR5 known_)], 2⟩ htt 4 (by kernel_rfl) (WPr.nil (?_)))))
    rcases oc' h with ⟨hc, h⟩ | ⟨hc, h⟩
    · exact WP.condF hc rfl (WP.exit rfl (WP.sub [] (j1 () h) rfl rfl rfl rfl))
    refine WP.condT hc rfl (WP.skip (WP.seq (WP.block (WP.seq (WP.regionQ (by kernel_rfl) (by kernel_rfl) (WPq.sil htt 2 rfl (?_)))))))
    obtain ⟨x70, hx70, h⟩ := ob h
    refine WPq.op rfl rfl (VN.vs (VN.ix oO5 htt hx70 rfl rfl rfl rfl rfl rfl rfl)) (WPq.silx [5, 6, 7, 8, 9, 10, 11, 12, 13, 14, 15, 16, 17] ⟨[(0, .c (.sl 0)), (1, .c (.sl 1)), (5, .c (.i .i64 v5_3)), (20, .a [.i .i64 x70.Kind, .i .i64 x70.N, .s x70.S]), (21, .a [.i .i64 (0 : Int), .i .i64 (0 : Int), .s (str [])])], [], [(0, .sl rR0 decls_), (1, .sl rR5 known_)], 3⟩ htt 2 (by kernel_rfl) (WPq.op rfl rfl (VN.vs (VN.eqa (neg := true) (equal_run (b := ((x70.Kind == (0 : Int)) && ((x70.N == (0 : Int)) && ((x70.S.toList == (str []).toList) && true)))) (by kernel_rfl) (by kernel_rfl)) (by kernel_rfl) rfl rfl rfl rfl rfl)) (WPq.sil htt 1 rfl (?_))))
    rcases oc' h with ⟨hc, h⟩ | ⟨hc, h⟩
    · exact WPq.kb 23 hc rfl (WPq.silx [] ⟨[(0, .c (.sl 0)), (1, .c (.sl 1)), (5, .c (.i .i64 v5_3)), (34, .c (.b false))], [], [(0, .sl rR0 decls_), (1, .sl rR5 known_)], 3⟩ htt 11 (by kernel_rfl) (WPq.nil (WP.condF rfl rfl (WP.skip (WP.inBlock (WP.region (WPr.silx [] ⟨[(0, .c (.sl 0)), (1, .c (.sl 1)), (5, .c (.i .i64 (w64 (v5_3 + (1 : Int)))))], [], [(0, .sl rR0 decls_), (1, .sl rR5 known_)], 3⟩ htt 3 (by kernel_rfl) (WPr.nil (WP.sub [] (ih3 (w64 (v5_3 + (1 : Int))) h) rfl rfl rfl rfl)))))))))
    refine WPq.kb 23 hc rfl (WPq.silx [9, 10, 11, 12, 13, 14, 15, 16, 17] ⟨[(0, .c (.sl 0)), (1, .c (.sl 1)), (5, .c (.i .i64 v5_3)), (23, .c (.b true)), (24, .c (.sl 0)), (25, .c (.i .i64 v5_3))], [], [(0, .sl rR0 decls_), (1, .sl rR5 known_)], 3⟩ htt 2 (by kernel_rfl) (?_))
    obtain ⟨x71, hx71, h⟩ := ob h
    refine WPq.call (z61_ct N decls_ v5_3 _ hx71) [(0, .sl 0)] [] rfl rfl rfl rfl rfl rfl rfl rfl rfl rfl rfl rfl (WPq.silx [13, 14, 15, 16, 17] ⟨[(0, .c (.sl 0)), (1, .c (.sl 1)), (5, .c (.i .i64 v5_3)), (23, .c (.b true)), (27, .a [.i .i64 x71.Sort'.Kind, .i .i64 x71.Sort'.Lo, .i .i64 x71.Sort'.Hi]), (28, .c (.sl 1)), (29, .c (.i .i64 v5_3))], [], [(0, .sl rR0 decls_), (1, .sl rR5 known_)], 3⟩ htt 3 (by kernel_rfl) (?_))
    obtain ⟨x72, hx72, h⟩ := ob h
    refine WPq.op rfl rfl (VN.vs (VN.ix oO5 htt hx72 rfl rfl rfl rfl rfl rfl rfl)) (WPq.sil htt 1 rfl (?_))
    obtain ⟨x73, hx73, h⟩ := ob h
    refine WPq.call (z60_ct N x71.Sort' x72 _ hx73) [] [] rfl rfl rfl rfl rfl rfl rfl rfl rfl rfl rfl rfl (WPq.silx [] ⟨[(0, .c (.sl 0)), (1, .c (.sl 1)), (5, .c (.i .i64 v5_3)), (34, .c (.b (!x73)))], [], [(0, .sl rR0 decls_), (1, .sl rR5 known_)], 4⟩ htt 2 (by kernel_rfl) (WPq.nil (?_)))
    rcases oc h with ⟨hc, h⟩ | ⟨hc, h⟩
    · refine WP.condT hc rfl (WP.seq (WP.region (WPr.sil htt 1 rfl (WPr.nil (?_)))))
      cases h
      exact WP.ret htt Tryz.func19 [] rfl rfl rfl rfl
    exact WP.condF hc rfl (WP.skip (WP.inBlock (WP.region (WPr.silx [] ⟨[(0, .c (.sl 0)), (1, .c (.sl 1)), (5, .c (.i .i64 (w64 (v5_3 + (1 : Int)))))], [], [(0, .sl rR0 decls_), (1, .sl rR5 known_)], 4⟩ htt 3 (by kernel_rfl) (WPr.nil (WP.sub [] (ih3 (w64 (v5_3 + (1 : Int))) h) rfl rfl rfl rfl))))))
  exact WP.sub [] (ih N (0 : Int) h) rfl rfl rfl rfl
theorem z79_ct (N : Nat) (l_ : (List T0)) (r : (List T2)) (h : z79 N l_ = some r) :
  Fn Tryz.prog 79 ⟨1, [.c (.sl 0)], [(0, .sl rR0 l_)], [], 2, .c (.sl 1), [], [(1, .own rR2 r true)]⟩ := by
  refine Fn.intro _ _ Tryz.func79 rfl (by kernel_rfl) rfl (fun E F w => ?_)
  unfold z79 at h
  refine WP.seq (WP.region (WPr.sil htt 1 rfl (WPr.nil (WP.seq (WP.region (WPr.sil htt 1 rfl (WPr.nil (WP.seq (WP.seq (WP.region (WPr.silx [] ⟨[(2, .c .nil), (3, .c .nil), (6, .c (.sl 0)), (7, .c (.i .i64 (l_.length : Int))), (8, .c (.i .i64 (0 : Int)))], [], [(0, .sl rR0 l_)], 1⟩ htt 3 (by kernel_rfl) (WPr.nil (?_)))))))))))))
  refine WP.cut (σ := (List T2)) (fun st => ⟨[(3, .c (.sl 1))], [(1, .own rR2 st true)], [(0, .sl rR0 l_)], 2⟩) (fun st => z79_k1 st = some r) ?_ (fun j1 => ?_)
  · intro v3_1 h
    replace h : z79_k1 v3_1 = some r := h
    unfold z79_k1 at h
    refine WP.seq (WP.region (WPr.sil htt 2 rfl (WPr.nil (?_))))
    cases h
    exact WP.ret htt Tryz.func79 [(1, .sl 1)] rfl rfl rfl rfl
  refine WP.block (?_)
  refine WP.loopI (σ := (List T2) × Int) (fun st => ⟨[(3, .c (.sl 1)), (6, .c (.sl 0)), (7, .c (.i .i64 (l_.length : Int))), (8, .c (.i .i64 st.2))], [(1, .own rR2 st.1 true)], [(0, .sl rR0 l_)], 2⟩) (fun n st => z79_l2 l_ n st.1 st.2) (r := r) (fun _ => rfl) ?_ (fun ih => ?_)
  · intro n2 ih3
    rintro ⟨v3_3, v8_3⟩ h
    replace h : z79_l2 l_ (n2 + 1) v3_3 v8_3 = some r := h
    unfold z79_l2 at h
    refine WP.seq (WP.region (WPr.sil htt 1 rfl (WPr.nil (WP.seq (?_)))))
    rcases oc' h with ⟨hc, h⟩ | ⟨hc, h⟩
    · exact WP.condF hc rfl (WP.exit rfl (WP.sub [] (j1 v3_3 h) rfl rfl rfl rfl))
    refine WP.condT hc rfl (WP.skip (WP.seq (WP.block (WP.seq (WP.region (?_))))))
    obtain ⟨x17, hx17, h⟩ := ob h
    refine WPr.ix oO0 htt hx17 rfl rfl rfl rfl rfl rfl rfl rfl rfl (WPr.silx [] ⟨[(3, .c (.sl 1)), (5, .c (.bp 6 0)), (6, .c (.sl 0)), (7, .c (.i .i64 (l_.length : Int))), (8, .c (.i .i64 v8_3))], [(1, .own rR2 v3_3 true), (6, .box [.s x17.Name, .sl 3, .i .i64 x17.First, .sl 4, .sl 5] 44)], [(0, .sl rR0 l_), (3, .sl rR2 x17.Fields), (4, .sl rR1 x17.Guard.Diffs), (5, .sl (rP (rI .i64) (rI .i64)) x17.Guard.Equals)], 7⟩ htt 3 (by kernel_rfl) (WPr.nil (WP.region (WPr.silx [3, 4] ⟨[(6, .c (.sl 0)), (7, .c (.i .i64 (l_.length : Int))), (8, .c (.i .i64 v8_3)), (12, .c (.sl 1)), (14, .c (.sl 3))], [(1, .own rR2 v3_3 true)], [(0, .sl rR0 l_), (3, .sl rR2 x17.Fields)], 7⟩ htt 3 (by kernel_rfl) (?_)))))
    obtain ⟨x18, hx18, h⟩ := ob h
    exact WPr.app htt hx18 (by exact (srcI rfl)) rfl rfl rfl rfl rfl rfl rfl rfl rfl rfl (WPr.silx [] ⟨[(3, .c (.sl 7)), (6, .c (.sl 0)), (7, .c (.i .i64 (l_.length : Int))), (8, .c (.i .i64 v8_3))], [(7, .own rR2 x18 true)], [(0, .sl rR0 l_)], 8⟩ htt 1 (by kernel_rfl) (WPr.nil (WP.inBlock (WP.region (WPr.sil htt 2 rfl (WPr.nil (WP.sub [(1, .sl 7)] (ih3 (x18, (w64 (v8_3 + (1 : Int)))) h) rfl rfl rfl rfl)))))))
  exact WP.sub [(1, .nil)] (ih N (([] : List T2), (0 : Int)) h) rfl rfl rfl rfl
theorem z276_ct (N : Nat) (s_ : ByteArray) (r : Int) (h : z276 N s_ = some r) :
  Fn Tryz.prog 276 ⟨0, [.c (.s s_)], [], [], 0, .c (.i .i64 r), [], []⟩ := by
  refine Fn.intro _ _ Tryz.func276 rfl (by kernel_rfl) rfl (fun E F w => ?_)
  unfold z276 at h
  refine WP.seq (WP.region (WPr.sil htt 1 rfl (WPr.nil (WP.seq (WP.seq (WP.region (WPr.sil htt 1 rfl (WPr.rng htt rfl rfl rfl rfl rfl rfl rfl rfl (fun bk1 => WPr.silx [] ⟨[(2, .c (.i .i64 (0 : Int))), (4, .c (.v (.pointer (some ⟨bk1, 0, none⟩))))], [(0, .abs (itR bk1 s_ (0 : Nat)))], [], 1⟩ htt 0 (by kernel_rfl) (WPr.nil (?_)))))))))))
  refine WP.cut (σ := Int × Nat) (fun st => ⟨[(2, .c (.i .i64 st.1))], [(0, .abs (itR bk1 s_ st.2))], [], 1⟩) (fun st => z276_k1 st.1 st.2 = some r) ?_ (fun j1 => ?_)
  · rintro ⟨v2_1, vi0_1⟩ h
    replace h : z276_k1 v2_1 vi0_1 = some r := h
    unfold z276_k1 at h
    refine WP.seq (WP.region (WPr.sil htt 2 rfl (WPr.nil (?_))))
    cases h
    exact WP.ret htt Tryz.func276 [] rfl rfl rfl rfl
  refine WP.block (?_)
  refine WP.loopI (σ := Int × Nat) (fun st => ⟨[(2, .c (.i .i64 st.1)), (4, .c (.v (.pointer (some ⟨bk1, 0, none⟩))))], [(0, .abs (itR bk1 s_ st.2))], [], 1⟩) (fun n st => z276_l2 s_ n st.1 st.2) (r := r) (fun _ => rfl) ?_ (fun ih => ?_)
  · intro n2 ih3
    rintro ⟨v2_3, vi0_3⟩ h
    replace h : z276_l2 s_ (n2 + 1) v2_3 vi0_3 = some r := h
    unfold z276_l2 at h
    refine WP.seq (WP.region (?_))
    rcases oc h with ⟨hc, h⟩ | ⟨hc, h⟩
    · exact WPr.nxtT 0 hc rfl rfl rfl rfl rfl rfl rfl (WPr.sil htt 1 rfl (WPr.nil (WP.seq (WP.condT rfl rfl (WP.skip (WP.block (WP.region (WPr.silx [] ⟨[(2, .c (.i .i64 (w64 (v2_3 + (1 : Int))))), (4, .c (.v (.pointer (some ⟨bk1, 0, none⟩))))], [(0, .abs (itR bk1 s_ (vi0_3 + (Utf8.decode s_ vi0_3).2)))], [], 1⟩ htt 3 (by kernel_rfl) (WPr.nil (WP.inBlock (WP.sub [] (ih3 ((w64 (v2_3 + (1 : Int))), (vi0_3 + (Utf8.decode s_ vi0_3).2)) h) rfl rfl rfl rfl)))))))))))
    exact WPr.nxtF 0 hc rfl rfl rfl rfl rfl rfl rfl (WPr.sil htt 1 rfl (WPr.nil (WP.seq (WP.condF rfl rfl (WP.exit rfl (WP.sub [] (j1 (v2_3, vi0_3) h) rfl rfl rfl rfl))))))
  exact WP.sub [] (ih N ((0 : Int), (0 : Nat)) h) rfl rfl rfl rfl
theorem z283_ct (N : Nat) (s_ : ByteArray) (r : Int × Int) (h : z283 N s_ = some r) :
  Fn Tryz.prog 283 ⟨0, [.c (.s s_)], [], [], 0, .t [.inl (.i .i32 r.1), .inl (.i .i64 r.2)], [], []⟩ := by
  refine Fn.intro _ _ Tryz.func283 rfl (by kernel_rfl) rfl (fun E F w => ?_)
  unfold z283 at h
  refine WP.seq (WP.region (WPr.sil htt 2 rfl (WPr.nil (WP.seq (WP.region (WPr.silx [] ⟨[(0, .c (.s s_)), (2, .c (.i .i32 (0 : Int))), (3, .c (.i .i64 (0 : Int))), (4, .c (.i .i64 (s_.size : Int)))], [], [], 0⟩ htt 3 (by kernel_rfl) (WPr.nil (WP.seq (WP.seq (WP.region (WPr.sil htt 2 rfl (WPr.nil (?_)))))))))))))
  rcases oc h with ⟨hc, h⟩ | ⟨hc, h⟩
  · refine WP.condT hc rfl (WP.seq (WP.region (WPr.silx [] ⟨[(2, .c (.i .i32 (65533 : Int))), (3, .c (.i .i64 (0 : Int)))], [], [], 0⟩ htt 2 (by kernel_rfl) (WPr.nil (?_)))))
    cases h
    exact WP.ret htt Tryz.func283 [] rfl rfl rfl rfl
  refine WP.condF hc rfl (WP.skip (WP.seq (WP.region (WPr.silx [1, 2] ⟨[(0, .c (.s s_)), (2, .c (.i .i32 (0 : Int))), (3, .c (.i .i64 (0 : Int))), (4, .c (.i .i64 (s_.size : Int))), (17, .c (.s s_))], [], [], 0⟩ htt 1 (by kernel_rfl) (?_)))))
  obtain ⟨x1, hx1, h⟩ := ob h
  refine WPr.sx htt hx1 rfl rfl rfl rfl rfl rfl rfl rfl rfl (WPr.sil htt 1 rfl (WPr.nil (WP.seq (WP.region (WPr.silx [1, 2, 3] ⟨[(0, .c (.s s_)), (2, .c (.i .i32 (0 : Int))), (3, .c (.i .i64 (0 : Int))), (4, .c (.i .i64 (s_.size : Int))), (5, .c (.i .u8 x1)), (19, .c (.i .u8 x1))], [], [], 0⟩ htt 1 (by kernel_rfl) (?_))))))
  cases h
theorem z277_ct (N : Nat) (s_ : ByteArray) (r : Int × Int) (h : z277 N s_ = some r) :
  Fn Tryz.prog 277 ⟨0, [.c (.s s_)], [], [], 0, .t [.inl (.i .i32 r.1), .inl (.i .i64 r.2)], [], []⟩ := by
  refine Fn.intro _ _ Tryz.func277 rfl (by kernel_rfl) rfl (fun E F w => ?_)
  unfold z277 at h
  refine WP.seq (WP.region (WPr.sil htt 2 rfl (WPr.nil (WP.seq (WP.seq (WP.region (WPr.silx [3, 4, 5, 6] ⟨[(0, .c (.s s_)), (2, .c (.i .i32 (0 : Int))), (3, .c (.i .i64 (0 : Int))), (6, .c (.b (!(s_.toList == (str []).toList))))], [], [], 0⟩ htt 3 (by kernel_rfl) (?_))))))))
  rcases oc' h with ⟨hc, h⟩ | ⟨hc, h⟩
  · refine WPr.kb 6 hc rfl (WPr.silx [] ⟨[(0, .c (.s s_)), (2, .c (.i .i32 (0 : Int))), (3, .c (.i .i64 (0 : Int))), (10, .c (.b false))], [], [], 0⟩ htt 4 (by kernel_rfl) (WPr.nil (WP.condF rfl rfl (WP.region (WPr.sil htt 1 rfl (?_))))))
    obtain ⟨x4, hx4, h⟩ := ob h
    refine WPr.call (z283_ct N s_ _ hx4) [] [] rfl rfl rfl rfl rfl rfl rfl rfl (.inl rfl) rfl (WPr.silx [] ⟨[(2, .c (.i .i32 x4.1)), (3, .c (.i .i64 x4.2))], [], [], 0⟩ htt 5 (by kernel_rfl) (WPr.nil (?_)))
    cases h
    exact WP.ret htt Tryz.func277 [] rfl rfl rfl rfl
  refine WPr.kb 6 hc rfl (WPr.sil htt 1 rfl (?_))
  obtain ⟨x1, hx1, h⟩ := ob h
  refine WPr.sx htt hx1 rfl rfl rfl rfl rfl rfl rfl rfl rfl (WPr.silx [] ⟨[(0, .c (.s s_)), (2, .c (.i .i32 (0 : Int))), (3, .c (.i .i64 (0 : Int))), (10, .c (.b (decide (x1 < (128 : Int)))))], [], [], 0⟩ htt 2 (by kernel_rfl) (WPr.nil (?_)))
  rcases oc h with ⟨hc, h⟩ | ⟨hc, h⟩
  · refine WP.condT hc rfl (WP.seq (WP.region (WPr.sil htt 1 rfl (?_))))
    obtain ⟨x2, hx2, h⟩ := ob h
    refine WPr.sx htt hx2 rfl rfl rfl rfl rfl rfl rfl rfl rfl (WPr.silx [] ⟨[(2, .c (.i .i32 (wk .i32 (x2)))), (3, .c (.i .i64 (1 : Int)))], [], [], 0⟩ htt 3 (by kernel_rfl) (WPr.nil (?_)))
    cases h
    exact WP.ret htt Tryz.func277 [] rfl rfl rfl rfl
  refine WP.condF hc rfl (WP.region (WPr.sil htt 1 rfl (?_)))
  obtain ⟨x3, hx3, h⟩ := ob h
  refine WPr.call (z283_ct N s_ _ hx3) [] [] rfl rfl rfl rfl rfl rfl rfl rfl (.inl rfl) rfl (WPr.silx [] ⟨[(2, .c (.i .i32 x3.1)), (3, .c (.i .i64 x3.2))], [], [], 0⟩ htt 5 (by kernel_rfl) (WPr.nil (?_)))
  cases h
  exact WP.ret htt Tryz.func277 [] rfl rfl rfl rfl
theorem z261_ct (N : Nat) (s_ : ByteArray) (n_ : Int) (r : (List ByteArray)) (h : z261 N s_ n_ = some r) :
  Fn Tryz.prog 261 ⟨0, [.c (.s s_), .c (.i .i64 n_)], [], [], 1, .c (.sl 0), [], [(0, .own rS r true)]⟩ := by
  refine Fn.intro _ _ Tryz.func261 rfl (by kernel_rfl) rfl (fun E F w => ?_)
  unfold z261 at h
  refine WP.seq (WP.region (WPr.sil htt 1 rfl (WPr.nil (WP.seq (WP.region (WPr.sil htt 1 rfl (?_)))))))
  obtain ⟨x1, hx1, h⟩ := ob h
  refine WPr.call (z276_ct N s_ _ hx1) [] [] rfl rfl rfl rfl rfl rfl rfl rfl (.inl rfl) rfl (WPr.silx [] ⟨[(0, .c (.s s_)), (1, .c (.i .i64 n_)), (4, .c .nil), (5, .c (.i .i64 x1))], [], [], 0⟩ htt 1 (by kernel_rfl) (WPr.nil (WP.seq (WP.seq (WP.region (WPr.silx [3, 4, 5, 6] ⟨[(0, .c (.s s_)), (1, .c (.i .i64 n_)), (4, .c .nil), (5, .c (.i .i64 x1)), (14, .c (.b (decide (n_ < (0 : Int)))))], [], [], 0⟩ htt 3 (by kernel_rfl) (?_)))))))
  refine WP.cutr (σ := Bool) (fun st => ⟨[(0, .c (.s s_)), (1, .c (.i .i64 n_)), (5, .c (.i .i64 x1)), (18, .c (.b st))], [], [], 0⟩) (fun st => z261_k4 N s_ n_ x1 st = some r) ?_ (fun j1 => ?_)
  · intro v18_1 h
    replace h : z261_k4 N s_ n_ x1 v18_1 = some r := h
    unfold z261_k4 at h
    refine WP.cut (σ := Int) (fun st => ⟨[(0, .c (.s s_)), (1, .c (.i .i64 st))], [], [], 0⟩) (fun st => z261_k3 N s_ st = some r) ?_ (fun j2 => ?_)
    · intro v1_2 h
      replace h : z261_k3 N s_ v1_2 = some r := h
      unfold z261_k3 at h
      refine WP.seq (WP.region (WPr.sil htt 1 rfl (?_)))
      obtain ⟨x2, hx2, h⟩ := ob h
      refine WPr.mk oS htt (str []) hx2 rfl rfl rfl rfl rfl rfl rfl rfl (by exact an rfl rfl) rfl (WPr.silx [] ⟨[(0, .c (.s s_)), (1, .c (.i .i64 v1_2)), (6, .c (.sl 0))], [(0, .own rS x2 true)], [], 1⟩ htt 1 (by kernel_rfl) (WPr.nil (WP.seq (WP.seq (WP.region (WPr.sil htt 1 rfl (WPr.nil (?_))))))))
      refine WP.cut (σ := ByteArray × (List ByteArray)) (fun st => ⟨[(0, .c (.s st.1)), (1, .c (.i .i64 v1_2)), (6, .c (.sl 0))], [(0, .own rS st.2 true)], [], 1⟩) (fun st => z261_k1 v1_2 st.1 st.2 = some r) ?_ (fun j3 => ?_)
      · rintro ⟨v0_3, v6_3⟩ h
        replace h : z261_k1 v1_2 v0_3 v6_3 = some r := h
        unfold z261_k1 at h
        refine WP.seq (WP.seq (WP.region (WPr.sil htt 2 rfl (WPr.nil (?_)))))
        rcases oc' h with ⟨hc, h⟩ | ⟨hc, h⟩
        · refine WP.condF hc rfl (WP.skip (WP.seq (WP.region (WPr.silx [] ⟨[(4, .c (.sl 0))], [(0, .own rS v6_3 true)], [], 1⟩ htt 2 (by kernel_rfl) (WPr.nil (?_))))))
          cases h
          exact WP.ret htt Tryz.func261 [(0, .sl 0)] rfl rfl rfl rfl
        refine WP.condT hc rfl (WP.region (WPr.silx [4, 5] ⟨[(6, .c (.sl 0)), (44, .c (.sl 0)), (46, .c (.i .i64 (w64 (v1_2 - (1 : Int))))), (47, .c (.s v0_3))], [(0, .own rS v6_3 true)], [], 1⟩ htt 4 (by kernel_rfl) (?_)))
        obtain ⟨x19, hx19, h⟩ := ob h
        refine WPr.ixo htt hx19 rfl rfl rfl rfl rfl rfl rfl rfl rfl (WPr.sto oS htt v0_3 hx19 rfl rfl rfl rfl rfl rfl rfl rfl rfl rfl (by exact rfl) rfl (WPr.nil (WP.seq (WP.region (WPr.silx [] ⟨[(4, .c (.sl 0))], [(0, .own rS (setL' v6_3 (w64 (v1_2 - (1 : Int))) v0_3) true)], [], 2⟩ htt 2 (by kernel_rfl) (WPr.nil (?_)))))))
        cases h
        exact WP.ret htt Tryz.func261 [(0, .sl 0)] rfl rfl rfl rfl
      refine WP.block (?_)
      refine WP.loopI (σ := ByteArray × (List ByteArray) × Int) (fun st => ⟨[(0, .c (.s st.1)), (1, .c (.i .i64 v1_2)), (6, .c (.sl 0)), (7, .c (.i .i64 st.2.2))], [(0, .own rS st.2.1 true)], [], 1⟩) (fun n st => z261_l2 N v1_2 n st.1 st.2.1 st.2.2) (r := r) (fun _ => rfl) ?_ (fun ih => ?_)
      · intro n2 ih5
        rintro ⟨v0_5, v6_5, v7_5⟩ h
        replace h : z261_l2 N v1_2 (n2 + 1) v0_5 v6_5 v7_5 = some r := h
        unfold z261_l2 at h
        refine WP.seq (WP.seq (WP.region (WPr.silx [] ⟨[(0, .c (.s v0_5)), (1, .c (.i .i64 v1_2)), (6, .c (.sl 0)), (7, .c (.i .i64 v7_5)), (25, .c (.b (decide (v7_5 < (w64 (v1_2 - (1 : Int)))))))], [(0, .own rS v6_5 true)], [], 1⟩ htt 4 (by kernel_rfl) (WPr.nil (?_)))))
        rcases oc' h with ⟨hc, h⟩ | ⟨hc, h⟩
        · exact WP.condF hc rfl (WP.exit rfl (WP.sub [] (j3 (v0_5, v6_5) h) rfl rfl rfl rfl))
        refine WP.condT hc rfl (WP.skip (WP.seq (WP.block (WP.seq (WP.region (WPr.sil htt 1 rfl (?_)))))))
        obtain ⟨x36, hx36, h⟩ := ob h
        refine WPr.call (z277_ct N v0_5 _ hx36) [] [] rfl rfl rfl rfl rfl rfl rfl rfl (.inl rfl) rfl (WPr.silx [] ⟨[(0, .c (.s v0_5)), (1, .c (.i .i64 v1_2)), (6, .c (.sl 0)), (7, .c (.i .i64 v7_5)), (9, .c (.i .i64 x36.2))], [(0, .own rS v6_5 true)], [], 1⟩ htt 5 (by kernel_rfl) (WPr.nil (WP.seq (WP.region (WPr.silx [4, 5, 6] ⟨[(0, .c (.s v0_5)), (1, .c (.i .i64 v1_2)), (6, .c (.sl 0)), (7, .c (.i .i64 v7_5)), (9, .c (.i .i64 x36.2)), (33, .c (.sl 0)), (34, .c (.i .i64 v7_5)), (35, .c (.s v0_5)), (36, .c (.i .i64 x36.2))], [(0, .own rS v6_5 true)], [], 1⟩ htt 4 (by kernel_rfl) (?_))))))
        obtain ⟨x37, hx37, h⟩ := ob h
        refine WPr.ssl htt (l := none) (h := some (.i64, x36.2)) hx37 rfl rfl rfl rfl rfl rfl rfl rfl rfl rfl (?_)
        obtain ⟨x38, hx38, h⟩ := ob h
        refine WPr.ixo htt hx38 rfl rfl rfl rfl rfl rfl rfl rfl rfl (WPr.sto oS htt x37 hx38 rfl rfl rfl rfl rfl rfl rfl rfl rfl rfl (by exact rfl) rfl (WPr.silx [] ⟨[(0, .c (.s v0_5)), (1, .c (.i .i64 v1_2)), (6, .c (.sl 0)), (7, .c (.i .i64 v7_5)), (9, .c (.i .i64 x36.2))], [(0, .own rS (setL' v6_5 v7_5 x37) true)], [], 2⟩ htt 0 (by kernel_rfl) (WPr.nil (WP.region (WPr.sil htt 2 rfl (?_))))))
        obtain ⟨x39, hx39, h⟩ := ob h
        exact WPr.ssl htt (l := some (.i64, x36.2)) (h := none) hx39 rfl rfl rfl rfl rfl rfl rfl rfl rfl rfl (WPr.silx [] ⟨[(0, .c (.s x39)), (1, .c (.i .i64 v1_2)), (6, .c (.sl 0)), (7, .c (.i .i64 v7_5))], [(0, .own rS (setL' v6_5 v7_5 x37) true)], [], 2⟩ htt 1 (by kernel_rfl) (WPr.nil (WP.inBlock (WP.region (WPr.silx [] ⟨[(0, .c (.s x39)), (1, .c (.i .i64 v1_2)), (6, .c (.sl 0)), (7, .c (.i .i64 (w64 (v7_5 + (1 : Int)))))], [(0, .own rS (setL' v6_5 v7_5 x37) true)], [], 2⟩ htt 3 (by kernel_rfl) (WPr.nil (WP.sub [] (ih5 (x39, (setL' v6_5 v7_5 x37), (w64 (v7_5 + (1 : Int)))) h) rfl rfl rfl rfl)))))))
      exact WP.sub [] (ih N (s_, x2, (0 : Int)) h) rfl rfl rfl rfl
    rcases oc h with ⟨hc, h⟩ | ⟨hc, h⟩
    · exact WP.condT hc rfl (WP.region (WPr.sil htt 2 rfl (WPr.nil (WP.sub [] (j2 x1 h) rfl rfl rfl rfl))))
    exact WP.condF hc rfl (WP.skip (WP.sub [] (j2 n_ h) rfl rfl rfl rfl))
  rcases oc h with ⟨hc, h⟩ | ⟨hc, h⟩
  · exact WPr.kb 14 hc rfl (WPr.silx [] ⟨[(0, .c (.s s_)), (1, .c (.i .i64 n_)), (4, .c .nil), (5, .c (.i .i64 x1)), (18, .c (.b true))], [], [], 0⟩ htt 4 (by kernel_rfl) (WPr.nil (WP.sub [] (j1 true h) rfl rfl rfl rfl)))
  exact WPr.kb 14 hc rfl (WPr.silx [] ⟨[(0, .c (.s s_)), (1, .c (.i .i64 n_)), (4, .c .nil), (5, .c (.i .i64 x1)), (18, .c (.b (decide (n_ > x1))))], [], [], 0⟩ htt 4 (by kernel_rfl) (WPr.nil (WP.sub [] (j1 (decide (n_ > x1)) h) rfl rfl rfl rfl)))
theorem z235_ct (N : Nat) (s_ : ByteArray) (c_ : Int) (r : Int) (h : z235 N s_ c_ = some r) :
  Fn Tryz.prog 235 ⟨0, [.c (.s s_), .c (.i .u8 c_)], [], [], 0, .c (.i .i64 r), [], []⟩ := by
  refine Fn.intro _ _ Tryz.func235 rfl (by kernel_rfl) rfl (fun E F w => ?_)
  unfold z235 at h
  refine WP.seq (WP.region (WPr.sil htt 1 rfl (WPr.nil (WP.seq (WP.region (WPr.silx [2, 3] ⟨[(5, .c (.s s_)), (6, .c (.i .u8 c_))], [], [], 0⟩ htt 2 (by kernel_rfl) (WPr.ext (ext_indexByte Tryz.func266 (by kernel_rfl) (by kernel_rfl) (by kernel_rfl) (by kernel_rfl) s_ c_) (fun _ => trivial) rfl rfl rfl rfl rfl rfl (WPr.silx [] ⟨[(4, .c (.i .i64 (firstB s_ c_)))], [], [], 0⟩ htt 1 (by kernel_rfl) (WPr.nil (?_))))))))))
  cases h
  exact WP.ret htt Tryz.func235 [] rfl rfl rfl rfl
theorem z267_ct (N : Nat) (s_ : ByteArray) (substr_ : ByteArray) (r : Int) (h : z267 N s_ substr_ = some r) :
  Fn Tryz.prog 267 ⟨0, [.c (.s s_), .c (.s substr_)], [], [], 0, .c (.i .i64 r), [], []⟩ := by
  refine Fn.intro _ _ Tryz.func267 rfl (by kernel_rfl) rfl (fun E F w => ?_)
  unfold z267 at h
  refine WP.seq (WP.region (WPr.sil htt 1 rfl (WPr.nil (WP.seq (WP.region (WPr.silx [] ⟨[(0, .c (.s s_)), (1, .c (.s substr_)), (4, .c (.i .i64 (0 : Int))), (5, .c (.i .i64 (substr_.size : Int)))], [], [], 0⟩ htt 3 (by kernel_rfl) (WPr.nil (WP.seq (WP.block (WP.seq (WP.region (WPr.silx [3, 4, 5, 6, 7] ⟨[(0, .c (.s s_)), (1, .c (.s substr_)), (4, .c (.i .i64 (0 : Int))), (5, .c (.i .i64 (substr_.size : Int))), (19, .c (.b ((substr_.size : Int) == (0 : Int))))], [], [], 0⟩ htt 3 (by kernel_rfl) (?_)))))))))))))
  rcases oc h with ⟨hc, h⟩ | ⟨hc, h⟩
  · refine WPr.kb 19 hc rfl (WPr.silx [] ⟨[(0, .c (.s s_)), (1, .c (.s substr_)), (4, .c (.i .i64 (0 : Int))), (5, .c (.i .i64 (substr_.size : Int))), (16, .c (.b true))], [], [], 0⟩ htt 5 (by kernel_rfl) (WPr.nil (WP.condT rfl rfl (WP.seq (WP.region (WPr.sil htt 1 rfl (WPr.nil (?_))))))))
    cases h
    exact WP.ret htt Tryz.func267 [] rfl rfl rfl rfl
  refine WPr.kb 19 hc rfl (WPr.silx [] ⟨[(0, .c (.s s_)), (1, .c (.s substr_)), (4, .c (.i .i64 (0 : Int))), (5, .c (.i .i64 (substr_.size : Int))), (16, .c (.b (substr_.toList == s_.toList)))], [], [], 0⟩ htt 5 (by kernel_rfl) (WPr.nil (?_)))
  rcases oc h with ⟨hc, h⟩ | ⟨hc, h⟩
  · refine WP.condT hc rfl (WP.seq (WP.region (WPr.sil htt 1 rfl (WPr.nil (?_)))))
    cases h
    exact WP.ret htt Tryz.func267 [] rfl rfl rfl rfl
  refine WP.condF hc rfl (WP.seq (WP.region (WPr.silx [] ⟨[(0, .c (.s s_)), (1, .c (.s substr_)), (4, .c (.i .i64 (0 : Int))), (5, .c (.i .i64 (substr_.size : Int))), (24, .c (.b ((substr_.size : Int) == (1 : Int))))], [], [], 0⟩ htt 3 (by kernel_rfl) (WPr.nil (?_)))))
  rcases oc h with ⟨hc, h⟩ | ⟨hc, h⟩
  · refine WP.condT hc rfl (WP.seq (WP.region (WPr.sil htt 2 rfl (?_))))
    obtain ⟨x1, hx1, h⟩ := ob h
    refine WPr.sx htt hx1 rfl rfl rfl rfl rfl rfl rfl rfl rfl (WPr.silx [3, 4] ⟨[(27, .c (.s s_)), (29, .c (.i .u8 x1))], [], [], 0⟩ htt 0 (by kernel_rfl) (?_))
    obtain ⟨x2, hx2, h⟩ := ob h
    refine WPr.call (z235_ct N s_ x1 _ hx2) [] [] rfl rfl rfl rfl rfl rfl rfl rfl (.inl rfl) rfl (WPr.silx [] ⟨[(4, .c (.i .i64 x2))], [], [], 0⟩ htt 1 (by kernel_rfl) (WPr.nil (?_)))
    cases h
    exact WP.ret htt Tryz.func267 [] rfl rfl rfl rfl
  refine WP.condF hc rfl (WP.seq (WP.region (WPr.silx [] ⟨[(0, .c (.s s_)), (1, .c (.s substr_)), (4, .c (.i .i64 (0 : Int))), (5, .c (.i .i64 (substr_.size : Int))), (31, .c (.b (decide ((substr_.size : Int) ≥ (s_.size : Int)))))], [], [], 0⟩ htt 5 (by kernel_rfl) (WPr.nil (?_)))))
  rcases oc h with ⟨hc, h⟩ | ⟨hc, h⟩
  · refine WP.condT hc rfl (WP.seq (WP.region (WPr.sil htt 1 rfl (WPr.nil (?_)))))
    cases h
    exact WP.ret htt Tryz.func267 [] rfl rfl rfl rfl
  refine WP.condF hc rfl (WP.seq (WP.region (WPr.sil htt 1 rfl (?_))))
  cases h
theorem z236_ct (N : Nat) (s_ : ByteArray) (substr_ : ByteArray) (r : Int) (h : z236 N s_ substr_ = some r) :
  Fn Tryz.prog 236 ⟨0, [.c (.s s_), .c (.s substr_)], [], [], 0, .c (.i .i64 r), [], []⟩ := by
  refine Fn.intro _ _ Tryz.func236 rfl (by kernel_rfl) rfl (fun E F w => ?_)
  unfold z236 at h
  refine WP.seq (WP.region (WPr.sil htt 1 rfl (WPr.nil (WP.seq (WP.region (WPr.silx [2, 3] ⟨[(5, .c (.s s_)), (6, .c (.s substr_))], [], [], 0⟩ htt 2 (by kernel_rfl) (?_)))))))
  obtain ⟨x1, hx1, h⟩ := ob h
  refine WPr.call (z267_ct N s_ substr_ _ hx1) [] [] rfl rfl rfl rfl rfl rfl rfl rfl (.inl rfl) rfl (WPr.silx [] ⟨[(4, .c (.i .i64 x1))], [], [], 0⟩ htt 1 (by kernel_rfl) (WPr.nil (?_)))
  cases h
  exact WP.ret htt Tryz.func236 [] rfl rfl rfl rfl
theorem z262_ct (N : Nat) (s_ : ByteArray) (substr_ : ByteArray) (r : Int) (h : z262 N s_ substr_ = some r) :
  Fn Tryz.prog 262 ⟨0, [.c (.s s_), .c (.s substr_)], [], [], 0, .c (.i .i64 r), [], []⟩ := by
  refine Fn.intro _ _ Tryz.func262 rfl (by kernel_rfl) rfl (fun E F w => ?_)
  unfold z262 at h
  refine WP.seq (WP.region (WPr.sil htt 1 rfl (WPr.nil (WP.seq (WP.seq (WP.region (WPr.silx [] ⟨[(0, .c (.s s_)), (1, .c (.s substr_)), (4, .c (.i .i64 (0 : Int))), (9, .c (.b ((substr_.size : Int) == (0 : Int))))], [], [], 0⟩ htt 3 (by kernel_rfl) (WPr.nil (?_)))))))))
  rcases oc h with ⟨hc, h⟩ | ⟨hc, h⟩
  · refine WP.condT hc rfl (WP.seq (WP.region (WPr.sil htt 1 rfl (?_))))
    obtain ⟨x1, hx1, h⟩ := ob h
    refine WPr.call (z276_ct N s_ _ hx1) [] [] rfl rfl rfl rfl rfl rfl rfl rfl (.inl rfl) rfl (WPr.silx [] ⟨[(4, .c (.i .i64 (w64 (x1 + (1 : Int)))))], [], [], 0⟩ htt 2 (by kernel_rfl) (WPr.nil (?_)))
    cases h
    exact WP.ret htt Tryz.func262 [] rfl rfl rfl rfl
  refine WP.condF hc rfl (WP.skip (WP.seq (WP.seq (WP.region (WPr.silx [] ⟨[(0, .c (.s s_)), (1, .c (.s substr_)), (4, .c (.i .i64 (0 : Int))), (15, .c (.b ((substr_.size : Int) == (1 : Int))))], [], [], 0⟩ htt 3 (by kernel_rfl) (WPr.nil (?_)))))))
  rcases oc h with ⟨hc, h⟩ | ⟨hc, h⟩
  · refine WP.condT hc rfl (WP.seq (WP.region (WPr.sil htt 2 rfl (?_))))
    obtain ⟨x2, hx2, h⟩ := ob h
    refine WPr.sx htt hx2 rfl rfl rfl rfl rfl rfl rfl rfl rfl (WPr.silx [3, 4] ⟨[(16, .c (.s s_)), (18, .c (.i .u8 x2))], [], [], 0⟩ htt 0 (by kernel_rfl) (WPr.ext (ext_countByte Tryz.func278 (by kernel_rfl) (by kernel_rfl) (by kernel_rfl) (by kernel_rfl) s_ x2) (fun _ => trivial) rfl rfl rfl rfl rfl rfl (WPr.silx [] ⟨[(4, .c (.i .i64 (countB s_ x2)))], [], [], 0⟩ htt 1 (by kernel_rfl) (WPr.nil (?_)))))
    cases h
    exact WP.ret htt Tryz.func262 [] rfl rfl rfl rfl
  refine WP.condF hc rfl (WP.skip (WP.seq (WP.region (WPr.sil htt 1 rfl (WPr.nil (WP.block (?_)))))))
  refine WP.loopI (σ := ByteArray × Int) (fun st => ⟨[(0, .c (.s st.1)), (1, .c (.s substr_)), (5, .c (.i .i64 st.2))], [], [], 0⟩) (fun n st => z262_l1 N substr_ n st.1 st.2) (r := r) (fun _ => rfl) ?_ (fun ih => ?_)
  · intro n1 ih1
    rintro ⟨v0_1, v5_1⟩ h
    replace h : z262_l1 N substr_ (n1 + 1) v0_1 v5_1 = some r := h
    unfold z262_l1 at h
    refine WP.block (WP.seq (WP.region (WPr.sil htt 2 rfl (?_))))
    obtain ⟨x11, hx11, h⟩ := ob h
    refine WPr.call (z236_ct N v0_1 substr_ _ hx11) [] [] rfl rfl rfl rfl rfl rfl rfl rfl (.inl rfl) rfl (WPr.silx [] ⟨[(0, .c (.s v0_1)), (1, .c (.s substr_)), (5, .c (.i .i64 v5_1)), (6, .c (.i .i64 x11))], [], [], 0⟩ htt 1 (by kernel_rfl) (WPr.nil (WP.seq (WP.seq (WP.region (WPr.sil htt 2 rfl (WPr.nil (?_))))))))
    rcases oc h with ⟨hc, h⟩ | ⟨hc, h⟩
    · refine WP.condT hc rfl (WP.seq (WP.region (WPr.silx [] ⟨[(4, .c (.i .i64 v5_1))], [], [], 0⟩ htt 2 (by kernel_rfl) (WPr.nil (?_)))))
      cases h
      exact WP.ret htt Tryz.func262 [] rfl rfl rfl rfl
    refine WP.condF hc rfl (WP.skip (WP.seq (WP.region (WPr.silx [] ⟨[(0, .c (.s v0_1)), (1, .c (.s substr_)), (5, .c (.i .i64 (w64 (v5_1 + (1 : Int))))), (6, .c (.i .i64 x11))], [], [], 0⟩ htt 3 (by kernel_rfl) (WPr.nil (WP.region (WPr.silx [5, 6] ⟨[(1, .c (.s substr_)), (5, .c (.i .i64 (w64 (v5_1 + (1 : Int))))), (28, .c (.s v0_1)), (32, .c (.i .i64 (w64 (x11 + (substr_.size : Int)))))], [], [], 0⟩ htt 5 (by kernel_rfl) (?_))))))))
    obtain ⟨x12, hx12, h⟩ := ob h
    exact WPr.ssl htt (l := some (.i64, (w64 (x11 + (substr_.size : Int))))) (h := none) hx12 rfl rfl rfl rfl rfl rfl rfl rfl rfl rfl (WPr.sil htt 1 rfl (WPr.nil (WP.inBlock (WP.sub [] (ih1 (x12, (w64 (v5_1 + (1 : Int)))) h) rfl rfl rfl rfl))))
  exact WP.sub [] (ih N (s_, (0 : Int)) h) rfl rfl rfl rfl
theorem z233_ct (N : Nat) (s_ : ByteArray) (sep_ : ByteArray) (sepSave_ : Int) (n_ : Int) (r : (List ByteArray)) (h : z233 N s_ sep_ sepSave_ n_ = some r) :
  Fn Tryz.prog 233 ⟨0, [.c (.s s_), .c (.s sep_), .c (.i .i64 sepSave_), .c (.i .i64 n_)], [], [], 1, .c (.sl 0), [], [(0, .own rS r true)]⟩ := by
  refine Fn.intro _ _ Tryz.func233 rfl (by kernel_rfl) rfl (fun E F w => ?_)
  unfold z233 at h
  refine WP.seq (WP.region (WPr.sil htt 1 rfl (WPr.nil (WP.seq (WP.seq (WP.region (WPr.silx [] ⟨[(0, .c (.s s_)), (1, .c (.s sep_)), (2, .c (.i .i64 sepSave_)), (3, .c (.i .i64 n_)), (8, .c .nil), (13, .c (.b (n_ == (0 : Int))))], [], [], 0⟩ htt 2 (by kernel_rfl) (WPr.nil (?_)))))))))
  rcases oc h with ⟨hc, h⟩ | ⟨hc, h⟩
  · refine WP.condT hc rfl (WP.seq (WP.region (WPr.sil htt 1 rfl (WPr.nil (?_)))))
    cases h
    exact WP.ret htt Tryz.func233 [(0, .nil)] rfl rfl rfl rfl
  refine WP.condF hc rfl (WP.skip (WP.seq (WP.seq (WP.region (WPr.sil htt 2 rfl (WPr.nil (?_)))))))
  rcases oc h with ⟨hc, h⟩ | ⟨hc, h⟩
  · refine WP.condT hc rfl (WP.seq (WP.region (WPr.silx [2, 3] ⟨[(16, .c (.s s_)), (17, .c (.i .i64 n_))], [], [], 0⟩ htt 2 (by kernel_rfl) (?_))))
    obtain ⟨x1, hx1, h⟩ := ob h
    refine WPr.call (z261_ct N s_ n_ _ hx1) [] [] rfl rfl rfl rfl rfl rfl rfl rfl (.inl rfl) rfl (WPr.silx [] ⟨[(8, .c (.sl 0))], [(0, .own rS x1 true)], [], 1⟩ htt 1 (by kernel_rfl) (WPr.nil (?_)))
    cases h
    exact WP.ret htt Tryz.func233 [(0, .sl 0)] rfl rfl rfl rfl
  refine WP.condF hc rfl (WP.skip (WP.seq (WP.seq (WP.region (WPr.silx [] ⟨[(0, .c (.s s_)), (1, .c (.s sep_)), (2, .c (.i .i64 sepSave_)), (3, .c (.i .i64 n_)), (8, .c .nil), (20, .c (.b (decide (n_ < (0 : Int)))))], [], [], 0⟩ htt 2 (by kernel_rfl) (WPr.nil (?_)))))))
  refine WP.cut (σ := Int) (fun st => ⟨[(0, .c (.s s_)), (1, .c (.s sep_)), (2, .c (.i .i64 sepSave_)), (3, .c (.i .i64 st))], [], [], 0⟩) (fun st => z233_k3 N s_ sep_ sepSave_ st = some r) ?_ (fun j1 => ?_)
  · intro v3_1 h
    replace h : z233_k3 N s_ sep_ sepSave_ v3_1 = some r := h
    unfold z233_k3 at h
    refine WP.seq (WP.region (WPr.silx [] ⟨[(0, .c (.s s_)), (1, .c (.s sep_)), (2, .c (.i .i64 sepSave_)), (3, .c (.i .i64 (minI v3_1 (w64 ((s_.size : Int) + (1 : Int))))))], [], [], 0⟩ htt 6 (by kernel_rfl) (WPr.nil (WP.seq (WP.region (WPr.sil htt 1 rfl (?_)))))))
    obtain ⟨x3, hx3, h⟩ := ob h
    refine WPr.mk oS htt (str []) hx3 rfl rfl rfl rfl rfl rfl rfl rfl (by exact an rfl rfl) rfl (WPr.silx [] ⟨[(0, .c (.s s_)), (1, .c (.s sep_)), (2, .c (.i .i64 sepSave_)), (3, .c (.i .i64 (minI v3_1 (w64 ((s_.size : Int) + (1 : Int)))))), (9, .c (.sl 0))], [(0, .own rS x3 true)], [], 1⟩ htt 1 (by kernel_rfl) (WPr.nil (WP.seq (WP.region (WPr.silx [] ⟨[(0, .c (.s s_)), (1, .c (.s sep_)), (2, .c (.i .i64 sepSave_)), (3, .c (.i .i64 (w64 ((minI v3_1 (w64 ((s_.size : Int) + (1 : Int)))) - (1 : Int))))), (9, .c (.sl 0))], [(0, .own rS x3 true)], [], 1⟩ htt 3 (by kernel_rfl) (WPr.nil (WP.seq (WP.region (WPr.sil htt 1 rfl (WPr.nil (WP.seq (?_))))))))))))
    refine WP.cut (σ := ByteArray × (List ByteArray) × Int) (fun st => ⟨[(0, .c (.s st.1)), (9, .c (.sl 0)), (10, .c (.i .i64 st.2.2))], [(0, .own rS st.2.1 true)], [], 1⟩) (fun st => z233_k1 st.1 st.2.1 st.2.2 = some r) ?_ (fun j2 => ?_)
    · rintro ⟨v0_2, v9_2, v10_2⟩ h
      replace h : z233_k1 v0_2 v9_2 v10_2 = some r := h
      unfold z233_k1 at h
      refine WP.seq (WP.region (WPr.silx [3, 4] ⟨[(9, .c (.sl 0)), (10, .c (.i .i64 v10_2)), (58, .c (.sl 0)), (59, .c (.i .i64 v10_2)), (60, .c (.s v0_2))], [(0, .own rS v9_2 true)], [], 1⟩ htt 3 (by kernel_rfl) (?_)))
      obtain ⟨x20, hx20, h⟩ := ob h
      refine WPr.ixo htt hx20 rfl rfl rfl rfl rfl rfl rfl rfl rfl (WPr.sto oS htt v0_2 hx20 rfl rfl rfl rfl rfl rfl rfl rfl rfl rfl (by exact rfl) rfl (WPr.nil (WP.seq (WP.region (WPr.silx [3, 4] ⟨[(62, .c (.sl 0)), (64, .c (.i .i64 (w64 (v10_2 + (1 : Int)))))], [(0, .own rS (setL' v9_2 v10_2 v0_2) true)], [], 2⟩ htt 3 (by kernel_rfl) (?_))))))
      obtain ⟨x21, hx21, h⟩ := ob h
      refine WPr.vw htt (l := none) (h := some (.i64, (w64 (v10_2 + (1 : Int))))) hx21 rfl rfl rfl rfl rfl rfl rfl rfl rfl rfl (WPr.sil htt 1 rfl (WPr.nil (WP.stl 2 hx21 rfl rfl rfl (?_))))
      cases h
      exact WP.ret htt Tryz.func233 [(0, .sl 2)] rfl rfl rfl rfl
    refine WP.block (?_)
    refine WP.loopI (σ := ByteArray × (List ByteArray) × Int) (fun st => ⟨[(0, .c (.s st.1)), (1, .c (.s sep_)), (2, .c (.i .i64 sepSave_)), (3, .c (.i .i64 (w64 ((minI v3_1 (w64 ((s_.size : Int) + (1 : Int)))) - (1 : Int))))), (9, .c (.sl 0)), (10, .c (.i .i64 st.2.2))], [(0, .own rS st.2.1 true)], [], 1⟩) (fun n st => z233_l2 N s_ sep_ sepSave_ v3_1 n st.1 st.2.1 st.2.2) (r := r) (fun _ => rfl) ?_ (fun ih => ?_)
    · intro n2 ih4
      rintro ⟨v0_4, v9_4, v10_4⟩ h
      replace h : z233_l2 N s_ sep_ sepSave_ v3_1 (n2 + 1) v0_4 v9_4 v10_4 = some r := h
      unfold z233_l2 at h
      refine WP.seq (WP.seq (WP.region (WPr.silx [] ⟨[(0, .c (.s v0_4)), (1, .c (.s sep_)), (2, .c (.i .i64 sepSave_)), (3, .c (.i .i64 (w64 ((minI v3_1 (w64 ((s_.size : Int) + (1 : Int)))) - (1 : Int))))), (9, .c (.sl 0)), (10, .c (.i .i64 v10_4)), (36, .c (.b (decide (v10_4 < (w64 ((minI v3_1 (w64 ((s_.size : Int) + (1 : Int)))) - (1 : Int)))))))], [(0, .own rS v9_4 true)], [], 1⟩ htt 3 (by kernel_rfl) (WPr.nil (?_)))))
      rcases oc' h with ⟨hc, h⟩ | ⟨hc, h⟩
      · exact WP.condF hc rfl (WP.exit rfl (WP.sub [] (j2 (v0_4, v9_4, v10_4) h) rfl rfl rfl rfl))
      refine WP.condT hc rfl (WP.skip (WP.block (WP.seq (WP.region (WPr.sil htt 2 rfl (?_))))))
      obtain ⟨x38, hx38, h⟩ := ob h
      refine WPr.call (z236_ct N v0_4 sep_ _ hx38) [] [] rfl rfl rfl rfl rfl rfl rfl rfl (.inl rfl) rfl (WPr.silx [] ⟨[(0, .c (.s v0_4)), (1, .c (.s sep_)), (2, .c (.i .i64 sepSave_)), (3, .c (.i .i64 (w64 ((minI v3_1 (w64 ((s_.size : Int) + (1 : Int)))) - (1 : Int))))), (9, .c (.sl 0)), (10, .c (.i .i64 v10_4)), (11, .c (.i .i64 x38))], [(0, .own rS v9_4 true)], [], 1⟩ htt 1 (by kernel_rfl) (WPr.nil (WP.seq (WP.seq (WP.region (WPr.sil htt 2 rfl (WPr.nil (?_))))))))
      rcases oc h with ⟨hc, h⟩ | ⟨hc, h⟩
      · exact WP.condT hc rfl (WP.exit rfl (WP.sub [] (j2 (v0_4, v9_4, v10_4) h) rfl rfl rfl rfl))
      refine WP.condF hc rfl (WP.skip (WP.seq (WP.region (WPr.silx [6, 7, 8] ⟨[(0, .c (.s v0_4)), (1, .c (.s sep_)), (2, .c (.i .i64 sepSave_)), (3, .c (.i .i64 (w64 ((minI v3_1 (w64 ((s_.size : Int) + (1 : Int)))) - (1 : Int))))), (9, .c (.sl 0)), (10, .c (.i .i64 v10_4)), (11, .c (.i .i64 x38)), (42, .c (.sl 0)), (43, .c (.i .i64 v10_4)), (44, .c (.s v0_4)), (47, .c (.i .i64 (w64 (x38 + sepSave_))))], [(0, .own rS v9_4 true)], [], 1⟩ htt 6 (by kernel_rfl) (?_)))))
      obtain ⟨x39, hx39, h⟩ := ob h
      refine WPr.ssl htt (l := none) (h := some (.i64, (w64 (x38 + sepSave_)))) hx39 rfl rfl rfl rfl rfl rfl rfl rfl rfl rfl (?_)
      obtain ⟨x40, hx40, h⟩ := ob h
      refine WPr.ixo htt hx40 rfl rfl rfl rfl rfl rfl rfl rfl rfl (WPr.sto oS htt x39 hx40 rfl rfl rfl rfl rfl rfl rfl rfl rfl rfl (by exact rfl) rfl (WPr.silx [] ⟨[(0, .c (.s v0_4)), (1, .c (.s sep_)), (2, .c (.i .i64 sepSave_)), (3, .c (.i .i64 (w64 ((minI v3_1 (w64 ((s_.size : Int) + (1 : Int)))) - (1 : Int))))), (9, .c (.sl 0)), (10, .c (.i .i64 v10_4)), (11, .c (.i .i64 x38))], [(0, .own rS (setL' v9_4 v10_4 x39) true)], [], 2⟩ htt 0 (by kernel_rfl) (WPr.nil (WP.seq (WP.region (WPr.silx [5, 6] ⟨[(1, .c (.s sep_)), (2, .c (.i .i64 sepSave_)), (3, .c (.i .i64 (w64 ((minI v3_1 (w64 ((s_.size : Int) + (1 : Int)))) - (1 : Int))))), (9, .c (.sl 0)), (10, .c (.i .i64 v10_4)), (50, .c (.s v0_4)), (54, .c (.i .i64 (w64 (x38 + (sep_.size : Int)))))], [(0, .own rS (setL' v9_4 v10_4 x39) true)], [], 2⟩ htt 5 (by kernel_rfl) (?_)))))))
      obtain ⟨x41, hx41, h⟩ := ob h
      exact WPr.ssl htt (l := some (.i64, (w64 (x38 + (sep_.size : Int))))) (h := none) hx41 rfl rfl rfl rfl rfl rfl rfl rfl rfl rfl (WPr.sil htt 1 rfl (WPr.nil (WP.region (WPr.silx [] ⟨[(0, .c (.s x41)), (1, .c (.s sep_)), (2, .c (.i .i64 sepSave_)), (3, .c (.i .i64 (w64 ((minI v3_1 (w64 ((s_.size : Int) + (1 : Int)))) - (1 : Int))))), (9, .c (.sl 0)), (10, .c (.i .i64 (w64 (v10_4 + (1 : Int)))))], [(0, .own rS (setL' v9_4 v10_4 x39) true)], [], 2⟩ htt 3 (by kernel_rfl) (WPr.nil (WP.inBlock (WP.sub [] (ih4 (x41, (setL' v9_4 v10_4 x39), (w64 (v10_4 + (1 : Int)))) h) rfl rfl rfl rfl)))))))
    exact WP.sub [] (ih N (s_, x3, (0 : Int)) h) rfl rfl rfl rfl
  rcases oc' h with ⟨hc, h⟩ | ⟨hc, h⟩
  · exact WP.condF hc rfl (WP.skip (WP.sub [] (j1 n_ h) rfl rfl rfl rfl))
  refine WP.condT hc rfl (WP.region (WPr.sil htt 2 rfl (?_)))
  obtain ⟨x42, hx42, h⟩ := ob h
  exact WPr.call (z262_ct N s_ sep_ _ hx42) [] [] rfl rfl rfl rfl rfl rfl rfl rfl (.inl rfl) rfl (WPr.silx [] ⟨[(0, .c (.s s_)), (1, .c (.s sep_)), (2, .c (.i .i64 sepSave_)), (3, .c (.i .i64 (w64 (x42 + (1 : Int))))), (8, .c .nil)], [], [], 0⟩ htt 2 (by kernel_rfl) (WPr.nil (WP.sub [] (j1 (w64 (x42 + (1 : Int))) h) rfl rfl rfl rfl)))
theorem z190_ct (N : Nat) (s_ : ByteArray) (sep_ : ByteArray) (r : (List ByteArray)) (h : z190 N s_ sep_ = some r) :
  Fn Tryz.prog 190 ⟨0, [.c (.s s_), .c (.s sep_)], [], [], 1, .c (.sl 0), [], [(0, .own rS r true)]⟩ := by
  refine Fn.intro _ _ Tryz.func190 rfl (by kernel_rfl) rfl (fun E F w => ?_)
  unfold z190 at h
  refine WP.seq (WP.region (WPr.sil htt 1 rfl (WPr.nil (WP.seq (WP.region (WPr.silx [2, 3] ⟨[(5, .c (.s s_)), (6, .c (.s sep_))], [], [], 0⟩ htt 2 (by kernel_rfl) (?_)))))))
  obtain ⟨x1, hx1, h⟩ := ob h
  refine WPr.call (z233_ct N s_ sep_ (0 : Int) (-1 : Int) _ hx1) [] [] rfl rfl rfl rfl rfl rfl rfl rfl (.inl rfl) rfl (WPr.silx [] ⟨[(4, .c (.sl 0))], [(0, .own rS x1 true)], [], 1⟩ htt 1 (by kernel_rfl) (WPr.nil (?_)))
  cases h
  exact WP.ret htt Tryz.func190 [(0, .sl 0)] rfl rfl rfl rfl
theorem z129_ct (N : Nat) (c_ : Int) (r : Bool) (h : z129 N c_ = some r) :
  Fn Tryz.prog 129 ⟨0, [.c (.i .u8 c_)], [], [], 0, .c (.b r), [], []⟩ := by
  refine Fn.intro _ _ Tryz.func129 rfl (by kernel_rfl) rfl (fun E F w => ?_)
  unfold z129 at h
  refine WP.seq (WP.region (WPr.sil htt 1 rfl (WPr.nil (WP.seq (WP.region (WPr.silx [3, 4, 5, 6, 7, 8, 9, 10, 11, 12, 13, 14] ⟨[(0, .c (.i .u8 c_)), (5, .c (.b (decide ((97 : Int) ≤ c_))))], [], [], 0⟩ htt 3 (by kernel_rfl) (?_)))))))
  rcases oc' h with ⟨hc, h⟩ | ⟨hc, h⟩
  · refine WPr.kb 5 hc rfl (WPr.silx [10, 11, 12, 13, 14] ⟨[(0, .c (.i .u8 c_)), (9, .c (.b false)), (12, .c (.b (decide ((65 : Int) ≤ c_))))], [], [], 0⟩ htt 7 (by kernel_rfl) (?_))
    rcases oc h with ⟨hc, h⟩ | ⟨hc, h⟩
    · refine WPr.kb 12 hc rfl (WPr.silx [] ⟨[(2, .c (.b (decide (c_ ≤ (90 : Int)))))], [], [], 0⟩ htt 5 (by kernel_rfl) (WPr.nil (?_)))
      cases h
      exact WP.ret htt Tryz.func129 [] rfl rfl rfl rfl
    refine WPr.kb 12 hc rfl (WPr.silx [] ⟨[(2, .c (.b false))], [], [], 0⟩ htt 5 (by kernel_rfl) (WPr.nil (?_)))
    cases h
    exact WP.ret htt Tryz.func129 [] rfl rfl rfl rfl
  refine WPr.kb 5 hc rfl (WPr.silx [7, 8, 9, 10, 11, 12, 13, 14] ⟨[(0, .c (.i .u8 c_)), (9, .c (.b (decide (c_ ≤ (122 : Int)))))], [], [], 0⟩ htt 4 (by kernel_rfl) (?_))
  rcases oc h with ⟨hc, h⟩ | ⟨hc, h⟩
  · refine WPr.kb 9 hc rfl (WPr.silx [] ⟨[(2, .c (.b true))], [], [], 0⟩ htt 8 (by kernel_rfl) (WPr.nil (?_)))
    cases h
    exact WP.ret htt Tryz.func129 [] rfl rfl rfl rfl
  refine WPr.kb 9 hc rfl (WPr.silx [10, 11, 12, 13, 14] ⟨[(0, .c (.i .u8 c_)), (9, .c (.b false)), (12, .c (.b (decide ((65 : Int) ≤ c_))))], [], [], 0⟩ htt 3 (by kernel_rfl) (?_))
  rcases oc h with ⟨hc, h⟩ | ⟨hc, h⟩
  · refine WPr.kb 12 hc rfl (WPr.silx [] ⟨[(2, .c (.b (decide (c_ ≤ (90 : Int)))))], [], [], 0⟩ htt 5 (by kernel_rfl) (WPr.nil (?_)))
    cases h
    exact WP.ret htt Tryz.func129 [] rfl rfl rfl rfl
  refine WPr.kb 12 hc rfl (WPr.silx [] ⟨[(2, .c (.b false))], [], [], 0⟩ htt 5 (by kernel_rfl) (WPr.nil (?_)))
  cases h
  exact WP.ret htt Tryz.func129 [] rfl rfl rfl rfl
theorem z131_ct (N : Nat) (c_ : Int) (r : Bool) (h : z131 N c_ = some r) :
  Fn Tryz.prog 131 ⟨0, [.c (.i .u8 c_)], [], [], 0, .c (.b r), [], []⟩ := by
  refine Fn.intro _ _ Tryz.func131 rfl (by kernel_rfl) rfl (fun E F w => ?_)
  unfold z131 at h
  refine WP.seq (WP.region (WPr.sil htt 1 rfl (WPr.nil (WP.seq (WP.region (WPr.silx [3, 4, 5, 6] ⟨[(0, .c (.i .u8 c_)), (5, .c (.b (decide ((48 : Int) ≤ c_))))], [], [], 0⟩ htt 3 (by kernel_rfl) (?_)))))))
  rcases oc h with ⟨hc, h⟩ | ⟨hc, h⟩
  · refine WPr.kb 5 hc rfl (WPr.silx [] ⟨[(2, .c (.b (decide (c_ ≤ (57 : Int)))))], [], [], 0⟩ htt 4 (by kernel_rfl) (WPr.nil (?_)))
    cases h
    exact WP.ret htt Tryz.func131 [] rfl rfl rfl rfl
  refine WPr.kb 5 hc rfl (WPr.silx [] ⟨[(2, .c (.b false))], [], [], 0⟩ htt 4 (by kernel_rfl) (WPr.nil (?_)))
  cases h
  exact WP.ret htt Tryz.func131 [] rfl rfl rfl rfl
theorem z197_ct (N : Nat) (c_ : Int) (r : Bool) (h : z197 N c_ = some r) :
  Fn Tryz.prog 197 ⟨0, [.c (.i .u8 c_)], [], [], 0, .c (.b r), [], []⟩ := by
  refine Fn.intro _ _ Tryz.func197 rfl (by kernel_rfl) rfl (fun E F w => ?_)
  unfold z197 at h
  refine WP.seq (WP.region (WPr.sil htt 1 rfl (WPr.nil (WP.seq (WP.region (WPr.sil htt 1 rfl (?_)))))))
  obtain ⟨x1, hx1, h⟩ := ob h
  refine WPr.call (z129_ct N c_ _ hx1) [] [] rfl rfl rfl rfl rfl rfl rfl rfl (.inl rfl) rfl (WPr.silx [3, 4, 5, 6, 7, 8, 9, 10] ⟨[(0, .c (.i .u8 c_)), (5, .c (.b x1))], [], [], 0⟩ htt 1 (by kernel_rfl) (?_))
  rcases oc h with ⟨hc, h⟩ | ⟨hc, h⟩
  · refine WPr.kb 5 hc rfl (WPr.silx [] ⟨[(2, .c (.b true))], [], [], 0⟩ htt 8 (by kernel_rfl) (WPr.nil (?_)))
    cases h
    exact WP.ret htt Tryz.func197 [] rfl rfl rfl rfl
  refine WPr.kb 5 hc rfl (WPr.sil htt 1 rfl (?_))
  obtain ⟨x2, hx2, h⟩ := ob h
  refine WPr.call (z131_ct N c_ _ hx2) [] [] rfl rfl rfl rfl rfl rfl rfl rfl (.inl rfl) rfl (WPr.silx [7, 8, 9, 10] ⟨[(0, .c (.i .u8 c_)), (9, .c (.b x2))], [], [], 0⟩ htt 2 (by kernel_rfl) (?_))
  rcases oc h with ⟨hc, h⟩ | ⟨hc, h⟩
  · refine WPr.kb 9 hc rfl (WPr.silx [] ⟨[(2, .c (.b true))], [], [], 0⟩ htt 4 (by kernel_rfl) (WPr.nil (?_)))
    cases h
    exact WP.ret htt Tryz.func197 [] rfl rfl rfl rfl
  refine WPr.kb 9 hc rfl (WPr.silx [] ⟨[(2, .c (.b (c_ == (95 : Int))))], [], [], 0⟩ htt 4 (by kernel_rfl) (WPr.nil (?_)))
  cases h
  exact WP.ret htt Tryz.func197 [] rfl rfl rfl rfl
theorem z192_ct (N : Nat) (s_ : ByteArray) (r : Bool) (h : z192 N s_ = some r) :
  Fn Tryz.prog 192 ⟨0, [.c (.s s_)], [], [], 0, .c (.b r), [], []⟩ := by
  refine Fn.intro _ _ Tryz.func192 rfl (by kernel_rfl) rfl (fun E F w => ?_)
  unfold z192 at h
  refine WP.seq (WP.region (WPr.sil htt 1 rfl (WPr.nil (WP.seq (WP.seq (WP.region (WPr.silx [3, 4, 5, 6, 7, 8, 9, 10, 11, 12] ⟨[(0, .c (.s s_)), (2, .c (.b false)), (6, .c (.b (s_.toList == (str []).toList)))], [], [], 0⟩ htt 3 (by kernel_rfl) (?_))))))))
  rcases oc h with ⟨hc, h⟩ | ⟨hc, h⟩
  · refine WPr.kb 6 hc rfl (WPr.silx [] ⟨[(0, .c (.s s_)), (2, .c (.b false)), (16, .c (.b true))], [], [], 0⟩ htt 10 (by kernel_rfl) (WPr.nil (WP.condT rfl rfl (WP.seq (WP.region (WPr.sil htt 1 rfl (WPr.nil (?_))))))))
    cases h
    exact WP.ret htt Tryz.func192 [] rfl rfl rfl rfl
  refine WPr.kb 6 hc rfl (WPr.silx [8, 9, 10, 11, 12] ⟨[(0, .c (.s s_)), (2, .c (.b false)), (11, .c (.b (decide ((s_.size : Int) > (16 : Int)))))], [], [], 0⟩ htt 5 (by kernel_rfl) (?_))
  rcases oc h with ⟨hc, h⟩ | ⟨hc, h⟩
  · refine WPr.kb 11 hc rfl (WPr.silx [] ⟨[(0, .c (.s s_)), (2, .c (.b false)), (16, .c (.b true))], [], [], 0⟩ htt 5 (by kernel_rfl) (WPr.nil (WP.condT rfl rfl (WP.seq (WP.region (WPr.sil htt 1 rfl (WPr.nil (?_))))))))
    cases h
    exact WP.ret htt Tryz.func192 [] rfl rfl rfl rfl
  refine WPr.kb 11 hc rfl (WPr.sil htt 1 rfl (?_))
  obtain ⟨x1, hx1, h⟩ := ob h
  refine WPr.sx htt hx1 rfl rfl rfl rfl rfl rfl rfl rfl rfl (?_)
  obtain ⟨x2, hx2, h⟩ := ob h
  refine WPr.call (z129_ct N x1 _ hx2) [] [] rfl rfl rfl rfl rfl rfl rfl rfl (.inl rfl) rfl (WPr.silx [] ⟨[(0, .c (.s s_)), (2, .c (.b false)), (16, .c (.b (!x2)))], [], [], 0⟩ htt 2 (by kernel_rfl) (WPr.nil (?_)))
  rcases oc h with ⟨hc, h⟩ | ⟨hc, h⟩
  · refine WP.condT hc rfl (WP.seq (WP.region (WPr.sil htt 1 rfl (WPr.nil (?_)))))
    cases h
    exact WP.ret htt Tryz.func192 [] rfl rfl rfl rfl
  refine WP.condF hc rfl (WP.skip (WP.seq (WP.seq (WP.region (WPr.silx [] ⟨[(0, .c (.s s_)), (2, .c (.b false)), (18, .c (.i .i64 (s_.size : Int))), (19, .c (.i .i64 (0 : Int)))], [], [], 0⟩ htt 3 (by kernel_rfl) (WPr.nil (?_)))))))
  refine WP.cut (σ := Unit) (fun st => ⟨[], [], [], 0⟩) (fun st => z192_k1 = some r) ?_ (fun j1 => ?_)
  · intro _ h
    replace h : z192_k1 = some r := h
    unfold z192_k1 at h
    refine WP.seq (WP.region (WPr.sil htt 1 rfl (WPr.nil (?_))))
    cases h
    exact WP.ret htt Tryz.func192 [] rfl rfl rfl rfl
  refine WP.block (?_)
  refine WP.loopI (σ := Int) (fun st => ⟨[(0, .c (.s s_)), (18, .c (.i .i64 (s_.size : Int))), (19, .c (.i .i64 st))], [], [], 0⟩) (fun n st => z192_l2 N s_ n st) (r := r) (fun _ => rfl) ?_ (fun ih => ?_)
  · intro n2 ih3
    intro v19_3 h
    replace h : z192_l2 N s_ (n2 + 1) v19_3 = some r := h
    unfold z192_l2 at h
    refine WP.seq (WP.region (WPr.sil htt 1 rfl (WPr.nil (WP.seq (?_)))))
    rcases oc' h with ⟨hc, h⟩ | ⟨hc, h⟩
    · exact WP.condF hc rfl (WP.exit rfl (WP.sub [] (j1 () h) rfl rfl rfl rfl))
    refine WP.condT hc rfl (WP.skip (WP.seq (WP.block (WP.seq (WP.region (WPr.silx [] ⟨[(0, .c (.s s_)), (3, .c (.i .i64 v19_3)), (18, .c (.i .i64 (s_.size : Int))), (19, .c (.i .i64 v19_3))], [], [], 0⟩ htt 2 (by kernel_rfl) (WPr.nil (WP.seq (WP.region (WPr.sil htt 2 rfl (?_)))))))))))
    obtain ⟨x19, hx19, h⟩ := ob h
    refine WPr.sx htt hx19 rfl rfl rfl rfl rfl rfl rfl rfl rfl (WPr.silx [3, 4] ⟨[(0, .c (.s s_)), (18, .c (.i .i64 (s_.size : Int))), (19, .c (.i .i64 v19_3)), (24, .c (.i .u8 x19))], [], [], 0⟩ htt 0 (by kernel_rfl) (?_))
    obtain ⟨x20, hx20, h⟩ := ob h
    refine WPr.call (z197_ct N x19 _ hx20) [] [] rfl rfl rfl rfl rfl rfl rfl rfl (.inl rfl) rfl (WPr.silx [] ⟨[(0, .c (.s s_)), (18, .c (.i .i64 (s_.size : Int))), (19, .c (.i .i64 v19_3)), (26, .c (.b (!x20)))], [], [], 0⟩ htt 1 (by kernel_rfl) (WPr.nil (?_)))
    rcases oc h with ⟨hc, h⟩ | ⟨hc, h⟩
    · refine WP.condT hc rfl (WP.seq (WP.region (WPr.sil htt 1 rfl (WPr.nil (?_)))))
      cases h
      exact WP.ret htt Tryz.func192 [] rfl rfl rfl rfl
    exact WP.condF hc rfl (WP.skip (WP.inBlock (WP.region (WPr.sil htt 2 rfl (WPr.nil (WP.sub [] (ih3 (w64 (v19_3 + (1 : Int))) h) rfl rfl rfl rfl))))))
  exact WP.sub [] (ih N (0 : Int) h) rfl rfl rfl rfl
theorem z217_ct (N : Nat) (s_ : (List ByteArray)) (v_ : ByteArray) (r : Int) (h : z217 N s_ v_ = some r) :
  Fn Tryz.prog 217 ⟨1, [.c (.sl 0), .c (.s v_)], [(0, .sl rS s_)], [], 1, .c (.i .i64 r), [], []⟩ := by
  refine Fn.intro _ _ Tryz.func217 rfl (by kernel_rfl) rfl (fun E F w => ?_)
  unfold z217 at h
  refine WP.seq (WP.region (WPr.sil htt 1 rfl (WPr.nil (WP.seq (WP.seq (WP.region (WPr.silx [] ⟨[(0, .c (.sl 0)), (1, .c (.s v_)), (4, .c (.i .i64 (0 : Int))), (7, .c (.i .i64 (s_.length : Int))), (8, .c (.i .i64 (0 : Int)))], [], [(0, .sl rS s_)], 1⟩ htt 3 (by kernel_rfl) (WPr.nil (?_)))))))))
  refine WP.cut (σ := Unit) (fun st => ⟨[], [], [(0, .sl rS s_)], 1⟩) (fun st => z217_k1 = some r) ?_ (fun j1 => ?_)
  · intro _ h
    replace h : z217_k1 = some r := h
    unfold z217_k1 at h
    refine WP.seq (WP.region (WPr.sil htt 1 rfl (WPr.nil (?_))))
    cases h
    exact WP.ret htt Tryz.func217 [] rfl rfl rfl rfl
  refine WP.block (?_)
  refine WP.loopI (σ := Int) (fun st => ⟨[(0, .c (.sl 0)), (1, .c (.s v_)), (7, .c (.i .i64 (s_.length : Int))), (8, .c (.i .i64 st))], [], [(0, .sl rS s_)], 1⟩) (fun n st => z217_l2 s_ v_ n st) (r := r) (fun _ => rfl) ?_ (fun ih => ?_)
  · intro n2 ih3
    intro v8_3 h
    replace h : z217_l2 s_ v_ (n2 + 1) v8_3 = some r := h
    unfold z217_l2 at h
    refine WP.seq (WP.region (WPr.sil htt 1 rfl (WPr.nil (WP.seq (?_)))))
    rcases oc' h with ⟨hc, h⟩ | ⟨hc, h⟩
    · exact WP.condF hc rfl (WP.exit rfl (WP.sub [] (j1 () h) rfl rfl rfl rfl))
    refine WP.condT hc rfl (WP.skip (WP.seq (WP.block (WP.seq (WP.region (WPr.silx [] ⟨[(0, .c (.sl 0)), (1, .c (.s v_)), (5, .c (.i .i64 v8_3)), (7, .c (.i .i64 (s_.length : Int))), (8, .c (.i .i64 v8_3))], [], [(0, .sl rS s_)], 1⟩ htt 2 (by kernel_rfl) (WPr.nil (WP.seq (WP.region (WPr.silx [3, 4, 5] ⟨[(0, .c (.sl 0)), (1, .c (.s v_)), (5, .c (.i .i64 v8_3)), (7, .c (.i .i64 (s_.length : Int))), (8, .c (.i .i64 v8_3)), (11, .c (.s v_)), (12, .c (.sl 0)), (13, .c (.i .i64 v8_3))], [], [(0, .sl rS s_)], 1⟩ htt 3 (by kernel_rfl) (?_)))))))))))
    obtain ⟨x9, hx9, h⟩ := ob h
    refine WPr.ix oS htt hx9 rfl rfl rfl rfl rfl rfl rfl rfl rfl (WPr.silx [] ⟨[(0, .c (.sl 0)), (1, .c (.s v_)), (5, .c (.i .i64 v8_3)), (7, .c (.i .i64 (s_.length : Int))), (8, .c (.i .i64 v8_3)), (16, .c (.b (v_.toList == x9.toList)))], [], [(0, .sl rS s_)], 2⟩ htt 2 (by kernel_rfl) (WPr.nil (?_)))
    rcases oc h with ⟨hc, h⟩ | ⟨hc, h⟩
    · refine WP.condT hc rfl (WP.seq (WP.region (WPr.sil htt 2 rfl (WPr.nil (?_)))))
      cases h
      exact WP.ret htt Tryz.func217 [] rfl rfl rfl rfl
    exact WP.condF hc rfl (WP.skip (WP.inBlock (WP.region (WPr.sil htt 2 rfl (WPr.nil (WP.sub [] (ih3 (w64 (v8_3 + (1 : Int))) h) rfl rfl rfl rfl))))))
  exact WP.sub [] (ih N (0 : Int) h) rfl rfl rfl rfl
theorem z157_ct (N : Nat) (s_ : (List ByteArray)) (v_ : ByteArray) (r : Bool) (h : z157 N s_ v_ = some r) :
  Fn Tryz.prog 157 ⟨1, [.c (.sl 0), .c (.s v_)], [(0, .sl rS s_)], [], 1, .c (.b r), [], []⟩ := by
  refine Fn.intro _ _ Tryz.func157 rfl (by kernel_rfl) rfl (fun E F w => ?_)
  unfold z157 at h
  refine WP.seq (WP.region (WPr.sil htt 1 rfl (WPr.nil (WP.seq (WP.region (WPr.silx [2, 3, 4] ⟨[(5, .c (.sl 0)), (6, .c (.s v_))], [], [(0, .sl rS s_)], 1⟩ htt 2 (by kernel_rfl) (?_)))))))
  obtain ⟨x1, hx1, h⟩ := ob h
  refine WPr.call (z217_ct N s_ v_ _ hx1) [(0, .sl 0)] [] rfl rfl rfl rfl rfl rfl rfl rfl (.inl rfl) rfl (WPr.silx [] ⟨[(4, .c (.b (decide (x1 ≥ (0 : Int)))))], [], [(0, .sl rS s_)], 1⟩ htt 2 (by kernel_rfl) (WPr.nil (?_)))
  cases h
  exact WP.ret htt Tryz.func157 [] rfl rfl rfl rfl
theorem z122_ct (N : Nat) (s_ : ByteArray) (r : Bool) (h : z122 N s_ = some r) :
  Fn Tryz.prog 122 ⟨0, [.c (.s s_)], [], [], 0, .c (.b r), [], []⟩ := by
  refine Fn.intro _ _ Tryz.func122 rfl (by kernel_rfl) rfl (fun E F w => ?_)
  unfold z122 at h
  refine WP.seq (WP.region (WPr.sil htt 1 rfl (WPr.nil (WP.seq (WP.region (WPr.silx [] ⟨[(0, .c (.s s_)), (2, .c (.b false)), (3, .c (.bp 0 0))], [(0, .box [.s (str [97, 103, 97, 105, 110]), .s (str [97, 110, 100]), .s (str [97, 115]), .s (str [97, 116]), .s (str [99, 97, 108, 108]), .s (str [99, 104, 111, 105, 99, 101]), .s (str [101, 108, 115, 101]), .s (str [102, 114, 111, 109]), .s (str [105, 102]), .s (str [105, 110, 116]), .s (str [108, 101, 110]), .s (str [108, 111, 111, 112]), .s (str [109, 101, 115, 115, 97, 103, 101]), .s (str [111, 102]), .s (str [111, 102, 102, 101, 114]), .s (str [111, 110]), .s (str [111, 114]), .s (str [112, 97, 114]), .s (str [112, 108, 97, 121, 115]), .s (str [112, 114, 111, 116, 111, 99, 111, 108]), .s (str [115, 101, 114, 118, 105, 99, 101]), .s (str [116, 101, 120, 116]), .s (str [116, 105, 109, 101, 115]), .s (str [116, 111]), .s (str [118, 97, 114]), .s (str [119, 104, 101, 114, 101]), .s (str [119, 104, 105, 108, 101]), .s (str [119, 105, 116, 104, 105, 110])] 263)], [], 1⟩ htt 3 (by kernel_rfl) (WPr.nil (WP.seq (WP.region (WPr.sil htt 1 rfl (?_)))))))))))
  obtain ⟨x1, hx1, h⟩ := ob h
  refine WPr.call (z192_ct N s_ _ hx1) [] [] rfl rfl rfl rfl rfl rfl rfl rfl (.inl rfl) rfl (WPr.silx [3, 4, 5, 6, 7, 8] ⟨[(0, .c (.s s_)), (3, .c (.bp 0 0)), (7, .c (.b x1))], [(0, .box [.s (str [97, 103, 97, 105, 110]), .s (str [97, 110, 100]), .s (str [97, 115]), .s (str [97, 116]), .s (str [99, 97, 108, 108]), .s (str [99, 104, 111, 105, 99, 101]), .s (str [101, 108, 115, 101]), .s (str [102, 114, 111, 109]), .s (str [105, 102]), .s (str [105, 110, 116]), .s (str [108, 101, 110]), .s (str [108, 111, 111, 112]), .s (str [109, 101, 115, 115, 97, 103, 101]), .s (str [111, 102]), .s (str [111, 102, 102, 101, 114]), .s (str [111, 110]), .s (str [111, 114]), .s (str [112, 97, 114]), .s (str [112, 108, 97, 121, 115]), .s (str [112, 114, 111, 116, 111, 99, 111, 108]), .s (str [115, 101, 114, 118, 105, 99, 101]), .s (str [116, 101, 120, 116]), .s (str [116, 105, 109, 101, 115]), .s (str [116, 111]), .s (str [118, 97, 114]), .s (str [119, 104, 101, 114, 101]), .s (str [119, 104, 105, 108, 101]), .s (str [119, 105, 116, 104, 105, 110])] 263)], [], 1⟩ htt 1 (by kernel_rfl) (?_))
  rcases oc' h with ⟨hc, h⟩ | ⟨hc, h⟩
  · refine WPr.kb 7 hc rfl (WPr.silx [] ⟨[(2, .c (.b false))], [], [], 1⟩ htt 6 (by kernel_rfl) (WPr.nil (?_)))
    cases h
    exact WP.ret htt Tryz.func122 [] rfl rfl rfl rfl
  refine WPr.kb 7 hc rfl (WPr.slb (len := 28) (el := 9) oS ([(str [97, 103, 97, 105, 110]), (str [97, 110, 100]), (str [97, 115]), (str [97, 116]), (str [99, 97, 108, 108]), (str [99, 104, 111, 105, 99, 101]), (str [101, 108, 115, 101]), (str [102, 114, 111, 109]), (str [105, 102]), (str [105, 110, 116]), (str [108, 101, 110]), (str [108, 111, 111, 112]), (str [109, 101, 115, 115, 97, 103, 101]), (str [111, 102]), (str [111, 102, 102, 101, 114]), (str [111, 110]), (str [111, 114]), (str [112, 97, 114]), (str [112, 108, 97, 121, 115]), (str [112, 114, 111, 116, 111, 99, 111, 108]), (str [115, 101, 114, 118, 105, 99, 101]), (str [116, 101, 120, 116]), (str [116, 105, 109, 101, 115]), (str [116, 111]), (str [118, 97, 114]), (str [119, 104, 101, 114, 101]), (str [119, 104, 105, 108, 101]), (str [119, 105, 116, 104, 105, 110])] : List ByteArray) (by exact (an rfl (an rfl (an rfl (an rfl (an rfl (an rfl (an rfl (an rfl (an rfl (an rfl (an rfl (an rfl (an rfl (an rfl (an rfl (an rfl (an rfl (an rfl (an rfl (an rfl (an rfl (an rfl (an rfl (an rfl (an rfl (an rfl (an rfl (an rfl rfl))))))))))))))))))))))))))))) rfl rfl rfl rfl (by kernel_rfl) (by kernel_rfl) rfl rfl rfl (WPr.sil htt 1 rfl (?_)))
  obtain ⟨x2, hx2, h⟩ := ob h
  refine WPr.call (z157_ct N ([(str [97, 103, 97, 105, 110]), (str [97, 110, 100]), (str [97, 115]), (str [97, 116]), (str [99, 97, 108, 108]), (str [99, 104, 111, 105, 99, 101]), (str [101, 108, 115, 101]), (str [102, 114, 111, 109]), (str [105, 102]), (str [105, 110, 116]), (str [108, 101, 110]), (str [108, 111, 111, 112]), (str [109, 101, 115, 115, 97, 103, 101]), (str [111, 102]), (str [111, 102, 102, 101, 114]), (str [111, 110]), (str [111, 114]), (str [112, 97, 114]), (str [112, 108, 97, 121, 115]), (str [112, 114, 111, 116, 111, 99, 111, 108]), (str [115, 101, 114, 118, 105, 99, 101]), (str [116, 101, 120, 116]), (str [116, 105, 109, 101, 115]), (str [116, 111]), (str [118, 97, 114]), (str [119, 104, 101, 114, 101]), (str [119, 104, 105, 108, 101]), (str [119, 105, 116, 104, 105, 110])] : List ByteArray) s_ _ hx2) [(0, .sl 1)] [1] rfl rfl rfl rfl rfl rfl rfl rfl (.inr ⟨rfl, trivial⟩) rfl (WPr.silx [] ⟨[(2, .c (.b (!x2)))], [], [], 2⟩ htt 3 (by kernel_rfl) (WPr.nil (?_)))
  cases h
  exact WP.ret htt Tryz.func122 [] rfl rfl rfl rfl
theorem z191_ct (N : Nat) (w_ : ByteArray) (r : Bool) (h : z191 N w_ = some r) :
  Fn Tryz.prog 191 ⟨0, [.c (.s w_)], [], [], 0, .c (.b r), [], []⟩ := by
  refine Fn.intro _ _ Tryz.func191 rfl (by kernel_rfl) rfl (fun E F w => ?_)
  unfold z191 at h
  refine WP.seq (WP.region (WPr.sil htt 1 rfl (WPr.nil (WP.seq (WP.region (WPr.sil htt 1 rfl (?_)))))))
  obtain ⟨x1, hx1, h⟩ := ob h
  refine WPr.call (z122_ct N w_ _ hx1) [] [] rfl rfl rfl rfl rfl rfl rfl rfl (.inl rfl) rfl (WPr.silx [] ⟨[(2, .c (.b (!x1)))], [], [], 0⟩ htt 2 (by kernel_rfl) (WPr.nil (?_)))
  cases h
  exact WP.ret htt Tryz.func191 [] rfl rfl rfl rfl
theorem z225_0_ct (N : Nat) (s_ : (List ByteArray)) (r : Int) (h : z225_0 N s_ = some r) :
  Fn Tryz.prog 225 ⟨1, [.c (.sl 0), .c (.cl 191 [] [])], [(0, .sl rS s_)], [], 1, .c (.i .i64 r), [], []⟩ := by
  refine Fn.intro _ _ Tryz.func225 rfl (by kernel_rfl) rfl (fun E F w => ?_)
  unfold z225_0 at h
  refine WP.seq (WP.region (WPr.sil htt 1 rfl (WPr.nil (WP.seq (WP.seq (WP.region (WPr.silx [] ⟨[(0, .c (.sl 0)), (1, .c (.cl 191 [] [])), (4, .c (.i .i64 (0 : Int))), (7, .c (.i .i64 (s_.length : Int))), (8, .c (.i .i64 (0 : Int)))], [], [(0, .sl rS s_)], 1⟩ htt 3 (by kernel_rfl) (WPr.nil (?_)))))))))
  refine WP.cut (σ := Unit) (fun st => ⟨[], [], [(0, .sl rS s_)], 1⟩) (fun st => z225_0_k1 = some r) ?_ (fun j1 => ?_)
  · intro _ h
    replace h : z225_0_k1 = some r := h
    unfold z225_0_k1 at h
    refine WP.seq (WP.region (WPr.sil htt 1 rfl (WPr.nil (?_))))
    cases h
    exact WP.ret htt Tryz.func225 [] rfl rfl rfl rfl
  refine WP.block (?_)
  refine WP.loopI (σ := Int) (fun st => ⟨[(0, .c (.sl 0)), (1, .c (.cl 191 [] [])), (7, .c (.i .i64 (s_.length : Int))), (8, .c (.i .i64 st))], [], [(0, .sl rS s_)], 1⟩) (fun n st => z225_0_l2 N s_ n st) (r := r) (fun _ => rfl) ?_ (fun ih => ?_)
  · intro n2 ih3
    intro v8_3 h
    replace h : z225_0_l2 N s_ (n2 + 1) v8_3 = some r := h
    unfold z225_0_l2 at h
    refine WP.seq (WP.region (WPr.sil htt 1 rfl (WPr.nil (WP.seq (?_)))))
    rcases oc' h with ⟨hc, h⟩ | ⟨hc, h⟩
    · exact WP.condF hc rfl (WP.exit rfl (WP.sub [] (j1 () h) rfl rfl rfl rfl))
    refine WP.condT hc rfl (WP.skip (WP.seq (WP.block (WP.seq (WP.region (WPr.silx [] ⟨[(0, .c (.sl 0)), (1, .c (.cl 191 [] [])), (5, .c (.i .i64 v8_3)), (7, .c (.i .i64 (s_.length : Int))), (8, .c (.i .i64 v8_3))], [], [(0, .sl rS s_)], 1⟩ htt 2 (by kernel_rfl) (WPr.nil (WP.seq (WP.region (WPr.silx [3, 4, 5] ⟨[(0, .c (.sl 0)), (1, .c (.cl 191 [] [])), (5, .c (.i .i64 v8_3)), (7, .c (.i .i64 (s_.length : Int))), (8, .c (.i .i64 v8_3)), (11, .c (.cl 191 [] [])), (12, .c (.sl 0)), (13, .c (.i .i64 v8_3))], [], [(0, .sl rS s_)], 1⟩ htt 3 (by kernel_rfl) (?_)))))))))))
    obtain ⟨x17, hx17, h⟩ := ob h
    refine WPr.ix oS htt hx17 rfl rfl rfl rfl rfl rfl rfl rfl rfl (WPr.sil htt 1 rfl (?_))
    obtain ⟨x18, hx18, h⟩ := ob h
    refine WPr.callc (z191_ct N x17 _ hx18) [] [] rfl rfl rfl rfl rfl rfl rfl rfl rfl (.inl rfl) rfl (WPr.silx [] ⟨[(0, .c (.sl 0)), (1, .c (.cl 191 [] [])), (5, .c (.i .i64 v8_3)), (7, .c (.i .i64 (s_.length : Int))), (8, .c (.i .i64 v8_3)), (16, .c (.b x18))], [], [(0, .sl rS s_)], 2⟩ htt 0 (by kernel_rfl) (WPr.nil (?_)))
    rcases oc h with ⟨hc, h⟩ | ⟨hc, h⟩
    · refine WP.condT hc rfl (WP.seq (WP.region (WPr.sil htt 2 rfl (WPr.nil (?_)))))
      cases h
      exact WP.ret htt Tryz.func225 [] rfl rfl rfl rfl
    exact WP.condF hc rfl (WP.skip (WP.inBlock (WP.region (WPr.sil htt 2 rfl (WPr.nil (WP.sub [] (ih3 (w64 (v8_3 + (1 : Int))) h) rfl rfl rfl rfl))))))
  exact WP.sub [] (ih N (0 : Int) h) rfl rfl rfl rfl
theorem z189_1_ct (N : Nat) (s_ : (List ByteArray)) (r : Bool) (h : z189_1 N s_ = some r) :
  Fn Tryz.prog 189 ⟨1, [.c (.sl 0), .c (.cl 191 [] [])], [(0, .sl rS s_)], [], 1, .c (.b r), [], []⟩ := by
  refine Fn.intro _ _ Tryz.func189 rfl (by kernel_rfl) rfl (fun E F w => ?_)
  unfold z189_1 at h
  refine WP.seq (WP.region (WPr.sil htt 1 rfl (WPr.nil (WP.seq (WP.region (WPr.silx [2, 3, 4] ⟨[(5, .c (.sl 0)), (6, .c (.cl 191 [] []))], [], [(0, .sl rS s_)], 1⟩ htt 2 (by kernel_rfl) (?_)))))))
  obtain ⟨x1, hx1, h⟩ := ob h
  refine WPr.call (z225_0_ct N s_ _ hx1) [(0, .sl 0)] [] rfl rfl rfl rfl rfl rfl rfl rfl (.inl rfl) rfl (WPr.silx [] ⟨[(4, .c (.b (decide (x1 ≥ (0 : Int)))))], [], [(0, .sl rS s_)], 1⟩ htt 2 (by kernel_rfl) (WPr.nil (?_)))
  cases h
  exact WP.ret htt Tryz.func189 [] rfl rfl rfl rfl
theorem z119_ct (N : Nat) (s_ : ByteArray) (r : Bool) (h : z119 N s_ = some r) :
  Fn Tryz.prog 119 ⟨0, [.c (.s s_)], [], [], 0, .c (.b r), [], []⟩ := by
  refine Fn.intro _ _ Tryz.func119 rfl (by kernel_rfl) rfl (fun E F w => ?_)
  unfold z119 at h
  refine WP.seq (WP.region (WPr.sil htt 1 rfl (WPr.nil (WP.seq (WP.region (WPr.silx [4, 5, 6, 7, 8, 9] ⟨[(0, .c (.s s_)), (6, .c (.b (decide ((s_.size : Int) ≤ (50 : Int)))))], [], [], 0⟩ htt 4 (by kernel_rfl) (?_)))))))
  rcases oc' h with ⟨hc, h⟩ | ⟨hc, h⟩
  · refine WPr.kb 6 hc rfl (WPr.silx [] ⟨[(2, .c (.b false))], [], [], 0⟩ htt 6 (by kernel_rfl) (WPr.nil (?_)))
    cases h
    exact WP.ret htt Tryz.func119 [] rfl rfl rfl rfl
  refine WPr.kb 6 hc rfl (WPr.sil htt 1 rfl (?_))
  obtain ⟨x1, hx1, h⟩ := ob h
  refine WPr.call (z190_ct N s_ (str [46]) _ hx1) [] [] rfl rfl rfl rfl rfl rfl rfl rfl (.inl rfl) rfl (WPr.silx [6, 7, 8, 9] ⟨[(6, .c (.b true)), (8, .c (.sl 0))], [(0, .own rS x1 true)], [], 1⟩ htt 0 (by kernel_rfl) (?_))
  obtain ⟨x2, hx2, h⟩ := ob h
  refine WPr.call (z189_1_ct N x1 _ hx2) [(0, .sl 0)] [0] rfl rfl rfl rfl rfl rfl rfl rfl (.inr ⟨rfl, trivial⟩) rfl (WPr.silx [] ⟨[(2, .c (.b (!x2)))], [], [], 1⟩ htt 3 (by kernel_rfl) (WPr.nil (?_)))
  cases h
  exact WP.ret htt Tryz.func119 [] rfl rfl rfl rfl
theorem z121_2_ct (N : Nat) (x_ : T0) (c0_ : T0) (r : Bool) (h : z121_2 N x_ c0_ = some r) :
  Fn Tryz.prog 121 ⟨7, [.a [.s x_.Name, .sl 0, .i .i64 x_.First, .sl 1, .sl 2], .c (.bp 3 0)], [(0, .sl rR2 x_.Fields), (1, .sl rR1 x_.Guard.Diffs), (2, .sl (rP (rI .i64) (rI .i64)) x_.Guard.Equals), (4, .sl rR2 c0_.Fields), (5, .sl rR1 c0_.Guard.Diffs), (6, .sl (rP (rI .i64) (rI .i64)) c0_.Guard.Equals)], [(3, .box [.s c0_.Name, .sl 4, .i .i64 c0_.First, .sl 5, .sl 6] 44)], 7, .c (.b r), [], [(3, .box [.s c0_.Name, .sl 4, .i .i64 c0_.First, .sl 5, .sl 6] 44)]⟩ := by
  refine Fn.intro _ _ Tryz.func121 rfl (by kernel_rfl) rfl (fun E F w => ?_)
  unfold z121_2 at h
  refine WP.seq (WP.region (WPr.sil htt 2 rfl (WPr.nil (WP.seq (WP.region (WPr.silx [] ⟨[(3, .c (.b (x_.Name.toList == c0_.Name.toList)))], [(3, .box [.s c0_.Name, .sl 4, .i .i64 c0_.First, .sl 5, .sl 6] 44)], [(0, .sl rR2 x_.Fields), (1, .sl rR1 x_.Guard.Diffs), (2, .sl (rP (rI .i64) (rI .i64)) x_.Guard.Equals), (4, .sl rR2 c0_.Fields), (5, .sl rR1 c0_.Guard.Diffs), (6, .sl (rP (rI .i64) (rI .i64)) c0_.Guard.Equals)], 8⟩ htt 6 (by kernel_rfl) (WPr.nil (?_))))))))
  cases h
  exact WP.ret htt Tryz.func121 [] rfl rfl rfl rfl
theorem z66_3_ct (N : Nat) (s_ : (List T0)) (c0_ : T0) (r : Int) (h : z66_3 N s_ c0_ = some r) :
  Fn Tryz.prog 66 ⟨5, [.c (.sl 0), .c (.cl 121 [] [1])], [(0, .sl rR0 s_), (2, .sl rR2 c0_.Fields), (3, .sl rR1 c0_.Guard.Diffs), (4, .sl (rP (rI .i64) (rI .i64)) c0_.Guard.Equals)], [(1, .box [.s c0_.Name, .sl 2, .i .i64 c0_.First, .sl 3, .sl 4] 44)], 5, .c (.i .i64 r), [], [(1, .box [.s c0_.Name, .sl 2, .i .i64 c0_.First, .sl 3, .sl 4] 44)]⟩ := by
  refine Fn.intro _ _ Tryz.func66 rfl (by kernel_rfl) rfl (fun E F w => ?_)
  unfold z66_3 at h
  refine WP.seq (WP.region (WPr.sil htt 1 rfl (WPr.nil (WP.seq (WP.seq (WP.region (WPr.silx [] ⟨[(0, .c (.sl 0)), (1, .c (.cl 121 [] [1])), (4, .c (.i .i64 (0 : Int))), (7, .c (.i .i64 (s_.length : Int))), (8, .c (.i .i64 (0 : Int)))], [(1, .box [.s c0_.Name, .sl 2, .i .i64 c0_.First, .sl 3, .sl 4] 44)], [(0, .sl rR0 s_), (2, .sl rR2 c0_.Fields), (3, .sl rR1 c0_.Guard.Diffs), (4, .sl (rP (rI .i64) (rI .i64)) c0_.Guard.Equals)], 5⟩ htt 3 (by kernel_rfl) (WPr.nil (?_)))))))))
  refine WP.cut (σ := Unit) (fun st => ⟨[], [(1, .box [.s c0_.Name, .sl 2, .i .i64 c0_.First, .sl 3, .sl 4] 44)], [(0, .sl rR0 s_), (2, .sl rR2 c0_.Fields), (3, .sl rR1 c0_.Guard.Diffs), (4, .sl (rP (rI .i64) (rI .i64)) c0_.Guard.Equals)], 5⟩) (fun st => z66_3_k1 = some r) ?_ (fun j1 => ?_)
  · intro _ h
    replace h : z66_3_k1 = some r := h
    unfold z66_3_k1 at h
    refine WP.seq (WP.region (WPr.sil htt 1 rfl (WPr.nil (?_))))
    cases h
    exact WP.ret htt Tryz.func66 [] rfl rfl rfl rfl
  refine WP.block (?_)
  refine WP.loopI (σ := Int) (fun st => ⟨[(0, .c (.sl 0)), (1, .c (.cl 121 [] [1])), (7, .c (.i .i64 (s_.length : Int))), (8, .c (.i .i64 st))], [(1, .box [.s c0_.Name, .sl 2, .i .i64 c0_.First, .sl 3, .sl 4] 44)], [(0, .sl rR0 s_), (2, .sl rR2 c0_.Fields), (3, .sl rR1 c0_.Guard.Diffs), (4, .sl (rP (rI .i64) (rI .i64)) c0_.Guard.Equals)], 5⟩) (fun n st => z66_3_l2 N s_ c0_ n st) (r := r) (fun _ => rfl) ?_ (fun ih => ?_)
  · intro n2 ih3
    intro v8_3 h
    replace h : z66_3_l2 N s_ c0_ (n2 + 1) v8_3 = some r := h
    unfold z66_3_l2 at h
    refine WP.seq (WP.region (WPr.sil htt 1 rfl (WPr.nil (WP.seq (?_)))))
    rcases oc' h with ⟨hc, h⟩ | ⟨hc, h⟩
    · exact WP.condF hc rfl (WP.exit rfl (WP.sub [] (j1 () h) rfl rfl rfl rfl))
    refine WP.condT hc rfl (WP.skip (WP.seq (WP.block (WP.seq (WP.region (WPr.silx [] ⟨[(0, .c (.sl 0)), (1, .c (.cl 121 [] [1])), (5, .c (.i .i64 v8_3)), (7, .c (.i .i64 (s_.length : Int))), (8, .c (.i .i64 v8_3))], [(1, .box [.s c0_.Name, .sl 2, .i .i64 c0_.First, .sl 3, .sl 4] 44)], [(0, .sl rR0 s_), (2, .sl rR2 c0_.Fields), (3, .sl rR1 c0_.Guard.Diffs), (4, .sl (rP (rI .i64) (rI .i64)) c0_.Guard.Equals)], 5⟩ htt 2 (by kernel_rfl) (WPr.nil (WP.seq (WP.region (WPr.silx [3, 4, 5] ⟨[(0, .c (.sl 0)), (1, .c (.cl 121 [] [1])), (5, .c (.i .i64 v8_3)), (7, .c (.i .i64 (s_.length : Int))), (8, .c (.i .i64 v8_3)), (11, .c (.cl 121 [] [1])), (12, .c (.sl 0)), (13, .c (.i .i64 v8_3))], [(1, .box [.s c0_.Name, .sl 2, .i .i64 c0_.First, .sl 3, .sl 4] 44)], [(0, .sl rR0 s_), (2, .sl rR2 c0_.Fields), (3, .sl rR1 c0_.Guard.Diffs), (4, .sl (rP (rI .i64) (rI .i64)) c0_.Guard.Equals)], 5⟩ htt 3 (by kernel_rfl) (?_)))))))))))
    obtain ⟨x17, hx17, h⟩ := ob h
    refine WPr.ix oO0 htt hx17 rfl rfl rfl rfl rfl rfl rfl rfl rfl (WPr.sil htt 1 rfl (?_))
    obtain ⟨x18, hx18, h⟩ := ob h
    refine WPr.callc (z121_2_ct N x17 c0_ _ hx18) [(0, .sl 6), (1, .sl 7), (2, .sl 8), (3, .bp 1 0), (4, .sl 2), (5, .sl 3), (6, .sl 4)] [] rfl rfl rfl rfl rfl rfl rfl rfl rfl (.inl rfl) rfl (WPr.silx [] ⟨[(0, .c (.sl 0)), (1, .c (.cl 121 [] [1])), (5, .c (.i .i64 v8_3)), (7, .c (.i .i64 (s_.length : Int))), (8, .c (.i .i64 v8_3)), (16, .c (.b x18))], [(1, .box [.s c0_.Name, .sl 2, .i .i64 c0_.First, .sl 3, .sl 4] 44)], [(0, .sl rR0 s_), (2, .sl rR2 c0_.Fields), (3, .sl rR1 c0_.Guard.Diffs), (4, .sl (rP (rI .i64) (rI .i64)) c0_.Guard.Equals)], 9⟩ htt 0 (by kernel_rfl) (WPr.nil (?_)))
    rcases oc h with ⟨hc, h⟩ | ⟨hc, h⟩
    · refine WP.condT hc rfl (WP.seq (WP.region (WPr.sil htt 2 rfl (WPr.nil (?_)))))
      cases h
      exact WP.ret htt Tryz.func66 [] rfl rfl rfl rfl
    exact WP.condF hc rfl (WP.skip (WP.inBlock (WP.region (WPr.sil htt 2 rfl (WPr.nil (WP.sub [] (ih3 (w64 (v8_3 + (1 : Int))) h) rfl rfl rfl rfl))))))
  exact WP.sub [] (ih N (0 : Int) h) rfl rfl rfl rfl
theorem z120_4_ct (N : Nat) (s_ : (List T0)) (c0_ : T0) (r : Bool) (h : z120_4 N s_ c0_ = some r) :
  Fn Tryz.prog 120 ⟨5, [.c (.sl 0), .c (.cl 121 [] [1])], [(0, .sl rR0 s_), (2, .sl rR2 c0_.Fields), (3, .sl rR1 c0_.Guard.Diffs), (4, .sl (rP (rI .i64) (rI .i64)) c0_.Guard.Equals)], [(1, .box [.s c0_.Name, .sl 2, .i .i64 c0_.First, .sl 3, .sl 4] 44)], 5, .c (.b r), [], [(1, .box [.s c0_.Name, .sl 2, .i .i64 c0_.First, .sl 3, .sl 4] 44)]⟩ := by
  refine Fn.intro _ _ Tryz.func120 rfl (by kernel_rfl) rfl (fun E F w => ?_)
  unfold z120_4 at h
  refine WP.seq (WP.region (WPr.sil htt 1 rfl (WPr.nil (WP.seq (WP.region (WPr.silx [2, 3, 4] ⟨[(5, .c (.sl 0)), (6, .c (.cl 121 [] [1]))], [(1, .box [.s c0_.Name, .sl 2, .i .i64 c0_.First, .sl 3, .sl 4] 44)], [(0, .sl rR0 s_), (2, .sl rR2 c0_.Fields), (3, .sl rR1 c0_.Guard.Diffs), (4, .sl (rP (rI .i64) (rI .i64)) c0_.Guard.Equals)], 5⟩ htt 2 (by kernel_rfl) (?_)))))))
  obtain ⟨x1, hx1, h⟩ := ob h
  refine WPr.call (z66_3_ct N s_ c0_ _ hx1) [(0, .sl 0), (1, .bp 1 0), (2, .sl 2), (3, .sl 3), (4, .sl 4)] [] rfl rfl rfl rfl rfl rfl rfl rfl (.inl rfl) rfl (WPr.silx [] ⟨[(4, .c (.b (decide (x1 ≥ (0 : Int)))))], [(1, .box [.s c0_.Name, .sl 2, .i .i64 c0_.First, .sl 3, .sl 4] 44)], [(0, .sl rR0 s_), (2, .sl rR2 c0_.Fields), (3, .sl rR1 c0_.Guard.Diffs), (4, .sl (rP (rI .i64) (rI .i64)) c0_.Guard.Equals)], 5⟩ htt 2 (by kernel_rfl) (WPr.nil (?_)))
  cases h
  exact WP.ret htt Tryz.func120 [] rfl rfl rfl rfl
theorem z123_ct (N : Nat) (s_ : T4) (r : Bool) (h : z123 N s_ = some r) :
  Fn Tryz.prog 123 ⟨0, [.a [.i .i64 s_.Kind, .i .i64 s_.Lo, .i .i64 s_.Hi]], [], [], 0, .c (.b r), [], []⟩ := by
  refine Fn.intro _ _ Tryz.func123 rfl (by kernel_rfl) rfl (fun E F w => ?_)
  unfold z123 at h
  refine WP.seq (WP.region (WPr.sil htt 2 rfl (WPr.nil (WP.seq (WP.seq (WP.region (WPr.silx [] ⟨[(1, .c (.bp 0 0)), (2, .c (.b false)), (4, .c (.i .i64 s_.Kind))], [(0, .box [.i .i64 s_.Kind, .i .i64 s_.Lo, .i .i64 s_.Hi] 87)], [], 1⟩ htt 2 (by kernel_rfl) (WPr.nil (WP.block (WP.seq (WP.region (WPr.sil htt 2 rfl (WPr.nil (?_))))))))))))))
  rcases oc h with ⟨hc, h⟩ | ⟨hc, h⟩
  · refine WP.condT hc rfl (WP.seq (WP.region (WPr.silx [4, 5, 6, 7, 8, 9, 10, 11, 12, 13, 14, 15] ⟨[(1, .c (.bp 0 0)), (10, .c (.b (decide (s_.Lo ≥ (-1000 : Int)))))], [(0, .box [.i .i64 s_.Kind, .i .i64 s_.Lo, .i .i64 s_.Hi] 87)], [], 1⟩ htt 4 (by kernel_rfl) (?_))))
    rcases oc' h with ⟨hc, h⟩ | ⟨hc, h⟩
    · refine WPr.kb 10 hc rfl (WPr.silx [] ⟨[(2, .c (.b false))], [], [], 1⟩ htt 12 (by kernel_rfl) (WPr.nil (?_)))
      cases h
      exact WP.ret htt Tryz.func123 [] rfl rfl rfl rfl
    refine WPr.kb 10 hc rfl (WPr.silx [11, 12, 13, 14, 15] ⟨[(1, .c (.bp 0 0)), (17, .c (.b (decide (s_.Lo ≤ s_.Hi))))], [(0, .box [.i .i64 s_.Kind, .i .i64 s_.Lo, .i .i64 s_.Hi] 87)], [], 1⟩ htt 7 (by kernel_rfl) (?_))
    rcases oc h with ⟨hc, h⟩ | ⟨hc, h⟩
    · refine WPr.kb 17 hc rfl (WPr.silx [] ⟨[(2, .c (.b (decide (s_.Hi ≤ (1000 : Int)))))], [], [], 1⟩ htt 5 (by kernel_rfl) (WPr.nil (?_)))
      cases h
      exact WP.ret htt Tryz.func123 [] rfl rfl rfl rfl
    refine WPr.kb 17 hc rfl (WPr.silx [] ⟨[(2, .c (.b false))], [], [], 1⟩ htt 5 (by kernel_rfl) (WPr.nil (?_)))
    cases h
    exact WP.ret htt Tryz.func123 [] rfl rfl rfl rfl
  refine WP.condF hc rfl (WP.seq (WP.region (WPr.silx [] ⟨[(1, .c (.bp 0 0)), (2, .c (.b false)), (22, .c (.b (s_.Kind == (2 : Int))))], [(0, .box [.i .i64 s_.Kind, .i .i64 s_.Lo, .i .i64 s_.Hi] 87)], [], 1⟩ htt 2 (by kernel_rfl) (WPr.nil (?_)))))
  rcases oc' h with ⟨hc, h⟩ | ⟨hc, h⟩
  · refine WP.condF hc rfl (WP.skip (WP.inBlock (WP.seq (WP.region (WPr.sil htt 1 rfl (WPr.nil (?_)))))))
    cases h
    exact WP.ret htt Tryz.func123 [] rfl rfl rfl rfl
  refine WP.condT hc rfl (WP.seq (WP.region (WPr.silx [4, 5, 6, 7, 8, 9, 10, 11, 12, 13, 14, 15] ⟨[(1, .c (.bp 0 0)), (27, .c (.b (decide (s_.Lo ≥ (0 : Int)))))], [(0, .box [.i .i64 s_.Kind, .i .i64 s_.Lo, .i .i64 s_.Hi] 87)], [], 1⟩ htt 4 (by kernel_rfl) (?_))))
  rcases oc' h with ⟨hc, h⟩ | ⟨hc, h⟩
  · refine WPr.kb 27 hc rfl (WPr.silx [] ⟨[(2, .c (.b false))], [], [], 1⟩ htt 12 (by kernel_rfl) (WPr.nil (?_)))
    cases h
    exact WP.ret htt Tryz.func123 [] rfl rfl rfl rfl
  refine WPr.kb 27 hc rfl (WPr.silx [11, 12, 13, 14, 15] ⟨[(1, .c (.bp 0 0)), (34, .c (.b (decide (s_.Lo ≤ s_.Hi))))], [(0, .box [.i .i64 s_.Kind, .i .i64 s_.Lo, .i .i64 s_.Hi] 87)], [], 1⟩ htt 7 (by kernel_rfl) (?_))
  rcases oc h with ⟨hc, h⟩ | ⟨hc, h⟩
  · refine WPr.kb 34 hc rfl (WPr.silx [] ⟨[(2, .c (.b (decide (s_.Hi ≤ (40 : Int)))))], [], [], 1⟩ htt 5 (by kernel_rfl) (WPr.nil (?_)))
    cases h
    exact WP.ret htt Tryz.func123 [] rfl rfl rfl rfl
  refine WPr.kb 34 hc rfl (WPr.silx [] ⟨[(2, .c (.b false))], [], [], 1⟩ htt 5 (by kernel_rfl) (WPr.nil (?_)))
  cases h
  exact WP.ret htt Tryz.func123 [] rfl rfl rfl rfl
theorem z125_5_ct (N : Nat) (x_ : T2) (c0_ : T2) (r : Bool) (h : z125_5 N x_ c0_ = some r) :
  Fn Tryz.prog 125 ⟨1, [.a [.s x_.Name, .i .i64 x_.Sort'.Kind, .i .i64 x_.Sort'.Lo, .i .i64 x_.Sort'.Hi], .c (.bp 0 0)], [], [(0, .box [.s c0_.Name, .i .i64 c0_.Sort'.Kind, .i .i64 c0_.Sort'.Lo, .i .i64 c0_.Sort'.Hi] 89)], 1, .c (.b r), [], [(0, .box [.s c0_.Name, .i .i64 c0_.Sort'.Kind, .i .i64 c0_.Sort'.Lo, .i .i64 c0_.Sort'.Hi] 89)]⟩ := by
  refine Fn.intro _ _ Tryz.func125 rfl (by kernel_rfl) rfl (fun E F w => ?_)
  unfold z125_5 at h
  refine WP.seq (WP.region (WPr.sil htt 2 rfl (WPr.nil (WP.seq (WP.region (WPr.silx [] ⟨[(3, .c (.b (x_.Name.toList == c0_.Name.toList)))], [(0, .box [.s c0_.Name, .i .i64 c0_.Sort'.Kind, .i .i64 c0_.Sort'.Lo, .i .i64 c0_.Sort'.Hi] 89)], [], 2⟩ htt 6 (by kernel_rfl) (WPr.nil (?_))))))))
  cases h
  exact WP.ret htt Tryz.func125 [] rfl rfl rfl rfl
theorem z68_6_ct (N : Nat) (s_ : (List T2)) (c0_ : T2) (r : Int) (h : z68_6 N s_ c0_ = some r) :
  Fn Tryz.prog 68 ⟨2, [.c (.sl 0), .c (.cl 125 [] [1])], [(0, .sl rR2 s_)], [(1, .box [.s c0_.Name, .i .i64 c0_.Sort'.Kind, .i .i64 c0_.Sort'.Lo, .i .i64 c0_.Sort'.Hi] 89)], 2, .c (.i .i64 r), [], [(1, .box [.s c0_.Name, .i .i64 c0_.Sort'.Kind, .i .i64 c0_.Sort'.Lo, .i .i64 c0_.Sort'.Hi] 89)]⟩ := by
  refine Fn.intro _ _ Tryz.func68 rfl (by kernel_rfl) rfl (fun E F w => ?_)
  unfold z68_6 at h
  refine WP.seq (WP.region (WPr.sil htt 1 rfl (WPr.nil (WP.seq (WP.seq (WP.region (WPr.silx [] ⟨[(0, .c (.sl 0)), (1, .c (.cl 125 [] [1])), (4, .c (.i .i64 (0 : Int))), (7, .c (.i .i64 (s_.length : Int))), (8, .c (.i .i64 (0 : Int)))], [(1, .box [.s c0_.Name, .i .i64 c0_.Sort'.Kind, .i .i64 c0_.Sort'.Lo, .i .i64 c0_.Sort'.Hi] 89)], [(0, .sl rR2 s_)], 2⟩ htt 3 (by kernel_rfl) (WPr.nil (?_)))))))))
  refine WP.cut (σ := Unit) (fun st => ⟨[], [(1, .box [.s c0_.Name, .i .i64 c0_.Sort'.Kind, .i .i64 c0_.Sort'.Lo, .i .i64 c0_.Sort'.Hi] 89)], [(0, .sl rR2 s_)], 2⟩) (fun st => z68_6_k1 = some r) ?_ (fun j1 => ?_)
  · intro _ h
    replace h : z68_6_k1 = some r := h
    unfold z68_6_k1 at h
    refine WP.seq (WP.region (WPr.sil htt 1 rfl (WPr.nil (?_))))
    cases h
    exact WP.ret htt Tryz.func68 [] rfl rfl rfl rfl
  refine WP.block (?_)
  refine WP.loopI (σ := Int) (fun st => ⟨[(0, .c (.sl 0)), (1, .c (.cl 125 [] [1])), (7, .c (.i .i64 (s_.length : Int))), (8, .c (.i .i64 st))], [(1, .box [.s c0_.Name, .i .i64 c0_.Sort'.Kind, .i .i64 c0_.Sort'.Lo, .i .i64 c0_.Sort'.Hi] 89)], [(0, .sl rR2 s_)], 2⟩) (fun n st => z68_6_l2 N s_ c0_ n st) (r := r) (fun _ => rfl) ?_ (fun ih => ?_)
  · intro n2 ih3
    intro v8_3 h
    replace h : z68_6_l2 N s_ c0_ (n2 + 1) v8_3 = some r := h
    unfold z68_6_l2 at h
    refine WP.seq (WP.region (WPr.sil htt 1 rfl (WPr.nil (WP.seq (?_)))))
    rcases oc' h with ⟨hc, h⟩ | ⟨hc, h⟩
    · exact WP.condF hc rfl (WP.exit rfl (WP.sub [] (j1 () h) rfl rfl rfl rfl))
    refine WP.condT hc rfl (WP.skip (WP.seq (WP.block (WP.seq (WP.region (WPr.silx [] ⟨[(0, .c (.sl 0)), (1, .c (.cl 125 [] [1])), (5, .c (.i .i64 v8_3)), (7, .c (.i .i64 (s_.length : Int))), (8, .c (.i .i64 v8_3))], [(1, .box [.s c0_.Name, .i .i64 c0_.Sort'.Kind, .i .i64 c0_.Sort'.Lo, .i .i64 c0_.Sort'.Hi] 89)], [(0, .sl rR2 s_)], 2⟩ htt 2 (by kernel_rfl) (WPr.nil (WP.seq (WP.region (WPr.silx [3, 4, 5] ⟨[(0, .c (.sl 0)), (1, .c (.cl 125 [] [1])), (5, .c (.i .i64 v8_3)), (7, .c (.i .i64 (s_.length : Int))), (8, .c (.i .i64 v8_3)), (11, .c (.cl 125 [] [1])), (12, .c (.sl 0)), (13, .c (.i .i64 v8_3))], [(1, .box [.s c0_.Name, .i .i64 c0_.Sort'.Kind, .i .i64 c0_.Sort'.Lo, .i .i64 c0_.Sort'.Hi] 89)], [(0, .sl rR2 s_)], 2⟩ htt 3 (by kernel_rfl) (?_)))))))))))
    obtain ⟨x17, hx17, h⟩ := ob h
    refine WPr.ix oO2 htt hx17 rfl rfl rfl rfl rfl rfl rfl rfl rfl (WPr.sil htt 1 rfl (?_))
    obtain ⟨x18, hx18, h⟩ := ob h
    refine WPr.callc (z125_5_ct N x17 c0_ _ hx18) [(0, .bp 1 0)] [] rfl rfl rfl rfl rfl rfl rfl rfl rfl (.inl rfl) rfl (WPr.silx [] ⟨[(0, .c (.sl 0)), (1, .c (.cl 125 [] [1])), (5, .c (.i .i64 v8_3)), (7, .c (.i .i64 (s_.length : Int))), (8, .c (.i .i64 v8_3)), (16, .c (.b x18))], [(1, .box [.s c0_.Name, .i .i64 c0_.Sort'.Kind, .i .i64 c0_.Sort'.Lo, .i .i64 c0_.Sort'.Hi] 89)], [(0, .sl rR2 s_)], 3⟩ htt 0 (by kernel_rfl) (WPr.nil (?_)))
    rcases oc h with ⟨hc, h⟩ | ⟨hc, h⟩
    · refine WP.condT hc rfl (WP.seq (WP.region (WPr.sil htt 2 rfl (WPr.nil (?_)))))
      cases h
      exact WP.ret htt Tryz.func68 [] rfl rfl rfl rfl
    exact WP.condF hc rfl (WP.skip (WP.inBlock (WP.region (WPr.sil htt 2 rfl (WPr.nil (WP.sub [] (ih3 (w64 (v8_3 + (1 : Int))) h) rfl rfl rfl rfl))))))
  exact WP.sub [] (ih N (0 : Int) h) rfl rfl rfl rfl
theorem z124_7_ct (N : Nat) (s_ : (List T2)) (c0_ : T2) (r : Bool) (h : z124_7 N s_ c0_ = some r) :
  Fn Tryz.prog 124 ⟨2, [.c (.sl 0), .c (.cl 125 [] [1])], [(0, .sl rR2 s_)], [(1, .box [.s c0_.Name, .i .i64 c0_.Sort'.Kind, .i .i64 c0_.Sort'.Lo, .i .i64 c0_.Sort'.Hi] 89)], 2, .c (.b r), [], [(1, .box [.s c0_.Name, .i .i64 c0_.Sort'.Kind, .i .i64 c0_.Sort'.Lo, .i .i64 c0_.Sort'.Hi] 89)]⟩ := by
  refine Fn.intro _ _ Tryz.func124 rfl (by kernel_rfl) rfl (fun E F w => ?_)
  unfold z124_7 at h
  refine WP.seq (WP.region (WPr.sil htt 1 rfl (WPr.nil (WP.seq (WP.region (WPr.silx [2, 3, 4] ⟨[(5, .c (.sl 0)), (6, .c (.cl 125 [] [1]))], [(1, .box [.s c0_.Name, .i .i64 c0_.Sort'.Kind, .i .i64 c0_.Sort'.Lo, .i .i64 c0_.Sort'.Hi] 89)], [(0, .sl rR2 s_)], 2⟩ htt 2 (by kernel_rfl) (?_)))))))
  obtain ⟨x1, hx1, h⟩ := ob h
  refine WPr.call (z68_6_ct N s_ c0_ _ hx1) [(0, .sl 0), (1, .bp 1 0)] [] rfl rfl rfl rfl rfl rfl rfl rfl (.inl rfl) rfl (WPr.silx [] ⟨[(4, .c (.b (decide (x1 ≥ (0 : Int)))))], [(1, .box [.s c0_.Name, .i .i64 c0_.Sort'.Kind, .i .i64 c0_.Sort'.Lo, .i .i64 c0_.Sort'.Hi] 89)], [(0, .sl rR2 s_)], 2⟩ htt 2 (by kernel_rfl) (WPr.nil (?_)))
  cases h
  exact WP.ret htt Tryz.func124 [] rfl rfl rfl rfl
theorem z126_ct (N : Nat) (g_ : T3) (all_ : (List T2)) (r : Bool) (h : z126 N g_ all_ = some r) :
  Fn Tryz.prog 126 ⟨3, [.a [.sl 0, .sl 1], .c (.sl 2)], [(0, .sl rR1 g_.Diffs), (1, .sl (rP (rI .i64) (rI .i64)) g_.Equals), (2, .sl rR2 all_)], [], 3, .c (.b r), [], []⟩ := by
  refine Fn.intro _ _ Tryz.func126 rfl (by kernel_rfl) rfl (fun E F w => ?_)
  unfold z126 at h
  refine WP.seq (WP.region (WPr.sil htt 2 rfl (WPr.nil (WP.seq (WP.seq (WP.region (WPr.silx [5, 6, 7, 8, 9] ⟨[(1, .c (.sl 2)), (2, .c (.bp 3 0)), (4, .c (.b false)), (15, .c (.b (decide ((g_.Diffs.length : Int) > (20 : Int)))))], [(3, .box [.sl 0, .sl 1] 42)], [(0, .sl rR1 g_.Diffs), (1, .sl (rP (rI .i64) (rI .i64)) g_.Equals), (2, .sl rR2 all_)], 4⟩ htt 5 (by kernel_rfl) (?_))))))))
  rcases oc h with ⟨hc, h⟩ | ⟨hc, h⟩
  · refine WPr.kb 15 hc rfl (WPr.silx [] ⟨[(1, .c (.sl 2)), (2, .c (.bp 3 0)), (4, .c (.b false)), (20, .c (.b true))], [(3, .box [.sl 0, .sl 1] 42)], [(0, .sl rR1 g_.Diffs), (1, .sl (rP (rI .i64) (rI .i64)) g_.Equals), (2, .sl rR2 all_)], 4⟩ htt 5 (by kernel_rfl) (WPr.nil (WP.condT rfl rfl (WP.seq (WP.region (WPr.sil htt 1 rfl (WPr.nil (?_))))))))
    cases h
    exact WP.ret htt Tryz.func126 [] rfl rfl rfl rfl
  refine WPr.kb 15 hc rfl (WPr.silx [] ⟨[(1, .c (.sl 2)), (2, .c (.bp 3 0)), (4, .c (.b false)), (20, .c (.b (decide ((g_.Equals.length : Int) > (20 : Int)))))], [(3, .box [.sl 0, .sl 1] 42)], [(0, .sl rR1 g_.Diffs), (1, .sl (rP (rI .i64) (rI .i64)) g_.Equals), (2, .sl rR2 all_)], 4⟩ htt 5 (by kernel_rfl) (WPr.nil (?_)))
  rcases oc h with ⟨hc, h⟩ | ⟨hc, h⟩
  · refine WP.condT hc rfl (WP.seq (WP.region (WPr.sil htt 1 rfl (WPr.nil (?_)))))
    cases h
    exact WP.ret htt Tryz.func126 [] rfl rfl rfl rfl
  refine WP.condF hc rfl (WP.skip (WP.seq (WP.seq (WP.region (WPr.silx [] ⟨[(1, .c (.sl 2)), (2, .c (.bp 3 0)), (4, .c (.b false)), (22, .c (.sl 0)), (23, .c (.i .i64 (g_.Diffs.length : Int))), (24, .c (.i .i64 (0 : Int)))], [(3, .box [.sl 0, .sl 1] 42)], [(0, .sl rR1 g_.Diffs), (1, .sl (rP (rI .i64) (rI .i64)) g_.Equals), (2, .sl rR2 all_)], 4⟩ htt 4 (by kernel_rfl) (WPr.nil (?_)))))))
  refine WP.cut (σ := Unit) (fun st => ⟨[(1, .c (.sl 2)), (2, .c (.bp 3 0))], [(3, .box [.sl 0, .sl 1] 42)], [(0, .sl rR1 g_.Diffs), (1, .sl (rP (rI .i64) (rI .i64)) g_.Equals), (2, .sl rR2 all_)], 4⟩) (fun st => z126_k5 N g_ all_ = some r) ?_ (fun j1 => ?_)
  · intro _ h
    replace h : z126_k5 N g_ all_ = some r := h
    unfold z126_k5 at h
    refine WP.seq (WP.seq (WP.region (WPr.silx [] ⟨[(1, .c (.sl 2)), (56, .c (.sl 1)), (57, .c (.i .i64 (g_.Equals.length : Int))), (58, .c (.i .i64 (0 : Int)))], [], [(0, .sl rR1 g_.Diffs), (1, .sl (rP (rI .i64) (rI .i64)) g_.Equals), (2, .sl rR2 all_)], 4⟩ htt 4 (by kernel_rfl) (WPr.nil (?_)))))
    refine WP.cut (σ := Unit) (fun st => ⟨[], [], [(0, .sl rR1 g_.Diffs), (1, .sl (rP (rI .i64) (rI .i64)) g_.Equals), (2, .sl rR2 all_)], 4⟩) (fun st => z126_k1 = some r) ?_ (fun j3 => ?_)
    · intro _ h
      replace h : z126_k1 = some r := h
      unfold z126_k1 at h
      refine WP.seq (WP.region (WPr.sil htt 1 rfl (WPr.nil (?_))))
      cases h
      exact WP.ret htt Tryz.func126 [] rfl rfl rfl rfl
    refine WP.block (?_)
    refine WP.loopI (σ := Int) (fun st => ⟨[(1, .c (.sl 2)), (56, .c (.sl 1)), (57, .c (.i .i64 (g_.Equals.length : Int))), (58, .c (.i .i64 st))], [], [(0, .sl rR1 g_.Diffs), (1, .sl (rP (rI .i64) (rI .i64)) g_.Equals), (2, .sl rR2 all_)], 4⟩) (fun n st => z126_l2 N g_ all_ n st) (r := r) (fun _ => rfl) ?_ (fun ih => ?_)
    · intro n13 ih14
      intro v58_14 h
      replace h : z126_l2 N g_ all_ (n13 + 1) v58_14 = some r := h
      unfold z126_l2 at h
      refine WP.seq (WP.region (WPr.sil htt 1 rfl (WPr.nil (WP.seq (?_)))))
      rcases oc' h with ⟨hc, h⟩ | ⟨hc, h⟩
      · exact WP.condF hc rfl (WP.exit rfl (WP.sub [] (j3 () h) rfl rfl rfl rfl))
      refine WP.condT hc rfl (WP.skip (WP.seq (WP.block (WP.seq (WP.region (?_))))))
      obtain ⟨x127, hx127, h⟩ := ob h
      refine WPr.ix (oP (oI .i64) (oI .i64)) htt hx127 rfl rfl rfl rfl rfl rfl rfl rfl rfl (WPr.silx [] ⟨[(1, .c (.sl 2)), (8, .c (.bp 5 0)), (56, .c (.sl 1)), (57, .c (.i .i64 (g_.Equals.length : Int))), (58, .c (.i .i64 v58_14))], [(5, .box [.i .i64 x127.1, .i .i64 x127.2] 49)], [(0, .sl rR1 g_.Diffs), (1, .sl (rP (rI .i64) (rI .i64)) g_.Equals), (2, .sl rR2 all_)], 6⟩ htt 3 (by kernel_rfl) (WPr.nil (WP.seq (WP.region (WPr.sil htt 2 rfl (WPr.nil (?_)))))))
      refine WP.cut (σ := Unit) (fun st => ⟨[(1, .c (.sl 2)), (56, .c (.sl 1)), (57, .c (.i .i64 (g_.Equals.length : Int))), (58, .c (.i .i64 v58_14))], [], [(0, .sl rR1 g_.Diffs), (1, .sl (rP (rI .i64) (rI .i64)) g_.Equals), (2, .sl rR2 all_)], 6⟩) (fun st => z126_k3 v58_14 (z126_l2 N g_ all_ n13) = some r) ?_ (fun j21 => ?_)
      · intro _ h
        replace h : z126_k3 v58_14 (z126_l2 N g_ all_ n13) = some r := h
        unfold z126_k3 at h
        exact WP.inBlock (WP.region (WPr.sil htt 2 rfl (WPr.nil (WP.sub [] (ih14 (w64 (v58_14 + (1 : Int))) h) rfl rfl rfl rfl))))
      refine WP.block (?_)
      refine WP.loopI (σ := Int) (fun st => ⟨[(1, .c (.sl 2)), (56, .c (.sl 1)), (57, .c (.i .i64 (g_.Equals.length : Int))), (58, .c (.i .i64 v58_14)), (62, .a [.i .i64 x127.1, .i .i64 x127.2]), (63, .c (.i .i64 st))], [], [(0, .sl rR1 g_.Diffs), (1, .sl (rP (rI .i64) (rI .i64)) g_.Equals), (2, .sl rR2 all_)], 6⟩) (fun n st => z126_l4 all_ v58_14 (z126_l2 N g_ all_ n13) x127 n st) (r := r) (fun _ => rfl) ?_ (fun ih => ?_)
      · intro n15 ih23
        intro v63_23 h
        replace h : z126_l4 all_ v58_14 (z126_l2 N g_ all_ n13) x127 (n15 + 1) v63_23 = some r := h
        unfold z126_l4 at h
        refine WP.seq (WP.region (WPr.sil htt 1 rfl (WPr.nil (WP.seq (?_)))))
        rcases oc' h with ⟨hc, h⟩ | ⟨hc, h⟩
        · exact WP.condF hc rfl (WP.exit rfl (WP.sub [] (j21 () h) rfl rfl rfl rfl))
        refine WP.condT hc rfl (WP.skip (WP.seq (WP.block (WP.seq (WP.region (?_))))))
        obtain ⟨x142, hx142, h⟩ := ob h
        refine WPr.ax (len := 2) (el := 3) (SC.i .i64) ([x127.1, x127.2] : List Int) hx142 rfl rfl rfl rfl (by kernel_rfl) (by kernel_rfl) (by kernel_rfl) (by kernel_rfl) rfl rfl rfl rfl (WPr.silx [] ⟨[(1, .c (.sl 2)), (10, .c (.i .i64 x142)), (56, .c (.sl 1)), (57, .c (.i .i64 (g_.Equals.length : Int))), (58, .c (.i .i64 v58_14)), (62, .a [.i .i64 x127.1, .i .i64 x127.2]), (63, .c (.i .i64 v63_23))], [], [(0, .sl rR1 g_.Diffs), (1, .sl (rP (rI .i64) (rI .i64)) g_.Equals), (2, .sl rR2 all_)], 6⟩ htt 1 (by kernel_rfl) (WPr.nil (WP.seq (WP.region (WPr.silx [3, 4, 5, 6, 7, 8, 9, 10, 11, 12, 13, 14, 15, 16] ⟨[(1, .c (.sl 2)), (10, .c (.i .i64 x142)), (56, .c (.sl 1)), (57, .c (.i .i64 (g_.Equals.length : Int))), (58, .c (.i .i64 v58_14)), (62, .a [.i .i64 x127.1, .i .i64 x127.2]), (63, .c (.i .i64 v63_23)), (68, .c (.b (decide (x142 < (0 : Int)))))], [], [(0, .sl rR1 g_.Diffs), (1, .sl (rP (rI .i64) (rI .i64)) g_.Equals), (2, .sl rR2 all_)], 6⟩ htt 3 (by kernel_rfl) (?_))))))
        rcases oc h with ⟨hc, h⟩ | ⟨hc, h⟩
        · refine WPr.kb 68 hc rfl (WPr.silx [] ⟨[(1, .c (.sl 2)), (56, .c (.sl 1)), (57, .c (.i .i64 (g_.Equals.length : Int))), (58, .c (.i .i64 v58_14)), (62, .a [.i .i64 x127.1, .i .i64 x127.2]), (63, .c (.i .i64 v63_23)), (82, .c (.b true))], [], [(0, .sl rR1 g_.Diffs), (1, .sl (rP (rI .i64) (rI .i64)) g_.Equals), (2, .sl rR2 all_)], 6⟩ htt 14 (by kernel_rfl) (WPr.nil (WP.condT rfl rfl (WP.seq (WP.region (WPr.sil htt 1 rfl (WPr.nil (?_))))))))
          cases h
          exact WP.ret htt Tryz.func126 [] rfl rfl rfl rfl
        refine WPr.kb 68 hc rfl (WPr.silx [9, 10, 11, 12, 13, 14, 15, 16] ⟨[(1, .c (.sl 2)), (10, .c (.i .i64 x142)), (56, .c (.sl 1)), (57, .c (.i .i64 (g_.Equals.length : Int))), (58, .c (.i .i64 v58_14)), (62, .a [.i .i64 x127.1, .i .i64 x127.2]), (63, .c (.i .i64 v63_23)), (74, .c (.b (decide (x142 ≥ (all_.length : Int)))))], [], [(0, .sl rR1 g_.Diffs), (1, .sl (rP (rI .i64) (rI .i64)) g_.Equals), (2, .sl rR2 all_)], 6⟩ htt 6 (by kernel_rfl) (?_))
        rcases oc h with ⟨hc, h⟩ | ⟨hc, h⟩
        · refine WPr.kb 74 hc rfl (WPr.silx [] ⟨[(1, .c (.sl 2)), (56, .c (.sl 1)), (57, .c (.i .i64 (g_.Equals.length : Int))), (58, .c (.i .i64 v58_14)), (62, .a [.i .i64 x127.1, .i .i64 x127.2]), (63, .c (.i .i64 v63_23)), (82, .c (.b true))], [], [(0, .sl rR1 g_.Diffs), (1, .sl (rP (rI .i64) (rI .i64)) g_.Equals), (2, .sl rR2 all_)], 6⟩ htt 8 (by kernel_rfl) (WPr.nil (WP.condT rfl rfl (WP.seq (WP.region (WPr.sil htt 1 rfl (WPr.nil (?_))))))))
          cases h
          exact WP.ret htt Tryz.func126 [] rfl rfl rfl rfl
        refine WPr.kb 74 hc rfl (WPr.sil htt 2 rfl (?_))
        obtain ⟨x143, hx143, h⟩ := ob h
        refine WPr.ix oO2 htt hx143 rfl rfl rfl rfl rfl rfl rfl rfl rfl (WPr.silx [] ⟨[(1, .c (.sl 2)), (56, .c (.sl 1)), (57, .c (.i .i64 (g_.Equals.length : Int))), (58, .c (.i .i64 v58_14)), (62, .a [.i .i64 x127.1, .i .i64 x127.2]), (63, .c (.i .i64 v63_23)), (82, .c (.b (x143.Sort'.Kind != (2 : Int))))], [], [(0, .sl rR1 g_.Diffs), (1, .sl (rP (rI .i64) (rI .i64)) g_.Equals), (2, .sl rR2 all_)], 7⟩ htt 5 (by kernel_rfl) (WPr.nil (?_)))
        rcases oc h with ⟨hc, h⟩ | ⟨hc, h⟩
        · refine WP.condT hc rfl (WP.seq (WP.region (WPr.sil htt 1 rfl (WPr.nil (?_)))))
          cases h
          exact WP.ret htt Tryz.func126 [] rfl rfl rfl rfl
        exact WP.condF hc rfl (WP.skip (WP.inBlock (WP.region (WPr.sil htt 2 rfl (WPr.nil (WP.sub [] (ih23 (w64 (v63_23 + (1 : Int))) h) rfl rfl rfl rfl))))))
      exact WP.sub [] (ih N (0 : Int) h) rfl rfl rfl rfl
    exact WP.sub [] (ih N (0 : Int) h) rfl rfl rfl rfl
  refine WP.block (?_)
  refine WP.loopI (σ := Int) (fun st => ⟨[(1, .c (.sl 2)), (2, .c (.bp 3 0)), (22, .c (.sl 0)), (23, .c (.i .i64 (g_.Diffs.length : Int))), (24, .c (.i .i64 st))], [(3, .box [.sl 0, .sl 1] 42)], [(0, .sl rR1 g_.Diffs), (1, .sl (rP (rI .i64) (rI .i64)) g_.Equals), (2, .sl rR2 all_)], 4⟩) (fun n st => z126_l6 N g_ all_ n st) (r := r) (fun _ => rfl) ?_ (fun ih => ?_)
  · intro n16 ih24
    intro v24_24 h
    replace h : z126_l6 N g_ all_ (n16 + 1) v24_24 = some r := h
    unfold z126_l6 at h
    refine WP.seq (WP.region (WPr.sil htt 1 rfl (WPr.nil (WP.seq (?_)))))
    rcases oc' h with ⟨hc, h⟩ | ⟨hc, h⟩
    · exact WP.condF hc rfl (WP.exit rfl (WP.sub [] (j1 () h) rfl rfl rfl rfl))
    refine WP.condT hc rfl (WP.skip (WP.seq (WP.block (WP.seq (WP.region (?_))))))
    obtain ⟨x148, hx148, h⟩ := ob h
    refine WPr.ix oO1 htt hx148 rfl rfl rfl rfl rfl rfl rfl rfl rfl (WPr.silx [] ⟨[(1, .c (.sl 2)), (2, .c (.bp 3 0)), (6, .c (.bp 5 0)), (22, .c (.sl 0)), (23, .c (.i .i64 (g_.Diffs.length : Int))), (24, .c (.i .i64 v24_24))], [(3, .box [.sl 0, .sl 1] 42), (5, .box [.i .i64 x148.X, .i .i64 x148.Y, .i .i64 x148.C] 48)], [(0, .sl rR1 g_.Diffs), (1, .sl (rP (rI .i64) (rI .i64)) g_.Equals), (2, .sl rR2 all_)], 6⟩ htt 3 (by kernel_rfl) (WPr.nil (WP.seq (WP.region (WPr.silx [7, 8, 9, 10, 11, 12, 13, 14, 15, 16, 17, 18, 19, 20, 21, 22, 23, 24, 25] ⟨[(1, .c (.sl 2)), (2, .c (.bp 3 0)), (6, .c (.bp 5 0)), (22, .c (.sl 0)), (23, .c (.i .i64 (g_.Diffs.length : Int))), (24, .c (.i .i64 v24_24)), (34, .c (.b (decide ((minI x148.X x148.Y) < (-1 : Int)))))], [(3, .box [.sl 0, .sl 1] 42), (5, .box [.i .i64 x148.X, .i .i64 x148.Y, .i .i64 x148.C] 48)], [(0, .sl rR1 g_.Diffs), (1, .sl (rP (rI .i64) (rI .i64)) g_.Equals), (2, .sl rR2 all_)], 6⟩ htt 7 (by kernel_rfl) (?_))))))
    rcases oc h with ⟨hc, h⟩ | ⟨hc, h⟩
    · refine WPr.kb 34 hc rfl (WPr.silx [] ⟨[(1, .c (.sl 2)), (2, .c (.bp 3 0)), (22, .c (.sl 0)), (23, .c (.i .i64 (g_.Diffs.length : Int))), (24, .c (.i .i64 v24_24)), (53, .c (.b true))], [(3, .box [.sl 0, .sl 1] 42)], [(0, .sl rR1 g_.Diffs), (1, .sl (rP (rI .i64) (rI .i64)) g_.Equals), (2, .sl rR2 all_)], 6⟩ htt 19 (by kernel_rfl) (WPr.nil (WP.condT rfl rfl (WP.seq (WP.region (WPr.sil htt 1 rfl (WPr.nil (?_))))))))
      cases h
      exact WP.ret htt Tryz.func126 [] rfl rfl rfl rfl
    refine WPr.kb 34 hc rfl (WPr.silx [17, 18, 19, 20, 21, 22, 23, 24, 25] ⟨[(1, .c (.sl 2)), (2, .c (.bp 3 0)), (6, .c (.bp 5 0)), (22, .c (.sl 0)), (23, .c (.i .i64 (g_.Diffs.length : Int))), (24, .c (.i .i64 v24_24)), (44, .c (.b (decide ((maxI x148.X x148.Y) ≥ (all_.length : Int)))))], [(3, .box [.sl 0, .sl 1] 42), (5, .box [.i .i64 x148.X, .i .i64 x148.Y, .i .i64 x148.C] 48)], [(0, .sl rR1 g_.Diffs), (1, .sl (rP (rI .i64) (rI .i64)) g_.Equals), (2, .sl rR2 all_)], 6⟩ htt 10 (by kernel_rfl) (?_))
    rcases oc h with ⟨hc, h⟩ | ⟨hc, h⟩
    · refine WPr.kb 44 hc rfl (WPr.silx [] ⟨[(1, .c (.sl 2)), (2, .c (.bp 3 0)), (22, .c (.sl 0)), (23, .c (.i .i64 (g_.Diffs.length : Int))), (24, .c (.i .i64 v24_24)), (53, .c (.b true))], [(3, .box [.sl 0, .sl 1] 42)], [(0, .sl rR1 g_.Diffs), (1, .sl (rP (rI .i64) (rI .i64)) g_.Equals), (2, .sl rR2 all_)], 6⟩ htt 9 (by kernel_rfl) (WPr.nil (WP.condT rfl rfl (WP.seq (WP.region (WPr.sil htt 1 rfl (WPr.nil (?_))))))))
      cases h
      exact WP.ret htt Tryz.func126 [] rfl rfl rfl rfl
    refine WPr.kb 44 hc rfl (WPr.silx [22, 23, 24, 25] ⟨[(1, .c (.sl 2)), (2, .c (.bp 3 0)), (6, .c (.bp 5 0)), (22, .c (.sl 0)), (23, .c (.i .i64 (g_.Diffs.length : Int))), (24, .c (.i .i64 v24_24)), (49, .c (.b (decide (x148.C < (-20000 : Int)))))], [(3, .box [.sl 0, .sl 1] 42), (5, .box [.i .i64 x148.X, .i .i64 x148.Y, .i .i64 x148.C] 48)], [(0, .sl rR1 g_.Diffs), (1, .sl (rP (rI .i64) (rI .i64)) g_.Equals), (2, .sl rR2 all_)], 6⟩ htt 5 (by kernel_rfl) (?_))
    rcases oc h with ⟨hc, h⟩ | ⟨hc, h⟩
    · refine WPr.kb 49 hc rfl (WPr.silx [] ⟨[(1, .c (.sl 2)), (2, .c (.bp 3 0)), (22, .c (.sl 0)), (23, .c (.i .i64 (g_.Diffs.length : Int))), (24, .c (.i .i64 v24_24)), (53, .c (.b true))], [(3, .box [.sl 0, .sl 1] 42)], [(0, .sl rR1 g_.Diffs), (1, .sl (rP (rI .i64) (rI .i64)) g_.Equals), (2, .sl rR2 all_)], 6⟩ htt 4 (by kernel_rfl) (WPr.nil (WP.condT rfl rfl (WP.seq (WP.region (WPr.sil htt 1 rfl (WPr.nil (?_))))))))
      cases h
      exact WP.ret htt Tryz.func126 [] rfl rfl rfl rfl
    refine WPr.kb 49 hc rfl (WPr.silx [] ⟨[(1, .c (.sl 2)), (2, .c (.bp 3 0)), (22, .c (.sl 0)), (23, .c (.i .i64 (g_.Diffs.length : Int))), (24, .c (.i .i64 v24_24)), (53, .c (.b (decide (x148.C > (20000 : Int)))))], [(3, .box [.sl 0, .sl 1] 42)], [(0, .sl rR1 g_.Diffs), (1, .sl (rP (rI .i64) (rI .i64)) g_.Equals), (2, .sl rR2 all_)], 6⟩ htt 4 (by kernel_rfl) (WPr.nil (?_)))
    rcases oc h with ⟨hc, h⟩ | ⟨hc, h⟩
    · refine WP.condT hc rfl (WP.seq (WP.region (WPr.sil htt 1 rfl (WPr.nil (?_)))))
      cases h
      exact WP.ret htt Tryz.func126 [] rfl rfl rfl rfl
    exact WP.condF hc rfl (WP.skip (WP.inBlock (WP.region (WPr.sil htt 2 rfl (WPr.nil (WP.sub [] (ih24 (w64 (v24_24 + (1 : Int))) h) rfl rfl rfl rfl))))))
  exact WP.sub [] (ih N (0 : Int) h) rfl rfl rfl rfl
end Gx
end
