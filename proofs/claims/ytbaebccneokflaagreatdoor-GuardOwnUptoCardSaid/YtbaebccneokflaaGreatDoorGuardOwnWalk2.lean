/- Each function of the statement computes what its plain definition says, part 2. -/
import Derived.Test.YtbaebccneokflaaGreatDoorGuardOwnWalk1
set_option linter.all false
section
set_option maxRecDepth 10000
set_option maxHeartbeats 4000000
open Go Go.Kx Go.Proofs Tryz
namespace Gx
theorem z74_ct (N : Nat) (l_ : (List T0)) (r : Bool) (h : z74 N l_ = some r) :
  Fn Tryz.prog 74 ⟨1, [.c (.sl 0)], [(0, .sl rR0 l_)], [], 1, .c (.b r), [], []⟩ := by
  refine Fn.intro _ _ Tryz.func74 rfl (by kernel_rfl) rfl (fun E F w => ?_)
  unfold z74 at h
  refine WP.seq (WP.region (WPr.sil htt 1 rfl (WPr.nil (WP.seq (WP.seq (WP.region (WPr.silx [] ⟨[(0, .c (.sl 0)), (2, .c (.b false)), (11, .c (.b (decide ((l_.length : Int) > (40 : Int)))))], [], [(0, .sl rR0 l_)], 1⟩ htt 3 (by kernel_rfl) (WPr.nil (?_)))))))))
  rcases oc h with ⟨hc, h⟩ | ⟨hc, h⟩
  · refine WP.condT hc rfl (WP.seq (WP.region (WPr.sil htt 1 rfl (WPr.nil (?_)))))
    cases h
    exact WP.ret htt Tryz.func74 [] rfl rfl rfl rfl
  refine WP.condF hc rfl (WP.skip (WP.seq (WP.region (WPr.sil htt 1 rfl (?_)))))
  obtain ⟨x1, hx1, h⟩ := ob h
  refine WPr.call (z79_ct N l_ _ hx1) [(0, .sl 0)] [] rfl rfl rfl rfl rfl rfl rfl rfl (.inl rfl) rfl (WPr.silx [] ⟨[(0, .c (.sl 0)), (2, .c (.b false)), (3, .c (.sl 1))], [(1, .own rR2 x1 true)], [(0, .sl rR0 l_)], 2⟩ htt 1 (by kernel_rfl) (WPr.nil (WP.seq (WP.seq (WP.region (WPr.silx [] ⟨[(0, .c (.sl 0)), (2, .c (.b false)), (3, .c (.sl 1)), (16, .c (.b (decide ((x1.length : Int) > (24 : Int)))))], [(1, .own rR2 x1 true)], [(0, .sl rR0 l_)], 2⟩ htt 3 (by kernel_rfl) (WPr.nil (?_))))))))
  rcases oc h with ⟨hc, h⟩ | ⟨hc, h⟩
  · refine WP.condT hc rfl (WP.seq (WP.region (WPr.sil htt 1 rfl (WPr.nil (?_)))))
    cases h
    exact WP.ret htt Tryz.func74 [] rfl rfl rfl rfl
  refine WP.condF hc rfl (WP.skip (WP.seq (WP.region (WPr.sil htt 1 rfl (WPr.nil (WP.seq (WP.seq (WP.region (WPr.silx [] ⟨[(0, .c (.sl 0)), (2, .c (.b false)), (3, .c (.sl 1)), (4, .c (.i .i64 (0 : Int))), (17, .c (.sl 0)), (18, .c (.i .i64 (l_.length : Int))), (19, .c (.i .i64 (0 : Int)))], [(1, .own rR2 x1 true)], [(0, .sl rR0 l_)], 2⟩ htt 3 (by kernel_rfl) (WPr.nil (?_)))))))))))
  refine WP.cut (σ := Unit) (fun st => ⟨[], [], [(0, .sl rR0 l_)], 2⟩) (fun st => z74_k1 = some r) ?_ (fun j1 => ?_)
  · intro _ h
    replace h : z74_k1 = some r := h
    unfold z74_k1 at h
    refine WP.seq (WP.region (WPr.sil htt 1 rfl (WPr.nil (?_))))
    cases h
    exact WP.ret htt Tryz.func74 [] rfl rfl rfl rfl
  refine WP.block (?_)
  refine WP.loopI (σ := Int × Int) (fun st => ⟨[(0, .c (.sl 0)), (3, .c (.sl 1)), (4, .c (.i .i64 st.1)), (17, .c (.sl 0)), (18, .c (.i .i64 (l_.length : Int))), (19, .c (.i .i64 st.2))], [(1, .own rR2 x1 true)], [(0, .sl rR0 l_)], 2⟩) (fun n st => z74_l2 N l_ x1 n st.1 st.2) (r := r) (fun _ => rfl) ?_ (fun ih => ?_)
  · intro n12 ih12
    rintro ⟨v4_12, v19_12⟩ h
    replace h : z74_l2 N l_ x1 (n12 + 1) v4_12 v19_12 = some r := h
    unfold z74_l2 at h
    refine WP.seq (WP.region (WPr.sil htt 1 rfl (WPr.nil (WP.seq (?_)))))
    rcases oc' h with ⟨hc, h⟩ | ⟨hc, h⟩
    · exact WP.condF hc rfl (WP.exit rfl (WP.sub [] (j1 () h) rfl rfl rfl rfl))
    refine WP.condT hc rfl (WP.skip (WP.seq (WP.block (WP.seq (WP.region (WPr.sil htt 1 rfl (?_)))))))
    obtain ⟨x367, hx367, h⟩ := ob h
    refine WPr.ix oO0 htt hx367 rfl rfl rfl rfl rfl rfl rfl rfl rfl (WPr.silx [] ⟨[(0, .c (.sl 0)), (3, .c (.sl 1)), (4, .c (.i .i64 v4_12)), (5, .c (.i .i64 v19_12)), (6, .c (.bp 6 0)), (17, .c (.sl 0)), (18, .c (.i .i64 (l_.length : Int))), (19, .c (.i .i64 v19_12))], [(1, .own rR2 x1 true), (6, .box [.s x367.Name, .sl 3, .i .i64 x367.First, .sl 4, .sl 5] 44)], [(0, .sl rR0 l_), (3, .sl rR2 x367.Fields), (4, .sl rR1 x367.Guard.Diffs), (5, .sl (rP (rI .i64) (rI .i64)) x367.Guard.Equals)], 7⟩ htt 4 (by kernel_rfl) (WPr.nil (WP.seq (WP.seq (WP.region (WPr.sil htt 2 rfl (?_)))))))
    obtain ⟨x368, hx368, h⟩ := ob h
    refine WPr.call (z119_ct N x367.Name _ hx368) [] [] rfl rfl rfl rfl rfl rfl rfl rfl (.inl rfl) rfl (WPr.silx [5, 6, 7, 8, 9, 10, 11, 12, 13, 14, 15, 16, 17, 18, 19, 20, 21, 22] ⟨[(0, .c (.sl 0)), (3, .c (.sl 1)), (4, .c (.i .i64 v4_12)), (5, .c (.i .i64 v19_12)), (6, .c (.bp 6 0)), (17, .c (.sl 0)), (18, .c (.i .i64 (l_.length : Int))), (19, .c (.i .i64 v19_12)), (28, .c (.b (!x368)))], [(1, .own rR2 x1 true), (6, .box [.s x367.Name, .sl 3, .i .i64 x367.First, .sl 4, .sl 5] 44)], [(0, .sl rR0 l_), (3, .sl rR2 x367.Fields), (4, .sl rR1 x367.Guard.Diffs), (5, .sl (rP (rI .i64) (rI .i64)) x367.Guard.Equals)], 7⟩ htt 2 (by kernel_rfl) (?_))
    rcases oc h with ⟨hc, h⟩ | ⟨hc, h⟩
    · refine WPr.kb 28 hc rfl (WPr.silx [] ⟨[(0, .c (.sl 0)), (3, .c (.sl 1)), (4, .c (.i .i64 v4_12)), (6, .c (.bp 6 0)), (17, .c (.sl 0)), (18, .c (.i .i64 (l_.length : Int))), (19, .c (.i .i64 v19_12)), (46, .c (.b true))], [(1, .own rR2 x1 true), (6, .box [.s x367.Name, .sl 3, .i .i64 x367.First, .sl 4, .sl 5] 44)], [(0, .sl rR0 l_), (3, .sl rR2 x367.Fields), (4, .sl rR1 x367.Guard.Diffs), (5, .sl (rP (rI .i64) (rI .i64)) x367.Guard.Equals)], 7⟩ htt 18 (by kernel_rfl) (WPr.nil (WP.condT rfl rfl (WP.seq (WP.region (WPr.sil htt 1 rfl (WPr.nil (?_))))))))
      cases h
      exact WP.ret htt Tryz.func74 [] rfl rfl rfl rfl
    refine WPr.kb 28 hc rfl (WPr.silx [11, 12, 13, 14, 15, 16, 17, 18, 19, 20, 21, 22] ⟨[(0, .c (.sl 0)), (3, .c (.sl 1)), (4, .c (.i .i64 v4_12)), (5, .c (.i .i64 v19_12)), (6, .c (.bp 6 0)), (17, .c (.sl 0)), (18, .c (.i .i64 (l_.length : Int))), (19, .c (.i .i64 v19_12)), (34, .c (.b (decide ((x367.Fields.length : Int) > (4 : Int)))))], [(1, .own rR2 x1 true), (6, .box [.s x367.Name, .sl 3, .i .i64 x367.First, .sl 4, .sl 5] 44)], [(0, .sl rR0 l_), (3, .sl rR2 x367.Fields), (4, .sl rR1 x367.Guard.Diffs), (5, .sl (rP (rI .i64) (rI .i64)) x367.Guard.Equals)], 7⟩ htt 6 (by kernel_rfl) (?_))
    rcases oc h with ⟨hc, h⟩ | ⟨hc, h⟩
    · refine WPr.kb 34 hc rfl (WPr.silx [] ⟨[(0, .c (.sl 0)), (3, .c (.sl 1)), (4, .c (.i .i64 v4_12)), (6, .c (.bp 6 0)), (17, .c (.sl 0)), (18, .c (.i .i64 (l_.length : Int))), (19, .c (.i .i64 v19_12)), (46, .c (.b true))], [(1, .own rR2 x1 true), (6, .box [.s x367.Name, .sl 3, .i .i64 x367.First, .sl 4, .sl 5] 44)], [(0, .sl rR0 l_), (3, .sl rR2 x367.Fields), (4, .sl rR1 x367.Guard.Diffs), (5, .sl (rP (rI .i64) (rI .i64)) x367.Guard.Equals)], 7⟩ htt 12 (by kernel_rfl) (WPr.nil (WP.condT rfl rfl (WP.seq (WP.region (WPr.sil htt 1 rfl (WPr.nil (?_))))))))
      cases h
      exact WP.ret htt Tryz.func74 [] rfl rfl rfl rfl
    refine WPr.kb 34 hc rfl (WPr.silx [17, 18, 19, 20, 21, 22] ⟨[(0, .c (.sl 0)), (3, .c (.sl 1)), (4, .c (.i .i64 v4_12)), (5, .c (.i .i64 v19_12)), (6, .c (.bp 6 0)), (17, .c (.sl 0)), (18, .c (.i .i64 (l_.length : Int))), (19, .c (.i .i64 v19_12)), (40, .c (.b (x367.First != v4_12)))], [(1, .own rR2 x1 true), (6, .box [.s x367.Name, .sl 3, .i .i64 x367.First, .sl 4, .sl 5] 44)], [(0, .sl rR0 l_), (3, .sl rR2 x367.Fields), (4, .sl rR1 x367.Guard.Diffs), (5, .sl (rP (rI .i64) (rI .i64)) x367.Guard.Equals)], 7⟩ htt 6 (by kernel_rfl) (?_))
    rcases oc h with ⟨hc, h⟩ | ⟨hc, h⟩
    · refine WPr.kb 40 hc rfl (WPr.silx [] ⟨[(0, .c (.sl 0)), (3, .c (.sl 1)), (4, .c (.i .i64 v4_12)), (6, .c (.bp 6 0)), (17, .c (.sl 0)), (18, .c (.i .i64 (l_.length : Int))), (19, .c (.i .i64 v19_12)), (46, .c (.b true))], [(1, .own rR2 x1 true), (6, .box [.s x367.Name, .sl 3, .i .i64 x367.First, .sl 4, .sl 5] 44)], [(0, .sl rR0 l_), (3, .sl rR2 x367.Fields), (4, .sl rR1 x367.Guard.Diffs), (5, .sl (rP (rI .i64) (rI .i64)) x367.Guard.Equals)], 7⟩ htt 6 (by kernel_rfl) (WPr.nil (WP.condT rfl rfl (WP.seq (WP.region (WPr.sil htt 1 rfl (WPr.nil (?_))))))))
      cases h
      exact WP.ret htt Tryz.func74 [] rfl rfl rfl rfl
    refine WPr.kb 40 hc rfl (WPr.sil htt 2 rfl (?_))
    obtain ⟨x369, hx369, h⟩ := ob h
    refine WPr.isl htt (l := none) (h := some (.i64, v19_12)) hx369 rfl rfl rfl rfl rfl rfl rfl rfl rfl rfl (WPr.silx [21, 22] ⟨[(0, .c (.sl 0)), (3, .c (.sl 1)), (4, .c (.i .i64 v4_12)), (6, .c (.bp 6 0)), (17, .c (.sl 0)), (18, .c (.i .i64 (l_.length : Int))), (19, .c (.i .i64 v19_12)), (40, .c (.b false)), (43, .c (.sl 7)), (44, .c (.cl 121 [] [6]))], [(1, .own rR2 x1 true), (6, .box [.s x367.Name, .sl 3, .i .i64 x367.First, .sl 4, .sl 5] 44)], [(0, .sl rR0 l_), (3, .sl rR2 x367.Fields), (4, .sl rR1 x367.Guard.Diffs), (5, .sl (rP (rI .i64) (rI .i64)) x367.Guard.Equals), (7, .sl rR0 x369)], 8⟩ htt 1 (by kernel_rfl) (?_))
    obtain ⟨x370, hx370, h⟩ := ob h
    refine WPr.call (z120_4_ct N x369 x367 _ hx370) [(0, .sl 7), (1, .bp 6 0), (2, .sl 3), (3, .sl 4), (4, .sl 5)] [] rfl rfl rfl rfl rfl rfl rfl rfl (.inl rfl) rfl (WPr.silx [] ⟨[(0, .c (.sl 0)), (3, .c (.sl 1)), (4, .c (.i .i64 v4_12)), (6, .c (.bp 6 0)), (17, .c (.sl 0)), (18, .c (.i .i64 (l_.length : Int))), (19, .c (.i .i64 v19_12)), (46, .c (.b x370))], [(1, .own rR2 x1 true), (6, .box [.s x367.Name, .sl 3, .i .i64 x367.First, .sl 4, .sl 5] 44)], [(0, .sl rR0 l_), (3, .sl rR2 x367.Fields), (4, .sl rR1 x367.Guard.Diffs), (5, .sl (rP (rI .i64) (rI .i64)) x367.Guard.Equals)], 8⟩ htt 1 (by kernel_rfl) (WPr.nil (?_)))
    rcases oc h with ⟨hc, h⟩ | ⟨hc, h⟩
    · refine WP.condT hc rfl (WP.seq (WP.region (WPr.sil htt 1 rfl (WPr.nil (?_)))))
      cases h
      exact WP.ret htt Tryz.func74 [] rfl rfl rfl rfl
    refine WP.condF hc rfl (WP.skip (WP.seq (WP.region (WPr.silx [] ⟨[(0, .c (.sl 0)), (3, .c (.sl 1)), (4, .c (.i .i64 (w64 (v4_12 + (x367.Fields.length : Int))))), (6, .c (.bp 6 0)), (17, .c (.sl 0)), (18, .c (.i .i64 (l_.length : Int))), (19, .c (.i .i64 v19_12))], [(1, .own rR2 x1 true), (6, .box [.s x367.Name, .sl 3, .i .i64 x367.First, .sl 4, .sl 5] 44)], [(0, .sl rR0 l_), (3, .sl rR2 x367.Fields), (4, .sl rR1 x367.Guard.Diffs), (5, .sl (rP (rI .i64) (rI .i64)) x367.Guard.Equals)], 8⟩ htt 6 (by kernel_rfl) (WPr.nil (WP.seq (WP.seq (WP.region (WPr.silx [] ⟨[(0, .c (.sl 0)), (3, .c (.sl 1)), (4, .c (.i .i64 (w64 (v4_12 + (x367.Fields.length : Int))))), (6, .c (.bp 6 0)), (17, .c (.sl 0)), (18, .c (.i .i64 (l_.length : Int))), (19, .c (.i .i64 v19_12)), (53, .c (.sl 3)), (54, .c (.i .i64 (x367.Fields.length : Int))), (55, .c (.i .i64 (0 : Int)))], [(1, .own rR2 x1 true), (6, .box [.s x367.Name, .sl 3, .i .i64 x367.First, .sl 4, .sl 5] 44)], [(0, .sl rR0 l_), (3, .sl rR2 x367.Fields), (4, .sl rR1 x367.Guard.Diffs), (5, .sl (rP (rI .i64) (rI .i64)) x367.Guard.Equals)], 8⟩ htt 4 (by kernel_rfl) (WPr.nil (?_)))))))))))
    refine WP.cut (σ := Unit) (fun st => ⟨[(0, .c (.sl 0)), (3, .c (.sl 1)), (4, .c (.i .i64 (w64 (v4_12 + (x367.Fields.length : Int))))), (6, .c (.bp 6 0)), (17, .c (.sl 0)), (18, .c (.i .i64 (l_.length : Int))), (19, .c (.i .i64 v19_12))], [(1, .own rR2 x1 true), (6, .box [.s x367.Name, .sl 3, .i .i64 x367.First, .sl 4, .sl 5] 44)], [(0, .sl rR0 l_), (3, .sl rR2 x367.Fields), (4, .sl rR1 x367.Guard.Diffs), (5, .sl (rP (rI .i64) (rI .i64)) x367.Guard.Equals)], 8⟩) (fun st => z74_k3 N x1 v4_12 v19_12 (z74_l2 N l_ x1 n12) x367 = some r) ?_ (fun j19 => ?_)
    · intro _ h
      replace h : z74_k3 N x1 v4_12 v19_12 (z74_l2 N l_ x1 n12) x367 = some r := h
      unfold z74_k3 at h
      refine WP.seq (WP.region (WPr.silx [3, 4] ⟨[(0, .c (.sl 0)), (3, .c (.sl 1)), (4, .c (.i .i64 (w64 (v4_12 + (x367.Fields.length : Int))))), (17, .c (.sl 0)), (18, .c (.i .i64 (l_.length : Int))), (19, .c (.i .i64 v19_12)), (80, .a [.sl 4, .sl 5]), (81, .c (.sl 1))], [(1, .own rR2 x1 true)], [(0, .sl rR0 l_), (4, .sl rR1 x367.Guard.Diffs), (5, .sl (rP (rI .i64) (rI .i64)) x367.Guard.Equals)], 8⟩ htt 3 (by kernel_rfl) (?_)))
      obtain ⟨x391, hx391, h⟩ := ob h
      refine WPr.call (z126_ct N x367.Guard x1 _ hx391) [(0, .sl 4), (1, .sl 5), (2, .sl 1)] [1] rfl rfl rfl rfl rfl rfl rfl rfl (.inr ⟨rfl, trivial⟩) rfl (WPr.silx [] ⟨[(0, .c (.sl 0)), (3, .c (.sl 1)), (4, .c (.i .i64 (w64 (v4_12 + (x367.Fields.length : Int))))), (17, .c (.sl 0)), (18, .c (.i .i64 (l_.length : Int))), (19, .c (.i .i64 v19_12)), (83, .c (.b (!x391)))], [(1, .own rR2 x1 true)], [(0, .sl rR0 l_)], 8⟩ htt 1 (by kernel_rfl) (WPr.nil (?_)))
      rcases oc h with ⟨hc, h⟩ | ⟨hc, h⟩
      · refine WP.condT hc rfl (WP.seq (WP.region (WPr.sil htt 1 rfl (WPr.nil (?_)))))
        cases h
        exact WP.ret htt Tryz.func74 [] rfl rfl rfl rfl
      exact WP.condF hc rfl (WP.skip (WP.inBlock (WP.region (WPr.sil htt 2 rfl (WPr.nil (WP.sub [] (ih12 ((w64 (v4_12 + (x367.Fields.length : Int))), (w64 (v19_12 + (1 : Int)))) h) rfl rfl rfl rfl))))))
    refine WP.block (?_)
    refine WP.loopI (σ := Int) (fun st => ⟨[(0, .c (.sl 0)), (3, .c (.sl 1)), (4, .c (.i .i64 (w64 (v4_12 + (x367.Fields.length : Int))))), (6, .c (.bp 6 0)), (17, .c (.sl 0)), (18, .c (.i .i64 (l_.length : Int))), (19, .c (.i .i64 v19_12)), (53, .c (.sl 3)), (54, .c (.i .i64 (x367.Fields.length : Int))), (55, .c (.i .i64 st))], [(1, .own rR2 x1 true), (6, .box [.s x367.Name, .sl 3, .i .i64 x367.First, .sl 4, .sl 5] 44)], [(0, .sl rR0 l_), (3, .sl rR2 x367.Fields), (4, .sl rR1 x367.Guard.Diffs), (5, .sl (rP (rI .i64) (rI .i64)) x367.Guard.Equals)], 8⟩) (fun n st => z74_l4 N x1 v4_12 v19_12 (z74_l2 N l_ x1 n12) x367 n st) (r := r) (fun _ => rfl) ?_ (fun ih => ?_)
    · intro n14 ih21
      intro v55_21 h
      replace h : z74_l4 N x1 v4_12 v19_12 (z74_l2 N l_ x1 n12) x367 (n14 + 1) v55_21 = some r := h
      unfold z74_l4 at h
      refine WP.seq (WP.region (WPr.sil htt 1 rfl (WPr.nil (WP.seq (?_)))))
      rcases oc' h with ⟨hc, h⟩ | ⟨hc, h⟩
      · exact WP.condF hc rfl (WP.exit rfl (WP.sub [] (j19 () h) rfl rfl rfl rfl))
      refine WP.condT hc rfl (WP.skip (WP.seq (WP.block (WP.seq (WP.region (WPr.sil htt 1 rfl (?_)))))))
      obtain ⟨x412, hx412, h⟩ := ob h
      refine WPr.ix oO2 htt hx412 rfl rfl rfl rfl rfl rfl rfl rfl rfl (WPr.silx [] ⟨[(0, .c (.sl 0)), (3, .c (.sl 1)), (4, .c (.i .i64 (w64 (v4_12 + (x367.Fields.length : Int))))), (6, .c (.bp 6 0)), (7, .c (.i .i64 v55_21)), (8, .c (.bp 9 0)), (17, .c (.sl 0)), (18, .c (.i .i64 (l_.length : Int))), (19, .c (.i .i64 v19_12)), (53, .c (.sl 3)), (54, .c (.i .i64 (x367.Fields.length : Int))), (55, .c (.i .i64 v55_21))], [(1, .own rR2 x1 true), (6, .box [.s x367.Name, .sl 3, .i .i64 x367.First, .sl 4, .sl 5] 44), (9, .box [.s x412.Name, .i .i64 x412.Sort'.Kind, .i .i64 x412.Sort'.Lo, .i .i64 x412.Sort'.Hi] 89)], [(0, .sl rR0 l_), (3, .sl rR2 x367.Fields), (4, .sl rR1 x367.Guard.Diffs), (5, .sl (rP (rI .i64) (rI .i64)) x367.Guard.Equals)], 10⟩ htt 4 (by kernel_rfl) (WPr.nil (WP.seq (WP.region (WPr.sil htt 2 rfl (?_))))))
      obtain ⟨x413, hx413, h⟩ := ob h
      refine WPr.call (z122_ct N x412.Name _ hx413) [] [] rfl rfl rfl rfl rfl rfl rfl rfl (.inl rfl) rfl (WPr.silx [5, 6, 7, 8, 9, 10, 11, 12, 13, 14, 15, 16, 17] ⟨[(0, .c (.sl 0)), (3, .c (.sl 1)), (4, .c (.i .i64 (w64 (v4_12 + (x367.Fields.length : Int))))), (6, .c (.bp 6 0)), (7, .c (.i .i64 v55_21)), (8, .c (.bp 9 0)), (17, .c (.sl 0)), (18, .c (.i .i64 (l_.length : Int))), (19, .c (.i .i64 v19_12)), (53, .c (.sl 3)), (54, .c (.i .i64 (x367.Fields.length : Int))), (55, .c (.i .i64 v55_21)), (64, .c (.b (!x413)))], [(1, .own rR2 x1 true), (6, .box [.s x367.Name, .sl 3, .i .i64 x367.First, .sl 4, .sl 5] 44), (9, .box [.s x412.Name, .i .i64 x412.Sort'.Kind, .i .i64 x412.Sort'.Lo, .i .i64 x412.Sort'.Hi] 89)], [(0, .sl rR0 l_), (3, .sl rR2 x367.Fields), (4, .sl rR1 x367.Guard.Diffs), (5, .sl (rP (rI .i64) (rI .i64)) x367.Guard.Equals)], 10⟩ htt 2 (by kernel_rfl) (?_))
      rcases oc h with ⟨hc, h⟩ | ⟨hc, h⟩
      · refine WPr.kb 64 hc rfl (WPr.silx [] ⟨[(0, .c (.sl 0)), (3, .c (.sl 1)), (4, .c (.i .i64 (w64 (v4_12 + (x367.Fields.length : Int))))), (6, .c (.bp 6 0)), (17, .c (.sl 0)), (18, .c (.i .i64 (l_.length : Int))), (19, .c (.i .i64 v19_12)), (53, .c (.sl 3)), (54, .c (.i .i64 (x367.Fields.length : Int))), (55, .c (.i .i64 v55_21)), (77, .c (.b true))], [(1, .own rR2 x1 true), (6, .box [.s x367.Name, .sl 3, .i .i64 x367.First, .sl 4, .sl 5] 44)], [(0, .sl rR0 l_), (3, .sl rR2 x367.Fields), (4, .sl rR1 x367.Guard.Diffs), (5, .sl (rP (rI .i64) (rI .i64)) x367.Guard.Equals)], 10⟩ htt 13 (by kernel_rfl) (WPr.nil (WP.condT rfl rfl (WP.seq (WP.region (WPr.sil htt 1 rfl (WPr.nil (?_))))))))
        cases h
        exact WP.ret htt Tryz.func74 [] rfl rfl rfl rfl
      refine WPr.kb 64 hc rfl (WPr.sil htt 2 rfl (?_))
      obtain ⟨x414, hx414, h⟩ := ob h
      refine WPr.call (z123_ct N x412.Sort' _ hx414) [] [] rfl rfl rfl rfl rfl rfl rfl rfl (.inl rfl) rfl (WPr.silx [11, 12, 13, 14, 15, 16, 17] ⟨[(0, .c (.sl 0)), (3, .c (.sl 1)), (4, .c (.i .i64 (w64 (v4_12 + (x367.Fields.length : Int))))), (6, .c (.bp 6 0)), (7, .c (.i .i64 v55_21)), (8, .c (.bp 9 0)), (17, .c (.sl 0)), (18, .c (.i .i64 (l_.length : Int))), (19, .c (.i .i64 v19_12)), (53, .c (.sl 3)), (54, .c (.i .i64 (x367.Fields.length : Int))), (55, .c (.i .i64 v55_21)), (70, .c (.b (!x414)))], [(1, .own rR2 x1 true), (6, .box [.s x367.Name, .sl 3, .i .i64 x367.First, .sl 4, .sl 5] 44), (9, .box [.s x412.Name, .i .i64 x412.Sort'.Kind, .i .i64 x412.Sort'.Lo, .i .i64 x412.Sort'.Hi] 89)], [(0, .sl rR0 l_), (3, .sl rR2 x367.Fields), (4, .sl rR1 x367.Guard.Diffs), (5, .sl (rP (rI .i64) (rI .i64)) x367.Guard.Equals)], 10⟩ htt 3 (by kernel_rfl) (?_))
      rcases oc h with ⟨hc, h⟩ | ⟨hc, h⟩
      · refine WPr.kb 70 hc rfl (WPr.silx [] ⟨[(0, .c (.sl 0)), (3, .c (.sl 1)), (4, .c (.i .i64 (w64 (v4_12 + (x367.Fields.length : Int))))), (6, .c (.bp 6 0)), (17, .c (.sl 0)), (18, .c (.i .i64 (l_.length : Int))), (19, .c (.i .i64 v19_12)), (53, .c (.sl 3)), (54, .c (.i .i64 (x367.Fields.length : Int))), (55, .c (.i .i64 v55_21)), (77, .c (.b true))], [(1, .own rR2 x1 true), (6, .box [.s x367.Name, .sl 3, .i .i64 x367.First, .sl 4, .sl 5] 44)], [(0, .sl rR0 l_), (3, .sl rR2 x367.Fields), (4, .sl rR1 x367.Guard.Diffs), (5, .sl (rP (rI .i64) (rI .i64)) x367.Guard.Equals)], 10⟩ htt 7 (by kernel_rfl) (WPr.nil (WP.condT rfl rfl (WP.seq (WP.region (WPr.sil htt 1 rfl (WPr.nil (?_))))))))
        cases h
        exact WP.ret htt Tryz.func74 [] rfl rfl rfl rfl
      refine WPr.kb 70 hc rfl (WPr.silx [14, 15, 16, 17] ⟨[(0, .c (.sl 0)), (3, .c (.sl 1)), (4, .c (.i .i64 (w64 (v4_12 + (x367.Fields.length : Int))))), (6, .c (.bp 6 0)), (8, .c (.bp 9 0)), (17, .c (.sl 0)), (18, .c (.i .i64 (l_.length : Int))), (19, .c (.i .i64 v19_12)), (53, .c (.sl 3)), (54, .c (.i .i64 (x367.Fields.length : Int))), (55, .c (.i .i64 v55_21)), (70, .c (.b false)), (72, .c (.sl 3)), (73, .c (.i .i64 v55_21))], [(1, .own rR2 x1 true), (6, .box [.s x367.Name, .sl 3, .i .i64 x367.First, .sl 4, .sl 5] 44), (9, .box [.s x412.Name, .i .i64 x412.Sort'.Kind, .i .i64 x412.Sort'.Lo, .i .i64 x412.Sort'.Hi] 89)], [(0, .sl rR0 l_), (3, .sl rR2 x367.Fields), (4, .sl rR1 x367.Guard.Diffs), (5, .sl (rP (rI .i64) (rI .i64)) x367.Guard.Equals)], 10⟩ htt 3 (by kernel_rfl) (?_))
      obtain ⟨x415, hx415, h⟩ := ob h
      refine WPr.isl htt (l := none) (h := some (.i64, v55_21)) hx415 rfl rfl rfl rfl rfl rfl rfl rfl rfl rfl (WPr.sil htt 1 rfl (?_))
      obtain ⟨x416, hx416, h⟩ := ob h
      refine WPr.call (z124_7_ct N x415 x412 _ hx416) [(0, .sl 10), (1, .bp 9 0)] [] rfl rfl rfl rfl rfl rfl rfl rfl (.inl rfl) rfl (WPr.silx [] ⟨[(0, .c (.sl 0)), (3, .c (.sl 1)), (4, .c (.i .i64 (w64 (v4_12 + (x367.Fields.length : Int))))), (6, .c (.bp 6 0)), (17, .c (.sl 0)), (18, .c (.i .i64 (l_.length : Int))), (19, .c (.i .i64 v19_12)), (53, .c (.sl 3)), (54, .c (.i .i64 (x367.Fields.length : Int))), (55, .c (.i .i64 v55_21)), (77, .c (.b x416))], [(1, .own rR2 x1 true), (6, .box [.s x367.Name, .sl 3, .i .i64 x367.First, .sl 4, .sl 5] 44)], [(0, .sl rR0 l_), (3, .sl rR2 x367.Fields), (4, .sl rR1 x367.Guard.Diffs), (5, .sl (rP (rI .i64) (rI .i64)) x367.Guard.Equals)], 11⟩ htt 1 (by kernel_rfl) (WPr.nil (?_)))
      rcases oc h with ⟨hc, h⟩ | ⟨hc, h⟩
      · refine WP.condT hc rfl (WP.seq (WP.region (WPr.sil htt 1 rfl (WPr.nil (?_)))))
        cases h
        exact WP.ret htt Tryz.func74 [] rfl rfl rfl rfl
      exact WP.condF hc rfl (WP.skip (WP.inBlock (WP.region (WPr.sil htt 2 rfl (WPr.nil (WP.sub [] (ih21 (w64 (v55_21 + (1 : Int))) h) rfl rfl rfl rfl))))))
    exact WP.sub [] (ih N (0 : Int) h) rfl rfl rfl rfl
  exact WP.sub [] (ih N ((0 : Int), (0 : Int)) h) rfl rfl rfl rfl
theorem z36_ct (N : Nat) (v_ : T5) (r : Int) (h : z36 N v_ = some r) :
  Fn Tryz.prog 36 ⟨0, [.a [.i .i64 v_.Kind, .i .i64 v_.N, .s v_.S]], [], [], 0, .c (.i .i64 r), [], []⟩ := by
  refine Fn.intro _ _ Tryz.func36 rfl (by kernel_rfl) rfl (fun E F w => ?_)
  unfold z36 at h
  refine WP.seq (WP.region (WPr.sil htt 2 rfl (WPr.nil (WP.seq (WP.seq (WP.region (WPr.silx [] ⟨[(1, .c (.bp 0 0)), (2, .c (.i .i64 (0 : Int))), (5, .c (.b (v_.Kind == (2 : Int))))], [(0, .box [.i .i64 v_.Kind, .i .i64 v_.N, .s v_.S] 46)], [], 1⟩ htt 3 (by kernel_rfl) (WPr.nil (?_)))))))))
  rcases oc h with ⟨hc, h⟩ | ⟨hc, h⟩
  · refine WP.condT hc rfl (WP.seq (WP.region (WPr.silx [] ⟨[(2, .c (.i .i64 (v_.S.size : Int)))], [], [], 1⟩ htt 4 (by kernel_rfl) (WPr.nil (?_)))))
    cases h
    exact WP.ret htt Tryz.func36 [] rfl rfl rfl rfl
  refine WP.condF hc rfl (WP.skip (WP.seq (WP.region (WPr.silx [] ⟨[(2, .c (.i .i64 v_.N))], [], [], 1⟩ htt 3 (by kernel_rfl) (WPr.nil (?_))))))
  cases h
  exact WP.ret htt Tryz.func36 [] rfl rfl rfl rfl
theorem z145_ct (N : Nat) (r_ : Int) (r : Bool) (h : z145 N r_ = some r) :
  Fn Tryz.prog 145 ⟨0, [.c (.i .i32 r_)], [], [], 0, .c (.b r), [], []⟩ := by
  refine Fn.intro _ _ Tryz.func145 rfl (by kernel_rfl) rfl (fun E F w => ?_)
  unfold z145 at h
  refine WP.seq (WP.region (WPr.sil htt 1 rfl (WPr.nil (WP.seq (WP.region (WPr.silx [3, 4, 5, 6] ⟨[(0, .c (.i .i32 r_)), (5, .c (.b (decide (r_ < (32 : Int)))))], [], [], 0⟩ htt 3 (by kernel_rfl) (?_)))))))
  rcases oc h with ⟨hc, h⟩ | ⟨hc, h⟩
  · refine WPr.kb 5 hc rfl (WPr.silx [] ⟨[(2, .c (.b true))], [], [], 0⟩ htt 4 (by kernel_rfl) (WPr.nil (?_)))
    cases h
    exact WP.ret htt Tryz.func145 [] rfl rfl rfl rfl
  refine WPr.kb 5 hc rfl (WPr.silx [] ⟨[(2, .c (.b (decide (r_ > (126 : Int)))))], [], [], 0⟩ htt 4 (by kernel_rfl) (WPr.nil (?_)))
  cases h
  exact WP.ret htt Tryz.func145 [] rfl rfl rfl rfl
theorem z246_8_ct (N : Nat) (s_ : ByteArray) (truth_ : Bool) (r : Int) (h : z246_8 N s_ truth_ = some r) :
  Fn Tryz.prog 246 ⟨0, [.c (.s s_), .c (.cl 145 [] []), .c (.b truth_)], [], [], 0, .c (.i .i64 r), [], []⟩ := by
  refine Fn.intro _ _ Tryz.func246 rfl (by kernel_rfl) rfl (fun E F w => ?_)
  unfold z246_8 at h
  refine WP.seq (WP.region (WPr.sil htt 1 rfl (WPr.nil (WP.seq (WP.seq (WP.region (WPr.sil htt 1 rfl (WPr.rng htt rfl rfl rfl rfl rfl rfl rfl rfl (fun bk1 => WPr.silx [] ⟨[(1, .c (.cl 145 [] [])), (2, .c (.b truth_)), (6, .c (.i .i64 (0 : Int))), (10, .c (.v (.pointer (some ⟨bk1, 0, none⟩))))], [(0, .abs (itR bk1 s_ (0 : Nat)))], [], 1⟩ htt 0 (by kernel_rfl) (WPr.nil (?_)))))))))))
  refine WP.cut (σ := Nat) (fun st => ⟨[], [(0, .abs (itR bk1 s_ st))], [], 1⟩) (fun st => z246_8_k1 st = some r) ?_ (fun j1 => ?_)
  · intro vi0_1 h
    replace h : z246_8_k1 vi0_1 = some r := h
    unfold z246_8_k1 at h
    refine WP.seq (WP.region (WPr.sil htt 1 rfl (WPr.nil (?_))))
    cases h
    exact WP.ret htt Tryz.func246 [] rfl rfl rfl rfl
  refine WP.block (?_)
  refine WP.loopI (σ := Nat) (fun st => ⟨[(1, .c (.cl 145 [] [])), (2, .c (.b truth_)), (10, .c (.v (.pointer (some ⟨bk1, 0, none⟩))))], [(0, .abs (itR bk1 s_ st))], [], 1⟩) (fun n st => z246_8_l2 N s_ truth_ n st) (r := r) (fun _ => rfl) ?_ (fun ih => ?_)
  · intro n2 ih3
    intro vi0_3 h
    replace h : z246_8_l2 N s_ truth_ (n2 + 1) vi0_3 = some r := h
    unfold z246_8_l2 at h
    refine WP.seq (WP.region (?_))
    rcases oc' h with ⟨hc, h⟩ | ⟨hc, h⟩
    · exact WPr.nxtF 0 hc rfl rfl rfl rfl rfl rfl rfl (WPr.sil htt 1 rfl (WPr.nil (WP.seq (WP.condF rfl rfl (WP.exit rfl (WP.sub [] (j1 vi0_3 h) rfl rfl rfl rfl))))))
    refine WPr.nxtT 0 hc rfl rfl rfl rfl rfl rfl rfl (WPr.sil htt 1 rfl (WPr.nil (WP.seq (WP.condT rfl rfl (WP.skip (WP.block (WP.seq (WP.region (WPr.silx [] ⟨[(1, .c (.cl 145 [] [])), (2, .c (.b truth_)), (7, .c (.i .i64 ((vi0_3 : Nat) : Int))), (8, .c (.i .i32 ((Utf8.decode s_ vi0_3).1 : Int))), (10, .c (.v (.pointer (some ⟨bk1, 0, none⟩))))], [(0, .abs (itR bk1 s_ (vi0_3 + (Utf8.decode s_ vi0_3).2)))], [], 1⟩ htt 4 (by kernel_rfl) (WPr.nil (WP.seq (WP.region (WPr.sil htt 2 rfl (?_))))))))))))))
    obtain ⟨x10, hx10, h⟩ := ob h
    refine WPr.callc (z145_ct N ((Utf8.decode s_ vi0_3).1 : Int) _ hx10) [] [] rfl rfl rfl rfl rfl rfl rfl rfl rfl (.inl rfl) rfl (WPr.silx [] ⟨[(1, .c (.cl 145 [] [])), (2, .c (.b truth_)), (7, .c (.i .i64 ((vi0_3 : Nat) : Int))), (10, .c (.v (.pointer (some ⟨bk1, 0, none⟩)))), (19, .c (.b (x10 == truth_)))], [(0, .abs (itR bk1 s_ (vi0_3 + (Utf8.decode s_ vi0_3).2)))], [], 1⟩ htt 2 (by kernel_rfl) (WPr.nil (?_)))
    rcases oc h with ⟨hc, h⟩ | ⟨hc, h⟩
    · refine WP.condT hc rfl (WP.seq (WP.region (WPr.sil htt 2 rfl (WPr.nil (?_)))))
      cases h
      exact WP.ret htt Tryz.func246 [] rfl rfl rfl rfl
    exact WP.condF hc rfl (WP.skip (WP.inBlock (WP.sub [] (ih3 (vi0_3 + (Utf8.decode s_ vi0_3).2) h) rfl rfl rfl rfl)))
  exact WP.sub [] (ih N (0 : Nat) h) rfl rfl rfl rfl
theorem z213_9_ct (N : Nat) (s_ : ByteArray) (r : Int) (h : z213_9 N s_ = some r) :
  Fn Tryz.prog 213 ⟨0, [.c (.s s_), .c (.cl 145 [] [])], [], [], 0, .c (.i .i64 r), [], []⟩ := by
  refine Fn.intro _ _ Tryz.func213 rfl (by kernel_rfl) rfl (fun E F w => ?_)
  unfold z213_9 at h
  refine WP.seq (WP.region (WPr.sil htt 1 rfl (WPr.nil (WP.seq (WP.region (WPr.silx [2, 3] ⟨[(5, .c (.s s_)), (6, .c (.cl 145 [] []))], [], [], 0⟩ htt 2 (by kernel_rfl) (?_)))))))
  obtain ⟨x1, hx1, h⟩ := ob h
  refine WPr.call (z246_8_ct N s_ true _ hx1) [] [] rfl rfl rfl rfl rfl rfl rfl rfl (.inl rfl) rfl (WPr.silx [] ⟨[(4, .c (.i .i64 x1))], [], [], 0⟩ htt 1 (by kernel_rfl) (WPr.nil (?_)))
  cases h
  exact WP.ret htt Tryz.func213 [] rfl rfl rfl rfl
theorem z144_10_ct (N : Nat) (s_ : ByteArray) (r : Bool) (h : z144_10 N s_ = some r) :
  Fn Tryz.prog 144 ⟨0, [.c (.s s_), .c (.cl 145 [] [])], [], [], 0, .c (.b r), [], []⟩ := by
  refine Fn.intro _ _ Tryz.func144 rfl (by kernel_rfl) rfl (fun E F w => ?_)
  unfold z144_10 at h
  refine WP.seq (WP.region (WPr.sil htt 1 rfl (WPr.nil (WP.seq (WP.region (WPr.silx [2, 3, 4] ⟨[(5, .c (.s s_)), (6, .c (.cl 145 [] []))], [], [], 0⟩ htt 2 (by kernel_rfl) (?_)))))))
  obtain ⟨x1, hx1, h⟩ := ob h
  refine WPr.call (z213_9_ct N s_ _ hx1) [] [] rfl rfl rfl rfl rfl rfl rfl rfl (.inl rfl) rfl (WPr.silx [] ⟨[(4, .c (.b (decide (x1 ≥ (0 : Int)))))], [], [], 0⟩ htt 2 (by kernel_rfl) (WPr.nil (?_)))
  cases h
  exact WP.ret htt Tryz.func144 [] rfl rfl rfl rfl
theorem z80_ct (N : Nat) (s_ : T4) (v_ : T5) (r : Bool) (h : z80 N s_ v_ = some r) :
  Fn Tryz.prog 80 ⟨0, [.a [.i .i64 s_.Kind, .i .i64 s_.Lo, .i .i64 s_.Hi], .a [.i .i64 v_.Kind, .i .i64 v_.N, .s v_.S]], [], [], 0, .c (.b r), [], []⟩ := by
  refine Fn.intro _ _ Tryz.func80 rfl (by kernel_rfl) rfl (fun E F w => ?_)
  unfold z80 at h
  refine WP.seq (WP.region (WPr.silx [] ⟨[(2, .c (.bp 0 0)), (3, .c (.bp 1 0)), (4, .c (.b false))], [(0, .box [.i .i64 s_.Kind, .i .i64 s_.Lo, .i .i64 s_.Hi] 87), (1, .box [.i .i64 v_.Kind, .i .i64 v_.N, .s v_.S] 46)], [], 2⟩ htt 3 (by kernel_rfl) (WPr.nil (WP.seq (WP.seq (WP.regionQ (by kernel_rfl) (by kernel_rfl) (WPq.silx [6, 7, 8, 9, 10, 11, 12, 13, 14, 15, 16, 17, 18] ⟨[(2, .c (.bp 0 0)), (3, .c (.bp 1 0)), (4, .c (.b false)), (10, .c (.b (v_.Kind != s_.Kind)))], [(0, .box [.i .i64 s_.Kind, .i .i64 s_.Lo, .i .i64 s_.Hi] 87), (1, .box [.i .i64 v_.Kind, .i .i64 v_.N, .s v_.S] 46)], [], 2⟩ htt 6 (by kernel_rfl) (?_))))))))
  rcases oc h with ⟨hc, h⟩ | ⟨hc, h⟩
  · refine WPq.kb 10 hc rfl (WPq.silx [] ⟨[(3, .c (.bp 1 0)), (4, .c (.b false)), (23, .c (.b true))], [(1, .box [.i .i64 v_.Kind, .i .i64 v_.N, .s v_.S] 46)], [], 2⟩ htt 13 (by kernel_rfl) (WPq.nil (WP.condT rfl rfl (WP.seq (WP.region (WPr.sil htt 1 rfl (WPr.nil (?_))))))))
    cases h
    exact WP.ret htt Tryz.func80 [] rfl rfl rfl rfl
  refine WPq.kb 10 hc rfl (WPq.sil htt 1 rfl (?_))
  obtain ⟨x3, hx3, h⟩ := ob h
  refine WPq.call (z36_ct N v_ _ hx3) [] [] rfl rfl rfl rfl rfl rfl rfl rfl rfl rfl rfl rfl (WPq.silx [13, 14, 15, 16, 17, 18] ⟨[(2, .c (.bp 0 0)), (3, .c (.bp 1 0)), (4, .c (.b false)), (17, .c (.b (decide (x3 < s_.Lo))))], [(0, .box [.i .i64 s_.Kind, .i .i64 s_.Lo, .i .i64 s_.Hi] 87), (1, .box [.i .i64 v_.Kind, .i .i64 v_.N, .s v_.S] 46)], [], 2⟩ htt 5 (by kernel_rfl) (?_))
  rcases oc h with ⟨hc, h⟩ | ⟨hc, h⟩
  · refine WPq.kb 17 hc rfl (WPq.silx [] ⟨[(3, .c (.bp 1 0)), (4, .c (.b false)), (23, .c (.b true))], [(1, .box [.i .i64 v_.Kind, .i .i64 v_.N, .s v_.S] 46)], [], 2⟩ htt 6 (by kernel_rfl) (WPq.nil (WP.condT rfl rfl (WP.seq (WP.region (WPr.sil htt 1 rfl (WPr.nil (?_))))))))
    cases h
    exact WP.ret htt Tryz.func80 [] rfl rfl rfl rfl
  refine WPq.kb 17 hc rfl (WPq.sil htt 1 rfl (?_))
  obtain ⟨x4, hx4, h⟩ := ob h
  refine WPq.call (z36_ct N v_ _ hx4) [] [] rfl rfl rfl rfl rfl rfl rfl rfl rfl rfl rfl rfl (WPq.silx [] ⟨[(3, .c (.bp 1 0)), (4, .c (.b false)), (23, .c (.b (decide (x4 > s_.Hi))))], [(1, .box [.i .i64 v_.Kind, .i .i64 v_.N, .s v_.S] 46)], [], 2⟩ htt 4 (by kernel_rfl) (WPq.nil (?_)))
  rcases oc h with ⟨hc, h⟩ | ⟨hc, h⟩
  · refine WP.condT hc rfl (WP.seq (WP.region (WPr.sil htt 1 rfl (WPr.nil (?_)))))
    cases h
    exact WP.ret htt Tryz.func80 [] rfl rfl rfl rfl
  refine WP.condF hc rfl (WP.skip (WP.seq (WP.seq (WP.region (WPr.silx [] ⟨[(3, .c (.bp 1 0)), (4, .c (.b false)), (26, .c (.b (v_.Kind == (1 : Int))))], [(1, .box [.i .i64 v_.Kind, .i .i64 v_.N, .s v_.S] 46)], [], 2⟩ htt 3 (by kernel_rfl) (WPr.nil (?_)))))))
  rcases oc h with ⟨hc, h⟩ | ⟨hc, h⟩
  · refine WP.condT hc rfl (WP.seq (WP.region (WPr.silx [] ⟨[(4, .c (.b (v_.S.toList == (str []).toList)))], [], [], 2⟩ htt 4 (by kernel_rfl) (WPr.nil (?_)))))
    cases h
    exact WP.ret htt Tryz.func80 [] rfl rfl rfl rfl
  refine WP.condF hc rfl (WP.skip (WP.seq (WP.region (WPr.silx [4, 5, 6, 7, 8, 9] ⟨[(3, .c (.bp 1 0)), (33, .c (.b (v_.N == (0 : Int))))], [(1, .box [.i .i64 v_.Kind, .i .i64 v_.N, .s v_.S] 46)], [], 2⟩ htt 4 (by kernel_rfl) (?_)))))
  rcases oc' h with ⟨hc, h⟩ | ⟨hc, h⟩
  · refine WPr.kb 33 hc rfl (WPr.silx [] ⟨[(4, .c (.b false))], [], [], 2⟩ htt 6 (by kernel_rfl) (WPr.nil (?_)))
    cases h
    exact WP.ret htt Tryz.func80 [] rfl rfl rfl rfl
  refine WPr.kb 33 hc rfl (WPr.sil htt 2 rfl (?_))
  obtain ⟨x5, hx5, h⟩ := ob h
  refine WPr.call (z144_10_ct N v_.S _ hx5) [] [] rfl rfl rfl rfl rfl rfl rfl rfl (.inl rfl) rfl (WPr.silx [] ⟨[(4, .c (.b (!x5)))], [], [], 2⟩ htt 3 (by kernel_rfl) (WPr.nil (?_)))
  cases h
  exact WP.ret htt Tryz.func80 [] rfl rfl rfl rfl
theorem z33_ct (N : Nat) (l_ : (List T0)) (label_ : Int) (known_ : (List T5)) (r : Bool) (h : z33 N l_ label_ known_ = some r) :
  Fn Tryz.prog 33 ⟨2, [.c (.sl 0), .c (.i .i64 label_), .c (.sl 1)], [(0, .sl rR0 l_), (1, .sl rR5 known_)], [], 2, .c (.b r), [], []⟩ := by
  refine Fn.intro _ _ Tryz.func33 rfl (by kernel_rfl) rfl (fun E F w => ?_)
  unfold z33 at h
  refine WP.seq (WP.region (WPr.sil htt 1 rfl (WPr.nil (WP.seq (WP.seq (WP.region (WPr.silx [3, 4, 5, 6, 7, 8, 9, 10, 11, 12] ⟨[(0, .c (.sl 0)), (1, .c (.i .i64 label_)), (2, .c (.sl 1)), (6, .c (.b false)), (12, .c (.b (decide (label_ < (0 : Int)))))], [], [(0, .sl rR0 l_), (1, .sl rR5 known_)], 2⟩ htt 3 (by kernel_rfl) (?_))))))))
  rcases oc h with ⟨hc, h⟩ | ⟨hc, h⟩
  · refine WPr.kb 12 hc rfl (WPr.silx [] ⟨[(0, .c (.sl 0)), (2, .c (.sl 1)), (6, .c (.b false)), (22, .c (.b true))], [], [(0, .sl rR0 l_), (1, .sl rR5 known_)], 2⟩ htt 10 (by kernel_rfl) (WPr.nil (WP.condT rfl rfl (WP.seq (WP.region (WPr.sil htt 1 rfl (WPr.nil (?_))))))))
    cases h
    exact WP.ret htt Tryz.func33 [] rfl rfl rfl rfl
  refine WPr.kb 12 hc rfl (WPr.silx [9, 10, 11, 12] ⟨[(0, .c (.sl 0)), (2, .c (.sl 1)), (6, .c (.b false)), (18, .c (.b (decide (label_ ≥ (l_.length : Int)))))], [], [(0, .sl rR0 l_), (1, .sl rR5 known_)], 2⟩ htt 6 (by kernel_rfl) (?_))
  rcases oc h with ⟨hc, h⟩ | ⟨hc, h⟩
  · refine WPr.kb 18 hc rfl (WPr.silx [] ⟨[(0, .c (.sl 0)), (2, .c (.sl 1)), (6, .c (.b false)), (22, .c (.b true))], [], [(0, .sl rR0 l_), (1, .sl rR5 known_)], 2⟩ htt 4 (by kernel_rfl) (WPr.nil (WP.condT rfl rfl (WP.seq (WP.region (WPr.sil htt 1 rfl (WPr.nil (?_))))))))
    cases h
    exact WP.ret htt Tryz.func33 [] rfl rfl rfl rfl
  refine WPr.kb 18 hc rfl (WPr.sil htt 1 rfl (?_))
  obtain ⟨x1, hx1, h⟩ := ob h
  refine WPr.call (z74_ct N l_ _ hx1) [(0, .sl 0)] [] rfl rfl rfl rfl rfl rfl rfl rfl (.inl rfl) rfl (WPr.silx [] ⟨[(0, .c (.sl 0)), (2, .c (.sl 1)), (6, .c (.b false)), (22, .c (.b (!x1)))], [], [(0, .sl rR0 l_), (1, .sl rR5 known_)], 2⟩ htt 2 (by kernel_rfl) (WPr.nil (?_)))
  rcases oc h with ⟨hc, h⟩ | ⟨hc, h⟩
  · refine WP.condT hc rfl (WP.seq (WP.region (WPr.sil htt 1 rfl (WPr.nil (?_)))))
    cases h
    exact WP.ret htt Tryz.func33 [] rfl rfl rfl rfl
  refine WP.condF hc rfl (WP.skip (WP.seq (WP.region (WPr.sil htt 1 rfl (?_)))))
  obtain ⟨x2, hx2, h⟩ := ob h
  refine WPr.call (z79_ct N l_ _ hx2) [(0, .sl 0)] [] rfl rfl rfl rfl rfl rfl rfl rfl (.inl rfl) rfl (WPr.silx [] ⟨[(2, .c (.sl 1)), (6, .c (.b false)), (7, .c (.sl 2))], [(2, .own rR2 x2 true)], [(0, .sl rR0 l_), (1, .sl rR5 known_)], 3⟩ htt 1 (by kernel_rfl) (WPr.nil (WP.seq (WP.seq (WP.region (WPr.silx [] ⟨[(2, .c (.sl 1)), (6, .c (.b false)), (7, .c (.sl 2)), (29, .c (.b ((x2.length : Int) != (known_.length : Int))))], [(2, .own rR2 x2 true)], [(0, .sl rR0 l_), (1, .sl rR5 known_)], 3⟩ htt 5 (by kernel_rfl) (WPr.nil (?_))))))))
  rcases oc h with ⟨hc, h⟩ | ⟨hc, h⟩
  · refine WP.condT hc rfl (WP.seq (WP.region (WPr.sil htt 1 rfl (WPr.nil (?_)))))
    cases h
    exact WP.ret htt Tryz.func33 [] rfl rfl rfl rfl
  refine WP.condF hc rfl (WP.skip (WP.seq (WP.seq (WP.region (WPr.silx [] ⟨[(6, .c (.b false)), (7, .c (.sl 2)), (30, .c (.sl 1)), (31, .c (.i .i64 (known_.length : Int))), (32, .c (.i .i64 (0 : Int)))], [(2, .own rR2 x2 true)], [(0, .sl rR0 l_), (1, .sl rR5 known_)], 3⟩ htt 3 (by kernel_rfl) (WPr.nil (?_)))))))
  refine WP.cut (σ := Unit) (fun st => ⟨[], [], [(0, .sl rR0 l_), (1, .sl rR5 known_)], 3⟩) (fun st => z33_k1 = some r) ?_ (fun j1 => ?_)
  · intro _ h
    replace h : z33_k1 = some r := h
    unfold z33_k1 at h
    refine WP.seq (WP.region (WPr.sil htt 1 rfl (WPr.nil (?_))))
    cases h
    exact WP.ret htt Tryz.func33 [] rfl rfl rfl rfl
  refine WP.block (?_)
  refine WP.loopI (σ := Int) (fun st => ⟨[(7, .c (.sl 2)), (30, .c (.sl 1)), (31, .c (.i .i64 (known_.length : Int))), (32, .c (.i .i64 st))], [(2, .own rR2 x2 true)], [(0, .sl rR0 l_), (1, .sl rR5 known_)], 3⟩) (fun n st => z33_l2 N known_ x2 n st) (r := r) (fun _ => rfl) ?_ (fun ih => ?_)
  · intro n2 ih3
    intro v32_3 h
    replace h : z33_l2 N known_ x2 (n2 + 1) v32_3 = some r := h
    unfold z33_l2 at h
    refine WP.seq (WP.region (WPr.sil htt 1 rfl (WPr.nil (WP.seq (?_)))))
    rcases oc' h with ⟨hc, h⟩ | ⟨hc, h⟩
    · exact WP.condF hc rfl (WP.exit rfl (WP.sub [] (j1 () h) rfl rfl rfl rfl))
    refine WP.condT hc rfl (WP.skip (WP.seq (WP.block (WP.seq (WP.region (WPr.sil htt 1 rfl (?_)))))))
    obtain ⟨x227, hx227, h⟩ := ob h
    refine WPr.ix oO5 htt hx227 rfl rfl rfl rfl rfl rfl rfl rfl rfl (WPr.silx [] ⟨[(7, .c (.sl 2)), (8, .c (.i .i64 v32_3)), (9, .c (.bp 4 0)), (30, .c (.sl 1)), (31, .c (.i .i64 (known_.length : Int))), (32, .c (.i .i64 v32_3))], [(2, .own rR2 x2 true), (4, .box [.i .i64 x227.Kind, .i .i64 x227.N, .s x227.S] 46)], [(0, .sl rR0 l_), (1, .sl rR5 known_)], 5⟩ htt 4 (by kernel_rfl) (WPr.nil (WP.seq (WP.nm (fun A9 tA9 fA9 => ?_)))))
    have st229 : A9 0 ⟨[(9, .c (.bp 4 0))], [], [], [(4, .box [.i .i64 x227.Kind, .i .i64 x227.N, .s x227.S] 46)], 5, [(37, .a [.i .i64 x227.Kind, .i .i64 x227.N, .s x227.S])], [], [], 5⟩ := tA9 _ _ (LS.sil htt rfl rfl rfl rfl rfl rfl)
    have st230 : A9 1 ⟨[], [], [], [], 5, [(38, .a [.i .i64 (0 : Int), .i .i64 (0 : Int), .s (str [])])], [], [], 5⟩ := tA9 _ _ (LS.sil htt rfl rfl rfl rfl rfl rfl)
    have st231 : A9 2 ⟨[(37, .a [.i .i64 x227.Kind, .i .i64 x227.N, .s x227.S]), (38, .a [.i .i64 (0 : Int), .i .i64 (0 : Int), .s (str [])])], [], [], [], 5, [(39, .c (.b (!((x227.Kind == (0 : Int)) && ((x227.N == (0 : Int)) && ((x227.S.toList == (str []).toList) && true))))))], [], [], 5⟩ := tA9 _ _ (LS.of rfl rfl rfl (fun _ _ _ _ _ _ _ k => WPr.eqa (neg := true) (equal_run (b := ((x227.Kind == (0 : Int)) && ((x227.N == (0 : Int)) && ((x227.S.toList == (str []).toList) && true)))) (by kernel_rfl) (by kernel_rfl)) (by kernel_rfl) rfl rfl rfl rfl rfl rfl rfl (k)) rfl)
    have st232 : A9 3 ⟨[(39, .c (.b (!((x227.Kind == (0 : Int)) && ((x227.N == (0 : Int)) && ((x227.S.toList == (str []).toList) && true))))))], [], [], [], 5, [(40, .c (.b (!((x227.Kind == (0 : Int)) && ((x227.N == (0 : Int)) && ((x227.S.toList == (str []).toList) && true))))))], [], [], 5⟩ := tA9 _ _ (LS.sil htt rfl rfl rfl rfl rfl rfl)
    rcases oc' h with ⟨hc, h⟩ | ⟨hc, h⟩
    · have st245 := tA9 _ _ (LS.kb hc rfl (fA9 _ _ st232))
      have st246 : A9 4 ⟨[(40, .c (.b false))], [], [], [], 5, [(41, .u)], [], [], 5⟩ := tA9 _ _ (LS.skip rfl rfl rfl (.inr ⟨_, rfl, rfl⟩) rfl rfl)
      have st247 : A9 5 ⟨[(40, .c (.b false))], [], [], [], 5, [(42, .u)], [], [], 5⟩ := tA9 _ _ (LS.skip rfl rfl rfl (.inr ⟨_, rfl, rfl⟩) rfl rfl)
      have st248 : A9 6 ⟨[(40, .c (.b false))], [], [], [], 5, [(43, .u)], [], [], 5⟩ := tA9 _ _ (LS.skip rfl rfl rfl (.inr ⟨_, rfl, rfl⟩) rfl rfl)
      have st249 : A9 7 ⟨[(40, .c (.b false))], [], [], [], 5, [(44, .u)], [], [], 5⟩ := tA9 _ _ (LS.skip rfl rfl rfl (.inr ⟨_, rfl, rfl⟩) rfl rfl)
      have st250 : A9 8 ⟨[(40, .c (.b false))], [], [], [], 5, [(45, .u)], [], [], 5⟩ := tA9 _ _ (LS.skip rfl rfl rfl (.inr ⟨_, rfl, rfl⟩) rfl rfl)
      have st251 : A9 9 ⟨[(40, .c (.b false))], [], [], [], 5, [(46, .u)], [], [], 5⟩ := tA9 _ _ (LS.skip rfl rfl rfl (.inr ⟨_, rfl, rfl⟩) rfl rfl)
      have st252 : A9 10 ⟨[(40, .c (.b false))], [], [], [], 5, [(47, .u)], [], [], 5⟩ := tA9 _ _ (LS.skip rfl rfl rfl (.inr ⟨_, rfl, rfl⟩) rfl rfl)
      have st253 : A9 11 ⟨[(40, .c (.b false))], [], [], [], 5, [(48, .u)], [], [], 5⟩ := tA9 _ _ (LS.skip rfl rfl rfl (.inr ⟨_, rfl, rfl⟩) rfl rfl)
      have st254 : A9 12 ⟨[(40, .c (.b false)), (48, .u)], [], [], [], 5, [(49, .c (.b false))], [], [], 5⟩ := tA9 _ _ (LS.sil htt rfl rfl rfl rfl rfl rfl)
      exact WP.regionD (t := ⟨[(7, .c (.sl 2)), (30, .c (.sl 1)), (31, .c (.i .i64 (known_.length : Int))), (32, .c (.i .i64 v32_3)), (49, .c (.b false))], [(2, .own rR2 x2 true)], [(0, .sl rR0 l_), (1, .sl rR5 known_)], 5⟩) [0, 0, 3, 7, 15, 15, 63, 127, 255, 15, 1023, 2047, 4095] (.cons (fA9 _ _ st229) (.cons (fA9 _ _ st230) (.cons (fA9 _ _ st231) (.cons (fA9 _ _ st245) (.cons (fA9 _ _ st246) (.cons (fA9 _ _ st247) (.cons (fA9 _ _ st248) (.cons (fA9 _ _ st249) (.cons (fA9 _ _ st250) (.cons (fA9 _ _ st251) (.cons (fA9 _ _ st252) (.cons (fA9 _ _ st253) (.cons (fA9 _ _ st254) .nil))))))))))))) (by kernel_rfl) (by kernel_rfl) (by kernel_rfl) (by kernel_rfl) (WP.condF rfl rfl (WP.skip (WP.inBlock (WP.region (WPr.sil htt 2 rfl (WPr.nil (WP.sub [] (ih3 (w64 (v32_3 + (1 : Int))) h) rfl rfl rfl rfl)))))))
    have st233 := tA9 _ _ (LS.kb hc rfl (fA9 _ _ st232))
    have st234 : A9 4 ⟨[(7, .c (.sl 2)), (40, .c (.b true))], [], [], [], 5, [(41, .c (.sl 2))], [], [], 5⟩ := tA9 _ _ (LS.sil htt rfl rfl rfl rfl rfl rfl)
    have st235 : A9 5 ⟨[(8, .c (.i .i64 v32_3)), (40, .c (.b true))], [], [], [], 5, [(42, .c (.i .i64 v32_3))], [], [], 5⟩ := tA9 _ _ (LS.sil htt rfl rfl rfl rfl rfl rfl)
    obtain ⟨x236, hx236, h⟩ := ob h
    have st237 : A9 6 ⟨[(40, .c (.b true)), (41, .c (.sl 2)), (42, .c (.i .i64 v32_3))], [], [], [(2, .own rR2 x2 true)], 5, [(43, .c (.px 5 0))], [(5, .el 2 ((v32_3).toNat * (rR2).sz))], [], 6⟩ := tA9 _ _ (LS.of rfl rfl rfl (fun _ _ _ _ _ _ _ k => WPr.ixo htt hx236 rfl rfl rfl rfl rfl rfl rfl rfl rfl (k)) rfl)
    have st238 : A9 7 ⟨[(40, .c (.b true)), (43, .c (.px 5 0))], [(5, .el 2 ((v32_3).toNat * (rR2).sz))], [], [], 6, [(44, .c (.px 5 1))], [], [], 6⟩ := tA9 _ _ (LS.sil htt rfl rfl rfl rfl rfl rfl)
    have st239 : A9 8 ⟨[(40, .c (.b true)), (44, .c (.px 5 1))], [(5, .el 2 ((v32_3).toNat * (rR2).sz))], [], [(2, .own rR2 x2 true)], 6, [(45, .a [.i .i64 x236.Sort'.Kind, .i .i64 x236.Sort'.Lo, .i .i64 x236.Sort'.Hi])], [], [], 6⟩ := tA9 _ _ (LS.of rfl rfl rfl (fun _ _ _ _ _ _ _ k => WPr.ldo oO2 htt hx236 rfl rfl rfl rfl rfl rfl rfl rfl rfl rfl (k)) rfl)
    have st240 : A9 9 ⟨[(9, .c (.bp 4 0)), (40, .c (.b true))], [], [], [(4, .box [.i .i64 x227.Kind, .i .i64 x227.N, .s x227.S] 46)], 6, [(46, .a [.i .i64 x227.Kind, .i .i64 x227.N, .s x227.S])], [], [], 6⟩ := tA9 _ _ (LS.sil htt rfl rfl rfl rfl rfl rfl)
    obtain ⟨x241, hx241, h⟩ := ob h
    have st242 : A9 10 ⟨[(40, .c (.b true)), (45, .a [.i .i64 x236.Sort'.Kind, .i .i64 x236.Sort'.Lo, .i .i64 x236.Sort'.Hi]), (46, .a [.i .i64 x227.Kind, .i .i64 x227.N, .s x227.S])], [], [], [], 6, [(47, .c (.b x241))], [], [], 6⟩ := tA9 _ _ (LS.of rfl rfl rfl (fun _ _ _ _ _ _ _ k => WPr.call (z80_ct N x236.Sort' x227 _ hx241) [] [] rfl rfl rfl rfl rfl rfl rfl rfl (.inl rfl) rfl (k)) rfl)
    have st243 : A9 11 ⟨[(40, .c (.b true)), (47, .c (.b x241))], [], [], [], 6, [(48, .c (.b (!x241)))], [], [], 6⟩ := tA9 _ _ (LS.sil htt rfl rfl rfl rfl rfl rfl)
    have st244 : A9 12 ⟨[(40, .c (.b true)), (48, .c (.b (!x241)))], [], [], [], 6, [(49, .c (.b (!x241)))], [], [], 6⟩ := tA9 _ _ (LS.sil htt rfl rfl rfl rfl rfl rfl)
    refine WP.regionD (t := ⟨[(7, .c (.sl 2)), (30, .c (.sl 1)), (31, .c (.i .i64 (known_.length : Int))), (32, .c (.i .i64 v32_3)), (49, .c (.b (!x241)))], [(2, .own rR2 x2 true)], [(0, .sl rR0 l_), (1, .sl rR5 known_)], 6⟩) [0, 0, 3, 7, 15, 15, 63, 127, 255, 15, 1023, 2047, 4095] (.cons (fA9 _ _ st229) (.cons (fA9 _ _ st230) (.cons (fA9 _ _ st231) (.cons (fA9 _ _ st233) (.cons (fA9 _ _ st234) (.cons (fA9 _ _ st235) (.cons (fA9 _ _ st237) (.cons (fA9 _ _ st238) (.cons (fA9 _ _ st239) (.cons (fA9 _ _ st240) (.cons (fA9 _ _ st242) (.cons (fA9 _ _ st243) (.cons (fA9 _ _ st244) .nil))))))))))))) (by kernel_rfl) (by kernel_rfl) (by kernel_rfl) (by kernel_rfl) (?_)
    rcases oc h with ⟨hc, h⟩ | ⟨hc, h⟩
    · refine WP.condT hc rfl (WP.seq (WP.region (WPr.sil htt 1 rfl (WPr.nil (?_)))))
      cases h
      exact WP.ret htt Tryz.func33 [] rfl rfl rfl rfl
    exact WP.condF hc rfl (WP.skip (WP.inBlock (WP.region (WPr.sil htt 2 rfl (WPr.nil (WP.sub [] (ih3 (w64 (v32_3 + (1 : Int))) h) rfl rfl rfl rfl))))))
  exact WP.sub [] (ih N (0 : Int) h) rfl rfl rfl rfl
theorem z146_ct (N : Nat) (i_ : Int) (j_ : Int) (r : Int) (h : z146 N i_ j_ = some r) :
  Fn Tryz.prog 146 ⟨0, [.c (.i .i64 i_), .c (.i .i64 j_)], [], [], 0, .c (.i .i64 r), [], []⟩ := by
  refine Fn.intro _ _ Tryz.func146 rfl (by kernel_rfl) rfl (fun E F w => ?_)
  unfold z146 at h
  refine WP.seq (WP.region (WPr.sil htt 1 rfl (WPr.nil (WP.seq (WP.block (WP.seq (WP.region (WPr.silx [] ⟨[(0, .c (.i .i64 i_)), (1, .c (.i .i64 j_)), (4, .c (.i .i64 (0 : Int))), (5, .c (.b (i_ == j_)))], [], [], 0⟩ htt 4 (by kernel_rfl) (WPr.nil (?_))))))))))
  rcases oc h with ⟨hc, h⟩ | ⟨hc, h⟩
  · refine WP.condT hc rfl (WP.seq (WP.region (WPr.sil htt 1 rfl (WPr.nil (?_)))))
    cases h
    exact WP.ret htt Tryz.func146 [] rfl rfl rfl rfl
  refine WP.condF hc rfl (WP.seq (WP.region (WPr.silx [3, 4, 5, 6] ⟨[(1, .c (.i .i64 j_)), (4, .c (.i .i64 (0 : Int))), (12, .c (.b (i_ == (0 : Int))))], [], [], 0⟩ htt 3 (by kernel_rfl) (?_))))
  rcases oc h with ⟨hc, h⟩ | ⟨hc, h⟩
  · refine WPr.kb 12 hc rfl (WPr.silx [] ⟨[(4, .c (.i .i64 (0 : Int))), (9, .c (.b true))], [], [], 0⟩ htt 4 (by kernel_rfl) (WPr.nil (WP.condT rfl rfl (WP.seq (WP.region (WPr.sil htt 1 rfl (WPr.nil (?_))))))))
    cases h
    exact WP.ret htt Tryz.func146 [] rfl rfl rfl rfl
  refine WPr.kb 12 hc rfl (WPr.silx [] ⟨[(4, .c (.i .i64 (0 : Int))), (9, .c (.b (j_ == (0 : Int))))], [], [], 0⟩ htt 4 (by kernel_rfl) (WPr.nil (?_)))
  rcases oc h with ⟨hc, h⟩ | ⟨hc, h⟩
  · refine WP.condT hc rfl (WP.seq (WP.region (WPr.sil htt 1 rfl (WPr.nil (?_)))))
    cases h
    exact WP.ret htt Tryz.func146 [] rfl rfl rfl rfl
  refine WP.condF hc rfl (WP.skip (WP.inBlock (WP.seq (WP.region (WPr.sil htt 1 rfl (WPr.nil (?_)))))))
  cases h
  exact WP.ret htt Tryz.func146 [] rfl rfl rfl rfl
theorem z81_ct (N : Nat) (n_ : Int) (r : T7) (h : z81 N n_ = some r) :
  Fn Tryz.prog 81 ⟨0, [.c (.i .i64 n_)], [], [], 1, .a [.i .i64 r.N, .sl 0], [(0, .sl (rI .i64) r.B)], []⟩ := by
  refine Fn.intro _ _ Tryz.func81 rfl (by kernel_rfl) rfl (fun E F w => ?_)
  unfold z81 at h
  refine WP.seq (WP.region (WPr.sil htt 1 rfl (WPr.nil (WP.seq (WP.region (WPr.silx [6, 7, 8, 9] ⟨[(0, .c (.i .i64 n_)), (2, .c (.bp 0 0)), (6, .c (.i .i64 n_)), (11, .c (.i .i64 (w64 ((w64 (n_ + (1 : Int))) * (w64 (n_ + (1 : Int)))))))], [(0, .box [.i .i64 (0 : Int), .nil] 78)], [], 1⟩ htt 6 (by kernel_rfl) (?_)))))))
  obtain ⟨x1, hx1, h⟩ := ob h
  refine WPr.mk (oI .i64) htt (0 : Int) hx1 rfl rfl rfl rfl rfl rfl rfl rfl (by exact an rfl rfl) rfl (WPr.silx [] ⟨[(0, .c (.i .i64 n_)), (2, .c (.bp 0 0)), (3, .c (.bp 2 0))], [(0, .box [.i .i64 (0 : Int), .nil] 78), (1, .own (rI .i64) x1 true), (2, .box [.i .i64 n_, .sl 1] 78)], [], 3⟩ htt 3 (by kernel_rfl) (WPr.nil (WP.seq (WP.seq (WP.region (WPr.silx [] ⟨[(0, .c (.i .i64 n_)), (2, .c (.bp 0 0)), (3, .c (.bp 2 0)), (15, .c (.i .i64 (w64 (n_ + (1 : Int))))), (16, .c (.i .i64 (0 : Int)))], [(0, .box [.i .i64 (0 : Int), .nil] 78), (1, .own (rI .i64) x1 true), (2, .box [.i .i64 n_, .sl 1] 78)], [], 3⟩ htt 3 (by kernel_rfl) (WPr.nil (?_))))))))
  refine WP.cut (σ := (List Int)) (fun st => ⟨[(2, .c (.bp 0 0)), (3, .c (.bp 2 0))], [(0, .box [.i .i64 (0 : Int), .nil] 78), (1, .own (rI .i64) st true), (2, .box [.i .i64 n_, .sl 1] 78)], [], 3⟩) (fun st => z81_k1 n_ st = some r) ?_ (fun j1 => ?_)
  · intro vb3_2_1_1 h
    replace h : z81_k1 n_ vb3_2_1_1 = some r := h
    unfold z81_k1 at h
    refine WP.seq (WP.region (WPr.sil htt 2 rfl (WPr.nil (WP.frz 1 rfl (?_)))))
    cases h
    exact WP.ret htt Tryz.func81 [(0, .sl 1)] rfl rfl rfl rfl
  refine WP.block (?_)
  refine WP.loopI (σ := (List Int) × Int) (fun st => ⟨[(0, .c (.i .i64 n_)), (2, .c (.bp 0 0)), (3, .c (.bp 2 0)), (15, .c (.i .i64 (w64 (n_ + (1 : Int))))), (16, .c (.i .i64 st.2))], [(0, .box [.i .i64 (0 : Int), .nil] 78), (1, .own (rI .i64) st.1 true), (2, .box [.i .i64 n_, .sl 1] 78)], [], 3⟩) (fun n st => z81_l2 N n_ n st.1 st.2) (r := r) (fun _ => rfl) ?_ (fun ih => ?_)
  · intro n12 ih12
    rintro ⟨vb3_2_1_12, v16_12⟩ h
    replace h : z81_l2 N n_ (n12 + 1) vb3_2_1_12 v16_12 = some r := h
    unfold z81_l2 at h
    refine WP.seq (WP.region (WPr.sil htt 1 rfl (WPr.nil (WP.seq (?_)))))
    rcases oc' h with ⟨hc, h⟩ | ⟨hc, h⟩
    · exact WP.condF hc rfl (WP.exit rfl (WP.sub [] (j1 vb3_2_1_12 h) rfl rfl rfl rfl))
    refine WP.condT hc rfl (WP.skip (WP.seq (WP.block (WP.seq (WP.region (WPr.silx [] ⟨[(0, .c (.i .i64 n_)), (2, .c (.bp 0 0)), (3, .c (.bp 2 0)), (4, .c (.i .i64 v16_12)), (15, .c (.i .i64 (w64 (n_ + (1 : Int))))), (16, .c (.i .i64 v16_12))], [(0, .box [.i .i64 (0 : Int), .nil] 78), (1, .own (rI .i64) vb3_2_1_12 true), (2, .box [.i .i64 n_, .sl 1] 78)], [], 3⟩ htt 2 (by kernel_rfl) (WPr.nil (WP.seq (WP.region (WPr.silx [] ⟨[(0, .c (.i .i64 n_)), (2, .c (.bp 0 0)), (3, .c (.bp 2 0)), (4, .c (.i .i64 v16_12)), (15, .c (.i .i64 (w64 (n_ + (1 : Int))))), (16, .c (.i .i64 v16_12)), (20, .c (.i .i64 (w64 (n_ + (1 : Int))))), (21, .c (.i .i64 (0 : Int)))], [(0, .box [.i .i64 (0 : Int), .nil] 78), (1, .own (rI .i64) vb3_2_1_12 true), (2, .box [.i .i64 n_, .sl 1] 78)], [], 3⟩ htt 3 (by kernel_rfl) (WPr.nil (?_))))))))))))
    refine WP.cut (σ := (List Int)) (fun st => ⟨[(0, .c (.i .i64 n_)), (2, .c (.bp 0 0)), (3, .c (.bp 2 0)), (15, .c (.i .i64 (w64 (n_ + (1 : Int))))), (16, .c (.i .i64 v16_12))], [(0, .box [.i .i64 (0 : Int), .nil] 78), (1, .own (rI .i64) st true), (2, .box [.i .i64 n_, .sl 1] 78)], [], 3⟩) (fun st => z81_k3 v16_12 (z81_l2 N n_ n12) st = some r) ?_ (fun j19 => ?_)
    · intro vb3_2_1_19 h
      replace h : z81_k3 v16_12 (z81_l2 N n_ n12) vb3_2_1_19 = some r := h
      unfold z81_k3 at h
      exact WP.inBlock (WP.region (WPr.sil htt 2 rfl (WPr.nil (WP.sub [] (ih12 (vb3_2_1_19, (w64 (v16_12 + (1 : Int)))) h) rfl rfl rfl rfl))))
    refine WP.block (?_)
    refine WP.loopI (σ := (List Int) × Int) (fun st => ⟨[(0, .c (.i .i64 n_)), (2, .c (.bp 0 0)), (3, .c (.bp 2 0)), (4, .c (.i .i64 v16_12)), (15, .c (.i .i64 (w64 (n_ + (1 : Int))))), (16, .c (.i .i64 v16_12)), (20, .c (.i .i64 (w64 (n_ + (1 : Int))))), (21, .c (.i .i64 st.2))], [(0, .box [.i .i64 (0 : Int), .nil] 78), (1, .own (rI .i64) st.1 true), (2, .box [.i .i64 n_, .sl 1] 78)], [], 3⟩) (fun n st => z81_l4 N n_ v16_12 (z81_l2 N n_ n12) n st.1 st.2) (r := r) (fun _ => rfl) ?_ (fun ih => ?_)
    · intro n14 ih21
      rintro ⟨vb3_2_1_21, v21_21⟩ h
      replace h : z81_l4 N n_ v16_12 (z81_l2 N n_ n12) (n14 + 1) vb3_2_1_21 v21_21 = some r := h
      unfold z81_l4 at h
      refine WP.seq (WP.region (WPr.sil htt 1 rfl (WPr.nil (WP.seq (?_)))))
      rcases oc' h with ⟨hc, h⟩ | ⟨hc, h⟩
      · exact WP.condF hc rfl (WP.exit rfl (WP.sub [] (j19 vb3_2_1_21 h) rfl rfl rfl rfl))
      refine WP.condT hc rfl (WP.skip (WP.seq (WP.block (WP.seq (WP.region (WPr.silx [] ⟨[(0, .c (.i .i64 n_)), (2, .c (.bp 0 0)), (3, .c (.bp 2 0)), (4, .c (.i .i64 v16_12)), (5, .c (.i .i64 v21_21)), (15, .c (.i .i64 (w64 (n_ + (1 : Int))))), (16, .c (.i .i64 v16_12)), (20, .c (.i .i64 (w64 (n_ + (1 : Int))))), (21, .c (.i .i64 v21_21))], [(0, .box [.i .i64 (0 : Int), .nil] 78), (1, .own (rI .i64) vb3_2_1_21 true), (2, .box [.i .i64 n_, .sl 1] 78)], [], 3⟩ htt 2 (by kernel_rfl) (WPr.nil (WP.nm (fun A74 tA74 fA74 => ?_)))))))))
      have st1097 : A74 0 ⟨[(3, .c (.bp 2 0))], [], [], [], 3, [(24, .c (.bp 2 1))], [], [], 3⟩ := tA74 _ _ (LS.sil htt rfl rfl rfl rfl rfl rfl)
      have st1098 : A74 1 ⟨[(24, .c (.bp 2 1))], [], [], [(2, .box [.i .i64 n_, .sl 1] 78)], 3, [(25, .c (.sl 1))], [], [], 3⟩ := tA74 _ _ (LS.sil htt rfl rfl rfl rfl rfl rfl)
      have st1099 : A74 2 ⟨[(4, .c (.i .i64 v16_12))], [], [], [], 3, [(26, .c (.i .i64 v16_12))], [], [], 3⟩ := tA74 _ _ (LS.sil htt rfl rfl rfl rfl rfl rfl)
      have st1100 : A74 3 ⟨[(0, .c (.i .i64 n_))], [], [], [], 3, [(27, .c (.i .i64 n_))], [], [], 3⟩ := tA74 _ _ (LS.sil htt rfl rfl rfl rfl rfl rfl)
      have st1101 : A74 4 ⟨[(27, .c (.i .i64 n_))], [], [], [], 3, [(28, .c (.i .i64 (w64 (n_ + (1 : Int)))))], [], [], 3⟩ := tA74 _ _ (LS.sil htt rfl rfl rfl rfl rfl rfl)
      have st1102 : A74 5 ⟨[(26, .c (.i .i64 v16_12)), (28, .c (.i .i64 (w64 (n_ + (1 : Int)))))], [], [], [], 3, [(29, .c (.i .i64 (w64 (v16_12 * (w64 (n_ + (1 : Int)))))))], [], [], 3⟩ := tA74 _ _ (LS.sil htt rfl rfl rfl rfl rfl rfl)
      have st1103 : A74 6 ⟨[(5, .c (.i .i64 v21_21))], [], [], [], 3, [(30, .c (.i .i64 v21_21))], [], [], 3⟩ := tA74 _ _ (LS.sil htt rfl rfl rfl rfl rfl rfl)
      have st1104 : A74 7 ⟨[(29, .c (.i .i64 (w64 (v16_12 * (w64 (n_ + (1 : Int))))))), (30, .c (.i .i64 v21_21))], [], [], [], 3, [(31, .c (.i .i64 (w64 ((w64 (v16_12 * (w64 (n_ + (1 : Int))))) + v21_21))))], [], [], 3⟩ := tA74 _ _ (LS.sil htt rfl rfl rfl rfl rfl rfl)
      have st1105 : A74 8 ⟨[(4, .c (.i .i64 v16_12))], [], [], [], 3, [(32, .c (.i .i64 v16_12))], [], [], 3⟩ := tA74 _ _ (LS.sil htt rfl rfl rfl rfl rfl rfl)
      have st1106 : A74 9 ⟨[(5, .c (.i .i64 v21_21))], [], [], [], 3, [(33, .c (.i .i64 v21_21))], [], [], 3⟩ := tA74 _ _ (LS.sil htt rfl rfl rfl rfl rfl rfl)
      obtain ⟨x1107, hx1107, h⟩ := ob h
      have st1108 : A74 10 ⟨[(32, .c (.i .i64 v16_12)), (33, .c (.i .i64 v21_21))], [], [], [], 3, [(34, .c (.i .i64 x1107))], [], [], 3⟩ := tA74 _ _ (LS.of rfl rfl rfl (fun _ _ _ _ _ _ _ k => WPr.call (z146_ct N v16_12 v21_21 _ hx1107) [] [] rfl rfl rfl rfl rfl rfl rfl rfl (.inl rfl) rfl (k)) rfl)
      obtain ⟨x1109, hx1109, h⟩ := ob h
      have st1110 : A74 11 ⟨[(25, .c (.sl 1)), (31, .c (.i .i64 (w64 ((w64 (v16_12 * (w64 (n_ + (1 : Int))))) + v21_21))))], [], [], [(1, .own (rI .i64) vb3_2_1_21 true)], 3, [(35, .c (.px 3 0))], [(3, .el 1 (((w64 ((w64 (v16_12 * (w64 (n_ + (1 : Int))))) + v21_21))).toNat * ((rI .i64)).sz))], [], 4⟩ := tA74 _ _ (LS.of rfl rfl rfl (fun _ _ _ _ _ _ _ k => WPr.ixo htt hx1109 rfl rfl rfl rfl rfl rfl rfl rfl rfl (k)) rfl)
      have st1111 : A74 12 ⟨[(34, .c (.i .i64 x1107)), (35, .c (.px 3 0))], [(3, .el 1 (((w64 ((w64 (v16_12 * (w64 (n_ + (1 : Int))))) + v21_21))).toNat * ((rI .i64)).sz))], [(1, .own (rI .i64) vb3_2_1_21 true)], [], 4, [], [], [(1, .own (rI .i64) (setL' vb3_2_1_21 (w64 ((w64 (v16_12 * (w64 (n_ + (1 : Int))))) + v21_21)) x1107) true)], 4⟩ := tA74 _ _ (LS.of rfl rfl rfl (fun _ _ _ _ _ _ _ k => WPr.sto (oI .i64) htt x1107 hx1109 rfl rfl rfl rfl rfl rfl rfl rfl rfl rfl (by exact rfl) rfl (k)) rfl)
      exact WP.regionD (t := ⟨[(0, .c (.i .i64 n_)), (2, .c (.bp 0 0)), (3, .c (.bp 2 0)), (4, .c (.i .i64 v16_12)), (15, .c (.i .i64 (w64 (n_ + (1 : Int))))), (16, .c (.i .i64 v16_12)), (20, .c (.i .i64 (w64 (n_ + (1 : Int))))), (21, .c (.i .i64 v21_21))], [(0, .box [.i .i64 (0 : Int), .nil] 78), (1, .own (rI .i64) (setL' vb3_2_1_21 (w64 ((w64 (v16_12 * (w64 (n_ + (1 : Int))))) + v21_21)) x1107) true), (2, .box [.i .i64 n_, .sl 1] 78)], [], 4⟩) [0, 1, 0, 0, 8, 28, 0, 124, 0, 0, 768, 2047, 4095] (.cons (fA74 _ _ st1097) (.cons (fA74 _ _ st1098) (.cons (fA74 _ _ st1099) (.cons (fA74 _ _ st1100) (.cons (fA74 _ _ st1101) (.cons (fA74 _ _ st1102) (.cons (fA74 _ _ st1103) (.cons (fA74 _ _ st1104) (.cons (fA74 _ _ st1105) (.cons (fA74 _ _ st1106) (.cons (fA74 _ _ st1108) (.cons (fA74 _ _ st1110) (.cons (fA74 _ _ st1111) .nil))))))))))))) (by kernel_rfl) (by kernel_rfl) (by kernel_rfl) (by kernel_rfl) (WP.inBlock (WP.region (WPr.sil htt 2 rfl (WPr.nil (WP.sub [] (ih21 ((setL' vb3_2_1_21 (w64 ((w64 (v16_12 * (w64 (n_ + (1 : Int))))) + v21_21)) x1107), (w64 (v21_21 + (1 : Int)))) h) rfl rfl rfl rfl)))))
    exact WP.sub [] (ih N (vb3_2_1_12, (0 : Int)) h) rfl rfl rfl rfl
  exact WP.sub [] (ih N (x1, (0 : Int)) h) rfl rfl rfl rfl
theorem z34_ct (N : Nat) (n_ : Int) (r : T7 × Int) (h : z34 N n_ = some r) :
  Fn Tryz.prog 34 ⟨0, [.c (.i .i64 n_)], [], [], 1, .t [.inr [.i .i64 r.1.N, .sl 0], .inl (.i .i64 r.2)], [(0, .sl (rI .i64) r.1.B)], []⟩ := by
  refine Fn.intro _ _ Tryz.func34 rfl (by kernel_rfl) rfl (fun E F w => ?_)
  unfold z34 at h
  refine WP.seq (WP.region (WPr.sil htt 2 rfl (WPr.nil (WP.seq (WP.seq (WP.region (WPr.silx [3, 4, 5] ⟨[(0, .c (.i .i64 n_)), (2, .c (.bp 0 0)), (3, .c (.i .i64 (0 : Int))), (6, .c (.b (decide (n_ < (0 : Int)))))], [(0, .box [.i .i64 (0 : Int), .nil] 78)], [], 1⟩ htt 3 (by kernel_rfl) (?_))))))))
  rcases oc h with ⟨hc, h⟩ | ⟨hc, h⟩
  · refine WPr.kb 6 hc rfl (WPr.silx [] ⟨[(0, .c (.i .i64 n_)), (2, .c (.bp 0 0)), (3, .c (.i .i64 (0 : Int))), (9, .c (.b true))], [(0, .box [.i .i64 (0 : Int), .nil] 78)], [], 1⟩ htt 3 (by kernel_rfl) (WPr.nil (WP.condT rfl rfl (WP.seq (WP.region (WPr.silx [] ⟨[(2, .c (.bp 0 0)), (3, .c (.i .i64 (2 : Int)))], [(0, .box [.i .i64 (0 : Int), .nil] 78)], [], 1⟩ htt 3 (by kernel_rfl) (WPr.nil (?_))))))))
    cases h
    exact WP.ret htt Tryz.func34 [(0, .nil)] rfl rfl rfl rfl
  refine WPr.kb 6 hc rfl (WPr.silx [] ⟨[(0, .c (.i .i64 n_)), (2, .c (.bp 0 0)), (3, .c (.i .i64 (0 : Int))), (9, .c (.b (decide (n_ > (24 : Int)))))], [(0, .box [.i .i64 (0 : Int), .nil] 78)], [], 1⟩ htt 3 (by kernel_rfl) (WPr.nil (?_)))
  rcases oc h with ⟨hc, h⟩ | ⟨hc, h⟩
  · refine WP.condT hc rfl (WP.seq (WP.region (WPr.silx [] ⟨[(2, .c (.bp 0 0)), (3, .c (.i .i64 (2 : Int)))], [(0, .box [.i .i64 (0 : Int), .nil] 78)], [], 1⟩ htt 3 (by kernel_rfl) (WPr.nil (?_)))))
    cases h
    exact WP.ret htt Tryz.func34 [(0, .nil)] rfl rfl rfl rfl
  refine WP.condF hc rfl (WP.skip (WP.seq (WP.region (WPr.sil htt 1 rfl (?_)))))
  obtain ⟨x1, hx1, h⟩ := ob h
  refine WPr.call (z81_ct N n_ _ hx1) [] [] rfl rfl rfl rfl rfl rfl rfl rfl (.inl rfl) rfl (WPr.silx [] ⟨[(2, .c (.bp 0 0)), (3, .c (.i .i64 (0 : Int)))], [(0, .box [.i .i64 x1.N, .sl 1] 78)], [(1, .sl (rI .i64) x1.B)], 2⟩ htt 2 (by kernel_rfl) (WPr.nil (?_)))
  cases h
  exact WP.ret htt Tryz.func34 [(0, .sl 1)] rfl rfl rfl rfl
theorem z35_ct (N : Nat) (d_ : T0) (r : (List T1)) (h : z35 N d_ = some r) :
  Fn Tryz.prog 35 ⟨3, [.a [.s d_.Name, .sl 0, .i .i64 d_.First, .sl 1, .sl 2]], [(0, .sl rR2 d_.Fields), (1, .sl rR1 d_.Guard.Diffs), (2, .sl (rP (rI .i64) (rI .i64)) d_.Guard.Equals)], [], 4, .c (.sl 3), [], [(3, .own rR1 r true)]⟩ := by
  refine Fn.intro _ _ Tryz.func35 rfl (by kernel_rfl) rfl (fun E F w => ?_)
  unfold z35 at h
  refine WP.seq (WP.region (WPr.sil htt 2 rfl (WPr.nil (WP.seq (WP.region (WPr.silx [] ⟨[(1, .c (.bp 3 0)), (2, .c .nil), (3, .c .nil)], [(3, .box [.s d_.Name, .sl 0, .i .i64 d_.First, .sl 1, .sl 2] 44)], [(0, .sl rR2 d_.Fields), (1, .sl rR1 d_.Guard.Diffs), (2, .sl (rP (rI .i64) (rI .i64)) d_.Guard.Equals)], 4⟩ htt 1 (by kernel_rfl) (WPr.nil (WP.seq (WP.seq (WP.region (WPr.silx [] ⟨[(1, .c (.bp 3 0)), (2, .c .nil), (3, .c .nil), (9, .c (.sl 0)), (10, .c (.i .i64 (d_.Fields.length : Int))), (11, .c (.i .i64 (0 : Int)))], [(3, .box [.s d_.Name, .sl 0, .i .i64 d_.First, .sl 1, .sl 2] 44)], [(0, .sl rR2 d_.Fields), (1, .sl rR1 d_.Guard.Diffs), (2, .sl (rP (rI .i64) (rI .i64)) d_.Guard.Equals)], 4⟩ htt 4 (by kernel_rfl) (WPr.nil (?_)))))))))))))
  refine WP.cut (σ := (List T1)) (fun st => ⟨[(1, .c (.bp 3 0)), (3, .c (.sl 4))], [(3, .box [.s d_.Name, .sl 0, .i .i64 d_.First, .sl 1, .sl 2] 44), (4, .own rR1 st true)], [(0, .sl rR2 d_.Fields), (1, .sl rR1 d_.Guard.Diffs), (2, .sl (rP (rI .i64) (rI .i64)) d_.Guard.Equals)], 5⟩) (fun st => z35_k3 N d_ st = some r) ?_ (fun j1 => ?_)
  · intro v3_1 h
    replace h : z35_k3 N d_ v3_1 = some r := h
    unfold z35_k3 at h
    refine WP.seq (WP.region (WPr.silx [4, 5] ⟨[(1, .c (.bp 3 0)), (37, .c (.sl 4)), (40, .c (.sl 1))], [(3, .box [.s d_.Name, .sl 0, .i .i64 d_.First, .sl 1, .sl 2] 44), (4, .own rR1 v3_1 true)], [(0, .sl rR2 d_.Fields), (1, .sl rR1 d_.Guard.Diffs), (2, .sl (rP (rI .i64) (rI .i64)) d_.Guard.Equals)], 5⟩ htt 4 (by kernel_rfl) (?_)))
    obtain ⟨x9, hx9, h⟩ := ob h
    refine WPr.app htt hx9 (by exact (srcI rfl)) rfl rfl rfl rfl rfl rfl rfl rfl rfl rfl (WPr.silx [] ⟨[(1, .c (.bp 3 0)), (3, .c (.sl 5))], [(3, .box [.s d_.Name, .sl 0, .i .i64 d_.First, .sl 1, .sl 2] 44), (5, .own rR1 x9 true)], [(0, .sl rR2 d_.Fields), (1, .sl rR1 d_.Guard.Diffs), (2, .sl (rP (rI .i64) (rI .i64)) d_.Guard.Equals)], 6⟩ htt 1 (by kernel_rfl) (WPr.nil (WP.seq (WP.seq (WP.region (WPr.silx [] ⟨[(3, .c (.sl 5)), (44, .c (.sl 2)), (45, .c (.i .i64 (d_.Guard.Equals.length : Int))), (46, .c (.i .i64 (0 : Int)))], [(5, .own rR1 x9 true)], [(0, .sl rR2 d_.Fields), (1, .sl rR1 d_.Guard.Diffs), (2, .sl (rP (rI .i64) (rI .i64)) d_.Guard.Equals)], 6⟩ htt 5 (by kernel_rfl) (WPr.nil (?_))))))))
    refine WP.cut (σ := (List T1)) (fun st => ⟨[(3, .c (.sl 6))], [(6, .own rR1 st true)], [(0, .sl rR2 d_.Fields), (1, .sl rR1 d_.Guard.Diffs), (2, .sl (rP (rI .i64) (rI .i64)) d_.Guard.Equals)], 7⟩) (fun st => z35_k1 st = some r) ?_ (fun j3 => ?_)
    · intro v3_3 h
      replace h : z35_k1 v3_3 = some r := h
      unfold z35_k1 at h
      refine WP.seq (WP.region (WPr.sil htt 2 rfl (WPr.nil (?_))))
      cases h
      exact WP.ret htt Tryz.func35 [(3, .sl 6)] rfl rfl rfl rfl
    refine WP.block (?_)
    refine WP.loopI (σ := (List T1) × Int) (fun st => ⟨[(3, .c (.sl 6)), (44, .c (.sl 2)), (45, .c (.i .i64 (d_.Guard.Equals.length : Int))), (46, .c (.i .i64 st.2))], [(6, .own rR1 st.1 true)], [(0, .sl rR2 d_.Fields), (1, .sl rR1 d_.Guard.Diffs), (2, .sl (rP (rI .i64) (rI .i64)) d_.Guard.Equals)], 7⟩) (fun n st => z35_l2 d_ n st.1 st.2) (r := r) (fun _ => rfl) ?_ (fun ih => ?_)
    · intro n3 ih5
      rintro ⟨v3_5, v46_5⟩ h
      replace h : z35_l2 d_ (n3 + 1) v3_5 v46_5 = some r := h
      unfold z35_l2 at h
      refine WP.seq (WP.region (WPr.sil htt 1 rfl (WPr.nil (WP.seq (?_)))))
      rcases oc' h with ⟨hc, h⟩ | ⟨hc, h⟩
      · exact WP.condF hc rfl (WP.exit rfl (WP.sub [] (j3 v3_5 h) rfl rfl rfl rfl))
      refine WP.condT hc rfl (WP.skip (WP.seq (WP.block (WP.seq (WP.region (?_))))))
      obtain ⟨x26, hx26, h⟩ := ob h
      refine WPr.ix (oP (oI .i64) (oI .i64)) htt hx26 rfl rfl rfl rfl rfl rfl rfl rfl rfl (WPr.silx [] ⟨[(3, .c (.sl 6)), (7, .c (.bp 8 0)), (44, .c (.sl 2)), (45, .c (.i .i64 (d_.Guard.Equals.length : Int))), (46, .c (.i .i64 v46_5))], [(6, .own rR1 v3_5 true), (8, .box [.i .i64 x26.1, .i .i64 x26.2] 49)], [(0, .sl rR2 d_.Fields), (1, .sl rR1 d_.Guard.Diffs), (2, .sl (rP (rI .i64) (rI .i64)) d_.Guard.Equals)], 9⟩ htt 3 (by kernel_rfl) (WPr.nil (WP.region (WPr.sil htt 1 rfl (WPr.axb (len := 2) (el := 3) (es := 1) 0 rfl rfl rfl rfl rfl (by kernel_rfl) (by kernel_rfl) rfl rfl rfl rfl (WPr.silx [3, 4, 5, 6, 7, 8, 9, 10, 11, 12, 13] ⟨[(7, .c (.bp 8 0)), (44, .c (.sl 2)), (45, .c (.i .i64 (d_.Guard.Equals.length : Int))), (46, .c (.i .i64 v46_5)), (50, .c (.sl 6)), (52, .c (.i .i64 x26.1))], [(6, .own rR1 v3_5 true), (8, .box [.i .i64 x26.1, .i .i64 x26.2] 49)], [(0, .sl rR2 d_.Fields), (1, .sl rR1 d_.Guard.Diffs), (2, .sl (rP (rI .i64) (rI .i64)) d_.Guard.Equals)], 9⟩ htt 1 (by kernel_rfl) (WPr.axb (len := 2) (el := 3) (es := 1) 1 rfl rfl rfl rfl rfl (by kernel_rfl) (by kernel_rfl) rfl rfl rfl rfl (WPr.silx [6, 7, 8, 9, 10, 11, 12, 13] ⟨[(7, .c (.bp 8 0)), (44, .c (.sl 2)), (45, .c (.i .i64 (d_.Guard.Equals.length : Int))), (46, .c (.i .i64 v46_5)), (50, .c (.sl 6)), (55, .a [.i .i64 x26.1, .i .i64 x26.2, .i .i64 (0 : Int)])], [(6, .own rR1 v3_5 true), (8, .box [.i .i64 x26.1, .i .i64 x26.2] 49)], [(0, .sl rR2 d_.Fields), (1, .sl rR1 d_.Guard.Diffs), (2, .sl (rP (rI .i64) (rI .i64)) d_.Guard.Equals)], 9⟩ htt 2 (by kernel_rfl) (WPr.axb (len := 2) (el := 3) (es := 1) 1 rfl rfl rfl rfl rfl (by kernel_rfl) (by kernel_rfl) rfl rfl rfl rfl (WPr.sil htt 1 rfl (WPr.axb (len := 2) (el := 3) (es := 1) 0 rfl rfl rfl rfl rfl (by kernel_rfl) (by kernel_rfl) rfl rfl rfl rfl (WPr.silx [11, 12, 13] ⟨[(44, .c (.sl 2)), (45, .c (.i .i64 (d_.Guard.Equals.length : Int))), (46, .c (.i .i64 v46_5)), (50, .c (.sl 6)), (55, .a [.i .i64 x26.1, .i .i64 x26.2, .i .i64 (0 : Int)]), (60, .a [.i .i64 x26.2, .i .i64 x26.1, .i .i64 (0 : Int)])], [(6, .own rR1 v3_5 true)], [(0, .sl rR2 d_.Fields), (1, .sl rR1 d_.Guard.Diffs), (2, .sl (rP (rI .i64) (rI .i64)) d_.Guard.Equals)], 9⟩ htt 2 (by kernel_rfl) (WPr.bs (cs := [.i .i64 x26.1, .i .i64 x26.2, .i .i64 (0 : Int), .i .i64 x26.2, .i .i64 x26.1, .i .i64 (0 : Int)]) oO1 htt ([(⟨x26.1, x26.2, (0 : Int)⟩ : T1), (⟨x26.2, x26.1, (0 : Int)⟩ : T1)] : List T1) rfl rfl rfl rfl rfl rfl (by kernel_rfl) (by exact (an (an rfl (an rfl rfl)) (an (an rfl (an rfl rfl)) rfl))) rfl (?_))))))))))))))
      obtain ⟨x27, hx27, h⟩ := ob h
      exact WPr.app htt hx27 (by exact (srcO rfl)) rfl rfl rfl rfl rfl rfl rfl rfl rfl rfl (WPr.silx [] ⟨[(3, .c (.sl 10)), (44, .c (.sl 2)), (45, .c (.i .i64 (d_.Guard.Equals.length : Int))), (46, .c (.i .i64 v46_5))], [(10, .own rR1 x27 true)], [(0, .sl rR2 d_.Fields), (1, .sl rR1 d_.Guard.Diffs), (2, .sl (rP (rI .i64) (rI .i64)) d_.Guard.Equals)], 11⟩ htt 1 (by kernel_rfl) (WPr.nil (WP.inBlock (WP.region (WPr.sil htt 2 rfl (WPr.nil (WP.sub [(6, .sl 10)] (ih5 (x27, (w64 (v46_5 + (1 : Int)))) h) rfl rfl rfl rfl)))))))
    exact WP.sub [(6, .sl 5)] (ih N (x9, (0 : Int)) h) rfl rfl rfl rfl
  refine WP.block (?_)
  refine WP.loopI (σ := (List T1) × Int) (fun st => ⟨[(1, .c (.bp 3 0)), (3, .c (.sl 4)), (9, .c (.sl 0)), (10, .c (.i .i64 (d_.Fields.length : Int))), (11, .c (.i .i64 st.2))], [(3, .box [.s d_.Name, .sl 0, .i .i64 d_.First, .sl 1, .sl 2] 44), (4, .own rR1 st.1 true)], [(0, .sl rR2 d_.Fields), (1, .sl rR1 d_.Guard.Diffs), (2, .sl (rP (rI .i64) (rI .i64)) d_.Guard.Equals)], 5⟩) (fun n st => z35_l4 N d_ n st.1 st.2) (r := r) (fun _ => rfl) ?_ (fun ih => ?_)
  · intro n4 ih6
    rintro ⟨v3_6, v11_6⟩ h
    replace h : z35_l4 N d_ (n4 + 1) v3_6 v11_6 = some r := h
    unfold z35_l4 at h
    refine WP.seq (WP.region (WPr.sil htt 1 rfl (WPr.nil (WP.seq (?_)))))
    rcases oc' h with ⟨hc, h⟩ | ⟨hc, h⟩
    · exact WP.condF hc rfl (WP.exit rfl (WP.sub [] (j1 v3_6 h) rfl rfl rfl rfl))
    refine WP.condT hc rfl (WP.skip (WP.seq (WP.block (WP.seq (WP.region (WPr.sil htt 1 rfl (?_)))))))
    obtain ⟨x36, hx36, h⟩ := ob h
    refine WPr.ix oO2 htt hx36 rfl rfl rfl rfl rfl rfl rfl rfl rfl (WPr.silx [] ⟨[(1, .c (.bp 3 0)), (3, .c (.sl 4)), (4, .c (.i .i64 v11_6)), (5, .c (.bp 6 0)), (9, .c (.sl 0)), (10, .c (.i .i64 (d_.Fields.length : Int))), (11, .c (.i .i64 v11_6))], [(3, .box [.s d_.Name, .sl 0, .i .i64 d_.First, .sl 1, .sl 2] 44), (4, .own rR1 v3_6 true), (6, .box [.s x36.Name, .i .i64 x36.Sort'.Kind, .i .i64 x36.Sort'.Lo, .i .i64 x36.Sort'.Hi] 89)], [(0, .sl rR2 d_.Fields), (1, .sl rR1 d_.Guard.Diffs), (2, .sl (rP (rI .i64) (rI .i64)) d_.Guard.Equals)], 7⟩ htt 4 (by kernel_rfl) (WPr.nil (WP.region (WPr.silx [18, 19, 20] ⟨[(1, .c (.bp 3 0)), (9, .c (.sl 0)), (10, .c (.i .i64 (d_.Fields.length : Int))), (11, .c (.i .i64 v11_6)), (16, .c (.sl 4)), (24, .a [.i .i64 (w64 (d_.First + v11_6)), .i .i64 (-1 : Int), .i .i64 x36.Sort'.Hi]), (33, .a [.i .i64 (-1 : Int), .i .i64 (w64 (d_.First + v11_6)), .i .i64 (w64 (0 - x36.Sort'.Lo))])], [(3, .box [.s d_.Name, .sl 0, .i .i64 d_.First, .sl 1, .sl 2] 44), (4, .own rR1 v3_6 true)], [(0, .sl rR2 d_.Fields), (1, .sl rR1 d_.Guard.Diffs), (2, .sl (rP (rI .i64) (rI .i64)) d_.Guard.Equals)], 7⟩ htt 18 (by kernel_rfl) (WPr.bs (cs := [.i .i64 (w64 (d_.First + v11_6)), .i .i64 (-1 : Int), .i .i64 x36.Sort'.Hi, .i .i64 (-1 : Int), .i .i64 (w64 (d_.First + v11_6)), .i .i64 (w64 (0 - x36.Sort'.Lo))]) oO1 htt ([(⟨(w64 (d_.First + v11_6)), (-1 : Int), x36.Sort'.Hi⟩ : T1), (⟨(-1 : Int), (w64 (d_.First + v11_6)), (w64 (0 - x36.Sort'.Lo))⟩ : T1)] : List T1) rfl rfl rfl rfl rfl rfl (by kernel_rfl) (by exact (an (an rfl (an rfl rfl)) (an (an rfl (an rfl rfl)) rfl))) rfl (?_))))))
    obtain ⟨x37, hx37, h⟩ := ob h
    exact WPr.app htt hx37 (by exact (srcO rfl)) rfl rfl rfl rfl rfl rfl rfl rfl rfl rfl (WPr.silx [] ⟨[(1, .c (.bp 3 0)), (3, .c (.sl 8)), (9, .c (.sl 0)), (10, .c (.i .i64 (d_.Fields.length : Int))), (11, .c (.i .i64 v11_6))], [(3, .box [.s d_.Name, .sl 0, .i .i64 d_.First, .sl 1, .sl 2] 44), (8, .own rR1 x37 true)], [(0, .sl rR2 d_.Fields), (1, .sl rR1 d_.Guard.Diffs), (2, .sl (rP (rI .i64) (rI .i64)) d_.Guard.Equals)], 9⟩ htt 1 (by kernel_rfl) (WPr.nil (WP.inBlock (WP.region (WPr.sil htt 2 rfl (WPr.nil (WP.sub [(4, .sl 8)] (ih6 (x37, (w64 (v11_6 + (1 : Int)))) h) rfl rfl rfl rfl)))))))
  exact WP.sub [(4, .nil)] (ih N (([] : List T1), (0 : Int)) h) rfl rfl rfl rfl
theorem z147_ct (N : Nat) (x_ : (List Int)) (r : Int) (h : z147 N x_ = some r) :
  Fn Tryz.prog 147 ⟨1, [.c (.sl 0)], [(0, .sl (rI .i64) x_)], [], 1, .c (.i .i64 r), [], []⟩ := by
  refine Fn.intro _ _ Tryz.func147 rfl (by kernel_rfl) rfl (fun E F w => ?_)
  unfold z147 at h
  refine WP.seq (WP.region (WPr.sil htt 1 rfl (WPr.nil (WP.seq (WP.seq (WP.region (WPr.silx [] ⟨[(0, .c (.sl 0)), (2, .c (.i .i64 (0 : Int))), (7, .c (.b (decide ((x_.length : Int) < (1 : Int)))))], [], [(0, .sl (rI .i64) x_)], 1⟩ htt 3 (by kernel_rfl) (WPr.nil (?_)))))))))
  rcases oc h with ⟨hc, h⟩ | ⟨hc, h⟩
  · refine WP.condT hc rfl (WP.region (?_))
    cases h
  refine WP.condF hc rfl (WP.skip (WP.seq (WP.region (WPr.sil htt 1 rfl (?_)))))
  obtain ⟨x1, hx1, h⟩ := ob h
  refine WPr.ix (oI .i64) htt hx1 rfl rfl rfl rfl rfl rfl rfl rfl rfl (WPr.silx [] ⟨[(0, .c (.sl 0)), (2, .c (.i .i64 (0 : Int))), (3, .c (.i .i64 x1))], [], [(0, .sl (rI .i64) x_)], 2⟩ htt 2 (by kernel_rfl) (WPr.nil (WP.seq (WP.seq (WP.region (WPr.sil htt 1 rfl (WPr.nil (?_))))))))
  refine WP.cut (σ := Int) (fun st => ⟨[(3, .c (.i .i64 st))], [], [(0, .sl (rI .i64) x_)], 2⟩) (fun st => z147_k1 st = some r) ?_ (fun j2 => ?_)
  · intro v3_2 h
    replace h : z147_k1 v3_2 = some r := h
    unfold z147_k1 at h
    refine WP.seq (WP.region (WPr.sil htt 2 rfl (WPr.nil (?_))))
    cases h
    exact WP.ret htt Tryz.func147 [] rfl rfl rfl rfl
  refine WP.block (?_)
  refine WP.loopI (σ := Int × Int) (fun st => ⟨[(0, .c (.sl 0)), (3, .c (.i .i64 st.1)), (4, .c (.i .i64 st.2))], [], [(0, .sl (rI .i64) x_)], 2⟩) (fun n st => z147_l2 x_ n st.1 st.2) (r := r) (fun _ => rfl) ?_ (fun ih => ?_)
  · intro n2 ih4
    rintro ⟨v3_4, v4_4⟩ h
    replace h : z147_l2 x_ (n2 + 1) v3_4 v4_4 = some r := h
    unfold z147_l2 at h
    refine WP.seq (WP.seq (WP.region (WPr.silx [] ⟨[(0, .c (.sl 0)), (3, .c (.i .i64 v3_4)), (4, .c (.i .i64 v4_4)), (15, .c (.b (decide (v4_4 < (x_.length : Int)))))], [], [(0, .sl (rI .i64) x_)], 2⟩ htt 4 (by kernel_rfl) (WPr.nil (?_)))))
    rcases oc' h with ⟨hc, h⟩ | ⟨hc, h⟩
    · exact WP.condF hc rfl (WP.exit rfl (WP.sub [] (j2 v3_4 h) rfl rfl rfl rfl))
    refine WP.condT hc rfl (WP.skip (WP.seq (WP.block (WP.region (WPr.silx [3, 4, 5, 6] ⟨[(0, .c (.sl 0)), (4, .c (.i .i64 v4_4)), (18, .c (.i .i64 v3_4)), (19, .c (.sl 0)), (20, .c (.i .i64 v4_4))], [], [(0, .sl (rI .i64) x_)], 2⟩ htt 3 (by kernel_rfl) (?_))))))
    obtain ⟨x10, hx10, h⟩ := ob h
    exact WPr.ix (oI .i64) htt hx10 rfl rfl rfl rfl rfl rfl rfl rfl rfl (WPr.silx [] ⟨[(0, .c (.sl 0)), (3, .c (.i .i64 (minI v3_4 x10))), (4, .c (.i .i64 v4_4))], [], [(0, .sl (rI .i64) x_)], 3⟩ htt 3 (by kernel_rfl) (WPr.nil (WP.inBlock (WP.region (WPr.silx [] ⟨[(0, .c (.sl 0)), (3, .c (.i .i64 (minI v3_4 x10))), (4, .c (.i .i64 (w64 (v4_4 + (1 : Int)))))], [], [(0, .sl (rI .i64) x_)], 3⟩ htt 3 (by kernel_rfl) (WPr.nil (WP.sub [] (ih4 ((minI v3_4 x10), (w64 (v4_4 + (1 : Int)))) h) rfl rfl rfl rfl)))))))
  exact WP.sub [] (ih N (x1, (1 : Int)) h) rfl rfl rfl rfl
theorem z148_ct (N : Nat) (x_ : (List Int)) (r : Int) (h : z148 N x_ = some r) :
  Fn Tryz.prog 148 ⟨1, [.c (.sl 0)], [(0, .sl (rI .i64) x_)], [], 1, .c (.i .i64 r), [], []⟩ := by
  refine Fn.intro _ _ Tryz.func148 rfl (by kernel_rfl) rfl (fun E F w => ?_)
  unfold z148 at h
  refine WP.seq (WP.region (WPr.sil htt 1 rfl (WPr.nil (WP.seq (WP.seq (WP.region (WPr.silx [] ⟨[(0, .c (.sl 0)), (2, .c (.i .i64 (0 : Int))), (7, .c (.b (decide ((x_.length : Int) < (1 : Int)))))], [], [(0, .sl (rI .i64) x_)], 1⟩ htt 3 (by kernel_rfl) (WPr.nil (?_)))))))))
  rcases oc h with ⟨hc, h⟩ | ⟨hc, h⟩
  · refine WP.condT hc rfl (WP.region (?_))
    cases h
  refine WP.condF hc rfl (WP.skip (WP.seq (WP.region (WPr.sil htt 1 rfl (?_)))))
  obtain ⟨x1, hx1, h⟩ := ob h
  refine WPr.ix (oI .i64) htt hx1 rfl rfl rfl rfl rfl rfl rfl rfl rfl (WPr.silx [] ⟨[(0, .c (.sl 0)), (2, .c (.i .i64 (0 : Int))), (3, .c (.i .i64 x1))], [], [(0, .sl (rI .i64) x_)], 2⟩ htt 2 (by kernel_rfl) (WPr.nil (WP.seq (WP.seq (WP.region (WPr.sil htt 1 rfl (WPr.nil (?_))))))))
  refine WP.cut (σ := Int) (fun st => ⟨[(3, .c (.i .i64 st))], [], [(0, .sl (rI .i64) x_)], 2⟩) (fun st => z148_k1 st = some r) ?_ (fun j2 => ?_)
  · intro v3_2 h
    replace h : z148_k1 v3_2 = some r := h
    unfold z148_k1 at h
    refine WP.seq (WP.region (WPr.sil htt 2 rfl (WPr.nil (?_))))
    cases h
    exact WP.ret htt Tryz.func148 [] rfl rfl rfl rfl
  refine WP.block (?_)
  refine WP.loopI (σ := Int × Int) (fun st => ⟨[(0, .c (.sl 0)), (3, .c (.i .i64 st.1)), (4, .c (.i .i64 st.2))], [], [(0, .sl (rI .i64) x_)], 2⟩) (fun n st => z148_l2 x_ n st.1 st.2) (r := r) (fun _ => rfl) ?_ (fun ih => ?_)
  · intro n2 ih4
    rintro ⟨v3_4, v4_4⟩ h
    replace h : z148_l2 x_ (n2 + 1) v3_4 v4_4 = some r := h
    unfold z148_l2 at h
    refine WP.seq (WP.seq (WP.region (WPr.silx [] ⟨[(0, .c (.sl 0)), (3, .c (.i .i64 v3_4)), (4, .c (.i .i64 v4_4)), (15, .c (.b (decide (v4_4 < (x_.length : Int)))))], [], [(0, .sl (rI .i64) x_)], 2⟩ htt 4 (by kernel_rfl) (WPr.nil (?_)))))
    rcases oc' h with ⟨hc, h⟩ | ⟨hc, h⟩
    · exact WP.condF hc rfl (WP.exit rfl (WP.sub [] (j2 v3_4 h) rfl rfl rfl rfl))
    refine WP.condT hc rfl (WP.skip (WP.seq (WP.block (WP.region (WPr.silx [3, 4, 5, 6] ⟨[(0, .c (.sl 0)), (4, .c (.i .i64 v4_4)), (18, .c (.i .i64 v3_4)), (19, .c (.sl 0)), (20, .c (.i .i64 v4_4))], [], [(0, .sl (rI .i64) x_)], 2⟩ htt 3 (by kernel_rfl) (?_))))))
    obtain ⟨x10, hx10, h⟩ := ob h
    exact WPr.ix (oI .i64) htt hx10 rfl rfl rfl rfl rfl rfl rfl rfl rfl (WPr.silx [] ⟨[(0, .c (.sl 0)), (3, .c (.i .i64 (maxI v3_4 x10))), (4, .c (.i .i64 v4_4))], [], [(0, .sl (rI .i64) x_)], 3⟩ htt 3 (by kernel_rfl) (WPr.nil (WP.inBlock (WP.region (WPr.silx [] ⟨[(0, .c (.sl 0)), (3, .c (.i .i64 (maxI v3_4 x10))), (4, .c (.i .i64 (w64 (v4_4 + (1 : Int)))))], [], [(0, .sl (rI .i64) x_)], 3⟩ htt 3 (by kernel_rfl) (WPr.nil (WP.sub [] (ih4 ((maxI v3_4 x10), (w64 (v4_4 + (1 : Int)))) h) rfl rfl rfl rfl)))))))
  exact WP.sub [] (ih N (x1, (1 : Int)) h) rfl rfl rfl rfl
theorem z82_ct (N : Nat) (z_ : T7) (r : Bool) (h : z82 N z_ = some r) :
  Fn Tryz.prog 82 ⟨1, [.a [.i .i64 z_.N, .sl 0]], [(0, .sl (rI .i64) z_.B)], [], 1, .c (.b r), [], []⟩ := by
  refine Fn.intro _ _ Tryz.func82 rfl (by kernel_rfl) rfl (fun E F w => ?_)
  unfold z82 at h
  refine WP.seq (WP.region (WPr.sil htt 2 rfl (WPr.nil (WP.seq (WP.region (WPr.silx [4, 5, 6, 7, 8, 9, 10, 11, 12, 13, 14, 15, 16, 17, 18, 19, 20, 21, 22, 23, 24, 25, 26, 27, 28, 29, 30, 31, 32, 33] ⟨[(1, .c (.bp 1 0)), (6, .c (.b (decide (z_.N ≥ (0 : Int)))))], [(1, .box [.i .i64 z_.N, .sl 0] 78)], [(0, .sl (rI .i64) z_.B)], 2⟩ htt 4 (by kernel_rfl) (?_)))))))
  rcases oc' h with ⟨hc, h⟩ | ⟨hc, h⟩
  · refine WPr.kb 6 hc rfl (WPr.silx [] ⟨[(2, .c (.b false))], [], [(0, .sl (rI .i64) z_.B)], 2⟩ htt 30 (by kernel_rfl) (WPr.nil (?_)))
    cases h
    exact WP.ret htt Tryz.func82 [] rfl rfl rfl rfl
  refine WPr.kb 6 hc rfl (WPr.silx [9, 10, 11, 12, 13, 14, 15, 16, 17, 18, 19, 20, 21, 22, 23, 24, 25, 26, 27, 28, 29, 30, 31, 32, 33] ⟨[(1, .c (.bp 1 0)), (11, .c (.b (decide (z_.N ≤ (24 : Int)))))], [(1, .box [.i .i64 z_.N, .sl 0] 78)], [(0, .sl (rI .i64) z_.B)], 2⟩ htt 5 (by kernel_rfl) (?_))
  rcases oc' h with ⟨hc, h⟩ | ⟨hc, h⟩
  · refine WPr.kb 11 hc rfl (WPr.silx [] ⟨[(2, .c (.b false))], [], [(0, .sl (rI .i64) z_.B)], 2⟩ htt 25 (by kernel_rfl) (WPr.nil (?_)))
    cases h
    exact WP.ret htt Tryz.func82 [] rfl rfl rfl rfl
  refine WPr.kb 11 hc rfl (WPr.silx [22, 23, 24, 25, 26, 27, 28, 29, 30, 31, 32, 33] ⟨[(1, .c (.bp 1 0)), (24, .c (.b ((z_.B.length : Int) == (w64 ((w64 (z_.N + (1 : Int))) * (w64 (z_.N + (1 : Int))))))))], [(1, .box [.i .i64 z_.N, .sl 0] 78)], [(0, .sl (rI .i64) z_.B)], 2⟩ htt 13 (by kernel_rfl) (?_))
  rcases oc' h with ⟨hc, h⟩ | ⟨hc, h⟩
  · refine WPr.kb 24 hc rfl (WPr.silx [] ⟨[(2, .c (.b false))], [], [(0, .sl (rI .i64) z_.B)], 2⟩ htt 12 (by kernel_rfl) (WPr.nil (?_)))
    cases h
    exact WP.ret htt Tryz.func82 [] rfl rfl rfl rfl
  refine WPr.kb 24 hc rfl (WPr.sil htt 2 rfl (?_))
  obtain ⟨x1, hx1, h⟩ := ob h
  refine WPr.call (z147_ct N z_.B _ hx1) [(0, .sl 0)] [] rfl rfl rfl rfl rfl rfl rfl rfl (.inl rfl) rfl (WPr.silx [28, 29, 30, 31, 32, 33] ⟨[(1, .c (.bp 1 0)), (30, .c (.b (decide (x1 ≥ (-20001 : Int)))))], [(1, .box [.i .i64 z_.N, .sl 0] 78)], [(0, .sl (rI .i64) z_.B)], 2⟩ htt 3 (by kernel_rfl) (?_))
  rcases oc' h with ⟨hc, h⟩ | ⟨hc, h⟩
  · refine WPr.kb 30 hc rfl (WPr.silx [] ⟨[(2, .c (.b false))], [], [(0, .sl (rI .i64) z_.B)], 2⟩ htt 6 (by kernel_rfl) (WPr.nil (?_)))
    cases h
    exact WP.ret htt Tryz.func82 [] rfl rfl rfl rfl
  refine WPr.kb 30 hc rfl (WPr.sil htt 2 rfl (?_))
  obtain ⟨x2, hx2, h⟩ := ob h
  refine WPr.call (z148_ct N z_.B _ hx2) [(0, .sl 0)] [] rfl rfl rfl rfl rfl rfl rfl rfl (.inl rfl) rfl (WPr.silx [] ⟨[(2, .c (.b (decide (x2 ≤ (20000 : Int)))))], [], [(0, .sl (rI .i64) z_.B)], 2⟩ htt 3 (by kernel_rfl) (WPr.nil (?_)))
  cases h
  exact WP.ret htt Tryz.func82 [] rfl rfl rfl rfl
theorem z83_ct (N : Nat) (z_ : T7) (x_ : Int) (r : Bool) (h : z83 N z_ x_ = some r) :
  Fn Tryz.prog 83 ⟨1, [.a [.i .i64 z_.N, .sl 0], .c (.i .i64 x_)], [(0, .sl (rI .i64) z_.B)], [], 1, .c (.b r), [], []⟩ := by
  refine Fn.intro _ _ Tryz.func83 rfl (by kernel_rfl) rfl (fun E F w => ?_)
  unfold z83 at h
  refine WP.seq (WP.region (WPr.sil htt 2 rfl (WPr.nil (WP.seq (WP.region (WPr.silx [3, 4, 5, 6, 7, 8] ⟨[(1, .c (.i .i64 x_)), (2, .c (.bp 1 0)), (7, .c (.b (decide (x_ ≥ (-1 : Int)))))], [(1, .box [.i .i64 z_.N, .sl 0] 78)], [(0, .sl (rI .i64) z_.B)], 2⟩ htt 3 (by kernel_rfl) (?_)))))))
  rcases oc h with ⟨hc, h⟩ | ⟨hc, h⟩
  · refine WPr.kb 7 hc rfl (WPr.silx [] ⟨[(4, .c (.b (decide (x_ < z_.N))))], [], [(0, .sl (rI .i64) z_.B)], 2⟩ htt 6 (by kernel_rfl) (WPr.nil (?_)))
    cases h
    exact WP.ret htt Tryz.func83 [] rfl rfl rfl rfl
  refine WPr.kb 7 hc rfl (WPr.silx [] ⟨[(4, .c (.b false))], [], [(0, .sl (rI .i64) z_.B)], 2⟩ htt 6 (by kernel_rfl) (WPr.nil (?_)))
  cases h
  exact WP.ret htt Tryz.func83 [] rfl rfl rfl rfl
theorem z84_ct (N : Nat) (s_ : (List Int)) (r : (List Int)) (h : z84 N s_ = some r) :
  Fn Tryz.prog 84 ⟨1, [.c (.sl 0)], [(0, .sl (rI .i64) s_)], [], 2, .c (.sl 1), [], [(1, .own (rI .i64) r true)]⟩ := by
  refine Fn.intro _ _ Tryz.func84 rfl (by kernel_rfl) rfl (fun E F w => ?_)
  unfold z84 at h
  refine WP.seq (WP.region (WPr.sil htt 1 rfl (WPr.nil (WP.seq (WP.seq (WP.region (WPr.sil htt 1 rfl (WPr.nilc (el := 3) false (Or.inl rfl) rfl rfl rfl rfl (by kernel_rfl) rfl rfl rfl (?_)))))))))
  intro nb hnb
  cases nb
  · refine WPr.silx [] ⟨[(0, .c (.sl 0)), (2, .c .nil), (4, .c (.b false))], [], [(0, .sl (rI .i64) s_)], 1⟩ htt 0 (by kernel_rfl) (WPr.nil (WP.condF rfl rfl (WP.skip (WP.seq (WP.region (WPr.bs (cs := []) (oI .i64) htt ([] : List Int) rfl rfl rfl rfl rfl rfl (by kernel_rfl) (by exact rfl) rfl (WPr.sil htt 1 rfl (?_))))))))
    obtain ⟨x1, hx1, h⟩ := ob h
    refine WPr.app htt hx1 (by exact (srcI rfl)) rfl rfl rfl rfl rfl rfl rfl rfl rfl rfl (WPr.silx [] ⟨[(2, .c (.sl 2))], [(2, .own (rI .i64) x1 true)], [(0, .sl (rI .i64) s_)], 3⟩ htt 1 (by kernel_rfl) (WPr.nil (?_)))
    cases h
    exact WP.ret htt Tryz.func84 [(1, .sl 2)] rfl rfl rfl rfl
  · obtain rfl := hnb rfl
    replace h : (some ([] : List Int) : Option (List Int)) = some r := h
    refine WPr.silx [] ⟨[(0, .c (.sl 0)), (2, .c .nil), (4, .c (.b true))], [], [(0, .sl (rI .i64) ([] : List Int))], 1⟩ htt 0 (by kernel_rfl) (WPr.nil (WP.condT rfl rfl (WP.seq (WP.region (WPr.sil htt 1 rfl (WPr.nil (?_)))))))
    cases h
    exact WP.ret htt Tryz.func84 [(1, .nil)] rfl rfl rfl rfl
theorem z37_ct (N : Nat) (z_ : T7) (d_ : T1) (r : T7 × Int) (h : z37 N z_ d_ = some r) :
  Fn Tryz.prog 37 ⟨1, [.a [.i .i64 z_.N, .sl 0], .a [.i .i64 d_.X, .i .i64 d_.Y, .i .i64 d_.C]], [(0, .sl (rI .i64) z_.B)], [], 2, .t [.inr [.i .i64 r.1.N, .sl 1], .inl (.i .i64 r.2)], [(1, .sl (rI .i64) r.1.B)], []⟩ := by
  refine Fn.intro _ _ Tryz.func37 rfl (by kernel_rfl) rfl (fun E F w => ?_)
  unfold z37 at h
  refine WP.seq (WP.region (WPr.silx [] ⟨[(2, .c (.bp 1 0)), (3, .c (.bp 2 0)), (4, .c (.bp 3 0)), (5, .c (.i .i64 (0 : Int)))], [(1, .box [.i .i64 z_.N, .sl 0] 78), (2, .box [.i .i64 d_.X, .i .i64 d_.Y, .i .i64 d_.C] 48), (3, .box [.i .i64 (0 : Int), .nil] 78)], [(0, .sl (rI .i64) z_.B)], 4⟩ htt 4 (by kernel_rfl) (WPr.nil (WP.seq (WP.seq (WP.region (WPr.sil htt 1 rfl (?_))))))))
  obtain ⟨x1, hx1, h⟩ := ob h
  refine WPr.call (z82_ct N z_ _ hx1) [(0, .sl 0)] [] rfl rfl rfl rfl rfl rfl rfl rfl (.inl rfl) rfl (WPr.silx [] ⟨[(2, .c (.bp 1 0)), (3, .c (.bp 2 0)), (4, .c (.bp 3 0)), (5, .c (.i .i64 (0 : Int))), (10, .c (.b (!x1)))], [(1, .box [.i .i64 z_.N, .sl 0] 78), (2, .box [.i .i64 d_.X, .i .i64 d_.Y, .i .i64 d_.C] 48), (3, .box [.i .i64 (0 : Int), .nil] 78)], [(0, .sl (rI .i64) z_.B)], 4⟩ htt 1 (by kernel_rfl) (WPr.nil (?_)))
  rcases oc h with ⟨hc, h⟩ | ⟨hc, h⟩
  · refine WP.condT hc rfl (WP.seq (WP.region (WPr.silx [] ⟨[(4, .c (.bp 3 0)), (5, .c (.i .i64 (1 : Int)))], [(3, .box [.i .i64 (0 : Int), .nil] 78)], [(0, .sl (rI .i64) z_.B)], 4⟩ htt 3 (by kernel_rfl) (WPr.nil (?_)))))
    cases h
    exact WP.ret htt Tryz.func37 [(1, .nil)] rfl rfl rfl rfl
  refine WP.condF hc rfl (WP.skip (WP.seq (WP.seq (WP.region (WPr.silx [3, 4, 5, 6, 7, 8, 9, 10, 11] ⟨[(2, .c (.bp 1 0)), (3, .c (.bp 2 0)), (4, .c (.bp 3 0)), (5, .c (.i .i64 (0 : Int))), (12, .a [.i .i64 z_.N, .sl 0]), (14, .c (.i .i64 d_.X))], [(1, .box [.i .i64 z_.N, .sl 0] 78), (2, .box [.i .i64 d_.X, .i .i64 d_.Y, .i .i64 d_.C] 48), (3, .box [.i .i64 (0 : Int), .nil] 78)], [(0, .sl (rI .i64) z_.B)], 4⟩ htt 3 (by kernel_rfl) (?_))))))
  obtain ⟨x2, hx2, h⟩ := ob h
  refine WPr.call (z83_ct N z_ d_.X _ hx2) [(0, .sl 0)] [] rfl rfl rfl rfl rfl rfl rfl rfl (.inl rfl) rfl (WPr.silx [6, 7, 8, 9, 10, 11] ⟨[(2, .c (.bp 1 0)), (3, .c (.bp 2 0)), (4, .c (.bp 3 0)), (5, .c (.i .i64 (0 : Int))), (17, .c (.b (!x2)))], [(1, .box [.i .i64 z_.N, .sl 0] 78), (2, .box [.i .i64 d_.X, .i .i64 d_.Y, .i .i64 d_.C] 48), (3, .box [.i .i64 (0 : Int), .nil] 78)], [(0, .sl (rI .i64) z_.B)], 4⟩ htt 2 (by kernel_rfl) (?_))
  rcases oc h with ⟨hc, h⟩ | ⟨hc, h⟩
  · refine WPr.kb 17 hc rfl (WPr.silx [] ⟨[(2, .c (.bp 1 0)), (3, .c (.bp 2 0)), (4, .c (.bp 3 0)), (5, .c (.i .i64 (0 : Int))), (23, .c (.b true))], [(1, .box [.i .i64 z_.N, .sl 0] 78), (2, .box [.i .i64 d_.X, .i .i64 d_.Y, .i .i64 d_.C] 48), (3, .box [.i .i64 (0 : Int), .nil] 78)], [(0, .sl (rI .i64) z_.B)], 4⟩ htt 6 (by kernel_rfl) (WPr.nil (WP.condT rfl rfl (WP.seq (WP.region (WPr.silx [] ⟨[(4, .c (.bp 3 0)), (5, .c (.i .i64 (2 : Int)))], [(3, .box [.i .i64 (0 : Int), .nil] 78)], [(0, .sl (rI .i64) z_.B)], 4⟩ htt 3 (by kernel_rfl) (WPr.nil (?_))))))))
    cases h
    exact WP.ret htt Tryz.func37 [(1, .nil)] rfl rfl rfl rfl
  refine WPr.kb 17 hc rfl (WPr.silx [9, 10, 11] ⟨[(2, .c (.bp 1 0)), (3, .c (.bp 2 0)), (4, .c (.bp 3 0)), (5, .c (.i .i64 (0 : Int))), (17, .c (.b false)), (18, .a [.i .i64 z_.N, .sl 0]), (20, .c (.i .i64 d_.Y))], [(1, .box [.i .i64 z_.N, .sl 0] 78), (2, .box [.i .i64 d_.X, .i .i64 d_.Y, .i .i64 d_.C] 48), (3, .box [.i .i64 (0 : Int), .nil] 78)], [(0, .sl (rI .i64) z_.B)], 4⟩ htt 3 (by kernel_rfl) (?_))
  obtain ⟨x3, hx3, h⟩ := ob h
  refine WPr.call (z83_ct N z_ d_.Y _ hx3) [(0, .sl 0)] [] rfl rfl rfl rfl rfl rfl rfl rfl (.inl rfl) rfl (WPr.silx [] ⟨[(2, .c (.bp 1 0)), (3, .c (.bp 2 0)), (4, .c (.bp 3 0)), (5, .c (.i .i64 (0 : Int))), (23, .c (.b (!x3)))], [(1, .box [.i .i64 z_.N, .sl 0] 78), (2, .box [.i .i64 d_.X, .i .i64 d_.Y, .i .i64 d_.C] 48), (3, .box [.i .i64 (0 : Int), .nil] 78)], [(0, .sl (rI .i64) z_.B)], 4⟩ htt 2 (by kernel_rfl) (WPr.nil (?_)))
  rcases oc h with ⟨hc, h⟩ | ⟨hc, h⟩
  · refine WP.condT hc rfl (WP.seq (WP.region (WPr.silx [] ⟨[(4, .c (.bp 3 0)), (5, .c (.i .i64 (2 : Int)))], [(3, .box [.i .i64 (0 : Int), .nil] 78)], [(0, .sl (rI .i64) z_.B)], 4⟩ htt 3 (by kernel_rfl) (WPr.nil (?_)))))
    cases h
    exact WP.ret htt Tryz.func37 [(1, .nil)] rfl rfl rfl rfl
  refine WP.condF hc rfl (WP.skip (WP.seq (WP.nm (fun A1 tA1 fA1 => ?_))))
  have st4 : A1 0 ⟨[(2, .c (.bp 1 0))], [], [], [], 4, [(25, .c (.bp 1 0))], [], [], 4⟩ := tA1 _ _ (LS.sil htt rfl rfl rfl rfl rfl rfl)
  have st5 : A1 1 ⟨[(25, .c (.bp 1 0))], [(0, .sl (rI .i64) z_.B)], [], [(1, .box [.i .i64 z_.N, .sl 0] 78)], 4, [(26, .c (.i .i64 z_.N))], [], [], 4⟩ := tA1 _ _ (LS.sil htt rfl rfl rfl rfl rfl rfl)
  have st6 : A1 2 ⟨[(2, .c (.bp 1 0))], [], [], [], 4, [(27, .c (.bp 1 1))], [], [], 4⟩ := tA1 _ _ (LS.sil htt rfl rfl rfl rfl rfl rfl)
  have st7 : A1 3 ⟨[(27, .c (.bp 1 1))], [(0, .sl (rI .i64) z_.B)], [], [(1, .box [.i .i64 z_.N, .sl 0] 78)], 4, [(28, .c (.sl 0))], [], [], 4⟩ := tA1 _ _ (LS.sil htt rfl rfl rfl rfl rfl rfl)
  obtain ⟨x8, hx8, h⟩ := ob h
  have st9 : A1 4 ⟨[(28, .c (.sl 0))], [(0, .sl (rI .i64) z_.B)], [], [], 4, [(29, .c (.sl 4))], [], [(4, .own (rI .i64) x8 true)], 5⟩ := tA1 _ _ (LS.of rfl rfl rfl (fun _ _ _ _ _ _ _ k => WPr.call (z84_ct N z_.B _ hx8) [(0, .sl 0)] [] rfl rfl rfl rfl rfl rfl rfl rfl (.inl rfl) rfl (k)) rfl)
  have st10 : A1 5 ⟨[(26, .c (.i .i64 z_.N)), (29, .c (.sl 4))], [], [], [], 5, [(30, .a [.i .i64 z_.N, .sl 4])], [], [], 5⟩ := tA1 _ _ (LS.sil htt rfl rfl rfl rfl rfl rfl)
  have st11 : A1 6 ⟨[], [], [], [], 5, [(6, .c (.bp 5 0))], [], [(5, .box [.i .i64 (0 : Int), .nil] 78)], 6⟩ := tA1 _ _ (LS.sil htt rfl rfl rfl rfl rfl rfl)
  have st12 : A1 7 ⟨[(6, .c (.bp 5 0)), (30, .a [.i .i64 z_.N, .sl 4])], [], [(5, .box [.i .i64 (0 : Int), .nil] 78)], [(4, .own (rI .i64) x8 true)], 6, [], [], [(5, .box [.i .i64 z_.N, .sl 4] 78)], 6⟩ := tA1 _ _ (LS.sil htt rfl rfl rfl rfl rfl rfl)
  refine WP.regionD (t := ⟨[(2, .c (.bp 1 0)), (3, .c (.bp 2 0)), (4, .c (.bp 3 0)), (5, .c (.i .i64 (0 : Int))), (6, .c (.bp 5 0))], [(1, .box [.i .i64 z_.N, .sl 0] 78), (2, .box [.i .i64 d_.X, .i .i64 d_.Y, .i .i64 d_.C] 48), (3, .box [.i .i64 (0 : Int), .nil] 78), (4, .own (rI .i64) x8 true), (5, .box [.i .i64 z_.N, .sl 4] 78)], [(0, .sl (rI .i64) z_.B)], 6⟩) [0, 1, 0, 4, 12, 31, 0, 127] (.cons (fA1 _ _ st4) (.cons (fA1 _ _ st5) (.cons (fA1 _ _ st6) (.cons (fA1 _ _ st7) (.cons (fA1 _ _ st9) (.cons (fA1 _ _ st10) (.cons (fA1 _ _ st11) (.cons (fA1 _ _ st12) .nil)))))))) (by kernel_rfl) (by kernel_rfl) (by kernel_rfl) (by kernel_rfl) (WP.seq (WP.region (WPr.silx [] ⟨[(3, .c (.bp 2 0)), (4, .c (.bp 3 0)), (5, .c (.i .i64 (0 : Int))), (6, .c (.bp 5 0)), (7, .c (.i .i64 (w64 ((w64 ((w64 ((w64 (d_.X + (1 : Int))) * (w64 (z_.N + (1 : Int))))) + d_.Y)) + (1 : Int)))))], [(2, .box [.i .i64 d_.X, .i .i64 d_.Y, .i .i64 d_.C] 48), (3, .box [.i .i64 (0 : Int), .nil] 78), (4, .own (rI .i64) x8 true), (5, .box [.i .i64 z_.N, .sl 4] 78)], [(0, .sl (rI .i64) z_.B)], 6⟩ htt 12 (by kernel_rfl) (WPr.nil (WP.seq (WP.nm (fun A2 tA2 fA2 => ?_)))))))
  have st13 : A2 0 ⟨[(6, .c (.bp 5 0))], [], [], [], 6, [(42, .c (.bp 5 1))], [], [], 6⟩ := tA2 _ _ (LS.sil htt rfl rfl rfl rfl rfl rfl)
  have st14 : A2 1 ⟨[(42, .c (.bp 5 1))], [], [], [(5, .box [.i .i64 z_.N, .sl 4] 78)], 6, [(43, .c (.sl 4))], [], [], 6⟩ := tA2 _ _ (LS.sil htt rfl rfl rfl rfl rfl rfl)
  have st15 : A2 2 ⟨[(7, .c (.i .i64 (w64 ((w64 ((w64 ((w64 (d_.X + (1 : Int))) * (w64 (z_.N + (1 : Int))))) + d_.Y)) + (1 : Int)))))], [], [], [], 6, [(44, .c (.i .i64 (w64 ((w64 ((w64 ((w64 (d_.X + (1 : Int))) * (w64 (z_.N + (1 : Int))))) + d_.Y)) + (1 : Int)))))], [], [], 6⟩ := tA2 _ _ (LS.sil htt rfl rfl rfl rfl rfl rfl)
  have st16 : A2 3 ⟨[(6, .c (.bp 5 0))], [], [], [], 6, [(45, .c (.bp 5 1))], [], [], 6⟩ := tA2 _ _ (LS.sil htt rfl rfl rfl rfl rfl rfl)
  have st17 : A2 4 ⟨[(45, .c (.bp 5 1))], [], [], [(5, .box [.i .i64 z_.N, .sl 4] 78)], 6, [(46, .c (.sl 4))], [], [], 6⟩ := tA2 _ _ (LS.sil htt rfl rfl rfl rfl rfl rfl)
  have st18 : A2 5 ⟨[(7, .c (.i .i64 (w64 ((w64 ((w64 ((w64 (d_.X + (1 : Int))) * (w64 (z_.N + (1 : Int))))) + d_.Y)) + (1 : Int)))))], [], [], [], 6, [(47, .c (.i .i64 (w64 ((w64 ((w64 ((w64 (d_.X + (1 : Int))) * (w64 (z_.N + (1 : Int))))) + d_.Y)) + (1 : Int)))))], [], [], 6⟩ := tA2 _ _ (LS.sil htt rfl rfl rfl rfl rfl rfl)
  obtain ⟨x19, hx19, h⟩ := ob h
  have st20 : A2 6 ⟨[(46, .c (.sl 4)), (47, .c (.i .i64 (w64 ((w64 ((w64 ((w64 (d_.X + (1 : Int))) * (w64 (z_.N + (1 : Int))))) + d_.Y)) + (1 : Int)))))], [], [], [(4, .own (rI .i64) x8 true)], 6, [(48, .c (.px 6 0))], [(6, .el 4 (((w64 ((w64 ((w64 ((w64 (d_.X + (1 : Int))) * (w64 (z_.N + (1 : Int))))) + d_.Y)) + (1 : Int)))).toNat * ((rI .i64)).sz))], [], 7⟩ := tA2 _ _ (LS.of rfl rfl rfl (fun _ _ _ _ _ _ _ k => WPr.ixo htt hx19 rfl rfl rfl rfl rfl rfl rfl rfl rfl (k)) rfl)
  have st21 : A2 7 ⟨[(48, .c (.px 6 0))], [(6, .el 4 (((w64 ((w64 ((w64 ((w64 (d_.X + (1 : Int))) * (w64 (z_.N + (1 : Int))))) + d_.Y)) + (1 : Int)))).toNat * ((rI .i64)).sz))], [], [(4, .own (rI .i64) x8 true)], 7, [(49, .c (.i .i64 x19))], [], [], 7⟩ := tA2 _ _ (LS.of rfl rfl rfl (fun _ _ _ _ _ _ _ k => WPr.ldo (oI .i64) htt hx19 rfl rfl rfl rfl rfl rfl rfl rfl rfl rfl (k)) rfl)
  have st22 : A2 8 ⟨[(3, .c (.bp 2 0))], [], [], [], 7, [(50, .c (.bp 2 2))], [], [], 7⟩ := tA2 _ _ (LS.sil htt rfl rfl rfl rfl rfl rfl)
  have st23 : A2 9 ⟨[(50, .c (.bp 2 2))], [], [], [(2, .box [.i .i64 d_.X, .i .i64 d_.Y, .i .i64 d_.C] 48)], 7, [(51, .c (.i .i64 d_.C))], [], [], 7⟩ := tA2 _ _ (LS.sil htt rfl rfl rfl rfl rfl rfl)
  have st24 : A2 10 ⟨[(51, .c (.i .i64 d_.C))], [], [], [], 7, [(52, .c (.i .i64 (maxI d_.C (-20001 : Int))))], [], [], 7⟩ := tA2 _ _ (LS.sil htt rfl rfl rfl rfl rfl rfl)
  have st25 : A2 11 ⟨[(49, .c (.i .i64 x19)), (52, .c (.i .i64 (maxI d_.C (-20001 : Int))))], [], [], [], 7, [(53, .c (.i .i64 (minI x19 (maxI d_.C (-20001 : Int)))))], [], [], 7⟩ := tA2 _ _ (LS.sil htt rfl rfl rfl rfl rfl rfl)
  obtain ⟨x26, hx26, h⟩ := ob h
  have st27 : A2 12 ⟨[(43, .c (.sl 4)), (44, .c (.i .i64 (w64 ((w64 ((w64 ((w64 (d_.X + (1 : Int))) * (w64 (z_.N + (1 : Int))))) + d_.Y)) + (1 : Int)))))], [], [], [(4, .own (rI .i64) x8 true)], 7, [(54, .c (.px 7 0))], [(7, .el 4 (((w64 ((w64 ((w64 ((w64 (d_.X + (1 : Int))) * (w64 (z_.N + (1 : Int))))) + d_.Y)) + (1 : Int)))).toNat * ((rI .i64)).sz))], [], 8⟩ := tA2 _ _ (LS.of rfl rfl rfl (fun _ _ _ _ _ _ _ k => WPr.ixo htt hx26 rfl rfl rfl rfl rfl rfl rfl rfl rfl (k)) rfl)
  have st28 : A2 13 ⟨[(53, .c (.i .i64 (minI x19 (maxI d_.C (-20001 : Int))))), (54, .c (.px 7 0))], [(7, .el 4 (((w64 ((w64 ((w64 ((w64 (d_.X + (1 : Int))) * (w64 (z_.N + (1 : Int))))) + d_.Y)) + (1 : Int)))).toNat * ((rI .i64)).sz))], [(4, .own (rI .i64) x8 true)], [], 8, [], [], [(4, .own (rI .i64) (setL' x8 (w64 ((w64 ((w64 ((w64 (d_.X + (1 : Int))) * (w64 (z_.N + (1 : Int))))) + d_.Y)) + (1 : Int))) (minI x19 (maxI d_.C (-20001 : Int)))) true)], 8⟩ := tA2 _ _ (LS.of rfl rfl rfl (fun _ _ _ _ _ _ _ k => WPr.sto (oI .i64) htt (minI x19 (maxI d_.C (-20001 : Int))) hx26 rfl rfl rfl rfl rfl rfl rfl rfl rfl rfl (by exact rfl) rfl (k)) rfl)
  refine WP.regionD (t := ⟨[(4, .c (.bp 3 0)), (5, .c (.i .i64 (0 : Int))), (6, .c (.bp 5 0))], [(3, .box [.i .i64 (0 : Int), .nil] 78), (4, .own (rI .i64) (setL' x8 (w64 ((w64 ((w64 ((w64 (d_.X + (1 : Int))) * (w64 (z_.N + (1 : Int))))) + d_.Y)) + (1 : Int))) (minI x19 (maxI d_.C (-20001 : Int)))) true), (5, .box [.i .i64 z_.N, .sl 4] 78)], [(0, .sl (rI .i64) z_.B)], 8⟩) [0, 1, 0, 0, 8, 0, 56, 120, 0, 256, 768, 2040, 4095, 8191] (.cons (fA2 _ _ st13) (.cons (fA2 _ _ st14) (.cons (fA2 _ _ st15) (.cons (fA2 _ _ st16) (.cons (fA2 _ _ st17) (.cons (fA2 _ _ st18) (.cons (fA2 _ _ st20) (.cons (fA2 _ _ st21) (.cons (fA2 _ _ st22) (.cons (fA2 _ _ st23) (.cons (fA2 _ _ st24) (.cons (fA2 _ _ st25) (.cons (fA2 _ _ st27) (.cons (fA2 _ _ st28) .nil)))))))))))))) (by kernel_rfl) (by kernel_rfl) (by kernel_rfl) (by kernel_rfl) (WP.seq (WP.region (WPr.silx [] ⟨[(4, .c (.bp 3 0)), (5, .c (.i .i64 (0 : Int)))], [(3, .box [.i .i64 z_.N, .sl 4] 78), (4, .own (rI .i64) (setL' x8 (w64 ((w64 ((w64 ((w64 (d_.X + (1 : Int))) * (w64 (z_.N + (1 : Int))))) + d_.Y)) + (1 : Int))) (minI x19 (maxI d_.C (-20001 : Int)))) true)], [(0, .sl (rI .i64) z_.B)], 8⟩ htt 3 (by kernel_rfl) (WPr.nil (WP.frz 4 rfl (?_))))))
  cases h
  exact WP.ret htt Tryz.func37 [(1, .sl 4)] rfl rfl rfl rfl
theorem z85_ct (N : Nat) (z_ : T7) (r : T7 × Bool) (h : z85 N z_ = some r) :
  Fn Tryz.prog 85 ⟨1, [.a [.i .i64 z_.N, .sl 0]], [(0, .sl (rI .i64) z_.B)], [], 2, .t [.inr [.i .i64 r.1.N, .sl 1], .inl (.b r.2)], [(1, .sl (rI .i64) r.1.B)], []⟩ := by
  refine Fn.intro _ _ Tryz.func85 rfl (by kernel_rfl) rfl (fun E F w => ?_)
  unfold z85 at h
  refine WP.seq (WP.region (WPr.silx [] ⟨[(1, .c (.bp 1 0)), (2, .c (.bp 2 0)), (3, .c (.b false))], [(1, .box [.i .i64 z_.N, .sl 0] 78), (2, .box [.i .i64 (0 : Int), .nil] 78)], [(0, .sl (rI .i64) z_.B)], 3⟩ htt 3 (by kernel_rfl) (WPr.nil (WP.seq (WP.seq (WP.region (WPr.sil htt 1 rfl (?_))))))))
  obtain ⟨x1, hx1, h⟩ := ob h
  refine WPr.call (z82_ct N z_ _ hx1) [(0, .sl 0)] [] rfl rfl rfl rfl rfl rfl rfl rfl (.inl rfl) rfl (WPr.silx [] ⟨[(1, .c (.bp 1 0)), (2, .c (.bp 2 0)), (3, .c (.b false)), (14, .c (.b (!x1)))], [(1, .box [.i .i64 z_.N, .sl 0] 78), (2, .box [.i .i64 (0 : Int), .nil] 78)], [(0, .sl (rI .i64) z_.B)], 3⟩ htt 1 (by kernel_rfl) (WPr.nil (?_)))
  rcases oc h with ⟨hc, h⟩ | ⟨hc, h⟩
  · refine WP.condT hc rfl (WP.seq (WP.region (WPr.silx [] ⟨[(2, .c (.bp 2 0)), (3, .c (.b false))], [(2, .box [.i .i64 (0 : Int), .nil] 78)], [(0, .sl (rI .i64) z_.B)], 3⟩ htt 3 (by kernel_rfl) (WPr.nil (?_)))))
    cases h
    exact WP.ret htt Tryz.func85 [(1, .nil)] rfl rfl rfl rfl
  refine WP.condF hc rfl (WP.skip (WP.seq (WP.region (WPr.silx [] ⟨[(1, .c (.bp 1 0)), (2, .c (.bp 2 0)), (3, .c (.b false)), (4, .c (.i .i64 (w64 (z_.N + (1 : Int)))))], [(1, .box [.i .i64 z_.N, .sl 0] 78), (2, .box [.i .i64 (0 : Int), .nil] 78)], [(0, .sl (rI .i64) z_.B)], 3⟩ htt 4 (by kernel_rfl) (WPr.nil (WP.seq (WP.nm (fun A1 tA1 fA1 => ?_))))))))
  have st2 : A1 0 ⟨[(1, .c (.bp 1 0))], [], [], [], 3, [(19, .c (.bp 1 0))], [], [], 3⟩ := tA1 _ _ (LS.sil htt rfl rfl rfl rfl rfl rfl)
  have st3 : A1 1 ⟨[(19, .c (.bp 1 0))], [(0, .sl (rI .i64) z_.B)], [], [(1, .box [.i .i64 z_.N, .sl 0] 78)], 3, [(20, .c (.i .i64 z_.N))], [], [], 3⟩ := tA1 _ _ (LS.sil htt rfl rfl rfl rfl rfl rfl)
  have st4 : A1 2 ⟨[(1, .c (.bp 1 0))], [], [], [], 3, [(21, .c (.bp 1 1))], [], [], 3⟩ := tA1 _ _ (LS.sil htt rfl rfl rfl rfl rfl rfl)
  have st5 : A1 3 ⟨[(21, .c (.bp 1 1))], [(0, .sl (rI .i64) z_.B)], [], [(1, .box [.i .i64 z_.N, .sl 0] 78)], 3, [(22, .c (.sl 0))], [], [], 3⟩ := tA1 _ _ (LS.sil htt rfl rfl rfl rfl rfl rfl)
  obtain ⟨x6, hx6, h⟩ := ob h
  have st7 : A1 4 ⟨[(22, .c (.sl 0))], [(0, .sl (rI .i64) z_.B)], [], [], 3, [(23, .c (.sl 3))], [], [(3, .own (rI .i64) x6 true)], 4⟩ := tA1 _ _ (LS.of rfl rfl rfl (fun _ _ _ _ _ _ _ k => WPr.call (z84_ct N z_.B _ hx6) [(0, .sl 0)] [] rfl rfl rfl rfl rfl rfl rfl rfl (.inl rfl) rfl (k)) rfl)
  have st8 : A1 5 ⟨[(20, .c (.i .i64 z_.N)), (23, .c (.sl 3))], [], [], [], 4, [(24, .a [.i .i64 z_.N, .sl 3])], [], [], 4⟩ := tA1 _ _ (LS.sil htt rfl rfl rfl rfl rfl rfl)
  have st9 : A1 6 ⟨[], [], [], [], 4, [(5, .c (.bp 4 0))], [], [(4, .box [.i .i64 (0 : Int), .nil] 78)], 5⟩ := tA1 _ _ (LS.sil htt rfl rfl rfl rfl rfl rfl)
  have st10 : A1 7 ⟨[(5, .c (.bp 4 0)), (24, .a [.i .i64 z_.N, .sl 3])], [], [(4, .box [.i .i64 (0 : Int), .nil] 78)], [(3, .own (rI .i64) x6 true)], 5, [], [], [(4, .box [.i .i64 z_.N, .sl 3] 78)], 5⟩ := tA1 _ _ (LS.sil htt rfl rfl rfl rfl rfl rfl)
  refine WP.regionD (t := ⟨[(2, .c (.bp 2 0)), (3, .c (.b false)), (4, .c (.i .i64 (w64 (z_.N + (1 : Int))))), (5, .c (.bp 4 0))], [(2, .box [.i .i64 (0 : Int), .nil] 78), (3, .own (rI .i64) x6 true), (4, .box [.i .i64 z_.N, .sl 3] 78)], [(0, .sl (rI .i64) z_.B)], 5⟩) [0, 1, 0, 4, 12, 31, 0, 127] (.cons (fA1 _ _ st2) (.cons (fA1 _ _ st3) (.cons (fA1 _ _ st4) (.cons (fA1 _ _ st5) (.cons (fA1 _ _ st7) (.cons (fA1 _ _ st8) (.cons (fA1 _ _ st9) (.cons (fA1 _ _ st10) .nil)))))))) (by kernel_rfl) (by kernel_rfl) (by kernel_rfl) (by kernel_rfl) (WP.seq (WP.seq (WP.region (WPr.sil htt 2 rfl (WPr.nil (?_))))))
  refine WP.cut (σ := (List Int)) (fun st => ⟨[(2, .c (.bp 2 0)), (4, .c (.i .i64 (w64 (z_.N + (1 : Int))))), (5, .c (.bp 4 0))], [(2, .box [.i .i64 (0 : Int), .nil] 78), (3, .own (rI .i64) st true), (4, .box [.i .i64 z_.N, .sl 3] 78)], [(0, .sl (rI .i64) z_.B)], 5⟩) (fun st => z85_k9 N z_ st = some r) ?_ (fun j1 => ?_)
  · intro vb5_4_1_1 h
    replace h : z85_k9 N z_ vb5_4_1_1 = some r := h
    unfold z85_k9 at h
    refine WP.seq (WP.seq (WP.region (WPr.sil htt 2 rfl (WPr.nil (?_)))))
    refine WP.cut (σ := (List Int)) (fun st => ⟨[(2, .c (.bp 2 0)), (5, .c (.bp 4 0))], [(2, .box [.i .i64 (0 : Int), .nil] 78), (3, .own (rI .i64) st true), (4, .box [.i .i64 z_.N, .sl 3] 78)], [(0, .sl (rI .i64) z_.B)], 5⟩) (fun st => z85_k1 z_ st = some r) ?_ (fun j12 => ?_)
    · intro vb5_4_1_12 h
      replace h : z85_k1 z_ vb5_4_1_12 = some r := h
      unfold z85_k1 at h
      refine WP.seq (WP.region (WPr.silx [] ⟨[(2, .c (.bp 2 0)), (3, .c (.b true))], [(2, .box [.i .i64 z_.N, .sl 3] 78), (3, .own (rI .i64) vb5_4_1_12 true)], [(0, .sl (rI .i64) z_.B)], 5⟩ htt 3 (by kernel_rfl) (WPr.nil (WP.frz 3 rfl (?_)))))
      cases h
      exact WP.ret htt Tryz.func85 [(1, .sl 3)] rfl rfl rfl rfl
    refine WP.block (?_)
    refine WP.loopI (σ := (List Int) × Int) (fun st => ⟨[(2, .c (.bp 2 0)), (4, .c (.i .i64 (w64 (z_.N + (1 : Int))))), (5, .c (.bp 4 0)), (56, .c (.i .i64 (w64 (z_.N + (1 : Int))))), (57, .c (.i .i64 st.2))], [(2, .box [.i .i64 (0 : Int), .nil] 78), (3, .own (rI .i64) st.1 true), (4, .box [.i .i64 z_.N, .sl 3] 78)], [(0, .sl (rI .i64) z_.B)], 5⟩) (fun n st => z85_l2 N z_ n st.1 st.2) (r := r) (fun _ => rfl) ?_ (fun ih => ?_)
    · intro n89 ih86
      rintro ⟨vb5_4_1_86, v57_86⟩ h
      replace h : z85_l2 N z_ (n89 + 1) vb5_4_1_86 v57_86 = some r := h
      unfold z85_l2 at h
      refine WP.seq (WP.region (WPr.sil htt 1 rfl (WPr.nil (WP.seq (?_)))))
      rcases oc' h with ⟨hc, h⟩ | ⟨hc, h⟩
      · exact WP.condF hc rfl (WP.exit rfl (WP.sub [] (j12 vb5_4_1_86 h) rfl rfl rfl rfl))
      refine WP.condT hc rfl (WP.skip (WP.seq (WP.block (WP.seq (WP.region (WPr.silx [] ⟨[(2, .c (.bp 2 0)), (4, .c (.i .i64 (w64 (z_.N + (1 : Int))))), (5, .c (.bp 4 0)), (8, .c (.i .i64 v57_86)), (56, .c (.i .i64 (w64 (z_.N + (1 : Int))))), (57, .c (.i .i64 v57_86))], [(2, .box [.i .i64 (0 : Int), .nil] 78), (3, .own (rI .i64) vb5_4_1_86 true), (4, .box [.i .i64 z_.N, .sl 3] 78)], [(0, .sl (rI .i64) z_.B)], 5⟩ htt 2 (by kernel_rfl) (WPr.nil (WP.seq (WP.seq (WP.region (WPr.sil htt 2 rfl (WPr.nil (?_)))))))))))))
      refine WP.cut (σ := (List Int)) (fun st => ⟨[(2, .c (.bp 2 0)), (4, .c (.i .i64 (w64 (z_.N + (1 : Int))))), (5, .c (.bp 4 0)), (56, .c (.i .i64 (w64 (z_.N + (1 : Int))))), (57, .c (.i .i64 v57_86))], [(2, .box [.i .i64 (0 : Int), .nil] 78), (3, .own (rI .i64) st true), (4, .box [.i .i64 z_.N, .sl 3] 78)], [(0, .sl (rI .i64) z_.B)], 5⟩) (fun st => z85_k5 N z_ v57_86 (z85_l2 N z_ n89) st = some r) ?_ (fun j135 => ?_)
      · intro vb5_4_1_135 h
        replace h : z85_k5 N z_ v57_86 (z85_l2 N z_ n89) vb5_4_1_135 = some r := h
        unfold z85_k5 at h
        refine WP.seq (WP.region (WPr.sil htt 2 rfl (WPr.nil (?_))))
        refine WP.cut (σ := Unit) (fun st => ⟨[(2, .c (.bp 2 0)), (4, .c (.i .i64 (w64 (z_.N + (1 : Int))))), (5, .c (.bp 4 0)), (56, .c (.i .i64 (w64 (z_.N + (1 : Int))))), (57, .c (.i .i64 v57_86))], [(2, .box [.i .i64 (0 : Int), .nil] 78), (3, .own (rI .i64) vb5_4_1_135 true), (4, .box [.i .i64 z_.N, .sl 3] 78)], [(0, .sl (rI .i64) z_.B)], 5⟩) (fun st => z85_k3 v57_86 (z85_l2 N z_ n89) vb5_4_1_135 = some r) ?_ (fun j146 => ?_)
        · intro _ h
          replace h : z85_k3 v57_86 (z85_l2 N z_ n89) vb5_4_1_135 = some r := h
          unfold z85_k3 at h
          exact WP.inBlock (WP.region (WPr.sil htt 2 rfl (WPr.nil (WP.sub [] (ih86 (vb5_4_1_135, (w64 (v57_86 + (1 : Int)))) h) rfl rfl rfl rfl))))
        refine WP.block (?_)
        refine WP.loopI (σ := Int) (fun st => ⟨[(2, .c (.bp 2 0)), (4, .c (.i .i64 (w64 (z_.N + (1 : Int))))), (5, .c (.bp 4 0)), (56, .c (.i .i64 (w64 (z_.N + (1 : Int))))), (57, .c (.i .i64 v57_86)), (107, .c (.i .i64 (w64 (z_.N + (1 : Int))))), (108, .c (.i .i64 st))], [(2, .box [.i .i64 (0 : Int), .nil] 78), (3, .own (rI .i64) vb5_4_1_135 true), (4, .box [.i .i64 z_.N, .sl 3] 78)], [(0, .sl (rI .i64) z_.B)], 5⟩) (fun n st => z85_l4 z_ v57_86 (z85_l2 N z_ n89) vb5_4_1_135 n st) (r := r) (fun _ => rfl) ?_ (fun ih => ?_)
        · intro n98 ih148
          intro v108_148 h
          replace h : z85_l4 z_ v57_86 (z85_l2 N z_ n89) vb5_4_1_135 (n98 + 1) v108_148 = some r := h
          unfold z85_l4 at h
          refine WP.seq (WP.region (WPr.sil htt 1 rfl (WPr.nil (WP.seq (?_)))))
          rcases oc' h with ⟨hc, h⟩ | ⟨hc, h⟩
          · exact WP.condF hc rfl (WP.exit rfl (WP.sub [] (j146 () h) rfl rfl rfl rfl))
          refine WP.condT hc rfl (WP.skip (WP.seq (WP.block (WP.seq (WP.region (WPr.silx [] ⟨[(2, .c (.bp 2 0)), (4, .c (.i .i64 (w64 (z_.N + (1 : Int))))), (5, .c (.bp 4 0)), (11, .c (.i .i64 v108_148)), (56, .c (.i .i64 (w64 (z_.N + (1 : Int))))), (57, .c (.i .i64 v57_86)), (107, .c (.i .i64 (w64 (z_.N + (1 : Int))))), (108, .c (.i .i64 v108_148))], [(2, .box [.i .i64 (0 : Int), .nil] 78), (3, .own (rI .i64) vb5_4_1_135 true), (4, .box [.i .i64 z_.N, .sl 3] 78)], [(0, .sl (rI .i64) z_.B)], 5⟩ htt 2 (by kernel_rfl) (WPr.nil (WP.seq (WP.region (WPr.silx [7, 8, 9] ⟨[(2, .c (.bp 2 0)), (4, .c (.i .i64 (w64 (z_.N + (1 : Int))))), (5, .c (.bp 4 0)), (56, .c (.i .i64 (w64 (z_.N + (1 : Int))))), (57, .c (.i .i64 v57_86)), (107, .c (.i .i64 (w64 (z_.N + (1 : Int))))), (108, .c (.i .i64 v108_148)), (112, .c (.sl 3)), (117, .c (.i .i64 (w64 ((w64 (v108_148 * (w64 (z_.N + (1 : Int))))) + v108_148))))], [(2, .box [.i .i64 (0 : Int), .nil] 78), (3, .own (rI .i64) vb5_4_1_135 true), (4, .box [.i .i64 z_.N, .sl 3] 78)], [(0, .sl (rI .i64) z_.B)], 5⟩ htt 7 (by kernel_rfl) (?_)))))))))))
          obtain ⟨x24152, hx24152, h⟩ := ob h
          refine WPr.ixo htt hx24152 rfl rfl rfl rfl rfl rfl rfl rfl rfl (WPr.ldo (oI .i64) htt hx24152 rfl rfl rfl rfl rfl rfl rfl rfl rfl rfl (WPr.silx [] ⟨[(2, .c (.bp 2 0)), (4, .c (.i .i64 (w64 (z_.N + (1 : Int))))), (5, .c (.bp 4 0)), (56, .c (.i .i64 (w64 (z_.N + (1 : Int))))), (57, .c (.i .i64 v57_86)), (107, .c (.i .i64 (w64 (z_.N + (1 : Int))))), (108, .c (.i .i64 v108_148)), (120, .c (.b (decide (x24152 < (0 : Int)))))], [(2, .box [.i .i64 (0 : Int), .nil] 78), (3, .own (rI .i64) vb5_4_1_135 true), (4, .box [.i .i64 z_.N, .sl 3] 78)], [(0, .sl (rI .i64) z_.B)], 6⟩ htt 1 (by kernel_rfl) (WPr.nil (?_))))
          rcases oc h with ⟨hc, h⟩ | ⟨hc, h⟩
          · refine WP.condT hc rfl (WP.seq (WP.region (WPr.silx [] ⟨[(2, .c (.bp 2 0)), (3, .c (.b false))], [(2, .box [.i .i64 (0 : Int), .nil] 78)], [(0, .sl (rI .i64) z_.B)], 6⟩ htt 3 (by kernel_rfl) (WPr.nil (?_)))))
            cases h
            exact WP.ret htt Tryz.func85 [(1, .nil)] rfl rfl rfl rfl
          exact WP.condF hc rfl (WP.skip (WP.inBlock (WP.region (WPr.sil htt 2 rfl (WPr.nil (WP.sub [] (ih148 (w64 (v108_148 + (1 : Int))) h) rfl rfl rfl rfl))))))
        exact WP.sub [] (ih N (0 : Int) h) rfl rfl rfl rfl
      refine WP.block (?_)
      refine WP.loopI (σ := (List Int) × Int) (fun st => ⟨[(2, .c (.bp 2 0)), (4, .c (.i .i64 (w64 (z_.N + (1 : Int))))), (5, .c (.bp 4 0)), (8, .c (.i .i64 v57_86)), (56, .c (.i .i64 (w64 (z_.N + (1 : Int))))), (57, .c (.i .i64 v57_86)), (60, .c (.i .i64 (w64 (z_.N + (1 : Int))))), (61, .c (.i .i64 st.2))], [(2, .box [.i .i64 (0 : Int), .nil] 78), (3, .own (rI .i64) st.1 true), (4, .box [.i .i64 z_.N, .sl 3] 78)], [(0, .sl (rI .i64) z_.B)], 5⟩) (fun n st => z85_l6 N z_ v57_86 (z85_l2 N z_ n89) n st.1 st.2) (r := r) (fun _ => rfl) ?_ (fun ih => ?_)
      · intro n103 ih149
        rintro ⟨vb5_4_1_149, v61_149⟩ h
        replace h : z85_l6 N z_ v57_86 (z85_l2 N z_ n89) (n103 + 1) vb5_4_1_149 v61_149 = some r := h
        unfold z85_l6 at h
        refine WP.seq (WP.region (WPr.sil htt 1 rfl (WPr.nil (WP.seq (?_)))))
        rcases oc' h with ⟨hc, h⟩ | ⟨hc, h⟩
        · exact WP.condF hc rfl (WP.exit rfl (WP.sub [] (j135 vb5_4_1_149 h) rfl rfl rfl rfl))
        refine WP.condT hc rfl (WP.skip (WP.seq (WP.block (WP.seq (WP.region (WPr.silx [] ⟨[(2, .c (.bp 2 0)), (4, .c (.i .i64 (w64 (z_.N + (1 : Int))))), (5, .c (.bp 4 0)), (8, .c (.i .i64 v57_86)), (9, .c (.i .i64 v61_149)), (56, .c (.i .i64 (w64 (z_.N + (1 : Int))))), (57, .c (.i .i64 v57_86)), (60, .c (.i .i64 (w64 (z_.N + (1 : Int))))), (61, .c (.i .i64 v61_149))], [(2, .box [.i .i64 (0 : Int), .nil] 78), (3, .own (rI .i64) vb5_4_1_149 true), (4, .box [.i .i64 z_.N, .sl 3] 78)], [(0, .sl (rI .i64) z_.B)], 5⟩ htt 2 (by kernel_rfl) (WPr.nil (WP.seq (WP.region (WPr.sil htt 2 rfl (WPr.nil (?_))))))))))))
        refine WP.cut (σ := (List Int)) (fun st => ⟨[(2, .c (.bp 2 0)), (4, .c (.i .i64 (w64 (z_.N + (1 : Int))))), (5, .c (.bp 4 0)), (8, .c (.i .i64 v57_86)), (56, .c (.i .i64 (w64 (z_.N + (1 : Int))))), (57, .c (.i .i64 v57_86)), (60, .c (.i .i64 (w64 (z_.N + (1 : Int))))), (61, .c (.i .i64 v61_149))], [(2, .box [.i .i64 (0 : Int), .nil] 78), (3, .own (rI .i64) st true), (4, .box [.i .i64 z_.N, .sl 3] 78)], [(0, .sl (rI .i64) z_.B)], 5⟩) (fun st => z85_k7 v61_149 (z85_l6 N z_ v57_86 (z85_l2 N z_ n89) n103) st = some r) ?_ (fun j156 => ?_)
        · intro vb5_4_1_156 h
          replace h : z85_k7 v61_149 (z85_l6 N z_ v57_86 (z85_l2 N z_ n89) n103) vb5_4_1_156 = some r := h
          unfold z85_k7 at h
          exact WP.inBlock (WP.region (WPr.sil htt 2 rfl (WPr.nil (WP.sub [] (ih149 (vb5_4_1_156, (w64 (v61_149 + (1 : Int)))) h) rfl rfl rfl rfl))))
        refine WP.block (?_)
        refine WP.loopI (σ := (List Int) × Int) (fun st => ⟨[(2, .c (.bp 2 0)), (4, .c (.i .i64 (w64 (z_.N + (1 : Int))))), (5, .c (.bp 4 0)), (8, .c (.i .i64 v57_86)), (9, .c (.i .i64 v61_149)), (56, .c (.i .i64 (w64 (z_.N + (1 : Int))))), (57, .c (.i .i64 v57_86)), (60, .c (.i .i64 (w64 (z_.N + (1 : Int))))), (61, .c (.i .i64 v61_149)), (64, .c (.i .i64 (w64 (z_.N + (1 : Int))))), (65, .c (.i .i64 st.2))], [(2, .box [.i .i64 (0 : Int), .nil] 78), (3, .own (rI .i64) st.1 true), (4, .box [.i .i64 z_.N, .sl 3] 78)], [(0, .sl (rI .i64) z_.B)], 5⟩) (fun n st => z85_l8 z_ v57_86 v61_149 (z85_l6 N z_ v57_86 (z85_l2 N z_ n89) n103) n st.1 st.2) (r := r) (fun _ => rfl) ?_ (fun ih => ?_)
        · intro n105 ih158
          rintro ⟨vb5_4_1_158, v65_158⟩ h
          replace h : z85_l8 z_ v57_86 v61_149 (z85_l6 N z_ v57_86 (z85_l2 N z_ n89) n103) (n105 + 1) vb5_4_1_158 v65_158 = some r := h
          unfold z85_l8 at h
          refine WP.seq (WP.region (WPr.sil htt 1 rfl (WPr.nil (WP.seq (?_)))))
          rcases oc' h with ⟨hc, h⟩ | ⟨hc, h⟩
          · exact WP.condF hc rfl (WP.exit rfl (WP.sub [] (j156 vb5_4_1_158 h) rfl rfl rfl rfl))
          refine WP.condT hc rfl (WP.skip (WP.seq (WP.block (WP.seq (WP.region (WPr.silx [] ⟨[(2, .c (.bp 2 0)), (4, .c (.i .i64 (w64 (z_.N + (1 : Int))))), (5, .c (.bp 4 0)), (8, .c (.i .i64 v57_86)), (9, .c (.i .i64 v61_149)), (10, .c (.i .i64 v65_158)), (56, .c (.i .i64 (w64 (z_.N + (1 : Int))))), (57, .c (.i .i64 v57_86)), (60, .c (.i .i64 (w64 (z_.N + (1 : Int))))), (61, .c (.i .i64 v61_149)), (64, .c (.i .i64 (w64 (z_.N + (1 : Int))))), (65, .c (.i .i64 v65_158))], [(2, .box [.i .i64 (0 : Int), .nil] 78), (3, .own (rI .i64) vb5_4_1_158 true), (4, .box [.i .i64 z_.N, .sl 3] 78)], [(0, .sl (rI .i64) z_.B)], 5⟩ htt 2 (by kernel_rfl) (WPr.nil (WP.nm (fun A629 tA629 fA629 => ?_)))))))))
          have st25875 : A629 0 ⟨[(5, .c (.bp 4 0))], [], [], [], 5, [(68, .c (.bp 4 1))], [], [], 5⟩ := tA629 _ _ (LS.sil htt rfl rfl rfl rfl rfl rfl)
          have st25876 : A629 1 ⟨[(68, .c (.bp 4 1))], [], [], [(4, .box [.i .i64 z_.N, .sl 3] 78)], 5, [(69, .c (.sl 3))], [], [], 5⟩ := tA629 _ _ (LS.sil htt rfl rfl rfl rfl rfl rfl)
          have st25877 : A629 2 ⟨[(9, .c (.i .i64 v61_149))], [], [], [], 5, [(70, .c (.i .i64 v61_149))], [], [], 5⟩ := tA629 _ _ (LS.sil htt rfl rfl rfl rfl rfl rfl)
          have st25878 : A629 3 ⟨[(4, .c (.i .i64 (w64 (z_.N + (1 : Int)))))], [], [], [], 5, [(71, .c (.i .i64 (w64 (z_.N + (1 : Int)))))], [], [], 5⟩ := tA629 _ _ (LS.sil htt rfl rfl rfl rfl rfl rfl)
          have st25879 : A629 4 ⟨[(70, .c (.i .i64 v61_149)), (71, .c (.i .i64 (w64 (z_.N + (1 : Int)))))], [], [], [], 5, [(72, .c (.i .i64 (w64 (v61_149 * (w64 (z_.N + (1 : Int)))))))], [], [], 5⟩ := tA629 _ _ (LS.sil htt rfl rfl rfl rfl rfl rfl)
          have st25880 : A629 5 ⟨[(10, .c (.i .i64 v65_158))], [], [], [], 5, [(73, .c (.i .i64 v65_158))], [], [], 5⟩ := tA629 _ _ (LS.sil htt rfl rfl rfl rfl rfl rfl)
          have st25881 : A629 6 ⟨[(72, .c (.i .i64 (w64 (v61_149 * (w64 (z_.N + (1 : Int))))))), (73, .c (.i .i64 v65_158))], [], [], [], 5, [(74, .c (.i .i64 (w64 ((w64 (v61_149 * (w64 (z_.N + (1 : Int))))) + v65_158))))], [], [], 5⟩ := tA629 _ _ (LS.sil htt rfl rfl rfl rfl rfl rfl)
          have st25882 : A629 7 ⟨[(5, .c (.bp 4 0))], [], [], [], 5, [(75, .c (.bp 4 1))], [], [], 5⟩ := tA629 _ _ (LS.sil htt rfl rfl rfl rfl rfl rfl)
          have st25883 : A629 8 ⟨[(75, .c (.bp 4 1))], [], [], [(4, .box [.i .i64 z_.N, .sl 3] 78)], 5, [(76, .c (.sl 3))], [], [], 5⟩ := tA629 _ _ (LS.sil htt rfl rfl rfl rfl rfl rfl)
          have st25884 : A629 9 ⟨[(9, .c (.i .i64 v61_149))], [], [], [], 5, [(77, .c (.i .i64 v61_149))], [], [], 5⟩ := tA629 _ _ (LS.sil htt rfl rfl rfl rfl rfl rfl)
          have st25885 : A629 10 ⟨[(4, .c (.i .i64 (w64 (z_.N + (1 : Int)))))], [], [], [], 5, [(78, .c (.i .i64 (w64 (z_.N + (1 : Int)))))], [], [], 5⟩ := tA629 _ _ (LS.sil htt rfl rfl rfl rfl rfl rfl)
          have st25886 : A629 11 ⟨[(77, .c (.i .i64 v61_149)), (78, .c (.i .i64 (w64 (z_.N + (1 : Int)))))], [], [], [], 5, [(79, .c (.i .i64 (w64 (v61_149 * (w64 (z_.N + (1 : Int)))))))], [], [], 5⟩ := tA629 _ _ (LS.sil htt rfl rfl rfl rfl rfl rfl)
          have st25887 : A629 12 ⟨[(10, .c (.i .i64 v65_158))], [], [], [], 5, [(80, .c (.i .i64 v65_158))], [], [], 5⟩ := tA629 _ _ (LS.sil htt rfl rfl rfl rfl rfl rfl)
          have st25888 : A629 13 ⟨[(79, .c (.i .i64 (w64 (v61_149 * (w64 (z_.N + (1 : Int))))))), (80, .c (.i .i64 v65_158))], [], [], [], 5, [(81, .c (.i .i64 (w64 ((w64 (v61_149 * (w64 (z_.N + (1 : Int))))) + v65_158))))], [], [], 5⟩ := tA629 _ _ (LS.sil htt rfl rfl rfl rfl rfl rfl)
          obtain ⟨x25889, hx25889, h⟩ := ob h
          have st25890 : A629 14 ⟨[(76, .c (.sl 3)), (81, .c (.i .i64 (w64 ((w64 (v61_149 * (w64 (z_.N + (1 : Int))))) + v65_158))))], [], [], [(3, .own (rI .i64) vb5_4_1_158 true)], 5, [(82, .c (.px 5 0))], [(5, .el 3 (((w64 ((w64 (v61_149 * (w64 (z_.N + (1 : Int))))) + v65_158))).toNat * ((rI .i64)).sz))], [], 6⟩ := tA629 _ _ (LS.of rfl rfl rfl (fun _ _ _ _ _ _ _ k => WPr.ixo htt hx25889 rfl rfl rfl rfl rfl rfl rfl rfl rfl (k)) rfl)
          have st25891 : A629 15 ⟨[(82, .c (.px 5 0))], [(5, .el 3 (((w64 ((w64 (v61_149 * (w64 (z_.N + (1 : Int))))) + v65_158))).toNat * ((rI .i64)).sz))], [], [(3, .own (rI .i64) vb5_4_1_158 true)], 6, [(83, .c (.i .i64 x25889))], [], [], 6⟩ := tA629 _ _ (LS.of rfl rfl rfl (fun _ _ _ _ _ _ _ k => WPr.ldo (oI .i64) htt hx25889 rfl rfl rfl rfl rfl rfl rfl rfl rfl rfl (k)) rfl)
          have st25892 : A629 16 ⟨[(5, .c (.bp 4 0))], [], [], [], 6, [(84, .c (.bp 4 1))], [], [], 6⟩ := tA629 _ _ (LS.sil htt rfl rfl rfl rfl rfl rfl)
          have st25893 : A629 17 ⟨[(84, .c (.bp 4 1))], [], [], [(4, .box [.i .i64 z_.N, .sl 3] 78)], 6, [(85, .c (.sl 3))], [], [], 6⟩ := tA629 _ _ (LS.sil htt rfl rfl rfl rfl rfl rfl)
          have st25894 : A629 18 ⟨[(9, .c (.i .i64 v61_149))], [], [], [], 6, [(86, .c (.i .i64 v61_149))], [], [], 6⟩ := tA629 _ _ (LS.sil htt rfl rfl rfl rfl rfl rfl)
          have st25895 : A629 19 ⟨[(4, .c (.i .i64 (w64 (z_.N + (1 : Int)))))], [], [], [], 6, [(87, .c (.i .i64 (w64 (z_.N + (1 : Int)))))], [], [], 6⟩ := tA629 _ _ (LS.sil htt rfl rfl rfl rfl rfl rfl)
          have st25896 : A629 20 ⟨[(86, .c (.i .i64 v61_149)), (87, .c (.i .i64 (w64 (z_.N + (1 : Int)))))], [], [], [], 6, [(88, .c (.i .i64 (w64 (v61_149 * (w64 (z_.N + (1 : Int)))))))], [], [], 6⟩ := tA629 _ _ (LS.sil htt rfl rfl rfl rfl rfl rfl)
          have st25897 : A629 21 ⟨[(8, .c (.i .i64 v57_86))], [], [], [], 6, [(89, .c (.i .i64 v57_86))], [], [], 6⟩ := tA629 _ _ (LS.sil htt rfl rfl rfl rfl rfl rfl)
          have st25898 : A629 22 ⟨[(88, .c (.i .i64 (w64 (v61_149 * (w64 (z_.N + (1 : Int))))))), (89, .c (.i .i64 v57_86))], [], [], [], 6, [(90, .c (.i .i64 (w64 ((w64 (v61_149 * (w64 (z_.N + (1 : Int))))) + v57_86))))], [], [], 6⟩ := tA629 _ _ (LS.sil htt rfl rfl rfl rfl rfl rfl)
          obtain ⟨x25899, hx25899, h⟩ := ob h
          have st25900 : A629 23 ⟨[(85, .c (.sl 3)), (90, .c (.i .i64 (w64 ((w64 (v61_149 * (w64 (z_.N + (1 : Int))))) + v57_86))))], [], [], [(3, .own (rI .i64) vb5_4_1_158 true)], 6, [(91, .c (.px 6 0))], [(6, .el 3 (((w64 ((w64 (v61_149 * (w64 (z_.N + (1 : Int))))) + v57_86))).toNat * ((rI .i64)).sz))], [], 7⟩ := tA629 _ _ (LS.of rfl rfl rfl (fun _ _ _ _ _ _ _ k => WPr.ixo htt hx25899 rfl rfl rfl rfl rfl rfl rfl rfl rfl (k)) rfl)
          have st25901 : A629 24 ⟨[(91, .c (.px 6 0))], [(6, .el 3 (((w64 ((w64 (v61_149 * (w64 (z_.N + (1 : Int))))) + v57_86))).toNat * ((rI .i64)).sz))], [], [(3, .own (rI .i64) vb5_4_1_158 true)], 7, [(92, .c (.i .i64 x25899))], [], [], 7⟩ := tA629 _ _ (LS.of rfl rfl rfl (fun _ _ _ _ _ _ _ k => WPr.ldo (oI .i64) htt hx25899 rfl rfl rfl rfl rfl rfl rfl rfl rfl rfl (k)) rfl)
          have st25902 : A629 25 ⟨[(5, .c (.bp 4 0))], [], [], [], 7, [(93, .c (.bp 4 1))], [], [], 7⟩ := tA629 _ _ (LS.sil htt rfl rfl rfl rfl rfl rfl)
          have st25903 : A629 26 ⟨[(93, .c (.bp 4 1))], [], [], [(4, .box [.i .i64 z_.N, .sl 3] 78)], 7, [(94, .c (.sl 3))], [], [], 7⟩ := tA629 _ _ (LS.sil htt rfl rfl rfl rfl rfl rfl)
          have st25904 : A629 27 ⟨[(8, .c (.i .i64 v57_86))], [], [], [], 7, [(95, .c (.i .i64 v57_86))], [], [], 7⟩ := tA629 _ _ (LS.sil htt rfl rfl rfl rfl rfl rfl)
          have st25905 : A629 28 ⟨[(4, .c (.i .i64 (w64 (z_.N + (1 : Int)))))], [], [], [], 7, [(96, .c (.i .i64 (w64 (z_.N + (1 : Int)))))], [], [], 7⟩ := tA629 _ _ (LS.sil htt rfl rfl rfl rfl rfl rfl)
          have st25906 : A629 29 ⟨[(95, .c (.i .i64 v57_86)), (96, .c (.i .i64 (w64 (z_.N + (1 : Int)))))], [], [], [], 7, [(97, .c (.i .i64 (w64 (v57_86 * (w64 (z_.N + (1 : Int)))))))], [], [], 7⟩ := tA629 _ _ (LS.sil htt rfl rfl rfl rfl rfl rfl)
          have st25907 : A629 30 ⟨[(10, .c (.i .i64 v65_158))], [], [], [], 7, [(98, .c (.i .i64 v65_158))], [], [], 7⟩ := tA629 _ _ (LS.sil htt rfl rfl rfl rfl rfl rfl)
          have st25908 : A629 31 ⟨[(97, .c (.i .i64 (w64 (v57_86 * (w64 (z_.N + (1 : Int))))))), (98, .c (.i .i64 v65_158))], [], [], [], 7, [(99, .c (.i .i64 (w64 ((w64 (v57_86 * (w64 (z_.N + (1 : Int))))) + v65_158))))], [], [], 7⟩ := tA629 _ _ (LS.sil htt rfl rfl rfl rfl rfl rfl)
          obtain ⟨x25909, hx25909, h⟩ := ob h
          have st25910 : A629 32 ⟨[(94, .c (.sl 3)), (99, .c (.i .i64 (w64 ((w64 (v57_86 * (w64 (z_.N + (1 : Int))))) + v65_158))))], [], [], [(3, .own (rI .i64) vb5_4_1_158 true)], 7, [(100, .c (.px 7 0))], [(7, .el 3 (((w64 ((w64 (v57_86 * (w64 (z_.N + (1 : Int))))) + v65_158))).toNat * ((rI .i64)).sz))], [], 8⟩ := tA629 _ _ (LS.of rfl rfl rfl (fun _ _ _ _ _ _ _ k => WPr.ixo htt hx25909 rfl rfl rfl rfl rfl rfl rfl rfl rfl (k)) rfl)
          have st25911 : A629 33 ⟨[(100, .c (.px 7 0))], [(7, .el 3 (((w64 ((w64 (v57_86 * (w64 (z_.N + (1 : Int))))) + v65_158))).toNat * ((rI .i64)).sz))], [], [(3, .own (rI .i64) vb5_4_1_158 true)], 8, [(101, .c (.i .i64 x25909))], [], [], 8⟩ := tA629 _ _ (LS.of rfl rfl rfl (fun _ _ _ _ _ _ _ k => WPr.ldo (oI .i64) htt hx25909 rfl rfl rfl rfl rfl rfl rfl rfl rfl rfl (k)) rfl)
          have st25912 : A629 34 ⟨[(92, .c (.i .i64 x25899)), (101, .c (.i .i64 x25909))], [], [], [], 8, [(102, .c (.i .i64 (w64 (x25899 + x25909))))], [], [], 8⟩ := tA629 _ _ (LS.sil htt rfl rfl rfl rfl rfl rfl)
          have st25913 : A629 35 ⟨[(83, .c (.i .i64 x25889)), (102, .c (.i .i64 (w64 (x25899 + x25909))))], [], [], [], 8, [(103, .c (.i .i64 (minI x25889 (w64 (x25899 + x25909)))))], [], [], 8⟩ := tA629 _ _ (LS.sil htt rfl rfl rfl rfl rfl rfl)
          obtain ⟨x25914, hx25914, h⟩ := ob h
          have st25915 : A629 36 ⟨[(69, .c (.sl 3)), (74, .c (.i .i64 (w64 ((w64 (v61_149 * (w64 (z_.N + (1 : Int))))) + v65_158))))], [], [], [(3, .own (rI .i64) vb5_4_1_158 true)], 8, [(104, .c (.px 8 0))], [(8, .el 3 (((w64 ((w64 (v61_149 * (w64 (z_.N + (1 : Int))))) + v65_158))).toNat * ((rI .i64)).sz))], [], 9⟩ := tA629 _ _ (LS.of rfl rfl rfl (fun _ _ _ _ _ _ _ k => WPr.ixo htt hx25914 rfl rfl rfl rfl rfl rfl rfl rfl rfl (k)) rfl)
          have st25916 : A629 37 ⟨[(103, .c (.i .i64 (minI x25889 (w64 (x25899 + x25909))))), (104, .c (.px 8 0))], [(8, .el 3 (((w64 ((w64 (v61_149 * (w64 (z_.N + (1 : Int))))) + v65_158))).toNat * ((rI .i64)).sz))], [(3, .own (rI .i64) vb5_4_1_158 true)], [], 9, [], [], [(3, .own (rI .i64) (setL' vb5_4_1_158 (w64 ((w64 (v61_149 * (w64 (z_.N + (1 : Int))))) + v65_158)) (minI x25889 (w64 (x25899 + x25909)))) true)], 9⟩ := tA629 _ _ (LS.of rfl rfl rfl (fun _ _ _ _ _ _ _ k => WPr.sto (oI .i64) htt (minI x25889 (w64 (x25899 + x25909))) hx25914 rfl rfl rfl rfl rfl rfl rfl rfl rfl rfl (by exact rfl) rfl (k)) rfl)
          exact WP.regionD (t := ⟨[(2, .c (.bp 2 0)), (4, .c (.i .i64 (w64 (z_.N + (1 : Int))))), (5, .c (.bp 4 0)), (8, .c (.i .i64 v57_86)), (9, .c (.i .i64 v61_149)), (56, .c (.i .i64 (w64 (z_.N + (1 : Int))))), (57, .c (.i .i64 v57_86)), (60, .c (.i .i64 (w64 (z_.N + (1 : Int))))), (61, .c (.i .i64 v61_149)), (64, .c (.i .i64 (w64 (z_.N + (1 : Int))))), (65, .c (.i .i64 v65_158))], [(2, .box [.i .i64 (0 : Int), .nil] 78), (3, .own (rI .i64) (setL' vb5_4_1_158 (w64 ((w64 (v61_149 * (w64 (z_.N + (1 : Int))))) + v65_158)) (minI x25889 (w64 (x25899 + x25909)))) true), (4, .box [.i .i64 z_.N, .sl 3] 78)], [(0, .sl (rI .i64) z_.B)], 9⟩) [0, 1, 0, 0, 12, 0, 60, 0, 128, 0, 0, 1536, 0, 7680, 16256, 32640, 0, 65536, 0, 0, 786432, 0, 3932160, 8323072, 16711680, 0, 33554432, 0, 0, 402653184, 0, 2013265920, 4261412864, 8556380160, 17179803648, 34359738240, 68719476735, 137438953471] (.cons (fA629 _ _ st25875) (.cons (fA629 _ _ st25876) (.cons (fA629 _ _ st25877) (.cons (fA629 _ _ st25878) (.cons (fA629 _ _ st25879) (.cons (fA629 _ _ st25880) (.cons (fA629 _ _ st25881) (.cons (fA629 _ _ st25882) (.cons (fA629 _ _ st25883) (.cons (fA629 _ _ st25884) (.cons (fA629 _ _ st25885) (.cons (fA629 _ _ st25886) (.cons (fA629 _ _ st25887) (.cons (fA629 _ _ st25888) (.cons (fA629 _ _ st25890) (.cons (fA629 _ _ st25891) (.cons (fA629 _ _ st25892) (.cons (fA629 _ _ st25893) (.cons (fA629 _ _ st25894) (.cons (fA629 _ _ st25895) (.cons (fA629 _ _ st25896) (.cons (fA629 _ _ st25897) (.cons (fA629 _ _ st25898) (.cons (fA629 _ _ st25900) (.cons (fA629 _ _ st25901) (.cons (fA629 _ _ st25902) (.cons (fA629 _ _ st25903) (.cons (fA629 _ _ st25904) (.cons (fA629 _ _ st25905) (.cons (fA629 _ _ st25906) (.cons (fA629 _ _ st25907) (.cons (fA629 _ _ st25908) (.cons (fA629 _ _ st25910) (.cons (fA629 _ _ st25911) (.cons (fA629 _ _ st25912) (.cons (fA629 _ _ st25913) (.cons (fA629 _ _ st25915) (.cons (fA629 _ _ st25916) .nil)))))))))))))))))))))))))))))))))))))) (by kernel_rfl) (by kernel_rfl) (by kernel_rfl) (by kernel_rfl) (WP.inBlock (WP.region (WPr.sil htt 2 rfl (WPr.nil (WP.sub [] (ih158 ((setL' vb5_4_1_158 (w64 ((w64 (v61_149 * (w64 (z_.N + (1 : Int))))) + v65_158)) (minI x25889 (w64 (x25899 + x25909)))), (w64 (v65_158 + (1 : Int)))) h) rfl rfl rfl rfl)))))
        exact WP.sub [] (ih N (vb5_4_1_149, (0 : Int)) h) rfl rfl rfl rfl
      exact WP.sub [] (ih N (vb5_4_1_86, (0 : Int)) h) rfl rfl rfl rfl
    exact WP.sub [] (ih N (vb5_4_1_1, (0 : Int)) h) rfl rfl rfl rfl
  refine WP.block (?_)
  refine WP.loopI (σ := (List Int) × Int) (fun st => ⟨[(2, .c (.bp 2 0)), (4, .c (.i .i64 (w64 (z_.N + (1 : Int))))), (5, .c (.bp 4 0)), (25, .c (.i .i64 (w64 (z_.N + (1 : Int))))), (26, .c (.i .i64 st.2))], [(2, .box [.i .i64 (0 : Int), .nil] 78), (3, .own (rI .i64) st.1 true), (4, .box [.i .i64 z_.N, .sl 3] 78)], [(0, .sl (rI .i64) z_.B)], 5⟩) (fun n st => z85_l10 N z_ n st.1 st.2) (r := r) (fun _ => rfl) ?_ (fun ih => ?_)
  · intro n110 ih159
    rintro ⟨vb5_4_1_159, v26_159⟩ h
    replace h : z85_l10 N z_ (n110 + 1) vb5_4_1_159 v26_159 = some r := h
    unfold z85_l10 at h
    refine WP.seq (WP.region (WPr.sil htt 1 rfl (WPr.nil (WP.seq (?_)))))
    rcases oc' h with ⟨hc, h⟩ | ⟨hc, h⟩
    · exact WP.condF hc rfl (WP.exit rfl (WP.sub [] (j1 vb5_4_1_159 h) rfl rfl rfl rfl))
    refine WP.condT hc rfl (WP.skip (WP.seq (WP.block (WP.seq (WP.region (WPr.silx [] ⟨[(2, .c (.bp 2 0)), (4, .c (.i .i64 (w64 (z_.N + (1 : Int))))), (5, .c (.bp 4 0)), (6, .c (.i .i64 v26_159)), (25, .c (.i .i64 (w64 (z_.N + (1 : Int))))), (26, .c (.i .i64 v26_159))], [(2, .box [.i .i64 (0 : Int), .nil] 78), (3, .own (rI .i64) vb5_4_1_159 true), (4, .box [.i .i64 z_.N, .sl 3] 78)], [(0, .sl (rI .i64) z_.B)], 5⟩ htt 2 (by kernel_rfl) (WPr.nil (WP.seq (WP.region (WPr.sil htt 2 rfl (WPr.nil (?_))))))))))))
    refine WP.cut (σ := (List Int)) (fun st => ⟨[(2, .c (.bp 2 0)), (4, .c (.i .i64 (w64 (z_.N + (1 : Int))))), (5, .c (.bp 4 0)), (25, .c (.i .i64 (w64 (z_.N + (1 : Int))))), (26, .c (.i .i64 v26_159))], [(2, .box [.i .i64 (0 : Int), .nil] 78), (3, .own (rI .i64) st true), (4, .box [.i .i64 z_.N, .sl 3] 78)], [(0, .sl (rI .i64) z_.B)], 5⟩) (fun st => z85_k11 v26_159 (z85_l10 N z_ n110) st = some r) ?_ (fun j166 => ?_)
    · intro vb5_4_1_166 h
      replace h : z85_k11 v26_159 (z85_l10 N z_ n110) vb5_4_1_166 = some r := h
      unfold z85_k11 at h
      exact WP.inBlock (WP.region (WPr.sil htt 2 rfl (WPr.nil (WP.sub [] (ih159 (vb5_4_1_166, (w64 (v26_159 + (1 : Int)))) h) rfl rfl rfl rfl))))
    refine WP.block (?_)
    refine WP.loopI (σ := (List Int) × Int) (fun st => ⟨[(2, .c (.bp 2 0)), (4, .c (.i .i64 (w64 (z_.N + (1 : Int))))), (5, .c (.bp 4 0)), (6, .c (.i .i64 v26_159)), (25, .c (.i .i64 (w64 (z_.N + (1 : Int))))), (26, .c (.i .i64 v26_159)), (29, .c (.i .i64 (w64 (z_.N + (1 : Int))))), (30, .c (.i .i64 st.2))], [(2, .box [.i .i64 (0 : Int), .nil] 78), (3, .own (rI .i64) st.1 true), (4, .box [.i .i64 z_.N, .sl 3] 78)], [(0, .sl (rI .i64) z_.B)], 5⟩) (fun n st => z85_l12 N z_ v26_159 (z85_l10 N z_ n110) n st.1 st.2) (r := r) (fun _ => rfl) ?_ (fun ih => ?_)
    · intro n112 ih168
      rintro ⟨vb5_4_1_168, v30_168⟩ h
      replace h : z85_l12 N z_ v26_159 (z85_l10 N z_ n110) (n112 + 1) vb5_4_1_168 v30_168 = some r := h
      unfold z85_l12 at h
      refine WP.seq (WP.region (WPr.sil htt 1 rfl (WPr.nil (WP.seq (?_)))))
      rcases oc' h with ⟨hc, h⟩ | ⟨hc, h⟩
      · exact WP.condF hc rfl (WP.exit rfl (WP.sub [] (j166 vb5_4_1_168 h) rfl rfl rfl rfl))
      refine WP.condT hc rfl (WP.skip (WP.seq (WP.block (WP.seq (WP.region (WPr.silx [] ⟨[(2, .c (.bp 2 0)), (4, .c (.i .i64 (w64 (z_.N + (1 : Int))))), (5, .c (.bp 4 0)), (6, .c (.i .i64 v26_159)), (7, .c (.i .i64 v30_168)), (25, .c (.i .i64 (w64 (z_.N + (1 : Int))))), (26, .c (.i .i64 v26_159)), (29, .c (.i .i64 (w64 (z_.N + (1 : Int))))), (30, .c (.i .i64 v30_168))], [(2, .box [.i .i64 (0 : Int), .nil] 78), (3, .own (rI .i64) vb5_4_1_168 true), (4, .box [.i .i64 z_.N, .sl 3] 78)], [(0, .sl (rI .i64) z_.B)], 5⟩ htt 2 (by kernel_rfl) (WPr.nil (WP.nm (fun A671 tA671 fA671 => ?_)))))))))
      have st26942 : A671 0 ⟨[(5, .c (.bp 4 0))], [], [], [], 5, [(33, .c (.bp 4 1))], [], [], 5⟩ := tA671 _ _ (LS.sil htt rfl rfl rfl rfl rfl rfl)
      have st26943 : A671 1 ⟨[(33, .c (.bp 4 1))], [], [], [(4, .box [.i .i64 z_.N, .sl 3] 78)], 5, [(34, .c (.sl 3))], [], [], 5⟩ := tA671 _ _ (LS.sil htt rfl rfl rfl rfl rfl rfl)
      have st26944 : A671 2 ⟨[(6, .c (.i .i64 v26_159))], [], [], [], 5, [(35, .c (.i .i64 v26_159))], [], [], 5⟩ := tA671 _ _ (LS.sil htt rfl rfl rfl rfl rfl rfl)
      have st26945 : A671 3 ⟨[(4, .c (.i .i64 (w64 (z_.N + (1 : Int)))))], [], [], [], 5, [(36, .c (.i .i64 (w64 (z_.N + (1 : Int)))))], [], [], 5⟩ := tA671 _ _ (LS.sil htt rfl rfl rfl rfl rfl rfl)
      have st26946 : A671 4 ⟨[(35, .c (.i .i64 v26_159)), (36, .c (.i .i64 (w64 (z_.N + (1 : Int)))))], [], [], [], 5, [(37, .c (.i .i64 (w64 (v26_159 * (w64 (z_.N + (1 : Int)))))))], [], [], 5⟩ := tA671 _ _ (LS.sil htt rfl rfl rfl rfl rfl rfl)
      have st26947 : A671 5 ⟨[(7, .c (.i .i64 v30_168))], [], [], [], 5, [(38, .c (.i .i64 v30_168))], [], [], 5⟩ := tA671 _ _ (LS.sil htt rfl rfl rfl rfl rfl rfl)
      have st26948 : A671 6 ⟨[(37, .c (.i .i64 (w64 (v26_159 * (w64 (z_.N + (1 : Int))))))), (38, .c (.i .i64 v30_168))], [], [], [], 5, [(39, .c (.i .i64 (w64 ((w64 (v26_159 * (w64 (z_.N + (1 : Int))))) + v30_168))))], [], [], 5⟩ := tA671 _ _ (LS.sil htt rfl rfl rfl rfl rfl rfl)
      have st26949 : A671 7 ⟨[(5, .c (.bp 4 0))], [], [], [], 5, [(40, .c (.bp 4 1))], [], [], 5⟩ := tA671 _ _ (LS.sil htt rfl rfl rfl rfl rfl rfl)
      have st26950 : A671 8 ⟨[(40, .c (.bp 4 1))], [], [], [(4, .box [.i .i64 z_.N, .sl 3] 78)], 5, [(41, .c (.sl 3))], [], [], 5⟩ := tA671 _ _ (LS.sil htt rfl rfl rfl rfl rfl rfl)
      have st26951 : A671 9 ⟨[(6, .c (.i .i64 v26_159))], [], [], [], 5, [(42, .c (.i .i64 v26_159))], [], [], 5⟩ := tA671 _ _ (LS.sil htt rfl rfl rfl rfl rfl rfl)
      have st26952 : A671 10 ⟨[(4, .c (.i .i64 (w64 (z_.N + (1 : Int)))))], [], [], [], 5, [(43, .c (.i .i64 (w64 (z_.N + (1 : Int)))))], [], [], 5⟩ := tA671 _ _ (LS.sil htt rfl rfl rfl rfl rfl rfl)
      have st26953 : A671 11 ⟨[(42, .c (.i .i64 v26_159)), (43, .c (.i .i64 (w64 (z_.N + (1 : Int)))))], [], [], [], 5, [(44, .c (.i .i64 (w64 (v26_159 * (w64 (z_.N + (1 : Int)))))))], [], [], 5⟩ := tA671 _ _ (LS.sil htt rfl rfl rfl rfl rfl rfl)
      have st26954 : A671 12 ⟨[(7, .c (.i .i64 v30_168))], [], [], [], 5, [(45, .c (.i .i64 v30_168))], [], [], 5⟩ := tA671 _ _ (LS.sil htt rfl rfl rfl rfl rfl rfl)
      have st26955 : A671 13 ⟨[(44, .c (.i .i64 (w64 (v26_159 * (w64 (z_.N + (1 : Int))))))), (45, .c (.i .i64 v30_168))], [], [], [], 5, [(46, .c (.i .i64 (w64 ((w64 (v26_159 * (w64 (z_.N + (1 : Int))))) + v30_168))))], [], [], 5⟩ := tA671 _ _ (LS.sil htt rfl rfl rfl rfl rfl rfl)
      obtain ⟨x26956, hx26956, h⟩ := ob h
      have st26957 : A671 14 ⟨[(41, .c (.sl 3)), (46, .c (.i .i64 (w64 ((w64 (v26_159 * (w64 (z_.N + (1 : Int))))) + v30_168))))], [], [], [(3, .own (rI .i64) vb5_4_1_168 true)], 5, [(47, .c (.px 5 0))], [(5, .el 3 (((w64 ((w64 (v26_159 * (w64 (z_.N + (1 : Int))))) + v30_168))).toNat * ((rI .i64)).sz))], [], 6⟩ := tA671 _ _ (LS.of rfl rfl rfl (fun _ _ _ _ _ _ _ k => WPr.ixo htt hx26956 rfl rfl rfl rfl rfl rfl rfl rfl rfl (k)) rfl)
      have st26958 : A671 15 ⟨[(47, .c (.px 5 0))], [(5, .el 3 (((w64 ((w64 (v26_159 * (w64 (z_.N + (1 : Int))))) + v30_168))).toNat * ((rI .i64)).sz))], [], [(3, .own (rI .i64) vb5_4_1_168 true)], 6, [(48, .c (.i .i64 x26956))], [], [], 6⟩ := tA671 _ _ (LS.of rfl rfl rfl (fun _ _ _ _ _ _ _ k => WPr.ldo (oI .i64) htt hx26956 rfl rfl rfl rfl rfl rfl rfl rfl rfl rfl (k)) rfl)
      have st26959 : A671 16 ⟨[(6, .c (.i .i64 v26_159))], [], [], [], 6, [(49, .c (.i .i64 v26_159))], [], [], 6⟩ := tA671 _ _ (LS.sil htt rfl rfl rfl rfl rfl rfl)
      have st26960 : A671 17 ⟨[(7, .c (.i .i64 v30_168))], [], [], [], 6, [(50, .c (.i .i64 v30_168))], [], [], 6⟩ := tA671 _ _ (LS.sil htt rfl rfl rfl rfl rfl rfl)
      obtain ⟨x26961, hx26961, h⟩ := ob h
      have st26962 : A671 18 ⟨[(49, .c (.i .i64 v26_159)), (50, .c (.i .i64 v30_168))], [], [], [], 6, [(51, .c (.i .i64 x26961))], [], [], 6⟩ := tA671 _ _ (LS.of rfl rfl rfl (fun _ _ _ _ _ _ _ k => WPr.call (z146_ct N v26_159 v30_168 _ hx26961) [] [] rfl rfl rfl rfl rfl rfl rfl rfl (.inl rfl) rfl (k)) rfl)
      have st26963 : A671 19 ⟨[(48, .c (.i .i64 x26956)), (51, .c (.i .i64 x26961))], [], [], [], 6, [(52, .c (.i .i64 (minI x26956 x26961)))], [], [], 6⟩ := tA671 _ _ (LS.sil htt rfl rfl rfl rfl rfl rfl)
      obtain ⟨x26964, hx26964, h⟩ := ob h
      have st26965 : A671 20 ⟨[(34, .c (.sl 3)), (39, .c (.i .i64 (w64 ((w64 (v26_159 * (w64 (z_.N + (1 : Int))))) + v30_168))))], [], [], [(3, .own (rI .i64) vb5_4_1_168 true)], 6, [(53, .c (.px 6 0))], [(6, .el 3 (((w64 ((w64 (v26_159 * (w64 (z_.N + (1 : Int))))) + v30_168))).toNat * ((rI .i64)).sz))], [], 7⟩ := tA671 _ _ (LS.of rfl rfl rfl (fun _ _ _ _ _ _ _ k => WPr.ixo htt hx26964 rfl rfl rfl rfl rfl rfl rfl rfl rfl (k)) rfl)
      have st26966 : A671 21 ⟨[(52, .c (.i .i64 (minI x26956 x26961))), (53, .c (.px 6 0))], [(6, .el 3 (((w64 ((w64 (v26_159 * (w64 (z_.N + (1 : Int))))) + v30_168))).toNat * ((rI .i64)).sz))], [(3, .own (rI .i64) vb5_4_1_168 true)], [], 7, [], [], [(3, .own (rI .i64) (setL' vb5_4_1_168 (w64 ((w64 (v26_159 * (w64 (z_.N + (1 : Int))))) + v30_168)) (minI x26956 x26961)) true)], 7⟩ := tA671 _ _ (LS.of rfl rfl rfl (fun _ _ _ _ _ _ _ k => WPr.sto (oI .i64) htt (minI x26956 x26961) hx26964 rfl rfl rfl rfl rfl rfl rfl rfl rfl rfl (by exact rfl) rfl (k)) rfl)
      exact WP.regionD (t := ⟨[(2, .c (.bp 2 0)), (4, .c (.i .i64 (w64 (z_.N + (1 : Int))))), (5, .c (.bp 4 0)), (6, .c (.i .i64 v26_159)), (25, .c (.i .i64 (w64 (z_.N + (1 : Int))))), (26, .c (.i .i64 v26_159)), (29, .c (.i .i64 (w64 (z_.N + (1 : Int))))), (30, .c (.i .i64 v30_168))], [(2, .box [.i .i64 (0 : Int), .nil] 78), (3, .own (rI .i64) (setL' vb5_4_1_168 (w64 ((w64 (v26_159 * (w64 (z_.N + (1 : Int))))) + v30_168)) (minI x26956 x26961)) true), (4, .box [.i .i64 z_.N, .sl 3] 78)], [(0, .sl (rI .i64) z_.B)], 7⟩) [0, 1, 0, 0, 12, 0, 60, 0, 128, 0, 0, 1536, 0, 7680, 16256, 32640, 0, 0, 196608, 524160, 1048575, 2097151] (.cons (fA671 _ _ st26942) (.cons (fA671 _ _ st26943) (.cons (fA671 _ _ st26944) (.cons (fA671 _ _ st26945) (.cons (fA671 _ _ st26946) (.cons (fA671 _ _ st26947) (.cons (fA671 _ _ st26948) (.cons (fA671 _ _ st26949) (.cons (fA671 _ _ st26950) (.cons (fA671 _ _ st26951) (.cons (fA671 _ _ st26952) (.cons (fA671 _ _ st26953) (.cons (fA671 _ _ st26954) (.cons (fA671 _ _ st26955) (.cons (fA671 _ _ st26957) (.cons (fA671 _ _ st26958) (.cons (fA671 _ _ st26959) (.cons (fA671 _ _ st26960) (.cons (fA671 _ _ st26962) (.cons (fA671 _ _ st26963) (.cons (fA671 _ _ st26965) (.cons (fA671 _ _ st26966) .nil)))))))))))))))))))))) (by kernel_rfl) (by kernel_rfl) (by kernel_rfl) (by kernel_rfl) (WP.inBlock (WP.region (WPr.sil htt 2 rfl (WPr.nil (WP.sub [] (ih168 ((setL' vb5_4_1_168 (w64 ((w64 (v26_159 * (w64 (z_.N + (1 : Int))))) + v30_168)) (minI x26956 x26961)), (w64 (v30_168 + (1 : Int)))) h) rfl rfl rfl rfl)))))
    exact WP.sub [] (ih N (vb5_4_1_159, (0 : Int)) h) rfl rfl rfl rfl
  exact WP.sub [] (ih N (x6, (0 : Int)) h) rfl rfl rfl rfl
theorem z86_ct (N : Nat) (z_ : T7) (i_ : Int) (j_ : Int) (r : Int) (h : z86 N z_ i_ j_ = some r) :
  Fn Tryz.prog 86 ⟨1, [.a [.i .i64 z_.N, .sl 0], .c (.i .i64 i_), .c (.i .i64 j_)], [(0, .sl (rI .i64) z_.B)], [], 1, .c (.i .i64 r), [], []⟩ := by
  refine Fn.intro _ _ Tryz.func86 rfl (by kernel_rfl) rfl (fun E F w => ?_)
  unfold z86 at h
  refine WP.seq (WP.region (WPr.sil htt 2 rfl (WPr.nil (WP.seq (WP.region (WPr.silx [9, 10, 11] ⟨[(8, .c (.sl 0)), (15, .c (.i .i64 (w64 ((w64 (i_ * (w64 (z_.N + (1 : Int))))) + j_))))], [], [(0, .sl (rI .i64) z_.B)], 2⟩ htt 9 (by kernel_rfl) (?_)))))))
  obtain ⟨x1, hx1, h⟩ := ob h
  refine WPr.ix (oI .i64) htt hx1 rfl rfl rfl rfl rfl rfl rfl rfl rfl (WPr.silx [] ⟨[(6, .c (.i .i64 x1))], [], [(0, .sl (rI .i64) z_.B)], 3⟩ htt 2 (by kernel_rfl) (WPr.nil (?_)))
  cases h
  exact WP.ret htt Tryz.func86 [] rfl rfl rfl rfl
theorem z38_ct (N : Nat) (z_ : T7) (r : (List Int) × Bool) (h : z38 N z_ = some r) :
  Fn Tryz.prog 38 ⟨1, [.a [.i .i64 z_.N, .sl 0]], [(0, .sl (rI .i64) z_.B)], [], 2, .t [.inl (.sl 1), .inl (.b r.2)], [], [(1, .own (rI .i64) r.1 true)]⟩ := by
  refine Fn.intro _ _ Tryz.func38 rfl (by kernel_rfl) rfl (fun E F w => ?_)
  unfold z38 at h
  refine WP.seq (WP.region (WPr.silx [] ⟨[(1, .c (.bp 1 0)), (2, .c .nil), (3, .c (.b false))], [(1, .box [.i .i64 z_.N, .sl 0] 78)], [(0, .sl (rI .i64) z_.B)], 2⟩ htt 3 (by kernel_rfl) (WPr.nil (WP.seq (WP.region (WPr.sil htt 1 rfl (?_)))))))
  obtain ⟨x1, hx1, h⟩ := ob h
  refine WPr.call (z85_ct N z_ _ hx1) [(0, .sl 0)] [] rfl rfl rfl rfl rfl rfl rfl rfl (.inl rfl) rfl (WPr.silx [] ⟨[(1, .c (.bp 1 0)), (2, .c .nil), (3, .c (.b false)), (4, .c (.bp 3 0)), (5, .c (.b x1.2))], [(1, .box [.i .i64 z_.N, .sl 0] 78), (3, .box [.i .i64 x1.1.N, .sl 2] 78)], [(0, .sl (rI .i64) z_.B), (2, .sl (rI .i64) x1.1.B)], 4⟩ htt 6 (by kernel_rfl) (WPr.nil (WP.seq (WP.seq (WP.region (WPr.sil htt 2 rfl (WPr.nil (?_))))))))
  rcases oc h with ⟨hc, h⟩ | ⟨hc, h⟩
  · refine WP.condT hc rfl (WP.seq (WP.region (WPr.silx [] ⟨[(2, .c .nil), (3, .c (.b false))], [], [(0, .sl (rI .i64) z_.B)], 4⟩ htt 2 (by kernel_rfl) (WPr.nil (?_)))))
    cases h
    exact WP.ret htt Tryz.func38 [(1, .nil)] rfl rfl rfl rfl
  refine WP.condF hc rfl (WP.skip (WP.seq (WP.region (WPr.bs (cs := []) (oI .i64) htt ([] : List Int) rfl rfl rfl rfl rfl rfl (by kernel_rfl) (by exact rfl) rfl (WPr.silx [] ⟨[(1, .c (.bp 1 0)), (2, .c .nil), (3, .c (.b false)), (4, .c (.bp 3 0)), (6, .c (.sl 4))], [(1, .box [.i .i64 z_.N, .sl 0] 78), (3, .box [.i .i64 x1.1.N, .sl 2] 78), (4, .own (rI .i64) ([] : List Int) true)], [(0, .sl (rI .i64) z_.B), (2, .sl (rI .i64) x1.1.B)], 5⟩ htt 1 (by kernel_rfl) (WPr.nil (WP.seq (WP.seq (WP.region (WPr.silx [] ⟨[(2, .c .nil), (3, .c (.b false)), (4, .c (.bp 3 0)), (6, .c (.sl 4)), (20, .c (.i .i64 z_.N)), (21, .c (.i .i64 (0 : Int)))], [(3, .box [.i .i64 x1.1.N, .sl 2] 78), (4, .own (rI .i64) ([] : List Int) true)], [(0, .sl (rI .i64) z_.B), (2, .sl (rI .i64) x1.1.B)], 5⟩ htt 3 (by kernel_rfl) (WPr.nil (?_))))))))))))
  refine WP.cut (σ := (List Int)) (fun st => ⟨[(6, .c (.sl 5))], [(5, .own (rI .i64) st true)], [(0, .sl (rI .i64) z_.B)], 6⟩) (fun st => z38_k1 st = some r) ?_ (fun j1 => ?_)
  · intro v6_1 h
    replace h : z38_k1 v6_1 = some r := h
    unfold z38_k1 at h
    refine WP.seq (WP.region (WPr.silx [] ⟨[(2, .c (.sl 5)), (3, .c (.b true))], [(5, .own (rI .i64) v6_1 true)], [(0, .sl (rI .i64) z_.B)], 6⟩ htt 3 (by kernel_rfl) (WPr.nil (?_))))
    cases h
    exact WP.ret htt Tryz.func38 [(1, .sl 5)] rfl rfl rfl rfl
  refine WP.block (?_)
  refine WP.loopI (σ := (List Int) × Int) (fun st => ⟨[(4, .c (.bp 3 0)), (6, .c (.sl 5)), (20, .c (.i .i64 z_.N)), (21, .c (.i .i64 st.2))], [(3, .box [.i .i64 x1.1.N, .sl 2] 78), (5, .own (rI .i64) st.1 true)], [(0, .sl (rI .i64) z_.B), (2, .sl (rI .i64) x1.1.B)], 6⟩) (fun n st => z38_l2 N z_ x1 n st.1 st.2) (r := r) (fun _ => rfl) ?_ (fun ih => ?_)
  · intro n12 ih12
    rintro ⟨v6_12, v21_12⟩ h
    replace h : z38_l2 N z_ x1 (n12 + 1) v6_12 v21_12 = some r := h
    unfold z38_l2 at h
    refine WP.seq (WP.region (WPr.sil htt 1 rfl (WPr.nil (WP.seq (?_)))))
    rcases oc' h with ⟨hc, h⟩ | ⟨hc, h⟩
    · exact WP.condF hc rfl (WP.exit rfl (WP.sub [] (j1 v6_12 h) rfl rfl rfl rfl))
    refine WP.condT hc rfl (WP.skip (WP.seq (WP.block (WP.seq (WP.region (WPr.silx [] ⟨[(4, .c (.bp 3 0)), (6, .c (.sl 5)), (7, .c (.i .i64 v21_12)), (20, .c (.i .i64 z_.N)), (21, .c (.i .i64 v21_12))], [(3, .box [.i .i64 x1.1.N, .sl 2] 78), (5, .own (rI .i64) v6_12 true)], [(0, .sl (rI .i64) z_.B), (2, .sl (rI .i64) x1.1.B)], 6⟩ htt 2 (by kernel_rfl) (WPr.nil (WP.seq (WP.region (WPr.silx [3, 4, 5] ⟨[(4, .c (.bp 3 0)), (6, .c (.sl 5)), (7, .c (.i .i64 v21_12)), (20, .c (.i .i64 z_.N)), (21, .c (.i .i64 v21_12)), (24, .a [.i .i64 x1.1.N, .sl 2]), (26, .c (.i .i64 (w64 (v21_12 + (1 : Int)))))], [(3, .box [.i .i64 x1.1.N, .sl 2] 78), (5, .own (rI .i64) v6_12 true)], [(0, .sl (rI .i64) z_.B), (2, .sl (rI .i64) x1.1.B)], 6⟩ htt 3 (by kernel_rfl) (?_)))))))))))
    obtain ⟨x148, hx148, h⟩ := ob h
    refine WPr.call (z86_ct N x1.1 (0 : Int) (w64 (v21_12 + (1 : Int))) _ hx148) [(0, .sl 2)] [] rfl rfl rfl rfl rfl rfl rfl rfl (.inl rfl) rfl (WPr.silx [] ⟨[(4, .c (.bp 3 0)), (6, .c (.sl 5)), (7, .c (.i .i64 v21_12)), (8, .c (.i .i64 (w64 (0 - x148)))), (20, .c (.i .i64 z_.N)), (21, .c (.i .i64 v21_12))], [(3, .box [.i .i64 x1.1.N, .sl 2] 78), (5, .own (rI .i64) v6_12 true)], [(0, .sl (rI .i64) z_.B), (2, .sl (rI .i64) x1.1.B)], 6⟩ htt 2 (by kernel_rfl) (WPr.nil (WP.seq (WP.seq (WP.region (WPr.silx [] ⟨[(4, .c (.bp 3 0)), (6, .c (.sl 5)), (7, .c (.i .i64 v21_12)), (8, .c (.i .i64 (w64 (0 - x148)))), (20, .c (.i .i64 z_.N)), (21, .c (.i .i64 v21_12)), (29, .c (.sl 5)), (30, .c (.i .i64 (v6_12.length : Int))), (31, .c (.i .i64 (0 : Int)))], [(3, .box [.i .i64 x1.1.N, .sl 2] 78), (5, .own (rI .i64) v6_12 true)], [(0, .sl (rI .i64) z_.B), (2, .sl (rI .i64) x1.1.B)], 6⟩ htt 3 (by kernel_rfl) (WPr.nil (?_))))))))
    refine WP.cut (σ := Int) (fun st => ⟨[(4, .c (.bp 3 0)), (6, .c (.sl 5)), (8, .c (.i .i64 st)), (20, .c (.i .i64 z_.N)), (21, .c (.i .i64 v21_12))], [(3, .box [.i .i64 x1.1.N, .sl 2] 78), (5, .own (rI .i64) v6_12 true)], [(0, .sl (rI .i64) z_.B), (2, .sl (rI .i64) x1.1.B)], 6⟩) (fun st => z38_k3 v6_12 v21_12 (z38_l2 N z_ x1 n12) st = some r) ?_ (fun j19 => ?_)
    · intro v8_19 h
      replace h : z38_k3 v6_12 v21_12 (z38_l2 N z_ x1 n12) v8_19 = some r := h
      unfold z38_k3 at h
      refine WP.region (WPr.sil htt 2 rfl (WPr.bs (cs := [.i .i64 v8_19]) (oI .i64) htt ([v8_19] : List Int) rfl rfl rfl rfl rfl rfl (by kernel_rfl) (by exact (an rfl rfl)) rfl (WPr.silx [3, 4] ⟨[(4, .c (.bp 3 0)), (20, .c (.i .i64 z_.N)), (21, .c (.i .i64 v21_12)), (47, .c (.sl 5)), (49, .c (.sl 6))], [(3, .box [.i .i64 x1.1.N, .sl 2] 78), (5, .own (rI .i64) v6_12 true), (6, .own (rI .i64) ([v8_19] : List Int) true)], [(0, .sl (rI .i64) z_.B), (2, .sl (rI .i64) x1.1.B)], 7⟩ htt 0 (by kernel_rfl) (?_))))
      obtain ⟨x157, hx157, h⟩ := ob h
      exact WPr.app htt hx157 (by exact (srcO rfl)) rfl rfl rfl rfl rfl rfl rfl rfl rfl rfl (WPr.silx [] ⟨[(4, .c (.bp 3 0)), (6, .c (.sl 7)), (20, .c (.i .i64 z_.N)), (21, .c (.i .i64 v21_12))], [(3, .box [.i .i64 x1.1.N, .sl 2] 78), (7, .own (rI .i64) x157 true)], [(0, .sl (rI .i64) z_.B), (2, .sl (rI .i64) x1.1.B)], 8⟩ htt 1 (by kernel_rfl) (WPr.nil (WP.inBlock (WP.region (WPr.sil htt 2 rfl (WPr.nil (WP.sub [(5, .sl 7)] (ih12 (x157, (w64 (v21_12 + (1 : Int)))) h) rfl rfl rfl rfl)))))))
    refine WP.block (?_)
    refine WP.loopI (σ := Int × Int) (fun st => ⟨[(4, .c (.bp 3 0)), (6, .c (.sl 5)), (7, .c (.i .i64 v21_12)), (8, .c (.i .i64 st.1)), (20, .c (.i .i64 z_.N)), (21, .c (.i .i64 v21_12)), (29, .c (.sl 5)), (30, .c (.i .i64 (v6_12.length : Int))), (31, .c (.i .i64 st.2))], [(3, .box [.i .i64 x1.1.N, .sl 2] 78), (5, .own (rI .i64) v6_12 true)], [(0, .sl (rI .i64) z_.B), (2, .sl (rI .i64) x1.1.B)], 6⟩) (fun n st => z38_l4 N x1 v6_12 v21_12 (z38_l2 N z_ x1 n12) n st.1 st.2) (r := r) (fun _ => rfl) ?_ (fun ih => ?_)
    · intro n14 ih21
      rintro ⟨v8_21, v31_21⟩ h
      replace h : z38_l4 N x1 v6_12 v21_12 (z38_l2 N z_ x1 n12) (n14 + 1) v8_21 v31_21 = some r := h
      unfold z38_l4 at h
      refine WP.seq (WP.region (WPr.sil htt 1 rfl (WPr.nil (WP.seq (?_)))))
      rcases oc' h with ⟨hc, h⟩ | ⟨hc, h⟩
      · exact WP.condF hc rfl (WP.exit rfl (WP.sub [] (j19 v8_21 h) rfl rfl rfl rfl))
      refine WP.condT hc rfl (WP.skip (WP.seq (WP.block (WP.seq (WP.region (WPr.sil htt 1 rfl (?_)))))))
      obtain ⟨x166, hx166, h⟩ := ob h
      refine WPr.ixo htt hx166 rfl rfl rfl rfl rfl rfl rfl rfl rfl (WPr.silx [2, 3, 4] ⟨[(4, .c (.bp 3 0)), (6, .c (.sl 5)), (7, .c (.i .i64 v21_12)), (8, .c (.i .i64 v8_21)), (20, .c (.i .i64 z_.N)), (21, .c (.i .i64 v21_12)), (29, .c (.sl 5)), (30, .c (.i .i64 (v6_12.length : Int))), (31, .c (.i .i64 v31_21)), (33, .c (.i .i64 v31_21)), (34, .c (.px 6 0))], [(3, .box [.i .i64 x1.1.N, .sl 2] 78), (5, .own (rI .i64) v6_12 true)], [(0, .sl (rI .i64) z_.B), (2, .sl (rI .i64) x1.1.B), (6, .el 5 ((v31_21).toNat * ((rI .i64)).sz))], 7⟩ htt 0 (by kernel_rfl) (WPr.ldo (oI .i64) htt hx166 rfl rfl rfl rfl rfl rfl rfl rfl rfl rfl (WPr.silx [] ⟨[(4, .c (.bp 3 0)), (6, .c (.sl 5)), (7, .c (.i .i64 v21_12)), (8, .c (.i .i64 v8_21)), (9, .c (.i .i64 v31_21)), (10, .c (.i .i64 x166)), (20, .c (.i .i64 z_.N)), (21, .c (.i .i64 v21_12)), (29, .c (.sl 5)), (30, .c (.i .i64 (v6_12.length : Int))), (31, .c (.i .i64 v31_21))], [(3, .box [.i .i64 x1.1.N, .sl 2] 78), (5, .own (rI .i64) v6_12 true)], [(0, .sl (rI .i64) z_.B), (2, .sl (rI .i64) x1.1.B)], 7⟩ htt 2 (by kernel_rfl) (WPr.nil (WP.region (WPr.silx [7, 8, 9, 10] ⟨[(4, .c (.bp 3 0)), (6, .c (.sl 5)), (7, .c (.i .i64 v21_12)), (20, .c (.i .i64 z_.N)), (21, .c (.i .i64 v21_12)), (29, .c (.sl 5)), (30, .c (.i .i64 (v6_12.length : Int))), (31, .c (.i .i64 v31_21)), (36, .c (.i .i64 v8_21)), (37, .c (.i .i64 x166)), (38, .a [.i .i64 x1.1.N, .sl 2]), (40, .c (.i .i64 (w64 (v31_21 + (1 : Int))))), (42, .c (.i .i64 (w64 (v21_12 + (1 : Int)))))], [(3, .box [.i .i64 x1.1.N, .sl 2] 78), (5, .own (rI .i64) v6_12 true)], [(0, .sl (rI .i64) z_.B), (2, .sl (rI .i64) x1.1.B)], 7⟩ htt 7 (by kernel_rfl) (?_)))))))
      obtain ⟨x167, hx167, h⟩ := ob h
      exact WPr.call (z86_ct N x1.1 (w64 (v31_21 + (1 : Int))) (w64 (v21_12 + (1 : Int))) _ hx167) [(0, .sl 2)] [] rfl rfl rfl rfl rfl rfl rfl rfl (.inl rfl) rfl (WPr.silx [] ⟨[(4, .c (.bp 3 0)), (6, .c (.sl 5)), (7, .c (.i .i64 v21_12)), (8, .c (.i .i64 (maxI v8_21 (w64 (x166 - x167))))), (20, .c (.i .i64 z_.N)), (21, .c (.i .i64 v21_12)), (29, .c (.sl 5)), (30, .c (.i .i64 (v6_12.length : Int))), (31, .c (.i .i64 v31_21))], [(3, .box [.i .i64 x1.1.N, .sl 2] 78), (5, .own (rI .i64) v6_12 true)], [(0, .sl (rI .i64) z_.B), (2, .sl (rI .i64) x1.1.B)], 7⟩ htt 3 (by kernel_rfl) (WPr.nil (WP.inBlock (WP.region (WPr.sil htt 2 rfl (WPr.nil (WP.sub [] (ih21 ((maxI v8_21 (w64 (x166 - x167))), (w64 (v31_21 + (1 : Int)))) h) rfl rfl rfl rfl)))))))
    exact WP.sub [] (ih N ((w64 (0 - x148)), (0 : Int)) h) rfl rfl rfl rfl
  exact WP.sub [(5, .sl 4)] (ih N (([] : List Int), (0 : Int)) h) rfl rfl rfl rfl
theorem repL_eq (l : List UInt8) : ∀ n : Nat, Go.Lib.repeatL l n = repL l n
  | 0 => rfl
  | n + 1 => by show l ++ Go.Lib.repeatL l n = l ++ repL l n; rw [repL_eq l n]
theorem z39_ct (N : Nat) (s_ : ByteArray) (count_ : Int) (r : ByteArray) (h : z39 N s_ count_ = some r) : Fn Tryz.prog 39 ⟨0, [.c (.s s_), .c (.i .i64 count_)], [], [], 0, .c (.s r), [], []⟩ := by
  unfold z39 at h
  cases hb : ((decide (0 ≤ count_) && decide (count_ ≤ 140737488355328)) && decide (s_.size * count_.toNat ≤ 140737488355328)) with
  | false => rw [hb] at h; cases h
  | true =>
    rw [hb] at h
    simp only [cond_true, Option.some.injEq] at h
    subst h
    simp only [Bool.and_eq_true, decide_eq_true_eq] at hb
    obtain ⟨⟨h1, h2⟩, h3⟩ := hb
    obtain ⟨c, rfl⟩ := Int.eq_ofNat_of_zero_le h1
    have := repeat_fn s_ c (by omega) h3
    rw [repL_eq] at this
    exact this
theorem z93_ct (N : Nat) (s_ : (List T5)) (r : (List T5)) (h : z93 N s_ = some r) :
  Fn Tryz.prog 93 ⟨1, [.c (.sl 0)], [(0, .sl rR5 s_)], [], 2, .c (.sl 1), [], [(1, .own rR5 r true)]⟩ := by
  refine Fn.intro _ _ Tryz.func93 rfl (by kernel_rfl) rfl (fun E F w => ?_)
  unfold z93 at h
  refine WP.seq (WP.region (WPr.sil htt 1 rfl (WPr.nil (WP.seq (WP.seq (WP.region (WPr.sil htt 1 rfl (WPr.nilc (el := 46) false (Or.inl rfl) rfl rfl rfl rfl (by kernel_rfl) rfl rfl rfl (?_)))))))))
  intro nb hnb
  cases nb
  · refine WPr.silx [] ⟨[(0, .c (.sl 0)), (2, .c .nil), (4, .c (.b false))], [], [(0, .sl rR5 s_)], 1⟩ htt 0 (by kernel_rfl) (WPr.nil (WP.condF rfl rfl (WP.skip (WP.seq (WP.region (WPr.bs (cs := []) oO5 htt ([] : List T5) rfl rfl rfl rfl rfl rfl (by kernel_rfl) (by exact rfl) rfl (WPr.sil htt 1 rfl (?_))))))))
    obtain ⟨x1, hx1, h⟩ := ob h
    refine WPr.app htt hx1 (by exact (srcI rfl)) rfl rfl rfl rfl rfl rfl rfl rfl rfl rfl (WPr.silx [] ⟨[(2, .c (.sl 2))], [(2, .own rR5 x1 true)], [(0, .sl rR5 s_)], 3⟩ htt 1 (by kernel_rfl) (WPr.nil (?_)))
    cases h
    exact WP.ret htt Tryz.func93 [(1, .sl 2)] rfl rfl rfl rfl
  · obtain rfl := hnb rfl
    replace h : (some ([] : List T5) : Option (List T5)) = some r := h
    refine WPr.silx [] ⟨[(0, .c (.sl 0)), (2, .c .nil), (4, .c (.b true))], [], [(0, .sl rR5 ([] : List T5))], 1⟩ htt 0 (by kernel_rfl) (WPr.nil (WP.condT rfl rfl (WP.seq (WP.region (WPr.sil htt 1 rfl (WPr.nil (?_)))))))
    cases h
    exact WP.ret htt Tryz.func93 [(1, .nil)] rfl rfl rfl rfl
theorem z40_ct (N : Nat) (d_ : T0) (values_ : (List T5)) (known_ : (List T5)) (r : (List T5)) (h : z40 N d_ values_ known_ = some r) :
  Fn Tryz.prog 40 ⟨5, [.a [.s d_.Name, .sl 0, .i .i64 d_.First, .sl 1, .sl 2], .c (.sl 3), .c (.sl 4)], [(0, .sl rR2 d_.Fields), (1, .sl rR1 d_.Guard.Diffs), (2, .sl (rP (rI .i64) (rI .i64)) d_.Guard.Equals), (3, .sl rR5 values_), (4, .sl rR5 known_)], [], 6, .c (.sl 5), [], [(5, .own rR5 r true)]⟩ := by
  refine Fn.intro _ _ Tryz.func40 rfl (by kernel_rfl) rfl (fun E F w => ?_)
  unfold z40 at h
  refine WP.seq (WP.region (WPr.sil htt 2 rfl (WPr.nil (WP.seq (WP.region (WPr.silx [1, 2] ⟨[(1, .c (.sl 3)), (3, .c (.bp 5 0)), (6, .c .nil), (8, .c (.sl 4))], [(5, .box [.s d_.Name, .sl 0, .i .i64 d_.First, .sl 1, .sl 2] 44)], [(0, .sl rR2 d_.Fields), (1, .sl rR1 d_.Guard.Diffs), (2, .sl (rP (rI .i64) (rI .i64)) d_.Guard.Equals), (3, .sl rR5 values_), (4, .sl rR5 known_)], 6⟩ htt 1 (by kernel_rfl) (?_)))))))
  obtain ⟨x1, hx1, h⟩ := ob h
  refine WPr.call (z93_ct N known_ _ hx1) [(0, .sl 4)] [] rfl rfl rfl rfl rfl rfl rfl rfl (.inl rfl) rfl (WPr.silx [] ⟨[(1, .c (.sl 3)), (3, .c (.bp 5 0)), (6, .c .nil), (7, .c (.sl 6))], [(5, .box [.s d_.Name, .sl 0, .i .i64 d_.First, .sl 1, .sl 2] 44), (6, .own rR5 x1 true)], [(0, .sl rR2 d_.Fields), (1, .sl rR1 d_.Guard.Diffs), (2, .sl (rP (rI .i64) (rI .i64)) d_.Guard.Equals), (3, .sl rR5 values_), (4, .sl rR5 known_)], 7⟩ htt 1 (by kernel_rfl) (WPr.nil (WP.seq (WP.region (WPr.silx [3, 4, 5] ⟨[(1, .c (.sl 3)), (6, .c .nil), (7, .c (.sl 6)), (10, .c (.sl 6)), (12, .c (.i .i64 d_.First))], [(6, .own rR5 x1 true)], [(0, .sl rR2 d_.Fields), (1, .sl rR1 d_.Guard.Diffs), (2, .sl (rP (rI .i64) (rI .i64)) d_.Guard.Equals), (3, .sl rR5 values_), (4, .sl rR5 known_)], 7⟩ htt 3 (by kernel_rfl) (?_))))))
  obtain ⟨x2, hx2, h⟩ := ob h
  refine WPr.vw htt (l := some (.i64, d_.First)) (h := none) hx2 rfl rfl rfl rfl rfl rfl rfl rfl rfl rfl (WPr.sil htt 1 rfl (?_))
  obtain ⟨x3, hx3, h⟩ := ob h
  refine WPr.cp htt hx3 (by exact (srcI rfl)) rfl rfl rfl rfl rfl (Or.inl rfl) rfl rfl rfl rfl (WPr.silx [] ⟨[(6, .c .nil), (7, .c (.sl 6))], [(6, .own rR5 x3.1 true)], [(0, .sl rR2 d_.Fields), (1, .sl rR1 d_.Guard.Diffs), (2, .sl (rP (rI .i64) (rI .i64)) d_.Guard.Equals), (3, .sl rR5 values_), (4, .sl rR5 known_)], 8⟩ htt 0 (by kernel_rfl) (WPr.nil (WP.seq (WP.region (WPr.sil htt 2 rfl (WPr.nil (?_)))))))
  cases h
  exact WP.ret htt Tryz.func40 [(5, .sl 6)] rfl rfl rfl rfl
theorem z41_ct (N : Nat) (d_ : T0) (l_ : (List T5)) (r : (List T5)) (h : z41 N d_ l_ = some r) :
  Fn Tryz.prog 41 ⟨4, [.a [.s d_.Name, .sl 0, .i .i64 d_.First, .sl 1, .sl 2], .c (.sl 3)], [(0, .sl rR2 d_.Fields), (1, .sl rR1 d_.Guard.Diffs), (2, .sl (rP (rI .i64) (rI .i64)) d_.Guard.Equals)], [(3, .own rR5 l_ false)], 4, .t [], [], [(3, .own rR5 r false)]⟩ := by
  refine Fn.intro _ _ Tryz.func41 rfl (by kernel_rfl) rfl (fun E F w => ?_)
  unfold z41 at h
  refine WP.seq (WP.region (WPr.sil htt 1 rfl (WPr.nil (WP.seq (WP.region (WPr.silx [2, 3] ⟨[(1, .c (.sl 3)), (2, .c (.bp 4 0)), (13, .c (.i .i64 (l_.length : Int)))], [(3, .own rR5 l_ false), (4, .box [.s d_.Name, .sl 0, .i .i64 d_.First, .sl 1, .sl 2] 44)], [(0, .sl rR2 d_.Fields), (1, .sl rR1 d_.Guard.Diffs), (2, .sl (rP (rI .i64) (rI .i64)) d_.Guard.Equals)], 5⟩ htt 2 (by kernel_rfl) (?_)))))))
  obtain ⟨x1, hx1, h⟩ := ob h
  refine WPr.mk oB htt false hx1 rfl rfl rfl rfl rfl rfl rfl rfl (by exact an rfl rfl) rfl (WPr.sil htt 1 rfl (WPr.nil (WP.seq (WP.seq (WP.region (WPr.silx [] ⟨[(1, .c (.sl 3)), (2, .c (.bp 4 0)), (4, .c (.sl 5)), (16, .c (.i .i64 (l_.length : Int))), (17, .c (.i .i64 (0 : Int)))], [(3, .own rR5 l_ false), (4, .box [.s d_.Name, .sl 0, .i .i64 d_.First, .sl 1, .sl 2] 44), (5, .own rB x1 true)], [(0, .sl rR2 d_.Fields), (1, .sl rR1 d_.Guard.Diffs), (2, .sl (rP (rI .i64) (rI .i64)) d_.Guard.Equals)], 6⟩ htt 3 (by kernel_rfl) (WPr.nil (?_))))))))
  refine WP.cut (σ := (List Bool)) (fun st => ⟨[(1, .c (.sl 3)), (2, .c (.bp 4 0)), (4, .c (.sl 5))], [(3, .own rR5 l_ false), (4, .box [.s d_.Name, .sl 0, .i .i64 d_.First, .sl 1, .sl 2] 44), (5, .own rB st true)], [(0, .sl rR2 d_.Fields), (1, .sl rR1 d_.Guard.Diffs), (2, .sl (rP (rI .i64) (rI .i64)) d_.Guard.Equals)], 6⟩) (fun st => z41_k8 N d_ l_ st = some r) ?_ (fun j1 => ?_)
  · intro v4_1 h
    replace h : z41_k8 N d_ l_ v4_1 = some r := h
    unfold z41_k8 at h
    refine WP.seq (WP.region (WPr.sil htt 1 rfl (WPr.nil (?_))))
    refine WP.cut (σ := (List T5)) (fun st => ⟨[], [(3, .own rR5 st false)], [(0, .sl rR2 d_.Fields), (1, .sl rR1 d_.Guard.Diffs), (2, .sl (rP (rI .i64) (rI .i64)) d_.Guard.Equals)], 6⟩) (fun st => z41_k1 st = some r) ?_ (fun j3 => ?_)
    · intro vk3_3 h
      replace h : z41_k1 vk3_3 = some r := h
      unfold z41_k1 at h
      cases h
      exact WP.fin htt Tryz.func41 [] rfl rfl rfl rfl
    refine WP.block (?_)
    refine WP.loopI (σ := (List T5) × (List Bool) × Bool) (fun st => ⟨[(1, .c (.sl 3)), (2, .c (.bp 4 0)), (4, .c (.sl 5)), (6, .c (.b st.2.2))], [(3, .own rR5 st.1 false), (4, .box [.s d_.Name, .sl 0, .i .i64 d_.First, .sl 1, .sl 2] 44), (5, .own rB st.2.1 true)], [(0, .sl rR2 d_.Fields), (1, .sl rR1 d_.Guard.Diffs), (2, .sl (rP (rI .i64) (rI .i64)) d_.Guard.Equals)], 6⟩) (fun n st => z41_l2 N d_ n st.1 st.2.1 st.2.2) (r := r) (fun _ => rfl) ?_ (fun ih => ?_)
    · intro n73 ih176
      rintro ⟨vk3_176, v4_176, v6_176⟩ h
      replace h : z41_l2 N d_ (n73 + 1) vk3_176 v4_176 v6_176 = some r := h
      unfold z41_l2 at h
      refine WP.seq (WP.seq (WP.region (WPr.sil htt 1 rfl (WPr.nil (?_)))))
      rcases oc' h with ⟨hc, h⟩ | ⟨hc, h⟩
      · exact WP.condF hc rfl (WP.exit rfl (WP.sub [] (j3 vk3_176 h) rfl rfl rfl rfl))
      refine WP.condT hc rfl (WP.skip (WP.block (WP.seq (WP.region (WPr.sil htt 1 rfl (WPr.nil (WP.seq (WP.region (WPr.silx [] ⟨[(1, .c (.sl 3)), (2, .c (.bp 4 0)), (4, .c (.sl 5)), (6, .c (.b false)), (49, .c (.sl 2)), (50, .c (.i .i64 (d_.Guard.Equals.length : Int))), (51, .c (.i .i64 (0 : Int)))], [(3, .own rR5 vk3_176 false), (4, .box [.s d_.Name, .sl 0, .i .i64 d_.First, .sl 1, .sl 2] 44), (5, .own rB v4_176 true)], [(0, .sl rR2 d_.Fields), (1, .sl rR1 d_.Guard.Diffs), (2, .sl (rP (rI .i64) (rI .i64)) d_.Guard.Equals)], 6⟩ htt 5 (by kernel_rfl) (WPr.nil (?_)))))))))))
      refine WP.cut (σ := (List T5) × (List Bool) × Bool) (fun st => ⟨[(1, .c (.sl 3)), (2, .c (.bp 4 0)), (4, .c (.sl 5)), (6, .c (.b st.2.2))], [(3, .own rR5 st.1 false), (4, .box [.s d_.Name, .sl 0, .i .i64 d_.First, .sl 1, .sl 2] 44), (5, .own rB st.2.1 true)], [(0, .sl rR2 d_.Fields), (1, .sl rR1 d_.Guard.Diffs), (2, .sl (rP (rI .i64) (rI .i64)) d_.Guard.Equals)], 6⟩) (fun st => z41_k3 (z41_l2 N d_ n73) st.1 st.2.1 st.2.2 = some r) ?_ (fun j291 => ?_)
      · rintro ⟨vk3_291, v4_291, v6_291⟩ h
        replace h : z41_k3 (z41_l2 N d_ n73) vk3_291 v4_291 v6_291 = some r := h
        unfold z41_k3 at h
        exact WP.inBlock (WP.sub [] (ih176 (vk3_291, v4_291, v6_291) h) rfl rfl rfl rfl)
      refine WP.block (?_)
      refine WP.loopI (σ := (List T5) × (List Bool) × Bool × Int) (fun st => ⟨[(1, .c (.sl 3)), (2, .c (.bp 4 0)), (4, .c (.sl 5)), (6, .c (.b st.2.2.1)), (49, .c (.sl 2)), (50, .c (.i .i64 (d_.Guard.Equals.length : Int))), (51, .c (.i .i64 st.2.2.2))], [(3, .own rR5 st.1 false), (4, .box [.s d_.Name, .sl 0, .i .i64 d_.First, .sl 1, .sl 2] 44), (5, .own rB st.2.1 true)], [(0, .sl rR2 d_.Fields), (1, .sl rR1 d_.Guard.Diffs), (2, .sl (rP (rI .i64) (rI .i64)) d_.Guard.Equals)], 6⟩) (fun n st => z41_l4 N d_ (z41_l2 N d_ n73) n st.1 st.2.1 st.2.2.1 st.2.2.2) (r := r) (fun _ => rfl) ?_ (fun ih => ?_)
      · intro n85 ih320
        rintro ⟨vk3_320, v4_320, v6_320, v51_320⟩ h
        replace h : z41_l4 N d_ (z41_l2 N d_ n73) (n85 + 1) vk3_320 v4_320 v6_320 v51_320 = some r := h
        unfold z41_l4 at h
        refine WP.seq (WP.region (WPr.sil htt 1 rfl (WPr.nil (WP.seq (?_)))))
        rcases oc' h with ⟨hc, h⟩ | ⟨hc, h⟩
        · exact WP.condF hc rfl (WP.exit rfl (WP.sub [] (j291 (vk3_320, v4_320, v6_320) h) rfl rfl rfl rfl))
        refine WP.condT hc rfl (WP.skip (WP.seq (WP.block (WP.seq (WP.region (?_))))))
        obtain ⟨x3471, hx3471, h⟩ := ob h
        refine WPr.ix (oP (oI .i64) (oI .i64)) htt hx3471 rfl rfl rfl rfl rfl rfl rfl rfl rfl (WPr.silx [] ⟨[(1, .c (.sl 3)), (2, .c (.bp 4 0)), (4, .c (.sl 5)), (6, .c (.b v6_320)), (8, .c (.bp 7 0)), (49, .c (.sl 2)), (50, .c (.i .i64 (d_.Guard.Equals.length : Int))), (51, .c (.i .i64 v51_320))], [(3, .own rR5 vk3_320 false), (4, .box [.s d_.Name, .sl 0, .i .i64 d_.First, .sl 1, .sl 2] 44), (5, .own rB v4_320 true), (7, .box [.i .i64 x3471.1, .i .i64 x3471.2] 49)], [(0, .sl rR2 d_.Fields), (1, .sl rR1 d_.Guard.Diffs), (2, .sl (rP (rI .i64) (rI .i64)) d_.Guard.Equals)], 8⟩ htt 3 (by kernel_rfl) (WPr.nil (WP.seq (WP.region (WPr.sil htt 2 rfl (WPr.nil (?_)))))))
        refine WP.cut (σ := (List T5) × (List Bool) × Bool) (fun st => ⟨[(1, .c (.sl 3)), (2, .c (.bp 4 0)), (4, .c (.sl 5)), (6, .c (.b st.2.2)), (49, .c (.sl 2)), (50, .c (.i .i64 (d_.Guard.Equals.length : Int))), (51, .c (.i .i64 v51_320))], [(3, .own rR5 st.1 false), (4, .box [.s d_.Name, .sl 0, .i .i64 d_.First, .sl 1, .sl 2] 44), (5, .own rB st.2.1 true)], [(0, .sl rR2 d_.Fields), (1, .sl rR1 d_.Guard.Diffs), (2, .sl (rP (rI .i64) (rI .i64)) d_.Guard.Equals)], 8⟩) (fun st => z41_k5 v51_320 (z41_l4 N d_ (z41_l2 N d_ n73) n85) st.1 st.2.1 st.2.2 = some r) ?_ (fun j339 => ?_)
        · rintro ⟨vk3_339, v4_339, v6_339⟩ h
          replace h : z41_k5 v51_320 (z41_l4 N d_ (z41_l2 N d_ n73) n85) vk3_339 v4_339 v6_339 = some r := h
          unfold z41_k5 at h
          exact WP.inBlock (WP.region (WPr.sil htt 2 rfl (WPr.nil (WP.sub [] (ih320 (vk3_339, v4_339, v6_339, (w64 (v51_320 + (1 : Int)))) h) rfl rfl rfl rfl))))
        refine WP.block (?_)
        refine WP.loopI (σ := (List T5) × (List Bool) × Bool × Int) (fun st => ⟨[(1, .c (.sl 3)), (2, .c (.bp 4 0)), (4, .c (.sl 5)), (6, .c (.b st.2.2.1)), (8, .c (.bp 7 0)), (49, .c (.sl 2)), (50, .c (.i .i64 (d_.Guard.Equals.length : Int))), (51, .c (.i .i64 v51_320)), (55, .a [.i .i64 x3471.1, .i .i64 x3471.2]), (56, .c (.i .i64 st.2.2.2))], [(3, .own rR5 st.1 false), (4, .box [.s d_.Name, .sl 0, .i .i64 d_.First, .sl 1, .sl 2] 44), (5, .own rB st.2.1 true), (7, .box [.i .i64 x3471.1, .i .i64 x3471.2] 49)], [(0, .sl rR2 d_.Fields), (1, .sl rR1 d_.Guard.Diffs), (2, .sl (rP (rI .i64) (rI .i64)) d_.Guard.Equals)], 8⟩) (fun n st => z41_l6 v51_320 (z41_l4 N d_ (z41_l2 N d_ n73) n85) x3471 n st.1 st.2.1 st.2.2.1 st.2.2.2) (r := r) (fun _ => rfl) ?_ (fun ih => ?_)
        · intro n87 ih344
          rintro ⟨vk3_344, v4_344, v6_344, v56_344⟩ h
          replace h : z41_l6 v51_320 (z41_l4 N d_ (z41_l2 N d_ n73) n85) x3471 (n87 + 1) vk3_344 v4_344 v6_344 v56_344 = some r := h
          unfold z41_l6 at h
          refine WP.seq (WP.region (WPr.sil htt 1 rfl (WPr.nil (WP.seq (?_)))))
          rcases oc' h with ⟨hc, h⟩ | ⟨hc, h⟩
          · exact WP.condF hc rfl (WP.exit rfl (WP.sub [] (j339 (vk3_344, v4_344, v6_344) h) rfl rfl rfl rfl))
          refine WP.condT hc rfl (WP.skip (WP.seq (WP.block (WP.seq (WP.region (WPr.sil htt 1 rfl (?_)))))))
          obtain ⟨x3518, hx3518, h⟩ := ob h
          refine WPr.ax (len := 2) (el := 3) (SC.i .i64) ([x3471.1, x3471.2] : List Int) hx3518 rfl rfl rfl rfl (by kernel_rfl) (by kernel_rfl) (by kernel_rfl) (by kernel_rfl) rfl rfl rfl rfl (WPr.silx [] ⟨[(1, .c (.sl 3)), (2, .c (.bp 4 0)), (4, .c (.sl 5)), (6, .c (.b v6_344)), (8, .c (.bp 7 0)), (9, .c (.i .i64 v56_344)), (10, .c (.i .i64 x3518)), (49, .c (.sl 2)), (50, .c (.i .i64 (d_.Guard.Equals.length : Int))), (51, .c (.i .i64 v51_320)), (55, .a [.i .i64 x3471.1, .i .i64 x3471.2]), (56, .c (.i .i64 v56_344))], [(3, .own rR5 vk3_344 false), (4, .box [.s d_.Name, .sl 0, .i .i64 d_.First, .sl 1, .sl 2] 44), (5, .own rB v4_344 true), (7, .box [.i .i64 x3471.1, .i .i64 x3471.2] 49)], [(0, .sl rR2 d_.Fields), (1, .sl rR1 d_.Guard.Diffs), (2, .sl (rP (rI .i64) (rI .i64)) d_.Guard.Equals)], 8⟩ htt 2 (by kernel_rfl) (WPr.nil (WP.seq (WP.region (WPr.sil htt 2 rfl (?_))))))
          refine WP.cutr (σ := Int) (fun st => ⟨[(1, .c (.sl 3)), (2, .c (.bp 4 0)), (4, .c (.sl 5)), (6, .c (.b v6_344)), (8, .c (.bp 7 0)), (10, .c (.i .i64 x3518)), (11, .c (.i .i64 st)), (49, .c (.sl 2)), (50, .c (.i .i64 (d_.Guard.Equals.length : Int))), (51, .c (.i .i64 v51_320)), (55, .a [.i .i64 x3471.1, .i .i64 x3471.2]), (56, .c (.i .i64 v56_344))], [(3, .own rR5 vk3_344 false), (4, .box [.s d_.Name, .sl 0, .i .i64 d_.First, .sl 1, .sl 2] 44), (5, .own rB v4_344 true), (7, .box [.i .i64 x3471.1, .i .i64 x3471.2] 49)], [(0, .sl rR2 d_.Fields), (1, .sl rR1 d_.Guard.Diffs), (2, .sl (rP (rI .i64) (rI .i64)) d_.Guard.Equals)], 8⟩) (fun st => z41_k7 vk3_344 v4_344 v6_344 v56_344 (z41_l6 v51_320 (z41_l4 N d_ (z41_l2 N d_ n73) n85) x3471 n87) x3518 st = some r) ?_ (fun j347 => ?_)
          · intro v11_347 h
            replace h : z41_k7 vk3_344 v4_344 v6_344 v56_344 (z41_l6 v51_320 (z41_l4 N d_ (z41_l2 N d_ n73) n85) x3471 n87) x3518 v11_347 = some r := h
            unfold z41_k7 at h
            refine WP.seq (WP.region (WPr.sil htt 2 rfl (?_)))
            obtain ⟨x3519, hx3519, h⟩ := ob h
            refine WPr.ixo htt hx3519 rfl rfl rfl rfl rfl rfl rfl rfl rfl (WPr.silx [3, 4, 5, 6, 7, 8, 9, 10] ⟨[(1, .c (.sl 3)), (2, .c (.bp 4 0)), (4, .c (.sl 5)), (6, .c (.b v6_344)), (8, .c (.bp 7 0)), (10, .c (.i .i64 x3518)), (11, .c (.i .i64 v11_347)), (49, .c (.sl 2)), (50, .c (.i .i64 (d_.Guard.Equals.length : Int))), (51, .c (.i .i64 v51_320)), (55, .a [.i .i64 x3471.1, .i .i64 x3471.2]), (56, .c (.i .i64 v56_344)), (66, .c (.px 8 0))], [(3, .own rR5 vk3_344 false), (4, .box [.s d_.Name, .sl 0, .i .i64 d_.First, .sl 1, .sl 2] 44), (5, .own rB v4_344 true), (7, .box [.i .i64 x3471.1, .i .i64 x3471.2] 49)], [(0, .sl rR2 d_.Fields), (1, .sl rR1 d_.Guard.Diffs), (2, .sl (rP (rI .i64) (rI .i64)) d_.Guard.Equals), (8, .el 5 ((v11_347).toNat * (rB).sz))], 9⟩ htt 0 (by kernel_rfl) (WPr.ldo oB htt hx3519 rfl rfl rfl rfl rfl rfl rfl rfl rfl rfl (WPr.sil htt 1 rfl (?_))))
            rcases oc' h with ⟨hc, h⟩ | ⟨hc, h⟩
            · exact WPr.kb 68 hc rfl (WPr.silx [] ⟨[(1, .c (.sl 3)), (2, .c (.bp 4 0)), (4, .c (.sl 5)), (6, .c (.b v6_344)), (8, .c (.bp 7 0)), (10, .c (.i .i64 x3518)), (11, .c (.i .i64 v11_347)), (49, .c (.sl 2)), (50, .c (.i .i64 (d_.Guard.Equals.length : Int))), (51, .c (.i .i64 v51_320)), (55, .a [.i .i64 x3471.1, .i .i64 x3471.2]), (56, .c (.i .i64 v56_344)), (74, .c (.b false))], [(3, .own rR5 vk3_344 false), (4, .box [.s d_.Name, .sl 0, .i .i64 d_.First, .sl 1, .sl 2] 44), (5, .own rB v4_344 true), (7, .box [.i .i64 x3471.1, .i .i64 x3471.2] 49)], [(0, .sl rR2 d_.Fields), (1, .sl rR1 d_.Guard.Diffs), (2, .sl (rP (rI .i64) (rI .i64)) d_.Guard.Equals)], 9⟩ htt 6 (by kernel_rfl) (WPr.nil (WP.condF rfl rfl (WP.skip (WP.inBlock (WP.region (WPr.sil htt 2 rfl (WPr.nil (WP.sub [] (ih344 (vk3_344, v4_344, v6_344, (w64 (v56_344 + (1 : Int)))) h) rfl rfl rfl rfl)))))))))
            refine WPr.kb 68 hc rfl (WPr.silx [7, 8, 9, 10] ⟨[(1, .c (.sl 3)), (2, .c (.bp 4 0)), (4, .c (.sl 5)), (6, .c (.b v6_344)), (8, .c (.bp 7 0)), (10, .c (.i .i64 x3518)), (11, .c (.i .i64 v11_347)), (49, .c (.sl 2)), (50, .c (.i .i64 (d_.Guard.Equals.length : Int))), (51, .c (.i .i64 v51_320)), (55, .a [.i .i64 x3471.1, .i .i64 x3471.2]), (56, .c (.i .i64 v56_344)), (68, .c (.b true)), (69, .c (.sl 5)), (70, .c (.i .i64 x3518))], [(3, .own rR5 vk3_344 false), (4, .box [.s d_.Name, .sl 0, .i .i64 d_.First, .sl 1, .sl 2] 44), (5, .own rB v4_344 true), (7, .box [.i .i64 x3471.1, .i .i64 x3471.2] 49)], [(0, .sl rR2 d_.Fields), (1, .sl rR1 d_.Guard.Diffs), (2, .sl (rP (rI .i64) (rI .i64)) d_.Guard.Equals)], 9⟩ htt 2 (by kernel_rfl) (?_))
            obtain ⟨x3520, hx3520, h⟩ := ob h
            refine WPr.ixo htt hx3520 rfl rfl rfl rfl rfl rfl rfl rfl rfl (WPr.ldo oB htt hx3520 rfl rfl rfl rfl rfl rfl rfl rfl rfl rfl (WPr.silx [] ⟨[(1, .c (.sl 3)), (2, .c (.bp 4 0)), (4, .c (.sl 5)), (6, .c (.b v6_344)), (8, .c (.bp 7 0)), (10, .c (.i .i64 x3518)), (11, .c (.i .i64 v11_347)), (49, .c (.sl 2)), (50, .c (.i .i64 (d_.Guard.Equals.length : Int))), (51, .c (.i .i64 v51_320)), (55, .a [.i .i64 x3471.1, .i .i64 x3471.2]), (56, .c (.i .i64 v56_344)), (74, .c (.b (!x3520)))], [(3, .own rR5 vk3_344 false), (4, .box [.s d_.Name, .sl 0, .i .i64 d_.First, .sl 1, .sl 2] 44), (5, .own rB v4_344 true), (7, .box [.i .i64 x3471.1, .i .i64 x3471.2] 49)], [(0, .sl rR2 d_.Fields), (1, .sl rR1 d_.Guard.Diffs), (2, .sl (rP (rI .i64) (rI .i64)) d_.Guard.Equals)], 10⟩ htt 2 (by kernel_rfl) (WPr.nil (?_))))
            rcases oc' h with ⟨hc, h⟩ | ⟨hc, h⟩
            · exact WP.condF hc rfl (WP.skip (WP.inBlock (WP.region (WPr.sil htt 2 rfl (WPr.nil (WP.sub [] (ih344 (vk3_344, v4_344, v6_344, (w64 (v56_344 + (1 : Int)))) h) rfl rfl rfl rfl))))))
            refine WP.condT hc rfl (WP.region (WPr.silx [6, 7, 8, 9, 10, 11, 12, 13, 14] ⟨[(1, .c (.sl 3)), (2, .c (.bp 4 0)), (4, .c (.sl 5)), (8, .c (.bp 7 0)), (49, .c (.sl 2)), (50, .c (.i .i64 (d_.Guard.Equals.length : Int))), (51, .c (.i .i64 v51_320)), (55, .a [.i .i64 x3471.1, .i .i64 x3471.2]), (56, .c (.i .i64 v56_344)), (75, .c (.sl 3)), (76, .c (.i .i64 x3518)), (77, .c (.sl 5)), (78, .c (.i .i64 x3518)), (79, .c (.sl 3)), (80, .c (.i .i64 v11_347))], [(3, .own rR5 vk3_344 false), (4, .box [.s d_.Name, .sl 0, .i .i64 d_.First, .sl 1, .sl 2] 44), (5, .own rB v4_344 true), (7, .box [.i .i64 x3471.1, .i .i64 x3471.2] 49)], [(0, .sl rR2 d_.Fields), (1, .sl rR1 d_.Guard.Diffs), (2, .sl (rP (rI .i64) (rI .i64)) d_.Guard.Equals)], 10⟩ htt 6 (by kernel_rfl) (?_)))
            obtain ⟨x3521, hx3521, h⟩ := ob h
            refine WPr.ixo htt hx3521 rfl rfl rfl rfl rfl rfl rfl rfl rfl (WPr.sil htt 1 rfl (WPr.ldo oO5 htt hx3521 rfl rfl rfl rfl rfl rfl rfl rfl rfl rfl (WPr.silx [9, 10, 11, 12, 13, 14] ⟨[(1, .c (.sl 3)), (2, .c (.bp 4 0)), (4, .c (.sl 5)), (8, .c (.bp 7 0)), (49, .c (.sl 2)), (50, .c (.i .i64 (d_.Guard.Equals.length : Int))), (51, .c (.i .i64 v51_320)), (55, .a [.i .i64 x3471.1, .i .i64 x3471.2]), (56, .c (.i .i64 v56_344)), (75, .c (.sl 3)), (76, .c (.i .i64 x3518)), (77, .c (.sl 5)), (78, .c (.i .i64 x3518)), (83, .c (.s x3521.S))], [(3, .own rR5 vk3_344 false), (4, .box [.s d_.Name, .sl 0, .i .i64 d_.First, .sl 1, .sl 2] 44), (5, .own rB v4_344 true), (7, .box [.i .i64 x3471.1, .i .i64 x3471.2] 49)], [(0, .sl rR2 d_.Fields), (1, .sl rR1 d_.Guard.Diffs), (2, .sl (rP (rI .i64) (rI .i64)) d_.Guard.Equals)], 11⟩ htt 0 (by kernel_rfl) (?_))))
            obtain ⟨x3522, hx3522, h⟩ := ob h
            refine WPr.ixo htt hx3522 rfl rfl rfl rfl rfl rfl rfl rfl rfl (WPr.sil htt 1 rfl (WPr.sto oO5 htt (⟨x3522.Kind, x3522.N, x3521.S⟩ : T5) hx3522 rfl rfl rfl rfl rfl rfl rfl rfl rfl rfl (by exact (an rfl (an rfl rfl))) rfl (WPr.silx [12, 13, 14] ⟨[(1, .c (.sl 3)), (2, .c (.bp 4 0)), (4, .c (.sl 5)), (8, .c (.bp 7 0)), (49, .c (.sl 2)), (50, .c (.i .i64 (d_.Guard.Equals.length : Int))), (51, .c (.i .i64 v51_320)), (55, .a [.i .i64 x3471.1, .i .i64 x3471.2]), (56, .c (.i .i64 v56_344)), (77, .c (.sl 5)), (78, .c (.i .i64 x3518))], [(3, .own rR5 (setL' vk3_344 x3518 (⟨x3522.Kind, x3522.N, x3521.S⟩ : T5)) false), (4, .box [.s d_.Name, .sl 0, .i .i64 d_.First, .sl 1, .sl 2] 44), (5, .own rB v4_344 true), (7, .box [.i .i64 x3471.1, .i .i64 x3471.2] 49)], [(0, .sl rR2 d_.Fields), (1, .sl rR1 d_.Guard.Diffs), (2, .sl (rP (rI .i64) (rI .i64)) d_.Guard.Equals)], 12⟩ htt 0 (by kernel_rfl) (?_))))
            obtain ⟨x3523, hx3523, h⟩ := ob h
            exact WPr.ixo htt hx3523 rfl rfl rfl rfl rfl rfl rfl rfl rfl (WPr.sto oB htt true hx3523 rfl rfl rfl rfl rfl rfl rfl rfl rfl rfl (by exact rfl) rfl (WPr.silx [] ⟨[(1, .c (.sl 3)), (2, .c (.bp 4 0)), (4, .c (.sl 5)), (6, .c (.b true)), (8, .c (.bp 7 0)), (49, .c (.sl 2)), (50, .c (.i .i64 (d_.Guard.Equals.length : Int))), (51, .c (.i .i64 v51_320)), (55, .a [.i .i64 x3471.1, .i .i64 x3471.2]), (56, .c (.i .i64 v56_344))], [(3, .own rR5 (setL' vk3_344 x3518 (⟨x3522.Kind, x3522.N, x3521.S⟩ : T5)) false), (4, .box [.s d_.Name, .sl 0, .i .i64 d_.First, .sl 1, .sl 2] 44), (5, .own rB (setL' v4_344 x3518 true) true), (7, .box [.i .i64 x3471.1, .i .i64 x3471.2] 49)], [(0, .sl rR2 d_.Fields), (1, .sl rR1 d_.Guard.Diffs), (2, .sl (rP (rI .i64) (rI .i64)) d_.Guard.Equals)], 13⟩ htt 1 (by kernel_rfl) (WPr.nil (WP.inBlock (WP.region (WPr.sil htt 2 rfl (WPr.nil (WP.sub [] (ih344 ((setL' vk3_344 x3518 (⟨x3522.Kind, x3522.N, x3521.S⟩ : T5)), (setL' v4_344 x3518 true), true, (w64 (v56_344 + (1 : Int)))) h) rfl rfl rfl rfl))))))))
          rcases oc h with ⟨hc, h⟩ | ⟨hc, h⟩
          · exact WPr.axb (len := 2) (el := 3) (es := 1) 0 (by exact eq_of_beq hc) rfl rfl rfl rfl (by kernel_rfl) (by kernel_rfl) rfl rfl rfl rfl (WPr.silx [] ⟨[(1, .c (.sl 3)), (2, .c (.bp 4 0)), (4, .c (.sl 5)), (6, .c (.b v6_344)), (8, .c (.bp 7 0)), (10, .c (.i .i64 x3518)), (11, .c (.i .i64 x3471.1)), (49, .c (.sl 2)), (50, .c (.i .i64 (d_.Guard.Equals.length : Int))), (51, .c (.i .i64 v51_320)), (55, .a [.i .i64 x3471.1, .i .i64 x3471.2]), (56, .c (.i .i64 v56_344))], [(3, .own rR5 vk3_344 false), (4, .box [.s d_.Name, .sl 0, .i .i64 d_.First, .sl 1, .sl 2] 44), (5, .own rB v4_344 true), (7, .box [.i .i64 x3471.1, .i .i64 x3471.2] 49)], [(0, .sl rR2 d_.Fields), (1, .sl rR1 d_.Guard.Diffs), (2, .sl (rP (rI .i64) (rI .i64)) d_.Guard.Equals)], 8⟩ htt 2 (by kernel_rfl) (WPr.nil (WP.sub [] (j347 x3471.1 h) rfl rfl rfl rfl)))
          rcases oc h with ⟨hc, h⟩ | ⟨hc, h⟩
          · exact WPr.axb (len := 2) (el := 3) (es := 1) 1 (by exact eq_of_beq hc) rfl rfl rfl rfl (by kernel_rfl) (by kernel_rfl) rfl rfl rfl rfl (WPr.silx [] ⟨[(1, .c (.sl 3)), (2, .c (.bp 4 0)), (4, .c (.sl 5)), (6, .c (.b v6_344)), (8, .c (.bp 7 0)), (10, .c (.i .i64 x3518)), (11, .c (.i .i64 x3471.2)), (49, .c (.sl 2)), (50, .c (.i .i64 (d_.Guard.Equals.length : Int))), (51, .c (.i .i64 v51_320)), (55, .a [.i .i64 x3471.1, .i .i64 x3471.2]), (56, .c (.i .i64 v56_344))], [(3, .own rR5 vk3_344 false), (4, .box [.s d_.Name, .sl 0, .i .i64 d_.First, .sl 1, .sl 2] 44), (5, .own rB v4_344 true), (7, .box [.i .i64 x3471.1, .i .i64 x3471.2] 49)], [(0, .sl rR2 d_.Fields), (1, .sl rR1 d_.Guard.Diffs), (2, .sl (rP (rI .i64) (rI .i64)) d_.Guard.Equals)], 8⟩ htt 2 (by kernel_rfl) (WPr.nil (WP.sub [] (j347 x3471.2 h) rfl rfl rfl rfl)))
          cases h
        exact WP.sub [] (ih N (vk3_320, v4_320, v6_320, (0 : Int)) h) rfl rfl rfl rfl
      exact WP.sub [] (ih N (vk3_176, v4_176, false, (0 : Int)) h) rfl rfl rfl rfl
    exact WP.sub [] (ih N (l_, v4_1, true) h) rfl rfl rfl rfl
  refine WP.block (?_)
  refine WP.loopI (σ := (List Bool) × Int) (fun st => ⟨[(1, .c (.sl 3)), (2, .c (.bp 4 0)), (4, .c (.sl 5)), (16, .c (.i .i64 (l_.length : Int))), (17, .c (.i .i64 st.2))], [(3, .own rR5 l_ false), (4, .box [.s d_.Name, .sl 0, .i .i64 d_.First, .sl 1, .sl 2] 44), (5, .own rB st.1 true)], [(0, .sl rR2 d_.Fields), (1, .sl rR1 d_.Guard.Diffs), (2, .sl (rP (rI .i64) (rI .i64)) d_.Guard.Equals)], 6⟩) (fun n st => z41_l9 N d_ l_ n st.1 st.2) (r := r) (fun _ => rfl) ?_ (fun ih => ?_)
  · intro n88 ih348
    rintro ⟨v4_348, v17_348⟩ h
    replace h : z41_l9 N d_ l_ (n88 + 1) v4_348 v17_348 = some r := h
    unfold z41_l9 at h
    refine WP.seq (WP.region (WPr.sil htt 1 rfl (WPr.nil (WP.seq (?_)))))
    rcases oc' h with ⟨hc, h⟩ | ⟨hc, h⟩
    · exact WP.condF hc rfl (WP.exit rfl (WP.sub [] (j1 v4_348 h) rfl rfl rfl rfl))
    refine WP.condT hc rfl (WP.skip (WP.seq (WP.block (WP.seq (WP.region (WPr.silx [] ⟨[(1, .c (.sl 3)), (2, .c (.bp 4 0)), (4, .c (.sl 5)), (5, .c (.i .i64 v17_348)), (16, .c (.i .i64 (l_.length : Int))), (17, .c (.i .i64 v17_348))], [(3, .own rR5 l_ false), (4, .box [.s d_.Name, .sl 0, .i .i64 d_.First, .sl 1, .sl 2] 44), (5, .own rB v4_348 true)], [(0, .sl rR2 d_.Fields), (1, .sl rR1 d_.Guard.Diffs), (2, .sl (rP (rI .i64) (rI .i64)) d_.Guard.Equals)], 6⟩ htt 2 (by kernel_rfl) (WPr.nil (WP.region (WPr.silx [7, 8, 9, 10, 11, 12, 13, 14, 15, 16, 17, 18, 19, 20, 21, 22, 23, 24, 25] ⟨[(1, .c (.sl 3)), (2, .c (.bp 4 0)), (4, .c (.sl 5)), (5, .c (.i .i64 v17_348)), (16, .c (.i .i64 (l_.length : Int))), (17, .c (.i .i64 v17_348)), (20, .c (.sl 5)), (21, .c (.i .i64 v17_348)), (26, .c (.b (decide (v17_348 < d_.First))))], [(3, .own rR5 l_ false), (4, .box [.s d_.Name, .sl 0, .i .i64 d_.First, .sl 1, .sl 2] 44), (5, .own rB v4_348 true)], [(0, .sl rR2 d_.Fields), (1, .sl rR1 d_.Guard.Diffs), (2, .sl (rP (rI .i64) (rI .i64)) d_.Guard.Equals)], 6⟩ htt 7 (by kernel_rfl) (?_))))))))))
    rcases oc h with ⟨hc, h⟩ | ⟨hc, h⟩
    · refine WPr.kb 26 hc rfl (WPr.silx [19, 20, 21, 22, 23, 24, 25] ⟨[(1, .c (.sl 3)), (2, .c (.bp 4 0)), (4, .c (.sl 5)), (16, .c (.i .i64 (l_.length : Int))), (17, .c (.i .i64 v17_348)), (20, .c (.sl 5)), (21, .c (.i .i64 v17_348)), (36, .c (.b true)), (37, .c (.sl 3)), (38, .c (.i .i64 v17_348))], [(3, .own rR5 l_ false), (4, .box [.s d_.Name, .sl 0, .i .i64 d_.First, .sl 1, .sl 2] 44), (5, .own rB v4_348 true)], [(0, .sl rR2 d_.Fields), (1, .sl rR1 d_.Guard.Diffs), (2, .sl (rP (rI .i64) (rI .i64)) d_.Guard.Equals)], 6⟩ htt 12 (by kernel_rfl) (?_))
      obtain ⟨x3544, hx3544, h⟩ := ob h
      refine WPr.ixo htt hx3544 rfl rfl rfl rfl rfl rfl rfl rfl rfl (WPr.sil htt 1 rfl (WPr.ldo oO5 htt hx3544 rfl rfl rfl rfl rfl rfl rfl rfl rfl rfl (WPr.silx [24, 25] ⟨[(1, .c (.sl 3)), (2, .c (.bp 4 0)), (4, .c (.sl 5)), (16, .c (.i .i64 (l_.length : Int))), (17, .c (.i .i64 v17_348)), (20, .c (.sl 5)), (21, .c (.i .i64 v17_348)), (43, .c (.b (x3544.Kind != (0 : Int))))], [(3, .own rR5 l_ false), (4, .box [.s d_.Name, .sl 0, .i .i64 d_.First, .sl 1, .sl 2] 44), (5, .own rB v4_348 true)], [(0, .sl rR2 d_.Fields), (1, .sl rR1 d_.Guard.Diffs), (2, .sl (rP (rI .i64) (rI .i64)) d_.Guard.Equals)], 7⟩ htt 2 (by kernel_rfl) (?_))))
      obtain ⟨x3545, hx3545, h⟩ := ob h
      exact WPr.ixo htt hx3545 rfl rfl rfl rfl rfl rfl rfl rfl rfl (WPr.sto oB htt (x3544.Kind != (0 : Int)) hx3545 rfl rfl rfl rfl rfl rfl rfl rfl rfl rfl (by exact rfl) rfl (WPr.nil (WP.inBlock (WP.region (WPr.silx [] ⟨[(1, .c (.sl 3)), (2, .c (.bp 4 0)), (4, .c (.sl 5)), (16, .c (.i .i64 (l_.length : Int))), (17, .c (.i .i64 (w64 (v17_348 + (1 : Int)))))], [(3, .own rR5 l_ false), (4, .box [.s d_.Name, .sl 0, .i .i64 d_.First, .sl 1, .sl 2] 44), (5, .own rB (setL' v4_348 v17_348 (x3544.Kind != (0 : Int))) true)], [(0, .sl rR2 d_.Fields), (1, .sl rR1 d_.Guard.Diffs), (2, .sl (rP (rI .i64) (rI .i64)) d_.Guard.Equals)], 8⟩ htt 2 (by kernel_rfl) (WPr.nil (WP.sub [] (ih348 ((setL' v4_348 v17_348 (x3544.Kind != (0 : Int))), (w64 (v17_348 + (1 : Int)))) h) rfl rfl rfl rfl)))))))
    refine WPr.kb 26 hc rfl (WPr.silx [17, 18, 19, 20, 21, 22, 23, 24, 25] ⟨[(1, .c (.sl 3)), (2, .c (.bp 4 0)), (4, .c (.sl 5)), (5, .c (.i .i64 v17_348)), (16, .c (.i .i64 (l_.length : Int))), (17, .c (.i .i64 v17_348)), (20, .c (.sl 5)), (21, .c (.i .i64 v17_348)), (36, .c (.b (decide (v17_348 ≥ (w64 (d_.First + (d_.Fields.length : Int)))))))], [(3, .own rR5 l_ false), (4, .box [.s d_.Name, .sl 0, .i .i64 d_.First, .sl 1, .sl 2] 44), (5, .own rB v4_348 true)], [(0, .sl rR2 d_.Fields), (1, .sl rR1 d_.Guard.Diffs), (2, .sl (rP (rI .i64) (rI .i64)) d_.Guard.Equals)], 6⟩ htt 10 (by kernel_rfl) (?_))
    rcases oc' h with ⟨hc, h⟩ | ⟨hc, h⟩
    · refine WPr.kb 36 hc rfl (WPr.silx [24, 25] ⟨[(1, .c (.sl 3)), (2, .c (.bp 4 0)), (4, .c (.sl 5)), (16, .c (.i .i64 (l_.length : Int))), (17, .c (.i .i64 v17_348)), (20, .c (.sl 5)), (21, .c (.i .i64 v17_348)), (43, .c (.b false))], [(3, .own rR5 l_ false), (4, .box [.s d_.Name, .sl 0, .i .i64 d_.First, .sl 1, .sl 2] 44), (5, .own rB v4_348 true)], [(0, .sl rR2 d_.Fields), (1, .sl rR1 d_.Guard.Diffs), (2, .sl (rP (rI .i64) (rI .i64)) d_.Guard.Equals)], 6⟩ htt 7 (by kernel_rfl) (?_))
      obtain ⟨x3548, hx3548, h⟩ := ob h
      exact WPr.ixo htt hx3548 rfl rfl rfl rfl rfl rfl rfl rfl rfl (WPr.sto oB htt false hx3548 rfl rfl rfl rfl rfl rfl rfl rfl rfl rfl (by exact rfl) rfl (WPr.nil (WP.inBlock (WP.region (WPr.silx [] ⟨[(1, .c (.sl 3)), (2, .c (.bp 4 0)), (4, .c (.sl 5)), (16, .c (.i .i64 (l_.length : Int))), (17, .c (.i .i64 (w64 (v17_348 + (1 : Int)))))], [(3, .own rR5 l_ false), (4, .box [.s d_.Name, .sl 0, .i .i64 d_.First, .sl 1, .sl 2] 44), (5, .own rB (setL' v4_348 v17_348 false) true)], [(0, .sl rR2 d_.Fields), (1, .sl rR1 d_.Guard.Diffs), (2, .sl (rP (rI .i64) (rI .i64)) d_.Guard.Equals)], 7⟩ htt 2 (by kernel_rfl) (WPr.nil (WP.sub [] (ih348 ((setL' v4_348 v17_348 false), (w64 (v17_348 + (1 : Int)))) h) rfl rfl rfl rfl)))))))
    refine WPr.kb 36 hc rfl (WPr.sil htt 2 rfl (?_))
    obtain ⟨x3546, hx3546, h⟩ := ob h
    refine WPr.ixo htt hx3546 rfl rfl rfl rfl rfl rfl rfl rfl rfl (WPr.silx [21, 22, 23, 24, 25] ⟨[(1, .c (.sl 3)), (2, .c (.bp 4 0)), (4, .c (.sl 5)), (16, .c (.i .i64 (l_.length : Int))), (17, .c (.i .i64 v17_348)), (20, .c (.sl 5)), (21, .c (.i .i64 v17_348)), (36, .c (.b true)), (40, .c (.px 6 0))], [(3, .own rR5 l_ false), (4, .box [.s d_.Name, .sl 0, .i .i64 d_.First, .sl 1, .sl 2] 44), (5, .own rB v4_348 true)], [(0, .sl rR2 d_.Fields), (1, .sl rR1 d_.Guard.Diffs), (2, .sl (rP (rI .i64) (rI .i64)) d_.Guard.Equals), (6, .el 3 ((v17_348).toNat * (rR5).sz))], 7⟩ htt 1 (by kernel_rfl) (WPr.ldo oO5 htt hx3546 rfl rfl rfl rfl rfl rfl rfl rfl rfl rfl (WPr.silx [24, 25] ⟨[(1, .c (.sl 3)), (2, .c (.bp 4 0)), (4, .c (.sl 5)), (16, .c (.i .i64 (l_.length : Int))), (17, .c (.i .i64 v17_348)), (20, .c (.sl 5)), (21, .c (.i .i64 v17_348)), (43, .c (.b (x3546.Kind != (0 : Int))))], [(3, .own rR5 l_ false), (4, .box [.s d_.Name, .sl 0, .i .i64 d_.First, .sl 1, .sl 2] 44), (5, .own rB v4_348 true)], [(0, .sl rR2 d_.Fields), (1, .sl rR1 d_.Guard.Diffs), (2, .sl (rP (rI .i64) (rI .i64)) d_.Guard.Equals)], 7⟩ htt 2 (by kernel_rfl) (?_))))
    obtain ⟨x3547, hx3547, h⟩ := ob h
    exact WPr.ixo htt hx3547 rfl rfl rfl rfl rfl rfl rfl rfl rfl (WPr.sto oB htt (x3546.Kind != (0 : Int)) hx3547 rfl rfl rfl rfl rfl rfl rfl rfl rfl rfl (by exact rfl) rfl (WPr.nil (WP.inBlock (WP.region (WPr.silx [] ⟨[(1, .c (.sl 3)), (2, .c (.bp 4 0)), (4, .c (.sl 5)), (16, .c (.i .i64 (l_.length : Int))), (17, .c (.i .i64 (w64 (v17_348 + (1 : Int)))))], [(3, .own rR5 l_ false), (4, .box [.s d_.Name, .sl 0, .i .i64 d_.First, .sl 1, .sl 2] 44), (5, .own rB (setL' v4_348 v17_348 (x3546.Kind != (0 : Int))) true)], [(0, .sl rR2 d_.Fields), (1, .sl rR1 d_.Guard.Diffs), (2, .sl (rP (rI .i64) (rI .i64)) d_.Guard.Equals)], 8⟩ htt 2 (by kernel_rfl) (WPr.nil (WP.sub [] (ih348 ((setL' v4_348 v17_348 (x3546.Kind != (0 : Int))), (w64 (v17_348 + (1 : Int)))) h) rfl rfl rfl rfl)))))))
  exact WP.sub [] (ih N (x1, (0 : Int)) h) rfl rfl rfl rfl
end Gx
end
