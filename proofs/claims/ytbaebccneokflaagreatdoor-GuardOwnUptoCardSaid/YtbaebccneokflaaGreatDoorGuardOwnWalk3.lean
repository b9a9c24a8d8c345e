/- Each function of the statement computes what its plain definition says, part 3. -/
import Derived.Test.YtbaebccneokflaaGreatDoorGuardOwnWalk2
set_option linter.all false
section
set_option maxRecDepth 10000
set_option maxHeartbeats 4000000
open Go Go.Kx Go.Proofs Tryz
namespace Gx
theorem z42_ct (N : Nat) (g_ : T3) (l_ : (List T5)) (r : Bool) (h : z42 N g_ l_ = some r) :
  Fn Tryz.prog 42 ⟨3, [.a [.sl 0, .sl 1], .c (.sl 2)], [(0, .sl rR1 g_.Diffs), (1, .sl (rP (rI .i64) (rI .i64)) g_.Equals), (2, .sl rR5 l_)], [], 3, .c (.b r), [], []⟩ := by
  refine Fn.intro _ _ Tryz.func42 rfl (by kernel_rfl) rfl (fun E F w => ?_)
  unfold z42 at h
  refine WP.seq (WP.region (WPr.sil htt 2 rfl (WPr.nil (WP.seq (WP.seq (WP.region (WPr.silx [] ⟨[(1, .c (.sl 2)), (2, .c (.bp 3 0)), (4, .c (.b false)), (13, .c (.sl 0)), (14, .c (.i .i64 (g_.Diffs.length : Int))), (15, .c (.i .i64 (0 : Int)))], [(3, .box [.sl 0, .sl 1] 42)], [(0, .sl rR1 g_.Diffs), (1, .sl (rP (rI .i64) (rI .i64)) g_.Equals), (2, .sl rR5 l_)], 4⟩ htt 4 (by kernel_rfl) (WPr.nil (?_)))))))))
  refine WP.cut (σ := Unit) (fun st => ⟨[(1, .c (.sl 2)), (2, .c (.bp 3 0))], [(3, .box [.sl 0, .sl 1] 42)], [(0, .sl rR1 g_.Diffs), (1, .sl (rP (rI .i64) (rI .i64)) g_.Equals), (2, .sl rR5 l_)], 4⟩) (fun st => z42_k3 N g_ l_ = some r) ?_ (fun j1 => ?_)
  · intro _ h
    replace h : z42_k3 N g_ l_ = some r := h
    unfold z42_k3 at h
    refine WP.seq (WP.seq (WP.region (WPr.silx [] ⟨[(1, .c (.sl 2)), (55, .c (.sl 1)), (56, .c (.i .i64 (g_.Equals.length : Int))), (57, .c (.i .i64 (0 : Int)))], [], [(0, .sl rR1 g_.Diffs), (1, .sl (rP (rI .i64) (rI .i64)) g_.Equals), (2, .sl rR5 l_)], 4⟩ htt 4 (by kernel_rfl) (WPr.nil (?_)))))
    refine WP.cut (σ := Unit) (fun st => ⟨[], [], [(0, .sl rR1 g_.Diffs), (1, .sl (rP (rI .i64) (rI .i64)) g_.Equals), (2, .sl rR5 l_)], 4⟩) (fun st => z42_k1 = some r) ?_ (fun j12 => ?_)
    · intro _ h
      replace h : z42_k1 = some r := h
      unfold z42_k1 at h
      refine WP.seq (WP.region (WPr.sil htt 1 rfl (WPr.nil (?_))))
      cases h
      exact WP.ret htt Tryz.func42 [] rfl rfl rfl rfl
    refine WP.block (?_)
    refine WP.loopI (σ := Int) (fun st => ⟨[(1, .c (.sl 2)), (55, .c (.sl 1)), (56, .c (.i .i64 (g_.Equals.length : Int))), (57, .c (.i .i64 st))], [], [(0, .sl rR1 g_.Diffs), (1, .sl (rP (rI .i64) (rI .i64)) g_.Equals), (2, .sl rR5 l_)], 4⟩) (fun n st => z42_l2 g_ l_ n st) (r := r) (fun _ => rfl) ?_ (fun ih => ?_)
    · intro n9 ih14
      intro v57_14 h
      replace h : z42_l2 g_ l_ (n9 + 1) v57_14 = some r := h
      unfold z42_l2 at h
      refine WP.seq (WP.region (WPr.sil htt 1 rfl (WPr.nil (WP.seq (?_)))))
      rcases oc' h with ⟨hc, h⟩ | ⟨hc, h⟩
      · exact WP.condF hc rfl (WP.exit rfl (WP.sub [] (j12 () h) rfl rfl rfl rfl))
      refine WP.condT hc rfl (WP.skip (WP.seq (WP.block (WP.seq (WP.region (?_))))))
      obtain ⟨x773, hx773, h⟩ := ob h
      refine WPr.ix (oP (oI .i64) (oI .i64)) htt hx773 rfl rfl rfl rfl rfl rfl rfl rfl rfl (WPr.silx [] ⟨[(1, .c (.sl 2)), (11, .c (.bp 5 0)), (55, .c (.sl 1)), (56, .c (.i .i64 (g_.Equals.length : Int))), (57, .c (.i .i64 v57_14))], [(5, .box [.i .i64 x773.1, .i .i64 x773.2] 49)], [(0, .sl rR1 g_.Diffs), (1, .sl (rP (rI .i64) (rI .i64)) g_.Equals), (2, .sl rR5 l_)], 6⟩ htt 3 (by kernel_rfl) (WPr.nil (WP.seq (WP.nm (fun A9 tA9 fA9 => ?_)))))
      have st774 : A9 0 ⟨[(1, .c (.sl 2))], [(2, .sl rR5 l_)], [], [], 6, [(61, .c (.sl 2))], [], [], 6⟩ := tA9 _ _ (LS.sil htt rfl rfl rfl rfl rfl rfl)
      have st775 : A9 1 ⟨[(11, .c (.bp 5 0))], [], [], [(5, .box [.i .i64 x773.1, .i .i64 x773.2] 49)], 6, [(62, .c (.bp 5 0))], [], [], 6⟩ := tA9 _ _ (LS.of rfl rfl rfl (fun _ _ _ _ _ _ _ k => WPr.axb (len := 2) (el := 3) (es := 1) 0 rfl rfl rfl rfl rfl (by kernel_rfl) (by kernel_rfl) rfl rfl rfl rfl (k)) rfl)
      have st776 : A9 2 ⟨[(62, .c (.bp 5 0))], [], [], [(5, .box [.i .i64 x773.1, .i .i64 x773.2] 49)], 6, [(63, .c (.i .i64 x773.1))], [], [], 6⟩ := tA9 _ _ (LS.sil htt rfl rfl rfl rfl rfl rfl)
      obtain ⟨x777, hx777, h⟩ := ob h
      have st778 : A9 3 ⟨[(61, .c (.sl 2)), (63, .c (.i .i64 x773.1))], [(2, .sl rR5 l_)], [], [], 6, [(64, .c (.px 6 0))], [(6, .pl [.i .i64 x777.Kind, .i .i64 x777.N, .s x777.S])], [], 7⟩ := tA9 _ _ (LS.of rfl rfl rfl (fun _ _ _ _ _ _ _ k => WPr.ix oO5 htt hx777 rfl rfl rfl rfl rfl rfl rfl rfl rfl (k)) rfl)
      have st779 : A9 4 ⟨[(64, .c (.px 6 0))], [(6, .pl [.i .i64 x777.Kind, .i .i64 x777.N, .s x777.S])], [], [], 7, [(65, .c (.px 6 0))], [], [], 7⟩ := tA9 _ _ (LS.sil htt rfl rfl rfl rfl rfl rfl)
      have st780 : A9 5 ⟨[(65, .c (.px 6 0))], [(6, .pl [.i .i64 x777.Kind, .i .i64 x777.N, .s x777.S])], [], [], 7, [(66, .c (.i .i64 x777.Kind))], [], [], 7⟩ := tA9 _ _ (LS.sil htt rfl rfl rfl rfl rfl rfl)
      have st781 : A9 6 ⟨[(66, .c (.i .i64 x777.Kind))], [], [], [], 7, [(67, .c (.b (x777.Kind == (0 : Int))))], [], [], 7⟩ := tA9 _ _ (LS.sil htt rfl rfl rfl rfl rfl rfl)
      have st782 : A9 7 ⟨[(67, .c (.b (x777.Kind == (0 : Int))))], [], [], [], 7, [(68, .c (.b (x777.Kind == (0 : Int))))], [], [], 7⟩ := tA9 _ _ (LS.sil htt rfl rfl rfl rfl rfl rfl)
      rcases oc h with ⟨hc, h⟩ | ⟨hc, h⟩
      · have st783 := tA9 _ _ (LS.kb hc rfl (fA9 _ _ st782))
        have st784 : A9 8 ⟨[(68, .c (.b true))], [], [], [], 7, [(69, .u)], [], [], 7⟩ := tA9 _ _ (LS.skip rfl rfl rfl (.inr ⟨_, rfl, rfl⟩) rfl rfl)
        have st785 : A9 9 ⟨[(68, .c (.b true))], [], [], [], 7, [(70, .u)], [], [], 7⟩ := tA9 _ _ (LS.skip rfl rfl rfl (.inr ⟨_, rfl, rfl⟩) rfl rfl)
        have st786 : A9 10 ⟨[(68, .c (.b true))], [], [], [], 7, [(71, .u)], [], [], 7⟩ := tA9 _ _ (LS.skip rfl rfl rfl (.inr ⟨_, rfl, rfl⟩) rfl rfl)
        have st787 : A9 11 ⟨[(68, .c (.b true))], [], [], [], 7, [(72, .u)], [], [], 7⟩ := tA9 _ _ (LS.skip rfl rfl rfl (.inr ⟨_, rfl, rfl⟩) rfl rfl)
        have st788 : A9 12 ⟨[(68, .c (.b true))], [], [], [], 7, [(73, .u)], [], [], 7⟩ := tA9 _ _ (LS.skip rfl rfl rfl (.inr ⟨_, rfl, rfl⟩) rfl rfl)
        have st789 : A9 13 ⟨[(68, .c (.b true))], [], [], [], 7, [(74, .u)], [], [], 7⟩ := tA9 _ _ (LS.skip rfl rfl rfl (.inr ⟨_, rfl, rfl⟩) rfl rfl)
        have st790 : A9 14 ⟨[(68, .c (.b true))], [], [], [], 7, [(75, .u)], [], [], 7⟩ := tA9 _ _ (LS.skip rfl rfl rfl (.inr ⟨_, rfl, rfl⟩) rfl rfl)
        have st791 : A9 15 ⟨[(68, .c (.b true)), (75, .u)], [], [], [], 7, [(76, .c (.b true))], [], [], 7⟩ := tA9 _ _ (LS.sil htt rfl rfl rfl rfl rfl rfl)
        have st792 : A9 16 ⟨[(76, .c (.b true))], [], [], [], 7, [(77, .c (.b true))], [], [], 7⟩ := tA9 _ _ (LS.sil htt rfl rfl rfl rfl rfl rfl)
        have st793 : A9 17 ⟨[(77, .c (.b true))], [], [], [], 7, [(78, .u)], [], [], 7⟩ := tA9 _ _ (LS.skip rfl rfl rfl (.inr ⟨_, rfl, rfl⟩) rfl rfl)
        have st794 : A9 18 ⟨[(77, .c (.b true))], [], [], [], 7, [(79, .u)], [], [], 7⟩ := tA9 _ _ (LS.skip rfl rfl rfl (.inr ⟨_, rfl, rfl⟩) rfl rfl)
        have st795 : A9 19 ⟨[(77, .c (.b true))], [], [], [], 7, [(80, .u)], [], [], 7⟩ := tA9 _ _ (LS.skip rfl rfl rfl (.inr ⟨_, rfl, rfl⟩) rfl rfl)
        have st796 : A9 20 ⟨[(77, .c (.b true))], [], [], [], 7, [(81, .u)], [], [], 7⟩ := tA9 _ _ (LS.skip rfl rfl rfl (.inr ⟨_, rfl, rfl⟩) rfl rfl)
        have st797 : A9 21 ⟨[(77, .c (.b true))], [], [], [], 7, [(82, .u)], [], [], 7⟩ := tA9 _ _ (LS.skip rfl rfl rfl (.inr ⟨_, rfl, rfl⟩) rfl rfl)
        have st798 : A9 22 ⟨[(77, .c (.b true))], [], [], [], 7, [(83, .u)], [], [], 7⟩ := tA9 _ _ (LS.skip rfl rfl rfl (.inr ⟨_, rfl, rfl⟩) rfl rfl)
        have st799 : A9 23 ⟨[(77, .c (.b true))], [], [], [], 7, [(84, .u)], [], [], 7⟩ := tA9 _ _ (LS.skip rfl rfl rfl (.inr ⟨_, rfl, rfl⟩) rfl rfl)
        have st800 : A9 24 ⟨[(77, .c (.b true))], [], [], [], 7, [(85, .u)], [], [], 7⟩ := tA9 _ _ (LS.skip rfl rfl rfl (.inr ⟨_, rfl, rfl⟩) rfl rfl)
        have st801 : A9 25 ⟨[(77, .c (.b true))], [], [], [], 7, [(86, .u)], [], [], 7⟩ := tA9 _ _ (LS.skip rfl rfl rfl (.inr ⟨_, rfl, rfl⟩) rfl rfl)
        have st802 : A9 26 ⟨[(77, .c (.b true))], [], [], [], 7, [(87, .u)], [], [], 7⟩ := tA9 _ _ (LS.skip rfl rfl rfl (.inr ⟨_, rfl, rfl⟩) rfl rfl)
        have st803 : A9 27 ⟨[(77, .c (.b true))], [], [], [], 7, [(88, .u)], [], [], 7⟩ := tA9 _ _ (LS.skip rfl rfl rfl (.inr ⟨_, rfl, rfl⟩) rfl rfl)
        have st804 : A9 28 ⟨[(77, .c (.b true))], [], [], [], 7, [(89, .u)], [], [], 7⟩ := tA9 _ _ (LS.skip rfl rfl rfl (.inr ⟨_, rfl, rfl⟩) rfl rfl)
        have st805 : A9 29 ⟨[(77, .c (.b true))], [], [], [], 7, [(90, .u)], [], [], 7⟩ := tA9 _ _ (LS.skip rfl rfl rfl (.inr ⟨_, rfl, rfl⟩) rfl rfl)
        have st806 : A9 30 ⟨[(77, .c (.b true)), (90, .u)], [], [], [], 7, [(91, .c (.b true))], [], [], 7⟩ := tA9 _ _ (LS.sil htt rfl rfl rfl rfl rfl rfl)
        refine WP.regionD (t := ⟨[(1, .c (.sl 2)), (55, .c (.sl 1)), (56, .c (.i .i64 (g_.Equals.length : Int))), (57, .c (.i .i64 v57_14)), (91, .c (.b true))], [], [(0, .sl rR1 g_.Diffs), (1, .sl (rP (rI .i64) (rI .i64)) g_.Equals), (2, .sl rR5 l_)], 7⟩) [0, 0, 2, 7, 15, 31, 63, 127, 255, 255, 767, 2047, 4095, 8191, 16383, 32767, 65535, 131071, 131071, 393215, 1048575, 2097151, 4194303, 131071, 131071, 16908287, 58851327, 125960191, 260177919, 536870911, 1073741823] (.cons (fA9 _ _ st774) (.cons (fA9 _ _ st775) (.cons (fA9 _ _ st776) (.cons (fA9 _ _ st778) (.cons (fA9 _ _ st779) (.cons (fA9 _ _ st780) (.cons (fA9 _ _ st781) (.cons (fA9 _ _ st783) (.cons (fA9 _ _ st784) (.cons (fA9 _ _ st785) (.cons (fA9 _ _ st786) (.cons (fA9 _ _ st787) (.cons (fA9 _ _ st788) (.cons (fA9 _ _ st789) (.cons (fA9 _ _ st790) (.cons (fA9 _ _ st791) (.cons (fA9 _ _ st792) (.cons (fA9 _ _ st793) (.cons (fA9 _ _ st794) (.cons (fA9 _ _ st795) (.cons (fA9 _ _ st796) (.cons (fA9 _ _ st797) (.cons (fA9 _ _ st798) (.cons (fA9 _ _ st799) (.cons (fA9 _ _ st800) (.cons (fA9 _ _ st801) (.cons (fA9 _ _ st802) (.cons (fA9 _ _ st803) (.cons (fA9 _ _ st804) (.cons (fA9 _ _ st805) (.cons (fA9 _ _ st806) .nil))))))))))))))))))))))))))))))) (by kernel_rfl) (by kernel_rfl) (by kernel_rfl) (by kernel_rfl) (WP.condT rfl rfl (WP.seq (WP.region (WPr.sil htt 1 rfl (WPr.nil (?_))))))
        cases h
        exact WP.ret htt Tryz.func42 [] rfl rfl rfl rfl
      have st807 := tA9 _ _ (LS.kb hc rfl (fA9 _ _ st782))
      have st808 : A9 8 ⟨[(1, .c (.sl 2)), (68, .c (.b false))], [(2, .sl rR5 l_)], [], [], 7, [(69, .c (.sl 2))], [], [], 7⟩ := tA9 _ _ (LS.sil htt rfl rfl rfl rfl rfl rfl)
      have st809 : A9 9 ⟨[(11, .c (.bp 5 0)), (68, .c (.b false))], [], [], [(5, .box [.i .i64 x773.1, .i .i64 x773.2] 49)], 7, [(70, .c (.bp 5 1))], [], [], 7⟩ := tA9 _ _ (LS.of rfl rfl rfl (fun _ _ _ _ _ _ _ k => WPr.axb (len := 2) (el := 3) (es := 1) 1 rfl rfl rfl rfl rfl (by kernel_rfl) (by kernel_rfl) rfl rfl rfl rfl (k)) rfl)
      have st810 : A9 10 ⟨[(68, .c (.b false)), (70, .c (.bp 5 1))], [], [], [(5, .box [.i .i64 x773.1, .i .i64 x773.2] 49)], 7, [(71, .c (.i .i64 x773.2))], [], [], 7⟩ := tA9 _ _ (LS.sil htt rfl rfl rfl rfl rfl rfl)
      obtain ⟨x811, hx811, h⟩ := ob h
      have st812 : A9 11 ⟨[(68, .c (.b false)), (69, .c (.sl 2)), (71, .c (.i .i64 x773.2))], [(2, .sl rR5 l_)], [], [], 7, [(72, .c (.px 7 0))], [(7, .pl [.i .i64 x811.Kind, .i .i64 x811.N, .s x811.S])], [], 8⟩ := tA9 _ _ (LS.of rfl rfl rfl (fun _ _ _ _ _ _ _ k => WPr.ix oO5 htt hx811 rfl rfl rfl rfl rfl rfl rfl rfl rfl (k)) rfl)
      have st813 : A9 12 ⟨[(68, .c (.b false)), (72, .c (.px 7 0))], [(7, .pl [.i .i64 x811.Kind, .i .i64 x811.N, .s x811.S])], [], [], 8, [(73, .c (.px 7 0))], [], [], 8⟩ := tA9 _ _ (LS.sil htt rfl rfl rfl rfl rfl rfl)
      have st814 : A9 13 ⟨[(68, .c (.b false)), (73, .c (.px 7 0))], [(7, .pl [.i .i64 x811.Kind, .i .i64 x811.N, .s x811.S])], [], [], 8, [(74, .c (.i .i64 x811.Kind))], [], [], 8⟩ := tA9 _ _ (LS.sil htt rfl rfl rfl rfl rfl rfl)
      have st815 : A9 14 ⟨[(68, .c (.b false)), (74, .c (.i .i64 x811.Kind))], [], [], [], 8, [(75, .c (.b (x811.Kind == (0 : Int))))], [], [], 8⟩ := tA9 _ _ (LS.sil htt rfl rfl rfl rfl rfl rfl)
      have st816 : A9 15 ⟨[(68, .c (.b false)), (75, .c (.b (x811.Kind == (0 : Int))))], [], [], [], 8, [(76, .c (.b (x811.Kind == (0 : Int))))], [], [], 8⟩ := tA9 _ _ (LS.sil htt rfl rfl rfl rfl rfl rfl)
      have st817 : A9 16 ⟨[(76, .c (.b (x811.Kind == (0 : Int))))], [], [], [], 8, [(77, .c (.b (x811.Kind == (0 : Int))))], [], [], 8⟩ := tA9 _ _ (LS.sil htt rfl rfl rfl rfl rfl rfl)
      rcases oc h with ⟨hc, h⟩ | ⟨hc, h⟩
      · have st818 := tA9 _ _ (LS.kb hc rfl (fA9 _ _ st817))
        have st819 : A9 17 ⟨[(77, .c (.b true))], [], [], [], 8, [(78, .u)], [], [], 8⟩ := tA9 _ _ (LS.skip rfl rfl rfl (.inr ⟨_, rfl, rfl⟩) rfl rfl)
        have st820 : A9 18 ⟨[(77, .c (.b true))], [], [], [], 8, [(79, .u)], [], [], 8⟩ := tA9 _ _ (LS.skip rfl rfl rfl (.inr ⟨_, rfl, rfl⟩) rfl rfl)
        have st821 : A9 19 ⟨[(77, .c (.b true))], [], [], [], 8, [(80, .u)], [], [], 8⟩ := tA9 _ _ (LS.skip rfl rfl rfl (.inr ⟨_, rfl, rfl⟩) rfl rfl)
        have st822 : A9 20 ⟨[(77, .c (.b true))], [], [], [], 8, [(81, .u)], [], [], 8⟩ := tA9 _ _ (LS.skip rfl rfl rfl (.inr ⟨_, rfl, rfl⟩) rfl rfl)
        have st823 : A9 21 ⟨[(77, .c (.b true))], [], [], [], 8, [(82, .u)], [], [], 8⟩ := tA9 _ _ (LS.skip rfl rfl rfl (.inr ⟨_, rfl, rfl⟩) rfl rfl)
        have st824 : A9 22 ⟨[(77, .c (.b true))], [], [], [], 8, [(83, .u)], [], [], 8⟩ := tA9 _ _ (LS.skip rfl rfl rfl (.inr ⟨_, rfl, rfl⟩) rfl rfl)
        have st825 : A9 23 ⟨[(77, .c (.b true))], [], [], [], 8, [(84, .u)], [], [], 8⟩ := tA9 _ _ (LS.skip rfl rfl rfl (.inr ⟨_, rfl, rfl⟩) rfl rfl)
        have st826 : A9 24 ⟨[(77, .c (.b true))], [], [], [], 8, [(85, .u)], [], [], 8⟩ := tA9 _ _ (LS.skip rfl rfl rfl (.inr ⟨_, rfl, rfl⟩) rfl rfl)
        have st827 : A9 25 ⟨[(77, .c (.b true))], [], [], [], 8, [(86, .u)], [], [], 8⟩ := tA9 _ _ (LS.skip rfl rfl rfl (.inr ⟨_, rfl, rfl⟩) rfl rfl)
        have st828 : A9 26 ⟨[(77, .c (.b true))], [], [], [], 8, [(87, .u)], [], [], 8⟩ := tA9 _ _ (LS.skip rfl rfl rfl (.inr ⟨_, rfl, rfl⟩) rfl rfl)
        have st829 : A9 27 ⟨[(77, .c (.b true))], [], [], [], 8, [(88, .u)], [], [], 8⟩ := tA9 _ _ (LS.skip rfl rfl rfl (.inr ⟨_, rfl, rfl⟩) rfl rfl)
        have st830 : A9 28 ⟨[(77, .c (.b true))], [], [], [], 8, [(89, .u)], [], [], 8⟩ := tA9 _ _ (LS.skip rfl rfl rfl (.inr ⟨_, rfl, rfl⟩) rfl rfl)
        have st831 : A9 29 ⟨[(77, .c (.b true))], [], [], [], 8, [(90, .u)], [], [], 8⟩ := tA9 _ _ (LS.skip rfl rfl rfl (.inr ⟨_, rfl, rfl⟩) rfl rfl)
        have st832 : A9 30 ⟨[(77, .c (.b true)), (90, .u)], [], [], [], 8, [(91, .c (.b true))], [], [], 8⟩ := tA9 _ _ (LS.sil htt rfl rfl rfl rfl rfl rfl)
        refine WP.regionD (t := ⟨[(1, .c (.sl 2)), (55, .c (.sl 1)), (56, .c (.i .i64 (g_.Equals.length : Int))), (57, .c (.i .i64 v57_14)), (91, .c (.b true))], [], [(0, .sl rR1 g_.Diffs), (1, .sl (rP (rI .i64) (rI .i64)) g_.Equals), (2, .sl rR5 l_)], 8⟩) [0, 0, 2, 7, 15, 31, 63, 127, 255, 255, 767, 2047, 4095, 8191, 16383, 32767, 65535, 131071, 131071, 393215, 1048575, 2097151, 4194303, 131071, 131071, 16908287, 58851327, 125960191, 260177919, 536870911, 1073741823] (.cons (fA9 _ _ st774) (.cons (fA9 _ _ st775) (.cons (fA9 _ _ st776) (.cons (fA9 _ _ st778) (.cons (fA9 _ _ st779) (.cons (fA9 _ _ st780) (.cons (fA9 _ _ st781) (.cons (fA9 _ _ st807) (.cons (fA9 _ _ st808) (.cons (fA9 _ _ st809) (.cons (fA9 _ _ st810) (.cons (fA9 _ _ st812) (.cons (fA9 _ _ st813) (.cons (fA9 _ _ st814) (.cons (fA9 _ _ st815) (.cons (fA9 _ _ st816) (.cons (fA9 _ _ st818) (.cons (fA9 _ _ st819) (.cons (fA9 _ _ st820) (.cons (fA9 _ _ st821) (.cons (fA9 _ _ st822) (.cons (fA9 _ _ st823) (.cons (fA9 _ _ st824) (.cons (fA9 _ _ st825) (.cons (fA9 _ _ st826) (.cons (fA9 _ _ st827) (.cons (fA9 _ _ st828) (.cons (fA9 _ _ st829) (.cons (fA9 _ _ st830) (.cons (fA9 _ _ st831) (.cons (fA9 _ _ st832) .nil))))))))))))))))))))))))))))))) (by kernel_rfl) (by kernel_rfl) (by kernel_rfl) (by kernel_rfl) (WP.condT rfl rfl (WP.seq (WP.region (WPr.sil htt 1 rfl (WPr.nil (?_))))))
        cases h
        exact WP.ret htt Tryz.func42 [] rfl rfl rfl rfl
      have st833 := tA9 _ _ (LS.kb hc rfl (fA9 _ _ st817))
      have st834 : A9 17 ⟨[(1, .c (.sl 2)), (77, .c (.b false))], [(2, .sl rR5 l_)], [], [], 8, [(78, .c (.sl 2))], [], [], 8⟩ := tA9 _ _ (LS.sil htt rfl rfl rfl rfl rfl rfl)
      have st835 : A9 18 ⟨[(11, .c (.bp 5 0)), (77, .c (.b false))], [], [], [(5, .box [.i .i64 x773.1, .i .i64 x773.2] 49)], 8, [(79, .c (.bp 5 0))], [], [], 8⟩ := tA9 _ _ (LS.of rfl rfl rfl (fun _ _ _ _ _ _ _ k => WPr.axb (len := 2) (el := 3) (es := 1) 0 rfl rfl rfl rfl rfl (by kernel_rfl) (by kernel_rfl) rfl rfl rfl rfl (k)) rfl)
      have st836 : A9 19 ⟨[(77, .c (.b false)), (79, .c (.bp 5 0))], [], [], [(5, .box [.i .i64 x773.1, .i .i64 x773.2] 49)], 8, [(80, .c (.i .i64 x773.1))], [], [], 8⟩ := tA9 _ _ (LS.sil htt rfl rfl rfl rfl rfl rfl)
      obtain ⟨x837, hx837, h⟩ := ob h
      have st838 : A9 20 ⟨[(77, .c (.b false)), (78, .c (.sl 2)), (80, .c (.i .i64 x773.1))], [(2, .sl rR5 l_)], [], [], 8, [(81, .c (.px 8 0))], [(8, .pl [.i .i64 x837.Kind, .i .i64 x837.N, .s x837.S])], [], 9⟩ := tA9 _ _ (LS.of rfl rfl rfl (fun _ _ _ _ _ _ _ k => WPr.ix oO5 htt hx837 rfl rfl rfl rfl rfl rfl rfl rfl rfl (k)) rfl)
      have st839 : A9 21 ⟨[(77, .c (.b false)), (81, .c (.px 8 0))], [(8, .pl [.i .i64 x837.Kind, .i .i64 x837.N, .s x837.S])], [], [], 9, [(82, .c (.px 8 2))], [], [], 9⟩ := tA9 _ _ (LS.sil htt rfl rfl rfl rfl rfl rfl)
      have st840 : A9 22 ⟨[(77, .c (.b false)), (82, .c (.px 8 2))], [(8, .pl [.i .i64 x837.Kind, .i .i64 x837.N, .s x837.S])], [], [], 9, [(83, .c (.s x837.S))], [], [], 9⟩ := tA9 _ _ (LS.sil htt rfl rfl rfl rfl rfl rfl)
      have st841 : A9 23 ⟨[(1, .c (.sl 2)), (77, .c (.b false))], [(2, .sl rR5 l_)], [], [], 9, [(84, .c (.sl 2))], [], [], 9⟩ := tA9 _ _ (LS.sil htt rfl rfl rfl rfl rfl rfl)
      have st842 : A9 24 ⟨[(11, .c (.bp 5 0)), (77, .c (.b false))], [], [], [(5, .box [.i .i64 x773.1, .i .i64 x773.2] 49)], 9, [(85, .c (.bp 5 1))], [], [], 9⟩ := tA9 _ _ (LS.of rfl rfl rfl (fun _ _ _ _ _ _ _ k => WPr.axb (len := 2) (el := 3) (es := 1) 1 rfl rfl rfl rfl rfl (by kernel_rfl) (by kernel_rfl) rfl rfl rfl rfl (k)) rfl)
      have st843 : A9 25 ⟨[(77, .c (.b false)), (85, .c (.bp 5 1))], [], [], [(5, .box [.i .i64 x773.1, .i .i64 x773.2] 49)], 9, [(86, .c (.i .i64 x773.2))], [], [], 9⟩ := tA9 _ _ (LS.sil htt rfl rfl rfl rfl rfl rfl)
      obtain ⟨x844, hx844, h⟩ := ob h
      have st845 : A9 26 ⟨[(77, .c (.b false)), (84, .c (.sl 2)), (86, .c (.i .i64 x773.2))], [(2, .sl rR5 l_)], [], [], 9, [(87, .c (.px 9 0))], [(9, .pl [.i .i64 x844.Kind, .i .i64 x844.N, .s x844.S])], [], 10⟩ := tA9 _ _ (LS.of rfl rfl rfl (fun _ _ _ _ _ _ _ k => WPr.ix oO5 htt hx844 rfl rfl rfl rfl rfl rfl rfl rfl rfl (k)) rfl)
      have st846 : A9 27 ⟨[(77, .c (.b false)), (87, .c (.px 9 0))], [(9, .pl [.i .i64 x844.Kind, .i .i64 x844.N, .s x844.S])], [], [], 10, [(88, .c (.px 9 2))], [], [], 10⟩ := tA9 _ _ (LS.sil htt rfl rfl rfl rfl rfl rfl)
      have st847 : A9 28 ⟨[(77, .c (.b false)), (88, .c (.px 9 2))], [(9, .pl [.i .i64 x844.Kind, .i .i64 x844.N, .s x844.S])], [], [], 10, [(89, .c (.s x844.S))], [], [], 10⟩ := tA9 _ _ (LS.sil htt rfl rfl rfl rfl rfl rfl)
      have st848 : A9 29 ⟨[(77, .c (.b false)), (83, .c (.s x837.S)), (89, .c (.s x844.S))], [], [], [], 10, [(90, .c (.b (!(x837.S.toList == x844.S.toList))))], [], [], 10⟩ := tA9 _ _ (LS.sil htt rfl rfl rfl rfl rfl rfl)
      have st849 : A9 30 ⟨[(77, .c (.b false)), (90, .c (.b (!(x837.S.toList == x844.S.toList))))], [], [], [], 10, [(91, .c (.b (!(x837.S.toList == x844.S.toList))))], [], [], 10⟩ := tA9 _ _ (LS.sil htt rfl rfl rfl rfl rfl rfl)
      refine WP.regionD (t := ⟨[(1, .c (.sl 2)), (55, .c (.sl 1)), (56, .c (.i .i64 (g_.Equals.length : Int))), (57, .c (.i .i64 v57_14)), (91, .c (.b (!(x837.S.toList == x844.S.toList))))], [], [(0, .sl rR1 g_.Diffs), (1, .sl (rP (rI .i64) (rI .i64)) g_.Equals), (2, .sl rR5 l_)], 10⟩) [0, 0, 2, 7, 15, 31, 63, 127, 255, 255, 767, 2047, 4095, 8191, 16383, 32767, 65535, 131071, 131071, 393215, 1048575, 2097151, 4194303, 131071, 131071, 16908287, 58851327, 125960191, 260177919, 536870911, 1073741823] (.cons (fA9 _ _ st774) (.cons (fA9 _ _ st775) (.cons (fA9 _ _ st776) (.cons (fA9 _ _ st778) (.cons (fA9 _ _ st779) (.cons (fA9 _ _ st780) (.cons (fA9 _ _ st781) (.cons (fA9 _ _ st807) (.cons (fA9 _ _ st808) (.cons (fA9 _ _ st809) (.cons (fA9 _ _ st810) (.cons (fA9 _ _ st812) (.cons (fA9 _ _ st813) (.cons (fA9 _ _ st814) (.cons (fA9 _ _ st815) (.cons (fA9 _ _ st816) (.cons (fA9 _ _ st833) (.cons (fA9 _ _ st834) (.cons (fA9 _ _ st835) (.cons (fA9 _ _ st836) (.cons (fA9 _ _ st838) (.cons (fA9 _ _ st839) (.cons (fA9 _ _ st840) (.cons (fA9 _ _ st841) (.cons (fA9 _ _ st842) (.cons (fA9 _ _ st843) (.cons (fA9 _ _ st845) (.cons (fA9 _ _ st846) (.cons (fA9 _ _ st847) (.cons (fA9 _ _ st848) (.cons (fA9 _ _ st849) .nil))))))))))))))))))))))))))))))) (by kernel_rfl) (by kernel_rfl) (by kernel_rfl) (by kernel_rfl) (?_)
      rcases oc h with ⟨hc, h⟩ | ⟨hc, h⟩
      · refine WP.condT hc rfl (WP.seq (WP.region (WPr.sil htt 1 rfl (WPr.nil (?_)))))
        cases h
        exact WP.ret htt Tryz.func42 [] rfl rfl rfl rfl
      exact WP.condF hc rfl (WP.skip (WP.inBlock (WP.region (WPr.sil htt 2 rfl (WPr.nil (WP.sub [] (ih14 (w64 (v57_14 + (1 : Int))) h) rfl rfl rfl rfl))))))
    exact WP.sub [] (ih N (0 : Int) h) rfl rfl rfl rfl
  refine WP.block (?_)
  refine WP.loopI (σ := Int) (fun st => ⟨[(1, .c (.sl 2)), (2, .c (.bp 3 0)), (13, .c (.sl 0)), (14, .c (.i .i64 (g_.Diffs.length : Int))), (15, .c (.i .i64 st))], [(3, .box [.sl 0, .sl 1] 42)], [(0, .sl rR1 g_.Diffs), (1, .sl (rP (rI .i64) (rI .i64)) g_.Equals), (2, .sl rR5 l_)], 4⟩) (fun n st => z42_l4 N g_ l_ n st) (r := r) (fun _ => rfl) ?_ (fun ih => ?_)
  · intro n14 ih15
    intro v15_15 h
    replace h : z42_l4 N g_ l_ (n14 + 1) v15_15 = some r := h
    unfold z42_l4 at h
    refine WP.seq (WP.region (WPr.sil htt 1 rfl (WPr.nil (WP.seq (?_)))))
    rcases oc' h with ⟨hc, h⟩ | ⟨hc, h⟩
    · exact WP.condF hc rfl (WP.exit rfl (WP.sub [] (j1 () h) rfl rfl rfl rfl))
    refine WP.condT hc rfl (WP.skip (WP.seq (WP.block (WP.seq (WP.region (?_))))))
    obtain ⟨x1010, hx1010, h⟩ := ob h
    refine WPr.ix oO1 htt hx1010 rfl rfl rfl rfl rfl rfl rfl rfl rfl (WPr.silx [] ⟨[(1, .c (.sl 2)), (2, .c (.bp 3 0)), (6, .c (.bp 5 0)), (13, .c (.sl 0)), (14, .c (.i .i64 (g_.Diffs.length : Int))), (15, .c (.i .i64 v15_15))], [(3, .box [.sl 0, .sl 1] 42), (5, .box [.i .i64 x1010.X, .i .i64 x1010.Y, .i .i64 x1010.C] 48)], [(0, .sl rR1 g_.Diffs), (1, .sl (rP (rI .i64) (rI .i64)) g_.Equals), (2, .sl rR5 l_)], 6⟩ htt 3 (by kernel_rfl) (WPr.nil (WP.seq (WP.region (WPr.silx [] ⟨[(1, .c (.sl 2)), (2, .c (.bp 3 0)), (6, .c (.bp 5 0)), (7, .c (.bp 6 0)), (13, .c (.sl 0)), (14, .c (.i .i64 (g_.Diffs.length : Int))), (15, .c (.i .i64 v15_15))], [(3, .box [.sl 0, .sl 1] 42), (5, .box [.i .i64 x1010.X, .i .i64 x1010.Y, .i .i64 x1010.C] 48), (6, .box [.i .i64 (0 : Int), .i .i64 (0 : Int)] 49)], [(0, .sl rR1 g_.Diffs), (1, .sl (rP (rI .i64) (rI .i64)) g_.Equals), (2, .sl rR5 l_)], 7⟩ htt 3 (by kernel_rfl) (WPr.nil (WP.seq (WP.seq (WP.region (WPr.silx [] ⟨[(1, .c (.sl 2)), (2, .c (.bp 3 0)), (6, .c (.bp 5 0)), (7, .c (.bp 6 0)), (13, .c (.sl 0)), (14, .c (.i .i64 (g_.Diffs.length : Int))), (15, .c (.i .i64 v15_15)), (24, .a [.i .i64 x1010.X, .i .i64 x1010.Y]), (25, .c (.i .i64 (0 : Int)))], [(3, .box [.sl 0, .sl 1] 42), (5, .box [.i .i64 x1010.X, .i .i64 x1010.Y, .i .i64 x1010.C] 48), (6, .box [.i .i64 (0 : Int), .i .i64 (0 : Int)] 49)], [(0, .sl rR1 g_.Diffs), (1, .sl (rP (rI .i64) (rI .i64)) g_.Equals), (2, .sl rR5 l_)], 7⟩ htt 6 (by kernel_rfl) (WPr.nil (?_))))))))))))
    refine WP.cut (σ := Int × Int) (fun st => ⟨[(1, .c (.sl 2)), (2, .c (.bp 3 0)), (6, .c (.bp 5 0)), (7, .c (.bp 6 0)), (13, .c (.sl 0)), (14, .c (.i .i64 (g_.Diffs.length : Int))), (15, .c (.i .i64 v15_15))], [(3, .box [.sl 0, .sl 1] 42), (5, .box [.i .i64 x1010.X, .i .i64 x1010.Y, .i .i64 x1010.C] 48), (6, .box [.i .i64 st.1, .i .i64 st.2] 49)], [(0, .sl rR1 g_.Diffs), (1, .sl (rP (rI .i64) (rI .i64)) g_.Equals), (2, .sl rR5 l_)], 7⟩) (fun st => z42_k5 v15_15 (z42_l4 N g_ l_ n14) x1010 st.1 st.2 = some r) ?_ (fun j22 => ?_)
    · rintro ⟨vb7_6_0_22, vb7_6_1_22⟩ h
      replace h : z42_k5 v15_15 (z42_l4 N g_ l_ n14) x1010 vb7_6_0_22 vb7_6_1_22 = some r := h
      unfold z42_k5 at h
      refine WP.seq (WP.region (WPr.axb (len := 2) (el := 3) (es := 1) 0 rfl rfl rfl rfl rfl (by kernel_rfl) (by kernel_rfl) rfl rfl rfl rfl (WPr.sil htt 1 rfl (WPr.axb (len := 2) (el := 3) (es := 1) 1 rfl rfl rfl rfl rfl (by kernel_rfl) (by kernel_rfl) rfl rfl rfl rfl (WPr.silx [] ⟨[(1, .c (.sl 2)), (2, .c (.bp 3 0)), (13, .c (.sl 0)), (14, .c (.i .i64 (g_.Diffs.length : Int))), (15, .c (.i .i64 v15_15)), (52, .c (.b (decide ((w64 (vb7_6_0_22 - vb7_6_1_22)) > x1010.C))))], [(3, .box [.sl 0, .sl 1] 42)], [(0, .sl rR1 g_.Diffs), (1, .sl (rP (rI .i64) (rI .i64)) g_.Equals), (2, .sl rR5 l_)], 7⟩ htt 5 (by kernel_rfl) (WPr.nil (?_)))))))
      rcases oc h with ⟨hc, h⟩ | ⟨hc, h⟩
      · refine WP.condT hc rfl (WP.seq (WP.region (WPr.sil htt 1 rfl (WPr.nil (?_)))))
        cases h
        exact WP.ret htt Tryz.func42 [] rfl rfl rfl rfl
      exact WP.condF hc rfl (WP.skip (WP.inBlock (WP.region (WPr.sil htt 2 rfl (WPr.nil (WP.sub [] (ih15 (w64 (v15_15 + (1 : Int))) h) rfl rfl rfl rfl))))))
    refine WP.block (?_)
    refine WP.loopI (σ := Int × Int × Int) (fun st => ⟨[(1, .c (.sl 2)), (2, .c (.bp 3 0)), (6, .c (.bp 5 0)), (7, .c (.bp 6 0)), (13, .c (.sl 0)), (14, .c (.i .i64 (g_.Diffs.length : Int))), (15, .c (.i .i64 v15_15)), (24, .a [.i .i64 x1010.X, .i .i64 x1010.Y]), (25, .c (.i .i64 st.2.2))], [(3, .box [.sl 0, .sl 1] 42), (5, .box [.i .i64 x1010.X, .i .i64 x1010.Y, .i .i64 x1010.C] 48), (6, .box [.i .i64 st.1, .i .i64 st.2.1] 49)], [(0, .sl rR1 g_.Diffs), (1, .sl (rP (rI .i64) (rI .i64)) g_.Equals), (2, .sl rR5 l_)], 7⟩) (fun n st => z42_l6 N l_ v15_15 (z42_l4 N g_ l_ n14) x1010 n st.1 st.2.1 st.2.2) (r := r) (fun _ => rfl) ?_ (fun ih => ?_)
    · intro n16 ih24
      rintro ⟨vb7_6_0_24, vb7_6_1_24, v25_24⟩ h
      replace h : z42_l6 N l_ v15_15 (z42_l4 N g_ l_ n14) x1010 (n16 + 1) vb7_6_0_24 vb7_6_1_24 v25_24 = some r := h
      unfold z42_l6 at h
      refine WP.seq (WP.region (WPr.sil htt 1 rfl (WPr.nil (WP.seq (?_)))))
      rcases oc' h with ⟨hc, h⟩ | ⟨hc, h⟩
      · exact WP.condF hc rfl (WP.exit rfl (WP.sub [] (j22 (vb7_6_0_24, vb7_6_1_24) h) rfl rfl rfl rfl))
      refine WP.condT hc rfl (WP.skip (WP.seq (WP.block (WP.seq (WP.region (WPr.sil htt 1 rfl (?_)))))))
      obtain ⟨x1049, hx1049, h⟩ := ob h
      refine WPr.ax (len := 2) (el := 3) (SC.i .i64) ([x1010.X, x1010.Y] : List Int) hx1049 rfl rfl rfl rfl (by kernel_rfl) (by kernel_rfl) (by kernel_rfl) (by kernel_rfl) rfl rfl rfl rfl (WPr.silx [] ⟨[(1, .c (.sl 2)), (2, .c (.bp 3 0)), (6, .c (.bp 5 0)), (7, .c (.bp 6 0)), (8, .c (.i .i64 v25_24)), (9, .c (.i .i64 x1049)), (13, .c (.sl 0)), (14, .c (.i .i64 (g_.Diffs.length : Int))), (15, .c (.i .i64 v15_15)), (24, .a [.i .i64 x1010.X, .i .i64 x1010.Y]), (25, .c (.i .i64 v25_24))], [(3, .box [.sl 0, .sl 1] 42), (5, .box [.i .i64 x1010.X, .i .i64 x1010.Y, .i .i64 x1010.C] 48), (6, .box [.i .i64 vb7_6_0_24, .i .i64 vb7_6_1_24] 49)], [(0, .sl rR1 g_.Diffs), (1, .sl (rP (rI .i64) (rI .i64)) g_.Equals), (2, .sl rR5 l_)], 7⟩ htt 2 (by kernel_rfl) (WPr.nil (WP.seq (WP.seq (WP.region (WPr.sil htt 2 rfl (WPr.nil (?_))))))))
      rcases oc h with ⟨hc, h⟩ | ⟨hc, h⟩
      · exact WP.condT hc rfl (WP.exit rfl (WP.region (WPr.silx [] ⟨[(1, .c (.sl 2)), (2, .c (.bp 3 0)), (6, .c (.bp 5 0)), (7, .c (.bp 6 0)), (13, .c (.sl 0)), (14, .c (.i .i64 (g_.Diffs.length : Int))), (15, .c (.i .i64 v15_15)), (24, .a [.i .i64 x1010.X, .i .i64 x1010.Y]), (25, .c (.i .i64 (w64 (v25_24 + (1 : Int)))))], [(3, .box [.sl 0, .sl 1] 42), (5, .box [.i .i64 x1010.X, .i .i64 x1010.Y, .i .i64 x1010.C] 48), (6, .box [.i .i64 vb7_6_0_24, .i .i64 vb7_6_1_24] 49)], [(0, .sl rR1 g_.Diffs), (1, .sl (rP (rI .i64) (rI .i64)) g_.Equals), (2, .sl rR5 l_)], 7⟩ htt 2 (by kernel_rfl) (WPr.nil (WP.sub [] (ih24 (vb7_6_0_24, vb7_6_1_24, (w64 (v25_24 + (1 : Int)))) h) rfl rfl rfl rfl)))))
      refine WP.condF hc rfl (WP.skip (WP.seq (WP.seq (WP.region (WPr.silx [2, 3, 4, 5] ⟨[(1, .c (.sl 2)), (2, .c (.bp 3 0)), (6, .c (.bp 5 0)), (7, .c (.bp 6 0)), (8, .c (.i .i64 v25_24)), (9, .c (.i .i64 x1049)), (13, .c (.sl 0)), (14, .c (.i .i64 (g_.Diffs.length : Int))), (15, .c (.i .i64 v15_15)), (24, .a [.i .i64 x1010.X, .i .i64 x1010.Y]), (25, .c (.i .i64 v25_24)), (31, .c (.sl 2)), (32, .c (.i .i64 x1049))], [(3, .box [.sl 0, .sl 1] 42), (5, .box [.i .i64 x1010.X, .i .i64 x1010.Y, .i .i64 x1010.C] 48), (6, .box [.i .i64 vb7_6_0_24, .i .i64 vb7_6_1_24] 49)], [(0, .sl rR1 g_.Diffs), (1, .sl (rP (rI .i64) (rI .i64)) g_.Equals), (2, .sl rR5 l_)], 7⟩ htt 2 (by kernel_rfl) (?_))))))
      obtain ⟨x1050, hx1050, h⟩ := ob h
      refine WPr.ix oO5 htt hx1050 rfl rfl rfl rfl rfl rfl rfl rfl rfl (WPr.silx [] ⟨[(1, .c (.sl 2)), (2, .c (.bp 3 0)), (6, .c (.bp 5 0)), (7, .c (.bp 6 0)), (8, .c (.i .i64 v25_24)), (9, .c (.i .i64 x1049)), (13, .c (.sl 0)), (14, .c (.i .i64 (g_.Diffs.length : Int))), (15, .c (.i .i64 v15_15)), (24, .a [.i .i64 x1010.X, .i .i64 x1010.Y]), (25, .c (.i .i64 v25_24)), (36, .c (.b (x1050.Kind == (0 : Int))))], [(3, .box [.sl 0, .sl 1] 42), (5, .box [.i .i64 x1010.X, .i .i64 x1010.Y, .i .i64 x1010.C] 48), (6, .box [.i .i64 vb7_6_0_24, .i .i64 vb7_6_1_24] 49)], [(0, .sl rR1 g_.Diffs), (1, .sl (rP (rI .i64) (rI .i64)) g_.Equals), (2, .sl rR5 l_)], 8⟩ htt 3 (by kernel_rfl) (WPr.nil (?_)))
      rcases oc h with ⟨hc, h⟩ | ⟨hc, h⟩
      · refine WP.condT hc rfl (WP.seq (WP.region (WPr.sil htt 1 rfl (WPr.nil (?_)))))
        cases h
        exact WP.ret htt Tryz.func42 [] rfl rfl rfl rfl
      refine WP.condF hc rfl (WP.skip (WP.region (WPr.silx [3, 4, 5, 6, 7] ⟨[(1, .c (.sl 2)), (2, .c (.bp 3 0)), (6, .c (.bp 5 0)), (7, .c (.bp 6 0)), (13, .c (.sl 0)), (14, .c (.i .i64 (g_.Diffs.length : Int))), (15, .c (.i .i64 v15_15)), (24, .a [.i .i64 x1010.X, .i .i64 x1010.Y]), (25, .c (.i .i64 v25_24)), (37, .c (.i .i64 v25_24)), (38, .c (.sl 2)), (39, .c (.i .i64 x1049))], [(3, .box [.sl 0, .sl 1] 42), (5, .box [.i .i64 x1010.X, .i .i64 x1010.Y, .i .i64 x1010.C] 48), (6, .box [.i .i64 vb7_6_0_24, .i .i64 vb7_6_1_24] 49)], [(0, .sl rR1 g_.Diffs), (1, .sl (rP (rI .i64) (rI .i64)) g_.Equals), (2, .sl rR5 l_)], 8⟩ htt 3 (by kernel_rfl) (?_))))
      obtain ⟨x1051, hx1051, h⟩ := ob h
      refine WPr.ix oO5 htt hx1051 rfl rfl rfl rfl rfl rfl rfl rfl rfl (WPr.sil htt 1 rfl (?_))
      obtain ⟨x1052, hx1052, h⟩ := ob h
      refine WPr.call (z36_ct N x1051 _ hx1052) [] [] rfl rfl rfl rfl rfl rfl rfl rfl (.inl rfl) rfl (WPr.silx [6, 7] ⟨[(1, .c (.sl 2)), (2, .c (.bp 3 0)), (6, .c (.bp 5 0)), (7, .c (.bp 6 0)), (13, .c (.sl 0)), (14, .c (.i .i64 (g_.Diffs.length : Int))), (15, .c (.i .i64 v15_15)), (24, .a [.i .i64 x1010.X, .i .i64 x1010.Y]), (25, .c (.i .i64 v25_24)), (37, .c (.i .i64 v25_24)), (42, .c (.i .i64 x1052))], [(3, .box [.sl 0, .sl 1] 42), (5, .box [.i .i64 x1010.X, .i .i64 x1010.Y, .i .i64 x1010.C] 48), (6, .box [.i .i64 vb7_6_0_24, .i .i64 vb7_6_1_24] 49)], [(0, .sl rR1 g_.Diffs), (1, .sl (rP (rI .i64) (rI .i64)) g_.Equals), (2, .sl rR5 l_)], 9⟩ htt 0 (by kernel_rfl) (?_))
      rcases oc h with ⟨hc, h⟩ | ⟨hc, h⟩
      · exact WPr.axb (len := 2) (el := 3) (es := 1) 0 (by exact eq_of_beq hc) rfl rfl rfl rfl (by kernel_rfl) (by kernel_rfl) rfl rfl rfl rfl (WPr.sil htt 1 rfl (WPr.nil (WP.inBlock (WP.region (WPr.silx [] ⟨[(1, .c (.sl 2)), (2, .c (.bp 3 0)), (6, .c (.bp 5 0)), (7, .c (.bp 6 0)), (13, .c (.sl 0)), (14, .c (.i .i64 (g_.Diffs.length : Int))), (15, .c (.i .i64 v15_15)), (24, .a [.i .i64 x1010.X, .i .i64 x1010.Y]), (25, .c (.i .i64 (w64 (v25_24 + (1 : Int)))))], [(3, .box [.sl 0, .sl 1] 42), (5, .box [.i .i64 x1010.X, .i .i64 x1010.Y, .i .i64 x1010.C] 48), (6, .box [.i .i64 x1052, .i .i64 vb7_6_1_24] 49)], [(0, .sl rR1 g_.Diffs), (1, .sl (rP (rI .i64) (rI .i64)) g_.Equals), (2, .sl rR5 l_)], 9⟩ htt 2 (by kernel_rfl) (WPr.nil (WP.sub [] (ih24 (x1052, vb7_6_1_24, (w64 (v25_24 + (1 : Int)))) h) rfl rfl rfl rfl)))))))
      rcases oc h with ⟨hc, h⟩ | ⟨hc, h⟩
      · exact WPr.axb (len := 2) (el := 3) (es := 1) 1 (by exact eq_of_beq hc) rfl rfl rfl rfl (by kernel_rfl) (by kernel_rfl) rfl rfl rfl rfl (WPr.sil htt 1 rfl (WPr.nil (WP.inBlock (WP.region (WPr.silx [] ⟨[(1, .c (.sl 2)), (2, .c (.bp 3 0)), (6, .c (.bp 5 0)), (7, .c (.bp 6 0)), (13, .c (.sl 0)), (14, .c (.i .i64 (g_.Diffs.length : Int))), (15, .c (.i .i64 v15_15)), (24, .a [.i .i64 x1010.X, .i .i64 x1010.Y]), (25, .c (.i .i64 (w64 (v25_24 + (1 : Int)))))], [(3, .box [.sl 0, .sl 1] 42), (5, .box [.i .i64 x1010.X, .i .i64 x1010.Y, .i .i64 x1010.C] 48), (6, .box [.i .i64 vb7_6_0_24, .i .i64 x1052] 49)], [(0, .sl rR1 g_.Diffs), (1, .sl (rP (rI .i64) (rI .i64)) g_.Equals), (2, .sl rR5 l_)], 9⟩ htt 2 (by kernel_rfl) (WPr.nil (WP.sub [] (ih24 (vb7_6_0_24, x1052, (w64 (v25_24 + (1 : Int)))) h) rfl rfl rfl rfl)))))))
      cases h
    exact WP.sub [] (ih N ((0 : Int), (0 : Int), (0 : Int)) h) rfl rfl rfl rfl
  exact WP.sub [] (ih N (0 : Int) h) rfl rfl rfl rfl
theorem z43_ct (N : Nat) (l_ : (List T2)) (values_ : (List T5)) (r : Bool) (h : z43 N l_ values_ = some r) :
  Fn Tryz.prog 43 ⟨2, [.c (.sl 0), .c (.sl 1)], [(0, .sl rR2 l_), (1, .sl rR5 values_)], [], 2, .c (.b r), [], []⟩ := by
  refine Fn.intro _ _ Tryz.func43 rfl (by kernel_rfl) rfl (fun E F w => ?_)
  unfold z43 at h
  refine WP.seq (WP.region (WPr.sil htt 1 rfl (WPr.nil (WP.seq (WP.seq (WP.region (WPr.silx [] ⟨[(0, .c (.sl 0)), (1, .c (.sl 1)), (4, .c (.b false)), (11, .c (.b ((l_.length : Int) != (values_.length : Int))))], [], [(0, .sl rR2 l_), (1, .sl rR5 values_)], 2⟩ htt 5 (by kernel_rfl) (WPr.nil (?_)))))))))
  rcases oc h with ⟨hc, h⟩ | ⟨hc, h⟩
  · refine WP.condT hc rfl (WP.seq (WP.region (WPr.sil htt 1 rfl (WPr.nil (?_)))))
    cases h
    exact WP.ret htt Tryz.func43 [] rfl rfl rfl rfl
  refine WP.condF hc rfl (WP.skip (WP.seq (WP.seq (WP.region (WPr.silx [] ⟨[(1, .c (.sl 1)), (4, .c (.b false)), (12, .c (.sl 0)), (13, .c (.i .i64 (l_.length : Int))), (14, .c (.i .i64 (0 : Int)))], [], [(0, .sl rR2 l_), (1, .sl rR5 values_)], 2⟩ htt 3 (by kernel_rfl) (WPr.nil (?_)))))))
  refine WP.cut (σ := Unit) (fun st => ⟨[], [], [(0, .sl rR2 l_), (1, .sl rR5 values_)], 2⟩) (fun st => z43_k1 = some r) ?_ (fun j1 => ?_)
  · intro _ h
    replace h : z43_k1 = some r := h
    unfold z43_k1 at h
    refine WP.seq (WP.region (WPr.sil htt 1 rfl (WPr.nil (?_))))
    cases h
    exact WP.ret htt Tryz.func43 [] rfl rfl rfl rfl
  refine WP.block (?_)
  refine WP.loopI (σ := Int) (fun st => ⟨[(1, .c (.sl 1)), (12, .c (.sl 0)), (13, .c (.i .i64 (l_.length : Int))), (14, .c (.i .i64 st))], [], [(0, .sl rR2 l_), (1, .sl rR5 values_)], 2⟩) (fun n st => z43_l2 N l_ values_ n st) (r := r) (fun _ => rfl) ?_ (fun ih => ?_)
  · intro n2 ih3
    intro v14_3 h
    replace h : z43_l2 N l_ values_ (n2 + 1) v14_3 = some r := h
    unfold z43_l2 at h
    refine WP.seq (WP.region (WPr.sil htt 1 rfl (WPr.nil (WP.seq (?_)))))
    rcases oc' h with ⟨hc, h⟩ | ⟨hc, h⟩
    · exact WP.condF hc rfl (WP.exit rfl (WP.sub [] (j1 () h) rfl rfl rfl rfl))
    refine WP.condT hc rfl (WP.skip (WP.seq (WP.block (WP.seq (WP.region (WPr.sil htt 1 rfl (?_)))))))
    obtain ⟨x41, hx41, h⟩ := ob h
    refine WPr.ix oO2 htt hx41 rfl rfl rfl rfl rfl rfl rfl rfl rfl (WPr.silx [] ⟨[(1, .c (.sl 1)), (5, .c (.i .i64 v14_3)), (6, .c (.bp 3 0)), (12, .c (.sl 0)), (13, .c (.i .i64 (l_.length : Int))), (14, .c (.i .i64 v14_3))], [(3, .box [.s x41.Name, .i .i64 x41.Sort'.Kind, .i .i64 x41.Sort'.Lo, .i .i64 x41.Sort'.Hi] 89)], [(0, .sl rR2 l_), (1, .sl rR5 values_)], 4⟩ htt 4 (by kernel_rfl) (WPr.nil (WP.seq (WP.regionQ (by kernel_rfl) (by kernel_rfl) (WPq.silx [4, 5, 6, 7] ⟨[(1, .c (.sl 1)), (12, .c (.sl 0)), (13, .c (.i .i64 (l_.length : Int))), (14, .c (.i .i64 v14_3)), (20, .a [.i .i64 x41.Sort'.Kind, .i .i64 x41.Sort'.Lo, .i .i64 x41.Sort'.Hi]), (21, .c (.sl 1)), (22, .c (.i .i64 v14_3))], [], [(0, .sl rR2 l_), (1, .sl rR5 values_)], 4⟩ htt 4 (by kernel_rfl) (?_))))))
    obtain ⟨x44, hx44, h⟩ := ob h
    refine WPq.op rfl rfl (VN.vs (VN.ix oO5 htt hx44 rfl rfl rfl rfl rfl rfl rfl)) (WPq.sil htt 1 rfl (?_))
    obtain ⟨x45, hx45, h⟩ := ob h
    refine WPq.call (z80_ct N x41.Sort' x44 _ hx45) [] [] rfl rfl rfl rfl rfl rfl rfl rfl rfl rfl rfl rfl (WPq.silx [] ⟨[(1, .c (.sl 1)), (12, .c (.sl 0)), (13, .c (.i .i64 (l_.length : Int))), (14, .c (.i .i64 v14_3)), (26, .c (.b (!x45)))], [], [(0, .sl rR2 l_), (1, .sl rR5 values_)], 5⟩ htt 1 (by kernel_rfl) (WPq.nil (?_)))
    rcases oc h with ⟨hc, h⟩ | ⟨hc, h⟩
    · refine WP.condT hc rfl (WP.seq (WP.region (WPr.sil htt 1 rfl (WPr.nil (?_)))))
      cases h
      exact WP.ret htt Tryz.func43 [] rfl rfl rfl rfl
    exact WP.condF hc rfl (WP.skip (WP.inBlock (WP.region (WPr.sil htt 2 rfl (WPr.nil (WP.sub [] (ih3 (w64 (v14_3 + (1 : Int))) h) rfl rfl rfl rfl))))))
  exact WP.sub [] (ih N (0 : Int) h) rfl rfl rfl rfl
theorem z13_ct (N : Nat) (decls_ : (List T0)) (label_ : Int) (known_ : (List T5)) (r : (List T5) × Bool) (h : z13 N decls_ label_ known_ = some r) :
  Fn Tryz.prog 13 ⟨2, [.c (.sl 0), .c (.i .i64 label_), .c (.sl 1)], [(0, .sl rR0 decls_), (1, .sl rR5 known_)], [], 3, .t [.inl (.sl 2), .inl (.b r.2)], [], [(2, .own rR5 r.1 true)]⟩ := by
  refine Fn.intro _ _ Tryz.func13 rfl (by kernel_rfl) rfl (fun E F w => ?_)
  unfold z13 at h
  refine WP.seq (WP.region (WPr.sil htt 2 rfl (WPr.nil (WP.seq (WP.seq (WP.region (WPr.silx [3, 4] ⟨[(0, .c (.sl 0)), (1, .c (.i .i64 label_)), (2, .c (.sl 1)), (6, .c .nil), (7, .c (.b false)), (24, .c (.sl 0)), (25, .c (.i .i64 label_)), (26, .c (.sl 1))], [], [(0, .sl rR0 decls_), (1, .sl rR5 known_)], 2⟩ htt 3 (by kernel_rfl) (?_))))))))
  obtain ⟨x1, hx1, h⟩ := ob h
  refine WPr.call (z33_ct N decls_ label_ known_ _ hx1) [(0, .sl 0), (1, .sl 1)] [] rfl rfl rfl rfl rfl rfl rfl rfl (.inl rfl) rfl (WPr.silx [] ⟨[(0, .c (.sl 0)), (1, .c (.i .i64 label_)), (2, .c (.sl 1)), (6, .c .nil), (7, .c (.b false)), (28, .c (.b (!x1)))], [], [(0, .sl rR0 decls_), (1, .sl rR5 known_)], 2⟩ htt 1 (by kernel_rfl) (WPr.nil (?_)))
  rcases oc h with ⟨hc, h⟩ | ⟨hc, h⟩
  · refine WP.condT hc rfl (WP.seq (WP.region (WPr.sil htt 2 rfl (WPr.nil (?_)))))
    cases h
    exact WP.ret htt Tryz.func13 [(2, .nil)] rfl rfl rfl rfl
  refine WP.condF hc rfl (WP.skip (WP.seq (WP.region (WPr.sil htt 2 rfl (?_)))))
  obtain ⟨x2, hx2, h⟩ := ob h
  refine WPr.ix oO0 htt hx2 rfl rfl rfl rfl rfl rfl rfl rfl rfl (WPr.silx [] ⟨[(2, .c (.sl 1)), (6, .c .nil), (7, .c (.b false)), (8, .c (.bp 6 0))], [(6, .box [.s x2.Name, .sl 3, .i .i64 x2.First, .sl 4, .sl 5] 44)], [(0, .sl rR0 decls_), (1, .sl rR5 known_), (3, .sl rR2 x2.Fields), (4, .sl rR1 x2.Guard.Diffs), (5, .sl (rP (rI .i64) (rI .i64)) x2.Guard.Equals)], 7⟩ htt 3 (by kernel_rfl) (WPr.nil (WP.seq (WP.region (WPr.silx [] ⟨[(2, .c (.sl 1)), (6, .c .nil), (7, .c (.b false)), (8, .c (.bp 6 0)), (9, .c (.i .i64 (x2.Fields.length : Int)))], [(6, .box [.s x2.Name, .sl 3, .i .i64 x2.First, .sl 4, .sl 5] 44)], [(0, .sl rR0 decls_), (1, .sl rR5 known_), (3, .sl rR2 x2.Fields), (4, .sl rR1 x2.Guard.Diffs), (5, .sl (rP (rI .i64) (rI .i64)) x2.Guard.Equals)], 7⟩ htt 4 (by kernel_rfl) (WPr.nil (WP.seq (WP.region (WPr.sil htt 1 rfl (?_))))))))))
  obtain ⟨x3, hx3, h⟩ := ob h
  refine WPr.call (z34_ct N (x2.Fields.length : Int) _ hx3) [] [] rfl rfl rfl rfl rfl rfl rfl rfl (.inl rfl) rfl (WPr.silx [] ⟨[(2, .c (.sl 1)), (6, .c .nil), (7, .c (.b false)), (8, .c (.bp 6 0)), (9, .c (.i .i64 (x2.Fields.length : Int))), (10, .c (.bp 8 0))], [(6, .box [.s x2.Name, .sl 3, .i .i64 x2.First, .sl 4, .sl 5] 44), (8, .box [.i .i64 x3.1.N, .sl 7] 78)], [(0, .sl rR0 decls_), (1, .sl rR5 known_), (3, .sl rR2 x2.Fields), (4, .sl rR1 x2.Guard.Diffs), (5, .sl (rP (rI .i64) (rI .i64)) x2.Guard.Equals), (7, .sl (rI .i64) x3.1.B)], 9⟩ htt 6 (by kernel_rfl) (WPr.nil (WP.seq (WP.seq (WP.region (WPr.sil htt 1 rfl (?_)))))))
  obtain ⟨x4, hx4, h⟩ := ob h
  refine WPr.call (z35_ct N x2 _ hx4) [(0, .sl 3), (1, .sl 4), (2, .sl 5)] [] rfl rfl rfl rfl rfl rfl rfl rfl (.inl rfl) rfl (WPr.silx [] ⟨[(2, .c (.sl 1)), (6, .c .nil), (7, .c (.b false)), (8, .c (.bp 6 0)), (9, .c (.i .i64 (x2.Fields.length : Int))), (10, .c (.bp 8 0)), (42, .c (.sl 9)), (43, .c (.i .i64 (x4.length : Int))), (44, .c (.i .i64 (0 : Int)))], [(6, .box [.s x2.Name, .sl 3, .i .i64 x2.First, .sl 4, .sl 5] 44), (8, .box [.i .i64 x3.1.N, .sl 7] 78), (9, .own rR1 x4 true)], [(0, .sl rR0 decls_), (1, .sl rR5 known_), (3, .sl rR2 x2.Fields), (4, .sl rR1 x2.Guard.Diffs), (5, .sl (rP (rI .i64) (rI .i64)) x2.Guard.Equals), (7, .sl (rI .i64) x3.1.B)], 10⟩ htt 2 (by kernel_rfl) (WPr.nil (?_)))
  refine WP.cut (σ := Int × (List Int)) (fun st => ⟨[(2, .c (.sl 1)), (8, .c (.bp 6 0)), (9, .c (.i .i64 (x2.Fields.length : Int))), (10, .c (.bp 8 0))], [(6, .box [.s x2.Name, .sl 3, .i .i64 x2.First, .sl 4, .sl 5] 44), (8, .box [.i .i64 st.1, .sl 10] 78)], [(0, .sl rR0 decls_), (1, .sl rR5 known_), (3, .sl rR2 x2.Fields), (4, .sl rR1 x2.Guard.Diffs), (5, .sl (rP (rI .i64) (rI .i64)) x2.Guard.Equals), (10, .sl (rI .i64) st.2)], 11⟩) (fun st => z13_k3 N known_ x2 st.1 st.2 = some r) ?_ (fun j1 => ?_)
  · rintro ⟨vb10_8_0_1, vb10_8_1_1⟩ h
    replace h : z13_k3 N known_ x2 vb10_8_0_1 vb10_8_1_1 = some r := h
    unfold z13_k3 at h
    refine WP.seq (WP.region (WPr.sil htt 1 rfl (?_)))
    obtain ⟨x245, hx245, h⟩ := ob h
    refine WPr.call (z38_ct N (⟨vb10_8_0_1, vb10_8_1_1⟩ : T7) _ hx245) [(0, .sl 10)] [] rfl rfl rfl rfl rfl rfl rfl rfl (.inl rfl) rfl (WPr.silx [] ⟨[(2, .c (.sl 1)), (8, .c (.bp 6 0)), (9, .c (.i .i64 (x2.Fields.length : Int))), (18, .c (.sl 11)), (19, .c (.b x245.2))], [(6, .box [.s x2.Name, .sl 3, .i .i64 x2.First, .sl 4, .sl 5] 44), (11, .own (rI .i64) x245.1 true)], [(0, .sl rR0 decls_), (1, .sl rR5 known_), (3, .sl rR2 x2.Fields), (4, .sl rR1 x2.Guard.Diffs), (5, .sl (rP (rI .i64) (rI .i64)) x2.Guard.Equals)], 12⟩ htt 5 (by kernel_rfl) (WPr.nil (WP.seq (WP.seq (WP.region (WPr.sil htt 2 rfl (WPr.nil (?_))))))))
    rcases oc h with ⟨hc, h⟩ | ⟨hc, h⟩
    · refine WP.condT hc rfl (WP.seq (WP.region (WPr.silx [] ⟨[(6, .c .nil), (7, .c (.b false))], [], [(0, .sl rR0 decls_), (1, .sl rR5 known_)], 12⟩ htt 2 (by kernel_rfl) (WPr.nil (?_)))))
      cases h
      exact WP.ret htt Tryz.func13 [(2, .nil)] rfl rfl rfl rfl
    refine WP.condF hc rfl (WP.skip (WP.seq (WP.region (WPr.silx [1, 2] ⟨[(2, .c (.sl 1)), (8, .c (.bp 6 0)), (9, .c (.i .i64 (x2.Fields.length : Int))), (18, .c (.sl 11)), (126, .c (.i .i64 (x2.Fields.length : Int)))], [(6, .box [.s x2.Name, .sl 3, .i .i64 x2.First, .sl 4, .sl 5] 44), (11, .own (rI .i64) x245.1 true)], [(0, .sl rR0 decls_), (1, .sl rR5 known_), (3, .sl rR2 x2.Fields), (4, .sl rR1 x2.Guard.Diffs), (5, .sl (rP (rI .i64) (rI .i64)) x2.Guard.Equals)], 12⟩ htt 1 (by kernel_rfl) (?_)))))
    obtain ⟨x246, hx246, h⟩ := ob h
    refine WPr.mk oO5 htt (⟨(0 : Int), (0 : Int), (str [])⟩ : T5) hx246 rfl rfl rfl rfl rfl rfl rfl rfl (by exact an (an rfl (an rfl rfl)) rfl) rfl (WPr.sil htt 1 rfl (WPr.nil (WP.seq (WP.seq (WP.region (WPr.silx [] ⟨[(2, .c (.sl 1)), (8, .c (.bp 6 0)), (9, .c (.i .i64 (x2.Fields.length : Int))), (18, .c (.sl 11)), (20, .c (.sl 12)), (129, .c (.sl 3)), (130, .c (.i .i64 (x2.Fields.length : Int))), (131, .c (.i .i64 (0 : Int)))], [(6, .box [.s x2.Name, .sl 3, .i .i64 x2.First, .sl 4, .sl 5] 44), (11, .own (rI .i64) x245.1 true), (12, .own rR5 x246 true)], [(0, .sl rR0 decls_), (1, .sl rR5 known_), (3, .sl rR2 x2.Fields), (4, .sl rR1 x2.Guard.Diffs), (5, .sl (rP (rI .i64) (rI .i64)) x2.Guard.Equals)], 13⟩ htt 4 (by kernel_rfl) (WPr.nil (?_))))))))
    refine WP.cut (σ := (List T5)) (fun st => ⟨[(2, .c (.sl 1)), (8, .c (.bp 6 0)), (9, .c (.i .i64 (x2.Fields.length : Int))), (20, .c (.sl 12))], [(6, .box [.s x2.Name, .sl 3, .i .i64 x2.First, .sl 4, .sl 5] 44), (12, .own rR5 st true)], [(0, .sl rR0 decls_), (1, .sl rR5 known_), (3, .sl rR2 x2.Fields), (4, .sl rR1 x2.Guard.Diffs), (5, .sl (rP (rI .i64) (rI .i64)) x2.Guard.Equals)], 13⟩) (fun st => z13_k1 N known_ x2 st = some r) ?_ (fun j36 => ?_)
    · intro v20_36 h
      replace h : z13_k1 N known_ x2 v20_36 = some r := h
      unfold z13_k1 at h
      refine WP.seq (WP.region (WPr.silx [3, 4] ⟨[(8, .c (.bp 6 0)), (9, .c (.i .i64 (x2.Fields.length : Int))), (20, .c (.sl 12)), (161, .a [.s x2.Name, .sl 3, .i .i64 x2.First, .sl 4, .sl 5]), (162, .c (.sl 12)), (163, .c (.sl 1))], [(6, .box [.s x2.Name, .sl 3, .i .i64 x2.First, .sl 4, .sl 5] 44), (12, .own rR5 v20_36 true)], [(0, .sl rR0 decls_), (1, .sl rR5 known_), (3, .sl rR2 x2.Fields), (4, .sl rR1 x2.Guard.Diffs), (5, .sl (rP (rI .i64) (rI .i64)) x2.Guard.Equals)], 13⟩ htt 3 (by kernel_rfl) (?_)))
      obtain ⟨x319, hx319, h⟩ := ob h
      refine WPr.call (z40_ct N x2 v20_36 known_ _ hx319) [(0, .sl 3), (1, .sl 4), (2, .sl 5), (3, .sl 12), (4, .sl 1)] [12] rfl rfl rfl rfl rfl rfl rfl rfl (.inr ⟨rfl, ⟨(rM_flat (rP_flat (rI_flat _) (rP_flat (rI_flat _) rS_flat))), trivial⟩⟩) rfl (WPr.silx [] ⟨[(8, .c (.bp 6 0)), (9, .c (.i .i64 (x2.Fields.length : Int))), (20, .c (.sl 12)), (23, .c (.sl 13))], [(6, .box [.s x2.Name, .sl 3, .i .i64 x2.First, .sl 4, .sl 5] 44), (12, .own rR5 v20_36 true), (13, .own rR5 x319 true)], [(0, .sl rR0 decls_), (1, .sl rR5 known_), (3, .sl rR2 x2.Fields), (4, .sl rR1 x2.Guard.Diffs), (5, .sl (rP (rI .i64) (rI .i64)) x2.Guard.Equals)], 14⟩ htt 1 (by kernel_rfl) (WPr.nil (WP.seq (WP.region (WPr.sil htt 2 rfl (?_))))))
      obtain ⟨x320, hx320, h⟩ := ob h
      refine WPr.call (z41_ct N x2 x319 _ hx320) [(0, .sl 3), (1, .sl 4), (2, .sl 5), (3, .sl 13)] [] rfl rfl rfl rfl rfl rfl rfl rfl (.inl rfl) rfl (WPr.silx [] ⟨[(8, .c (.bp 6 0)), (9, .c (.i .i64 (x2.Fields.length : Int))), (20, .c (.sl 12)), (23, .c (.sl 13))], [(6, .box [.s x2.Name, .sl 3, .i .i64 x2.First, .sl 4, .sl 5] 44), (12, .own rR5 v20_36 true), (13, .own rR5 x320 true)], [(0, .sl rR0 decls_), (1, .sl rR5 known_), (3, .sl rR2 x2.Fields), (4, .sl rR1 x2.Guard.Diffs), (5, .sl (rP (rI .i64) (rI .i64)) x2.Guard.Equals)], 14⟩ htt 0 (by kernel_rfl) (WPr.nil (WP.seq (WP.region (WPr.silx [8, 9] ⟨[(8, .c (.bp 6 0)), (20, .c (.sl 12)), (23, .c (.sl 13)), (168, .c (.sl 12)), (169, .c (.sl 13)), (171, .c (.i .i64 x2.First)), (175, .c (.i .i64 (w64 (x2.First + (x2.Fields.length : Int)))))], [(6, .box [.s x2.Name, .sl 3, .i .i64 x2.First, .sl 4, .sl 5] 44), (12, .own rR5 v20_36 true), (13, .own rR5 x320 true)], [(0, .sl rR0 decls_), (1, .sl rR5 known_), (3, .sl rR2 x2.Fields), (4, .sl rR1 x2.Guard.Diffs), (5, .sl (rP (rI .i64) (rI .i64)) x2.Guard.Equals)], 14⟩ htt 8 (by kernel_rfl) (?_))))))
      obtain ⟨x321, hx321, h⟩ := ob h
      refine WPr.vw htt (l := some (.i64, x2.First)) (h := some (.i64, (w64 (x2.First + (x2.Fields.length : Int))))) hx321 rfl rfl rfl rfl rfl rfl rfl rfl rfl rfl (?_)
      obtain ⟨x322, hx322, h⟩ := ob h
      refine WPr.cp htt hx322 (by exact (srcV hx321 rfl rfl)) rfl rfl rfl rfl rfl (Or.inr ⟨rfl, rfl, rfl⟩) rfl rfl rfl rfl (WPr.silx [] ⟨[(8, .c (.bp 6 0)), (20, .c (.sl 12)), (23, .c (.sl 13))], [(6, .box [.s x2.Name, .sl 3, .i .i64 x2.First, .sl 4, .sl 5] 44), (12, .own rR5 x322.1 true), (13, .own rR5 x320 true)], [(0, .sl rR0 decls_), (1, .sl rR5 known_), (3, .sl rR2 x2.Fields), (4, .sl rR1 x2.Guard.Diffs), (5, .sl (rP (rI .i64) (rI .i64)) x2.Guard.Equals)], 15⟩ htt 0 (by kernel_rfl) (WPr.nil (WP.seq (WP.seq (WP.region (WPr.silx [3, 4, 5, 6, 7, 8, 9, 10, 11] ⟨[(8, .c (.bp 6 0)), (20, .c (.sl 12)), (179, .a [.sl 4, .sl 5]), (180, .c (.sl 13))], [(6, .box [.s x2.Name, .sl 3, .i .i64 x2.First, .sl 4, .sl 5] 44), (12, .own rR5 x322.1 true), (13, .own rR5 x320 true)], [(0, .sl rR0 decls_), (1, .sl rR5 known_), (3, .sl rR2 x2.Fields), (4, .sl rR1 x2.Guard.Diffs), (5, .sl (rP (rI .i64) (rI .i64)) x2.Guard.Equals)], 15⟩ htt 3 (by kernel_rfl) (?_)))))))
      obtain ⟨x323, hx323, h⟩ := ob h
      refine WPr.call (z42_ct N x2.Guard x320 _ hx323) [(0, .sl 4), (1, .sl 5), (2, .sl 13)] [13] rfl rfl rfl rfl rfl rfl rfl rfl (.inr ⟨rfl, trivial⟩) rfl (WPr.silx [6, 7, 8, 9, 10, 11] ⟨[(8, .c (.bp 6 0)), (20, .c (.sl 12)), (183, .c (.b (!x323)))], [(6, .box [.s x2.Name, .sl 3, .i .i64 x2.First, .sl 4, .sl 5] 44), (12, .own rR5 x322.1 true)], [(0, .sl rR0 decls_), (1, .sl rR5 known_), (3, .sl rR2 x2.Fields), (4, .sl rR1 x2.Guard.Diffs), (5, .sl (rP (rI .i64) (rI .i64)) x2.Guard.Equals)], 15⟩ htt 2 (by kernel_rfl) (?_))
      rcases oc h with ⟨hc, h⟩ | ⟨hc, h⟩
      · refine WPr.kb 183 hc rfl (WPr.silx [] ⟨[(20, .c (.sl 12)), (189, .c (.b true))], [(12, .own rR5 x322.1 true)], [(0, .sl rR0 decls_), (1, .sl rR5 known_)], 15⟩ htt 6 (by kernel_rfl) (WPr.nil (WP.condT rfl rfl (WP.seq (WP.region (WPr.sil htt 2 rfl (WPr.nil (?_))))))))
        cases h
        exact WP.ret htt Tryz.func13 [(2, .nil)] rfl rfl rfl rfl
      refine WPr.kb 183 hc rfl (WPr.silx [9, 10, 11] ⟨[(20, .c (.sl 12)), (183, .c (.b false)), (185, .c (.sl 3)), (186, .c (.sl 12))], [(12, .own rR5 x322.1 true)], [(0, .sl rR0 decls_), (1, .sl rR5 known_), (3, .sl rR2 x2.Fields)], 15⟩ htt 3 (by kernel_rfl) (?_))
      obtain ⟨x324, hx324, h⟩ := ob h
      refine WPr.call (z43_ct N x2.Fields x322.1 _ hx324) [(0, .sl 3), (1, .sl 12)] [12] rfl rfl rfl rfl rfl rfl rfl rfl (.inr ⟨rfl, trivial⟩) rfl (WPr.silx [] ⟨[(20, .c (.sl 12)), (189, .c (.b (!x324)))], [(12, .own rR5 x322.1 true)], [(0, .sl rR0 decls_), (1, .sl rR5 known_)], 15⟩ htt 2 (by kernel_rfl) (WPr.nil (?_)))
      rcases oc h with ⟨hc, h⟩ | ⟨hc, h⟩
      · refine WP.condT hc rfl (WP.seq (WP.region (WPr.sil htt 2 rfl (WPr.nil (?_)))))
        cases h
        exact WP.ret htt Tryz.func13 [(2, .nil)] rfl rfl rfl rfl
      refine WP.condF hc rfl (WP.skip (WP.seq (WP.region (WPr.silx [] ⟨[(6, .c (.sl 12)), (7, .c (.b true))], [(12, .own rR5 x322.1 true)], [(0, .sl rR0 decls_), (1, .sl rR5 known_)], 15⟩ htt 3 (by kernel_rfl) (WPr.nil (?_))))))
      cases h
      exact WP.ret htt Tryz.func13 [(2, .sl 12)] rfl rfl rfl rfl
    refine WP.block (?_)
    refine WP.loopI (σ := (List T5) × Int) (fun st => ⟨[(2, .c (.sl 1)), (8, .c (.bp 6 0)), (9, .c (.i .i64 (x2.Fields.length : Int))), (18, .c (.sl 11)), (20, .c (.sl 12)), (129, .c (.sl 3)), (130, .c (.i .i64 (x2.Fields.length : Int))), (131, .c (.i .i64 st.2))], [(6, .box [.s x2.Name, .sl 3, .i .i64 x2.First, .sl 4, .sl 5] 44), (11, .own (rI .i64) x245.1 true), (12, .own rR5 st.1 true)], [(0, .sl rR0 decls_), (1, .sl rR5 known_), (3, .sl rR2 x2.Fields), (4, .sl rR1 x2.Guard.Diffs), (5, .sl (rP (rI .i64) (rI .i64)) x2.Guard.Equals)], 13⟩) (fun n st => z13_l2 N known_ x2 x245 n st.1 st.2) (r := r) (fun _ => rfl) ?_ (fun ih => ?_)
    · intro n9 ih38
      rintro ⟨v20_38, v131_38⟩ h
      replace h : z13_l2 N known_ x2 x245 (n9 + 1) v20_38 v131_38 = some r := h
      unfold z13_l2 at h
      refine WP.seq (WP.region (WPr.sil htt 1 rfl (WPr.nil (WP.seq (?_)))))
      rcases oc' h with ⟨hc, h⟩ | ⟨hc, h⟩
      · exact WP.condF hc rfl (WP.exit rfl (WP.sub [] (j36 v20_38 h) rfl rfl rfl rfl))
      refine WP.condT hc rfl (WP.skip (WP.seq (WP.block (WP.seq (WP.region (WPr.sil htt 1 rfl (?_)))))))
      obtain ⟨x397, hx397, h⟩ := ob h
      refine WPr.ix oO2 htt hx397 rfl rfl rfl rfl rfl rfl rfl rfl rfl (WPr.silx [] ⟨[(2, .c (.sl 1)), (8, .c (.bp 6 0)), (9, .c (.i .i64 (x2.Fields.length : Int))), (18, .c (.sl 11)), (20, .c (.sl 12)), (21, .c (.i .i64 v131_38)), (22, .c (.bp 14 0)), (129, .c (.sl 3)), (130, .c (.i .i64 (x2.Fields.length : Int))), (131, .c (.i .i64 v131_38))], [(6, .box [.s x2.Name, .sl 3, .i .i64 x2.First, .sl 4, .sl 5] 44), (11, .own (rI .i64) x245.1 true), (12, .own rR5 v20_38 true), (14, .box [.s x397.Name, .i .i64 x397.Sort'.Kind, .i .i64 x397.Sort'.Lo, .i .i64 x397.Sort'.Hi] 89)], [(0, .sl rR0 decls_), (1, .sl rR5 known_), (3, .sl rR2 x2.Fields), (4, .sl rR1 x2.Guard.Diffs), (5, .sl (rP (rI .i64) (rI .i64)) x2.Guard.Equals)], 15⟩ htt 4 (by kernel_rfl) (WPr.nil (WP.seq (WP.nm (fun A9 tA9 fA9 => ?_)))))
      have st398 : A9 0 ⟨[(20, .c (.sl 12))], [], [], [], 15, [(136, .c (.sl 12))], [], [], 15⟩ := tA9 _ _ (LS.sil htt rfl rfl rfl rfl rfl rfl)
      have st399 : A9 1 ⟨[(21, .c (.i .i64 v131_38))], [], [], [], 15, [(137, .c (.i .i64 v131_38))], [], [], 15⟩ := tA9 _ _ (LS.sil htt rfl rfl rfl rfl rfl rfl)
      have st400 : A9 2 ⟨[(22, .c (.bp 14 0))], [], [], [], 15, [(138, .c (.bp 14 1))], [], [], 15⟩ := tA9 _ _ (LS.sil htt rfl rfl rfl rfl rfl rfl)
      have st401 : A9 3 ⟨[(138, .c (.bp 14 1))], [], [], [], 15, [(139, .c (.bp 14 1))], [], [], 15⟩ := tA9 _ _ (LS.sil htt rfl rfl rfl rfl rfl rfl)
      have st402 : A9 4 ⟨[(139, .c (.bp 14 1))], [], [], [(14, .box [.s x397.Name, .i .i64 x397.Sort'.Kind, .i .i64 x397.Sort'.Lo, .i .i64 x397.Sort'.Hi] 89)], 15, [(140, .c (.i .i64 x397.Sort'.Kind))], [], [], 15⟩ := tA9 _ _ (LS.sil htt rfl rfl rfl rfl rfl rfl)
      have st403 : A9 5 ⟨[(18, .c (.sl 11))], [], [], [], 15, [(141, .c (.sl 11))], [], [], 15⟩ := tA9 _ _ (LS.sil htt rfl rfl rfl rfl rfl rfl)
      have st404 : A9 6 ⟨[(21, .c (.i .i64 v131_38))], [], [], [], 15, [(142, .c (.i .i64 v131_38))], [], [], 15⟩ := tA9 _ _ (LS.sil htt rfl rfl rfl rfl rfl rfl)
      obtain ⟨x405, hx405, h⟩ := ob h
      have st406 : A9 7 ⟨[(141, .c (.sl 11)), (142, .c (.i .i64 v131_38))], [], [], [(11, .own (rI .i64) x245.1 true)], 15, [(143, .c (.px 15 0))], [(15, .el 11 ((v131_38).toNat * ((rI .i64)).sz))], [], 16⟩ := tA9 _ _ (LS.of rfl rfl rfl (fun _ _ _ _ _ _ _ k => WPr.ixo htt hx405 rfl rfl rfl rfl rfl rfl rfl rfl rfl (k)) rfl)
      have st407 : A9 8 ⟨[(143, .c (.px 15 0))], [(15, .el 11 ((v131_38).toNat * ((rI .i64)).sz))], [], [(11, .own (rI .i64) x245.1 true)], 16, [(144, .c (.i .i64 x405))], [], [], 16⟩ := tA9 _ _ (LS.of rfl rfl rfl (fun _ _ _ _ _ _ _ k => WPr.ldo (oI .i64) htt hx405 rfl rfl rfl rfl rfl rfl rfl rfl rfl rfl (k)) rfl)
      have st408 : A9 9 ⟨[(140, .c (.i .i64 x397.Sort'.Kind)), (144, .c (.i .i64 x405))], [], [], [], 16, [(145, .a [.i .i64 x397.Sort'.Kind, .i .i64 x405, .s (str [])])], [], [], 16⟩ := tA9 _ _ (LS.sil htt rfl rfl rfl rfl rfl rfl)
      obtain ⟨x409, hx409, h⟩ := ob h
      have st410 : A9 10 ⟨[(136, .c (.sl 12)), (137, .c (.i .i64 v131_38))], [], [], [(12, .own rR5 v20_38 true)], 16, [(146, .c (.px 16 0))], [(16, .el 12 ((v131_38).toNat * (rR5).sz))], [], 17⟩ := tA9 _ _ (LS.of rfl rfl rfl (fun _ _ _ _ _ _ _ k => WPr.ixo htt hx409 rfl rfl rfl rfl rfl rfl rfl rfl rfl (k)) rfl)
      have st411 : A9 11 ⟨[(145, .a [.i .i64 x397.Sort'.Kind, .i .i64 x405, .s (str [])]), (146, .c (.px 16 0))], [(16, .el 12 ((v131_38).toNat * (rR5).sz))], [(12, .own rR5 v20_38 true)], [], 17, [], [], [(12, .own rR5 (setL' v20_38 v131_38 (⟨x397.Sort'.Kind, x405, (str [])⟩ : T5)) true)], 17⟩ := tA9 _ _ (LS.of rfl rfl rfl (fun _ _ _ _ _ _ _ k => WPr.sto oO5 htt (⟨x397.Sort'.Kind, x405, (str [])⟩ : T5) hx409 rfl rfl rfl rfl rfl rfl rfl rfl rfl rfl (by exact (an rfl (an rfl rfl))) rfl (k)) rfl)
      refine WP.regionD (t := ⟨[(2, .c (.sl 1)), (8, .c (.bp 6 0)), (9, .c (.i .i64 (x2.Fields.length : Int))), (18, .c (.sl 11)), (20, .c (.sl 12)), (21, .c (.i .i64 v131_38)), (22, .c (.bp 14 0)), (129, .c (.sl 3)), (130, .c (.i .i64 (x2.Fields.length : Int))), (131, .c (.i .i64 v131_38))], [(6, .box [.s x2.Name, .sl 3, .i .i64 x2.First, .sl 4, .sl 5] 44), (11, .own (rI .i64) x245.1 true), (12, .own rR5 (setL' v20_38 v131_38 (⟨x397.Sort'.Kind, x405, (str [])⟩ : T5)) true), (14, .box [.s x397.Name, .i .i64 x397.Sort'.Kind, .i .i64 x397.Sort'.Lo, .i .i64 x397.Sort'.Hi] 89)], [(0, .sl rR0 decls_), (1, .sl rR5 known_), (3, .sl rR2 x2.Fields), (4, .sl rR1 x2.Guard.Diffs), (5, .sl (rP (rI .i64) (rI .i64)) x2.Guard.Equals)], 17⟩) [0, 0, 0, 4, 12, 0, 0, 96, 224, 508, 1023, 2047] (.cons (fA9 _ _ st398) (.cons (fA9 _ _ st399) (.cons (fA9 _ _ st400) (.cons (fA9 _ _ st401) (.cons (fA9 _ _ st402) (.cons (fA9 _ _ st403) (.cons (fA9 _ _ st404) (.cons (fA9 _ _ st406) (.cons (fA9 _ _ st407) (.cons (fA9 _ _ st408) (.cons (fA9 _ _ st410) (.cons (fA9 _ _ st411) .nil)))))))))))) (by kernel_rfl) (by kernel_rfl) (by kernel_rfl) (by kernel_rfl) (WP.seq (WP.region (WPr.silx [] ⟨[(2, .c (.sl 1)), (8, .c (.bp 6 0)), (9, .c (.i .i64 (x2.Fields.length : Int))), (18, .c (.sl 11)), (20, .c (.sl 12)), (21, .c (.i .i64 v131_38)), (129, .c (.sl 3)), (130, .c (.i .i64 (x2.Fields.length : Int))), (131, .c (.i .i64 v131_38)), (150, .c (.b (x397.Sort'.Kind == (2 : Int))))], [(6, .box [.s x2.Name, .sl 3, .i .i64 x2.First, .sl 4, .sl 5] 44), (11, .own (rI .i64) x245.1 true), (12, .own rR5 (setL' v20_38 v131_38 (⟨x397.Sort'.Kind, x405, (str [])⟩ : T5)) true)], [(0, .sl rR0 decls_), (1, .sl rR5 known_), (3, .sl rR2 x2.Fields), (4, .sl rR1 x2.Guard.Diffs), (5, .sl (rP (rI .i64) (rI .i64)) x2.Guard.Equals)], 17⟩ htt 4 (by kernel_rfl) (WPr.nil (?_)))))
      rcases oc' h with ⟨hc, h⟩ | ⟨hc, h⟩
      · exact WP.condF hc rfl (WP.skip (WP.inBlock (WP.region (WPr.sil htt 2 rfl (WPr.nil (WP.sub [] (ih38 ((setL' v20_38 v131_38 (⟨x397.Sort'.Kind, x405, (str [])⟩ : T5)), (w64 (v131_38 + (1 : Int)))) h) rfl rfl rfl rfl))))))
      refine WP.condT hc rfl (WP.region (WPr.silx [4, 5, 6, 7, 8, 9] ⟨[(2, .c (.sl 1)), (8, .c (.bp 6 0)), (9, .c (.i .i64 (x2.Fields.length : Int))), (18, .c (.sl 11)), (20, .c (.sl 12)), (129, .c (.sl 3)), (130, .c (.i .i64 (x2.Fields.length : Int))), (131, .c (.i .i64 v131_38)), (151, .c (.sl 12)), (152, .c (.i .i64 v131_38)), (153, .c (.sl 11)), (154, .c (.i .i64 v131_38))], [(6, .box [.s x2.Name, .sl 3, .i .i64 x2.First, .sl 4, .sl 5] 44), (11, .own (rI .i64) x245.1 true), (12, .own rR5 (setL' v20_38 v131_38 (⟨x397.Sort'.Kind, x405, (str [])⟩ : T5)) true)], [(0, .sl rR0 decls_), (1, .sl rR5 known_), (3, .sl rR2 x2.Fields), (4, .sl rR1 x2.Guard.Diffs), (5, .sl (rP (rI .i64) (rI .i64)) x2.Guard.Equals)], 17⟩ htt 4 (by kernel_rfl) (?_)))
      obtain ⟨x412, hx412, h⟩ := ob h
      refine WPr.ixo htt hx412 rfl rfl rfl rfl rfl rfl rfl rfl rfl (WPr.ldo (oI .i64) htt hx412 rfl rfl rfl rfl rfl rfl rfl rfl rfl rfl (?_))
      obtain ⟨x413, hx413, h⟩ := ob h
      refine WPr.call (z39_ct N (str [97]) x412 _ hx413) [] [] rfl rfl rfl rfl rfl rfl rfl rfl (.inl rfl) rfl (WPr.silx [8, 9] ⟨[(2, .c (.sl 1)), (8, .c (.bp 6 0)), (9, .c (.i .i64 (x2.Fields.length : Int))), (18, .c (.sl 11)), (20, .c (.sl 12)), (129, .c (.sl 3)), (130, .c (.i .i64 (x2.Fields.length : Int))), (131, .c (.i .i64 v131_38)), (151, .c (.sl 12)), (152, .c (.i .i64 v131_38)), (158, .a [.i .i64 (2 : Int), .i .i64 (0 : Int), .s x413])], [(6, .box [.s x2.Name, .sl 3, .i .i64 x2.First, .sl 4, .sl 5] 44), (11, .own (rI .i64) x245.1 true), (12, .own rR5 (setL' v20_38 v131_38 (⟨x397.Sort'.Kind, x405, (str [])⟩ : T5)) true)], [(0, .sl rR0 decls_), (1, .sl rR5 known_), (3, .sl rR2 x2.Fields), (4, .sl rR1 x2.Guard.Diffs), (5, .sl (rP (rI .i64) (rI .i64)) x2.Guard.Equals)], 18⟩ htt 1 (by kernel_rfl) (?_))
      obtain ⟨x414, hx414, h⟩ := ob h
      exact WPr.ixo htt hx414 rfl rfl rfl rfl rfl rfl rfl rfl rfl (WPr.sto oO5 htt (⟨(2 : Int), (0 : Int), x413⟩ : T5) hx414 rfl rfl rfl rfl rfl rfl rfl rfl rfl rfl (by exact (an rfl (an rfl rfl))) rfl (WPr.nil (WP.inBlock (WP.region (WPr.silx [] ⟨[(2, .c (.sl 1)), (8, .c (.bp 6 0)), (9, .c (.i .i64 (x2.Fields.length : Int))), (18, .c (.sl 11)), (20, .c (.sl 12)), (129, .c (.sl 3)), (130, .c (.i .i64 (x2.Fields.length : Int))), (131, .c (.i .i64 (w64 (v131_38 + (1 : Int)))))], [(6, .box [.s x2.Name, .sl 3, .i .i64 x2.First, .sl 4, .sl 5] 44), (11, .own (rI .i64) x245.1 true), (12, .own rR5 (setL' (setL' v20_38 v131_38 (⟨x397.Sort'.Kind, x405, (str [])⟩ : T5)) v131_38 (⟨(2 : Int), (0 : Int), x413⟩ : T5)) true)], [(0, .sl rR0 decls_), (1, .sl rR5 known_), (3, .sl rR2 x2.Fields), (4, .sl rR1 x2.Guard.Diffs), (5, .sl (rP (rI .i64) (rI .i64)) x2.Guard.Equals)], 19⟩ htt 2 (by kernel_rfl) (WPr.nil (WP.sub [] (ih38 ((setL' (setL' v20_38 v131_38 (⟨x397.Sort'.Kind, x405, (str [])⟩ : T5)) v131_38 (⟨(2 : Int), (0 : Int), x413⟩ : T5)), (w64 (v131_38 + (1 : Int)))) h) rfl rfl rfl rfl)))))))
    exact WP.sub [] (ih N (x246, (0 : Int)) h) rfl rfl rfl rfl
  refine WP.block (?_)
  refine WP.loopI (σ := Int × (List Int) × Int) (fun st => ⟨[(2, .c (.sl 1)), (8, .c (.bp 6 0)), (9, .c (.i .i64 (x2.Fields.length : Int))), (10, .c (.bp 8 0)), (42, .c (.sl 9)), (43, .c (.i .i64 (x4.length : Int))), (44, .c (.i .i64 st.2.2))], [(6, .box [.s x2.Name, .sl 3, .i .i64 x2.First, .sl 4, .sl 5] 44), (8, .box [.i .i64 st.1, .sl 10] 78), (9, .own rR1 x4 true)], [(0, .sl rR0 decls_), (1, .sl rR5 known_), (3, .sl rR2 x2.Fields), (4, .sl rR1 x2.Guard.Diffs), (5, .sl (rP (rI .i64) (rI .i64)) x2.Guard.Equals), (10, .sl (rI .i64) st.2.1)], 11⟩) (fun n st => z13_l4 N known_ x2 x4 n st.1 st.2.1 st.2.2) (r := r) (fun _ => rfl) ?_ (fun ih => ?_)
  · intro n14 ih39
    rintro ⟨vb10_8_0_39, vb10_8_1_39, v44_39⟩ h
    replace h : z13_l4 N known_ x2 x4 (n14 + 1) vb10_8_0_39 vb10_8_1_39 v44_39 = some r := h
    unfold z13_l4 at h
    refine WP.seq (WP.region (WPr.sil htt 1 rfl (WPr.nil (WP.seq (?_)))))
    rcases oc' h with ⟨hc, h⟩ | ⟨hc, h⟩
    · exact WP.condF hc rfl (WP.exit rfl (WP.sub [] (j1 (vb10_8_0_39, vb10_8_1_39) h) rfl rfl rfl rfl))
    refine WP.condT hc rfl (WP.skip (WP.seq (WP.block (WP.seq (WP.region (?_))))))
    obtain ⟨x661, hx661, h⟩ := ob h
    refine WPr.ixo htt hx661 rfl rfl rfl rfl rfl rfl rfl rfl rfl (WPr.ldo oO1 htt hx661 rfl rfl rfl rfl rfl rfl rfl rfl rfl rfl (WPr.silx [] ⟨[(2, .c (.sl 1)), (8, .c (.bp 6 0)), (9, .c (.i .i64 (x2.Fields.length : Int))), (10, .c (.bp 8 0)), (13, .c (.bp 12 0)), (42, .c (.sl 9)), (43, .c (.i .i64 (x4.length : Int))), (44, .c (.i .i64 v44_39))], [(6, .box [.s x2.Name, .sl 3, .i .i64 x2.First, .sl 4, .sl 5] 44), (8, .box [.i .i64 vb10_8_0_39, .sl 10] 78), (9, .own rR1 x4 true), (12, .box [.i .i64 x661.X, .i .i64 x661.Y, .i .i64 x661.C] 48)], [(0, .sl rR0 decls_), (1, .sl rR5 known_), (3, .sl rR2 x2.Fields), (4, .sl rR1 x2.Guard.Diffs), (5, .sl (rP (rI .i64) (rI .i64)) x2.Guard.Equals), (10, .sl (rI .i64) vb10_8_1_39)], 13⟩ htt 2 (by kernel_rfl) (WPr.nil (WP.seq (WP.region (WPr.silx [] ⟨[(2, .c (.sl 1)), (8, .c (.bp 6 0)), (9, .c (.i .i64 (x2.Fields.length : Int))), (10, .c (.bp 8 0)), (13, .c (.bp 12 0)), (14, .c (.i .i64 x661.C)), (42, .c (.sl 9)), (43, .c (.i .i64 (x4.length : Int))), (44, .c (.i .i64 v44_39))], [(6, .box [.s x2.Name, .sl 3, .i .i64 x2.First, .sl 4, .sl 5] 44), (8, .box [.i .i64 vb10_8_0_39, .sl 10] 78), (9, .own rR1 x4 true), (12, .box [.i .i64 x661.X, .i .i64 x661.Y, .i .i64 x661.C] 48)], [(0, .sl rR0 decls_), (1, .sl rR5 known_), (3, .sl rR2 x2.Fields), (4, .sl rR1 x2.Guard.Diffs), (5, .sl (rP (rI .i64) (rI .i64)) x2.Guard.Equals), (10, .sl (rI .i64) vb10_8_1_39)], 13⟩ htt 3 (by kernel_rfl) (WPr.nil (WP.seq (WP.region (WPr.silx [] ⟨[(2, .c (.sl 1)), (8, .c (.bp 6 0)), (9, .c (.i .i64 (x2.Fields.length : Int))), (10, .c (.bp 8 0)), (13, .c (.bp 12 0)), (14, .c (.i .i64 x661.C)), (15, .c (.bp 13 0)), (42, .c (.sl 9)), (43, .c (.i .i64 (x4.length : Int))), (44, .c (.i .i64 v44_39))], [(6, .box [.s x2.Name, .sl 3, .i .i64 x2.First, .sl 4, .sl 5] 44), (8, .box [.i .i64 vb10_8_0_39, .sl 10] 78), (9, .own rR1 x4 true), (12, .box [.i .i64 x661.X, .i .i64 x661.Y, .i .i64 x661.C] 48), (13, .box [.i .i64 (-1 : Int), .i .i64 (-1 : Int)] 49)], [(0, .sl rR0 decls_), (1, .sl rR5 known_), (3, .sl rR2 x2.Fields), (4, .sl rR1 x2.Guard.Diffs), (5, .sl (rP (rI .i64) (rI .i64)) x2.Guard.Equals), (10, .sl (rI .i64) vb10_8_1_39)], 14⟩ htt 3 (by kernel_rfl) (WPr.nil (WP.seq (WP.seq (WP.region (WPr.silx [] ⟨[(2, .c (.sl 1)), (8, .c (.bp 6 0)), (9, .c (.i .i64 (x2.Fields.length : Int))), (10, .c (.bp 8 0)), (14, .c (.i .i64 x661.C)), (15, .c (.bp 13 0)), (42, .c (.sl 9)), (43, .c (.i .i64 (x4.length : Int))), (44, .c (.i .i64 v44_39)), (55, .a [.i .i64 x661.X, .i .i64 x661.Y]), (56, .c (.i .i64 (0 : Int)))], [(6, .box [.s x2.Name, .sl 3, .i .i64 x2.First, .sl 4, .sl 5] 44), (8, .box [.i .i64 vb10_8_0_39, .sl 10] 78), (9, .own rR1 x4 true), (13, .box [.i .i64 (-1 : Int), .i .i64 (-1 : Int)] 49)], [(0, .sl rR0 decls_), (1, .sl rR5 known_), (3, .sl rR2 x2.Fields), (4, .sl rR1 x2.Guard.Diffs), (5, .sl (rP (rI .i64) (rI .i64)) x2.Guard.Equals), (10, .sl (rI .i64) vb10_8_1_39)], 14⟩ htt 6 (by kernel_rfl) (WPr.nil (?_)))))))))))))))))
    refine WP.cut (σ := Int × Int × Int) (fun st => ⟨[(2, .c (.sl 1)), (8, .c (.bp 6 0)), (9, .c (.i .i64 (x2.Fields.length : Int))), (10, .c (.bp 8 0)), (14, .c (.i .i64 st.1)), (15, .c (.bp 13 0)), (42, .c (.sl 9)), (43, .c (.i .i64 (x4.length : Int))), (44, .c (.i .i64 v44_39))], [(6, .box [.s x2.Name, .sl 3, .i .i64 x2.First, .sl 4, .sl 5] 44), (8, .box [.i .i64 vb10_8_0_39, .sl 10] 78), (9, .own rR1 x4 true), (13, .box [.i .i64 st.2.1, .i .i64 st.2.2] 49)], [(0, .sl rR0 decls_), (1, .sl rR5 known_), (3, .sl rR2 x2.Fields), (4, .sl rR1 x2.Guard.Diffs), (5, .sl (rP (rI .i64) (rI .i64)) x2.Guard.Equals), (10, .sl (rI .i64) vb10_8_1_39)], 14⟩) (fun st => z13_k5 N vb10_8_0_39 vb10_8_1_39 v44_39 (z13_l4 N known_ x2 x4 n14) st.1 st.2.1 st.2.2 = some r) ?_ (fun j62 => ?_)
    · rintro ⟨v14_62, vb15_13_0_62, vb15_13_1_62⟩ h
      replace h : z13_k5 N vb10_8_0_39 vb10_8_1_39 v44_39 (z13_l4 N known_ x2 x4 n14) v14_62 vb15_13_0_62 vb15_13_1_62 = some r := h
      unfold z13_k5 at h
      refine WP.region (WPr.sil htt 1 rfl (WPr.axb (len := 2) (el := 3) (es := 1) 0 rfl rfl rfl rfl rfl (by kernel_rfl) (by kernel_rfl) rfl rfl rfl rfl (WPr.silx [3, 4, 5, 6, 7, 8, 9, 10, 11] ⟨[(2, .c (.sl 1)), (8, .c (.bp 6 0)), (9, .c (.i .i64 (x2.Fields.length : Int))), (10, .c (.bp 8 0)), (14, .c (.i .i64 v14_62)), (15, .c (.bp 13 0)), (42, .c (.sl 9)), (43, .c (.i .i64 (x4.length : Int))), (44, .c (.i .i64 v44_39)), (108, .a [.i .i64 vb10_8_0_39, .sl 10]), (110, .c (.i .i64 vb15_13_0_62))], [(6, .box [.s x2.Name, .sl 3, .i .i64 x2.First, .sl 4, .sl 5] 44), (8, .box [.i .i64 vb10_8_0_39, .sl 10] 78), (9, .own rR1 x4 true), (13, .box [.i .i64 vb15_13_0_62, .i .i64 vb15_13_1_62] 49)], [(0, .sl rR0 decls_), (1, .sl rR5 known_), (3, .sl rR2 x2.Fields), (4, .sl rR1 x2.Guard.Diffs), (5, .sl (rP (rI .i64) (rI .i64)) x2.Guard.Equals), (10, .sl (rI .i64) vb10_8_1_39)], 14⟩ htt 1 (by kernel_rfl) (WPr.axb (len := 2) (el := 3) (es := 1) 1 rfl rfl rfl rfl rfl (by kernel_rfl) (by kernel_rfl) rfl rfl rfl rfl (WPr.silx [7, 8, 9, 10, 11] ⟨[(2, .c (.sl 1)), (8, .c (.bp 6 0)), (9, .c (.i .i64 (x2.Fields.length : Int))), (10, .c (.bp 8 0)), (42, .c (.sl 9)), (43, .c (.i .i64 (x4.length : Int))), (44, .c (.i .i64 v44_39)), (108, .a [.i .i64 vb10_8_0_39, .sl 10]), (114, .a [.i .i64 vb15_13_0_62, .i .i64 vb15_13_1_62, .i .i64 v14_62])], [(6, .box [.s x2.Name, .sl 3, .i .i64 x2.First, .sl 4, .sl 5] 44), (8, .box [.i .i64 vb10_8_0_39, .sl 10] 78), (9, .own rR1 x4 true)], [(0, .sl rR0 decls_), (1, .sl rR5 known_), (3, .sl rR2 x2.Fields), (4, .sl rR1 x2.Guard.Diffs), (5, .sl (rP (rI .i64) (rI .i64)) x2.Guard.Equals), (10, .sl (rI .i64) vb10_8_1_39)], 14⟩ htt 3 (by kernel_rfl) (?_))))))
      obtain ⟨x691, hx691, h⟩ := ob h
      exact WPr.call (z37_ct N (⟨vb10_8_0_39, vb10_8_1_39⟩ : T7) (⟨vb15_13_0_62, vb15_13_1_62, v14_62⟩ : T1) _ hx691) [(0, .sl 10)] [] rfl rfl rfl rfl rfl rfl rfl rfl (.inl rfl) rfl (WPr.silx [] ⟨[(2, .c (.sl 1)), (8, .c (.bp 6 0)), (9, .c (.i .i64 (x2.Fields.length : Int))), (10, .c (.bp 8 0)), (42, .c (.sl 9)), (43, .c (.i .i64 (x4.length : Int))), (44, .c (.i .i64 v44_39))], [(6, .box [.s x2.Name, .sl 3, .i .i64 x2.First, .sl 4, .sl 5] 44), (8, .box [.i .i64 x691.1.N, .sl 14] 78), (9, .own rR1 x4 true)], [(0, .sl rR0 decls_), (1, .sl rR5 known_), (3, .sl rR2 x2.Fields), (4, .sl rR1 x2.Guard.Diffs), (5, .sl (rP (rI .i64) (rI .i64)) x2.Guard.Equals), (14, .sl (rI .i64) x691.1.B)], 15⟩ htt 4 (by kernel_rfl) (WPr.nil (WP.inBlock (WP.region (WPr.sil htt 2 rfl (WPr.nil (WP.sub [(10, .sl 14)] (ih39 (x691.1.N, x691.1.B, (w64 (v44_39 + (1 : Int)))) h) rfl rfl rfl rfl)))))))
    refine WP.block (?_)
    refine WP.loopI (σ := Int × Int × Int × Int) (fun st => ⟨[(2, .c (.sl 1)), (8, .c (.bp 6 0)), (9, .c (.i .i64 (x2.Fields.length : Int))), (10, .c (.bp 8 0)), (14, .c (.i .i64 st.1)), (15, .c (.bp 13 0)), (42, .c (.sl 9)), (43, .c (.i .i64 (x4.length : Int))), (44, .c (.i .i64 v44_39)), (55, .a [.i .i64 x661.X, .i .i64 x661.Y]), (56, .c (.i .i64 st.2.2.2))], [(6, .box [.s x2.Name, .sl 3, .i .i64 x2.First, .sl 4, .sl 5] 44), (8, .box [.i .i64 vb10_8_0_39, .sl 10] 78), (9, .own rR1 x4 true), (13, .box [.i .i64 st.2.1, .i .i64 st.2.2.1] 49)], [(0, .sl rR0 decls_), (1, .sl rR5 known_), (3, .sl rR2 x2.Fields), (4, .sl rR1 x2.Guard.Diffs), (5, .sl (rP (rI .i64) (rI .i64)) x2.Guard.Equals), (10, .sl (rI .i64) vb10_8_1_39)], 14⟩) (fun n st => z13_l6 N known_ x2 vb10_8_0_39 vb10_8_1_39 v44_39 (z13_l4 N known_ x2 x4 n14) x661 n st.1 st.2.1 st.2.2.1 st.2.2.2) (r := r) (fun _ => rfl) ?_ (fun ih => ?_)
    · intro n16 ih68
      rintro ⟨v14_68, vb15_13_0_68, vb15_13_1_68, v56_68⟩ h
      replace h : z13_l6 N known_ x2 vb10_8_0_39 vb10_8_1_39 v44_39 (z13_l4 N known_ x2 x4 n14) x661 (n16 + 1) v14_68 vb15_13_0_68 vb15_13_1_68 v56_68 = some r := h
      unfold z13_l6 at h
      refine WP.seq (WP.region (WPr.sil htt 1 rfl (WPr.nil (WP.seq (?_)))))
      rcases oc' h with ⟨hc, h⟩ | ⟨hc, h⟩
      · exact WP.condF hc rfl (WP.exit rfl (WP.sub [] (j62 (v14_68, vb15_13_0_68, vb15_13_1_68) h) rfl rfl rfl rfl))
      refine WP.condT hc rfl (WP.skip (WP.seq (WP.block (WP.seq (WP.region (WPr.sil htt 1 rfl (?_)))))))
      obtain ⟨x721, hx721, h⟩ := ob h
      refine WPr.ax (len := 2) (el := 3) (SC.i .i64) ([x661.X, x661.Y] : List Int) hx721 rfl rfl rfl rfl (by kernel_rfl) (by kernel_rfl) (by kernel_rfl) (by kernel_rfl) rfl rfl rfl rfl (WPr.silx [] ⟨[(2, .c (.sl 1)), (8, .c (.bp 6 0)), (9, .c (.i .i64 (x2.Fields.length : Int))), (10, .c (.bp 8 0)), (14, .c (.i .i64 v14_68)), (15, .c (.bp 13 0)), (16, .c (.i .i64 v56_68)), (17, .c (.i .i64 x721)), (42, .c (.sl 9)), (43, .c (.i .i64 (x4.length : Int))), (44, .c (.i .i64 v44_39)), (55, .a [.i .i64 x661.X, .i .i64 x661.Y]), (56, .c (.i .i64 v56_68))], [(6, .box [.s x2.Name, .sl 3, .i .i64 x2.First, .sl 4, .sl 5] 44), (8, .box [.i .i64 vb10_8_0_39, .sl 10] 78), (9, .own rR1 x4 true), (13, .box [.i .i64 vb15_13_0_68, .i .i64 vb15_13_1_68] 49)], [(0, .sl rR0 decls_), (1, .sl rR5 known_), (3, .sl rR2 x2.Fields), (4, .sl rR1 x2.Guard.Diffs), (5, .sl (rP (rI .i64) (rI .i64)) x2.Guard.Equals), (10, .sl (rI .i64) vb10_8_1_39)], 14⟩ htt 2 (by kernel_rfl) (WPr.nil (WP.block (WP.seq (WP.region (WPr.silx [] ⟨[(2, .c (.sl 1)), (8, .c (.bp 6 0)), (9, .c (.i .i64 (x2.Fields.length : Int))), (10, .c (.bp 8 0)), (14, .c (.i .i64 v14_68)), (15, .c (.bp 13 0)), (16, .c (.i .i64 v56_68)), (17, .c (.i .i64 x721)), (42, .c (.sl 9)), (43, .c (.i .i64 (x4.length : Int))), (44, .c (.i .i64 v44_39)), (55, .a [.i .i64 x661.X, .i .i64 x661.Y]), (56, .c (.i .i64 v56_68)), (67, .c (.b (decide (x721 < (0 : Int)))))], [(6, .box [.s x2.Name, .sl 3, .i .i64 x2.First, .sl 4, .sl 5] 44), (8, .box [.i .i64 vb10_8_0_39, .sl 10] 78), (9, .own rR1 x4 true), (13, .box [.i .i64 vb15_13_0_68, .i .i64 vb15_13_1_68] 49)], [(0, .sl rR0 decls_), (1, .sl rR5 known_), (3, .sl rR2 x2.Fields), (4, .sl rR1 x2.Guard.Diffs), (5, .sl (rP (rI .i64) (rI .i64)) x2.Guard.Equals), (10, .sl (rI .i64) vb10_8_1_39)], 14⟩ htt 3 (by kernel_rfl) (WPr.nil (?_))))))))
      rcases oc h with ⟨hc, h⟩ | ⟨hc, h⟩
      · exact WP.condT hc rfl (WP.skip (WP.inBlock (WP.inBlock (WP.region (WPr.sil htt 2 rfl (WPr.nil (WP.sub [] (ih68 (v14_68, vb15_13_0_68, vb15_13_1_68, (w64 (v56_68 + (1 : Int)))) h) rfl rfl rfl rfl)))))))
      refine WP.condF hc rfl (WP.seq (WP.region (WPr.silx [5, 6, 7, 8, 9, 10, 11, 12] ⟨[(2, .c (.sl 1)), (8, .c (.bp 6 0)), (9, .c (.i .i64 (x2.Fields.length : Int))), (10, .c (.bp 8 0)), (14, .c (.i .i64 v14_68)), (15, .c (.bp 13 0)), (16, .c (.i .i64 v56_68)), (17, .c (.i .i64 x721)), (42, .c (.sl 9)), (43, .c (.i .i64 (x4.length : Int))), (44, .c (.i .i64 v44_39)), (55, .a [.i .i64 x661.X, .i .i64 x661.Y]), (56, .c (.i .i64 v56_68)), (75, .c (.b (decide (x721 ≥ x2.First))))], [(6, .box [.s x2.Name, .sl 3, .i .i64 x2.First, .sl 4, .sl 5] 44), (8, .box [.i .i64 vb10_8_0_39, .sl 10] 78), (9, .own rR1 x4 true), (13, .box [.i .i64 vb15_13_0_68, .i .i64 vb15_13_1_68] 49)], [(0, .sl rR0 decls_), (1, .sl rR5 known_), (3, .sl rR2 x2.Fields), (4, .sl rR1 x2.Guard.Diffs), (5, .sl (rP (rI .i64) (rI .i64)) x2.Guard.Equals), (10, .sl (rI .i64) vb10_8_1_39)], 14⟩ htt 5 (by kernel_rfl) (?_))))
      refine WP.cutr (σ := Bool) (fun st => ⟨[(2, .c (.sl 1)), (8, .c (.bp 6 0)), (9, .c (.i .i64 (x2.Fields.length : Int))), (10, .c (.bp 8 0)), (14, .c (.i .i64 v14_68)), (15, .c (.bp 13 0)), (16, .c (.i .i64 v56_68)), (17, .c (.i .i64 x721)), (42, .c (.sl 9)), (43, .c (.i .i64 (x4.length : Int))), (44, .c (.i .i64 v44_39)), (55, .a [.i .i64 x661.X, .i .i64 x661.Y]), (56, .c (.i .i64 v56_68)), (70, .c (.b st))], [(6, .box [.s x2.Name, .sl 3, .i .i64 x2.First, .sl 4, .sl 5] 44), (8, .box [.i .i64 vb10_8_0_39, .sl 10] 78), (9, .own rR1 x4 true), (13, .box [.i .i64 vb15_13_0_68, .i .i64 vb15_13_1_68] 49)], [(0, .sl rR0 decls_), (1, .sl rR5 known_), (3, .sl rR2 x2.Fields), (4, .sl rR1 x2.Guard.Diffs), (5, .sl (rP (rI .i64) (rI .i64)) x2.Guard.Equals), (10, .sl (rI .i64) vb10_8_1_39)], 14⟩) (fun st => z13_k7 N known_ x2 v14_68 vb15_13_0_68 vb15_13_1_68 v56_68 (z13_l6 N known_ x2 vb10_8_0_39 vb10_8_1_39 v44_39 (z13_l4 N known_ x2 x4 n14) x661 n16) x721 st = some r) ?_ (fun j72 => ?_)
      · intro v70_72 h
        replace h : z13_k7 N known_ x2 v14_68 vb15_13_0_68 vb15_13_1_68 v56_68 (z13_l6 N known_ x2 vb10_8_0_39 vb10_8_1_39 v44_39 (z13_l4 N known_ x2 x4 n14) x661 n16) x721 v70_72 = some r := h
        unfold z13_k7 at h
        rcases oc h with ⟨hc, h⟩ | ⟨hc, h⟩
        · refine WP.condT hc rfl (WP.region (WPr.silx [5, 6] ⟨[(2, .c (.sl 1)), (8, .c (.bp 6 0)), (9, .c (.i .i64 (x2.Fields.length : Int))), (10, .c (.bp 8 0)), (14, .c (.i .i64 v14_68)), (15, .c (.bp 13 0)), (42, .c (.sl 9)), (43, .c (.i .i64 (x4.length : Int))), (44, .c (.i .i64 v44_39)), (55, .a [.i .i64 x661.X, .i .i64 x661.Y]), (56, .c (.i .i64 v56_68)), (83, .c (.i .i64 v56_68)), (87, .c (.i .i64 (w64 (x721 - x2.First))))], [(6, .box [.s x2.Name, .sl 3, .i .i64 x2.First, .sl 4, .sl 5] 44), (8, .box [.i .i64 vb10_8_0_39, .sl 10] 78), (9, .own rR1 x4 true), (13, .box [.i .i64 vb15_13_0_68, .i .i64 vb15_13_1_68] 49)], [(0, .sl rR0 decls_), (1, .sl rR5 known_), (3, .sl rR2 x2.Fields), (4, .sl rR1 x2.Guard.Diffs), (5, .sl (rP (rI .i64) (rI .i64)) x2.Guard.Equals), (10, .sl (rI .i64) vb10_8_1_39)], 14⟩ htt 5 (by kernel_rfl) (?_)))
          rcases oc h with ⟨hc, h⟩ | ⟨hc, h⟩
          · exact WPr.axb (len := 2) (el := 3) (es := 1) 0 (by exact eq_of_beq hc) rfl rfl rfl rfl (by kernel_rfl) (by kernel_rfl) rfl rfl rfl rfl (WPr.sil htt 1 rfl (WPr.nil (WP.inBlock (WP.inBlock (WP.region (WPr.silx [] ⟨[(2, .c (.sl 1)), (8, .c (.bp 6 0)), (9, .c (.i .i64 (x2.Fields.length : Int))), (10, .c (.bp 8 0)), (14, .c (.i .i64 v14_68)), (15, .c (.bp 13 0)), (42, .c (.sl 9)), (43, .c (.i .i64 (x4.length : Int))), (44, .c (.i .i64 v44_39)), (55, .a [.i .i64 x661.X, .i .i64 x661.Y]), (56, .c (.i .i64 (w64 (v56_68 + (1 : Int)))))], [(6, .box [.s x2.Name, .sl 3, .i .i64 x2.First, .sl 4, .sl 5] 44), (8, .box [.i .i64 vb10_8_0_39, .sl 10] 78), (9, .own rR1 x4 true), (13, .box [.i .i64 (w64 (x721 - x2.First)), .i .i64 vb15_13_1_68] 49)], [(0, .sl rR0 decls_), (1, .sl rR5 known_), (3, .sl rR2 x2.Fields), (4, .sl rR1 x2.Guard.Diffs), (5, .sl (rP (rI .i64) (rI .i64)) x2.Guard.Equals), (10, .sl (rI .i64) vb10_8_1_39)], 14⟩ htt 2 (by kernel_rfl) (WPr.nil (WP.sub [] (ih68 (v14_68, (w64 (x721 - x2.First)), vb15_13_1_68, (w64 (v56_68 + (1 : Int)))) h) rfl rfl rfl rfl))))))))
          rcases oc h with ⟨hc, h⟩ | ⟨hc, h⟩
          · exact WPr.axb (len := 2) (el := 3) (es := 1) 1 (by exact eq_of_beq hc) rfl rfl rfl rfl (by kernel_rfl) (by kernel_rfl) rfl rfl rfl rfl (WPr.sil htt 1 rfl (WPr.nil (WP.inBlock (WP.inBlock (WP.region (WPr.silx [] ⟨[(2, .c (.sl 1)), (8, .c (.bp 6 0)), (9, .c (.i .i64 (x2.Fields.length : Int))), (10, .c (.bp 8 0)), (14, .c (.i .i64 v14_68)), (15, .c (.bp 13 0)), (42, .c (.sl 9)), (43, .c (.i .i64 (x4.length : Int))), (44, .c (.i .i64 v44_39)), (55, .a [.i .i64 x661.X, .i .i64 x661.Y]), (56, .c (.i .i64 (w64 (v56_68 + (1 : Int)))))], [(6, .box [.s x2.Name, .sl 3, .i .i64 x2.First, .sl 4, .sl 5] 44), (8, .box [.i .i64 vb10_8_0_39, .sl 10] 78), (9, .own rR1 x4 true), (13, .box [.i .i64 vb15_13_0_68, .i .i64 (w64 (x721 - x2.First))] 49)], [(0, .sl rR0 decls_), (1, .sl rR5 known_), (3, .sl rR2 x2.Fields), (4, .sl rR1 x2.Guard.Diffs), (5, .sl (rP (rI .i64) (rI .i64)) x2.Guard.Equals), (10, .sl (rI .i64) vb10_8_1_39)], 14⟩ htt 2 (by kernel_rfl) (WPr.nil (WP.sub [] (ih68 (v14_68, vb15_13_0_68, (w64 (x721 - x2.First)), (w64 (v56_68 + (1 : Int)))) h) rfl rfl rfl rfl))))))))
          cases h
        refine WP.condF hc rfl (WP.seq (WP.region (WPr.sil htt 2 rfl (?_))))
        obtain ⟨x722, hx722, h⟩ := ob h
        refine WPr.ix oO5 htt hx722 rfl rfl rfl rfl rfl rfl rfl rfl rfl (WPr.silx [] ⟨[(2, .c (.sl 1)), (8, .c (.bp 6 0)), (9, .c (.i .i64 (x2.Fields.length : Int))), (10, .c (.bp 8 0)), (14, .c (.i .i64 v14_68)), (15, .c (.bp 13 0)), (16, .c (.i .i64 v56_68)), (17, .c (.i .i64 x721)), (42, .c (.sl 9)), (43, .c (.i .i64 (x4.length : Int))), (44, .c (.i .i64 v44_39)), (55, .a [.i .i64 x661.X, .i .i64 x661.Y]), (56, .c (.i .i64 v56_68)), (89, .c (.b (x722.Kind == (0 : Int))))], [(6, .box [.s x2.Name, .sl 3, .i .i64 x2.First, .sl 4, .sl 5] 44), (8, .box [.i .i64 vb10_8_0_39, .sl 10] 78), (9, .own rR1 x4 true), (13, .box [.i .i64 vb15_13_0_68, .i .i64 vb15_13_1_68] 49)], [(0, .sl rR0 decls_), (1, .sl rR5 known_), (3, .sl rR2 x2.Fields), (4, .sl rR1 x2.Guard.Diffs), (5, .sl (rP (rI .i64) (rI .i64)) x2.Guard.Equals), (10, .sl (rI .i64) vb10_8_1_39)], 15⟩ htt 4 (by kernel_rfl) (WPr.nil (?_)))
        rcases oc h with ⟨hc, h⟩ | ⟨hc, h⟩
        · refine WP.condT hc rfl (WP.seq (WP.region (WPr.sil htt 2 rfl (WPr.nil (?_)))))
          cases h
          exact WP.ret htt Tryz.func13 [(2, .nil)] rfl rfl rfl rfl
        refine WP.condF hc rfl (WP.seq (WP.region (WPr.silx [] ⟨[(2, .c (.sl 1)), (8, .c (.bp 6 0)), (9, .c (.i .i64 (x2.Fields.length : Int))), (10, .c (.bp 8 0)), (14, .c (.i .i64 v14_68)), (15, .c (.bp 13 0)), (17, .c (.i .i64 x721)), (42, .c (.sl 9)), (43, .c (.i .i64 (x4.length : Int))), (44, .c (.i .i64 v44_39)), (55, .a [.i .i64 x661.X, .i .i64 x661.Y]), (56, .c (.i .i64 v56_68)), (96, .c (.b (v56_68 == (0 : Int))))], [(6, .box [.s x2.Name, .sl 3, .i .i64 x2.First, .sl 4, .sl 5] 44), (8, .box [.i .i64 vb10_8_0_39, .sl 10] 78), (9, .own rR1 x4 true), (13, .box [.i .i64 vb15_13_0_68, .i .i64 vb15_13_1_68] 49)], [(0, .sl rR0 decls_), (1, .sl rR5 known_), (3, .sl rR2 x2.Fields), (4, .sl rR1 x2.Guard.Diffs), (5, .sl (rP (rI .i64) (rI .i64)) x2.Guard.Equals), (10, .sl (rI .i64) vb10_8_1_39)], 15⟩ htt 3 (by kernel_rfl) (WPr.nil (?_)))))
        rcases oc h with ⟨hc, h⟩ | ⟨hc, h⟩
        · refine WP.condT hc rfl (WP.region (WPr.silx [3, 4, 5, 6, 7] ⟨[(2, .c (.sl 1)), (8, .c (.bp 6 0)), (9, .c (.i .i64 (x2.Fields.length : Int))), (10, .c (.bp 8 0)), (15, .c (.bp 13 0)), (42, .c (.sl 9)), (43, .c (.i .i64 (x4.length : Int))), (44, .c (.i .i64 v44_39)), (55, .a [.i .i64 x661.X, .i .i64 x661.Y]), (56, .c (.i .i64 v56_68)), (99, .c (.i .i64 v14_68)), (100, .c (.sl 1)), (101, .c (.i .i64 x721))], [(6, .box [.s x2.Name, .sl 3, .i .i64 x2.First, .sl 4, .sl 5] 44), (8, .box [.i .i64 vb10_8_0_39, .sl 10] 78), (9, .own rR1 x4 true), (13, .box [.i .i64 vb15_13_0_68, .i .i64 vb15_13_1_68] 49)], [(0, .sl rR0 decls_), (1, .sl rR5 known_), (3, .sl rR2 x2.Fields), (4, .sl rR1 x2.Guard.Diffs), (5, .sl (rP (rI .i64) (rI .i64)) x2.Guard.Equals), (10, .sl (rI .i64) vb10_8_1_39)], 15⟩ htt 3 (by kernel_rfl) (?_)))
          obtain ⟨x723, hx723, h⟩ := ob h
          refine WPr.ix oO5 htt hx723 rfl rfl rfl rfl rfl rfl rfl rfl rfl (WPr.sil htt 1 rfl (?_))
          obtain ⟨x724, hx724, h⟩ := ob h
          exact WPr.call (z36_ct N x723 _ hx724) [] [] rfl rfl rfl rfl rfl rfl rfl rfl (.inl rfl) rfl (WPr.silx [] ⟨[(2, .c (.sl 1)), (8, .c (.bp 6 0)), (9, .c (.i .i64 (x2.Fields.length : Int))), (10, .c (.bp 8 0)), (14, .c (.i .i64 (w64 (v14_68 - x724)))), (15, .c (.bp 13 0)), (42, .c (.sl 9)), (43, .c (.i .i64 (x4.length : Int))), (44, .c (.i .i64 v44_39)), (55, .a [.i .i64 x661.X, .i .i64 x661.Y]), (56, .c (.i .i64 v56_68))], [(6, .box [.s x2.Name, .sl 3, .i .i64 x2.First, .sl 4, .sl 5] 44), (8, .box [.i .i64 vb10_8_0_39, .sl 10] 78), (9, .own rR1 x4 true), (13, .box [.i .i64 vb15_13_0_68, .i .i64 vb15_13_1_68] 49)], [(0, .sl rR0 decls_), (1, .sl rR5 known_), (3, .sl rR2 x2.Fields), (4, .sl rR1 x2.Guard.Diffs), (5, .sl (rP (rI .i64) (rI .i64)) x2.Guard.Equals), (10, .sl (rI .i64) vb10_8_1_39)], 16⟩ htt 2 (by kernel_rfl) (WPr.nil (WP.inBlock (WP.inBlock (WP.region (WPr.sil htt 2 rfl (WPr.nil (WP.sub [] (ih68 ((w64 (v14_68 - x724)), vb15_13_0_68, vb15_13_1_68, (w64 (v56_68 + (1 : Int)))) h) rfl rfl rfl rfl))))))))
        refine WP.condF hc rfl (WP.region (WPr.silx [3, 4, 5, 6, 7] ⟨[(2, .c (.sl 1)), (8, .c (.bp 6 0)), (9, .c (.i .i64 (x2.Fields.length : Int))), (10, .c (.bp 8 0)), (15, .c (.bp 13 0)), (42, .c (.sl 9)), (43, .c (.i .i64 (x4.length : Int))), (44, .c (.i .i64 v44_39)), (55, .a [.i .i64 x661.X, .i .i64 x661.Y]), (56, .c (.i .i64 v56_68)), (60, .c (.i .i64 v14_68)), (61, .c (.sl 1)), (62, .c (.i .i64 x721))], [(6, .box [.s x2.Name, .sl 3, .i .i64 x2.First, .sl 4, .sl 5] 44), (8, .box [.i .i64 vb10_8_0_39, .sl 10] 78), (9, .own rR1 x4 true), (13, .box [.i .i64 vb15_13_0_68, .i .i64 vb15_13_1_68] 49)], [(0, .sl rR0 decls_), (1, .sl rR5 known_), (3, .sl rR2 x2.Fields), (4, .sl rR1 x2.Guard.Diffs), (5, .sl (rP (rI .i64) (rI .i64)) x2.Guard.Equals), (10, .sl (rI .i64) vb10_8_1_39)], 15⟩ htt 3 (by kernel_rfl) (?_)))
        obtain ⟨x725, hx725, h⟩ := ob h
        refine WPr.ix oO5 htt hx725 rfl rfl rfl rfl rfl rfl rfl rfl rfl (WPr.sil htt 1 rfl (?_))
        obtain ⟨x726, hx726, h⟩ := ob h
        exact WPr.call (z36_ct N x725 _ hx726) [] [] rfl rfl rfl rfl rfl rfl rfl rfl (.inl rfl) rfl (WPr.silx [] ⟨[(2, .c (.sl 1)), (8, .c (.bp 6 0)), (9, .c (.i .i64 (x2.Fields.length : Int))), (10, .c (.bp 8 0)), (14, .c (.i .i64 (w64 (v14_68 + x726)))), (15, .c (.bp 13 0)), (42, .c (.sl 9)), (43, .c (.i .i64 (x4.length : Int))), (44, .c (.i .i64 v44_39)), (55, .a [.i .i64 x661.X, .i .i64 x661.Y]), (56, .c (.i .i64 v56_68))], [(6, .box [.s x2.Name, .sl 3, .i .i64 x2.First, .sl 4, .sl 5] 44), (8, .box [.i .i64 vb10_8_0_39, .sl 10] 78), (9, .own rR1 x4 true), (13, .box [.i .i64 vb15_13_0_68, .i .i64 vb15_13_1_68] 49)], [(0, .sl rR0 decls_), (1, .sl rR5 known_), (3, .sl rR2 x2.Fields), (4, .sl rR1 x2.Guard.Diffs), (5, .sl (rP (rI .i64) (rI .i64)) x2.Guard.Equals), (10, .sl (rI .i64) vb10_8_1_39)], 16⟩ htt 2 (by kernel_rfl) (WPr.nil (WP.inBlock (WP.inBlock (WP.region (WPr.sil htt 2 rfl (WPr.nil (WP.sub [] (ih68 ((w64 (v14_68 + x726)), vb15_13_0_68, vb15_13_1_68, (w64 (v56_68 + (1 : Int)))) h) rfl rfl rfl rfl))))))))
      rcases oc h with ⟨hc, h⟩ | ⟨hc, h⟩
      · exact WPr.kb 75 hc rfl (WPr.silx [] ⟨[(2, .c (.sl 1)), (8, .c (.bp 6 0)), (9, .c (.i .i64 (x2.Fields.length : Int))), (10, .c (.bp 8 0)), (14, .c (.i .i64 v14_68)), (15, .c (.bp 13 0)), (16, .c (.i .i64 v56_68)), (17, .c (.i .i64 x721)), (42, .c (.sl 9)), (43, .c (.i .i64 (x4.length : Int))), (44, .c (.i .i64 v44_39)), (55, .a [.i .i64 x661.X, .i .i64 x661.Y]), (56, .c (.i .i64 v56_68)), (70, .c (.b (decide (x721 < (w64 (x2.First + (x2.Fields.length : Int)))))))], [(6, .box [.s x2.Name, .sl 3, .i .i64 x2.First, .sl 4, .sl 5] 44), (8, .box [.i .i64 vb10_8_0_39, .sl 10] 78), (9, .own rR1 x4 true), (13, .box [.i .i64 vb15_13_0_68, .i .i64 vb15_13_1_68] 49)], [(0, .sl rR0 decls_), (1, .sl rR5 known_), (3, .sl rR2 x2.Fields), (4, .sl rR1 x2.Guard.Diffs), (5, .sl (rP (rI .i64) (rI .i64)) x2.Guard.Equals), (10, .sl (rI .i64) vb10_8_1_39)], 14⟩ htt 8 (by kernel_rfl) (WPr.nil (WP.sub [] (j72 (decide (x721 < (w64 (x2.First + (x2.Fields.length : Int))))) h) rfl rfl rfl rfl)))
      exact WPr.kb 75 hc rfl (WPr.silx [] ⟨[(2, .c (.sl 1)), (8, .c (.bp 6 0)), (9, .c (.i .i64 (x2.Fields.length : Int))), (10, .c (.bp 8 0)), (14, .c (.i .i64 v14_68)), (15, .c (.bp 13 0)), (16, .c (.i .i64 v56_68)), (17, .c (.i .i64 x721)), (42, .c (.sl 9)), (43, .c (.i .i64 (x4.length : Int))), (44, .c (.i .i64 v44_39)), (55, .a [.i .i64 x661.X, .i .i64 x661.Y]), (56, .c (.i .i64 v56_68)), (70, .c (.b false))], [(6, .box [.s x2.Name, .sl 3, .i .i64 x2.First, .sl 4, .sl 5] 44), (8, .box [.i .i64 vb10_8_0_39, .sl 10] 78), (9, .own rR1 x4 true), (13, .box [.i .i64 vb15_13_0_68, .i .i64 vb15_13_1_68] 49)], [(0, .sl rR0 decls_), (1, .sl rR5 known_), (3, .sl rR2 x2.Fields), (4, .sl rR1 x2.Guard.Diffs), (5, .sl (rP (rI .i64) (rI .i64)) x2.Guard.Equals), (10, .sl (rI .i64) vb10_8_1_39)], 14⟩ htt 8 (by kernel_rfl) (WPr.nil (WP.sub [] (j72 false h) rfl rfl rfl rfl)))
    exact WP.sub [] (ih N (x661.C, (-1 : Int), (-1 : Int), (0 : Int)) h) rfl rfl rfl rfl
  exact WP.sub [(10, .sl 7)] (ih N (x3.1.N, x3.1.B, (0 : Int)) h) rfl rfl rfl rfl
theorem z16_ct (N : Nat) (decls_ : (List T0)) (label_ : Int) (values_ : (List T5)) (known_ : (List T5)) (r : Bool) (h : z16 N decls_ label_ values_ known_ = some r) :
  Fn Tryz.prog 16 ⟨3, [.c (.sl 0), .c (.i .i64 label_), .c (.sl 1), .c (.sl 2)], [(0, .sl rR0 decls_), (1, .sl rR5 values_), (2, .sl rR5 known_)], [], 3, .c (.b r), [], []⟩ := by
  refine Fn.intro _ _ Tryz.func16 rfl (by kernel_rfl) rfl (fun E F w => ?_)
  unfold z16 at h
  refine WP.seq (WP.region (WPr.sil htt 1 rfl (WPr.nil (WP.seq (WP.seq (WP.region (WPr.silx [3, 4, 5, 6, 7, 8, 9, 10, 11, 12, 13, 14] ⟨[(0, .c (.sl 0)), (1, .c (.i .i64 label_)), (2, .c (.sl 1)), (3, .c (.sl 2)), (8, .c (.b false)), (10, .c (.sl 0)), (11, .c (.i .i64 label_)), (12, .c (.sl 2))], [], [(0, .sl rR0 decls_), (1, .sl rR5 values_), (2, .sl rR5 known_)], 3⟩ htt 3 (by kernel_rfl) (?_))))))))
  obtain ⟨x1, hx1, h⟩ := ob h
  refine WPr.call (z33_ct N decls_ label_ known_ _ hx1) [(0, .sl 0), (1, .sl 2)] [] rfl rfl rfl rfl rfl rfl rfl rfl (.inl rfl) rfl (WPr.silx [6, 7, 8, 9, 10, 11, 12, 13, 14] ⟨[(0, .c (.sl 0)), (1, .c (.i .i64 label_)), (2, .c (.sl 1)), (3, .c (.sl 2)), (8, .c (.b false)), (15, .c (.b (!x1)))], [], [(0, .sl rR0 decls_), (1, .sl rR5 values_), (2, .sl rR5 known_)], 3⟩ htt 2 (by kernel_rfl) (?_))
  rcases oc h with ⟨hc, h⟩ | ⟨hc, h⟩
  · refine WPr.kb 15 hc rfl (WPr.silx [] ⟨[(0, .c (.sl 0)), (1, .c (.i .i64 label_)), (2, .c (.sl 1)), (3, .c (.sl 2)), (8, .c (.b false)), (24, .c (.b true))], [], [(0, .sl rR0 decls_), (1, .sl rR5 values_), (2, .sl rR5 known_)], 3⟩ htt 9 (by kernel_rfl) (WPr.nil (WP.condT rfl rfl (WP.seq (WP.region (WPr.sil htt 1 rfl (WPr.nil (?_))))))))
    cases h
    exact WP.ret htt Tryz.func16 [] rfl rfl rfl rfl
  refine WPr.kb 15 hc rfl (WPr.sil htt 2 rfl (?_))
  obtain ⟨x2, hx2, h⟩ := ob h
  refine WPr.ix oO0 htt hx2 rfl rfl rfl rfl rfl rfl rfl rfl rfl (WPr.silx [12, 13, 14] ⟨[(0, .c (.sl 0)), (1, .c (.i .i64 label_)), (2, .c (.sl 1)), (3, .c (.sl 2)), (8, .c (.b false)), (15, .c (.b false)), (20, .c (.sl 4)), (21, .c (.sl 1))], [], [(0, .sl rR0 decls_), (1, .sl rR5 values_), (2, .sl rR5 known_), (4, .sl rR2 x2.Fields)], 7⟩ htt 3 (by kernel_rfl) (?_))
  obtain ⟨x3, hx3, h⟩ := ob h
  refine WPr.call (z43_ct N x2.Fields values_ _ hx3) [(0, .sl 4), (1, .sl 1)] [] rfl rfl rfl rfl rfl rfl rfl rfl (.inl rfl) rfl (WPr.silx [] ⟨[(0, .c (.sl 0)), (1, .c (.i .i64 label_)), (2, .c (.sl 1)), (3, .c (.sl 2)), (8, .c (.b false)), (24, .c (.b (!x3)))], [], [(0, .sl rR0 decls_), (1, .sl rR5 values_), (2, .sl rR5 known_)], 7⟩ htt 2 (by kernel_rfl) (WPr.nil (?_)))
  rcases oc h with ⟨hc, h⟩ | ⟨hc, h⟩
  · refine WP.condT hc rfl (WP.seq (WP.region (WPr.sil htt 1 rfl (WPr.nil (?_)))))
    cases h
    exact WP.ret htt Tryz.func16 [] rfl rfl rfl rfl
  refine WP.condF hc rfl (WP.skip (WP.seq (WP.region (WPr.sil htt 2 rfl (?_)))))
  obtain ⟨x4, hx4, h⟩ := ob h
  refine WPr.ix oO0 htt hx4 rfl rfl rfl rfl rfl rfl rfl rfl rfl (WPr.silx [] ⟨[(2, .c (.sl 1)), (3, .c (.sl 2)), (8, .c (.b false)), (9, .c (.bp 11 0))], [(11, .box [.s x4.Name, .sl 8, .i .i64 x4.First, .sl 9, .sl 10] 44)], [(0, .sl rR0 decls_), (1, .sl rR5 values_), (2, .sl rR5 known_), (8, .sl rR2 x4.Fields), (9, .sl rR1 x4.Guard.Diffs), (10, .sl (rP (rI .i64) (rI .i64)) x4.Guard.Equals)], 12⟩ htt 3 (by kernel_rfl) (WPr.nil (WP.seq (WP.nm (fun A1 tA1 fA1 => ?_)))))
  have st5 : A1 0 ⟨[(9, .c (.bp 11 0))], [], [], [], 12, [(29, .c (.bp 11 3))], [], [], 12⟩ := tA1 _ _ (LS.sil htt rfl rfl rfl rfl rfl rfl)
  have st6 : A1 1 ⟨[(29, .c (.bp 11 3))], [(8, .sl rR2 x4.Fields), (9, .sl rR1 x4.Guard.Diffs), (10, .sl (rP (rI .i64) (rI .i64)) x4.Guard.Equals)], [], [(11, .box [.s x4.Name, .sl 8, .i .i64 x4.First, .sl 9, .sl 10] 44)], 12, [(30, .a [.sl 9, .sl 10])], [], [], 12⟩ := tA1 _ _ (LS.sil htt rfl rfl rfl rfl rfl rfl)
  have st7 : A1 2 ⟨[(9, .c (.bp 11 0))], [(8, .sl rR2 x4.Fields), (9, .sl rR1 x4.Guard.Diffs), (10, .sl (rP (rI .i64) (rI .i64)) x4.Guard.Equals)], [], [(11, .box [.s x4.Name, .sl 8, .i .i64 x4.First, .sl 9, .sl 10] 44)], 12, [(31, .a [.s x4.Name, .sl 8, .i .i64 x4.First, .sl 9, .sl 10])], [], [], 12⟩ := tA1 _ _ (LS.sil htt rfl rfl rfl rfl rfl rfl)
  have st8 : A1 3 ⟨[(2, .c (.sl 1))], [(1, .sl rR5 values_)], [], [], 12, [(32, .c (.sl 1))], [], [], 12⟩ := tA1 _ _ (LS.sil htt rfl rfl rfl rfl rfl rfl)
  have st9 : A1 4 ⟨[(3, .c (.sl 2))], [(2, .sl rR5 known_)], [], [], 12, [(33, .c (.sl 2))], [], [], 12⟩ := tA1 _ _ (LS.sil htt rfl rfl rfl rfl rfl rfl)
  obtain ⟨x10, hx10, h⟩ := ob h
  have st11 : A1 5 ⟨[(31, .a [.s x4.Name, .sl 8, .i .i64 x4.First, .sl 9, .sl 10]), (32, .c (.sl 1)), (33, .c (.sl 2))], [(1, .sl rR5 values_), (2, .sl rR5 known_), (8, .sl rR2 x4.Fields), (9, .sl rR1 x4.Guard.Diffs), (10, .sl (rP (rI .i64) (rI .i64)) x4.Guard.Equals)], [], [], 12, [(34, .c (.sl 12))], [], [(12, .own rR5 x10 true)], 13⟩ := tA1 _ _ (LS.of rfl rfl rfl (fun _ _ _ _ _ _ _ k => WPr.call (z40_ct N x4 values_ known_ _ hx10) [(0, .sl 8), (1, .sl 9), (2, .sl 10), (3, .sl 1), (4, .sl 2)] [] rfl rfl rfl rfl rfl rfl rfl rfl (.inl rfl) rfl (k)) rfl)
  obtain ⟨x12, hx12, h⟩ := ob h
  have st13 : A1 6 ⟨[(30, .a [.sl 9, .sl 10]), (34, .c (.sl 12))], [(9, .sl rR1 x4.Guard.Diffs), (10, .sl (rP (rI .i64) (rI .i64)) x4.Guard.Equals)], [], [(12, .own rR5 x10 true)], 13, [(35, .c (.b x12))], [], [], 13⟩ := tA1 _ _ (LS.of rfl rfl rfl (fun _ _ _ _ _ _ _ k => WPr.call (z42_ct N x4.Guard x10 _ hx12) [(0, .sl 9), (1, .sl 10), (2, .sl 12)] [12] rfl rfl rfl rfl rfl rfl rfl rfl (.inr ⟨rfl, trivial⟩) rfl (k)) rfl)
  have st14 : A1 7 ⟨[(35, .c (.b x12))], [], [], [], 13, [(8, .c (.b x12))], [], [], 13⟩ := tA1 _ _ (LS.sil htt rfl rfl rfl rfl rfl rfl)
  refine WP.regionD (t := ⟨[(8, .c (.b x12))], [], [(0, .sl rR0 decls_), (1, .sl rR5 values_), (2, .sl rR5 known_)], 13⟩) [0, 1, 0, 0, 0, 28, 63, 127] (.cons (fA1 _ _ st5) (.cons (fA1 _ _ st6) (.cons (fA1 _ _ st7) (.cons (fA1 _ _ st8) (.cons (fA1 _ _ st9) (.cons (fA1 _ _ st11) (.cons (fA1 _ _ st13) (.cons (fA1 _ _ st14) .nil)))))))) (by kernel_rfl) (by kernel_rfl) (by kernel_rfl) (by kernel_rfl) (?_)
  cases h
  exact WP.ret htt Tryz.func16 [] rfl rfl rfl rfl
theorem z15_ct (N : Nat) (a_ : (List T5)) (b_ : (List T5)) (r : Bool) (h : z15 N a_ b_ = some r) :
  Fn Tryz.prog 15 ⟨2, [.c (.sl 0), .c (.sl 1)], [(0, .sl rR5 a_), (1, .sl rR5 b_)], [], 2, .c (.b r), [], []⟩ := by
  refine Fn.intro _ _ Tryz.func15 rfl (by kernel_rfl) rfl (fun E F w => ?_)
  unfold z15 at h
  refine WP.seq (WP.region (WPr.sil htt 1 rfl (WPr.nil (WP.seq (WP.seq (WP.region (WPr.silx [] ⟨[(0, .c (.sl 0)), (1, .c (.sl 1)), (4, .c (.b false)), (10, .c (.b ((a_.length : Int) != (b_.length : Int))))], [], [(0, .sl rR5 a_), (1, .sl rR5 b_)], 2⟩ htt 5 (by kernel_rfl) (WPr.nil (?_)))))))))
  rcases oc h with ⟨hc, h⟩ | ⟨hc, h⟩
  · refine WP.condT hc rfl (WP.seq (WP.region (WPr.sil htt 1 rfl (WPr.nil (?_)))))
    cases h
    exact WP.ret htt Tryz.func15 [] rfl rfl rfl rfl
  refine WP.condF hc rfl (WP.skip (WP.seq (WP.seq (WP.region (WPr.sil htt 1 rfl (WPr.nil (?_)))))))
  refine WP.cut (σ := Unit) (fun st => ⟨[], [], [(0, .sl rR5 a_), (1, .sl rR5 b_)], 2⟩) (fun st => z15_k1 = some r) ?_ (fun j1 => ?_)
  · intro _ h
    replace h : z15_k1 = some r := h
    unfold z15_k1 at h
    refine WP.seq (WP.region (WPr.sil htt 1 rfl (WPr.nil (?_))))
    cases h
    exact WP.ret htt Tryz.func15 [] rfl rfl rfl rfl
  refine WP.block (?_)
  refine WP.loopI (σ := Int) (fun st => ⟨[(0, .c (.sl 0)), (1, .c (.sl 1)), (5, .c (.i .i64 st))], [], [(0, .sl rR5 a_), (1, .sl rR5 b_)], 2⟩) (fun n st => z15_l2 a_ b_ n st) (r := r) (fun _ => rfl) ?_ (fun ih => ?_)
  · intro n2 ih3
    intro v5_3 h
    replace h : z15_l2 a_ b_ (n2 + 1) v5_3 = some r := h
    unfold z15_l2 at h
    refine WP.seq (WP.seq (WP.region (WPr.silx [] ⟨[(0, .c (.sl 0)), (1, .c (.sl 1)), (5, .c (.i .i64 v5_3)), (14, .c (.b (decide (v5_3 < (a_.length : Int)))))], [], [(0, .sl rR5 a_), (1, .sl rR5 b_)], 2⟩ htt 4 (by kernel_rfl) (WPr.nil (?_)))))
    rcases oc' h with ⟨hc, h⟩ | ⟨hc, h⟩
    · exact WP.condF hc rfl (WP.exit rfl (WP.sub [] (j1 () h) rfl rfl rfl rfl))
    refine WP.condT hc rfl (WP.skip (WP.seq (WP.block (WP.seq (WP.regionQ (by kernel_rfl) (by kernel_rfl) (WPq.sil htt 2 rfl (?_)))))))
    obtain ⟨x35, hx35, h⟩ := ob h
    refine WPq.op rfl rfl (VN.vs (VN.ix oO5 htt hx35 rfl rfl rfl rfl rfl rfl rfl)) (WPq.silx [6, 7, 8] ⟨[(0, .c (.sl 0)), (1, .c (.sl 1)), (5, .c (.i .i64 v5_3)), (20, .a [.i .i64 x35.Kind, .i .i64 x35.N, .s x35.S]), (21, .c (.sl 1)), (22, .c (.i .i64 v5_3))], [], [(0, .sl rR5 a_), (1, .sl rR5 b_)], 3⟩ htt 3 (by kernel_rfl) (?_))
    obtain ⟨x36, hx36, h⟩ := ob h
    refine WPq.op rfl rfl (VN.vs (VN.ix oO5 htt hx36 rfl rfl rfl rfl rfl rfl rfl)) (WPq.sil htt 1 rfl (WPq.op rfl rfl (VN.vs (VN.eqa (neg := true) (equal_run (b := ((x35.Kind == x36.Kind) && ((x35.N == x36.N) && ((x35.S.toList == x36.S.toList) && true)))) (by kernel_rfl) (by kernel_rfl)) (by kernel_rfl) rfl rfl rfl rfl rfl)) (WPq.silx [] ⟨[(0, .c (.sl 0)), (1, .c (.sl 1)), (5, .c (.i .i64 v5_3)), (25, .c (.b (!((x35.Kind == x36.Kind) && ((x35.N == x36.N) && ((x35.S.toList == x36.S.toList) && true))))))], [], [(0, .sl rR5 a_), (1, .sl rR5 b_)], 4⟩ htt 0 (by kernel_rfl) (WPq.nil (?_)))))
    rcases oc h with ⟨hc, h⟩ | ⟨hc, h⟩
    · refine WP.condT hc rfl (WP.seq (WP.region (WPr.sil htt 1 rfl (WPr.nil (?_)))))
      cases h
      exact WP.ret htt Tryz.func15 [] rfl rfl rfl rfl
    exact WP.condF hc rfl (WP.skip (WP.inBlock (WP.region (WPr.silx [] ⟨[(0, .c (.sl 0)), (1, .c (.sl 1)), (5, .c (.i .i64 (w64 (v5_3 + (1 : Int)))))], [], [(0, .sl rR5 a_), (1, .sl rR5 b_)], 4⟩ htt 3 (by kernel_rfl) (WPr.nil (WP.sub [] (ih3 (w64 (v5_3 + (1 : Int))) h) rfl rfl rfl rfl))))))
  exact WP.sub [] (ih N (0 : Int) h) rfl rfl rfl rfl
theorem law14_GuardOwn_ct (N : Nat) (d_ : (List T0)) (label_ : Int) (c_ : T6) (r : Bool) (h : law14_GuardOwn N d_ label_ c_ = some r) :
  Fn Tryz.prog 5 ⟨3, [.c (.sl 0), .c (.i .i64 label_), .a [.sl 1, .sl 2]], [(0, .sl rR0 d_), (1, .sl rR5 c_.Values), (2, .sl rR5 c_.Known)], [], 3, .c (.b r), [], []⟩ := by
  refine Fn.intro _ _ Tryz.func5 rfl (by kernel_rfl) rfl (fun E F w => ?_)
  unfold law14_GuardOwn at h
  refine WP.seq (WP.region (WPr.sil htt 2 rfl (WPr.nil (WP.seq (WP.seq (WP.region (?_)))))))
  obtain ⟨x1, hx1, h⟩ := ob h
  refine WPr.call (z11_ct N _ hx1) [] [] rfl rfl rfl rfl rfl rfl rfl rfl (.inl rfl) rfl (WPr.silx [3, 4, 5, 6, 7, 8, 9, 10, 11, 12, 13, 14, 15, 16, 17, 18, 19, 20, 21, 22, 23, 24, 25, 26, 27, 28, 29, 30, 31, 32] ⟨[(0, .c (.sl 0)), (1, .c (.i .i64 label_)), (5, .c (.bp 3 0)), (6, .c (.b false)), (15, .c (.b (!x1)))], [(3, .box [.sl 1, .sl 2] 31)], [(0, .sl rR0 d_), (1, .sl rR5 c_.Values), (2, .sl rR5 c_.Known)], 4⟩ htt 2 (by kernel_rfl) (?_))
  rcases oc h with ⟨hc, h⟩ | ⟨hc, h⟩
  · refine WPr.kb 15 hc rfl (WPr.silx [] ⟨[(0, .c (.sl 0)), (1, .c (.i .i64 label_)), (5, .c (.bp 3 0)), (6, .c (.b false)), (45, .c (.b true))], [(3, .box [.sl 1, .sl 2] 31)], [(0, .sl rR0 d_), (1, .sl rR5 c_.Values), (2, .sl rR5 c_.Known)], 4⟩ htt 30 (by kernel_rfl) (WPr.nil (WP.condT rfl rfl (WP.seq (WP.region (?_))))))
    obtain ⟨x2, hx2, h⟩ := ob h
    refine WPr.call (z11_ct N _ hx2) [] [] rfl rfl rfl rfl rfl rfl rfl rfl (.inl rfl) rfl (WPr.silx [] ⟨[(6, .c (.b x2))], [], [(0, .sl rR0 d_), (1, .sl rR5 c_.Values), (2, .sl rR5 c_.Known)], 4⟩ htt 1 (by kernel_rfl) (WPr.nil (?_)))
    cases h
    exact WP.ret htt Tryz.func5 [] rfl rfl rfl rfl
  refine WPr.kb 15 hc rfl (WPr.silx [8, 9, 10, 11, 12, 13, 14, 15, 16, 17, 18, 19, 20, 21, 22, 23, 24, 25, 26, 27, 28, 29, 30, 31, 32] ⟨[(0, .c (.sl 0)), (1, .c (.i .i64 label_)), (5, .c (.bp 3 0)), (6, .c (.b false)), (15, .c (.b false)), (16, .c (.sl 0)), (18, .c (.sl 1)), (20, .c (.sl 2))], [(3, .box [.sl 1, .sl 2] 31)], [(0, .sl rR0 d_), (1, .sl rR5 c_.Values), (2, .sl rR5 c_.Known)], 4⟩ htt 5 (by kernel_rfl) (?_))
  obtain ⟨x3, hx3, h⟩ := ob h
  refine WPr.call (z12_ct N d_ c_.Values c_.Known _ hx3) [(0, .sl 0), (1, .sl 1), (2, .sl 2)] [] rfl rfl rfl rfl rfl rfl rfl rfl (.inl rfl) rfl (WPr.silx [12, 13, 14, 15, 16, 17, 18, 19, 20, 21, 22, 23, 24, 25, 26, 27, 28, 29, 30, 31, 32] ⟨[(0, .c (.sl 0)), (1, .c (.i .i64 label_)), (5, .c (.bp 3 0)), (6, .c (.b false)), (24, .c (.b (!x3)))], [(3, .box [.sl 1, .sl 2] 31)], [(0, .sl rR0 d_), (1, .sl rR5 c_.Values), (2, .sl rR5 c_.Known)], 4⟩ htt 3 (by kernel_rfl) (?_))
  rcases oc h with ⟨hc, h⟩ | ⟨hc, h⟩
  · refine WPr.kb 24 hc rfl (WPr.silx [] ⟨[(0, .c (.sl 0)), (1, .c (.i .i64 label_)), (5, .c (.bp 3 0)), (6, .c (.b false)), (45, .c (.b true))], [(3, .box [.sl 1, .sl 2] 31)], [(0, .sl rR0 d_), (1, .sl rR5 c_.Values), (2, .sl rR5 c_.Known)], 4⟩ htt 21 (by kernel_rfl) (WPr.nil (WP.condT rfl rfl (WP.seq (WP.region (?_))))))
    obtain ⟨x4, hx4, h⟩ := ob h
    refine WPr.call (z11_ct N _ hx4) [] [] rfl rfl rfl rfl rfl rfl rfl rfl (.inl rfl) rfl (WPr.silx [] ⟨[(6, .c (.b x4))], [], [(0, .sl rR0 d_), (1, .sl rR5 c_.Values), (2, .sl rR5 c_.Known)], 4⟩ htt 1 (by kernel_rfl) (WPr.nil (?_)))
    cases h
    exact WP.ret htt Tryz.func5 [] rfl rfl rfl rfl
  refine WPr.kb 24 hc rfl (WPr.sil htt 1 rfl (?_))
  obtain ⟨x5, hx5, h⟩ := ob h
  refine WPr.call (z18_ct N d_ _ hx5) [(0, .sl 0)] [] rfl rfl rfl rfl rfl rfl rfl rfl (.inl rfl) rfl (WPr.silx [17, 18, 19, 20, 21, 22, 23, 24, 25, 26, 27, 28, 29, 30, 31, 32] ⟨[(0, .c (.sl 0)), (1, .c (.i .i64 label_)), (5, .c (.bp 3 0)), (6, .c (.b false)), (29, .c (.b (!x5)))], [(3, .box [.sl 1, .sl 2] 31)], [(0, .sl rR0 d_), (1, .sl rR5 c_.Values), (2, .sl rR5 c_.Known)], 4⟩ htt 3 (by kernel_rfl) (?_))
  rcases oc h with ⟨hc, h⟩ | ⟨hc, h⟩
  · refine WPr.kb 29 hc rfl (WPr.silx [] ⟨[(0, .c (.sl 0)), (1, .c (.i .i64 label_)), (5, .c (.bp 3 0)), (6, .c (.b false)), (45, .c (.b true))], [(3, .box [.sl 1, .sl 2] 31)], [(0, .sl rR0 d_), (1, .sl rR5 c_.Values), (2, .sl rR5 c_.Known)], 4⟩ htt 16 (by kernel_rfl) (WPr.nil (WP.condT rfl rfl (WP.seq (WP.region (?_))))))
    obtain ⟨x6, hx6, h⟩ := ob h
    refine WPr.call (z11_ct N _ hx6) [] [] rfl rfl rfl rfl rfl rfl rfl rfl (.inl rfl) rfl (WPr.silx [] ⟨[(6, .c (.b x6))], [], [(0, .sl rR0 d_), (1, .sl rR5 c_.Values), (2, .sl rR5 c_.Known)], 4⟩ htt 1 (by kernel_rfl) (WPr.nil (?_)))
    cases h
    exact WP.ret htt Tryz.func5 [] rfl rfl rfl rfl
  refine WPr.kb 29 hc rfl (WPr.silx [20, 21, 22, 23, 24, 25, 26, 27, 28, 29, 30, 31, 32] ⟨[(0, .c (.sl 0)), (1, .c (.i .i64 label_)), (5, .c (.bp 3 0)), (6, .c (.b false)), (29, .c (.b false)), (30, .c (.sl 0)), (32, .c (.sl 2))], [(3, .box [.sl 1, .sl 2] 31)], [(0, .sl rR0 d_), (1, .sl rR5 c_.Values), (2, .sl rR5 c_.Known)], 4⟩ htt 3 (by kernel_rfl) (?_))
  obtain ⟨x7, hx7, h⟩ := ob h
  refine WPr.call (z19_ct N d_ c_.Known _ hx7) [(0, .sl 0), (1, .sl 2)] [] rfl rfl rfl rfl rfl rfl rfl rfl (.inl rfl) rfl (WPr.silx [24, 25, 26, 27, 28, 29, 30, 31, 32] ⟨[(0, .c (.sl 0)), (1, .c (.i .i64 label_)), (5, .c (.bp 3 0)), (6, .c (.b false)), (36, .c (.b (!x7)))], [(3, .box [.sl 1, .sl 2] 31)], [(0, .sl rR0 d_), (1, .sl rR5 c_.Values), (2, .sl rR5 c_.Known)], 4⟩ htt 3 (by kernel_rfl) (?_))
  rcases oc h with ⟨hc, h⟩ | ⟨hc, h⟩
  · refine WPr.kb 36 hc rfl (WPr.silx [] ⟨[(0, .c (.sl 0)), (1, .c (.i .i64 label_)), (5, .c (.bp 3 0)), (6, .c (.b false)), (45, .c (.b true))], [(3, .box [.sl 1, .sl 2] 31)], [(0, .sl rR0 d_), (1, .sl rR5 c_.Values), (2, .sl rR5 c_.Known)], 4⟩ htt 9 (by kernel_rfl) (WPr.nil (WP.condT rfl rfl (WP.seq (WP.region (?_))))))
    obtain ⟨x8, hx8, h⟩ := ob h
    refine WPr.call (z11_ct N _ hx8) [] [] rfl rfl rfl rfl rfl rfl rfl rfl (.inl rfl) rfl (WPr.silx [] ⟨[(6, .c (.b x8))], [], [(0, .sl rR0 d_), (1, .sl rR5 c_.Values), (2, .sl rR5 c_.Known)], 4⟩ htt 1 (by kernel_rfl) (WPr.nil (?_)))
    cases h
    exact WP.ret htt Tryz.func5 [] rfl rfl rfl rfl
  refine WPr.kb 36 hc rfl (WPr.silx [28, 29, 30, 31, 32] ⟨[(0, .c (.sl 0)), (1, .c (.i .i64 label_)), (5, .c (.bp 3 0)), (6, .c (.b false)), (40, .c (.b (decide (label_ < (0 : Int)))))], [(3, .box [.sl 1, .sl 2] 31)], [(0, .sl rR0 d_), (1, .sl rR5 c_.Values), (2, .sl rR5 c_.Known)], 4⟩ htt 4 (by kernel_rfl) (?_))
  rcases oc h with ⟨hc, h⟩ | ⟨hc, h⟩
  · refine WPr.kb 40 hc rfl (WPr.silx [] ⟨[(0, .c (.sl 0)), (1, .c (.i .i64 label_)), (5, .c (.bp 3 0)), (6, .c (.b false)), (45, .c (.b true))], [(3, .box [.sl 1, .sl 2] 31)], [(0, .sl rR0 d_), (1, .sl rR5 c_.Values), (2, .sl rR5 c_.Known)], 4⟩ htt 5 (by kernel_rfl) (WPr.nil (WP.condT rfl rfl (WP.seq (WP.region (?_))))))
    obtain ⟨x9, hx9, h⟩ := ob h
    refine WPr.call (z11_ct N _ hx9) [] [] rfl rfl rfl rfl rfl rfl rfl rfl (.inl rfl) rfl (WPr.silx [] ⟨[(6, .c (.b x9))], [], [(0, .sl rR0 d_), (1, .sl rR5 c_.Values), (2, .sl rR5 c_.Known)], 4⟩ htt 1 (by kernel_rfl) (WPr.nil (?_)))
    cases h
    exact WP.ret htt Tryz.func5 [] rfl rfl rfl rfl
  refine WPr.kb 40 hc rfl (WPr.silx [] ⟨[(0, .c (.sl 0)), (1, .c (.i .i64 label_)), (5, .c (.bp 3 0)), (6, .c (.b false)), (45, .c (.b (decide (label_ ≥ (d_.length : Int)))))], [(3, .box [.sl 1, .sl 2] 31)], [(0, .sl rR0 d_), (1, .sl rR5 c_.Values), (2, .sl rR5 c_.Known)], 4⟩ htt 5 (by kernel_rfl) (WPr.nil (?_)))
  rcases oc h with ⟨hc, h⟩ | ⟨hc, h⟩
  · refine WP.condT hc rfl (WP.seq (WP.region (?_)))
    obtain ⟨x10, hx10, h⟩ := ob h
    refine WPr.call (z11_ct N _ hx10) [] [] rfl rfl rfl rfl rfl rfl rfl rfl (.inl rfl) rfl (WPr.silx [] ⟨[(6, .c (.b x10))], [], [(0, .sl rR0 d_), (1, .sl rR5 c_.Values), (2, .sl rR5 c_.Known)], 4⟩ htt 1 (by kernel_rfl) (WPr.nil (?_)))
    cases h
    exact WP.ret htt Tryz.func5 [] rfl rfl rfl rfl
  refine WP.condF hc rfl (WP.skip (WP.seq (WP.region (WPr.bs (cs := []) oO5 htt ([] : List T5) rfl rfl rfl rfl rfl rfl (by kernel_rfl) (by exact rfl) rfl (WPr.silx [3, 4] ⟨[(0, .c (.sl 0)), (1, .c (.i .i64 label_)), (5, .c (.bp 3 0)), (6, .c (.b false)), (47, .c (.sl 4)), (49, .c (.sl 2))], [(3, .box [.sl 1, .sl 2] 31), (4, .own rR5 ([] : List T5) true)], [(0, .sl rR0 d_), (1, .sl rR5 c_.Values), (2, .sl rR5 c_.Known)], 5⟩ htt 2 (by kernel_rfl) (?_))))))
  obtain ⟨x11, hx11, h⟩ := ob h
  refine WPr.app htt hx11 (by exact (srcI rfl)) rfl rfl rfl rfl rfl rfl rfl rfl rfl rfl (WPr.silx [] ⟨[(0, .c (.sl 0)), (1, .c (.i .i64 label_)), (5, .c (.bp 3 0)), (6, .c (.b false)), (7, .c (.sl 5))], [(3, .box [.sl 1, .sl 2] 31), (5, .own rR5 x11 true)], [(0, .sl rR0 d_), (1, .sl rR5 c_.Values), (2, .sl rR5 c_.Known)], 6⟩ htt 1 (by kernel_rfl) (WPr.nil (WP.seq (WP.seq (WP.region (WPr.sil htt 2 rfl (?_)))))))
  obtain ⟨x12, hx12, h⟩ := ob h
  refine WPr.ix oO0 htt hx12 rfl rfl rfl rfl rfl rfl rfl rfl rfl (WPr.silx [] ⟨[(0, .c (.sl 0)), (1, .c (.i .i64 label_)), (5, .c (.bp 3 0)), (6, .c (.b false)), (7, .c (.sl 5)), (56, .c (.i .i64 (x12.Fields.length : Int))), (57, .c (.i .i64 (0 : Int)))], [(3, .box [.sl 1, .sl 2] 31), (5, .own rR5 x11 true)], [(0, .sl rR0 d_), (1, .sl rR5 c_.Values), (2, .sl rR5 c_.Known)], 10⟩ htt 4 (by kernel_rfl) (WPr.nil (?_)))
  refine WP.cut (σ := (List T5)) (fun st => ⟨[(0, .c (.sl 0)), (1, .c (.i .i64 label_)), (5, .c (.bp 3 0)), (7, .c (.sl 5))], [(3, .box [.sl 1, .sl 2] 31), (5, .own rR5 st true)], [(0, .sl rR0 d_), (1, .sl rR5 c_.Values), (2, .sl rR5 c_.Known)], 10⟩) (fun st => law14_GuardOwn_k1 N d_ label_ c_ st = some r) ?_ (fun j1 => ?_)
  · intro v7_1 h
    replace h : law14_GuardOwn_k1 N d_ label_ c_ v7_1 = some r := h
    unfold law14_GuardOwn_k1 at h
    refine WP.seq (WP.region (WPr.silx [4, 5, 6, 7, 8, 9] ⟨[(0, .c (.sl 0)), (1, .c (.i .i64 label_)), (5, .c (.bp 3 0)), (7, .c (.sl 5)), (72, .c (.sl 0)), (73, .c (.i .i64 label_)), (75, .c (.sl 2))], [(3, .box [.sl 1, .sl 2] 31), (5, .own rR5 v7_1 true)], [(0, .sl rR0 d_), (1, .sl rR5 c_.Values), (2, .sl rR5 c_.Known)], 10⟩ htt 4 (by kernel_rfl) (?_)))
    obtain ⟨x21, hx21, h⟩ := ob h
    refine WPr.call (z13_ct N d_ label_ c_.Known _ hx21) [(0, .sl 0), (1, .sl 2)] [] rfl rfl rfl rfl rfl rfl rfl rfl (.inl rfl) rfl (WPr.silx [] ⟨[(0, .c (.sl 0)), (1, .c (.i .i64 label_)), (5, .c (.bp 3 0)), (7, .c (.sl 5)), (9, .c (.sl 10)), (10, .c (.b x21.2))], [(3, .box [.sl 1, .sl 2] 31), (5, .own rR5 v7_1 true), (10, .own rR5 x21.1 true)], [(0, .sl rR0 d_), (1, .sl rR5 c_.Values), (2, .sl rR5 c_.Known)], 11⟩ htt 5 (by kernel_rfl) (WPr.nil (WP.seq (WP.region (WPr.silx [3, 4, 5, 6, 7, 8] ⟨[(0, .c (.sl 0)), (1, .c (.i .i64 label_)), (5, .c (.bp 3 0)), (7, .c (.sl 5)), (9, .c (.sl 10)), (10, .c (.b x21.2)), (80, .c (.sl 0)), (81, .c (.i .i64 label_)), (82, .c (.sl 5))], [(3, .box [.sl 1, .sl 2] 31), (5, .own rR5 v7_1 true), (10, .own rR5 x21.1 true)], [(0, .sl rR0 d_), (1, .sl rR5 c_.Values), (2, .sl rR5 c_.Known)], 11⟩ htt 3 (by kernel_rfl) (?_))))))
    obtain ⟨x22, hx22, h⟩ := ob h
    refine WPr.call (z13_ct N d_ label_ v7_1 _ hx22) [(0, .sl 0), (1, .sl 5)] [5] rfl rfl rfl rfl rfl rfl rfl rfl (.inr ⟨rfl, ⟨(rM_flat (rP_flat (rI_flat _) (rP_flat (rI_flat _) rS_flat))), trivial⟩⟩) rfl (WPr.silx [] ⟨[(0, .c (.sl 0)), (1, .c (.i .i64 label_)), (5, .c (.bp 3 0)), (7, .c (.sl 5)), (9, .c (.sl 10)), (10, .c (.b x21.2)), (11, .c (.sl 11)), (12, .c (.b x22.2))], [(3, .box [.sl 1, .sl 2] 31), (5, .own rR5 v7_1 true), (10, .own rR5 x21.1 true), (11, .own rR5 x22.1 true)], [(0, .sl rR0 d_), (1, .sl rR5 c_.Values), (2, .sl rR5 c_.Known)], 12⟩ htt 5 (by kernel_rfl) (WPr.nil (WP.seq (WP.regionQ (by kernel_rfl) (by kernel_rfl) (WPq.silx [6, 7, 8, 9, 10, 11, 12, 13, 14, 15, 16, 17, 18, 19, 20, 21, 22, 23, 24] ⟨[(0, .c (.sl 0)), (1, .c (.i .i64 label_)), (5, .c (.bp 3 0)), (7, .c (.sl 5)), (9, .c (.sl 10)), (10, .c (.b x21.2)), (11, .c (.sl 11)), (12, .c (.b x22.2)), (86, .c (.sl 0)), (87, .c (.i .i64 label_)), (89, .c (.sl 1)), (91, .c (.sl 2))], [(3, .box [.sl 1, .sl 2] 31), (5, .own rR5 v7_1 true), (10, .own rR5 x21.1 true), (11, .own rR5 x22.1 true)], [(0, .sl rR0 d_), (1, .sl rR5 c_.Values), (2, .sl rR5 c_.Known)], 12⟩ htt 6 (by kernel_rfl) (?_))))))
    obtain ⟨x26, hx26, h⟩ := ob h
    refine WPq.call (z16_ct N d_ label_ c_.Values c_.Known _ hx26) [(0, .sl 0), (1, .sl 1), (2, .sl 2)] [] rfl rfl rfl rfl rfl rfl rfl rfl rfl rfl rfl rfl (WPq.silx [12, 13, 14, 15, 16, 17, 18, 19, 20, 21, 22, 23, 24] ⟨[(9, .c (.sl 10)), (10, .c (.b x21.2)), (11, .c (.sl 11)), (12, .c (.b x22.2)), (92, .c (.b x26)), (93, .c (.sl 0)), (94, .c (.i .i64 label_)), (96, .c (.sl 1)), (97, .c (.sl 5))], [(5, .own rR5 v7_1 true), (10, .own rR5 x21.1 true), (11, .own rR5 x22.1 true)], [(0, .sl rR0 d_), (1, .sl rR5 c_.Values), (2, .sl rR5 c_.Known)], 12⟩ htt 5 (by kernel_rfl) (?_))
    obtain ⟨x27, hx27, h⟩ := ob h
    refine WPq.call (z16_ct N d_ label_ c_.Values v7_1 _ hx27) [(0, .sl 0), (1, .sl 1), (2, .sl 5)] [5] rfl rfl rfl rfl rfl rfl rfl rfl rfl rfl rfl rfl (WPq.silx [15, 16, 17, 18, 19, 20, 21, 22, 23, 24] ⟨[(9, .c (.sl 10)), (10, .c (.b x21.2)), (11, .c (.sl 11)), (12, .c (.b x22.2)), (100, .c (.b (x26 == x27)))], [(10, .own rR5 x21.1 true), (11, .own rR5 x22.1 true)], [(0, .sl rR0 d_), (1, .sl rR5 c_.Values), (2, .sl rR5 c_.Known)], 12⟩ htt 2 (by kernel_rfl) (?_))
    rcases oc' h with ⟨hc, h⟩ | ⟨hc, h⟩
    · refine WPq.kb 100 hc rfl (WPq.silx [] ⟨[(6, .c (.b false))], [], [(0, .sl rR0 d_), (1, .sl rR5 c_.Values), (2, .sl rR5 c_.Known)], 12⟩ htt 10 (by kernel_rfl) (WPq.nil (?_)))
      cases h
      exact WP.ret htt Tryz.func5 [] rfl rfl rfl rfl
    refine WPq.kb 100 hc rfl (WPq.silx [20, 21, 22, 23, 24] ⟨[(9, .c (.sl 10)), (11, .c (.sl 11)), (105, .c (.b (x21.2 == x22.2)))], [(10, .own rR5 x21.1 true), (11, .own rR5 x22.1 true)], [(0, .sl rR0 d_), (1, .sl rR5 c_.Values), (2, .sl rR5 c_.Known)], 12⟩ htt 5 (by kernel_rfl) (?_))
    rcases oc' h with ⟨hc, h⟩ | ⟨hc, h⟩
    · refine WPq.kb 105 hc rfl (WPq.silx [] ⟨[(6, .c (.b false))], [], [(0, .sl rR0 d_), (1, .sl rR5 c_.Values), (2, .sl rR5 c_.Known)], 12⟩ htt 5 (by kernel_rfl) (WPq.nil (?_)))
      cases h
      exact WP.ret htt Tryz.func5 [] rfl rfl rfl rfl
    refine WPq.kb 105 hc rfl (WPq.sil htt 2 rfl (?_))
    obtain ⟨x28, hx28, h⟩ := ob h
    refine WPq.call (z15_ct N x21.1 x22.1 _ hx28) [(0, .sl 10), (1, .sl 11)] [10, 11] rfl rfl rfl rfl rfl rfl rfl rfl rfl rfl rfl rfl (WPq.silx [] ⟨[(6, .c (.b x28))], [], [(0, .sl rR0 d_), (1, .sl rR5 c_.Values), (2, .sl rR5 c_.Known)], 12⟩ htt 2 (by kernel_rfl) (WPq.nil (?_)))
    cases h
    exact WP.ret htt Tryz.func5 [] rfl rfl rfl rfl
  refine WP.block (?_)
  refine WP.loopI (σ := (List T5) × Int) (fun st => ⟨[(0, .c (.sl 0)), (1, .c (.i .i64 label_)), (5, .c (.bp 3 0)), (7, .c (.sl 5)), (56, .c (.i .i64 (x12.Fields.length : Int))), (57, .c (.i .i64 st.2))], [(3, .box [.sl 1, .sl 2] 31), (5, .own rR5 st.1 true)], [(0, .sl rR0 d_), (1, .sl rR5 c_.Values), (2, .sl rR5 c_.Known)], 10⟩) (fun n st => law14_GuardOwn_l2 N d_ label_ c_ x12 n st.1 st.2) (r := r) (fun _ => rfl) ?_ (fun ih => ?_)
  · intro n2 ih3
    rintro ⟨v7_3, v57_3⟩ h
    replace h : law14_GuardOwn_l2 N d_ label_ c_ x12 (n2 + 1) v7_3 v57_3 = some r := h
    unfold law14_GuardOwn_l2 at h
    refine WP.seq (WP.region (WPr.sil htt 1 rfl (WPr.nil (WP.seq (?_)))))
    rcases oc' h with ⟨hc, h⟩ | ⟨hc, h⟩
    · exact WP.condF hc rfl (WP.exit rfl (WP.sub [] (j1 v7_3 h) rfl rfl rfl rfl))
    refine WP.condT hc rfl (WP.skip (WP.seq (WP.block (WP.seq (WP.region (WPr.silx [] ⟨[(0, .c (.sl 0)), (1, .c (.i .i64 label_)), (5, .c (.bp 3 0)), (7, .c (.sl 5)), (8, .c (.i .i64 v57_3)), (56, .c (.i .i64 (x12.Fields.length : Int))), (57, .c (.i .i64 v57_3))], [(3, .box [.sl 1, .sl 2] 31), (5, .own rR5 v7_3 true)], [(0, .sl rR0 d_), (1, .sl rR5 c_.Values), (2, .sl rR5 c_.Known)], 10⟩ htt 2 (by kernel_rfl) (WPr.nil (WP.region (WPr.silx [3, 4, 5, 6, 7, 8, 9, 10] ⟨[(0, .c (.sl 0)), (1, .c (.i .i64 label_)), (5, .c (.bp 3 0)), (7, .c (.sl 5)), (8, .c (.i .i64 v57_3)), (56, .c (.i .i64 (x12.Fields.length : Int))), (57, .c (.i .i64 v57_3)), (60, .c (.sl 5)), (61, .c (.sl 0)), (62, .c (.i .i64 label_))], [(3, .box [.sl 1, .sl 2] 31), (5, .own rR5 v7_3 true)], [(0, .sl rR0 d_), (1, .sl rR5 c_.Values), (2, .sl rR5 c_.Known)], 10⟩ htt 3 (by kernel_rfl) (?_))))))))))
    obtain ⟨x37, hx37, h⟩ := ob h
    refine WPr.ix oO0 htt hx37 rfl rfl rfl rfl rfl rfl rfl rfl rfl (WPr.silx [9, 10] ⟨[(0, .c (.sl 0)), (1, .c (.i .i64 label_)), (5, .c (.bp 3 0)), (7, .c (.sl 5)), (56, .c (.i .i64 (x12.Fields.length : Int))), (57, .c (.i .i64 v57_3)), (60, .c (.sl 5)), (67, .c (.i .i64 (w64 (x37.First + v57_3)))), (68, .a [.i .i64 (0 : Int), .i .i64 (0 : Int), .s (str [])])], [(3, .box [.sl 1, .sl 2] 31), (5, .own rR5 v7_3 true)], [(0, .sl rR0 d_), (1, .sl rR5 c_.Values), (2, .sl rR5 c_.Known)], 14⟩ htt 5 (by kernel_rfl) (?_))
    obtain ⟨x38, hx38, h⟩ := ob h
    exact WPr.ixo htt hx38 rfl rfl rfl rfl rfl rfl rfl rfl rfl (WPr.sto oO5 htt (⟨(0 : Int), (0 : Int), (str [])⟩ : T5) hx38 rfl rfl rfl rfl rfl rfl rfl rfl rfl rfl (by exact (an rfl (an rfl rfl))) rfl (WPr.nil (WP.inBlock (WP.region (WPr.silx [] ⟨[(0, .c (.sl 0)), (1, .c (.i .i64 label_)), (5, .c (.bp 3 0)), (7, .c (.sl 5)), (56, .c (.i .i64 (x12.Fields.length : Int))), (57, .c (.i .i64 (w64 (v57_3 + (1 : Int)))))], [(3, .box [.sl 1, .sl 2] 31), (5, .own rR5 (setL' v7_3 (w64 (x37.First + v57_3)) (⟨(0 : Int), (0 : Int), (str [])⟩ : T5)) true)], [(0, .sl rR0 d_), (1, .sl rR5 c_.Values), (2, .sl rR5 c_.Known)], 15⟩ htt 2 (by kernel_rfl) (WPr.nil (WP.sub [] (ih3 ((setL' v7_3 (w64 (x37.First + v57_3)) (⟨(0 : Int), (0 : Int), (str [])⟩ : T5)), (w64 (v57_3 + (1 : Int)))) h) rfl rfl rfl rfl)))))))
  exact WP.sub [] (ih N (x11, (0 : Int)) h) rfl rfl rfl rfl
end Gx
end
