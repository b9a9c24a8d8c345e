/- Each function of the statement computes what its plain definition says, part 4. -/
import Derived.Test.YtenajajnbmfijaaGreatDoorGlobalEndsWalk3
set_option linter.all false
section
set_option linter.unusedVariables false
set_option maxRecDepth 10000
set_option maxHeartbeats 4000000
open Go Go.Kx Go.Proofs
namespace Gx
theorem z52_ct (N : Nat) (g_ : T4) (r : Bool) (h : z52 N g_ = some r) :
  Fn Tryz.prog 52 ⟨4, [.a (cC4 0 1 2 3 g_)], (vV4 0 1 2 3 g_ []), [], 4, .O r, [], []⟩ := by
  refine Fn.intro _ _ Tryz.func52 rfl (by kernel_rfl) rfl (fun E F w => ?_)
  unfold z52 at h
  refine WP.seq (WP.region (WPr.sil htt 2 rfl (WPr.nil (WP.seq (WP.seq (WP.region (WPr.silx [] ⟨[(1, .B 4 0), (2, .O false), (3, .I (0 : Int))], [(4, .box (cC4 0 1 2 3 g_) 27)], (vV4 0 1 2 3 g_ []), 5⟩ htt 1 (by kernel_rfl) (WPr.nil (?_)))))))))
  refine WP.cut (σ := Unit) (fun st => ⟨[(1, .B 4 0)], [(4, .box (cC4 0 1 2 3 g_) 27)], (vV4 0 1 2 3 g_ []), 5⟩) (fun st => z52_k1 N g_ = some r) ?_ (fun j1 => ?_)
  · intro _ h
    replace h : z52_k1 N g_ = some r := h
    unfold z52_k1 at h
    refine WP.seq (WP.region (WPr.silx (rg 4 23) ⟨[(1, .B 4 0), (86, .O (decide (g_.States ≥ (1 : Int))))], [(4, .box (cC4 0 1 2 3 g_) 27)], (vV4 0 1 2 3 g_ []), 5⟩ htt 4 (by kernel_rfl) (?_)))
    rcases oc' h with ⟨hc, h⟩ | ⟨hc, h⟩
    · refine WPr.kb 86 hc rfl (WPr.silx [] ⟨[(2, .O false)], [], (vV4 0 1 2 3 g_ []), 5⟩ htt 23 (by kernel_rfl) (WPr.nil (?_)))
      cases h
      exact WP.ret htt Tryz.func52 [] rfl rfl rfl rfl
    refine WPr.kb 86 hc rfl (WPr.silx (rg 9 18) ⟨[(1, .B 4 0), (91, .O (decide (g_.States ≤ (200 : Int))))], [(4, .box (cC4 0 1 2 3 g_) 27)], (vV4 0 1 2 3 g_ []), 5⟩ htt 5 (by kernel_rfl) (?_))
    rcases oc' h with ⟨hc, h⟩ | ⟨hc, h⟩
    · refine WPr.kb 91 hc rfl (WPr.silx [] ⟨[(2, .O false)], [], (vV4 0 1 2 3 g_ []), 5⟩ htt 18 (by kernel_rfl) (WPr.nil (?_)))
      cases h
      exact WP.ret htt Tryz.func52 [] rfl rfl rfl rfl
    refine WPr.kb 91 hc rfl (WPr.silx (rg 12 15) ⟨[(1, .B 4 0), (91, .O true), (92, .a (cC4 0 1 2 3 g_)), (94, .I g_.Start)], [(4, .box (cC4 0 1 2 3 g_) 27)], (vV4 0 1 2 3 g_ []), 5⟩ htt 3 (by kernel_rfl) (?_))
    obtain ⟨x13, hx13, h⟩ := ob h
    refine WPr.call (z114_ct N g_ g_.Start _ hx13) [(0, .sl 0), (1, .sl 1), (2, .sl 2), (3, .sl 3)] [] rfl rfl rfl rfl rfl rfl rfl rfl (.inl rfl) rfl (WPr.silx (rg 15 12) ⟨[(1, .B 4 0), (97, .O x13)], [(4, .box (cC4 0 1 2 3 g_) 27)], (vV4 0 1 2 3 g_ []), 5⟩ htt 2 (by kernel_rfl) (?_))
    rcases oc' h with ⟨hc, h⟩ | ⟨hc, h⟩
    · refine WPr.kb 97 hc rfl (WPr.silx [] ⟨[(2, .O false)], [], (vV4 0 1 2 3 g_ []), 5⟩ htt 12 (by kernel_rfl) (WPr.nil (?_)))
      cases h
      exact WP.ret htt Tryz.func52 [] rfl rfl rfl rfl
    refine WPr.kb 97 hc rfl (WPr.silx (rg 18 9) ⟨[(1, .B 4 0), (97, .O true), (98, .a (cC4 0 1 2 3 g_)), (100, .I g_.End)], [(4, .box (cC4 0 1 2 3 g_) 27)], (vV4 0 1 2 3 g_ []), 5⟩ htt 3 (by kernel_rfl) (?_))
    obtain ⟨x14, hx14, h⟩ := ob h
    refine WPr.call (z114_ct N g_ g_.End _ hx14) [(0, .sl 0), (1, .sl 1), (2, .sl 2), (3, .sl 3)] [] rfl rfl rfl rfl rfl rfl rfl rfl (.inl rfl) rfl (WPr.silx (rg 21 6) ⟨[(1, .B 4 0), (103, .O x14)], [(4, .box (cC4 0 1 2 3 g_) 27)], (vV4 0 1 2 3 g_ []), 5⟩ htt 2 (by kernel_rfl) (?_))
    rcases oc h with ⟨hc, h⟩ | ⟨hc, h⟩
    · refine WPr.kb 103 hc rfl (WPr.silx [] ⟨[(2, .O (decide ((g_.Edges.length : Int) ≤ (400 : Int))))], [], (vV4 0 1 2 3 g_ []), 5⟩ htt 6 (by kernel_rfl) (WPr.nil (?_)))
      cases h
      exact WP.ret htt Tryz.func52 [] rfl rfl rfl rfl
    refine WPr.kb 103 hc rfl (WPr.silx [] ⟨[(2, .O false)], [], (vV4 0 1 2 3 g_ []), 5⟩ htt 6 (by kernel_rfl) (WPr.nil (?_)))
    cases h
    exact WP.ret htt Tryz.func52 [] rfl rfl rfl rfl
  refine WP.block (?_)
  refine WP.loopI (σ := Int) (fun st => ⟨[(1, .B 4 0), (3, .I st)], [(4, .box (cC4 0 1 2 3 g_) 27)], (vV4 0 1 2 3 g_ []), 5⟩) (fun n st => z52_l2 N g_ n st) (r := r) (fun _ => rfl) ?_ (fun ih => ?_)
  · intro n2 ih3
    intro v3_3 h
    replace h : z52_l2 N g_ (n2 + 1) v3_3 = some r := h
    unfold z52_l2 at h
    refine WP.seq (WP.seq (WP.region (WPr.silx [] ⟨[(1, .B 4 0), (3, .I v3_3), (9, .O (decide (v3_3 < (g_.Edges.length : Int))))], [(4, .box (cC4 0 1 2 3 g_) 27)], (vV4 0 1 2 3 g_ []), 5⟩ htt 5 (by kernel_rfl) (WPr.nil (?_)))))
    rcases oc' h with ⟨hc, h⟩ | ⟨hc, h⟩
    · exact WP.condF hc rfl (WP.exit rfl (WP.sub [] (j1 () h) rfl rfl rfl rfl))
    refine WP.condT hc rfl (WP.skip (WP.seq (WP.block (WP.seq (WP.region (WPr.silx [3, 4, 5, 6] ⟨[(1, .B 4 0), (3, .I v3_3), (13, .S 2), (14, .I v3_3)], [(4, .box (cC4 0 1 2 3 g_) 27)], (vV4 0 1 2 3 g_ []), 5⟩ htt 3 (by kernel_rfl) (?_)))))))
    obtain ⟨x27, hx27, h⟩ := ob h
    refine WPr.ix oO2 htt hx27 rfl rfl rfl rfl rfl rfl rfl rfl rfl (WPr.silx [] ⟨[(1, .B 4 0), (3, .I v3_3), (4, .B 6 0)], [(4, .box (cC4 0 1 2 3 g_) 27), (6, .box (cC2 x27) 43)], (vV4 0 1 2 3 g_ []), 7⟩ htt 3 (by kernel_rfl) (WPr.nil (WP.seq (WP.region (WPr.silx (rg 3 63) ⟨[(1, .B 4 0), (3, .I v3_3), (4, .B 6 0), (17, .a (cC4 0 1 2 3 g_)), (19, .I x27.From)], [(4, .box (cC4 0 1 2 3 g_) 27), (6, .box (cC2 x27) 43)], (vV4 0 1 2 3 g_ []), 7⟩ htt 3 (by kernel_rfl) (?_))))))
    obtain ⟨x28, hx28, h⟩ := ob h
    refine WPr.call (z114_ct N g_ x27.From _ hx28) [(0, .sl 0), (1, .sl 1), (2, .sl 2), (3, .sl 3)] [] rfl rfl rfl rfl rfl rfl rfl rfl (.inl rfl) rfl (WPr.silx (rg 6 60) ⟨[(1, .B 4 0), (3, .I v3_3), (4, .B 6 0), (22, .O (!x28))], [(4, .box (cC4 0 1 2 3 g_) 27), (6, .box (cC2 x27) 43)], (vV4 0 1 2 3 g_ []), 7⟩ htt 2 (by kernel_rfl) (?_))
    rcases oc h with ⟨hc, h⟩ | ⟨hc, h⟩
    · refine WPr.kb 22 hc rfl (WPr.silx [] ⟨[(1, .B 4 0), (3, .I v3_3), (82, .O true)], [(4, .box (cC4 0 1 2 3 g_) 27)], (vV4 0 1 2 3 g_ []), 7⟩ htt 60 (by kernel_rfl) (WPr.nil (WP.condT rfl rfl (WP.seq (WP.region (WPr.sil htt 1 rfl (WPr.nil (?_))))))))
      cases h
      exact WP.ret htt Tryz.func52 [] rfl rfl rfl rfl
    refine WPr.kb 22 hc rfl (WPr.silx (rg 9 57) ⟨[(1, .B 4 0), (3, .I v3_3), (4, .B 6 0), (22, .O false), (23, .a (cC4 0 1 2 3 g_)), (25, .I x27.To)], [(4, .box (cC4 0 1 2 3 g_) 27), (6, .box (cC2 x27) 43)], (vV4 0 1 2 3 g_ []), 7⟩ htt 3 (by kernel_rfl) (?_))
    obtain ⟨x29, hx29, h⟩ := ob h
    refine WPr.call (z114_ct N g_ x27.To _ hx29) [(0, .sl 0), (1, .sl 1), (2, .sl 2), (3, .sl 3)] [] rfl rfl rfl rfl rfl rfl rfl rfl (.inl rfl) rfl (WPr.silx (rg 13 53) ⟨[(1, .B 4 0), (3, .I v3_3), (4, .B 6 0), (29, .O (!x29))], [(4, .box (cC4 0 1 2 3 g_) 27), (6, .box (cC2 x27) 43)], (vV4 0 1 2 3 g_ []), 7⟩ htt 3 (by kernel_rfl) (?_))
    rcases oc h with ⟨hc, h⟩ | ⟨hc, h⟩
    · refine WPr.kb 29 hc rfl (WPr.silx [] ⟨[(1, .B 4 0), (3, .I v3_3), (82, .O true)], [(4, .box (cC4 0 1 2 3 g_) 27)], (vV4 0 1 2 3 g_ []), 7⟩ htt 53 (by kernel_rfl) (WPr.nil (WP.condT rfl rfl (WP.seq (WP.region (WPr.sil htt 1 rfl (WPr.nil (?_))))))))
      cases h
      exact WP.ret htt Tryz.func52 [] rfl rfl rfl rfl
    refine WPr.kb 29 hc rfl (WPr.silx (rg 19 47) ⟨[(1, .B 4 0), (3, .I v3_3), (4, .B 6 0), (35, .O (decide (x27.Act.From < (0 : Int))))], [(4, .box (cC4 0 1 2 3 g_) 27), (6, .box (cC2 x27) 43)], (vV4 0 1 2 3 g_ []), 7⟩ htt 6 (by kernel_rfl) (?_))
    rcases oc h with ⟨hc, h⟩ | ⟨hc, h⟩
    · refine WPr.kb 35 hc rfl (WPr.silx [] ⟨[(1, .B 4 0), (3, .I v3_3), (82, .O true)], [(4, .box (cC4 0 1 2 3 g_) 27)], (vV4 0 1 2 3 g_ []), 7⟩ htt 47 (by kernel_rfl) (WPr.nil (WP.condT rfl rfl (WP.seq (WP.region (WPr.sil htt 1 rfl (WPr.nil (?_))))))))
      cases h
      exact WP.ret htt Tryz.func52 [] rfl rfl rfl rfl
    refine WPr.kb 35 hc rfl (WPr.silx (rg 28 38) ⟨[(1, .B 4 0), (3, .I v3_3), (4, .B 6 0), (44, .O (decide (x27.Act.From ≥ (g_.Roles.length : Int))))], [(4, .box (cC4 0 1 2 3 g_) 27), (6, .box (cC2 x27) 43)], (vV4 0 1 2 3 g_ []), 7⟩ htt 9 (by kernel_rfl) (?_))
    rcases oc h with ⟨hc, h⟩ | ⟨hc, h⟩
    · refine WPr.kb 44 hc rfl (WPr.silx [] ⟨[(1, .B 4 0), (3, .I v3_3), (82, .O true)], [(4, .box (cC4 0 1 2 3 g_) 27)], (vV4 0 1 2 3 g_ []), 7⟩ htt 38 (by kernel_rfl) (WPr.nil (WP.condT rfl rfl (WP.seq (WP.region (WPr.sil htt 1 rfl (WPr.nil (?_))))))))
      cases h
      exact WP.ret htt Tryz.func52 [] rfl rfl rfl rfl
    refine WPr.kb 44 hc rfl (WPr.silx (rg 34 32) ⟨[(1, .B 4 0), (3, .I v3_3), (4, .B 6 0), (50, .O (decide (x27.Act.To < (0 : Int))))], [(4, .box (cC4 0 1 2 3 g_) 27), (6, .box (cC2 x27) 43)], (vV4 0 1 2 3 g_ []), 7⟩ htt 6 (by kernel_rfl) (?_))
    rcases oc h with ⟨hc, h⟩ | ⟨hc, h⟩
    · refine WPr.kb 50 hc rfl (WPr.silx [] ⟨[(1, .B 4 0), (3, .I v3_3), (82, .O true)], [(4, .box (cC4 0 1 2 3 g_) 27)], (vV4 0 1 2 3 g_ []), 7⟩ htt 32 (by kernel_rfl) (WPr.nil (WP.condT rfl rfl (WP.seq (WP.region (WPr.sil htt 1 rfl (WPr.nil (?_))))))))
      cases h
      exact WP.ret htt Tryz.func52 [] rfl rfl rfl rfl
    refine WPr.kb 50 hc rfl (WPr.silx (rg 43 23) ⟨[(1, .B 4 0), (3, .I v3_3), (4, .B 6 0), (59, .O (decide (x27.Act.To ≥ (g_.Roles.length : Int))))], [(4, .box (cC4 0 1 2 3 g_) 27), (6, .box (cC2 x27) 43)], (vV4 0 1 2 3 g_ []), 7⟩ htt 9 (by kernel_rfl) (?_))
    rcases oc h with ⟨hc, h⟩ | ⟨hc, h⟩
    · refine WPr.kb 59 hc rfl (WPr.silx [] ⟨[(1, .B 4 0), (3, .I v3_3), (82, .O true)], [(4, .box (cC4 0 1 2 3 g_) 27)], (vV4 0 1 2 3 g_ []), 7⟩ htt 23 (by kernel_rfl) (WPr.nil (WP.condT rfl rfl (WP.seq (WP.region (WPr.sil htt 1 rfl (WPr.nil (?_))))))))
      cases h
      exact WP.ret htt Tryz.func52 [] rfl rfl rfl rfl
    refine WPr.kb 59 hc rfl (WPr.silx (rg 52 14) ⟨[(1, .B 4 0), (3, .I v3_3), (4, .B 6 0), (68, .O (x27.Act.From == x27.Act.To))], [(4, .box (cC4 0 1 2 3 g_) 27), (6, .box (cC2 x27) 43)], (vV4 0 1 2 3 g_ []), 7⟩ htt 9 (by kernel_rfl) (?_))
    rcases oc h with ⟨hc, h⟩ | ⟨hc, h⟩
    · refine WPr.kb 68 hc rfl (WPr.silx [] ⟨[(1, .B 4 0), (3, .I v3_3), (82, .O true)], [(4, .box (cC4 0 1 2 3 g_) 27)], (vV4 0 1 2 3 g_ []), 7⟩ htt 14 (by kernel_rfl) (WPr.nil (WP.condT rfl rfl (WP.seq (WP.region (WPr.sil htt 1 rfl (WPr.nil (?_))))))))
      cases h
      exact WP.ret htt Tryz.func52 [] rfl rfl rfl rfl
    refine WPr.kb 68 hc rfl (WPr.silx (rg 58 8) ⟨[(1, .B 4 0), (3, .I v3_3), (4, .B 6 0), (74, .O (decide (x27.Act.Label < (0 : Int))))], [(4, .box (cC4 0 1 2 3 g_) 27), (6, .box (cC2 x27) 43)], (vV4 0 1 2 3 g_ []), 7⟩ htt 6 (by kernel_rfl) (?_))
    rcases oc h with ⟨hc, h⟩ | ⟨hc, h⟩
    · refine WPr.kb 74 hc rfl (WPr.silx [] ⟨[(1, .B 4 0), (3, .I v3_3), (82, .O true)], [(4, .box (cC4 0 1 2 3 g_) 27)], (vV4 0 1 2 3 g_ []), 7⟩ htt 8 (by kernel_rfl) (WPr.nil (WP.condT rfl rfl (WP.seq (WP.region (WPr.sil htt 1 rfl (WPr.nil (?_))))))))
      cases h
      exact WP.ret htt Tryz.func52 [] rfl rfl rfl rfl
    refine WPr.kb 74 hc rfl (WPr.silx [] ⟨[(1, .B 4 0), (3, .I v3_3), (82, .O (decide (x27.Act.Label ≥ (g_.Decls.length : Int))))], [(4, .box (cC4 0 1 2 3 g_) 27)], (vV4 0 1 2 3 g_ []), 7⟩ htt 8 (by kernel_rfl) (WPr.nil (?_)))
    rcases oc h with ⟨hc, h⟩ | ⟨hc, h⟩
    · refine WP.condT hc rfl (WP.seq (WP.region (WPr.sil htt 1 rfl (WPr.nil (?_)))))
      cases h
      exact WP.ret htt Tryz.func52 [] rfl rfl rfl rfl
    exact WP.condF hc rfl (WP.skip (WP.inBlock (WP.region (WPr.silx [] ⟨[(1, .B 4 0), (3, .I (w64 (v3_3 + (1 : Int))))], [(4, .box (cC4 0 1 2 3 g_) 27)], (vV4 0 1 2 3 g_ []), 7⟩ htt 3 (by kernel_rfl) (WPr.nil (WP.sub [] (ih3 (w64 (v3_3 + (1 : Int))) h) rfl rfl rfl rfl))))))
  exact WP.sub [] (ih N (0 : Int) h) rfl rfl rfl rfl
theorem z53_ct (N : Nat) (g_ : T4) (r : Bool) (h : z53 N g_ = some r) :
  Fn Tryz.prog 53 ⟨4, [.a (cC4 0 1 2 3 g_)], (vV4 0 1 2 3 g_ []), [], 4, .O r, [], []⟩ := by
  refine Fn.intro _ _ Tryz.func53 rfl (by kernel_rfl) rfl (fun E F w => ?_)
  unfold z53 at h
  refine WP.seq (WP.region (WPr.sil htt 2 rfl (WPr.nil (WP.seq (WP.seq (WP.region (WPr.silx [] ⟨[(1, .B 4 0), (2, .O false), (3, .I (0 : Int))], [(4, .box (cC4 0 1 2 3 g_) 27)], (vV4 0 1 2 3 g_ []), 5⟩ htt 1 (by kernel_rfl) (WPr.nil (?_)))))))))
  refine WP.cut (σ := Unit) (fun st => ⟨[], [], (vV4 0 1 2 3 g_ []), 5⟩) (fun st => z53_k1 = some r) ?_ (fun j1 => ?_)
  · intro _ h
    replace h : z53_k1 = some r := h
    unfold z53_k1 at h
    refine WP.seq (WP.region (WPr.sil htt 1 rfl (WPr.nil (?_))))
    cases h
    exact WP.ret htt Tryz.func53 [] rfl rfl rfl rfl
  refine WP.block (?_)
  refine WP.loopI (σ := Int) (fun st => ⟨[(1, .B 4 0), (3, .I st)], [(4, .box (cC4 0 1 2 3 g_) 27)], (vV4 0 1 2 3 g_ []), 5⟩) (fun n st => z53_l2 N g_ n st) (r := r) (fun _ => rfl) ?_ (fun ih => ?_)
  · intro n12 ih33
    intro v3_33 h
    replace h : z53_l2 N g_ (n12 + 1) v3_33 = some r := h
    unfold z53_l2 at h
    refine WP.seq (WP.seq (WP.region (WPr.silx [] ⟨[(1, .B 4 0), (3, .I v3_33), (11, .O (decide (v3_33 < (g_.Edges.length : Int))))], [(4, .box (cC4 0 1 2 3 g_) 27)], (vV4 0 1 2 3 g_ []), 5⟩ htt 5 (by kernel_rfl) (WPr.nil (?_)))))
    rcases oc' h with ⟨hc, h⟩ | ⟨hc, h⟩
    · exact WP.condF hc rfl (WP.exit rfl (WP.sub [] (j1 () h) rfl rfl rfl rfl))
    refine WP.condT hc rfl (WP.skip (WP.seq (WP.block (WP.seq (WP.region (WPr.silx [3, 4, 5, 6] ⟨[(1, .B 4 0), (3, .I v3_33), (15, .S 2), (16, .I v3_33)], [(4, .box (cC4 0 1 2 3 g_) 27)], (vV4 0 1 2 3 g_ []), 5⟩ htt 3 (by kernel_rfl) (?_)))))))
    obtain ⟨x74, hx74, h⟩ := ob h
    refine WPr.ix oO2 htt hx74 rfl rfl rfl rfl rfl rfl rfl rfl rfl (WPr.silx [] ⟨[(1, .B 4 0), (3, .I v3_33), (4, .B 6 0)], [(4, .box (cC4 0 1 2 3 g_) 27), (6, .box (cC2 x74) 43)], (vV4 0 1 2 3 g_ []), 7⟩ htt 3 (by kernel_rfl) (WPr.nil (WP.seq (WP.seq (WP.region (WPr.silx (rg 3 6) ⟨[(1, .B 4 0), (3, .I v3_33), (4, .B 6 0), (21, .O x74.Again)], [(4, .box (cC4 0 1 2 3 g_) 27), (6, .box (cC2 x74) 43)], (vV4 0 1 2 3 g_ []), 7⟩ htt 3 (by kernel_rfl) (?_)))))))
    refine WP.cutr (σ := Bool) (fun st => ⟨[(1, .B 4 0), (3, .I v3_33), (4, .B 6 0), (27, .O st)], [(4, .box (cC4 0 1 2 3 g_) 27), (6, .box (cC2 x74) 43)], (vV4 0 1 2 3 g_ []), 7⟩) (fun st => z53_k6 N g_ v3_33 (z53_l2 N g_ n12) x74 st = some r) ?_ (fun j54 => ?_)
    · intro v27_54 h
      replace h : z53_k6 N g_ v3_33 (z53_l2 N g_ n12) x74 v27_54 = some r := h
      unfold z53_k6 at h
      rcases oc h with ⟨hc, h⟩ | ⟨hc, h⟩
      · refine WP.condT hc rfl (WP.seq (WP.region (WPr.sil htt 1 rfl (WPr.nil (?_)))))
        cases h
        exact WP.ret htt Tryz.func53 [] rfl rfl rfl rfl
      refine WP.condF hc rfl (WP.skip (WP.seq (WP.region (WPr.sil htt 1 rfl (WPr.nil (?_))))))
      refine WP.cut (σ := Unit) (fun st => ⟨[(1, .B 4 0), (3, .I v3_33)], [(4, .box (cC4 0 1 2 3 g_) 27)], (vV4 0 1 2 3 g_ []), 7⟩) (fun st => z53_k3 v3_33 (z53_l2 N g_ n12) = some r) ?_ (fun j55 => ?_)
      · intro _ h
        replace h : z53_k3 v3_33 (z53_l2 N g_ n12) = some r := h
        unfold z53_k3 at h
        exact WP.inBlock (WP.region (WPr.silx [] ⟨[(1, .B 4 0), (3, .I (w64 (v3_33 + (1 : Int))))], [(4, .box (cC4 0 1 2 3 g_) 27)], (vV4 0 1 2 3 g_ []), 7⟩ htt 3 (by kernel_rfl) (WPr.nil (WP.sub [] (ih33 (w64 (v3_33 + (1 : Int))) h) rfl rfl rfl rfl))))
      refine WP.block (?_)
      refine WP.loopI (σ := Int) (fun st => ⟨[(1, .B 4 0), (3, .I v3_33), (4, .B 6 0), (5, .I st)], [(4, .box (cC4 0 1 2 3 g_) 27), (6, .box (cC2 x74) 43)], (vV4 0 1 2 3 g_ []), 7⟩) (fun n st => z53_l4 g_ v3_33 (z53_l2 N g_ n12) x74 n st) (r := r) (fun _ => rfl) ?_ (fun ih => ?_)
      · intro n14 ih60
        intro v5_60 h
        replace h : z53_l4 g_ v3_33 (z53_l2 N g_ n12) x74 (n14 + 1) v5_60 = some r := h
        unfold z53_l4 at h
        refine WP.seq (WP.seq (WP.region (WPr.silx [] ⟨[(1, .B 4 0), (3, .I v3_33), (4, .B 6 0), (5, .I v5_60), (32, .O (decide (v5_60 < (g_.Edges.length : Int))))], [(4, .box (cC4 0 1 2 3 g_) 27), (6, .box (cC2 x74) 43)], (vV4 0 1 2 3 g_ []), 7⟩ htt 5 (by kernel_rfl) (WPr.nil (?_)))))
        rcases oc' h with ⟨hc, h⟩ | ⟨hc, h⟩
        · exact WP.condF hc rfl (WP.exit rfl (WP.sub [] (j55 () h) rfl rfl rfl rfl))
        refine WP.condT hc rfl (WP.skip (WP.seq (WP.block (WP.seq (WP.region (WPr.silx [3, 4, 5, 6] ⟨[(1, .B 4 0), (3, .I v3_33), (4, .B 6 0), (5, .I v5_60), (36, .S 2), (37, .I v5_60)], [(4, .box (cC4 0 1 2 3 g_) 27), (6, .box (cC2 x74) 43)], (vV4 0 1 2 3 g_ []), 7⟩ htt 3 (by kernel_rfl) (?_)))))))
        obtain ⟨x83, hx83, h⟩ := ob h
        refine WPr.ix oO2 htt hx83 rfl rfl rfl rfl rfl rfl rfl rfl rfl (WPr.silx [] ⟨[(1, .B 4 0), (3, .I v3_33), (4, .B 6 0), (5, .I v5_60), (6, .B 8 0)], [(4, .box (cC4 0 1 2 3 g_) 27), (6, .box (cC2 x74) 43), (8, .box (cC2 x83) 43)], (vV4 0 1 2 3 g_ []), 9⟩ htt 3 (by kernel_rfl) (WPr.nil (WP.seq (WP.seq (WP.region (WPr.silx (rg 4 26) ⟨[(1, .B 4 0), (3, .I v3_33), (4, .B 6 0), (5, .I v5_60), (6, .B 8 0), (43, .O (v5_60 != v3_33))], [(4, .box (cC4 0 1 2 3 g_) 27), (6, .box (cC2 x74) 43), (8, .box (cC2 x83) 43)], (vV4 0 1 2 3 g_ []), 9⟩ htt 4 (by kernel_rfl) (?_)))))))
        refine WP.cutr (σ := Bool) (fun st => ⟨[(1, .B 4 0), (3, .I v3_33), (4, .B 6 0), (5, .I v5_60), (6, .B 8 0), (69, .O st)], [(4, .box (cC4 0 1 2 3 g_) 27), (6, .box (cC2 x74) 43), (8, .box (cC2 x83) 43)], (vV4 0 1 2 3 g_ []), 9⟩) (fun st => z53_k5 x74 v5_60 (z53_l4 g_ v3_33 (z53_l2 N g_ n12) x74 n14) x83 st = some r) ?_ (fun j63 => ?_)
        · intro v69_63 h
          replace h : z53_k5 x74 v5_60 (z53_l4 g_ v3_33 (z53_l2 N g_ n12) x74 n14) x83 v69_63 = some r := h
          unfold z53_k5 at h
          rcases oc h with ⟨hc, h⟩ | ⟨hc, h⟩
          · refine WP.condT hc rfl (WP.seq (WP.region (WPr.sil htt 1 rfl (WPr.nil (?_)))))
            cases h
            exact WP.ret htt Tryz.func53 [] rfl rfl rfl rfl
          refine WP.condF hc rfl (WP.skip (WP.seq (WP.region (WPr.silx (rg 3 24) ⟨[(1, .B 4 0), (3, .I v3_33), (4, .B 6 0), (5, .I v5_60), (6, .B 8 0), (72, .O x74.Again)], [(4, .box (cC4 0 1 2 3 g_) 27), (6, .box (cC2 x74) 43), (8, .box (cC2 x83) 43)], (vV4 0 1 2 3 g_ []), 9⟩ htt 3 (by kernel_rfl) (?_)))))
          rcases oc' h with ⟨hc, h⟩ | ⟨hc, h⟩
          · exact WPr.kb 72 hc rfl (WPr.silx [] ⟨[(1, .B 4 0), (3, .I v3_33), (4, .B 6 0), (5, .I v5_60), (96, .O false)], [(4, .box (cC4 0 1 2 3 g_) 27), (6, .box (cC2 x74) 43)], (vV4 0 1 2 3 g_ []), 9⟩ htt 24 (by kernel_rfl) (WPr.nil (WP.condF rfl rfl (WP.skip (WP.inBlock (WP.region (WPr.silx [] ⟨[(1, .B 4 0), (3, .I v3_33), (4, .B 6 0), (5, .I (w64 (v5_60 + (1 : Int))))], [(4, .box (cC4 0 1 2 3 g_) 27), (6, .box (cC2 x74) 43)], (vV4 0 1 2 3 g_ []), 9⟩ htt 3 (by kernel_rfl) (WPr.nil (WP.sub [] (ih60 (w64 (v5_60 + (1 : Int))) h) rfl rfl rfl rfl)))))))))
          refine WPr.kb 72 hc rfl (WPr.silx (rg 10 17) ⟨[(1, .B 4 0), (3, .I v3_33), (4, .B 6 0), (5, .I v5_60), (6, .B 8 0), (79, .O (x83.To == x74.From))], [(4, .box (cC4 0 1 2 3 g_) 27), (6, .box (cC2 x74) 43), (8, .box (cC2 x83) 43)], (vV4 0 1 2 3 g_ []), 9⟩ htt 7 (by kernel_rfl) (?_))
          rcases oc' h with ⟨hc, h⟩ | ⟨hc, h⟩
          · exact WPr.kb 79 hc rfl (WPr.silx [] ⟨[(1, .B 4 0), (3, .I v3_33), (4, .B 6 0), (5, .I v5_60), (96, .O false)], [(4, .box (cC4 0 1 2 3 g_) 27), (6, .box (cC2 x74) 43)], (vV4 0 1 2 3 g_ []), 9⟩ htt 17 (by kernel_rfl) (WPr.nil (WP.condF rfl rfl (WP.skip (WP.inBlock (WP.region (WPr.silx [] ⟨[(1, .B 4 0), (3, .I v3_33), (4, .B 6 0), (5, .I (w64 (v5_60 + (1 : Int))))], [(4, .box (cC4 0 1 2 3 g_) 27), (6, .box (cC2 x74) 43)], (vV4 0 1 2 3 g_ []), 9⟩ htt 3 (by kernel_rfl) (WPr.nil (WP.sub [] (ih60 (w64 (v5_60 + (1 : Int))) h) rfl rfl rfl rfl)))))))))
          refine WPr.kb 79 hc rfl (WPr.silx (rg 18 9) ⟨[(1, .B 4 0), (3, .I v3_33), (4, .B 6 0), (5, .I v5_60), (6, .B 8 0), (79, .O true), (87, .O (x83.Act.From != x74.Act.From))], [(4, .box (cC4 0 1 2 3 g_) 27), (6, .box (cC2 x74) 43), (8, .box (cC2 x83) 43)], (vV4 0 1 2 3 g_ []), 9⟩ htt 8 (by kernel_rfl) (?_))
          rcases oc h with ⟨hc, h⟩ | ⟨hc, h⟩
          · refine WPr.kb 87 hc rfl (WPr.silx [] ⟨[(1, .B 4 0), (3, .I v3_33), (4, .B 6 0), (5, .I v5_60), (96, .O true)], [(4, .box (cC4 0 1 2 3 g_) 27), (6, .box (cC2 x74) 43)], (vV4 0 1 2 3 g_ []), 9⟩ htt 9 (by kernel_rfl) (WPr.nil (WP.condT rfl rfl (WP.seq (WP.region (WPr.sil htt 1 rfl (WPr.nil (?_))))))))
            cases h
            exact WP.ret htt Tryz.func53 [] rfl rfl rfl rfl
          refine WPr.kb 87 hc rfl (WPr.silx [] ⟨[(1, .B 4 0), (3, .I v3_33), (4, .B 6 0), (5, .I v5_60), (96, .O (x83.Act.Label != x74.Act.Label))], [(4, .box (cC4 0 1 2 3 g_) 27), (6, .box (cC2 x74) 43)], (vV4 0 1 2 3 g_ []), 9⟩ htt 9 (by kernel_rfl) (WPr.nil (?_)))
          rcases oc h with ⟨hc, h⟩ | ⟨hc, h⟩
          · refine WP.condT hc rfl (WP.seq (WP.region (WPr.sil htt 1 rfl (WPr.nil (?_)))))
            cases h
            exact WP.ret htt Tryz.func53 [] rfl rfl rfl rfl
          exact WP.condF hc rfl (WP.skip (WP.inBlock (WP.region (WPr.silx [] ⟨[(1, .B 4 0), (3, .I v3_33), (4, .B 6 0), (5, .I (w64 (v5_60 + (1 : Int))))], [(4, .box (cC4 0 1 2 3 g_) 27), (6, .box (cC2 x74) 43)], (vV4 0 1 2 3 g_ []), 9⟩ htt 3 (by kernel_rfl) (WPr.nil (WP.sub [] (ih60 (w64 (v5_60 + (1 : Int))) h) rfl rfl rfl rfl))))))
        rcases oc' h with ⟨hc, h⟩ | ⟨hc, h⟩
        · exact WPr.kb 43 hc rfl (WPr.silx [] ⟨[(1, .B 4 0), (3, .I v3_33), (4, .B 6 0), (5, .I v5_60), (6, .B 8 0), (69, .O false)], [(4, .box (cC4 0 1 2 3 g_) 27), (6, .box (cC2 x74) 43), (8, .box (cC2 x83) 43)], (vV4 0 1 2 3 g_ []), 9⟩ htt 26 (by kernel_rfl) (WPr.nil (WP.sub [] (j63 false h) rfl rfl rfl rfl)))
        refine WPr.kb 43 hc rfl (WPr.silx (rg 11 19) ⟨[(1, .B 4 0), (3, .I v3_33), (4, .B 6 0), (5, .I v5_60), (6, .B 8 0), (50, .O (x74.From == x83.From))], [(4, .box (cC4 0 1 2 3 g_) 27), (6, .box (cC2 x74) 43), (8, .box (cC2 x83) 43)], (vV4 0 1 2 3 g_ []), 9⟩ htt 7 (by kernel_rfl) (?_))
        rcases oc' h with ⟨hc, h⟩ | ⟨hc, h⟩
        · exact WPr.kb 50 hc rfl (WPr.silx [] ⟨[(1, .B 4 0), (3, .I v3_33), (4, .B 6 0), (5, .I v5_60), (6, .B 8 0), (69, .O false)], [(4, .box (cC4 0 1 2 3 g_) 27), (6, .box (cC2 x74) 43), (8, .box (cC2 x83) 43)], (vV4 0 1 2 3 g_ []), 9⟩ htt 19 (by kernel_rfl) (WPr.nil (WP.sub [] (j63 false h) rfl rfl rfl rfl)))
        refine WPr.kb 50 hc rfl (WPr.silx (rg 15 15) ⟨[(1, .B 4 0), (3, .I v3_33), (4, .B 6 0), (5, .I v5_60), (6, .B 8 0), (50, .O true), (52, .a (cC6 x74.Act)), (54, .a (cC6 x83.Act))], [(4, .box (cC4 0 1 2 3 g_) 27), (6, .box (cC2 x74) 43), (8, .box (cC2 x83) 43)], (vV4 0 1 2 3 g_ []), 9⟩ htt 4 (by kernel_rfl) (WPr.eqa (neg := false) (equal_run (b := ((x74.Act.From == x83.Act.From) && ((x74.Act.To == x83.Act.To) && ((x74.Act.Label == x83.Act.Label) && true)))) (by kernel_rfl) (by kernel_rfl)) (by kernel_rfl) rfl rfl rfl rfl rfl rfl rfl (WPr.sil htt 1 rfl (?_))))
        rcases oc h with ⟨hc, h⟩ | ⟨hc, h⟩
        · exact WPr.kb 56 hc rfl (WPr.silx [] ⟨[(1, .B 4 0), (3, .I v3_33), (4, .B 6 0), (5, .I v5_60), (6, .B 8 0), (69, .O true)], [(4, .box (cC4 0 1 2 3 g_) 27), (6, .box (cC2 x74) 43), (8, .box (cC2 x83) 43)], (vV4 0 1 2 3 g_ []), 9⟩ htt 13 (by kernel_rfl) (WPr.nil (WP.sub [] (j63 true h) rfl rfl rfl rfl)))
        refine WPr.kb 56 hc rfl (WPr.silx [26, 27, 28, 29] ⟨[(1, .B 4 0), (3, .I v3_33), (4, .B 6 0), (5, .I v5_60), (6, .B 8 0), (50, .O true), (65, .O (x74.Act.From != x83.Act.From))], [(4, .box (cC4 0 1 2 3 g_) 27), (6, .box (cC2 x74) 43), (8, .box (cC2 x83) 43)], (vV4 0 1 2 3 g_ []), 9⟩ htt 9 (by kernel_rfl) (?_))
        rcases oc h with ⟨hc, h⟩ | ⟨hc, h⟩
        · exact WPr.kb 65 hc rfl (WPr.silx [] ⟨[(1, .B 4 0), (3, .I v3_33), (4, .B 6 0), (5, .I v5_60), (6, .B 8 0), (69, .O true)], [(4, .box (cC4 0 1 2 3 g_) 27), (6, .box (cC2 x74) 43), (8, .box (cC2 x83) 43)], (vV4 0 1 2 3 g_ []), 9⟩ htt 4 (by kernel_rfl) (WPr.nil (WP.sub [] (j63 true h) rfl rfl rfl rfl)))
        exact WPr.kb 65 hc rfl (WPr.silx [] ⟨[(1, .B 4 0), (3, .I v3_33), (4, .B 6 0), (5, .I v5_60), (6, .B 8 0), (69, .O x74.Again)], [(4, .box (cC4 0 1 2 3 g_) 27), (6, .box (cC2 x74) 43), (8, .box (cC2 x83) 43)], (vV4 0 1 2 3 g_ []), 9⟩ htt 4 (by kernel_rfl) (WPr.nil (WP.sub [] (j63 x74.Again h) rfl rfl rfl rfl)))
      exact WP.sub [] (ih N (0 : Int) h) rfl rfl rfl rfl
    rcases oc h with ⟨hc, h⟩ | ⟨hc, h⟩
    · exact WPr.kb 21 hc rfl (WPr.silx [] ⟨[(1, .B 4 0), (3, .I v3_33), (4, .B 6 0), (27, .O (x74.From == g_.Start))], [(4, .box (cC4 0 1 2 3 g_) 27), (6, .box (cC2 x74) 43)], (vV4 0 1 2 3 g_ []), 7⟩ htt 6 (by kernel_rfl) (WPr.nil (WP.sub [] (j54 (x74.From == g_.Start) h) rfl rfl rfl rfl)))
    exact WPr.kb 21 hc rfl (WPr.silx [] ⟨[(1, .B 4 0), (3, .I v3_33), (4, .B 6 0), (27, .O false)], [(4, .box (cC4 0 1 2 3 g_) 27), (6, .box (cC2 x74) 43)], (vV4 0 1 2 3 g_ []), 7⟩ htt 6 (by kernel_rfl) (WPr.nil (WP.sub [] (j54 false h) rfl rfl rfl rfl)))
  exact WP.sub [] (ih N (0 : Int) h) rfl rfl rfl rfl
theorem z81_ct (N : Nat) (g_ : T4) (r : (List Int)) (h : z81 N g_ = some r) :
  Fn Tryz.prog 81 ⟨4, [.a (cC4 0 1 2 3 g_)], (vV4 0 1 2 3 g_ []), [], 5, .S 4, [], [(4, .own (rI .i64) r true)]⟩ := by
  refine Fn.intro _ _ Tryz.func81 rfl (by kernel_rfl) rfl (fun E F w => ?_)
  unfold z81 at h
  refine WP.seq (WP.region (WPr.sil htt 2 rfl (WPr.nil (WP.seq (WP.region (WPr.silx [2, 3] ⟨[(1, .B 4 0), (2, .c .nil), (9, .I g_.States)], [(4, .box (cC4 0 1 2 3 g_) 27)], (vV4 0 1 2 3 g_ []), 5⟩ htt 2 (by kernel_rfl) (?_)))))))
  obtain ⟨x1, hx1, h⟩ := ob h
  refine WPr.mk (oI .i64) htt (0 : Int) hx1 rfl rfl rfl rfl rfl rfl rfl rfl (by exact an rfl rfl) rfl (WPr.sil htt 1 rfl (WPr.nil (WP.seq (WP.seq (WP.region (WPr.silx [] ⟨[(1, .B 4 0), (2, .c .nil), (3, .S 5), (4, .I (0 : Int))], [(4, .box (cC4 0 1 2 3 g_) 27), (5, .own (rI .i64) x1 true)], (vV4 0 1 2 3 g_ []), 6⟩ htt 1 (by kernel_rfl) (WPr.nil (?_))))))))
  refine WP.cut (σ := (List Int)) (fun st => ⟨[(1, .B 4 0), (3, .S 5)], [(4, .box (cC4 0 1 2 3 g_) 27), (5, .own (rI .i64) st true)], (vV4 0 1 2 3 g_ []), 6⟩) (fun st => z81_k5 N g_ st = some r) ?_ (fun j1 => ?_)
  · intro v3_1 h
    replace h : z81_k5 N g_ v3_1 = some r := h
    unfold z81_k5 at h
    refine WP.seq (WP.region (WPr.silx [3, 4] ⟨[(1, .B 4 0), (3, .S 5), (20, .S 5), (22, .I g_.End)], [(4, .box (cC4 0 1 2 3 g_) 27), (5, .own (rI .i64) v3_1 true)], (vV4 0 1 2 3 g_ []), 6⟩ htt 3 (by kernel_rfl) (?_)))
    obtain ⟨x6, hx6, h⟩ := ob h
    refine WPr.ixo htt hx6 rfl rfl rfl rfl rfl rfl rfl rfl rfl (WPr.sto (oI .i64) htt (0 : Int) hx6 rfl rfl rfl rfl rfl rfl rfl rfl rfl rfl (by exact rfl) rfl (WPr.nil (WP.seq (WP.seq (WP.region (WPr.silx [] ⟨[(1, .B 4 0), (3, .S 5), (5, .I (0 : Int))], [(4, .box (cC4 0 1 2 3 g_) 27), (5, .own (rI .i64) (setL' v3_1 g_.End (0 : Int)) true)], (vV4 0 1 2 3 g_ []), 7⟩ htt 1 (by kernel_rfl) (WPr.nil (?_))))))))
    refine WP.cut (σ := (List Int)) (fun st => ⟨[(3, .S 5)], [(5, .own (rI .i64) st true)], (vV4 0 1 2 3 g_ []), 7⟩) (fun st => z81_k1 st = some r) ?_ (fun j3 => ?_)
    · intro v3_3 h
      replace h : z81_k1 v3_3 = some r := h
      unfold z81_k1 at h
      refine WP.seq (WP.region (WPr.sil htt 2 rfl (WPr.nil (?_))))
      cases h
      exact WP.ret htt Tryz.func81 [(4, .sl 5)] rfl rfl rfl rfl
    refine WP.block (?_)
    refine WP.loopI (σ := (List Int) × Int) (fun st => ⟨[(1, .B 4 0), (3, .S 5), (5, .I st.2)], [(4, .box (cC4 0 1 2 3 g_) 27), (5, .own (rI .i64) st.1 true)], (vV4 0 1 2 3 g_ []), 7⟩) (fun n st => z81_l2 N g_ n st.1 st.2) (r := r) (fun _ => rfl) ?_ (fun ih => ?_)
    · intro n13 ih14
      rintro ⟨v3_14, v5_14⟩ h
      replace h : z81_l2 N g_ (n13 + 1) v3_14 v5_14 = some r := h
      unfold z81_l2 at h
      refine WP.seq (WP.seq (WP.region (WPr.silx [] ⟨[(1, .B 4 0), (3, .S 5), (5, .I v5_14), (27, .O (decide (v5_14 < g_.States)))], [(4, .box (cC4 0 1 2 3 g_) 27), (5, .own (rI .i64) v3_14 true)], (vV4 0 1 2 3 g_ []), 7⟩ htt 4 (by kernel_rfl) (WPr.nil (?_)))))
      rcases oc' h with ⟨hc, h⟩ | ⟨hc, h⟩
      · exact WP.condF hc rfl (WP.exit rfl (WP.sub [] (j3 v3_14 h) rfl rfl rfl rfl))
      refine WP.condT hc rfl (WP.skip (WP.seq (WP.block (WP.seq (WP.region (WPr.sil htt 1 rfl (WPr.nil (?_))))))))
      refine WP.cut (σ := (List Int)) (fun st => ⟨[(1, .B 4 0), (3, .S 5), (5, .I v5_14)], [(4, .box (cC4 0 1 2 3 g_) 27), (5, .own (rI .i64) st true)], (vV4 0 1 2 3 g_ []), 7⟩) (fun st => z81_k3 v5_14 (z81_l2 N g_ n13) st = some r) ?_ (fun j21 => ?_)
      · intro v3_21 h
        replace h : z81_k3 v5_14 (z81_l2 N g_ n13) v3_21 = some r := h
        unfold z81_k3 at h
        exact WP.inBlock (WP.region (WPr.silx [] ⟨[(1, .B 4 0), (3, .S 5), (5, .I (w64 (v5_14 + (1 : Int))))], [(4, .box (cC4 0 1 2 3 g_) 27), (5, .own (rI .i64) v3_21 true)], (vV4 0 1 2 3 g_ []), 7⟩ htt 3 (by kernel_rfl) (WPr.nil (WP.sub [] (ih14 (v3_21, (w64 (v5_14 + (1 : Int)))) h) rfl rfl rfl rfl))))
      refine WP.block (?_)
      refine WP.loopI (σ := (List Int) × Int) (fun st => ⟨[(1, .B 4 0), (3, .S 5), (5, .I v5_14), (6, .I st.2)], [(4, .box (cC4 0 1 2 3 g_) 27), (5, .own (rI .i64) st.1 true)], (vV4 0 1 2 3 g_ []), 7⟩) (fun n st => z81_l4 g_ v5_14 (z81_l2 N g_ n13) n st.1 st.2) (r := r) (fun _ => rfl) ?_ (fun ih => ?_)
      · intro n15 ih23
        rintro ⟨v3_23, v6_23⟩ h
        replace h : z81_l4 g_ v5_14 (z81_l2 N g_ n13) (n15 + 1) v3_23 v6_23 = some r := h
        unfold z81_l4 at h
        refine WP.seq (WP.seq (WP.region (WPr.silx [] ⟨[(1, .B 4 0), (3, .S 5), (5, .I v5_14), (6, .I v6_23), (34, .O (decide (v6_23 < (g_.Edges.length : Int))))], [(4, .box (cC4 0 1 2 3 g_) 27), (5, .own (rI .i64) v3_23 true)], (vV4 0 1 2 3 g_ []), 7⟩ htt 5 (by kernel_rfl) (WPr.nil (?_)))))
        rcases oc' h with ⟨hc, h⟩ | ⟨hc, h⟩
        · exact WP.condF hc rfl (WP.exit rfl (WP.sub [] (j21 v3_23 h) rfl rfl rfl rfl))
        refine WP.condT hc rfl (WP.skip (WP.seq (WP.block (WP.seq (WP.region (WPr.silx [3, 4, 5, 6] ⟨[(1, .B 4 0), (3, .S 5), (5, .I v5_14), (6, .I v6_23), (38, .S 2), (39, .I v6_23)], [(4, .box (cC4 0 1 2 3 g_) 27), (5, .own (rI .i64) v3_23 true)], (vV4 0 1 2 3 g_ []), 7⟩ htt 3 (by kernel_rfl) (?_)))))))
        obtain ⟨x299, hx299, h⟩ := ob h
        refine WPr.ix oO2 htt hx299 rfl rfl rfl rfl rfl rfl rfl rfl rfl (WPr.silx [] ⟨[(1, .B 4 0), (3, .S 5), (5, .I v5_14), (6, .I v6_23), (7, .B 8 0)], [(4, .box (cC4 0 1 2 3 g_) 27), (5, .own (rI .i64) v3_23 true), (8, .box (cC2 x299) 43)], (vV4 0 1 2 3 g_ []), 9⟩ htt 3 (by kernel_rfl) (WPr.nil (WP.seq (WP.region (WPr.silx (rg 3 12) ⟨[(1, .B 4 0), (3, .S 5), (5, .I v5_14), (6, .I v6_23), (7, .B 8 0), (42, .S 5), (44, .I x299.To)], [(4, .box (cC4 0 1 2 3 g_) 27), (5, .own (rI .i64) v3_23 true), (8, .box (cC2 x299) 43)], (vV4 0 1 2 3 g_ []), 9⟩ htt 3 (by kernel_rfl) (?_))))))
        obtain ⟨x300, hx300, h⟩ := ob h
        refine WPr.ixo htt hx300 rfl rfl rfl rfl rfl rfl rfl rfl rfl (WPr.ldo (oI .i64) htt hx300 rfl rfl rfl rfl rfl rfl rfl rfl rfl rfl (WPr.silx (rg 8 7) ⟨[(1, .B 4 0), (3, .S 5), (5, .I v5_14), (6, .I v6_23), (7, .B 8 0), (49, .O (x300 == v5_14))], [(4, .box (cC4 0 1 2 3 g_) 27), (5, .own (rI .i64) v3_23 true), (8, .box (cC2 x299) 43)], (vV4 0 1 2 3 g_ []), 10⟩ htt 3 (by kernel_rfl) (?_)))
        rcases oc' h with ⟨hc, h⟩ | ⟨hc, h⟩
        · exact WPr.kb 49 hc rfl (WPr.silx [] ⟨[(1, .B 4 0), (3, .S 5), (5, .I v5_14), (6, .I v6_23), (7, .B 8 0), (56, .O false)], [(4, .box (cC4 0 1 2 3 g_) 27), (5, .own (rI .i64) v3_23 true), (8, .box (cC2 x299) 43)], (vV4 0 1 2 3 g_ []), 10⟩ htt 7 (by kernel_rfl) (WPr.nil (WP.condF rfl rfl (WP.skip (WP.inBlock (WP.region (WPr.silx [] ⟨[(1, .B 4 0), (3, .S 5), (5, .I v5_14), (6, .I (w64 (v6_23 + (1 : Int))))], [(4, .box (cC4 0 1 2 3 g_) 27), (5, .own (rI .i64) v3_23 true)], (vV4 0 1 2 3 g_ []), 10⟩ htt 3 (by kernel_rfl) (WPr.nil (WP.sub [] (ih23 (v3_23, (w64 (v6_23 + (1 : Int)))) h) rfl rfl rfl rfl)))))))))
        refine WPr.kb 49 hc rfl (WPr.silx [11, 12, 13, 14] ⟨[(1, .B 4 0), (3, .S 5), (5, .I v5_14), (6, .I v6_23), (7, .B 8 0), (49, .O true), (50, .S 5), (52, .I x299.From)], [(4, .box (cC4 0 1 2 3 g_) 27), (5, .own (rI .i64) v3_23 true), (8, .box (cC2 x299) 43)], (vV4 0 1 2 3 g_ []), 10⟩ htt 3 (by kernel_rfl) (?_))
        obtain ⟨x301, hx301, h⟩ := ob h
        refine WPr.ixo htt hx301 rfl rfl rfl rfl rfl rfl rfl rfl rfl (WPr.ldo (oI .i64) htt hx301 rfl rfl rfl rfl rfl rfl rfl rfl rfl rfl (WPr.silx [] ⟨[(1, .B 4 0), (3, .S 5), (5, .I v5_14), (6, .I v6_23), (7, .B 8 0), (56, .O (decide (x301 < (0 : Int))))], [(4, .box (cC4 0 1 2 3 g_) 27), (5, .own (rI .i64) v3_23 true), (8, .box (cC2 x299) 43)], (vV4 0 1 2 3 g_ []), 11⟩ htt 2 (by kernel_rfl) (WPr.nil (?_))))
        rcases oc' h with ⟨hc, h⟩ | ⟨hc, h⟩
        · exact WP.condF hc rfl (WP.skip (WP.inBlock (WP.region (WPr.silx [] ⟨[(1, .B 4 0), (3, .S 5), (5, .I v5_14), (6, .I (w64 (v6_23 + (1 : Int))))], [(4, .box (cC4 0 1 2 3 g_) 27), (5, .own (rI .i64) v3_23 true)], (vV4 0 1 2 3 g_ []), 11⟩ htt 3 (by kernel_rfl) (WPr.nil (WP.sub [] (ih23 (v3_23, (w64 (v6_23 + (1 : Int)))) h) rfl rfl rfl rfl))))))
        refine WP.condT hc rfl (WP.region (WPr.silx [5, 6] ⟨[(1, .B 4 0), (3, .S 5), (5, .I v5_14), (6, .I v6_23), (57, .S 5), (59, .I x299.From), (61, .I (w64 (v5_14 + (1 : Int))))], [(4, .box (cC4 0 1 2 3 g_) 27), (5, .own (rI .i64) v3_23 true)], (vV4 0 1 2 3 g_ []), 11⟩ htt 5 (by kernel_rfl) (?_)))
        obtain ⟨x302, hx302, h⟩ := ob h
        exact WPr.ixo htt hx302 rfl rfl rfl rfl rfl rfl rfl rfl rfl (WPr.sto (oI .i64) htt (w64 (v5_14 + (1 : Int))) hx302 rfl rfl rfl rfl rfl rfl rfl rfl rfl rfl (by exact rfl) rfl (WPr.nil (WP.inBlock (WP.region (WPr.silx [] ⟨[(1, .B 4 0), (3, .S 5), (5, .I v5_14), (6, .I (w64 (v6_23 + (1 : Int))))], [(4, .box (cC4 0 1 2 3 g_) 27), (5, .own (rI .i64) (setL' v3_23 x299.From (w64 (v5_14 + (1 : Int)))) true)], (vV4 0 1 2 3 g_ []), 12⟩ htt 3 (by kernel_rfl) (WPr.nil (WP.sub [] (ih23 ((setL' v3_23 x299.From (w64 (v5_14 + (1 : Int)))), (w64 (v6_23 + (1 : Int)))) h) rfl rfl rfl rfl)))))))
      exact WP.sub [] (ih N (v3_14, (0 : Int)) h) rfl rfl rfl rfl
    exact WP.sub [] (ih N ((setL' v3_1 g_.End (0 : Int)), (0 : Int)) h) rfl rfl rfl rfl
  refine WP.block (?_)
  refine WP.loopI (σ := (List Int) × Int) (fun st => ⟨[(1, .B 4 0), (3, .S 5), (4, .I st.2)], [(4, .box (cC4 0 1 2 3 g_) 27), (5, .own (rI .i64) st.1 true)], (vV4 0 1 2 3 g_ []), 6⟩) (fun n st => z81_l6 N g_ n st.1 st.2) (r := r) (fun _ => rfl) ?_ (fun ih => ?_)
  · intro n16 ih24
    rintro ⟨v3_24, v4_24⟩ h
    replace h : z81_l6 N g_ (n16 + 1) v3_24 v4_24 = some r := h
    unfold z81_l6 at h
    refine WP.seq (WP.seq (WP.region (WPr.silx [] ⟨[(1, .B 4 0), (3, .S 5), (4, .I v4_24), (14, .O (decide (v4_24 < g_.States)))], [(4, .box (cC4 0 1 2 3 g_) 27), (5, .own (rI .i64) v3_24 true)], (vV4 0 1 2 3 g_ []), 6⟩ htt 4 (by kernel_rfl) (WPr.nil (?_)))))
    rcases oc' h with ⟨hc, h⟩ | ⟨hc, h⟩
    · exact WP.condF hc rfl (WP.exit rfl (WP.sub [] (j1 v3_24 h) rfl rfl rfl rfl))
    refine WP.condT hc rfl (WP.skip (WP.seq (WP.block (WP.region (WPr.sil htt 2 rfl (?_))))))
    obtain ⟨x307, hx307, h⟩ := ob h
    exact WPr.ixo htt hx307 rfl rfl rfl rfl rfl rfl rfl rfl rfl (WPr.silx [3] ⟨[(1, .B 4 0), (3, .S 5), (4, .I v4_24), (19, .P 6 0)], [(4, .box (cC4 0 1 2 3 g_) 27), (5, .own (rI .i64) v3_24 true)], (vV4 0 1 2 3 g_ [(6, .el 5 ((v4_24).toNat * ((rI .i64)).sz))]), 7⟩ htt 0 (by kernel_rfl) (WPr.sto (oI .i64) htt (-1 : Int) hx307 rfl rfl rfl rfl rfl rfl rfl rfl rfl rfl (by exact rfl) rfl (WPr.nil (WP.inBlock (WP.region (WPr.silx [] ⟨[(1, .B 4 0), (3, .S 5), (4, .I (w64 (v4_24 + (1 : Int))))], [(4, .box (cC4 0 1 2 3 g_) 27), (5, .own (rI .i64) (setL' v3_24 v4_24 (-1 : Int)) true)], (vV4 0 1 2 3 g_ []), 7⟩ htt 3 (by kernel_rfl) (WPr.nil (WP.sub [] (ih24 ((setL' v3_24 v4_24 (-1 : Int)), (w64 (v4_24 + (1 : Int)))) h) rfl rfl rfl rfl))))))))
  exact WP.sub [] (ih N (x1, (0 : Int)) h) rfl rfl rfl rfl
theorem z74_ct (N : Nat) (g_ : T4) (i_ : Int) (k_ : Int) (r : Bool) (h : z74 N g_ i_ k_ = some r) :
  Fn Tryz.prog 74 ⟨4, [.a (cC4 0 1 2 3 g_), .I i_, .I k_], (vV4 0 1 2 3 g_ []), [], 4, .O r, [], []⟩ := by
  refine Fn.intro _ _ Tryz.func74 rfl (by kernel_rfl) rfl (fun E F w => ?_)
  unfold z74 at h
  refine WP.seq (WP.region (WPr.sil htt 2 rfl (WPr.nil (WP.seq (WP.nm (fun A1 tA1 fA1 => ?_))))))
  have st1 : A1 0 ⟨[(3, .B 4 0)], [], [], [], 5, [(9, .B 4 6)], [], [], 5⟩ := tA1 _ _ (LS.sil htt rfl rfl rfl rfl rfl rfl)
  have st2 : A1 1 ⟨[(9, .B 4 6)], (vV4 0 1 2 3 g_ []), [], [(4, .box (cC4 0 1 2 3 g_) 27)], 5, [(10, .S 2)], [], [], 5⟩ := tA1 _ _ (LS.sil htt rfl rfl rfl rfl rfl rfl)
  have st3 : A1 2 ⟨[(1, .I i_)], [], [], [], 5, [(11, .I i_)], [], [], 5⟩ := tA1 _ _ (LS.sil htt rfl rfl rfl rfl rfl rfl)
  obtain ⟨x4, hx4, h⟩ := ob h
  have st5 : A1 3 ⟨[(10, .S 2), (11, .I i_)], [(2, .sl rR2 g_.Edges)], [], [], 5, [(12, .P 5 0)], [(5, .pl (cC2 x4))], [], 6⟩ := tA1 _ _ (LS.of rfl rfl rfl (fun _ _ _ _ _ _ _ k => WPr.ix oO2 htt hx4 rfl rfl rfl rfl rfl rfl rfl rfl rfl (k)) rfl)
  have st6 : A1 4 ⟨[(12, .P 5 0)], [(5, .pl (cC2 x4))], [], [], 6, [(13, .P 5 1)], [], [], 6⟩ := tA1 _ _ (LS.sil htt rfl rfl rfl rfl rfl rfl)
  have st7 : A1 5 ⟨[(13, .P 5 1)], [(5, .pl (cC2 x4))], [], [], 6, [(14, .a (cC6 x4.Act))], [], [], 6⟩ := tA1 _ _ (LS.sil htt rfl rfl rfl rfl rfl rfl)
  have st8 : A1 6 ⟨[(3, .B 4 0)], [], [], [], 6, [(15, .B 4 6)], [], [], 6⟩ := tA1 _ _ (LS.sil htt rfl rfl rfl rfl rfl rfl)
  have st9 : A1 7 ⟨[(15, .B 4 6)], (vV4 0 1 2 3 g_ []), [], [(4, .box (cC4 0 1 2 3 g_) 27)], 6, [(16, .S 2)], [], [], 6⟩ := tA1 _ _ (LS.sil htt rfl rfl rfl rfl rfl rfl)
  have st10 : A1 8 ⟨[(2, .I k_)], [], [], [], 6, [(17, .I k_)], [], [], 6⟩ := tA1 _ _ (LS.sil htt rfl rfl rfl rfl rfl rfl)
  obtain ⟨x11, hx11, h⟩ := ob h
  have st12 : A1 9 ⟨[(16, .S 2), (17, .I k_)], [(2, .sl rR2 g_.Edges)], [], [], 6, [(18, .P 6 0)], [(6, .pl (cC2 x11))], [], 7⟩ := tA1 _ _ (LS.of rfl rfl rfl (fun _ _ _ _ _ _ _ k => WPr.ix oO2 htt hx11 rfl rfl rfl rfl rfl rfl rfl rfl rfl (k)) rfl)
  have st13 : A1 10 ⟨[(18, .P 6 0)], [(6, .pl (cC2 x11))], [], [], 7, [(19, .P 6 1)], [], [], 7⟩ := tA1 _ _ (LS.sil htt rfl rfl rfl rfl rfl rfl)
  have st14 : A1 11 ⟨[(19, .P 6 1)], [(6, .pl (cC2 x11))], [], [], 7, [(20, .a (cC6 x11.Act))], [], [], 7⟩ := tA1 _ _ (LS.sil htt rfl rfl rfl rfl rfl rfl)
  have st15 : A1 12 ⟨[], [], [], [], 7, [(7, .B 7 0)], [], [(7, .box [.I (0 : Int), .I (0 : Int), .I (0 : Int)] 37)], 8⟩ := tA1 _ _ (LS.sil htt rfl rfl rfl rfl rfl rfl)
  have st16 : A1 13 ⟨[], [], [], [], 8, [(8, .B 8 0)], [], [(8, .box [.I (0 : Int), .I (0 : Int), .I (0 : Int)] 37)], 9⟩ := tA1 _ _ (LS.sil htt rfl rfl rfl rfl rfl rfl)
  have st17 : A1 14 ⟨[(7, .B 7 0), (14, .a (cC6 x4.Act))], [], [(7, .box [.I (0 : Int), .I (0 : Int), .I (0 : Int)] 37)], [], 9, [], [], [(7, .box (cC6 x4.Act) 37)], 9⟩ := tA1 _ _ (LS.sil htt rfl rfl rfl rfl rfl rfl)
  have st18 : A1 15 ⟨[(8, .B 8 0), (20, .a (cC6 x11.Act))], [], [(8, .box [.I (0 : Int), .I (0 : Int), .I (0 : Int)] 37)], [], 9, [], [], [(8, .box (cC6 x11.Act) 37)], 9⟩ := tA1 _ _ (LS.sil htt rfl rfl rfl rfl rfl rfl)
  refine WP.regionD (t := ⟨[(1, .I i_), (2, .I k_), (6, .O false), (7, .B 7 0), (8, .B 8 0)], [(7, .box (cC6 x4.Act) 37), (8, .box (cC6 x11.Act) 37)], (vV4 0 1 2 3 g_ []), 9⟩) [0, 1, 0, 7, 15, 31, 0, 64, 0, 448, 960, 1984, 0, 0, 12351, 32767] (.cons (fA1 _ _ st1) (.cons (fA1 _ _ st2) (.cons (fA1 _ _ st3) (.cons (fA1 _ _ st5) (.cons (fA1 _ _ st6) (.cons (fA1 _ _ st7) (.cons (fA1 _ _ st8) (.cons (fA1 _ _ st9) (.cons (fA1 _ _ st10) (.cons (fA1 _ _ st12) (.cons (fA1 _ _ st13) (.cons (fA1 _ _ st14) (.cons (fA1 _ _ st15) (.cons (fA1 _ _ st16) (.cons (fA1 _ _ st17) (.cons (fA1 _ _ st18) .nil)))))))))))))))) (by kernel_rfl) (by kernel_rfl) (by kernel_rfl) (by kernel_rfl) (WP.seq (WP.seq (WP.region (WPr.silx [] ⟨[(1, .I i_), (2, .I k_), (6, .O false), (7, .B 7 0), (8, .B 8 0), (25, .O (x4.Act.To != x11.Act.To))], [(7, .box (cC6 x4.Act) 37), (8, .box (cC6 x11.Act) 37)], (vV4 0 1 2 3 g_ []), 9⟩ htt 5 (by kernel_rfl) (WPr.nil (?_))))))
  rcases oc h with ⟨hc, h⟩ | ⟨hc, h⟩
  · refine WP.condT hc rfl (WP.seq (WP.region (WPr.silx [] ⟨[(6, .O (decide (x4.Act.To < x11.Act.To)))], [], (vV4 0 1 2 3 g_ []), 9⟩ htt 6 (by kernel_rfl) (WPr.nil (?_)))))
    cases h
    exact WP.ret htt Tryz.func74 [] rfl rfl rfl rfl
  refine WP.condF hc rfl (WP.skip (WP.seq (WP.seq (WP.region (WPr.silx [] ⟨[(1, .I i_), (2, .I k_), (6, .O false), (7, .B 7 0), (8, .B 8 0), (35, .O (x4.Act.Label != x11.Act.Label))], [(7, .box (cC6 x4.Act) 37), (8, .box (cC6 x11.Act) 37)], (vV4 0 1 2 3 g_ []), 9⟩ htt 5 (by kernel_rfl) (WPr.nil (?_)))))))
  rcases oc h with ⟨hc, h⟩ | ⟨hc, h⟩
  · refine WP.condT hc rfl (WP.seq (WP.region (WPr.silx [] ⟨[(6, .O (decide (x4.Act.Label < x11.Act.Label)))], [], (vV4 0 1 2 3 g_ []), 9⟩ htt 6 (by kernel_rfl) (WPr.nil (?_)))))
    cases h
    exact WP.ret htt Tryz.func74 [] rfl rfl rfl rfl
  refine WP.condF hc rfl (WP.skip (WP.seq (WP.region (WPr.silx [] ⟨[(6, .O (decide (i_ < k_)))], [], (vV4 0 1 2 3 g_ []), 9⟩ htt 4 (by kernel_rfl) (WPr.nil (?_))))))
  cases h
  exact WP.ret htt Tryz.func74 [] rfl rfl rfl rfl
theorem z28_ct (N : Nat) (g_ : T4) (s_ : Int) (r : (List Int)) (h : z28 N g_ s_ = some r) :
  Fn Tryz.prog 28 ⟨4, [.a (cC4 0 1 2 3 g_), .I s_], (vV4 0 1 2 3 g_ []), [], 5, .S 4, [], [(4, .own (rI .i64) r true)]⟩ := by
  refine Fn.intro _ _ Tryz.func28 rfl (by kernel_rfl) rfl (fun E F w => ?_)
  unfold z28 at h
  refine WP.seq (WP.region (WPr.sil htt 2 rfl (WPr.nil (WP.seq (WP.region (WPr.silx [] ⟨[(1, .I s_), (2, .B 4 0), (4, .c .nil), (5, .c .nil)], [(4, .box (cC4 0 1 2 3 g_) 27)], (vV4 0 1 2 3 g_ []), 5⟩ htt 1 (by kernel_rfl) (WPr.nil (WP.seq (WP.seq (WP.region (WPr.sil htt 1 rfl (WPr.nil (?_)))))))))))))
  refine WP.cut (σ := (List Int)) (fun st => ⟨[(5, .S 5)], [(5, .own (rI .i64) st true)], (vV4 0 1 2 3 g_ []), 6⟩) (fun st => z28_k1 st = some r) ?_ (fun j1 => ?_)
  · intro v5_1 h
    replace h : z28_k1 v5_1 = some r := h
    unfold z28_k1 at h
    refine WP.seq (WP.region (WPr.sil htt 2 rfl (WPr.nil (?_))))
    cases h
    exact WP.ret htt Tryz.func28 [(4, .sl 5)] rfl rfl rfl rfl
  refine WP.block (?_)
  refine WP.loopI (σ := (List Int) × Int) (fun st => ⟨[(1, .I s_), (2, .B 4 0), (5, .S 5), (6, .I st.2)], [(4, .box (cC4 0 1 2 3 g_) 27), (5, .own (rI .i64) st.1 true)], (vV4 0 1 2 3 g_ []), 6⟩) (fun n st => z28_l2 N g_ s_ n st.1 st.2) (r := r) (fun _ => rfl) ?_ (fun ih => ?_)
  · intro n12 ih12
    rintro ⟨v5_12, v6_12⟩ h
    replace h : z28_l2 N g_ s_ (n12 + 1) v5_12 v6_12 = some r := h
    unfold z28_l2 at h
    refine WP.seq (WP.seq (WP.region (WPr.silx [] ⟨[(1, .I s_), (2, .B 4 0), (5, .S 5), (6, .I v6_12), (12, .O (decide (v6_12 < (g_.Edges.length : Int))))], [(4, .box (cC4 0 1 2 3 g_) 27), (5, .own (rI .i64) v5_12 true)], (vV4 0 1 2 3 g_ []), 6⟩ htt 5 (by kernel_rfl) (WPr.nil (?_)))))
    rcases oc' h with ⟨hc, h⟩ | ⟨hc, h⟩
    · exact WP.condF hc rfl (WP.exit rfl (WP.sub [] (j1 v5_12 h) rfl rfl rfl rfl))
    refine WP.condT hc rfl (WP.skip (WP.seq (WP.block (WP.seq (WP.seq (WP.region (WPr.silx [3, 4, 5, 6, 7] ⟨[(1, .I s_), (2, .B 4 0), (5, .S 5), (6, .I v6_12), (16, .S 2), (17, .I v6_12)], [(4, .box (cC4 0 1 2 3 g_) 27), (5, .own (rI .i64) v5_12 true)], (vV4 0 1 2 3 g_ []), 6⟩ htt 3 (by kernel_rfl) (?_))))))))
    obtain ⟨x1619, hx1619, h⟩ := ob h
    refine WPr.ix oO2 htt hx1619 rfl rfl rfl rfl rfl rfl rfl rfl rfl (WPr.silx [] ⟨[(1, .I s_), (2, .B 4 0), (5, .S 5), (6, .I v6_12), (22, .O (x1619.From != s_))], [(4, .box (cC4 0 1 2 3 g_) 27), (5, .own (rI .i64) v5_12 true)], (vV4 0 1 2 3 g_ []), 7⟩ htt 4 (by kernel_rfl) (WPr.nil (?_)))
    rcases oc h with ⟨hc, h⟩ | ⟨hc, h⟩
    · exact WP.condT hc rfl (WP.exit rfl (WP.region (WPr.silx [] ⟨[(1, .I s_), (2, .B 4 0), (5, .S 5), (6, .I (w64 (v6_12 + (1 : Int))))], [(4, .box (cC4 0 1 2 3 g_) 27), (5, .own (rI .i64) v5_12 true)], (vV4 0 1 2 3 g_ []), 7⟩ htt 3 (by kernel_rfl) (WPr.nil (WP.sub [] (ih12 (v5_12, (w64 (v6_12 + (1 : Int)))) h) rfl rfl rfl rfl)))))
    refine WP.condF hc rfl (WP.skip (WP.seq (WP.region (WPr.sil htt 1 rfl (WPr.nil (WP.seq (?_)))))))
    refine WP.cut (σ := Int) (fun st => ⟨[(1, .I s_), (2, .B 4 0), (5, .S 5), (6, .I v6_12), (7, .I st)], [(4, .box (cC4 0 1 2 3 g_) 27), (5, .own (rI .i64) v5_12 true)], (vV4 0 1 2 3 g_ []), 7⟩) (fun st => z28_k3 v5_12 v6_12 (z28_l2 N g_ s_ n12) st = some r) ?_ (fun j19 => ?_)
    · intro v7_19 h
      replace h : z28_k3 v5_12 v6_12 (z28_l2 N g_ s_ n12) v7_19 = some r := h
      unfold z28_k3 at h
      refine WP.nm (fun A74 tA74 fA74 => ?_)
      have st1724 : A74 0 ⟨[(5, .S 5)], [], [], [], 7, [(38, .S 5)], [], [], 7⟩ := tA74 _ _ (LS.sil htt rfl rfl rfl rfl rfl rfl)
      have st1725 : A74 1 ⟨[(7, .I v7_19)], [], [], [], 7, [(39, .I v7_19)], [], [], 7⟩ := tA74 _ _ (LS.sil htt rfl rfl rfl rfl rfl rfl)
      obtain ⟨x1726, hx1726, h⟩ := ob h
      have st1727 : A74 2 ⟨[(38, .S 5), (39, .I v7_19)], [], [], [(5, .own (rI .i64) v5_12 true)], 7, [(40, .S 7)], [(7, .vw 5 none (some v7_19) ((rI .i64)).sz)], [], 8⟩ := tA74 _ _ (LS.of rfl rfl rfl (fun _ _ _ _ _ _ _ k => WPr.vw htt (l := none) (h := some (.i64, v7_19)) hx1726 rfl rfl rfl rfl rfl rfl rfl rfl rfl rfl (k)) rfl)
      have st1728 : A74 3 ⟨[(6, .I v6_12)], [], [], [], 8, [(41, .I v6_12)], [], [], 8⟩ := tA74 _ _ (LS.sil htt rfl rfl rfl rfl rfl rfl)
      have st1729 : A74 4 ⟨[(41, .I v6_12)], [], [], [], 8, [(42, .S 8)], [], [(8, .own (rI .i64) ([v6_12] : List Int) true)], 9⟩ := tA74 _ _ (LS.of rfl rfl rfl (fun _ _ _ _ _ _ _ k => WPr.bs (cs := [.I v6_12]) (oI .i64) htt ([v6_12] : List Int) rfl rfl rfl rfl rfl rfl (by kernel_rfl) (by exact (an rfl rfl)) rfl (k)) rfl)
      have st1730 : A74 5 ⟨[(5, .S 5)], [], [], [], 9, [(43, .S 5)], [], [], 9⟩ := tA74 _ _ (LS.sil htt rfl rfl rfl rfl rfl rfl)
      have st1731 : A74 6 ⟨[(7, .I v7_19)], [], [], [], 9, [(44, .I v7_19)], [], [], 9⟩ := tA74 _ _ (LS.sil htt rfl rfl rfl rfl rfl rfl)
      obtain ⟨x1732, hx1732, h⟩ := ob h
      have st1733 : A74 7 ⟨[(43, .S 5), (44, .I v7_19)], [], [], [(5, .own (rI .i64) v5_12 true)], 9, [(45, .S 9)], [(9, .vw 5 (some v7_19) none ((rI .i64)).sz)], [], 10⟩ := tA74 _ _ (LS.of rfl rfl rfl (fun _ _ _ _ _ _ _ k => WPr.vw htt (l := some (.i64, v7_19)) (h := none) hx1732 rfl rfl rfl rfl rfl rfl rfl rfl rfl rfl (k)) rfl)
      obtain ⟨x1734, hx1734, h⟩ := ob h
      have st1735 : A74 8 ⟨[(42, .S 8), (45, .S 9)], [(9, .vw 5 (some v7_19) none ((rI .i64)).sz)], [(8, .own (rI .i64) ([v6_12] : List Int) true)], [(5, .own (rI .i64) v5_12 true)], 10, [(46, .S 10)], [], [(8, .gone), (10, .own (rI .i64) x1734 true)], 11⟩ := tA74 _ _ (LS.of rfl rfl rfl (fun _ _ _ _ _ _ _ k => WPr.app htt hx1734 (by exact (srcV hx1732 rfl rfl)) rfl rfl rfl rfl rfl rfl rfl rfl rfl rfl (k)) rfl)
      obtain ⟨x1736, hx1736, h⟩ := ob h
      have st1737 : A74 9 ⟨[(40, .S 7), (46, .S 10)], [(7, .vw 5 none (some v7_19) ((rI .i64)).sz)], [(5, .own (rI .i64) v5_12 true)], [(10, .own (rI .i64) x1734 true)], 11, [(47, .S 11)], [], [(5, .gone), (7, .gone), (11, .own (rI .i64) x1736 true)], 12⟩ := tA74 _ _ (LS.of rfl rfl rfl (fun _ _ _ _ _ _ _ k => WPr.stl 7 hx1726 rfl rfl rfl (WPr.app htt hx1736 (by exact (srcO rfl)) rfl rfl rfl rfl rfl rfl rfl rfl rfl rfl (k))) rfl)
      have st1738 : A74 10 ⟨[(47, .S 11)], [], [], [], 12, [(5, .S 11)], [], [], 12⟩ := tA74 _ _ (LS.sil htt rfl rfl rfl rfl rfl rfl)
      exact WP.regionD (t := ⟨[(1, .I s_), (2, .B 4 0), (5, .S 11), (6, .I v6_12)], [(4, .box (cC4 0 1 2 3 g_) 27), (11, .own (rI .i64) x1736 true)], (vV4 0 1 2 3 g_ []), 12⟩) [0, 0, 3, 0, 8, 0, 0, 96, 248, 511, 1023] (.cons (fA74 _ _ st1724) (.cons (fA74 _ _ st1725) (.cons (fA74 _ _ st1727) (.cons (fA74 _ _ st1728) (.cons (fA74 _ _ st1729) (.cons (fA74 _ _ st1730) (.cons (fA74 _ _ st1731) (.cons (fA74 _ _ st1733) (.cons (fA74 _ _ st1735) (.cons (fA74 _ _ st1737) (.cons (fA74 _ _ st1738) .nil))))))))))) (by kernel_rfl) (by kernel_rfl) (by kernel_rfl) (by kernel_rfl) (WP.inBlock (WP.region (WPr.silx [] ⟨[(1, .I s_), (2, .B 4 0), (5, .S 11), (6, .I (w64 (v6_12 + (1 : Int))))], [(4, .box (cC4 0 1 2 3 g_) 27), (11, .own (rI .i64) x1736 true)], (vV4 0 1 2 3 g_ []), 12⟩ htt 3 (by kernel_rfl) (WPr.nil (WP.sub [(5, .sl 11)] (ih12 (x1736, (w64 (v6_12 + (1 : Int)))) h) rfl rfl rfl rfl)))))
    refine WP.block (?_)
    refine WP.loopI (σ := Int) (fun st => ⟨[(1, .I s_), (2, .B 4 0), (5, .S 5), (6, .I v6_12), (7, .I st)], [(4, .box (cC4 0 1 2 3 g_) 27), (5, .own (rI .i64) v5_12 true)], (vV4 0 1 2 3 g_ []), 7⟩) (fun n st => z28_l4 N g_ v5_12 v6_12 (z28_l2 N g_ s_ n12) n st) (r := r) (fun _ => rfl) ?_ (fun ih => ?_)
    · intro n14 ih21
      intro v7_21 h
      replace h : z28_l4 N g_ v5_12 v6_12 (z28_l2 N g_ s_ n12) (n14 + 1) v7_21 = some r := h
      unfold z28_l4 at h
      refine WP.seq (WP.seq (WP.nm (fun A79 tA79 fA79 => ?_)))
      have st1844 : A79 0 ⟨[(7, .I v7_21)], [], [], [], 7, [(23, .I v7_21)], [], [], 7⟩ := tA79 _ _ (LS.sil htt rfl rfl rfl rfl rfl rfl)
      have st1845 : A79 1 ⟨[(5, .S 5)], [], [], [], 7, [(24, .S 5)], [], [], 7⟩ := tA79 _ _ (LS.sil htt rfl rfl rfl rfl rfl rfl)
      have st1846 : A79 2 ⟨[(24, .S 5)], [], [], [(5, .own (rI .i64) v5_12 true)], 7, [(25, .I (v5_12.length : Int))], [], [], 7⟩ := tA79 _ _ (LS.sil htt rfl rfl rfl rfl rfl rfl)
      have st1847 : A79 3 ⟨[(23, .I v7_21), (25, .I (v5_12.length : Int))], [], [], [], 7, [(26, .O (decide (v7_21 < (v5_12.length : Int))))], [], [], 7⟩ := tA79 _ _ (LS.sil htt rfl rfl rfl rfl rfl rfl)
      have st1848 : A79 4 ⟨[(26, .O (decide (v7_21 < (v5_12.length : Int))))], [], [], [], 7, [(27, .O (decide (v7_21 < (v5_12.length : Int))))], [], [], 7⟩ := tA79 _ _ (LS.sil htt rfl rfl rfl rfl rfl rfl)
      rcases oc' h with ⟨hc, h⟩ | ⟨hc, h⟩
      · have st1860 := tA79 _ _ (LS.kb hc rfl (fA79 _ _ st1848))
        have st1861 : A79 5 ⟨[(27, .O false)], [], [], [], 7, [(28, .u)], [], [], 7⟩ := tA79 _ _ (LS.skip rfl rfl rfl (.inr ⟨_, rfl, rfl⟩) rfl rfl)
        have st1862 : A79 6 ⟨[(27, .O false)], [], [], [], 7, [(29, .u)], [], [], 7⟩ := tA79 _ _ (LS.skip rfl rfl rfl (.inr ⟨_, rfl, rfl⟩) rfl rfl)
        have st1863 : A79 7 ⟨[(27, .O false)], [], [], [], 7, [(30, .u)], [], [], 7⟩ := tA79 _ _ (LS.skip rfl rfl rfl (.inr ⟨_, rfl, rfl⟩) rfl rfl)
        have st1864 : A79 8 ⟨[(27, .O false)], [], [], [], 7, [(31, .u)], [], [], 7⟩ := tA79 _ _ (LS.skip rfl rfl rfl (.inr ⟨_, rfl, rfl⟩) rfl rfl)
        have st1865 : A79 9 ⟨[(27, .O false)], [], [], [], 7, [(32, .u)], [], [], 7⟩ := tA79 _ _ (LS.skip rfl rfl rfl (.inr ⟨_, rfl, rfl⟩) rfl rfl)
        have st1866 : A79 10 ⟨[(27, .O false)], [], [], [], 7, [(33, .u)], [], [], 7⟩ := tA79 _ _ (LS.skip rfl rfl rfl (.inr ⟨_, rfl, rfl⟩) rfl rfl)
        have st1867 : A79 11 ⟨[(27, .O false)], [], [], [], 7, [(34, .u)], [], [], 7⟩ := tA79 _ _ (LS.skip rfl rfl rfl (.inr ⟨_, rfl, rfl⟩) rfl rfl)
        have st1868 : A79 12 ⟨[(27, .O false), (34, .u)], [], [], [], 7, [(35, .O false)], [], [], 7⟩ := tA79 _ _ (LS.sil htt rfl rfl rfl rfl rfl rfl)
        exact WP.regionD (t := ⟨[(1, .I s_), (2, .B 4 0), (5, .S 5), (6, .I v6_12), (7, .I v7_21), (35, .O false)], [(4, .box (cC4 0 1 2 3 g_) 27), (5, .own (rI .i64) v5_12 true)], (vV4 0 1 2 3 g_ []), 7⟩) [0, 0, 2, 7, 15, 31, 31, 31, 223, 479, 31, 2047, 4095] (.cons (fA79 _ _ st1844) (.cons (fA79 _ _ st1845) (.cons (fA79 _ _ st1846) (.cons (fA79 _ _ st1847) (.cons (fA79 _ _ st1860) (.cons (fA79 _ _ st1861) (.cons (fA79 _ _ st1862) (.cons (fA79 _ _ st1863) (.cons (fA79 _ _ st1864) (.cons (fA79 _ _ st1865) (.cons (fA79 _ _ st1866) (.cons (fA79 _ _ st1867) (.cons (fA79 _ _ st1868) .nil))))))))))))) (by kernel_rfl) (by kernel_rfl) (by kernel_rfl) (by kernel_rfl) (WP.condF rfl rfl (WP.exit rfl (WP.sub [] (j19 v7_21 h) rfl rfl rfl rfl)))
      have st1849 := tA79 _ _ (LS.kb hc rfl (fA79 _ _ st1848))
      have st1850 : A79 5 ⟨[(2, .B 4 0), (27, .O true)], (vV4 0 1 2 3 g_ []), [], [(4, .box (cC4 0 1 2 3 g_) 27)], 7, [(28, .a (cC4 0 1 2 3 g_))], [], [], 7⟩ := tA79 _ _ (LS.sil htt rfl rfl rfl rfl rfl rfl)
      have st1851 : A79 6 ⟨[(5, .S 5), (27, .O true)], [], [], [], 7, [(29, .S 5)], [], [], 7⟩ := tA79 _ _ (LS.sil htt rfl rfl rfl rfl rfl rfl)
      have st1852 : A79 7 ⟨[(7, .I v7_21), (27, .O true)], [], [], [], 7, [(30, .I v7_21)], [], [], 7⟩ := tA79 _ _ (LS.sil htt rfl rfl rfl rfl rfl rfl)
      obtain ⟨x1853, hx1853, h⟩ := ob h
      have st1854 : A79 8 ⟨[(27, .O true), (29, .S 5), (30, .I v7_21)], [], [], [(5, .own (rI .i64) v5_12 true)], 7, [(31, .P 7 0)], [(7, .el 5 ((v7_21).toNat * ((rI .i64)).sz))], [], 8⟩ := tA79 _ _ (LS.of rfl rfl rfl (fun _ _ _ _ _ _ _ k => WPr.ixo htt hx1853 rfl rfl rfl rfl rfl rfl rfl rfl rfl (k)) rfl)
      have st1855 : A79 9 ⟨[(27, .O true), (31, .P 7 0)], [(7, .el 5 ((v7_21).toNat * ((rI .i64)).sz))], [], [(5, .own (rI .i64) v5_12 true)], 8, [(32, .I x1853)], [], [], 8⟩ := tA79 _ _ (LS.of rfl rfl rfl (fun _ _ _ _ _ _ _ k => WPr.ldo (oI .i64) htt hx1853 rfl rfl rfl rfl rfl rfl rfl rfl rfl rfl (k)) rfl)
      have st1856 : A79 10 ⟨[(6, .I v6_12), (27, .O true)], [], [], [], 8, [(33, .I v6_12)], [], [], 8⟩ := tA79 _ _ (LS.sil htt rfl rfl rfl rfl rfl rfl)
      obtain ⟨x1857, hx1857, h⟩ := ob h
      have st1858 : A79 11 ⟨[(27, .O true), (28, .a (cC4 0 1 2 3 g_)), (32, .I x1853), (33, .I v6_12)], (vV4 0 1 2 3 g_ []), [], [], 8, [(34, .O x1857)], [], [], 8⟩ := tA79 _ _ (LS.of rfl rfl rfl (fun _ _ _ _ _ _ _ k => WPr.call (z74_ct N g_ x1853 v6_12 _ hx1857) [(0, .sl 0), (1, .sl 1), (2, .sl 2), (3, .sl 3)] [] rfl rfl rfl rfl rfl rfl rfl rfl (.inl rfl) rfl (k)) rfl)
      have st1859 : A79 12 ⟨[(27, .O true), (34, .O x1857)], [], [], [], 8, [(35, .O x1857)], [], [], 8⟩ := tA79 _ _ (LS.sil htt rfl rfl rfl rfl rfl rfl)
      refine WP.regionD (t := ⟨[(1, .I s_), (2, .B 4 0), (5, .S 5), (6, .I v6_12), (7, .I v7_21), (35, .O x1857)], [(4, .box (cC4 0 1 2 3 g_) 27), (5, .own (rI .i64) v5_12 true)], (vV4 0 1 2 3 g_ []), 8⟩) [0, 0, 2, 7, 15, 31, 31, 31, 223, 479, 31, 2047, 4095] (.cons (fA79 _ _ st1844) (.cons (fA79 _ _ st1845) (.cons (fA79 _ _ st1846) (.cons (fA79 _ _ st1847) (.cons (fA79 _ _ st1849) (.cons (fA79 _ _ st1850) (.cons (fA79 _ _ st1851) (.cons (fA79 _ _ st1852) (.cons (fA79 _ _ st1854) (.cons (fA79 _ _ st1855) (.cons (fA79 _ _ st1856) (.cons (fA79 _ _ st1858) (.cons (fA79 _ _ st1859) .nil))))))))))))) (by kernel_rfl) (by kernel_rfl) (by kernel_rfl) (by kernel_rfl) (?_)
      rcases oc h with ⟨hc, h⟩ | ⟨hc, h⟩
      · exact WP.condT hc rfl (WP.skip (WP.block (WP.region (WPr.silx [] ⟨[(1, .I s_), (2, .B 4 0), (5, .S 5), (6, .I v6_12), (7, .I (w64 (v7_21 + (1 : Int))))], [(4, .box (cC4 0 1 2 3 g_) 27), (5, .own (rI .i64) v5_12 true)], (vV4 0 1 2 3 g_ []), 8⟩ htt 3 (by kernel_rfl) (WPr.nil (WP.inBlock (WP.sub [] (ih21 (w64 (v7_21 + (1 : Int))) h) rfl rfl rfl rfl)))))))
      exact WP.condF hc rfl (WP.exit rfl (WP.sub [] (j19 v7_21 h) rfl rfl rfl rfl))
    exact WP.sub [] (ih N (0 : Int) h) rfl rfl rfl rfl
  exact WP.sub [(5, .nil)] (ih N (([] : List Int), (0 : Int)) h) rfl rfl rfl rfl
theorem z54_ct (N : Nat) (g_ : T4) (r : Bool) (h : z54 N g_ = some r) :
  Fn Tryz.prog 54 ⟨4, [.a (cC4 0 1 2 3 g_)], (vV4 0 1 2 3 g_ []), [], 4, .O r, [], []⟩ := by
  refine Fn.intro _ _ Tryz.func54 rfl (by kernel_rfl) rfl (fun E F w => ?_)
  unfold z54 at h
  refine WP.seq (WP.region (WPr.sil htt 2 rfl (WPr.nil (WP.seq (WP.region (WPr.silx [2, 3] ⟨[(1, .B 4 0), (2, .O false), (9, .I g_.States)], [(4, .box (cC4 0 1 2 3 g_) 27)], (vV4 0 1 2 3 g_ []), 5⟩ htt 2 (by kernel_rfl) (?_)))))))
  obtain ⟨x1, hx1, h⟩ := ob h
  refine WPr.mk oB htt false hx1 rfl rfl rfl rfl rfl rfl rfl rfl (by exact an rfl rfl) rfl (WPr.sil htt 1 rfl (WPr.nil (WP.seq (WP.region (WPr.silx [3, 4] ⟨[(1, .B 4 0), (2, .O false), (3, .S 5), (11, .S 5), (13, .I g_.Start)], [(4, .box (cC4 0 1 2 3 g_) 27), (5, .own rB x1 true)], (vV4 0 1 2 3 g_ []), 6⟩ htt 3 (by kernel_rfl) (?_))))))
  obtain ⟨x2, hx2, h⟩ := ob h
  refine WPr.ixo htt hx2 rfl rfl rfl rfl rfl rfl rfl rfl rfl (WPr.sto oB htt true hx2 rfl rfl rfl rfl rfl rfl rfl rfl rfl rfl (by exact rfl) rfl (WPr.nil (WP.seq (WP.seq (WP.region (WPr.silx [] ⟨[(1, .B 4 0), (2, .O false), (3, .S 5), (4, .I (0 : Int))], [(4, .box (cC4 0 1 2 3 g_) 27), (5, .own rB (setL' x1 g_.Start true) true)], (vV4 0 1 2 3 g_ []), 7⟩ htt 1 (by kernel_rfl) (WPr.nil (?_))))))))
  refine WP.cut (σ := (List Bool)) (fun st => ⟨[(1, .B 4 0), (3, .S 5)], [(4, .box (cC4 0 1 2 3 g_) 27), (5, .own rB st true)], (vV4 0 1 2 3 g_ []), 7⟩) (fun st => z54_k3 N g_ st = some r) ?_ (fun j1 => ?_)
  · intro v3_1 h
    replace h : z54_k3 N g_ v3_1 = some r := h
    unfold z54_k3 at h
    refine WP.seq (WP.region (WPr.sil htt 1 rfl (?_)))
    obtain ⟨x1603, hx1603, h⟩ := ob h
    refine WPr.call (z81_ct N g_ _ hx1603) [(0, .sl 0), (1, .sl 1), (2, .sl 2), (3, .sl 3)] [] rfl rfl rfl rfl rfl rfl rfl rfl (.inl rfl) rfl (WPr.silx [] ⟨[(1, .B 4 0), (3, .S 5), (6, .S 7)], [(4, .box (cC4 0 1 2 3 g_) 27), (5, .own rB v3_1 true), (7, .own (rI .i64) x1603 true)], (vV4 0 1 2 3 g_ []), 8⟩ htt 1 (by kernel_rfl) (WPr.nil (WP.seq (WP.seq (WP.region (WPr.sil htt 1 rfl (WPr.nil (?_))))))))
    refine WP.cut (σ := Unit) (fun st => ⟨[(1, .B 4 0)], [(4, .box (cC4 0 1 2 3 g_) 27)], (vV4 0 1 2 3 g_ []), 8⟩) (fun st => z54_k1 N g_ = some r) ?_ (fun j12 => ?_)
    · intro _ h
      replace h : z54_k1 N g_ = some r := h
      unfold z54_k1 at h
      refine WP.seq (WP.region (WPr.silx [3, 4, 5, 6] ⟨[(76, .a (cC4 0 1 2 3 g_)), (78, .I g_.End)], [], (vV4 0 1 2 3 g_ []), 8⟩ htt 3 (by kernel_rfl) (?_)))
      obtain ⟨x1612, hx1612, h⟩ := ob h
      refine WPr.call (z28_ct N g_ g_.End _ hx1612) [(0, .sl 0), (1, .sl 1), (2, .sl 2), (3, .sl 3)] [] rfl rfl rfl rfl rfl rfl rfl rfl (.inl rfl) rfl (WPr.silx [] ⟨[(2, .O ((x1612.length : Int) == (0 : Int)))], [], (vV4 0 1 2 3 g_ []), 9⟩ htt 3 (by kernel_rfl) (WPr.nil (?_)))
      cases h
      exact WP.ret htt Tryz.func54 [] rfl rfl rfl rfl
    refine WP.block (?_)
    refine WP.loopI (σ := Int) (fun st => ⟨[(1, .B 4 0), (3, .S 5), (6, .S 7), (7, .I st)], [(4, .box (cC4 0 1 2 3 g_) 27), (5, .own rB v3_1 true), (7, .own (rI .i64) x1603 true)], (vV4 0 1 2 3 g_ []), 8⟩) (fun n st => z54_l2 N g_ v3_1 x1603 n st) (r := r) (fun _ => rfl) ?_ (fun ih => ?_)
    · intro n9 ih14
      intro v7_14 h
      replace h : z54_l2 N g_ v3_1 x1603 (n9 + 1) v7_14 = some r := h
      unfold z54_l2 at h
      refine WP.seq (WP.seq (WP.region (WPr.silx [] ⟨[(1, .B 4 0), (3, .S 5), (6, .S 7), (7, .I v7_14), (61, .O (decide (v7_14 < g_.States)))], [(4, .box (cC4 0 1 2 3 g_) 27), (5, .own rB v3_1 true), (7, .own (rI .i64) x1603 true)], (vV4 0 1 2 3 g_ []), 8⟩ htt 4 (by kernel_rfl) (WPr.nil (?_)))))
      rcases oc' h with ⟨hc, h⟩ | ⟨hc, h⟩
      · exact WP.condF hc rfl (WP.exit rfl (WP.sub [] (j12 () h) rfl rfl rfl rfl))
      refine WP.condT hc rfl (WP.skip (WP.seq (WP.block (WP.seq (WP.region (WPr.sil htt 2 rfl (?_)))))))
      obtain ⟨x1621, hx1621, h⟩ := ob h
      refine WPr.ixo htt hx1621 rfl rfl rfl rfl rfl rfl rfl rfl rfl (WPr.silx (rg 3 9) ⟨[(1, .B 4 0), (3, .S 5), (6, .S 7), (7, .I v7_14), (66, .P 8 0)], [(4, .box (cC4 0 1 2 3 g_) 27), (5, .own rB v3_1 true), (7, .own (rI .i64) x1603 true)], (vV4 0 1 2 3 g_ [(8, .el 5 ((v7_14).toNat * (rB).sz))]), 9⟩ htt 0 (by kernel_rfl) (WPr.ldo oB htt hx1621 rfl rfl rfl rfl rfl rfl rfl rfl rfl rfl (WPr.silx (rg 6 6) ⟨[(1, .B 4 0), (3, .S 5), (6, .S 7), (7, .I v7_14), (69, .O (!x1621))], [(4, .box (cC4 0 1 2 3 g_) 27), (5, .own rB v3_1 true), (7, .own (rI .i64) x1603 true)], (vV4 0 1 2 3 g_ []), 9⟩ htt 2 (by kernel_rfl) (?_))))
      rcases oc h with ⟨hc, h⟩ | ⟨hc, h⟩
      · refine WPr.kb 69 hc rfl (WPr.silx [] ⟨[(1, .B 4 0), (3, .S 5), (6, .S 7), (7, .I v7_14), (75, .O true)], [(4, .box (cC4 0 1 2 3 g_) 27), (5, .own rB v3_1 true), (7, .own (rI .i64) x1603 true)], (vV4 0 1 2 3 g_ []), 9⟩ htt 6 (by kernel_rfl) (WPr.nil (WP.condT rfl rfl (WP.seq (WP.region (WPr.sil htt 1 rfl (WPr.nil (?_))))))))
        cases h
        exact WP.ret htt Tryz.func54 [] rfl rfl rfl rfl
      refine WPr.kb 69 hc rfl (WPr.sil htt 2 rfl (?_))
      obtain ⟨x1622, hx1622, h⟩ := ob h
      refine WPr.ixo htt hx1622 rfl rfl rfl rfl rfl rfl rfl rfl rfl (WPr.silx [9, 10, 11] ⟨[(1, .B 4 0), (3, .S 5), (6, .S 7), (7, .I v7_14), (69, .O false), (72, .P 9 0)], [(4, .box (cC4 0 1 2 3 g_) 27), (5, .own rB v3_1 true), (7, .own (rI .i64) x1603 true)], (vV4 0 1 2 3 g_ [(9, .el 7 ((v7_14).toNat * ((rI .i64)).sz))]), 10⟩ htt 0 (by kernel_rfl) (WPr.ldo (oI .i64) htt hx1622 rfl rfl rfl rfl rfl rfl rfl rfl rfl rfl (WPr.silx [] ⟨[(1, .B 4 0), (3, .S 5), (6, .S 7), (7, .I v7_14), (75, .O (decide (x1622 < (0 : Int))))], [(4, .box (cC4 0 1 2 3 g_) 27), (5, .own rB v3_1 true), (7, .own (rI .i64) x1603 true)], (vV4 0 1 2 3 g_ []), 10⟩ htt 2 (by kernel_rfl) (WPr.nil (?_)))))
      rcases oc h with ⟨hc, h⟩ | ⟨hc, h⟩
      · refine WP.condT hc rfl (WP.seq (WP.region (WPr.sil htt 1 rfl (WPr.nil (?_)))))
        cases h
        exact WP.ret htt Tryz.func54 [] rfl rfl rfl rfl
      exact WP.condF hc rfl (WP.skip (WP.inBlock (WP.region (WPr.silx [] ⟨[(1, .B 4 0), (3, .S 5), (6, .S 7), (7, .I (w64 (v7_14 + (1 : Int))))], [(4, .box (cC4 0 1 2 3 g_) 27), (5, .own rB v3_1 true), (7, .own (rI .i64) x1603 true)], (vV4 0 1 2 3 g_ []), 10⟩ htt 3 (by kernel_rfl) (WPr.nil (WP.sub [] (ih14 (w64 (v7_14 + (1 : Int))) h) rfl rfl rfl rfl))))))
    exact WP.sub [] (ih N (0 : Int) h) rfl rfl rfl rfl
  refine WP.block (?_)
  refine WP.loopI (σ := (List Bool) × Int) (fun st => ⟨[(1, .B 4 0), (3, .S 5), (4, .I st.2)], [(4, .box (cC4 0 1 2 3 g_) 27), (5, .own rB st.1 true)], (vV4 0 1 2 3 g_ []), 7⟩) (fun n st => z54_l4 N g_ n st.1 st.2) (r := r) (fun _ => rfl) ?_ (fun ih => ?_)
  · intro n14 ih15
    rintro ⟨v3_15, v4_15⟩ h
    replace h : z54_l4 N g_ (n14 + 1) v3_15 v4_15 = some r := h
    unfold z54_l4 at h
    refine WP.seq (WP.seq (WP.region (WPr.silx [] ⟨[(1, .B 4 0), (3, .S 5), (4, .I v4_15), (18, .O (decide (v4_15 < g_.States)))], [(4, .box (cC4 0 1 2 3 g_) 27), (5, .own rB v3_15 true)], (vV4 0 1 2 3 g_ []), 7⟩ htt 4 (by kernel_rfl) (WPr.nil (?_)))))
    rcases oc' h with ⟨hc, h⟩ | ⟨hc, h⟩
    · exact WP.condF hc rfl (WP.exit rfl (WP.sub [] (j1 v3_15 h) rfl rfl rfl rfl))
    refine WP.condT hc rfl (WP.skip (WP.seq (WP.block (WP.seq (WP.region (WPr.sil htt 1 rfl (WPr.nil (?_))))))))
    refine WP.cut (σ := (List Bool)) (fun st => ⟨[(1, .B 4 0), (3, .S 5), (4, .I v4_15)], [(4, .box (cC4 0 1 2 3 g_) 27), (5, .own rB st true)], (vV4 0 1 2 3 g_ []), 7⟩) (fun st => z54_k5 v4_15 (z54_l4 N g_ n14) st = some r) ?_ (fun j22 => ?_)
    · intro v3_22 h
      replace h : z54_k5 v4_15 (z54_l4 N g_ n14) v3_22 = some r := h
      unfold z54_k5 at h
      exact WP.inBlock (WP.region (WPr.silx [] ⟨[(1, .B 4 0), (3, .S 5), (4, .I (w64 (v4_15 + (1 : Int))))], [(4, .box (cC4 0 1 2 3 g_) 27), (5, .own rB v3_22 true)], (vV4 0 1 2 3 g_ []), 7⟩ htt 3 (by kernel_rfl) (WPr.nil (WP.sub [] (ih15 (v3_22, (w64 (v4_15 + (1 : Int)))) h) rfl rfl rfl rfl))))
    refine WP.block (?_)
    refine WP.loopI (σ := (List Bool) × Int) (fun st => ⟨[(1, .B 4 0), (3, .S 5), (4, .I v4_15), (5, .I st.2)], [(4, .box (cC4 0 1 2 3 g_) 27), (5, .own rB st.1 true)], (vV4 0 1 2 3 g_ []), 7⟩) (fun n st => z54_l6 g_ v4_15 (z54_l4 N g_ n14) n st.1 st.2) (r := r) (fun _ => rfl) ?_ (fun ih => ?_)
    · intro n16 ih24
      rintro ⟨v3_24, v5_24⟩ h
      replace h : z54_l6 g_ v4_15 (z54_l4 N g_ n14) (n16 + 1) v3_24 v5_24 = some r := h
      unfold z54_l6 at h
      refine WP.seq (WP.seq (WP.region (WPr.silx [] ⟨[(1, .B 4 0), (3, .S 5), (4, .I v4_15), (5, .I v5_24), (25, .O (decide (v5_24 < (g_.Edges.length : Int))))], [(4, .box (cC4 0 1 2 3 g_) 27), (5, .own rB v3_24 true)], (vV4 0 1 2 3 g_ []), 7⟩ htt 5 (by kernel_rfl) (WPr.nil (?_)))))
      rcases oc' h with ⟨hc, h⟩ | ⟨hc, h⟩
      · exact WP.condF hc rfl (WP.exit rfl (WP.sub [] (j22 v3_24 h) rfl rfl rfl rfl))
      refine WP.condT hc rfl (WP.skip (WP.seq (WP.block (WP.nm (fun A74 tA74 fA74 => ?_)))))
      have st3673 : A74 0 ⟨[(3, .S 5)], [], [], [], 7, [(28, .S 5)], [], [], 7⟩ := tA74 _ _ (LS.sil htt rfl rfl rfl rfl rfl rfl)
      have st3674 : A74 1 ⟨[(1, .B 4 0)], [], [], [], 7, [(29, .B 4 6)], [], [], 7⟩ := tA74 _ _ (LS.sil htt rfl rfl rfl rfl rfl rfl)
      have st3675 : A74 2 ⟨[(29, .B 4 6)], (vV4 0 1 2 3 g_ []), [], [(4, .box (cC4 0 1 2 3 g_) 27)], 7, [(30, .S 2)], [], [], 7⟩ := tA74 _ _ (LS.sil htt rfl rfl rfl rfl rfl rfl)
      have st3676 : A74 3 ⟨[(5, .I v5_24)], [], [], [], 7, [(31, .I v5_24)], [], [], 7⟩ := tA74 _ _ (LS.sil htt rfl rfl rfl rfl rfl rfl)
      obtain ⟨x3677, hx3677, h⟩ := ob h
      have st3678 : A74 4 ⟨[(30, .S 2), (31, .I v5_24)], [(2, .sl rR2 g_.Edges)], [], [], 7, [(32, .P 7 0)], [(7, .pl (cC2 x3677))], [], 8⟩ := tA74 _ _ (LS.of rfl rfl rfl (fun _ _ _ _ _ _ _ k => WPr.ix oO2 htt hx3677 rfl rfl rfl rfl rfl rfl rfl rfl rfl (k)) rfl)
      have st3679 : A74 5 ⟨[(32, .P 7 0)], [(7, .pl (cC2 x3677))], [], [], 8, [(33, .P 7 4)], [], [], 8⟩ := tA74 _ _ (LS.sil htt rfl rfl rfl rfl rfl rfl)
      have st3680 : A74 6 ⟨[(33, .P 7 4)], [(7, .pl (cC2 x3677))], [], [], 8, [(34, .I x3677.To)], [], [], 8⟩ := tA74 _ _ (LS.sil htt rfl rfl rfl rfl rfl rfl)
      have st3681 : A74 7 ⟨[(3, .S 5)], [], [], [], 8, [(35, .S 5)], [], [], 8⟩ := tA74 _ _ (LS.sil htt rfl rfl rfl rfl rfl rfl)
      have st3682 : A74 8 ⟨[(1, .B 4 0)], [], [], [], 8, [(36, .B 4 6)], [], [], 8⟩ := tA74 _ _ (LS.sil htt rfl rfl rfl rfl rfl rfl)
      have st3683 : A74 9 ⟨[(36, .B 4 6)], (vV4 0 1 2 3 g_ []), [], [(4, .box (cC4 0 1 2 3 g_) 27)], 8, [(37, .S 2)], [], [], 8⟩ := tA74 _ _ (LS.sil htt rfl rfl rfl rfl rfl rfl)
      have st3684 : A74 10 ⟨[(5, .I v5_24)], [], [], [], 8, [(38, .I v5_24)], [], [], 8⟩ := tA74 _ _ (LS.sil htt rfl rfl rfl rfl rfl rfl)
      obtain ⟨x3685, hx3685, h⟩ := ob h
      have st3686 : A74 11 ⟨[(37, .S 2), (38, .I v5_24)], [(2, .sl rR2 g_.Edges)], [], [], 8, [(39, .P 8 0)], [(8, .pl (cC2 x3685))], [], 9⟩ := tA74 _ _ (LS.of rfl rfl rfl (fun _ _ _ _ _ _ _ k => WPr.ix oO2 htt hx3685 rfl rfl rfl rfl rfl rfl rfl rfl rfl (k)) rfl)
      have st3687 : A74 12 ⟨[(39, .P 8 0)], [(8, .pl (cC2 x3685))], [], [], 9, [(40, .P 8 4)], [], [], 9⟩ := tA74 _ _ (LS.sil htt rfl rfl rfl rfl rfl rfl)
      have st3688 : A74 13 ⟨[(40, .P 8 4)], [(8, .pl (cC2 x3685))], [], [], 9, [(41, .I x3685.To)], [], [], 9⟩ := tA74 _ _ (LS.sil htt rfl rfl rfl rfl rfl rfl)
      obtain ⟨x3689, hx3689, h⟩ := ob h
      have st3690 : A74 14 ⟨[(35, .S 5), (41, .I x3685.To)], [], [], [(5, .own rB v3_24 true)], 9, [(42, .P 9 0)], [(9, .el 5 ((x3685.To).toNat * (rB).sz))], [], 10⟩ := tA74 _ _ (LS.of rfl rfl rfl (fun _ _ _ _ _ _ _ k => WPr.ixo htt hx3689 rfl rfl rfl rfl rfl rfl rfl rfl rfl (k)) rfl)
      have st3691 : A74 15 ⟨[(42, .P 9 0)], [(9, .el 5 ((x3685.To).toNat * (rB).sz))], [], [(5, .own rB v3_24 true)], 10, [(43, .O x3689)], [], [], 10⟩ := tA74 _ _ (LS.of rfl rfl rfl (fun _ _ _ _ _ _ _ k => WPr.ldo oB htt hx3689 rfl rfl rfl rfl rfl rfl rfl rfl rfl rfl (k)) rfl)
      have st3692 : A74 16 ⟨[(43, .O x3689)], [], [], [], 10, [(44, .O x3689)], [], [], 10⟩ := tA74 _ _ (LS.sil htt rfl rfl rfl rfl rfl rfl)
      rcases oc h with ⟨hc, h⟩ | ⟨hc, h⟩
      · have st3693 := tA74 _ _ (LS.kb hc rfl (fA74 _ _ st3692))
        have st3694 : A74 17 ⟨[(44, .O true)], [], [], [], 10, [(45, .u)], [], [], 10⟩ := tA74 _ _ (LS.skip rfl rfl rfl (.inr ⟨_, rfl, rfl⟩) rfl rfl)
        have st3695 : A74 18 ⟨[(44, .O true)], [], [], [], 10, [(46, .u)], [], [], 10⟩ := tA74 _ _ (LS.skip rfl rfl rfl (.inr ⟨_, rfl, rfl⟩) rfl rfl)
        have st3696 : A74 19 ⟨[(44, .O true)], [], [], [], 10, [(47, .u)], [], [], 10⟩ := tA74 _ _ (LS.skip rfl rfl rfl (.inr ⟨_, rfl, rfl⟩) rfl rfl)
        have st3697 : A74 20 ⟨[(44, .O true)], [], [], [], 10, [(48, .u)], [], [], 10⟩ := tA74 _ _ (LS.skip rfl rfl rfl (.inr ⟨_, rfl, rfl⟩) rfl rfl)
        have st3698 : A74 21 ⟨[(44, .O true)], [], [], [], 10, [(49, .u)], [], [], 10⟩ := tA74 _ _ (LS.skip rfl rfl rfl (.inr ⟨_, rfl, rfl⟩) rfl rfl)
        have st3699 : A74 22 ⟨[(44, .O true)], [], [], [], 10, [(50, .u)], [], [], 10⟩ := tA74 _ _ (LS.skip rfl rfl rfl (.inr ⟨_, rfl, rfl⟩) rfl rfl)
        have st3700 : A74 23 ⟨[(44, .O true)], [], [], [], 10, [(51, .u)], [], [], 10⟩ := tA74 _ _ (LS.skip rfl rfl rfl (.inr ⟨_, rfl, rfl⟩) rfl rfl)
        have st3701 : A74 24 ⟨[(44, .O true)], [], [], [], 10, [(52, .u)], [], [], 10⟩ := tA74 _ _ (LS.skip rfl rfl rfl (.inr ⟨_, rfl, rfl⟩) rfl rfl)
        have st3702 : A74 25 ⟨[(44, .O true)], [], [], [], 10, [(53, .u)], [], [], 10⟩ := tA74 _ _ (LS.skip rfl rfl rfl (.inr ⟨_, rfl, rfl⟩) rfl rfl)
        have st3703 : A74 26 ⟨[(44, .O true), (53, .u)], [], [], [], 10, [(54, .O true)], [], [], 10⟩ := tA74 _ _ (LS.sil htt rfl rfl rfl rfl rfl rfl)
        obtain ⟨x3704, hx3704, h⟩ := ob h
        have st3705 : A74 27 ⟨[(28, .S 5), (34, .I x3677.To)], [], [], [(5, .own rB v3_24 true)], 10, [(55, .P 10 0)], [(10, .el 5 ((x3677.To).toNat * (rB).sz))], [], 11⟩ := tA74 _ _ (LS.of rfl rfl rfl (fun _ _ _ _ _ _ _ k => WPr.ixo htt hx3704 rfl rfl rfl rfl rfl rfl rfl rfl rfl (k)) rfl)
        have st3706 : A74 28 ⟨[(54, .O true), (55, .P 10 0)], [(10, .el 5 ((x3677.To).toNat * (rB).sz))], [(5, .own rB v3_24 true)], [], 11, [], [], [(5, .own rB (setL' v3_24 x3677.To true) true)], 11⟩ := tA74 _ _ (LS.of rfl rfl rfl (fun _ _ _ _ _ _ _ k => WPr.sto oB htt true hx3704 rfl rfl rfl rfl rfl rfl rfl rfl rfl rfl (by exact rfl) rfl (k)) rfl)
        exact WP.regionD (t := ⟨[(1, .B 4 0), (3, .S 5), (4, .I v4_15), (5, .I v5_24)], [(4, .box (cC4 0 1 2 3 g_) 27), (5, .own rB (setL' v3_24 x3677.To true) true)], (vV4 0 1 2 3 g_ []), 11⟩) [0, 0, 2, 0, 14, 30, 62, 0, 0, 256, 0, 1792, 3840, 7936, 16256, 32640, 65408, 130944, 130944, 393088, 130944, 1965952, 4063104, 8257408, 16777088, 33554304, 67108736, 134217727, 268435455] (.cons (fA74 _ _ st3673) (.cons (fA74 _ _ st3674) (.cons (fA74 _ _ st3675) (.cons (fA74 _ _ st3676) (.cons (fA74 _ _ st3678) (.cons (fA74 _ _ st3679) (.cons (fA74 _ _ st3680) (.cons (fA74 _ _ st3681) (.cons (fA74 _ _ st3682) (.cons (fA74 _ _ st3683) (.cons (fA74 _ _ st3684) (.cons (fA74 _ _ st3686) (.cons (fA74 _ _ st3687) (.cons (fA74 _ _ st3688) (.cons (fA74 _ _ st3690) (.cons (fA74 _ _ st3691) (.cons (fA74 _ _ st3693) (.cons (fA74 _ _ st3694) (.cons (fA74 _ _ st3695) (.cons (fA74 _ _ st3696) (.cons (fA74 _ _ st3697) (.cons (fA74 _ _ st3698) (.cons (fA74 _ _ st3699) (.cons (fA74 _ _ st3700) (.cons (fA74 _ _ st3701) (.cons (fA74 _ _ st3702) (.cons (fA74 _ _ st3703) (.cons (fA74 _ _ st3705) (.cons (fA74 _ _ st3706) .nil))))))))))))))))))))))))))))) (by kernel_rfl) (by kernel_rfl) (by kernel_rfl) (by kernel_rfl) (WP.inBlock (WP.region (WPr.silx [] ⟨[(1, .B 4 0), (3, .S 5), (4, .I v4_15), (5, .I (w64 (v5_24 + (1 : Int))))], [(4, .box (cC4 0 1 2 3 g_) 27), (5, .own rB (setL' v3_24 x3677.To true) true)], (vV4 0 1 2 3 g_ []), 11⟩ htt 3 (by kernel_rfl) (WPr.nil (WP.sub [] (ih24 ((setL' v3_24 x3677.To true), (w64 (v5_24 + (1 : Int)))) h) rfl rfl rfl rfl)))))
      have st3707 := tA74 _ _ (LS.kb hc rfl (fA74 _ _ st3692))
      have st3708 : A74 17 ⟨[(3, .S 5), (44, .O false)], [], [], [], 10, [(45, .S 5)], [], [], 10⟩ := tA74 _ _ (LS.sil htt rfl rfl rfl rfl rfl rfl)
      have st3709 : A74 18 ⟨[(1, .B 4 0), (44, .O false)], [], [], [], 10, [(46, .B 4 6)], [], [], 10⟩ := tA74 _ _ (LS.sil htt rfl rfl rfl rfl rfl rfl)
      have st3710 : A74 19 ⟨[(44, .O false), (46, .B 4 6)], (vV4 0 1 2 3 g_ []), [], [(4, .box (cC4 0 1 2 3 g_) 27)], 10, [(47, .S 2)], [], [], 10⟩ := tA74 _ _ (LS.sil htt rfl rfl rfl rfl rfl rfl)
      have st3711 : A74 20 ⟨[(5, .I v5_24), (44, .O false)], [], [], [], 10, [(48, .I v5_24)], [], [], 10⟩ := tA74 _ _ (LS.sil htt rfl rfl rfl rfl rfl rfl)
      obtain ⟨x3712, hx3712, h⟩ := ob h
      have st3713 : A74 21 ⟨[(44, .O false), (47, .S 2), (48, .I v5_24)], [(2, .sl rR2 g_.Edges)], [], [], 10, [(49, .P 10 0)], [(10, .pl (cC2 x3712))], [], 11⟩ := tA74 _ _ (LS.of rfl rfl rfl (fun _ _ _ _ _ _ _ k => WPr.ix oO2 htt hx3712 rfl rfl rfl rfl rfl rfl rfl rfl rfl (k)) rfl)
      have st3714 : A74 22 ⟨[(44, .O false), (49, .P 10 0)], [(10, .pl (cC2 x3712))], [], [], 11, [(50, .P 10 0)], [], [], 11⟩ := tA74 _ _ (LS.sil htt rfl rfl rfl rfl rfl rfl)
      have st3715 : A74 23 ⟨[(44, .O false), (50, .P 10 0)], [(10, .pl (cC2 x3712))], [], [], 11, [(51, .I x3712.From)], [], [], 11⟩ := tA74 _ _ (LS.sil htt rfl rfl rfl rfl rfl rfl)
      obtain ⟨x3716, hx3716, h⟩ := ob h
      have st3717 : A74 24 ⟨[(44, .O false), (45, .S 5), (51, .I x3712.From)], [], [], [(5, .own rB v3_24 true)], 11, [(52, .P 11 0)], [(11, .el 5 ((x3712.From).toNat * (rB).sz))], [], 12⟩ := tA74 _ _ (LS.of rfl rfl rfl (fun _ _ _ _ _ _ _ k => WPr.ixo htt hx3716 rfl rfl rfl rfl rfl rfl rfl rfl rfl (k)) rfl)
      have st3718 : A74 25 ⟨[(44, .O false), (52, .P 11 0)], [(11, .el 5 ((x3712.From).toNat * (rB).sz))], [], [(5, .own rB v3_24 true)], 12, [(53, .O x3716)], [], [], 12⟩ := tA74 _ _ (LS.of rfl rfl rfl (fun _ _ _ _ _ _ _ k => WPr.ldo oB htt hx3716 rfl rfl rfl rfl rfl rfl rfl rfl rfl rfl (k)) rfl)
      have st3719 : A74 26 ⟨[(44, .O false), (53, .O x3716)], [], [], [], 12, [(54, .O x3716)], [], [], 12⟩ := tA74 _ _ (LS.sil htt rfl rfl rfl rfl rfl rfl)
      obtain ⟨x3720, hx3720, h⟩ := ob h
      have st3721 : A74 27 ⟨[(28, .S 5), (34, .I x3677.To)], [], [], [(5, .own rB v3_24 true)], 12, [(55, .P 12 0)], [(12, .el 5 ((x3677.To).toNat * (rB).sz))], [], 13⟩ := tA74 _ _ (LS.of rfl rfl rfl (fun _ _ _ _ _ _ _ k => WPr.ixo htt hx3720 rfl rfl rfl rfl rfl rfl rfl rfl rfl (k)) rfl)
      have st3722 : A74 28 ⟨[(54, .O x3716), (55, .P 12 0)], [(12, .el 5 ((x3677.To).toNat * (rB).sz))], [(5, .own rB v3_24 true)], [], 13, [], [], [(5, .own rB (setL' v3_24 x3677.To x3716) true)], 13⟩ := tA74 _ _ (LS.of rfl rfl rfl (fun _ _ _ _ _ _ _ k => WPr.sto oB htt x3716 hx3720 rfl rfl rfl rfl rfl rfl rfl rfl rfl rfl (by exact rfl) rfl (k)) rfl)
      exact WP.regionD (t := ⟨[(1, .B 4 0), (3, .S 5), (4, .I v4_15), (5, .I v5_24)], [(4, .box (cC4 0 1 2 3 g_) 27), (5, .own rB (setL' v3_24 x3677.To x3716) true)], (vV4 0 1 2 3 g_ []), 13⟩) [0, 0, 2, 0, 14, 30, 62, 0, 0, 256, 0, 1792, 3840, 7936, 16256, 32640, 65408, 130944, 130944, 393088, 130944, 1965952, 4063104, 8257408, 16777088, 33554304, 67108736, 134217727, 268435455] (.cons (fA74 _ _ st3673) (.cons (fA74 _ _ st3674) (.cons (fA74 _ _ st3675) (.cons (fA74 _ _ st3676) (.cons (fA74 _ _ st3678) (.cons (fA74 _ _ st3679) (.cons (fA74 _ _ st3680) (.cons (fA74 _ _ st3681) (.cons (fA74 _ _ st3682) (.cons (fA74 _ _ st3683) (.cons (fA74 _ _ st3684) (.cons (fA74 _ _ st3686) (.cons (fA74 _ _ st3687) (.cons (fA74 _ _ st3688) (.cons (fA74 _ _ st3690) (.cons (fA74 _ _ st3691) (.cons (fA74 _ _ st3707) (.cons (fA74 _ _ st3708) (.cons (fA74 _ _ st3709) (.cons (fA74 _ _ st3710) (.cons (fA74 _ _ st3711) (.cons (fA74 _ _ st3713) (.cons (fA74 _ _ st3714) (.cons (fA74 _ _ st3715) (.cons (fA74 _ _ st3717) (.cons (fA74 _ _ st3718) (.cons (fA74 _ _ st3719) (.cons (fA74 _ _ st3721) (.cons (fA74 _ _ st3722) .nil))))))))))))))))))))))))))))) (by kernel_rfl) (by kernel_rfl) (by kernel_rfl) (by kernel_rfl) (WP.inBlock (WP.region (WPr.silx [] ⟨[(1, .B 4 0), (3, .S 5), (4, .I v4_15), (5, .I (w64 (v5_24 + (1 : Int))))], [(4, .box (cC4 0 1 2 3 g_) 27), (5, .own rB (setL' v3_24 x3677.To x3716) true)], (vV4 0 1 2 3 g_ []), 13⟩ htt 3 (by kernel_rfl) (WPr.nil (WP.sub [] (ih24 ((setL' v3_24 x3677.To x3716), (w64 (v5_24 + (1 : Int)))) h) rfl rfl rfl rfl)))))
    exact WP.sub [] (ih N (v3_15, (0 : Int)) h) rfl rfl rfl rfl
  exact WP.sub [] (ih N ((setL' x1 g_.Start true), (0 : Int)) h) rfl rfl rfl rfl
theorem z55_ct (N : Nat) (g_ : T4) (r : Bool) (h : z55 N g_ = some r) :
  Fn Tryz.prog 55 ⟨4, [.a (cC4 0 1 2 3 g_)], (vV4 0 1 2 3 g_ []), [], 4, .O r, [], []⟩ := by
  refine Fn.intro _ _ Tryz.func55 rfl (by kernel_rfl) rfl (fun E F w => ?_)
  unfold z55 at h
  refine WP.seq (WP.region (WPr.sil htt 2 rfl (WPr.nil (WP.seq (WP.seq (WP.region (WPr.silx [] ⟨[(1, .B 4 0), (2, .O false), (3, .I (0 : Int))], [(4, .box (cC4 0 1 2 3 g_) 27)], (vV4 0 1 2 3 g_ []), 5⟩ htt 1 (by kernel_rfl) (WPr.nil (?_)))))))))
  refine WP.cut (σ := Unit) (fun st => ⟨[], [], (vV4 0 1 2 3 g_ []), 5⟩) (fun st => z55_k1 = some r) ?_ (fun j1 => ?_)
  · intro _ h
    replace h : z55_k1 = some r := h
    unfold z55_k1 at h
    refine WP.seq (WP.region (WPr.sil htt 1 rfl (WPr.nil (?_))))
    cases h
    exact WP.ret htt Tryz.func55 [] rfl rfl rfl rfl
  refine WP.block (?_)
  refine WP.loopI (σ := Int) (fun st => ⟨[(1, .B 4 0), (3, .I st)], [(4, .box (cC4 0 1 2 3 g_) 27)], (vV4 0 1 2 3 g_ []), 5⟩) (fun n st => z55_l2 N g_ n st) (r := r) (fun _ => rfl) ?_ (fun ih => ?_)
  · intro n2 ih3
    intro v3_3 h
    replace h : z55_l2 N g_ (n2 + 1) v3_3 = some r := h
    unfold z55_l2 at h
    refine WP.seq (WP.seq (WP.region (WPr.silx [] ⟨[(1, .B 4 0), (3, .I v3_3), (9, .O (decide (v3_3 < (g_.Timeouts.length : Int))))], [(4, .box (cC4 0 1 2 3 g_) 27)], (vV4 0 1 2 3 g_ []), 5⟩ htt 5 (by kernel_rfl) (WPr.nil (?_)))))
    rcases oc' h with ⟨hc, h⟩ | ⟨hc, h⟩
    · exact WP.condF hc rfl (WP.exit rfl (WP.sub [] (j1 () h) rfl rfl rfl rfl))
    refine WP.condT hc rfl (WP.skip (WP.seq (WP.block (WP.seq (WP.region (WPr.silx [3, 4, 5, 6] ⟨[(1, .B 4 0), (3, .I v3_3), (13, .S 3), (14, .I v3_3)], [(4, .box (cC4 0 1 2 3 g_) 27)], (vV4 0 1 2 3 g_ []), 5⟩ htt 3 (by kernel_rfl) (?_)))))))
    obtain ⟨x105, hx105, h⟩ := ob h
    refine WPr.ix oO8 htt hx105 rfl rfl rfl rfl rfl rfl rfl rfl rfl (WPr.silx [] ⟨[(1, .B 4 0), (3, .I v3_3), (4, .B 6 0)], [(4, .box (cC4 0 1 2 3 g_) 27), (6, .box (cC8 x105) 79)], (vV4 0 1 2 3 g_ []), 7⟩ htt 3 (by kernel_rfl) (WPr.nil (WP.seq (WP.regionQ (by kernel_rfl) (by kernel_rfl) (WPq.silx (rg 3 62) ⟨[(1, .B 4 0), (3, .I v3_3), (4, .B 6 0), (17, .a (cC4 0 1 2 3 g_)), (19, .I x105.State)], [(4, .box (cC4 0 1 2 3 g_) 27), (6, .box (cC8 x105) 79)], (vV4 0 1 2 3 g_ []), 7⟩ htt 3 (by kernel_rfl) (?_))))))
    obtain ⟨x112, hx112, h⟩ := ob h
    refine WPq.call (z114_ct N g_ x105.State _ hx112) [(0, .sl 0), (1, .sl 1), (2, .sl 2), (3, .sl 3)] [] rfl rfl rfl rfl rfl rfl rfl rfl rfl rfl rfl rfl (WPq.silx (rg 6 59) ⟨[(1, .B 4 0), (3, .I v3_3), (4, .B 6 0), (22, .O (!x112))], [(4, .box (cC4 0 1 2 3 g_) 27), (6, .box (cC8 x105) 79)], (vV4 0 1 2 3 g_ []), 7⟩ htt 2 (by kernel_rfl) (?_))
    rcases oc h with ⟨hc, h⟩ | ⟨hc, h⟩
    · refine WPq.kb 22 hc rfl (WPq.silx [] ⟨[(1, .B 4 0), (3, .I v3_3), (81, .O true)], [(4, .box (cC4 0 1 2 3 g_) 27)], (vV4 0 1 2 3 g_ []), 7⟩ htt 59 (by kernel_rfl) (WPq.nil (WP.condT rfl rfl (WP.seq (WP.region (WPr.sil htt 1 rfl (WPr.nil (?_))))))))
      cases h
      exact WP.ret htt Tryz.func55 [] rfl rfl rfl rfl
    refine WPq.kb 22 hc rfl (WPq.silx (rg 9 56) ⟨[(1, .B 4 0), (3, .I v3_3), (4, .B 6 0), (22, .O false), (25, .O (decide (v3_3 > (0 : Int))))], [(4, .box (cC4 0 1 2 3 g_) 27), (6, .box (cC8 x105) 79)], (vV4 0 1 2 3 g_ []), 7⟩ htt 3 (by kernel_rfl) (?_))
    rcases oc' h with ⟨hc, h⟩ | ⟨hc, h⟩
    · refine WPq.kb 25 hc rfl (WPq.silx (rg 27 38) ⟨[(1, .B 4 0), (3, .I v3_3), (4, .B 6 0), (43, .O (decide (x105.Ticks < (1 : Int))))], [(4, .box (cC4 0 1 2 3 g_) 27), (6, .box (cC8 x105) 79)], (vV4 0 1 2 3 g_ []), 7⟩ htt 18 (by kernel_rfl) (?_))
      rcases oc h with ⟨hc, h⟩ | ⟨hc, h⟩
      · refine WPq.kb 43 hc rfl (WPq.silx [] ⟨[(1, .B 4 0), (3, .I v3_3), (81, .O true)], [(4, .box (cC4 0 1 2 3 g_) 27)], (vV4 0 1 2 3 g_ []), 7⟩ htt 38 (by kernel_rfl) (WPq.nil (WP.condT rfl rfl (WP.seq (WP.region (WPr.sil htt 1 rfl (WPr.nil (?_))))))))
        cases h
        exact WP.ret htt Tryz.func55 [] rfl rfl rfl rfl
      refine WPq.kb 43 hc rfl (WPq.silx (rg 32 33) ⟨[(1, .B 4 0), (3, .I v3_3), (4, .B 6 0), (48, .O (decide (x105.Ticks > (1000 : Int))))], [(4, .box (cC4 0 1 2 3 g_) 27), (6, .box (cC8 x105) 79)], (vV4 0 1 2 3 g_ []), 7⟩ htt 5 (by kernel_rfl) (?_))
      rcases oc h with ⟨hc, h⟩ | ⟨hc, h⟩
      · refine WPq.kb 48 hc rfl (WPq.silx [] ⟨[(1, .B 4 0), (3, .I v3_3), (81, .O true)], [(4, .box (cC4 0 1 2 3 g_) 27)], (vV4 0 1 2 3 g_ []), 7⟩ htt 33 (by kernel_rfl) (WPq.nil (WP.condT rfl rfl (WP.seq (WP.region (WPr.sil htt 1 rfl (WPr.nil (?_))))))))
        cases h
        exact WP.ret htt Tryz.func55 [] rfl rfl rfl rfl
      refine WPq.kb 48 hc rfl (WPq.silx (rg 37 28) ⟨[(1, .B 4 0), (3, .I v3_3), (4, .B 6 0), (53, .O (decide (x105.Else < (0 : Int))))], [(4, .box (cC4 0 1 2 3 g_) 27), (6, .box (cC8 x105) 79)], (vV4 0 1 2 3 g_ []), 7⟩ htt 5 (by kernel_rfl) (?_))
      rcases oc h with ⟨hc, h⟩ | ⟨hc, h⟩
      · refine WPq.kb 53 hc rfl (WPq.silx [] ⟨[(1, .B 4 0), (3, .I v3_3), (81, .O true)], [(4, .box (cC4 0 1 2 3 g_) 27)], (vV4 0 1 2 3 g_ []), 7⟩ htt 28 (by kernel_rfl) (WPq.nil (WP.condT rfl rfl (WP.seq (WP.region (WPr.sil htt 1 rfl (WPr.nil (?_))))))))
        cases h
        exact WP.ret htt Tryz.func55 [] rfl rfl rfl rfl
      refine WPq.kb 53 hc rfl (WPq.silx (rg 45 20) ⟨[(1, .B 4 0), (3, .I v3_3), (4, .B 6 0), (61, .O (decide (x105.Else ≥ (g_.Edges.length : Int))))], [(4, .box (cC4 0 1 2 3 g_) 27), (6, .box (cC8 x105) 79)], (vV4 0 1 2 3 g_ []), 7⟩ htt 8 (by kernel_rfl) (?_))
      rcases oc h with ⟨hc, h⟩ | ⟨hc, h⟩
      · refine WPq.kb 61 hc rfl (WPq.silx [] ⟨[(1, .B 4 0), (3, .I v3_3), (81, .O true)], [(4, .box (cC4 0 1 2 3 g_) 27)], (vV4 0 1 2 3 g_ []), 7⟩ htt 20 (by kernel_rfl) (WPq.nil (WP.condT rfl rfl (WP.seq (WP.region (WPr.sil htt 1 rfl (WPr.nil (?_))))))))
        cases h
        exact WP.ret htt Tryz.func55 [] rfl rfl rfl rfl
      refine WPq.kb 61 hc rfl (WPq.silx (rg 49 16) ⟨[(1, .B 4 0), (3, .I v3_3), (4, .B 6 0), (61, .O false), (63, .S 2), (65, .I x105.Else)], [(4, .box (cC4 0 1 2 3 g_) 27), (6, .box (cC8 x105) 79)], (vV4 0 1 2 3 g_ []), 7⟩ htt 4 (by kernel_rfl) (?_))
      obtain ⟨x116, hx116, h⟩ := ob h
      refine WPq.op rfl rfl (VN.vs (VN.ix oO2 htt hx116 rfl rfl rfl rfl rfl rfl rfl)) (WPq.silx (rg 57 8) ⟨[(1, .B 4 0), (3, .I v3_3), (4, .B 6 0), (73, .O (x116.From != x105.State))], [(4, .box (cC4 0 1 2 3 g_) 27), (6, .box (cC8 x105) 79)], (vV4 0 1 2 3 g_ []), 8⟩ htt 7 (by kernel_rfl) (?_))
      rcases oc h with ⟨hc, h⟩ | ⟨hc, h⟩
      · refine WPq.kb 73 hc rfl (WPq.silx [] ⟨[(1, .B 4 0), (3, .I v3_3), (81, .O true)], [(4, .box (cC4 0 1 2 3 g_) 27)], (vV4 0 1 2 3 g_ []), 8⟩ htt 8 (by kernel_rfl) (WPq.nil (WP.condT rfl rfl (WP.seq (WP.region (WPr.sil htt 1 rfl (WPr.nil (?_))))))))
        cases h
        exact WP.ret htt Tryz.func55 [] rfl rfl rfl rfl
      refine WPq.kb 73 hc rfl (WPq.silx [61, 62, 63, 64] ⟨[(1, .B 4 0), (3, .I v3_3), (73, .O false), (75, .S 2), (77, .I x105.Else)], [(4, .box (cC4 0 1 2 3 g_) 27)], (vV4 0 1 2 3 g_ []), 8⟩ htt 4 (by kernel_rfl) (?_))
      obtain ⟨x117, hx117, h⟩ := ob h
      refine WPq.op rfl rfl (VN.vs (VN.ix oO2 htt hx117 rfl rfl rfl rfl rfl rfl rfl)) (WPq.silx [] ⟨[(1, .B 4 0), (3, .I v3_3), (81, .O x117.Again)], [(4, .box (cC4 0 1 2 3 g_) 27)], (vV4 0 1 2 3 g_ []), 9⟩ htt 3 (by kernel_rfl) (WPq.nil (?_)))
      rcases oc h with ⟨hc, h⟩ | ⟨hc, h⟩
      · refine WP.condT hc rfl (WP.seq (WP.region (WPr.sil htt 1 rfl (WPr.nil (?_)))))
        cases h
        exact WP.ret htt Tryz.func55 [] rfl rfl rfl rfl
      exact WP.condF hc rfl (WP.skip (WP.inBlock (WP.region (WPr.silx [] ⟨[(1, .B 4 0), (3, .I (w64 (v3_3 + (1 : Int))))], [(4, .box (cC4 0 1 2 3 g_) 27)], (vV4 0 1 2 3 g_ []), 9⟩ htt 3 (by kernel_rfl) (WPr.nil (WP.sub [] (ih3 (w64 (v3_3 + (1 : Int))) h) rfl rfl rfl rfl))))))
    refine WPq.kb 25 hc rfl (WPq.silx (rg 15 50) ⟨[(1, .B 4 0), (3, .I v3_3), (4, .B 6 0), (22, .O false), (25, .O true), (27, .I x105.State), (29, .S 3), (31, .I (w64 (v3_3 - (1 : Int))))], [(4, .box (cC4 0 1 2 3 g_) 27), (6, .box (cC8 x105) 79)], (vV4 0 1 2 3 g_ []), 7⟩ htt 6 (by kernel_rfl) (?_))
    obtain ⟨x113, hx113, h⟩ := ob h
    refine WPq.op rfl rfl (VN.vs (VN.ix oO8 htt hx113 rfl rfl rfl rfl rfl rfl rfl)) (WPq.silx (rg 22 43) ⟨[(1, .B 4 0), (3, .I v3_3), (4, .B 6 0), (38, .O (decide (x105.State ≤ x113.State)))], [(4, .box (cC4 0 1 2 3 g_) 27), (6, .box (cC8 x105) 79)], (vV4 0 1 2 3 g_ []), 8⟩ htt 6 (by kernel_rfl) (?_))
    rcases oc h with ⟨hc, h⟩ | ⟨hc, h⟩
    · refine WPq.kb 38 hc rfl (WPq.silx [] ⟨[(1, .B 4 0), (3, .I v3_3), (81, .O true)], [(4, .box (cC4 0 1 2 3 g_) 27)], (vV4 0 1 2 3 g_ []), 8⟩ htt 43 (by kernel_rfl) (WPq.nil (WP.condT rfl rfl (WP.seq (WP.region (WPr.sil htt 1 rfl (WPr.nil (?_))))))))
      cases h
      exact WP.ret htt Tryz.func55 [] rfl rfl rfl rfl
    refine WPq.kb 38 hc rfl (WPq.silx (rg 27 38) ⟨[(1, .B 4 0), (3, .I v3_3), (4, .B 6 0), (43, .O (decide (x105.Ticks < (1 : Int))))], [(4, .box (cC4 0 1 2 3 g_) 27), (6, .box (cC8 x105) 79)], (vV4 0 1 2 3 g_ []), 8⟩ htt 5 (by kernel_rfl) (?_))
    rcases oc h with ⟨hc, h⟩ | ⟨hc, h⟩
    · refine WPq.kb 43 hc rfl (WPq.silx [] ⟨[(1, .B 4 0), (3, .I v3_3), (81, .O true)], [(4, .box (cC4 0 1 2 3 g_) 27)], (vV4 0 1 2 3 g_ []), 8⟩ htt 38 (by kernel_rfl) (WPq.nil (WP.condT rfl rfl (WP.seq (WP.region (WPr.sil htt 1 rfl (WPr.nil (?_))))))))
      cases h
      exact WP.ret htt Tryz.func55 [] rfl rfl rfl rfl
    refine WPq.kb 43 hc rfl (WPq.silx (rg 32 33) ⟨[(1, .B 4 0), (3, .I v3_3), (4, .B 6 0), (48, .O (decide (x105.Ticks > (1000 : Int))))], [(4, .box (cC4 0 1 2 3 g_) 27), (6, .box (cC8 x105) 79)], (vV4 0 1 2 3 g_ []), 8⟩ htt 5 (by kernel_rfl) (?_))
    rcases oc h with ⟨hc, h⟩ | ⟨hc, h⟩
    · refine WPq.kb 48 hc rfl (WPq.silx [] ⟨[(1, .B 4 0), (3, .I v3_3), (81, .O true)], [(4, .box (cC4 0 1 2 3 g_) 27)], (vV4 0 1 2 3 g_ []), 8⟩ htt 33 (by kernel_rfl) (WPq.nil (WP.condT rfl rfl (WP.seq (WP.region (WPr.sil htt 1 rfl (WPr.nil (?_))))))))
      cases h
      exact WP.ret htt Tryz.func55 [] rfl rfl rfl rfl
    refine WPq.kb 48 hc rfl (WPq.silx (rg 37 28) ⟨[(1, .B 4 0), (3, .I v3_3), (4, .B 6 0), (53, .O (decide (x105.Else < (0 : Int))))], [(4, .box (cC4 0 1 2 3 g_) 27), (6, .box (cC8 x105) 79)], (vV4 0 1 2 3 g_ []), 8⟩ htt 5 (by kernel_rfl) (?_))
    rcases oc h with ⟨hc, h⟩ | ⟨hc, h⟩
    · refine WPq.kb 53 hc rfl (WPq.silx [] ⟨[(1, .B 4 0), (3, .I v3_3), (81, .O true)], [(4, .box (cC4 0 1 2 3 g_) 27)], (vV4 0 1 2 3 g_ []), 8⟩ htt 28 (by kernel_rfl) (WPq.nil (WP.condT rfl rfl (WP.seq (WP.region (WPr.sil htt 1 rfl (WPr.nil (?_))))))))
      cases h
      exact WP.ret htt Tryz.func55 [] rfl rfl rfl rfl
    refine WPq.kb 53 hc rfl (WPq.silx (rg 45 20) ⟨[(1, .B 4 0), (3, .I v3_3), (4, .B 6 0), (61, .O (decide (x105.Else ≥ (g_.Edges.length : Int))))], [(4, .box (cC4 0 1 2 3 g_) 27), (6, .box (cC8 x105) 79)], (vV4 0 1 2 3 g_ []), 8⟩ htt 8 (by kernel_rfl) (?_))
    rcases oc h with ⟨hc, h⟩ | ⟨hc, h⟩
    · refine WPq.kb 61 hc rfl (WPq.silx [] ⟨[(1, .B 4 0), (3, .I v3_3), (81, .O true)], [(4, .box (cC4 0 1 2 3 g_) 27)], (vV4 0 1 2 3 g_ []), 8⟩ htt 20 (by kernel_rfl) (WPq.nil (WP.condT rfl rfl (WP.seq (WP.region (WPr.sil htt 1 rfl (WPr.nil (?_))))))))
      cases h
      exact WP.ret htt Tryz.func55 [] rfl rfl rfl rfl
    refine WPq.kb 61 hc rfl (WPq.silx (rg 49 16) ⟨[(1, .B 4 0), (3, .I v3_3), (4, .B 6 0), (61, .O false), (63, .S 2), (65, .I x105.Else)], [(4, .box (cC4 0 1 2 3 g_) 27), (6, .box (cC8 x105) 79)], (vV4 0 1 2 3 g_ []), 8⟩ htt 4 (by kernel_rfl) (?_))
    obtain ⟨x114, hx114, h⟩ := ob h
    refine WPq.op rfl rfl (VN.vs (VN.ix oO2 htt hx114 rfl rfl rfl rfl rfl rfl rfl)) (WPq.silx (rg 57 8) ⟨[(1, .B 4 0), (3, .I v3_3), (4, .B 6 0), (73, .O (x114.From != x105.State))], [(4, .box (cC4 0 1 2 3 g_) 27), (6, .box (cC8 x105) 79)], (vV4 0 1 2 3 g_ []), 9⟩ htt 7 (by kernel_rfl) (?_))
    rcases oc h with ⟨hc, h⟩ | ⟨hc, h⟩
    · refine WPq.kb 73 hc rfl (WPq.silx [] ⟨[(1, .B 4 0), (3, .I v3_3), (81, .O true)], [(4, .box (cC4 0 1 2 3 g_) 27)], (vV4 0 1 2 3 g_ []), 9⟩ htt 8 (by kernel_rfl) (WPq.nil (WP.condT rfl rfl (WP.seq (WP.region (WPr.sil htt 1 rfl (WPr.nil (?_))))))))
      cases h
      exact WP.ret htt Tryz.func55 [] rfl rfl rfl rfl
    refine WPq.kb 73 hc rfl (WPq.silx [61, 62, 63, 64] ⟨[(1, .B 4 0), (3, .I v3_3), (73, .O false), (75, .S 2), (77, .I x105.Else)], [(4, .box (cC4 0 1 2 3 g_) 27)], (vV4 0 1 2 3 g_ []), 9⟩ htt 4 (by kernel_rfl) (?_))
    obtain ⟨x115, hx115, h⟩ := ob h
    refine WPq.op rfl rfl (VN.vs (VN.ix oO2 htt hx115 rfl rfl rfl rfl rfl rfl rfl)) (WPq.silx [] ⟨[(1, .B 4 0), (3, .I v3_3), (81, .O x115.Again)], [(4, .box (cC4 0 1 2 3 g_) 27)], (vV4 0 1 2 3 g_ []), 10⟩ htt 3 (by kernel_rfl) (WPq.nil (?_)))
    rcases oc h with ⟨hc, h⟩ | ⟨hc, h⟩
    · refine WP.condT hc rfl (WP.seq (WP.region (WPr.sil htt 1 rfl (WPr.nil (?_)))))
      cases h
      exact WP.ret htt Tryz.func55 [] rfl rfl rfl rfl
    exact WP.condF hc rfl (WP.skip (WP.inBlock (WP.region (WPr.silx [] ⟨[(1, .B 4 0), (3, .I (w64 (v3_3 + (1 : Int))))], [(4, .box (cC4 0 1 2 3 g_) 27)], (vV4 0 1 2 3 g_ []), 10⟩ htt 3 (by kernel_rfl) (WPr.nil (WP.sub [] (ih3 (w64 (v3_3 + (1 : Int))) h) rfl rfl rfl rfl))))))
  exact WP.sub [] (ih N (0 : Int) h) rfl rfl rfl rfl
theorem z19_ct (N : Nat) (g_ : T4) (r : Bool) (h : z19 N g_ = some r) :
  Fn Tryz.prog 19 ⟨4, [.a (cC4 0 1 2 3 g_)], (vV4 0 1 2 3 g_ []), [], 4, .O r, [], []⟩ := by
  refine Fn.intro _ _ Tryz.func19 rfl (by kernel_rfl) rfl (fun E F w => ?_)
  unfold z19 at h
  refine WP.seq (WP.region (WPr.sil htt 2 rfl (WPr.nil (WP.seq (WP.region (WPr.silx (rg 1 18) ⟨[(1, .B 4 0), (3, .a (cC4 0 1 2 3 g_))], [(4, .box (cC4 0 1 2 3 g_) 27)], (vV4 0 1 2 3 g_ []), 5⟩ htt 1 (by kernel_rfl) (?_)))))))
  obtain ⟨x1, hx1, h⟩ := ob h
  refine WPr.call (z51_ct N g_ _ hx1) [(0, .sl 0), (1, .sl 1), (2, .sl 2), (3, .sl 3)] [] rfl rfl rfl rfl rfl rfl rfl rfl (.inl rfl) rfl (WPr.silx (rg 3 16) ⟨[(1, .B 4 0), (5, .O x1)], [(4, .box (cC4 0 1 2 3 g_) 27)], (vV4 0 1 2 3 g_ []), 5⟩ htt 1 (by kernel_rfl) (?_))
  rcases oc' h with ⟨hc, h⟩ | ⟨hc, h⟩
  · refine WPr.kb 5 hc rfl (WPr.silx [] ⟨[(2, .O false)], [], (vV4 0 1 2 3 g_ []), 5⟩ htt 16 (by kernel_rfl) (WPr.nil (?_)))
    cases h
    exact WP.ret htt Tryz.func19 [] rfl rfl rfl rfl
  refine WPr.kb 5 hc rfl (WPr.sil htt 1 rfl (?_))
  obtain ⟨x2, hx2, h⟩ := ob h
  refine WPr.call (z52_ct N g_ _ hx2) [(0, .sl 0), (1, .sl 1), (2, .sl 2), (3, .sl 3)] [] rfl rfl rfl rfl rfl rfl rfl rfl (.inl rfl) rfl (WPr.silx (rg 7 12) ⟨[(1, .B 4 0), (9, .O x2)], [(4, .box (cC4 0 1 2 3 g_) 27)], (vV4 0 1 2 3 g_ []), 5⟩ htt 2 (by kernel_rfl) (?_))
  rcases oc' h with ⟨hc, h⟩ | ⟨hc, h⟩
  · refine WPr.kb 9 hc rfl (WPr.silx [] ⟨[(2, .O false)], [], (vV4 0 1 2 3 g_ []), 5⟩ htt 12 (by kernel_rfl) (WPr.nil (?_)))
    cases h
    exact WP.ret htt Tryz.func19 [] rfl rfl rfl rfl
  refine WPr.kb 9 hc rfl (WPr.sil htt 1 rfl (?_))
  obtain ⟨x3, hx3, h⟩ := ob h
  refine WPr.call (z53_ct N g_ _ hx3) [(0, .sl 0), (1, .sl 1), (2, .sl 2), (3, .sl 3)] [] rfl rfl rfl rfl rfl rfl rfl rfl (.inl rfl) rfl (WPr.silx (rg 11 8) ⟨[(1, .B 4 0), (13, .O x3)], [(4, .box (cC4 0 1 2 3 g_) 27)], (vV4 0 1 2 3 g_ []), 5⟩ htt 2 (by kernel_rfl) (?_))
  rcases oc' h with ⟨hc, h⟩ | ⟨hc, h⟩
  · refine WPr.kb 13 hc rfl (WPr.silx [] ⟨[(2, .O false)], [], (vV4 0 1 2 3 g_ []), 5⟩ htt 8 (by kernel_rfl) (WPr.nil (?_)))
    cases h
    exact WP.ret htt Tryz.func19 [] rfl rfl rfl rfl
  refine WPr.kb 13 hc rfl (WPr.sil htt 1 rfl (?_))
  obtain ⟨x4, hx4, h⟩ := ob h
  refine WPr.call (z54_ct N g_ _ hx4) [(0, .sl 0), (1, .sl 1), (2, .sl 2), (3, .sl 3)] [] rfl rfl rfl rfl rfl rfl rfl rfl (.inl rfl) rfl (WPr.silx [15, 16, 17, 18] ⟨[(1, .B 4 0), (17, .O x4)], [(4, .box (cC4 0 1 2 3 g_) 27)], (vV4 0 1 2 3 g_ []), 5⟩ htt 2 (by kernel_rfl) (?_))
  rcases oc' h with ⟨hc, h⟩ | ⟨hc, h⟩
  · refine WPr.kb 17 hc rfl (WPr.silx [] ⟨[(2, .O false)], [], (vV4 0 1 2 3 g_ []), 5⟩ htt 4 (by kernel_rfl) (WPr.nil (?_)))
    cases h
    exact WP.ret htt Tryz.func19 [] rfl rfl rfl rfl
  refine WPr.kb 17 hc rfl (WPr.sil htt 1 rfl (?_))
  obtain ⟨x5, hx5, h⟩ := ob h
  refine WPr.call (z55_ct N g_ _ hx5) [(0, .sl 0), (1, .sl 1), (2, .sl 2), (3, .sl 3)] [] rfl rfl rfl rfl rfl rfl rfl rfl (.inl rfl) rfl (WPr.silx [] ⟨[(2, .O x5)], [], (vV4 0 1 2 3 g_ []), 5⟩ htt 2 (by kernel_rfl) (WPr.nil (?_)))
  cases h
  exact WP.ret htt Tryz.func19 [] rfl rfl rfl rfl
theorem z35_ct (N : Nat) (g_ : T4) (r : (List Int) × Int) (h : z35 N g_ = some r) :
  Fn Tryz.prog 35 ⟨4, [.a (cC4 0 1 2 3 g_)], (vV4 0 1 2 3 g_ []), [], 5, .t [.inl (.sl 4), .inl (.I r.2)], [], [(4, .own (rI .i64) r.1 true)]⟩ := by
  refine Fn.intro _ _ Tryz.func35 rfl (by kernel_rfl) rfl (fun E F w => ?_)
  unfold z35 at h
  refine WP.seq (WP.region (WPr.silx [] ⟨[(1, .B 4 0), (2, .c .nil), (3, .I (0 : Int))], [(4, .box (cC4 0 1 2 3 g_) 27)], (vV4 0 1 2 3 g_ []), 5⟩ htt 3 (by kernel_rfl) (WPr.nil (WP.seq (WP.seq (WP.region (WPr.sil htt 1 rfl (?_))))))))
  obtain ⟨x1, hx1, h⟩ := ob h
  refine WPr.call (z22_ct N g_ _ hx1) [(0, .sl 0), (1, .sl 1), (2, .sl 2), (3, .sl 3)] [] rfl rfl rfl rfl rfl rfl rfl rfl (.inl rfl) rfl (WPr.silx [] ⟨[(1, .B 4 0), (2, .c .nil), (3, .I (0 : Int)), (6, .O (!x1))], [(4, .box (cC4 0 1 2 3 g_) 27)], (vV4 0 1 2 3 g_ []), 5⟩ htt 1 (by kernel_rfl) (WPr.nil (?_)))
  rcases oc h with ⟨hc, h⟩ | ⟨hc, h⟩
  · refine WP.condT hc rfl (WP.seq (WP.region (WPr.sil htt 2 rfl (WPr.nil (?_)))))
    cases h
    exact WP.ret htt Tryz.func35 [(4, .nil)] rfl rfl rfl rfl
  refine WP.condF hc rfl (WP.skip (WP.seq (WP.region (WPr.silx [3, 4, 5] ⟨[(7, .a (cC4 0 1 2 3 g_)), (9, .I g_.End)], [], (vV4 0 1 2 3 g_ []), 5⟩ htt 3 (by kernel_rfl) (?_)))))
  obtain ⟨x2, hx2, h⟩ := ob h
  refine WPr.call (z67_ct N g_ g_.End true _ hx2) [(0, .sl 0), (1, .sl 1), (2, .sl 2), (3, .sl 3)] [] rfl rfl rfl rfl rfl rfl rfl rfl (.inl rfl) rfl (WPr.silx [] ⟨[(2, .S 5), (3, .I (0 : Int))], [(5, .own (rI .i64) x2 true)], (vV4 0 1 2 3 g_ []), 6⟩ htt 2 (by kernel_rfl) (WPr.nil (?_)))
  cases h
  exact WP.ret htt Tryz.func35 [(4, .sl 5)] rfl rfl rfl rfl
theorem law18_GlobalEnds_ct (N : Nat) (g_ : T4) (r : Bool) (h : law18_GlobalEnds N g_ = some r) :
  Fn Tryz.prog 8 ⟨4, [.a (cC4 0 1 2 3 g_)], (vV4 0 1 2 3 g_ []), [], 4, .O r, [], []⟩ := by
  refine Fn.intro _ _ Tryz.func8 rfl (by kernel_rfl) rfl (fun E F w => ?_)
  unfold law18_GlobalEnds at h
  refine WP.seq (WP.region (WPr.sil htt 2 rfl (WPr.nil (WP.seq (WP.seq (WP.region (?_)))))))
  obtain ⟨x1, hx1, h⟩ := ob h
  refine WPr.call (z12_ct N _ hx1) [] [] rfl rfl rfl rfl rfl rfl rfl rfl (.inl rfl) rfl (WPr.silx (rg 3 9) ⟨[(1, .B 4 0), (2, .O false), (11, .O (!x1))], [(4, .box (cC4 0 1 2 3 g_) 27)], (vV4 0 1 2 3 g_ []), 5⟩ htt 2 (by kernel_rfl) (?_))
  rcases oc h with ⟨hc, h⟩ | ⟨hc, h⟩
  · refine WPr.kb 11 hc rfl (WPr.silx [] ⟨[(1, .B 4 0), (2, .O false), (20, .O true)], [(4, .box (cC4 0 1 2 3 g_) 27)], (vV4 0 1 2 3 g_ []), 5⟩ htt 9 (by kernel_rfl) (WPr.nil (WP.condT rfl rfl (WP.seq (WP.region (?_))))))
    obtain ⟨x2, hx2, h⟩ := ob h
    refine WPr.call (z12_ct N _ hx2) [] [] rfl rfl rfl rfl rfl rfl rfl rfl (.inl rfl) rfl (WPr.silx [] ⟨[(2, .O x2)], [], (vV4 0 1 2 3 g_ []), 5⟩ htt 1 (by kernel_rfl) (WPr.nil (?_)))
    cases h
    exact WP.ret htt Tryz.func8 [] rfl rfl rfl rfl
  refine WPr.kb 11 hc rfl (WPr.sil htt 1 rfl (?_))
  obtain ⟨x3, hx3, h⟩ := ob h
  refine WPr.call (z13_ct N g_ _ hx3) [(0, .sl 0), (1, .sl 1), (2, .sl 2), (3, .sl 3)] [] rfl rfl rfl rfl rfl rfl rfl rfl (.inl rfl) rfl (WPr.silx [8, 9, 10, 11] ⟨[(1, .B 4 0), (2, .O false), (16, .O (!x3))], [(4, .box (cC4 0 1 2 3 g_) 27)], (vV4 0 1 2 3 g_ []), 5⟩ htt 3 (by kernel_rfl) (?_))
  rcases oc h with ⟨hc, h⟩ | ⟨hc, h⟩
  · refine WPr.kb 16 hc rfl (WPr.silx [] ⟨[(1, .B 4 0), (2, .O false), (20, .O true)], [(4, .box (cC4 0 1 2 3 g_) 27)], (vV4 0 1 2 3 g_ []), 5⟩ htt 4 (by kernel_rfl) (WPr.nil (WP.condT rfl rfl (WP.seq (WP.region (?_))))))
    obtain ⟨x4, hx4, h⟩ := ob h
    refine WPr.call (z12_ct N _ hx4) [] [] rfl rfl rfl rfl rfl rfl rfl rfl (.inl rfl) rfl (WPr.silx [] ⟨[(2, .O x4)], [], (vV4 0 1 2 3 g_ []), 5⟩ htt 1 (by kernel_rfl) (WPr.nil (?_)))
    cases h
    exact WP.ret htt Tryz.func8 [] rfl rfl rfl rfl
  refine WPr.kb 16 hc rfl (WPr.sil htt 1 rfl (?_))
  obtain ⟨x5, hx5, h⟩ := ob h
  refine WPr.call (z19_ct N g_ _ hx5) [(0, .sl 0), (1, .sl 1), (2, .sl 2), (3, .sl 3)] [] rfl rfl rfl rfl rfl rfl rfl rfl (.inl rfl) rfl (WPr.silx [] ⟨[(1, .B 4 0), (2, .O false), (20, .O (!x5))], [(4, .box (cC4 0 1 2 3 g_) 27)], (vV4 0 1 2 3 g_ []), 5⟩ htt 2 (by kernel_rfl) (WPr.nil (?_)))
  rcases oc h with ⟨hc, h⟩ | ⟨hc, h⟩
  · refine WP.condT hc rfl (WP.seq (WP.region (?_)))
    obtain ⟨x6, hx6, h⟩ := ob h
    refine WPr.call (z12_ct N _ hx6) [] [] rfl rfl rfl rfl rfl rfl rfl rfl (.inl rfl) rfl (WPr.silx [] ⟨[(2, .O x6)], [], (vV4 0 1 2 3 g_ []), 5⟩ htt 1 (by kernel_rfl) (WPr.nil (?_)))
    cases h
    exact WP.ret htt Tryz.func8 [] rfl rfl rfl rfl
  refine WP.condF hc rfl (WP.skip (WP.seq (WP.region (WPr.sil htt 1 rfl (?_)))))
  obtain ⟨x7, hx7, h⟩ := ob h
  refine WPr.call (z35_ct N g_ _ hx7) [(0, .sl 0), (1, .sl 1), (2, .sl 2), (3, .sl 3)] [] rfl rfl rfl rfl rfl rfl rfl rfl (.inl rfl) rfl (WPr.silx [] ⟨[(1, .B 4 0), (2, .O false), (3, .S 5), (4, .I x7.2)], [(4, .box (cC4 0 1 2 3 g_) 27), (5, .own (rI .i64) x7.1 true)], (vV4 0 1 2 3 g_ []), 6⟩ htt 5 (by kernel_rfl) (WPr.nil (WP.seq (WP.seq (WP.region (WPr.silx (rg 3 6) ⟨[(1, .B 4 0), (2, .O false), (3, .S 5), (29, .O (x7.2 != (0 : Int)))], [(4, .box (cC4 0 1 2 3 g_) 27), (5, .own (rI .i64) x7.1 true)], (vV4 0 1 2 3 g_ []), 6⟩ htt 3 (by kernel_rfl) (?_)))))))
  rcases oc h with ⟨hc, h⟩ | ⟨hc, h⟩
  · refine WPr.kb 29 hc rfl (WPr.silx [] ⟨[(1, .B 4 0), (2, .O false), (3, .S 5), (35, .O true)], [(4, .box (cC4 0 1 2 3 g_) 27), (5, .own (rI .i64) x7.1 true)], (vV4 0 1 2 3 g_ []), 6⟩ htt 6 (by kernel_rfl) (WPr.nil (WP.condT rfl rfl (WP.seq (WP.region (WPr.sil htt 1 rfl (WPr.nil (?_))))))))
    cases h
    exact WP.ret htt Tryz.func8 [] rfl rfl rfl rfl
  refine WPr.kb 29 hc rfl (WPr.silx [] ⟨[(1, .B 4 0), (2, .O false), (3, .S 5), (35, .O ((x7.1.length : Int) != g_.States))], [(4, .box (cC4 0 1 2 3 g_) 27), (5, .own (rI .i64) x7.1 true)], (vV4 0 1 2 3 g_ []), 6⟩ htt 6 (by kernel_rfl) (WPr.nil (?_)))
  rcases oc h with ⟨hc, h⟩ | ⟨hc, h⟩
  · refine WP.condT hc rfl (WP.seq (WP.region (WPr.sil htt 1 rfl (WPr.nil (?_)))))
    cases h
    exact WP.ret htt Tryz.func8 [] rfl rfl rfl rfl
  refine WP.condF hc rfl (WP.skip (WP.seq (WP.seq (WP.region (WPr.silx [] ⟨[(1, .B 4 0), (2, .O false), (3, .S 5), (37, .I (x7.1.length : Int)), (38, .I (0 : Int))], [(4, .box (cC4 0 1 2 3 g_) 27), (5, .own (rI .i64) x7.1 true)], (vV4 0 1 2 3 g_ []), 6⟩ htt 3 (by kernel_rfl) (WPr.nil (?_)))))))
  refine WP.cut (σ := Unit) (fun st => ⟨[], [], (vV4 0 1 2 3 g_ []), 6⟩) (fun st => law18_GlobalEnds_k1 = some r) ?_ (fun j1 => ?_)
  · intro _ h
    replace h : law18_GlobalEnds_k1 = some r := h
    unfold law18_GlobalEnds_k1 at h
    refine WP.seq (WP.region (WPr.sil htt 1 rfl (WPr.nil (?_))))
    cases h
    exact WP.ret htt Tryz.func8 [] rfl rfl rfl rfl
  refine WP.block (?_)
  refine WP.loopI (σ := Int) (fun st => ⟨[(1, .B 4 0), (3, .S 5), (37, .I (x7.1.length : Int)), (38, .I st)], [(4, .box (cC4 0 1 2 3 g_) 27), (5, .own (rI .i64) x7.1 true)], (vV4 0 1 2 3 g_ []), 6⟩) (fun n st => law18_GlobalEnds_l2 N g_ x7 n st) (r := r) (fun _ => rfl) ?_ (fun ih => ?_)
  · intro n12 ih12
    intro v38_12 h
    replace h : law18_GlobalEnds_l2 N g_ x7 (n12 + 1) v38_12 = some r := h
    unfold law18_GlobalEnds_l2 at h
    refine WP.seq (WP.region (WPr.sil htt 1 rfl (WPr.nil (WP.seq (?_)))))
    rcases oc' h with ⟨hc, h⟩ | ⟨hc, h⟩
    · exact WP.condF hc rfl (WP.exit rfl (WP.sub [] (j1 () h) rfl rfl rfl rfl))
    refine WP.condT hc rfl (WP.skip (WP.seq (WP.block (WP.seq (WP.region (WPr.silx [] ⟨[(1, .B 4 0), (3, .S 5), (5, .I v38_12), (37, .I (x7.1.length : Int)), (38, .I v38_12)], [(4, .box (cC4 0 1 2 3 g_) 27), (5, .own (rI .i64) x7.1 true)], (vV4 0 1 2 3 g_ []), 6⟩ htt 2 (by kernel_rfl) (WPr.nil (WP.seq (WP.region (WPr.sil htt 2 rfl (?_)))))))))))
    obtain ⟨x10453, hx10453, h⟩ := ob h
    refine WPr.ixo htt hx10453 rfl rfl rfl rfl rfl rfl rfl rfl rfl (WPr.silx [3, 4, 5] ⟨[(1, .B 4 0), (3, .S 5), (5, .I v38_12), (37, .I (x7.1.length : Int)), (38, .I v38_12), (43, .P 6 0)], [(4, .box (cC4 0 1 2 3 g_) 27), (5, .own (rI .i64) x7.1 true)], (vV4 0 1 2 3 g_ [(6, .el 5 ((v38_12).toNat * ((rI .i64)).sz))]), 7⟩ htt 0 (by kernel_rfl) (WPr.ldo (oI .i64) htt hx10453 rfl rfl rfl rfl rfl rfl rfl rfl rfl rfl (WPr.silx [] ⟨[(1, .B 4 0), (3, .S 5), (5, .I v38_12), (6, .O (x10453 == (0 : Int))), (37, .I (x7.1.length : Int)), (38, .I v38_12)], [(4, .box (cC4 0 1 2 3 g_) 27), (5, .own (rI .i64) x7.1 true)], (vV4 0 1 2 3 g_ []), 7⟩ htt 2 (by kernel_rfl) (WPr.nil (WP.seq (WP.seq (WP.region (WPr.silx [] ⟨[(1, .B 4 0), (3, .S 5), (5, .I v38_12), (6, .O (x10453 == (0 : Int))), (37, .I (x7.1.length : Int)), (38, .I v38_12), (47, .S 2), (48, .I (g_.Edges.length : Int)), (49, .I (0 : Int))], [(4, .box (cC4 0 1 2 3 g_) 27), (5, .own (rI .i64) x7.1 true)], (vV4 0 1 2 3 g_ []), 7⟩ htt 4 (by kernel_rfl) (WPr.nil (?_))))))))))
    refine WP.cut (σ := Bool) (fun st => ⟨[(1, .B 4 0), (3, .S 5), (5, .I v38_12), (6, .O st), (37, .I (x7.1.length : Int)), (38, .I v38_12)], [(4, .box (cC4 0 1 2 3 g_) 27), (5, .own (rI .i64) x7.1 true)], (vV4 0 1 2 3 g_ []), 7⟩) (fun st => law18_GlobalEnds_k3 g_ x7 v38_12 (law18_GlobalEnds_l2 N g_ x7 n12) st = some r) ?_ (fun j19 => ?_)
    · intro v6_19 h
      replace h : law18_GlobalEnds_k3 g_ x7 v38_12 (law18_GlobalEnds_l2 N g_ x7 n12) v6_19 = some r := h
      unfold law18_GlobalEnds_k3 at h
      refine WP.seq (WP.nm (fun A216 tA216 fA216 => ?_))
      have st11083 : A216 0 ⟨[(6, .O v6_19)], [], [], [], 7, [(91, .O v6_19)], [], [], 7⟩ := tA216 _ _ (LS.sil htt rfl rfl rfl rfl rfl rfl)
      have st11084 : A216 1 ⟨[(91, .O v6_19)], [], [], [], 7, [(92, .O (!v6_19))], [], [], 7⟩ := tA216 _ _ (LS.sil htt rfl rfl rfl rfl rfl rfl)
      have st11085 : A216 2 ⟨[(92, .O (!v6_19))], [], [], [], 7, [(93, .O (!v6_19))], [], [], 7⟩ := tA216 _ _ (LS.sil htt rfl rfl rfl rfl rfl rfl)
      rcases oc h with ⟨hc, h⟩ | ⟨hc, h⟩
      · have st11086 := tA216 _ _ (LS.kb hc rfl (fA216 _ _ st11085))
        have st11087 : A216 3 ⟨[(93, .O true)], [], [], [], 7, [(94, .u)], [], [], 7⟩ := tA216 _ _ (LS.skip rfl rfl rfl (.inr ⟨_, rfl, rfl⟩) rfl rfl)
        have st11088 : A216 4 ⟨[(93, .O true)], [], [], [], 7, [(95, .u)], [], [], 7⟩ := tA216 _ _ (LS.skip rfl rfl rfl (.inr ⟨_, rfl, rfl⟩) rfl rfl)
        have st11089 : A216 5 ⟨[(93, .O true)], [], [], [], 7, [(96, .u)], [], [], 7⟩ := tA216 _ _ (LS.skip rfl rfl rfl (.inr ⟨_, rfl, rfl⟩) rfl rfl)
        have st11090 : A216 6 ⟨[(93, .O true)], [], [], [], 7, [(97, .u)], [], [], 7⟩ := tA216 _ _ (LS.skip rfl rfl rfl (.inr ⟨_, rfl, rfl⟩) rfl rfl)
        have st11091 : A216 7 ⟨[(93, .O true)], [], [], [], 7, [(98, .u)], [], [], 7⟩ := tA216 _ _ (LS.skip rfl rfl rfl (.inr ⟨_, rfl, rfl⟩) rfl rfl)
        have st11092 : A216 8 ⟨[(93, .O true)], [], [], [], 7, [(99, .u)], [], [], 7⟩ := tA216 _ _ (LS.skip rfl rfl rfl (.inr ⟨_, rfl, rfl⟩) rfl rfl)
        have st11093 : A216 9 ⟨[(93, .O true)], [], [], [], 7, [(100, .u)], [], [], 7⟩ := tA216 _ _ (LS.skip rfl rfl rfl (.inr ⟨_, rfl, rfl⟩) rfl rfl)
        have st11094 : A216 10 ⟨[(93, .O true)], [], [], [], 7, [(101, .u)], [], [], 7⟩ := tA216 _ _ (LS.skip rfl rfl rfl (.inr ⟨_, rfl, rfl⟩) rfl rfl)
        have st11095 : A216 11 ⟨[(93, .O true)], [], [], [], 7, [(102, .u)], [], [], 7⟩ := tA216 _ _ (LS.skip rfl rfl rfl (.inr ⟨_, rfl, rfl⟩) rfl rfl)
        have st11096 : A216 12 ⟨[(93, .O true)], [], [], [], 7, [(103, .u)], [], [], 7⟩ := tA216 _ _ (LS.skip rfl rfl rfl (.inr ⟨_, rfl, rfl⟩) rfl rfl)
        have st11097 : A216 13 ⟨[(93, .O true), (103, .u)], [], [], [], 7, [(104, .O true)], [], [], 7⟩ := tA216 _ _ (LS.sil htt rfl rfl rfl rfl rfl rfl)
        refine WP.regionD (t := ⟨[(1, .B 4 0), (3, .S 5), (37, .I (x7.1.length : Int)), (38, .I v38_12), (104, .O true)], [(4, .box (cC4 0 1 2 3 g_) 27), (5, .own (rI .i64) x7.1 true)], (vV4 0 1 2 3 g_ []), 7⟩) [0, 1, 3, 7, 7, 31, 63, 127, 7, 7, 519, 1799, 4095, 8191] (.cons (fA216 _ _ st11083) (.cons (fA216 _ _ st11084) (.cons (fA216 _ _ st11086) (.cons (fA216 _ _ st11087) (.cons (fA216 _ _ st11088) (.cons (fA216 _ _ st11089) (.cons (fA216 _ _ st11090) (.cons (fA216 _ _ st11091) (.cons (fA216 _ _ st11092) (.cons (fA216 _ _ st11093) (.cons (fA216 _ _ st11094) (.cons (fA216 _ _ st11095) (.cons (fA216 _ _ st11096) (.cons (fA216 _ _ st11097) .nil)))))))))))))) (by kernel_rfl) (by kernel_rfl) (by kernel_rfl) (by kernel_rfl) (WP.condT rfl rfl (WP.seq (WP.region (WPr.sil htt 1 rfl (WPr.nil (?_))))))
        cases h
        exact WP.ret htt Tryz.func8 [] rfl rfl rfl rfl
      have st11098 := tA216 _ _ (LS.kb hc rfl (fA216 _ _ st11085))
      have st11099 : A216 3 ⟨[(3, .S 5), (93, .O false)], [], [], [], 7, [(94, .S 5)], [], [], 7⟩ := tA216 _ _ (LS.sil htt rfl rfl rfl rfl rfl rfl)
      have st11100 : A216 4 ⟨[(5, .I v38_12), (93, .O false)], [], [], [], 7, [(95, .I v38_12)], [], [], 7⟩ := tA216 _ _ (LS.sil htt rfl rfl rfl rfl rfl rfl)
      obtain ⟨x11101, hx11101, h⟩ := ob h
      have st11102 : A216 5 ⟨[(93, .O false), (94, .S 5), (95, .I v38_12)], [], [], [(5, .own (rI .i64) x7.1 true)], 7, [(96, .P 7 0)], [(7, .el 5 ((v38_12).toNat * ((rI .i64)).sz))], [], 8⟩ := tA216 _ _ (LS.of rfl rfl rfl (fun _ _ _ _ _ _ _ k => WPr.ixo htt hx11101 rfl rfl rfl rfl rfl rfl rfl rfl rfl (k)) rfl)
      have st11103 : A216 6 ⟨[(93, .O false), (96, .P 7 0)], [(7, .el 5 ((v38_12).toNat * ((rI .i64)).sz))], [], [(5, .own (rI .i64) x7.1 true)], 8, [(97, .I x11101)], [], [], 8⟩ := tA216 _ _ (LS.of rfl rfl rfl (fun _ _ _ _ _ _ _ k => WPr.ldo (oI .i64) htt hx11101 rfl rfl rfl rfl rfl rfl rfl rfl rfl rfl (k)) rfl)
      have st11104 : A216 7 ⟨[(93, .O false), (97, .I x11101)], [], [], [], 8, [(98, .O (x11101 == (0 : Int)))], [], [], 8⟩ := tA216 _ _ (LS.sil htt rfl rfl rfl rfl rfl rfl)
      have st11105 : A216 8 ⟨[(5, .I v38_12), (93, .O false)], [], [], [], 8, [(99, .I v38_12)], [], [], 8⟩ := tA216 _ _ (LS.sil htt rfl rfl rfl rfl rfl rfl)
      have st11106 : A216 9 ⟨[(1, .B 4 0), (93, .O false)], [], [], [], 8, [(100, .B 4 5)], [], [], 8⟩ := tA216 _ _ (LS.sil htt rfl rfl rfl rfl rfl rfl)
      have st11107 : A216 10 ⟨[(93, .O false), (100, .B 4 5)], (vV4 0 1 2 3 g_ []), [], [(4, .box (cC4 0 1 2 3 g_) 27)], 8, [(101, .I g_.End)], [], [], 8⟩ := tA216 _ _ (LS.sil htt rfl rfl rfl rfl rfl rfl)
      have st11108 : A216 11 ⟨[(93, .O false), (99, .I v38_12), (101, .I g_.End)], [], [], [], 8, [(102, .O (v38_12 == g_.End))], [], [], 8⟩ := tA216 _ _ (LS.sil htt rfl rfl rfl rfl rfl rfl)
      have st11109 : A216 12 ⟨[(93, .O false), (98, .O (x11101 == (0 : Int))), (102, .O (v38_12 == g_.End))], [], [], [], 8, [(103, .O (!((x11101 == (0 : Int)) == (v38_12 == g_.End))))], [], [], 8⟩ := tA216 _ _ (LS.sil htt rfl rfl rfl rfl rfl rfl)
      have st11110 : A216 13 ⟨[(93, .O false), (103, .O (!((x11101 == (0 : Int)) == (v38_12 == g_.End))))], [], [], [], 8, [(104, .O (!((x11101 == (0 : Int)) == (v38_12 == g_.End))))], [], [], 8⟩ := tA216 _ _ (LS.sil htt rfl rfl rfl rfl rfl rfl)
      refine WP.regionD (t := ⟨[(1, .B 4 0), (3, .S 5), (37, .I (x7.1.length : Int)), (38, .I v38_12), (104, .O (!((x11101 == (0 : Int)) == (v38_12 == g_.End))))], [(4, .box (cC4 0 1 2 3 g_) 27), (5, .own (rI .i64) x7.1 true)], (vV4 0 1 2 3 g_ []), 8⟩) [0, 1, 3, 7, 7, 31, 63, 127, 7, 7, 519, 1799, 4095, 8191] (.cons (fA216 _ _ st11083) (.cons (fA216 _ _ st11084) (.cons (fA216 _ _ st11098) (.cons (fA216 _ _ st11099) (.cons (fA216 _ _ st11100) (.cons (fA216 _ _ st11102) (.cons (fA216 _ _ st11103) (.cons (fA216 _ _ st11104) (.cons (fA216 _ _ st11105) (.cons (fA216 _ _ st11106) (.cons (fA216 _ _ st11107) (.cons (fA216 _ _ st11108) (.cons (fA216 _ _ st11109) (.cons (fA216 _ _ st11110) .nil)))))))))))))) (by kernel_rfl) (by kernel_rfl) (by kernel_rfl) (by kernel_rfl) (?_)
      rcases oc h with ⟨hc, h⟩ | ⟨hc, h⟩
      · refine WP.condT hc rfl (WP.seq (WP.region (WPr.sil htt 1 rfl (WPr.nil (?_)))))
        cases h
        exact WP.ret htt Tryz.func8 [] rfl rfl rfl rfl
      exact WP.condF hc rfl (WP.skip (WP.inBlock (WP.region (WPr.sil htt 2 rfl (WPr.nil (WP.sub [] (ih12 (w64 (v38_12 + (1 : Int))) h) rfl rfl rfl rfl))))))
    refine WP.block (?_)
    refine WP.loopI (σ := Bool × Int) (fun st => ⟨[(1, .B 4 0), (3, .S 5), (5, .I v38_12), (6, .O st.1), (37, .I (x7.1.length : Int)), (38, .I v38_12), (47, .S 2), (48, .I (g_.Edges.length : Int)), (49, .I st.2)], [(4, .box (cC4 0 1 2 3 g_) 27), (5, .own (rI .i64) x7.1 true)], (vV4 0 1 2 3 g_ []), 7⟩) (fun n st => law18_GlobalEnds_l4 g_ x7 v38_12 (law18_GlobalEnds_l2 N g_ x7 n12) n st.1 st.2) (r := r) (fun _ => rfl) ?_ (fun ih => ?_)
    · intro n14 ih21
      rintro ⟨v6_21, v49_21⟩ h
      replace h : law18_GlobalEnds_l4 g_ x7 v38_12 (law18_GlobalEnds_l2 N g_ x7 n12) (n14 + 1) v6_21 v49_21 = some r := h
      unfold law18_GlobalEnds_l4 at h
      refine WP.seq (WP.region (WPr.sil htt 1 rfl (WPr.nil (WP.seq (?_)))))
      rcases oc' h with ⟨hc, h⟩ | ⟨hc, h⟩
      · exact WP.condF hc rfl (WP.exit rfl (WP.sub [] (j19 v6_21 h) rfl rfl rfl rfl))
      refine WP.condT hc rfl (WP.skip (WP.seq (WP.block (WP.seq (WP.region (?_))))))
      obtain ⟨x11739, hx11739, h⟩ := ob h
      refine WPr.ix oO2 htt hx11739 rfl rfl rfl rfl rfl rfl rfl rfl rfl (WPr.silx [] ⟨[(1, .B 4 0), (3, .S 5), (5, .I v38_12), (6, .O v6_21), (8, .B 8 0), (37, .I (x7.1.length : Int)), (38, .I v38_12), (47, .S 2), (48, .I (g_.Edges.length : Int)), (49, .I v49_21)], [(4, .box (cC4 0 1 2 3 g_) 27), (5, .own (rI .i64) x7.1 true), (8, .box (cC2 x11739) 43)], (vV4 0 1 2 3 g_ []), 9⟩ htt 3 (by kernel_rfl) (WPr.nil (WP.seq (WP.seq (WP.nm (fun A229 tA229 fA229 => ?_))))))
      have st11741 : A229 0 ⟨[(8, .B 8 0)], [], [], [], 9, [(53, .B 8 0)], [], [], 9⟩ := tA229 _ _ (LS.sil htt rfl rfl rfl rfl rfl rfl)
      have st11742 : A229 1 ⟨[(53, .B 8 0)], [], [], [(8, .box (cC2 x11739) 43)], 9, [(54, .I x11739.From)], [], [], 9⟩ := tA229 _ _ (LS.sil htt rfl rfl rfl rfl rfl rfl)
      have st11743 : A229 2 ⟨[(5, .I v38_12)], [], [], [], 9, [(55, .I v38_12)], [], [], 9⟩ := tA229 _ _ (LS.sil htt rfl rfl rfl rfl rfl rfl)
      have st11744 : A229 3 ⟨[(54, .I x11739.From), (55, .I v38_12)], [], [], [], 9, [(56, .O (x11739.From == v38_12))], [], [], 9⟩ := tA229 _ _ (LS.sil htt rfl rfl rfl rfl rfl rfl)
      have st11745 : A229 4 ⟨[(56, .O (x11739.From == v38_12))], [], [], [], 9, [(57, .O (x11739.From == v38_12))], [], [], 9⟩ := tA229 _ _ (LS.sil htt rfl rfl rfl rfl rfl rfl)
      rcases oc' h with ⟨hc, h⟩ | ⟨hc, h⟩
      · have st11822 := tA229 _ _ (LS.kb hc rfl (fA229 _ _ st11745))
        have st11823 : A229 5 ⟨[(57, .O false)], [], [], [], 9, [(58, .u)], [], [], 9⟩ := tA229 _ _ (LS.skip rfl rfl rfl (.inr ⟨_, rfl, rfl⟩) rfl rfl)
        have st11824 : A229 6 ⟨[(57, .O false)], [], [], [], 9, [(59, .u)], [], [], 9⟩ := tA229 _ _ (LS.skip rfl rfl rfl (.inr ⟨_, rfl, rfl⟩) rfl rfl)
        have st11825 : A229 7 ⟨[(57, .O false)], [], [], [], 9, [(60, .u)], [], [], 9⟩ := tA229 _ _ (LS.skip rfl rfl rfl (.inr ⟨_, rfl, rfl⟩) rfl rfl)
        have st11826 : A229 8 ⟨[(57, .O false)], [], [], [], 9, [(61, .u)], [], [], 9⟩ := tA229 _ _ (LS.skip rfl rfl rfl (.inr ⟨_, rfl, rfl⟩) rfl rfl)
        have st11827 : A229 9 ⟨[(57, .O false)], [], [], [], 9, [(62, .u)], [], [], 9⟩ := tA229 _ _ (LS.skip rfl rfl rfl (.inr ⟨_, rfl, rfl⟩) rfl rfl)
        have st11828 : A229 10 ⟨[(57, .O false)], [], [], [], 9, [(63, .u)], [], [], 9⟩ := tA229 _ _ (LS.skip rfl rfl rfl (.inr ⟨_, rfl, rfl⟩) rfl rfl)
        have st11829 : A229 11 ⟨[(57, .O false)], [], [], [], 9, [(64, .u)], [], [], 9⟩ := tA229 _ _ (LS.skip rfl rfl rfl (.inr ⟨_, rfl, rfl⟩) rfl rfl)
        have st11830 : A229 12 ⟨[(57, .O false)], [], [], [], 9, [(65, .u)], [], [], 9⟩ := tA229 _ _ (LS.skip rfl rfl rfl (.inr ⟨_, rfl, rfl⟩) rfl rfl)
        have st11831 : A229 13 ⟨[(57, .O false)], [], [], [], 9, [(66, .u)], [], [], 9⟩ := tA229 _ _ (LS.skip rfl rfl rfl (.inr ⟨_, rfl, rfl⟩) rfl rfl)
        have st11832 : A229 14 ⟨[(57, .O false)], [], [], [], 9, [(67, .u)], [], [], 9⟩ := tA229 _ _ (LS.skip rfl rfl rfl (.inr ⟨_, rfl, rfl⟩) rfl rfl)
        have st11833 : A229 15 ⟨[(57, .O false)], [], [], [], 9, [(68, .u)], [], [], 9⟩ := tA229 _ _ (LS.skip rfl rfl rfl (.inr ⟨_, rfl, rfl⟩) rfl rfl)
        have st11834 : A229 16 ⟨[(57, .O false), (68, .u)], [], [], [], 9, [(69, .O false)], [], [], 9⟩ := tA229 _ _ (LS.sil htt rfl rfl rfl rfl rfl rfl)
        refine WP.regionD (t := ⟨[(1, .B 4 0), (3, .S 5), (5, .I v38_12), (6, .O v6_21), (8, .B 8 0), (37, .I (x7.1.length : Int)), (38, .I v38_12), (47, .S 2), (48, .I (g_.Edges.length : Int)), (49, .I v49_21), (69, .O false)], [(4, .box (cC4 0 1 2 3 g_) 27), (5, .own (rI .i64) x7.1 true), (8, .box (cC2 x11739) 43)], (vV4 0 1 2 3 g_ []), 9⟩) [0, 1, 0, 7, 15, 31, 31, 95, 255, 511, 31, 31, 3103, 7199, 15391, 32767, 65535] (.cons (fA229 _ _ st11741) (.cons (fA229 _ _ st11742) (.cons (fA229 _ _ st11743) (.cons (fA229 _ _ st11744) (.cons (fA229 _ _ st11822) (.cons (fA229 _ _ st11823) (.cons (fA229 _ _ st11824) (.cons (fA229 _ _ st11825) (.cons (fA229 _ _ st11826) (.cons (fA229 _ _ st11827) (.cons (fA229 _ _ st11828) (.cons (fA229 _ _ st11829) (.cons (fA229 _ _ st11830) (.cons (fA229 _ _ st11831) (.cons (fA229 _ _ st11832) (.cons (fA229 _ _ st11833) (.cons (fA229 _ _ st11834) .nil))))))))))))))))) (by kernel_rfl) (by kernel_rfl) (by kernel_rfl) (by kernel_rfl) (WP.condF rfl rfl (WP.skip (WP.nm (fun A231 tA231 fA231 => ?_))))
        have st11836 : A231 0 ⟨[(6, .O v6_21)], [], [], [], 9, [(70, .O v6_21)], [], [], 9⟩ := tA231 _ _ (LS.sil htt rfl rfl rfl rfl rfl rfl)
        have st11837 : A231 1 ⟨[(70, .O v6_21)], [], [], [], 9, [(71, .O v6_21)], [], [], 9⟩ := tA231 _ _ (LS.sil htt rfl rfl rfl rfl rfl rfl)
        rcases oc h with ⟨hc, h⟩ | ⟨hc, h⟩
        · have st11838 := tA231 _ _ (LS.kb hc rfl (fA231 _ _ st11837))
          have st11839 : A231 2 ⟨[(71, .O true)], [], [], [], 9, [(72, .u)], [], [], 9⟩ := tA231 _ _ (LS.skip rfl rfl rfl (.inr ⟨_, rfl, rfl⟩) rfl rfl)
          have st11840 : A231 3 ⟨[(71, .O true)], [], [], [], 9, [(73, .u)], [], [], 9⟩ := tA231 _ _ (LS.skip rfl rfl rfl (.inr ⟨_, rfl, rfl⟩) rfl rfl)
          have st11841 : A231 4 ⟨[(71, .O true)], [], [], [], 9, [(74, .u)], [], [], 9⟩ := tA231 _ _ (LS.skip rfl rfl rfl (.inr ⟨_, rfl, rfl⟩) rfl rfl)
          have st11842 : A231 5 ⟨[(71, .O true)], [], [], [], 9, [(75, .u)], [], [], 9⟩ := tA231 _ _ (LS.skip rfl rfl rfl (.inr ⟨_, rfl, rfl⟩) rfl rfl)
          have st11843 : A231 6 ⟨[(71, .O true)], [], [], [], 9, [(76, .u)], [], [], 9⟩ := tA231 _ _ (LS.skip rfl rfl rfl (.inr ⟨_, rfl, rfl⟩) rfl rfl)
          have st11844 : A231 7 ⟨[(76, .u)], [], [], [], 9, [(77, .u)], [], [], 9⟩ := tA231 _ _ (LS.skip rfl rfl rfl (.inr ⟨_, rfl, rfl⟩) rfl rfl)
          have st11845 : A231 8 ⟨[(76, .u)], [], [], [], 9, [(78, .u)], [], [], 9⟩ := tA231 _ _ (LS.skip rfl rfl rfl (.inr ⟨_, rfl, rfl⟩) rfl rfl)
          have st11846 : A231 9 ⟨[(76, .u)], [], [], [], 9, [(79, .u)], [], [], 9⟩ := tA231 _ _ (LS.skip rfl rfl rfl (.inr ⟨_, rfl, rfl⟩) rfl rfl)
          have st11847 : A231 10 ⟨[(76, .u)], [], [], [], 9, [(80, .u)], [], [], 9⟩ := tA231 _ _ (LS.skip rfl rfl rfl (.inr ⟨_, rfl, rfl⟩) rfl rfl)
          have st11848 : A231 11 ⟨[(76, .u)], [], [], [], 9, [(81, .u)], [], [], 9⟩ := tA231 _ _ (LS.skip rfl rfl rfl (.inr ⟨_, rfl, rfl⟩) rfl rfl)
          have st11849 : A231 12 ⟨[(76, .u)], [], [], [], 9, [(82, .u)], [], [], 9⟩ := tA231 _ _ (LS.skip rfl rfl rfl (.inr ⟨_, rfl, rfl⟩) rfl rfl)
          have st11850 : A231 13 ⟨[(76, .u)], [], [], [], 9, [(83, .u)], [], [], 9⟩ := tA231 _ _ (LS.skip rfl rfl rfl (.inr ⟨_, rfl, rfl⟩) rfl rfl)
          have st11851 : A231 14 ⟨[(76, .u)], [], [], [], 9, [(84, .u)], [], [], 9⟩ := tA231 _ _ (LS.skip rfl rfl rfl (.inr ⟨_, rfl, rfl⟩) rfl rfl)
          have st11852 : A231 15 ⟨[(76, .u)], [], [], [], 9, [(85, .u)], [], [], 9⟩ := tA231 _ _ (LS.skip rfl rfl rfl (.inr ⟨_, rfl, rfl⟩) rfl rfl)
          have st11853 : A231 16 ⟨[(76, .u)], [], [], [], 9, [(86, .u)], [], [], 9⟩ := tA231 _ _ (LS.skip rfl rfl rfl (.inr ⟨_, rfl, rfl⟩) rfl rfl)
          have st11854 : A231 17 ⟨[(76, .u)], [], [], [], 9, [(87, .u)], [], [], 9⟩ := tA231 _ _ (LS.skip rfl rfl rfl (.inr ⟨_, rfl, rfl⟩) rfl rfl)
          have st11855 : A231 18 ⟨[(71, .O true)], [], [], [], 9, [(88, .u)], [], [], 9⟩ := tA231 _ _ (LS.skip rfl rfl rfl (.inr ⟨_, rfl, rfl⟩) rfl rfl)
          have st11856 : A231 19 ⟨[(71, .O true), (88, .u)], [], [], [], 9, [(89, .O true)], [], [], 9⟩ := tA231 _ _ (LS.sil htt rfl rfl rfl rfl rfl rfl)
          have st11857 : A231 20 ⟨[(89, .O true)], [], [], [], 9, [(6, .O true)], [], [], 9⟩ := tA231 _ _ (LS.sil htt rfl rfl rfl rfl rfl rfl)
          exact WP.regionD (t := ⟨[(1, .B 4 0), (3, .S 5), (5, .I v38_12), (6, .O true), (37, .I (x7.1.length : Int)), (38, .I v38_12), (47, .S 2), (48, .I (g_.Edges.length : Int)), (49, .I v49_21)], [(4, .box (cC4 0 1 2 3 g_) 27), (5, .own (rI .i64) x7.1 true)], (vV4 0 1 2 3 g_ []), 9⟩) [0, 1, 3, 7, 3, 31, 63, 127, 127, 383, 1023, 2047, 127, 127, 12415, 28799, 61567, 131071, 262143, 524287, 1048575] (.cons (fA231 _ _ st11836) (.cons (fA231 _ _ st11838) (.cons (fA231 _ _ st11839) (.cons (fA231 _ _ st11840) (.cons (fA231 _ _ st11841) (.cons (fA231 _ _ st11842) (.cons (fA231 _ _ st11843) (.cons (fA231 _ _ st11844) (.cons (fA231 _ _ st11845) (.cons (fA231 _ _ st11846) (.cons (fA231 _ _ st11847) (.cons (fA231 _ _ st11848) (.cons (fA231 _ _ st11849) (.cons (fA231 _ _ st11850) (.cons (fA231 _ _ st11851) (.cons (fA231 _ _ st11852) (.cons (fA231 _ _ st11853) (.cons (fA231 _ _ st11854) (.cons (fA231 _ _ st11855) (.cons (fA231 _ _ st11856) (.cons (fA231 _ _ st11857) .nil))))))))))))))))))))) (by kernel_rfl) (by kernel_rfl) (by kernel_rfl) (by kernel_rfl) (WP.inBlock (WP.region (WPr.sil htt 2 rfl (WPr.nil (WP.sub [] (ih21 (true, (w64 (v49_21 + (1 : Int)))) h) rfl rfl rfl rfl)))))
        have st11858 := tA231 _ _ (LS.kb hc rfl (fA231 _ _ st11837))
        have st11859 : A231 2 ⟨[(8, .B 8 0), (71, .O false)], [], [], [], 9, [(72, .B 8 0)], [], [], 9⟩ := tA231 _ _ (LS.sil htt rfl rfl rfl rfl rfl rfl)
        have st11860 : A231 3 ⟨[(71, .O false), (72, .B 8 0)], [], [], [(8, .box (cC2 x11739) 43)], 9, [(73, .I x11739.From)], [], [], 9⟩ := tA231 _ _ (LS.sil htt rfl rfl rfl rfl rfl rfl)
        have st11861 : A231 4 ⟨[(5, .I v38_12), (71, .O false)], [], [], [], 9, [(74, .I v38_12)], [], [], 9⟩ := tA231 _ _ (LS.sil htt rfl rfl rfl rfl rfl rfl)
        have st11862 : A231 5 ⟨[(71, .O false), (73, .I x11739.From), (74, .I v38_12)], [], [], [], 9, [(75, .O (x11739.From == v38_12))], [], [], 9⟩ := tA231 _ _ (LS.sil htt rfl rfl rfl rfl rfl rfl)
        have st11863 : A231 6 ⟨[(71, .O false), (75, .O (x11739.From == v38_12))], [], [], [], 9, [(76, .O (x11739.From == v38_12))], [], [], 9⟩ := tA231 _ _ (LS.sil htt rfl rfl rfl rfl rfl rfl)
        rcases oc' h with ⟨hc, h⟩ | ⟨hc, h⟩
        · have st11881 := tA231 _ _ (LS.kb hc rfl (fA231 _ _ st11863))
          have st11882 : A231 7 ⟨[(76, .O false)], [], [], [], 9, [(77, .u)], [], [], 9⟩ := tA231 _ _ (LS.skip rfl rfl rfl (.inr ⟨_, rfl, rfl⟩) rfl rfl)
          have st11883 : A231 8 ⟨[(76, .O false)], [], [], [], 9, [(78, .u)], [], [], 9⟩ := tA231 _ _ (LS.skip rfl rfl rfl (.inr ⟨_, rfl, rfl⟩) rfl rfl)
          have st11884 : A231 9 ⟨[(76, .O false)], [], [], [], 9, [(79, .u)], [], [], 9⟩ := tA231 _ _ (LS.skip rfl rfl rfl (.inr ⟨_, rfl, rfl⟩) rfl rfl)
          have st11885 : A231 10 ⟨[(76, .O false)], [], [], [], 9, [(80, .u)], [], [], 9⟩ := tA231 _ _ (LS.skip rfl rfl rfl (.inr ⟨_, rfl, rfl⟩) rfl rfl)
          have st11886 : A231 11 ⟨[(76, .O false)], [], [], [], 9, [(81, .u)], [], [], 9⟩ := tA231 _ _ (LS.skip rfl rfl rfl (.inr ⟨_, rfl, rfl⟩) rfl rfl)
          have st11887 : A231 12 ⟨[(76, .O false)], [], [], [], 9, [(82, .u)], [], [], 9⟩ := tA231 _ _ (LS.skip rfl rfl rfl (.inr ⟨_, rfl, rfl⟩) rfl rfl)
          have st11888 : A231 13 ⟨[(76, .O false)], [], [], [], 9, [(83, .u)], [], [], 9⟩ := tA231 _ _ (LS.skip rfl rfl rfl (.inr ⟨_, rfl, rfl⟩) rfl rfl)
          have st11889 : A231 14 ⟨[(76, .O false)], [], [], [], 9, [(84, .u)], [], [], 9⟩ := tA231 _ _ (LS.skip rfl rfl rfl (.inr ⟨_, rfl, rfl⟩) rfl rfl)
          have st11890 : A231 15 ⟨[(76, .O false)], [], [], [], 9, [(85, .u)], [], [], 9⟩ := tA231 _ _ (LS.skip rfl rfl rfl (.inr ⟨_, rfl, rfl⟩) rfl rfl)
          have st11891 : A231 16 ⟨[(76, .O false)], [], [], [], 9, [(86, .u)], [], [], 9⟩ := tA231 _ _ (LS.skip rfl rfl rfl (.inr ⟨_, rfl, rfl⟩) rfl rfl)
          have st11892 : A231 17 ⟨[(76, .O false)], [], [], [], 9, [(87, .u)], [], [], 9⟩ := tA231 _ _ (LS.skip rfl rfl rfl (.inr ⟨_, rfl, rfl⟩) rfl rfl)
          have st11893 : A231 18 ⟨[(71, .O false), (76, .O false), (87, .u)], [], [], [], 9, [(88, .O false)], [], [], 9⟩ := tA231 _ _ (LS.sil htt rfl rfl rfl rfl rfl rfl)
          have st11894 : A231 19 ⟨[(71, .O false), (88, .O false)], [], [], [], 9, [(89, .O false)], [], [], 9⟩ := tA231 _ _ (LS.sil htt rfl rfl rfl rfl rfl rfl)
          have st11895 : A231 20 ⟨[(89, .O false)], [], [], [], 9, [(6, .O false)], [], [], 9⟩ := tA231 _ _ (LS.sil htt rfl rfl rfl rfl rfl rfl)
          exact WP.regionD (t := ⟨[(1, .B 4 0), (3, .S 5), (5, .I v38_12), (6, .O false), (37, .I (x7.1.length : Int)), (38, .I v38_12), (47, .S 2), (48, .I (g_.Edges.length : Int)), (49, .I v49_21)], [(4, .box (cC4 0 1 2 3 g_) 27), (5, .own (rI .i64) x7.1 true)], (vV4 0 1 2 3 g_ []), 9⟩) [0, 1, 3, 7, 3, 31, 63, 127, 127, 383, 1023, 2047, 127, 127, 12415, 28799, 61567, 131071, 262143, 524287, 1048575] (.cons (fA231 _ _ st11836) (.cons (fA231 _ _ st11858) (.cons (fA231 _ _ st11859) (.cons (fA231 _ _ st11860) (.cons (fA231 _ _ st11861) (.cons (fA231 _ _ st11862) (.cons (fA231 _ _ st11881) (.cons (fA231 _ _ st11882) (.cons (fA231 _ _ st11883) (.cons (fA231 _ _ st11884) (.cons (fA231 _ _ st11885) (.cons (fA231 _ _ st11886) (.cons (fA231 _ _ st11887) (.cons (fA231 _ _ st11888) (.cons (fA231 _ _ st11889) (.cons (fA231 _ _ st11890) (.cons (fA231 _ _ st11891) (.cons (fA231 _ _ st11892) (.cons (fA231 _ _ st11893) (.cons (fA231 _ _ st11894) (.cons (fA231 _ _ st11895) .nil))))))))))))))))))))) (by kernel_rfl) (by kernel_rfl) (by kernel_rfl) (by kernel_rfl) (WP.inBlock (WP.region (WPr.sil htt 2 rfl (WPr.nil (WP.sub [] (ih21 (false, (w64 (v49_21 + (1 : Int)))) h) rfl rfl rfl rfl)))))
        have st11864 := tA231 _ _ (LS.kb hc rfl (fA231 _ _ st11863))
        have st11865 : A231 7 ⟨[(3, .S 5), (76, .O true)], [], [], [], 9, [(77, .S 5)], [], [], 9⟩ := tA231 _ _ (LS.sil htt rfl rfl rfl rfl rfl rfl)
        have st11866 : A231 8 ⟨[(8, .B 8 0), (76, .O true)], [], [], [], 9, [(78, .B 8 4)], [], [], 9⟩ := tA231 _ _ (LS.sil htt rfl rfl rfl rfl rfl rfl)
        have st11867 : A231 9 ⟨[(76, .O true), (78, .B 8 4)], [], [], [(8, .box (cC2 x11739) 43)], 9, [(79, .I x11739.To)], [], [], 9⟩ := tA231 _ _ (LS.sil htt rfl rfl rfl rfl rfl rfl)
        obtain ⟨x11868, hx11868, h⟩ := ob h
        have st11869 : A231 10 ⟨[(76, .O true), (77, .S 5), (79, .I x11739.To)], [], [], [(5, .own (rI .i64) x7.1 true)], 9, [(80, .P 9 0)], [(9, .el 5 ((x11739.To).toNat * ((rI .i64)).sz))], [], 10⟩ := tA231 _ _ (LS.of rfl rfl rfl (fun _ _ _ _ _ _ _ k => WPr.ixo htt hx11868 rfl rfl rfl rfl rfl rfl rfl rfl rfl (k)) rfl)
        have st11870 : A231 11 ⟨[(76, .O true), (80, .P 9 0)], [(9, .el 5 ((x11739.To).toNat * ((rI .i64)).sz))], [], [(5, .own (rI .i64) x7.1 true)], 10, [(81, .I x11868)], [], [], 10⟩ := tA231 _ _ (LS.of rfl rfl rfl (fun _ _ _ _ _ _ _ k => WPr.ldo (oI .i64) htt hx11868 rfl rfl rfl rfl rfl rfl rfl rfl rfl rfl (k)) rfl)
        have st11871 : A231 12 ⟨[(3, .S 5), (76, .O true)], [], [], [], 10, [(82, .S 5)], [], [], 10⟩ := tA231 _ _ (LS.sil htt rfl rfl rfl rfl rfl rfl)
        have st11872 : A231 13 ⟨[(5, .I v38_12), (76, .O true)], [], [], [], 10, [(83, .I v38_12)], [], [], 10⟩ := tA231 _ _ (LS.sil htt rfl rfl rfl rfl rfl rfl)
        obtain ⟨x11873, hx11873, h⟩ := ob h
        have st11874 : A231 14 ⟨[(76, .O true), (82, .S 5), (83, .I v38_12)], [], [], [(5, .own (rI .i64) x7.1 true)], 10, [(84, .P 10 0)], [(10, .el 5 ((v38_12).toNat * ((rI .i64)).sz))], [], 11⟩ := tA231 _ _ (LS.of rfl rfl rfl (fun _ _ _ _ _ _ _ k => WPr.ixo htt hx11873 rfl rfl rfl rfl rfl rfl rfl rfl rfl (k)) rfl)
        have st11875 : A231 15 ⟨[(76, .O true), (84, .P 10 0)], [(10, .el 5 ((v38_12).toNat * ((rI .i64)).sz))], [], [(5, .own (rI .i64) x7.1 true)], 11, [(85, .I x11873)], [], [], 11⟩ := tA231 _ _ (LS.of rfl rfl rfl (fun _ _ _ _ _ _ _ k => WPr.ldo (oI .i64) htt hx11873 rfl rfl rfl rfl rfl rfl rfl rfl rfl rfl (k)) rfl)
        have st11876 : A231 16 ⟨[(76, .O true), (85, .I x11873)], [], [], [], 11, [(86, .I (w64 (x11873 - (1 : Int))))], [], [], 11⟩ := tA231 _ _ (LS.sil htt rfl rfl rfl rfl rfl rfl)
        have st11877 : A231 17 ⟨[(76, .O true), (81, .I x11868), (86, .I (w64 (x11873 - (1 : Int))))], [], [], [], 11, [(87, .O (x11868 == (w64 (x11873 - (1 : Int)))))], [], [], 11⟩ := tA231 _ _ (LS.sil htt rfl rfl rfl rfl rfl rfl)
        have st11878 : A231 18 ⟨[(71, .O false), (76, .O true), (87, .O (x11868 == (w64 (x11873 - (1 : Int)))))], [], [], [], 11, [(88, .O (x11868 == (w64 (x11873 - (1 : Int)))))], [], [], 11⟩ := tA231 _ _ (LS.sil htt rfl rfl rfl rfl rfl rfl)
        have st11879 : A231 19 ⟨[(71, .O false), (88, .O (x11868 == (w64 (x11873 - (1 : Int)))))], [], [], [], 11, [(89, .O (x11868 == (w64 (x11873 - (1 : Int)))))], [], [], 11⟩ := tA231 _ _ (LS.sil htt rfl rfl rfl rfl rfl rfl)
        have st11880 : A231 20 ⟨[(89, .O (x11868 == (w64 (x11873 - (1 : Int)))))], [], [], [], 11, [(6, .O (x11868 == (w64 (x11873 - (1 : Int)))))], [], [], 11⟩ := tA231 _ _ (LS.sil htt rfl rfl rfl rfl rfl rfl)
        exact WP.regionD (t := ⟨[(1, .B 4 0), (3, .S 5), (5, .I v38_12), (6, .O (x11868 == (w64 (x11873 - (1 : Int))))), (37, .I (x7.1.length : Int)), (38, .I v38_12), (47, .S 2), (48, .I (g_.Edges.length : Int)), (49, .I v49_21)], [(4, .box (cC4 0 1 2 3 g_) 27), (5, .own (rI .i64) x7.1 true)], (vV4 0 1 2 3 g_ []), 11⟩) [0, 1, 3, 7, 3, 31, 63, 127, 127, 383, 1023, 2047, 127, 127, 12415, 28799, 61567, 131071, 262143, 524287, 1048575] (.cons (fA231 _ _ st11836) (.cons (fA231 _ _ st11858) (.cons (fA231 _ _ st11859) (.cons (fA231 _ _ st11860) (.cons (fA231 _ _ st11861) (.cons (fA231 _ _ st11862) (.cons (fA231 _ _ st11864) (.cons (fA231 _ _ st11865) (.cons (fA231 _ _ st11866) (.cons (fA231 _ _ st11867) (.cons (fA231 _ _ st11869) (.cons (fA231 _ _ st11870) (.cons (fA231 _ _ st11871) (.cons (fA231 _ _ st11872) (.cons (fA231 _ _ st11874) (.cons (fA231 _ _ st11875) (.cons (fA231 _ _ st11876) (.cons (fA231 _ _ st11877) (.cons (fA231 _ _ st11878) (.cons (fA231 _ _ st11879) (.cons (fA231 _ _ st11880) .nil))))))))))))))))))))) (by kernel_rfl) (by kernel_rfl) (by kernel_rfl) (by kernel_rfl) (WP.inBlock (WP.region (WPr.sil htt 2 rfl (WPr.nil (WP.sub [] (ih21 ((x11868 == (w64 (x11873 - (1 : Int)))), (w64 (v49_21 + (1 : Int)))) h) rfl rfl rfl rfl)))))
      have st11746 := tA229 _ _ (LS.kb hc rfl (fA229 _ _ st11745))
      have st11747 : A229 5 ⟨[(3, .S 5), (57, .O true)], [], [], [], 9, [(58, .S 5)], [], [], 9⟩ := tA229 _ _ (LS.sil htt rfl rfl rfl rfl rfl rfl)
      have st11748 : A229 6 ⟨[(8, .B 8 0), (57, .O true)], [], [], [], 9, [(59, .B 8 4)], [], [], 9⟩ := tA229 _ _ (LS.sil htt rfl rfl rfl rfl rfl rfl)
      have st11749 : A229 7 ⟨[(57, .O true), (59, .B 8 4)], [], [], [(8, .box (cC2 x11739) 43)], 9, [(60, .I x11739.To)], [], [], 9⟩ := tA229 _ _ (LS.sil htt rfl rfl rfl rfl rfl rfl)
      obtain ⟨x11750, hx11750, h⟩ := ob h
      have st11751 : A229 8 ⟨[(57, .O true), (58, .S 5), (60, .I x11739.To)], [], [], [(5, .own (rI .i64) x7.1 true)], 9, [(61, .P 9 0)], [(9, .el 5 ((x11739.To).toNat * ((rI .i64)).sz))], [], 10⟩ := tA229 _ _ (LS.of rfl rfl rfl (fun _ _ _ _ _ _ _ k => WPr.ixo htt hx11750 rfl rfl rfl rfl rfl rfl rfl rfl rfl (k)) rfl)
      have st11752 : A229 9 ⟨[(57, .O true), (61, .P 9 0)], [(9, .el 5 ((x11739.To).toNat * ((rI .i64)).sz))], [], [(5, .own (rI .i64) x7.1 true)], 10, [(62, .I x11750)], [], [], 10⟩ := tA229 _ _ (LS.of rfl rfl rfl (fun _ _ _ _ _ _ _ k => WPr.ldo (oI .i64) htt hx11750 rfl rfl rfl rfl rfl rfl rfl rfl rfl rfl (k)) rfl)
      have st11753 : A229 10 ⟨[(3, .S 5), (57, .O true)], [], [], [], 10, [(63, .S 5)], [], [], 10⟩ := tA229 _ _ (LS.sil htt rfl rfl rfl rfl rfl rfl)
      have st11754 : A229 11 ⟨[(5, .I v38_12), (57, .O true)], [], [], [], 10, [(64, .I v38_12)], [], [], 10⟩ := tA229 _ _ (LS.sil htt rfl rfl rfl rfl rfl rfl)
      obtain ⟨x11755, hx11755, h⟩ := ob h
      have st11756 : A229 12 ⟨[(57, .O true), (63, .S 5), (64, .I v38_12)], [], [], [(5, .own (rI .i64) x7.1 true)], 10, [(65, .P 10 0)], [(10, .el 5 ((v38_12).toNat * ((rI .i64)).sz))], [], 11⟩ := tA229 _ _ (LS.of rfl rfl rfl (fun _ _ _ _ _ _ _ k => WPr.ixo htt hx11755 rfl rfl rfl rfl rfl rfl rfl rfl rfl (k)) rfl)
      have st11757 : A229 13 ⟨[(57, .O true), (65, .P 10 0)], [(10, .el 5 ((v38_12).toNat * ((rI .i64)).sz))], [], [(5, .own (rI .i64) x7.1 true)], 11, [(66, .I x11755)], [], [], 11⟩ := tA229 _ _ (LS.of rfl rfl rfl (fun _ _ _ _ _ _ _ k => WPr.ldo (oI .i64) htt hx11755 rfl rfl rfl rfl rfl rfl rfl rfl rfl rfl (k)) rfl)
      have st11758 : A229 14 ⟨[(57, .O true), (66, .I x11755)], [], [], [], 11, [(67, .I (w64 (x11755 - (1 : Int))))], [], [], 11⟩ := tA229 _ _ (LS.sil htt rfl rfl rfl rfl rfl rfl)
      have st11759 : A229 15 ⟨[(57, .O true), (62, .I x11750), (67, .I (w64 (x11755 - (1 : Int))))], [], [], [], 11, [(68, .O (decide (x11750 < (w64 (x11755 - (1 : Int))))))], [], [], 11⟩ := tA229 _ _ (LS.sil htt rfl rfl rfl rfl rfl rfl)
      have st11760 : A229 16 ⟨[(57, .O true), (68, .O (decide (x11750 < (w64 (x11755 - (1 : Int))))))], [], [], [], 11, [(69, .O (decide (x11750 < (w64 (x11755 - (1 : Int))))))], [], [], 11⟩ := tA229 _ _ (LS.sil htt rfl rfl rfl rfl rfl rfl)
      refine WP.regionD (t := ⟨[(1, .B 4 0), (3, .S 5), (5, .I v38_12), (6, .O v6_21), (8, .B 8 0), (37, .I (x7.1.length : Int)), (38, .I v38_12), (47, .S 2), (48, .I (g_.Edges.length : Int)), (49, .I v49_21), (69, .O (decide (x11750 < (w64 (x11755 - (1 : Int))))))], [(4, .box (cC4 0 1 2 3 g_) 27), (5, .own (rI .i64) x7.1 true), (8, .box (cC2 x11739) 43)], (vV4 0 1 2 3 g_ []), 11⟩) [0, 1, 0, 7, 15, 31, 31, 95, 255, 511, 31, 31, 3103, 7199, 15391, 32767, 65535] (.cons (fA229 _ _ st11741) (.cons (fA229 _ _ st11742) (.cons (fA229 _ _ st11743) (.cons (fA229 _ _ st11744) (.cons (fA229 _ _ st11746) (.cons (fA229 _ _ st11747) (.cons (fA229 _ _ st11748) (.cons (fA229 _ _ st11749) (.cons (fA229 _ _ st11751) (.cons (fA229 _ _ st11752) (.cons (fA229 _ _ st11753) (.cons (fA229 _ _ st11754) (.cons (fA229 _ _ st11756) (.cons (fA229 _ _ st11757) (.cons (fA229 _ _ st11758) (.cons (fA229 _ _ st11759) (.cons (fA229 _ _ st11760) .nil))))))))))))))))) (by kernel_rfl) (by kernel_rfl) (by kernel_rfl) (by kernel_rfl) (?_)
      rcases oc h with ⟨hc, h⟩ | ⟨hc, h⟩
      · refine WP.condT hc rfl (WP.seq (WP.region (WPr.sil htt 1 rfl (WPr.nil (?_)))))
        cases h
        exact WP.ret htt Tryz.func8 [] rfl rfl rfl rfl
      refine WP.condF hc rfl (WP.skip (WP.nm (fun A230 tA230 fA230 => ?_)))
      have st11762 : A230 0 ⟨[(6, .O v6_21)], [], [], [], 11, [(70, .O v6_21)], [], [], 11⟩ := tA230 _ _ (LS.sil htt rfl rfl rfl rfl rfl rfl)
      have st11763 : A230 1 ⟨[(70, .O v6_21)], [], [], [], 11, [(71, .O v6_21)], [], [], 11⟩ := tA230 _ _ (LS.sil htt rfl rfl rfl rfl rfl rfl)
      rcases oc h with ⟨hc, h⟩ | ⟨hc, h⟩
      · have st11764 := tA230 _ _ (LS.kb hc rfl (fA230 _ _ st11763))
        have st11765 : A230 2 ⟨[(71, .O true)], [], [], [], 11, [(72, .u)], [], [], 11⟩ := tA230 _ _ (LS.skip rfl rfl rfl (.inr ⟨_, rfl, rfl⟩) rfl rfl)
        have st11766 : A230 3 ⟨[(71, .O true)], [], [], [], 11, [(73, .u)], [], [], 11⟩ := tA230 _ _ (LS.skip rfl rfl rfl (.inr ⟨_, rfl, rfl⟩) rfl rfl)
        have st11767 : A230 4 ⟨[(71, .O true)], [], [], [], 11, [(74, .u)], [], [], 11⟩ := tA230 _ _ (LS.skip rfl rfl rfl (.inr ⟨_, rfl, rfl⟩) rfl rfl)
        have st11768 : A230 5 ⟨[(71, .O true)], [], [], [], 11, [(75, .u)], [], [], 11⟩ := tA230 _ _ (LS.skip rfl rfl rfl (.inr ⟨_, rfl, rfl⟩) rfl rfl)
        have st11769 : A230 6 ⟨[(71, .O true)], [], [], [], 11, [(76, .u)], [], [], 11⟩ := tA230 _ _ (LS.skip rfl rfl rfl (.inr ⟨_, rfl, rfl⟩) rfl rfl)
        have st11770 : A230 7 ⟨[(76, .u)], [], [], [], 11, [(77, .u)], [], [], 11⟩ := tA230 _ _ (LS.skip rfl rfl rfl (.inr ⟨_, rfl, rfl⟩) rfl rfl)
        have st11771 : A230 8 ⟨[(76, .u)], [], [], [], 11, [(78, .u)], [], [], 11⟩ := tA230 _ _ (LS.skip rfl rfl rfl (.inr ⟨_, rfl, rfl⟩) rfl rfl)
        have st11772 : A230 9 ⟨[(76, .u)], [], [], [], 11, [(79, .u)], [], [], 11⟩ := tA230 _ _ (LS.skip rfl rfl rfl (.inr ⟨_, rfl, rfl⟩) rfl rfl)
        have st11773 : A230 10 ⟨[(76, .u)], [], [], [], 11, [(80, .u)], [], [], 11⟩ := tA230 _ _ (LS.skip rfl rfl rfl (.inr ⟨_, rfl, rfl⟩) rfl rfl)
        have st11774 : A230 11 ⟨[(76, .u)], [], [], [], 11, [(81, .u)], [], [], 11⟩ := tA230 _ _ (LS.skip rfl rfl rfl (.inr ⟨_, rfl, rfl⟩) rfl rfl)
        have st11775 : A230 12 ⟨[(76, .u)], [], [], [], 11, [(82, .u)], [], [], 11⟩ := tA230 _ _ (LS.skip rfl rfl rfl (.inr ⟨_, rfl, rfl⟩) rfl rfl)
        have st11776 : A230 13 ⟨[(76, .u)], [], [], [], 11, [(83, .u)], [], [], 11⟩ := tA230 _ _ (LS.skip rfl rfl rfl (.inr ⟨_, rfl, rfl⟩) rfl rfl)
        have st11777 : A230 14 ⟨[(76, .u)], [], [], [], 11, [(84, .u)], [], [], 11⟩ := tA230 _ _ (LS.skip rfl rfl rfl (.inr ⟨_, rfl, rfl⟩) rfl rfl)
        have st11778 : A230 15 ⟨[(76, .u)], [], [], [], 11, [(85, .u)], [], [], 11⟩ := tA230 _ _ (LS.skip rfl rfl rfl (.inr ⟨_, rfl, rfl⟩) rfl rfl)
        have st11779 : A230 16 ⟨[(76, .u)], [], [], [], 11, [(86, .u)], [], [], 11⟩ := tA230 _ _ (LS.skip rfl rfl rfl (.inr ⟨_, rfl, rfl⟩) rfl rfl)
        have st11780 : A230 17 ⟨[(76, .u)], [], [], [], 11, [(87, .u)], [], [], 11⟩ := tA230 _ _ (LS.skip rfl rfl rfl (.inr ⟨_, rfl, rfl⟩) rfl rfl)
        have st11781 : A230 18 ⟨[(71, .O true)], [], [], [], 11, [(88, .u)], [], [], 11⟩ := tA230 _ _ (LS.skip rfl rfl rfl (.inr ⟨_, rfl, rfl⟩) rfl rfl)
        have st11782 : A230 19 ⟨[(71, .O true), (88, .u)], [], [], [], 11, [(89, .O true)], [], [], 11⟩ := tA230 _ _ (LS.sil htt rfl rfl rfl rfl rfl rfl)
        have st11783 : A230 20 ⟨[(89, .O true)], [], [], [], 11, [(6, .O true)], [], [], 11⟩ := tA230 _ _ (LS.sil htt rfl rfl rfl rfl rfl rfl)
        exact WP.regionD (t := ⟨[(1, .B 4 0), (3, .S 5), (5, .I v38_12), (6, .O true), (37, .I (x7.1.length : Int)), (38, .I v38_12), (47, .S 2), (48, .I (g_.Edges.length : Int)), (49, .I v49_21)], [(4, .box (cC4 0 1 2 3 g_) 27), (5, .own (rI .i64) x7.1 true)], (vV4 0 1 2 3 g_ []), 11⟩) [0, 1, 3, 7, 3, 31, 63, 127, 127, 383, 1023, 2047, 127, 127, 12415, 28799, 61567, 131071, 262143, 524287, 1048575] (.cons (fA230 _ _ st11762) (.cons (fA230 _ _ st11764) (.cons (fA230 _ _ st11765) (.cons (fA230 _ _ st11766) (.cons (fA230 _ _ st11767) (.cons (fA230 _ _ st11768) (.cons (fA230 _ _ st11769) (.cons (fA230 _ _ st11770) (.cons (fA230 _ _ st11771) (.cons (fA230 _ _ st11772) (.cons (fA230 _ _ st11773) (.cons (fA230 _ _ st11774) (.cons (fA230 _ _ st11775) (.cons (fA230 _ _ st11776) (.cons (fA230 _ _ st11777) (.cons (fA230 _ _ st11778) (.cons (fA230 _ _ st11779) (.cons (fA230 _ _ st11780) (.cons (fA230 _ _ st11781) (.cons (fA230 _ _ st11782) (.cons (fA230 _ _ st11783) .nil))))))))))))))))))))) (by kernel_rfl) (by kernel_rfl) (by kernel_rfl) (by kernel_rfl) (WP.inBlock (WP.region (WPr.sil htt 2 rfl (WPr.nil (WP.sub [] (ih21 (true, (w64 (v49_21 + (1 : Int)))) h) rfl rfl rfl rfl)))))
      have st11784 := tA230 _ _ (LS.kb hc rfl (fA230 _ _ st11763))
      have st11785 : A230 2 ⟨[(8, .B 8 0), (71, .O false)], [], [], [], 11, [(72, .B 8 0)], [], [], 11⟩ := tA230 _ _ (LS.sil htt rfl rfl rfl rfl rfl rfl)
      have st11786 : A230 3 ⟨[(71, .O false), (72, .B 8 0)], [], [], [(8, .box (cC2 x11739) 43)], 11, [(73, .I x11739.From)], [], [], 11⟩ := tA230 _ _ (LS.sil htt rfl rfl rfl rfl rfl rfl)
      have st11787 : A230 4 ⟨[(5, .I v38_12), (71, .O false)], [], [], [], 11, [(74, .I v38_12)], [], [], 11⟩ := tA230 _ _ (LS.sil htt rfl rfl rfl rfl rfl rfl)
      have st11788 : A230 5 ⟨[(71, .O false), (73, .I x11739.From), (74, .I v38_12)], [], [], [], 11, [(75, .O (x11739.From == v38_12))], [], [], 11⟩ := tA230 _ _ (LS.sil htt rfl rfl rfl rfl rfl rfl)
      have st11789 : A230 6 ⟨[(71, .O false), (75, .O (x11739.From == v38_12))], [], [], [], 11, [(76, .O (x11739.From == v38_12))], [], [], 11⟩ := tA230 _ _ (LS.sil htt rfl rfl rfl rfl rfl rfl)
      rcases oc' h with ⟨hc, h⟩ | ⟨hc, h⟩
      · have st11807 := tA230 _ _ (LS.kb hc rfl (fA230 _ _ st11789))
        have st11808 : A230 7 ⟨[(76, .O false)], [], [], [], 11, [(77, .u)], [], [], 11⟩ := tA230 _ _ (LS.skip rfl rfl rfl (.inr ⟨_, rfl, rfl⟩) rfl rfl)
        have st11809 : A230 8 ⟨[(76, .O false)], [], [], [], 11, [(78, .u)], [], [], 11⟩ := tA230 _ _ (LS.skip rfl rfl rfl (.inr ⟨_, rfl, rfl⟩) rfl rfl)
        have st11810 : A230 9 ⟨[(76, .O false)], [], [], [], 11, [(79, .u)], [], [], 11⟩ := tA230 _ _ (LS.skip rfl rfl rfl (.inr ⟨_, rfl, rfl⟩) rfl rfl)
        have st11811 : A230 10 ⟨[(76, .O false)], [], [], [], 11, [(80, .u)], [], [], 11⟩ := tA230 _ _ (LS.skip rfl rfl rfl (.inr ⟨_, rfl, rfl⟩) rfl rfl)
        have st11812 : A230 11 ⟨[(76, .O false)], [], [], [], 11, [(81, .u)], [], [], 11⟩ := tA230 _ _ (LS.skip rfl rfl rfl (.inr ⟨_, rfl, rfl⟩) rfl rfl)
        have st11813 : A230 12 ⟨[(76, .O false)], [], [], [], 11, [(82, .u)], [], [], 11⟩ := tA230 _ _ (LS.skip rfl rfl rfl (.inr ⟨_, rfl, rfl⟩) rfl rfl)
        have st11814 : A230 13 ⟨[(76, .O false)], [], [], [], 11, [(83, .u)], [], [], 11⟩ := tA230 _ _ (LS.skip rfl rfl rfl (.inr ⟨_, rfl, rfl⟩) rfl rfl)
        have st11815 : A230 14 ⟨[(76, .O false)], [], [], [], 11, [(84, .u)], [], [], 11⟩ := tA230 _ _ (LS.skip rfl rfl rfl (.inr ⟨_, rfl, rfl⟩) rfl rfl)
        have st11816 : A230 15 ⟨[(76, .O false)], [], [], [], 11, [(85, .u)], [], [], 11⟩ := tA230 _ _ (LS.skip rfl rfl rfl (.inr ⟨_, rfl, rfl⟩) rfl rfl)
        have st11817 : A230 16 ⟨[(76, .O false)], [], [], [], 11, [(86, .u)], [], [], 11⟩ := tA230 _ _ (LS.skip rfl rfl rfl (.inr ⟨_, rfl, rfl⟩) rfl rfl)
        have st11818 : A230 17 ⟨[(76, .O false)], [], [], [], 11, [(87, .u)], [], [], 11⟩ := tA230 _ _ (LS.skip rfl rfl rfl (.inr ⟨_, rfl, rfl⟩) rfl rfl)
        have st11819 : A230 18 ⟨[(71, .O false), (76, .O false), (87, .u)], [], [], [], 11, [(88, .O false)], [], [], 11⟩ := tA230 _ _ (LS.sil htt rfl rfl rfl rfl rfl rfl)
        have st11820 : A230 19 ⟨[(71, .O false), (88, .O false)], [], [], [], 11, [(89, .O false)], [], [], 11⟩ := tA230 _ _ (LS.sil htt rfl rfl rfl rfl rfl rfl)
        have st11821 : A230 20 ⟨[(89, .O false)], [], [], [], 11, [(6, .O false)], [], [], 11⟩ := tA230 _ _ (LS.sil htt rfl rfl rfl rfl rfl rfl)
        exact WP.regionD (t := ⟨[(1, .B 4 0), (3, .S 5), (5, .I v38_12), (6, .O false), (37, .I (x7.1.length : Int)), (38, .I v38_12), (47, .S 2), (48, .I (g_.Edges.length : Int)), (49, .I v49_21)], [(4, .box (cC4 0 1 2 3 g_) 27), (5, .own (rI .i64) x7.1 true)], (vV4 0 1 2 3 g_ []), 11⟩) [0, 1, 3, 7, 3, 31, 63, 127, 127, 383, 1023, 2047, 127, 127, 12415, 28799, 61567, 131071, 262143, 524287, 1048575] (.cons (fA230 _ _ st11762) (.cons (fA230 _ _ st11784) (.cons (fA230 _ _ st11785) (.cons (fA230 _ _ st11786) (.cons (fA230 _ _ st11787) (.cons (fA230 _ _ st11788) (.cons (fA230 _ _ st11807) (.cons (fA230 _ _ st11808) (.cons (fA230 _ _ st11809) (.cons (fA230 _ _ st11810) (.cons (fA230 _ _ st11811) (.cons (fA230 _ _ st11812) (.cons (fA230 _ _ st11813) (.cons (fA230 _ _ st11814) (.cons (fA230 _ _ st11815) (.cons (fA230 _ _ st11816) (.cons (fA230 _ _ st11817) (.cons (fA230 _ _ st11818) (.cons (fA230 _ _ st11819) (.cons (fA230 _ _ st11820) (.cons (fA230 _ _ st11821) .nil))))))))))))))))))))) (by kernel_rfl) (by kernel_rfl) (by kernel_rfl) (by kernel_rfl) (WP.inBlock (WP.region (WPr.sil htt 2 rfl (WPr.nil (WP.sub [] (ih21 (false, (w64 (v49_21 + (1 : Int)))) h) rfl rfl rfl rfl)))))
      have st11790 := tA230 _ _ (LS.kb hc rfl (fA230 _ _ st11789))
      have st11791 : A230 7 ⟨[(3, .S 5), (76, .O true)], [], [], [], 11, [(77, .S 5)], [], [], 11⟩ := tA230 _ _ (LS.sil htt rfl rfl rfl rfl rfl rfl)
      have st11792 : A230 8 ⟨[(8, .B 8 0), (76, .O true)], [], [], [], 11, [(78, .B 8 4)], [], [], 11⟩ := tA230 _ _ (LS.sil htt rfl rfl rfl rfl rfl rfl)
      have st11793 : A230 9 ⟨[(76, .O true), (78, .B 8 4)], [], [], [(8, .box (cC2 x11739) 43)], 11, [(79, .I x11739.To)], [], [], 11⟩ := tA230 _ _ (LS.sil htt rfl rfl rfl rfl rfl rfl)
      obtain ⟨x11794, hx11794, h⟩ := ob h
      have st11795 : A230 10 ⟨[(76, .O true), (77, .S 5), (79, .I x11739.To)], [], [], [(5, .own (rI .i64) x7.1 true)], 11, [(80, .P 11 0)], [(11, .el 5 ((x11739.To).toNat * ((rI .i64)).sz))], [], 12⟩ := tA230 _ _ (LS.of rfl rfl rfl (fun _ _ _ _ _ _ _ k => WPr.ixo htt hx11794 rfl rfl rfl rfl rfl rfl rfl rfl rfl (k)) rfl)
      have st11796 : A230 11 ⟨[(76, .O true), (80, .P 11 0)], [(11, .el 5 ((x11739.To).toNat * ((rI .i64)).sz))], [], [(5, .own (rI .i64) x7.1 true)], 12, [(81, .I x11794)], [], [], 12⟩ := tA230 _ _ (LS.of rfl rfl rfl (fun _ _ _ _ _ _ _ k => WPr.ldo (oI .i64) htt hx11794 rfl rfl rfl rfl rfl rfl rfl rfl rfl rfl (k)) rfl)
      have st11797 : A230 12 ⟨[(3, .S 5), (76, .O true)], [], [], [], 12, [(82, .S 5)], [], [], 12⟩ := tA230 _ _ (LS.sil htt rfl rfl rfl rfl rfl rfl)
      have st11798 : A230 13 ⟨[(5, .I v38_12), (76, .O true)], [], [], [], 12, [(83, .I v38_12)], [], [], 12⟩ := tA230 _ _ (LS.sil htt rfl rfl rfl rfl rfl rfl)
      obtain ⟨x11799, hx11799, h⟩ := ob h
      have st11800 : A230 14 ⟨[(76, .O true), (82, .S 5), (83, .I v38_12)], [], [], [(5, .own (rI .i64) x7.1 true)], 12, [(84, .P 12 0)], [(12, .el 5 ((v38_12).toNat * ((rI .i64)).sz))], [], 13⟩ := tA230 _ _ (LS.of rfl rfl rfl (fun _ _ _ _ _ _ _ k => WPr.ixo htt hx11799 rfl rfl rfl rfl rfl rfl rfl rfl rfl (k)) rfl)
      have st11801 : A230 15 ⟨[(76, .O true), (84, .P 12 0)], [(12, .el 5 ((v38_12).toNat * ((rI .i64)).sz))], [], [(5, .own (rI .i64) x7.1 true)], 13, [(85, .I x11799)], [], [], 13⟩ := tA230 _ _ (LS.of rfl rfl rfl (fun _ _ _ _ _ _ _ k => WPr.ldo (oI .i64) htt hx11799 rfl rfl rfl rfl rfl rfl rfl rfl rfl rfl (k)) rfl)
      have st11802 : A230 16 ⟨[(76, .O true), (85, .I x11799)], [], [], [], 13, [(86, .I (w64 (x11799 - (1 : Int))))], [], [], 13⟩ := tA230 _ _ (LS.sil htt rfl rfl rfl rfl rfl rfl)
      have st11803 : A230 17 ⟨[(76, .O true), (81, .I x11794), (86, .I (w64 (x11799 - (1 : Int))))], [], [], [], 13, [(87, .O (x11794 == (w64 (x11799 - (1 : Int)))))], [], [], 13⟩ := tA230 _ _ (LS.sil htt rfl rfl rfl rfl rfl rfl)
      have st11804 : A230 18 ⟨[(71, .O false), (76, .O true), (87, .O (x11794 == (w64 (x11799 - (1 : Int)))))], [], [], [], 13, [(88, .O (x11794 == (w64 (x11799 - (1 : Int)))))], [], [], 13⟩ := tA230 _ _ (LS.sil htt rfl rfl rfl rfl rfl rfl)
      have st11805 : A230 19 ⟨[(71, .O false), (88, .O (x11794 == (w64 (x11799 - (1 : Int)))))], [], [], [], 13, [(89, .O (x11794 == (w64 (x11799 - (1 : Int)))))], [], [], 13⟩ := tA230 _ _ (LS.sil htt rfl rfl rfl rfl rfl rfl)
      have st11806 : A230 20 ⟨[(89, .O (x11794 == (w64 (x11799 - (1 : Int)))))], [], [], [], 13, [(6, .O (x11794 == (w64 (x11799 - (1 : Int)))))], [], [], 13⟩ := tA230 _ _ (LS.sil htt rfl rfl rfl rfl rfl rfl)
      exact WP.regionD (t := ⟨[(1, .B 4 0), (3, .S 5), (5, .I v38_12), (6, .O (x11794 == (w64 (x11799 - (1 : Int))))), (37, .I (x7.1.length : Int)), (38, .I v38_12), (47, .S 2), (48, .I (g_.Edges.length : Int)), (49, .I v49_21)], [(4, .box (cC4 0 1 2 3 g_) 27), (5, .own (rI .i64) x7.1 true)], (vV4 0 1 2 3 g_ []), 13⟩) [0, 1, 3, 7, 3, 31, 63, 127, 127, 383, 1023, 2047, 127, 127, 12415, 28799, 61567, 131071, 262143, 524287, 1048575] (.cons (fA230 _ _ st11762) (.cons (fA230 _ _ st11784) (.cons (fA230 _ _ st11785) (.cons (fA230 _ _ st11786) (.cons (fA230 _ _ st11787) (.cons (fA230 _ _ st11788) (.cons (fA230 _ _ st11790) (.cons (fA230 _ _ st11791) (.cons (fA230 _ _ st11792) (.cons (fA230 _ _ st11793) (.cons (fA230 _ _ st11795) (.cons (fA230 _ _ st11796) (.cons (fA230 _ _ st11797) (.cons (fA230 _ _ st11798) (.cons (fA230 _ _ st11800) (.cons (fA230 _ _ st11801) (.cons (fA230 _ _ st11802) (.cons (fA230 _ _ st11803) (.cons (fA230 _ _ st11804) (.cons (fA230 _ _ st11805) (.cons (fA230 _ _ st11806) .nil))))))))))))))))))))) (by kernel_rfl) (by kernel_rfl) (by kernel_rfl) (by kernel_rfl) (WP.inBlock (WP.region (WPr.sil htt 2 rfl (WPr.nil (WP.sub [] (ih21 ((x11794 == (w64 (x11799 - (1 : Int)))), (w64 (v49_21 + (1 : Int)))) h) rfl rfl rfl rfl)))))
    exact WP.sub [] (ih N ((x10453 == (0 : Int)), (0 : Int)) h) rfl rfl rfl rfl
  exact WP.sub [] (ih N (0 : Int) h) rfl rfl rfl rfl
end Gx
end
