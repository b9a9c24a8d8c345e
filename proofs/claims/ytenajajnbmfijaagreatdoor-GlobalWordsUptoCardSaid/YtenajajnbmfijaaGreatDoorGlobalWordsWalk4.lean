/- Each function of the statement computes what its plain definition says, part 4. -/
import Derived.Test.YtenajajnbmfijaaGreatDoorGlobalWordsWalk3
set_option linter.all false
section
set_option linter.unusedVariables false
set_option maxRecDepth 10000
set_option maxHeartbeats 4000000
open Go Go.Kx Go.Proofs
namespace Gx
theorem z26_ct (N : Nat) (g_ : T4) (s_ : Int) (act_ : T6) (r : Int × Bool) (h : z26 N g_ s_ act_ = some r) :
 Fn Tryz.prog 26 ⟨4, [.a (cC4 0 1 2 3 g_), .I s_, .a (cC6 act_)], (vV4 0 1 2 3 g_ []), [], 4, .t [.inl (.I r.1), .inl (.b r.2)], [], []⟩ := by
 refine Fn.intro _ _ Tryz.func26 rfl (by kernel_rfl) rfl (fun E F w => ?_)
 unfold z26 at h
 refine wq (wg (wx [] ⟨[(1, .I s_), (3, .B 4 0), (5, .B 5 0), (6, .I 0), (7, .O false)], [(4, .box (cC4 0 1 2 3 g_) 27), (5, .box (cC6 act_) 37)], (vV4 0 1 2 3 g_ []), 6⟩ htt 4 (by kernel_rfl) (wn (wq (wq (wg (ws htt 1 rfl (wn (?_)))))))))
 refine wC (σ := Unit) (fun st => ⟨[], [], (vV4 0 1 2 3 g_ []), 6⟩) (fun st => z26_k1 = some r) ?_ (fun j1 => ?_)
 ·intro _ h
  replace h : z26_k1 = some r := h
  unfold z26_k1 at h
  refine wq (wg (ws htt 2 rfl (wn (?_))))
  cases h
  exact we htt Tryz.func26 [] rfl rfl rfl rfl
 refine wo (?_)
 refine wI (σ := Int) (fun st => ⟨[(1, .I s_), (3, .B 4 0), (5, .B 5 0), (8, .I st)], [(4, .box (cC4 0 1 2 3 g_) 27), (5, .box (cC6 act_) 37)], (vV4 0 1 2 3 g_ []), 6⟩) (fun n st => z26_l2 g_ s_ act_ n st) (r := r) (fun _ => rfl) ?_ (fun ih => ?_)
 ·intro n2 ih3
  intro c h
  replace h : z26_l2 g_ s_ act_ (n2 + 1) c = some r := h
  unfold z26_l2 at h
  refine wq (wq (wg (wx [] ⟨[(1, .I s_), (3, .B 4 0), (5, .B 5 0), (8, .I c), (13, .O (decide (c < (g_.Edges.length : Int))))], [(4, .box (cC4 0 1 2 3 g_) 27), (5, .box (cC6 act_) 37)], (vV4 0 1 2 3 g_ []), 6⟩ htt 5 (by kernel_rfl) (wn (?_)))))
  rcases oc' h with ⟨hc, h⟩ | ⟨hc, h⟩
  ·exact wf hc rfl (wz rfl (wu [] (j1 () h) rfl rfl rfl rfl))
  refine wt hc rfl (wi (wq (wo (wq (wQ (by kernel_rfl) (by kernel_rfl) (qx (rg 3 15) ⟨[(1, .I s_), (3, .B 4 0), (5, .B 5 0), (8, .I c), (17, .S 2), (18, .I c)], [(4, .box (cC4 0 1 2 3 g_) 27), (5, .box (cC6 act_) 37)], (vV4 0 1 2 3 g_ []), 6⟩ htt 3 (by kernel_rfl) (?_)))))))
  obtain ⟨d, e, h⟩ := ob h
  refine WPq.op rfl rfl (VN.vs (VN.ix oO2 htt e rfl rfl rfl rfl rfl rfl rfl)) (qx (rg 9 9) ⟨[(1, .I s_), (3, .B 4 0), (5, .B 5 0), (8, .I c), (24, .O (d.From == s_))], [(4, .box (cC4 0 1 2 3 g_) 27), (5, .box (cC6 act_) 37)], (vV4 0 1 2 3 g_ []), 7⟩ htt 5 (by kernel_rfl) (?_))
  rcases oc' h with ⟨hc, h⟩ | ⟨hc, h⟩
  ·exact qy 24 hc rfl (qx [] ⟨[(1, .I s_), (3, .B 4 0), (5, .B 5 0), (8, .I c), (33, .O false)], [(4, .box (cC4 0 1 2 3 g_) 27), (5, .box (cC6 act_) 37)], (vV4 0 1 2 3 g_ []), 7⟩ htt 9 (by kernel_rfl) (qn (wf rfl rfl (wi (wb (wg (wx [] ⟨[(1, .I s_), (3, .B 4 0), (5, .B 5 0), (8, .I (w64 (c + 1)))], [(4, .box (cC4 0 1 2 3 g_) 27), (5, .box (cC6 act_) 37)], (vV4 0 1 2 3 g_ []), 7⟩ htt 3 (by kernel_rfl) (wn (wu [] (ih3 (w64 (c + 1)) h) rfl rfl rfl rfl)))))))))
  refine qy 24 hc rfl (qx (rg 12 6) ⟨[(1, .I s_), (3, .B 4 0), (5, .B 5 0), (8, .I c), (24, .O true), (26, .S 2), (27, .I c)], [(4, .box (cC4 0 1 2 3 g_) 27), (5, .box (cC6 act_) 37)], (vV4 0 1 2 3 g_ []), 7⟩ htt 3 (by kernel_rfl) (?_))
  obtain ⟨f, g, h⟩ := ob h
  refine WPq.op rfl rfl (VN.vs (VN.ix oO2 htt g rfl rfl rfl rfl rfl rfl rfl)) (qx [16, 17] ⟨[(1, .I s_), (3, .B 4 0), (5, .B 5 0), (8, .I c), (24, .O true), (30, .a (cC6 f.Act)), (31, .a (cC6 act_))], [(4, .box (cC4 0 1 2 3 g_) 27), (5, .box (cC6 act_) 37)], (vV4 0 1 2 3 g_ []), 8⟩ htt 3 (by kernel_rfl) (WPq.op rfl rfl (VN.vs (VN.eqa (neg := false) (equal_run (b := ((f.Act.From == act_.From) && ((f.Act.To == act_.To) && ((f.Act.Label == act_.Label) && true)))) (by kernel_rfl) (by kernel_rfl)) (by kernel_rfl) rfl rfl rfl rfl rfl)) (WPq.sil htt 1 rfl (qn (?_)))))
  rcases oc' h with ⟨hc, h⟩ | ⟨hc, h⟩
  ·exact wf hc rfl (wi (wb (wg (wx [] ⟨[(1, .I s_), (3, .B 4 0), (5, .B 5 0), (8, .I (w64 (c + 1)))], [(4, .box (cC4 0 1 2 3 g_) 27), (5, .box (cC6 act_) 37)], (vV4 0 1 2 3 g_ []), 8⟩ htt 3 (by kernel_rfl) (wn (wu [] (ih3 (w64 (c + 1)) h) rfl rfl rfl rfl))))))
  refine wt hc rfl (wq (wg (wx [3, 4, 5, 6, 7] ⟨[(35, .S 2), (36, .I c)], [], (vV4 0 1 2 3 g_ []), 8⟩ htt 3 (by kernel_rfl) (?_))))
  obtain ⟨i, j, h⟩ := ob h
  refine wj oO2 htt j rfl rfl rfl rfl rfl rfl rfl rfl rfl (wx [] ⟨[(6, .I i.To), (7, .O true)], [], (vV4 0 1 2 3 g_ []), 9⟩ htt 4 (by kernel_rfl) (wn (?_)))
  cases h
  exact we htt Tryz.func26 [] rfl rfl rfl rfl
 exact wu [] (ih N 0 h) rfl rfl rfl rfl
theorem z46_ct (N : Nat) (g_ : T4) (word_ : (List T6)) (r : Int) (h : z46 N g_ word_ = some r) :
 Fn Tryz.prog 46 ⟨5, [.a (cC4 0 1 2 3 g_), .S 4], (vV4 0 1 2 3 g_ [(4, .sl rR6 word_)]), [], 5, .I r, [], []⟩ := by
 refine Fn.intro _ _ Tryz.func46 rfl (by kernel_rfl) rfl (fun E F w => ?_)
 unfold z46 at h
 refine wq (wg (ws htt 2 rfl (wn (wq (wg (wx [] ⟨[(1, .S 4), (2, .B 5 0), (4, .I 0), (5, .I g_.Start)], [(5, .box (cC4 0 1 2 3 g_) 27)], (vV4 0 1 2 3 g_ [(4, .sl rR6 word_)]), 6⟩ htt 3 (by kernel_rfl) (wn (wq (wq (wg (ws htt 1 rfl (wn (?_)))))))))))))
 refine wC (σ := Int) (fun st => ⟨[(5, .I st)], [], (vV4 0 1 2 3 g_ [(4, .sl rR6 word_)]), 6⟩) (fun st => z46_k1 st = some r) ?_ (fun j1 => ?_)
 ·intro c h
  replace h : z46_k1 c = some r := h
  unfold z46_k1 at h
  refine wq (wg (ws htt 2 rfl (wn (?_))))
  cases h
  exact we htt Tryz.func46 [] rfl rfl rfl rfl
 refine wo (?_)
 refine wI (σ := Int × Int) (fun st => ⟨[(1, .S 4), (2, .B 5 0), (5, .I st.1), (6, .I st.2)], [(5, .box (cC4 0 1 2 3 g_) 27)], (vV4 0 1 2 3 g_ [(4, .sl rR6 word_)]), 6⟩) (fun n st => z46_l2 N g_ word_ n st.1 st.2) (r := r) (fun _ => rfl) ?_ (fun ih => ?_)
 ·intro n2 ih3
  rintro ⟨d, e⟩ h
  replace h : z46_l2 N g_ word_ (n2 + 1) d e = some r := h
  unfold z46_l2 at h
  refine wq (wq (wg (wx [] ⟨[(1, .S 4), (2, .B 5 0), (5, .I d), (6, .I e), (12, .O (decide (e < (word_.length : Int))))], [(5, .box (cC4 0 1 2 3 g_) 27)], (vV4 0 1 2 3 g_ [(4, .sl rR6 word_)]), 6⟩ htt 4 (by kernel_rfl) (wn (?_)))))
  rcases oc' h with ⟨hc, h⟩ | ⟨hc, h⟩
  ·exact wf hc rfl (wz rfl (wu [] (j1 d h) rfl rfl rfl rfl))
  refine wt hc rfl (wi (wq (wo (wQ (by kernel_rfl) (by kernel_rfl) (qx (rg 4 7) ⟨[(1, .S 4), (2, .B 5 0), (6, .I e), (16, .a (cC4 0 1 2 3 g_)), (17, .I d), (18, .S 4), (19, .I e)], [(5, .box (cC4 0 1 2 3 g_) 27)], (vV4 0 1 2 3 g_ [(4, .sl rR6 word_)]), 6⟩ htt 4 (by kernel_rfl) (?_))))))
  obtain ⟨f, g, h⟩ := ob h
  refine WPq.op rfl rfl (VN.vs (VN.ix oO6 htt g rfl rfl rfl rfl rfl rfl rfl)) (WPq.sil htt 1 rfl (?_))
  obtain ⟨i, j, h⟩ := ob h
  exact qc (z26_ct N g_ d f _ j) [(0, .sl 0), (1, .sl 1), (2, .sl 2), (3, .sl 3)] [] rfl rfl rfl rfl rfl rfl rfl rfl rfl rfl rfl rfl (qx [] ⟨[(1, .S 4), (2, .B 5 0), (5, .I i.1), (6, .I e)], [(5, .box (cC4 0 1 2 3 g_) 27)], (vV4 0 1 2 3 g_ [(4, .sl rR6 word_)]), 7⟩ htt 4 (by kernel_rfl) (qn (wb (wg (wx [] ⟨[(1, .S 4), (2, .B 5 0), (5, .I i.1), (6, .I (w64 (e + 1)))], [(5, .box (cC4 0 1 2 3 g_) 27)], (vV4 0 1 2 3 g_ [(4, .sl rR6 word_)]), 7⟩ htt 3 (by kernel_rfl) (wn (wu [] (ih3 (i.1, (w64 (e + 1))) h) rfl rfl rfl rfl)))))))
 exact wu [] (ih N (g_.Start, 0) h) rfl rfl rfl rfl
theorem z15_ct (N : Nat) (g_ : T4) (n_ : Int) (r : (List (List T6)) × Int) (h : z15 N g_ n_ = some r) :
 Fn Tryz.prog 15 ⟨4, [.a (cC4 0 1 2 3 g_), .I n_], (vV4 0 1 2 3 g_ []), [], 5, .t [.inl (.sl 4), .inl (.I r.2)], [], [(4, .own (rSl rR6) r.1 true)]⟩ := by
 refine Fn.intro _ _ Tryz.func15 rfl (by kernel_rfl) rfl (fun E F w => ?_)
 unfold z15 at h
 refine wq (wg (wx [] ⟨[(1, .I n_), (2, .B 4 0), (4, .c .nil), (5, .I 0)], [(4, .box (cC4 0 1 2 3 g_) 27)], (vV4 0 1 2 3 g_ []), 5⟩ htt 3 (by kernel_rfl) (wn (wq (wo (wq (wg (ws htt 1 rfl (?_)))))))))
 obtain ⟨x1, d, h⟩ := ob h
 refine wc (z19_ct N g_ _ d) [(0, .sl 0), (1, .sl 1), (2, .sl 2), (3, .sl 3)] [] rfl rfl rfl rfl rfl rfl rfl rfl (.inl rfl) rfl (wx [] ⟨[(1, .I n_), (2, .B 4 0), (4, .c .nil), (5, .I 0), (10, .O (!x1))], [(4, .box (cC4 0 1 2 3 g_) 27)], (vV4 0 1 2 3 g_ []), 5⟩ htt 2 (by kernel_rfl) (wn (?_)))
 rcases oc h with ⟨hc, h⟩ | ⟨hc, h⟩
 ·refine wt hc rfl (wq (wg (ws htt 2 rfl (wn (?_)))))
  cases h
  exact we htt Tryz.func15 [(4, .nil)] rfl rfl rfl rfl
 refine wf hc rfl (wq (wg (wx [3, 4, 5, 6] ⟨[(1, .I n_), (2, .B 4 0), (4, .c .nil), (5, .I 0), (17, .O (decide (n_ < 0)))], [(4, .box (cC4 0 1 2 3 g_) 27)], (vV4 0 1 2 3 g_ []), 5⟩ htt 3 (by kernel_rfl) (?_))))
 rcases oc h with ⟨hc, h⟩ | ⟨hc, h⟩
 ·refine wy 17 hc rfl (wx [] ⟨[(1, .I n_), (2, .B 4 0), (4, .c .nil), (5, .I 0), (14, .O true)], [(4, .box (cC4 0 1 2 3 g_) 27)], (vV4 0 1 2 3 g_ []), 5⟩ htt 4 (by kernel_rfl) (wn (wt rfl rfl (wq (wg (ws htt 2 rfl (wn (?_))))))))
  cases h
  exact we htt Tryz.func15 [(4, .nil)] rfl rfl rfl rfl
 refine wy 17 hc rfl (wx [] ⟨[(1, .I n_), (2, .B 4 0), (4, .c .nil), (5, .I 0), (14, .O (decide (n_ > 12)))], [(4, .box (cC4 0 1 2 3 g_) 27)], (vV4 0 1 2 3 g_ []), 5⟩ htt 4 (by kernel_rfl) (wn (?_)))
 rcases oc h with ⟨hc, h⟩ | ⟨hc, h⟩
 ·refine wt hc rfl (wq (wg (ws htt 2 rfl (wn (?_)))))
  cases h
  exact we htt Tryz.func15 [(4, .nil)] rfl rfl rfl rfl
 refine wf hc rfl (wi (wb (wq (wg (WPr.bs (cs := [.nil]) (oSl rR6) htt ([([] : List T6)] : List (List T6)) rfl rfl rfl rfl rfl rfl (by kernel_rfl) (by exact (an rfl rfl)) rfl (ws htt 1 rfl (wn (wq (wq (wg (wx [] ⟨[(1, .I n_), (2, .B 4 0), (4, .c .nil), (5, .I 0), (6, .S 5), (7, .I 0)], [(4, .box (cC4 0 1 2 3 g_) 27), (5, .own (rSl rR6) ([([] : List T6)] : List (List T6)) true)], (vV4 0 1 2 3 g_ []), 6⟩ htt 1 (by kernel_rfl) (wn (?_)))))))))))))
 refine wC (σ := (List (List T6))) (fun st => ⟨[(6, .S 6)], [(6, .own (rSl rR6) st true)], (vV4 0 1 2 3 g_ []), 7⟩) (fun st => z15_k1 st = some r) ?_ (fun j1 => ?_)
 ·intro e h
  replace h : z15_k1 e = some r := h
  unfold z15_k1 at h
  refine wq (wg (wx [] ⟨[(4, .S 6), (5, .I 0)], [(6, .own (rSl rR6) e true)], (vV4 0 1 2 3 g_ []), 7⟩ htt 3 (by kernel_rfl) (wn (?_))))
  cases h
  exact we htt Tryz.func15 [(4, .sl 6)] rfl rfl rfl rfl
 refine wo (?_)
 refine wI (σ := (List (List T6)) × Int) (fun st => ⟨[(1, .I n_), (2, .B 4 0), (6, .S 6), (7, .I st.2)], [(4, .box (cC4 0 1 2 3 g_) 27), (6, .own (rSl rR6) st.1 true)], (vV4 0 1 2 3 g_ []), 7⟩) (fun n st => z15_l2 N g_ n_ n st.1 st.2) (r := r) (fun _ => rfl) ?_ (fun ih => ?_)
 ·intro n12 ih12
  rintro ⟨f, g⟩ h
  replace h : z15_l2 N g_ n_ (n12 + 1) f g = some r := h
  unfold z15_l2 at h
  refine wq (wq (wg (wx [] ⟨[(1, .I n_), (2, .B 4 0), (6, .S 6), (7, .I g), (25, .O (decide (g < (f.length : Int))))], [(4, .box (cC4 0 1 2 3 g_) 27), (6, .own (rSl rR6) f true)], (vV4 0 1 2 3 g_ []), 7⟩ htt 4 (by kernel_rfl) (wn (?_)))))
  rcases oc' h with ⟨hc, h⟩ | ⟨hc, h⟩
  ·exact wf hc rfl (wz rfl (wu [] (j1 f h) rfl rfl rfl rfl))
  refine wt hc rfl (wi (wq (wo (wq (wq (wg (ws htt 2 rfl (?_))))))))
  obtain ⟨i, j, h⟩ := ob h
  refine wX htt j rfl rfl rfl rfl rfl rfl rfl rfl rfl (wx [3, 4, 5, 6] ⟨[(1, .I n_), (2, .B 4 0), (6, .S 6), (7, .I g), (30, .P 7 0)], [(4, .box (cC4 0 1 2 3 g_) 27), (6, .own (rSl rR6) f true)], (vV4 0 1 2 3 g_ [(7, .el 6 ((g).toNat * ((rSl rR6)).sz))]), 8⟩ htt 0 (by kernel_rfl) (wL (oSl rR6) htt j rfl rfl rfl rfl rfl rfl rfl rfl rfl rfl (wx [] ⟨[(1, .I n_), (2, .B 4 0), (6, .S 6), (7, .I g), (34, .O ((i.length : Int) == n_))], [(4, .box (cC4 0 1 2 3 g_) 27), (6, .own (rSl rR6) f true)], (vV4 0 1 2 3 g_ []), 9⟩ htt 3 (by kernel_rfl) (wn (?_)))))
  rcases oc h with ⟨hc, h⟩ | ⟨hc, h⟩
  ·exact wt hc rfl (wz rfl (wu [] (j1 f h) rfl rfl rfl rfl))
  refine wf hc rfl (wi (wq (wN (fun l m o => ?_))))
  have p : l 0 ⟨[(2, .B 4 0)], (vV4 0 1 2 3 g_ []), [], [(4, .box (cC4 0 1 2 3 g_) 27)], 9, [(35, .a (cC4 0 1 2 3 g_))], [], [], 9⟩ := m _ _ (wl htt rfl rfl rfl rfl rfl rfl)
  have q : l 1 ⟨[(2, .B 4 0)], (vV4 0 1 2 3 g_ []), [], [(4, .box (cC4 0 1 2 3 g_) 27)], 9, [(36, .a (cC4 0 1 2 3 g_))], [], [], 9⟩ := m _ _ (wl htt rfl rfl rfl rfl rfl rfl)
  have s : l 2 ⟨[(6, .S 6)], [], [], [], 9, [(37, .S 6)], [], [], 9⟩ := m _ _ (wl htt rfl rfl rfl rfl rfl rfl)
  have u : l 3 ⟨[(7, .I g)], [], [], [], 9, [(38, .I g)], [], [], 9⟩ := m _ _ (wl htt rfl rfl rfl rfl rfl rfl)
  obtain ⟨v, x, h⟩ := ob h
  have y : l 4 ⟨[(37, .S 6), (38, .I g)], [], [], [(6, .own (rSl rR6) f true)], 9, [(39, .P 9 0)], [(9, .el 6 ((g).toNat * ((rSl rR6)).sz))], [], 10⟩ := m _ _ (wO rfl rfl rfl (fun _ _ _ _ _ _ _ k => wX htt x rfl rfl rfl rfl rfl rfl rfl rfl rfl (k)) rfl)
  have z : l 5 ⟨[(39, .P 9 0)], [(9, .el 6 ((g).toNat * ((rSl rR6)).sz))], [], [(6, .own (rSl rR6) f true)], 10, [(40, .S 10)], [(10, .sl rR6 v)], [], 11⟩ := m _ _ (wO rfl rfl rfl (fun _ _ _ _ _ _ _ k => wL (oSl rR6) htt x rfl rfl rfl rfl rfl rfl rfl rfl rfl rfl (k)) rfl)
  obtain ⟨A, C, h⟩ := ob h
  have D : l 6 ⟨[(36, .a (cC4 0 1 2 3 g_)), (40, .S 10)], (vV4 0 1 2 3 g_ [(10, .sl rR6 v)]), [], [], 11, [(41, .I A)], [], [], 11⟩ := m _ _ (wO rfl rfl rfl (fun _ _ _ _ _ _ _ k => wc (z46_ct N g_ v _ C) [(0, .sl 0), (1, .sl 1), (2, .sl 2), (3, .sl 3), (4, .sl 10)] [] rfl rfl rfl rfl rfl rfl rfl rfl (.inl rfl) rfl (k)) rfl)
  obtain ⟨G, H, h⟩ := ob h
  have J : l 7 ⟨[(35, .a (cC4 0 1 2 3 g_)), (41, .I A)], (vV4 0 1 2 3 g_ []), [], [], 11, [(42, .S 11)], [], [(11, .own (rI .i64) G true)], 12⟩ := m _ _ (wO rfl rfl rfl (fun _ _ _ _ _ _ _ k => wc (z28_ct N g_ A _ H) [(0, .sl 0), (1, .sl 1), (2, .sl 2), (3, .sl 3)] [] rfl rfl rfl rfl rfl rfl rfl rfl (.inl rfl) rfl (k)) rfl)
  have K : l 8 ⟨[(42, .S 11)], [], [], [], 12, [(8, .S 11)], [], [], 12⟩ := m _ _ (wl htt rfl rfl rfl rfl rfl rfl)
  refine wD (t := ⟨[(1, .I n_), (2, .B 4 0), (6, .S 6), (7, .I g), (8, .S 11)], [(4, .box (cC4 0 1 2 3 g_) 27), (6, .own (rSl rR6) f true), (11, .own (rI .i64) G true)], (vV4 0 1 2 3 g_ []), 12⟩) [0, 0, 0, 0, 12, 28, 62, 127, 255] (.cons (o _ _ p) (.cons (o _ _ q) (.cons (o _ _ s) (.cons (o _ _ u) (.cons (o _ _ y) (.cons (o _ _ z) (.cons (o _ _ D) (.cons (o _ _ J) (.cons (o _ _ K) .nil))))))))) (by kernel_rfl) (by kernel_rfl) (by kernel_rfl) (by kernel_rfl) (wq (wq (wg (ws htt 1 rfl (wn (?_))))))
  refine wC (σ := (List (List T6))) (fun st => ⟨[(1, .I n_), (2, .B 4 0), (6, .S 12), (7, .I g)], [(4, .box (cC4 0 1 2 3 g_) 27), (12, .own (rSl rR6) st true)], (vV4 0 1 2 3 g_ []), 13⟩) (fun st => z15_k3 g (z15_l2 N g_ n_ n12) st = some r) ?_ (fun j19 => ?_)
  ·intro Q h
   replace h : z15_k3 g (z15_l2 N g_ n_ n12) Q = some r := h
   unfold z15_k3 at h
   refine wq (wg (wx [] ⟨[(1, .I n_), (2, .B 4 0), (6, .S 12), (7, .I g), (71, .O (decide ((Q.length : Int) > 3000)))], [(4, .box (cC4 0 1 2 3 g_) 27), (12, .own (rSl rR6) Q true)], (vV4 0 1 2 3 g_ []), 13⟩ htt 3 (by kernel_rfl) (wn (?_))))
   rcases oc h with ⟨hc, h⟩ | ⟨hc, h⟩
   ·refine wt hc rfl (wq (wg (ws htt 2 rfl (wn (?_)))))
    cases h
    exact we htt Tryz.func15 [(4, .nil)] rfl rfl rfl rfl
   exact wf hc rfl (wi (wb (wg (wx [] ⟨[(1, .I n_), (2, .B 4 0), (6, .S 12), (7, .I (w64 (g + 1)))], [(4, .box (cC4 0 1 2 3 g_) 27), (12, .own (rSl rR6) Q true)], (vV4 0 1 2 3 g_ []), 13⟩ htt 3 (by kernel_rfl) (wn (wu [(6, .sl 12)] (ih12 (Q, (w64 (g + 1))) h) rfl rfl rfl rfl))))))
  refine wo (?_)
  refine wI (σ := (List (List T6)) × Int) (fun st => ⟨[(1, .I n_), (2, .B 4 0), (6, .S 12), (7, .I g), (8, .S 11), (9, .I st.2)], [(4, .box (cC4 0 1 2 3 g_) 27), (11, .own (rI .i64) G true), (12, .own (rSl rR6) st.1 true)], (vV4 0 1 2 3 g_ []), 13⟩) (fun n st => z15_l4 g_ g (z15_l2 N g_ n_ n12) G n st.1 st.2) (r := r) (fun _ => rfl) ?_ (fun ih => ?_)
  ·intro n14 ih21
   rintro ⟨R, T⟩ h
   replace h : z15_l4 g_ g (z15_l2 N g_ n_ n12) G (n14 + 1) R T = some r := h
   unfold z15_l4 at h
   refine wq (wq (wg (wx [] ⟨[(1, .I n_), (2, .B 4 0), (6, .S 12), (7, .I g), (8, .S 11), (9, .I T), (46, .O (decide (T < (G.length : Int))))], [(4, .box (cC4 0 1 2 3 g_) 27), (11, .own (rI .i64) G true), (12, .own (rSl rR6) R true)], (vV4 0 1 2 3 g_ []), 13⟩ htt 4 (by kernel_rfl) (wn (?_)))))
   rcases oc' h with ⟨hc, h⟩ | ⟨hc, h⟩
   ·exact wf hc rfl (wz rfl (wu [] (j19 R h) rfl rfl rfl rfl))
   refine wt hc rfl (wi (wq (wo (wN (fun U X Y => ?_)))))
   have Z : U 0 ⟨[(6, .S 12)], [], [], [], 13, [(49, .S 12)], [], [], 13⟩ := X _ _ (wl htt rfl rfl rfl rfl rfl rfl)
   have a0 : U 1 ⟨[], [], [], [], 13, [(50, .S 13)], [], [(13, .own rR6 ([] : List T6) true)], 14⟩ := X _ _ (wO rfl rfl rfl (fun _ _ _ _ _ _ _ k => WPr.bs (cs := []) oO6 htt ([] : List T6) rfl rfl rfl rfl rfl rfl (by kernel_rfl) (by exact rfl) rfl (k)) rfl)
   have b0 : U 2 ⟨[(6, .S 12)], [], [], [], 14, [(51, .S 12)], [], [], 14⟩ := X _ _ (wl htt rfl rfl rfl rfl rfl rfl)
   have c0 : U 3 ⟨[(7, .I g)], [], [], [], 14, [(52, .I g)], [], [], 14⟩ := X _ _ (wl htt rfl rfl rfl rfl rfl rfl)
   obtain ⟨d0, e0, h⟩ := ob h
   have f0 : U 4 ⟨[(51, .S 12), (52, .I g)], [], [], [(12, .own (rSl rR6) R true)], 14, [(53, .P 14 0)], [(14, .el 12 ((g).toNat * ((rSl rR6)).sz))], [], 15⟩ := X _ _ (wO rfl rfl rfl (fun _ _ _ _ _ _ _ k => wX htt e0 rfl rfl rfl rfl rfl rfl rfl rfl rfl (k)) rfl)
   have g0 : U 5 ⟨[(53, .P 14 0)], [(14, .el 12 ((g).toNat * ((rSl rR6)).sz))], [], [(12, .own (rSl rR6) R true)], 15, [(54, .S 15)], [(15, .sl rR6 d0)], [], 16⟩ := X _ _ (wO rfl rfl rfl (fun _ _ _ _ _ _ _ k => wL (oSl rR6) htt e0 rfl rfl rfl rfl rfl rfl rfl rfl rfl rfl (k)) rfl)
   obtain ⟨i0, j0, h⟩ := ob h
   have k0 : U 6 ⟨[(50, .S 13), (54, .S 15)], [(15, .sl rR6 d0)], [(13, .own rR6 ([] : List T6) true)], [], 16, [(55, .S 16)], [], [(13, .gone), (16, .own rR6 i0 true)], 17⟩ := X _ _ (wO rfl rfl rfl (fun _ _ _ _ _ _ _ k => WPr.app htt j0 (by exact (srcI rfl)) rfl rfl rfl rfl rfl rfl rfl rfl rfl rfl (k)) rfl)
   have l0 : U 7 ⟨[(2, .B 4 0)], [], [], [], 17, [(56, .B 4 6)], [], [], 17⟩ := X _ _ (wl htt rfl rfl rfl rfl rfl rfl)
   have m0 : U 8 ⟨[(56, .B 4 6)], (vV4 0 1 2 3 g_ []), [], [(4, .box (cC4 0 1 2 3 g_) 27)], 17, [(57, .S 2)], [], [], 17⟩ := X _ _ (wl htt rfl rfl rfl rfl rfl rfl)
   have o0 : U 9 ⟨[(8, .S 11)], [], [], [], 17, [(58, .S 11)], [], [], 17⟩ := X _ _ (wl htt rfl rfl rfl rfl rfl rfl)
   have p0 : U 10 ⟨[(9, .I T)], [], [], [], 17, [(59, .I T)], [], [], 17⟩ := X _ _ (wl htt rfl rfl rfl rfl rfl rfl)
   obtain ⟨q0, s0, h⟩ := ob h
   have t0 : U 11 ⟨[(58, .S 11), (59, .I T)], [], [], [(11, .own (rI .i64) G true)], 17, [(60, .P 17 0)], [(17, .el 11 ((T).toNat * ((rI .i64)).sz))], [], 18⟩ := X _ _ (wO rfl rfl rfl (fun _ _ _ _ _ _ _ k => wX htt s0 rfl rfl rfl rfl rfl rfl rfl rfl rfl (k)) rfl)
   have u0 : U 12 ⟨[(60, .P 17 0)], [(17, .el 11 ((T).toNat * ((rI .i64)).sz))], [], [(11, .own (rI .i64) G true)], 18, [(61, .I q0)], [], [], 18⟩ := X _ _ (wO rfl rfl rfl (fun _ _ _ _ _ _ _ k => wL (oI .i64) htt s0 rfl rfl rfl rfl rfl rfl rfl rfl rfl rfl (k)) rfl)
   obtain ⟨v0, x0, h⟩ := ob h
   have y0 : U 13 ⟨[(57, .S 2), (61, .I q0)], [(2, .sl rR2 g_.Edges)], [], [], 18, [(62, .P 18 0)], [(18, .pl (cC2 v0))], [], 19⟩ := X _ _ (wO rfl rfl rfl (fun _ _ _ _ _ _ _ k => wj oO2 htt x0 rfl rfl rfl rfl rfl rfl rfl rfl rfl (k)) rfl)
   have z0 : U 14 ⟨[(62, .P 18 0)], [(18, .pl (cC2 v0))], [], [], 19, [(63, .P 18 1)], [], [], 19⟩ := X _ _ (wl htt rfl rfl rfl rfl rfl rfl)
   have A0 : U 15 ⟨[(63, .P 18 1)], [(18, .pl (cC2 v0))], [], [], 19, [(64, .a (cC6 v0.Act))], [], [], 19⟩ := X _ _ (wl htt rfl rfl rfl rfl rfl rfl)
   have B0 : U 16 ⟨[(64, .a (cC6 v0.Act))], [], [], [], 19, [(65, .S 19)], [], [(19, .own rR6 ([v0.Act] : List T6) true)], 20⟩ := X _ _ (wO rfl rfl rfl (fun _ _ _ _ _ _ _ k => WPr.bs (cs := (cC6 v0.Act)) oO6 htt ([v0.Act] : List T6) rfl rfl rfl rfl rfl rfl (by kernel_rfl) (by exact (an (an rfl (an rfl rfl)) rfl)) rfl (k)) rfl)
   obtain ⟨C0, D0, h⟩ := ob h
   have G0 : U 17 ⟨[(55, .S 16), (65, .S 19)], [], [(16, .own rR6 i0 true)], [(19, .own rR6 ([v0.Act] : List T6) true)], 20, [(66, .S 20)], [], [(16, .gone), (20, .own rR6 C0 true)], 21⟩ := X _ _ (wO rfl rfl rfl (fun _ _ _ _ _ _ _ k => WPr.app htt D0 (by exact (srcO rfl)) rfl rfl rfl rfl rfl rfl rfl rfl rfl rfl (k)) rfl)
   have H0 : U 18 ⟨[(66, .S 20)], [], [(20, .own rR6 C0 true)], [], 21, [(67, .S 21)], [(20, .sl rR6 C0)], [(20, .gone), (21, .own (rSl rR6) ([C0] : List (List T6)) true)], 22⟩ := X _ _ (wO rfl rfl rfl (fun _ _ _ _ _ _ _ k => WPr.frz 20 rfl (WPr.bs (cs := [.sl 20]) (oSl rR6) htt ([C0] : List (List T6)) rfl rfl rfl rfl rfl rfl (by kernel_rfl) (by exact (an rfl rfl)) rfl (k))) rfl)
   obtain ⟨I0, J0, h⟩ := ob h
   have K0 : U 19 ⟨[(49, .S 12), (67, .S 21)], [], [(12, .own (rSl rR6) R true)], [(21, .own (rSl rR6) ([C0] : List (List T6)) true)], 22, [(68, .S 22)], [], [(12, .gone), (22, .own (rSl rR6) I0 true)], 23⟩ := X _ _ (wO rfl rfl rfl (fun _ _ _ _ _ _ _ k => WPr.app htt J0 (by exact (srcO rfl)) rfl rfl rfl rfl rfl rfl rfl rfl rfl rfl (k)) rfl)
   have L0 : U 20 ⟨[(68, .S 22)], [], [], [], 23, [(6, .S 22)], [], [], 23⟩ := X _ _ (wl htt rfl rfl rfl rfl rfl rfl)
   exact wD (t := ⟨[(1, .I n_), (2, .B 4 0), (6, .S 22), (7, .I g), (8, .S 11), (9, .I T)], [(4, .box (cC4 0 1 2 3 g_) 27), (11, .own (rI .i64) G true), (22, .own (rSl rR6) I0 true)], (vV4 0 1 2 3 g_ []), 23⟩) [0, 0, 0, 0, 12, 28, 62, 0, 128, 0, 0, 1536, 3584, 8064, 16256, 32640, 65408, 131070, 262142, 524287, 1048575] (.cons (Y _ _ Z) (.cons (Y _ _ a0) (.cons (Y _ _ b0) (.cons (Y _ _ c0) (.cons (Y _ _ f0) (.cons (Y _ _ g0) (.cons (Y _ _ k0) (.cons (Y _ _ l0) (.cons (Y _ _ m0) (.cons (Y _ _ o0) (.cons (Y _ _ p0) (.cons (Y _ _ t0) (.cons (Y _ _ u0) (.cons (Y _ _ y0) (.cons (Y _ _ z0) (.cons (Y _ _ A0) (.cons (Y _ _ B0) (.cons (Y _ _ G0) (.cons (Y _ _ H0) (.cons (Y _ _ K0) (.cons (Y _ _ L0) .nil))))))))))))))))))))) (by kernel_rfl) (by kernel_rfl) (by kernel_rfl) (by kernel_rfl) (wb (wg (wx [] ⟨[(1, .I n_), (2, .B 4 0), (6, .S 22), (7, .I g), (8, .S 11), (9, .I (w64 (T + 1)))], [(4, .box (cC4 0 1 2 3 g_) 27), (11, .own (rI .i64) G true), (22, .own (rSl rR6) I0 true)], (vV4 0 1 2 3 g_ []), 23⟩ htt 3 (by kernel_rfl) (wn (wu [(12, .sl 22)] (ih21 (I0, (w64 (T + 1))) h) rfl rfl rfl rfl)))))
  exact wu [(12, .sl 6)] (ih N (f, 0) h) rfl rfl rfl rfl
 exact wu [(6, .sl 5)] (ih N (([([] : List T6)] : List (List T6)), 0) h) rfl rfl rfl rfl
theorem z16_ct (N : Nat) (a_ : (List (List T6))) (b_ : (List (List T6))) (r : Bool) (h : z16 N a_ b_ = some r) :
 Fn Tryz.prog 16 ⟨2, [.S 0, .S 1], [(0, .sl (rSl rR6) a_), (1, .sl (rSl rR6) b_)], [], 2, .O r, [], []⟩ := by
 refine Fn.intro _ _ Tryz.func16 rfl (by kernel_rfl) rfl (fun E F w => ?_)
 unfold z16 at h
 refine wq (wg (ws htt 1 rfl (wn (wq (wq (wg (wx [] ⟨[(0, .S 0), (1, .S 1), (4, .O false), (11, .O ((a_.length : Int) != (b_.length : Int)))], [], [(0, .sl (rSl rR6) a_), (1, .sl (rSl rR6) b_)], 2⟩ htt 5 (by kernel_rfl) (wn (?_)))))))))
 rcases oc h with ⟨hc, h⟩ | ⟨hc, h⟩
 ·refine wt hc rfl (wq (wg (ws htt 1 rfl (wn (?_)))))
  cases h
  exact we htt Tryz.func16 [] rfl rfl rfl rfl
 refine wf hc rfl (wi (wq (wq (wg (wx [] ⟨[(0, .S 0), (1, .S 1), (4, .O false), (13, .I (a_.length : Int)), (14, .I 0)], [], [(0, .sl (rSl rR6) a_), (1, .sl (rSl rR6) b_)], 2⟩ htt 3 (by kernel_rfl) (wn (?_)))))))
 refine wC (σ := Unit) (fun st => ⟨[], [], [(0, .sl (rSl rR6) a_), (1, .sl (rSl rR6) b_)], 2⟩) (fun st => z16_k1 = some r) ?_ (fun j1 => ?_)
 ·intro _ h
  replace h : z16_k1 = some r := h
  unfold z16_k1 at h
  refine wq (wg (ws htt 1 rfl (wn (?_))))
  cases h
  exact we htt Tryz.func16 [] rfl rfl rfl rfl
 refine wo (?_)
 refine wI (σ := Int) (fun st => ⟨[(0, .S 0), (1, .S 1), (13, .I (a_.length : Int)), (14, .I st)], [], [(0, .sl (rSl rR6) a_), (1, .sl (rSl rR6) b_)], 2⟩) (fun n st => z16_l2 N a_ b_ n st) (r := r) (fun _ => rfl) ?_ (fun ih => ?_)
 ·intro n12 ih12
  intro c h
  replace h : z16_l2 N a_ b_ (n12 + 1) c = some r := h
  unfold z16_l2 at h
  refine wq (wg (ws htt 1 rfl (wn (wq (?_)))))
  rcases oc' h with ⟨hc, h⟩ | ⟨hc, h⟩
  ·exact wf hc rfl (wz rfl (wu [] (j1 () h) rfl rfl rfl rfl))
  refine wt hc rfl (wi (wq (wo (wq (wg (wx [] ⟨[(0, .S 0), (1, .S 1), (5, .I c), (13, .I (a_.length : Int)), (14, .I c)], [], [(0, .sl (rSl rR6) a_), (1, .sl (rSl rR6) b_)], 2⟩ htt 2 (by kernel_rfl) (wn (wq (wq (wQ (by kernel_rfl) (by kernel_rfl) (WPq.sil htt 2 rfl (?_))))))))))))
  obtain ⟨d, e, h⟩ := ob h
  refine WPq.op rfl rfl (VN.vs (VN.ix (oSl rR6) htt e rfl rfl rfl rfl rfl rfl rfl)) (qx [7, 8, 9, 10] ⟨[(0, .S 0), (1, .S 1), (5, .I c), (13, .I (a_.length : Int)), (14, .I c), (21, .I (d.length : Int)), (22, .S 1), (23, .I c)], [], [(0, .sl (rSl rR6) a_), (1, .sl (rSl rR6) b_)], 4⟩ htt 4 (by kernel_rfl) (?_))
  obtain ⟨f, g, h⟩ := ob h
  refine WPq.op rfl rfl (VN.vs (VN.ix (oSl rR6) htt g rfl rfl rfl rfl rfl rfl rfl)) (qx [] ⟨[(0, .S 0), (1, .S 1), (5, .I c), (13, .I (a_.length : Int)), (14, .I c), (27, .O ((d.length : Int) != (f.length : Int)))], [], [(0, .sl (rSl rR6) a_), (1, .sl (rSl rR6) b_)], 6⟩ htt 3 (by kernel_rfl) (qn (?_)))
  rcases oc h with ⟨hc, h⟩ | ⟨hc, h⟩
  ·refine wt hc rfl (wq (wg (ws htt 1 rfl (wn (?_)))))
   cases h
   exact we htt Tryz.func16 [] rfl rfl rfl rfl
  refine wf hc rfl (wi (wq (wg (ws htt 2 rfl (?_)))))
  obtain ⟨i, j, h⟩ := ob h
  refine wj (oSl rR6) htt j rfl rfl rfl rfl rfl rfl rfl rfl rfl (wx [] ⟨[(0, .S 0), (1, .S 1), (5, .I c), (13, .I (a_.length : Int)), (14, .I c), (32, .I (i.length : Int)), (33, .I 0)], [], [(0, .sl (rSl rR6) a_), (1, .sl (rSl rR6) b_)], 8⟩ htt 3 (by kernel_rfl) (wn (?_)))
  refine wC (σ := Unit) (fun st => ⟨[(0, .S 0), (1, .S 1), (13, .I (a_.length : Int)), (14, .I c)], [], [(0, .sl (rSl rR6) a_), (1, .sl (rSl rR6) b_)], 8⟩) (fun st => z16_k3 c (z16_l2 N a_ b_ n12) = some r) ?_ (fun j19 => ?_)
  ·intro _ h
   replace h : z16_k3 c (z16_l2 N a_ b_ n12) = some r := h
   unfold z16_k3 at h
   exact wb (wg (ws htt 2 rfl (wn (wu [] (ih12 (w64 (c + 1)) h) rfl rfl rfl rfl))))
  refine wo (?_)
  refine wI (σ := Int) (fun st => ⟨[(0, .S 0), (1, .S 1), (5, .I c), (13, .I (a_.length : Int)), (14, .I c), (32, .I (i.length : Int)), (33, .I st)], [], [(0, .sl (rSl rR6) a_), (1, .sl (rSl rR6) b_)], 8⟩) (fun n st => z16_l4 a_ b_ c (z16_l2 N a_ b_ n12) i n st) (r := r) (fun _ => rfl) ?_ (fun ih => ?_)
  ·intro n14 ih21
   intro k h
   replace h : z16_l4 a_ b_ c (z16_l2 N a_ b_ n12) i (n14 + 1) k = some r := h
   unfold z16_l4 at h
   refine wq (wg (ws htt 1 rfl (wn (wq (?_)))))
   rcases oc' h with ⟨hc, h⟩ | ⟨hc, h⟩
   ·exact wf hc rfl (wz rfl (wu [] (j19 () h) rfl rfl rfl rfl))
   refine wt hc rfl (wi (wq (wo (wq (wg (wx [] ⟨[(0, .S 0), (1, .S 1), (5, .I c), (6, .I k), (13, .I (a_.length : Int)), (14, .I c), (32, .I (i.length : Int)), (33, .I k)], [], [(0, .sl (rSl rR6) a_), (1, .sl (rSl rR6) b_)], 8⟩ htt 2 (by kernel_rfl) (wn (wq (wQ (by kernel_rfl) (by kernel_rfl) (WPq.sil htt 2 rfl (?_)))))))))))
   obtain ⟨l, m, h⟩ := ob h
   refine WPq.op rfl rfl (VN.vs (VN.ix (oSl rR6) htt m rfl rfl rfl rfl rfl rfl rfl)) (qx (rg 5 10) ⟨[(0, .S 0), (1, .S 1), (5, .I c), (6, .I k), (13, .I (a_.length : Int)), (14, .I c), (32, .I (i.length : Int)), (33, .I k), (39, .S 9), (40, .I k)], [], [(0, .sl (rSl rR6) a_), (1, .sl (rSl rR6) b_), (9, .sl rR6 l)], 10⟩ htt 2 (by kernel_rfl) (?_))
   obtain ⟨o, p, h⟩ := ob h
   refine WPq.op rfl rfl (VN.vs (VN.ix oO6 htt p rfl rfl rfl rfl rfl rfl rfl)) (qx (rg 9 6) ⟨[(0, .S 0), (1, .S 1), (5, .I c), (6, .I k), (13, .I (a_.length : Int)), (14, .I c), (32, .I (i.length : Int)), (33, .I k), (42, .a (cC6 o)), (43, .S 1), (44, .I c)], [], [(0, .sl (rSl rR6) a_), (1, .sl (rSl rR6) b_)], 11⟩ htt 3 (by kernel_rfl) (?_))
   obtain ⟨q, s, h⟩ := ob h
   refine WPq.op rfl rfl (VN.vs (VN.ix (oSl rR6) htt s rfl rfl rfl rfl rfl rfl rfl)) (qx [12, 13, 14] ⟨[(0, .S 0), (1, .S 1), (5, .I c), (13, .I (a_.length : Int)), (14, .I c), (32, .I (i.length : Int)), (33, .I k), (42, .a (cC6 o)), (46, .S 12), (47, .I k)], [], [(0, .sl (rSl rR6) a_), (1, .sl (rSl rR6) b_), (12, .sl rR6 q)], 13⟩ htt 2 (by kernel_rfl) (?_))
   obtain ⟨t, u, h⟩ := ob h
   refine WPq.op rfl rfl (VN.vs (VN.ix oO6 htt u rfl rfl rfl rfl rfl rfl rfl)) (WPq.sil htt 1 rfl (WPq.op rfl rfl (VN.vs (VN.eqa (neg := true) (equal_run (b := ((o.From == t.From) && ((o.To == t.To) && ((o.Label == t.Label) && true)))) (by kernel_rfl) (by kernel_rfl)) (by kernel_rfl) rfl rfl rfl rfl rfl)) (qx [] ⟨[(0, .S 0), (1, .S 1), (5, .I c), (13, .I (a_.length : Int)), (14, .I c), (32, .I (i.length : Int)), (33, .I k), (50, .O (!((o.From == t.From) && ((o.To == t.To) && ((o.Label == t.Label) && true)))))], [], [(0, .sl (rSl rR6) a_), (1, .sl (rSl rR6) b_)], 14⟩ htt 0 (by kernel_rfl) (qn (?_)))))
   rcases oc h with ⟨hc, h⟩ | ⟨hc, h⟩
   ·refine wt hc rfl (wq (wg (ws htt 1 rfl (wn (?_)))))
    cases h
    exact we htt Tryz.func16 [] rfl rfl rfl rfl
   exact wf hc rfl (wi (wb (wg (ws htt 2 rfl (wn (wu [] (ih21 (w64 (k + 1)) h) rfl rfl rfl rfl))))))
  exact wu [] (ih N 0 h) rfl rfl rfl rfl
 exact wu [] (ih N 0 h) rfl rfl rfl rfl
theorem law18_GlobalWords_ct (N : Nat) (g_ : T4) (n_ : Int) (r : Bool) (h : law18_GlobalWords N g_ n_ = some r) :
 Fn Tryz.prog 3 ⟨4, [.a (cC4 0 1 2 3 g_), .I n_], (vV4 0 1 2 3 g_ []), [], 4, .O r, [], []⟩ := by
 refine Fn.intro _ _ Tryz.func3 rfl (by kernel_rfl) rfl (fun E F w => ?_)
 unfold law18_GlobalWords at h
 refine wq (wg (ws htt 2 rfl (wn (wq (wq (wg (?_)))))))
 obtain ⟨x1, c, h⟩ := ob h
 refine wc (z12_ct N _ c) [] [] rfl rfl rfl rfl rfl rfl rfl rfl (.inl rfl) rfl (wx (rg 3 12) ⟨[(1, .I n_), (2, .B 4 0), (4, .O false), (18, .O (!x1))], [(4, .box (cC4 0 1 2 3 g_) 27)], (vV4 0 1 2 3 g_ []), 5⟩ htt 2 (by kernel_rfl) (?_))
 refine WP.cutr (σ := Bool) (fun st => ⟨[(1, .I n_), (2, .B 4 0), (30, .O st)], [(4, .box (cC4 0 1 2 3 g_) 27)], (vV4 0 1 2 3 g_ []), 5⟩) (fun st => law18_GlobalWords_k7 N g_ n_ st = some r) ?_ (fun j1 => ?_)
 ·intro d h
  replace h : law18_GlobalWords_k7 N g_ n_ d = some r := h
  unfold law18_GlobalWords_k7 at h
  rcases oc h with ⟨hc, h⟩ | ⟨hc, h⟩
  ·refine wt hc rfl (wq (wg (?_)))
   obtain ⟨x3, e, h⟩ := ob h
   refine wc (z12_ct N _ e) [] [] rfl rfl rfl rfl rfl rfl rfl rfl (.inl rfl) rfl (wx [] ⟨[(4, .O x3)], [], (vV4 0 1 2 3 g_ []), 5⟩ htt 1 (by kernel_rfl) (wn (?_)))
   cases h
   exact we htt Tryz.func3 [] rfl rfl rfl rfl
  refine wf hc rfl (wi (wq (wg (ws htt 2 rfl (?_)))))
  obtain ⟨x4, f, h⟩ := ob h
  refine wc (z14_ct N g_ n_ _ f) [(0, .sl 0), (1, .sl 1), (2, .sl 2), (3, .sl 3)] [] rfl rfl rfl rfl rfl rfl rfl rfl (.inl rfl) rfl (wx [] ⟨[(1, .I n_), (2, .B 4 0), (5, .S 5), (6, .I x4.2)], [(4, .box (cC4 0 1 2 3 g_) 27), (5, .own (rSl rR6) x4.1 true)], (vV4 0 1 2 3 g_ []), 6⟩ htt 5 (by kernel_rfl) (wn (wq (wg (ws htt 2 rfl (?_))))))
  obtain ⟨x5, g, h⟩ := ob h
  refine wc (z15_ct N g_ n_ _ g) [(0, .sl 0), (1, .sl 1), (2, .sl 2), (3, .sl 3)] [] rfl rfl rfl rfl rfl rfl rfl rfl (.inl rfl) rfl (wx [] ⟨[(1, .I n_), (2, .B 4 0), (5, .S 5), (6, .I x4.2), (7, .S 6), (8, .I x5.2)], [(4, .box (cC4 0 1 2 3 g_) 27), (5, .own (rSl rR6) x4.1 true), (6, .own (rSl rR6) x5.1 true)], (vV4 0 1 2 3 g_ []), 7⟩ htt 5 (by kernel_rfl) (wn (wq (wq (wg (wx [4, 5, 6, 7, 8] ⟨[(1, .I n_), (2, .B 4 0), (5, .S 5), (6, .I x4.2), (7, .S 6), (47, .O (x4.2 != x5.2))], [(4, .box (cC4 0 1 2 3 g_) 27), (5, .own (rSl rR6) x4.1 true), (6, .own (rSl rR6) x5.1 true)], (vV4 0 1 2 3 g_ []), 7⟩ htt 4 (by kernel_rfl) (?_)))))))
  rcases oc h with ⟨hc, h⟩ | ⟨hc, h⟩
  ·refine wy 47 hc rfl (wx [] ⟨[(1, .I n_), (2, .B 4 0), (5, .S 5), (6, .I x4.2), (52, .O true)], [(4, .box (cC4 0 1 2 3 g_) 27), (5, .own (rSl rR6) x4.1 true)], (vV4 0 1 2 3 g_ []), 7⟩ htt 5 (by kernel_rfl) (wn (wt rfl rfl (wq (wg (ws htt 1 rfl (wn (?_))))))))
   cases h
   exact we htt Tryz.func3 [] rfl rfl rfl rfl
  refine wy 47 hc rfl (ws htt 2 rfl (?_))
  obtain ⟨x6, i, h⟩ := ob h
  refine wc (z16_ct N x4.1 x5.1 _ i) [(0, .sl 5), (1, .sl 6)] [5, 6] rfl rfl rfl rfl rfl rfl rfl rfl (.inr ⟨rfl, trivial⟩) rfl (wx [] ⟨[(1, .I n_), (2, .B 4 0), (5, .S 5), (6, .I x4.2), (52, .O (!x6))], [(4, .box (cC4 0 1 2 3 g_) 27), (5, .own (rSl rR6) x4.1 true)], (vV4 0 1 2 3 g_ []), 7⟩ htt 2 (by kernel_rfl) (wn (?_)))
  rcases oc h with ⟨hc, h⟩ | ⟨hc, h⟩
  ·refine wt hc rfl (wq (wg (ws htt 1 rfl (wn (?_)))))
   cases h
   exact we htt Tryz.func3 [] rfl rfl rfl rfl
  refine wf hc rfl (wi (wq (wg (ws htt 1 rfl (wn (wq (wq (wg (ws htt 1 rfl (wn (?_)))))))))))
  refine wC (σ := Unit) (fun st => ⟨[], [], (vV4 0 1 2 3 g_ []), 7⟩) (fun st => law18_GlobalWords_k1 = some r) ?_ (fun j2 => ?_)
  ·intro _ h
   replace h : law18_GlobalWords_k1 = some r := h
   unfold law18_GlobalWords_k1 at h
   refine wq (wg (ws htt 1 rfl (wn (?_))))
   cases h
   exact we htt Tryz.func3 [] rfl rfl rfl rfl
  refine wo (?_)
  refine wI (σ := Int × Int) (fun st => ⟨[(1, .I n_), (2, .B 4 0), (5, .S 5), (6, .I x4.2), (9, .I st.1), (10, .I st.2)], [(4, .box (cC4 0 1 2 3 g_) 27)], (vV4 0 1 2 3 g_ [(5, .sl (rSl rR6) x4.1)]), 7⟩) (fun n st => law18_GlobalWords_l2 N g_ n_ x4 n st.1 st.2) (r := r) (fun _ => rfl) ?_ (fun ih => ?_)
  ·intro n22 ih22
   rintro ⟨j, m⟩ h
   replace h : law18_GlobalWords_l2 N g_ n_ x4 (n22 + 1) j m = some r := h
   unfold law18_GlobalWords_l2 at h
   refine wq (wq (wg (wx (rg 5 12) ⟨[(1, .I n_), (2, .B 4 0), (5, .S 5), (6, .I x4.2), (9, .I j), (10, .I m), (57, .O (decide (m < (x4.1.length : Int))))], [(4, .box (cC4 0 1 2 3 g_) 27)], (vV4 0 1 2 3 g_ [(5, .sl (rSl rR6) x4.1)]), 7⟩ htt 5 (by kernel_rfl) (?_))))
   rcases oc' h with ⟨hc, h⟩ | ⟨hc, h⟩
   ·exact wy 57 hc rfl (wx [] ⟨[(1, .I n_), (2, .B 4 0), (5, .S 5), (6, .I x4.2), (9, .I j), (10, .I m), (69, .O false)], [(4, .box (cC4 0 1 2 3 g_) 27)], (vV4 0 1 2 3 g_ [(5, .sl (rSl rR6) x4.1)]), 7⟩ htt 12 (by kernel_rfl) (wn (wf rfl rfl (wz rfl (wu [] (j2 () h) rfl rfl rfl rfl)))))
   refine wy 57 hc rfl (wx (rg 9 8) ⟨[(1, .I n_), (2, .B 4 0), (5, .S 5), (6, .I x4.2), (9, .I j), (10, .I m), (61, .O (x4.2 == 0))], [(4, .box (cC4 0 1 2 3 g_) 27)], (vV4 0 1 2 3 g_ [(5, .sl (rSl rR6) x4.1)]), 7⟩ htt 4 (by kernel_rfl) (?_))
   rcases oc' h with ⟨hc, h⟩ | ⟨hc, h⟩
   ·exact wy 61 hc rfl (wx [] ⟨[(1, .I n_), (2, .B 4 0), (5, .S 5), (6, .I x4.2), (9, .I j), (10, .I m), (69, .O false)], [(4, .box (cC4 0 1 2 3 g_) 27)], (vV4 0 1 2 3 g_ [(5, .sl (rSl rR6) x4.1)]), 7⟩ htt 8 (by kernel_rfl) (wn (wf rfl rfl (wz rfl (wu [] (j2 () h) rfl rfl rfl rfl)))))
   refine wy 61 hc rfl (ws htt 2 rfl (?_))
   obtain ⟨o, p, h⟩ := ob h
   refine wj (oSl rR6) htt p rfl rfl rfl rfl rfl rfl rfl rfl rfl (wx [] ⟨[(1, .I n_), (2, .B 4 0), (5, .S 5), (6, .I x4.2), (9, .I j), (10, .I m), (69, .O (decide ((o.length : Int) < n_)))], [(4, .box (cC4 0 1 2 3 g_) 27)], (vV4 0 1 2 3 g_ [(5, .sl (rSl rR6) x4.1)]), 9⟩ htt 5 (by kernel_rfl) (wn (?_)))
   rcases oc' h with ⟨hc, h⟩ | ⟨hc, h⟩
   ·exact wf hc rfl (wz rfl (wu [] (j2 () h) rfl rfl rfl rfl))
   refine wt hc rfl (wi (wq (wo (wq (wg (wx [] ⟨[(1, .I n_), (2, .B 4 0), (5, .S 5), (6, .I x4.2), (9, .I j), (10, .I m), (11, .I g_.Start)], [(4, .box (cC4 0 1 2 3 g_) 27)], (vV4 0 1 2 3 g_ [(5, .sl (rSl rR6) x4.1)]), 9⟩ htt 3 (by kernel_rfl) (wn (wq (wq (wg (ws htt 2 rfl (?_))))))))))))
   obtain ⟨q, s, h⟩ := ob h
   refine wj (oSl rR6) htt s rfl rfl rfl rfl rfl rfl rfl rfl rfl (wx [] ⟨[(1, .I n_), (2, .B 4 0), (5, .S 5), (6, .I x4.2), (9, .I j), (10, .I m), (11, .I g_.Start), (77, .S 10), (78, .I (q.length : Int)), (79, .I 0)], [(4, .box (cC4 0 1 2 3 g_) 27)], (vV4 0 1 2 3 g_ [(5, .sl (rSl rR6) x4.1), (10, .sl rR6 q)]), 11⟩ htt 3 (by kernel_rfl) (wn (?_)))
   refine wC (σ := Int) (fun st => ⟨[(1, .I n_), (2, .B 4 0), (5, .S 5), (6, .I x4.2), (9, .I j), (10, .I m), (11, .I st)], [(4, .box (cC4 0 1 2 3 g_) 27)], (vV4 0 1 2 3 g_ [(5, .sl (rSl rR6) x4.1)]), 11⟩) (fun st => law18_GlobalWords_k5 N g_ x4 j m (law18_GlobalWords_l2 N g_ n_ x4 n22) st = some r) ?_ (fun j35 => ?_)
   ·intro v h
    replace h : law18_GlobalWords_k5 N g_ x4 j m (law18_GlobalWords_l2 N g_ n_ x4 n22) v = some r := h
    unfold law18_GlobalWords_k5 at h
    refine wq (wg (ws htt 2 rfl (?_)))
    obtain ⟨x, y, h⟩ := ob h
    refine wc (z18_ct N g_ v _ y) [(0, .sl 0), (1, .sl 1), (2, .sl 2), (3, .sl 3)] [] rfl rfl rfl rfl rfl rfl rfl rfl (.inl rfl) rfl (wx [] ⟨[(1, .I n_), (2, .B 4 0), (5, .S 5), (6, .I x4.2), (9, .I j), (10, .I m), (93, .S 11), (94, .I (x.length : Int)), (95, .I 0)], [(4, .box (cC4 0 1 2 3 g_) 27), (11, .own (rI .i64) x true)], (vV4 0 1 2 3 g_ [(5, .sl (rSl rR6) x4.1)]), 12⟩ htt 2 (by kernel_rfl) (wn (?_)))
    refine wC (σ := Int) (fun st => ⟨[(1, .I n_), (2, .B 4 0), (5, .S 5), (6, .I x4.2), (9, .I st), (10, .I m)], [(4, .box (cC4 0 1 2 3 g_) 27)], (vV4 0 1 2 3 g_ [(5, .sl (rSl rR6) x4.1)]), 12⟩) (fun st => law18_GlobalWords_k3 m (law18_GlobalWords_l2 N g_ n_ x4 n22) st = some r) ?_ (fun j37 => ?_)
    ·intro z h
     replace h : law18_GlobalWords_k3 m (law18_GlobalWords_l2 N g_ n_ x4 n22) z = some r := h
     unfold law18_GlobalWords_k3 at h
     exact wb (wg (wx [] ⟨[(1, .I n_), (2, .B 4 0), (5, .S 5), (6, .I x4.2), (9, .I z), (10, .I (w64 (m + 1)))], [(4, .box (cC4 0 1 2 3 g_) 27)], (vV4 0 1 2 3 g_ [(5, .sl (rSl rR6) x4.1)]), 12⟩ htt 3 (by kernel_rfl) (wn (wu [] (ih22 (z, (w64 (m + 1))) h) rfl rfl rfl rfl))))
    refine wo (?_)
    refine wI (σ := Int × Int) (fun st => ⟨[(1, .I n_), (2, .B 4 0), (5, .S 5), (6, .I x4.2), (9, .I st.1), (10, .I m), (93, .S 11), (94, .I (x.length : Int)), (95, .I st.2)], [(4, .box (cC4 0 1 2 3 g_) 27), (11, .own (rI .i64) x true)], (vV4 0 1 2 3 g_ [(5, .sl (rSl rR6) x4.1)]), 12⟩) (fun n st => law18_GlobalWords_l4 N g_ x4 m (law18_GlobalWords_l2 N g_ n_ x4 n22) x n st.1 st.2) (r := r) (fun _ => rfl) ?_ (fun ih => ?_)
    ·intro n25 ih39
     rintro ⟨A, C⟩ h
     replace h : law18_GlobalWords_l4 N g_ x4 m (law18_GlobalWords_l2 N g_ n_ x4 n22) x (n25 + 1) A C = some r := h
     unfold law18_GlobalWords_l4 at h
     refine wq (wg (ws htt 1 rfl (wn (wq (?_)))))
     rcases oc' h with ⟨hc, h⟩ | ⟨hc, h⟩
     ·exact wf hc rfl (wz rfl (wu [] (j37 A h) rfl rfl rfl rfl))
     refine wt hc rfl (wi (wq (wo (wq (wg (?_))))))
     obtain ⟨D, G, h⟩ := ob h
     refine wX htt G rfl rfl rfl rfl rfl rfl rfl rfl rfl (wL (oI .i64) htt G rfl rfl rfl rfl rfl rfl rfl rfl rfl rfl (wx [] ⟨[(1, .I n_), (2, .B 4 0), (5, .S 5), (6, .I x4.2), (9, .I A), (10, .I m), (15, .I D), (93, .S 11), (94, .I (x.length : Int)), (95, .I C)], [(4, .box (cC4 0 1 2 3 g_) 27), (11, .own (rI .i64) x true)], (vV4 0 1 2 3 g_ [(5, .sl (rSl rR6) x4.1)]), 13⟩ htt 1 (by kernel_rfl) (wn (wq (wq (wN (fun H J K => ?_)))))))
     have Q : H 0 ⟨[(9, .I A)], [], [], [], 13, [(99, .I A)], [], [], 13⟩ := J _ _ (wl htt rfl rfl rfl rfl rfl rfl)
     have R : H 1 ⟨[(5, .S 5)], [(5, .sl (rSl rR6) x4.1)], [], [], 13, [(100, .S 5)], [], [], 13⟩ := J _ _ (wl htt rfl rfl rfl rfl rfl rfl)
     have T : H 2 ⟨[(100, .S 5)], [(5, .sl (rSl rR6) x4.1)], [], [], 13, [(101, .I (x4.1.length : Int))], [], [], 13⟩ := J _ _ (wl htt rfl rfl rfl rfl rfl rfl)
     have U : H 3 ⟨[(99, .I A), (101, .I (x4.1.length : Int))], [], [], [], 13, [(102, .O (decide (A ≥ (x4.1.length : Int))))], [], [], 13⟩ := J _ _ (wl htt rfl rfl rfl rfl rfl rfl)
     have X : H 4 ⟨[(102, .O (decide (A ≥ (x4.1.length : Int))))], [], [], [], 13, [(103, .O (decide (A ≥ (x4.1.length : Int))))], [], [], 13⟩ := J _ _ (wl htt rfl rfl rfl rfl rfl rfl)
     rcases oc h with ⟨hc, h⟩ | ⟨hc, h⟩
     ·have Y := J _ _ (LS.kb hc rfl (K _ _ X))
      have Z : H 5 ⟨[(103, .O true)], [], [], [], 13, [(104, .u)], [], [], 13⟩ := J _ _ (LS.skip rfl rfl rfl (.inr ⟨_, rfl, rfl⟩) rfl rfl)
      have a0 : H 6 ⟨[(103, .O true)], [], [], [], 13, [(105, .u)], [], [], 13⟩ := J _ _ (LS.skip rfl rfl rfl (.inr ⟨_, rfl, rfl⟩) rfl rfl)
      have b0 : H 7 ⟨[(103, .O true)], [], [], [], 13, [(106, .u)], [], [], 13⟩ := J _ _ (LS.skip rfl rfl rfl (.inr ⟨_, rfl, rfl⟩) rfl rfl)
      have c0 : H 8 ⟨[(103, .O true)], [], [], [], 13, [(107, .u)], [], [], 13⟩ := J _ _ (LS.skip rfl rfl rfl (.inr ⟨_, rfl, rfl⟩) rfl rfl)
      have d0 : H 9 ⟨[(103, .O true)], [], [], [], 13, [(108, .u)], [], [], 13⟩ := J _ _ (LS.skip rfl rfl rfl (.inr ⟨_, rfl, rfl⟩) rfl rfl)
      have e0 : H 10 ⟨[(103, .O true)], [], [], [], 13, [(109, .u)], [], [], 13⟩ := J _ _ (LS.skip rfl rfl rfl (.inr ⟨_, rfl, rfl⟩) rfl rfl)
      have f0 : H 11 ⟨[(103, .O true)], [], [], [], 13, [(110, .u)], [], [], 13⟩ := J _ _ (LS.skip rfl rfl rfl (.inr ⟨_, rfl, rfl⟩) rfl rfl)
      have g0 : H 12 ⟨[(103, .O true)], [], [], [], 13, [(111, .u)], [], [], 13⟩ := J _ _ (LS.skip rfl rfl rfl (.inr ⟨_, rfl, rfl⟩) rfl rfl)
      have i0 : H 13 ⟨[(103, .O true)], [], [], [], 13, [(112, .u)], [], [], 13⟩ := J _ _ (LS.skip rfl rfl rfl (.inr ⟨_, rfl, rfl⟩) rfl rfl)
      have j0 : H 14 ⟨[(103, .O true)], [], [], [], 13, [(113, .u)], [], [], 13⟩ := J _ _ (LS.skip rfl rfl rfl (.inr ⟨_, rfl, rfl⟩) rfl rfl)
      have k0 : H 15 ⟨[(103, .O true)], [], [], [], 13, [(114, .u)], [], [], 13⟩ := J _ _ (LS.skip rfl rfl rfl (.inr ⟨_, rfl, rfl⟩) rfl rfl)
      have l0 : H 16 ⟨[(103, .O true)], [], [], [], 13, [(115, .u)], [], [], 13⟩ := J _ _ (LS.skip rfl rfl rfl (.inr ⟨_, rfl, rfl⟩) rfl rfl)
      have m0 : H 17 ⟨[(103, .O true), (115, .u)], [], [], [], 13, [(116, .O true)], [], [], 13⟩ := J _ _ (wl htt rfl rfl rfl rfl rfl rfl)
      have o0 : H 18 ⟨[(116, .O true)], [], [], [], 13, [(117, .O true)], [], [], 13⟩ := J _ _ (wl htt rfl rfl rfl rfl rfl rfl)
      have p0 : H 19 ⟨[(117, .O true)], [], [], [], 13, [(118, .u)], [], [], 13⟩ := J _ _ (LS.skip rfl rfl rfl (.inr ⟨_, rfl, rfl⟩) rfl rfl)
      have q0 : H 20 ⟨[(117, .O true)], [], [], [], 13, [(119, .u)], [], [], 13⟩ := J _ _ (LS.skip rfl rfl rfl (.inr ⟨_, rfl, rfl⟩) rfl rfl)
      have s0 : H 21 ⟨[(117, .O true)], [], [], [], 13, [(120, .u)], [], [], 13⟩ := J _ _ (LS.skip rfl rfl rfl (.inr ⟨_, rfl, rfl⟩) rfl rfl)
      have t0 : H 22 ⟨[(117, .O true)], [], [], [], 13, [(121, .u)], [], [], 13⟩ := J _ _ (LS.skip rfl rfl rfl (.inr ⟨_, rfl, rfl⟩) rfl rfl)
      have u0 : H 23 ⟨[(117, .O true)], [], [], [], 13, [(122, .u)], [], [], 13⟩ := J _ _ (LS.skip rfl rfl rfl (.inr ⟨_, rfl, rfl⟩) rfl rfl)
      have v0 : H 24 ⟨[(117, .O true)], [], [], [], 13, [(123, .u)], [], [], 13⟩ := J _ _ (LS.skip rfl rfl rfl (.inr ⟨_, rfl, rfl⟩) rfl rfl)
      have x0 : H 25 ⟨[(117, .O true)], [], [], [], 13, [(124, .u)], [], [], 13⟩ := J _ _ (LS.skip rfl rfl rfl (.inr ⟨_, rfl, rfl⟩) rfl rfl)
      have y0 : H 26 ⟨[(117, .O true)], [], [], [], 13, [(125, .u)], [], [], 13⟩ := J _ _ (LS.skip rfl rfl rfl (.inr ⟨_, rfl, rfl⟩) rfl rfl)
      have z0 : H 27 ⟨[(117, .O true)], [], [], [], 13, [(126, .u)], [], [], 13⟩ := J _ _ (LS.skip rfl rfl rfl (.inr ⟨_, rfl, rfl⟩) rfl rfl)
      have A0 : H 28 ⟨[(117, .O true)], [], [], [], 13, [(127, .u)], [], [], 13⟩ := J _ _ (LS.skip rfl rfl rfl (.inr ⟨_, rfl, rfl⟩) rfl rfl)
      have B0 : H 29 ⟨[(117, .O true)], [], [], [], 13, [(128, .u)], [], [], 13⟩ := J _ _ (LS.skip rfl rfl rfl (.inr ⟨_, rfl, rfl⟩) rfl rfl)
      have C0 : H 30 ⟨[(117, .O true)], [], [], [], 13, [(129, .u)], [], [], 13⟩ := J _ _ (LS.skip rfl rfl rfl (.inr ⟨_, rfl, rfl⟩) rfl rfl)
      have D0 : H 31 ⟨[(117, .O true)], [], [], [], 13, [(130, .u)], [], [], 13⟩ := J _ _ (LS.skip rfl rfl rfl (.inr ⟨_, rfl, rfl⟩) rfl rfl)
      have G0 : H 32 ⟨[(117, .O true)], [], [], [], 13, [(131, .u)], [], [], 13⟩ := J _ _ (LS.skip rfl rfl rfl (.inr ⟨_, rfl, rfl⟩) rfl rfl)
      have H0 : H 33 ⟨[(117, .O true)], [], [], [], 13, [(132, .u)], [], [], 13⟩ := J _ _ (LS.skip rfl rfl rfl (.inr ⟨_, rfl, rfl⟩) rfl rfl)
      have I0 : H 34 ⟨[(117, .O true)], [], [], [], 13, [(133, .u)], [], [], 13⟩ := J _ _ (LS.skip rfl rfl rfl (.inr ⟨_, rfl, rfl⟩) rfl rfl)
      have J0 : H 35 ⟨[(117, .O true)], [], [], [], 13, [(134, .u)], [], [], 13⟩ := J _ _ (LS.skip rfl rfl rfl (.inr ⟨_, rfl, rfl⟩) rfl rfl)
      have K0 : H 36 ⟨[(117, .O true)], [], [], [], 13, [(135, .u)], [], [], 13⟩ := J _ _ (LS.skip rfl rfl rfl (.inr ⟨_, rfl, rfl⟩) rfl rfl)
      have L0 : H 37 ⟨[(117, .O true), (135, .u)], [], [], [], 13, [(136, .O true)], [], [], 13⟩ := J _ _ (wl htt rfl rfl rfl rfl rfl rfl)
      have M0 : H 38 ⟨[(136, .O true)], [], [], [], 13, [(137, .O true)], [], [], 13⟩ := J _ _ (wl htt rfl rfl rfl rfl rfl rfl)
      have O0 : H 39 ⟨[(137, .O true)], [], [], [], 13, [(138, .u)], [], [], 13⟩ := J _ _ (LS.skip rfl rfl rfl (.inr ⟨_, rfl, rfl⟩) rfl rfl)
      have Q0 : H 40 ⟨[(137, .O true)], [], [], [], 13, [(139, .u)], [], [], 13⟩ := J _ _ (LS.skip rfl rfl rfl (.inr ⟨_, rfl, rfl⟩) rfl rfl)
      have R0 : H 41 ⟨[(137, .O true)], [], [], [], 13, [(140, .u)], [], [], 13⟩ := J _ _ (LS.skip rfl rfl rfl (.inr ⟨_, rfl, rfl⟩) rfl rfl)
      have S0 : H 42 ⟨[(137, .O true)], [], [], [], 13, [(141, .u)], [], [], 13⟩ := J _ _ (LS.skip rfl rfl rfl (.inr ⟨_, rfl, rfl⟩) rfl rfl)
      have T0 : H 43 ⟨[(137, .O true)], [], [], [], 13, [(142, .u)], [], [], 13⟩ := J _ _ (LS.skip rfl rfl rfl (.inr ⟨_, rfl, rfl⟩) rfl rfl)
      have U0 : H 44 ⟨[(137, .O true)], [], [], [], 13, [(143, .u)], [], [], 13⟩ := J _ _ (LS.skip rfl rfl rfl (.inr ⟨_, rfl, rfl⟩) rfl rfl)
      have V0 : H 45 ⟨[(137, .O true)], [], [], [], 13, [(144, .u)], [], [], 13⟩ := J _ _ (LS.skip rfl rfl rfl (.inr ⟨_, rfl, rfl⟩) rfl rfl)
      have X0 : H 46 ⟨[(137, .O true)], [], [], [], 13, [(145, .u)], [], [], 13⟩ := J _ _ (LS.skip rfl rfl rfl (.inr ⟨_, rfl, rfl⟩) rfl rfl)
      have Y0 : H 47 ⟨[(137, .O true)], [], [], [], 13, [(146, .u)], [], [], 13⟩ := J _ _ (LS.skip rfl rfl rfl (.inr ⟨_, rfl, rfl⟩) rfl rfl)
      have Z0 : H 48 ⟨[(137, .O true)], [], [], [], 13, [(147, .u)], [], [], 13⟩ := J _ _ (LS.skip rfl rfl rfl (.inr ⟨_, rfl, rfl⟩) rfl rfl)
      have a1 : H 49 ⟨[(137, .O true)], [], [], [], 13, [(148, .u)], [], [], 13⟩ := J _ _ (LS.skip rfl rfl rfl (.inr ⟨_, rfl, rfl⟩) rfl rfl)
      have b1 : H 50 ⟨[(137, .O true)], [], [], [], 13, [(149, .u)], [], [], 13⟩ := J _ _ (LS.skip rfl rfl rfl (.inr ⟨_, rfl, rfl⟩) rfl rfl)
      have c1 : H 51 ⟨[(137, .O true)], [], [], [], 13, [(150, .u)], [], [], 13⟩ := J _ _ (LS.skip rfl rfl rfl (.inr ⟨_, rfl, rfl⟩) rfl rfl)
      have d1 : H 52 ⟨[(137, .O true)], [], [], [], 13, [(151, .u)], [], [], 13⟩ := J _ _ (LS.skip rfl rfl rfl (.inr ⟨_, rfl, rfl⟩) rfl rfl)
      have e1 : H 53 ⟨[(137, .O true)], [], [], [], 13, [(152, .u)], [], [], 13⟩ := J _ _ (LS.skip rfl rfl rfl (.inr ⟨_, rfl, rfl⟩) rfl rfl)
      have f1 : H 54 ⟨[(137, .O true)], [], [], [], 13, [(153, .u)], [], [], 13⟩ := J _ _ (LS.skip rfl rfl rfl (.inr ⟨_, rfl, rfl⟩) rfl rfl)
      have g1 : H 55 ⟨[(137, .O true)], [], [], [], 13, [(154, .u)], [], [], 13⟩ := J _ _ (LS.skip rfl rfl rfl (.inr ⟨_, rfl, rfl⟩) rfl rfl)
      have i1 : H 56 ⟨[(137, .O true)], [], [], [], 13, [(155, .u)], [], [], 13⟩ := J _ _ (LS.skip rfl rfl rfl (.inr ⟨_, rfl, rfl⟩) rfl rfl)
      have k1 : H 57 ⟨[(137, .O true), (155, .u)], [], [], [], 13, [(156, .O true)], [], [], 13⟩ := J _ _ (wl htt rfl rfl rfl rfl rfl rfl)
      refine wD (t := ⟨[(1, .I n_), (2, .B 4 0), (5, .S 5), (6, .I x4.2), (9, .I A), (10, .I m), (93, .S 11), (94, .I (x.length : Int)), (95, .I C), (156, .O true)], [(4, .box (cC4 0 1 2 3 g_) 27), (11, .own (rI .i64) x true)], (vV4 0 1 2 3 g_ [(5, .sl (rSl rR6) x4.1)]), 13⟩) [0, 0, 2, 7, 15, 31, 31, 127, 255, 511, 31, 31, 3103, 7199, 15391, 31775, 65535, 131071, 262143, 524287, 524287, 2097151, 4194303, 524287, 524287, 25690111, 59244543, 126353407, 268435455, 536870911, 524287, 1074266111, 524287, 7516717055, 16106651647, 33286520831, 68719476735, 137438953471, 274877906943, 549755813887, 549755813887, 2199023255551, 4398046511103, 549755813887, 549755813887, 26938034880511, 62122406969343, 132491151147007, 281474976710655, 562949953421311, 549755813887, 549755813887, 549755813887, 4504149383184383, 16889048358453247, 36028797018963967, 72057594037927935, 144115188075855871] (.cons (K _ _ Q) (.cons (K _ _ R) (.cons (K _ _ T) (.cons (K _ _ U) (.cons (K _ _ Y) (.cons (K _ _ Z) (.cons (K _ _ a0) (.cons (K _ _ b0) (.cons (K _ _ c0) (.cons (K _ _ d0) (.cons (K _ _ e0) (.cons (K _ _ f0) (.cons (K _ _ g0) (.cons (K _ _ i0) (.cons (K _ _ j0) (.cons (K _ _ k0) (.cons (K _ _ l0) (.cons (K _ _ m0) (.cons (K _ _ o0) (.cons (K _ _ p0) (.cons (K _ _ q0) (.cons (K _ _ s0) (.cons (K _ _ t0) (.cons (K _ _ u0) (.cons (K _ _ v0) (.cons (K _ _ x0) (.cons (K _ _ y0) (.cons (K _ _ z0) (.cons (K _ _ A0) (.cons (K _ _ B0) (.cons (K _ _ C0) (.cons (K _ _ D0) (.cons (K _ _ G0) (.cons (K _ _ H0) (.cons (K _ _ I0) (.cons (K _ _ J0) (.cons (K _ _ K0) (.cons (K _ _ L0) (.cons (K _ _ M0) (.cons (K _ _ O0) (.cons (K _ _ Q0) (.cons (K _ _ R0) (.cons (K _ _ S0) (.cons (K _ _ T0) (.cons (K _ _ U0) (.cons (K _ _ V0) (.cons (K _ _ X0) (.cons (K _ _ Y0) (.cons (K _ _ Z0) (.cons (K _ _ a1) (.cons (K _ _ b1) (.cons (K _ _ c1) (.cons (K _ _ d1) (.cons (K _ _ e1) (.cons (K _ _ f1) (.cons (K _ _ g1) (.cons (K _ _ i1) (.cons (K _ _ k1) .nil)))))))))))))))))))))))))))))))))))))))))))))))))))))))))) (by kernel_rfl) (by kernel_rfl) (by kernel_rfl) (by kernel_rfl) (wt rfl rfl (wq (wg (ws htt 1 rfl (wn (?_))))))
      cases h
      exact we htt Tryz.func3 [] rfl rfl rfl rfl
     have l1 := J _ _ (LS.kb hc rfl (K _ _ X))
     have m1 : H 5 ⟨[(5, .S 5), (103, .O false)], [(5, .sl (rSl rR6) x4.1)], [], [], 13, [(104, .S 5)], [], [], 13⟩ := J _ _ (wl htt rfl rfl rfl rfl rfl rfl)
     have o1 : H 6 ⟨[(9, .I A), (103, .O false)], [], [], [], 13, [(105, .I A)], [], [], 13⟩ := J _ _ (wl htt rfl rfl rfl rfl rfl rfl)
     obtain ⟨p1, q1, h⟩ := ob h
     have s1 : H 7 ⟨[(103, .O false), (104, .S 5), (105, .I A)], [(5, .sl (rSl rR6) x4.1)], [], [], 13, [(106, .P 13 0)], [(13, .pl [.sl 14]), (14, .sl rR6 p1)], [], 15⟩ := J _ _ (wO rfl rfl rfl (fun _ _ _ _ _ _ _ k => wj (oSl rR6) htt q1 rfl rfl rfl rfl rfl rfl rfl rfl rfl (k)) rfl)
     have t1 : H 8 ⟨[(103, .O false), (106, .P 13 0)], [(13, .pl [.sl 14])], [], [], 15, [(107, .S 14)], [], [], 15⟩ := J _ _ (wl htt rfl rfl rfl rfl rfl rfl)
     have u1 : H 9 ⟨[(103, .O false), (107, .S 14)], [(14, .sl rR6 p1)], [], [], 15, [(108, .I (p1.length : Int))], [], [], 15⟩ := J _ _ (wl htt rfl rfl rfl rfl rfl rfl)
     have v1 : H 10 ⟨[(5, .S 5), (103, .O false)], [(5, .sl (rSl rR6) x4.1)], [], [], 15, [(109, .S 5)], [], [], 15⟩ := J _ _ (wl htt rfl rfl rfl rfl rfl rfl)
     have y1 : H 11 ⟨[(10, .I m), (103, .O false)], [], [], [], 15, [(110, .I m)], [], [], 15⟩ := J _ _ (wl htt rfl rfl rfl rfl rfl rfl)
     obtain ⟨z1, A1, h⟩ := ob h
     have B1 : H 12 ⟨[(103, .O false), (109, .S 5), (110, .I m)], [(5, .sl (rSl rR6) x4.1)], [], [], 15, [(111, .P 15 0)], [(15, .pl [.sl 16]), (16, .sl rR6 z1)], [], 17⟩ := J _ _ (wO rfl rfl rfl (fun _ _ _ _ _ _ _ k => wj (oSl rR6) htt A1 rfl rfl rfl rfl rfl rfl rfl rfl rfl (k)) rfl)
     have C1 : H 13 ⟨[(103, .O false), (111, .P 15 0)], [(15, .pl [.sl 16])], [], [], 17, [(112, .S 16)], [], [], 17⟩ := J _ _ (wl htt rfl rfl rfl rfl rfl rfl)
     have D1 : H 14 ⟨[(103, .O false), (112, .S 16)], [(16, .sl rR6 z1)], [], [], 17, [(113, .I (z1.length : Int))], [], [], 17⟩ := J _ _ (wl htt rfl rfl rfl rfl rfl rfl)
     have G1 : H 15 ⟨[(103, .O false), (113, .I (z1.length : Int))], [], [], [], 17, [(114, .I (w64 ((z1.length : Int) + 1)))], [], [], 17⟩ := J _ _ (wl htt rfl rfl rfl rfl rfl rfl)
     have H1 : H 16 ⟨[(103, .O false), (108, .I (p1.length : Int)), (114, .I (w64 ((z1.length : Int) + 1)))], [], [], [], 17, [(115, .O ((p1.length : Int) != (w64 ((z1.length : Int) + 1))))], [], [], 17⟩ := J _ _ (wl htt rfl rfl rfl rfl rfl rfl)
     have I1 : H 17 ⟨[(103, .O false), (115, .O ((p1.length : Int) != (w64 ((z1.length : Int) + 1))))], [], [], [], 17, [(116, .O ((p1.length : Int) != (w64 ((z1.length : Int) + 1))))], [], [], 17⟩ := J _ _ (wl htt rfl rfl rfl rfl rfl rfl)
     have J1 : H 18 ⟨[(116, .O ((p1.length : Int) != (w64 ((z1.length : Int) + 1))))], [], [], [], 17, [(117, .O ((p1.length : Int) != (w64 ((z1.length : Int) + 1))))], [], [], 17⟩ := J _ _ (wl htt rfl rfl rfl rfl rfl rfl)
     rcases oc h with ⟨hc, h⟩ | ⟨hc, h⟩
     ·have K1 := J _ _ (LS.kb hc rfl (K _ _ J1))
      have L1 : H 19 ⟨[(117, .O true)], [], [], [], 17, [(118, .u)], [], [], 17⟩ := J _ _ (LS.skip rfl rfl rfl (.inr ⟨_, rfl, rfl⟩) rfl rfl)
      have M1 : H 20 ⟨[(117, .O true)], [], [], [], 17, [(119, .u)], [], [], 17⟩ := J _ _ (LS.skip rfl rfl rfl (.inr ⟨_, rfl, rfl⟩) rfl rfl)
      have O1 : H 21 ⟨[(117, .O true)], [], [], [], 17, [(120, .u)], [], [], 17⟩ := J _ _ (LS.skip rfl rfl rfl (.inr ⟨_, rfl, rfl⟩) rfl rfl)
      have Q1 : H 22 ⟨[(117, .O true)], [], [], [], 17, [(121, .u)], [], [], 17⟩ := J _ _ (LS.skip rfl rfl rfl (.inr ⟨_, rfl, rfl⟩) rfl rfl)
      have R1 : H 23 ⟨[(117, .O true)], [], [], [], 17, [(122, .u)], [], [], 17⟩ := J _ _ (LS.skip rfl rfl rfl (.inr ⟨_, rfl, rfl⟩) rfl rfl)
      have S1 : H 24 ⟨[(117, .O true)], [], [], [], 17, [(123, .u)], [], [], 17⟩ := J _ _ (LS.skip rfl rfl rfl (.inr ⟨_, rfl, rfl⟩) rfl rfl)
      have T1 : H 25 ⟨[(117, .O true)], [], [], [], 17, [(124, .u)], [], [], 17⟩ := J _ _ (LS.skip rfl rfl rfl (.inr ⟨_, rfl, rfl⟩) rfl rfl)
      have U1 : H 26 ⟨[(117, .O true)], [], [], [], 17, [(125, .u)], [], [], 17⟩ := J _ _ (LS.skip rfl rfl rfl (.inr ⟨_, rfl, rfl⟩) rfl rfl)
      have V1 : H 27 ⟨[(117, .O true)], [], [], [], 17, [(126, .u)], [], [], 17⟩ := J _ _ (LS.skip rfl rfl rfl (.inr ⟨_, rfl, rfl⟩) rfl rfl)
      have X1 : H 28 ⟨[(117, .O true)], [], [], [], 17, [(127, .u)], [], [], 17⟩ := J _ _ (LS.skip rfl rfl rfl (.inr ⟨_, rfl, rfl⟩) rfl rfl)
      have Y1 : H 29 ⟨[(117, .O true)], [], [], [], 17, [(128, .u)], [], [], 17⟩ := J _ _ (LS.skip rfl rfl rfl (.inr ⟨_, rfl, rfl⟩) rfl rfl)
      have Z1 : H 30 ⟨[(117, .O true)], [], [], [], 17, [(129, .u)], [], [], 17⟩ := J _ _ (LS.skip rfl rfl rfl (.inr ⟨_, rfl, rfl⟩) rfl rfl)
      have a2 : H 31 ⟨[(117, .O true)], [], [], [], 17, [(130, .u)], [], [], 17⟩ := J _ _ (LS.skip rfl rfl rfl (.inr ⟨_, rfl, rfl⟩) rfl rfl)
      have b2 : H 32 ⟨[(117, .O true)], [], [], [], 17, [(131, .u)], [], [], 17⟩ := J _ _ (LS.skip rfl rfl rfl (.inr ⟨_, rfl, rfl⟩) rfl rfl)
      have c2 : H 33 ⟨[(117, .O true)], [], [], [], 17, [(132, .u)], [], [], 17⟩ := J _ _ (LS.skip rfl rfl rfl (.inr ⟨_, rfl, rfl⟩) rfl rfl)
      have d2 : H 34 ⟨[(117, .O true)], [], [], [], 17, [(133, .u)], [], [], 17⟩ := J _ _ (LS.skip rfl rfl rfl (.inr ⟨_, rfl, rfl⟩) rfl rfl)
      have e2 : H 35 ⟨[(117, .O true)], [], [], [], 17, [(134, .u)], [], [], 17⟩ := J _ _ (LS.skip rfl rfl rfl (.inr ⟨_, rfl, rfl⟩) rfl rfl)
      have f2 : H 36 ⟨[(117, .O true)], [], [], [], 17, [(135, .u)], [], [], 17⟩ := J _ _ (LS.skip rfl rfl rfl (.inr ⟨_, rfl, rfl⟩) rfl rfl)
      have g2 : H 37 ⟨[(117, .O true), (135, .u)], [], [], [], 17, [(136, .O true)], [], [], 17⟩ := J _ _ (wl htt rfl rfl rfl rfl rfl rfl)
      have i2 : H 38 ⟨[(136, .O true)], [], [], [], 17, [(137, .O true)], [], [], 17⟩ := J _ _ (wl htt rfl rfl rfl rfl rfl rfl)
      have k2 : H 39 ⟨[(137, .O true)], [], [], [], 17, [(138, .u)], [], [], 17⟩ := J _ _ (LS.skip rfl rfl rfl (.inr ⟨_, rfl, rfl⟩) rfl rfl)
      have l2 : H 40 ⟨[(137, .O true)], [], [], [], 17, [(139, .u)], [], [], 17⟩ := J _ _ (LS.skip rfl rfl rfl (.inr ⟨_, rfl, rfl⟩) rfl rfl)
      have m2 : H 41 ⟨[(137, .O true)], [], [], [], 17, [(140, .u)], [], [], 17⟩ := J _ _ (LS.skip rfl rfl rfl (.inr ⟨_, rfl, rfl⟩) rfl rfl)
      have o2 : H 42 ⟨[(137, .O true)], [], [], [], 17, [(141, .u)], [], [], 17⟩ := J _ _ (LS.skip rfl rfl rfl (.inr ⟨_, rfl, rfl⟩) rfl rfl)
      have p2 : H 43 ⟨[(137, .O true)], [], [], [], 17, [(142, .u)], [], [], 17⟩ := J _ _ (LS.skip rfl rfl rfl (.inr ⟨_, rfl, rfl⟩) rfl rfl)
      have q2 : H 44 ⟨[(137, .O true)], [], [], [], 17, [(143, .u)], [], [], 17⟩ := J _ _ (LS.skip rfl rfl rfl (.inr ⟨_, rfl, rfl⟩) rfl rfl)
      have s2 : H 45 ⟨[(137, .O true)], [], [], [], 17, [(144, .u)], [], [], 17⟩ := J _ _ (LS.skip rfl rfl rfl (.inr ⟨_, rfl, rfl⟩) rfl rfl)
      have t2 : H 46 ⟨[(137, .O true)], [], [], [], 17, [(145, .u)], [], [], 17⟩ := J _ _ (LS.skip rfl rfl rfl (.inr ⟨_, rfl, rfl⟩) rfl rfl)
      have u2 : H 47 ⟨[(137, .O true)], [], [], [], 17, [(146, .u)], [], [], 17⟩ := J _ _ (LS.skip rfl rfl rfl (.inr ⟨_, rfl, rfl⟩) rfl rfl)
      have v2 : H 48 ⟨[(137, .O true)], [], [], [], 17, [(147, .u)], [], [], 17⟩ := J _ _ (LS.skip rfl rfl rfl (.inr ⟨_, rfl, rfl⟩) rfl rfl)
      have x2 : H 49 ⟨[(137, .O true)], [], [], [], 17, [(148, .u)], [], [], 17⟩ := J _ _ (LS.skip rfl rfl rfl (.inr ⟨_, rfl, rfl⟩) rfl rfl)
      have y2 : H 50 ⟨[(137, .O true)], [], [], [], 17, [(149, .u)], [], [], 17⟩ := J _ _ (LS.skip rfl rfl rfl (.inr ⟨_, rfl, rfl⟩) rfl rfl)
      have z2 : H 51 ⟨[(137, .O true)], [], [], [], 17, [(150, .u)], [], [], 17⟩ := J _ _ (LS.skip rfl rfl rfl (.inr ⟨_, rfl, rfl⟩) rfl rfl)
      have A2 : H 52 ⟨[(137, .O true)], [], [], [], 17, [(151, .u)], [], [], 17⟩ := J _ _ (LS.skip rfl rfl rfl (.inr ⟨_, rfl, rfl⟩) rfl rfl)
      have B2 : H 53 ⟨[(137, .O true)], [], [], [], 17, [(152, .u)], [], [], 17⟩ := J _ _ (LS.skip rfl rfl rfl (.inr ⟨_, rfl, rfl⟩) rfl rfl)
      have C2 : H 54 ⟨[(137, .O true)], [], [], [], 17, [(153, .u)], [], [], 17⟩ := J _ _ (LS.skip rfl rfl rfl (.inr ⟨_, rfl, rfl⟩) rfl rfl)
      have D2 : H 55 ⟨[(137, .O true)], [], [], [], 17, [(154, .u)], [], [], 17⟩ := J _ _ (LS.skip rfl rfl rfl (.inr ⟨_, rfl, rfl⟩) rfl rfl)
      have G2 : H 56 ⟨[(137, .O true)], [], [], [], 17, [(155, .u)], [], [], 17⟩ := J _ _ (LS.skip rfl rfl rfl (.inr ⟨_, rfl, rfl⟩) rfl rfl)
      have H2 : H 57 ⟨[(137, .O true), (155, .u)], [], [], [], 17, [(156, .O true)], [], [], 17⟩ := J _ _ (wl htt rfl rfl rfl rfl rfl rfl)
      refine wD (t := ⟨[(1, .I n_), (2, .B 4 0), (5, .S 5), (6, .I x4.2), (9, .I A), (10, .I m), (93, .S 11), (94, .I (x.length : Int)), (95, .I C), (156, .O true)], [(4, .box (cC4 0 1 2 3 g_) 27), (11, .own (rI .i64) x true)], (vV4 0 1 2 3 g_ [(5, .sl (rSl rR6) x4.1)]), 17⟩) [0, 0, 2, 7, 15, 31, 31, 127, 255, 511, 31, 31, 3103, 7199, 15391, 31775, 65535, 131071, 262143, 524287, 524287, 2097151, 4194303, 524287, 524287, 25690111, 59244543, 126353407, 268435455, 536870911, 524287, 1074266111, 524287, 7516717055, 16106651647, 33286520831, 68719476735, 137438953471, 274877906943, 549755813887, 549755813887, 2199023255551, 4398046511103, 549755813887, 549755813887, 26938034880511, 62122406969343, 132491151147007, 281474976710655, 562949953421311, 549755813887, 549755813887, 549755813887, 4504149383184383, 16889048358453247, 36028797018963967, 72057594037927935, 144115188075855871] (.cons (K _ _ Q) (.cons (K _ _ R) (.cons (K _ _ T) (.cons (K _ _ U) (.cons (K _ _ l1) (.cons (K _ _ m1) (.cons (K _ _ o1) (.cons (K _ _ s1) (.cons (K _ _ t1) (.cons (K _ _ u1) (.cons (K _ _ v1) (.cons (K _ _ y1) (.cons (K _ _ B1) (.cons (K _ _ C1) (.cons (K _ _ D1) (.cons (K _ _ G1) (.cons (K _ _ H1) (.cons (K _ _ I1) (.cons (K _ _ K1) (.cons (K _ _ L1) (.cons (K _ _ M1) (.cons (K _ _ O1) (.cons (K _ _ Q1) (.cons (K _ _ R1) (.cons (K _ _ S1) (.cons (K _ _ T1) (.cons (K _ _ U1) (.cons (K _ _ V1) (.cons (K _ _ X1) (.cons (K _ _ Y1) (.cons (K _ _ Z1) (.cons (K _ _ a2) (.cons (K _ _ b2) (.cons (K _ _ c2) (.cons (K _ _ d2) (.cons (K _ _ e2) (.cons (K _ _ f2) (.cons (K _ _ g2) (.cons (K _ _ i2) (.cons (K _ _ k2) (.cons (K _ _ l2) (.cons (K _ _ m2) (.cons (K _ _ o2) (.cons (K _ _ p2) (.cons (K _ _ q2) (.cons (K _ _ s2) (.cons (K _ _ t2) (.cons (K _ _ u2) (.cons (K _ _ v2) (.cons (K _ _ x2) (.cons (K _ _ y2) (.cons (K _ _ z2) (.cons (K _ _ A2) (.cons (K _ _ B2) (.cons (K _ _ C2) (.cons (K _ _ D2) (.cons (K _ _ G2) (.cons (K _ _ H2) .nil)))))))))))))))))))))))))))))))))))))))))))))))))))))))))) (by kernel_rfl) (by kernel_rfl) (by kernel_rfl) (by kernel_rfl) (wt rfl rfl (wq (wg (ws htt 1 rfl (wn (?_))))))
      cases h
      exact we htt Tryz.func3 [] rfl rfl rfl rfl
     have I2 := J _ _ (LS.kb hc rfl (K _ _ J1))
     have J2 : H 19 ⟨[(5, .S 5), (117, .O false)], [(5, .sl (rSl rR6) x4.1)], [], [], 17, [(118, .S 5)], [], [], 17⟩ := J _ _ (wl htt rfl rfl rfl rfl rfl rfl)
     have K2 : H 20 ⟨[(9, .I A), (117, .O false)], [], [], [], 17, [(119, .I A)], [], [], 17⟩ := J _ _ (wl htt rfl rfl rfl rfl rfl rfl)
     obtain ⟨L2, M2, h⟩ := ob h
     have O2 : H 21 ⟨[(117, .O false), (118, .S 5), (119, .I A)], [(5, .sl (rSl rR6) x4.1)], [], [], 17, [(120, .P 17 0)], [(17, .pl [.sl 18]), (18, .sl rR6 L2)], [], 19⟩ := J _ _ (wO rfl rfl rfl (fun _ _ _ _ _ _ _ k => wj (oSl rR6) htt M2 rfl rfl rfl rfl rfl rfl rfl rfl rfl (k)) rfl)
     have Q2 : H 22 ⟨[(117, .O false), (120, .P 17 0)], [(17, .pl [.sl 18])], [], [], 19, [(121, .S 18)], [], [], 19⟩ := J _ _ (wl htt rfl rfl rfl rfl rfl rfl)
     have R2 : H 23 ⟨[(5, .S 5), (117, .O false)], [(5, .sl (rSl rR6) x4.1)], [], [], 19, [(122, .S 5)], [], [], 19⟩ := J _ _ (wl htt rfl rfl rfl rfl rfl rfl)
     have S2 : H 24 ⟨[(10, .I m), (117, .O false)], [], [], [], 19, [(123, .I m)], [], [], 19⟩ := J _ _ (wl htt rfl rfl rfl rfl rfl rfl)
     obtain ⟨T2, U2, h⟩ := ob h
     have V2 : H 25 ⟨[(117, .O false), (122, .S 5), (123, .I m)], [(5, .sl (rSl rR6) x4.1)], [], [], 19, [(124, .P 19 0)], [(19, .pl [.sl 20]), (20, .sl rR6 T2)], [], 21⟩ := J _ _ (wO rfl rfl rfl (fun _ _ _ _ _ _ _ k => wj (oSl rR6) htt U2 rfl rfl rfl rfl rfl rfl rfl rfl rfl (k)) rfl)
     have X2 : H 26 ⟨[(117, .O false), (124, .P 19 0)], [(19, .pl [.sl 20])], [], [], 21, [(125, .S 20)], [], [], 21⟩ := J _ _ (wl htt rfl rfl rfl rfl rfl rfl)
     have Y2 : H 27 ⟨[(117, .O false), (125, .S 20)], [(20, .sl rR6 T2)], [], [], 21, [(126, .I (T2.length : Int))], [], [], 21⟩ := J _ _ (wl htt rfl rfl rfl rfl rfl rfl)
     obtain ⟨Z2, a3, h⟩ := ob h
     have b3 : H 28 ⟨[(117, .O false), (121, .S 18), (126, .I (T2.length : Int))], [(18, .sl rR6 L2)], [], [], 21, [(127, .P 21 0)], [(21, .pl (cC6 Z2))], [], 22⟩ := J _ _ (wO rfl rfl rfl (fun _ _ _ _ _ _ _ k => wj oO6 htt a3 rfl rfl rfl rfl rfl rfl rfl rfl rfl (k)) rfl)
     have c3 : H 29 ⟨[(117, .O false), (127, .P 21 0)], [(21, .pl (cC6 Z2))], [], [], 22, [(128, .a (cC6 Z2))], [], [], 22⟩ := J _ _ (wl htt rfl rfl rfl rfl rfl rfl)
     have d3 : H 30 ⟨[(2, .B 4 0), (117, .O false)], [], [], [], 22, [(129, .B 4 6)], [], [], 22⟩ := J _ _ (wl htt rfl rfl rfl rfl rfl rfl)
     have e3 : H 31 ⟨[(117, .O false), (129, .B 4 6)], (vV4 0 1 2 3 g_ []), [], [(4, .box (cC4 0 1 2 3 g_) 27)], 22, [(130, .S 2)], [], [], 22⟩ := J _ _ (wl htt rfl rfl rfl rfl rfl rfl)
     have f3 : H 32 ⟨[(15, .I D), (117, .O false)], [], [], [], 22, [(131, .I D)], [], [], 22⟩ := J _ _ (wl htt rfl rfl rfl rfl rfl rfl)
     obtain ⟨g3, i3, h⟩ := ob h
     have j3 : H 33 ⟨[(117, .O false), (130, .S 2), (131, .I D)], [(2, .sl rR2 g_.Edges)], [], [], 22, [(132, .P 22 0)], [(22, .pl (cC2 g3))], [], 23⟩ := J _ _ (wO rfl rfl rfl (fun _ _ _ _ _ _ _ k => wj oO2 htt i3 rfl rfl rfl rfl rfl rfl rfl rfl rfl (k)) rfl)
     have k3 : H 34 ⟨[(117, .O false), (132, .P 22 0)], [(22, .pl (cC2 g3))], [], [], 23, [(133, .P 22 1)], [], [], 23⟩ := J _ _ (wl htt rfl rfl rfl rfl rfl rfl)
     have l3 : H 35 ⟨[(117, .O false), (133, .P 22 1)], [(22, .pl (cC2 g3))], [], [], 23, [(134, .a (cC6 g3.Act))], [], [], 23⟩ := J _ _ (wl htt rfl rfl rfl rfl rfl rfl)
     have m3 : H 36 ⟨[(117, .O false), (128, .a (cC6 Z2)), (134, .a (cC6 g3.Act))], [], [], [], 23, [(135, .O (!((Z2.From == g3.Act.From) && ((Z2.To == g3.Act.To) && ((Z2.Label == g3.Act.Label) && true)))))], [], [], 23⟩ := J _ _ (wO rfl rfl rfl (fun _ _ _ _ _ _ _ k => WPr.eqa (neg := true) (equal_run (b := ((Z2.From == g3.Act.From) && ((Z2.To == g3.Act.To) && ((Z2.Label == g3.Act.Label) && true)))) (by kernel_rfl) (by kernel_rfl)) (by kernel_rfl) rfl rfl rfl rfl rfl rfl rfl (k)) rfl)
     have o3 : H 37 ⟨[(117, .O false), (135, .O (!((Z2.From == g3.Act.From) && ((Z2.To == g3.Act.To) && ((Z2.Label == g3.Act.Label) && true)))))], [], [], [], 23, [(136, .O (!((Z2.From == g3.Act.From) && ((Z2.To == g3.Act.To) && ((Z2.Label == g3.Act.Label) && true)))))], [], [], 23⟩ := J _ _ (wl htt rfl rfl rfl rfl rfl rfl)
     have p3 : H 38 ⟨[(136, .O (!((Z2.From == g3.Act.From) && ((Z2.To == g3.Act.To) && ((Z2.Label == g3.Act.Label) && true)))))], [], [], [], 23, [(137, .O (!((Z2.From == g3.Act.From) && ((Z2.To == g3.Act.To) && ((Z2.Label == g3.Act.Label) && true)))))], [], [], 23⟩ := J _ _ (wl htt rfl rfl rfl rfl rfl rfl)
     rcases oc h with ⟨hc, h⟩ | ⟨hc, h⟩
     ·have q3 := J _ _ (LS.kb hc rfl (K _ _ p3))
      have s3 : H 39 ⟨[(137, .O true)], [], [], [], 23, [(138, .u)], [], [], 23⟩ := J _ _ (LS.skip rfl rfl rfl (.inr ⟨_, rfl, rfl⟩) rfl rfl)
      have t3 : H 40 ⟨[(137, .O true)], [], [], [], 23, [(139, .u)], [], [], 23⟩ := J _ _ (LS.skip rfl rfl rfl (.inr ⟨_, rfl, rfl⟩) rfl rfl)
      have u3 : H 41 ⟨[(137, .O true)], [], [], [], 23, [(140, .u)], [], [], 23⟩ := J _ _ (LS.skip rfl rfl rfl (.inr ⟨_, rfl, rfl⟩) rfl rfl)
      have v3 : H 42 ⟨[(137, .O true)], [], [], [], 23, [(141, .u)], [], [], 23⟩ := J _ _ (LS.skip rfl rfl rfl (.inr ⟨_, rfl, rfl⟩) rfl rfl)
      have y3 : H 43 ⟨[(137, .O true)], [], [], [], 23, [(142, .u)], [], [], 23⟩ := J _ _ (LS.skip rfl rfl rfl (.inr ⟨_, rfl, rfl⟩) rfl rfl)
      have z3 : H 44 ⟨[(137, .O true)], [], [], [], 23, [(143, .u)], [], [], 23⟩ := J _ _ (LS.skip rfl rfl rfl (.inr ⟨_, rfl, rfl⟩) rfl rfl)
      have A3 : H 45 ⟨[(137, .O true)], [], [], [], 23, [(144, .u)], [], [], 23⟩ := J _ _ (LS.skip rfl rfl rfl (.inr ⟨_, rfl, rfl⟩) rfl rfl)
      have B3 : H 46 ⟨[(137, .O true)], [], [], [], 23, [(145, .u)], [], [], 23⟩ := J _ _ (LS.skip rfl rfl rfl (.inr ⟨_, rfl, rfl⟩) rfl rfl)
      have C3 : H 47 ⟨[(137, .O true)], [], [], [], 23, [(146, .u)], [], [], 23⟩ := J _ _ (LS.skip rfl rfl rfl (.inr ⟨_, rfl, rfl⟩) rfl rfl)
      have D3 : H 48 ⟨[(137, .O true)], [], [], [], 23, [(147, .u)], [], [], 23⟩ := J _ _ (LS.skip rfl rfl rfl (.inr ⟨_, rfl, rfl⟩) rfl rfl)
      have G3 : H 49 ⟨[(137, .O true)], [], [], [], 23, [(148, .u)], [], [], 23⟩ := J _ _ (LS.skip rfl rfl rfl (.inr ⟨_, rfl, rfl⟩) rfl rfl)
      have H3 : H 50 ⟨[(137, .O true)], [], [], [], 23, [(149, .u)], [], [], 23⟩ := J _ _ (LS.skip rfl rfl rfl (.inr ⟨_, rfl, rfl⟩) rfl rfl)
      have I3 : H 51 ⟨[(137, .O true)], [], [], [], 23, [(150, .u)], [], [], 23⟩ := J _ _ (LS.skip rfl rfl rfl (.inr ⟨_, rfl, rfl⟩) rfl rfl)
      have J3 : H 52 ⟨[(137, .O true)], [], [], [], 23, [(151, .u)], [], [], 23⟩ := J _ _ (LS.skip rfl rfl rfl (.inr ⟨_, rfl, rfl⟩) rfl rfl)
      have K3 : H 53 ⟨[(137, .O true)], [], [], [], 23, [(152, .u)], [], [], 23⟩ := J _ _ (LS.skip rfl rfl rfl (.inr ⟨_, rfl, rfl⟩) rfl rfl)
      have L3 : H 54 ⟨[(137, .O true)], [], [], [], 23, [(153, .u)], [], [], 23⟩ := J _ _ (LS.skip rfl rfl rfl (.inr ⟨_, rfl, rfl⟩) rfl rfl)
      have M3 : H 55 ⟨[(137, .O true)], [], [], [], 23, [(154, .u)], [], [], 23⟩ := J _ _ (LS.skip rfl rfl rfl (.inr ⟨_, rfl, rfl⟩) rfl rfl)
      have O3 : H 56 ⟨[(137, .O true)], [], [], [], 23, [(155, .u)], [], [], 23⟩ := J _ _ (LS.skip rfl rfl rfl (.inr ⟨_, rfl, rfl⟩) rfl rfl)
      have Q3 : H 57 ⟨[(137, .O true), (155, .u)], [], [], [], 23, [(156, .O true)], [], [], 23⟩ := J _ _ (wl htt rfl rfl rfl rfl rfl rfl)
      refine wD (t := ⟨[(1, .I n_), (2, .B 4 0), (5, .S 5), (6, .I x4.2), (9, .I A), (10, .I m), (93, .S 11), (94, .I (x.length : Int)), (95, .I C), (156, .O true)], [(4, .box (cC4 0 1 2 3 g_) 27), (11, .own (rI .i64) x true)], (vV4 0 1 2 3 g_ [(5, .sl (rSl rR6) x4.1)]), 23⟩) [0, 0, 2, 7, 15, 31, 31, 127, 255, 511, 31, 31, 3103, 7199, 15391, 31775, 65535, 131071, 262143, 524287, 524287, 2097151, 4194303, 524287, 524287, 25690111, 59244543, 126353407, 268435455, 536870911, 524287, 1074266111, 524287, 7516717055, 16106651647, 33286520831, 68719476735, 137438953471, 274877906943, 549755813887, 549755813887, 2199023255551, 4398046511103, 549755813887, 549755813887, 26938034880511, 62122406969343, 132491151147007, 281474976710655, 562949953421311, 549755813887, 549755813887, 549755813887, 4504149383184383, 16889048358453247, 36028797018963967, 72057594037927935, 144115188075855871] (.cons (K _ _ Q) (.cons (K _ _ R) (.cons (K _ _ T) (.cons (K _ _ U) (.cons (K _ _ l1) (.cons (K _ _ m1) (.cons (K _ _ o1) (.cons (K _ _ s1) (.cons (K _ _ t1) (.cons (K _ _ u1) (.cons (K _ _ v1) (.cons (K _ _ y1) (.cons (K _ _ B1) (.cons (K _ _ C1) (.cons (K _ _ D1) (.cons (K _ _ G1) (.cons (K _ _ H1) (.cons (K _ _ I1) (.cons (K _ _ I2) (.cons (K _ _ J2) (.cons (K _ _ K2) (.cons (K _ _ O2) (.cons (K _ _ Q2) (.cons (K _ _ R2) (.cons (K _ _ S2) (.cons (K _ _ V2) (.cons (K _ _ X2) (.cons (K _ _ Y2) (.cons (K _ _ b3) (.cons (K _ _ c3) (.cons (K _ _ d3) (.cons (K _ _ e3) (.cons (K _ _ f3) (.cons (K _ _ j3) (.cons (K _ _ k3) (.cons (K _ _ l3) (.cons (K _ _ m3) (.cons (K _ _ o3) (.cons (K _ _ q3) (.cons (K _ _ s3) (.cons (K _ _ t3) (.cons (K _ _ u3) (.cons (K _ _ v3) (.cons (K _ _ y3) (.cons (K _ _ z3) (.cons (K _ _ A3) (.cons (K _ _ B3) (.cons (K _ _ C3) (.cons (K _ _ D3) (.cons (K _ _ G3) (.cons (K _ _ H3) (.cons (K _ _ I3) (.cons (K _ _ J3) (.cons (K _ _ K3) (.cons (K _ _ L3) (.cons (K _ _ M3) (.cons (K _ _ O3) (.cons (K _ _ Q3) .nil)))))))))))))))))))))))))))))))))))))))))))))))))))))))))) (by kernel_rfl) (by kernel_rfl) (by kernel_rfl) (by kernel_rfl) (wt rfl rfl (wq (wg (ws htt 1 rfl (wn (?_))))))
      cases h
      exact we htt Tryz.func3 [] rfl rfl rfl rfl
     have R3 := J _ _ (LS.kb hc rfl (K _ _ p3))
     have S3 : H 39 ⟨[(5, .S 5), (137, .O false)], [(5, .sl (rSl rR6) x4.1)], [], [], 23, [(138, .S 5)], [], [], 23⟩ := J _ _ (wl htt rfl rfl rfl rfl rfl rfl)
     have T3 : H 40 ⟨[(9, .I A), (137, .O false)], [], [], [], 23, [(139, .I A)], [], [], 23⟩ := J _ _ (wl htt rfl rfl rfl rfl rfl rfl)
     obtain ⟨U3, V3, h⟩ := ob h
     have X3 : H 41 ⟨[(137, .O false), (138, .S 5), (139, .I A)], [(5, .sl (rSl rR6) x4.1)], [], [], 23, [(140, .P 23 0)], [(23, .pl [.sl 24]), (24, .sl rR6 U3)], [], 25⟩ := J _ _ (wO rfl rfl rfl (fun _ _ _ _ _ _ _ k => wj (oSl rR6) htt V3 rfl rfl rfl rfl rfl rfl rfl rfl rfl (k)) rfl)
     have Y3 : H 42 ⟨[(137, .O false), (140, .P 23 0)], [(23, .pl [.sl 24])], [], [], 25, [(141, .S 24)], [], [], 25⟩ := J _ _ (wl htt rfl rfl rfl rfl rfl rfl)
     have Z3 : H 43 ⟨[(5, .S 5), (137, .O false)], [(5, .sl (rSl rR6) x4.1)], [], [], 25, [(142, .S 5)], [], [], 25⟩ := J _ _ (wl htt rfl rfl rfl rfl rfl rfl)
     have a4 : H 44 ⟨[(10, .I m), (137, .O false)], [], [], [], 25, [(143, .I m)], [], [], 25⟩ := J _ _ (wl htt rfl rfl rfl rfl rfl rfl)
     obtain ⟨b4, c4, h⟩ := ob h
     have d4 : H 45 ⟨[(137, .O false), (142, .S 5), (143, .I m)], [(5, .sl (rSl rR6) x4.1)], [], [], 25, [(144, .P 25 0)], [(25, .pl [.sl 26]), (26, .sl rR6 b4)], [], 27⟩ := J _ _ (wO rfl rfl rfl (fun _ _ _ _ _ _ _ k => wj (oSl rR6) htt c4 rfl rfl rfl rfl rfl rfl rfl rfl rfl (k)) rfl)
     have e4 : H 46 ⟨[(137, .O false), (144, .P 25 0)], [(25, .pl [.sl 26])], [], [], 27, [(145, .S 26)], [], [], 27⟩ := J _ _ (wl htt rfl rfl rfl rfl rfl rfl)
     have f4 : H 47 ⟨[(137, .O false), (145, .S 26)], [(26, .sl rR6 b4)], [], [], 27, [(146, .I (b4.length : Int))], [], [], 27⟩ := J _ _ (wl htt rfl rfl rfl rfl rfl rfl)
     obtain ⟨g4, i4, h⟩ := ob h
     have j4 : H 48 ⟨[(137, .O false), (141, .S 24), (146, .I (b4.length : Int))], [(24, .sl rR6 U3)], [], [], 27, [(147, .S 27)], [(27, .sl rR6 g4)], [], 28⟩ := J _ _ (wO rfl rfl rfl (fun _ _ _ _ _ _ _ k => WPr.isl htt (l := none) (h := some (.i64, (b4.length : Int))) i4 rfl rfl rfl rfl rfl rfl rfl rfl rfl rfl (k)) rfl)
     have k4 : H 49 ⟨[(137, .O false), (147, .S 27)], [(27, .sl rR6 g4)], [], [], 28, [(148, .S 28)], [], [(28, .own (rSl rR6) ([g4] : List (List T6)) true)], 29⟩ := J _ _ (wO rfl rfl rfl (fun _ _ _ _ _ _ _ k => WPr.bs (cs := [.sl 27]) (oSl rR6) htt ([g4] : List (List T6)) rfl rfl rfl rfl rfl rfl (by kernel_rfl) (by exact (an rfl rfl)) rfl (k)) rfl)
     have l4 : H 50 ⟨[(5, .S 5), (137, .O false)], [(5, .sl (rSl rR6) x4.1)], [], [], 29, [(149, .S 5)], [], [], 29⟩ := J _ _ (wl htt rfl rfl rfl rfl rfl rfl)
     have m4 : H 51 ⟨[(10, .I m), (137, .O false)], [], [], [], 29, [(150, .I m)], [], [], 29⟩ := J _ _ (wl htt rfl rfl rfl rfl rfl rfl)
     have o4 : H 52 ⟨[(10, .I m), (137, .O false)], [], [], [], 29, [(151, .I m)], [], [], 29⟩ := J _ _ (wl htt rfl rfl rfl rfl rfl rfl)
     have p4 : H 53 ⟨[(137, .O false), (151, .I m)], [], [], [], 29, [(152, .I (w64 (m + 1)))], [], [], 29⟩ := J _ _ (wl htt rfl rfl rfl rfl rfl rfl)
     obtain ⟨q4, s4, h⟩ := ob h
     have t4 : H 54 ⟨[(137, .O false), (149, .S 5), (150, .I m), (152, .I (w64 (m + 1)))], [(5, .sl (rSl rR6) x4.1)], [], [], 29, [(153, .S 29)], [(29, .sl (rSl rR6) q4)], [], 30⟩ := J _ _ (wO rfl rfl rfl (fun _ _ _ _ _ _ _ k => WPr.isl htt (l := some (.i64, m)) (h := some (.i64, (w64 (m + 1)))) s4 rfl rfl rfl rfl rfl rfl rfl rfl rfl rfl (k)) rfl)
     obtain ⟨u4, v4, h⟩ := ob h
     have y4 : H 55 ⟨[(137, .O false), (148, .S 28), (153, .S 29)], [(29, .sl (rSl rR6) q4)], [], [(28, .own (rSl rR6) ([g4] : List (List T6)) true)], 30, [(154, .O u4)], [], [], 30⟩ := J _ _ (wO rfl rfl rfl (fun _ _ _ _ _ _ _ k => wc (z16_ct N ([g4] : List (List T6)) q4 _ v4) [(0, .sl 28), (1, .sl 29)] [28] rfl rfl rfl rfl rfl rfl rfl rfl (.inr ⟨rfl, trivial⟩) rfl (k)) rfl)
     have z4 : H 56 ⟨[(137, .O false), (154, .O u4)], [], [], [], 30, [(155, .O (!u4))], [], [], 30⟩ := J _ _ (wl htt rfl rfl rfl rfl rfl rfl)
     have A4 : H 57 ⟨[(137, .O false), (155, .O (!u4))], [], [], [], 30, [(156, .O (!u4))], [], [], 30⟩ := J _ _ (wl htt rfl rfl rfl rfl rfl rfl)
     refine wD (t := ⟨[(1, .I n_), (2, .B 4 0), (5, .S 5), (6, .I x4.2), (9, .I A), (10, .I m), (93, .S 11), (94, .I (x.length : Int)), (95, .I C), (156, .O (!u4))], [(4, .box (cC4 0 1 2 3 g_) 27), (11, .own (rI .i64) x true)], (vV4 0 1 2 3 g_ [(5, .sl (rSl rR6) x4.1)]), 30⟩) [0, 0, 2, 7, 15, 31, 31, 127, 255, 511, 31, 31, 3103, 7199, 15391, 31775, 65535, 131071, 262143, 524287, 524287, 2097151, 4194303, 524287, 524287, 25690111, 59244543, 126353407, 268435455, 536870911, 524287, 1074266111, 524287, 7516717055, 16106651647, 33286520831, 68719476735, 137438953471, 274877906943, 549755813887, 549755813887, 2199023255551, 4398046511103, 549755813887, 549755813887, 26938034880511, 62122406969343, 132491151147007, 281474976710655, 562949953421311, 549755813887, 549755813887, 549755813887, 4504149383184383, 16889048358453247, 36028797018963967, 72057594037927935, 144115188075855871] (.cons (K _ _ Q) (.cons (K _ _ R) (.cons (K _ _ T) (.cons (K _ _ U) (.cons (K _ _ l1) (.cons (K _ _ m1) (.cons (K _ _ o1) (.cons (K _ _ s1) (.cons (K _ _ t1) (.cons (K _ _ u1) (.cons (K _ _ v1) (.cons (K _ _ y1) (.cons (K _ _ B1) (.cons (K _ _ C1) (.cons (K _ _ D1) (.cons (K _ _ G1) (.cons (K _ _ H1) (.cons (K _ _ I1) (.cons (K _ _ I2) (.cons (K _ _ J2) (.cons (K _ _ K2) (.cons (K _ _ O2) (.cons (K _ _ Q2) (.cons (K _ _ R2) (.cons (K _ _ S2) (.cons (K _ _ V2) (.cons (K _ _ X2) (.cons (K _ _ Y2) (.cons (K _ _ b3) (.cons (K _ _ c3) (.cons (K _ _ d3) (.cons (K _ _ e3) (.cons (K _ _ f3) (.cons (K _ _ j3) (.cons (K _ _ k3) (.cons (K _ _ l3) (.cons (K _ _ m3) (.cons (K _ _ o3) (.cons (K _ _ R3) (.cons (K _ _ S3) (.cons (K _ _ T3) (.cons (K _ _ X3) (.cons (K _ _ Y3) (.cons (K _ _ Z3) (.cons (K _ _ a4) (.cons (K _ _ d4) (.cons (K _ _ e4) (.cons (K _ _ f4) (.cons (K _ _ j4) (.cons (K _ _ k4) (.cons (K _ _ l4) (.cons (K _ _ m4) (.cons (K _ _ o4) (.cons (K _ _ p4) (.cons (K _ _ t4) (.cons (K _ _ y4) (.cons (K _ _ z4) (.cons (K _ _ A4) .nil)))))))))))))))))))))))))))))))))))))))))))))))))))))))))) (by kernel_rfl) (by kernel_rfl) (by kernel_rfl) (by kernel_rfl) (?_)
     rcases oc h with ⟨hc, h⟩ | ⟨hc, h⟩
     ·refine wt hc rfl (wq (wg (ws htt 1 rfl (wn (?_)))))
      cases h
      exact we htt Tryz.func3 [] rfl rfl rfl rfl
     exact wf hc rfl (wi (wg (wx [] ⟨[(1, .I n_), (2, .B 4 0), (5, .S 5), (6, .I x4.2), (9, .I (w64 (A + 1))), (10, .I m), (93, .S 11), (94, .I (x.length : Int)), (95, .I C)], [(4, .box (cC4 0 1 2 3 g_) 27), (11, .own (rI .i64) x true)], (vV4 0 1 2 3 g_ [(5, .sl (rSl rR6) x4.1)]), 30⟩ htt 3 (by kernel_rfl) (wn (wb (wg (ws htt 2 rfl (wn (wu [] (ih39 ((w64 (A + 1)), (w64 (C + 1))) h) rfl rfl rfl rfl)))))))))
    exact wu [] (ih N (j, 0) h) rfl rfl rfl rfl
   refine wo (?_)
   refine wI (σ := Int × Int) (fun st => ⟨[(1, .I n_), (2, .B 4 0), (5, .S 5), (6, .I x4.2), (9, .I j), (10, .I m), (11, .I st.1), (77, .S 10), (78, .I (q.length : Int)), (79, .I st.2)], [(4, .box (cC4 0 1 2 3 g_) 27)], (vV4 0 1 2 3 g_ [(5, .sl (rSl rR6) x4.1), (10, .sl rR6 q)]), 11⟩) (fun n st => law18_GlobalWords_l6 N g_ x4 j m (law18_GlobalWords_l2 N g_ n_ x4 n22) q n st.1 st.2) (r := r) (fun _ => rfl) ?_ (fun ih => ?_)
   ·intro n26 ih40
    rintro ⟨B4, C4⟩ h
    replace h : law18_GlobalWords_l6 N g_ x4 j m (law18_GlobalWords_l2 N g_ n_ x4 n22) q (n26 + 1) B4 C4 = some r := h
    unfold law18_GlobalWords_l6 at h
    refine wq (wg (ws htt 1 rfl (wn (wq (?_)))))
    rcases oc' h with ⟨hc, h⟩ | ⟨hc, h⟩
    ·exact wf hc rfl (wz rfl (wu [] (j35 B4 h) rfl rfl rfl rfl))
    refine wt hc rfl (wi (wq (wo (wq (wg (?_))))))
    obtain ⟨D4, G4, h⟩ := ob h
    refine wj oO6 htt G4 rfl rfl rfl rfl rfl rfl rfl rfl rfl (wx [] ⟨[(1, .I n_), (2, .B 4 0), (5, .S 5), (6, .I x4.2), (9, .I j), (10, .I m), (11, .I B4), (13, .B 12 0), (77, .S 10), (78, .I (q.length : Int)), (79, .I C4)], [(4, .box (cC4 0 1 2 3 g_) 27), (12, .box (cC6 D4) 37)], (vV4 0 1 2 3 g_ [(5, .sl (rSl rR6) x4.1), (10, .sl rR6 q)]), 13⟩ htt 3 (by kernel_rfl) (wn (wg (wx [3, 4, 5, 6, 7] ⟨[(1, .I n_), (2, .B 4 0), (5, .S 5), (6, .I x4.2), (9, .I j), (10, .I m), (77, .S 10), (78, .I (q.length : Int)), (79, .I C4), (84, .a (cC4 0 1 2 3 g_)), (85, .I B4), (86, .a (cC6 D4))], [(4, .box (cC4 0 1 2 3 g_) 27)], (vV4 0 1 2 3 g_ [(5, .sl (rSl rR6) x4.1), (10, .sl rR6 q)]), 13⟩ htt 3 (by kernel_rfl) (?_)))))
    obtain ⟨H4, I4, h⟩ := ob h
    exact wc (z17_ct N g_ B4 D4 _ I4) [(0, .sl 0), (1, .sl 1), (2, .sl 2), (3, .sl 3)] [] rfl rfl rfl rfl rfl rfl rfl rfl (.inl rfl) rfl (wx [] ⟨[(1, .I n_), (2, .B 4 0), (5, .S 5), (6, .I x4.2), (9, .I j), (10, .I m), (11, .I H4.1), (77, .S 10), (78, .I (q.length : Int)), (79, .I C4)], [(4, .box (cC4 0 1 2 3 g_) 27)], (vV4 0 1 2 3 g_ [(5, .sl (rSl rR6) x4.1), (10, .sl rR6 q)]), 13⟩ htt 4 (by kernel_rfl) (wn (wb (wg (ws htt 2 rfl (wn (wu [] (ih40 (H4.1, (w64 (C4 + 1))) h) rfl rfl rfl rfl)))))))
   exact wu [] (ih N (g_.Start, 0) h) rfl rfl rfl rfl
  exact WP.frz 5 rfl (wu [] (ih N (1, 0) h) rfl rfl rfl rfl)
 rcases oc h with ⟨hc, h⟩ | ⟨hc, h⟩
 ·exact wy 18 hc rfl (wx [] ⟨[(1, .I n_), (2, .B 4 0), (4, .O false), (30, .O true)], [(4, .box (cC4 0 1 2 3 g_) 27)], (vV4 0 1 2 3 g_ []), 5⟩ htt 12 (by kernel_rfl) (wn (wu [] (j1 true h) rfl rfl rfl rfl)))
 refine wy 18 hc rfl (ws htt 1 rfl (?_))
 obtain ⟨J4, K4, h⟩ := ob h
 refine wc (z13_ct N g_ _ K4) [(0, .sl 0), (1, .sl 1), (2, .sl 2), (3, .sl 3)] [] rfl rfl rfl rfl rfl rfl rfl rfl (.inl rfl) rfl (wx (rg 8 7) ⟨[(1, .I n_), (2, .B 4 0), (4, .O false), (23, .O (!J4))], [(4, .box (cC4 0 1 2 3 g_) 27)], (vV4 0 1 2 3 g_ []), 5⟩ htt 3 (by kernel_rfl) (?_))
 rcases oc h with ⟨hc, h⟩ | ⟨hc, h⟩
 ·exact wy 23 hc rfl (wx [] ⟨[(1, .I n_), (2, .B 4 0), (4, .O false), (30, .O true)], [(4, .box (cC4 0 1 2 3 g_) 27)], (vV4 0 1 2 3 g_ []), 5⟩ htt 7 (by kernel_rfl) (wn (wu [] (j1 true h) rfl rfl rfl rfl)))
 refine wy 23 hc rfl (wx [11, 12, 13, 14] ⟨[(1, .I n_), (2, .B 4 0), (4, .O false), (23, .O false), (26, .O (decide (n_ > 5)))], [(4, .box (cC4 0 1 2 3 g_) 27)], (vV4 0 1 2 3 g_ []), 5⟩ htt 3 (by kernel_rfl) (?_))
 rcases oc h with ⟨hc, h⟩ | ⟨hc, h⟩
 ·exact wy 26 hc rfl (wx [] ⟨[(1, .I n_), (2, .B 4 0), (4, .O false), (30, .O (decide (n_ ≤ 12)))], [(4, .box (cC4 0 1 2 3 g_) 27)], (vV4 0 1 2 3 g_ []), 5⟩ htt 4 (by kernel_rfl) (wn (wu [] (j1 (decide (n_ ≤ 12)) h) rfl rfl rfl rfl)))
 exact wy 26 hc rfl (wx [] ⟨[(1, .I n_), (2, .B 4 0), (4, .O false), (30, .O false)], [(4, .box (cC4 0 1 2 3 g_) 27)], (vV4 0 1 2 3 g_ []), 5⟩ htt 4 (by kernel_rfl) (wn (wu [] (j1 false h) rfl rfl rfl rfl)))
end Gx
end
