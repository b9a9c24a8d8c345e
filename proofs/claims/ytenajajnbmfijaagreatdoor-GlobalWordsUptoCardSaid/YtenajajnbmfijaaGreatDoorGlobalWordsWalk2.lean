/- Each function of the statement computes what its plain definition says, part 2. -/
import Derived.Test.YtenajajnbmfijaaGreatDoorGlobalWordsWalk1
set_option linter.all false
section
set_option linter.unusedVariables false
set_option maxRecDepth 10000
set_option maxHeartbeats 4000000
open Go Go.Kx Go.Proofs
namespace Gx
theorem z183_10_ct (N : Nat) (data_ : (List Int)) (a_ : Int) (b_ : Int) (n_ : Int) (c0_ : T4) (r : (List Int)) (h : z183_10 N data_ a_ b_ n_ c0_ = some r) :
 Fn Tryz.prog 183 ⟨6, [.S 0, .I a_, .I b_, .I n_, .c (.cl 48 [] [1])], (vV4 2 3 4 5 c0_ []), [(0, .own (rI .i64) data_ false), (1, .box (cC4 2 3 4 5 c0_) 27)], 6, .t [], [], [(0, .own (rI .i64) r false), (1, .box (cC4 2 3 4 5 c0_) 27)]⟩ := by
 refine Fn.intro _ _ Tryz.func183 rfl (by kernel_rfl) rfl (fun E F w => ?_)
 unfold z183_10 at h
 refine wq (wg (ws htt 1 rfl (wn (?_))))
 refine wC (σ := (List Int)) (fun st => ⟨[], [(0, .own (rI .i64) st false), (1, .box (cC4 2 3 4 5 c0_) 27)], (vV4 2 3 4 5 c0_ []), 6⟩) (fun st => z183_10_k1 st = some r) ?_ (fun j1 => ?_)
 ·intro d h
  replace h : z183_10_k1 d = some r := h
  unfold z183_10_k1 at h
  cases h
  exact WP.fin htt Tryz.func183 [] rfl rfl rfl rfl
 refine wo (?_)
 refine wI (σ := (List Int) × Int) (fun st => ⟨[(0, .S 0), (1, .I a_), (2, .I b_), (3, .I n_), (10, .I st.2)], [(0, .own (rI .i64) st.1 false), (1, .box (cC4 2 3 4 5 c0_) 27)], (vV4 2 3 4 5 c0_ []), 6⟩) (fun n st => z183_10_l2 a_ b_ n_ n st.1 st.2) (r := r) (fun _ => rfl) ?_ (fun ih => ?_)
 ·intro n2 ih3
  rintro ⟨e, f⟩ h
  replace h : z183_10_l2 a_ b_ n_ (n2 + 1) e f = some r := h
  unfold z183_10_l2 at h
  refine wq (wq (wg (wx [] ⟨[(0, .S 0), (1, .I a_), (2, .I b_), (3, .I n_), (10, .I f), (13, .O (decide (f < n_)))], [(0, .own (rI .i64) e false), (1, .box (cC4 2 3 4 5 c0_) 27)], (vV4 2 3 4 5 c0_ []), 6⟩ htt 3 (by kernel_rfl) (wn (?_)))))
  rcases oc' h with ⟨hc, h⟩ | ⟨hc, h⟩
  ·exact wf hc rfl (wz rfl (wu [] (j1 e h) rfl rfl rfl rfl))
  refine wt hc rfl (wi (wq (wo (wN (fun A9 g i => ?_)))))
  have j : A9 0 ⟨[(0, .S 0)], [], [], [], 6, [(16, .S 0)], [], [], 6⟩ := g _ _ (wl htt rfl rfl rfl rfl rfl rfl)
  have l : A9 1 ⟨[(1, .I a_)], [], [], [], 6, [(17, .I a_)], [], [], 6⟩ := g _ _ (wl htt rfl rfl rfl rfl rfl rfl)
  have m : A9 2 ⟨[(10, .I f)], [], [], [], 6, [(18, .I f)], [], [], 6⟩ := g _ _ (wl htt rfl rfl rfl rfl rfl rfl)
  have o : A9 3 ⟨[(17, .I a_), (18, .I f)], [], [], [], 6, [(19, .I (w64 (a_ + f)))], [], [], 6⟩ := g _ _ (wl htt rfl rfl rfl rfl rfl rfl)
  have p : A9 4 ⟨[(0, .S 0)], [], [], [], 6, [(20, .S 0)], [], [], 6⟩ := g _ _ (wl htt rfl rfl rfl rfl rfl rfl)
  have q : A9 5 ⟨[(2, .I b_)], [], [], [], 6, [(21, .I b_)], [], [], 6⟩ := g _ _ (wl htt rfl rfl rfl rfl rfl rfl)
  have s : A9 6 ⟨[(10, .I f)], [], [], [], 6, [(22, .I f)], [], [], 6⟩ := g _ _ (wl htt rfl rfl rfl rfl rfl rfl)
  have u : A9 7 ⟨[(21, .I b_), (22, .I f)], [], [], [], 6, [(23, .I (w64 (b_ + f)))], [], [], 6⟩ := g _ _ (wl htt rfl rfl rfl rfl rfl rfl)
  have v : A9 8 ⟨[(0, .S 0)], [], [], [], 6, [(24, .S 0)], [], [], 6⟩ := g _ _ (wl htt rfl rfl rfl rfl rfl rfl)
  have x : A9 9 ⟨[(2, .I b_)], [], [], [], 6, [(25, .I b_)], [], [], 6⟩ := g _ _ (wl htt rfl rfl rfl rfl rfl rfl)
  have y : A9 10 ⟨[(10, .I f)], [], [], [], 6, [(26, .I f)], [], [], 6⟩ := g _ _ (wl htt rfl rfl rfl rfl rfl rfl)
  have z : A9 11 ⟨[(25, .I b_), (26, .I f)], [], [], [], 6, [(27, .I (w64 (b_ + f)))], [], [], 6⟩ := g _ _ (wl htt rfl rfl rfl rfl rfl rfl)
  obtain ⟨A, C, h⟩ := ob h
  have D : A9 12 ⟨[(24, .S 0), (27, .I (w64 (b_ + f)))], [], [], [(0, .own (rI .i64) e false)], 6, [(28, .P 6 0)], [(6, .el 0 (((w64 (b_ + f))).toNat * ((rI .i64)).sz))], [], 7⟩ := g _ _ (wO rfl rfl rfl (fun _ _ _ _ _ _ _ k => wX htt C rfl rfl rfl rfl rfl rfl rfl rfl rfl (k)) rfl)
  have G : A9 13 ⟨[(28, .P 6 0)], [(6, .el 0 (((w64 (b_ + f))).toNat * ((rI .i64)).sz))], [], [(0, .own (rI .i64) e false)], 7, [(29, .I A)], [], [], 7⟩ := g _ _ (wO rfl rfl rfl (fun _ _ _ _ _ _ _ k => wL (oI .i64) htt C rfl rfl rfl rfl rfl rfl rfl rfl rfl rfl (k)) rfl)
  have H : A9 14 ⟨[(0, .S 0)], [], [], [], 7, [(30, .S 0)], [], [], 7⟩ := g _ _ (wl htt rfl rfl rfl rfl rfl rfl)
  have J : A9 15 ⟨[(1, .I a_)], [], [], [], 7, [(31, .I a_)], [], [], 7⟩ := g _ _ (wl htt rfl rfl rfl rfl rfl rfl)
  have K : A9 16 ⟨[(10, .I f)], [], [], [], 7, [(32, .I f)], [], [], 7⟩ := g _ _ (wl htt rfl rfl rfl rfl rfl rfl)
  have Q : A9 17 ⟨[(31, .I a_), (32, .I f)], [], [], [], 7, [(33, .I (w64 (a_ + f)))], [], [], 7⟩ := g _ _ (wl htt rfl rfl rfl rfl rfl rfl)
  obtain ⟨R, T, h⟩ := ob h
  have U : A9 18 ⟨[(30, .S 0), (33, .I (w64 (a_ + f)))], [], [], [(0, .own (rI .i64) e false)], 7, [(34, .P 7 0)], [(7, .el 0 (((w64 (a_ + f))).toNat * ((rI .i64)).sz))], [], 8⟩ := g _ _ (wO rfl rfl rfl (fun _ _ _ _ _ _ _ k => wX htt T rfl rfl rfl rfl rfl rfl rfl rfl rfl (k)) rfl)
  have X : A9 19 ⟨[(34, .P 7 0)], [(7, .el 0 (((w64 (a_ + f))).toNat * ((rI .i64)).sz))], [], [(0, .own (rI .i64) e false)], 8, [(35, .I R)], [], [], 8⟩ := g _ _ (wO rfl rfl rfl (fun _ _ _ _ _ _ _ k => wL (oI .i64) htt T rfl rfl rfl rfl rfl rfl rfl rfl rfl rfl (k)) rfl)
  obtain ⟨Y, Z, h⟩ := ob h
  have a0 : A9 20 ⟨[(16, .S 0), (19, .I (w64 (a_ + f)))], [], [], [(0, .own (rI .i64) e false)], 8, [(36, .P 8 0)], [(8, .el 0 (((w64 (a_ + f))).toNat * ((rI .i64)).sz))], [], 9⟩ := g _ _ (wO rfl rfl rfl (fun _ _ _ _ _ _ _ k => wX htt Z rfl rfl rfl rfl rfl rfl rfl rfl rfl (k)) rfl)
  have b0 : A9 21 ⟨[(29, .I A), (36, .P 8 0)], [(8, .el 0 (((w64 (a_ + f))).toNat * ((rI .i64)).sz))], [(0, .own (rI .i64) e false)], [], 9, [], [], [(0, .own (rI .i64) (setL' e (w64 (a_ + f)) A) false)], 9⟩ := g _ _ (wO rfl rfl rfl (fun _ _ _ _ _ _ _ k => WPr.sto (oI .i64) htt A Z rfl rfl rfl rfl rfl rfl rfl rfl rfl rfl (by exact rfl) rfl (k)) rfl)
  obtain ⟨c0, d0, h⟩ := ob h
  have e0 : A9 22 ⟨[(20, .S 0), (23, .I (w64 (b_ + f)))], [], [], [(0, .own (rI .i64) (setL' e (w64 (a_ + f)) A) false)], 9, [(37, .P 9 0)], [(9, .el 0 (((w64 (b_ + f))).toNat * ((rI .i64)).sz))], [], 10⟩ := g _ _ (wO rfl rfl rfl (fun _ _ _ _ _ _ _ k => wX htt d0 rfl rfl rfl rfl rfl rfl rfl rfl rfl (k)) rfl)
  have f0 : A9 23 ⟨[(35, .I R), (37, .P 9 0)], [(9, .el 0 (((w64 (b_ + f))).toNat * ((rI .i64)).sz))], [(0, .own (rI .i64) (setL' e (w64 (a_ + f)) A) false)], [], 10, [], [], [(0, .own (rI .i64) (setL' (setL' e (w64 (a_ + f)) A) (w64 (b_ + f)) R) false)], 10⟩ := g _ _ (wO rfl rfl rfl (fun _ _ _ _ _ _ _ k => WPr.sto (oI .i64) htt R d0 rfl rfl rfl rfl rfl rfl rfl rfl rfl rfl (by exact rfl) rfl (k)) rfl)
  exact wD (t := ⟨[(0, .S 0), (1, .I a_), (2, .I b_), (3, .I n_), (10, .I f)], [(0, .own (rI .i64) (setL' (setL' e (w64 (a_ + f)) A) (w64 (b_ + f)) R) false), (1, .box (cC4 2 3 4 5 c0_) 27)], (vV4 2 3 4 5 c0_ []), 10⟩) [0, 0, 0, 6, 0, 0, 0, 96, 0, 0, 0, 1536, 3840, 7936, 0, 0, 0, 98304, 245760, 507904, 1048335, 2096911, 4194303, 8388607] (.cons (i _ _ j) (.cons (i _ _ l) (.cons (i _ _ m) (.cons (i _ _ o) (.cons (i _ _ p) (.cons (i _ _ q) (.cons (i _ _ s) (.cons (i _ _ u) (.cons (i _ _ v) (.cons (i _ _ x) (.cons (i _ _ y) (.cons (i _ _ z) (.cons (i _ _ D) (.cons (i _ _ G) (.cons (i _ _ H) (.cons (i _ _ J) (.cons (i _ _ K) (.cons (i _ _ Q) (.cons (i _ _ U) (.cons (i _ _ X) (.cons (i _ _ a0) (.cons (i _ _ b0) (.cons (i _ _ e0) (.cons (i _ _ f0) .nil)))))))))))))))))))))))) (by kernel_rfl) (by kernel_rfl) (by kernel_rfl) (by kernel_rfl) (wb (wg (wx [] ⟨[(0, .S 0), (1, .I a_), (2, .I b_), (3, .I n_), (10, .I (w64 (f + 1)))], [(0, .own (rI .i64) (setL' (setL' e (w64 (a_ + f)) A) (w64 (b_ + f)) R) false), (1, .box (cC4 2 3 4 5 c0_) 27)], (vV4 2 3 4 5 c0_ []), 10⟩ htt 3 (by kernel_rfl) (wn (wu [] (ih3 ((setL' (setL' e (w64 (a_ + f)) A) (w64 (b_ + f)) R), (w64 (f + 1))) h) rfl rfl rfl rfl)))))
 exact wu [] (ih N (data_, 0) h) rfl rfl rfl rfl
theorem z168_11_ct (N : Nat) (data_ : (List Int)) (a_ : Int) (m_ : Int) (b_ : Int) (c0_ : T4) (r : (List Int)) (h : z168_11 N data_ a_ m_ b_ c0_ = some r) :
 Fn Tryz.prog 168 ⟨6, [.S 0, .I a_, .I m_, .I b_, .c (.cl 48 [] [1])], (vV4 2 3 4 5 c0_ []), [(0, .own (rI .i64) data_ false), (1, .box (cC4 2 3 4 5 c0_) 27)], 6, .t [], [], [(0, .own (rI .i64) r false), (1, .box (cC4 2 3 4 5 c0_) 27)]⟩ := by
 refine Fn.intro _ _ Tryz.func168 rfl (by kernel_rfl) rfl (fun E F w => ?_)
 unfold z168_11 at h
 refine wq (wg (wx [] ⟨[(0, .S 0), (2, .I m_), (3, .I b_), (4, .c (.cl 48 [] [1])), (10, .I (w64 (m_ - a_)))], [(0, .own (rI .i64) data_ false), (1, .box (cC4 2 3 4 5 c0_) 27)], (vV4 2 3 4 5 c0_ []), 6⟩ htt 4 (by kernel_rfl) (wn (wq (wg (wx [] ⟨[(0, .S 0), (2, .I m_), (4, .c (.cl 48 [] [1])), (10, .I (w64 (m_ - a_))), (11, .I (w64 (b_ - m_)))], [(0, .own (rI .i64) data_ false), (1, .box (cC4 2 3 4 5 c0_) 27)], (vV4 2 3 4 5 c0_ []), 6⟩ htt 4 (by kernel_rfl) (wn (wq (?_)))))))))
 refine wC (σ := (List Int) × Int) (fun st => ⟨[(0, .S 0), (2, .I m_), (4, .c (.cl 48 [] [1])), (10, .I st.2)], [(0, .own (rI .i64) st.1 false), (1, .box (cC4 2 3 4 5 c0_) 27)], (vV4 2 3 4 5 c0_ []), 6⟩) (fun st => z168_11_k1 N m_ c0_ st.1 st.2 = some r) ?_ (fun j1 => ?_)
 ·rintro ⟨d, e⟩ h
  replace h : z168_11_k1 N m_ c0_ d e = some r := h
  unfold z168_11_k1 at h
  refine wg (wx [7] ⟨[(50, .S 0), (53, .I (w64 (m_ - e))), (54, .I m_), (55, .I e), (56, .c (.cl 48 [] [1]))], [(0, .own (rI .i64) d false), (1, .box (cC4 2 3 4 5 c0_) 27)], (vV4 2 3 4 5 c0_ []), 6⟩ htt 7 (by kernel_rfl) (?_))
  obtain ⟨x9, f, h⟩ := ob h
  refine wc (z183_10_ct N d (w64 (m_ - e)) m_ e c0_ _ f) [(0, .sl 0), (1, .bp 1 0), (2, .sl 2), (3, .sl 3), (4, .sl 4), (5, .sl 5)] [] rfl rfl rfl rfl rfl rfl rfl rfl (.inl rfl) rfl (wx [] ⟨[], [(0, .own (rI .i64) x9 false), (1, .box (cC4 2 3 4 5 c0_) 27)], (vV4 2 3 4 5 c0_ []), 6⟩ htt 0 (by kernel_rfl) (wn (?_)))
  cases h
  exact WP.fin htt Tryz.func168 [] rfl rfl rfl rfl
 refine wo (?_)
 refine wI (σ := (List Int) × Int × Int) (fun st => ⟨[(0, .S 0), (2, .I m_), (4, .c (.cl 48 [] [1])), (10, .I st.2.1), (11, .I st.2.2)], [(0, .own (rI .i64) st.1 false), (1, .box (cC4 2 3 4 5 c0_) 27)], (vV4 2 3 4 5 c0_ []), 6⟩) (fun n st => z168_11_l2 N m_ c0_ n st.1 st.2.1 st.2.2) (r := r) (fun _ => rfl) ?_ (fun ih => ?_)
 ·intro n2 ih3
  rintro ⟨g, i, j⟩ h
  replace h : z168_11_l2 N m_ c0_ (n2 + 1) g i j = some r := h
  unfold z168_11_l2 at h
  refine wq (wq (wg (wx [] ⟨[(0, .S 0), (2, .I m_), (4, .c (.cl 48 [] [1])), (10, .I i), (11, .I j), (20, .O (i != j))], [(0, .own (rI .i64) g false), (1, .box (cC4 2 3 4 5 c0_) 27)], (vV4 2 3 4 5 c0_ []), 6⟩ htt 3 (by kernel_rfl) (wn (?_)))))
  rcases oc' h with ⟨hc, h⟩ | ⟨hc, h⟩
  ·exact wf hc rfl (wz rfl (wu [] (j1 (g, i) h) rfl rfl rfl rfl))
  refine wt hc rfl (wi (wo (wq (wg (wx [] ⟨[(0, .S 0), (2, .I m_), (4, .c (.cl 48 [] [1])), (10, .I i), (11, .I j), (23, .O (decide (i > j)))], [(0, .own (rI .i64) g false), (1, .box (cC4 2 3 4 5 c0_) 27)], (vV4 2 3 4 5 c0_ []), 6⟩ htt 3 (by kernel_rfl) (wn (?_)))))))
  rcases oc h with ⟨hc, h⟩ | ⟨hc, h⟩
  ·refine wt hc rfl (wq (wg (wx [7] ⟨[(0, .S 0), (2, .I m_), (4, .c (.cl 48 [] [1])), (10, .I i), (11, .I j), (24, .S 0), (27, .I (w64 (m_ - i))), (28, .I m_), (29, .I j), (30, .c (.cl 48 [] [1]))], [(0, .own (rI .i64) g false), (1, .box (cC4 2 3 4 5 c0_) 27)], (vV4 2 3 4 5 c0_ []), 6⟩ htt 7 (by kernel_rfl) (?_))))
   obtain ⟨k, l, h⟩ := ob h
   exact wc (z183_10_ct N g (w64 (m_ - i)) m_ j c0_ _ l) [(0, .sl 0), (1, .bp 1 0), (2, .sl 2), (3, .sl 3), (4, .sl 4), (5, .sl 5)] [] rfl rfl rfl rfl rfl rfl rfl rfl (.inl rfl) rfl (wx [] ⟨[(0, .S 0), (2, .I m_), (4, .c (.cl 48 [] [1])), (10, .I i), (11, .I j)], [(0, .own (rI .i64) k false), (1, .box (cC4 2 3 4 5 c0_) 27)], (vV4 2 3 4 5 c0_ []), 6⟩ htt 0 (by kernel_rfl) (wn (wg (wx [] ⟨[(0, .S 0), (2, .I m_), (4, .c (.cl 48 [] [1])), (10, .I (w64 (i - j))), (11, .I j)], [(0, .own (rI .i64) k false), (1, .box (cC4 2 3 4 5 c0_) 27)], (vV4 2 3 4 5 c0_ []), 6⟩ htt 4 (by kernel_rfl) (wn (wb (wu [] (ih3 (k, (w64 (i - j)), j) h) rfl rfl rfl rfl)))))))
  refine wf hc rfl (wq (wg (wx [11] ⟨[(0, .S 0), (2, .I m_), (4, .c (.cl 48 [] [1])), (10, .I i), (11, .I j), (35, .S 0), (38, .I (w64 (m_ - i))), (43, .I (w64 ((w64 (m_ + j)) - i))), (44, .I i), (45, .c (.cl 48 [] [1]))], [(0, .own (rI .i64) g false), (1, .box (cC4 2 3 4 5 c0_) 27)], (vV4 2 3 4 5 c0_ []), 6⟩ htt 11 (by kernel_rfl) (?_))))
  obtain ⟨m, o, h⟩ := ob h
  exact wc (z183_10_ct N g (w64 (m_ - i)) (w64 ((w64 (m_ + j)) - i)) i c0_ _ o) [(0, .sl 0), (1, .bp 1 0), (2, .sl 2), (3, .sl 3), (4, .sl 4), (5, .sl 5)] [] rfl rfl rfl rfl rfl rfl rfl rfl (.inl rfl) rfl (wx [] ⟨[(0, .S 0), (2, .I m_), (4, .c (.cl 48 [] [1])), (10, .I i), (11, .I j)], [(0, .own (rI .i64) m false), (1, .box (cC4 2 3 4 5 c0_) 27)], (vV4 2 3 4 5 c0_ []), 6⟩ htt 0 (by kernel_rfl) (wn (wg (wx [] ⟨[(0, .S 0), (2, .I m_), (4, .c (.cl 48 [] [1])), (10, .I i), (11, .I (w64 (j - i)))], [(0, .own (rI .i64) m false), (1, .box (cC4 2 3 4 5 c0_) 27)], (vV4 2 3 4 5 c0_ []), 6⟩ htt 4 (by kernel_rfl) (wn (wb (wu [] (ih3 (m, i, (w64 (j - i))) h) rfl rfl rfl rfl)))))))
 exact wu [] (ih N (data_, (w64 (m_ - a_)), (w64 (b_ - m_))) h) rfl rfl rfl rfl
theorem z147_12_ct (N : Nat) (rc_slices_symMergeCmpFunc_int_of_global_Edges_1 : (List Int) → Int → Int → Int → T4 → Option (List Int)) (rc_slices_symMergeCmpFunc_int_of_global_Edges_1_ct : (∀ (data_ : (List Int)) (a_ : Int) (m_ : Int) (b_ : Int) (c0_ : T4) (r : (List Int)), rc_slices_symMergeCmpFunc_int_of_global_Edges_1 data_ a_ m_ b_ c0_ = some r → Fn Tryz.prog 147 ⟨6, [.S 0, .I a_, .I m_, .I b_, .c (.cl 48 [] [1])], (vV4 2 3 4 5 c0_ []), [(0, .own (rI .i64) data_ false), (1, .box (cC4 2 3 4 5 c0_) 27)], 6, .t [], [], [(0, .own (rI .i64) r false), (1, .box (cC4 2 3 4 5 c0_) 27)]⟩)) (data_ : (List Int)) (a_ : Int) (m_ : Int) (b_ : Int) (c0_ : T4) (r : (List Int)) (h : z147_12 N rc_slices_symMergeCmpFunc_int_of_global_Edges_1 data_ a_ m_ b_ c0_ = some r) :
 Fn Tryz.prog 147 ⟨6, [.S 0, .I a_, .I m_, .I b_, .c (.cl 48 [] [1])], (vV4 2 3 4 5 c0_ []), [(0, .own (rI .i64) data_ false), (1, .box (cC4 2 3 4 5 c0_) 27)], 6, .t [], [], [(0, .own (rI .i64) r false), (1, .box (cC4 2 3 4 5 c0_) 27)]⟩ := by
 refine Fn.intro _ _ Tryz.func147 rfl (by kernel_rfl) rfl (fun E F w => ?_)
 unfold z147_12 at h
 refine wq (wq (wg (wx [] ⟨[(0, .S 0), (1, .I a_), (2, .I m_), (3, .I b_), (4, .c (.cl 48 [] [1])), (28, .O ((w64 (m_ - a_)) == 1))], [(0, .own (rI .i64) data_ false), (1, .box (cC4 2 3 4 5 c0_) 27)], (vV4 2 3 4 5 c0_ []), 6⟩ htt 4 (by kernel_rfl) (wn (?_)))))
 rcases oc h with ⟨hc, h⟩ | ⟨hc, h⟩
 ·refine wt hc rfl (wq (wg (ws htt 2 rfl (wn (wq (wg (wx [] ⟨[(0, .S 0), (1, .I a_), (4, .c (.cl 48 [] [1])), (10, .I m_), (11, .I b_)], [(0, .own (rI .i64) data_ false), (1, .box (cC4 2 3 4 5 c0_) 27)], (vV4 2 3 4 5 c0_ []), 6⟩ htt 2 (by kernel_rfl) (wn (wq (?_))))))))))
  refine wC (σ := Int) (fun st => ⟨[(0, .S 0), (1, .I a_), (10, .I st)], [(0, .own (rI .i64) data_ false), (1, .box (cC4 2 3 4 5 c0_) 27)], (vV4 2 3 4 5 c0_ []), 6⟩) (fun st => slices_symMergeCmpFunc_int_of_global_Edges_1_k3 N data_ a_ st = some r) ?_ (fun j1 => ?_)
  ·intro d h
   replace h : slices_symMergeCmpFunc_int_of_global_Edges_1_k3 N data_ a_ d = some r := h
   unfold slices_symMergeCmpFunc_int_of_global_Edges_1_k3 at h
   refine wq (wq (wg (ws htt 2 rfl (wn (?_)))))
   refine wC (σ := (List Int)) (fun st => ⟨[], [(0, .own (rI .i64) st false), (1, .box (cC4 2 3 4 5 c0_) 27)], (vV4 2 3 4 5 c0_ []), 6⟩) (fun st => slices_symMergeCmpFunc_int_of_global_Edges_1_k1 st = some r) ?_ (fun j3 => ?_)
   ·intro e h
    replace h : slices_symMergeCmpFunc_int_of_global_Edges_1_k1 e = some r := h
    unfold slices_symMergeCmpFunc_int_of_global_Edges_1_k1 at h
    cases h
    exact we htt Tryz.func147 [] rfl rfl rfl rfl
   refine wo (?_)
   refine wI (σ := (List Int) × Int) (fun st => ⟨[(0, .S 0), (10, .I d), (13, .I st.2)], [(0, .own (rI .i64) st.1 false), (1, .box (cC4 2 3 4 5 c0_) 27)], (vV4 2 3 4 5 c0_ []), 6⟩) (fun n st => slices_symMergeCmpFunc_int_of_global_Edges_1_l2 d n st.1 st.2) (r := r) (fun _ => rfl) ?_ (fun ih => ?_)
   ·intro n3 ih5
    rintro ⟨f, g⟩ h
    replace h : slices_symMergeCmpFunc_int_of_global_Edges_1_l2 d (n3 + 1) f g = some r := h
    unfold slices_symMergeCmpFunc_int_of_global_Edges_1_l2 at h
    refine wq (wq (wg (wx [] ⟨[(0, .S 0), (10, .I d), (13, .I g), (58, .O (decide (g < (w64 (d - 1)))))], [(0, .own (rI .i64) f false), (1, .box (cC4 2 3 4 5 c0_) 27)], (vV4 2 3 4 5 c0_ []), 6⟩ htt 4 (by kernel_rfl) (wn (?_)))))
    rcases oc' h with ⟨hc, h⟩ | ⟨hc, h⟩
    ·exact wf hc rfl (wz rfl (wu [] (j3 f h) rfl rfl rfl rfl))
    refine wt hc rfl (wi (wq (wo (wN (fun j l m => ?_)))))
    have o : j 0 ⟨[(0, .S 0)], [], [], [], 6, [(61, .S 0)], [], [], 6⟩ := l _ _ (wl htt rfl rfl rfl rfl rfl rfl)
    have p : j 1 ⟨[(13, .I g)], [], [], [], 6, [(62, .I g)], [], [], 6⟩ := l _ _ (wl htt rfl rfl rfl rfl rfl rfl)
    have q : j 2 ⟨[(0, .S 0)], [], [], [], 6, [(63, .S 0)], [], [], 6⟩ := l _ _ (wl htt rfl rfl rfl rfl rfl rfl)
    have s : j 3 ⟨[(13, .I g)], [], [], [], 6, [(64, .I g)], [], [], 6⟩ := l _ _ (wl htt rfl rfl rfl rfl rfl rfl)
    have u : j 4 ⟨[(64, .I g)], [], [], [], 6, [(65, .I (w64 (g + 1)))], [], [], 6⟩ := l _ _ (wl htt rfl rfl rfl rfl rfl rfl)
    have v : j 5 ⟨[(0, .S 0)], [], [], [], 6, [(66, .S 0)], [], [], 6⟩ := l _ _ (wl htt rfl rfl rfl rfl rfl rfl)
    have x : j 6 ⟨[(13, .I g)], [], [], [], 6, [(67, .I g)], [], [], 6⟩ := l _ _ (wl htt rfl rfl rfl rfl rfl rfl)
    have y : j 7 ⟨[(67, .I g)], [], [], [], 6, [(68, .I (w64 (g + 1)))], [], [], 6⟩ := l _ _ (wl htt rfl rfl rfl rfl rfl rfl)
    obtain ⟨z, A, h⟩ := ob h
    have C : j 8 ⟨[(66, .S 0), (68, .I (w64 (g + 1)))], [], [], [(0, .own (rI .i64) f false)], 6, [(69, .P 6 0)], [(6, .el 0 (((w64 (g + (1 : Int)))).toNat * ((rI .i64)).sz))], [], 7⟩ := l _ _ (wO rfl rfl rfl (fun _ _ _ _ _ _ _ k => wX htt A rfl rfl rfl rfl rfl rfl rfl rfl rfl (k)) rfl)
    have D : j 9 ⟨[(69, .P 6 0)], [(6, .el 0 (((w64 (g + (1 : Int)))).toNat * ((rI .i64)).sz))], [], [(0, .own (rI .i64) f false)], 7, [(70, .I z)], [], [], 7⟩ := l _ _ (wO rfl rfl rfl (fun _ _ _ _ _ _ _ k => wL (oI .i64) htt A rfl rfl rfl rfl rfl rfl rfl rfl rfl rfl (k)) rfl)
    have G : j 10 ⟨[(0, .S 0)], [], [], [], 7, [(71, .S 0)], [], [], 7⟩ := l _ _ (wl htt rfl rfl rfl rfl rfl rfl)
    have H : j 11 ⟨[(13, .I g)], [], [], [], 7, [(72, .I g)], [], [], 7⟩ := l _ _ (wl htt rfl rfl rfl rfl rfl rfl)
    obtain ⟨J, K, h⟩ := ob h
    have Q : j 12 ⟨[(71, .S 0), (72, .I g)], [], [], [(0, .own (rI .i64) f false)], 7, [(73, .P 7 0)], [(7, .el 0 ((g).toNat * ((rI .i64)).sz))], [], 8⟩ := l _ _ (wO rfl rfl rfl (fun _ _ _ _ _ _ _ k => wX htt K rfl rfl rfl rfl rfl rfl rfl rfl rfl (k)) rfl)
    have R : j 13 ⟨[(73, .P 7 0)], [(7, .el 0 ((g).toNat * ((rI .i64)).sz))], [], [(0, .own (rI .i64) f false)], 8, [(74, .I J)], [], [], 8⟩ := l _ _ (wO rfl rfl rfl (fun _ _ _ _ _ _ _ k => wL (oI .i64) htt K rfl rfl rfl rfl rfl rfl rfl rfl rfl rfl (k)) rfl)
    obtain ⟨T, U, h⟩ := ob h
    have X : j 14 ⟨[(61, .S 0), (62, .I g)], [], [], [(0, .own (rI .i64) f false)], 8, [(75, .P 8 0)], [(8, .el 0 ((g).toNat * ((rI .i64)).sz))], [], 9⟩ := l _ _ (wO rfl rfl rfl (fun _ _ _ _ _ _ _ k => wX htt U rfl rfl rfl rfl rfl rfl rfl rfl rfl (k)) rfl)
    have Y : j 15 ⟨[(70, .I z), (75, .P 8 0)], [(8, .el 0 ((g).toNat * ((rI .i64)).sz))], [(0, .own (rI .i64) f false)], [], 9, [], [], [(0, .own (rI .i64) (setL' f g z) false)], 9⟩ := l _ _ (wO rfl rfl rfl (fun _ _ _ _ _ _ _ k => WPr.sto (oI .i64) htt z U rfl rfl rfl rfl rfl rfl rfl rfl rfl rfl (by exact rfl) rfl (k)) rfl)
    obtain ⟨Z, a0, h⟩ := ob h
    have b0 : j 16 ⟨[(63, .S 0), (65, .I (w64 (g + 1)))], [], [], [(0, .own (rI .i64) (setL' f g z) false)], 9, [(76, .P 9 0)], [(9, .el 0 (((w64 (g + (1 : Int)))).toNat * ((rI .i64)).sz))], [], 10⟩ := l _ _ (wO rfl rfl rfl (fun _ _ _ _ _ _ _ k => wX htt a0 rfl rfl rfl rfl rfl rfl rfl rfl rfl (k)) rfl)
    have c0 : j 17 ⟨[(74, .I J), (76, .P 9 0)], [(9, .el 0 (((w64 (g + (1 : Int)))).toNat * ((rI .i64)).sz))], [(0, .own (rI .i64) (setL' f g z) false)], [], 10, [], [], [(0, .own (rI .i64) (setL' (setL' f g z) (w64 (g + 1)) J) false)], 10⟩ := l _ _ (wO rfl rfl rfl (fun _ _ _ _ _ _ _ k => WPr.sto (oI .i64) htt J a0 rfl rfl rfl rfl rfl rfl rfl rfl rfl rfl (by exact rfl) rfl (k)) rfl)
    exact wD (t := ⟨[(0, .S 0), (10, .I d), (13, .I g)], [(0, .own (rI .i64) (setL' (setL' f g z) (w64 (g + 1)) J) false), (1, .box (cC4 2 3 4 5 c0_) 27)], (vV4 2 3 4 5 c0_ []), 10⟩) [0, 0, 0, 0, 8, 0, 0, 64, 224, 480, 0, 0, 3072, 7168, 16355, 32739, 65535, 131071] (.cons (m _ _ o) (.cons (m _ _ p) (.cons (m _ _ q) (.cons (m _ _ s) (.cons (m _ _ u) (.cons (m _ _ v) (.cons (m _ _ x) (.cons (m _ _ y) (.cons (m _ _ C) (.cons (m _ _ D) (.cons (m _ _ G) (.cons (m _ _ H) (.cons (m _ _ Q) (.cons (m _ _ R) (.cons (m _ _ X) (.cons (m _ _ Y) (.cons (m _ _ b0) (.cons (m _ _ c0) .nil)))))))))))))))))) (by kernel_rfl) (by kernel_rfl) (by kernel_rfl) (by kernel_rfl) (wb (wg (wx [] ⟨[(0, .S 0), (10, .I d), (13, .I (w64 (g + 1)))], [(0, .own (rI .i64) (setL' (setL' f g z) (w64 (g + 1)) J) false), (1, .box (cC4 2 3 4 5 c0_) 27)], (vV4 2 3 4 5 c0_ []), 10⟩ htt 3 (by kernel_rfl) (wn (wu [] (ih5 ((setL' (setL' f g z) (w64 (g + 1)) J), (w64 (g + 1))) h) rfl rfl rfl rfl)))))
   exact wu [] (ih N (data_, a_) h) rfl rfl rfl rfl
  refine wo (?_)
  refine wI (σ := Int × Int) (fun st => ⟨[(0, .S 0), (1, .I a_), (4, .c (.cl 48 [] [1])), (10, .I st.1), (11, .I st.2)], [(0, .own (rI .i64) data_ false), (1, .box (cC4 2 3 4 5 c0_) 27)], (vV4 2 3 4 5 c0_ []), 6⟩) (fun n st => slices_symMergeCmpFunc_int_of_global_Edges_1_l4 N data_ a_ c0_ n st.1 st.2) (r := r) (fun _ => rfl) ?_ (fun ih => ?_)
  ·intro n4 ih6
   rintro ⟨d0, e0⟩ h
   replace h : slices_symMergeCmpFunc_int_of_global_Edges_1_l4 N data_ a_ c0_ (n4 + 1) d0 e0 = some r := h
   unfold slices_symMergeCmpFunc_int_of_global_Edges_1_l4 at h
   refine wq (wq (wg (wx [] ⟨[(0, .S 0), (1, .I a_), (4, .c (.cl 48 [] [1])), (10, .I d0), (11, .I e0), (33, .O (decide (d0 < e0)))], [(0, .own (rI .i64) data_ false), (1, .box (cC4 2 3 4 5 c0_) 27)], (vV4 2 3 4 5 c0_ []), 6⟩ htt 3 (by kernel_rfl) (wn (?_)))))
   rcases oc' h with ⟨hc, h⟩ | ⟨hc, h⟩
   ·exact wf hc rfl (wz rfl (wu [] (j1 d0 h) rfl rfl rfl rfl))
   refine wt hc rfl (wi (wo (wq (wg (wx [4, 5, 6] ⟨[(0, .S 0), (1, .I a_), (4, .c (.cl 48 [] [1])), (10, .I d0), (11, .I e0), (37, .c (.i .u64 (wk .u64 ((w64 (d0 + e0))))))], [(0, .own (rI .i64) data_ false), (1, .box (cC4 2 3 4 5 c0_) 27)], (vV4 2 3 4 5 c0_ []), 6⟩ htt 4 (by kernel_rfl) (?_))))))
   obtain ⟨f0, g0, h⟩ := ob h
   refine WPr.bin g0 rfl rfl rfl rfl rfl rfl rfl rfl (wx [] ⟨[(0, .S 0), (1, .I a_), (4, .c (.cl 48 [] [1])), (10, .I d0), (11, .I e0), (12, .I (w64 (f0)))], [(0, .own (rI .i64) data_ false), (1, .box (cC4 2 3 4 5 c0_) 27)], (vV4 2 3 4 5 c0_ []), 6⟩ htt 2 (by kernel_rfl) (wn (wq (wN (fun i0 j0 k0 => ?_)))))
   have l0 : i0 0 ⟨[(4, .c (.cl 48 [] [1]))], [], [], [], 6, [(40, .c (.cl 48 [] [1]))], [], [], 6⟩ := j0 _ _ (wl htt rfl rfl rfl rfl rfl rfl)
   have m0 : i0 1 ⟨[(0, .S 0)], [], [], [], 6, [(41, .S 0)], [], [], 6⟩ := j0 _ _ (wl htt rfl rfl rfl rfl rfl rfl)
   have o0 : i0 2 ⟨[(12, .I (w64 (f0)))], [], [], [], 6, [(42, .I (w64 (f0)))], [], [], 6⟩ := j0 _ _ (wl htt rfl rfl rfl rfl rfl rfl)
   obtain ⟨p0, q0, h⟩ := ob h
   have s0 : i0 3 ⟨[(41, .S 0), (42, .I (w64 (f0)))], [], [], [(0, .own (rI .i64) data_ false)], 6, [(43, .P 6 0)], [(6, .el 0 (((w64 (f0))).toNat * ((rI .i64)).sz))], [], 7⟩ := j0 _ _ (wO rfl rfl rfl (fun _ _ _ _ _ _ _ k => wX htt q0 rfl rfl rfl rfl rfl rfl rfl rfl rfl (k)) rfl)
   have t0 : i0 4 ⟨[(43, .P 6 0)], [(6, .el 0 (((w64 (f0))).toNat * ((rI .i64)).sz))], [], [(0, .own (rI .i64) data_ false)], 7, [(44, .I p0)], [], [], 7⟩ := j0 _ _ (wO rfl rfl rfl (fun _ _ _ _ _ _ _ k => wL (oI .i64) htt q0 rfl rfl rfl rfl rfl rfl rfl rfl rfl rfl (k)) rfl)
   have u0 : i0 5 ⟨[(0, .S 0)], [], [], [], 7, [(45, .S 0)], [], [], 7⟩ := j0 _ _ (wl htt rfl rfl rfl rfl rfl rfl)
   have v0 : i0 6 ⟨[(1, .I a_)], [], [], [], 7, [(46, .I a_)], [], [], 7⟩ := j0 _ _ (wl htt rfl rfl rfl rfl rfl rfl)
   obtain ⟨x0, y0, h⟩ := ob h
   have z0 : i0 7 ⟨[(45, .S 0), (46, .I a_)], [], [], [(0, .own (rI .i64) data_ false)], 7, [(47, .P 7 0)], [(7, .el 0 ((a_).toNat * ((rI .i64)).sz))], [], 8⟩ := j0 _ _ (wO rfl rfl rfl (fun _ _ _ _ _ _ _ k => wX htt y0 rfl rfl rfl rfl rfl rfl rfl rfl rfl (k)) rfl)
   have A0 : i0 8 ⟨[(47, .P 7 0)], [(7, .el 0 ((a_).toNat * ((rI .i64)).sz))], [], [(0, .own (rI .i64) data_ false)], 8, [(48, .I x0)], [], [], 8⟩ := j0 _ _ (wO rfl rfl rfl (fun _ _ _ _ _ _ _ k => wL (oI .i64) htt y0 rfl rfl rfl rfl rfl rfl rfl rfl rfl rfl (k)) rfl)
   obtain ⟨B0, C0, h⟩ := ob h
   have D0 : i0 9 ⟨[(40, .c (.cl 48 [] [1])), (44, .I p0), (48, .I x0)], (vV4 2 3 4 5 c0_ []), [], [(1, .box (cC4 2 3 4 5 c0_) 27)], 8, [(49, .I B0)], [], [], 8⟩ := j0 _ _ (wO rfl rfl rfl (fun _ _ _ _ _ _ _ k => WPr.callc (z48_8_ct N p0 x0 c0_ _ C0) [(0, .bp 1 0), (1, .sl 2), (2, .sl 3), (3, .sl 4), (4, .sl 5)] [] rfl rfl rfl rfl rfl rfl rfl rfl rfl (.inl rfl) rfl (k)) rfl)
   have G0 : i0 10 ⟨[(49, .I B0)], [], [], [], 8, [(50, .O (decide (B0 < 0)))], [], [], 8⟩ := j0 _ _ (wl htt rfl rfl rfl rfl rfl rfl)
   refine wD (t := ⟨[(0, .S 0), (1, .I a_), (4, .c (.cl 48 [] [1])), (10, .I d0), (11, .I e0), (12, .I (w64 (f0))), (50, .O (decide (B0 < 0)))], [(0, .own (rI .i64) data_ false), (1, .box (cC4 2 3 4 5 c0_) 27)], (vV4 2 3 4 5 c0_ []), 8⟩) [0, 0, 0, 6, 14, 0, 0, 96, 224, 511, 1023] (.cons (k0 _ _ l0) (.cons (k0 _ _ m0) (.cons (k0 _ _ o0) (.cons (k0 _ _ s0) (.cons (k0 _ _ t0) (.cons (k0 _ _ u0) (.cons (k0 _ _ v0) (.cons (k0 _ _ z0) (.cons (k0 _ _ A0) (.cons (k0 _ _ D0) (.cons (k0 _ _ G0) .nil))))))))))) (by kernel_rfl) (by kernel_rfl) (by kernel_rfl) (by kernel_rfl) (?_)
   rcases oc h with ⟨hc, h⟩ | ⟨hc, h⟩
   ·exact wt hc rfl (wg (wx [] ⟨[(0, .S 0), (1, .I a_), (4, .c (.cl 48 [] [1])), (10, .I (w64 ((w64 (f0)) + 1))), (11, .I e0)], [(0, .own (rI .i64) data_ false), (1, .box (cC4 2 3 4 5 c0_) 27)], (vV4 2 3 4 5 c0_ []), 8⟩ htt 3 (by kernel_rfl) (wn (wb (wu [] (ih6 ((w64 ((w64 (f0)) + 1)), e0) h) rfl rfl rfl rfl)))))
   exact wf hc rfl (wg (ws htt 2 rfl (wn (wb (wu [] (ih6 (d0, (w64 (f0))) h) rfl rfl rfl rfl)))))
  exact wu [] (ih N (m_, b_) h) rfl rfl rfl rfl
 refine wf hc rfl (wi (wq (wq (wg (wx [] ⟨[(0, .S 0), (1, .I a_), (2, .I m_), (3, .I b_), (4, .c (.cl 48 [] [1])), (80, .O ((w64 (b_ - m_)) == 1))], [(0, .own (rI .i64) data_ false), (1, .box (cC4 2 3 4 5 c0_) 27)], (vV4 2 3 4 5 c0_ []), 6⟩ htt 4 (by kernel_rfl) (wn (?_)))))))
 rcases oc h with ⟨hc, h⟩ | ⟨hc, h⟩
 ·refine wt hc rfl (wq (wg (ws htt 2 rfl (wn (wq (wg (wx [] ⟨[(0, .S 0), (2, .I m_), (4, .c (.cl 48 [] [1])), (14, .I a_), (15, .I m_)], [(0, .own (rI .i64) data_ false), (1, .box (cC4 2 3 4 5 c0_) 27)], (vV4 2 3 4 5 c0_ []), 6⟩ htt 2 (by kernel_rfl) (wn (wq (?_))))))))))
  refine wC (σ := Int) (fun st => ⟨[(0, .S 0), (2, .I m_), (14, .I st)], [(0, .own (rI .i64) data_ false), (1, .box (cC4 2 3 4 5 c0_) 27)], (vV4 2 3 4 5 c0_ []), 6⟩) (fun st => slices_symMergeCmpFunc_int_of_global_Edges_1_k7 N data_ m_ st = some r) ?_ (fun j7 => ?_)
  ·intro H0 h
   replace h : slices_symMergeCmpFunc_int_of_global_Edges_1_k7 N data_ m_ H0 = some r := h
   unfold slices_symMergeCmpFunc_int_of_global_Edges_1_k7 at h
   refine wq (wq (wg (ws htt 2 rfl (wn (?_)))))
   refine wC (σ := (List Int)) (fun st => ⟨[], [(0, .own (rI .i64) st false), (1, .box (cC4 2 3 4 5 c0_) 27)], (vV4 2 3 4 5 c0_ []), 6⟩) (fun st => slices_symMergeCmpFunc_int_of_global_Edges_1_k5 st = some r) ?_ (fun j9 => ?_)
   ·intro I0 h
    replace h : slices_symMergeCmpFunc_int_of_global_Edges_1_k5 I0 = some r := h
    unfold slices_symMergeCmpFunc_int_of_global_Edges_1_k5 at h
    cases h
    exact we htt Tryz.func147 [] rfl rfl rfl rfl
   refine wo (?_)
   refine wI (σ := (List Int) × Int) (fun st => ⟨[(0, .S 0), (14, .I H0), (17, .I st.2)], [(0, .own (rI .i64) st.1 false), (1, .box (cC4 2 3 4 5 c0_) 27)], (vV4 2 3 4 5 c0_ []), 6⟩) (fun n st => slices_symMergeCmpFunc_int_of_global_Edges_1_l6 H0 n st.1 st.2) (r := r) (fun _ => rfl) ?_ (fun ih => ?_)
   ·intro n7 ih11
    rintro ⟨J0, K0⟩ h
    replace h : slices_symMergeCmpFunc_int_of_global_Edges_1_l6 H0 (n7 + 1) J0 K0 = some r := h
    unfold slices_symMergeCmpFunc_int_of_global_Edges_1_l6 at h
    refine wq (wq (wg (wx [] ⟨[(0, .S 0), (14, .I H0), (17, .I K0), (110, .O (decide (K0 > H0)))], [(0, .own (rI .i64) J0 false), (1, .box (cC4 2 3 4 5 c0_) 27)], (vV4 2 3 4 5 c0_ []), 6⟩ htt 3 (by kernel_rfl) (wn (?_)))))
    rcases oc' h with ⟨hc, h⟩ | ⟨hc, h⟩
    ·exact wf hc rfl (wz rfl (wu [] (j9 J0 h) rfl rfl rfl rfl))
    refine wt hc rfl (wi (wq (wo (wN (fun L0 M0 O0 => ?_)))))
    have Q0 : L0 0 ⟨[(0, .S 0)], [], [], [], 6, [(113, .S 0)], [], [], 6⟩ := M0 _ _ (wl htt rfl rfl rfl rfl rfl rfl)
    have R0 : L0 1 ⟨[(17, .I K0)], [], [], [], 6, [(114, .I K0)], [], [], 6⟩ := M0 _ _ (wl htt rfl rfl rfl rfl rfl rfl)
    have S0 : L0 2 ⟨[(0, .S 0)], [], [], [], 6, [(115, .S 0)], [], [], 6⟩ := M0 _ _ (wl htt rfl rfl rfl rfl rfl rfl)
    have T0 : L0 3 ⟨[(17, .I K0)], [], [], [], 6, [(116, .I K0)], [], [], 6⟩ := M0 _ _ (wl htt rfl rfl rfl rfl rfl rfl)
    have U0 : L0 4 ⟨[(116, .I K0)], [], [], [], 6, [(117, .I (w64 (K0 - 1)))], [], [], 6⟩ := M0 _ _ (wl htt rfl rfl rfl rfl rfl rfl)
    have V0 : L0 5 ⟨[(0, .S 0)], [], [], [], 6, [(118, .S 0)], [], [], 6⟩ := M0 _ _ (wl htt rfl rfl rfl rfl rfl rfl)
    have X0 : L0 6 ⟨[(17, .I K0)], [], [], [], 6, [(119, .I K0)], [], [], 6⟩ := M0 _ _ (wl htt rfl rfl rfl rfl rfl rfl)
    have Y0 : L0 7 ⟨[(119, .I K0)], [], [], [], 6, [(120, .I (w64 (K0 - 1)))], [], [], 6⟩ := M0 _ _ (wl htt rfl rfl rfl rfl rfl rfl)
    obtain ⟨Z0, a1, h⟩ := ob h
    have b1 : L0 8 ⟨[(118, .S 0), (120, .I (w64 (K0 - 1)))], [], [], [(0, .own (rI .i64) J0 false)], 6, [(121, .P 6 0)], [(6, .el 0 (((w64 (K0 - (1 : Int)))).toNat * ((rI .i64)).sz))], [], 7⟩ := M0 _ _ (wO rfl rfl rfl (fun _ _ _ _ _ _ _ k => wX htt a1 rfl rfl rfl rfl rfl rfl rfl rfl rfl (k)) rfl)
    have c1 : L0 9 ⟨[(121, .P 6 0)], [(6, .el 0 (((w64 (K0 - (1 : Int)))).toNat * ((rI .i64)).sz))], [], [(0, .own (rI .i64) J0 false)], 7, [(122, .I Z0)], [], [], 7⟩ := M0 _ _ (wO rfl rfl rfl (fun _ _ _ _ _ _ _ k => wL (oI .i64) htt a1 rfl rfl rfl rfl rfl rfl rfl rfl rfl rfl (k)) rfl)
    have d1 : L0 10 ⟨[(0, .S 0)], [], [], [], 7, [(123, .S 0)], [], [], 7⟩ := M0 _ _ (wl htt rfl rfl rfl rfl rfl rfl)
    have e1 : L0 11 ⟨[(17, .I K0)], [], [], [], 7, [(124, .I K0)], [], [], 7⟩ := M0 _ _ (wl htt rfl rfl rfl rfl rfl rfl)
    obtain ⟨f1, g1, h⟩ := ob h
    have i1 : L0 12 ⟨[(123, .S 0), (124, .I K0)], [], [], [(0, .own (rI .i64) J0 false)], 7, [(125, .P 7 0)], [(7, .el 0 ((K0).toNat * ((rI .i64)).sz))], [], 8⟩ := M0 _ _ (wO rfl rfl rfl (fun _ _ _ _ _ _ _ k => wX htt g1 rfl rfl rfl rfl rfl rfl rfl rfl rfl (k)) rfl)
    have k1 : L0 13 ⟨[(125, .P 7 0)], [(7, .el 0 ((K0).toNat * ((rI .i64)).sz))], [], [(0, .own (rI .i64) J0 false)], 8, [(126, .I f1)], [], [], 8⟩ := M0 _ _ (wO rfl rfl rfl (fun _ _ _ _ _ _ _ k => wL (oI .i64) htt g1 rfl rfl rfl rfl rfl rfl rfl rfl rfl rfl (k)) rfl)
    obtain ⟨l1, m1, h⟩ := ob h
    have o1 : L0 14 ⟨[(113, .S 0), (114, .I K0)], [], [], [(0, .own (rI .i64) J0 false)], 8, [(127, .P 8 0)], [(8, .el 0 ((K0).toNat * ((rI .i64)).sz))], [], 9⟩ := M0 _ _ (wO rfl rfl rfl (fun _ _ _ _ _ _ _ k => wX htt m1 rfl rfl rfl rfl rfl rfl rfl rfl rfl (k)) rfl)
    have p1 : L0 15 ⟨[(122, .I Z0), (127, .P 8 0)], [(8, .el 0 ((K0).toNat * ((rI .i64)).sz))], [(0, .own (rI .i64) J0 false)], [], 9, [], [], [(0, .own (rI .i64) (setL' J0 K0 Z0) false)], 9⟩ := M0 _ _ (wO rfl rfl rfl (fun _ _ _ _ _ _ _ k => WPr.sto (oI .i64) htt Z0 m1 rfl rfl rfl rfl rfl rfl rfl rfl rfl rfl (by exact rfl) rfl (k)) rfl)
    obtain ⟨q1, s1, h⟩ := ob h
    have t1 : L0 16 ⟨[(115, .S 0), (117, .I (w64 (K0 - 1)))], [], [], [(0, .own (rI .i64) (setL' J0 K0 Z0) false)], 9, [(128, .P 9 0)], [(9, .el 0 (((w64 (K0 - (1 : Int)))).toNat * ((rI .i64)).sz))], [], 10⟩ := M0 _ _ (wO rfl rfl rfl (fun _ _ _ _ _ _ _ k => wX htt s1 rfl rfl rfl rfl rfl rfl rfl rfl rfl (k)) rfl)
    have u1 : L0 17 ⟨[(126, .I f1), (128, .P 9 0)], [(9, .el 0 (((w64 (K0 - (1 : Int)))).toNat * ((rI .i64)).sz))], [(0, .own (rI .i64) (setL' J0 K0 Z0) false)], [], 10, [], [], [(0, .own (rI .i64) (setL' (setL' J0 K0 Z0) (w64 (K0 - 1)) f1) false)], 10⟩ := M0 _ _ (wO rfl rfl rfl (fun _ _ _ _ _ _ _ k => WPr.sto (oI .i64) htt f1 s1 rfl rfl rfl rfl rfl rfl rfl rfl rfl rfl (by exact rfl) rfl (k)) rfl)
    exact wD (t := ⟨[(0, .S 0), (14, .I H0), (17, .I K0)], [(0, .own (rI .i64) (setL' (setL' J0 K0 Z0) (w64 (K0 - 1)) f1) false), (1, .box (cC4 2 3 4 5 c0_) 27)], (vV4 2 3 4 5 c0_ []), 10⟩) [0, 0, 0, 0, 8, 0, 0, 64, 224, 480, 0, 0, 3072, 7168, 16355, 32739, 65535, 131071] (.cons (O0 _ _ Q0) (.cons (O0 _ _ R0) (.cons (O0 _ _ S0) (.cons (O0 _ _ T0) (.cons (O0 _ _ U0) (.cons (O0 _ _ V0) (.cons (O0 _ _ X0) (.cons (O0 _ _ Y0) (.cons (O0 _ _ b1) (.cons (O0 _ _ c1) (.cons (O0 _ _ d1) (.cons (O0 _ _ e1) (.cons (O0 _ _ i1) (.cons (O0 _ _ k1) (.cons (O0 _ _ o1) (.cons (O0 _ _ p1) (.cons (O0 _ _ t1) (.cons (O0 _ _ u1) .nil)))))))))))))))))) (by kernel_rfl) (by kernel_rfl) (by kernel_rfl) (by kernel_rfl) (wb (wg (wx [] ⟨[(0, .S 0), (14, .I H0), (17, .I (w64 (K0 - 1)))], [(0, .own (rI .i64) (setL' (setL' J0 K0 Z0) (w64 (K0 - 1)) f1) false), (1, .box (cC4 2 3 4 5 c0_) 27)], (vV4 2 3 4 5 c0_ []), 10⟩ htt 3 (by kernel_rfl) (wn (wu [] (ih11 ((setL' (setL' J0 K0 Z0) (w64 (K0 - 1)) f1), (w64 (K0 - 1))) h) rfl rfl rfl rfl)))))
   exact wu [] (ih N (data_, m_) h) rfl rfl rfl rfl
  refine wo (?_)
  refine wI (σ := Int × Int) (fun st => ⟨[(0, .S 0), (2, .I m_), (4, .c (.cl 48 [] [1])), (14, .I st.1), (15, .I st.2)], [(0, .own (rI .i64) data_ false), (1, .box (cC4 2 3 4 5 c0_) 27)], (vV4 2 3 4 5 c0_ []), 6⟩) (fun n st => slices_symMergeCmpFunc_int_of_global_Edges_1_l8 N data_ m_ c0_ n st.1 st.2) (r := r) (fun _ => rfl) ?_ (fun ih => ?_)
  ·intro n8 ih12
   rintro ⟨v1, x1⟩ h
   replace h : slices_symMergeCmpFunc_int_of_global_Edges_1_l8 N data_ m_ c0_ (n8 + 1) v1 x1 = some r := h
   unfold slices_symMergeCmpFunc_int_of_global_Edges_1_l8 at h
   refine wq (wq (wg (wx [] ⟨[(0, .S 0), (2, .I m_), (4, .c (.cl 48 [] [1])), (14, .I v1), (15, .I x1), (85, .O (decide (v1 < x1)))], [(0, .own (rI .i64) data_ false), (1, .box (cC4 2 3 4 5 c0_) 27)], (vV4 2 3 4 5 c0_ []), 6⟩ htt 3 (by kernel_rfl) (wn (?_)))))
   rcases oc' h with ⟨hc, h⟩ | ⟨hc, h⟩
   ·exact wf hc rfl (wz rfl (wu [] (j7 v1 h) rfl rfl rfl rfl))
   refine wt hc rfl (wi (wo (wq (wg (wx [4, 5, 6] ⟨[(0, .S 0), (2, .I m_), (4, .c (.cl 48 [] [1])), (14, .I v1), (15, .I x1), (89, .c (.i .u64 (wk .u64 ((w64 (v1 + x1))))))], [(0, .own (rI .i64) data_ false), (1, .box (cC4 2 3 4 5 c0_) 27)], (vV4 2 3 4 5 c0_ []), 6⟩ htt 4 (by kernel_rfl) (?_))))))
   obtain ⟨y1, z1, h⟩ := ob h
   refine WPr.bin z1 rfl rfl rfl rfl rfl rfl rfl rfl (wx [] ⟨[(0, .S 0), (2, .I m_), (4, .c (.cl 48 [] [1])), (14, .I v1), (15, .I x1), (16, .I (w64 (y1)))], [(0, .own (rI .i64) data_ false), (1, .box (cC4 2 3 4 5 c0_) 27)], (vV4 2 3 4 5 c0_ []), 6⟩ htt 2 (by kernel_rfl) (wn (wq (wN (fun A1 B1 C1 => ?_)))))
   have D1 : A1 0 ⟨[(4, .c (.cl 48 [] [1]))], [], [], [], 6, [(92, .c (.cl 48 [] [1]))], [], [], 6⟩ := B1 _ _ (wl htt rfl rfl rfl rfl rfl rfl)
   have G1 : A1 1 ⟨[(0, .S 0)], [], [], [], 6, [(93, .S 0)], [], [], 6⟩ := B1 _ _ (wl htt rfl rfl rfl rfl rfl rfl)
   have H1 : A1 2 ⟨[(2, .I m_)], [], [], [], 6, [(94, .I m_)], [], [], 6⟩ := B1 _ _ (wl htt rfl rfl rfl rfl rfl rfl)
   obtain ⟨I1, J1, h⟩ := ob h
   have K1 : A1 3 ⟨[(93, .S 0), (94, .I m_)], [], [], [(0, .own (rI .i64) data_ false)], 6, [(95, .P 6 0)], [(6, .el 0 ((m_).toNat * ((rI .i64)).sz))], [], 7⟩ := B1 _ _ (wO rfl rfl rfl (fun _ _ _ _ _ _ _ k => wX htt J1 rfl rfl rfl rfl rfl rfl rfl rfl rfl (k)) rfl)
   have L1 : A1 4 ⟨[(95, .P 6 0)], [(6, .el 0 ((m_).toNat * ((rI .i64)).sz))], [], [(0, .own (rI .i64) data_ false)], 7, [(96, .I I1)], [], [], 7⟩ := B1 _ _ (wO rfl rfl rfl (fun _ _ _ _ _ _ _ k => wL (oI .i64) htt J1 rfl rfl rfl rfl rfl rfl rfl rfl rfl rfl (k)) rfl)
   have M1 : A1 5 ⟨[(0, .S 0)], [], [], [], 7, [(97, .S 0)], [], [], 7⟩ := B1 _ _ (wl htt rfl rfl rfl rfl rfl rfl)
   have O1 : A1 6 ⟨[(16, .I (w64 (y1)))], [], [], [], 7, [(98, .I (w64 (y1)))], [], [], 7⟩ := B1 _ _ (wl htt rfl rfl rfl rfl rfl rfl)
   obtain ⟨Q1, R1, h⟩ := ob h
   have S1 : A1 7 ⟨[(97, .S 0), (98, .I (w64 (y1)))], [], [], [(0, .own (rI .i64) data_ false)], 7, [(99, .P 7 0)], [(7, .el 0 (((w64 (y1))).toNat * ((rI .i64)).sz))], [], 8⟩ := B1 _ _ (wO rfl rfl rfl (fun _ _ _ _ _ _ _ k => wX htt R1 rfl rfl rfl rfl rfl rfl rfl rfl rfl (k)) rfl)
   have T1 : A1 8 ⟨[(99, .P 7 0)], [(7, .el 0 (((w64 (y1))).toNat * ((rI .i64)).sz))], [], [(0, .own (rI .i64) data_ false)], 8, [(100, .I Q1)], [], [], 8⟩ := B1 _ _ (wO rfl rfl rfl (fun _ _ _ _ _ _ _ k => wL (oI .i64) htt R1 rfl rfl rfl rfl rfl rfl rfl rfl rfl rfl (k)) rfl)
   obtain ⟨U1, V1, h⟩ := ob h
   have X1 : A1 9 ⟨[(92, .c (.cl 48 [] [1])), (96, .I I1), (100, .I Q1)], (vV4 2 3 4 5 c0_ []), [], [(1, .box (cC4 2 3 4 5 c0_) 27)], 8, [(101, .I U1)], [], [], 8⟩ := B1 _ _ (wO rfl rfl rfl (fun _ _ _ _ _ _ _ k => WPr.callc (z48_8_ct N I1 Q1 c0_ _ V1) [(0, .bp 1 0), (1, .sl 2), (2, .sl 3), (3, .sl 4), (4, .sl 5)] [] rfl rfl rfl rfl rfl rfl rfl rfl rfl (.inl rfl) rfl (k)) rfl)
   have Y1 : A1 10 ⟨[(101, .I U1)], [], [], [], 8, [(102, .O (decide (U1 < 0)))], [], [], 8⟩ := B1 _ _ (wl htt rfl rfl rfl rfl rfl rfl)
   have Z1 : A1 11 ⟨[(102, .O (decide (U1 < 0)))], [], [], [], 8, [(103, .O (!(decide (U1 < 0))))], [], [], 8⟩ := B1 _ _ (wl htt rfl rfl rfl rfl rfl rfl)
   refine wD (t := ⟨[(0, .S 0), (2, .I m_), (4, .c (.cl 48 [] [1])), (14, .I v1), (15, .I x1), (16, .I (w64 (y1))), (103, .O (!(decide (U1 < 0))))], [(0, .own (rI .i64) data_ false), (1, .box (cC4 2 3 4 5 c0_) 27)], (vV4 2 3 4 5 c0_ []), 8⟩) [0, 0, 0, 6, 14, 0, 0, 96, 224, 511, 1023, 2047] (.cons (C1 _ _ D1) (.cons (C1 _ _ G1) (.cons (C1 _ _ H1) (.cons (C1 _ _ K1) (.cons (C1 _ _ L1) (.cons (C1 _ _ M1) (.cons (C1 _ _ O1) (.cons (C1 _ _ S1) (.cons (C1 _ _ T1) (.cons (C1 _ _ X1) (.cons (C1 _ _ Y1) (.cons (C1 _ _ Z1) .nil)))))))))))) (by kernel_rfl) (by kernel_rfl) (by kernel_rfl) (by kernel_rfl) (?_)
   rcases oc h with ⟨hc, h⟩ | ⟨hc, h⟩
   ·exact wt hc rfl (wg (wx [] ⟨[(0, .S 0), (2, .I m_), (4, .c (.cl 48 [] [1])), (14, .I (w64 ((w64 (y1)) + 1))), (15, .I x1)], [(0, .own (rI .i64) data_ false), (1, .box (cC4 2 3 4 5 c0_) 27)], (vV4 2 3 4 5 c0_ []), 8⟩ htt 3 (by kernel_rfl) (wn (wb (wu [] (ih12 ((w64 ((w64 (y1)) + 1)), x1) h) rfl rfl rfl rfl)))))
   exact wf hc rfl (wg (ws htt 2 rfl (wn (wb (wu [] (ih12 (v1, (w64 (y1))) h) rfl rfl rfl rfl)))))
  exact wu [] (ih N (a_, m_) h) rfl rfl rfl rfl
 refine wf hc rfl (wi (wq (wg (wx [4, 5, 6] ⟨[(0, .S 0), (1, .I a_), (2, .I m_), (3, .I b_), (4, .c (.cl 48 [] [1])), (132, .c (.i .u64 (wk .u64 ((w64 (a_ + b_))))))], [(0, .own (rI .i64) data_ false), (1, .box (cC4 2 3 4 5 c0_) 27)], (vV4 2 3 4 5 c0_ []), 6⟩ htt 4 (by kernel_rfl) (?_)))))
 obtain ⟨a2, b2, h⟩ := ob h
 refine WPr.bin b2 rfl rfl rfl rfl rfl rfl rfl rfl (wx [] ⟨[(0, .S 0), (1, .I a_), (2, .I m_), (3, .I b_), (4, .c (.cl 48 [] [1])), (18, .I (w64 (a2)))], [(0, .own (rI .i64) data_ false), (1, .box (cC4 2 3 4 5 c0_) 27)], (vV4 2 3 4 5 c0_ []), 6⟩ htt 2 (by kernel_rfl) (wn (wq (wg (wx [] ⟨[(0, .S 0), (1, .I a_), (2, .I m_), (3, .I b_), (4, .c (.cl 48 [] [1])), (18, .I (w64 (a2))), (19, .I (w64 ((w64 (a2)) + m_)))], [(0, .own (rI .i64) data_ false), (1, .box (cC4 2 3 4 5 c0_) 27)], (vV4 2 3 4 5 c0_ []), 6⟩ htt 4 (by kernel_rfl) (wn (wq (wg (ws htt 2 rfl (wn (wq (wq (wg (wx [] ⟨[(0, .S 0), (1, .I a_), (2, .I m_), (3, .I b_), (4, .c (.cl 48 [] [1])), (18, .I (w64 (a2))), (19, .I (w64 ((w64 (a2)) + m_))), (140, .O (decide (m_ > (w64 (a2)))))], [(0, .own (rI .i64) data_ false), (1, .box (cC4 2 3 4 5 c0_) 27)], (vV4 2 3 4 5 c0_ []), 6⟩ htt 3 (by kernel_rfl) (wn (?_))))))))))))))))
 refine wC (σ := Int × Int) (fun st => ⟨[(0, .S 0), (1, .I a_), (2, .I m_), (3, .I b_), (4, .c (.cl 48 [] [1])), (18, .I (w64 (a2))), (19, .I (w64 ((w64 (a2)) + m_))), (20, .I st.1), (21, .I st.2)], [(0, .own (rI .i64) data_ false), (1, .box (cC4 2 3 4 5 c0_) 27)], (vV4 2 3 4 5 c0_ []), 6⟩) (fun st => slices_symMergeCmpFunc_int_of_global_Edges_1_k15 N rc_slices_symMergeCmpFunc_int_of_global_Edges_1 data_ a_ m_ b_ c0_ a2 st.1 st.2 = some r) ?_ (fun j13 => ?_)
 ·rintro ⟨c2, d2⟩ h
  replace h : slices_symMergeCmpFunc_int_of_global_Edges_1_k15 N rc_slices_symMergeCmpFunc_int_of_global_Edges_1 data_ a_ m_ b_ c0_ a2 c2 d2 = some r := h
  unfold slices_symMergeCmpFunc_int_of_global_Edges_1_k15 at h
  refine wq (wg (wx [] ⟨[(0, .S 0), (1, .I a_), (2, .I m_), (3, .I b_), (4, .c (.cl 48 [] [1])), (18, .I (w64 (a2))), (19, .I (w64 ((w64 (a2)) + m_))), (20, .I c2), (21, .I d2), (22, .I (w64 ((w64 ((w64 (a2)) + m_)) - 1)))], [(0, .own (rI .i64) data_ false), (1, .box (cC4 2 3 4 5 c0_) 27)], (vV4 2 3 4 5 c0_ []), 6⟩ htt 3 (by kernel_rfl) (wn (wq (?_)))))
  refine wC (σ := Int) (fun st => ⟨[(0, .S 0), (1, .I a_), (2, .I m_), (3, .I b_), (4, .c (.cl 48 [] [1])), (18, .I (w64 (a2))), (19, .I (w64 ((w64 (a2)) + m_))), (20, .I st)], [(0, .own (rI .i64) data_ false), (1, .box (cC4 2 3 4 5 c0_) 27)], (vV4 2 3 4 5 c0_ []), 6⟩) (fun st => slices_symMergeCmpFunc_int_of_global_Edges_1_k13 N rc_slices_symMergeCmpFunc_int_of_global_Edges_1 data_ a_ m_ b_ c0_ a2 st = some r) ?_ (fun j14 => ?_)
  ·intro e2 h
   replace h : slices_symMergeCmpFunc_int_of_global_Edges_1_k13 N rc_slices_symMergeCmpFunc_int_of_global_Edges_1 data_ a_ m_ b_ c0_ a2 e2 = some r := h
   unfold slices_symMergeCmpFunc_int_of_global_Edges_1_k13 at h
   refine wq (wg (wx [] ⟨[(0, .S 0), (1, .I a_), (2, .I m_), (3, .I b_), (4, .c (.cl 48 [] [1])), (18, .I (w64 (a2))), (20, .I e2), (24, .I (w64 ((w64 ((w64 (a2)) + m_)) - e2)))], [(0, .own (rI .i64) data_ false), (1, .box (cC4 2 3 4 5 c0_) 27)], (vV4 2 3 4 5 c0_ []), 6⟩ htt 4 (by kernel_rfl) (wn (wq (wq (wg (wx [4, 5, 6, 7] ⟨[(0, .S 0), (1, .I a_), (2, .I m_), (3, .I b_), (4, .c (.cl 48 [] [1])), (18, .I (w64 (a2))), (20, .I e2), (24, .I (w64 ((w64 ((w64 (a2)) + m_)) - e2))), (181, .O (decide (e2 < m_)))], [(0, .own (rI .i64) data_ false), (1, .box (cC4 2 3 4 5 c0_) 27)], (vV4 2 3 4 5 c0_ []), 6⟩ htt 4 (by kernel_rfl) (?_))))))))
   refine WP.cutr (σ := Bool) (fun st => ⟨[(0, .S 0), (1, .I a_), (2, .I m_), (3, .I b_), (4, .c (.cl 48 [] [1])), (18, .I (w64 (a2))), (20, .I e2), (24, .I (w64 ((w64 ((w64 (a2)) + m_)) - e2))), (185, .O st)], [(0, .own (rI .i64) data_ false), (1, .box (cC4 2 3 4 5 c0_) 27)], (vV4 2 3 4 5 c0_ []), 6⟩) (fun st => slices_symMergeCmpFunc_int_of_global_Edges_1_k12 N rc_slices_symMergeCmpFunc_int_of_global_Edges_1 data_ a_ m_ b_ c0_ a2 e2 st = some r) ?_ (fun j16 => ?_)
   ·intro f2 h
    replace h : slices_symMergeCmpFunc_int_of_global_Edges_1_k12 N rc_slices_symMergeCmpFunc_int_of_global_Edges_1 data_ a_ m_ b_ c0_ a2 e2 f2 = some r := h
    unfold slices_symMergeCmpFunc_int_of_global_Edges_1_k12 at h
    refine wC (σ := (List Int)) (fun st => ⟨[(0, .S 0), (1, .I a_), (3, .I b_), (4, .c (.cl 48 [] [1])), (18, .I (w64 (a2))), (20, .I e2), (24, .I (w64 ((w64 ((w64 (a2)) + m_)) - e2)))], [(0, .own (rI .i64) st false), (1, .box (cC4 2 3 4 5 c0_) 27)], (vV4 2 3 4 5 c0_ []), 6⟩) (fun st => slices_symMergeCmpFunc_int_of_global_Edges_1_k11 rc_slices_symMergeCmpFunc_int_of_global_Edges_1 a_ m_ b_ c0_ a2 e2 st = some r) ?_ (fun j17 => ?_)
    ·intro g2 h
     replace h : slices_symMergeCmpFunc_int_of_global_Edges_1_k11 rc_slices_symMergeCmpFunc_int_of_global_Edges_1 a_ m_ b_ c0_ a2 e2 g2 = some r := h
     unfold slices_symMergeCmpFunc_int_of_global_Edges_1_k11 at h
     refine wq (wq (wg (wx [4, 5, 6, 7] ⟨[(0, .S 0), (1, .I a_), (3, .I b_), (4, .c (.cl 48 [] [1])), (18, .I (w64 (a2))), (20, .I e2), (24, .I (w64 ((w64 ((w64 (a2)) + m_)) - e2))), (195, .O (decide (a_ < e2)))], [(0, .own (rI .i64) g2 false), (1, .box (cC4 2 3 4 5 c0_) 27)], (vV4 2 3 4 5 c0_ []), 6⟩ htt 4 (by kernel_rfl) (?_))))
     refine WP.cutr (σ := Bool) (fun st => ⟨[(0, .S 0), (1, .I a_), (3, .I b_), (4, .c (.cl 48 [] [1])), (18, .I (w64 (a2))), (20, .I e2), (24, .I (w64 ((w64 ((w64 (a2)) + m_)) - e2))), (199, .O st)], [(0, .own (rI .i64) g2 false), (1, .box (cC4 2 3 4 5 c0_) 27)], (vV4 2 3 4 5 c0_ []), 6⟩) (fun st => slices_symMergeCmpFunc_int_of_global_Edges_1_k10 rc_slices_symMergeCmpFunc_int_of_global_Edges_1 a_ m_ b_ c0_ a2 e2 g2 st = some r) ?_ (fun j18 => ?_)
     ·intro i2 h
      replace h : slices_symMergeCmpFunc_int_of_global_Edges_1_k10 rc_slices_symMergeCmpFunc_int_of_global_Edges_1 a_ m_ b_ c0_ a2 e2 g2 i2 = some r := h
      unfold slices_symMergeCmpFunc_int_of_global_Edges_1_k10 at h
      refine wC (σ := (List Int)) (fun st => ⟨[(0, .S 0), (3, .I b_), (4, .c (.cl 48 [] [1])), (18, .I (w64 (a2))), (24, .I (w64 ((w64 ((w64 (a2)) + m_)) - e2)))], [(0, .own (rI .i64) st false), (1, .box (cC4 2 3 4 5 c0_) 27)], (vV4 2 3 4 5 c0_ []), 6⟩) (fun st => slices_symMergeCmpFunc_int_of_global_Edges_1_k9 rc_slices_symMergeCmpFunc_int_of_global_Edges_1 m_ b_ c0_ a2 e2 st = some r) ?_ (fun j19 => ?_)
      ·intro j2 h
       replace h : slices_symMergeCmpFunc_int_of_global_Edges_1_k9 rc_slices_symMergeCmpFunc_int_of_global_Edges_1 m_ b_ c0_ a2 e2 j2 = some r := h
       unfold slices_symMergeCmpFunc_int_of_global_Edges_1_k9 at h
       refine wq (wg (wx [4, 5, 6, 7] ⟨[(0, .S 0), (3, .I b_), (4, .c (.cl 48 [] [1])), (18, .I (w64 (a2))), (24, .I (w64 ((w64 ((w64 (a2)) + m_)) - e2))), (209, .O (decide ((w64 (a2)) < (w64 ((w64 ((w64 (a2)) + m_)) - e2)))))], [(0, .own (rI .i64) j2 false), (1, .box (cC4 2 3 4 5 c0_) 27)], (vV4 2 3 4 5 c0_ []), 6⟩ htt 4 (by kernel_rfl) (?_)))
       rcases oc' h with ⟨hc, h⟩ | ⟨hc, h⟩
       ·refine wy 209 hc rfl (wx [] ⟨[(0, .S 0), (3, .I b_), (4, .c (.cl 48 [] [1])), (18, .I (w64 (a2))), (24, .I (w64 ((w64 ((w64 (a2)) + m_)) - e2))), (213, .O false)], [(0, .own (rI .i64) j2 false), (1, .box (cC4 2 3 4 5 c0_) 27)], (vV4 2 3 4 5 c0_ []), 6⟩ htt 4 (by kernel_rfl) (wn (wf rfl rfl (wi (?_)))))
        cases h
        exact WP.fin htt Tryz.func147 [] rfl rfl rfl rfl
       refine wy 209 hc rfl (wx [] ⟨[(0, .S 0), (3, .I b_), (4, .c (.cl 48 [] [1])), (18, .I (w64 (a2))), (24, .I (w64 ((w64 ((w64 (a2)) + m_)) - e2))), (213, .O (decide ((w64 ((w64 ((w64 (a2)) + m_)) - e2)) < b_)))], [(0, .own (rI .i64) j2 false), (1, .box (cC4 2 3 4 5 c0_) 27)], (vV4 2 3 4 5 c0_ []), 6⟩ htt 4 (by kernel_rfl) (wn (?_)))
       rcases oc' h with ⟨hc, h⟩ | ⟨hc, h⟩
       ·refine wf hc rfl (wi (?_))
        cases h
        exact WP.fin htt Tryz.func147 [] rfl rfl rfl rfl
       refine wt hc rfl (wg (wx [5] ⟨[(214, .S 0), (215, .I (w64 (a2))), (216, .I (w64 ((w64 ((w64 (a2)) + m_)) - e2))), (217, .I b_), (218, .c (.cl 48 [] [1]))], [(0, .own (rI .i64) j2 false), (1, .box (cC4 2 3 4 5 c0_) 27)], (vV4 2 3 4 5 c0_ []), 6⟩ htt 5 (by kernel_rfl) (?_)))
       obtain ⟨k2, l2, h⟩ := ob h
       refine wc (rc_slices_symMergeCmpFunc_int_of_global_Edges_1_ct j2 (w64 (a2)) (w64 ((w64 ((w64 (a2)) + m_)) - e2)) b_ c0_ _ l2) [(0, .sl 0), (1, .bp 1 0), (2, .sl 2), (3, .sl 3), (4, .sl 4), (5, .sl 5)] [] rfl rfl rfl rfl rfl rfl rfl rfl (.inl rfl) rfl (wx [] ⟨[], [(0, .own (rI .i64) k2 false), (1, .box (cC4 2 3 4 5 c0_) 27)], (vV4 2 3 4 5 c0_ []), 6⟩ htt 0 (by kernel_rfl) (wn (?_)))
       cases h
       exact WP.fin htt Tryz.func147 [] rfl rfl rfl rfl
      rcases oc' h with ⟨hc, h⟩ | ⟨hc, h⟩
      ·exact wf hc rfl (wi (wu [] (j19 g2 h) rfl rfl rfl rfl))
      refine wt hc rfl (wg (wx [5] ⟨[(0, .S 0), (3, .I b_), (4, .c (.cl 48 [] [1])), (18, .I (w64 (a2))), (24, .I (w64 ((w64 ((w64 (a2)) + m_)) - e2))), (200, .S 0), (201, .I a_), (202, .I e2), (203, .I (w64 (a2))), (204, .c (.cl 48 [] [1]))], [(0, .own (rI .i64) g2 false), (1, .box (cC4 2 3 4 5 c0_) 27)], (vV4 2 3 4 5 c0_ []), 6⟩ htt 5 (by kernel_rfl) (?_)))
      obtain ⟨m2, o2, h⟩ := ob h
      exact wc (rc_slices_symMergeCmpFunc_int_of_global_Edges_1_ct g2 a_ e2 (w64 (a2)) c0_ _ o2) [(0, .sl 0), (1, .bp 1 0), (2, .sl 2), (3, .sl 3), (4, .sl 4), (5, .sl 5)] [] rfl rfl rfl rfl rfl rfl rfl rfl (.inl rfl) rfl (wx [] ⟨[(0, .S 0), (3, .I b_), (4, .c (.cl 48 [] [1])), (18, .I (w64 (a2))), (24, .I (w64 ((w64 ((w64 (a2)) + m_)) - e2)))], [(0, .own (rI .i64) m2 false), (1, .box (cC4 2 3 4 5 c0_) 27)], (vV4 2 3 4 5 c0_ []), 6⟩ htt 0 (by kernel_rfl) (wn (wu [] (j19 m2 h) rfl rfl rfl rfl)))
     rcases oc h with ⟨hc, h⟩ | ⟨hc, h⟩
     ·exact wy 195 hc rfl (wx [] ⟨[(0, .S 0), (1, .I a_), (3, .I b_), (4, .c (.cl 48 [] [1])), (18, .I (w64 (a2))), (20, .I e2), (24, .I (w64 ((w64 ((w64 (a2)) + m_)) - e2))), (199, .O (decide (e2 < (w64 (a2)))))], [(0, .own (rI .i64) g2 false), (1, .box (cC4 2 3 4 5 c0_) 27)], (vV4 2 3 4 5 c0_ []), 6⟩ htt 4 (by kernel_rfl) (wn (wu [] (j18 (decide (e2 < (w64 (a2)))) h) rfl rfl rfl rfl)))
     exact wy 195 hc rfl (wx [] ⟨[(0, .S 0), (1, .I a_), (3, .I b_), (4, .c (.cl 48 [] [1])), (18, .I (w64 (a2))), (20, .I e2), (24, .I (w64 ((w64 ((w64 (a2)) + m_)) - e2))), (199, .O false)], [(0, .own (rI .i64) g2 false), (1, .box (cC4 2 3 4 5 c0_) 27)], (vV4 2 3 4 5 c0_ []), 6⟩ htt 4 (by kernel_rfl) (wn (wu [] (j18 false h) rfl rfl rfl rfl)))
    rcases oc' h with ⟨hc, h⟩ | ⟨hc, h⟩
    ·exact wf hc rfl (wi (wu [] (j17 data_ h) rfl rfl rfl rfl))
    refine wt hc rfl (wg (wx [5] ⟨[(0, .S 0), (1, .I a_), (3, .I b_), (4, .c (.cl 48 [] [1])), (18, .I (w64 (a2))), (20, .I e2), (24, .I (w64 ((w64 ((w64 (a2)) + m_)) - e2))), (186, .S 0), (187, .I e2), (188, .I m_), (189, .I (w64 ((w64 ((w64 (a2)) + m_)) - e2))), (190, .c (.cl 48 [] [1]))], [(0, .own (rI .i64) data_ false), (1, .box (cC4 2 3 4 5 c0_) 27)], (vV4 2 3 4 5 c0_ []), 6⟩ htt 5 (by kernel_rfl) (?_)))
    obtain ⟨p2, q2, h⟩ := ob h
    exact wc (z168_11_ct N data_ e2 m_ (w64 ((w64 ((w64 (a2)) + m_)) - e2)) c0_ _ q2) [(0, .sl 0), (1, .bp 1 0), (2, .sl 2), (3, .sl 3), (4, .sl 4), (5, .sl 5)] [] rfl rfl rfl rfl rfl rfl rfl rfl (.inl rfl) rfl (wx [] ⟨[(0, .S 0), (1, .I a_), (3, .I b_), (4, .c (.cl 48 [] [1])), (18, .I (w64 (a2))), (20, .I e2), (24, .I (w64 ((w64 ((w64 (a2)) + m_)) - e2)))], [(0, .own (rI .i64) p2 false), (1, .box (cC4 2 3 4 5 c0_) 27)], (vV4 2 3 4 5 c0_ []), 6⟩ htt 0 (by kernel_rfl) (wn (wu [] (j17 p2 h) rfl rfl rfl rfl)))
   rcases oc h with ⟨hc, h⟩ | ⟨hc, h⟩
   ·exact wy 181 hc rfl (wx [] ⟨[(0, .S 0), (1, .I a_), (2, .I m_), (3, .I b_), (4, .c (.cl 48 [] [1])), (18, .I (w64 (a2))), (20, .I e2), (24, .I (w64 ((w64 ((w64 (a2)) + m_)) - e2))), (185, .O (decide (m_ < (w64 ((w64 ((w64 (a2)) + m_)) - e2)))))], [(0, .own (rI .i64) data_ false), (1, .box (cC4 2 3 4 5 c0_) 27)], (vV4 2 3 4 5 c0_ []), 6⟩ htt 4 (by kernel_rfl) (wn (wu [] (j16 (decide (m_ < (w64 ((w64 ((w64 (a2)) + m_)) - e2)))) h) rfl rfl rfl rfl)))
   exact wy 181 hc rfl (wx [] ⟨[(0, .S 0), (1, .I a_), (2, .I m_), (3, .I b_), (4, .c (.cl 48 [] [1])), (18, .I (w64 (a2))), (20, .I e2), (24, .I (w64 ((w64 ((w64 (a2)) + m_)) - e2))), (185, .O false)], [(0, .own (rI .i64) data_ false), (1, .box (cC4 2 3 4 5 c0_) 27)], (vV4 2 3 4 5 c0_ []), 6⟩ htt 4 (by kernel_rfl) (wn (wu [] (j16 false h) rfl rfl rfl rfl)))
  refine wo (?_)
  refine wI (σ := Int × Int) (fun st => ⟨[(0, .S 0), (1, .I a_), (2, .I m_), (3, .I b_), (4, .c (.cl 48 [] [1])), (18, .I (w64 (a2))), (19, .I (w64 ((w64 (a2)) + m_))), (20, .I st.1), (21, .I st.2), (22, .I (w64 ((w64 ((w64 (a2)) + m_)) - 1)))], [(0, .own (rI .i64) data_ false), (1, .box (cC4 2 3 4 5 c0_) 27)], (vV4 2 3 4 5 c0_ []), 6⟩) (fun n st => slices_symMergeCmpFunc_int_of_global_Edges_1_l14 N rc_slices_symMergeCmpFunc_int_of_global_Edges_1 data_ a_ m_ b_ c0_ a2 n st.1 st.2) (r := r) (fun _ => rfl) ?_ (fun ih => ?_)
  ·intro n10 ih20
   rintro ⟨s2, t2⟩ h
   replace h : slices_symMergeCmpFunc_int_of_global_Edges_1_l14 N rc_slices_symMergeCmpFunc_int_of_global_Edges_1 data_ a_ m_ b_ c0_ a2 (n10 + 1) s2 t2 = some r := h
   unfold slices_symMergeCmpFunc_int_of_global_Edges_1_l14 at h
   refine wq (wq (wg (wx [] ⟨[(0, .S 0), (1, .I a_), (2, .I m_), (3, .I b_), (4, .c (.cl 48 [] [1])), (18, .I (w64 (a2))), (19, .I (w64 ((w64 (a2)) + m_))), (20, .I s2), (21, .I t2), (22, .I (w64 ((w64 ((w64 (a2)) + m_)) - 1))), (151, .O (decide (s2 < t2)))], [(0, .own (rI .i64) data_ false), (1, .box (cC4 2 3 4 5 c0_) 27)], (vV4 2 3 4 5 c0_ []), 6⟩ htt 3 (by kernel_rfl) (wn (?_)))))
   rcases oc' h with ⟨hc, h⟩ | ⟨hc, h⟩
   ·exact wf hc rfl (wz rfl (wu [] (j14 s2 h) rfl rfl rfl rfl))
   refine wt hc rfl (wi (wo (wq (wg (wx [4, 5, 6] ⟨[(0, .S 0), (1, .I a_), (2, .I m_), (3, .I b_), (4, .c (.cl 48 [] [1])), (18, .I (w64 (a2))), (19, .I (w64 ((w64 (a2)) + m_))), (20, .I s2), (21, .I t2), (22, .I (w64 ((w64 ((w64 (a2)) + m_)) - 1))), (155, .c (.i .u64 (wk .u64 ((w64 (s2 + t2))))))], [(0, .own (rI .i64) data_ false), (1, .box (cC4 2 3 4 5 c0_) 27)], (vV4 2 3 4 5 c0_ []), 6⟩ htt 4 (by kernel_rfl) (?_))))))
   obtain ⟨u2, v2, h⟩ := ob h
   refine WPr.bin v2 rfl rfl rfl rfl rfl rfl rfl rfl (wx [] ⟨[(0, .S 0), (1, .I a_), (2, .I m_), (3, .I b_), (4, .c (.cl 48 [] [1])), (18, .I (w64 (a2))), (19, .I (w64 ((w64 (a2)) + m_))), (20, .I s2), (21, .I t2), (22, .I (w64 ((w64 ((w64 (a2)) + m_)) - 1))), (23, .I (w64 (u2)))], [(0, .own (rI .i64) data_ false), (1, .box (cC4 2 3 4 5 c0_) 27)], (vV4 2 3 4 5 c0_ []), 6⟩ htt 2 (by kernel_rfl) (wn (wq (wN (fun x2 y2 z2 => ?_)))))
   have A2 : x2 0 ⟨[(4, .c (.cl 48 [] [1]))], [], [], [], 6, [(158, .c (.cl 48 [] [1]))], [], [], 6⟩ := y2 _ _ (wl htt rfl rfl rfl rfl rfl rfl)
   have B2 : x2 1 ⟨[(0, .S 0)], [], [], [], 6, [(159, .S 0)], [], [], 6⟩ := y2 _ _ (wl htt rfl rfl rfl rfl rfl rfl)
   have C2 : x2 2 ⟨[(22, .I (w64 ((w64 ((w64 (a2)) + m_)) - 1)))], [], [], [], 6, [(160, .I (w64 ((w64 ((w64 (a2)) + m_)) - 1)))], [], [], 6⟩ := y2 _ _ (wl htt rfl rfl rfl rfl rfl rfl)
   have D2 : x2 3 ⟨[(23, .I (w64 (u2)))], [], [], [], 6, [(161, .I (w64 (u2)))], [], [], 6⟩ := y2 _ _ (wl htt rfl rfl rfl rfl rfl rfl)
   have G2 : x2 4 ⟨[(160, .I (w64 ((w64 ((w64 (a2)) + m_)) - 1))), (161, .I (w64 (u2)))], [], [], [], 6, [(162, .I (w64 ((w64 ((w64 ((w64 (a2)) + m_)) - 1)) - (w64 (u2)))))], [], [], 6⟩ := y2 _ _ (wl htt rfl rfl rfl rfl rfl rfl)
   obtain ⟨H2, I2, h⟩ := ob h
   have J2 : x2 5 ⟨[(159, .S 0), (162, .I (w64 ((w64 ((w64 ((w64 (a2)) + m_)) - 1)) - (w64 (u2)))))], [], [], [(0, .own (rI .i64) data_ false)], 6, [(163, .P 6 0)], [(6, .el 0 (((w64 ((w64 ((w64 ((w64 (a2)) + m_)) - 1)) - (w64 (u2))))).toNat * ((rI .i64)).sz))], [], 7⟩ := y2 _ _ (wO rfl rfl rfl (fun _ _ _ _ _ _ _ k => wX htt I2 rfl rfl rfl rfl rfl rfl rfl rfl rfl (k)) rfl)
   have K2 : x2 6 ⟨[(163, .P 6 0)], [(6, .el 0 (((w64 ((w64 ((w64 ((w64 (a2)) + m_)) - 1)) - (w64 (u2))))).toNat * ((rI .i64)).sz))], [], [(0, .own (rI .i64) data_ false)], 7, [(164, .I H2)], [], [], 7⟩ := y2 _ _ (wO rfl rfl rfl (fun _ _ _ _ _ _ _ k => wL (oI .i64) htt I2 rfl rfl rfl rfl rfl rfl rfl rfl rfl rfl (k)) rfl)
   have L2 : x2 7 ⟨[(0, .S 0)], [], [], [], 7, [(165, .S 0)], [], [], 7⟩ := y2 _ _ (wl htt rfl rfl rfl rfl rfl rfl)
   have M2 : x2 8 ⟨[(23, .I (w64 (u2)))], [], [], [], 7, [(166, .I (w64 (u2)))], [], [], 7⟩ := y2 _ _ (wl htt rfl rfl rfl rfl rfl rfl)
   obtain ⟨O2, Q2, h⟩ := ob h
   have R2 : x2 9 ⟨[(165, .S 0), (166, .I (w64 (u2)))], [], [], [(0, .own (rI .i64) data_ false)], 7, [(167, .P 7 0)], [(7, .el 0 (((w64 (u2))).toNat * ((rI .i64)).sz))], [], 8⟩ := y2 _ _ (wO rfl rfl rfl (fun _ _ _ _ _ _ _ k => wX htt Q2 rfl rfl rfl rfl rfl rfl rfl rfl rfl (k)) rfl)
   have S2 : x2 10 ⟨[(167, .P 7 0)], [(7, .el 0 (((w64 (u2))).toNat * ((rI .i64)).sz))], [], [(0, .own (rI .i64) data_ false)], 8, [(168, .I O2)], [], [], 8⟩ := y2 _ _ (wO rfl rfl rfl (fun _ _ _ _ _ _ _ k => wL (oI .i64) htt Q2 rfl rfl rfl rfl rfl rfl rfl rfl rfl rfl (k)) rfl)
   obtain ⟨T2, U2, h⟩ := ob h
   have V2 : x2 11 ⟨[(158, .c (.cl 48 [] [1])), (164, .I H2), (168, .I O2)], (vV4 2 3 4 5 c0_ []), [], [(1, .box (cC4 2 3 4 5 c0_) 27)], 8, [(169, .I T2)], [], [], 8⟩ := y2 _ _ (wO rfl rfl rfl (fun _ _ _ _ _ _ _ k => WPr.callc (z48_8_ct N H2 O2 c0_ _ U2) [(0, .bp 1 0), (1, .sl 2), (2, .sl 3), (3, .sl 4), (4, .sl 5)] [] rfl rfl rfl rfl rfl rfl rfl rfl rfl (.inl rfl) rfl (k)) rfl)
   have X2 : x2 12 ⟨[(169, .I T2)], [], [], [], 8, [(170, .O (decide (T2 < 0)))], [], [], 8⟩ := y2 _ _ (wl htt rfl rfl rfl rfl rfl rfl)
   have Y2 : x2 13 ⟨[(170, .O (decide (T2 < 0)))], [], [], [], 8, [(171, .O (!(decide (T2 < 0))))], [], [], 8⟩ := y2 _ _ (wl htt rfl rfl rfl rfl rfl rfl)
   refine wD (t := ⟨[(0, .S 0), (1, .I a_), (2, .I m_), (3, .I b_), (4, .c (.cl 48 [] [1])), (18, .I (w64 (a2))), (19, .I (w64 ((w64 (a2)) + m_))), (20, .I s2), (21, .I t2), (22, .I (w64 ((w64 ((w64 (a2)) + m_)) - 1))), (23, .I (w64 (u2))), (171, .O (!(decide (T2 < 0))))], [(0, .own (rI .i64) data_ false), (1, .box (cC4 2 3 4 5 c0_) 27)], (vV4 2 3 4 5 c0_ []), 8⟩) [0, 0, 0, 0, 12, 30, 62, 0, 0, 384, 896, 2047, 4095, 8191] (.cons (z2 _ _ A2) (.cons (z2 _ _ B2) (.cons (z2 _ _ C2) (.cons (z2 _ _ D2) (.cons (z2 _ _ G2) (.cons (z2 _ _ J2) (.cons (z2 _ _ K2) (.cons (z2 _ _ L2) (.cons (z2 _ _ M2) (.cons (z2 _ _ R2) (.cons (z2 _ _ S2) (.cons (z2 _ _ V2) (.cons (z2 _ _ X2) (.cons (z2 _ _ Y2) .nil)))))))))))))) (by kernel_rfl) (by kernel_rfl) (by kernel_rfl) (by kernel_rfl) (?_)
   rcases oc h with ⟨hc, h⟩ | ⟨hc, h⟩
   ·exact wt hc rfl (wg (wx [] ⟨[(0, .S 0), (1, .I a_), (2, .I m_), (3, .I b_), (4, .c (.cl 48 [] [1])), (18, .I (w64 (a2))), (19, .I (w64 ((w64 (a2)) + m_))), (20, .I (w64 ((w64 (u2)) + 1))), (21, .I t2), (22, .I (w64 ((w64 ((w64 (a2)) + m_)) - 1)))], [(0, .own (rI .i64) data_ false), (1, .box (cC4 2 3 4 5 c0_) 27)], (vV4 2 3 4 5 c0_ []), 8⟩ htt 3 (by kernel_rfl) (wn (wb (wu [] (ih20 ((w64 ((w64 (u2)) + 1)), t2) h) rfl rfl rfl rfl)))))
   exact wf hc rfl (wg (ws htt 2 rfl (wn (wb (wu [] (ih20 (s2, (w64 (u2))) h) rfl rfl rfl rfl)))))
  exact wu [] (ih N (c2, d2) h) rfl rfl rfl rfl
 rcases oc h with ⟨hc, h⟩ | ⟨hc, h⟩
 ·exact wt hc rfl (wq (wg (wx [] ⟨[(0, .S 0), (1, .I a_), (2, .I m_), (3, .I b_), (4, .c (.cl 48 [] [1])), (18, .I (w64 (a2))), (19, .I (w64 ((w64 (a2)) + m_))), (20, .I (w64 ((w64 ((w64 (a2)) + m_)) - b_)))], [(0, .own (rI .i64) data_ false), (1, .box (cC4 2 3 4 5 c0_) 27)], (vV4 2 3 4 5 c0_ []), 6⟩ htt 4 (by kernel_rfl) (wn (wg (ws htt 2 rfl (wn (wu [] (j13 ((w64 ((w64 ((w64 (a2)) + m_)) - b_)), (w64 (a2))) h) rfl rfl rfl rfl))))))))
 exact wf hc rfl (wq (wg (ws htt 2 rfl (wn (wg (wx [] ⟨[(0, .S 0), (1, .I a_), (2, .I m_), (3, .I b_), (4, .c (.cl 48 [] [1])), (18, .I (w64 (a2))), (19, .I (w64 ((w64 (a2)) + m_))), (20, .I a_), (21, .I m_)], [(0, .own (rI .i64) data_ false), (1, .box (cC4 2 3 4 5 c0_) 27)], (vV4 2 3 4 5 c0_ []), 6⟩ htt 2 (by kernel_rfl) (wn (wu [] (j13 (a_, m_) h) rfl rfl rfl rfl))))))))
theorem slices_symMergeCmpFunc_int_of_global_Edges_1_rct : ∀ (N : Nat) (data_ : (List Int)) (a_ : Int) (m_ : Int) (b_ : Int) (c0_ : T4) (r : (List Int)) (h : slices_symMergeCmpFunc_int_of_global_Edges_1_r N data_ a_ m_ b_ c0_ = some r), Fn Tryz.prog 147 ⟨6, [.S 0, .I a_, .I m_, .I b_, .c (.cl 48 [] [1])], (vV4 2 3 4 5 c0_ []), [(0, .own (rI .i64) data_ false), (1, .box (cC4 2 3 4 5 c0_) 27)], 6, .t [], [], [(0, .own (rI .i64) r false), (1, .box (cC4 2 3 4 5 c0_) 27)]⟩ := by
 intro N
 induction N with
 | zero => intros; rename_i h; cases h
 | succ N ih => intro data_ a_ m_ b_ c0_ r h; exact z147_12_ct N (slices_symMergeCmpFunc_int_of_global_Edges_1_r N) ih data_ a_ m_ b_ c0_ r h
theorem slices_symMergeCmpFunc_int_of_global_Edges_1_ct (N : Nat) (data_ : (List Int)) (a_ : Int) (m_ : Int) (b_ : Int) (c0_ : T4) (r : (List Int)) (h : slices_symMergeCmpFunc_int_of_global_Edges_1 N data_ a_ m_ b_ c0_ = some r) : Fn Tryz.prog 147 ⟨6, [.S 0, .I a_, .I m_, .I b_, .c (.cl 48 [] [1])], (vV4 2 3 4 5 c0_ []), [(0, .own (rI .i64) data_ false), (1, .box (cC4 2 3 4 5 c0_) 27)], 6, .t [], [], [(0, .own (rI .i64) r false), (1, .box (cC4 2 3 4 5 c0_) 27)]⟩ := slices_symMergeCmpFunc_int_of_global_Edges_1_rct N data_ a_ m_ b_ c0_ r h
theorem z110_13_ct (N : Nat) (data_ : (List Int)) (n_ : Int) (c0_ : T4) (r : (List Int)) (h : z110_13 N data_ n_ c0_ = some r) :
 Fn Tryz.prog 110 ⟨6, [.S 0, .I n_, .c (.cl 48 [] [1])], (vV4 2 3 4 5 c0_ []), [(0, .own (rI .i64) data_ false), (1, .box (cC4 2 3 4 5 c0_) 27)], 6, .t [], [], [(0, .own (rI .i64) r false), (1, .box (cC4 2 3 4 5 c0_) 27)]⟩ := by
 refine Fn.intro _ _ Tryz.func110 rfl (by kernel_rfl) rfl (fun E F w => ?_)
 unfold z110_13 at h
 refine wq (wg (ws htt 1 rfl (wn (wq (wg (wx [] ⟨[(0, .S 0), (1, .I n_), (2, .c (.cl 48 [] [1])), (6, .I 20), (7, .I 0), (8, .I 20)], [(0, .own (rI .i64) data_ false), (1, .box (cC4 2 3 4 5 c0_) 27)], (vV4 2 3 4 5 c0_ []), 6⟩ htt 3 (by kernel_rfl) (wn (wq (?_)))))))))
 refine wC (σ := (List Int) × Int) (fun st => ⟨[(0, .S 0), (1, .I n_), (2, .c (.cl 48 [] [1])), (6, .I 20), (7, .I st.2)], [(0, .own (rI .i64) st.1 false), (1, .box (cC4 2 3 4 5 c0_) 27)], (vV4 2 3 4 5 c0_ []), 6⟩) (fun st => z110_13_k5 N n_ c0_ st.1 st.2 = some r) ?_ (fun j1 => ?_)
 ·rintro ⟨d, e⟩ h
  replace h : z110_13_k5 N n_ c0_ d e = some r := h
  unfold z110_13_k5 at h
  refine wq (wg (wx [4] ⟨[(0, .S 0), (1, .I n_), (2, .c (.cl 48 [] [1])), (6, .I 20), (23, .S 0), (24, .I e), (25, .I n_), (26, .c (.cl 48 [] [1]))], [(0, .own (rI .i64) d false), (1, .box (cC4 2 3 4 5 c0_) 27)], (vV4 2 3 4 5 c0_ []), 6⟩ htt 4 (by kernel_rfl) (?_)))
  obtain ⟨x5, f, h⟩ := ob h
  refine wc (z146_9_ct N d e n_ c0_ _ f) [(0, .sl 0), (1, .bp 1 0), (2, .sl 2), (3, .sl 3), (4, .sl 4), (5, .sl 5)] [] rfl rfl rfl rfl rfl rfl rfl rfl (.inl rfl) rfl (wx [] ⟨[(0, .S 0), (1, .I n_), (2, .c (.cl 48 [] [1])), (6, .I 20)], [(0, .own (rI .i64) x5 false), (1, .box (cC4 2 3 4 5 c0_) 27)], (vV4 2 3 4 5 c0_ []), 6⟩ htt 0 (by kernel_rfl) (wn (?_)))
  refine wC (σ := (List Int)) (fun st => ⟨[], [(0, .own (rI .i64) st false), (1, .box (cC4 2 3 4 5 c0_) 27)], (vV4 2 3 4 5 c0_ []), 6⟩) (fun st => z110_13_k1 st = some r) ?_ (fun j3 => ?_)
  ·intro g h
   replace h : z110_13_k1 g = some r := h
   unfold z110_13_k1 at h
   cases h
   exact WP.fin htt Tryz.func110 [] rfl rfl rfl rfl
  refine wo (?_)
  refine wI (σ := (List Int) × Int) (fun st => ⟨[(0, .S 0), (1, .I n_), (2, .c (.cl 48 [] [1])), (6, .I st.2)], [(0, .own (rI .i64) st.1 false), (1, .box (cC4 2 3 4 5 c0_) 27)], (vV4 2 3 4 5 c0_ []), 6⟩) (fun n st => z110_13_l2 N n_ c0_ n st.1 st.2) (r := r) (fun _ => rfl) ?_ (fun ih => ?_)
  ·intro n13 ih14
   rintro ⟨i, j⟩ h
   replace h : z110_13_l2 N n_ c0_ (n13 + 1) i j = some r := h
   unfold z110_13_l2 at h
   refine wq (wq (wg (wx [] ⟨[(0, .S 0), (1, .I n_), (2, .c (.cl 48 [] [1])), (6, .I j), (30, .O (decide (j < n_)))], [(0, .own (rI .i64) i false), (1, .box (cC4 2 3 4 5 c0_) 27)], (vV4 2 3 4 5 c0_ []), 6⟩ htt 3 (by kernel_rfl) (wn (?_)))))
   rcases oc' h with ⟨hc, h⟩ | ⟨hc, h⟩
   ·exact wf hc rfl (wz rfl (wu [] (j3 i h) rfl rfl rfl rfl))
   refine wt hc rfl (wi (wo (wq (wg (wx [] ⟨[(0, .S 0), (1, .I n_), (2, .c (.cl 48 [] [1])), (6, .I j), (7, .I 0), (8, .I (w64 (2 * j)))], [(0, .own (rI .i64) i false), (1, .box (cC4 2 3 4 5 c0_) 27)], (vV4 2 3 4 5 c0_ []), 6⟩ htt 4 (by kernel_rfl) (wn (wq (?_))))))))
   refine wC (σ := (List Int) × Int) (fun st => ⟨[(0, .S 0), (1, .I n_), (2, .c (.cl 48 [] [1])), (6, .I j), (7, .I st.2)], [(0, .own (rI .i64) st.1 false), (1, .box (cC4 2 3 4 5 c0_) 27)], (vV4 2 3 4 5 c0_ []), 6⟩) (fun st => z110_13_k3 N n_ c0_ j (z110_13_l2 N n_ c0_ n13) st.1 st.2 = some r) ?_ (fun j21 => ?_)
   ·rintro ⟨k, l⟩ h
    replace h : z110_13_k3 N n_ c0_ j (z110_13_l2 N n_ c0_ n13) k l = some r := h
    unfold z110_13_k3 at h
    refine wq (wq (wg (wx [] ⟨[(0, .S 0), (1, .I n_), (2, .c (.cl 48 [] [1])), (6, .I j), (7, .I l), (9, .I (w64 (l + j)))], [(0, .own (rI .i64) k false), (1, .box (cC4 2 3 4 5 c0_) 27)], (vV4 2 3 4 5 c0_ []), 6⟩ htt 4 (by kernel_rfl) (wn (wq (wg (wx [] ⟨[(0, .S 0), (1, .I n_), (2, .c (.cl 48 [] [1])), (6, .I j), (7, .I l), (9, .I (w64 (l + j))), (54, .O (decide ((w64 (l + j)) < n_)))], [(0, .own (rI .i64) k false), (1, .box (cC4 2 3 4 5 c0_) 27)], (vV4 2 3 4 5 c0_ []), 6⟩ htt 3 (by kernel_rfl) (wn (?_)))))))))
    rcases oc' h with ⟨hc, h⟩ | ⟨hc, h⟩
    ·exact wf hc rfl (wi (wg (wx [] ⟨[(0, .S 0), (1, .I n_), (2, .c (.cl 48 [] [1])), (6, .I (w64 (j * 2)))], [(0, .own (rI .i64) k false), (1, .box (cC4 2 3 4 5 c0_) 27)], (vV4 2 3 4 5 c0_ []), 6⟩ htt 3 (by kernel_rfl) (wn (wb (wu [] (ih14 (k, (w64 (j * 2))) h) rfl rfl rfl rfl))))))
    refine wt hc rfl (wg (wx [5] ⟨[(0, .S 0), (1, .I n_), (2, .c (.cl 48 [] [1])), (6, .I j), (55, .S 0), (56, .I l), (57, .I (w64 (l + j))), (58, .I n_), (59, .c (.cl 48 [] [1]))], [(0, .own (rI .i64) k false), (1, .box (cC4 2 3 4 5 c0_) 27)], (vV4 2 3 4 5 c0_ []), 6⟩ htt 5 (by kernel_rfl) (?_)))
    obtain ⟨m, o, h⟩ := ob h
    exact wc (slices_symMergeCmpFunc_int_of_global_Edges_1_ct N k l (w64 (l + j)) n_ c0_ _ o) [(0, .sl 0), (1, .bp 1 0), (2, .sl 2), (3, .sl 3), (4, .sl 4), (5, .sl 5)] [] rfl rfl rfl rfl rfl rfl rfl rfl (.inl rfl) rfl (wx [] ⟨[(0, .S 0), (1, .I n_), (2, .c (.cl 48 [] [1])), (6, .I j)], [(0, .own (rI .i64) m false), (1, .box (cC4 2 3 4 5 c0_) 27)], (vV4 2 3 4 5 c0_ []), 6⟩ htt 0 (by kernel_rfl) (wn (wg (wx [] ⟨[(0, .S 0), (1, .I n_), (2, .c (.cl 48 [] [1])), (6, .I (w64 (j * 2)))], [(0, .own (rI .i64) m false), (1, .box (cC4 2 3 4 5 c0_) 27)], (vV4 2 3 4 5 c0_ []), 6⟩ htt 3 (by kernel_rfl) (wn (wb (wu [] (ih14 (m, (w64 (j * 2))) h) rfl rfl rfl rfl)))))))
   refine wo (?_)
   refine wI (σ := (List Int) × Int × Int) (fun st => ⟨[(0, .S 0), (1, .I n_), (2, .c (.cl 48 [] [1])), (6, .I j), (7, .I st.2.1), (8, .I st.2.2)], [(0, .own (rI .i64) st.1 false), (1, .box (cC4 2 3 4 5 c0_) 27)], (vV4 2 3 4 5 c0_ []), 6⟩) (fun n st => z110_13_l4 N n_ c0_ j (z110_13_l2 N n_ c0_ n13) n st.1 st.2.1 st.2.2) (r := r) (fun _ => rfl) ?_ (fun ih => ?_)
   ·intro n15 ih23
    rintro ⟨p, q, s⟩ h
    replace h : z110_13_l4 N n_ c0_ j (z110_13_l2 N n_ c0_ n13) (n15 + 1) p q s = some r := h
    unfold z110_13_l4 at h
    refine wq (wq (wg (wx [] ⟨[(0, .S 0), (1, .I n_), (2, .c (.cl 48 [] [1])), (6, .I j), (7, .I q), (8, .I s), (35, .O (decide (s ≤ n_)))], [(0, .own (rI .i64) p false), (1, .box (cC4 2 3 4 5 c0_) 27)], (vV4 2 3 4 5 c0_ []), 6⟩ htt 3 (by kernel_rfl) (wn (?_)))))
    rcases oc' h with ⟨hc, h⟩ | ⟨hc, h⟩
    ·exact wf hc rfl (wz rfl (wu [] (j21 (p, q) h) rfl rfl rfl rfl))
    refine wt hc rfl (wi (wo (wq (wg (wx [7] ⟨[(0, .S 0), (1, .I n_), (2, .c (.cl 48 [] [1])), (6, .I j), (8, .I s), (36, .S 0), (37, .I q), (40, .I (w64 (q + j))), (41, .I s), (42, .c (.cl 48 [] [1]))], [(0, .own (rI .i64) p false), (1, .box (cC4 2 3 4 5 c0_) 27)], (vV4 2 3 4 5 c0_ []), 6⟩ htt 7 (by kernel_rfl) (?_))))))
    obtain ⟨u, v, h⟩ := ob h
    exact wc (slices_symMergeCmpFunc_int_of_global_Edges_1_ct N p q (w64 (q + j)) s c0_ _ v) [(0, .sl 0), (1, .bp 1 0), (2, .sl 2), (3, .sl 3), (4, .sl 4), (5, .sl 5)] [] rfl rfl rfl rfl rfl rfl rfl rfl (.inl rfl) rfl (wx [] ⟨[(0, .S 0), (1, .I n_), (2, .c (.cl 48 [] [1])), (6, .I j), (8, .I s)], [(0, .own (rI .i64) u false), (1, .box (cC4 2 3 4 5 c0_) 27)], (vV4 2 3 4 5 c0_ []), 6⟩ htt 0 (by kernel_rfl) (wn (wq (wg (ws htt 2 rfl (wn (wg (wx [] ⟨[(0, .S 0), (1, .I n_), (2, .c (.cl 48 [] [1])), (6, .I j), (7, .I s), (8, .I (w64 (s + (w64 (2 * j)))))], [(0, .own (rI .i64) u false), (1, .box (cC4 2 3 4 5 c0_) 27)], (vV4 2 3 4 5 c0_ []), 6⟩ htt 5 (by kernel_rfl) (wn (wb (wu [] (ih23 (u, s, (w64 (s + (w64 (2 * j))))) h) rfl rfl rfl rfl)))))))))))
   exact wu [] (ih N (i, 0, (w64 (2 * j))) h) rfl rfl rfl rfl
  exact wu [] (ih N (x5, 20) h) rfl rfl rfl rfl
 refine wo (?_)
 refine wI (σ := (List Int) × Int × Int) (fun st => ⟨[(0, .S 0), (1, .I n_), (2, .c (.cl 48 [] [1])), (6, .I 20), (7, .I st.2.1), (8, .I st.2.2)], [(0, .own (rI .i64) st.1 false), (1, .box (cC4 2 3 4 5 c0_) 27)], (vV4 2 3 4 5 c0_ []), 6⟩) (fun n st => z110_13_l6 N n_ c0_ n st.1 st.2.1 st.2.2) (r := r) (fun _ => rfl) ?_ (fun ih => ?_)
 ·intro n16 ih24
  rintro ⟨x, y, z⟩ h
  replace h : z110_13_l6 N n_ c0_ (n16 + 1) x y z = some r := h
  unfold z110_13_l6 at h
  refine wq (wq (wg (wx [] ⟨[(0, .S 0), (1, .I n_), (2, .c (.cl 48 [] [1])), (6, .I 20), (7, .I y), (8, .I z), (13, .O (decide (z ≤ n_)))], [(0, .own (rI .i64) x false), (1, .box (cC4 2 3 4 5 c0_) 27)], (vV4 2 3 4 5 c0_ []), 6⟩ htt 3 (by kernel_rfl) (wn (?_)))))
  rcases oc' h with ⟨hc, h⟩ | ⟨hc, h⟩
  ·exact wf hc rfl (wz rfl (wu [] (j1 (x, y) h) rfl rfl rfl rfl))
  refine wt hc rfl (wi (wo (wq (wg (wx [4] ⟨[(0, .S 0), (1, .I n_), (2, .c (.cl 48 [] [1])), (6, .I 20), (8, .I z), (14, .S 0), (15, .I y), (16, .I z), (17, .c (.cl 48 [] [1]))], [(0, .own (rI .i64) x false), (1, .box (cC4 2 3 4 5 c0_) 27)], (vV4 2 3 4 5 c0_ []), 6⟩ htt 4 (by kernel_rfl) (?_))))))
  obtain ⟨A, C, h⟩ := ob h
  exact wc (z146_9_ct N x y z c0_ _ C) [(0, .sl 0), (1, .bp 1 0), (2, .sl 2), (3, .sl 3), (4, .sl 4), (5, .sl 5)] [] rfl rfl rfl rfl rfl rfl rfl rfl (.inl rfl) rfl (wx [] ⟨[(0, .S 0), (1, .I n_), (2, .c (.cl 48 [] [1])), (6, .I 20), (8, .I z)], [(0, .own (rI .i64) A false), (1, .box (cC4 2 3 4 5 c0_) 27)], (vV4 2 3 4 5 c0_ []), 6⟩ htt 0 (by kernel_rfl) (wn (wq (wg (ws htt 2 rfl (wn (wg (wx [] ⟨[(0, .S 0), (1, .I n_), (2, .c (.cl 48 [] [1])), (6, .I 20), (7, .I z), (8, .I (w64 (z + 20)))], [(0, .own (rI .i64) A false), (1, .box (cC4 2 3 4 5 c0_) 27)], (vV4 2 3 4 5 c0_ []), 6⟩ htt 4 (by kernel_rfl) (wn (wb (wu [] (ih24 (A, z, (w64 (z + 20))) h) rfl rfl rfl rfl)))))))))))
 exact wu [] (ih N (data_, 0, 20) h) rfl rfl rfl rfl
theorem z47_14_ct (N : Nat) (x_ : (List Int)) (c0_ : T4) (r : (List Int)) (h : z47_14 N x_ c0_ = some r) :
 Fn Tryz.prog 47 ⟨6, [.S 0, .c (.cl 48 [] [1])], (vV4 2 3 4 5 c0_ []), [(0, .own (rI .i64) x_ false), (1, .box (cC4 2 3 4 5 c0_) 27)], 6, .t [], [], [(0, .own (rI .i64) r false), (1, .box (cC4 2 3 4 5 c0_) 27)]⟩ := by
 refine Fn.intro _ _ Tryz.func47 rfl (by kernel_rfl) rfl (fun E F w => ?_)
 unfold z47_14 at h
 refine wg (wx [4] ⟨[(4, .S 0), (6, .I (x_.length : Int)), (7, .c (.cl 48 [] [1]))], [(0, .own (rI .i64) x_ false), (1, .box (cC4 2 3 4 5 c0_) 27)], (vV4 2 3 4 5 c0_ []), 6⟩ htt 4 (by kernel_rfl) (?_))
 obtain ⟨x1, d, h⟩ := ob h
 refine wc (z110_13_ct N x_ (x_.length : Int) c0_ _ d) [(0, .sl 0), (1, .bp 1 0), (2, .sl 2), (3, .sl 3), (4, .sl 4), (5, .sl 5)] [] rfl rfl rfl rfl rfl rfl rfl rfl (.inl rfl) rfl (wx [] ⟨[], [(0, .own (rI .i64) x1 false), (1, .box (cC4 2 3 4 5 c0_) 27)], (vV4 2 3 4 5 c0_ []), 6⟩ htt 0 (by kernel_rfl) (wn (?_)))
 cases h
 exact WP.fin htt Tryz.func47 [] rfl rfl rfl rfl
theorem z18_ct (N : Nat) (g_ : T4) (state_ : Int) (r : (List Int)) (h : z18 N g_ state_ = some r) :
 Fn Tryz.prog 18 ⟨4, [.a (cC4 0 1 2 3 g_), .I state_], (vV4 0 1 2 3 g_ []), [], 5, .S 4, [], [(4, .own (rI .i64) r true)]⟩ := by
 refine Fn.intro _ _ Tryz.func18 rfl (by kernel_rfl) rfl (fun E F w => ?_)
 unfold z18 at h
 refine wq (wg (ws htt 2 rfl (wn (wq (wg (wx [] ⟨[(1, .I state_), (2, .B 4 0), (4, .c .nil), (5, .c .nil)], [(4, .box (cC4 0 1 2 3 g_) 27)], (vV4 0 1 2 3 g_ []), 5⟩ htt 1 (by kernel_rfl) (wn (wq (wq (wg (wx [] ⟨[(1, .I state_), (2, .B 4 0), (4, .c .nil), (5, .c .nil), (9, .S 2), (10, .I (g_.Edges.length : Int)), (11, .I 0)], [(4, .box (cC4 0 1 2 3 g_) 27)], (vV4 0 1 2 3 g_ []), 5⟩ htt 4 (by kernel_rfl) (wn (?_)))))))))))))
 refine wC (σ := (List Int)) (fun st => ⟨[(2, .B 4 0), (5, .S 5)], [(4, .box (cC4 0 1 2 3 g_) 27), (5, .own (rI .i64) st true)], (vV4 0 1 2 3 g_ []), 6⟩) (fun st => z18_k1 N g_ st = some r) ?_ (fun j1 => ?_)
 ·intro d h
  replace h : z18_k1 N g_ d = some r := h
  unfold z18_k1 at h
  refine wq (wg (ws htt 2 rfl (?_)))
  obtain ⟨x9, e, h⟩ := ob h
  refine wc (z47_14_ct N d g_ _ e) [(0, .sl 5), (1, .bp 4 0), (2, .sl 0), (3, .sl 1), (4, .sl 2), (5, .sl 3)] [] rfl rfl rfl rfl rfl rfl rfl rfl (.inl rfl) rfl (wx [] ⟨[(5, .S 5)], [(5, .own (rI .i64) x9 true)], (vV4 0 1 2 3 g_ []), 6⟩ htt 0 (by kernel_rfl) (wn (wq (wg (ws htt 2 rfl (wn (?_)))))))
  cases h
  exact we htt Tryz.func18 [(4, .sl 5)] rfl rfl rfl rfl
 refine wo (?_)
 refine wI (σ := (List Int) × Int) (fun st => ⟨[(1, .I state_), (2, .B 4 0), (5, .S 5), (9, .S 2), (10, .I (g_.Edges.length : Int)), (11, .I st.2)], [(4, .box (cC4 0 1 2 3 g_) 27), (5, .own (rI .i64) st.1 true)], (vV4 0 1 2 3 g_ []), 6⟩) (fun n st => z18_l2 N g_ state_ n st.1 st.2) (r := r) (fun _ => rfl) ?_ (fun ih => ?_)
 ·intro n2 ih3
  rintro ⟨f, g⟩ h
  replace h : z18_l2 N g_ state_ (n2 + 1) f g = some r := h
  unfold z18_l2 at h
  refine wq (wg (ws htt 1 rfl (wn (wq (?_)))))
  rcases oc' h with ⟨hc, h⟩ | ⟨hc, h⟩
  ·exact wf hc rfl (wz rfl (wu [] (j1 f h) rfl rfl rfl rfl))
  refine wt hc rfl (wi (wq (wo (wq (wg (ws htt 1 rfl (?_)))))))
  obtain ⟨i, j, h⟩ := ob h
  refine wj oO2 htt j rfl rfl rfl rfl rfl rfl rfl rfl rfl (wx [] ⟨[(1, .I state_), (2, .B 4 0), (5, .S 5), (6, .I g), (7, .B 7 0), (9, .S 2), (10, .I (g_.Edges.length : Int)), (11, .I g)], [(4, .box (cC4 0 1 2 3 g_) 27), (5, .own (rI .i64) f true), (7, .box (cC2 i) 43)], (vV4 0 1 2 3 g_ []), 8⟩ htt 4 (by kernel_rfl) (wn (wq (wg (wx [] ⟨[(1, .I state_), (2, .B 4 0), (5, .S 5), (6, .I g), (9, .S 2), (10, .I (g_.Edges.length : Int)), (11, .I g), (19, .O (i.From == state_))], [(4, .box (cC4 0 1 2 3 g_) 27), (5, .own (rI .i64) f true)], (vV4 0 1 2 3 g_ []), 8⟩ htt 4 (by kernel_rfl) (wn (?_)))))))
  rcases oc' h with ⟨hc, h⟩ | ⟨hc, h⟩
  ·exact wf hc rfl (wi (wb (wg (ws htt 2 rfl (wn (wu [] (ih3 (f, (w64 (g + 1))) h) rfl rfl rfl rfl))))))
  refine wt hc rfl (wg (ws htt 2 rfl (WPr.bs (cs := [.I g]) (oI .i64) htt ([g] : List Int) rfl rfl rfl rfl rfl rfl (by kernel_rfl) (by exact (an rfl rfl)) rfl (wx [3, 4] ⟨[(1, .I state_), (2, .B 4 0), (9, .S 2), (10, .I (g_.Edges.length : Int)), (11, .I g), (20, .S 5), (22, .S 8)], [(4, .box (cC4 0 1 2 3 g_) 27), (5, .own (rI .i64) f true), (8, .own (rI .i64) ([g] : List Int) true)], (vV4 0 1 2 3 g_ []), 9⟩ htt 0 (by kernel_rfl) (?_)))))
  obtain ⟨k, l, h⟩ := ob h
  exact WPr.app htt l (by exact (srcO rfl)) rfl rfl rfl rfl rfl rfl rfl rfl rfl rfl (wx [] ⟨[(1, .I state_), (2, .B 4 0), (5, .S 9), (9, .S 2), (10, .I (g_.Edges.length : Int)), (11, .I g)], [(4, .box (cC4 0 1 2 3 g_) 27), (9, .own (rI .i64) k true)], (vV4 0 1 2 3 g_ []), 10⟩ htt 1 (by kernel_rfl) (wn (wb (wg (ws htt 2 rfl (wn (wu [(5, .sl 9)] (ih3 (k, (w64 (g + 1))) h) rfl rfl rfl rfl)))))))
 exact wu [(5, .nil)] (ih N (([] : List Int), 0) h) rfl rfl rfl rfl
theorem z45_ct (N : Nat) (s_ : (List T6)) (r : (List T6)) (h : z45 N s_ = some r) :
 Fn Tryz.prog 45 ⟨1, [.S 0], [(0, .sl rR6 s_)], [], 2, .S 1, [], [(1, .own rR6 r true)]⟩ := by
 refine Fn.intro _ _ Tryz.func45 rfl (by kernel_rfl) rfl (fun E F w => ?_)
 unfold z45 at h
 refine wq (wg (ws htt 1 rfl (wn (wq (wq (wg (ws htt 1 rfl (WPr.nilc (el := 37) false (Or.inl rfl) rfl rfl rfl rfl (by kernel_rfl) rfl rfl rfl (?_)))))))))
 intro nb hnb
 cases nb
 ·refine wx [] ⟨[(0, .S 0), (2, .c .nil), (4, .O false)], [], [(0, .sl rR6 s_)], 1⟩ htt 0 (by kernel_rfl) (wn (wf rfl rfl (wi (wq (wg (WPr.bs (cs := []) oO6 htt ([] : List T6) rfl rfl rfl rfl rfl rfl (by kernel_rfl) (by exact rfl) rfl (ws htt 1 rfl (?_))))))))
  obtain ⟨x1, d, h⟩ := ob h
  refine WPr.app htt d (by exact (srcI rfl)) rfl rfl rfl rfl rfl rfl rfl rfl rfl rfl (wx [] ⟨[(2, .S 2)], [(2, .own rR6 x1 true)], [(0, .sl rR6 s_)], 3⟩ htt 1 (by kernel_rfl) (wn (?_)))
  cases h
  exact we htt Tryz.func45 [(1, .sl 2)] rfl rfl rfl rfl
 ·obtain rfl := hnb rfl
  replace h : (some ([] : List T6) : Option (List T6)) = some r := h
  refine wx [] ⟨[(0, .S 0), (2, .c .nil), (4, .O true)], [], [(0, .sl rR6 ([] : List T6))], 1⟩ htt 0 (by kernel_rfl) (wn (wt rfl rfl (wq (wg (ws htt 1 rfl (wn (?_)))))))
  cases h
  exact we htt Tryz.func45 [(1, .nil)] rfl rfl rfl rfl
theorem z14_ct (N : Nat) (g_ : T4) (n_ : Int) (r : (List (List T6)) × Int) (h : z14 N g_ n_ = some r) :
 Fn Tryz.prog 14 ⟨4, [.a (cC4 0 1 2 3 g_), .I n_], (vV4 0 1 2 3 g_ []), [], 5, .t [.inl (.sl 4), .inl (.I r.2)], [], [(4, .own (rSl rR6) r.1 true)]⟩ := by
 refine Fn.intro _ _ Tryz.func14 rfl (by kernel_rfl) rfl (fun E F w => ?_)
 unfold z14 at h
 refine wq (wg (wx [] ⟨[(1, .I n_), (2, .B 4 0), (4, .c .nil), (5, .I 0)], [(4, .box (cC4 0 1 2 3 g_) 27)], (vV4 0 1 2 3 g_ []), 5⟩ htt 3 (by kernel_rfl) (wn (wq (wq (wg (ws htt 1 rfl (?_))))))))
 obtain ⟨x1, d, h⟩ := ob h
 refine wc (z22_ct N g_ _ d) [(0, .sl 0), (1, .sl 1), (2, .sl 2), (3, .sl 3)] [] rfl rfl rfl rfl rfl rfl rfl rfl (.inl rfl) rfl (wx [] ⟨[(1, .I n_), (2, .B 4 0), (4, .c .nil), (5, .I 0), (13, .O (!x1))], [(4, .box (cC4 0 1 2 3 g_) 27)], (vV4 0 1 2 3 g_ []), 5⟩ htt 1 (by kernel_rfl) (wn (?_)))
 rcases oc h with ⟨hc, h⟩ | ⟨hc, h⟩
 ·refine wt hc rfl (wq (wg (ws htt 2 rfl (wn (?_)))))
  cases h
  exact we htt Tryz.func14 [(4, .nil)] rfl rfl rfl rfl
 refine wf hc rfl (wi (wq (wq (wg (wx [3, 4, 5] ⟨[(1, .I n_), (2, .B 4 0), (4, .c .nil), (5, .I 0), (16, .O (decide (n_ < 0)))], [(4, .box (cC4 0 1 2 3 g_) 27)], (vV4 0 1 2 3 g_ []), 5⟩ htt 3 (by kernel_rfl) (?_))))))
 rcases oc h with ⟨hc, h⟩ | ⟨hc, h⟩
 ·refine wy 16 hc rfl (wx [] ⟨[(1, .I n_), (2, .B 4 0), (4, .c .nil), (5, .I 0), (19, .O true)], [(4, .box (cC4 0 1 2 3 g_) 27)], (vV4 0 1 2 3 g_ []), 5⟩ htt 3 (by kernel_rfl) (wn (wt rfl rfl (wq (wg (ws htt 2 rfl (wn (?_))))))))
  cases h
  exact we htt Tryz.func14 [(4, .nil)] rfl rfl rfl rfl
 refine wy 16 hc rfl (wx [] ⟨[(1, .I n_), (2, .B 4 0), (4, .c .nil), (5, .I 0), (19, .O (decide (n_ > 12)))], [(4, .box (cC4 0 1 2 3 g_) 27)], (vV4 0 1 2 3 g_ []), 5⟩ htt 3 (by kernel_rfl) (wn (?_)))
 rcases oc h with ⟨hc, h⟩ | ⟨hc, h⟩
 ·refine wt hc rfl (wq (wg (ws htt 2 rfl (wn (?_)))))
  cases h
  exact we htt Tryz.func14 [(4, .nil)] rfl rfl rfl rfl
 refine wf hc rfl (wi (wq (wg (WPr.bs (cs := [.nil]) (oSl rR6) htt ([([] : List T6)] : List (List T6)) rfl rfl rfl rfl rfl rfl (by kernel_rfl) (by exact (an rfl rfl)) rfl (ws htt 1 rfl (wn (wq (wg (wx [2, 3] ⟨[(1, .I n_), (2, .B 4 0), (4, .c .nil), (5, .I 0), (6, .S 5), (22, .I g_.Start)], [(4, .box (cC4 0 1 2 3 g_) 27), (5, .own (rSl rR6) ([([] : List T6)] : List (List T6)) true)], (vV4 0 1 2 3 g_ []), 6⟩ htt 2 (by kernel_rfl) (WPr.bs (cs := [.I g_.Start]) (oI .i64) htt ([g_.Start] : List Int) rfl rfl rfl rfl rfl rfl (by kernel_rfl) (by exact (an rfl rfl)) rfl (ws htt 1 rfl (wn (wq (wq (wg (wx [] ⟨[(1, .I n_), (2, .B 4 0), (4, .c .nil), (5, .I 0), (6, .S 5), (7, .S 6), (8, .I 0)], [(4, .box (cC4 0 1 2 3 g_) 27), (5, .own (rSl rR6) ([([] : List T6)] : List (List T6)) true), (6, .own (rI .i64) ([g_.Start] : List Int) true)], (vV4 0 1 2 3 g_ []), 7⟩ htt 1 (by kernel_rfl) (wn (?_))))))))))))))))))
 refine wC (σ := (List (List T6))) (fun st => ⟨[(6, .S 7)], [(7, .own (rSl rR6) st true)], (vV4 0 1 2 3 g_ []), 8⟩) (fun st => z14_k1 st = some r) ?_ (fun j1 => ?_)
 ·intro e h
  replace h : z14_k1 e = some r := h
  unfold z14_k1 at h
  refine wq (wg (wx [] ⟨[(4, .S 7), (5, .I 0)], [(7, .own (rSl rR6) e true)], (vV4 0 1 2 3 g_ []), 8⟩ htt 3 (by kernel_rfl) (wn (?_))))
  cases h
  exact we htt Tryz.func14 [(4, .sl 7)] rfl rfl rfl rfl
 refine wo (?_)
 refine wI (σ := (List (List T6)) × (List Int) × Int) (fun st => ⟨[(1, .I n_), (2, .B 4 0), (6, .S 7), (7, .S 8), (8, .I st.2.2)], [(4, .box (cC4 0 1 2 3 g_) 27), (7, .own (rSl rR6) st.1 true), (8, .own (rI .i64) st.2.1 true)], (vV4 0 1 2 3 g_ []), 9⟩) (fun n st => z14_l2 N g_ n_ n st.1 st.2.1 st.2.2) (r := r) (fun _ => rfl) ?_ (fun ih => ?_)
 ·intro n12 ih12
  rintro ⟨f, g, i⟩ h
  replace h : z14_l2 N g_ n_ (n12 + 1) f g i = some r := h
  unfold z14_l2 at h
  refine wq (wq (wg (wx [] ⟨[(1, .I n_), (2, .B 4 0), (6, .S 7), (7, .S 8), (8, .I i), (27, .O (decide (i < (f.length : Int))))], [(4, .box (cC4 0 1 2 3 g_) 27), (7, .own (rSl rR6) f true), (8, .own (rI .i64) g true)], (vV4 0 1 2 3 g_ []), 9⟩ htt 4 (by kernel_rfl) (wn (?_)))))
  rcases oc' h with ⟨hc, h⟩ | ⟨hc, h⟩
  ·exact wf hc rfl (wz rfl (wu [] (j1 f h) rfl rfl rfl rfl))
  refine wt hc rfl (wi (wq (wo (wq (wq (wg (ws htt 2 rfl (?_))))))))
  obtain ⟨j, l, h⟩ := ob h
  refine wX htt l rfl rfl rfl rfl rfl rfl rfl rfl rfl (wx [3, 4, 5, 6] ⟨[(1, .I n_), (2, .B 4 0), (6, .S 7), (7, .S 8), (8, .I i), (32, .P 9 0)], [(4, .box (cC4 0 1 2 3 g_) 27), (7, .own (rSl rR6) f true), (8, .own (rI .i64) g true)], (vV4 0 1 2 3 g_ [(9, .el 7 ((i).toNat * ((rSl rR6)).sz))]), 10⟩ htt 0 (by kernel_rfl) (wL (oSl rR6) htt l rfl rfl rfl rfl rfl rfl rfl rfl rfl rfl (wx [] ⟨[(1, .I n_), (2, .B 4 0), (6, .S 7), (7, .S 8), (8, .I i), (36, .O ((j.length : Int) == n_))], [(4, .box (cC4 0 1 2 3 g_) 27), (7, .own (rSl rR6) f true), (8, .own (rI .i64) g true)], (vV4 0 1 2 3 g_ []), 11⟩ htt 3 (by kernel_rfl) (wn (?_)))))
  rcases oc h with ⟨hc, h⟩ | ⟨hc, h⟩
  ·exact wt hc rfl (wz rfl (wg (wx [] ⟨[(1, .I n_), (2, .B 4 0), (6, .S 7), (7, .S 8), (8, .I (w64 (i + 1)))], [(4, .box (cC4 0 1 2 3 g_) 27), (7, .own (rSl rR6) f true), (8, .own (rI .i64) g true)], (vV4 0 1 2 3 g_ []), 11⟩ htt 3 (by kernel_rfl) (wn (wu [] (ih12 (f, g, (w64 (i + 1))) h) rfl rfl rfl rfl)))))
  refine wf hc rfl (wi (wq (wq (wN (fun m o p => ?_)))))
  have q : m 0 ⟨[(2, .B 4 0)], (vV4 0 1 2 3 g_ []), [], [(4, .box (cC4 0 1 2 3 g_) 27)], 11, [(37, .a (cC4 0 1 2 3 g_))], [], [], 11⟩ := o _ _ (wl htt rfl rfl rfl rfl rfl rfl)
  have s : m 1 ⟨[(7, .S 8)], [], [], [], 11, [(38, .S 8)], [], [], 11⟩ := o _ _ (wl htt rfl rfl rfl rfl rfl rfl)
  have u : m 2 ⟨[(8, .I i)], [], [], [], 11, [(39, .I i)], [], [], 11⟩ := o _ _ (wl htt rfl rfl rfl rfl rfl rfl)
  obtain ⟨v, x, h⟩ := ob h
  have y : m 3 ⟨[(38, .S 8), (39, .I i)], [], [], [(8, .own (rI .i64) g true)], 11, [(40, .P 11 0)], [(11, .el 8 ((i).toNat * ((rI .i64)).sz))], [], 12⟩ := o _ _ (wO rfl rfl rfl (fun _ _ _ _ _ _ _ k => wX htt x rfl rfl rfl rfl rfl rfl rfl rfl rfl (k)) rfl)
  have z : m 4 ⟨[(40, .P 11 0)], [(11, .el 8 ((i).toNat * ((rI .i64)).sz))], [], [(8, .own (rI .i64) g true)], 12, [(41, .I v)], [], [], 12⟩ := o _ _ (wO rfl rfl rfl (fun _ _ _ _ _ _ _ k => wL (oI .i64) htt x rfl rfl rfl rfl rfl rfl rfl rfl rfl rfl (k)) rfl)
  obtain ⟨A, C, h⟩ := ob h
  have D : m 5 ⟨[(37, .a (cC4 0 1 2 3 g_)), (41, .I v)], (vV4 0 1 2 3 g_ []), [], [], 12, [(42, .S 12)], [], [(12, .own (rI .i64) A true)], 13⟩ := o _ _ (wO rfl rfl rfl (fun _ _ _ _ _ _ _ k => wc (z18_ct N g_ v _ C) [(0, .sl 0), (1, .sl 1), (2, .sl 2), (3, .sl 3)] [] rfl rfl rfl rfl rfl rfl rfl rfl (.inl rfl) rfl (k)) rfl)
  have G : m 6 ⟨[(42, .S 12)], [], [], [(12, .own (rI .i64) A true)], 13, [(43, .I (A.length : Int))], [], [], 13⟩ := o _ _ (wl htt rfl rfl rfl rfl rfl rfl)
  have H : m 7 ⟨[], [], [], [], 13, [(44, .I 0)], [], [], 13⟩ := o _ _ (wl htt rfl rfl rfl rfl rfl rfl)
  refine wD (t := ⟨[(1, .I n_), (2, .B 4 0), (6, .S 7), (7, .S 8), (8, .I i), (42, .S 12), (43, .I (A.length : Int)), (44, .I 0)], [(4, .box (cC4 0 1 2 3 g_) 27), (7, .own (rSl rR6) f true), (8, .own (rI .i64) g true), (12, .own (rI .i64) A true)], (vV4 0 1 2 3 g_ []), 13⟩) [0, 0, 0, 6, 14, 31, 63, 0] (.cons (p _ _ q) (.cons (p _ _ s) (.cons (p _ _ u) (.cons (p _ _ y) (.cons (p _ _ z) (.cons (p _ _ D) (.cons (p _ _ G) (.cons (p _ _ H) .nil)))))))) (by kernel_rfl) (by kernel_rfl) (by kernel_rfl) (by kernel_rfl) (?_)
  refine wC (σ := (List (List T6)) × (List Int)) (fun st => ⟨[(1, .I n_), (2, .B 4 0), (6, .S 13), (7, .S 14), (8, .I i)], [(4, .box (cC4 0 1 2 3 g_) 27), (13, .own (rSl rR6) st.1 true), (14, .own (rI .i64) st.2 true)], (vV4 0 1 2 3 g_ []), 15⟩) (fun st => z14_k3 i (z14_l2 N g_ n_ n12) st.1 st.2 = some r) ?_ (fun j19 => ?_)
  ·rintro ⟨J, K⟩ h
   replace h : z14_k3 i (z14_l2 N g_ n_ n12) J K = some r := h
   unfold z14_k3 at h
   refine wq (wg (wx [] ⟨[(1, .I n_), (2, .B 4 0), (6, .S 13), (7, .S 14), (8, .I i), (76, .O (decide ((J.length : Int) > 3000)))], [(4, .box (cC4 0 1 2 3 g_) 27), (13, .own (rSl rR6) J true), (14, .own (rI .i64) K true)], (vV4 0 1 2 3 g_ []), 15⟩ htt 3 (by kernel_rfl) (wn (?_))))
   rcases oc h with ⟨hc, h⟩ | ⟨hc, h⟩
   ·refine wt hc rfl (wq (wg (ws htt 2 rfl (wn (?_)))))
    cases h
    exact we htt Tryz.func14 [(4, .nil)] rfl rfl rfl rfl
   exact wf hc rfl (wi (wb (wg (wx [] ⟨[(1, .I n_), (2, .B 4 0), (6, .S 13), (7, .S 14), (8, .I (w64 (i + 1)))], [(4, .box (cC4 0 1 2 3 g_) 27), (13, .own (rSl rR6) J true), (14, .own (rI .i64) K true)], (vV4 0 1 2 3 g_ []), 15⟩ htt 3 (by kernel_rfl) (wn (wu [(7, .sl 13), (8, .sl 14)] (ih12 (J, K, (w64 (i + 1))) h) rfl rfl rfl rfl))))))
  refine wo (?_)
  refine wI (σ := (List (List T6)) × (List Int) × Int) (fun st => ⟨[(1, .I n_), (2, .B 4 0), (6, .S 13), (7, .S 14), (8, .I i), (42, .S 12), (43, .I (A.length : Int)), (44, .I st.2.2)], [(4, .box (cC4 0 1 2 3 g_) 27), (12, .own (rI .i64) A true), (13, .own (rSl rR6) st.1 true), (14, .own (rI .i64) st.2.1 true)], (vV4 0 1 2 3 g_ []), 15⟩) (fun n st => z14_l4 N g_ i (z14_l2 N g_ n_ n12) A n st.1 st.2.1 st.2.2) (r := r) (fun _ => rfl) ?_ (fun ih => ?_)
  ·intro n14 ih21
   rintro ⟨Q, R, T⟩ h
   replace h : z14_l4 N g_ i (z14_l2 N g_ n_ n12) A (n14 + 1) Q R T = some r := h
   unfold z14_l4 at h
   refine wq (wg (ws htt 1 rfl (wn (wq (?_)))))
   rcases oc' h with ⟨hc, h⟩ | ⟨hc, h⟩
   ·exact wf hc rfl (wz rfl (wu [] (j19 (Q, R) h) rfl rfl rfl rfl))
   refine wt hc rfl (wi (wq (wo (wq (wg (?_))))))
   obtain ⟨U, X, h⟩ := ob h
   refine wX htt X rfl rfl rfl rfl rfl rfl rfl rfl rfl (wL (oI .i64) htt X rfl rfl rfl rfl rfl rfl rfl rfl rfl rfl (wx [] ⟨[(1, .I n_), (2, .B 4 0), (6, .S 13), (7, .S 14), (8, .I i), (10, .I U), (42, .S 12), (43, .I (A.length : Int)), (44, .I T)], [(4, .box (cC4 0 1 2 3 g_) 27), (12, .own (rI .i64) A true), (13, .own (rSl rR6) Q true), (14, .own (rI .i64) R true)], (vV4 0 1 2 3 g_ []), 16⟩ htt 1 (by kernel_rfl) (wn (wq (wN (fun Y Z a0 => ?_))))))
   have b0 : Y 0 ⟨[(6, .S 13)], [], [], [], 16, [(48, .S 13)], [], [], 16⟩ := Z _ _ (wl htt rfl rfl rfl rfl rfl rfl)
   have c0 : Y 1 ⟨[(6, .S 13)], [], [], [], 16, [(49, .S 13)], [], [], 16⟩ := Z _ _ (wl htt rfl rfl rfl rfl rfl rfl)
   have d0 : Y 2 ⟨[(8, .I i)], [], [], [], 16, [(50, .I i)], [], [], 16⟩ := Z _ _ (wl htt rfl rfl rfl rfl rfl rfl)
   obtain ⟨e0, f0, h⟩ := ob h
   have g0 : Y 3 ⟨[(49, .S 13), (50, .I i)], [], [], [(13, .own (rSl rR6) Q true)], 16, [(51, .P 16 0)], [(16, .el 13 ((i).toNat * ((rSl rR6)).sz))], [], 17⟩ := Z _ _ (wO rfl rfl rfl (fun _ _ _ _ _ _ _ k => wX htt f0 rfl rfl rfl rfl rfl rfl rfl rfl rfl (k)) rfl)
   have i0 : Y 4 ⟨[(51, .P 16 0)], [(16, .el 13 ((i).toNat * ((rSl rR6)).sz))], [], [(13, .own (rSl rR6) Q true)], 17, [(52, .S 17)], [(17, .sl rR6 e0)], [], 18⟩ := Z _ _ (wO rfl rfl rfl (fun _ _ _ _ _ _ _ k => wL (oSl rR6) htt f0 rfl rfl rfl rfl rfl rfl rfl rfl rfl rfl (k)) rfl)
   obtain ⟨j0, k0, h⟩ := ob h
   have l0 : Y 5 ⟨[(52, .S 17)], [(17, .sl rR6 e0)], [], [], 18, [(53, .S 18)], [], [(18, .own rR6 j0 true)], 19⟩ := Z _ _ (wO rfl rfl rfl (fun _ _ _ _ _ _ _ k => wc (z45_ct N e0 _ k0) [(0, .sl 17)] [] rfl rfl rfl rfl rfl rfl rfl rfl (.inl rfl) rfl (k)) rfl)
   have m0 : Y 6 ⟨[(2, .B 4 0)], [], [], [], 19, [(54, .B 4 6)], [], [], 19⟩ := Z _ _ (wl htt rfl rfl rfl rfl rfl rfl)
   have o0 : Y 7 ⟨[(54, .B 4 6)], (vV4 0 1 2 3 g_ []), [], [(4, .box (cC4 0 1 2 3 g_) 27)], 19, [(55, .S 2)], [], [], 19⟩ := Z _ _ (wl htt rfl rfl rfl rfl rfl rfl)
   have p0 : Y 8 ⟨[(10, .I U)], [], [], [], 19, [(56, .I U)], [], [], 19⟩ := Z _ _ (wl htt rfl rfl rfl rfl rfl rfl)
   obtain ⟨q0, s0, h⟩ := ob h
   have t0 : Y 9 ⟨[(55, .S 2), (56, .I U)], [(2, .sl rR2 g_.Edges)], [], [], 19, [(57, .P 19 0)], [(19, .pl (cC2 q0))], [], 20⟩ := Z _ _ (wO rfl rfl rfl (fun _ _ _ _ _ _ _ k => wj oO2 htt s0 rfl rfl rfl rfl rfl rfl rfl rfl rfl (k)) rfl)
   have u0 : Y 10 ⟨[(57, .P 19 0)], [(19, .pl (cC2 q0))], [], [], 20, [(58, .P 19 1)], [], [], 20⟩ := Z _ _ (wl htt rfl rfl rfl rfl rfl rfl)
   have v0 : Y 11 ⟨[(58, .P 19 1)], [(19, .pl (cC2 q0))], [], [], 20, [(59, .a (cC6 q0.Act))], [], [], 20⟩ := Z _ _ (wl htt rfl rfl rfl rfl rfl rfl)
   have x0 : Y 12 ⟨[(59, .a (cC6 q0.Act))], [], [], [], 20, [(60, .S 20)], [], [(20, .own rR6 ([q0.Act] : List T6) true)], 21⟩ := Z _ _ (wO rfl rfl rfl (fun _ _ _ _ _ _ _ k => WPr.bs (cs := (cC6 q0.Act)) oO6 htt ([q0.Act] : List T6) rfl rfl rfl rfl rfl rfl (by kernel_rfl) (by exact (an (an rfl (an rfl rfl)) rfl)) rfl (k)) rfl)
   obtain ⟨y0, z0, h⟩ := ob h
   have A0 : Y 13 ⟨[(53, .S 18), (60, .S 20)], [], [(18, .own rR6 j0 true)], [(20, .own rR6 ([q0.Act] : List T6) true)], 21, [(61, .S 21)], [], [(18, .gone), (21, .own rR6 y0 true)], 22⟩ := Z _ _ (wO rfl rfl rfl (fun _ _ _ _ _ _ _ k => WPr.app htt z0 (by exact (srcO rfl)) rfl rfl rfl rfl rfl rfl rfl rfl rfl rfl (k)) rfl)
   have B0 : Y 14 ⟨[(61, .S 21)], [], [(21, .own rR6 y0 true)], [], 22, [(62, .S 22)], [(21, .sl rR6 y0)], [(21, .gone), (22, .own (rSl rR6) ([y0] : List (List T6)) true)], 23⟩ := Z _ _ (wO rfl rfl rfl (fun _ _ _ _ _ _ _ k => WPr.frz 21 rfl (WPr.bs (cs := [.sl 21]) (oSl rR6) htt ([y0] : List (List T6)) rfl rfl rfl rfl rfl rfl (by kernel_rfl) (by exact (an rfl rfl)) rfl (k))) rfl)
   obtain ⟨C0, D0, h⟩ := ob h
   have G0 : Y 15 ⟨[(48, .S 13), (62, .S 22)], [], [(13, .own (rSl rR6) Q true)], [(22, .own (rSl rR6) ([y0] : List (List T6)) true)], 23, [(63, .S 23)], [], [(13, .gone), (23, .own (rSl rR6) C0 true)], 24⟩ := Z _ _ (wO rfl rfl rfl (fun _ _ _ _ _ _ _ k => WPr.app htt D0 (by exact (srcO rfl)) rfl rfl rfl rfl rfl rfl rfl rfl rfl rfl (k)) rfl)
   have H0 : Y 16 ⟨[(63, .S 23)], [], [], [], 24, [(6, .S 23)], [], [], 24⟩ := Z _ _ (wl htt rfl rfl rfl rfl rfl rfl)
   refine wD (t := ⟨[(1, .I n_), (2, .B 4 0), (6, .S 23), (7, .S 14), (8, .I i), (10, .I U), (42, .S 12), (43, .I (A.length : Int)), (44, .I T)], [(4, .box (cC4 0 1 2 3 g_) 27), (12, .own (rI .i64) A true), (14, .own (rI .i64) R true), (23, .own (rSl rR6) C0 true)], (vV4 0 1 2 3 g_ []), 24⟩) [0, 0, 0, 6, 14, 30, 0, 64, 0, 448, 960, 1984, 4032, 8190, 16382, 32767, 65535] (.cons (a0 _ _ b0) (.cons (a0 _ _ c0) (.cons (a0 _ _ d0) (.cons (a0 _ _ g0) (.cons (a0 _ _ i0) (.cons (a0 _ _ l0) (.cons (a0 _ _ m0) (.cons (a0 _ _ o0) (.cons (a0 _ _ p0) (.cons (a0 _ _ t0) (.cons (a0 _ _ u0) (.cons (a0 _ _ v0) (.cons (a0 _ _ x0) (.cons (a0 _ _ A0) (.cons (a0 _ _ B0) (.cons (a0 _ _ G0) (.cons (a0 _ _ H0) .nil))))))))))))))))) (by kernel_rfl) (by kernel_rfl) (by kernel_rfl) (by kernel_rfl) (wg (wx (rg 4 6) ⟨[(1, .I n_), (2, .B 4 0), (6, .S 23), (8, .I i), (42, .S 12), (43, .I (A.length : Int)), (44, .I T), (64, .S 14), (66, .S 2), (67, .I U)], [(4, .box (cC4 0 1 2 3 g_) 27), (12, .own (rI .i64) A true), (14, .own (rI .i64) R true), (23, .own (rSl rR6) C0 true)], (vV4 0 1 2 3 g_ []), 24⟩ htt 4 (by kernel_rfl) (?_)))
   obtain ⟨I0, J0, h⟩ := ob h
   refine wj oO2 htt J0 rfl rfl rfl rfl rfl rfl rfl rfl rfl (wx [7, 8, 9] ⟨[(1, .I n_), (2, .B 4 0), (6, .S 23), (8, .I i), (42, .S 12), (43, .I (A.length : Int)), (44, .I T), (64, .S 14), (70, .I I0.To)], [(4, .box (cC4 0 1 2 3 g_) 27), (12, .own (rI .i64) A true), (14, .own (rI .i64) R true), (23, .own (rSl rR6) C0 true)], (vV4 0 1 2 3 g_ []), 25⟩ htt 2 (by kernel_rfl) (WPr.bs (cs := [.I I0.To]) (oI .i64) htt ([I0.To] : List Int) rfl rfl rfl rfl rfl rfl (by kernel_rfl) (by exact (an rfl rfl)) rfl (?_)))
   obtain ⟨K0, L0, h⟩ := ob h
   exact WPr.app htt L0 (by exact (srcO rfl)) rfl rfl rfl rfl rfl rfl rfl rfl rfl rfl (wx [] ⟨[(1, .I n_), (2, .B 4 0), (6, .S 23), (7, .S 26), (8, .I i), (42, .S 12), (43, .I (A.length : Int)), (44, .I T)], [(4, .box (cC4 0 1 2 3 g_) 27), (12, .own (rI .i64) A true), (23, .own (rSl rR6) C0 true), (26, .own (rI .i64) K0 true)], (vV4 0 1 2 3 g_ []), 27⟩ htt 1 (by kernel_rfl) (wn (wb (wg (ws htt 2 rfl (wn (wu [(13, .sl 23), (14, .sl 26)] (ih21 (C0, K0, (w64 (T + 1))) h) rfl rfl rfl rfl)))))))
  exact wu [(13, .sl 7), (14, .sl 8)] (ih N (f, g, 0) h) rfl rfl rfl rfl
 exact wu [(7, .sl 5), (8, .sl 6)] (ih N (([([] : List T6)] : List (List T6)), ([g_.Start] : List Int), 0) h) rfl rfl rfl rfl
theorem z17_ct (N : Nat) (g_ : T4) (state_ : Int) (act_ : T6) (r : Int × Bool) (h : z17 N g_ state_ act_ = some r) :
 Fn Tryz.prog 17 ⟨4, [.a (cC4 0 1 2 3 g_), .I state_, .a (cC6 act_)], (vV4 0 1 2 3 g_ []), [], 4, .t [.inl (.I r.1), .inl (.b r.2)], [], []⟩ := by
 refine Fn.intro _ _ Tryz.func17 rfl (by kernel_rfl) rfl (fun E F w => ?_)
 unfold z17 at h
 refine wq (wg (wx [] ⟨[(1, .I state_), (3, .B 4 0), (5, .B 5 0), (6, .I 0), (7, .O false)], [(4, .box (cC4 0 1 2 3 g_) 27), (5, .box (cC6 act_) 37)], (vV4 0 1 2 3 g_ []), 6⟩ htt 4 (by kernel_rfl) (wn (wq (wq (wg (wx [] ⟨[(1, .I state_), (5, .B 5 0), (6, .I 0), (7, .O false), (11, .S 2), (12, .I (g_.Edges.length : Int)), (13, .I 0)], [(5, .box (cC6 act_) 37)], (vV4 0 1 2 3 g_ []), 6⟩ htt 4 (by kernel_rfl) (wn (?_)))))))))
 refine wC (σ := Unit) (fun st => ⟨[], [], (vV4 0 1 2 3 g_ []), 6⟩) (fun st => z17_k1 = some r) ?_ (fun j1 => ?_)
 ·intro _ h
  replace h : z17_k1 = some r := h
  unfold z17_k1 at h
  refine wq (wg (ws htt 2 rfl (wn (?_))))
  cases h
  exact we htt Tryz.func17 [] rfl rfl rfl rfl
 refine wo (?_)
 refine wI (σ := Int) (fun st => ⟨[(1, .I state_), (5, .B 5 0), (11, .S 2), (12, .I (g_.Edges.length : Int)), (13, .I st)], [(5, .box (cC6 act_) 37)], (vV4 0 1 2 3 g_ []), 6⟩) (fun n st => z17_l2 g_ state_ act_ n st) (r := r) (fun _ => rfl) ?_ (fun ih => ?_)
 ·intro n2 ih3
  intro c h
  replace h : z17_l2 g_ state_ act_ (n2 + 1) c = some r := h
  unfold z17_l2 at h
  refine wq (wg (ws htt 1 rfl (wn (wq (?_)))))
  rcases oc' h with ⟨hc, h⟩ | ⟨hc, h⟩
  ·exact wf hc rfl (wz rfl (wu [] (j1 () h) rfl rfl rfl rfl))
  refine wt hc rfl (wi (wq (wo (wq (wg (?_))))))
  obtain ⟨x9, d, h⟩ := ob h
  refine wj oO2 htt d rfl rfl rfl rfl rfl rfl rfl rfl rfl (wx [] ⟨[(1, .I state_), (5, .B 5 0), (9, .B 7 0), (11, .S 2), (12, .I (g_.Edges.length : Int)), (13, .I c)], [(5, .box (cC6 act_) 37), (7, .box (cC2 x9) 43)], (vV4 0 1 2 3 g_ []), 8⟩ htt 3 (by kernel_rfl) (wn (wq (wg (wx [5, 6, 7, 8, 9] ⟨[(1, .I state_), (5, .B 5 0), (9, .B 7 0), (11, .S 2), (12, .I (g_.Edges.length : Int)), (13, .I c), (21, .O (x9.From == state_))], [(5, .box (cC6 act_) 37), (7, .box (cC2 x9) 43)], (vV4 0 1 2 3 g_ []), 8⟩ htt 5 (by kernel_rfl) (?_))))))
  rcases oc' h with ⟨hc, h⟩ | ⟨hc, h⟩
  ·exact wy 21 hc rfl (wx [] ⟨[(1, .I state_), (5, .B 5 0), (9, .B 7 0), (11, .S 2), (12, .I (g_.Edges.length : Int)), (13, .I c), (26, .O false)], [(5, .box (cC6 act_) 37), (7, .box (cC2 x9) 43)], (vV4 0 1 2 3 g_ []), 8⟩ htt 5 (by kernel_rfl) (wn (wf rfl rfl (wi (wb (wg (ws htt 2 rfl (wn (wu [] (ih3 (w64 (c + 1)) h) rfl rfl rfl rfl)))))))))
  refine wy 21 hc rfl (wx [8, 9] ⟨[(1, .I state_), (5, .B 5 0), (9, .B 7 0), (11, .S 2), (12, .I (g_.Edges.length : Int)), (13, .I c), (21, .O true), (23, .a (cC6 x9.Act)), (24, .a (cC6 act_))], [(5, .box (cC6 act_) 37), (7, .box (cC2 x9) 43)], (vV4 0 1 2 3 g_ []), 8⟩ htt 3 (by kernel_rfl) (WPr.eqa (neg := false) (equal_run (b := ((x9.Act.From == act_.From) && ((x9.Act.To == act_.To) && ((x9.Act.Label == act_.Label) && true)))) (by kernel_rfl) (by kernel_rfl)) (by kernel_rfl) rfl rfl rfl rfl rfl rfl rfl (ws htt 1 rfl (wn (?_)))))
  rcases oc h with ⟨hc, h⟩ | ⟨hc, h⟩
  ·refine wt hc rfl (wq (wg (wx [] ⟨[(6, .I x9.To), (7, .O true)], [], (vV4 0 1 2 3 g_ []), 8⟩ htt 4 (by kernel_rfl) (wn (?_)))))
   cases h
   exact we htt Tryz.func17 [] rfl rfl rfl rfl
  exact wf hc rfl (wi (wb (wg (wx [] ⟨[(1, .I state_), (5, .B 5 0), (11, .S 2), (12, .I (g_.Edges.length : Int)), (13, .I (w64 (c + 1)))], [(5, .box (cC6 act_) 37)], (vV4 0 1 2 3 g_ []), 8⟩ htt 2 (by kernel_rfl) (wn (wu [] (ih3 (w64 (c + 1)) h) rfl rfl rfl rfl))))))
 exact wu [] (ih N 0 h) rfl rfl rfl rfl
theorem z68_ct (N : Nat) (s1_ : (List ByteArray)) (s2_ : (List ByteArray)) (r : Bool) (h : z68 N s1_ s2_ = some r) :
 Fn Tryz.prog 68 ⟨2, [.S 0, .S 1], [(0, .sl rS s1_), (1, .sl rS s2_)], [], 2, .O r, [], []⟩ := by
 refine Fn.intro _ _ Tryz.func68 rfl (by kernel_rfl) rfl (fun E F w => ?_)
 unfold z68 at h
 refine wq (wg (ws htt 1 rfl (wn (wq (wq (wg (wx [] ⟨[(0, .S 0), (1, .S 1), (4, .O false), (10, .O ((s1_.length : Int) != (s2_.length : Int)))], [], [(0, .sl rS s1_), (1, .sl rS s2_)], 2⟩ htt 5 (by kernel_rfl) (wn (?_)))))))))
 rcases oc h with ⟨hc, h⟩ | ⟨hc, h⟩
 ·refine wt hc rfl (wq (wg (ws htt 1 rfl (wn (?_)))))
  cases h
  exact we htt Tryz.func68 [] rfl rfl rfl rfl
 refine wf hc rfl (wi (wq (wq (wg (wx [] ⟨[(0, .S 0), (1, .S 1), (4, .O false), (12, .I (s1_.length : Int)), (13, .I 0)], [], [(0, .sl rS s1_), (1, .sl rS s2_)], 2⟩ htt 3 (by kernel_rfl) (wn (?_)))))))
 refine wC (σ := Unit) (fun st => ⟨[], [], [(0, .sl rS s1_), (1, .sl rS s2_)], 2⟩) (fun st => z68_k1 = some r) ?_ (fun j1 => ?_)
 ·intro _ h
  replace h : z68_k1 = some r := h
  unfold z68_k1 at h
  refine wq (wg (ws htt 1 rfl (wn (?_))))
  cases h
  exact we htt Tryz.func68 [] rfl rfl rfl rfl
 refine wo (?_)
 refine wI (σ := Int) (fun st => ⟨[(0, .S 0), (1, .S 1), (12, .I (s1_.length : Int)), (13, .I st)], [], [(0, .sl rS s1_), (1, .sl rS s2_)], 2⟩) (fun n st => z68_l2 s1_ s2_ n st) (r := r) (fun _ => rfl) ?_ (fun ih => ?_)
 ·intro n2 ih3
  intro d h
  replace h : z68_l2 s1_ s2_ (n2 + 1) d = some r := h
  unfold z68_l2 at h
  refine wq (wg (ws htt 1 rfl (wn (wq (?_)))))
  rcases oc' h with ⟨hc, h⟩ | ⟨hc, h⟩
  ·exact wf hc rfl (wz rfl (wu [] (j1 () h) rfl rfl rfl rfl))
  refine wt hc rfl (wi (wq (wo (wq (wg (wx [] ⟨[(0, .S 0), (1, .S 1), (5, .I d), (12, .I (s1_.length : Int)), (13, .I d)], [], [(0, .sl rS s1_), (1, .sl rS s2_)], 2⟩ htt 2 (by kernel_rfl) (wn (wq (wQ (by kernel_rfl) (by kernel_rfl) (WPq.sil htt 2 rfl (?_)))))))))))
  obtain ⟨e, f, h⟩ := ob h
  refine WPq.op rfl rfl (VN.vs (VN.ix oS htt f rfl rfl rfl rfl rfl rfl rfl)) (qx [6, 7, 8] ⟨[(0, .S 0), (1, .S 1), (12, .I (s1_.length : Int)), (13, .I d), (19, .c (.s e)), (20, .S 1), (21, .I d)], [], [(0, .sl rS s1_), (1, .sl rS s2_)], 3⟩ htt 3 (by kernel_rfl) (?_))
  obtain ⟨g, i, h⟩ := ob h
  refine WPq.op rfl rfl (VN.vs (VN.ix oS htt i rfl rfl rfl rfl rfl rfl rfl)) (qx [] ⟨[(0, .S 0), (1, .S 1), (12, .I (s1_.length : Int)), (13, .I d), (24, .O (!(e.toList == g.toList)))], [], [(0, .sl rS s1_), (1, .sl rS s2_)], 4⟩ htt 2 (by kernel_rfl) (qn (?_)))
  rcases oc h with ⟨hc, h⟩ | ⟨hc, h⟩
  ·refine wt hc rfl (wq (wg (ws htt 1 rfl (wn (?_)))))
   cases h
   exact we htt Tryz.func68 [] rfl rfl rfl rfl
  exact wf hc rfl (wi (wb (wg (ws htt 2 rfl (wn (wu [] (ih3 (w64 (d + 1)) h) rfl rfl rfl rfl))))))
 exact wu [] (ih N 0 h) rfl rfl rfl rfl
theorem z124_ct (N : Nat) (s1_ : (List T3)) (s2_ : (List T3)) (r : Bool) (h : z124 N s1_ s2_ = some r) :
 Fn Tryz.prog 124 ⟨2, [.S 0, .S 1], [(0, .sl rR3 s1_), (1, .sl rR3 s2_)], [], 2, .O r, [], []⟩ := by
 refine Fn.intro _ _ Tryz.func124 rfl (by kernel_rfl) rfl (fun E F w => ?_)
 unfold z124 at h
 refine wq (wg (ws htt 1 rfl (wn (wq (wq (wg (wx [] ⟨[(0, .S 0), (1, .S 1), (4, .O false), (10, .O ((s1_.length : Int) != (s2_.length : Int)))], [], [(0, .sl rR3 s1_), (1, .sl rR3 s2_)], 2⟩ htt 5 (by kernel_rfl) (wn (?_)))))))))
 rcases oc h with ⟨hc, h⟩ | ⟨hc, h⟩
 ·refine wt hc rfl (wq (wg (ws htt 1 rfl (wn (?_)))))
  cases h
  exact we htt Tryz.func124 [] rfl rfl rfl rfl
 refine wf hc rfl (wi (wq (wq (wg (wx [] ⟨[(0, .S 0), (1, .S 1), (4, .O false), (12, .I (s1_.length : Int)), (13, .I 0)], [], [(0, .sl rR3 s1_), (1, .sl rR3 s2_)], 2⟩ htt 3 (by kernel_rfl) (wn (?_)))))))
 refine wC (σ := Unit) (fun st => ⟨[], [], [(0, .sl rR3 s1_), (1, .sl rR3 s2_)], 2⟩) (fun st => z124_k1 = some r) ?_ (fun j1 => ?_)
 ·intro _ h
  replace h : z124_k1 = some r := h
  unfold z124_k1 at h
  refine wq (wg (ws htt 1 rfl (wn (?_))))
  cases h
  exact we htt Tryz.func124 [] rfl rfl rfl rfl
 refine wo (?_)
 refine wI (σ := Int) (fun st => ⟨[(0, .S 0), (1, .S 1), (12, .I (s1_.length : Int)), (13, .I st)], [], [(0, .sl rR3 s1_), (1, .sl rR3 s2_)], 2⟩) (fun n st => z124_l2 s1_ s2_ n st) (r := r) (fun _ => rfl) ?_ (fun ih => ?_)
 ·intro n2 ih3
  intro c h
  replace h : z124_l2 s1_ s2_ (n2 + 1) c = some r := h
  unfold z124_l2 at h
  refine wq (wg (ws htt 1 rfl (wn (wq (?_)))))
  rcases oc' h with ⟨hc, h⟩ | ⟨hc, h⟩
  ·exact wf hc rfl (wz rfl (wu [] (j1 () h) rfl rfl rfl rfl))
  refine wt hc rfl (wi (wq (wo (wq (wg (wx [] ⟨[(0, .S 0), (1, .S 1), (5, .I c), (12, .I (s1_.length : Int)), (13, .I c)], [], [(0, .sl rR3 s1_), (1, .sl rR3 s2_)], 2⟩ htt 2 (by kernel_rfl) (wn (wq (wQ (by kernel_rfl) (by kernel_rfl) (WPq.sil htt 2 rfl (?_)))))))))))
  obtain ⟨d, e, h⟩ := ob h
  refine WPq.op rfl rfl (VN.vs (VN.ix oO3 htt e rfl rfl rfl rfl rfl rfl rfl)) (qx [6, 7, 8] ⟨[(0, .S 0), (1, .S 1), (12, .I (s1_.length : Int)), (13, .I c), (19, .a (cC3 d)), (20, .S 1), (21, .I c)], [], [(0, .sl rR3 s1_), (1, .sl rR3 s2_)], 3⟩ htt 3 (by kernel_rfl) (?_))
  obtain ⟨f, g, h⟩ := ob h
  refine WPq.op rfl rfl (VN.vs (VN.ix oO3 htt g rfl rfl rfl rfl rfl rfl rfl)) (WPq.sil htt 1 rfl (WPq.op rfl rfl (VN.vs (VN.eqa (neg := true) (equal_run (b := ((d.Name.toList == f.Name.toList) && (((d.Sort'.Kind == f.Sort'.Kind) && ((d.Sort'.Lo == f.Sort'.Lo) && ((d.Sort'.Hi == f.Sort'.Hi) && true))) && true))) (by kernel_rfl) (by kernel_rfl)) (by kernel_rfl) rfl rfl rfl rfl rfl)) (qx [] ⟨[(0, .S 0), (1, .S 1), (12, .I (s1_.length : Int)), (13, .I c), (24, .O (!((d.Name.toList == f.Name.toList) && (((d.Sort'.Kind == f.Sort'.Kind) && ((d.Sort'.Lo == f.Sort'.Lo) && ((d.Sort'.Hi == f.Sort'.Hi) && true))) && true))))], [], [(0, .sl rR3 s1_), (1, .sl rR3 s2_)], 4⟩ htt 0 (by kernel_rfl) (qn (?_)))))
  rcases oc h with ⟨hc, h⟩ | ⟨hc, h⟩
  ·refine wt hc rfl (wq (wg (ws htt 1 rfl (wn (?_)))))
   cases h
   exact we htt Tryz.func124 [] rfl rfl rfl rfl
  exact wf hc rfl (wi (wb (wg (ws htt 2 rfl (wn (wu [] (ih3 (w64 (c + 1)) h) rfl rfl rfl rfl))))))
 exact wu [] (ih N 0 h) rfl rfl rfl rfl
theorem z125_ct (N : Nat) (s1_ : (List T1)) (s2_ : (List T1)) (r : Bool) (h : z125 N s1_ s2_ = some r) :
 Fn Tryz.prog 125 ⟨2, [.S 0, .S 1], [(0, .sl rR1 s1_), (1, .sl rR1 s2_)], [], 2, .O r, [], []⟩ := by
 refine Fn.intro _ _ Tryz.func125 rfl (by kernel_rfl) rfl (fun E F w => ?_)
 unfold z125 at h
 refine wq (wg (ws htt 1 rfl (wn (wq (wq (wg (wx [] ⟨[(0, .S 0), (1, .S 1), (4, .O false), (10, .O ((s1_.length : Int) != (s2_.length : Int)))], [], [(0, .sl rR1 s1_), (1, .sl rR1 s2_)], 2⟩ htt 5 (by kernel_rfl) (wn (?_)))))))))
 rcases oc h with ⟨hc, h⟩ | ⟨hc, h⟩
 ·refine wt hc rfl (wq (wg (ws htt 1 rfl (wn (?_)))))
  cases h
  exact we htt Tryz.func125 [] rfl rfl rfl rfl
 refine wf hc rfl (wi (wq (wq (wg (wx [] ⟨[(0, .S 0), (1, .S 1), (4, .O false), (12, .I (s1_.length : Int)), (13, .I 0)], [], [(0, .sl rR1 s1_), (1, .sl rR1 s2_)], 2⟩ htt 3 (by kernel_rfl) (wn (?_)))))))
 refine wC (σ := Unit) (fun st => ⟨[], [], [(0, .sl rR1 s1_), (1, .sl rR1 s2_)], 2⟩) (fun st => z125_k1 = some r) ?_ (fun j1 => ?_)
 ·intro _ h
  replace h : z125_k1 = some r := h
  unfold z125_k1 at h
  refine wq (wg (ws htt 1 rfl (wn (?_))))
  cases h
  exact we htt Tryz.func125 [] rfl rfl rfl rfl
 refine wo (?_)
 refine wI (σ := Int) (fun st => ⟨[(0, .S 0), (1, .S 1), (12, .I (s1_.length : Int)), (13, .I st)], [], [(0, .sl rR1 s1_), (1, .sl rR1 s2_)], 2⟩) (fun n st => z125_l2 s1_ s2_ n st) (r := r) (fun _ => rfl) ?_ (fun ih => ?_)
 ·intro n2 ih3
  intro c h
  replace h : z125_l2 s1_ s2_ (n2 + 1) c = some r := h
  unfold z125_l2 at h
  refine wq (wg (ws htt 1 rfl (wn (wq (?_)))))
  rcases oc' h with ⟨hc, h⟩ | ⟨hc, h⟩
  ·exact wf hc rfl (wz rfl (wu [] (j1 () h) rfl rfl rfl rfl))
  refine wt hc rfl (wi (wq (wo (wq (wg (wx [] ⟨[(0, .S 0), (1, .S 1), (5, .I c), (12, .I (s1_.length : Int)), (13, .I c)], [], [(0, .sl rR1 s1_), (1, .sl rR1 s2_)], 2⟩ htt 2 (by kernel_rfl) (wn (wq (wQ (by kernel_rfl) (by kernel_rfl) (WPq.sil htt 2 rfl (?_)))))))))))
  obtain ⟨d, e, h⟩ := ob h
  refine WPq.op rfl rfl (VN.vs (VN.ix oO1 htt e rfl rfl rfl rfl rfl rfl rfl)) (qx [6, 7, 8] ⟨[(0, .S 0), (1, .S 1), (12, .I (s1_.length : Int)), (13, .I c), (19, .a (cC1 d)), (20, .S 1), (21, .I c)], [], [(0, .sl rR1 s1_), (1, .sl rR1 s2_)], 3⟩ htt 3 (by kernel_rfl) (?_))
  obtain ⟨f, g, h⟩ := ob h
  refine WPq.op rfl rfl (VN.vs (VN.ix oO1 htt g rfl rfl rfl rfl rfl rfl rfl)) (WPq.sil htt 1 rfl (WPq.op rfl rfl (VN.vs (VN.eqa (neg := true) (equal_run (b := ((d.X == f.X) && ((d.Y == f.Y) && ((d.C == f.C) && true)))) (by kernel_rfl) (by kernel_rfl)) (by kernel_rfl) rfl rfl rfl rfl rfl)) (qx [] ⟨[(0, .S 0), (1, .S 1), (12, .I (s1_.length : Int)), (13, .I c), (24, .O (!((d.X == f.X) && ((d.Y == f.Y) && ((d.C == f.C) && true)))))], [], [(0, .sl rR1 s1_), (1, .sl rR1 s2_)], 4⟩ htt 0 (by kernel_rfl) (qn (?_)))))
  rcases oc h with ⟨hc, h⟩ | ⟨hc, h⟩
  ·refine wt hc rfl (wq (wg (ws htt 1 rfl (wn (?_)))))
   cases h
   exact we htt Tryz.func125 [] rfl rfl rfl rfl
  exact wf hc rfl (wi (wb (wg (ws htt 2 rfl (wn (wu [] (ih3 (w64 (c + 1)) h) rfl rfl rfl rfl))))))
 exact wu [] (ih N 0 h) rfl rfl rfl rfl
theorem z126_ct (N : Nat) (s1_ : (List (Int × Int))) (s2_ : (List (Int × Int))) (r : Bool) (h : z126 N s1_ s2_ = some r) :
 Fn Tryz.prog 126 ⟨2, [.S 0, .S 1], [(0, .sl (rP (rI .i64) (rI .i64)) s1_), (1, .sl (rP (rI .i64) (rI .i64)) s2_)], [], 2, .O r, [], []⟩ := by
 refine Fn.intro _ _ Tryz.func126 rfl (by kernel_rfl) rfl (fun E F w => ?_)
 unfold z126 at h
 refine wq (wg (ws htt 1 rfl (wn (wq (wq (wg (wx [] ⟨[(0, .S 0), (1, .S 1), (4, .O false), (10, .O ((s1_.length : Int) != (s2_.length : Int)))], [], [(0, .sl (rP (rI .i64) (rI .i64)) s1_), (1, .sl (rP (rI .i64) (rI .i64)) s2_)], 2⟩ htt 5 (by kernel_rfl) (wn (?_)))))))))
 rcases oc h with ⟨hc, h⟩ | ⟨hc, h⟩
 ·refine wt hc rfl (wq (wg (ws htt 1 rfl (wn (?_)))))
  cases h
  exact we htt Tryz.func126 [] rfl rfl rfl rfl
 refine wf hc rfl (wi (wq (wq (wg (wx [] ⟨[(0, .S 0), (1, .S 1), (4, .O false), (12, .I (s1_.length : Int)), (13, .I 0)], [], [(0, .sl (rP (rI .i64) (rI .i64)) s1_), (1, .sl (rP (rI .i64) (rI .i64)) s2_)], 2⟩ htt 3 (by kernel_rfl) (wn (?_)))))))
 refine wC (σ := Unit) (fun st => ⟨[], [], [(0, .sl (rP (rI .i64) (rI .i64)) s1_), (1, .sl (rP (rI .i64) (rI .i64)) s2_)], 2⟩) (fun st => z126_k1 = some r) ?_ (fun j1 => ?_)
 ·intro _ h
  replace h : z126_k1 = some r := h
  unfold z126_k1 at h
  refine wq (wg (ws htt 1 rfl (wn (?_))))
  cases h
  exact we htt Tryz.func126 [] rfl rfl rfl rfl
 refine wo (?_)
 refine wI (σ := Int) (fun st => ⟨[(0, .S 0), (1, .S 1), (12, .I (s1_.length : Int)), (13, .I st)], [], [(0, .sl (rP (rI .i64) (rI .i64)) s1_), (1, .sl (rP (rI .i64) (rI .i64)) s2_)], 2⟩) (fun n st => z126_l2 s1_ s2_ n st) (r := r) (fun _ => rfl) ?_ (fun ih => ?_)
 ·intro n2 ih3
  intro c h
  replace h : z126_l2 s1_ s2_ (n2 + 1) c = some r := h
  unfold z126_l2 at h
  refine wq (wg (ws htt 1 rfl (wn (wq (?_)))))
  rcases oc' h with ⟨hc, h⟩ | ⟨hc, h⟩
  ·exact wf hc rfl (wz rfl (wu [] (j1 () h) rfl rfl rfl rfl))
  refine wt hc rfl (wi (wq (wo (wq (wg (wx [] ⟨[(0, .S 0), (1, .S 1), (5, .I c), (12, .I (s1_.length : Int)), (13, .I c)], [], [(0, .sl (rP (rI .i64) (rI .i64)) s1_), (1, .sl (rP (rI .i64) (rI .i64)) s2_)], 2⟩ htt 2 (by kernel_rfl) (wn (wq (wQ (by kernel_rfl) (by kernel_rfl) (WPq.sil htt 2 rfl (?_)))))))))))
  obtain ⟨d, e, h⟩ := ob h
  refine WPq.op rfl rfl (VN.vs (VN.ix (oP (oI .i64) (oI .i64)) htt e rfl rfl rfl rfl rfl rfl rfl)) (qx [6, 7, 8] ⟨[(0, .S 0), (1, .S 1), (12, .I (s1_.length : Int)), (13, .I c), (19, .a [.I d.1, .I d.2]), (20, .S 1), (21, .I c)], [], [(0, .sl (rP (rI .i64) (rI .i64)) s1_), (1, .sl (rP (rI .i64) (rI .i64)) s2_)], 3⟩ htt 3 (by kernel_rfl) (?_))
  obtain ⟨f, g, h⟩ := ob h
  refine WPq.op rfl rfl (VN.vs (VN.ix (oP (oI .i64) (oI .i64)) htt g rfl rfl rfl rfl rfl rfl rfl)) (WPq.sil htt 1 rfl (WPq.op rfl rfl (VN.vs (VN.eqa (neg := true) (equal_run (b := ((d.1 == f.1) && ((d.2 == f.2) && true))) (by kernel_rfl) (by kernel_rfl)) (by kernel_rfl) rfl rfl rfl rfl rfl)) (qx [] ⟨[(0, .S 0), (1, .S 1), (12, .I (s1_.length : Int)), (13, .I c), (24, .O (!((d.1 == f.1) && ((d.2 == f.2) && true))))], [], [(0, .sl (rP (rI .i64) (rI .i64)) s1_), (1, .sl (rP (rI .i64) (rI .i64)) s2_)], 4⟩ htt 0 (by kernel_rfl) (qn (?_)))))
  rcases oc h with ⟨hc, h⟩ | ⟨hc, h⟩
  ·refine wt hc rfl (wq (wg (ws htt 1 rfl (wn (?_)))))
   cases h
   exact we htt Tryz.func126 [] rfl rfl rfl rfl
  exact wf hc rfl (wi (wb (wg (ws htt 2 rfl (wn (wu [] (ih3 (w64 (c + 1)) h) rfl rfl rfl rfl))))))
 exact wu [] (ih N 0 h) rfl rfl rfl rfl
theorem z70_ct (N : Nat) (a_ : T0) (b_ : T0) (r : Bool) (h : z70 N a_ b_ = some r) :
 Fn Tryz.prog 70 ⟨6, [.a (cC0 0 1 2 a_), .a (cC0 3 4 5 b_)], (vV0 0 1 2 a_ (vV0 3 4 5 b_ [])), [], 6, .O r, [], []⟩ := by
 refine Fn.intro _ _ Tryz.func70 rfl (by kernel_rfl) rfl (fun E F w => ?_)
 unfold z70 at h
 refine wq (wg (wx [] ⟨[(2, .B 6 0), (3, .B 7 0), (4, .O false)], [(6, .box (cC0 0 1 2 a_) 94), (7, .box (cC0 3 4 5 b_) 94)], (vV0 0 1 2 a_ (vV0 3 4 5 b_ [])), 8⟩ htt 3 (by kernel_rfl) (wn (wq (wg (wx (rg 6 32) ⟨[(2, .B 6 0), (3, .B 7 0), (10, .O (a_.Name.toList == b_.Name.toList))], [(6, .box (cC0 0 1 2 a_) 94), (7, .box (cC0 3 4 5 b_) 94)], (vV0 0 1 2 a_ (vV0 3 4 5 b_ [])), 8⟩ htt 6 (by kernel_rfl) (?_)))))))
 rcases oc' h with ⟨hc, h⟩ | ⟨hc, h⟩
 ·refine wy 10 hc rfl (wx [] ⟨[(4, .O false)], [], (vV0 0 1 2 a_ (vV0 3 4 5 b_ [])), 8⟩ htt 32 (by kernel_rfl) (wn (?_)))
  cases h
  exact we htt Tryz.func70 [] rfl rfl rfl rfl
 refine wy 10 hc rfl (wx (rg 13 25) ⟨[(2, .B 6 0), (3, .B 7 0), (17, .O (a_.First == b_.First))], [(6, .box (cC0 0 1 2 a_) 94), (7, .box (cC0 3 4 5 b_) 94)], (vV0 0 1 2 a_ (vV0 3 4 5 b_ [])), 8⟩ htt 7 (by kernel_rfl) (?_))
 rcases oc' h with ⟨hc, h⟩ | ⟨hc, h⟩
 ·refine wy 17 hc rfl (wx [] ⟨[(4, .O false)], [], (vV0 0 1 2 a_ (vV0 3 4 5 b_ [])), 8⟩ htt 25 (by kernel_rfl) (wn (?_)))
  cases h
  exact we htt Tryz.func70 [] rfl rfl rfl rfl
 refine wy 17 hc rfl (wx (rg 17 21) ⟨[(2, .B 6 0), (3, .B 7 0), (17, .O true), (19, .S 0), (21, .S 3)], [(6, .box (cC0 0 1 2 a_) 94), (7, .box (cC0 3 4 5 b_) 94)], (vV0 0 1 2 a_ (vV0 3 4 5 b_ [])), 8⟩ htt 4 (by kernel_rfl) (?_))
 obtain ⟨x1, c, h⟩ := ob h
 refine wc (z124_ct N a_.Fields b_.Fields _ c) [(0, .sl 0), (1, .sl 3)] [] rfl rfl rfl rfl rfl rfl rfl rfl (.inl rfl) rfl (wx (rg 20 18) ⟨[(2, .B 6 0), (3, .B 7 0), (24, .O x1)], [(6, .box (cC0 0 1 2 a_) 94), (7, .box (cC0 3 4 5 b_) 94)], (vV0 0 1 2 a_ (vV0 3 4 5 b_ [])), 8⟩ htt 2 (by kernel_rfl) (?_))
 rcases oc' h with ⟨hc, h⟩ | ⟨hc, h⟩
 ·refine wy 24 hc rfl (wx [] ⟨[(4, .O false)], [], (vV0 0 1 2 a_ (vV0 3 4 5 b_ [])), 8⟩ htt 18 (by kernel_rfl) (wn (?_)))
  cases h
  exact we htt Tryz.func70 [] rfl rfl rfl rfl
 refine wy 24 hc rfl (wx (rg 26 12) ⟨[(2, .B 6 0), (3, .B 7 0), (24, .O true), (27, .S 1), (30, .S 4)], [(6, .box (cC0 0 1 2 a_) 94), (7, .box (cC0 3 4 5 b_) 94)], (vV0 0 1 2 a_ (vV0 3 4 5 b_ [])), 8⟩ htt 6 (by kernel_rfl) (?_))
 obtain ⟨x2, d, h⟩ := ob h
 refine wc (z125_ct N a_.Guard.Diffs b_.Guard.Diffs _ d) [(0, .sl 1), (1, .sl 4)] [] rfl rfl rfl rfl rfl rfl rfl rfl (.inl rfl) rfl (wx (rg 29 9) ⟨[(2, .B 6 0), (3, .B 7 0), (33, .O x2)], [(6, .box (cC0 0 1 2 a_) 94), (7, .box (cC0 3 4 5 b_) 94)], (vV0 0 1 2 a_ (vV0 3 4 5 b_ [])), 8⟩ htt 2 (by kernel_rfl) (?_))
 rcases oc' h with ⟨hc, h⟩ | ⟨hc, h⟩
 ·refine wy 33 hc rfl (wx [] ⟨[(4, .O false)], [], (vV0 0 1 2 a_ (vV0 3 4 5 b_ [])), 8⟩ htt 9 (by kernel_rfl) (wn (?_)))
  cases h
  exact we htt Tryz.func70 [] rfl rfl rfl rfl
 refine wy 33 hc rfl (wx [35, 36, 37] ⟨[(33, .O true), (36, .S 2), (39, .S 5)], [], (vV0 0 1 2 a_ (vV0 3 4 5 b_ [])), 8⟩ htt 6 (by kernel_rfl) (?_))
 obtain ⟨x3, e, h⟩ := ob h
 refine wc (z126_ct N a_.Guard.Equals b_.Guard.Equals _ e) [(0, .sl 2), (1, .sl 5)] [] rfl rfl rfl rfl rfl rfl rfl rfl (.inl rfl) rfl (wx [] ⟨[(4, .O x3)], [], (vV0 0 1 2 a_ (vV0 3 4 5 b_ [])), 8⟩ htt 2 (by kernel_rfl) (wn (?_)))
 cases h
 exact we htt Tryz.func70 [] rfl rfl rfl rfl
theorem z69_15_ct (N : Nat) (s1_ : (List T0)) (s2_ : (List T0)) (r : Bool) (h : z69_15 N s1_ s2_ = some r) :
 Fn Tryz.prog 69 ⟨2, [.S 0, .S 1, .c (.cl 70 [] [])], [(0, .sl rR0 s1_), (1, .sl rR0 s2_)], [], 2, .O r, [], []⟩ := by
 refine Fn.intro _ _ Tryz.func69 rfl (by kernel_rfl) rfl (fun E F w => ?_)
 unfold z69_15 at h
 refine wq (wg (ws htt 1 rfl (wn (wq (wq (wg (wx [] ⟨[(0, .S 0), (1, .S 1), (2, .c (.cl 70 [] [])), (6, .O false), (14, .O ((s1_.length : Int) != (s2_.length : Int)))], [], [(0, .sl rR0 s1_), (1, .sl rR0 s2_)], 2⟩ htt 5 (by kernel_rfl) (wn (?_)))))))))
 rcases oc h with ⟨hc, h⟩ | ⟨hc, h⟩
 ·refine wt hc rfl (wq (wg (ws htt 1 rfl (wn (?_)))))
  cases h
  exact we htt Tryz.func69 [] rfl rfl rfl rfl
 refine wf hc rfl (wi (wq (wq (wg (wx [] ⟨[(1, .S 1), (2, .c (.cl 70 [] [])), (6, .O false), (15, .S 0), (16, .I (s1_.length : Int)), (17, .I 0)], [], [(0, .sl rR0 s1_), (1, .sl rR0 s2_)], 2⟩ htt 3 (by kernel_rfl) (wn (?_)))))))
 refine wC (σ := Unit) (fun st => ⟨[], [], [(0, .sl rR0 s1_), (1, .sl rR0 s2_)], 2⟩) (fun st => z69_15_k1 = some r) ?_ (fun j1 => ?_)
 ·intro _ h
  replace h : z69_15_k1 = some r := h
  unfold z69_15_k1 at h
  refine wq (wg (ws htt 1 rfl (wn (?_))))
  cases h
  exact we htt Tryz.func69 [] rfl rfl rfl rfl
 refine wo (?_)
 refine wI (σ := Int) (fun st => ⟨[(1, .S 1), (2, .c (.cl 70 [] [])), (15, .S 0), (16, .I (s1_.length : Int)), (17, .I st)], [], [(0, .sl rR0 s1_), (1, .sl rR0 s2_)], 2⟩) (fun n st => z69_15_l2 N s1_ s2_ n st) (r := r) (fun _ => rfl) ?_ (fun ih => ?_)
 ·intro n2 ih3
  intro d h
  replace h : z69_15_l2 N s1_ s2_ (n2 + 1) d = some r := h
  unfold z69_15_l2 at h
  refine wq (wg (ws htt 1 rfl (wn (wq (?_)))))
  rcases oc' h with ⟨hc, h⟩ | ⟨hc, h⟩
  ·exact wf hc rfl (wz rfl (wu [] (j1 () h) rfl rfl rfl rfl))
  refine wt hc rfl (wi (wq (wo (wq (wg (ws htt 1 rfl (?_)))))))
  obtain ⟨e, f, h⟩ := ob h
  refine wj oO0 htt f rfl rfl rfl rfl rfl rfl rfl rfl rfl (wx [] ⟨[(1, .S 1), (2, .c (.cl 70 [] [])), (7, .I d), (8, .B 6 0), (15, .S 0), (16, .I (s1_.length : Int)), (17, .I d)], [(6, .box (cC0 3 4 5 e) 94)], ((0, .sl rR0 s1_) :: (1, .sl rR0 s2_) :: vV0 3 4 5 e []), 7⟩ htt 4 (by kernel_rfl) (wn (wq (wg (ws htt 2 rfl (?_))))))
  obtain ⟨g, i, h⟩ := ob h
  refine wj oO0 htt i rfl rfl rfl rfl rfl rfl rfl rfl rfl (wx [] ⟨[(1, .S 1), (2, .c (.cl 70 [] [])), (8, .B 6 0), (9, .B 11 0), (15, .S 0), (16, .I (s1_.length : Int)), (17, .I d)], [(6, .box (cC0 3 4 5 e) 94), (11, .box (cC0 8 9 10 g) 94)], ((0, .sl rR0 s1_) :: (1, .sl rR0 s2_) :: vV0 3 4 5 e (vV0 8 9 10 g [])), 12⟩ htt 3 (by kernel_rfl) (wn (wq (wg (wx [3, 4] ⟨[(1, .S 1), (2, .c (.cl 70 [] [])), (15, .S 0), (16, .I (s1_.length : Int)), (17, .I d), (26, .c (.cl 70 [] [])), (27, .a (cC0 3 4 5 e)), (28, .a (cC0 8 9 10 g))], [], ((0, .sl rR0 s1_) :: (1, .sl rR0 s2_) :: vV0 3 4 5 e (vV0 8 9 10 g [])), 12⟩ htt 3 (by kernel_rfl) (?_))))))
  obtain ⟨j, k, h⟩ := ob h
  refine WPr.callc (z70_ct N e g _ k) [(0, .sl 3), (1, .sl 4), (2, .sl 5), (3, .sl 8), (4, .sl 9), (5, .sl 10)] [] rfl rfl rfl rfl rfl rfl rfl rfl rfl (.inl rfl) rfl (wx [] ⟨[(1, .S 1), (2, .c (.cl 70 [] [])), (15, .S 0), (16, .I (s1_.length : Int)), (17, .I d), (30, .O (!j))], [], [(0, .sl rR0 s1_), (1, .sl rR0 s2_)], 12⟩ htt 1 (by kernel_rfl) (wn (?_)))
  rcases oc h with ⟨hc, h⟩ | ⟨hc, h⟩
  ·refine wt hc rfl (wq (wg (ws htt 1 rfl (wn (?_)))))
   cases h
   exact we htt Tryz.func69 [] rfl rfl rfl rfl
  exact wf hc rfl (wi (wb (wg (ws htt 2 rfl (wn (wu [] (ih3 (w64 (d + 1)) h) rfl rfl rfl rfl))))))
 exact wu [] (ih N 0 h) rfl rfl rfl rfl
theorem z71_ct (N : Nat) (s1_ : (List T2)) (s2_ : (List T2)) (r : Bool) (h : z71 N s1_ s2_ = some r) :
 Fn Tryz.prog 71 ⟨2, [.S 0, .S 1], [(0, .sl rR2 s1_), (1, .sl rR2 s2_)], [], 2, .O r, [], []⟩ := by
 refine Fn.intro _ _ Tryz.func71 rfl (by kernel_rfl) rfl (fun E F w => ?_)
 unfold z71 at h
 refine wq (wg (ws htt 1 rfl (wn (wq (wq (wg (wx [] ⟨[(0, .S 0), (1, .S 1), (4, .O false), (10, .O ((s1_.length : Int) != (s2_.length : Int)))], [], [(0, .sl rR2 s1_), (1, .sl rR2 s2_)], 2⟩ htt 5 (by kernel_rfl) (wn (?_)))))))))
 rcases oc h with ⟨hc, h⟩ | ⟨hc, h⟩
 ·refine wt hc rfl (wq (wg (ws htt 1 rfl (wn (?_)))))
  cases h
  exact we htt Tryz.func71 [] rfl rfl rfl rfl
 refine wf hc rfl (wi (wq (wq (wg (wx [] ⟨[(0, .S 0), (1, .S 1), (4, .O false), (12, .I (s1_.length : Int)), (13, .I 0)], [], [(0, .sl rR2 s1_), (1, .sl rR2 s2_)], 2⟩ htt 3 (by kernel_rfl) (wn (?_)))))))
 refine wC (σ := Unit) (fun st => ⟨[], [], [(0, .sl rR2 s1_), (1, .sl rR2 s2_)], 2⟩) (fun st => z71_k1 = some r) ?_ (fun j1 => ?_)
 ·intro _ h
  replace h : z71_k1 = some r := h
  unfold z71_k1 at h
  refine wq (wg (ws htt 1 rfl (wn (?_))))
  cases h
  exact we htt Tryz.func71 [] rfl rfl rfl rfl
 refine wo (?_)
 refine wI (σ := Int) (fun st => ⟨[(0, .S 0), (1, .S 1), (12, .I (s1_.length : Int)), (13, .I st)], [], [(0, .sl rR2 s1_), (1, .sl rR2 s2_)], 2⟩) (fun n st => z71_l2 s1_ s2_ n st) (r := r) (fun _ => rfl) ?_ (fun ih => ?_)
 ·intro n2 ih3
  intro c h
  replace h : z71_l2 s1_ s2_ (n2 + 1) c = some r := h
  unfold z71_l2 at h
  refine wq (wg (ws htt 1 rfl (wn (wq (?_)))))
  rcases oc' h with ⟨hc, h⟩ | ⟨hc, h⟩
  ·exact wf hc rfl (wz rfl (wu [] (j1 () h) rfl rfl rfl rfl))
  refine wt hc rfl (wi (wq (wo (wq (wg (wx [] ⟨[(0, .S 0), (1, .S 1), (5, .I c), (12, .I (s1_.length : Int)), (13, .I c)], [], [(0, .sl rR2 s1_), (1, .sl rR2 s2_)], 2⟩ htt 2 (by kernel_rfl) (wn (wq (wQ (by kernel_rfl) (by kernel_rfl) (WPq.sil htt 2 rfl (?_)))))))))))
  obtain ⟨d, e, h⟩ := ob h
  refine WPq.op rfl rfl (VN.vs (VN.ix oO2 htt e rfl rfl rfl rfl rfl rfl rfl)) (qx [6, 7, 8] ⟨[(0, .S 0), (1, .S 1), (12, .I (s1_.length : Int)), (13, .I c), (19, .a (cC2 d)), (20, .S 1), (21, .I c)], [], [(0, .sl rR2 s1_), (1, .sl rR2 s2_)], 3⟩ htt 3 (by kernel_rfl) (?_))
  obtain ⟨f, g, h⟩ := ob h
  refine WPq.op rfl rfl (VN.vs (VN.ix oO2 htt g rfl rfl rfl rfl rfl rfl rfl)) (WPq.sil htt 1 rfl (WPq.op rfl rfl (VN.vs (VN.eqa (neg := true) (equal_run (b := ((d.From == f.From) && (((d.Act.From == f.Act.From) && ((d.Act.To == f.Act.To) && ((d.Act.Label == f.Act.Label) && true))) && ((d.To == f.To) && ((d.Again == f.Again) && true))))) (by kernel_rfl) (by kernel_rfl)) (by kernel_rfl) rfl rfl rfl rfl rfl)) (qx [] ⟨[(0, .S 0), (1, .S 1), (12, .I (s1_.length : Int)), (13, .I c), (24, .O (!((d.From == f.From) && (((d.Act.From == f.Act.From) && ((d.Act.To == f.Act.To) && ((d.Act.Label == f.Act.Label) && true))) && ((d.To == f.To) && ((d.Again == f.Again) && true))))))], [], [(0, .sl rR2 s1_), (1, .sl rR2 s2_)], 4⟩ htt 0 (by kernel_rfl) (qn (?_)))))
  rcases oc h with ⟨hc, h⟩ | ⟨hc, h⟩
  ·refine wt hc rfl (wq (wg (ws htt 1 rfl (wn (?_)))))
   cases h
   exact we htt Tryz.func71 [] rfl rfl rfl rfl
  exact wf hc rfl (wi (wb (wg (ws htt 2 rfl (wn (wu [] (ih3 (w64 (c + 1)) h) rfl rfl rfl rfl))))))
 exact wu [] (ih N 0 h) rfl rfl rfl rfl
theorem z72_ct (N : Nat) (s1_ : (List T8)) (s2_ : (List T8)) (r : Bool) (h : z72 N s1_ s2_ = some r) :
 Fn Tryz.prog 72 ⟨2, [.S 0, .S 1], [(0, .sl rR8 s1_), (1, .sl rR8 s2_)], [], 2, .O r, [], []⟩ := by
 refine Fn.intro _ _ Tryz.func72 rfl (by kernel_rfl) rfl (fun E F w => ?_)
 unfold z72 at h
 refine wq (wg (ws htt 1 rfl (wn (wq (wq (wg (wx [] ⟨[(0, .S 0), (1, .S 1), (4, .O false), (10, .O ((s1_.length : Int) != (s2_.length : Int)))], [], [(0, .sl rR8 s1_), (1, .sl rR8 s2_)], 2⟩ htt 5 (by kernel_rfl) (wn (?_)))))))))
 rcases oc h with ⟨hc, h⟩ | ⟨hc, h⟩
 ·refine wt hc rfl (wq (wg (ws htt 1 rfl (wn (?_)))))
  cases h
  exact we htt Tryz.func72 [] rfl rfl rfl rfl
 refine wf hc rfl (wi (wq (wq (wg (wx [] ⟨[(0, .S 0), (1, .S 1), (4, .O false), (12, .I (s1_.length : Int)), (13, .I 0)], [], [(0, .sl rR8 s1_), (1, .sl rR8 s2_)], 2⟩ htt 3 (by kernel_rfl) (wn (?_)))))))
 refine wC (σ := Unit) (fun st => ⟨[], [], [(0, .sl rR8 s1_), (1, .sl rR8 s2_)], 2⟩) (fun st => z72_k1 = some r) ?_ (fun j1 => ?_)
 ·intro _ h
  replace h : z72_k1 = some r := h
  unfold z72_k1 at h
  refine wq (wg (ws htt 1 rfl (wn (?_))))
  cases h
  exact we htt Tryz.func72 [] rfl rfl rfl rfl
 refine wo (?_)
 refine wI (σ := Int) (fun st => ⟨[(0, .S 0), (1, .S 1), (12, .I (s1_.length : Int)), (13, .I st)], [], [(0, .sl rR8 s1_), (1, .sl rR8 s2_)], 2⟩) (fun n st => z72_l2 s1_ s2_ n st) (r := r) (fun _ => rfl) ?_ (fun ih => ?_)
 ·intro n2 ih3
  intro c h
  replace h : z72_l2 s1_ s2_ (n2 + 1) c = some r := h
  unfold z72_l2 at h
  refine wq (wg (ws htt 1 rfl (wn (wq (?_)))))
  rcases oc' h with ⟨hc, h⟩ | ⟨hc, h⟩
  ·exact wf hc rfl (wz rfl (wu [] (j1 () h) rfl rfl rfl rfl))
  refine wt hc rfl (wi (wq (wo (wq (wg (wx [] ⟨[(0, .S 0), (1, .S 1), (5, .I c), (12, .I (s1_.length : Int)), (13, .I c)], [], [(0, .sl rR8 s1_), (1, .sl rR8 s2_)], 2⟩ htt 2 (by kernel_rfl) (wn (wq (wQ (by kernel_rfl) (by kernel_rfl) (WPq.sil htt 2 rfl (?_)))))))))))
  obtain ⟨d, e, h⟩ := ob h
  refine WPq.op rfl rfl (VN.vs (VN.ix oO8 htt e rfl rfl rfl rfl rfl rfl rfl)) (qx [6, 7, 8] ⟨[(0, .S 0), (1, .S 1), (12, .I (s1_.length : Int)), (13, .I c), (19, .a (cC8 d)), (20, .S 1), (21, .I c)], [], [(0, .sl rR8 s1_), (1, .sl rR8 s2_)], 3⟩ htt 3 (by kernel_rfl) (?_))
  obtain ⟨f, g, h⟩ := ob h
  refine WPq.op rfl rfl (VN.vs (VN.ix oO8 htt g rfl rfl rfl rfl rfl rfl rfl)) (WPq.sil htt 1 rfl (WPq.op rfl rfl (VN.vs (VN.eqa (neg := true) (equal_run (b := ((d.State == f.State) && ((d.Ticks == f.Ticks) && ((d.Else == f.Else) && true)))) (by kernel_rfl) (by kernel_rfl)) (by kernel_rfl) rfl rfl rfl rfl rfl)) (qx [] ⟨[(0, .S 0), (1, .S 1), (12, .I (s1_.length : Int)), (13, .I c), (24, .O (!((d.State == f.State) && ((d.Ticks == f.Ticks) && ((d.Else == f.Else) && true)))))], [], [(0, .sl rR8 s1_), (1, .sl rR8 s2_)], 4⟩ htt 0 (by kernel_rfl) (qn (?_)))))
  rcases oc h with ⟨hc, h⟩ | ⟨hc, h⟩
  ·refine wt hc rfl (wq (wg (ws htt 1 rfl (wn (?_)))))
   cases h
   exact we htt Tryz.func72 [] rfl rfl rfl rfl
  exact wf hc rfl (wi (wb (wg (ws htt 2 rfl (wn (wu [] (ih3 (w64 (c + 1)) h) rfl rfl rfl rfl))))))
 exact wu [] (ih N 0 h) rfl rfl rfl rfl
theorem z23_ct (N : Nat) (a_ : T4) (b_ : T4) (r : Bool) (h : z23 N a_ b_ = some r) :
 Fn Tryz.prog 23 ⟨8, [.a (cC4 0 1 2 3 a_), .a (cC4 4 5 6 7 b_)], (vV4 0 1 2 3 a_ (vV4 4 5 6 7 b_ [])), [], 8, .O r, [], []⟩ := by
 refine Fn.intro _ _ Tryz.func23 rfl (by kernel_rfl) rfl (fun E F w => ?_)
 unfold z23 at h
 refine wq (wg (wx [] ⟨[(2, .B 8 0), (3, .B 9 0), (4, .O false)], [(8, .box (cC4 0 1 2 3 a_) 27), (9, .box (cC4 4 5 6 7 b_) 27)], (vV4 0 1 2 3 a_ (vV4 4 5 6 7 b_ [])), 10⟩ htt 3 (by kernel_rfl) (wn (wq (wg (wx (rg 6 49) ⟨[(2, .B 8 0), (3, .B 9 0), (10, .O (a_.Name.toList == b_.Name.toList))], [(8, .box (cC4 0 1 2 3 a_) 27), (9, .box (cC4 4 5 6 7 b_) 27)], (vV4 0 1 2 3 a_ (vV4 4 5 6 7 b_ [])), 10⟩ htt 6 (by kernel_rfl) (?_)))))))
 rcases oc' h with ⟨hc, h⟩ | ⟨hc, h⟩
 ·refine wy 10 hc rfl (wx [] ⟨[(4, .O false)], [], (vV4 0 1 2 3 a_ (vV4 4 5 6 7 b_ [])), 10⟩ htt 49 (by kernel_rfl) (wn (?_)))
  cases h
  exact we htt Tryz.func23 [] rfl rfl rfl rfl
 refine wy 10 hc rfl (wx (rg 10 45) ⟨[(2, .B 8 0), (3, .B 9 0), (10, .O true), (12, .S 0), (14, .S 4)], [(8, .box (cC4 0 1 2 3 a_) 27), (9, .box (cC4 4 5 6 7 b_) 27)], (vV4 0 1 2 3 a_ (vV4 4 5 6 7 b_ [])), 10⟩ htt 4 (by kernel_rfl) (?_))
 obtain ⟨x1, c, h⟩ := ob h
 refine wc (z68_ct N a_.Roles b_.Roles _ c) [(0, .sl 0), (1, .sl 4)] [] rfl rfl rfl rfl rfl rfl rfl rfl (.inl rfl) rfl (wx (rg 13 42) ⟨[(2, .B 8 0), (3, .B 9 0), (17, .O x1)], [(8, .box (cC4 0 1 2 3 a_) 27), (9, .box (cC4 4 5 6 7 b_) 27)], (vV4 0 1 2 3 a_ (vV4 4 5 6 7 b_ [])), 10⟩ htt 2 (by kernel_rfl) (?_))
 rcases oc' h with ⟨hc, h⟩ | ⟨hc, h⟩
 ·refine wy 17 hc rfl (wx [] ⟨[(4, .O false)], [], (vV4 0 1 2 3 a_ (vV4 4 5 6 7 b_ [])), 10⟩ htt 42 (by kernel_rfl) (wn (?_)))
  cases h
  exact we htt Tryz.func23 [] rfl rfl rfl rfl
 refine wy 17 hc rfl (wx (rg 17 38) ⟨[(2, .B 8 0), (3, .B 9 0), (17, .O true), (19, .S 1), (21, .S 5)], [(8, .box (cC4 0 1 2 3 a_) 27), (9, .box (cC4 4 5 6 7 b_) 27)], (vV4 0 1 2 3 a_ (vV4 4 5 6 7 b_ [])), 10⟩ htt 4 (by kernel_rfl) (?_))
 obtain ⟨x2, d, h⟩ := ob h
 refine wc (z69_15_ct N a_.Decls b_.Decls _ d) [(0, .sl 1), (1, .sl 5)] [] rfl rfl rfl rfl rfl rfl rfl rfl (.inl rfl) rfl (wx (rg 20 35) ⟨[(2, .B 8 0), (3, .B 9 0), (24, .O x2)], [(8, .box (cC4 0 1 2 3 a_) 27), (9, .box (cC4 4 5 6 7 b_) 27)], (vV4 0 1 2 3 a_ (vV4 4 5 6 7 b_ [])), 10⟩ htt 2 (by kernel_rfl) (?_))
 rcases oc' h with ⟨hc, h⟩ | ⟨hc, h⟩
 ·refine wy 24 hc rfl (wx [] ⟨[(4, .O false)], [], (vV4 0 1 2 3 a_ (vV4 4 5 6 7 b_ [])), 10⟩ htt 35 (by kernel_rfl) (wn (?_)))
  cases h
  exact we htt Tryz.func23 [] rfl rfl rfl rfl
 refine wy 24 hc rfl (wx (rg 27 28) ⟨[(2, .B 8 0), (3, .B 9 0), (31, .O (a_.States == b_.States))], [(8, .box (cC4 0 1 2 3 a_) 27), (9, .box (cC4 4 5 6 7 b_) 27)], (vV4 0 1 2 3 a_ (vV4 4 5 6 7 b_ [])), 10⟩ htt 7 (by kernel_rfl) (?_))
 rcases oc' h with ⟨hc, h⟩ | ⟨hc, h⟩
 ·refine wy 31 hc rfl (wx [] ⟨[(4, .O false)], [], (vV4 0 1 2 3 a_ (vV4 4 5 6 7 b_ [])), 10⟩ htt 28 (by kernel_rfl) (wn (?_)))
  cases h
  exact we htt Tryz.func23 [] rfl rfl rfl rfl
 refine wy 31 hc rfl (wx (rg 34 21) ⟨[(2, .B 8 0), (3, .B 9 0), (38, .O (a_.Start == b_.Start))], [(8, .box (cC4 0 1 2 3 a_) 27), (9, .box (cC4 4 5 6 7 b_) 27)], (vV4 0 1 2 3 a_ (vV4 4 5 6 7 b_ [])), 10⟩ htt 7 (by kernel_rfl) (?_))
 rcases oc' h with ⟨hc, h⟩ | ⟨hc, h⟩
 ·refine wy 38 hc rfl (wx [] ⟨[(4, .O false)], [], (vV4 0 1 2 3 a_ (vV4 4 5 6 7 b_ [])), 10⟩ htt 21 (by kernel_rfl) (wn (?_)))
  cases h
  exact we htt Tryz.func23 [] rfl rfl rfl rfl
 refine wy 38 hc rfl (wx (rg 41 14) ⟨[(2, .B 8 0), (3, .B 9 0), (45, .O (a_.End == b_.End))], [(8, .box (cC4 0 1 2 3 a_) 27), (9, .box (cC4 4 5 6 7 b_) 27)], (vV4 0 1 2 3 a_ (vV4 4 5 6 7 b_ [])), 10⟩ htt 7 (by kernel_rfl) (?_))
 rcases oc' h with ⟨hc, h⟩ | ⟨hc, h⟩
 ·refine wy 45 hc rfl (wx [] ⟨[(4, .O false)], [], (vV4 0 1 2 3 a_ (vV4 4 5 6 7 b_ [])), 10⟩ htt 14 (by kernel_rfl) (wn (?_)))
  cases h
  exact we htt Tryz.func23 [] rfl rfl rfl rfl
 refine wy 45 hc rfl (wx (rg 45 10) ⟨[(2, .B 8 0), (3, .B 9 0), (45, .O true), (47, .S 2), (49, .S 6)], [(8, .box (cC4 0 1 2 3 a_) 27), (9, .box (cC4 4 5 6 7 b_) 27)], (vV4 0 1 2 3 a_ (vV4 4 5 6 7 b_ [])), 10⟩ htt 4 (by kernel_rfl) (?_))
 obtain ⟨x3, e, h⟩ := ob h
 refine wc (z71_ct N a_.Edges b_.Edges _ e) [(0, .sl 2), (1, .sl 6)] [] rfl rfl rfl rfl rfl rfl rfl rfl (.inl rfl) rfl (wx (rg 48 7) ⟨[(2, .B 8 0), (3, .B 9 0), (52, .O x3)], [(8, .box (cC4 0 1 2 3 a_) 27), (9, .box (cC4 4 5 6 7 b_) 27)], (vV4 0 1 2 3 a_ (vV4 4 5 6 7 b_ [])), 10⟩ htt 2 (by kernel_rfl) (?_))
 rcases oc' h with ⟨hc, h⟩ | ⟨hc, h⟩
 ·refine wy 52 hc rfl (wx [] ⟨[(4, .O false)], [], (vV4 0 1 2 3 a_ (vV4 4 5 6 7 b_ [])), 10⟩ htt 7 (by kernel_rfl) (wn (?_)))
  cases h
  exact we htt Tryz.func23 [] rfl rfl rfl rfl
 refine wy 52 hc rfl (wx [52, 53, 54] ⟨[(52, .O true), (54, .S 3), (56, .S 7)], [], (vV4 0 1 2 3 a_ (vV4 4 5 6 7 b_ [])), 10⟩ htt 4 (by kernel_rfl) (?_))
 obtain ⟨x4, f, h⟩ := ob h
 refine wc (z72_ct N a_.Timeouts b_.Timeouts _ f) [(0, .sl 3), (1, .sl 7)] [] rfl rfl rfl rfl rfl rfl rfl rfl (.inl rfl) rfl (wx [] ⟨[(4, .O x4)], [], (vV4 0 1 2 3 a_ (vV4 4 5 6 7 b_ [])), 10⟩ htt 2 (by kernel_rfl) (wn (?_)))
 cases h
 exact we htt Tryz.func23 [] rfl rfl rfl rfl
theorem z78_16_ct (N : Nat) (d_ : T0) (c0_ : ByteArray) (r : Bool) (h : z78_16 N d_ c0_ = some r) :
 Fn Tryz.prog 78 ⟨4, [.a (cC0 0 1 2 d_), .B 3 0], (vV0 0 1 2 d_ []), [(3, .box [.s c0_] 9)], 4, .O r, [], [(3, .box [.s c0_] 9)]⟩ := by
 refine Fn.intro _ _ Tryz.func78 rfl (by kernel_rfl) rfl (fun E F w => ?_)
 unfold z78_16 at h
 refine wq (wg (ws htt 2 rfl (wn (wq (wg (wx [] ⟨[(3, .O (d_.Name.toList == c0_.toList))], [(3, .box [.s c0_] 9)], (vV0 0 1 2 d_ []), 5⟩ htt 5 (by kernel_rfl) (wn (?_))))))))
 cases h
 exact we htt Tryz.func78 [] rfl rfl rfl rfl
theorem z77_17_ct (N : Nat) (s_ : (List T0)) (c0_ : ByteArray) (r : Int) (h : z77_17 N s_ c0_ = some r) :
 Fn Tryz.prog 77 ⟨2, [.S 0, .c (.cl 78 [] [1])], [(0, .sl rR0 s_)], [(1, .box [.s c0_] 9)], 2, .I r, [], [(1, .box [.s c0_] 9)]⟩ := by
 refine Fn.intro _ _ Tryz.func77 rfl (by kernel_rfl) rfl (fun E F w => ?_)
 unfold z77_17 at h
 refine wq (wg (ws htt 1 rfl (wn (wq (wq (wg (wx [] ⟨[(0, .S 0), (1, .c (.cl 78 [] [1])), (4, .I 0), (7, .I (s_.length : Int)), (8, .I 0)], [(1, .box [.s c0_] 9)], [(0, .sl rR0 s_)], 2⟩ htt 3 (by kernel_rfl) (wn (?_)))))))))
 refine wC (σ := Unit) (fun st => ⟨[], [(1, .box [.s c0_] 9)], [(0, .sl rR0 s_)], 2⟩) (fun st => z77_17_k1 = some r) ?_ (fun j1 => ?_)
 ·intro _ h
  replace h : z77_17_k1 = some r := h
  unfold z77_17_k1 at h
  refine wq (wg (ws htt 1 rfl (wn (?_))))
  cases h
  exact we htt Tryz.func77 [] rfl rfl rfl rfl
 refine wo (?_)
 refine wI (σ := Int) (fun st => ⟨[(0, .S 0), (1, .c (.cl 78 [] [1])), (7, .I (s_.length : Int)), (8, .I st)], [(1, .box [.s c0_] 9)], [(0, .sl rR0 s_)], 2⟩) (fun n st => z77_17_l2 N s_ c0_ n st) (r := r) (fun _ => rfl) ?_ (fun ih => ?_)
 ·intro n2 ih3
  intro d h
  replace h : z77_17_l2 N s_ c0_ (n2 + 1) d = some r := h
  unfold z77_17_l2 at h
  refine wq (wg (ws htt 1 rfl (wn (wq (?_)))))
  rcases oc' h with ⟨hc, h⟩ | ⟨hc, h⟩
  ·exact wf hc rfl (wz rfl (wu [] (j1 () h) rfl rfl rfl rfl))
  refine wt hc rfl (wi (wq (wo (wq (wg (wx [] ⟨[(0, .S 0), (1, .c (.cl 78 [] [1])), (5, .I d), (7, .I (s_.length : Int)), (8, .I d)], [(1, .box [.s c0_] 9)], [(0, .sl rR0 s_)], 2⟩ htt 2 (by kernel_rfl) (wn (wq (wg (wx [3, 4, 5] ⟨[(0, .S 0), (1, .c (.cl 78 [] [1])), (5, .I d), (7, .I (s_.length : Int)), (8, .I d), (11, .c (.cl 78 [] [1])), (12, .S 0), (13, .I d)], [(1, .box [.s c0_] 9)], [(0, .sl rR0 s_)], 2⟩ htt 3 (by kernel_rfl) (?_)))))))))))
  obtain ⟨e, f, h⟩ := ob h
  refine wj oO0 htt f rfl rfl rfl rfl rfl rfl rfl rfl rfl (ws htt 1 rfl (?_))
  obtain ⟨g, i, h⟩ := ob h
  refine WPr.callc (z78_16_ct N e c0_ _ i) [(0, .sl 3), (1, .sl 4), (2, .sl 5), (3, .bp 1 0)] [] rfl rfl rfl rfl rfl rfl rfl rfl rfl (.inl rfl) rfl (wx [] ⟨[(0, .S 0), (1, .c (.cl 78 [] [1])), (5, .I d), (7, .I (s_.length : Int)), (8, .I d), (16, .O g)], [(1, .box [.s c0_] 9)], [(0, .sl rR0 s_)], 6⟩ htt 0 (by kernel_rfl) (wn (?_)))
  rcases oc h with ⟨hc, h⟩ | ⟨hc, h⟩
  ·refine wt hc rfl (wq (wg (ws htt 2 rfl (wn (?_)))))
   cases h
   exact we htt Tryz.func77 [] rfl rfl rfl rfl
  exact wf hc rfl (wi (wb (wg (ws htt 2 rfl (wn (wu [] (ih3 (w64 (d + 1)) h) rfl rfl rfl rfl))))))
 exact wu [] (ih N 0 h) rfl rfl rfl rfl
theorem z31_ct (N : Nat) (g_ : T4) (name_ : ByteArray) (r : Int) (h : z31 N g_ name_ = some r) :
 Fn Tryz.prog 31 ⟨4, [.a (cC4 0 1 2 3 g_), .c (.s name_)], (vV4 0 1 2 3 g_ []), [], 4, .I r, [], []⟩ := by
 refine Fn.intro _ _ Tryz.func31 rfl (by kernel_rfl) rfl (fun E F w => ?_)
 unfold z31 at h
 refine wq (wg (wx [] ⟨[(2, .B 4 0), (3, .B 5 0), (4, .I 0)], [(4, .box (cC4 0 1 2 3 g_) 27), (5, .box [.s name_] 9)], (vV4 0 1 2 3 g_ []), 6⟩ htt 3 (by kernel_rfl) (wn (wq (wg (wx [3, 4] ⟨[(6, .S 1), (7, .c (.cl 78 [] [5]))], [(5, .box [.s name_] 9)], (vV4 0 1 2 3 g_ []), 6⟩ htt 3 (by kernel_rfl) (?_)))))))
 obtain ⟨x1, d, h⟩ := ob h
 refine wc (z77_17_ct N g_.Decls name_ _ d) [(0, .sl 1), (1, .bp 5 0)] [] rfl rfl rfl rfl rfl rfl rfl rfl (.inl rfl) rfl (wx [] ⟨[(4, .I x1)], [], (vV4 0 1 2 3 g_ []), 6⟩ htt 1 (by kernel_rfl) (wn (?_)))
 cases h
 exact we htt Tryz.func31 [] rfl rfl rfl rfl
theorem z115_ct (N : Nat) (s_ : (List ByteArray)) (r : (List ByteArray)) (h : z115 N s_ = some r) :
 Fn Tryz.prog 115 ⟨1, [.S 0], [(0, .sl rS s_)], [], 2, .S 1, [], [(1, .own rS r true)]⟩ := by
 refine Fn.intro _ _ Tryz.func115 rfl (by kernel_rfl) rfl (fun E F w => ?_)
 unfold z115 at h
 refine wq (wg (ws htt 1 rfl (wn (wq (wq (wg (ws htt 1 rfl (WPr.nilc (el := 9) false (Or.inl rfl) rfl rfl rfl rfl (by kernel_rfl) rfl rfl rfl (?_)))))))))
 intro nb hnb
 cases nb
 ·refine wx [] ⟨[(0, .S 0), (2, .c .nil), (4, .O false)], [], [(0, .sl rS s_)], 1⟩ htt 0 (by kernel_rfl) (wn (wf rfl rfl (wi (wq (wg (WPr.bs (cs := []) oS htt ([] : List ByteArray) rfl rfl rfl rfl rfl rfl (by kernel_rfl) (by exact rfl) rfl (ws htt 1 rfl (?_))))))))
  obtain ⟨x1, d, h⟩ := ob h
  refine WPr.app htt d (by exact (srcI rfl)) rfl rfl rfl rfl rfl rfl rfl rfl rfl rfl (wx [] ⟨[(2, .S 2)], [(2, .own rS x1 true)], [(0, .sl rS s_)], 3⟩ htt 1 (by kernel_rfl) (wn (?_)))
  cases h
  exact we htt Tryz.func115 [(1, .sl 2)] rfl rfl rfl rfl
 ·obtain rfl := hnb rfl
  replace h : (some ([] : List ByteArray) : Option (List ByteArray)) = some r := h
  refine wx [] ⟨[(0, .S 0), (2, .c .nil), (4, .O true)], [], [(0, .sl rS ([] : List ByteArray))], 1⟩ htt 0 (by kernel_rfl) (wn (wt rfl rfl (wq (wg (ws htt 1 rfl (wn (?_)))))))
  cases h
  exact we htt Tryz.func115 [(1, .nil)] rfl rfl rfl rfl
theorem z116_ct (N : Nat) (s_ : (List T3)) (r : (List T3)) (h : z116 N s_ = some r) :
 Fn Tryz.prog 116 ⟨1, [.S 0], [(0, .sl rR3 s_)], [], 2, .S 1, [], [(1, .own rR3 r true)]⟩ := by
 refine Fn.intro _ _ Tryz.func116 rfl (by kernel_rfl) rfl (fun E F w => ?_)
 unfold z116 at h
 refine wq (wg (ws htt 1 rfl (wn (wq (wq (wg (ws htt 1 rfl (WPr.nilc (el := 141) false (Or.inl rfl) rfl rfl rfl rfl (by kernel_rfl) rfl rfl rfl (?_)))))))))
 intro nb hnb
 cases nb
 ·refine wx [] ⟨[(0, .S 0), (2, .c .nil), (4, .O false)], [], [(0, .sl rR3 s_)], 1⟩ htt 0 (by kernel_rfl) (wn (wf rfl rfl (wi (wq (wg (WPr.bs (cs := []) oO3 htt ([] : List T3) rfl rfl rfl rfl rfl rfl (by kernel_rfl) (by exact rfl) rfl (ws htt 1 rfl (?_))))))))
  obtain ⟨x1, d, h⟩ := ob h
  refine WPr.app htt d (by exact (srcI rfl)) rfl rfl rfl rfl rfl rfl rfl rfl rfl rfl (wx [] ⟨[(2, .S 2)], [(2, .own rR3 x1 true)], [(0, .sl rR3 s_)], 3⟩ htt 1 (by kernel_rfl) (wn (?_)))
  cases h
  exact we htt Tryz.func116 [(1, .sl 2)] rfl rfl rfl rfl
 ·obtain rfl := hnb rfl
  replace h : (some ([] : List T3) : Option (List T3)) = some r := h
  refine wx [] ⟨[(0, .S 0), (2, .c .nil), (4, .O true)], [], [(0, .sl rR3 ([] : List T3))], 1⟩ htt 0 (by kernel_rfl) (wn (wt rfl rfl (wq (wg (ws htt 1 rfl (wn (?_)))))))
  cases h
  exact we htt Tryz.func116 [(1, .nil)] rfl rfl rfl rfl
theorem z117_ct (N : Nat) (s_ : (List T1)) (r : (List T1)) (h : z117 N s_ = some r) :
 Fn Tryz.prog 117 ⟨1, [.S 0], [(0, .sl rR1 s_)], [], 2, .S 1, [], [(1, .own rR1 r true)]⟩ := by
 refine Fn.intro _ _ Tryz.func117 rfl (by kernel_rfl) rfl (fun E F w => ?_)
 unfold z117 at h
 refine wq (wg (ws htt 1 rfl (wn (wq (wq (wg (ws htt 1 rfl (WPr.nilc (el := 144) false (Or.inl rfl) rfl rfl rfl rfl (by kernel_rfl) rfl rfl rfl (?_)))))))))
 intro nb hnb
 cases nb
 ·refine wx [] ⟨[(0, .S 0), (2, .c .nil), (4, .O false)], [], [(0, .sl rR1 s_)], 1⟩ htt 0 (by kernel_rfl) (wn (wf rfl rfl (wi (wq (wg (WPr.bs (cs := []) oO1 htt ([] : List T1) rfl rfl rfl rfl rfl rfl (by kernel_rfl) (by exact rfl) rfl (ws htt 1 rfl (?_))))))))
  obtain ⟨x1, d, h⟩ := ob h
  refine WPr.app htt d (by exact (srcI rfl)) rfl rfl rfl rfl rfl rfl rfl rfl rfl rfl (wx [] ⟨[(2, .S 2)], [(2, .own rR1 x1 true)], [(0, .sl rR1 s_)], 3⟩ htt 1 (by kernel_rfl) (wn (?_)))
  cases h
  exact we htt Tryz.func117 [(1, .sl 2)] rfl rfl rfl rfl
 ·obtain rfl := hnb rfl
  replace h : (some ([] : List T1) : Option (List T1)) = some r := h
  refine wx [] ⟨[(0, .S 0), (2, .c .nil), (4, .O true)], [], [(0, .sl rR1 ([] : List T1))], 1⟩ htt 0 (by kernel_rfl) (wn (wt rfl rfl (wq (wg (ws htt 1 rfl (wn (?_)))))))
  cases h
  exact we htt Tryz.func117 [(1, .nil)] rfl rfl rfl rfl
theorem z118_ct (N : Nat) (s_ : (List (Int × Int))) (r : (List (Int × Int))) (h : z118 N s_ = some r) :
 Fn Tryz.prog 118 ⟨1, [.S 0], [(0, .sl (rP (rI .i64) (rI .i64)) s_)], [], 2, .S 1, [], [(1, .own (rP (rI .i64) (rI .i64)) r true)]⟩ := by
 refine Fn.intro _ _ Tryz.func118 rfl (by kernel_rfl) rfl (fun E F w => ?_)
 unfold z118 at h
 refine wq (wg (ws htt 1 rfl (wn (wq (wq (wg (ws htt 1 rfl (WPr.nilc (el := 146) false (Or.inl rfl) rfl rfl rfl rfl (by kernel_rfl) rfl rfl rfl (?_)))))))))
 intro nb hnb
 cases nb
 ·refine wx [] ⟨[(0, .S 0), (2, .c .nil), (4, .O false)], [], [(0, .sl (rP (rI .i64) (rI .i64)) s_)], 1⟩ htt 0 (by kernel_rfl) (wn (wf rfl rfl (wi (wq (wg (WPr.bs (cs := []) (oP (oI .i64) (oI .i64)) htt ([] : List (Int × Int)) rfl rfl rfl rfl rfl rfl (by kernel_rfl) (by exact rfl) rfl (ws htt 1 rfl (?_))))))))
  obtain ⟨x1, d, h⟩ := ob h
  refine WPr.app htt d (by exact (srcI rfl)) rfl rfl rfl rfl rfl rfl rfl rfl rfl rfl (wx [] ⟨[(2, .S 2)], [(2, .own (rP (rI .i64) (rI .i64)) x1 true)], [(0, .sl (rP (rI .i64) (rI .i64)) s_)], 3⟩ htt 1 (by kernel_rfl) (wn (?_)))
  cases h
  exact we htt Tryz.func118 [(1, .sl 2)] rfl rfl rfl rfl
 ·obtain rfl := hnb rfl
  replace h : (some ([] : List (Int × Int)) : Option (List (Int × Int))) = some r := h
  refine wx [] ⟨[(0, .S 0), (2, .c .nil), (4, .O true)], [], [(0, .sl (rP (rI .i64) (rI .i64)) ([] : List (Int × Int)))], 1⟩ htt 0 (by kernel_rfl) (wn (wt rfl rfl (wq (wg (ws htt 1 rfl (wn (?_)))))))
  cases h
  exact we htt Tryz.func118 [(1, .nil)] rfl rfl rfl rfl
theorem z60_18_ct (N : Nat) (t_ : T8) (c0_ : Int) (r : Bool) (h : z60_18 N t_ c0_ = some r) :
 Fn Tryz.prog 60 ⟨1, [.a (cC8 t_), .B 0 0], [], [(0, .box [.I c0_] 3)], 1, .O r, [], [(0, .box [.I c0_] 3)]⟩ := by
 refine Fn.intro _ _ Tryz.func60 rfl (by kernel_rfl) rfl (fun E F w => ?_)
 unfold z60_18 at h
 refine wq (wg (ws htt 2 rfl (wn (wq (wg (wx [] ⟨[(3, .O (t_.State == c0_))], [(0, .box [.I c0_] 3)], [], 2⟩ htt 5 (by kernel_rfl) (wn (?_))))))))
 cases h
 exact we htt Tryz.func60 [] rfl rfl rfl rfl
theorem z59_19_ct (N : Nat) (s_ : (List T8)) (c0_ : Int) (r : Int) (h : z59_19 N s_ c0_ = some r) :
 Fn Tryz.prog 59 ⟨2, [.S 0, .c (.cl 60 [] [1])], [(0, .sl rR8 s_)], [(1, .box [.I c0_] 3)], 2, .I r, [], [(1, .box [.I c0_] 3)]⟩ := by
 refine Fn.intro _ _ Tryz.func59 rfl (by kernel_rfl) rfl (fun E F w => ?_)
 unfold z59_19 at h
 refine wq (wg (ws htt 1 rfl (wn (wq (wq (wg (wx [] ⟨[(0, .S 0), (1, .c (.cl 60 [] [1])), (4, .I 0), (7, .I (s_.length : Int)), (8, .I 0)], [(1, .box [.I c0_] 3)], [(0, .sl rR8 s_)], 2⟩ htt 3 (by kernel_rfl) (wn (?_)))))))))
 refine wC (σ := Unit) (fun st => ⟨[], [(1, .box [.I c0_] 3)], [(0, .sl rR8 s_)], 2⟩) (fun st => z59_19_k1 = some r) ?_ (fun j1 => ?_)
 ·intro _ h
  replace h : z59_19_k1 = some r := h
  unfold z59_19_k1 at h
  refine wq (wg (ws htt 1 rfl (wn (?_))))
  cases h
  exact we htt Tryz.func59 [] rfl rfl rfl rfl
 refine wo (?_)
 refine wI (σ := Int) (fun st => ⟨[(0, .S 0), (1, .c (.cl 60 [] [1])), (7, .I (s_.length : Int)), (8, .I st)], [(1, .box [.I c0_] 3)], [(0, .sl rR8 s_)], 2⟩) (fun n st => z59_19_l2 N s_ c0_ n st) (r := r) (fun _ => rfl) ?_ (fun ih => ?_)
 ·intro n2 ih3
  intro d h
  replace h : z59_19_l2 N s_ c0_ (n2 + 1) d = some r := h
  unfold z59_19_l2 at h
  refine wq (wg (ws htt 1 rfl (wn (wq (?_)))))
  rcases oc' h with ⟨hc, h⟩ | ⟨hc, h⟩
  ·exact wf hc rfl (wz rfl (wu [] (j1 () h) rfl rfl rfl rfl))
  refine wt hc rfl (wi (wq (wo (wq (wg (wx [] ⟨[(0, .S 0), (1, .c (.cl 60 [] [1])), (5, .I d), (7, .I (s_.length : Int)), (8, .I d)], [(1, .box [.I c0_] 3)], [(0, .sl rR8 s_)], 2⟩ htt 2 (by kernel_rfl) (wn (wq (wg (wx [3, 4, 5] ⟨[(0, .S 0), (1, .c (.cl 60 [] [1])), (5, .I d), (7, .I (s_.length : Int)), (8, .I d), (11, .c (.cl 60 [] [1])), (12, .S 0), (13, .I d)], [(1, .box [.I c0_] 3)], [(0, .sl rR8 s_)], 2⟩ htt 3 (by kernel_rfl) (?_)))))))))))
  obtain ⟨e, f, h⟩ := ob h
  refine wj oO8 htt f rfl rfl rfl rfl rfl rfl rfl rfl rfl (ws htt 1 rfl (?_))
  obtain ⟨g, i, h⟩ := ob h
  refine WPr.callc (z60_18_ct N e c0_ _ i) [(0, .bp 1 0)] [] rfl rfl rfl rfl rfl rfl rfl rfl rfl (.inl rfl) rfl (wx [] ⟨[(0, .S 0), (1, .c (.cl 60 [] [1])), (5, .I d), (7, .I (s_.length : Int)), (8, .I d), (16, .O g)], [(1, .box [.I c0_] 3)], [(0, .sl rR8 s_)], 3⟩ htt 0 (by kernel_rfl) (wn (?_)))
  rcases oc h with ⟨hc, h⟩ | ⟨hc, h⟩
  ·refine wt hc rfl (wq (wg (ws htt 2 rfl (wn (?_)))))
   cases h
   exact we htt Tryz.func59 [] rfl rfl rfl rfl
  exact wf hc rfl (wi (wb (wg (ws htt 2 rfl (wn (wu [] (ih3 (w64 (d + 1)) h) rfl rfl rfl rfl))))))
 exact wu [] (ih N 0 h) rfl rfl rfl rfl
theorem z57_ct (N : Nat) (g_ : T4) (r : T4) (h : z57 N g_ = some r) :
 Fn Tryz.prog 57 ⟨4, [.a (cC4 0 1 2 3 g_)], (vV4 0 1 2 3 g_ []), [], 8, .a (cC4 4 5 6 7 r), [(4, .sl rS r.Roles), (5, .sl rR0 r.Decls)], [(6, .own rR2 r.Edges true), (7, .own rR8 r.Timeouts true)]⟩ := by
 refine Fn.intro _ _ Tryz.func57 rfl (by kernel_rfl) rfl (fun E F w => ?_)
 unfold z57 at h
 refine wq (wg (ws htt 2 rfl (wn (wq (wN (fun A1 d e => ?_))))))
 have f : A1 0 ⟨[(1, .B 4 0)], [], [], [], 6, [(6, .B 4 0)], [], [], 6⟩ := d _ _ (wl htt rfl rfl rfl rfl rfl rfl)
 have g : A1 1 ⟨[(6, .B 4 0)], (vV4 0 1 2 3 g_ []), [], [(4, .box (cC4 0 1 2 3 g_) 27)], 6, [(7, .c (.s g_.Name))], [], [], 6⟩ := d _ _ (wl htt rfl rfl rfl rfl rfl rfl)
 have i : A1 2 ⟨[(1, .B 4 0)], [], [], [], 6, [(8, .B 4 1)], [], [], 6⟩ := d _ _ (wl htt rfl rfl rfl rfl rfl rfl)
 have j : A1 3 ⟨[(8, .B 4 1)], (vV4 0 1 2 3 g_ []), [], [(4, .box (cC4 0 1 2 3 g_) 27)], 6, [(9, .S 0)], [], [], 6⟩ := d _ _ (wl htt rfl rfl rfl rfl rfl rfl)
 obtain ⟨x5, l, h⟩ := ob h
 have m : A1 4 ⟨[(9, .S 0)], [(0, .sl rS g_.Roles)], [], [], 6, [(10, .S 6)], [], [(6, .own rS x5 true)], 7⟩ := d _ _ (wO rfl rfl rfl (fun _ _ _ _ _ _ _ k => wc (z115_ct N g_.Roles _ l) [(0, .sl 0)] [] rfl rfl rfl rfl rfl rfl rfl rfl (.inl rfl) rfl (k)) rfl)
 have o : A1 5 ⟨[(7, .c (.s g_.Name)), (10, .S 6)], [], [], [], 7, [(11, .a [.s g_.Name, .sl 6, .nil, .I 0, .I 0, .I 0, .nil, .nil])], [], [], 7⟩ := d _ _ (wl htt rfl rfl rfl rfl rfl rfl)
 have p : A1 6 ⟨[], [], [], [], 7, [(3, .B 7 0)], [], [(7, .box [.s (str []), .nil, .nil, .I 0, .I 0, .I 0, .nil, .nil] 27)], 8⟩ := d _ _ (wl htt rfl rfl rfl rfl rfl rfl)
 have q : A1 7 ⟨[(3, .B 7 0), (11, .a [.s g_.Name, .sl 6, .nil, .I 0, .I 0, .I 0, .nil, .nil])], [], [(7, .box [.s (str []), .nil, .nil, .I 0, .I 0, .I 0, .nil, .nil] 27)], [(6, .own rS x5 true)], 8, [], [], [(7, .box [.s g_.Name, .sl 6, .nil, .I 0, .I 0, .I 0, .nil, .nil] 27)], 8⟩ := d _ _ (wl htt rfl rfl rfl rfl rfl rfl)
 refine wD (t := ⟨[(1, .B 4 0), (2, .B 5 0), (3, .B 7 0)], [(4, .box (cC4 0 1 2 3 g_) 27), (5, .box [.s (str []), .nil, .nil, .I 0, .I 0, .I 0, .nil, .nil] 27), (6, .own rS x5 true), (7, .box [.s g_.Name, .sl 6, .nil, .I 0, .I 0, .I 0, .nil, .nil] 27)], (vV4 0 1 2 3 g_ []), 8⟩) [0, 1, 0, 4, 12, 31, 0, 127] (.cons (e _ _ f) (.cons (e _ _ g) (.cons (e _ _ i) (.cons (e _ _ j) (.cons (e _ _ m) (.cons (e _ _ o) (.cons (e _ _ p) (.cons (e _ _ q) .nil)))))))) (by kernel_rfl) (by kernel_rfl) (by kernel_rfl) (by kernel_rfl) (wq (wq (wg (wx [] ⟨[(2, .B 5 0), (3, .B 7 0), (13, .S 1), (14, .I (g_.Decls.length : Int)), (15, .I 0)], [(5, .box [.s (str []), .nil, .nil, .I 0, .I 0, .I 0, .nil, .nil] 27), (6, .own rS x5 true), (7, .box [.s g_.Name, .sl 6, .nil, .I 0, .I 0, .I 0, .nil, .nil] 27)], (vV4 0 1 2 3 g_ []), 8⟩ htt 4 (by kernel_rfl) (wn (?_))))))
 refine wC (σ := (List T0)) (fun st => ⟨[(2, .B 5 0), (3, .B 7 0)], [(5, .box [.s (str []), .nil, .nil, .I 0, .I 0, .I 0, .nil, .nil] 27), (6, .own rS x5 true), (7, .box [.s g_.Name, .sl 6, .sl 8, .I 0, .I 0, .I 0, .nil, .nil] 27), (8, .own rR0 st true)], (vV4 0 1 2 3 g_ []), 9⟩) (fun st => z57_k1 g_ x5 st = some r) ?_ (fun j1 => ?_)
 ·intro u h
  replace h : z57_k1 g_ x5 u = some r := h
  unfold z57_k1 at h
  refine wq (wg (ws htt 2 rfl (wn (WP.frz 6 rfl (WP.frz 8 rfl (?_))))))
  cases h
  exact we htt Tryz.func57 [(4, .sl 6), (5, .sl 8), (6, .nil), (7, .nil)] rfl rfl rfl rfl
 refine wo (?_)
 refine wI (σ := (List T0) × Int) (fun st => ⟨[(2, .B 5 0), (3, .B 7 0), (13, .S 1), (14, .I (g_.Decls.length : Int)), (15, .I st.2)], [(5, .box [.s (str []), .nil, .nil, .I 0, .I 0, .I 0, .nil, .nil] 27), (6, .own rS x5 true), (7, .box [.s g_.Name, .sl 6, .sl 8, .I 0, .I 0, .I 0, .nil, .nil] 27), (8, .own rR0 st.1 true)], (vV4 0 1 2 3 g_ []), 9⟩) (fun n st => z57_l2 N g_ x5 n st.1 st.2) (r := r) (fun _ => rfl) ?_ (fun ih => ?_)
 ·intro n2 ih3
  rintro ⟨v, x⟩ h
  replace h : z57_l2 N g_ x5 (n2 + 1) v x = some r := h
  unfold z57_l2 at h
  refine wq (wg (ws htt 1 rfl (wn (wq (?_)))))
  rcases oc' h with ⟨hc, h⟩ | ⟨hc, h⟩
  ·exact wf hc rfl (wz rfl (wu [] (j1 v h) rfl rfl rfl rfl))
  refine wt hc rfl (wi (wq (wo (wq (wg (?_))))))
  obtain ⟨y, z, h⟩ := ob h
  refine wj oO0 htt z rfl rfl rfl rfl rfl rfl rfl rfl rfl (wx [] ⟨[(2, .B 5 0), (3, .B 7 0), (5, .B 13 0), (13, .S 1), (14, .I (g_.Decls.length : Int)), (15, .I x)], [(5, .box [.s (str []), .nil, .nil, .I 0, .I 0, .I 0, .nil, .nil] 27), (6, .own rS x5 true), (7, .box [.s g_.Name, .sl 6, .sl 8, .I 0, .I 0, .I 0, .nil, .nil] 27), (8, .own rR0 v true), (13, .box (cC0 10 11 12 y) 94)], (vV4 0 1 2 3 g_ (vV0 10 11 12 y [])), 14⟩ htt 3 (by kernel_rfl) (wn (wq (wg (ws htt 2 rfl (?_))))))
  obtain ⟨A, C, h⟩ := ob h
  refine wc (z116_ct N y.Fields _ C) [(0, .sl 10)] [] rfl rfl rfl rfl rfl rfl rfl rfl (.inl rfl) rfl (wx [] ⟨[(2, .B 5 0), (3, .B 7 0), (5, .B 13 0), (13, .S 1), (14, .I (g_.Decls.length : Int)), (15, .I x)], [(5, .box [.s (str []), .nil, .nil, .I 0, .I 0, .I 0, .nil, .nil] 27), (6, .own rS x5 true), (7, .box [.s g_.Name, .sl 6, .sl 8, .I 0, .I 0, .I 0, .nil, .nil] 27), (8, .own rR0 v true), (13, .box (cC0 14 11 12 y) 94), (14, .own rR3 A true)], (vV4 0 1 2 3 g_ [(11, .sl rR1 y.Guard.Diffs), (12, .sl (rP (rI .i64) (rI .i64)) y.Guard.Equals)]), 15⟩ htt 2 (by kernel_rfl) (wn (wq (wN (fun D G H => ?_)))))
  have J : D 0 ⟨[(5, .B 13 0)], [], [], [], 15, [(23, .B 13 3)], [], [], 15⟩ := G _ _ (wl htt rfl rfl rfl rfl rfl rfl)
  have K : D 1 ⟨[(23, .B 13 3)], [], [], [], 15, [(24, .B 13 3)], [], [], 15⟩ := G _ _ (wl htt rfl rfl rfl rfl rfl rfl)
  have Q : D 2 ⟨[(24, .B 13 3)], [(11, .sl rR1 y.Guard.Diffs), (12, .sl (rP (rI .i64) (rI .i64)) y.Guard.Equals)], [], [(13, .box (cC0 14 11 12 y) 94)], 15, [(25, .S 11)], [], [], 15⟩ := G _ _ (wl htt rfl rfl rfl rfl rfl rfl)
  obtain ⟨R, T, h⟩ := ob h
  have U : D 3 ⟨[(25, .S 11)], [(11, .sl rR1 y.Guard.Diffs)], [], [], 15, [(26, .S 15)], [], [(15, .own rR1 R true)], 16⟩ := G _ _ (wO rfl rfl rfl (fun _ _ _ _ _ _ _ k => wc (z117_ct N y.Guard.Diffs _ T) [(0, .sl 11)] [] rfl rfl rfl rfl rfl rfl rfl rfl (.inl rfl) rfl (k)) rfl)
  have X : D 4 ⟨[(5, .B 13 0)], [], [], [], 16, [(27, .B 13 3)], [], [], 16⟩ := G _ _ (wl htt rfl rfl rfl rfl rfl rfl)
  have Y : D 5 ⟨[(27, .B 13 3)], [], [], [], 16, [(28, .B 13 4)], [], [], 16⟩ := G _ _ (wl htt rfl rfl rfl rfl rfl rfl)
  have Z : D 6 ⟨[(28, .B 13 4)], [(11, .sl rR1 y.Guard.Diffs), (12, .sl (rP (rI .i64) (rI .i64)) y.Guard.Equals)], [], [(13, .box (cC0 14 11 12 y) 94)], 16, [(29, .S 12)], [], [], 16⟩ := G _ _ (wl htt rfl rfl rfl rfl rfl rfl)
  obtain ⟨a0, b0, h⟩ := ob h
  have c0 : D 7 ⟨[(29, .S 12)], [(12, .sl (rP (rI .i64) (rI .i64)) y.Guard.Equals)], [], [], 16, [(30, .S 16)], [], [(16, .own (rP (rI .i64) (rI .i64)) a0 true)], 17⟩ := G _ _ (wO rfl rfl rfl (fun _ _ _ _ _ _ _ k => wc (z118_ct N y.Guard.Equals _ b0) [(0, .sl 12)] [] rfl rfl rfl rfl rfl rfl rfl rfl (.inl rfl) rfl (k)) rfl)
  have d0 : D 8 ⟨[(26, .S 15), (30, .S 16)], [], [], [], 17, [(31, .a [.sl 15, .sl 16])], [], [], 17⟩ := G _ _ (wl htt rfl rfl rfl rfl rfl rfl)
  have e0 : D 9 ⟨[(5, .B 13 0)], [], [], [], 17, [(32, .B 13 3)], [], [], 17⟩ := G _ _ (wl htt rfl rfl rfl rfl rfl rfl)
  have f0 : D 10 ⟨[(31, .a [.sl 15, .sl 16]), (32, .B 13 3)], [(11, .sl rR1 y.Guard.Diffs), (12, .sl (rP (rI .i64) (rI .i64)) y.Guard.Equals)], [(13, .box (cC0 14 11 12 y) 94)], [(15, .own rR1 R true), (16, .own (rP (rI .i64) (rI .i64)) a0 true)], 17, [], [], [(13, .box (cC0 14 15 16 y) 94)], 17⟩ := G _ _ (wl htt rfl rfl rfl rfl rfl rfl)
  refine wD (t := ⟨[(2, .B 5 0), (3, .B 7 0), (5, .B 13 0), (13, .S 1), (14, .I (g_.Decls.length : Int)), (15, .I x)], [(5, .box [.s (str []), .nil, .nil, .I 0, .I 0, .I 0, .nil, .nil] 27), (6, .own rS x5 true), (7, .box [.s g_.Name, .sl 6, .sl 8, .I 0, .I 0, .I 0, .nil, .nil] 27), (8, .own rR0 v true), (13, .box (cC0 14 15 16 y) 94), (14, .own rR3 A true), (15, .own rR1 R true), (16, .own (rP (rI .i64) (rI .i64)) a0 true)], (vV4 0 1 2 3 g_ []), 17⟩) [0, 1, 3, 7, 0, 16, 48, 127, 255, 511, 1023] (.cons (H _ _ J) (.cons (H _ _ K) (.cons (H _ _ Q) (.cons (H _ _ U) (.cons (H _ _ X) (.cons (H _ _ Y) (.cons (H _ _ Z) (.cons (H _ _ c0) (.cons (H _ _ d0) (.cons (H _ _ e0) (.cons (H _ _ f0) .nil))))))))))) (by kernel_rfl) (by kernel_rfl) (by kernel_rfl) (by kernel_rfl) (wg (wx [3, 4, 5, 6] ⟨[(2, .B 5 0), (3, .B 7 0), (13, .S 1), (14, .I (g_.Decls.length : Int)), (15, .I x), (34, .S 8), (35, .a (cC0 14 15 16 y))], [(5, .box [.s (str []), .nil, .nil, .I 0, .I 0, .I 0, .nil, .nil] 27), (6, .own rS x5 true), (7, .box [.s g_.Name, .sl 6, .sl 8, .I 0, .I 0, .I 0, .nil, .nil] 27), (8, .own rR0 v true), (14, .own rR3 A true), (15, .own rR1 R true), (16, .own (rP (rI .i64) (rI .i64)) a0 true)], (vV4 0 1 2 3 g_ []), 17⟩ htt 3 (by kernel_rfl) (WPr.frz 14 rfl (WPr.frz 15 rfl (WPr.frz 16 rfl (WPr.bs (cs := (cC0 14 15 16 y)) oO0 htt ([(⟨y.Name, A, y.First, (⟨R, a0⟩ : T5)⟩ : T0)] : List T0) rfl rfl rfl rfl rfl rfl (by kernel_rfl) (by exact (an (an rfl (an rfl (an rfl (an rfl rfl)))) rfl)) rfl (?_)))))))
  obtain ⟨g0, i0, h⟩ := ob h
  exact WPr.app htt i0 (by exact (srcO rfl)) rfl rfl rfl rfl rfl rfl rfl rfl rfl rfl (wx [] ⟨[(2, .B 5 0), (3, .B 7 0), (13, .S 1), (14, .I (g_.Decls.length : Int)), (15, .I x)], [(5, .box [.s (str []), .nil, .nil, .I 0, .I 0, .I 0, .nil, .nil] 27), (6, .own rS x5 true), (7, .box [.s g_.Name, .sl 6, .sl 18, .I 0, .I 0, .I 0, .nil, .nil] 27), (18, .own rR0 g0 true)], (vV4 0 1 2 3 g_ []), 19⟩ htt 2 (by kernel_rfl) (wn (wb (wg (ws htt 2 rfl (wn (wu [(8, .sl 18)] (ih3 (g0, (w64 (x + 1))) h) rfl rfl rfl rfl)))))))
 exact wu [(8, .nil)] (ih N (([] : List T0), 0) h) rfl rfl rfl rfl
theorem z21_ct (N : Nat) (g_ : T4) (r : T4 × Int) (h : z21 N g_ = some r) :
 Fn Tryz.prog 21 ⟨4, [.a (cC4 0 1 2 3 g_)], (vV4 0 1 2 3 g_ []), [], 8, .t [.inr (cC4 4 5 6 7 r.1), .inl (.I r.2)], (vV4 4 5 6 7 r.1 []), []⟩ := by
 refine Fn.intro _ _ Tryz.func21 rfl (by kernel_rfl) rfl (fun E F w => ?_)
 unfold z21 at h
 refine wq (wg (wx [] ⟨[(1, .B 4 0), (2, .B 5 0), (3, .I 0)], [(4, .box (cC4 0 1 2 3 g_) 27), (5, .box [.s (str []), .nil, .nil, .I 0, .I 0, .I 0, .nil, .nil] 27)], (vV4 0 1 2 3 g_ []), 6⟩ htt 3 (by kernel_rfl) (wn (wq (wq (wg (ws htt 1 rfl (?_))))))))
 obtain ⟨x1, d, h⟩ := ob h
 refine wc (z22_ct N g_ _ d) [(0, .sl 0), (1, .sl 1), (2, .sl 2), (3, .sl 3)] [] rfl rfl rfl rfl rfl rfl rfl rfl (.inl rfl) rfl (wx [] ⟨[(1, .B 4 0), (2, .B 5 0), (3, .I 0), (14, .O (!x1))], [(4, .box (cC4 0 1 2 3 g_) 27), (5, .box [.s (str []), .nil, .nil, .I 0, .I 0, .I 0, .nil, .nil] 27)], (vV4 0 1 2 3 g_ []), 6⟩ htt 1 (by kernel_rfl) (wn (?_)))
 rcases oc h with ⟨hc, h⟩ | ⟨hc, h⟩
 ·refine wt hc rfl (wq (wg (wx [] ⟨[(2, .B 5 0), (3, .I 1)], [(5, .box [.s (str []), .nil, .nil, .I 0, .I 0, .I 0, .nil, .nil] 27)], (vV4 0 1 2 3 g_ []), 6⟩ htt 3 (by kernel_rfl) (wn (?_)))))
  cases h
  exact we htt Tryz.func21 [(4, .nil), (5, .nil), (6, .nil), (7, .nil)] rfl rfl rfl rfl
 refine wf hc rfl (wi (wq (wg (ws htt 1 rfl (?_)))))
 obtain ⟨x2, e, h⟩ := ob h
 refine wc (z57_ct N g_ _ e) [(0, .sl 0), (1, .sl 1), (2, .sl 2), (3, .sl 3)] [] rfl rfl rfl rfl rfl rfl rfl rfl (.inl rfl) rfl (wx [] ⟨[(1, .B 4 0), (2, .B 5 0), (3, .I 0), (4, .B 10 0)], [(4, .box (cC4 0 1 2 3 g_) 27), (5, .box [.s (str []), .nil, .nil, .I 0, .I 0, .I 0, .nil, .nil] 27), (8, .own rR2 x2.Edges true), (9, .own rR8 x2.Timeouts true), (10, .box (cC4 6 7 8 9 x2) 27)], (vV4 0 1 2 3 g_ [(6, .sl rS x2.Roles), (7, .sl rR0 x2.Decls)]), 11⟩ htt 2 (by kernel_rfl) (wn (wq (wg (WPr.bs (cs := [.I (-1)]) (oI .i64) htt ([(-1)] : List Int) rfl rfl rfl rfl rfl rfl (by kernel_rfl) (by exact (an rfl rfl)) rfl (wx [3, 4] ⟨[(1, .B 4 0), (2, .B 5 0), (3, .I 0), (4, .B 10 0), (18, .S 11), (20, .I g_.States)], [(4, .box (cC4 0 1 2 3 g_) 27), (5, .box [.s (str []), .nil, .nil, .I 0, .I 0, .I 0, .nil, .nil] 27), (8, .own rR2 x2.Edges true), (9, .own rR8 x2.Timeouts true), (10, .box (cC4 6 7 8 9 x2) 27), (11, .own (rI .i64) ([(-1)] : List Int) true)], (vV4 0 1 2 3 g_ [(6, .sl rS x2.Roles), (7, .sl rR0 x2.Decls)]), 12⟩ htt 2 (by kernel_rfl) (?_)))))))
 obtain ⟨x3, f, h⟩ := ob h
 refine wc (z58_ct N ([(-1)] : List Int) g_.States _ f) [(0, .sl 11)] [11] rfl rfl rfl rfl rfl rfl rfl rfl (.inr ⟨rfl, ⟨(rI_flat _), trivial⟩⟩) rfl (wx [] ⟨[(1, .B 4 0), (2, .B 5 0), (3, .I 0), (4, .B 10 0), (5, .S 12)], [(4, .box (cC4 0 1 2 3 g_) 27), (5, .box [.s (str []), .nil, .nil, .I 0, .I 0, .I 0, .nil, .nil] 27), (8, .own rR2 x2.Edges true), (9, .own rR8 x2.Timeouts true), (10, .box (cC4 6 7 8 9 x2) 27), (12, .own (rI .i64) x3 true)], (vV4 0 1 2 3 g_ [(6, .sl rS x2.Roles), (7, .sl rR0 x2.Decls)]), 13⟩ htt 1 (by kernel_rfl) (wn (wq (wg (wx [3, 4] ⟨[(1, .B 4 0), (2, .B 5 0), (3, .I 0), (4, .B 10 0), (5, .S 12), (22, .S 12), (24, .I g_.Start)], [(4, .box (cC4 0 1 2 3 g_) 27), (5, .box [.s (str []), .nil, .nil, .I 0, .I 0, .I 0, .nil, .nil] 27), (8, .own rR2 x2.Edges true), (9, .own rR8 x2.Timeouts true), (10, .box (cC4 6 7 8 9 x2) 27), (12, .own (rI .i64) x3 true)], (vV4 0 1 2 3 g_ [(6, .sl rS x2.Roles), (7, .sl rR0 x2.Decls)]), 13⟩ htt 3 (by kernel_rfl) (?_))))))
 obtain ⟨x4, g, h⟩ := ob h
 refine wX htt g rfl rfl rfl rfl rfl rfl rfl rfl rfl (WPr.sto (oI .i64) htt 0 g rfl rfl rfl rfl rfl rfl rfl rfl rfl rfl (by exact rfl) rfl (wn (wq (wq (wg (wx [2, 3] ⟨[(1, .B 4 0), (2, .B 5 0), (3, .I 0), (4, .B 10 0), (5, .S 12), (27, .I g_.Start)], [(4, .box (cC4 0 1 2 3 g_) 27), (5, .box [.s (str []), .nil, .nil, .I 0, .I 0, .I 0, .nil, .nil] 27), (8, .own rR2 x2.Edges true), (9, .own rR8 x2.Timeouts true), (10, .box (cC4 6 7 8 9 x2) 27), (12, .own (rI .i64) (setL' x3 g_.Start 0) true)], (vV4 0 1 2 3 g_ [(6, .sl rS x2.Roles), (7, .sl rR0 x2.Decls)]), 14⟩ htt 2 (by kernel_rfl) (WPr.bs (cs := [.I g_.Start]) (oI .i64) htt ([g_.Start] : List Int) rfl rfl rfl rfl rfl rfl (by kernel_rfl) (by exact (an rfl rfl)) rfl (ws htt 1 rfl (wn (?_))))))))))
 refine wC (σ := Int × (List T2) × (List T8) × (List Int)) (fun st => ⟨[(1, .B 4 0), (2, .B 5 0), (4, .B 10 0), (5, .S 12)], [(4, .box (cC4 0 1 2 3 g_) 27), (5, .box [.s (str []), .nil, .nil, .I 0, .I 0, .I 0, .nil, .nil] 27), (10, .box [.s x2.Name, .sl 6, .sl 7, .I st.1, .I x2.Start, .I x2.End, .sl 15, .sl 16] 27), (12, .own (rI .i64) st.2.2.2 true), (15, .own rR2 st.2.1 true), (16, .own rR8 st.2.2.1 true)], (vV4 0 1 2 3 g_ [(6, .sl rS x2.Roles), (7, .sl rR0 x2.Decls)]), 17⟩) (fun st => z21_k1 g_ x2 st.1 st.2.1 st.2.2.1 st.2.2.2 = some r) ?_ (fun j1 => ?_)
 ·rintro ⟨i, j, l, m⟩ h
  replace h : z21_k1 g_ x2 i j l m = some r := h
  unfold z21_k1 at h
  refine wq (wg (wx [3, 4, 5, 6] ⟨[(2, .B 5 0), (4, .B 10 0), (124, .S 12), (126, .I g_.End)], [(5, .box [.s (str []), .nil, .nil, .I 0, .I 0, .I 0, .nil, .nil] 27), (10, .box [.s x2.Name, .sl 6, .sl 7, .I i, .I x2.Start, .I x2.End, .sl 15, .sl 16] 27), (12, .own (rI .i64) m true), (15, .own rR2 j true), (16, .own rR8 l true)], (vV4 0 1 2 3 g_ [(6, .sl rS x2.Roles), (7, .sl rR0 x2.Decls)]), 17⟩ htt 3 (by kernel_rfl) (?_)))
  obtain ⟨o, p, h⟩ := ob h
  refine wX htt p rfl rfl rfl rfl rfl rfl rfl rfl rfl (wL (oI .i64) htt p rfl rfl rfl rfl rfl rfl rfl rfl rfl rfl (wx [] ⟨[(2, .B 5 0), (4, .B 10 0)], [(5, .box [.s (str []), .nil, .nil, .I 0, .I 0, .I 0, .nil, .nil] 27), (10, .box [.s x2.Name, .sl 6, .sl 7, .I i, .I x2.Start, .I o, .sl 15, .sl 16] 27), (15, .own rR2 j true), (16, .own rR8 l true)], (vV4 0 1 2 3 g_ [(6, .sl rS x2.Roles), (7, .sl rR0 x2.Decls)]), 18⟩ htt 2 (by kernel_rfl) (wn (wq (wg (wx [] ⟨[(2, .B 5 0), (3, .I 0)], [(5, .box [.s x2.Name, .sl 6, .sl 7, .I i, .I x2.Start, .I o, .sl 15, .sl 16] 27), (15, .own rR2 j true), (16, .own rR8 l true)], (vV4 0 1 2 3 g_ [(6, .sl rS x2.Roles), (7, .sl rR0 x2.Decls)]), 18⟩ htt 3 (by kernel_rfl) (wn (WP.frz 15 rfl (WP.frz 16 rfl (?_))))))))))
  cases h
  exact we htt Tryz.func21 [(4, .sl 6), (5, .sl 7), (6, .sl 15), (7, .sl 16)] rfl rfl rfl rfl
 refine wo (?_)
 refine wI (σ := Int × (List T2) × (List T8) × (List Int) × (List Int)) (fun st => ⟨[(1, .B 4 0), (2, .B 5 0), (4, .B 10 0), (5, .S 12), (6, .S 17)], [(4, .box (cC4 0 1 2 3 g_) 27), (5, .box [.s (str []), .nil, .nil, .I 0, .I 0, .I 0, .nil, .nil] 27), (10, .box [.s x2.Name, .sl 6, .sl 7, .I st.1, .I x2.Start, .I x2.End, .sl 15, .sl 16] 27), (12, .own (rI .i64) st.2.2.2.1 true), (15, .own rR2 st.2.1 true), (16, .own rR8 st.2.2.1 true), (17, .own (rI .i64) st.2.2.2.2 true)], (vV4 0 1 2 3 g_ [(6, .sl rS x2.Roles), (7, .sl rR0 x2.Decls)]), 18⟩) (fun n st => z21_l2 N g_ x2 n st.1 st.2.1 st.2.2.1 st.2.2.2.1 st.2.2.2.2) (r := r) (fun _ => rfl) ?_ (fun ih => ?_)
 ·intro n12 ih66
  rintro ⟨q, u, v, x, y⟩ h
  replace h : z21_l2 N g_ x2 (n12 + 1) q u v x y = some r := h
  unfold z21_l2 at h
  refine wq (wq (wg (wx [] ⟨[(1, .B 4 0), (2, .B 5 0), (4, .B 10 0), (5, .S 12), (6, .S 17), (33, .O (decide (q < (y.length : Int))))], [(4, .box (cC4 0 1 2 3 g_) 27), (5, .box [.s (str []), .nil, .nil, .I 0, .I 0, .I 0, .nil, .nil] 27), (10, .box [.s x2.Name, .sl 6, .sl 7, .I q, .I x2.Start, .I x2.End, .sl 15, .sl 16] 27), (12, .own (rI .i64) x true), (15, .own rR2 u true), (16, .own rR8 v true), (17, .own (rI .i64) y true)], (vV4 0 1 2 3 g_ [(6, .sl rS x2.Roles), (7, .sl rR0 x2.Decls)]), 18⟩ htt 5 (by kernel_rfl) (wn (?_)))))
  rcases oc' h with ⟨hc, h⟩ | ⟨hc, h⟩
  ·exact wf hc rfl (wz rfl (wu [] (j1 (q, u, v, x) h) rfl rfl rfl rfl))
  refine wt hc rfl (wi (wq (wo (wq (wg (wx [3, 4, 5, 6] ⟨[(1, .B 4 0), (2, .B 5 0), (4, .B 10 0), (5, .S 12), (6, .S 17), (38, .S 17), (40, .I q)], [(4, .box (cC4 0 1 2 3 g_) 27), (5, .box [.s (str []), .nil, .nil, .I 0, .I 0, .I 0, .nil, .nil] 27), (10, .box [.s x2.Name, .sl 6, .sl 7, .I q, .I x2.Start, .I x2.End, .sl 15, .sl 16] 27), (12, .own (rI .i64) x true), (15, .own rR2 u true), (16, .own rR8 v true), (17, .own (rI .i64) y true)], (vV4 0 1 2 3 g_ [(6, .sl rS x2.Roles), (7, .sl rR0 x2.Decls)]), 18⟩ htt 3 (by kernel_rfl) (?_)))))))
  obtain ⟨z, A, h⟩ := ob h
  refine wX htt A rfl rfl rfl rfl rfl rfl rfl rfl rfl (wL (oI .i64) htt A rfl rfl rfl rfl rfl rfl rfl rfl rfl rfl (wx [] ⟨[(1, .B 4 0), (2, .B 5 0), (4, .B 10 0), (5, .S 12), (6, .S 17), (7, .B 19 0)], [(4, .box (cC4 0 1 2 3 g_) 27), (5, .box [.s (str []), .nil, .nil, .I 0, .I 0, .I 0, .nil, .nil] 27), (10, .box [.s x2.Name, .sl 6, .sl 7, .I q, .I x2.Start, .I x2.End, .sl 15, .sl 16] 27), (12, .own (rI .i64) x true), (15, .own rR2 u true), (16, .own rR8 v true), (17, .own (rI .i64) y true), (19, .box [.I z] 3)], (vV4 0 1 2 3 g_ [(6, .sl rS x2.Roles), (7, .sl rR0 x2.Decls)]), 20⟩ htt 2 (by kernel_rfl) (wn (wq (wg (wx [3, 4] ⟨[(1, .B 4 0), (2, .B 5 0), (4, .B 10 0), (5, .S 12), (6, .S 17), (7, .B 19 0), (44, .S 3), (45, .c (.cl 60 [] [19]))], [(4, .box (cC4 0 1 2 3 g_) 27), (5, .box [.s (str []), .nil, .nil, .I 0, .I 0, .I 0, .nil, .nil] 27), (10, .box [.s x2.Name, .sl 6, .sl 7, .I q, .I x2.Start, .I x2.End, .sl 15, .sl 16] 27), (12, .own (rI .i64) x true), (15, .own rR2 u true), (16, .own rR8 v true), (17, .own (rI .i64) y true), (19, .box [.I z] 3)], (vV4 0 1 2 3 g_ [(6, .sl rS x2.Roles), (7, .sl rR0 x2.Decls)]), 20⟩ htt 3 (by kernel_rfl) (?_)))))))
  obtain ⟨C, D, h⟩ := ob h
  refine wc (z59_19_ct N g_.Timeouts z _ D) [(0, .sl 3), (1, .bp 19 0)] [] rfl rfl rfl rfl rfl rfl rfl rfl (.inl rfl) rfl (wx [] ⟨[(1, .B 4 0), (2, .B 5 0), (4, .B 10 0), (5, .S 12), (6, .S 17), (7, .B 19 0), (8, .I C)], [(4, .box (cC4 0 1 2 3 g_) 27), (5, .box [.s (str []), .nil, .nil, .I 0, .I 0, .I 0, .nil, .nil] 27), (10, .box [.s x2.Name, .sl 6, .sl 7, .I q, .I x2.Start, .I x2.End, .sl 15, .sl 16] 27), (12, .own (rI .i64) x true), (15, .own rR2 u true), (16, .own rR8 v true), (17, .own (rI .i64) y true), (19, .box [.I z] 3)], (vV4 0 1 2 3 g_ [(6, .sl rS x2.Roles), (7, .sl rR0 x2.Decls)]), 20⟩ htt 1 (by kernel_rfl) (wn (wq (wg (ws htt 2 rfl (?_))))))
  obtain ⟨G, H, h⟩ := ob h
  refine wc (z18_ct N g_ z _ H) [(0, .sl 0), (1, .sl 1), (2, .sl 2), (3, .sl 3)] [] rfl rfl rfl rfl rfl rfl rfl rfl (.inl rfl) rfl (wx [] ⟨[(1, .B 4 0), (2, .B 5 0), (4, .B 10 0), (5, .S 12), (6, .S 17), (8, .I C), (49, .S 20), (50, .I (G.length : Int)), (51, .I 0)], [(4, .box (cC4 0 1 2 3 g_) 27), (5, .box [.s (str []), .nil, .nil, .I 0, .I 0, .I 0, .nil, .nil] 27), (10, .box [.s x2.Name, .sl 6, .sl 7, .I q, .I x2.Start, .I x2.End, .sl 15, .sl 16] 27), (12, .own (rI .i64) x true), (15, .own rR2 u true), (16, .own rR8 v true), (17, .own (rI .i64) y true), (20, .own (rI .i64) G true)], (vV4 0 1 2 3 g_ [(6, .sl rS x2.Roles), (7, .sl rR0 x2.Decls)]), 21⟩ htt 2 (by kernel_rfl) (wn (?_)))
  refine wC (σ := (List T2) × (List T8) × (List Int) × (List Int)) (fun st => ⟨[(1, .B 4 0), (2, .B 5 0), (4, .B 10 0), (5, .S 12), (6, .S 23)], [(4, .box (cC4 0 1 2 3 g_) 27), (5, .box [.s (str []), .nil, .nil, .I 0, .I 0, .I 0, .nil, .nil] 27), (10, .box [.s x2.Name, .sl 6, .sl 7, .I q, .I x2.Start, .I x2.End, .sl 21, .sl 22] 27), (12, .own (rI .i64) st.2.2.1 true), (21, .own rR2 st.1 true), (22, .own rR8 st.2.1 true), (23, .own (rI .i64) st.2.2.2 true)], (vV4 0 1 2 3 g_ [(6, .sl rS x2.Roles), (7, .sl rR0 x2.Decls)]), 24⟩) (fun st => z21_k3 q (z21_l2 N g_ x2 n12) st.1 st.2.1 st.2.2.1 st.2.2.2 = some r) ?_ (fun j109 => ?_)
  ·rintro ⟨J, K, Q, R⟩ h
   replace h : z21_k3 q (z21_l2 N g_ x2 n12) J K Q R = some r := h
   unfold z21_k3 at h
   exact wb (wg (wx [] ⟨[(1, .B 4 0), (2, .B 5 0), (4, .B 10 0), (5, .S 12), (6, .S 23)], [(4, .box (cC4 0 1 2 3 g_) 27), (5, .box [.s (str []), .nil, .nil, .I 0, .I 0, .I 0, .nil, .nil] 27), (10, .box [.s x2.Name, .sl 6, .sl 7, .I (w64 (q + 1)), .I x2.Start, .I x2.End, .sl 21, .sl 22] 27), (12, .own (rI .i64) Q true), (21, .own rR2 J true), (22, .own rR8 K true), (23, .own (rI .i64) R true)], (vV4 0 1 2 3 g_ [(6, .sl rS x2.Roles), (7, .sl rR0 x2.Decls)]), 24⟩ htt 5 (by kernel_rfl) (wn (wu [(15, .sl 21), (16, .sl 22), (17, .sl 23)] (ih66 ((w64 (q + 1)), J, K, Q, R) h) rfl rfl rfl rfl))))
  refine wo (?_)
  refine wI (σ := (List T2) × (List T8) × (List Int) × (List Int) × Int) (fun st => ⟨[(1, .B 4 0), (2, .B 5 0), (4, .B 10 0), (5, .S 12), (6, .S 23), (8, .I C), (49, .S 20), (50, .I (G.length : Int)), (51, .I st.2.2.2.2)], [(4, .box (cC4 0 1 2 3 g_) 27), (5, .box [.s (str []), .nil, .nil, .I 0, .I 0, .I 0, .nil, .nil] 27), (10, .box [.s x2.Name, .sl 6, .sl 7, .I q, .I x2.Start, .I x2.End, .sl 21, .sl 22] 27), (12, .own (rI .i64) st.2.2.1 true), (20, .own (rI .i64) G true), (21, .own rR2 st.1 true), (22, .own rR8 st.2.1 true), (23, .own (rI .i64) st.2.2.2.1 true)], (vV4 0 1 2 3 g_ [(6, .sl rS x2.Roles), (7, .sl rR0 x2.Decls)]), 24⟩) (fun n st => z21_l4 g_ q (z21_l2 N g_ x2 n12) C G n st.1 st.2.1 st.2.2.1 st.2.2.2.1 st.2.2.2.2) (r := r) (fun _ => rfl) ?_ (fun ih => ?_)
  ·intro n14 ih120
   rintro ⟨T, U, X, Y, Z⟩ h
   replace h : z21_l4 g_ q (z21_l2 N g_ x2 n12) C G (n14 + 1) T U X Y Z = some r := h
   unfold z21_l4 at h
   refine wq (wg (ws htt 1 rfl (wn (wq (?_)))))
   rcases oc' h with ⟨hc, h⟩ | ⟨hc, h⟩
   ·exact wf hc rfl (wz rfl (wu [] (j109 (T, U, X, Y) h) rfl rfl rfl rfl))
   refine wt hc rfl (wi (wq (wo (wq (wg (?_))))))
   obtain ⟨a0, b0, h⟩ := ob h
   refine wX htt b0 rfl rfl rfl rfl rfl rfl rfl rfl rfl (wL (oI .i64) htt b0 rfl rfl rfl rfl rfl rfl rfl rfl rfl rfl (wx [] ⟨[(1, .B 4 0), (2, .B 5 0), (4, .B 10 0), (5, .S 12), (6, .S 23), (8, .I C), (10, .I a0), (49, .S 20), (50, .I (G.length : Int)), (51, .I Z)], [(4, .box (cC4 0 1 2 3 g_) 27), (5, .box [.s (str []), .nil, .nil, .I 0, .I 0, .I 0, .nil, .nil] 27), (10, .box [.s x2.Name, .sl 6, .sl 7, .I q, .I x2.Start, .I x2.End, .sl 21, .sl 22] 27), (12, .own (rI .i64) X true), (20, .own (rI .i64) G true), (21, .own rR2 T true), (22, .own rR8 U true), (23, .own (rI .i64) Y true)], (vV4 0 1 2 3 g_ [(6, .sl rS x2.Roles), (7, .sl rR0 x2.Decls)]), 25⟩ htt 1 (by kernel_rfl) (wn (wq (wg (wx [3, 4, 5, 6] ⟨[(1, .B 4 0), (2, .B 5 0), (4, .B 10 0), (5, .S 12), (6, .S 23), (8, .I C), (10, .I a0), (49, .S 20), (50, .I (G.length : Int)), (51, .I Z), (56, .S 2), (57, .I a0)], [(4, .box (cC4 0 1 2 3 g_) 27), (5, .box [.s (str []), .nil, .nil, .I 0, .I 0, .I 0, .nil, .nil] 27), (10, .box [.s x2.Name, .sl 6, .sl 7, .I q, .I x2.Start, .I x2.End, .sl 21, .sl 22] 27), (12, .own (rI .i64) X true), (20, .own (rI .i64) G true), (21, .own rR2 T true), (22, .own rR8 U true), (23, .own (rI .i64) Y true)], (vV4 0 1 2 3 g_ [(6, .sl rS x2.Roles), (7, .sl rR0 x2.Decls)]), 25⟩ htt 3 (by kernel_rfl) (?_)))))))
   obtain ⟨c0, d0, h⟩ := ob h
   refine wj oO2 htt d0 rfl rfl rfl rfl rfl rfl rfl rfl rfl (wx [] ⟨[(1, .B 4 0), (2, .B 5 0), (4, .B 10 0), (5, .S 12), (6, .S 23), (8, .I C), (10, .I a0), (11, .B 26 0), (49, .S 20), (50, .I (G.length : Int)), (51, .I Z)], [(4, .box (cC4 0 1 2 3 g_) 27), (5, .box [.s (str []), .nil, .nil, .I 0, .I 0, .I 0, .nil, .nil] 27), (10, .box [.s x2.Name, .sl 6, .sl 7, .I q, .I x2.Start, .I x2.End, .sl 21, .sl 22] 27), (12, .own (rI .i64) X true), (20, .own (rI .i64) G true), (21, .own rR2 T true), (22, .own rR8 U true), (23, .own (rI .i64) Y true), (26, .box (cC2 c0) 43)], (vV4 0 1 2 3 g_ [(6, .sl rS x2.Roles), (7, .sl rR0 x2.Decls)]), 27⟩ htt 3 (by kernel_rfl) (wn (wq (wq (wg (wx [3, 4, 5] ⟨[(1, .B 4 0), (2, .B 5 0), (4, .B 10 0), (5, .S 12), (6, .S 23), (8, .I C), (10, .I a0), (11, .B 26 0), (49, .S 20), (50, .I (G.length : Int)), (51, .I Z), (60, .S 12), (62, .I c0.To)], [(4, .box (cC4 0 1 2 3 g_) 27), (5, .box [.s (str []), .nil, .nil, .I 0, .I 0, .I 0, .nil, .nil] 27), (10, .box [.s x2.Name, .sl 6, .sl 7, .I q, .I x2.Start, .I x2.End, .sl 21, .sl 22] 27), (12, .own (rI .i64) X true), (20, .own (rI .i64) G true), (21, .own rR2 T true), (22, .own rR8 U true), (23, .own (rI .i64) Y true), (26, .box (cC2 c0) 43)], (vV4 0 1 2 3 g_ [(6, .sl rS x2.Roles), (7, .sl rR0 x2.Decls)]), 27⟩ htt 3 (by kernel_rfl) (?_)))))))
   obtain ⟨e0, f0, h⟩ := ob h
   refine wX htt f0 rfl rfl rfl rfl rfl rfl rfl rfl rfl (wL (oI .i64) htt f0 rfl rfl rfl rfl rfl rfl rfl rfl rfl rfl (wx [] ⟨[(1, .B 4 0), (2, .B 5 0), (4, .B 10 0), (5, .S 12), (6, .S 23), (8, .I C), (10, .I a0), (11, .B 26 0), (49, .S 20), (50, .I (G.length : Int)), (51, .I Z), (65, .O (decide (e0 < 0)))], [(4, .box (cC4 0 1 2 3 g_) 27), (5, .box [.s (str []), .nil, .nil, .I 0, .I 0, .I 0, .nil, .nil] 27), (10, .box [.s x2.Name, .sl 6, .sl 7, .I q, .I x2.Start, .I x2.End, .sl 21, .sl 22] 27), (12, .own (rI .i64) X true), (20, .own (rI .i64) G true), (21, .own rR2 T true), (22, .own rR8 U true), (23, .own (rI .i64) Y true), (26, .box (cC2 c0) 43)], (vV4 0 1 2 3 g_ [(6, .sl rS x2.Roles), (7, .sl rR0 x2.Decls)]), 28⟩ htt 1 (by kernel_rfl) (wn (?_))))
   refine wC (σ := (List Int) × (List Int)) (fun st => ⟨[(1, .B 4 0), (2, .B 5 0), (4, .B 10 0), (5, .S 12), (6, .S 28), (8, .I C), (10, .I a0), (11, .B 26 0), (49, .S 20), (50, .I (G.length : Int)), (51, .I Z)], [(4, .box (cC4 0 1 2 3 g_) 27), (5, .box [.s (str []), .nil, .nil, .I 0, .I 0, .I 0, .nil, .nil] 27), (10, .box [.s x2.Name, .sl 6, .sl 7, .I q, .I x2.Start, .I x2.End, .sl 21, .sl 22] 27), (12, .own (rI .i64) st.1 true), (20, .own (rI .i64) G true), (21, .own rR2 T true), (22, .own rR8 U true), (26, .box (cC2 c0) 43), (28, .own (rI .i64) st.2 true)], (vV4 0 1 2 3 g_ [(6, .sl rS x2.Roles), (7, .sl rR0 x2.Decls)]), 29⟩) (fun st => z21_k7 g_ q C T U Z (z21_l4 g_ q (z21_l2 N g_ x2 n12) C G n14) a0 c0 st.1 st.2 = some r) ?_ (fun j127 => ?_)
   ·rintro ⟨g0, i0⟩ h
    replace h : z21_k7 g_ q C T U Z (z21_l4 g_ q (z21_l2 N g_ x2 n12) C G n14) a0 c0 g0 i0 = some r := h
    unfold z21_k7 at h
    refine wq (wq (wg (wx (rg 3 9) ⟨[(1, .B 4 0), (2, .B 5 0), (4, .B 10 0), (5, .S 12), (6, .S 28), (8, .I C), (10, .I a0), (11, .B 26 0), (49, .S 20), (50, .I (G.length : Int)), (51, .I Z), (79, .O (decide (C ≥ 0)))], [(4, .box (cC4 0 1 2 3 g_) 27), (5, .box [.s (str []), .nil, .nil, .I 0, .I 0, .I 0, .nil, .nil] 27), (10, .box [.s x2.Name, .sl 6, .sl 7, .I q, .I x2.Start, .I x2.End, .sl 21, .sl 22] 27), (12, .own (rI .i64) g0 true), (20, .own (rI .i64) G true), (21, .own rR2 T true), (22, .own rR8 U true), (26, .box (cC2 c0) 43), (28, .own (rI .i64) i0 true)], (vV4 0 1 2 3 g_ [(6, .sl rS x2.Roles), (7, .sl rR0 x2.Decls)]), 29⟩ htt 3 (by kernel_rfl) (?_))))
    refine WP.cutr (σ := Bool) (fun st => ⟨[(1, .B 4 0), (2, .B 5 0), (4, .B 10 0), (5, .S 12), (6, .S 28), (8, .I C), (11, .B 26 0), (49, .S 20), (50, .I (G.length : Int)), (51, .I Z), (88, .O st)], [(4, .box (cC4 0 1 2 3 g_) 27), (5, .box [.s (str []), .nil, .nil, .I 0, .I 0, .I 0, .nil, .nil] 27), (10, .box [.s x2.Name, .sl 6, .sl 7, .I q, .I x2.Start, .I x2.End, .sl 21, .sl 22] 27), (12, .own (rI .i64) g0 true), (20, .own (rI .i64) G true), (21, .own rR2 T true), (22, .own rR8 U true), (26, .box (cC2 c0) 43), (28, .own (rI .i64) i0 true)], (vV4 0 1 2 3 g_ [(6, .sl rS x2.Roles), (7, .sl rR0 x2.Decls)]), 29⟩) (fun st => z21_k6 g_ q C T U Z (z21_l4 g_ q (z21_l2 N g_ x2 n12) C G n14) c0 g0 i0 st = some r) ?_ (fun j128 => ?_)
    ·intro j0 h
     replace h : z21_k6 g_ q C T U Z (z21_l4 g_ q (z21_l2 N g_ x2 n12) C G n14) c0 g0 i0 j0 = some r := h
     unfold z21_k6 at h
     refine wC (σ := (List T8)) (fun st => ⟨[(1, .B 4 0), (2, .B 5 0), (4, .B 10 0), (5, .S 12), (6, .S 28), (8, .I C), (11, .B 26 0), (49, .S 20), (50, .I (G.length : Int)), (51, .I Z)], [(4, .box (cC4 0 1 2 3 g_) 27), (5, .box [.s (str []), .nil, .nil, .I 0, .I 0, .I 0, .nil, .nil] 27), (10, .box [.s x2.Name, .sl 6, .sl 7, .I q, .I x2.Start, .I x2.End, .sl 21, .sl 29] 27), (12, .own (rI .i64) g0 true), (20, .own (rI .i64) G true), (21, .own rR2 T true), (26, .box (cC2 c0) 43), (28, .own (rI .i64) i0 true), (29, .own rR8 st true)], (vV4 0 1 2 3 g_ [(6, .sl rS x2.Roles), (7, .sl rR0 x2.Decls)]), 30⟩) (fun st => z21_k5 q T Z (z21_l4 g_ q (z21_l2 N g_ x2 n12) C G n14) c0 g0 i0 st = some r) ?_ (fun j129 => ?_)
     ·intro k0 h
      replace h : z21_k5 q T Z (z21_l4 g_ q (z21_l2 N g_ x2 n12) C G n14) c0 g0 i0 k0 = some r := h
      unfold z21_k5 at h
      refine wN (fun l0 m0 o0 => ?_)
      have p0 : l0 0 ⟨[(4, .B 10 0)], [], [], [], 30, [(106, .B 10 6)], [], [], 30⟩ := m0 _ _ (wl htt rfl rfl rfl rfl rfl rfl)
      have q0 : l0 1 ⟨[(106, .B 10 6)], [(6, .sl rS x2.Roles), (7, .sl rR0 x2.Decls)], [], [(10, .box [.s x2.Name, .sl 6, .sl 7, .I q, .I x2.Start, .I x2.End, .sl 21, .sl 29] 27)], 30, [(107, .S 21)], [], [], 30⟩ := m0 _ _ (wl htt rfl rfl rfl rfl rfl rfl)
      have s0 : l0 2 ⟨[(4, .B 10 0)], [], [], [], 30, [(108, .B 10 3)], [], [], 30⟩ := m0 _ _ (wl htt rfl rfl rfl rfl rfl rfl)
      have t0 : l0 3 ⟨[(108, .B 10 3)], [(6, .sl rS x2.Roles), (7, .sl rR0 x2.Decls)], [], [(10, .box [.s x2.Name, .sl 6, .sl 7, .I q, .I x2.Start, .I x2.End, .sl 21, .sl 29] 27)], 30, [(109, .I q)], [], [], 30⟩ := m0 _ _ (wl htt rfl rfl rfl rfl rfl rfl)
      have u0 : l0 4 ⟨[(11, .B 26 0)], [], [], [], 30, [(110, .B 26 1)], [], [], 30⟩ := m0 _ _ (wl htt rfl rfl rfl rfl rfl rfl)
      have v0 : l0 5 ⟨[(110, .B 26 1)], [], [], [(26, .box (cC2 c0) 43)], 30, [(111, .a (cC6 c0.Act))], [], [], 30⟩ := m0 _ _ (wl htt rfl rfl rfl rfl rfl rfl)
      have x0 : l0 6 ⟨[(5, .S 12)], [], [], [], 30, [(112, .S 12)], [], [], 30⟩ := m0 _ _ (wl htt rfl rfl rfl rfl rfl rfl)
      have y0 : l0 7 ⟨[(11, .B 26 0)], [], [], [], 30, [(113, .B 26 4)], [], [], 30⟩ := m0 _ _ (wl htt rfl rfl rfl rfl rfl rfl)
      have z0 : l0 8 ⟨[(113, .B 26 4)], [], [], [(26, .box (cC2 c0) 43)], 30, [(114, .I c0.To)], [], [], 30⟩ := m0 _ _ (wl htt rfl rfl rfl rfl rfl rfl)
      obtain ⟨A0, B0, h⟩ := ob h
      have C0 : l0 9 ⟨[(112, .S 12), (114, .I c0.To)], [], [], [(12, .own (rI .i64) g0 true)], 30, [(115, .P 30 0)], [(30, .el 12 ((c0.To).toNat * ((rI .i64)).sz))], [], 31⟩ := m0 _ _ (wO rfl rfl rfl (fun _ _ _ _ _ _ _ k => wX htt B0 rfl rfl rfl rfl rfl rfl rfl rfl rfl (k)) rfl)
      have D0 : l0 10 ⟨[(115, .P 30 0)], [(30, .el 12 ((c0.To).toNat * ((rI .i64)).sz))], [], [(12, .own (rI .i64) g0 true)], 31, [(116, .I A0)], [], [], 31⟩ := m0 _ _ (wO rfl rfl rfl (fun _ _ _ _ _ _ _ k => wL (oI .i64) htt B0 rfl rfl rfl rfl rfl rfl rfl rfl rfl rfl (k)) rfl)
      have G0 : l0 11 ⟨[(11, .B 26 0)], [], [], [], 31, [(117, .B 26 5)], [], [], 31⟩ := m0 _ _ (wl htt rfl rfl rfl rfl rfl rfl)
      have H0 : l0 12 ⟨[(117, .B 26 5)], [], [], [(26, .box (cC2 c0) 43)], 31, [(118, .O c0.Again)], [], [], 31⟩ := m0 _ _ (wl htt rfl rfl rfl rfl rfl rfl)
      have I0 : l0 13 ⟨[(109, .I q), (111, .a (cC6 c0.Act)), (116, .I A0), (118, .O c0.Again)], [], [], [], 31, [(119, .a [.I q, .I c0.Act.From, .I c0.Act.To, .I c0.Act.Label, .I A0, .b c0.Again])], [], [], 31⟩ := m0 _ _ (wl htt rfl rfl rfl rfl rfl rfl)
      have J0 : l0 14 ⟨[(119, .a [.I q, .I c0.Act.From, .I c0.Act.To, .I c0.Act.Label, .I A0, .b c0.Again])], [], [], [], 31, [(120, .S 31)], [], [(31, .own rR2 ([(⟨q, c0.Act, A0, c0.Again⟩ : T2)] : List T2) true)], 32⟩ := m0 _ _ (wO rfl rfl rfl (fun _ _ _ _ _ _ _ k => WPr.bs (cs := [.I q, .I c0.Act.From, .I c0.Act.To, .I c0.Act.Label, .I A0, .b c0.Again]) oO2 htt ([(⟨q, c0.Act, A0, c0.Again⟩ : T2)] : List T2) rfl rfl rfl rfl rfl rfl (by kernel_rfl) (by exact (an (an rfl (an (an rfl (an rfl rfl)) (an rfl rfl))) rfl)) rfl (k)) rfl)
      obtain ⟨K0, L0, h⟩ := ob h
      have M0 : l0 15 ⟨[(107, .S 21), (120, .S 31)], [], [(21, .own rR2 T true)], [(31, .own rR2 ([(⟨q, c0.Act, A0, c0.Again⟩ : T2)] : List T2) true)], 32, [(121, .S 32)], [], [(21, .gone), (32, .own rR2 K0 true)], 33⟩ := m0 _ _ (wO rfl rfl rfl (fun _ _ _ _ _ _ _ k => WPr.app htt L0 (by exact (srcO rfl)) rfl rfl rfl rfl rfl rfl rfl rfl rfl rfl (k)) rfl)
      have O0 : l0 16 ⟨[(4, .B 10 0)], [], [], [], 33, [(122, .B 10 6)], [], [], 33⟩ := m0 _ _ (wl htt rfl rfl rfl rfl rfl rfl)
      have Q0 : l0 17 ⟨[(121, .S 32), (122, .B 10 6)], [(6, .sl rS x2.Roles), (7, .sl rR0 x2.Decls)], [(10, .box [.s x2.Name, .sl 6, .sl 7, .I q, .I x2.Start, .I x2.End, .sl 21, .sl 29] 27)], [(32, .own rR2 K0 true)], 33, [], [], [(10, .box [.s x2.Name, .sl 6, .sl 7, .I q, .I x2.Start, .I x2.End, .sl 32, .sl 29] 27)], 33⟩ := m0 _ _ (wl htt rfl rfl rfl rfl rfl rfl)
      exact wD (t := ⟨[(1, .B 4 0), (2, .B 5 0), (4, .B 10 0), (5, .S 12), (6, .S 28), (8, .I C), (49, .S 20), (50, .I (G.length : Int)), (51, .I Z)], [(4, .box (cC4 0 1 2 3 g_) 27), (5, .box [.s (str []), .nil, .nil, .I 0, .I 0, .I 0, .nil, .nil] 27), (10, .box [.s x2.Name, .sl 6, .sl 7, .I q, .I x2.Start, .I x2.End, .sl 32, .sl 29] 27), (12, .own (rI .i64) g0 true), (20, .own (rI .i64) G true), (28, .own (rI .i64) i0 true), (29, .own rR8 k0 true), (32, .own rR2 K0 true)], (vV4 0 1 2 3 g_ [(6, .sl rS x2.Roles), (7, .sl rR0 x2.Decls)]), 33⟩) [0, 1, 0, 4, 0, 16, 0, 0, 128, 448, 960, 0, 2048, 8188, 16380, 32767, 65535, 131071] (.cons (o0 _ _ p0) (.cons (o0 _ _ q0) (.cons (o0 _ _ s0) (.cons (o0 _ _ t0) (.cons (o0 _ _ u0) (.cons (o0 _ _ v0) (.cons (o0 _ _ x0) (.cons (o0 _ _ y0) (.cons (o0 _ _ z0) (.cons (o0 _ _ C0) (.cons (o0 _ _ D0) (.cons (o0 _ _ G0) (.cons (o0 _ _ H0) (.cons (o0 _ _ I0) (.cons (o0 _ _ J0) (.cons (o0 _ _ M0) (.cons (o0 _ _ O0) (.cons (o0 _ _ Q0) .nil)))))))))))))))))) (by kernel_rfl) (by kernel_rfl) (by kernel_rfl) (by kernel_rfl) (wb (wg (ws htt 2 rfl (wn (wu [(21, .sl 32), (22, .sl 29), (23, .sl 28)] (ih120 (K0, k0, g0, i0, (w64 (Z + 1))) h) rfl rfl rfl rfl)))))
     rcases oc' h with ⟨hc, h⟩ | ⟨hc, h⟩
     ·exact wf hc rfl (wi (wu [(29, .sl 22)] (j129 U h) rfl rfl rfl rfl))
     refine wt hc rfl (wN (fun R0 S0 T0 => ?_))
     have U0 : R0 0 ⟨[(4, .B 10 0)], [], [], [], 29, [(89, .B 10 7)], [], [], 29⟩ := S0 _ _ (wl htt rfl rfl rfl rfl rfl rfl)
     have V0 : R0 1 ⟨[(89, .B 10 7)], [(6, .sl rS x2.Roles), (7, .sl rR0 x2.Decls)], [], [(10, .box [.s x2.Name, .sl 6, .sl 7, .I q, .I x2.Start, .I x2.End, .sl 21, .sl 22] 27)], 29, [(90, .S 22)], [], [], 29⟩ := S0 _ _ (wl htt rfl rfl rfl rfl rfl rfl)
     have X0 : R0 2 ⟨[(4, .B 10 0)], [], [], [], 29, [(91, .B 10 3)], [], [], 29⟩ := S0 _ _ (wl htt rfl rfl rfl rfl rfl rfl)
     have Y0 : R0 3 ⟨[(91, .B 10 3)], [(6, .sl rS x2.Roles), (7, .sl rR0 x2.Decls)], [], [(10, .box [.s x2.Name, .sl 6, .sl 7, .I q, .I x2.Start, .I x2.End, .sl 21, .sl 22] 27)], 29, [(92, .I q)], [], [], 29⟩ := S0 _ _ (wl htt rfl rfl rfl rfl rfl rfl)
     have Z0 : R0 4 ⟨[(1, .B 4 0)], [], [], [], 29, [(93, .B 4 7)], [], [], 29⟩ := S0 _ _ (wl htt rfl rfl rfl rfl rfl rfl)
     have a1 : R0 5 ⟨[(93, .B 4 7)], (vV4 0 1 2 3 g_ []), [], [(4, .box (cC4 0 1 2 3 g_) 27)], 29, [(94, .S 3)], [], [], 29⟩ := S0 _ _ (wl htt rfl rfl rfl rfl rfl rfl)
     have b1 : R0 6 ⟨[(8, .I C)], [], [], [], 29, [(95, .I C)], [], [], 29⟩ := S0 _ _ (wl htt rfl rfl rfl rfl rfl rfl)
     obtain ⟨c1, d1, h⟩ := ob h
     have e1 : R0 7 ⟨[(94, .S 3), (95, .I C)], [(3, .sl rR8 g_.Timeouts)], [], [], 29, [(96, .P 29 0)], [(29, .pl (cC8 c1))], [], 30⟩ := S0 _ _ (wO rfl rfl rfl (fun _ _ _ _ _ _ _ k => wj oO8 htt d1 rfl rfl rfl rfl rfl rfl rfl rfl rfl (k)) rfl)
     have f1 : R0 8 ⟨[(96, .P 29 0)], [(29, .pl (cC8 c1))], [], [], 30, [(97, .P 29 1)], [], [], 30⟩ := S0 _ _ (wl htt rfl rfl rfl rfl rfl rfl)
     have g1 : R0 9 ⟨[(97, .P 29 1)], [(29, .pl (cC8 c1))], [], [], 30, [(98, .I c1.Ticks)], [], [], 30⟩ := S0 _ _ (wl htt rfl rfl rfl rfl rfl rfl)
     have i1 : R0 10 ⟨[(4, .B 10 0)], [], [], [], 30, [(99, .B 10 6)], [], [], 30⟩ := S0 _ _ (wl htt rfl rfl rfl rfl rfl rfl)
     have k1 : R0 11 ⟨[(99, .B 10 6)], [(6, .sl rS x2.Roles), (7, .sl rR0 x2.Decls)], [], [(10, .box [.s x2.Name, .sl 6, .sl 7, .I q, .I x2.Start, .I x2.End, .sl 21, .sl 22] 27)], 30, [(100, .S 21)], [], [], 30⟩ := S0 _ _ (wl htt rfl rfl rfl rfl rfl rfl)
     have l1 : R0 12 ⟨[(100, .S 21)], [], [], [(21, .own rR2 T true)], 30, [(101, .I (T.length : Int))], [], [], 30⟩ := S0 _ _ (wl htt rfl rfl rfl rfl rfl rfl)
     have m1 : R0 13 ⟨[(92, .I q), (98, .I c1.Ticks), (101, .I (T.length : Int))], [], [], [], 30, [(102, .a [.I q, .I c1.Ticks, .I (T.length : Int)])], [], [], 30⟩ := S0 _ _ (wl htt rfl rfl rfl rfl rfl rfl)
     have o1 : R0 14 ⟨[(102, .a [.I q, .I c1.Ticks, .I (T.length : Int)])], [], [], [], 30, [(103, .S 30)], [], [(30, .own rR8 ([(⟨q, c1.Ticks, (T.length : Int)⟩ : T8)] : List T8) true)], 31⟩ := S0 _ _ (wO rfl rfl rfl (fun _ _ _ _ _ _ _ k => WPr.bs (cs := [.I q, .I c1.Ticks, .I (T.length : Int)]) oO8 htt ([(⟨q, c1.Ticks, (T.length : Int)⟩ : T8)] : List T8) rfl rfl rfl rfl rfl rfl (by kernel_rfl) (by exact (an (an rfl (an rfl rfl)) rfl)) rfl (k)) rfl)
     obtain ⟨p1, q1, h⟩ := ob h
     have s1 : R0 15 ⟨[(90, .S 22), (103, .S 30)], [], [(22, .own rR8 U true)], [(30, .own rR8 ([(⟨q, c1.Ticks, (T.length : Int)⟩ : T8)] : List T8) true)], 31, [(104, .S 31)], [], [(22, .gone), (31, .own rR8 p1 true)], 32⟩ := S0 _ _ (wO rfl rfl rfl (fun _ _ _ _ _ _ _ k => WPr.app htt q1 (by exact (srcO rfl)) rfl rfl rfl rfl rfl rfl rfl rfl rfl rfl (k)) rfl)
     have t1 : R0 16 ⟨[(4, .B 10 0)], [], [], [], 32, [(105, .B 10 7)], [], [], 32⟩ := S0 _ _ (wl htt rfl rfl rfl rfl rfl rfl)
     have u1 : R0 17 ⟨[(104, .S 31), (105, .B 10 7)], [(6, .sl rS x2.Roles), (7, .sl rR0 x2.Decls)], [(10, .box [.s x2.Name, .sl 6, .sl 7, .I q, .I x2.Start, .I x2.End, .sl 21, .sl 22] 27)], [(31, .own rR8 p1 true)], 32, [], [], [(10, .box [.s x2.Name, .sl 6, .sl 7, .I q, .I x2.Start, .I x2.End, .sl 21, .sl 31] 27)], 32⟩ := S0 _ _ (wl htt rfl rfl rfl rfl rfl rfl)
     exact wD (t := ⟨[(1, .B 4 0), (2, .B 5 0), (4, .B 10 0), (5, .S 12), (6, .S 28), (8, .I C), (11, .B 26 0), (49, .S 20), (50, .I (G.length : Int)), (51, .I Z)], [(4, .box (cC4 0 1 2 3 g_) 27), (5, .box [.s (str []), .nil, .nil, .I 0, .I 0, .I 0, .nil, .nil] 27), (10, .box [.s x2.Name, .sl 6, .sl 7, .I q, .I x2.Start, .I x2.End, .sl 21, .sl 31] 27), (12, .own (rI .i64) g0 true), (20, .own (rI .i64) G true), (21, .own rR2 T true), (26, .box (cC2 c0) 43), (28, .own (rI .i64) i0 true), (31, .own rR8 p1 true)], (vV4 0 1 2 3 g_ [(6, .sl rS x2.Roles), (7, .sl rR0 x2.Decls)]), 32⟩) [0, 1, 0, 4, 0, 16, 0, 112, 240, 496, 0, 1024, 3072, 8188, 16380, 32767, 65535, 131071] (.cons (T0 _ _ U0) (.cons (T0 _ _ V0) (.cons (T0 _ _ X0) (.cons (T0 _ _ Y0) (.cons (T0 _ _ Z0) (.cons (T0 _ _ a1) (.cons (T0 _ _ b1) (.cons (T0 _ _ e1) (.cons (T0 _ _ f1) (.cons (T0 _ _ g1) (.cons (T0 _ _ i1) (.cons (T0 _ _ k1) (.cons (T0 _ _ l1) (.cons (T0 _ _ m1) (.cons (T0 _ _ o1) (.cons (T0 _ _ s1) (.cons (T0 _ _ t1) (.cons (T0 _ _ u1) .nil)))))))))))))))))) (by kernel_rfl) (by kernel_rfl) (by kernel_rfl) (by kernel_rfl) (wu [(29, .sl 31)] (j129 p1 h) rfl rfl rfl rfl)
    rcases oc' h with ⟨hc, h⟩ | ⟨hc, h⟩
    ·exact wy 79 hc rfl (wx [] ⟨[(1, .B 4 0), (2, .B 5 0), (4, .B 10 0), (5, .S 12), (6, .S 28), (8, .I C), (11, .B 26 0), (49, .S 20), (50, .I (G.length : Int)), (51, .I Z), (88, .O false)], [(4, .box (cC4 0 1 2 3 g_) 27), (5, .box [.s (str []), .nil, .nil, .I 0, .I 0, .I 0, .nil, .nil] 27), (10, .box [.s x2.Name, .sl 6, .sl 7, .I q, .I x2.Start, .I x2.End, .sl 21, .sl 22] 27), (12, .own (rI .i64) g0 true), (20, .own (rI .i64) G true), (21, .own rR2 T true), (22, .own rR8 U true), (26, .box (cC2 c0) 43), (28, .own (rI .i64) i0 true)], (vV4 0 1 2 3 g_ [(6, .sl rS x2.Roles), (7, .sl rR0 x2.Decls)]), 29⟩ htt 9 (by kernel_rfl) (wn (wu [] (j128 false h) rfl rfl rfl rfl)))
    refine wy 79 hc rfl (wx (rg 6 6) ⟨[(1, .B 4 0), (2, .B 5 0), (4, .B 10 0), (5, .S 12), (6, .S 28), (8, .I C), (10, .I a0), (11, .B 26 0), (49, .S 20), (50, .I (G.length : Int)), (51, .I Z), (79, .O true), (81, .S 3), (82, .I C)], [(4, .box (cC4 0 1 2 3 g_) 27), (5, .box [.s (str []), .nil, .nil, .I 0, .I 0, .I 0, .nil, .nil] 27), (10, .box [.s x2.Name, .sl 6, .sl 7, .I q, .I x2.Start, .I x2.End, .sl 21, .sl 22] 27), (12, .own (rI .i64) g0 true), (20, .own (rI .i64) G true), (21, .own rR2 T true), (22, .own rR8 U true), (26, .box (cC2 c0) 43), (28, .own (rI .i64) i0 true)], (vV4 0 1 2 3 g_ [(6, .sl rS x2.Roles), (7, .sl rR0 x2.Decls)]), 29⟩ htt 3 (by kernel_rfl) (?_))
    obtain ⟨v1, y1, h⟩ := ob h
    exact wj oO8 htt y1 rfl rfl rfl rfl rfl rfl rfl rfl rfl (wx [] ⟨[(1, .B 4 0), (2, .B 5 0), (4, .B 10 0), (5, .S 12), (6, .S 28), (8, .I C), (11, .B 26 0), (49, .S 20), (50, .I (G.length : Int)), (51, .I Z), (88, .O (v1.Else == a0))], [(4, .box (cC4 0 1 2 3 g_) 27), (5, .box [.s (str []), .nil, .nil, .I 0, .I 0, .I 0, .nil, .nil] 27), (10, .box [.s x2.Name, .sl 6, .sl 7, .I q, .I x2.Start, .I x2.End, .sl 21, .sl 22] 27), (12, .own (rI .i64) g0 true), (20, .own (rI .i64) G true), (21, .own rR2 T true), (22, .own rR8 U true), (26, .box (cC2 c0) 43), (28, .own (rI .i64) i0 true)], (vV4 0 1 2 3 g_ [(6, .sl rS x2.Roles), (7, .sl rR0 x2.Decls)]), 30⟩ htt 5 (by kernel_rfl) (wn (wu [] (j128 (v1.Else == a0) h) rfl rfl rfl rfl)))
   rcases oc' h with ⟨hc, h⟩ | ⟨hc, h⟩
   ·exact wf hc rfl (wi (wu [(28, .sl 23)] (j127 (X, Y) h) rfl rfl rfl rfl))
   refine wt hc rfl (wq (wg (wx [5, 6] ⟨[(1, .B 4 0), (2, .B 5 0), (4, .B 10 0), (5, .S 12), (6, .S 23), (8, .I C), (10, .I a0), (11, .B 26 0), (49, .S 20), (50, .I (G.length : Int)), (51, .I Z), (66, .S 12), (68, .I c0.To), (70, .I (Y.length : Int))], [(4, .box (cC4 0 1 2 3 g_) 27), (5, .box [.s (str []), .nil, .nil, .I 0, .I 0, .I 0, .nil, .nil] 27), (10, .box [.s x2.Name, .sl 6, .sl 7, .I q, .I x2.Start, .I x2.End, .sl 21, .sl 22] 27), (12, .own (rI .i64) X true), (20, .own (rI .i64) G true), (21, .own rR2 T true), (22, .own rR8 U true), (23, .own (rI .i64) Y true), (26, .box (cC2 c0) 43)], (vV4 0 1 2 3 g_ [(6, .sl rS x2.Roles), (7, .sl rR0 x2.Decls)]), 28⟩ htt 5 (by kernel_rfl) (?_))))
   obtain ⟨z1, A1, h⟩ := ob h
   refine wX htt A1 rfl rfl rfl rfl rfl rfl rfl rfl rfl (WPr.sto (oI .i64) htt (Y.length : Int) A1 rfl rfl rfl rfl rfl rfl rfl rfl rfl rfl (by exact rfl) rfl (wn (wg (wx [3, 4, 5] ⟨[(1, .B 4 0), (2, .B 5 0), (4, .B 10 0), (5, .S 12), (8, .I C), (10, .I a0), (11, .B 26 0), (49, .S 20), (50, .I (G.length : Int)), (51, .I Z), (72, .S 23), (74, .I c0.To)], [(4, .box (cC4 0 1 2 3 g_) 27), (5, .box [.s (str []), .nil, .nil, .I 0, .I 0, .I 0, .nil, .nil] 27), (10, .box [.s x2.Name, .sl 6, .sl 7, .I q, .I x2.Start, .I x2.End, .sl 21, .sl 22] 27), (12, .own (rI .i64) (setL' X c0.To (Y.length : Int)) true), (20, .own (rI .i64) G true), (21, .own rR2 T true), (22, .own rR8 U true), (23, .own (rI .i64) Y true), (26, .box (cC2 c0) 43)], (vV4 0 1 2 3 g_ [(6, .sl rS x2.Roles), (7, .sl rR0 x2.Decls)]), 29⟩ htt 3 (by kernel_rfl) (WPr.bs (cs := [.I c0.To]) (oI .i64) htt ([c0.To] : List Int) rfl rfl rfl rfl rfl rfl (by kernel_rfl) (by exact (an rfl rfl)) rfl (?_))))))
   obtain ⟨B1, C1, h⟩ := ob h
   exact WPr.app htt C1 (by exact (srcO rfl)) rfl rfl rfl rfl rfl rfl rfl rfl rfl rfl (wx [] ⟨[(1, .B 4 0), (2, .B 5 0), (4, .B 10 0), (5, .S 12), (6, .S 30), (8, .I C), (10, .I a0), (11, .B 26 0), (49, .S 20), (50, .I (G.length : Int)), (51, .I Z)], [(4, .box (cC4 0 1 2 3 g_) 27), (5, .box [.s (str []), .nil, .nil, .I 0, .I 0, .I 0, .nil, .nil] 27), (10, .box [.s x2.Name, .sl 6, .sl 7, .I q, .I x2.Start, .I x2.End, .sl 21, .sl 22] 27), (12, .own (rI .i64) (setL' X c0.To (Y.length : Int)) true), (20, .own (rI .i64) G true), (21, .own rR2 T true), (22, .own rR8 U true), (26, .box (cC2 c0) 43), (30, .own (rI .i64) B1 true)], (vV4 0 1 2 3 g_ [(6, .sl rS x2.Roles), (7, .sl rR0 x2.Decls)]), 31⟩ htt 1 (by kernel_rfl) (wn (wu [(28, .sl 30)] (j127 ((setL' X c0.To (Y.length : Int)), B1) h) rfl rfl rfl rfl)))
  exact wu [(21, .sl 15), (22, .sl 16), (23, .sl 17)] (ih N (u, v, x, y, 0) h) rfl rfl rfl rfl
 exact wu [(15, .sl 8), (16, .sl 9), (17, .sl 14)] (ih N (x2.States, x2.Edges, x2.Timeouts, (setL' x3 g_.Start 0), ([g_.Start] : List Int)) h) rfl rfl rfl rfl
theorem z82_ct (N : Nat) (b_ : (List Int)) (n_ : Int) (r : (List Int)) (h : z82 N b_ n_ = some r) :
 Fn Tryz.prog 82 ⟨1, [.S 0, .I n_], [], [(0, .own (rI .u8) b_ false)], 2, .S 1, [], [(1, .own (rI .u8) r false), (0, .gone)]⟩ := by
 refine Fn.intro _ _ Tryz.func82 rfl (by kernel_rfl) rfl (fun E F w => ?_)
 unfold z82 at h
 refine wq (wg (ws htt 1 rfl (wn (wq (wg (wx (rg 2 6) ⟨[(0, .S 0), (1, .I n_), (4, .c .nil), (7, .c (.i .u64 (wk .u64 (n_))))], [(0, .own (rI .u8) b_ false)], [], 1⟩ htt 2 (by kernel_rfl) (?_)))))))
 obtain ⟨x1, d, h⟩ := ob h
 refine WPr.bin d rfl rfl rfl rfl rfl rfl rfl rfl (ws htt 1 rfl (?_))
 obtain ⟨x2, e, h⟩ := ob h
 refine WPr.bin e rfl rfl rfl rfl rfl rfl rfl rfl (wx [6, 7] ⟨[(0, .S 0), (4, .c .nil), (8, .c (.i .u64 x1)), (11, .c (.i .u64 (wk .u64 (x2))))], [(0, .own (rI .u8) b_ false)], [], 1⟩ htt 1 (by kernel_rfl) (?_))
 obtain ⟨x3, f, h⟩ := ob h
 refine WPr.bin f rfl rfl rfl rfl rfl rfl rfl rfl (ws htt 1 rfl (wn (wq (?_))))
 refine wC (σ := (List Int) × Int) (fun st => ⟨[(0, .S 1), (5, .c (.i .u64 st.2))], [(1, .own (rI .u8) st.1 false)], [], 2⟩) (fun st => z82_k1 st.1 st.2 = some r) ?_ (fun j1 => ?_)
 ·rintro ⟨g, j⟩ h
  replace h : z82_k1 g j = some r := h
  unfold z82_k1 at h
  refine wq (wg (wx [3, 4, 5] ⟨[(23, .S 1), (25, .c (.i .u8 (wk .u8 (j))))], [(1, .own (rI .u8) g false)], [], 2⟩ htt 3 (by kernel_rfl) (WPr.bs (cs := [.i .u8 (wk .u8 (j))]) (oI .u8) htt ([(wk .u8 (j))] : List Int) rfl rfl rfl rfl rfl rfl (by kernel_rfl) (by exact (an rfl rfl)) rfl (?_))))
  obtain ⟨k, l, h⟩ := ob h
  refine WPr.app htt l (by exact (srcO rfl)) rfl rfl rfl rfl rfl rfl rfl rfl rfl rfl (wx [] ⟨[(4, .S 3)], [(3, .own (rI .u8) k false)], [], 4⟩ htt 1 (by kernel_rfl) (wn (?_)))
  cases h
  exact we htt Tryz.func82 [(1, .sl 3)] rfl rfl rfl rfl
 refine wo (?_)
 refine wI (σ := (List Int) × Int) (fun st => ⟨[(0, .S 1), (5, .c (.i .u64 st.2))], [(1, .own (rI .u8) st.1 false)], [], 2⟩) (fun n st => z82_l2 n st.1 st.2) (r := r) (fun _ => rfl) ?_ (fun ih => ?_)
 ·intro n2 ih3
  rintro ⟨m, o⟩ h
  replace h : z82_l2 (n2 + 1) m o = some r := h
  unfold z82_l2 at h
  refine wq (wq (wg (ws htt 2 rfl (wn (?_)))))
  rcases oc' h with ⟨hc, h⟩ | ⟨hc, h⟩
  ·exact wf hc rfl (wz rfl (wu [] (j1 (m, o) h) rfl rfl rfl rfl))
  refine wt hc rfl (wi (wo (wq (wg (wx [3, 4, 5, 6] ⟨[(5, .c (.i .u64 o)), (15, .S 1), (17, .c (.i .u8 (wk .u8 (o))))], [(1, .own (rI .u8) m false)], [], 2⟩ htt 3 (by kernel_rfl) (?_))))))
  obtain ⟨p, q, h⟩ := ob h
  refine WPr.bin q rfl rfl rfl rfl rfl rfl rfl rfl (WPr.bs (cs := [.i .u8 p]) (oI .u8) htt ([p] : List Int) rfl rfl rfl rfl rfl rfl (by kernel_rfl) (by exact (an rfl rfl)) rfl (?_))
  obtain ⟨s, t, h⟩ := ob h
  refine WPr.app htt t (by exact (srcO rfl)) rfl rfl rfl rfl rfl rfl rfl rfl rfl rfl (wx [] ⟨[(0, .S 3), (5, .c (.i .u64 o))], [(3, .own (rI .u8) s false)], [], 4⟩ htt 1 (by kernel_rfl) (wn (wg (ws htt 1 rfl (?_)))))
  obtain ⟨u, v, h⟩ := ob h
  exact WPr.bin v rfl rfl rfl rfl rfl rfl rfl rfl (wx [] ⟨[(0, .S 3), (5, .c (.i .u64 u))], [(3, .own (rI .u8) s false)], [], 4⟩ htt 1 (by kernel_rfl) (wn (wb (wu [(1, .sl 3)] (ih3 (s, u) h) rfl rfl rfl rfl))))
 exact wu [(1, .sl 0)] (ih N (b_, x3) h) rfl rfl rfl rfl
theorem z83_ct (N : Nat) (b_ : (List Int)) (s_ : ByteArray) (r : (List Int)) (h : z83 N b_ s_ = some r) :
 Fn Tryz.prog 83 ⟨1, [.S 0, .c (.s s_)], [], [(0, .own (rI .u8) b_ false)], 2, .S 1, [], [(1, .own (rI .u8) r false), (0, .gone)]⟩ := by
 refine Fn.intro _ _ Tryz.func83 rfl (by kernel_rfl) rfl (fun E F w => ?_)
 unfold z83 at h
 refine wq (wg (ws htt 1 rfl (wn (wq (wg (wx [3, 4, 5, 6] ⟨[(1, .c (.s s_)), (5, .S 0), (7, .I (s_.size : Int))], [(0, .own (rI .u8) b_ false)], [], 1⟩ htt 3 (by kernel_rfl) (?_)))))))
 obtain ⟨x1, d, h⟩ := ob h
 refine wc (z82_ct N b_ (s_.size : Int) _ d) [(0, .sl 0)] [] rfl rfl rfl rfl rfl rfl rfl rfl (.inl rfl) rfl (wx [5, 6] ⟨[(8, .S 1), (9, .c (.s s_))], [(1, .own (rI .u8) x1 false)], [], 2⟩ htt 1 (by kernel_rfl) (?_))
 obtain ⟨x2, e, h⟩ := ob h
 refine WPr.app htt e (by exact srcS) rfl rfl rfl rfl rfl rfl rfl rfl rfl rfl (wx [] ⟨[(4, .S 2)], [(2, .own (rI .u8) x2 false)], [], 3⟩ htt 1 (by kernel_rfl) (wn (?_)))
 cases h
 exact we htt Tryz.func83 [(1, .sl 2)] rfl rfl rfl rfl
theorem z85_ct (N : Nat) (b_ : (List Int)) (l_ : (List Int)) (r : (List Int)) (h : z85 N b_ l_ = some r) :
 Fn Tryz.prog 85 ⟨2, [.S 0, .S 1], [(1, .sl (rI .i64) l_)], [(0, .own (rI .u8) b_ false)], 3, .S 2, [], [(2, .own (rI .u8) r false), (0, .gone)]⟩ := by
 refine Fn.intro _ _ Tryz.func85 rfl (by kernel_rfl) rfl (fun E F w => ?_)
 unfold z85 at h
 refine wq (wg (ws htt 1 rfl (wn (wq (wq (wg (wx [] ⟨[(0, .S 0), (4, .c .nil), (7, .S 1), (8, .I (l_.length : Int)), (9, .I 0)], [(0, .own (rI .u8) b_ false)], [(1, .sl (rI .i64) l_)], 2⟩ htt 3 (by kernel_rfl) (wn (?_)))))))))
 refine wC (σ := (List Int)) (fun st => ⟨[(0, .S 2)], [(2, .own (rI .u8) st false)], [(1, .sl (rI .i64) l_)], 3⟩) (fun st => z85_k1 st = some r) ?_ (fun j1 => ?_)
 ·intro d h
  replace h : z85_k1 d = some r := h
  unfold z85_k1 at h
  refine wq (wg (ws htt 2 rfl (wn (?_))))
  cases h
  exact we htt Tryz.func85 [(2, .sl 2)] rfl rfl rfl rfl
 refine wo (?_)
 refine wI (σ := (List Int) × Int) (fun st => ⟨[(0, .S 2), (7, .S 1), (8, .I (l_.length : Int)), (9, .I st.2)], [(2, .own (rI .u8) st.1 false)], [(1, .sl (rI .i64) l_)], 3⟩) (fun n st => z85_l2 N l_ n st.1 st.2) (r := r) (fun _ => rfl) ?_ (fun ih => ?_)
 ·intro n2 ih3
  rintro ⟨e, f⟩ h
  replace h : z85_l2 N l_ (n2 + 1) e f = some r := h
  unfold z85_l2 at h
  refine wq (wg (ws htt 1 rfl (wn (wq (?_)))))
  rcases oc' h with ⟨hc, h⟩ | ⟨hc, h⟩
  ·exact wf hc rfl (wz rfl (wu [] (j1 e h) rfl rfl rfl rfl))
  refine wt hc rfl (wi (wq (wo (wq (wg (?_))))))
  obtain ⟨g, i, h⟩ := ob h
  refine wj (oI .i64) htt i rfl rfl rfl rfl rfl rfl rfl rfl rfl (wx [] ⟨[(0, .S 2), (6, .I g), (7, .S 1), (8, .I (l_.length : Int)), (9, .I f)], [(2, .own (rI .u8) e false)], [(1, .sl (rI .i64) l_)], 4⟩ htt 2 (by kernel_rfl) (wn (wg (ws htt 2 rfl (?_)))))
  obtain ⟨j, k, h⟩ := ob h
  exact wc (z82_ct N e g _ k) [(0, .sl 2)] [] rfl rfl rfl rfl rfl rfl rfl rfl (.inl rfl) rfl (wx [] ⟨[(0, .S 4), (7, .S 1), (8, .I (l_.length : Int)), (9, .I f)], [(4, .own (rI .u8) j false)], [(1, .sl (rI .i64) l_)], 5⟩ htt 1 (by kernel_rfl) (wn (wb (wg (ws htt 2 rfl (wn (wu [(2, .sl 4)] (ih3 (j, (w64 (f + 1))) h) rfl rfl rfl rfl)))))))
 exact wu [(2, .sl 0)] (ih N (b_, 0) h) rfl rfl rfl rfl
end Gx
end
