/- Each function of the statement computes what its plain definition says, part 3. -/
import Derived.Test.YtenajajnbmfijaaGreatDoorGlobalSameWalk2
set_option linter.all false
section
set_option maxRecDepth 10000
set_option maxHeartbeats 4000000
open Go Go.Kx Go.Proofs
namespace Gx
theorem z37_ct (N : Nat) (g_ : T4) (r : (List Int)) (h : z37 N g_ = some r) :
 Fn Tryz.prog 37 ⟨4, [.a (cC4 0 1 2 3 g_)], (vV4 0 1 2 3 g_ []), [], 5, .S 4, [], [(4, .own (rI .u8) r true)]⟩ := by
 refine Fn.intro _ _ Tryz.func37 rfl (by kernel_rfl) rfl (fun E F w => ?_)
 unfold z37 at h
 refine wq (wg (ws J 2 Q (wn (wq (wq (wg (xw [1, 2] ⟨[(1, .B 4 0), (2, .c .nil), (12, .a (cC4 0 1 2 3 g_))], [(4, .box (cC4 0 1 2 3 g_) 27)], (vV4 0 1 2 3 g_ []), 5⟩ J 1 ?_)))))))
 obtain ⟨x1, d, h⟩ := ob h
 refine wc (z22_ct N g_ _ d) [(0, .sl 0), (1, .sl 1), (2, .sl 2), (3, .sl 3)] [] Q Q Q Q Q Q Q Q (.inl rfl) rfl (wx ⟨[(1, .B 4 0), (2, .c .nil), (14, .O (!x1))], [(4, .box (cC4 0 1 2 3 g_) 27)], (vV4 0 1 2 3 g_ []), 5⟩ J 1 (wn ?_))
 rcases oc h with ⟨hc, h⟩ | ⟨hc, h⟩
 ·refine wt hc Q (wq (wg (ws J 1 Q (wn ?_))))
  cases h
  exact we J Tryz.func37 [(4, .nil)] Q Q Q Q
 refine wf hc Q (wi (wq (wN (fun A1 e f => ?_))))
 have g : A1 0 ⟨[(1, .B 4 0)], [], [], [], 5, [(15, .B 4 0)], [], [], 5⟩ := e _ _ (wl J Q Q Q Q Q Q)
 have i : A1 1 ⟨[(15, .B 4 0)], (vV4 0 1 2 3 g_ []), [], [(4, .box (cC4 0 1 2 3 g_) 27)], 5, [(16, .c (.s g_.Name))], [], [], 5⟩ := e _ _ (wl J Q Q Q Q Q Q)
 obtain ⟨x4, j, h⟩ := ob h
 have l : A1 2 ⟨[(16, .c (.s g_.Name))], [], [], [], 5, [(17, .S 5)], [], [(5, .own (rI .u8) x4 true)], 6⟩ := e _ _ (wO Q Q Q (fun _ _ _ _ _ _ _ k => wc (z83_ct N ([] : List Int) g_.Name _ j) [(0, .nil)] [] Q Q Q Q Q Q Q Q (.inl rfl) rfl (k)) rfl)
 have m : A1 3 ⟨[(1, .B 4 0)], [], [], [], 6, [(18, .B 4 1)], [], [], 6⟩ := e _ _ (wl J Q Q Q Q Q Q)
 have o : A1 4 ⟨[(18, .B 4 1)], (vV4 0 1 2 3 g_ []), [], [(4, .box (cC4 0 1 2 3 g_) 27)], 6, [(19, .S 0)], [], [], 6⟩ := e _ _ (wl J Q Q Q Q Q Q)
 have p : A1 5 ⟨[(19, .S 0)], [(0, .sl rS g_.Roles)], [], [], 6, [(20, .I (g_.Roles.length : Int))], [], [], 6⟩ := e _ _ (wl J Q Q Q Q Q Q)
 obtain ⟨x9, q, h⟩ := ob h
 have u : A1 6 ⟨[(17, .S 5), (20, .I (g_.Roles.length : Int))], [], [(5, .own (rI .u8) x4 true)], [], 6, [(21, .S 6)], [], [(5, .gone), (6, .own (rI .u8) x9 true)], 7⟩ := e _ _ (wO Q Q Q (fun _ _ _ _ _ _ _ k => wc (z82_ct N x4 (g_.Roles.length : Int) _ q) [(0, .sl 5)] [] Q Q Q Q Q Q Q Q (.inl rfl) rfl (k)) rfl)
 have v : A1 7 ⟨[(21, .S 6)], [], [], [], 7, [(3, .S 6)], [], [], 7⟩ := e _ _ (wl J Q Q Q Q Q Q)
 refine wD (t := ⟨[(1, .B 4 0), (2, .c .nil), (3, .S 6)], [(4, .box (cC4 0 1 2 3 g_) 27), (6, .own (rI .u8) x9 true)], (vV4 0 1 2 3 g_ []), 7⟩) [0, 1, 3, 0, 8, 24, 63, 127] (.cons (f _ _ g) (.cons (f _ _ i) (.cons (f _ _ l) (.cons (f _ _ m) (.cons (f _ _ o) (.cons (f _ _ p) (.cons (f _ _ u) (.cons (f _ _ v) .nil)))))))) (by kernel_rfl) (by kernel_rfl) (by kernel_rfl) (by kernel_rfl) (wq (wq (wg (wx ⟨[(1, .B 4 0), (2, .c .nil), (3, .S 6), (23, .S 0), (24, .I (g_.Roles.length : Int)), (25, .I 0)], [(4, .box (cC4 0 1 2 3 g_) 27), (6, .own (rI .u8) x9 true)], (vV4 0 1 2 3 g_ []), 7⟩ J 4 (wn ?_)))))
 refine wC (σ := (List Int)) (fun st => ⟨[(1, .B 4 0), (3, .S 7)], [(4, .box (cC4 0 1 2 3 g_) 27), (7, .own (rI .u8) st true)], (vV4 0 1 2 3 g_ []), 8⟩) (fun st => z37_k7 N g_ st = some r) ?_ (fun j1 => ?_)
 ·intro x h
  replace h : z37_k7 N g_ x = some r := h
  unfold z37_k7 at h
  refine wq (wg (xw [4, 5] ⟨[(1, .B 4 0), (33, .S 7), (36, .I (g_.Decls.length : Int))], [(4, .box (cC4 0 1 2 3 g_) 27), (7, .own (rI .u8) x true)], (vV4 0 1 2 3 g_ []), 8⟩ J 4 ?_))
  obtain ⟨y, z, h⟩ := ob h
  refine wc (z82_ct N x (g_.Decls.length : Int) _ z) [(0, .sl 7)] [] Q Q Q Q Q Q Q Q (.inl rfl) rfl (wx ⟨[(1, .B 4 0), (3, .S 8)], [(4, .box (cC4 0 1 2 3 g_) 27), (8, .own (rI .u8) y true)], (vV4 0 1 2 3 g_ []), 9⟩ J 1 (wn (wq (wq (wg (wx ⟨[(1, .B 4 0), (3, .S 8), (39, .S 1), (40, .I (g_.Decls.length : Int)), (41, .I 0)], [(4, .box (cC4 0 1 2 3 g_) 27), (8, .own (rI .u8) y true)], (vV4 0 1 2 3 g_ []), 9⟩ J 4 (wn ?_)))))))
  refine wC (σ := (List Int)) (fun st => ⟨[(1, .B 4 0), (3, .S 9)], [(4, .box (cC4 0 1 2 3 g_) 27), (9, .own (rI .u8) st true)], (vV4 0 1 2 3 g_ []), 10⟩) (fun st => z37_k5 N g_ st = some r) ?_ (fun j3 => ?_)
  ·intro A h
   replace h : z37_k5 N g_ A = some r := h
   unfold z37_k5 at h
   refine wq (wg (xw [10, 11, 12] ⟨[(1, .B 4 0), (49, .S 9), (51, .I g_.States), (53, .I g_.Start), (55, .I g_.End), (58, .I (g_.Edges.length : Int))], [(4, .box (cC4 0 1 2 3 g_) 27), (9, .own (rI .u8) A true)], (vV4 0 1 2 3 g_ []), 10⟩ J 10 (WPr.bs (cs := [.I g_.States, .I g_.Start, .I g_.End, .I (g_.Edges.length : Int)]) (oI .i64) J ([g_.States, g_.Start, g_.End, (g_.Edges.length : Int)] : List Int) Q Q Q Q Q Q (by kernel_rfl) (by exact (an rfl (an rfl (an rfl (an Q Q))))) rfl ?_)))
   obtain ⟨C, D, h⟩ := ob h
   refine wc (z85_ct N A ([g_.States, g_.Start, g_.End, (g_.Edges.length : Int)] : List Int) _ D) [(0, .sl 9), (1, .sl 10)] [10] Q Q Q Q Q Q Q Q (.inr ⟨rfl, ⟨(rI_flat _), trivial⟩⟩) rfl (wx ⟨[(1, .B 4 0), (3, .S 11)], [(4, .box (cC4 0 1 2 3 g_) 27), (11, .own (rI .u8) C true)], (vV4 0 1 2 3 g_ []), 12⟩ J 1 (wn (wq (wq (wg (wx ⟨[(1, .B 4 0), (3, .S 11), (62, .S 2), (63, .I (g_.Edges.length : Int)), (64, .I 0)], [(4, .box (cC4 0 1 2 3 g_) 27), (11, .own (rI .u8) C true)], (vV4 0 1 2 3 g_ []), 12⟩ J 4 (wn ?_)))))))
   refine wC (σ := (List Int)) (fun st => ⟨[(1, .B 4 0), (3, .S 12)], [(4, .box (cC4 0 1 2 3 g_) 27), (12, .own (rI .u8) st true)], (vV4 0 1 2 3 g_ []), 13⟩) (fun st => z37_k3 N g_ st = some r) ?_ (fun j5 => ?_)
   ·intro G h
    replace h : z37_k3 N g_ G = some r := h
    unfold z37_k3 at h
    refine wq (wg (xw [4, 5] ⟨[(1, .B 4 0), (88, .S 12), (91, .I (g_.Timeouts.length : Int))], [(4, .box (cC4 0 1 2 3 g_) 27), (12, .own (rI .u8) G true)], (vV4 0 1 2 3 g_ []), 13⟩ J 4 ?_))
    obtain ⟨H, K, h⟩ := ob h
    refine wc (z82_ct N G (g_.Timeouts.length : Int) _ K) [(0, .sl 12)] [] Q Q Q Q Q Q Q Q (.inl rfl) rfl (wx ⟨[(1, .B 4 0), (3, .S 13)], [(4, .box (cC4 0 1 2 3 g_) 27), (13, .own (rI .u8) H true)], (vV4 0 1 2 3 g_ []), 14⟩ J 1 (wn (wq (wq (wg (wx ⟨[(3, .S 13), (94, .S 3), (95, .I (g_.Timeouts.length : Int)), (96, .I 0)], [(13, .own (rI .u8) H true)], (vV4 0 1 2 3 g_ []), 14⟩ J 4 (wn ?_)))))))
    refine wC (σ := (List Int)) (fun st => ⟨[(3, .S 14)], [(14, .own (rI .u8) st true)], (vV4 0 1 2 3 g_ []), 15⟩) (fun st => z37_k1 st = some r) ?_ (fun j7 => ?_)
    ·intro R h
     replace h : z37_k1 R = some r := h
     unfold z37_k1 at h
     refine wq (wg (ws J 2 Q (wn ?_)))
     cases h
     exact we J Tryz.func37 [(4, .sl 14)] Q Q Q Q
    refine wo ?_
    refine wI (σ := (List Int) × Int) (fun st => ⟨[(3, .S 14), (94, .S 3), (95, .I (g_.Timeouts.length : Int)), (96, .I st.2)], [(14, .own (rI .u8) st.1 true)], (vV4 0 1 2 3 g_ []), 15⟩) (fun n st => z37_l2 N g_ n st.1 st.2) (r := r) (fun _ => rfl) ?_ (fun ih => ?_)
    ·intro n5 ih9
     rintro ⟨T, U⟩ h
     replace h : z37_l2 N g_ (n5 + 1) T U = some r := h
     unfold z37_l2 at h
     refine wq (wg (ws J 1 Q (wn (wq ?_))))
     rcases oc' h with ⟨hc, h⟩ | ⟨hc, h⟩
     ·exact wf hc Q (wz rfl (wu [] (j7 T h) Q Q Q Q))
     refine wt hc Q (wi (wq (wo (wq (wg ?_)))))
     obtain ⟨X, Y, h⟩ := ob h
     refine wj oO8 J Y Q Q Q Q Q Q Q Q Q (wx ⟨[(3, .S 14), (11, .B 16 0), (94, .S 3), (95, .I (g_.Timeouts.length : Int)), (96, .I U)], [(14, .own (rI .u8) T true), (16, .box (cC8 X) 79)], (vV4 0 1 2 3 g_ []), 17⟩ J 3 (wn (wg (xw [7, 8, 9] ⟨[(94, .S 3), (95, .I (g_.Timeouts.length : Int)), (96, .I U), (100, .S 14), (102, .I X.State), (104, .I X.Ticks), (106, .I X.Else)], [(14, .own (rI .u8) T true)], (vV4 0 1 2 3 g_ []), 17⟩ J 7 (WPr.bs (cs := (cC8 X)) (oI .i64) J ([X.State, X.Ticks, X.Else] : List Int) Q Q Q Q Q Q (by kernel_rfl) (by exact (an rfl (an rfl (an Q Q)))) rfl ?_)))))
     obtain ⟨Z, a0, h⟩ := ob h
     exact wc (z85_ct N T ([X.State, X.Ticks, X.Else] : List Int) _ a0) [(0, .sl 14), (1, .sl 17)] [17] Q Q Q Q Q Q Q Q (.inr ⟨rfl, ⟨(rI_flat _), trivial⟩⟩) rfl (wx ⟨[(3, .S 18), (94, .S 3), (95, .I (g_.Timeouts.length : Int)), (96, .I U)], [(18, .own (rI .u8) Z true)], (vV4 0 1 2 3 g_ []), 19⟩ J 1 (wn (wb (wg (ws J 2 Q (wn (wu [(14, .sl 18)] (ih9 (Z, (w64 (U + 1))) h) Q Q Q Q)))))))
    exact wu [(14, .sl 13)] (ih N (H, 0) h) Q Q Q Q
   refine wo ?_
   refine wI (σ := (List Int) × Int) (fun st => ⟨[(1, .B 4 0), (3, .S 12), (62, .S 2), (63, .I (g_.Edges.length : Int)), (64, .I st.2)], [(4, .box (cC4 0 1 2 3 g_) 27), (12, .own (rI .u8) st.1 true)], (vV4 0 1 2 3 g_ []), 13⟩) (fun n st => z37_l4 N g_ n st.1 st.2) (r := r) (fun _ => rfl) ?_ (fun ih => ?_)
   ·intro n6 ih10
    rintro ⟨b0, c0⟩ h
    replace h : z37_l4 N g_ (n6 + 1) b0 c0 = some r := h
    unfold z37_l4 at h
    refine wq (wg (ws J 1 Q (wn (wq ?_))))
    rcases oc' h with ⟨hc, h⟩ | ⟨hc, h⟩
    ·exact wf hc Q (wz rfl (wu [] (j5 b0 h) Q Q Q Q))
    refine wt hc Q (wi (wq (wo (wq (wg ?_)))))
    obtain ⟨d0, e0, h⟩ := ob h
    refine wj oO2 J e0 Q Q Q Q Q Q Q Q Q (wx ⟨[(1, .B 4 0), (3, .S 12), (9, .B 14 0), (62, .S 2), (63, .I (g_.Edges.length : Int)), (64, .I c0)], [(4, .box (cC4 0 1 2 3 g_) 27), (12, .own (rI .u8) b0 true), (14, .box (cC2 d0) 43)], (vV4 0 1 2 3 g_ []), 15⟩ J 3 (wn (wN (fun f0 g0 i0 => ?_))))
    have j0 : f0 0 ⟨[(3, .S 12)], [], [], [], 15, [(68, .S 12)], [], [], 15⟩ := g0 _ _ (wl J Q Q Q Q Q Q)
    have k0 : f0 1 ⟨[(9, .B 14 0)], [], [], [], 15, [(69, .B 14 0)], [], [], 15⟩ := g0 _ _ (wl J Q Q Q Q Q Q)
    have l0 : f0 2 ⟨[(69, .B 14 0)], [], [], [(14, .box (cC2 d0) 43)], 15, [(70, .I d0.From)], [], [], 15⟩ := g0 _ _ (wl J Q Q Q Q Q Q)
    have m0 : f0 3 ⟨[(9, .B 14 0)], [], [], [], 15, [(71, .B 14 1)], [], [], 15⟩ := g0 _ _ (wl J Q Q Q Q Q Q)
    have o0 : f0 4 ⟨[(71, .B 14 1)], [], [], [], 15, [(72, .B 14 1)], [], [], 15⟩ := g0 _ _ (wl J Q Q Q Q Q Q)
    have p0 : f0 5 ⟨[(72, .B 14 1)], [], [], [(14, .box (cC2 d0) 43)], 15, [(73, .I d0.Act.From)], [], [], 15⟩ := g0 _ _ (wl J Q Q Q Q Q Q)
    have q0 : f0 6 ⟨[(9, .B 14 0)], [], [], [], 15, [(74, .B 14 1)], [], [], 15⟩ := g0 _ _ (wl J Q Q Q Q Q Q)
    have s0 : f0 7 ⟨[(74, .B 14 1)], [], [], [], 15, [(75, .B 14 2)], [], [], 15⟩ := g0 _ _ (wl J Q Q Q Q Q Q)
    have t0 : f0 8 ⟨[(75, .B 14 2)], [], [], [(14, .box (cC2 d0) 43)], 15, [(76, .I d0.Act.To)], [], [], 15⟩ := g0 _ _ (wl J Q Q Q Q Q Q)
    have u0 : f0 9 ⟨[(9, .B 14 0)], [], [], [], 15, [(77, .B 14 1)], [], [], 15⟩ := g0 _ _ (wl J Q Q Q Q Q Q)
    have v0 : f0 10 ⟨[(77, .B 14 1)], [], [], [], 15, [(78, .B 14 3)], [], [], 15⟩ := g0 _ _ (wl J Q Q Q Q Q Q)
    have x0 : f0 11 ⟨[(78, .B 14 3)], [], [], [(14, .box (cC2 d0) 43)], 15, [(79, .I d0.Act.Label)], [], [], 15⟩ := g0 _ _ (wl J Q Q Q Q Q Q)
    have y0 : f0 12 ⟨[(9, .B 14 0)], [], [], [], 15, [(80, .B 14 4)], [], [], 15⟩ := g0 _ _ (wl J Q Q Q Q Q Q)
    have z0 : f0 13 ⟨[(80, .B 14 4)], [], [], [(14, .box (cC2 d0) 43)], 15, [(81, .I d0.To)], [], [], 15⟩ := g0 _ _ (wl J Q Q Q Q Q Q)
    have A0 : f0 14 ⟨[(70, .I d0.From), (73, .I d0.Act.From), (76, .I d0.Act.To), (79, .I d0.Act.Label), (81, .I d0.To)], [], [], [], 15, [(82, .S 15)], [], [(15, .own (rI .i64) ([d0.From, d0.Act.From, d0.Act.To, d0.Act.Label, d0.To] : List Int) true)], 16⟩ := g0 _ _ (wO Q Q Q (fun _ _ _ _ _ _ _ k => WPr.bs (cs := [.I d0.From, .I d0.Act.From, .I d0.Act.To, .I d0.Act.Label, .I d0.To]) (oI .i64) J ([d0.From, d0.Act.From, d0.Act.To, d0.Act.Label, d0.To] : List Int) Q Q Q Q Q Q (by kernel_rfl) (by exact (an rfl (an rfl (an rfl (an rfl (an Q Q)))))) rfl (k)) rfl)
    obtain ⟨B0, C0, h⟩ := ob h
    have D0 : f0 15 ⟨[(68, .S 12), (82, .S 15)], [], [(12, .own (rI .u8) b0 true)], [(15, .own (rI .i64) ([d0.From, d0.Act.From, d0.Act.To, d0.Act.Label, d0.To] : List Int) true)], 16, [(83, .S 16)], [], [(12, .gone), (16, .own (rI .u8) B0 true)], 17⟩ := g0 _ _ (wO Q Q Q (fun _ _ _ _ _ _ _ k => wc (z85_ct N b0 ([d0.From, d0.Act.From, d0.Act.To, d0.Act.Label, d0.To] : List Int) _ C0) [(0, .sl 12), (1, .sl 15)] [15] Q Q Q Q Q Q Q Q (.inr ⟨rfl, ⟨(rI_flat _), trivial⟩⟩) rfl (k)) rfl)
    have G0 : f0 16 ⟨[(9, .B 14 0)], [], [], [], 17, [(84, .B 14 5)], [], [], 17⟩ := g0 _ _ (wl J Q Q Q Q Q Q)
    have H0 : f0 17 ⟨[(84, .B 14 5)], [], [], [(14, .box (cC2 d0) 43)], 17, [(85, .O d0.Again)], [], [], 17⟩ := g0 _ _ (wl J Q Q Q Q Q Q)
    obtain ⟨I0, K0, h⟩ := ob h
    have L0 : f0 18 ⟨[(83, .S 16), (85, .O d0.Again)], [], [(16, .own (rI .u8) B0 true)], [], 17, [(86, .S 17)], [], [(16, .gone), (17, .own (rI .u8) I0 true)], 18⟩ := g0 _ _ (wO Q Q Q (fun _ _ _ _ _ _ _ k => wc (z86_ct N B0 d0.Again _ K0) [(0, .sl 16)] [] Q Q Q Q Q Q Q Q (.inl rfl) rfl (k)) rfl)
    have M0 : f0 19 ⟨[(86, .S 17)], [], [], [], 18, [(3, .S 17)], [], [], 18⟩ := g0 _ _ (wl J Q Q Q Q Q Q)
    exact wD (t := ⟨[(1, .B 4 0), (3, .S 17), (62, .S 2), (63, .I (g_.Edges.length : Int)), (64, .I c0)], [(4, .box (cC4 0 1 2 3 g_) 27), (17, .own (rI .u8) I0 true)], (vV4 0 1 2 3 g_ []), 18⟩) [0, 0, 2, 0, 8, 24, 0, 64, 192, 0, 512, 1536, 0, 4096, 16382, 32767, 0, 65536, 262143, 524287] (.cons (i0 _ _ j0) (.cons (i0 _ _ k0) (.cons (i0 _ _ l0) (.cons (i0 _ _ m0) (.cons (i0 _ _ o0) (.cons (i0 _ _ p0) (.cons (i0 _ _ q0) (.cons (i0 _ _ s0) (.cons (i0 _ _ t0) (.cons (i0 _ _ u0) (.cons (i0 _ _ v0) (.cons (i0 _ _ x0) (.cons (i0 _ _ y0) (.cons (i0 _ _ z0) (.cons (i0 _ _ A0) (.cons (i0 _ _ D0) (.cons (i0 _ _ G0) (.cons (i0 _ _ H0) (.cons (i0 _ _ L0) (.cons (i0 _ _ M0) .nil)))))))))))))))))))) (by kernel_rfl) (by kernel_rfl) (by kernel_rfl) (by kernel_rfl) (wb (wg (ws J 2 Q (wn (wu [(12, .sl 17)] (ih10 (I0, (w64 (c0 + 1))) h) Q Q Q Q)))))
   exact wu [(12, .sl 11)] (ih N (C, 0) h) Q Q Q Q
  refine wo ?_
  refine wI (σ := (List Int) × Int) (fun st => ⟨[(1, .B 4 0), (3, .S 9), (39, .S 1), (40, .I (g_.Decls.length : Int)), (41, .I st.2)], [(4, .box (cC4 0 1 2 3 g_) 27), (9, .own (rI .u8) st.1 true)], (vV4 0 1 2 3 g_ []), 10⟩) (fun n st => z37_l6 N g_ n st.1 st.2) (r := r) (fun _ => rfl) ?_ (fun ih => ?_)
  ·intro n7 ih11
   rintro ⟨O0, R0⟩ h
   replace h : z37_l6 N g_ (n7 + 1) O0 R0 = some r := h
   unfold z37_l6 at h
   refine wq (wg (ws J 1 Q (wn (wq ?_))))
   rcases oc' h with ⟨hc, h⟩ | ⟨hc, h⟩
   ·exact wf hc Q (wz rfl (wu [] (j3 O0 h) Q Q Q Q))
   refine wt hc Q (wi (wq (wo (wq (wg ?_)))))
   obtain ⟨S0, T0, h⟩ := ob h
   refine wj oO0 J T0 Q Q Q Q Q Q Q Q Q (wx ⟨[(1, .B 4 0), (3, .S 9), (7, .B 14 0), (39, .S 1), (40, .I (g_.Decls.length : Int)), (41, .I R0)], [(4, .box (cC4 0 1 2 3 g_) 27), (9, .own (rI .u8) O0 true), (14, .box (cC0 11 12 13 S0) 94)], (vV4 0 1 2 3 g_ (vV0 11 12 13 S0 [])), 15⟩ J 3 (wn (wg (ws J 2 Q ?_))))
   obtain ⟨U0, V0, h⟩ := ob h
   exact wc (z84_ct N O0 S0 _ V0) [(0, .sl 9), (1, .sl 11), (2, .sl 12), (3, .sl 13)] [] Q Q Q Q Q Q Q Q (.inl rfl) rfl (wx ⟨[(1, .B 4 0), (3, .S 15), (39, .S 1), (40, .I (g_.Decls.length : Int)), (41, .I R0)], [(4, .box (cC4 0 1 2 3 g_) 27), (15, .own (rI .u8) U0 true)], (vV4 0 1 2 3 g_ []), 16⟩ J 1 (wn (wb (wg (ws J 2 Q (wn (wu [(9, .sl 15)] (ih11 (U0, (w64 (R0 + 1))) h) Q Q Q Q)))))))
  exact wu [(9, .sl 8)] (ih N (y, 0) h) Q Q Q Q
 refine wo ?_
 refine wI (σ := (List Int) × Int) (fun st => ⟨[(1, .B 4 0), (3, .S 7), (23, .S 0), (24, .I (g_.Roles.length : Int)), (25, .I st.2)], [(4, .box (cC4 0 1 2 3 g_) 27), (7, .own (rI .u8) st.1 true)], (vV4 0 1 2 3 g_ []), 8⟩) (fun n st => z37_l8 N g_ n st.1 st.2) (r := r) (fun _ => rfl) ?_ (fun ih => ?_)
 ·intro n8 ih12
  rintro ⟨X0, Y0⟩ h
  replace h : z37_l8 N g_ (n8 + 1) X0 Y0 = some r := h
  unfold z37_l8 at h
  refine wq (wg (ws J 1 Q (wn (wq ?_))))
  rcases oc' h with ⟨hc, h⟩ | ⟨hc, h⟩
  ·exact wf hc Q (wz rfl (wu [] (j1 X0 h) Q Q Q Q))
  refine wt hc Q (wi (wq (wo (wq (wg ?_)))))
  obtain ⟨Z0, a1, h⟩ := ob h
  refine wj oS J a1 Q Q Q Q Q Q Q Q Q (wx ⟨[(1, .B 4 0), (3, .S 7), (5, .c (.s Z0)), (23, .S 0), (24, .I (g_.Roles.length : Int)), (25, .I Y0)], [(4, .box (cC4 0 1 2 3 g_) 27), (7, .own (rI .u8) X0 true)], (vV4 0 1 2 3 g_ []), 9⟩ J 2 (wn (wg (ws J 2 Q ?_))))
  obtain ⟨b1, c1, h⟩ := ob h
  exact wc (z83_ct N X0 Z0 _ c1) [(0, .sl 7)] [] Q Q Q Q Q Q Q Q (.inl rfl) rfl (wx ⟨[(1, .B 4 0), (3, .S 9), (23, .S 0), (24, .I (g_.Roles.length : Int)), (25, .I Y0)], [(4, .box (cC4 0 1 2 3 g_) 27), (9, .own (rI .u8) b1 true)], (vV4 0 1 2 3 g_ []), 10⟩ J 1 (wn (wb (wg (ws J 2 Q (wn (wu [(7, .sl 9)] (ih12 (b1, (w64 (Y0 + 1))) h) Q Q Q Q)))))))
 exact wu [(7, .sl 6)] (ih N (x9, 0) h) Q Q Q Q
theorem z127_ct (N : Nat) (seed_ : Int) (b_ : (List Int)) (r : Int) (h : z127 N seed_ b_ = some r) :
 Fn Tryz.prog 127 ⟨1, [.c (.i .u64 seed_), .S 0], [(0, .sl (rI .u8) b_)], [], 1, .c (.i .u64 r), [], []⟩ := by
 refine Fn.intro _ _ Tryz.func127 rfl (by kernel_rfl) rfl (fun E F w => ?_)
 unfold z127 at h
 refine wq (wg (ws J 1 Q (wn (wq (wq (wg (wx ⟨[(0, .c (.i .u64 seed_)), (4, .c (.i .u64 0)), (7, .S 0), (8, .I (b_.length : Int)), (9, .I 0)], [], [(0, .sl (rI .u8) b_)], 1⟩ J 3 (wn ?_))))))))
 refine wC (σ := Int) (fun st => ⟨[(0, .c (.i .u64 st))], [], [(0, .sl (rI .u8) b_)], 1⟩) (fun st => z127_k1 st = some r) ?_ (fun j1 => ?_)
 ·intro d h
  replace h : z127_k1 d = some r := h
  unfold z127_k1 at h
  refine wq (wg (ws J 2 Q (wn ?_)))
  cases h
  exact we J Tryz.func127 [] Q Q Q Q
 refine wo ?_
 refine wI (σ := Int × Int) (fun st => ⟨[(0, .c (.i .u64 st.1)), (7, .S 0), (8, .I (b_.length : Int)), (9, .I st.2)], [], [(0, .sl (rI .u8) b_)], 1⟩) (fun n st => z127_l2 b_ n st.1 st.2) (r := r) (fun _ => rfl) ?_ (fun ih => ?_)
 ·intro n2 ih3
  rintro ⟨e, f⟩ h
  replace h : z127_l2 b_ (n2 + 1) e f = some r := h
  unfold z127_l2 at h
  refine wq (wg (ws J 1 Q (wn (wq ?_))))
  rcases oc' h with ⟨hc, h⟩ | ⟨hc, h⟩
  ·exact wf hc Q (wz rfl (wu [] (j1 e h) Q Q Q Q))
  refine wt hc Q (wi (wq (wo (wq (wg ?_)))))
  obtain ⟨g, j, h⟩ := ob h
  refine wj (oI .u8) J j Q Q Q Q Q Q Q Q Q (wx ⟨[(0, .c (.i .u64 e)), (6, .c (.i .u8 g)), (7, .S 0), (8, .I (b_.length : Int)), (9, .I f)], [], [(0, .sl (rI .u8) b_)], 2⟩ J 2 (wn (wg (xw [3, 4, 5] ⟨[(7, .S 0), (8, .I (b_.length : Int)), (9, .I f), (13, .c (.i .u64 e)), (15, .c (.i .u64 (wk .u64 (g))))], [], [(0, .sl (rI .u8) b_)], 2⟩ J 3 ?_))))
  obtain ⟨k, l, h⟩ := ob h
  exact WPr.bin l Q Q Q Q Q Q Q Q (wx ⟨[(0, .c (.i .u64 (wk .u64 (k * 1099511628211)))), (7, .S 0), (8, .I (b_.length : Int)), (9, .I f)], [], [(0, .sl (rI .u8) b_)], 2⟩ J 2 (wn (wb (wg (ws J 2 Q (wn (wu [] (ih3 ((wk .u64 (k * 1099511628211)), (w64 (f + 1))) h) Q Q Q Q)))))))
 exact wu [] (ih N (seed_, 0) h) Q Q Q Q
theorem z73_ct (N : Nat) (b_ : (List Int)) (r : Int) (h : z73 N b_ = some r) :
 Fn Tryz.prog 73 ⟨1, [.S 0], [(0, .sl (rI .u8) b_)], [], 1, .c (.i .u64 r), [], []⟩ := by
 refine Fn.intro _ _ Tryz.func73 rfl (by kernel_rfl) rfl (fun E F w => ?_)
 unfold z73 at h
 refine wq (wg (ws J 1 Q (wn (wq (wg (ws J 1 Q ?_))))))
 obtain ⟨x1, d, h⟩ := ob h
 refine wc (z127_ct N 14695981039346656037 b_ _ d) [(0, .sl 0)] [] Q Q Q Q Q Q Q Q (.inl rfl) rfl (wx ⟨[(2, .c (.i .u64 x1))], [], [(0, .sl (rI .u8) b_)], 1⟩ J 1 (wn ?_))
 cases h
 exact we J Tryz.func73 [] Q Q Q Q
theorem z24_ct (N : Nat) (g_ : T4) (r : Int) (h : z24 N g_ = some r) :
 Fn Tryz.prog 24 ⟨4, [.a (cC4 0 1 2 3 g_)], (vV4 0 1 2 3 g_ []), [], 4, .c (.i .u64 r), [], []⟩ := by
 refine Fn.intro _ _ Tryz.func24 rfl (by kernel_rfl) rfl (fun E F w => ?_)
 unfold z24 at h
 refine wq (wg (ws J 2 Q (wn (wq (wg (xw (rg 1 7) ⟨[(2, .c (.i .u64 0)), (6, .a (cC4 0 1 2 3 g_))], [], (vV4 0 1 2 3 g_ []), 5⟩ J 1 ?_))))))
 obtain ⟨x1, d, h⟩ := ob h
 refine wc (z21_ct N g_ _ d) [(0, .sl 0), (1, .sl 1), (2, .sl 2), (3, .sl 3)] [] Q Q Q Q Q Q Q Q (.inl rfl) rfl (wx ⟨[(2, .c (.i .u64 0)), (3, .B 9 0), (4, .I x1.2)], [(9, .box (cC4 5 6 7 8 x1.1) 27)], (vV4 0 1 2 3 g_ (vV4 5 6 7 8 x1.1 [])), 10⟩ J 6 (wn (wq (wq (wg (ws J 2 Q (wn ?_)))))))
 rcases oc h with ⟨hc, h⟩ | ⟨hc, h⟩
 ·refine wt hc Q (wq (wg (wx ⟨[(2, .c (.i .u64 0))], [], (vV4 0 1 2 3 g_ []), 10⟩ J 1 (wn ?_))))
  cases h
  exact we J Tryz.func24 [] Q Q Q Q
 refine wf hc Q (wi (wq (wg (xw [1, 2, 3] ⟨[(12, .a (cC4 5 6 7 8 x1.1))], [], (vV4 0 1 2 3 g_ (vV4 5 6 7 8 x1.1 [])), 10⟩ J 1 ?_))))
 obtain ⟨x2, e, h⟩ := ob h
 refine wc (z37_ct N x1.1 _ e) [(0, .sl 5), (1, .sl 6), (2, .sl 7), (3, .sl 8)] [] Q Q Q Q Q Q Q Q (.inl rfl) rfl (xw [2, 3] ⟨[(13, .S 10)], [(10, .own (rI .u8) x2 true)], (vV4 0 1 2 3 g_ []), 11⟩ J 0 ?_)
 obtain ⟨x3, f, h⟩ := ob h
 refine wc (z73_ct N x2 _ f) [(0, .sl 10)] [10] Q Q Q Q Q Q Q Q (.inr ⟨rfl, trivial⟩) rfl (wx ⟨[(2, .c (.i .u64 x3))], [], (vV4 0 1 2 3 g_ []), 11⟩ J 1 (wn ?_))
 cases h
 exact we J Tryz.func24 [] Q Q Q Q
theorem z12_ct (N : Nat) (r : Bool) (h : z12 N = some r) :
 Fn Tryz.prog 12 ⟨0, [], [], [], 0, .O r, [], []⟩ := by
 refine Fn.intro _ _ Tryz.func12 rfl (by kernel_rfl) rfl (fun E F w => ?_)
 unfold z12 at h
 refine wq (wg (ws J 1 Q (wn (wq (wg ?_)))))
 obtain ⟨x1, c, h⟩ := ob h
 refine wc (z43_ct N _ c) [] [] Q Q Q Q Q Q Q Q (.inl rfl) rfl (wx ⟨[(0, .O false), (1, .B 4 0)], [(4, .box (cC4 0 1 2 3 x1) 27)], (vV4 0 1 2 3 x1 []), 5⟩ J 2 (wn (wq (wg (ws J 1 Q ?_)))))
 obtain ⟨x2, d, h⟩ := ob h
 refine wc (z14_ct N x1 3 _ d) [(0, .sl 0), (1, .sl 1), (2, .sl 2), (3, .sl 3)] [] Q Q Q Q Q Q Q Q (.inl rfl) rfl (wx ⟨[(0, .O false), (1, .B 4 0), (2, .S 5), (3, .I x2.2)], [(4, .box (cC4 0 1 2 3 x1) 27), (5, .own (rSl rR6) x2.1 true)], (vV4 0 1 2 3 x1 []), 6⟩ J 5 (wn (wq (wg (ws J 2 Q ?_)))))
 obtain ⟨x3, e, h⟩ := ob h
 refine wc (z17_ct N x1 0 (⟨0, 1, 0⟩ : T6) _ e) [(0, .sl 0), (1, .sl 1), (2, .sl 2), (3, .sl 3)] [] Q Q Q Q Q Q Q Q (.inl rfl) rfl (wx ⟨[(0, .O false), (1, .B 4 0), (2, .S 5), (3, .I x2.2), (4, .I x3.1), (5, .O x3.2)], [(4, .box (cC4 0 1 2 3 x1) 27), (5, .own (rSl rR6) x2.1 true)], (vV4 0 1 2 3 x1 []), 6⟩ J 5 (wn (wq (wg (ws J 1 Q ?_)))))
 obtain ⟨x4, f, h⟩ := ob h
 refine wc (z22_ct N x1 _ f) [(0, .sl 0), (1, .sl 1), (2, .sl 2), (3, .sl 3)] [] Q Q Q Q Q Q Q Q (.inl rfl) rfl (xw (rg 3 38) ⟨[(1, .B 4 0), (2, .S 5), (3, .I x2.2), (4, .I x3.1), (5, .O x3.2), (20, .O x4)], [(4, .box (cC4 0 1 2 3 x1) 27), (5, .own (rSl rR6) x2.1 true)], (vV4 0 1 2 3 x1 []), 6⟩ J 1 ?_)
 rcases oc' h with ⟨hc, h⟩ | ⟨hc, h⟩
 ·refine wy 20 hc Q (wx ⟨[(0, .O false)], [], [], 6⟩ J 38 (wn ?_))
  cases h
  exact we J Tryz.func12 [] Q Q Q Q
 refine wy 20 hc Q (xw (rg 7 34) ⟨[(1, .B 4 0), (2, .S 5), (4, .I x3.1), (5, .O x3.2), (24, .O (x2.2 == 0))], [(4, .box (cC4 0 1 2 3 x1) 27), (5, .own (rSl rR6) x2.1 true)], (vV4 0 1 2 3 x1 []), 6⟩ J 4 ?_)
 rcases oc' h with ⟨hc, h⟩ | ⟨hc, h⟩
 ·refine wy 24 hc Q (wx ⟨[(0, .O false)], [], [], 6⟩ J 34 (wn ?_))
  cases h
  exact we J Tryz.func12 [] Q Q Q Q
 refine wy 24 hc Q (xw (rg 12 29) ⟨[(1, .B 4 0), (2, .S 5), (4, .I x3.1), (5, .O x3.2), (29, .O ((x2.1.length : Int) == 2))], [(4, .box (cC4 0 1 2 3 x1) 27), (5, .own (rSl rR6) x2.1 true)], (vV4 0 1 2 3 x1 []), 6⟩ J 5 ?_)
 rcases oc' h with ⟨hc, h⟩ | ⟨hc, h⟩
 ·refine wy 29 hc Q (wx ⟨[(0, .O false)], [], [], 6⟩ J 29 (wn ?_))
  cases h
  exact we J Tryz.func12 [] Q Q Q Q
 refine wy 29 hc Q (ws J 1 Q ?_)
 obtain ⟨x5, g, h⟩ := ob h
 refine wX J g Q Q Q Q Q Q Q Q Q (wL (oSl rR6) J g Q Q Q Q Q Q Q Q Q Q (xw (rg 19 22) ⟨[(1, .B 4 0), (4, .I x3.1), (5, .O x3.2), (36, .O ((x5.length : Int) == 1))], [(4, .box (cC4 0 1 2 3 x1) 27)], (vV4 0 1 2 3 x1 []), 8⟩ J 4 ?_))
 rcases oc' h with ⟨hc, h⟩ | ⟨hc, h⟩
 ·refine wy 36 hc Q (wx ⟨[(0, .O false)], [], [], 8⟩ J 22 (wn ?_))
  cases h
  exact we J Tryz.func12 [] Q Q Q Q
 refine wy 36 hc Q (xw (rg 22 19) ⟨[(1, .B 4 0), (4, .I x3.1), (39, .O x3.2)], [(4, .box (cC4 0 1 2 3 x1) 27)], (vV4 0 1 2 3 x1 []), 8⟩ J 3 ?_)
 rcases oc' h with ⟨hc, h⟩ | ⟨hc, h⟩
 ·refine wy 39 hc Q (wx ⟨[(0, .O false)], [], [], 8⟩ J 19 (wn ?_))
  cases h
  exact we J Tryz.func12 [] Q Q Q Q
 refine wy 39 hc Q (xw (rg 26 15) ⟨[(1, .B 4 0), (43, .O (x3.1 == 1))], [(4, .box (cC4 0 1 2 3 x1) 27)], (vV4 0 1 2 3 x1 []), 8⟩ J 4 ?_)
 rcases oc' h with ⟨hc, h⟩ | ⟨hc, h⟩
 ·refine wy 43 hc Q (wx ⟨[(0, .O false)], [], [], 8⟩ J 15 (wn ?_))
  cases h
  exact we J Tryz.func12 [] Q Q Q Q
 refine wy 43 hc Q (ws J 2 Q ?_)
 obtain ⟨x6, i, h⟩ := ob h
 refine wc (z23_ct N x1 x1 _ i) [(0, .sl 0), (1, .sl 1), (2, .sl 2), (3, .sl 3), (4, .sl 0), (5, .sl 1), (6, .sl 2), (7, .sl 3)] [] Q Q Q Q Q Q Q Q (.inl rfl) rfl (xw (rg 31 10) ⟨[(1, .B 4 0), (48, .O x6)], [(4, .box (cC4 0 1 2 3 x1) 27)], (vV4 0 1 2 3 x1 []), 8⟩ J 2 ?_)
 rcases oc' h with ⟨hc, h⟩ | ⟨hc, h⟩
 ·refine wy 48 hc Q (wx ⟨[(0, .O false)], [], [], 8⟩ J 10 (wn ?_))
  cases h
  exact we J Tryz.func12 [] Q Q Q Q
 refine wy 48 hc Q (ws J 1 Q ?_)
 obtain ⟨x7, j, h⟩ := ob h
 refine wc (z31_ct N x1 (str [120]) _ j) [(0, .sl 0), (1, .sl 1), (2, .sl 2), (3, .sl 3)] [] Q Q Q Q Q Q Q Q (.inl rfl) rfl (xw [36, 37, 38, 39, 40] ⟨[(1, .B 4 0), (53, .O (x7 == 0))], [(4, .box (cC4 0 1 2 3 x1) 27)], (vV4 0 1 2 3 x1 []), 8⟩ J 3 ?_)
 rcases oc' h with ⟨hc, h⟩ | ⟨hc, h⟩
 ·refine wy 53 hc Q (wx ⟨[(0, .O false)], [], [], 8⟩ J 5 (wn ?_))
  cases h
  exact we J Tryz.func12 [] Q Q Q Q
 refine wy 53 hc Q (ws J 1 Q ?_)
 obtain ⟨x8, k, h⟩ := ob h
 refine wc (z24_ct N x1 _ k) [(0, .sl 0), (1, .sl 1), (2, .sl 2), (3, .sl 3)] [] Q Q Q Q Q Q Q Q (.inl rfl) rfl (wx ⟨[(0, .O (x8 != 0))], [], [], 8⟩ J 3 (wn ?_))
 cases h
 exact we J Tryz.func12 [] Q Q Q Q
theorem z44_ct (N : Nat) (l_ : (List T0)) (r : Bool) (h : z44 N l_ = some r) :
 Fn Tryz.prog 44 ⟨1, [.S 0], [(0, .sl rR0 l_)], [], 1, .O r, [], []⟩ := by
 refine Fn.intro _ _ Tryz.func44 rfl (by kernel_rfl) rfl (fun E F w => ?_)
 unfold z44 at h
 refine wq (wg (ws J 1 Q (wn (wq (wg (ws J 1 Q (wn (wq (wq (wg (wx ⟨[(0, .S 0), (2, .O false), (3, .I 0), (4, .I 0)], [], [(0, .sl rR0 l_)], 1⟩ J 1 (wn ?_))))))))))))
 refine wC (σ := Int) (fun st => ⟨[(0, .S 0), (3, .I st)], [], [(0, .sl rR0 l_)], 1⟩) (fun st => z44_k1 l_ st = some r) ?_ (fun j1 => ?_)
 ·intro c h
  replace h : z44_k1 l_ c = some r := h
  unfold z44_k1 at h
  refine wq (wg (xw [4, 5, 6, 7] ⟨[(3, .I c), (38, .O (decide ((l_.length : Int) ≤ 60)))], [], [(0, .sl rR0 l_)], 1⟩ J 4 ?_))
  rcases oc h with ⟨hc, h⟩ | ⟨hc, h⟩
  ·refine wy 38 hc Q (wx ⟨[(2, .O (decide (c ≤ 100)))], [], [(0, .sl rR0 l_)], 1⟩ J 4 (wn ?_))
   cases h
   exact we J Tryz.func44 [] Q Q Q Q
  refine wy 38 hc Q (wx ⟨[(2, .O false)], [], [(0, .sl rR0 l_)], 1⟩ J 4 (wn ?_))
  cases h
  exact we J Tryz.func44 [] Q Q Q Q
 refine wo ?_
 refine wI (σ := Int × Int) (fun st => ⟨[(0, .S 0), (3, .I st.1), (4, .I st.2)], [], [(0, .sl rR0 l_)], 1⟩) (fun n st => z44_l2 l_ n st.1 st.2) (r := r) (fun _ => rfl) ?_ (fun ih => ?_)
 ·intro n2 ih3
  rintro ⟨d, e⟩ h
  replace h : z44_l2 l_ (n2 + 1) d e = some r := h
  unfold z44_l2 at h
  refine wq (wq (wg (wx ⟨[(0, .S 0), (3, .I d), (4, .I e), (8, .O (decide (e < (l_.length : Int))))], [], [(0, .sl rR0 l_)], 1⟩ J 4 (wn ?_))))
  rcases oc' h with ⟨hc, h⟩ | ⟨hc, h⟩
  ·exact wf hc Q (wz rfl (wu [] (j1 d h) Q Q Q Q))
  refine wt hc Q (wi (wq (wo (wQ (by kernel_rfl) (by kernel_rfl) (xq (rg 3 22) ⟨[(0, .S 0), (4, .I e), (11, .I d), (12, .S 0), (13, .I e)], [], [(0, .sl rR0 l_)], 1⟩ J 3 ?_)))))
  obtain ⟨f, g, h⟩ := ob h
  refine WPq.op Q Q (VN.vs (VN.ix oO0 J g Q Q Q Q Q Q Q)) (xq (rg 9 16) ⟨[(0, .S 0), (4, .I e), (11, .I d), (17, .I (f.Fields.length : Int)), (18, .S 0), (19, .I e)], [], [(0, .sl rR0 l_)], 5⟩ J 5 ?_)
  obtain ⟨i, j, h⟩ := ob h
  refine WPq.op Q Q (VN.vs (VN.ix oO0 J j Q Q Q Q Q Q Q)) (xq (rg 17 8) ⟨[(0, .S 0), (4, .I e), (11, .I d), (25, .I (w64 ((f.Fields.length : Int) + (i.Guard.Diffs.length : Int)))), (26, .S 0), (27, .I e)], [], [(0, .sl rR0 l_)], 9⟩ J 7 ?_)
  obtain ⟨k, l, h⟩ := ob h
  exact WPq.op Q Q (VN.vs (VN.ix oO0 J l Q Q Q Q Q Q Q)) (qx ⟨[(0, .S 0), (3, .I (w64 (d + (w64 ((w64 ((f.Fields.length : Int) + (i.Guard.Diffs.length : Int))) + (k.Guard.Equals.length : Int)))))), (4, .I e)], [], [(0, .sl rR0 l_)], 13⟩ J 7 (qn (wb (wg (wx ⟨[(0, .S 0), (3, .I (w64 (d + (w64 ((w64 ((f.Fields.length : Int) + (i.Guard.Diffs.length : Int))) + (k.Guard.Equals.length : Int)))))), (4, .I (w64 (e + 1)))], [], [(0, .sl rR0 l_)], 13⟩ J 3 (wn (wu [] (ih3 ((w64 (d + (w64 ((w64 ((f.Fields.length : Int) + (i.Guard.Diffs.length : Int))) + (k.Guard.Equals.length : Int))))), (w64 (e + 1))) h) Q Q Q Q)))))))
 exact wu [] (ih N (0, 0) h) Q Q Q Q
theorem z13_ct (N : Nat) (g_ : T4) (r : Bool) (h : z13 N g_ = some r) :
 Fn Tryz.prog 13 ⟨4, [.a (cC4 0 1 2 3 g_)], (vV4 0 1 2 3 g_ []), [], 4, .O r, [], []⟩ := by
 refine Fn.intro _ _ Tryz.func13 rfl (by kernel_rfl) rfl (fun E F w => ?_)
 unfold z13 at h
 refine wq (wg (ws J 2 Q (wn (wq (wg (xw (rg 4 23) ⟨[(1, .B 4 0), (6, .O (decide (g_.States ≤ 40)))], [(4, .box (cC4 0 1 2 3 g_) 27)], (vV4 0 1 2 3 g_ []), 5⟩ J 4 ?_))))))
 rcases oc' h with ⟨hc, h⟩ | ⟨hc, h⟩
 ·refine wy 6 hc Q (wx ⟨[(2, .O false)], [], (vV4 0 1 2 3 g_ []), 5⟩ J 23 (wn ?_))
  cases h
  exact we J Tryz.func13 [] Q Q Q Q
 refine wy 6 hc Q (xw (rg 10 17) ⟨[(1, .B 4 0), (12, .O (decide ((g_.Edges.length : Int) ≤ 80)))], [(4, .box (cC4 0 1 2 3 g_) 27)], (vV4 0 1 2 3 g_ []), 5⟩ J 6 ?_)
 rcases oc' h with ⟨hc, h⟩ | ⟨hc, h⟩
 ·refine wy 12 hc Q (wx ⟨[(2, .O false)], [], (vV4 0 1 2 3 g_ []), 5⟩ J 17 (wn ?_))
  cases h
  exact we J Tryz.func13 [] Q Q Q Q
 refine wy 12 hc Q (xw (rg 16 11) ⟨[(1, .B 4 0), (18, .O (decide ((g_.Timeouts.length : Int) ≤ 40)))], [(4, .box (cC4 0 1 2 3 g_) 27)], (vV4 0 1 2 3 g_ []), 5⟩ J 6 ?_)
 rcases oc' h with ⟨hc, h⟩ | ⟨hc, h⟩
 ·refine wy 18 hc Q (wx ⟨[(2, .O false)], [], (vV4 0 1 2 3 g_ []), 5⟩ J 11 (wn ?_))
  cases h
  exact we J Tryz.func13 [] Q Q Q Q
 refine wy 18 hc Q (xw [22, 23, 24, 25, 26] ⟨[(1, .B 4 0), (24, .O (decide ((g_.Roles.length : Int) ≤ 10)))], [(4, .box (cC4 0 1 2 3 g_) 27)], (vV4 0 1 2 3 g_ []), 5⟩ J 6 ?_)
 rcases oc' h with ⟨hc, h⟩ | ⟨hc, h⟩
 ·refine wy 24 hc Q (wx ⟨[(2, .O false)], [], (vV4 0 1 2 3 g_ []), 5⟩ J 5 (wn ?_))
  cases h
  exact we J Tryz.func13 [] Q Q Q Q
 refine wy 24 hc Q (ws J 2 Q ?_)
 obtain ⟨x1, c, h⟩ := ob h
 refine wc (z44_ct N g_.Decls _ c) [(0, .sl 1)] [] Q Q Q Q Q Q Q Q (.inl rfl) rfl (wx ⟨[(2, .O x1)], [], (vV4 0 1 2 3 g_ []), 5⟩ J 2 (wn ?_))
 cases h
 exact we J Tryz.func13 [] Q Q Q Q
theorem z169_ct (N : Nat) (c_ : Int) (r : Bool) (h : z169 N c_ = some r) :
 Fn Tryz.prog 169 ⟨0, [.c (.i .u8 c_)], [], [], 0, .O r, [], []⟩ := by
 refine Fn.intro _ _ Tryz.func169 rfl (by kernel_rfl) rfl (fun E F w => ?_)
 unfold z169 at h
 refine wq (wg (ws J 1 Q (wn (wq (wg (xw (rg 3 12) ⟨[(0, .c (.i .u8 c_)), (5, .O (decide (c_ ≥ 97)))], [], [], 0⟩ J 3 ?_))))))
 rcases oc' h with ⟨hc, h⟩ | ⟨hc, h⟩
 ·refine wy 5 hc Q (xw [10, 11, 12, 13, 14] ⟨[(0, .c (.i .u8 c_)), (9, .O false), (12, .O (decide (c_ ≥ 65)))], [], [], 0⟩ J 7 ?_)
  rcases oc h with ⟨hc, h⟩ | ⟨hc, h⟩
  ·refine wy 12 hc Q (wx ⟨[(2, .O (decide (c_ ≤ 90)))], [], [], 0⟩ J 5 (wn ?_))
   cases h
   exact we J Tryz.func169 [] Q Q Q Q
  refine wy 12 hc Q (wx ⟨[(2, .O false)], [], [], 0⟩ J 5 (wn ?_))
  cases h
  exact we J Tryz.func169 [] Q Q Q Q
 refine wy 5 hc Q (xw (rg 7 8) ⟨[(0, .c (.i .u8 c_)), (9, .O (decide (c_ ≤ 122)))], [], [], 0⟩ J 4 ?_)
 rcases oc h with ⟨hc, h⟩ | ⟨hc, h⟩
 ·refine wy 9 hc Q (wx ⟨[(2, .O true)], [], [], 0⟩ J 8 (wn ?_))
  cases h
  exact we J Tryz.func169 [] Q Q Q Q
 refine wy 9 hc Q (xw [10, 11, 12, 13, 14] ⟨[(0, .c (.i .u8 c_)), (9, .O false), (12, .O (decide (c_ ≥ 65)))], [], [], 0⟩ J 3 ?_)
 rcases oc h with ⟨hc, h⟩ | ⟨hc, h⟩
 ·refine wy 12 hc Q (wx ⟨[(2, .O (decide (c_ ≤ 90)))], [], [], 0⟩ J 5 (wn ?_))
  cases h
  exact we J Tryz.func169 [] Q Q Q Q
 refine wy 12 hc Q (wx ⟨[(2, .O false)], [], [], 0⟩ J 5 (wn ?_))
 cases h
 exact we J Tryz.func169 [] Q Q Q Q
theorem z184_ct (N : Nat) (c_ : Int) (r : Bool) (h : z184 N c_ = some r) :
 Fn Tryz.prog 184 ⟨0, [.c (.i .u8 c_)], [], [], 0, .O r, [], []⟩ := by
 refine Fn.intro _ _ Tryz.func184 rfl (by kernel_rfl) rfl (fun E F w => ?_)
 unfold z184 at h
 refine wq (wg (ws J 1 Q (wn (wq (wg (xw [3, 4, 5, 6] ⟨[(0, .c (.i .u8 c_)), (5, .O (decide (c_ ≥ 48)))], [], [], 0⟩ J 3 ?_))))))
 rcases oc h with ⟨hc, h⟩ | ⟨hc, h⟩
 ·refine wy 5 hc Q (wx ⟨[(2, .O (decide (c_ ≤ 57)))], [], [], 0⟩ J 4 (wn ?_))
  cases h
  exact we J Tryz.func184 [] Q Q Q Q
 refine wy 5 hc Q (wx ⟨[(2, .O false)], [], [], 0⟩ J 4 (wn ?_))
 cases h
 exact we J Tryz.func184 [] Q Q Q Q
theorem z170_ct (N : Nat) (c_ : Int) (r : Bool) (h : z170 N c_ = some r) :
 Fn Tryz.prog 170 ⟨0, [.c (.i .u8 c_)], [], [], 0, .O r, [], []⟩ := by
 refine Fn.intro _ _ Tryz.func170 rfl (by kernel_rfl) rfl (fun E F w => ?_)
 unfold z170 at h
 refine wq (wg (ws J 1 Q (wn (wq (wg (ws J 1 Q ?_))))))
 obtain ⟨x1, d, h⟩ := ob h
 refine wc (z169_ct N c_ _ d) [] [] Q Q Q Q Q Q Q Q (.inl rfl) rfl (xw (rg 3 8) ⟨[(0, .c (.i .u8 c_)), (5, .O x1)], [], [], 0⟩ J 1 ?_)
 rcases oc h with ⟨hc, h⟩ | ⟨hc, h⟩
 ·refine wy 5 hc Q (wx ⟨[(2, .O true)], [], [], 0⟩ J 8 (wn ?_))
  cases h
  exact we J Tryz.func170 [] Q Q Q Q
 refine wy 5 hc Q (ws J 1 Q ?_)
 obtain ⟨x2, e, h⟩ := ob h
 refine wc (z184_ct N c_ _ e) [] [] Q Q Q Q Q Q Q Q (.inl rfl) rfl (xw [7, 8, 9, 10] ⟨[(0, .c (.i .u8 c_)), (9, .O x2)], [], [], 0⟩ J 2 ?_)
 rcases oc h with ⟨hc, h⟩ | ⟨hc, h⟩
 ·refine wy 9 hc Q (wx ⟨[(2, .O true)], [], [], 0⟩ J 4 (wn ?_))
  cases h
  exact we J Tryz.func170 [] Q Q Q Q
 refine wy 9 hc Q (wx ⟨[(2, .O (c_ == 95))], [], [], 0⟩ J 4 (wn ?_))
 cases h
 exact we J Tryz.func170 [] Q Q Q Q
theorem z148_ct (N : Nat) (s_ : ByteArray) (r : Bool) (h : z148 N s_ = some r) :
 Fn Tryz.prog 148 ⟨0, [.c (.s s_)], [], [], 0, .O r, [], []⟩ := by
 refine Fn.intro _ _ Tryz.func148 rfl (by kernel_rfl) rfl (fun E F w => ?_)
 unfold z148 at h
 refine wq (wg (ws J 1 Q (wn (wq (wq (wg (xw (rg 3 10) ⟨[(0, .c (.s s_)), (2, .O false), (6, .O (s_.toList == (str []).toList))], [], [], 0⟩ J 3 ?_)))))))
 rcases oc h with ⟨hc, h⟩ | ⟨hc, h⟩
 ·refine wy 6 hc Q (wx ⟨[(0, .c (.s s_)), (2, .O false), (16, .O true)], [], [], 0⟩ J 10 (wn (wt Q Q (wq (wg (ws J 1 Q (wn ?_)))))))
  cases h
  exact we J Tryz.func148 [] Q Q Q Q
 refine wy 6 hc Q (ws J 1 Q ?_)
 obtain ⟨x1, d, h⟩ := ob h
 refine WPr.sx J d Q Q Q Q Q Q Q Q Q ?_
 obtain ⟨x2, e, h⟩ := ob h
 refine wc (z169_ct N x1 _ e) [] [] Q Q Q Q Q Q Q Q (.inl rfl) rfl (xw [9, 10, 11, 12] ⟨[(0, .c (.s s_)), (2, .O false), (12, .O (!x2))], [], [], 0⟩ J 3 ?_)
 rcases oc h with ⟨hc, h⟩ | ⟨hc, h⟩
 ·refine wy 12 hc Q (wx ⟨[(0, .c (.s s_)), (2, .O false), (16, .O true)], [], [], 0⟩ J 4 (wn (wt Q Q (wq (wg (ws J 1 Q (wn ?_)))))))
  cases h
  exact we J Tryz.func148 [] Q Q Q Q
 refine wy 12 hc Q (wx ⟨[(0, .c (.s s_)), (2, .O false), (16, .O (decide ((s_.size : Int) > 16)))], [], [], 0⟩ J 4 (wn ?_))
 rcases oc h with ⟨hc, h⟩ | ⟨hc, h⟩
 ·refine wt hc Q (wq (wg (ws J 1 Q (wn ?_))))
  cases h
  exact we J Tryz.func148 [] Q Q Q Q
 refine wf hc Q (wi (wq (wq (wg (ws J 1 Q (wn ?_))))))
 refine wC (σ := Unit) (fun st => ⟨[], [], [], 0⟩) (fun st => z148_k1 = some r) ?_ (fun j1 => ?_)
 ·intro _ h
  replace h : z148_k1 = some r := h
  unfold z148_k1 at h
  refine wq (wg (ws J 1 Q (wn ?_)))
  cases h
  exact we J Tryz.func148 [] Q Q Q Q
 refine wo ?_
 refine wI (σ := Int) (fun st => ⟨[(0, .c (.s s_)), (3, .I st)], [], [], 0⟩) (fun n st => z148_l2 N s_ n st) (r := r) (fun _ => rfl) ?_ (fun ih => ?_)
 ·intro n2 ih3
  intro f h
  replace h : z148_l2 N s_ (n2 + 1) f = some r := h
  unfold z148_l2 at h
  refine wq (wq (wg (wx ⟨[(0, .c (.s s_)), (3, .I f), (20, .O (decide (f < (s_.size : Int))))], [], [], 0⟩ J 4 (wn ?_))))
  rcases oc' h with ⟨hc, h⟩ | ⟨hc, h⟩
  ·exact wf hc Q (wz rfl (wu [] (j1 () h) Q Q Q Q))
  refine wt hc Q (wi (wq (wo (wq (wg (ws J 2 Q ?_))))))
  obtain ⟨g, j, h⟩ := ob h
  refine WPr.sx J j Q Q Q Q Q Q Q Q Q (xw [3, 4] ⟨[(0, .c (.s s_)), (3, .I f), (25, .c (.i .u8 g))], [], [], 0⟩ J 0 ?_)
  obtain ⟨k, l, h⟩ := ob h
  refine wc (z170_ct N g _ l) [] [] Q Q Q Q Q Q Q Q (.inl rfl) rfl (wx ⟨[(0, .c (.s s_)), (3, .I f), (27, .O (!k))], [], [], 0⟩ J 1 (wn ?_))
  rcases oc h with ⟨hc, h⟩ | ⟨hc, h⟩
  ·refine wt hc Q (wq (wg (ws J 1 Q (wn ?_))))
   cases h
   exact we J Tryz.func148 [] Q Q Q Q
  exact wf hc Q (wi (wb (wg (wx ⟨[(0, .c (.s s_)), (3, .I (w64 (f + 1)))], [], [], 0⟩ J 3 (wn (wu [] (ih3 (w64 (f + 1)) h) Q Q Q Q))))))
 exact wu [] (ih N 0 h) Q Q Q Q
theorem z150_ct (N : Nat) (r : (List ByteArray)) (h : z150 N = some r) :
 Fn Tryz.prog 150 ⟨0, [], [], [], 1, .S 0, [], [(0, .own rS r true)]⟩ := by
 refine Fn.intro _ _ Tryz.func150 rfl (by kernel_rfl) rfl (fun E F w => ?_)
 unfold z150 at h
 refine wq (wg (ws J 1 Q (wn (wq (wg (WPr.bs (cs := [.s (str [97, 103, 97, 105, 110]), .s (str [97, 110, 100]), .s (str [97, 115]), .s (str [97, 116]), .s (str [99, 97, 108, 108]), .s (str [99, 104, 111, 105, 99, 101]), .s (str [101, 108, 115, 101]), .s (str [102, 114, 111, 109]), .s (str [105, 102]), .s (str [105, 110, 116]), .s (str [108, 101, 110]), .s (str [108, 111, 111, 112]), .s (str [109, 101, 115, 115, 97, 103, 101]), .s (str [111, 102]), .s (str [111, 102, 102, 101, 114]), .s (str [111, 110]), .s (str [111, 114]), .s (str [112, 97, 114]), .s (str [112, 108, 97, 121, 115]), .s (str [112, 114, 111, 116, 111, 99, 111, 108]), .s (str [115, 101, 114, 118, 105, 99, 101]), .s (str [116, 101, 120, 116]), .s (str [116, 105, 109, 101, 115]), .s (str [116, 111]), .s (str [118, 97, 114]), .s (str [119, 104, 101, 114, 101]), .s (str [119, 104, 105, 108, 101]), .s (str [119, 105, 116, 104, 105, 110])]) oS J ([(str [97, 103, 97, 105, 110]), (str [97, 110, 100]), (str [97, 115]), (str [97, 116]), (str [99, 97, 108, 108]), (str [99, 104, 111, 105, 99, 101]), (str [101, 108, 115, 101]), (str [102, 114, 111, 109]), (str [105, 102]), (str [105, 110, 116]), (str [108, 101, 110]), (str [108, 111, 111, 112]), (str [109, 101, 115, 115, 97, 103, 101]), (str [111, 102]), (str [111, 102, 102, 101, 114]), (str [111, 110]), (str [111, 114]), (str [112, 97, 114]), (str [112, 108, 97, 121, 115]), (str [112, 114, 111, 116, 111, 99, 111, 108]), (str [115, 101, 114, 118, 105, 99, 101]), (str [116, 101, 120, 116]), (str [116, 105, 109, 101, 115]), (str [116, 111]), (str [118, 97, 114]), (str [119, 104, 101, 114, 101]), (str [119, 104, 105, 108, 101]), (str [119, 105, 116, 104, 105, 110])] : List ByteArray) Q Q Q Q Q Q (by kernel_rfl) (by exact (an rfl (an rfl (an rfl (an rfl (an rfl (an rfl (an rfl (an rfl (an rfl (an rfl (an rfl (an rfl (an rfl (an rfl (an rfl (an rfl (an rfl (an rfl (an rfl (an rfl (an rfl (an rfl (an rfl (an rfl (an rfl (an rfl (an rfl (an Q Q))))))))))))))))))))))))))))) rfl (wx ⟨[(0, .S 0)], [(0, .own rS ([(str [97, 103, 97, 105, 110]), (str [97, 110, 100]), (str [97, 115]), (str [97, 116]), (str [99, 97, 108, 108]), (str [99, 104, 111, 105, 99, 101]), (str [101, 108, 115, 101]), (str [102, 114, 111, 109]), (str [105, 102]), (str [105, 110, 116]), (str [108, 101, 110]), (str [108, 111, 111, 112]), (str [109, 101, 115, 115, 97, 103, 101]), (str [111, 102]), (str [111, 102, 102, 101, 114]), (str [111, 110]), (str [111, 114]), (str [112, 97, 114]), (str [112, 108, 97, 121, 115]), (str [112, 114, 111, 116, 111, 99, 111, 108]), (str [115, 101, 114, 118, 105, 99, 101]), (str [116, 101, 120, 116]), (str [116, 105, 109, 101, 115]), (str [116, 111]), (str [118, 97, 114]), (str [119, 104, 101, 114, 101]), (str [119, 104, 105, 108, 101]), (str [119, 105, 116, 104, 105, 110])] : List ByteArray) true)], [], 1⟩ J 1 (wn ?_))))))))
 cases h
 exact we J Tryz.func150 [(0, .sl 0)] Q Q Q Q
theorem z149_ct (N : Nat) (l_ : (List ByteArray)) (s_ : ByteArray) (r : Bool) (h : z149 N l_ s_ = some r) :
 Fn Tryz.prog 149 ⟨1, [.S 0, .c (.s s_)], [(0, .sl rS l_)], [], 1, .O r, [], []⟩ := by
 refine Fn.intro _ _ Tryz.func149 rfl (by kernel_rfl) rfl (fun E F w => ?_)
 unfold z149 at h
 refine wq (wg (ws J 1 Q (wn (wq (wq (wg (ws J 1 Q (wn ?_))))))))
 refine wC (σ := Unit) (fun st => ⟨[], [], [(0, .sl rS l_)], 1⟩) (fun st => z149_k1 = some r) ?_ (fun j1 => ?_)
 ·intro _ h
  replace h : z149_k1 = some r := h
  unfold z149_k1 at h
  refine wq (wg (ws J 1 Q (wn ?_)))
  cases h
  exact we J Tryz.func149 [] Q Q Q Q
 refine wo ?_
 refine wI (σ := Int) (fun st => ⟨[(0, .S 0), (1, .c (.s s_)), (5, .I st)], [], [(0, .sl rS l_)], 1⟩) (fun n st => z149_l2 l_ s_ n st) (r := r) (fun _ => rfl) ?_ (fun ih => ?_)
 ·intro n2 ih3
  intro d h
  replace h : z149_l2 l_ s_ (n2 + 1) d = some r := h
  unfold z149_l2 at h
  refine wq (wq (wg (wx ⟨[(0, .S 0), (1, .c (.s s_)), (5, .I d), (9, .O (decide (d < (l_.length : Int))))], [], [(0, .sl rS l_)], 1⟩ J 4 (wn ?_))))
  rcases oc' h with ⟨hc, h⟩ | ⟨hc, h⟩
  ·exact wf hc Q (wz rfl (wu [] (j1 () h) Q Q Q Q))
  refine wt hc Q (wi (wq (wo (wq (wg (ws J 2 Q ?_))))))
  obtain ⟨x9, e, h⟩ := ob h
  refine wj oS J e Q Q Q Q Q Q Q Q Q (wx ⟨[(0, .S 0), (1, .c (.s s_)), (5, .I d), (17, .O (x9.toList == s_.toList))], [], [(0, .sl rS l_)], 2⟩ J 3 (wn ?_))
  rcases oc h with ⟨hc, h⟩ | ⟨hc, h⟩
  ·refine wt hc Q (wq (wg (ws J 1 Q (wn ?_))))
   cases h
   exact we J Tryz.func149 [] Q Q Q Q
  exact wf hc Q (wi (wb (wg (wx ⟨[(0, .S 0), (1, .c (.s s_)), (5, .I (w64 (d + 1)))], [], [(0, .sl rS l_)], 2⟩ J 3 (wn (wu [] (ih3 (w64 (d + 1)) h) Q Q Q Q))))))
 exact wu [] (ih N 0 h) Q Q Q Q
theorem z112_ct (N : Nat) (s_ : ByteArray) (r : Bool) (h : z112 N s_ = some r) :
 Fn Tryz.prog 112 ⟨0, [.c (.s s_)], [], [], 0, .O r, [], []⟩ := by
 refine Fn.intro _ _ Tryz.func112 rfl (by kernel_rfl) rfl (fun E F w => ?_)
 unfold z112 at h
 refine wq (wg (ws J 1 Q (wn (wq (wg (ws J 1 Q ?_))))))
 obtain ⟨x1, d, h⟩ := ob h
 refine wc (z148_ct N s_ _ d) [] [] Q Q Q Q Q Q Q Q (.inl rfl) rfl (xw (rg 3 6) ⟨[(0, .c (.s s_)), (5, .O x1)], [], [], 0⟩ J 1 ?_)
 rcases oc' h with ⟨hc, h⟩ | ⟨hc, h⟩
 ·refine wy 5 hc Q (wx ⟨[(2, .O false)], [], [], 0⟩ J 6 (wn ?_))
  cases h
  exact we J Tryz.func112 [] Q Q Q Q
 refine wy 5 hc Q ?_
 obtain ⟨x2, e, h⟩ := ob h
 refine wc (z150_ct N _ e) [] [] Q Q Q Q Q Q Q Q (.inl rfl) rfl (xw [5, 6, 7, 8] ⟨[(5, .O true), (6, .S 0), (7, .c (.s s_))], [(0, .own rS x2 true)], [], 1⟩ J 1 ?_)
 obtain ⟨x3, f, h⟩ := ob h
 refine wc (z149_ct N x2 s_ _ f) [(0, .sl 0)] [0] Q Q Q Q Q Q Q Q (.inr ⟨rfl, trivial⟩) rfl (wx ⟨[(2, .O (!x3))], [], [], 1⟩ J 3 (wn ?_))
 cases h
 exact we J Tryz.func112 [] Q Q Q Q
theorem z76_ct (N : Nat) (l_ : (List ByteArray)) (s_ : ByteArray) (r : Int) (h : z76 N l_ s_ = some r) :
 Fn Tryz.prog 76 ⟨1, [.S 0, .c (.s s_)], [(0, .sl rS l_)], [], 1, .I r, [], []⟩ := by
 refine Fn.intro _ _ Tryz.func76 rfl (by kernel_rfl) rfl (fun E F w => ?_)
 unfold z76 at h
 refine wq (wg (ws J 1 Q (wn (wq (wq (wg (ws J 1 Q (wn ?_))))))))
 refine wC (σ := Unit) (fun st => ⟨[], [], [(0, .sl rS l_)], 1⟩) (fun st => z76_k1 = some r) ?_ (fun j1 => ?_)
 ·intro _ h
  replace h : z76_k1 = some r := h
  unfold z76_k1 at h
  refine wq (wg (ws J 1 Q (wn ?_)))
  cases h
  exact we J Tryz.func76 [] Q Q Q Q
 refine wo ?_
 refine wI (σ := Int) (fun st => ⟨[(0, .S 0), (1, .c (.s s_)), (5, .I st)], [], [(0, .sl rS l_)], 1⟩) (fun n st => z76_l2 l_ s_ n st) (r := r) (fun _ => rfl) ?_ (fun ih => ?_)
 ·intro n2 ih3
  intro d h
  replace h : z76_l2 l_ s_ (n2 + 1) d = some r := h
  unfold z76_l2 at h
  refine wq (wq (wg (wx ⟨[(0, .S 0), (1, .c (.s s_)), (5, .I d), (9, .O (decide (d < (l_.length : Int))))], [], [(0, .sl rS l_)], 1⟩ J 4 (wn ?_))))
  rcases oc' h with ⟨hc, h⟩ | ⟨hc, h⟩
  ·exact wf hc Q (wz rfl (wu [] (j1 () h) Q Q Q Q))
  refine wt hc Q (wi (wq (wo (wq (wg (ws J 2 Q ?_))))))
  obtain ⟨x9, e, h⟩ := ob h
  refine wj oS J e Q Q Q Q Q Q Q Q Q (wx ⟨[(0, .S 0), (1, .c (.s s_)), (5, .I d), (17, .O (x9.toList == s_.toList))], [], [(0, .sl rS l_)], 2⟩ J 3 (wn ?_))
  rcases oc h with ⟨hc, h⟩ | ⟨hc, h⟩
  ·refine wt hc Q (wq (wg (ws J 2 Q (wn ?_))))
   cases h
   exact we J Tryz.func76 [] Q Q Q Q
  exact wf hc Q (wi (wb (wg (wx ⟨[(0, .S 0), (1, .c (.s s_)), (5, .I (w64 (d + 1)))], [], [(0, .sl rS l_)], 2⟩ J 3 (wn (wu [] (ih3 (w64 (d + 1)) h) Q Q Q Q))))))
 exact wu [] (ih N 0 h) Q Q Q Q
theorem z151_ct (N : Nat) (decls_ : (List T0)) (r : Int) (h : z151 N decls_ = some r) :
 Fn Tryz.prog 151 ⟨1, [.S 0], [(0, .sl rR0 decls_)], [], 1, .I r, [], []⟩ := by
 refine Fn.intro _ _ Tryz.func151 rfl (by kernel_rfl) rfl (fun E F w => ?_)
 unfold z151 at h
 refine wq (wg (ws J 1 Q (wn (wq (wg (ws J 1 Q (wn (wq (wq (wg (wx ⟨[(0, .S 0), (2, .I 0), (3, .I 0), (4, .I 0)], [], [(0, .sl rR0 decls_)], 1⟩ J 1 (wn ?_))))))))))))
 refine wC (σ := Int) (fun st => ⟨[(3, .I st)], [], [(0, .sl rR0 decls_)], 1⟩) (fun st => z151_k1 st = some r) ?_ (fun j1 => ?_)
 ·intro c h
  replace h : z151_k1 c = some r := h
  unfold z151_k1 at h
  refine wq (wg (ws J 2 Q (wn ?_)))
  cases h
  exact we J Tryz.func151 [] Q Q Q Q
 refine wo ?_
 refine wI (σ := Int × Int) (fun st => ⟨[(0, .S 0), (3, .I st.1), (4, .I st.2)], [], [(0, .sl rR0 decls_)], 1⟩) (fun n st => z151_l2 decls_ n st.1 st.2) (r := r) (fun _ => rfl) ?_ (fun ih => ?_)
 ·intro n2 ih3
  rintro ⟨d, e⟩ h
  replace h : z151_l2 decls_ (n2 + 1) d e = some r := h
  unfold z151_l2 at h
  refine wq (wq (wg (wx ⟨[(0, .S 0), (3, .I d), (4, .I e), (8, .O (decide (e < (decls_.length : Int))))], [], [(0, .sl rR0 decls_)], 1⟩ J 4 (wn ?_))))
  rcases oc' h with ⟨hc, h⟩ | ⟨hc, h⟩
  ·exact wf hc Q (wz rfl (wu [] (j1 d h) Q Q Q Q))
  refine wt hc Q (wi (wq (wo (wg (xw (rg 3 6) ⟨[(0, .S 0), (4, .I e), (11, .I d), (12, .S 0), (13, .I e)], [], [(0, .sl rR0 decls_)], 1⟩ J 3 ?_)))))
  obtain ⟨x9, f, h⟩ := ob h
  exact wj oO0 J f Q Q Q Q Q Q Q Q Q (wx ⟨[(0, .S 0), (3, .I (w64 (d + (x9.Fields.length : Int)))), (4, .I e)], [], [(0, .sl rR0 decls_)], 5⟩ J 5 (wn (wb (wg (wx ⟨[(0, .S 0), (3, .I (w64 (d + (x9.Fields.length : Int)))), (4, .I (w64 (e + 1)))], [], [(0, .sl rR0 decls_)], 5⟩ J 3 (wn (wu [] (ih3 ((w64 (d + (x9.Fields.length : Int))), (w64 (e + 1))) h) Q Q Q Q)))))))
 exact wu [] (ih N (0, 0) h) Q Q Q Q
theorem z152_ct (N : Nat) (s_ : T7) (r : Bool) (h : z152 N s_ = some r) :
 Fn Tryz.prog 152 ⟨0, [.a (cC7 s_)], [], [], 0, .O r, [], []⟩ := by
 refine Fn.intro _ _ Tryz.func152 rfl (by kernel_rfl) rfl (fun E F w => ?_)
 unfold z152 at h
 refine wq (wg (ws J 2 Q (wn (wq (wg (wx ⟨[(1, .B 0 0), (2, .O false), (3, .I (-1000)), (4, .I 1000)], [(0, .box (cC7 s_) 139)], [], 1⟩ J 2 (wn (wq (wq (wg (wx ⟨[(1, .B 0 0), (2, .O false), (3, .I (-1000)), (4, .I 1000), (7, .O (s_.Kind == 2))], [(0, .box (cC7 s_) 139)], [], 1⟩ J 3 (wn ?_))))))))))))
 refine wC (σ := Int × Int) (fun st => ⟨[(1, .B 0 0), (3, .I st.1), (4, .I st.2)], [(0, .box (cC7 s_) 139)], [], 1⟩) (fun st => z152_k1 s_ st.1 st.2 = some r) ?_ (fun j1 => ?_)
 ·rintro ⟨c, d⟩ h
  replace h : z152_k1 s_ c d = some r := h
  unfold z152_k1 at h
  refine wq (wg (xw (rg 4 24) ⟨[(1, .B 0 0), (3, .I c), (4, .I d), (11, .O (s_.Kind == 1))], [(0, .box (cC7 s_) 139)], [], 1⟩ J 4 ?_))
  rcases oc h with ⟨hc, h⟩ | ⟨hc, h⟩
  ·refine wy 11 hc Q (xw (rg 15 13) ⟨[(1, .B 0 0), (4, .I d), (22, .O (decide (s_.Lo ≥ c)))], [(0, .box (cC7 s_) 139)], [], 1⟩ J 11 ?_)
   rcases oc' h with ⟨hc, h⟩ | ⟨hc, h⟩
   ·refine wy 22 hc Q (wx ⟨[(2, .O false)], [], [], 1⟩ J 13 (wn ?_))
    cases h
    exact we J Tryz.func152 [] Q Q Q Q
   refine wy 22 hc Q (xw (rg 21 7) ⟨[(1, .B 0 0), (28, .O (decide (s_.Hi ≤ d)))], [(0, .box (cC7 s_) 139)], [], 1⟩ J 6 ?_)
   rcases oc h with ⟨hc, h⟩ | ⟨hc, h⟩
   ·refine wy 28 hc Q (wx ⟨[(2, .O (decide (s_.Lo ≤ s_.Hi)))], [], [], 1⟩ J 7 (wn ?_))
    cases h
    exact we J Tryz.func152 [] Q Q Q Q
   refine wy 28 hc Q (wx ⟨[(2, .O false)], [], [], 1⟩ J 7 (wn ?_))
   cases h
   exact we J Tryz.func152 [] Q Q Q Q
  refine wy 11 hc Q (xw (rg 9 19) ⟨[(1, .B 0 0), (3, .I c), (4, .I d), (16, .O (s_.Kind == 2))], [(0, .box (cC7 s_) 139)], [], 1⟩ J 5 ?_)
  rcases oc' h with ⟨hc, h⟩ | ⟨hc, h⟩
  ·refine wy 16 hc Q (wx ⟨[(2, .O false)], [], [], 1⟩ J 19 (wn ?_))
   cases h
   exact we J Tryz.func152 [] Q Q Q Q
  refine wy 16 hc Q (xw (rg 15 13) ⟨[(1, .B 0 0), (4, .I d), (22, .O (decide (s_.Lo ≥ c)))], [(0, .box (cC7 s_) 139)], [], 1⟩ J 6 ?_)
  rcases oc' h with ⟨hc, h⟩ | ⟨hc, h⟩
  ·refine wy 22 hc Q (wx ⟨[(2, .O false)], [], [], 1⟩ J 13 (wn ?_))
   cases h
   exact we J Tryz.func152 [] Q Q Q Q
  refine wy 22 hc Q (xw (rg 21 7) ⟨[(1, .B 0 0), (28, .O (decide (s_.Hi ≤ d)))], [(0, .box (cC7 s_) 139)], [], 1⟩ J 6 ?_)
  rcases oc h with ⟨hc, h⟩ | ⟨hc, h⟩
  ·refine wy 28 hc Q (wx ⟨[(2, .O (decide (s_.Lo ≤ s_.Hi)))], [], [], 1⟩ J 7 (wn ?_))
   cases h
   exact we J Tryz.func152 [] Q Q Q Q
  refine wy 28 hc Q (wx ⟨[(2, .O false)], [], [], 1⟩ J 7 (wn ?_))
  cases h
  exact we J Tryz.func152 [] Q Q Q Q
 rcases oc h with ⟨hc, h⟩ | ⟨hc, h⟩
 ·exact wt hc Q (wg (ws J 2 Q (wn (wu [] (j1 (0, 40) h) Q Q Q Q))))
 exact wf hc Q (wi (wu [] (j1 ((-1000), 1000) h) Q Q Q Q))
theorem z171_ct (N : Nat) (s_ : ByteArray) (r : Bool) (h : z171 N s_ = some r) :
 Fn Tryz.prog 171 ⟨0, [.c (.s s_)], [], [], 0, .O r, [], []⟩ := by
 refine Fn.intro _ _ Tryz.func171 rfl (by kernel_rfl) rfl (fun E F w => ?_)
 unfold z171 at h
 refine wq (wg (ws J 1 Q (wn (wq (wg (ws J 1 Q ?_))))))
 obtain ⟨x1, d, h⟩ := ob h
 refine wc (z112_ct N s_ _ d) [] [] Q Q Q Q Q Q Q Q (.inl rfl) rfl (wx ⟨[(2, .O x1)], [], [], 0⟩ J 1 (wn ?_))
 cases h
 exact we J Tryz.func171 [] Q Q Q Q
theorem z153_ct (N : Nat) (s_ : ByteArray) (r : Bool) (h : z153 N s_ = some r) :
 Fn Tryz.prog 153 ⟨0, [.c (.s s_)], [], [], 0, .O r, [], []⟩ := by
 refine Fn.intro _ _ Tryz.func153 rfl (by kernel_rfl) rfl (fun E F w => ?_)
 unfold z153 at h
 refine wq (wg (ws J 1 Q (wn (wq (wg (ws J 1 Q (wn (wq (wq (wg (wx ⟨[(0, .c (.s s_)), (2, .O false), (3, .I 0), (4, .I 0)], [], [], 0⟩ J 1 (wn ?_))))))))))))
 refine wC (σ := Unit) (fun st => ⟨[(0, .c (.s s_))], [], [], 0⟩) (fun st => z153_k1 s_ = some r) ?_ (fun j1 => ?_)
 ·intro _ h
  replace h : z153_k1 s_ = some r := h
  unfold z153_k1 at h
  refine wq (wg (wx ⟨[(2, .O (decide ((s_.size : Int) ≤ 50)))], [], [], 0⟩ J 4 (wn ?_)))
  cases h
  exact we J Tryz.func153 [] Q Q Q Q
 refine wo ?_
 refine wI (σ := Int × Int) (fun st => ⟨[(0, .c (.s s_)), (3, .I st.1), (4, .I st.2)], [], [], 0⟩) (fun n st => z153_l2 N s_ n st.1 st.2) (r := r) (fun _ => rfl) ?_ (fun ih => ?_)
 ·intro n2 ih6
  rintro ⟨d, e⟩ h
  replace h : z153_l2 N s_ (n2 + 1) d e = some r := h
  unfold z153_l2 at h
  refine wq (wq (wg (wx ⟨[(0, .c (.s s_)), (3, .I d), (4, .I e), (8, .O (decide (e ≤ (s_.size : Int))))], [], [], 0⟩ J 4 (wn ?_))))
  rcases oc' h with ⟨hc, h⟩ | ⟨hc, h⟩
  ·exact wf hc Q (wz rfl (wu [] (j1 () h) Q Q Q Q))
  refine wt hc Q (wi (wq (wo (wq (wg (xw [5, 6, 7, 8, 9] ⟨[(0, .c (.s s_)), (3, .I d), (4, .I e), (15, .O (e == (s_.size : Int)))], [], [], 0⟩ J 5 ?_))))))
  refine WP.cutr (σ := Bool) (fun st => ⟨[(0, .c (.s s_)), (3, .I d), (4, .I e), (20, .O st)], [], [], 0⟩) (fun st => z153_k3 N s_ d e (z153_l2 N s_ n2) st = some r) ?_ (fun j9 => ?_)
  ·intro f h
   replace h : z153_k3 N s_ d e (z153_l2 N s_ n2) f = some r := h
   unfold z153_k3 at h
   rcases oc' h with ⟨hc, h⟩ | ⟨hc, h⟩
   ·exact wf hc Q (wi (wb (wg (wx ⟨[(0, .c (.s s_)), (3, .I d), (4, .I (w64 (e + 1)))], [], [], 0⟩ J 3 (wn (wu [] (ih6 (d, (w64 (e + 1))) h) Q Q Q Q))))))
   refine wt hc Q (wq (wq (wg (xw [3, 4, 5] ⟨[(0, .c (.s s_)), (4, .I e), (21, .c (.s s_)), (22, .I d), (23, .I e)], [], [], 0⟩ J 3 ?_))))
   obtain ⟨g, i, h⟩ := ob h
   refine WPr.ssl J (l := some (.i64, d)) (h := some (.i64, e)) i Q Q Q Q Q Q Q Q Q Q ?_
   obtain ⟨j, k, h⟩ := ob h
   refine wc (z171_ct N g _ k) [] [] Q Q Q Q Q Q Q Q (.inl rfl) rfl (wx ⟨[(0, .c (.s s_)), (4, .I e), (26, .O (!j))], [], [], 0⟩ J 1 (wn ?_))
   rcases oc h with ⟨hc, h⟩ | ⟨hc, h⟩
   ·refine wt hc Q (wq (wg (ws J 1 Q (wn ?_))))
    cases h
    exact we J Tryz.func153 [] Q Q Q Q
   exact wf hc Q (wi (wg (wx ⟨[(0, .c (.s s_)), (3, .I (w64 (e + 1))), (4, .I e)], [], [], 0⟩ J 3 (wn (wb (wg (wx ⟨[(0, .c (.s s_)), (3, .I (w64 (e + 1))), (4, .I (w64 (e + 1)))], [], [], 0⟩ J 3 (wn (wu [] (ih6 ((w64 (e + 1)), (w64 (e + 1))) h) Q Q Q Q)))))))))
  rcases oc h with ⟨hc, h⟩ | ⟨hc, h⟩
  ·exact wy 15 hc Q (wx ⟨[(0, .c (.s s_)), (3, .I d), (4, .I e), (20, .O true)], [], [], 0⟩ J 5 (wn (wu [] (j9 true h) Q Q Q Q)))
  refine wy 15 hc Q (ws J 2 Q ?_)
  obtain ⟨m, o, h⟩ := ob h
  exact WPr.sx J o Q Q Q Q Q Q Q Q Q (wx ⟨[(0, .c (.s s_)), (3, .I d), (4, .I e), (20, .O (m == 46))], [], [], 0⟩ J 2 (wn (wu [] (j9 (m == 46) h) Q Q Q Q)))
 exact wu [] (ih N (0, 0) h) Q Q Q Q
theorem z185_ct (N : Nat) (decls_ : (List T0)) (x_ : Int) (r : T3) (h : z185 N decls_ x_ = some r) :
 Fn Tryz.prog 185 ⟨1, [.S 0, .I x_], [(0, .sl rR0 decls_)], [], 1, .a (cC3 r), [], []⟩ := by
 refine Fn.intro _ _ Tryz.func185 rfl (by kernel_rfl) rfl (fun E F w => ?_)
 unfold z185 at h
 refine wq (wg (ws J 1 Q (wn (wq (wq (wg (ws J 1 Q (wn ?_))))))))
 refine wC (σ := Unit) (fun st => ⟨[(4, .B 1 0)], [(1, .box [.s (str []), .I 0, .I 0, .I 0] 141)], [(0, .sl rR0 decls_)], 2⟩) (fun st => z185_k1 = some r) ?_ (fun j1 => ?_)
 ·intro _ h
  replace h : z185_k1 = some r := h
  unfold z185_k1 at h
  refine wq (wg (ws J 2 Q (wn ?_)))
  cases h
  exact we J Tryz.func185 [] Q Q Q Q
 refine wo ?_
 refine wI (σ := Int × Int) (fun st => ⟨[(0, .S 0), (1, .I st.1), (4, .B 1 0), (5, .I st.2)], [(1, .box [.s (str []), .I 0, .I 0, .I 0] 141)], [(0, .sl rR0 decls_)], 2⟩) (fun n st => z185_l2 decls_ n st.1 st.2) (r := r) (fun _ => rfl) ?_ (fun ih => ?_)
 ·intro n2 ih3
  rintro ⟨c, d⟩ h
  replace h : z185_l2 decls_ (n2 + 1) c d = some r := h
  unfold z185_l2 at h
  refine wq (wq (wg (wx ⟨[(0, .S 0), (1, .I c), (4, .B 1 0), (5, .I d), (9, .O (decide (d < (decls_.length : Int))))], [(1, .box [.s (str []), .I 0, .I 0, .I 0] 141)], [(0, .sl rR0 decls_)], 2⟩ J 4 (wn ?_))))
  rcases oc' h with ⟨hc, h⟩ | ⟨hc, h⟩
  ·exact wf hc Q (wz rfl (wu [] (j1 () h) Q Q Q Q))
  refine wt hc Q (wi (wq (wo (wq (wq (wg (xw [3, 4, 5, 6, 7] ⟨[(0, .S 0), (1, .I c), (4, .B 1 0), (5, .I d), (12, .I c), (13, .S 0), (14, .I d)], [(1, .box [.s (str []), .I 0, .I 0, .I 0] 141)], [(0, .sl rR0 decls_)], 2⟩ J 3 ?_)))))))
  obtain ⟨e, f, h⟩ := ob h
  refine wj oO0 J f Q Q Q Q Q Q Q Q Q (wx ⟨[(0, .S 0), (1, .I c), (4, .B 1 0), (5, .I d), (19, .O (decide (c < (e.Fields.length : Int))))], [(1, .box [.s (str []), .I 0, .I 0, .I 0] 141)], [(0, .sl rR0 decls_)], 6⟩ J 4 (wn ?_))
  rcases oc' h with ⟨hc, h⟩ | ⟨hc, h⟩
  ·refine wf hc Q (wi (wg (xw (rg 3 6) ⟨[(0, .S 0), (4, .B 1 0), (5, .I d), (28, .I c), (29, .S 0), (30, .I d)], [(1, .box [.s (str []), .I 0, .I 0, .I 0] 141)], [(0, .sl rR0 decls_)], 6⟩ J 3 ?_)))
   obtain ⟨g, i, h⟩ := ob h
   exact wj oO0 J i Q Q Q Q Q Q Q Q Q (wx ⟨[(0, .S 0), (1, .I (w64 (c - (g.Fields.length : Int)))), (4, .B 1 0), (5, .I d)], [(1, .box [.s (str []), .I 0, .I 0, .I 0] 141)], [(0, .sl rR0 decls_)], 10⟩ J 5 (wn (wb (wg (wx ⟨[(0, .S 0), (1, .I (w64 (c - (g.Fields.length : Int)))), (4, .B 1 0), (5, .I (w64 (d + 1)))], [(1, .box [.s (str []), .I 0, .I 0, .I 0] 141)], [(0, .sl rR0 decls_)], 10⟩ J 3 (wn (wu [] (ih3 ((w64 (c - (g.Fields.length : Int))), (w64 (d + 1))) h) Q Q Q Q)))))))
  refine wt hc Q (wq (wg (ws J 2 Q ?_)))
  obtain ⟨j, k, h⟩ := ob h
  refine wj oO0 J k Q Q Q Q Q Q Q Q Q (xw [6, 7, 8] ⟨[(4, .B 1 0), (24, .S 7), (25, .I c)], [(1, .box [.s (str []), .I 0, .I 0, .I 0] 141)], [(0, .sl rR0 decls_), (7, .sl rR3 j.Fields)], 10⟩ J 3 ?_)
  obtain ⟨l, m, h⟩ := ob h
  refine wj oO3 J m Q Q Q Q Q Q Q Q Q (wx ⟨[(4, .B 1 0)], [(1, .box (cC3 l) 141)], [(0, .sl rR0 decls_)], 11⟩ J 2 (wn ?_))
  cases h
  exact we J Tryz.func185 [] Q Q Q Q
 exact wu [] (ih N (x_, 0) h) Q Q Q Q
theorem z172_ct (N : Nat) (decls_ : (List T0)) (x_ : Int) (r : Bool) (h : z172 N decls_ x_ = some r) :
 Fn Tryz.prog 172 ⟨1, [.S 0, .I x_], [(0, .sl rR0 decls_)], [], 1, .O r, [], []⟩ := by
 refine Fn.intro _ _ Tryz.func172 rfl (by kernel_rfl) rfl (fun E F w => ?_)
 unfold z172 at h
 refine wq (wg (ws J 1 Q (wn (wq (wg (xw (rg 3 14) ⟨[(0, .S 0), (1, .I x_), (7, .O (decide (x_ ≥ 0)))], [], [(0, .sl rR0 decls_)], 1⟩ J 3 ?_))))))
 rcases oc' h with ⟨hc, h⟩ | ⟨hc, h⟩
 ·refine wy 7 hc Q (wx ⟨[(4, .O false)], [], [(0, .sl rR0 decls_)], 1⟩ J 14 (wn ?_))
  cases h
  exact we J Tryz.func172 [] Q Q Q Q
 refine wy 7 hc Q (ws J 2 Q ?_)
 obtain ⟨x1, c, h⟩ := ob h
 refine wc (z151_ct N decls_ _ c) [(0, .sl 0)] [] Q Q Q Q Q Q Q Q (.inl rfl) rfl (xw (rg 9 8) ⟨[(0, .S 0), (1, .I x_), (13, .O (decide (x_ < x1)))], [], [(0, .sl rR0 decls_)], 1⟩ J 3 ?_)
 rcases oc' h with ⟨hc, h⟩ | ⟨hc, h⟩
 ·refine wy 13 hc Q (wx ⟨[(4, .O false)], [], [(0, .sl rR0 decls_)], 1⟩ J 8 (wn ?_))
  cases h
  exact we J Tryz.func172 [] Q Q Q Q
 refine wy 13 hc Q (ws J 2 Q ?_)
 obtain ⟨x2, d, h⟩ := ob h
 refine wc (z185_ct N decls_ x_ _ d) [(0, .sl 0)] [] Q Q Q Q Q Q Q Q (.inl rfl) rfl (wx ⟨[(4, .O (x2.Sort'.Kind == 2))], [], [(0, .sl rR0 decls_)], 1⟩ J 5 (wn ?_))
 cases h
 exact we J Tryz.func172 [] Q Q Q Q
theorem z154_ct (N : Nat) (decls_ : (List T0)) (g_ : T5) (r : Bool) (h : z154 N decls_ g_ = some r) :
 Fn Tryz.prog 154 ⟨3, [.S 0, .a [.sl 1, .sl 2]], [(0, .sl rR0 decls_), (1, .sl rR1 g_.Diffs), (2, .sl (rP (rI .i64) (rI .i64)) g_.Equals)], [], 3, .O r, [], []⟩ := by
 refine Fn.intro _ _ Tryz.func154 rfl (by kernel_rfl) rfl (fun E F w => ?_)
 unfold z154 at h
 refine wq (wg (ws J 2 Q (wn (wq (wg (xw [1, 2] ⟨[(0, .S 0), (3, .B 3 0), (4, .O false), (9, .S 0)], [(3, .box [.sl 1, .sl 2] 92)], [(0, .sl rR0 decls_), (1, .sl rR1 g_.Diffs), (2, .sl (rP (rI .i64) (rI .i64)) g_.Equals)], 4⟩ J 1 ?_))))))
 obtain ⟨x1, c, h⟩ := ob h
 refine wc (z151_ct N decls_ _ c) [(0, .sl 0)] [] Q Q Q Q Q Q Q Q (.inl rfl) rfl (wx ⟨[(0, .S 0), (3, .B 3 0), (4, .O false), (5, .I x1)], [(3, .box [.sl 1, .sl 2] 92)], [(0, .sl rR0 decls_), (1, .sl rR1 g_.Diffs), (2, .sl (rP (rI .i64) (rI .i64)) g_.Equals)], 4⟩ J 1 (wn (wq (wq (wg (ws J 1 Q (wn ?_)))))))
 refine wC (σ := Unit) (fun st => ⟨[(0, .S 0), (3, .B 3 0)], [(3, .box [.sl 1, .sl 2] 92)], [(0, .sl rR0 decls_), (1, .sl rR1 g_.Diffs), (2, .sl (rP (rI .i64) (rI .i64)) g_.Equals)], 4⟩) (fun st => z154_k3 N decls_ g_ = some r) ?_ (fun j1 => ?_)
 ·intro _ h
  replace h : z154_k3 N decls_ g_ = some r := h
  unfold z154_k3 at h
  refine wq (wq (wg (ws J 1 Q (wn ?_))))
  refine wC (σ := Unit) (fun st => ⟨[(3, .B 3 0)], [(3, .box [.sl 1, .sl 2] 92)], [(0, .sl rR0 decls_), (1, .sl rR1 g_.Diffs), (2, .sl (rP (rI .i64) (rI .i64)) g_.Equals)], 4⟩) (fun st => z154_k1 g_ = some r) ?_ (fun j3 => ?_)
  ·intro _ h
   replace h : z154_k1 g_ = some r := h
   unfold z154_k1 at h
   refine wq (wg (xw (rg 5 6) ⟨[(3, .B 3 0), (84, .O (decide ((g_.Diffs.length : Int) ≤ 20)))], [(3, .box [.sl 1, .sl 2] 92)], [(0, .sl rR0 decls_), (1, .sl rR1 g_.Diffs), (2, .sl (rP (rI .i64) (rI .i64)) g_.Equals)], 4⟩ J 5 ?_))
   rcases oc h with ⟨hc, h⟩ | ⟨hc, h⟩
   ·refine wy 84 hc Q (wx ⟨[(4, .O (decide ((g_.Equals.length : Int) ≤ 20)))], [], [(0, .sl rR0 decls_), (1, .sl rR1 g_.Diffs), (2, .sl (rP (rI .i64) (rI .i64)) g_.Equals)], 4⟩ J 6 (wn ?_))
    cases h
    exact we J Tryz.func154 [] Q Q Q Q
   refine wy 84 hc Q (wx ⟨[(4, .O false)], [], [(0, .sl rR0 decls_), (1, .sl rR1 g_.Diffs), (2, .sl (rP (rI .i64) (rI .i64)) g_.Equals)], 4⟩ J 6 (wn ?_))
   cases h
   exact we J Tryz.func154 [] Q Q Q Q
  refine wo ?_
  refine wI (σ := Int) (fun st => ⟨[(0, .S 0), (3, .B 3 0), (8, .I st)], [(3, .box [.sl 1, .sl 2] 92)], [(0, .sl rR0 decls_), (1, .sl rR1 g_.Diffs), (2, .sl (rP (rI .i64) (rI .i64)) g_.Equals)], 4⟩) (fun n st => z154_l2 N decls_ g_ n st) (r := r) (fun _ => rfl) ?_ (fun ih => ?_)
  ·intro n3 ih5
   intro d h
   replace h : z154_l2 N decls_ g_ (n3 + 1) d = some r := h
   unfold z154_l2 at h
   refine wq (wq (wg (wx ⟨[(0, .S 0), (3, .B 3 0), (8, .I d), (57, .O (decide (d < (g_.Equals.length : Int))))], [(3, .box [.sl 1, .sl 2] 92)], [(0, .sl rR0 decls_), (1, .sl rR1 g_.Diffs), (2, .sl (rP (rI .i64) (rI .i64)) g_.Equals)], 4⟩ J 5 (wn ?_))))
   rcases oc' h with ⟨hc, h⟩ | ⟨hc, h⟩
   ·exact wf hc Q (wz rfl (wu [] (j3 () h) Q Q Q Q))
   refine wt hc Q (wi (wq (wo (wq (wg (xw (rg 4 16) ⟨[(0, .S 0), (3, .B 3 0), (8, .I d), (60, .S 0), (62, .S 2), (63, .I d)], [(3, .box [.sl 1, .sl 2] 92)], [(0, .sl rR0 decls_), (1, .sl rR1 g_.Diffs), (2, .sl (rP (rI .i64) (rI .i64)) g_.Equals)], 4⟩ J 4 ?_))))))
   obtain ⟨e, f, h⟩ := ob h
   refine wj (oP (oI .i64) (oI .i64)) J f Q Q Q Q Q Q Q Q Q (WPr.axp (len := 2) (el := 3) (es := 1) 0 Q Q Q Q Q (by kernel_rfl) (by kernel_rfl) Q Q (Or.inl ⟨_, rfl⟩) Q Q (xw (rg 7 13) ⟨[(0, .S 0), (3, .B 3 0), (8, .I d), (60, .S 0), (66, .I e.1)], [(3, .box [.sl 1, .sl 2] 92)], [(0, .sl rR0 decls_), (1, .sl rR1 g_.Diffs), (2, .sl (rP (rI .i64) (rI .i64)) g_.Equals)], 5⟩ J 1 ?_))
   obtain ⟨g, i, h⟩ := ob h
   refine wc (z172_ct N decls_ e.1 _ i) [(0, .sl 0)] [] Q Q Q Q Q Q Q Q (.inl rfl) rfl (xw (rg 10 10) ⟨[(0, .S 0), (3, .B 3 0), (8, .I d), (69, .O (!g))], [(3, .box [.sl 1, .sl 2] 92)], [(0, .sl rR0 decls_), (1, .sl rR1 g_.Diffs), (2, .sl (rP (rI .i64) (rI .i64)) g_.Equals)], 5⟩ J 2 ?_)
   rcases oc h with ⟨hc, h⟩ | ⟨hc, h⟩
   ·refine wy 69 hc Q (wx ⟨[(0, .S 0), (3, .B 3 0), (8, .I d), (79, .O true)], [(3, .box [.sl 1, .sl 2] 92)], [(0, .sl rR0 decls_), (1, .sl rR1 g_.Diffs), (2, .sl (rP (rI .i64) (rI .i64)) g_.Equals)], 5⟩ J 10 (wn (wt Q Q (wq (wg (ws J 1 Q (wn ?_)))))))
    cases h
    exact we J Tryz.func154 [] Q Q Q Q
   refine wy 69 hc Q (xw (rg 14 6) ⟨[(0, .S 0), (3, .B 3 0), (8, .I d), (69, .O false), (70, .S 0), (72, .S 2), (73, .I d)], [(3, .box [.sl 1, .sl 2] 92)], [(0, .sl rR0 decls_), (1, .sl rR1 g_.Diffs), (2, .sl (rP (rI .i64) (rI .i64)) g_.Equals)], 5⟩ J 4 ?_)
   obtain ⟨j, k, h⟩ := ob h
   refine wj (oP (oI .i64) (oI .i64)) J k Q Q Q Q Q Q Q Q Q (WPr.axp (len := 2) (el := 3) (es := 1) 1 Q Q Q Q Q (by kernel_rfl) (by kernel_rfl) Q Q (Or.inl ⟨_, rfl⟩) Q Q (xw [17, 18, 19] ⟨[(0, .S 0), (3, .B 3 0), (8, .I d), (69, .O false), (70, .S 0), (76, .I j.2)], [(3, .box [.sl 1, .sl 2] 92)], [(0, .sl rR0 decls_), (1, .sl rR1 g_.Diffs), (2, .sl (rP (rI .i64) (rI .i64)) g_.Equals)], 6⟩ J 1 ?_))
   obtain ⟨l, m, h⟩ := ob h
   refine wc (z172_ct N decls_ j.2 _ m) [(0, .sl 0)] [] Q Q Q Q Q Q Q Q (.inl rfl) rfl (wx ⟨[(0, .S 0), (3, .B 3 0), (8, .I d), (79, .O (!l))], [(3, .box [.sl 1, .sl 2] 92)], [(0, .sl rR0 decls_), (1, .sl rR1 g_.Diffs), (2, .sl (rP (rI .i64) (rI .i64)) g_.Equals)], 6⟩ J 2 (wn ?_))
   rcases oc h with ⟨hc, h⟩ | ⟨hc, h⟩
   ·refine wt hc Q (wq (wg (ws J 1 Q (wn ?_))))
    cases h
    exact we J Tryz.func154 [] Q Q Q Q
   exact wf hc Q (wi (wb (wg (wx ⟨[(0, .S 0), (3, .B 3 0), (8, .I (w64 (d + 1)))], [(3, .box [.sl 1, .sl 2] 92)], [(0, .sl rR0 decls_), (1, .sl rR1 g_.Diffs), (2, .sl (rP (rI .i64) (rI .i64)) g_.Equals)], 6⟩ J 3 (wn (wu [] (ih5 (w64 (d + 1)) h) Q Q Q Q))))))
  exact wu [] (ih N 0 h) Q Q Q Q
 refine wo ?_
 refine wI (σ := Int) (fun st => ⟨[(0, .S 0), (3, .B 3 0), (5, .I x1), (6, .I st)], [(3, .box [.sl 1, .sl 2] 92)], [(0, .sl rR0 decls_), (1, .sl rR1 g_.Diffs), (2, .sl (rP (rI .i64) (rI .i64)) g_.Equals)], 4⟩) (fun n st => z154_l4 N decls_ g_ x1 n st) (r := r) (fun _ => rfl) ?_ (fun ih => ?_)
 ·intro n4 ih6
  intro o h
  replace h : z154_l4 N decls_ g_ x1 (n4 + 1) o = some r := h
  unfold z154_l4 at h
  refine wq (wq (wg (wx ⟨[(0, .S 0), (3, .B 3 0), (5, .I x1), (6, .I o), (15, .O (decide (o < (g_.Diffs.length : Int))))], [(3, .box [.sl 1, .sl 2] 92)], [(0, .sl rR0 decls_), (1, .sl rR1 g_.Diffs), (2, .sl (rP (rI .i64) (rI .i64)) g_.Equals)], 4⟩ J 5 (wn ?_))))
  rcases oc' h with ⟨hc, h⟩ | ⟨hc, h⟩
  ·exact wf hc Q (wz rfl (wu [] (j1 () h) Q Q Q Q))
  refine wt hc Q (wi (wq (wo (wq (wg (xw [3, 4, 5, 6] ⟨[(0, .S 0), (3, .B 3 0), (5, .I x1), (6, .I o), (19, .S 1), (20, .I o)], [(3, .box [.sl 1, .sl 2] 92)], [(0, .sl rR0 decls_), (1, .sl rR1 g_.Diffs), (2, .sl (rP (rI .i64) (rI .i64)) g_.Equals)], 4⟩ J 3 ?_))))))
  obtain ⟨p, q, h⟩ := ob h
  refine wj oO1 J q Q Q Q Q Q Q Q Q Q (wx ⟨[(0, .S 0), (3, .B 3 0), (5, .I x1), (6, .I o), (7, .B 5 0)], [(3, .box [.sl 1, .sl 2] 92), (5, .box (cC1 p) 144)], [(0, .sl rR0 decls_), (1, .sl rR1 g_.Diffs), (2, .sl (rP (rI .i64) (rI .i64)) g_.Equals)], 6⟩ J 3 (wn (wq (wg (xw (rg 4 26) ⟨[(0, .S 0), (3, .B 3 0), (5, .I x1), (6, .I o), (7, .B 5 0), (26, .O (decide (p.X < (-1))))], [(3, .box [.sl 1, .sl 2] 92), (5, .box (cC1 p) 144)], [(0, .sl rR0 decls_), (1, .sl rR1 g_.Diffs), (2, .sl (rP (rI .i64) (rI .i64)) g_.Equals)], 6⟩ J 4 ?_)))))
  rcases oc h with ⟨hc, h⟩ | ⟨hc, h⟩
  ·refine wy 26 hc Q (wx ⟨[(0, .S 0), (3, .B 3 0), (5, .I x1), (6, .I o), (52, .O true)], [(3, .box [.sl 1, .sl 2] 92)], [(0, .sl rR0 decls_), (1, .sl rR1 g_.Diffs), (2, .sl (rP (rI .i64) (rI .i64)) g_.Equals)], 6⟩ J 26 (wn (wt Q Q (wq (wg (ws J 1 Q (wn ?_)))))))
   cases h
   exact we J Tryz.func154 [] Q Q Q Q
  refine wy 26 hc Q (xw (rg 10 20) ⟨[(0, .S 0), (3, .B 3 0), (5, .I x1), (6, .I o), (7, .B 5 0), (32, .O (decide (p.X ≥ x1)))], [(3, .box [.sl 1, .sl 2] 92), (5, .box (cC1 p) 144)], [(0, .sl rR0 decls_), (1, .sl rR1 g_.Diffs), (2, .sl (rP (rI .i64) (rI .i64)) g_.Equals)], 6⟩ J 6 ?_)
  rcases oc h with ⟨hc, h⟩ | ⟨hc, h⟩
  ·refine wy 32 hc Q (wx ⟨[(0, .S 0), (3, .B 3 0), (5, .I x1), (6, .I o), (52, .O true)], [(3, .box [.sl 1, .sl 2] 92)], [(0, .sl rR0 decls_), (1, .sl rR1 g_.Diffs), (2, .sl (rP (rI .i64) (rI .i64)) g_.Equals)], 6⟩ J 20 (wn (wt Q Q (wq (wg (ws J 1 Q (wn ?_)))))))
   cases h
   exact we J Tryz.func154 [] Q Q Q Q
  refine wy 32 hc Q (xw (rg 15 15) ⟨[(0, .S 0), (3, .B 3 0), (5, .I x1), (6, .I o), (7, .B 5 0), (37, .O (decide (p.Y < (-1))))], [(3, .box [.sl 1, .sl 2] 92), (5, .box (cC1 p) 144)], [(0, .sl rR0 decls_), (1, .sl rR1 g_.Diffs), (2, .sl (rP (rI .i64) (rI .i64)) g_.Equals)], 6⟩ J 5 ?_)
  rcases oc h with ⟨hc, h⟩ | ⟨hc, h⟩
  ·refine wy 37 hc Q (wx ⟨[(0, .S 0), (3, .B 3 0), (5, .I x1), (6, .I o), (52, .O true)], [(3, .box [.sl 1, .sl 2] 92)], [(0, .sl rR0 decls_), (1, .sl rR1 g_.Diffs), (2, .sl (rP (rI .i64) (rI .i64)) g_.Equals)], 6⟩ J 15 (wn (wt Q Q (wq (wg (ws J 1 Q (wn ?_)))))))
   cases h
   exact we J Tryz.func154 [] Q Q Q Q
  refine wy 37 hc Q (xw (rg 21 9) ⟨[(0, .S 0), (3, .B 3 0), (5, .I x1), (6, .I o), (7, .B 5 0), (43, .O (decide (p.Y ≥ x1)))], [(3, .box [.sl 1, .sl 2] 92), (5, .box (cC1 p) 144)], [(0, .sl rR0 decls_), (1, .sl rR1 g_.Diffs), (2, .sl (rP (rI .i64) (rI .i64)) g_.Equals)], 6⟩ J 6 ?_)
  rcases oc h with ⟨hc, h⟩ | ⟨hc, h⟩
  ·refine wy 43 hc Q (wx ⟨[(0, .S 0), (3, .B 3 0), (5, .I x1), (6, .I o), (52, .O true)], [(3, .box [.sl 1, .sl 2] 92)], [(0, .sl rR0 decls_), (1, .sl rR1 g_.Diffs), (2, .sl (rP (rI .i64) (rI .i64)) g_.Equals)], 6⟩ J 9 (wn (wt Q Q (wq (wg (ws J 1 Q (wn ?_)))))))
   cases h
   exact we J Tryz.func154 [] Q Q Q Q
  refine wy 43 hc Q (xw [26, 27, 28, 29] ⟨[(0, .S 0), (3, .B 3 0), (5, .I x1), (6, .I o), (7, .B 5 0), (48, .O (decide (p.C < (-20000))))], [(3, .box [.sl 1, .sl 2] 92), (5, .box (cC1 p) 144)], [(0, .sl rR0 decls_), (1, .sl rR1 g_.Diffs), (2, .sl (rP (rI .i64) (rI .i64)) g_.Equals)], 6⟩ J 5 ?_)
  rcases oc h with ⟨hc, h⟩ | ⟨hc, h⟩
  ·refine wy 48 hc Q (wx ⟨[(0, .S 0), (3, .B 3 0), (5, .I x1), (6, .I o), (52, .O true)], [(3, .box [.sl 1, .sl 2] 92)], [(0, .sl rR0 decls_), (1, .sl rR1 g_.Diffs), (2, .sl (rP (rI .i64) (rI .i64)) g_.Equals)], 6⟩ J 4 (wn (wt Q Q (wq (wg (ws J 1 Q (wn ?_)))))))
   cases h
   exact we J Tryz.func154 [] Q Q Q Q
  refine wy 48 hc Q (wx ⟨[(0, .S 0), (3, .B 3 0), (5, .I x1), (6, .I o), (52, .O (decide (p.C > 20000)))], [(3, .box [.sl 1, .sl 2] 92)], [(0, .sl rR0 decls_), (1, .sl rR1 g_.Diffs), (2, .sl (rP (rI .i64) (rI .i64)) g_.Equals)], 6⟩ J 4 (wn ?_))
  rcases oc h with ⟨hc, h⟩ | ⟨hc, h⟩
  ·refine wt hc Q (wq (wg (ws J 1 Q (wn ?_))))
   cases h
   exact we J Tryz.func154 [] Q Q Q Q
  exact wf hc Q (wi (wb (wg (wx ⟨[(0, .S 0), (3, .B 3 0), (5, .I x1), (6, .I (w64 (o + 1)))], [(3, .box [.sl 1, .sl 2] 92)], [(0, .sl rR0 decls_), (1, .sl rR1 g_.Diffs), (2, .sl (rP (rI .i64) (rI .i64)) g_.Equals)], 6⟩ J 3 (wn (wu [] (ih6 (w64 (o + 1)) h) Q Q Q Q))))))
 exact wu [] (ih N 0 h) Q Q Q Q
theorem z113_ct (N : Nat) (decls_ : (List T0)) (r : Bool) (h : z113 N decls_ = some r) :
 Fn Tryz.prog 113 ⟨1, [.S 0], [(0, .sl rR0 decls_)], [], 1, .O r, [], []⟩ := by
 refine Fn.intro _ _ Tryz.func113 rfl (by kernel_rfl) rfl (fun E F w => ?_)
 unfold z113 at h
 refine wq (wg (ws J 1 Q (wn (wq (wq (wg (xw [4, 5, 6, 7] ⟨[(0, .S 0), (2, .O false), (12, .O (decide ((decls_.length : Int) > 40)))], [], [(0, .sl rR0 decls_)], 1⟩ J 4 ?_)))))))
 rcases oc h with ⟨hc, h⟩ | ⟨hc, h⟩
 ·refine wy 12 hc Q (wx ⟨[(0, .S 0), (2, .O false), (16, .O true)], [], [(0, .sl rR0 decls_)], 1⟩ J 4 (wn (wt Q Q (wq (wg (ws J 1 Q (wn ?_)))))))
  cases h
  exact we J Tryz.func113 [] Q Q Q Q
 refine wy 12 hc Q (ws J 1 Q ?_)
 obtain ⟨x1, d, h⟩ := ob h
 refine wc (z151_ct N decls_ _ d) [(0, .sl 0)] [] Q Q Q Q Q Q Q Q (.inl rfl) rfl (wx ⟨[(0, .S 0), (2, .O false), (16, .O (decide (x1 > 24)))], [], [(0, .sl rR0 decls_)], 1⟩ J 2 (wn ?_))
 rcases oc h with ⟨hc, h⟩ | ⟨hc, h⟩
 ·refine wt hc Q (wq (wg (ws J 1 Q (wn ?_))))
  cases h
  exact we J Tryz.func113 [] Q Q Q Q
 refine wf hc Q (wi (wq (wg (ws J 1 Q (wn (wq (wq (wg (ws J 1 Q (wn ?_))))))))))
 refine wC (σ := Unit) (fun st => ⟨[], [], [(0, .sl rR0 decls_)], 1⟩) (fun st => z113_k1 = some r) ?_ (fun j1 => ?_)
 ·intro _ h
  replace h : z113_k1 = some r := h
  unfold z113_k1 at h
  refine wq (wg (ws J 1 Q (wn ?_)))
  cases h
  exact we J Tryz.func113 [] Q Q Q Q
 refine wo ?_
 refine wI (σ := Int × Int) (fun st => ⟨[(0, .S 0), (3, .I st.1), (4, .I st.2)], [], [(0, .sl rR0 decls_)], 1⟩) (fun n st => z113_l2 N decls_ n st.1 st.2) (r := r) (fun _ => rfl) ?_ (fun ih => ?_)
 ·intro n82 ih75
  rintro ⟨e, f⟩ h
  replace h : z113_l2 N decls_ (n82 + 1) e f = some r := h
  unfold z113_l2 at h
  refine wq (wq (wg (wx ⟨[(0, .S 0), (3, .I e), (4, .I f), (20, .O (decide (f < (decls_.length : Int))))], [], [(0, .sl rR0 decls_)], 1⟩ J 4 (wn ?_))))
  rcases oc' h with ⟨hc, h⟩ | ⟨hc, h⟩
  ·exact wf hc Q (wz rfl (wu [] (j1 () h) Q Q Q Q))
  refine wt hc Q (wi (wq (wo (wq (wg (ws J 2 Q ?_))))))
  obtain ⟨g, i, h⟩ := ob h
  refine wj oO0 J i Q Q Q Q Q Q Q Q Q (wx ⟨[(0, .S 0), (3, .I e), (4, .I f), (5, .B 5 0)], [(5, .box (cC0 2 3 4 g) 94)], ((0, .sl rR0 decls_) :: vV0 2 3 4 g []), 6⟩ J 3 (wn (wq (wq (wg (ws J 1 Q (wn ?_)))))))
  refine wC (σ := Unit) (fun st => ⟨[(0, .S 0), (3, .I e), (4, .I f), (5, .B 5 0)], [(5, .box (cC0 2 3 4 g) 94)], ((0, .sl rR0 decls_) :: vV0 2 3 4 g []), 6⟩) (fun st => z113_k7 N decls_ e f (z113_l2 N decls_ n82) g = some r) ?_ (fun j124 => ?_)
  ·intro _ h
   replace h : z113_k7 N decls_ e f (z113_l2 N decls_ n82) g = some r := h
   unfold z113_k7 at h
   refine wq (wq (wg (ws J 1 Q (wn ?_))))
   refine wC (σ := Unit) (fun st => ⟨[(0, .S 0), (3, .I e), (4, .I f), (5, .B 5 0)], [(5, .box (cC0 2 3 4 g) 94)], ((0, .sl rR0 decls_) :: vV0 2 3 4 g []), 6⟩) (fun st => z113_k3 N decls_ e f (z113_l2 N decls_ n82) g = some r) ?_ (fun j126 => ?_)
   ·intro _ h
    replace h : z113_k3 N decls_ e f (z113_l2 N decls_ n82) g = some r := h
    unfold z113_k3 at h
    refine wq (wq (wg (ws J 2 Q ?_)))
    obtain ⟨j, k, h⟩ := ob h
    refine wc (z153_ct N g.Name _ k) [] [] Q Q Q Q Q Q Q Q (.inl rfl) rfl (xw (rg 5 18) ⟨[(0, .S 0), (3, .I e), (4, .I f), (5, .B 5 0), (87, .O (!j))], [(5, .box (cC0 2 3 4 g) 94)], ((0, .sl rR0 decls_) :: vV0 2 3 4 g []), 6⟩ J 2 ?_)
    rcases oc h with ⟨hc, h⟩ | ⟨hc, h⟩
    ·refine wy 87 hc Q (wx ⟨[(0, .S 0), (3, .I e), (4, .I f), (5, .B 5 0), (105, .O true)], [(5, .box (cC0 2 3 4 g) 94)], ((0, .sl rR0 decls_) :: vV0 2 3 4 g []), 6⟩ J 18 (wn (wt Q Q (wq (wg (ws J 1 Q (wn ?_)))))))
     cases h
     exact we J Tryz.func113 [] Q Q Q Q
    refine wy 87 hc Q (xw (rg 11 12) ⟨[(0, .S 0), (3, .I e), (4, .I f), (5, .B 5 0), (93, .O (decide ((g.Fields.length : Int) > 4)))], [(5, .box (cC0 2 3 4 g) 94)], ((0, .sl rR0 decls_) :: vV0 2 3 4 g []), 6⟩ J 6 ?_)
    rcases oc h with ⟨hc, h⟩ | ⟨hc, h⟩
    ·refine wy 93 hc Q (wx ⟨[(0, .S 0), (3, .I e), (4, .I f), (5, .B 5 0), (105, .O true)], [(5, .box (cC0 2 3 4 g) 94)], ((0, .sl rR0 decls_) :: vV0 2 3 4 g []), 6⟩ J 12 (wn (wt Q Q (wq (wg (ws J 1 Q (wn ?_)))))))
     cases h
     exact we J Tryz.func113 [] Q Q Q Q
    refine wy 93 hc Q (xw (rg 17 6) ⟨[(0, .S 0), (3, .I e), (4, .I f), (5, .B 5 0), (99, .O (g.First != e))], [(5, .box (cC0 2 3 4 g) 94)], ((0, .sl rR0 decls_) :: vV0 2 3 4 g []), 6⟩ J 6 ?_)
    rcases oc h with ⟨hc, h⟩ | ⟨hc, h⟩
    ·refine wy 99 hc Q (wx ⟨[(0, .S 0), (3, .I e), (4, .I f), (5, .B 5 0), (105, .O true)], [(5, .box (cC0 2 3 4 g) 94)], ((0, .sl rR0 decls_) :: vV0 2 3 4 g []), 6⟩ J 6 (wn (wt Q Q (wq (wg (ws J 1 Q (wn ?_)))))))
     cases h
     exact we J Tryz.func113 [] Q Q Q Q
    refine wy 99 hc Q (xw [20, 21, 22] ⟨[(0, .S 0), (3, .I e), (4, .I f), (5, .B 5 0), (99, .O false), (100, .S 0), (102, .a [.sl 3, .sl 4])], [(5, .box (cC0 2 3 4 g) 94)], ((0, .sl rR0 decls_) :: vV0 2 3 4 g []), 6⟩ J 3 ?_)
    obtain ⟨l, m, h⟩ := ob h
    refine wc (z154_ct N decls_ g.Guard _ m) [(0, .sl 0), (1, .sl 3), (2, .sl 4)] [] Q Q Q Q Q Q Q Q (.inl rfl) rfl (wx ⟨[(0, .S 0), (3, .I e), (4, .I f), (5, .B 5 0), (105, .O (!l))], [(5, .box (cC0 2 3 4 g) 94)], ((0, .sl rR0 decls_) :: vV0 2 3 4 g []), 6⟩ J 2 (wn ?_))
    rcases oc h with ⟨hc, h⟩ | ⟨hc, h⟩
    ·refine wt hc Q (wq (wg (ws J 1 Q (wn ?_))))
     cases h
     exact we J Tryz.func113 [] Q Q Q Q
    exact wf hc Q (wi (wg (wx ⟨[(0, .S 0), (3, .I (w64 (e + (g.Fields.length : Int)))), (4, .I f)], [], [(0, .sl rR0 decls_)], 6⟩ J 6 (wn (wb (wg (wx ⟨[(0, .S 0), (3, .I (w64 (e + (g.Fields.length : Int)))), (4, .I (w64 (f + 1)))], [], [(0, .sl rR0 decls_)], 6⟩ J 3 (wn (wu [] (ih75 ((w64 (e + (g.Fields.length : Int))), (w64 (f + 1))) h) Q Q Q Q)))))))))
   refine wo ?_
   refine wI (σ := Int) (fun st => ⟨[(0, .S 0), (3, .I e), (4, .I f), (5, .B 5 0), (7, .I st)], [(5, .box (cC0 2 3 4 g) 94)], ((0, .sl rR0 decls_) :: vV0 2 3 4 g []), 6⟩) (fun n st => z113_l4 N decls_ e f (z113_l2 N decls_ n82) g n st) (r := r) (fun _ => rfl) ?_ (fun ih => ?_)
   ·intro n95 ih137
    intro o h
    replace h : z113_l4 N decls_ e f (z113_l2 N decls_ n82) g (n95 + 1) o = some r := h
    unfold z113_l4 at h
    refine wq (wq (wg (wx ⟨[(0, .S 0), (3, .I e), (4, .I f), (5, .B 5 0), (7, .I o), (44, .O (decide (o < (g.Fields.length : Int))))], [(5, .box (cC0 2 3 4 g) 94)], ((0, .sl rR0 decls_) :: vV0 2 3 4 g []), 6⟩ J 5 (wn ?_))))
    rcases oc' h with ⟨hc, h⟩ | ⟨hc, h⟩
    ·exact wf hc Q (wz rfl (wu [] (j126 () h) Q Q Q Q))
    refine wt hc Q (wi (wq (wo (wq (wq (wg (xw (rg 3 15) ⟨[(0, .S 0), (3, .I e), (4, .I f), (5, .B 5 0), (7, .I o), (48, .S 2), (49, .I o)], [(5, .box (cC0 2 3 4 g) 94)], ((0, .sl rR0 decls_) :: vV0 2 3 4 g []), 6⟩ J 3 ?_)))))))
    obtain ⟨p, q, h⟩ := ob h
    refine wj oO3 J q Q Q Q Q Q Q Q Q Q (xw (rg 6 12) ⟨[(0, .S 0), (3, .I e), (4, .I f), (5, .B 5 0), (7, .I o), (52, .a (cC7 p.Sort'))], [(5, .box (cC0 2 3 4 g) 94)], ((0, .sl rR0 decls_) :: vV0 2 3 4 g []), 7⟩ J 2 ?_)
    obtain ⟨t, u, h⟩ := ob h
    refine wc (z152_ct N p.Sort' _ u) [] [] Q Q Q Q Q Q Q Q (.inl rfl) rfl (xw (rg 9 9) ⟨[(0, .S 0), (3, .I e), (4, .I f), (5, .B 5 0), (7, .I o), (55, .O (!t))], [(5, .box (cC0 2 3 4 g) 94)], ((0, .sl rR0 decls_) :: vV0 2 3 4 g []), 7⟩ J 2 ?_)
    rcases oc h with ⟨hc, h⟩ | ⟨hc, h⟩
    ·refine wy 55 hc Q (wx ⟨[(0, .S 0), (3, .I e), (4, .I f), (5, .B 5 0), (7, .I o), (64, .O true)], [(5, .box (cC0 2 3 4 g) 94)], ((0, .sl rR0 decls_) :: vV0 2 3 4 g []), 7⟩ J 9 (wn (wt Q Q (wq (wg (ws J 1 Q (wn ?_)))))))
     cases h
     exact we J Tryz.func113 [] Q Q Q Q
    refine wy 55 hc Q (xw (rg 12 6) ⟨[(0, .S 0), (3, .I e), (4, .I f), (5, .B 5 0), (7, .I o), (55, .O false), (57, .S 2), (58, .I o)], [(5, .box (cC0 2 3 4 g) 94)], ((0, .sl rR0 decls_) :: vV0 2 3 4 g []), 7⟩ J 3 ?_)
    obtain ⟨v, x, h⟩ := ob h
    refine wj oO3 J x Q Q Q Q Q Q Q Q Q (xw [15, 16, 17] ⟨[(0, .S 0), (3, .I e), (4, .I f), (5, .B 5 0), (7, .I o), (55, .O false), (61, .c (.s v.Name))], [(5, .box (cC0 2 3 4 g) 94)], ((0, .sl rR0 decls_) :: vV0 2 3 4 g []), 8⟩ J 2 ?_)
    obtain ⟨y, z, h⟩ := ob h
    refine wc (z112_ct N v.Name _ z) [] [] Q Q Q Q Q Q Q Q (.inl rfl) rfl (wx ⟨[(0, .S 0), (3, .I e), (4, .I f), (5, .B 5 0), (7, .I o), (64, .O (!y))], [(5, .box (cC0 2 3 4 g) 94)], ((0, .sl rR0 decls_) :: vV0 2 3 4 g []), 8⟩ J 2 (wn ?_))
    rcases oc h with ⟨hc, h⟩ | ⟨hc, h⟩
    ·refine wt hc Q (wq (wg (ws J 1 Q (wn ?_))))
     cases h
     exact we J Tryz.func113 [] Q Q Q Q
    refine wf hc Q (wi (wq (wg (ws J 1 Q (wn ?_)))))
    refine wC (σ := Unit) (fun st => ⟨[(0, .S 0), (3, .I e), (4, .I f), (5, .B 5 0), (7, .I o)], [(5, .box (cC0 2 3 4 g) 94)], ((0, .sl rR0 decls_) :: vV0 2 3 4 g []), 8⟩) (fun st => z113_k5 o (z113_l4 N decls_ e f (z113_l2 N decls_ n82) g n95) = some r) ?_ (fun j144 => ?_)
    ·intro _ h
     replace h : z113_k5 o (z113_l4 N decls_ e f (z113_l2 N decls_ n82) g n95) = some r := h
     unfold z113_k5 at h
     exact wb (wg (wx ⟨[(0, .S 0), (3, .I e), (4, .I f), (5, .B 5 0), (7, .I (w64 (o + 1)))], [(5, .box (cC0 2 3 4 g) 94)], ((0, .sl rR0 decls_) :: vV0 2 3 4 g []), 8⟩ J 3 (wn (wu [] (ih137 (w64 (o + 1)) h) Q Q Q Q))))
    refine wo ?_
    refine wI (σ := Int) (fun st => ⟨[(0, .S 0), (3, .I e), (4, .I f), (5, .B 5 0), (7, .I o), (8, .I st)], [(5, .box (cC0 2 3 4 g) 94)], ((0, .sl rR0 decls_) :: vV0 2 3 4 g []), 8⟩) (fun n st => z113_l6 g o (z113_l4 N decls_ e f (z113_l2 N decls_ n82) g n95) n st) (r := r) (fun _ => rfl) ?_ (fun ih => ?_)
    ·intro n97 ih146
     intro A h
     replace h : z113_l6 g o (z113_l4 N decls_ e f (z113_l2 N decls_ n82) g n95) (n97 + 1) A = some r := h
     unfold z113_l6 at h
     refine wq (wq (wg (wx ⟨[(0, .S 0), (3, .I e), (4, .I f), (5, .B 5 0), (7, .I o), (8, .I A), (67, .O (decide (A < o)))], [(5, .box (cC0 2 3 4 g) 94)], ((0, .sl rR0 decls_) :: vV0 2 3 4 g []), 8⟩ J 3 (wn ?_))))
     rcases oc' h with ⟨hc, h⟩ | ⟨hc, h⟩
     ·exact wf hc Q (wz rfl (wu [] (j144 () h) Q Q Q Q))
     refine wt hc Q (wi (wq (wo (wq (wQ (by kernel_rfl) (by kernel_rfl) (xq (rg 3 10) ⟨[(0, .S 0), (3, .I e), (4, .I f), (5, .B 5 0), (7, .I o), (8, .I A), (71, .S 2), (72, .I A)], [(5, .box (cC0 2 3 4 g) 94)], ((0, .sl rR0 decls_) :: vV0 2 3 4 g []), 8⟩ J 3 ?_))))))
     obtain ⟨C, D, h⟩ := ob h
     refine WPq.op Q Q (VN.vs (VN.ix oO3 J D Q Q Q Q Q Q Q)) (xq [9, 10, 11, 12] ⟨[(0, .S 0), (3, .I e), (4, .I f), (5, .B 5 0), (7, .I o), (8, .I A), (75, .c (.s C.Name)), (77, .S 2), (78, .I o)], [(5, .box (cC0 2 3 4 g) 94)], ((0, .sl rR0 decls_) :: vV0 2 3 4 g []), 9⟩ J 5 ?_)
     obtain ⟨G, H, h⟩ := ob h
     refine WPq.op Q Q (VN.vs (VN.ix oO3 J H Q Q Q Q Q Q Q)) (qx ⟨[(0, .S 0), (3, .I e), (4, .I f), (5, .B 5 0), (7, .I o), (8, .I A), (82, .O (C.Name.toList == G.Name.toList))], [(5, .box (cC0 2 3 4 g) 94)], ((0, .sl rR0 decls_) :: vV0 2 3 4 g []), 10⟩ J 3 (qn ?_))
     rcases oc h with ⟨hc, h⟩ | ⟨hc, h⟩
     ·refine wt hc Q (wq (wg (ws J 1 Q (wn ?_))))
      cases h
      exact we J Tryz.func113 [] Q Q Q Q
     exact wf hc Q (wi (wb (wg (wx ⟨[(0, .S 0), (3, .I e), (4, .I f), (5, .B 5 0), (7, .I o), (8, .I (w64 (A + 1)))], [(5, .box (cC0 2 3 4 g) 94)], ((0, .sl rR0 decls_) :: vV0 2 3 4 g []), 10⟩ J 3 (wn (wu [] (ih146 (w64 (A + 1)) h) Q Q Q Q))))))
    exact wu [] (ih N 0 h) Q Q Q Q
   exact wu [] (ih N 0 h) Q Q Q Q
  refine wo ?_
  refine wI (σ := Int) (fun st => ⟨[(0, .S 0), (3, .I e), (4, .I f), (5, .B 5 0), (6, .I st)], [(5, .box (cC0 2 3 4 g) 94)], ((0, .sl rR0 decls_) :: vV0 2 3 4 g []), 6⟩) (fun n st => z113_l8 N decls_ e f (z113_l2 N decls_ n82) g n st) (r := r) (fun _ => rfl) ?_ (fun ih => ?_)
  ·intro n98 ih147
   intro K h
   replace h : z113_l8 N decls_ e f (z113_l2 N decls_ n82) g (n98 + 1) K = some r := h
   unfold z113_l8 at h
   refine wq (wq (wg (wx ⟨[(0, .S 0), (3, .I e), (4, .I f), (5, .B 5 0), (6, .I K), (29, .O (decide (K < f)))], [(5, .box (cC0 2 3 4 g) 94)], ((0, .sl rR0 decls_) :: vV0 2 3 4 g []), 6⟩ J 3 (wn ?_))))
   rcases oc' h with ⟨hc, h⟩ | ⟨hc, h⟩
   ·exact wf hc Q (wz rfl (wu [] (j124 () h) Q Q Q Q))
   refine wt hc Q (wi (wq (wo (wq (wQ (by kernel_rfl) (by kernel_rfl) (WPq.sil J 2 rfl ?_))))))
   obtain ⟨R, T, h⟩ := ob h
   refine WPq.op Q Q (VN.vs (VN.ix oO0 J T Q Q Q Q Q Q Q)) (qx ⟨[(0, .S 0), (3, .I e), (4, .I f), (5, .B 5 0), (6, .I K), (39, .O (R.Name.toList == g.Name.toList))], [(5, .box (cC0 2 3 4 g) 94)], ((0, .sl rR0 decls_) :: vV0 2 3 4 g []), 10⟩ J 5 (qn ?_))
   rcases oc h with ⟨hc, h⟩ | ⟨hc, h⟩
   ·refine wt hc Q (wq (wg (ws J 1 Q (wn ?_))))
    cases h
    exact we J Tryz.func113 [] Q Q Q Q
   exact wf hc Q (wi (wb (wg (wx ⟨[(0, .S 0), (3, .I e), (4, .I f), (5, .B 5 0), (6, .I (w64 (K + 1)))], [(5, .box (cC0 2 3 4 g) 94)], ((0, .sl rR0 decls_) :: vV0 2 3 4 g []), 10⟩ J 3 (wn (wu [] (ih147 (w64 (K + 1)) h) Q Q Q Q))))))
  exact wu [] (ih N 0 h) Q Q Q Q
 exact wu [] (ih N (0, 0) h) Q Q Q Q
theorem z51_ct (N : Nat) (g_ : T4) (r : Bool) (h : z51 N g_ = some r) :
 Fn Tryz.prog 51 ⟨4, [.a (cC4 0 1 2 3 g_)], (vV4 0 1 2 3 g_ []), [], 4, .O r, [], []⟩ := by
 refine Fn.intro _ _ Tryz.func51 rfl (by kernel_rfl) rfl (fun E F w => ?_)
 unfold z51 at h
 refine wq (wg (ws J 2 Q (wn (wq (wq (wg (wx ⟨[(1, .B 4 0), (2, .O false), (3, .I 0)], [(4, .box (cC4 0 1 2 3 g_) 27)], (vV4 0 1 2 3 g_ []), 5⟩ J 1 (wn ?_))))))))
 refine wC (σ := Unit) (fun st => ⟨[(1, .B 4 0)], [(4, .box (cC4 0 1 2 3 g_) 27)], (vV4 0 1 2 3 g_ []), 5⟩) (fun st => z51_k1 N g_ = some r) ?_ (fun j1 => ?_)
 ·intro _ h
  replace h : z51_k1 N g_ = some r := h
  unfold z51_k1 at h
  refine wq (wg (ws J 2 Q ?_))
  obtain ⟨c, d, h⟩ := ob h
  refine wc (z112_ct N g_.Name _ d) [] [] Q Q Q Q Q Q Q Q (.inl rfl) rfl (xw (rg 4 17) ⟨[(1, .B 4 0), (33, .O c)], [(4, .box (cC4 0 1 2 3 g_) 27)], (vV4 0 1 2 3 g_ []), 5⟩ J 1 ?_)
  rcases oc' h with ⟨hc, h⟩ | ⟨hc, h⟩
  ·refine wy 33 hc Q (wx ⟨[(2, .O false)], [], (vV4 0 1 2 3 g_ []), 5⟩ J 17 (wn ?_))
   cases h
   exact we J Tryz.func51 [] Q Q Q Q
  refine wy 33 hc Q (xw (rg 10 11) ⟨[(1, .B 4 0), (39, .O (decide ((g_.Roles.length : Int) ≥ 1)))], [(4, .box (cC4 0 1 2 3 g_) 27)], (vV4 0 1 2 3 g_ []), 5⟩ J 6 ?_)
  rcases oc' h with ⟨hc, h⟩ | ⟨hc, h⟩
  ·refine wy 39 hc Q (wx ⟨[(2, .O false)], [], (vV4 0 1 2 3 g_ []), 5⟩ J 11 (wn ?_))
   cases h
   exact we J Tryz.func51 [] Q Q Q Q
  refine wy 39 hc Q (xw [16, 17, 18, 19, 20] ⟨[(1, .B 4 0), (45, .O (decide ((g_.Roles.length : Int) ≤ 6)))], [(4, .box (cC4 0 1 2 3 g_) 27)], (vV4 0 1 2 3 g_ []), 5⟩ J 6 ?_)
  rcases oc' h with ⟨hc, h⟩ | ⟨hc, h⟩
  ·refine wy 45 hc Q (wx ⟨[(2, .O false)], [], (vV4 0 1 2 3 g_ []), 5⟩ J 5 (wn ?_))
   cases h
   exact we J Tryz.func51 [] Q Q Q Q
  refine wy 45 hc Q (ws J 2 Q ?_)
  obtain ⟨e, f, h⟩ := ob h
  refine wc (z113_ct N g_.Decls _ f) [(0, .sl 1)] [] Q Q Q Q Q Q Q Q (.inl rfl) rfl (wx ⟨[(2, .O e)], [], (vV4 0 1 2 3 g_ []), 5⟩ J 2 (wn ?_))
  cases h
  exact we J Tryz.func51 [] Q Q Q Q
 refine wo ?_
 refine wI (σ := Int) (fun st => ⟨[(1, .B 4 0), (3, .I st)], [(4, .box (cC4 0 1 2 3 g_) 27)], (vV4 0 1 2 3 g_ []), 5⟩) (fun n st => z51_l2 N g_ n st) (r := r) (fun _ => rfl) ?_ (fun ih => ?_)
 ·intro n2 ih3
  intro g h
  replace h : z51_l2 N g_ (n2 + 1) g = some r := h
  unfold z51_l2 at h
  refine wq (wq (wg (wx ⟨[(1, .B 4 0), (3, .I g), (8, .O (decide (g < (g_.Roles.length : Int))))], [(4, .box (cC4 0 1 2 3 g_) 27)], (vV4 0 1 2 3 g_ []), 5⟩ J 5 (wn ?_))))
  rcases oc' h with ⟨hc, h⟩ | ⟨hc, h⟩
  ·exact wf hc Q (wz rfl (wu [] (j1 () h) Q Q Q Q))
  refine wt hc Q (wi (wq (wo (wq (wQ (by kernel_rfl) (by kernel_rfl) (xq (rg 3 16) ⟨[(1, .B 4 0), (3, .I g), (12, .S 0), (13, .I g)], [(4, .box (cC4 0 1 2 3 g_) 27)], (vV4 0 1 2 3 g_ []), 5⟩ J 3 ?_))))))
  obtain ⟨i, j, h⟩ := ob h
  refine WPq.op Q Q (VN.vs (VN.ix oS J j Q Q Q Q Q Q Q)) (WPq.sil J 1 rfl ?_)
  obtain ⟨k, l, h⟩ := ob h
  refine qc (z112_ct N i _ l) [] [] Q Q Q Q Q Q Q Q Q Q Q Q (xq (rg 8 11) ⟨[(1, .B 4 0), (3, .I g), (18, .O (!k))], [(4, .box (cC4 0 1 2 3 g_) 27)], (vV4 0 1 2 3 g_ []), 6⟩ J 2 ?_)
  rcases oc h with ⟨hc, h⟩ | ⟨hc, h⟩
  ·refine qy 18 hc Q (qx ⟨[(1, .B 4 0), (3, .I g), (29, .O true)], [(4, .box (cC4 0 1 2 3 g_) 27)], (vV4 0 1 2 3 g_ []), 6⟩ J 11 (qn (wt Q Q (wq (wg (ws J 1 Q (wn ?_)))))))
   cases h
   exact we J Tryz.func51 [] Q Q Q Q
  refine qy 18 hc Q (xq (rg 13 6) ⟨[(1, .B 4 0), (3, .I g), (18, .O false), (20, .S 0), (22, .S 0), (23, .I g)], [(4, .box (cC4 0 1 2 3 g_) 27)], (vV4 0 1 2 3 g_ []), 6⟩ J 5 ?_)
  obtain ⟨m, o, h⟩ := ob h
  refine WPq.op Q Q (VN.vs (VN.ix oS J o Q Q Q Q Q Q Q)) (WPq.sil J 1 rfl ?_)
  obtain ⟨p, q, h⟩ := ob h
  refine qc (z76_ct N g_.Roles m _ q) [(0, .sl 0)] [] Q Q Q Q Q Q Q Q Q Q Q Q (qx ⟨[(1, .B 4 0), (3, .I g), (29, .O (decide (p < g)))], [(4, .box (cC4 0 1 2 3 g_) 27)], (vV4 0 1 2 3 g_ []), 7⟩ J 3 (qn ?_))
  rcases oc h with ⟨hc, h⟩ | ⟨hc, h⟩
  ·refine wt hc Q (wq (wg (ws J 1 Q (wn ?_))))
   cases h
   exact we J Tryz.func51 [] Q Q Q Q
  exact wf hc Q (wi (wb (wg (wx ⟨[(1, .B 4 0), (3, .I (w64 (g + 1)))], [(4, .box (cC4 0 1 2 3 g_) 27)], (vV4 0 1 2 3 g_ []), 7⟩ J 3 (wn (wu [] (ih3 (w64 (g + 1)) h) Q Q Q Q))))))
 exact wu [] (ih N 0 h) Q Q Q Q
theorem z114_ct (N : Nat) (g_ : T4) (s_ : Int) (r : Bool) (h : z114 N g_ s_ = some r) :
 Fn Tryz.prog 114 ⟨4, [.a (cC4 0 1 2 3 g_), .I s_], (vV4 0 1 2 3 g_ []), [], 4, .O r, [], []⟩ := by
 refine Fn.intro _ _ Tryz.func114 rfl (by kernel_rfl) rfl (fun E F w => ?_)
 unfold z114 at h
 refine wq (wg (ws J 2 Q (wn (wq (wg (xw (rg 3 6) ⟨[(1, .I s_), (2, .B 4 0), (7, .O (decide (s_ ≥ 0)))], [(4, .box (cC4 0 1 2 3 g_) 27)], (vV4 0 1 2 3 g_ []), 5⟩ J 3 ?_))))))
 rcases oc h with ⟨hc, h⟩ | ⟨hc, h⟩
 ·refine wy 7 hc Q (wx ⟨[(4, .O (decide (s_ < g_.States)))], [], (vV4 0 1 2 3 g_ []), 5⟩ J 6 (wn ?_))
  cases h
  exact we J Tryz.func114 [] Q Q Q Q
 refine wy 7 hc Q (wx ⟨[(4, .O false)], [], (vV4 0 1 2 3 g_ []), 5⟩ J 6 (wn ?_))
 cases h
 exact we J Tryz.func114 [] Q Q Q Q
theorem z52_ct (N : Nat) (g_ : T4) (r : Bool) (h : z52 N g_ = some r) :
 Fn Tryz.prog 52 ⟨4, [.a (cC4 0 1 2 3 g_)], (vV4 0 1 2 3 g_ []), [], 4, .O r, [], []⟩ := by
 refine Fn.intro _ _ Tryz.func52 rfl (by kernel_rfl) rfl (fun E F w => ?_)
 unfold z52 at h
 refine wq (wg (ws J 2 Q (wn (wq (wq (wg (wx ⟨[(1, .B 4 0), (2, .O false), (3, .I 0)], [(4, .box (cC4 0 1 2 3 g_) 27)], (vV4 0 1 2 3 g_ []), 5⟩ J 1 (wn ?_))))))))
 refine wC (σ := Unit) (fun st => ⟨[(1, .B 4 0)], [(4, .box (cC4 0 1 2 3 g_) 27)], (vV4 0 1 2 3 g_ []), 5⟩) (fun st => z52_k1 N g_ = some r) ?_ (fun j1 => ?_)
 ·intro _ h
  replace h : z52_k1 N g_ = some r := h
  unfold z52_k1 at h
  refine wq (wg (xw (rg 4 23) ⟨[(1, .B 4 0), (86, .O (decide (g_.States ≥ 1)))], [(4, .box (cC4 0 1 2 3 g_) 27)], (vV4 0 1 2 3 g_ []), 5⟩ J 4 ?_))
  rcases oc' h with ⟨hc, h⟩ | ⟨hc, h⟩
  ·refine wy 86 hc Q (wx ⟨[(2, .O false)], [], (vV4 0 1 2 3 g_ []), 5⟩ J 23 (wn ?_))
   cases h
   exact we J Tryz.func52 [] Q Q Q Q
  refine wy 86 hc Q (xw (rg 9 18) ⟨[(1, .B 4 0), (91, .O (decide (g_.States ≤ 200)))], [(4, .box (cC4 0 1 2 3 g_) 27)], (vV4 0 1 2 3 g_ []), 5⟩ J 5 ?_)
  rcases oc' h with ⟨hc, h⟩ | ⟨hc, h⟩
  ·refine wy 91 hc Q (wx ⟨[(2, .O false)], [], (vV4 0 1 2 3 g_ []), 5⟩ J 18 (wn ?_))
   cases h
   exact we J Tryz.func52 [] Q Q Q Q
  refine wy 91 hc Q (xw (rg 12 15) ⟨[(1, .B 4 0), (91, .O true), (92, .a (cC4 0 1 2 3 g_)), (94, .I g_.Start)], [(4, .box (cC4 0 1 2 3 g_) 27)], (vV4 0 1 2 3 g_ []), 5⟩ J 3 ?_)
  obtain ⟨c, d, h⟩ := ob h
  refine wc (z114_ct N g_ g_.Start _ d) [(0, .sl 0), (1, .sl 1), (2, .sl 2), (3, .sl 3)] [] Q Q Q Q Q Q Q Q (.inl rfl) rfl (xw (rg 15 12) ⟨[(1, .B 4 0), (97, .O c)], [(4, .box (cC4 0 1 2 3 g_) 27)], (vV4 0 1 2 3 g_ []), 5⟩ J 2 ?_)
  rcases oc' h with ⟨hc, h⟩ | ⟨hc, h⟩
  ·refine wy 97 hc Q (wx ⟨[(2, .O false)], [], (vV4 0 1 2 3 g_ []), 5⟩ J 12 (wn ?_))
   cases h
   exact we J Tryz.func52 [] Q Q Q Q
  refine wy 97 hc Q (xw (rg 18 9) ⟨[(1, .B 4 0), (97, .O true), (98, .a (cC4 0 1 2 3 g_)), (100, .I g_.End)], [(4, .box (cC4 0 1 2 3 g_) 27)], (vV4 0 1 2 3 g_ []), 5⟩ J 3 ?_)
  obtain ⟨e, f, h⟩ := ob h
  refine wc (z114_ct N g_ g_.End _ f) [(0, .sl 0), (1, .sl 1), (2, .sl 2), (3, .sl 3)] [] Q Q Q Q Q Q Q Q (.inl rfl) rfl (xw (rg 21 6) ⟨[(1, .B 4 0), (103, .O e)], [(4, .box (cC4 0 1 2 3 g_) 27)], (vV4 0 1 2 3 g_ []), 5⟩ J 2 ?_)
  rcases oc h with ⟨hc, h⟩ | ⟨hc, h⟩
  ·refine wy 103 hc Q (wx ⟨[(2, .O (decide ((g_.Edges.length : Int) ≤ 400)))], [], (vV4 0 1 2 3 g_ []), 5⟩ J 6 (wn ?_))
   cases h
   exact we J Tryz.func52 [] Q Q Q Q
  refine wy 103 hc Q (wx ⟨[(2, .O false)], [], (vV4 0 1 2 3 g_ []), 5⟩ J 6 (wn ?_))
  cases h
  exact we J Tryz.func52 [] Q Q Q Q
 refine wo ?_
 refine wI (σ := Int) (fun st => ⟨[(1, .B 4 0), (3, .I st)], [(4, .box (cC4 0 1 2 3 g_) 27)], (vV4 0 1 2 3 g_ []), 5⟩) (fun n st => z52_l2 N g_ n st) (r := r) (fun _ => rfl) ?_ (fun ih => ?_)
 ·intro n2 ih3
  intro g h
  replace h : z52_l2 N g_ (n2 + 1) g = some r := h
  unfold z52_l2 at h
  refine wq (wq (wg (wx ⟨[(1, .B 4 0), (3, .I g), (9, .O (decide (g < (g_.Edges.length : Int))))], [(4, .box (cC4 0 1 2 3 g_) 27)], (vV4 0 1 2 3 g_ []), 5⟩ J 5 (wn ?_))))
  rcases oc' h with ⟨hc, h⟩ | ⟨hc, h⟩
  ·exact wf hc Q (wz rfl (wu [] (j1 () h) Q Q Q Q))
  refine wt hc Q (wi (wq (wo (wq (wg (xw [3, 4, 5, 6] ⟨[(1, .B 4 0), (3, .I g), (13, .S 2), (14, .I g)], [(4, .box (cC4 0 1 2 3 g_) 27)], (vV4 0 1 2 3 g_ []), 5⟩ J 3 ?_))))))
  obtain ⟨i, j, h⟩ := ob h
  refine wj oO2 J j Q Q Q Q Q Q Q Q Q (wx ⟨[(1, .B 4 0), (3, .I g), (4, .B 6 0)], [(4, .box (cC4 0 1 2 3 g_) 27), (6, .box (cC2 i) 43)], (vV4 0 1 2 3 g_ []), 7⟩ J 3 (wn (wq (wg (xw (rg 3 63) ⟨[(1, .B 4 0), (3, .I g), (4, .B 6 0), (17, .a (cC4 0 1 2 3 g_)), (19, .I i.From)], [(4, .box (cC4 0 1 2 3 g_) 27), (6, .box (cC2 i) 43)], (vV4 0 1 2 3 g_ []), 7⟩ J 3 ?_)))))
  obtain ⟨k, l, h⟩ := ob h
  refine wc (z114_ct N g_ i.From _ l) [(0, .sl 0), (1, .sl 1), (2, .sl 2), (3, .sl 3)] [] Q Q Q Q Q Q Q Q (.inl rfl) rfl (xw (rg 6 60) ⟨[(1, .B 4 0), (3, .I g), (4, .B 6 0), (22, .O (!k))], [(4, .box (cC4 0 1 2 3 g_) 27), (6, .box (cC2 i) 43)], (vV4 0 1 2 3 g_ []), 7⟩ J 2 ?_)
  rcases oc h with ⟨hc, h⟩ | ⟨hc, h⟩
  ·refine wy 22 hc Q (wx ⟨[(1, .B 4 0), (3, .I g), (82, .O true)], [(4, .box (cC4 0 1 2 3 g_) 27)], (vV4 0 1 2 3 g_ []), 7⟩ J 60 (wn (wt Q Q (wq (wg (ws J 1 Q (wn ?_)))))))
   cases h
   exact we J Tryz.func52 [] Q Q Q Q
  refine wy 22 hc Q (xw (rg 9 57) ⟨[(1, .B 4 0), (3, .I g), (4, .B 6 0), (22, .O false), (23, .a (cC4 0 1 2 3 g_)), (25, .I i.To)], [(4, .box (cC4 0 1 2 3 g_) 27), (6, .box (cC2 i) 43)], (vV4 0 1 2 3 g_ []), 7⟩ J 3 ?_)
  obtain ⟨m, o, h⟩ := ob h
  refine wc (z114_ct N g_ i.To _ o) [(0, .sl 0), (1, .sl 1), (2, .sl 2), (3, .sl 3)] [] Q Q Q Q Q Q Q Q (.inl rfl) rfl (xw (rg 13 53) ⟨[(1, .B 4 0), (3, .I g), (4, .B 6 0), (29, .O (!m))], [(4, .box (cC4 0 1 2 3 g_) 27), (6, .box (cC2 i) 43)], (vV4 0 1 2 3 g_ []), 7⟩ J 3 ?_)
  rcases oc h with ⟨hc, h⟩ | ⟨hc, h⟩
  ·refine wy 29 hc Q (wx ⟨[(1, .B 4 0), (3, .I g), (82, .O true)], [(4, .box (cC4 0 1 2 3 g_) 27)], (vV4 0 1 2 3 g_ []), 7⟩ J 53 (wn (wt Q Q (wq (wg (ws J 1 Q (wn ?_)))))))
   cases h
   exact we J Tryz.func52 [] Q Q Q Q
  refine wy 29 hc Q (xw (rg 19 47) ⟨[(1, .B 4 0), (3, .I g), (4, .B 6 0), (35, .O (decide (i.Act.From < 0)))], [(4, .box (cC4 0 1 2 3 g_) 27), (6, .box (cC2 i) 43)], (vV4 0 1 2 3 g_ []), 7⟩ J 6 ?_)
  rcases oc h with ⟨hc, h⟩ | ⟨hc, h⟩
  ·refine wy 35 hc Q (wx ⟨[(1, .B 4 0), (3, .I g), (82, .O true)], [(4, .box (cC4 0 1 2 3 g_) 27)], (vV4 0 1 2 3 g_ []), 7⟩ J 47 (wn (wt Q Q (wq (wg (ws J 1 Q (wn ?_)))))))
   cases h
   exact we J Tryz.func52 [] Q Q Q Q
  refine wy 35 hc Q (xw (rg 28 38) ⟨[(1, .B 4 0), (3, .I g), (4, .B 6 0), (44, .O (decide (i.Act.From ≥ (g_.Roles.length : Int))))], [(4, .box (cC4 0 1 2 3 g_) 27), (6, .box (cC2 i) 43)], (vV4 0 1 2 3 g_ []), 7⟩ J 9 ?_)
  rcases oc h with ⟨hc, h⟩ | ⟨hc, h⟩
  ·refine wy 44 hc Q (wx ⟨[(1, .B 4 0), (3, .I g), (82, .O true)], [(4, .box (cC4 0 1 2 3 g_) 27)], (vV4 0 1 2 3 g_ []), 7⟩ J 38 (wn (wt Q Q (wq (wg (ws J 1 Q (wn ?_)))))))
   cases h
   exact we J Tryz.func52 [] Q Q Q Q
  refine wy 44 hc Q (xw (rg 34 32) ⟨[(1, .B 4 0), (3, .I g), (4, .B 6 0), (50, .O (decide (i.Act.To < 0)))], [(4, .box (cC4 0 1 2 3 g_) 27), (6, .box (cC2 i) 43)], (vV4 0 1 2 3 g_ []), 7⟩ J 6 ?_)
  rcases oc h with ⟨hc, h⟩ | ⟨hc, h⟩
  ·refine wy 50 hc Q (wx ⟨[(1, .B 4 0), (3, .I g), (82, .O true)], [(4, .box (cC4 0 1 2 3 g_) 27)], (vV4 0 1 2 3 g_ []), 7⟩ J 32 (wn (wt Q Q (wq (wg (ws J 1 Q (wn ?_)))))))
   cases h
   exact we J Tryz.func52 [] Q Q Q Q
  refine wy 50 hc Q (xw (rg 43 23) ⟨[(1, .B 4 0), (3, .I g), (4, .B 6 0), (59, .O (decide (i.Act.To ≥ (g_.Roles.length : Int))))], [(4, .box (cC4 0 1 2 3 g_) 27), (6, .box (cC2 i) 43)], (vV4 0 1 2 3 g_ []), 7⟩ J 9 ?_)
  rcases oc h with ⟨hc, h⟩ | ⟨hc, h⟩
  ·refine wy 59 hc Q (wx ⟨[(1, .B 4 0), (3, .I g), (82, .O true)], [(4, .box (cC4 0 1 2 3 g_) 27)], (vV4 0 1 2 3 g_ []), 7⟩ J 23 (wn (wt Q Q (wq (wg (ws J 1 Q (wn ?_)))))))
   cases h
   exact we J Tryz.func52 [] Q Q Q Q
  refine wy 59 hc Q (xw (rg 52 14) ⟨[(1, .B 4 0), (3, .I g), (4, .B 6 0), (68, .O (i.Act.From == i.Act.To))], [(4, .box (cC4 0 1 2 3 g_) 27), (6, .box (cC2 i) 43)], (vV4 0 1 2 3 g_ []), 7⟩ J 9 ?_)
  rcases oc h with ⟨hc, h⟩ | ⟨hc, h⟩
  ·refine wy 68 hc Q (wx ⟨[(1, .B 4 0), (3, .I g), (82, .O true)], [(4, .box (cC4 0 1 2 3 g_) 27)], (vV4 0 1 2 3 g_ []), 7⟩ J 14 (wn (wt Q Q (wq (wg (ws J 1 Q (wn ?_)))))))
   cases h
   exact we J Tryz.func52 [] Q Q Q Q
  refine wy 68 hc Q (xw (rg 58 8) ⟨[(1, .B 4 0), (3, .I g), (4, .B 6 0), (74, .O (decide (i.Act.Label < 0)))], [(4, .box (cC4 0 1 2 3 g_) 27), (6, .box (cC2 i) 43)], (vV4 0 1 2 3 g_ []), 7⟩ J 6 ?_)
  rcases oc h with ⟨hc, h⟩ | ⟨hc, h⟩
  ·refine wy 74 hc Q (wx ⟨[(1, .B 4 0), (3, .I g), (82, .O true)], [(4, .box (cC4 0 1 2 3 g_) 27)], (vV4 0 1 2 3 g_ []), 7⟩ J 8 (wn (wt Q Q (wq (wg (ws J 1 Q (wn ?_)))))))
   cases h
   exact we J Tryz.func52 [] Q Q Q Q
  refine wy 74 hc Q (wx ⟨[(1, .B 4 0), (3, .I g), (82, .O (decide (i.Act.Label ≥ (g_.Decls.length : Int))))], [(4, .box (cC4 0 1 2 3 g_) 27)], (vV4 0 1 2 3 g_ []), 7⟩ J 8 (wn ?_))
  rcases oc h with ⟨hc, h⟩ | ⟨hc, h⟩
  ·refine wt hc Q (wq (wg (ws J 1 Q (wn ?_))))
   cases h
   exact we J Tryz.func52 [] Q Q Q Q
  exact wf hc Q (wi (wb (wg (wx ⟨[(1, .B 4 0), (3, .I (w64 (g + 1)))], [(4, .box (cC4 0 1 2 3 g_) 27)], (vV4 0 1 2 3 g_ []), 7⟩ J 3 (wn (wu [] (ih3 (w64 (g + 1)) h) Q Q Q Q))))))
 exact wu [] (ih N 0 h) Q Q Q Q
theorem z53_ct (N : Nat) (g_ : T4) (r : Bool) (h : z53 N g_ = some r) :
 Fn Tryz.prog 53 ⟨4, [.a (cC4 0 1 2 3 g_)], (vV4 0 1 2 3 g_ []), [], 4, .O r, [], []⟩ := by
 refine Fn.intro _ _ Tryz.func53 rfl (by kernel_rfl) rfl (fun E F w => ?_)
 unfold z53 at h
 refine wq (wg (ws J 2 Q (wn (wq (wq (wg (wx ⟨[(1, .B 4 0), (2, .O false), (3, .I 0)], [(4, .box (cC4 0 1 2 3 g_) 27)], (vV4 0 1 2 3 g_ []), 5⟩ J 1 (wn ?_))))))))
 refine wC (σ := Unit) (fun st => ⟨[], [], (vV4 0 1 2 3 g_ []), 5⟩) (fun st => z53_k1 = some r) ?_ (fun j1 => ?_)
 ·intro _ h
  replace h : z53_k1 = some r := h
  unfold z53_k1 at h
  refine wq (wg (ws J 1 Q (wn ?_)))
  cases h
  exact we J Tryz.func53 [] Q Q Q Q
 refine wo ?_
 refine wI (σ := Int) (fun st => ⟨[(1, .B 4 0), (3, .I st)], [(4, .box (cC4 0 1 2 3 g_) 27)], (vV4 0 1 2 3 g_ []), 5⟩) (fun n st => z53_l2 N g_ n st) (r := r) (fun _ => rfl) ?_ (fun ih => ?_)
 ·intro n12 ih33
  intro c h
  replace h : z53_l2 N g_ (n12 + 1) c = some r := h
  unfold z53_l2 at h
  refine wq (wq (wg (wx ⟨[(1, .B 4 0), (3, .I c), (11, .O (decide (c < (g_.Edges.length : Int))))], [(4, .box (cC4 0 1 2 3 g_) 27)], (vV4 0 1 2 3 g_ []), 5⟩ J 5 (wn ?_))))
  rcases oc' h with ⟨hc, h⟩ | ⟨hc, h⟩
  ·exact wf hc Q (wz rfl (wu [] (j1 () h) Q Q Q Q))
  refine wt hc Q (wi (wq (wo (wq (wg (xw [3, 4, 5, 6] ⟨[(1, .B 4 0), (3, .I c), (15, .S 2), (16, .I c)], [(4, .box (cC4 0 1 2 3 g_) 27)], (vV4 0 1 2 3 g_ []), 5⟩ J 3 ?_))))))
  obtain ⟨d, e, h⟩ := ob h
  refine wj oO2 J e Q Q Q Q Q Q Q Q Q (wx ⟨[(1, .B 4 0), (3, .I c), (4, .B 6 0)], [(4, .box (cC4 0 1 2 3 g_) 27), (6, .box (cC2 d) 43)], (vV4 0 1 2 3 g_ []), 7⟩ J 3 (wn (wq (wq (wg (xw (rg 3 6) ⟨[(1, .B 4 0), (3, .I c), (4, .B 6 0), (21, .O d.Again)], [(4, .box (cC4 0 1 2 3 g_) 27), (6, .box (cC2 d) 43)], (vV4 0 1 2 3 g_ []), 7⟩ J 3 ?_))))))
  refine WP.cutr (σ := Bool) (fun st => ⟨[(1, .B 4 0), (3, .I c), (4, .B 6 0), (27, .O st)], [(4, .box (cC4 0 1 2 3 g_) 27), (6, .box (cC2 d) 43)], (vV4 0 1 2 3 g_ []), 7⟩) (fun st => z53_k6 N g_ c (z53_l2 N g_ n12) d st = some r) ?_ (fun j54 => ?_)
  ·intro f h
   replace h : z53_k6 N g_ c (z53_l2 N g_ n12) d f = some r := h
   unfold z53_k6 at h
   rcases oc h with ⟨hc, h⟩ | ⟨hc, h⟩
   ·refine wt hc Q (wq (wg (ws J 1 Q (wn ?_))))
    cases h
    exact we J Tryz.func53 [] Q Q Q Q
   refine wf hc Q (wi (wq (wg (ws J 1 Q (wn ?_)))))
   refine wC (σ := Unit) (fun st => ⟨[(1, .B 4 0), (3, .I c)], [(4, .box (cC4 0 1 2 3 g_) 27)], (vV4 0 1 2 3 g_ []), 7⟩) (fun st => z53_k3 c (z53_l2 N g_ n12) = some r) ?_ (fun j55 => ?_)
   ·intro _ h
    replace h : z53_k3 c (z53_l2 N g_ n12) = some r := h
    unfold z53_k3 at h
    exact wb (wg (wx ⟨[(1, .B 4 0), (3, .I (w64 (c + 1)))], [(4, .box (cC4 0 1 2 3 g_) 27)], (vV4 0 1 2 3 g_ []), 7⟩ J 3 (wn (wu [] (ih33 (w64 (c + 1)) h) Q Q Q Q))))
   refine wo ?_
   refine wI (σ := Int) (fun st => ⟨[(1, .B 4 0), (3, .I c), (4, .B 6 0), (5, .I st)], [(4, .box (cC4 0 1 2 3 g_) 27), (6, .box (cC2 d) 43)], (vV4 0 1 2 3 g_ []), 7⟩) (fun n st => z53_l4 g_ c (z53_l2 N g_ n12) d n st) (r := r) (fun _ => rfl) ?_ (fun ih => ?_)
   ·intro n14 ih60
    intro g h
    replace h : z53_l4 g_ c (z53_l2 N g_ n12) d (n14 + 1) g = some r := h
    unfold z53_l4 at h
    refine wq (wq (wg (wx ⟨[(1, .B 4 0), (3, .I c), (4, .B 6 0), (5, .I g), (32, .O (decide (g < (g_.Edges.length : Int))))], [(4, .box (cC4 0 1 2 3 g_) 27), (6, .box (cC2 d) 43)], (vV4 0 1 2 3 g_ []), 7⟩ J 5 (wn ?_))))
    rcases oc' h with ⟨hc, h⟩ | ⟨hc, h⟩
    ·exact wf hc Q (wz rfl (wu [] (j55 () h) Q Q Q Q))
    refine wt hc Q (wi (wq (wo (wq (wg (xw [3, 4, 5, 6] ⟨[(1, .B 4 0), (3, .I c), (4, .B 6 0), (5, .I g), (36, .S 2), (37, .I g)], [(4, .box (cC4 0 1 2 3 g_) 27), (6, .box (cC2 d) 43)], (vV4 0 1 2 3 g_ []), 7⟩ J 3 ?_))))))
    obtain ⟨i, j, h⟩ := ob h
    refine wj oO2 J j Q Q Q Q Q Q Q Q Q (wx ⟨[(1, .B 4 0), (3, .I c), (4, .B 6 0), (5, .I g), (6, .B 8 0)], [(4, .box (cC4 0 1 2 3 g_) 27), (6, .box (cC2 d) 43), (8, .box (cC2 i) 43)], (vV4 0 1 2 3 g_ []), 9⟩ J 3 (wn (wq (wq (wg (xw (rg 4 26) ⟨[(1, .B 4 0), (3, .I c), (4, .B 6 0), (5, .I g), (6, .B 8 0), (43, .O (g != c))], [(4, .box (cC4 0 1 2 3 g_) 27), (6, .box (cC2 d) 43), (8, .box (cC2 i) 43)], (vV4 0 1 2 3 g_ []), 9⟩ J 4 ?_))))))
    refine WP.cutr (σ := Bool) (fun st => ⟨[(1, .B 4 0), (3, .I c), (4, .B 6 0), (5, .I g), (6, .B 8 0), (69, .O st)], [(4, .box (cC4 0 1 2 3 g_) 27), (6, .box (cC2 d) 43), (8, .box (cC2 i) 43)], (vV4 0 1 2 3 g_ []), 9⟩) (fun st => z53_k5 d g (z53_l4 g_ c (z53_l2 N g_ n12) d n14) i st = some r) ?_ (fun j63 => ?_)
    ·intro k h
     replace h : z53_k5 d g (z53_l4 g_ c (z53_l2 N g_ n12) d n14) i k = some r := h
     unfold z53_k5 at h
     rcases oc h with ⟨hc, h⟩ | ⟨hc, h⟩
     ·refine wt hc Q (wq (wg (ws J 1 Q (wn ?_))))
      cases h
      exact we J Tryz.func53 [] Q Q Q Q
     refine wf hc Q (wi (wq (wg (xw (rg 3 24) ⟨[(1, .B 4 0), (3, .I c), (4, .B 6 0), (5, .I g), (6, .B 8 0), (72, .O d.Again)], [(4, .box (cC4 0 1 2 3 g_) 27), (6, .box (cC2 d) 43), (8, .box (cC2 i) 43)], (vV4 0 1 2 3 g_ []), 9⟩ J 3 ?_))))
     rcases oc' h with ⟨hc, h⟩ | ⟨hc, h⟩
     ·exact wy 72 hc Q (wx ⟨[(1, .B 4 0), (3, .I c), (4, .B 6 0), (5, .I g), (96, .O false)], [(4, .box (cC4 0 1 2 3 g_) 27), (6, .box (cC2 d) 43)], (vV4 0 1 2 3 g_ []), 9⟩ J 24 (wn (wf Q Q (wi (wb (wg (wx ⟨[(1, .B 4 0), (3, .I c), (4, .B 6 0), (5, .I (w64 (g + 1)))], [(4, .box (cC4 0 1 2 3 g_) 27), (6, .box (cC2 d) 43)], (vV4 0 1 2 3 g_ []), 9⟩ J 3 (wn (wu [] (ih60 (w64 (g + 1)) h) Q Q Q Q)))))))))
     refine wy 72 hc Q (xw (rg 10 17) ⟨[(1, .B 4 0), (3, .I c), (4, .B 6 0), (5, .I g), (6, .B 8 0), (79, .O (i.To == d.From))], [(4, .box (cC4 0 1 2 3 g_) 27), (6, .box (cC2 d) 43), (8, .box (cC2 i) 43)], (vV4 0 1 2 3 g_ []), 9⟩ J 7 ?_)
     rcases oc' h with ⟨hc, h⟩ | ⟨hc, h⟩
     ·exact wy 79 hc Q (wx ⟨[(1, .B 4 0), (3, .I c), (4, .B 6 0), (5, .I g), (96, .O false)], [(4, .box (cC4 0 1 2 3 g_) 27), (6, .box (cC2 d) 43)], (vV4 0 1 2 3 g_ []), 9⟩ J 17 (wn (wf Q Q (wi (wb (wg (wx ⟨[(1, .B 4 0), (3, .I c), (4, .B 6 0), (5, .I (w64 (g + 1)))], [(4, .box (cC4 0 1 2 3 g_) 27), (6, .box (cC2 d) 43)], (vV4 0 1 2 3 g_ []), 9⟩ J 3 (wn (wu [] (ih60 (w64 (g + 1)) h) Q Q Q Q)))))))))
     refine wy 79 hc Q (xw (rg 18 9) ⟨[(1, .B 4 0), (3, .I c), (4, .B 6 0), (5, .I g), (6, .B 8 0), (79, .O true), (87, .O (i.Act.From != d.Act.From))], [(4, .box (cC4 0 1 2 3 g_) 27), (6, .box (cC2 d) 43), (8, .box (cC2 i) 43)], (vV4 0 1 2 3 g_ []), 9⟩ J 8 ?_)
     rcases oc h with ⟨hc, h⟩ | ⟨hc, h⟩
     ·refine wy 87 hc Q (wx ⟨[(1, .B 4 0), (3, .I c), (4, .B 6 0), (5, .I g), (96, .O true)], [(4, .box (cC4 0 1 2 3 g_) 27), (6, .box (cC2 d) 43)], (vV4 0 1 2 3 g_ []), 9⟩ J 9 (wn (wt Q Q (wq (wg (ws J 1 Q (wn ?_)))))))
      cases h
      exact we J Tryz.func53 [] Q Q Q Q
     refine wy 87 hc Q (wx ⟨[(1, .B 4 0), (3, .I c), (4, .B 6 0), (5, .I g), (96, .O (i.Act.Label != d.Act.Label))], [(4, .box (cC4 0 1 2 3 g_) 27), (6, .box (cC2 d) 43)], (vV4 0 1 2 3 g_ []), 9⟩ J 9 (wn ?_))
     rcases oc h with ⟨hc, h⟩ | ⟨hc, h⟩
     ·refine wt hc Q (wq (wg (ws J 1 Q (wn ?_))))
      cases h
      exact we J Tryz.func53 [] Q Q Q Q
     exact wf hc Q (wi (wb (wg (wx ⟨[(1, .B 4 0), (3, .I c), (4, .B 6 0), (5, .I (w64 (g + 1)))], [(4, .box (cC4 0 1 2 3 g_) 27), (6, .box (cC2 d) 43)], (vV4 0 1 2 3 g_ []), 9⟩ J 3 (wn (wu [] (ih60 (w64 (g + 1)) h) Q Q Q Q))))))
    rcases oc' h with ⟨hc, h⟩ | ⟨hc, h⟩
    ·exact wy 43 hc Q (wx ⟨[(1, .B 4 0), (3, .I c), (4, .B 6 0), (5, .I g), (6, .B 8 0), (69, .O false)], [(4, .box (cC4 0 1 2 3 g_) 27), (6, .box (cC2 d) 43), (8, .box (cC2 i) 43)], (vV4 0 1 2 3 g_ []), 9⟩ J 26 (wn (wu [] (j63 false h) Q Q Q Q)))
    refine wy 43 hc Q (xw (rg 11 19) ⟨[(1, .B 4 0), (3, .I c), (4, .B 6 0), (5, .I g), (6, .B 8 0), (50, .O (d.From == i.From))], [(4, .box (cC4 0 1 2 3 g_) 27), (6, .box (cC2 d) 43), (8, .box (cC2 i) 43)], (vV4 0 1 2 3 g_ []), 9⟩ J 7 ?_)
    rcases oc' h with ⟨hc, h⟩ | ⟨hc, h⟩
    ·exact wy 50 hc Q (wx ⟨[(1, .B 4 0), (3, .I c), (4, .B 6 0), (5, .I g), (6, .B 8 0), (69, .O false)], [(4, .box (cC4 0 1 2 3 g_) 27), (6, .box (cC2 d) 43), (8, .box (cC2 i) 43)], (vV4 0 1 2 3 g_ []), 9⟩ J 19 (wn (wu [] (j63 false h) Q Q Q Q)))
    refine wy 50 hc Q (xw (rg 15 15) ⟨[(1, .B 4 0), (3, .I c), (4, .B 6 0), (5, .I g), (6, .B 8 0), (50, .O true), (52, .a (cC6 d.Act)), (54, .a (cC6 i.Act))], [(4, .box (cC4 0 1 2 3 g_) 27), (6, .box (cC2 d) 43), (8, .box (cC2 i) 43)], (vV4 0 1 2 3 g_ []), 9⟩ J 4 (WPr.eqa (neg := false) (equal_run (b := ((d.Act.From == i.Act.From) && ((d.Act.To == i.Act.To) && ((d.Act.Label == i.Act.Label) && true)))) (by kernel_rfl) (by kernel_rfl)) (by kernel_rfl) Q Q Q Q Q Q Q (ws J 1 Q ?_)))
    rcases oc h with ⟨hc, h⟩ | ⟨hc, h⟩
    ·exact wy 56 hc Q (wx ⟨[(1, .B 4 0), (3, .I c), (4, .B 6 0), (5, .I g), (6, .B 8 0), (69, .O true)], [(4, .box (cC4 0 1 2 3 g_) 27), (6, .box (cC2 d) 43), (8, .box (cC2 i) 43)], (vV4 0 1 2 3 g_ []), 9⟩ J 13 (wn (wu [] (j63 true h) Q Q Q Q)))
    refine wy 56 hc Q (xw [26, 27, 28, 29] ⟨[(1, .B 4 0), (3, .I c), (4, .B 6 0), (5, .I g), (6, .B 8 0), (50, .O true), (65, .O (d.Act.From != i.Act.From))], [(4, .box (cC4 0 1 2 3 g_) 27), (6, .box (cC2 d) 43), (8, .box (cC2 i) 43)], (vV4 0 1 2 3 g_ []), 9⟩ J 9 ?_)
    rcases oc h with ⟨hc, h⟩ | ⟨hc, h⟩
    ·exact wy 65 hc Q (wx ⟨[(1, .B 4 0), (3, .I c), (4, .B 6 0), (5, .I g), (6, .B 8 0), (69, .O true)], [(4, .box (cC4 0 1 2 3 g_) 27), (6, .box (cC2 d) 43), (8, .box (cC2 i) 43)], (vV4 0 1 2 3 g_ []), 9⟩ J 4 (wn (wu [] (j63 true h) Q Q Q Q)))
    exact wy 65 hc Q (wx ⟨[(1, .B 4 0), (3, .I c), (4, .B 6 0), (5, .I g), (6, .B 8 0), (69, .O d.Again)], [(4, .box (cC4 0 1 2 3 g_) 27), (6, .box (cC2 d) 43), (8, .box (cC2 i) 43)], (vV4 0 1 2 3 g_ []), 9⟩ J 4 (wn (wu [] (j63 d.Again h) Q Q Q Q)))
   exact wu [] (ih N 0 h) Q Q Q Q
  rcases oc h with ⟨hc, h⟩ | ⟨hc, h⟩
  ·exact wy 21 hc Q (wx ⟨[(1, .B 4 0), (3, .I c), (4, .B 6 0), (27, .O (d.From == g_.Start))], [(4, .box (cC4 0 1 2 3 g_) 27), (6, .box (cC2 d) 43)], (vV4 0 1 2 3 g_ []), 7⟩ J 6 (wn (wu [] (j54 (d.From == g_.Start) h) Q Q Q Q)))
  exact wy 21 hc Q (wx ⟨[(1, .B 4 0), (3, .I c), (4, .B 6 0), (27, .O false)], [(4, .box (cC4 0 1 2 3 g_) 27), (6, .box (cC2 d) 43)], (vV4 0 1 2 3 g_ []), 7⟩ J 6 (wn (wu [] (j54 false h) Q Q Q Q)))
 exact wu [] (ih N 0 h) Q Q Q Q
theorem z81_ct (N : Nat) (g_ : T4) (r : (List Int)) (h : z81 N g_ = some r) :
 Fn Tryz.prog 81 ⟨4, [.a (cC4 0 1 2 3 g_)], (vV4 0 1 2 3 g_ []), [], 5, .S 4, [], [(4, .own (rI .i64) r true)]⟩ := by
 refine Fn.intro _ _ Tryz.func81 rfl (by kernel_rfl) rfl (fun E F w => ?_)
 unfold z81 at h
 refine wq (wg (ws J 2 Q (wn (wq (wg (xw [2, 3] ⟨[(1, .B 4 0), (2, .c .nil), (9, .I g_.States)], [(4, .box (cC4 0 1 2 3 g_) 27)], (vV4 0 1 2 3 g_ []), 5⟩ J 2 ?_))))))
 obtain ⟨x1, d, h⟩ := ob h
 refine WPr.mk (oI .i64) J 0 d Q Q Q Q Q Q Q Q (by exact an Q Q) rfl (ws J 1 Q (wn (wq (wq (wg (wx ⟨[(1, .B 4 0), (2, .c .nil), (3, .S 5), (4, .I 0)], [(4, .box (cC4 0 1 2 3 g_) 27), (5, .own (rI .i64) x1 true)], (vV4 0 1 2 3 g_ []), 6⟩ J 1 (wn ?_)))))))
 refine wC (σ := (List Int)) (fun st => ⟨[(1, .B 4 0), (3, .S 5)], [(4, .box (cC4 0 1 2 3 g_) 27), (5, .own (rI .i64) st true)], (vV4 0 1 2 3 g_ []), 6⟩) (fun st => z81_k5 N g_ st = some r) ?_ (fun j1 => ?_)
 ·intro e h
  replace h : z81_k5 N g_ e = some r := h
  unfold z81_k5 at h
  refine wq (wg (xw [3, 4] ⟨[(1, .B 4 0), (3, .S 5), (20, .S 5), (22, .I g_.End)], [(4, .box (cC4 0 1 2 3 g_) 27), (5, .own (rI .i64) e true)], (vV4 0 1 2 3 g_ []), 6⟩ J 3 ?_))
  obtain ⟨x6, f, h⟩ := ob h
  refine wX J f Q Q Q Q Q Q Q Q Q (WPr.sto (oI .i64) J 0 f Q Q Q Q Q Q Q Q Q Q (by exact rfl) rfl (wn (wq (wq (wg (wx ⟨[(1, .B 4 0), (3, .S 5), (5, .I 0)], [(4, .box (cC4 0 1 2 3 g_) 27), (5, .own (rI .i64) (setL' e g_.End 0) true)], (vV4 0 1 2 3 g_ []), 7⟩ J 1 (wn ?_)))))))
  refine wC (σ := (List Int)) (fun st => ⟨[(3, .S 5)], [(5, .own (rI .i64) st true)], (vV4 0 1 2 3 g_ []), 7⟩) (fun st => z81_k1 st = some r) ?_ (fun j3 => ?_)
  ·intro g h
   replace h : z81_k1 g = some r := h
   unfold z81_k1 at h
   refine wq (wg (ws J 2 Q (wn ?_)))
   cases h
   exact we J Tryz.func81 [(4, .sl 5)] Q Q Q Q
  refine wo ?_
  refine wI (σ := (List Int) × Int) (fun st => ⟨[(1, .B 4 0), (3, .S 5), (5, .I st.2)], [(4, .box (cC4 0 1 2 3 g_) 27), (5, .own (rI .i64) st.1 true)], (vV4 0 1 2 3 g_ []), 7⟩) (fun n st => z81_l2 N g_ n st.1 st.2) (r := r) (fun _ => rfl) ?_ (fun ih => ?_)
  ·intro n13 ih14
   rintro ⟨i, j⟩ h
   replace h : z81_l2 N g_ (n13 + 1) i j = some r := h
   unfold z81_l2 at h
   refine wq (wq (wg (wx ⟨[(1, .B 4 0), (3, .S 5), (5, .I j), (27, .O (decide (j < g_.States)))], [(4, .box (cC4 0 1 2 3 g_) 27), (5, .own (rI .i64) i true)], (vV4 0 1 2 3 g_ []), 7⟩ J 4 (wn ?_))))
   rcases oc' h with ⟨hc, h⟩ | ⟨hc, h⟩
   ·exact wf hc Q (wz rfl (wu [] (j3 i h) Q Q Q Q))
   refine wt hc Q (wi (wq (wo (wq (wg (ws J 1 Q (wn ?_)))))))
   refine wC (σ := (List Int)) (fun st => ⟨[(1, .B 4 0), (3, .S 5), (5, .I j)], [(4, .box (cC4 0 1 2 3 g_) 27), (5, .own (rI .i64) st true)], (vV4 0 1 2 3 g_ []), 7⟩) (fun st => z81_k3 j (z81_l2 N g_ n13) st = some r) ?_ (fun j21 => ?_)
   ·intro k h
    replace h : z81_k3 j (z81_l2 N g_ n13) k = some r := h
    unfold z81_k3 at h
    exact wb (wg (wx ⟨[(1, .B 4 0), (3, .S 5), (5, .I (w64 (j + 1)))], [(4, .box (cC4 0 1 2 3 g_) 27), (5, .own (rI .i64) k true)], (vV4 0 1 2 3 g_ []), 7⟩ J 3 (wn (wu [] (ih14 (k, (w64 (j + 1))) h) Q Q Q Q))))
   refine wo ?_
   refine wI (σ := (List Int) × Int) (fun st => ⟨[(1, .B 4 0), (3, .S 5), (5, .I j), (6, .I st.2)], [(4, .box (cC4 0 1 2 3 g_) 27), (5, .own (rI .i64) st.1 true)], (vV4 0 1 2 3 g_ []), 7⟩) (fun n st => z81_l4 g_ j (z81_l2 N g_ n13) n st.1 st.2) (r := r) (fun _ => rfl) ?_ (fun ih => ?_)
   ·intro n15 ih23
    rintro ⟨l, m⟩ h
    replace h : z81_l4 g_ j (z81_l2 N g_ n13) (n15 + 1) l m = some r := h
    unfold z81_l4 at h
    refine wq (wq (wg (wx ⟨[(1, .B 4 0), (3, .S 5), (5, .I j), (6, .I m), (34, .O (decide (m < (g_.Edges.length : Int))))], [(4, .box (cC4 0 1 2 3 g_) 27), (5, .own (rI .i64) l true)], (vV4 0 1 2 3 g_ []), 7⟩ J 5 (wn ?_))))
    rcases oc' h with ⟨hc, h⟩ | ⟨hc, h⟩
    ·exact wf hc Q (wz rfl (wu [] (j21 l h) Q Q Q Q))
    refine wt hc Q (wi (wq (wo (wq (wg (xw [3, 4, 5, 6] ⟨[(1, .B 4 0), (3, .S 5), (5, .I j), (6, .I m), (38, .S 2), (39, .I m)], [(4, .box (cC4 0 1 2 3 g_) 27), (5, .own (rI .i64) l true)], (vV4 0 1 2 3 g_ []), 7⟩ J 3 ?_))))))
    obtain ⟨o, p, h⟩ := ob h
    refine wj oO2 J p Q Q Q Q Q Q Q Q Q (wx ⟨[(1, .B 4 0), (3, .S 5), (5, .I j), (6, .I m), (7, .B 8 0)], [(4, .box (cC4 0 1 2 3 g_) 27), (5, .own (rI .i64) l true), (8, .box (cC2 o) 43)], (vV4 0 1 2 3 g_ []), 9⟩ J 3 (wn (wq (wg (xw (rg 3 12) ⟨[(1, .B 4 0), (3, .S 5), (5, .I j), (6, .I m), (7, .B 8 0), (42, .S 5), (44, .I o.To)], [(4, .box (cC4 0 1 2 3 g_) 27), (5, .own (rI .i64) l true), (8, .box (cC2 o) 43)], (vV4 0 1 2 3 g_ []), 9⟩ J 3 ?_)))))
    obtain ⟨q, s, h⟩ := ob h
    refine wX J s Q Q Q Q Q Q Q Q Q (wL (oI .i64) J s Q Q Q Q Q Q Q Q Q Q (xw (rg 8 7) ⟨[(1, .B 4 0), (3, .S 5), (5, .I j), (6, .I m), (7, .B 8 0), (49, .O (q == j))], [(4, .box (cC4 0 1 2 3 g_) 27), (5, .own (rI .i64) l true), (8, .box (cC2 o) 43)], (vV4 0 1 2 3 g_ []), 10⟩ J 3 ?_))
    rcases oc' h with ⟨hc, h⟩ | ⟨hc, h⟩
    ·exact wy 49 hc Q (wx ⟨[(1, .B 4 0), (3, .S 5), (5, .I j), (6, .I m), (7, .B 8 0), (56, .O false)], [(4, .box (cC4 0 1 2 3 g_) 27), (5, .own (rI .i64) l true), (8, .box (cC2 o) 43)], (vV4 0 1 2 3 g_ []), 10⟩ J 7 (wn (wf Q Q (wi (wb (wg (wx ⟨[(1, .B 4 0), (3, .S 5), (5, .I j), (6, .I (w64 (m + 1)))], [(4, .box (cC4 0 1 2 3 g_) 27), (5, .own (rI .i64) l true)], (vV4 0 1 2 3 g_ []), 10⟩ J 3 (wn (wu [] (ih23 (l, (w64 (m + 1))) h) Q Q Q Q)))))))))
    refine wy 49 hc Q (xw [11, 12, 13, 14] ⟨[(1, .B 4 0), (3, .S 5), (5, .I j), (6, .I m), (7, .B 8 0), (49, .O true), (50, .S 5), (52, .I o.From)], [(4, .box (cC4 0 1 2 3 g_) 27), (5, .own (rI .i64) l true), (8, .box (cC2 o) 43)], (vV4 0 1 2 3 g_ []), 10⟩ J 3 ?_)
    obtain ⟨t, u, h⟩ := ob h
    refine wX J u Q Q Q Q Q Q Q Q Q (wL (oI .i64) J u Q Q Q Q Q Q Q Q Q Q (wx ⟨[(1, .B 4 0), (3, .S 5), (5, .I j), (6, .I m), (7, .B 8 0), (56, .O (decide (t < 0)))], [(4, .box (cC4 0 1 2 3 g_) 27), (5, .own (rI .i64) l true), (8, .box (cC2 o) 43)], (vV4 0 1 2 3 g_ []), 11⟩ J 2 (wn ?_)))
    rcases oc' h with ⟨hc, h⟩ | ⟨hc, h⟩
    ·exact wf hc Q (wi (wb (wg (wx ⟨[(1, .B 4 0), (3, .S 5), (5, .I j), (6, .I (w64 (m + 1)))], [(4, .box (cC4 0 1 2 3 g_) 27), (5, .own (rI .i64) l true)], (vV4 0 1 2 3 g_ []), 11⟩ J 3 (wn (wu [] (ih23 (l, (w64 (m + 1))) h) Q Q Q Q))))))
    refine wt hc Q (wg (xw [5, 6] ⟨[(1, .B 4 0), (3, .S 5), (5, .I j), (6, .I m), (57, .S 5), (59, .I o.From), (61, .I (w64 (j + 1)))], [(4, .box (cC4 0 1 2 3 g_) 27), (5, .own (rI .i64) l true)], (vV4 0 1 2 3 g_ []), 11⟩ J 5 ?_))
    obtain ⟨v, x, h⟩ := ob h
    exact wX J x Q Q Q Q Q Q Q Q Q (WPr.sto (oI .i64) J (w64 (j + 1)) x Q Q Q Q Q Q Q Q Q Q (by exact rfl) rfl (wn (wb (wg (wx ⟨[(1, .B 4 0), (3, .S 5), (5, .I j), (6, .I (w64 (m + 1)))], [(4, .box (cC4 0 1 2 3 g_) 27), (5, .own (rI .i64) (setL' l o.From (w64 (j + 1))) true)], (vV4 0 1 2 3 g_ []), 12⟩ J 3 (wn (wu [] (ih23 ((setL' l o.From (w64 (j + 1))), (w64 (m + 1))) h) Q Q Q Q)))))))
   exact wu [] (ih N (i, 0) h) Q Q Q Q
  exact wu [] (ih N ((setL' e g_.End 0), 0) h) Q Q Q Q
 refine wo ?_
 refine wI (σ := (List Int) × Int) (fun st => ⟨[(1, .B 4 0), (3, .S 5), (4, .I st.2)], [(4, .box (cC4 0 1 2 3 g_) 27), (5, .own (rI .i64) st.1 true)], (vV4 0 1 2 3 g_ []), 6⟩) (fun n st => z81_l6 N g_ n st.1 st.2) (r := r) (fun _ => rfl) ?_ (fun ih => ?_)
 ·intro n16 ih24
  rintro ⟨y, z⟩ h
  replace h : z81_l6 N g_ (n16 + 1) y z = some r := h
  unfold z81_l6 at h
  refine wq (wq (wg (wx ⟨[(1, .B 4 0), (3, .S 5), (4, .I z), (14, .O (decide (z < g_.States)))], [(4, .box (cC4 0 1 2 3 g_) 27), (5, .own (rI .i64) y true)], (vV4 0 1 2 3 g_ []), 6⟩ J 4 (wn ?_))))
  rcases oc' h with ⟨hc, h⟩ | ⟨hc, h⟩
  ·exact wf hc Q (wz rfl (wu [] (j1 y h) Q Q Q Q))
  refine wt hc Q (wi (wq (wo (wg (ws J 2 Q ?_)))))
  obtain ⟨A, C, h⟩ := ob h
  exact wX J C Q Q Q Q Q Q Q Q Q (xw [3] ⟨[(1, .B 4 0), (3, .S 5), (4, .I z), (19, .P 6 0)], [(4, .box (cC4 0 1 2 3 g_) 27), (5, .own (rI .i64) y true)], (vV4 0 1 2 3 g_ [(6, .el 5 ((z).toNat * ((rI .i64)).sz))]), 7⟩ J 0 (WPr.sto (oI .i64) J (-1) C Q Q Q Q Q Q Q Q Q Q (by exact rfl) rfl (wn (wb (wg (wx ⟨[(1, .B 4 0), (3, .S 5), (4, .I (w64 (z + 1)))], [(4, .box (cC4 0 1 2 3 g_) 27), (5, .own (rI .i64) (setL' y z (-1)) true)], (vV4 0 1 2 3 g_ []), 7⟩ J 3 (wn (wu [] (ih24 ((setL' y z (-1)), (w64 (z + 1))) h) Q Q Q Q))))))))
 exact wu [] (ih N (x1, 0) h) Q Q Q Q
theorem z74_ct (N : Nat) (g_ : T4) (i_ : Int) (k_ : Int) (r : Bool) (h : z74 N g_ i_ k_ = some r) :
 Fn Tryz.prog 74 ⟨4, [.a (cC4 0 1 2 3 g_), .I i_, .I k_], (vV4 0 1 2 3 g_ []), [], 4, .O r, [], []⟩ := by
 refine Fn.intro _ _ Tryz.func74 rfl (by kernel_rfl) rfl (fun E F w => ?_)
 unfold z74 at h
 refine wq (wg (ws J 2 Q (wn (wq (wN (fun A1 c d => ?_))))))
 have e : A1 0 ⟨[(3, .B 4 0)], [], [], [], 5, [(9, .B 4 6)], [], [], 5⟩ := c _ _ (wl J Q Q Q Q Q Q)
 have f : A1 1 ⟨[(9, .B 4 6)], (vV4 0 1 2 3 g_ []), [], [(4, .box (cC4 0 1 2 3 g_) 27)], 5, [(10, .S 2)], [], [], 5⟩ := c _ _ (wl J Q Q Q Q Q Q)
 have g : A1 2 ⟨[(1, .I i_)], [], [], [], 5, [(11, .I i_)], [], [], 5⟩ := c _ _ (wl J Q Q Q Q Q Q)
 obtain ⟨x4, i, h⟩ := ob h
 have j : A1 3 ⟨[(10, .S 2), (11, .I i_)], [(2, .sl rR2 g_.Edges)], [], [], 5, [(12, .P 5 0)], [(5, .pl (cC2 x4))], [], 6⟩ := c _ _ (wO Q Q Q (fun _ _ _ _ _ _ _ k => wj oO2 J i Q Q Q Q Q Q Q Q Q (k)) rfl)
 have l : A1 4 ⟨[(12, .P 5 0)], [(5, .pl (cC2 x4))], [], [], 6, [(13, .P 5 1)], [], [], 6⟩ := c _ _ (wl J Q Q Q Q Q Q)
 have m : A1 5 ⟨[(13, .P 5 1)], [(5, .pl (cC2 x4))], [], [], 6, [(14, .a (cC6 x4.Act))], [], [], 6⟩ := c _ _ (wl J Q Q Q Q Q Q)
 have o : A1 6 ⟨[(3, .B 4 0)], [], [], [], 6, [(15, .B 4 6)], [], [], 6⟩ := c _ _ (wl J Q Q Q Q Q Q)
 have p : A1 7 ⟨[(15, .B 4 6)], (vV4 0 1 2 3 g_ []), [], [(4, .box (cC4 0 1 2 3 g_) 27)], 6, [(16, .S 2)], [], [], 6⟩ := c _ _ (wl J Q Q Q Q Q Q)
 have q : A1 8 ⟨[(2, .I k_)], [], [], [], 6, [(17, .I k_)], [], [], 6⟩ := c _ _ (wl J Q Q Q Q Q Q)
 obtain ⟨s, u, h⟩ := ob h
 have v : A1 9 ⟨[(16, .S 2), (17, .I k_)], [(2, .sl rR2 g_.Edges)], [], [], 6, [(18, .P 6 0)], [(6, .pl (cC2 s))], [], 7⟩ := c _ _ (wO Q Q Q (fun _ _ _ _ _ _ _ k => wj oO2 J u Q Q Q Q Q Q Q Q Q (k)) rfl)
 have x : A1 10 ⟨[(18, .P 6 0)], [(6, .pl (cC2 s))], [], [], 7, [(19, .P 6 1)], [], [], 7⟩ := c _ _ (wl J Q Q Q Q Q Q)
 have y : A1 11 ⟨[(19, .P 6 1)], [(6, .pl (cC2 s))], [], [], 7, [(20, .a (cC6 s.Act))], [], [], 7⟩ := c _ _ (wl J Q Q Q Q Q Q)
 have z : A1 12 ⟨[], [], [], [], 7, [(7, .B 7 0)], [], [(7, .box [.I 0, .I 0, .I 0] 37)], 8⟩ := c _ _ (wl J Q Q Q Q Q Q)
 have A : A1 13 ⟨[], [], [], [], 8, [(8, .B 8 0)], [], [(8, .box [.I 0, .I 0, .I 0] 37)], 9⟩ := c _ _ (wl J Q Q Q Q Q Q)
 have C : A1 14 ⟨[(7, .B 7 0), (14, .a (cC6 x4.Act))], [], [(7, .box [.I 0, .I 0, .I 0] 37)], [], 9, [], [], [(7, .box (cC6 x4.Act) 37)], 9⟩ := c _ _ (wl J Q Q Q Q Q Q)
 have D : A1 15 ⟨[(8, .B 8 0), (20, .a (cC6 s.Act))], [], [(8, .box [.I 0, .I 0, .I 0] 37)], [], 9, [], [], [(8, .box (cC6 s.Act) 37)], 9⟩ := c _ _ (wl J Q Q Q Q Q Q)
 refine wD (t := ⟨[(1, .I i_), (2, .I k_), (6, .O false), (7, .B 7 0), (8, .B 8 0)], [(7, .box (cC6 x4.Act) 37), (8, .box (cC6 s.Act) 37)], (vV4 0 1 2 3 g_ []), 9⟩) [0, 1, 0, 7, 15, 31, 0, 64, 0, 448, 960, 1984, 0, 0, 12351, 32767] (.cons (d _ _ e) (.cons (d _ _ f) (.cons (d _ _ g) (.cons (d _ _ j) (.cons (d _ _ l) (.cons (d _ _ m) (.cons (d _ _ o) (.cons (d _ _ p) (.cons (d _ _ q) (.cons (d _ _ v) (.cons (d _ _ x) (.cons (d _ _ y) (.cons (d _ _ z) (.cons (d _ _ A) (.cons (d _ _ C) (.cons (d _ _ D) .nil)))))))))))))))) (by kernel_rfl) (by kernel_rfl) (by kernel_rfl) (by kernel_rfl) (wq (wq (wg (wx ⟨[(1, .I i_), (2, .I k_), (6, .O false), (7, .B 7 0), (8, .B 8 0), (25, .O (x4.Act.To != s.Act.To))], [(7, .box (cC6 x4.Act) 37), (8, .box (cC6 s.Act) 37)], (vV4 0 1 2 3 g_ []), 9⟩ J 5 (wn ?_)))))
 rcases oc h with ⟨hc, h⟩ | ⟨hc, h⟩
 ·refine wt hc Q (wq (wg (wx ⟨[(6, .O (decide (x4.Act.To < s.Act.To)))], [], (vV4 0 1 2 3 g_ []), 9⟩ J 6 (wn ?_))))
  cases h
  exact we J Tryz.func74 [] Q Q Q Q
 refine wf hc Q (wi (wq (wq (wg (wx ⟨[(1, .I i_), (2, .I k_), (6, .O false), (7, .B 7 0), (8, .B 8 0), (35, .O (x4.Act.Label != s.Act.Label))], [(7, .box (cC6 x4.Act) 37), (8, .box (cC6 s.Act) 37)], (vV4 0 1 2 3 g_ []), 9⟩ J 5 (wn ?_))))))
 rcases oc h with ⟨hc, h⟩ | ⟨hc, h⟩
 ·refine wt hc Q (wq (wg (wx ⟨[(6, .O (decide (x4.Act.Label < s.Act.Label)))], [], (vV4 0 1 2 3 g_ []), 9⟩ J 6 (wn ?_))))
  cases h
  exact we J Tryz.func74 [] Q Q Q Q
 refine wf hc Q (wi (wq (wg (wx ⟨[(6, .O (decide (i_ < k_)))], [], (vV4 0 1 2 3 g_ []), 9⟩ J 4 (wn ?_)))))
 cases h
 exact we J Tryz.func74 [] Q Q Q Q
theorem z28_ct (N : Nat) (g_ : T4) (s_ : Int) (r : (List Int)) (h : z28 N g_ s_ = some r) :
 Fn Tryz.prog 28 ⟨4, [.a (cC4 0 1 2 3 g_), .I s_], (vV4 0 1 2 3 g_ []), [], 5, .S 4, [], [(4, .own (rI .i64) r true)]⟩ := by
 refine Fn.intro _ _ Tryz.func28 rfl (by kernel_rfl) rfl (fun E F w => ?_)
 unfold z28 at h
 refine wq (wg (ws J 2 Q (wn (wq (wg (wx ⟨[(1, .I s_), (2, .B 4 0), (4, .c .nil), (5, .c .nil)], [(4, .box (cC4 0 1 2 3 g_) 27)], (vV4 0 1 2 3 g_ []), 5⟩ J 1 (wn (wq (wq (wg (ws J 1 Q (wn ?_))))))))))))
 refine wC (σ := (List Int)) (fun st => ⟨[(5, .S 5)], [(5, .own (rI .i64) st true)], (vV4 0 1 2 3 g_ []), 6⟩) (fun st => z28_k1 st = some r) ?_ (fun j1 => ?_)
 ·intro d h
  replace h : z28_k1 d = some r := h
  unfold z28_k1 at h
  refine wq (wg (ws J 2 Q (wn ?_)))
  cases h
  exact we J Tryz.func28 [(4, .sl 5)] Q Q Q Q
 refine wo ?_
 refine wI (σ := (List Int) × Int) (fun st => ⟨[(1, .I s_), (2, .B 4 0), (5, .S 5), (6, .I st.2)], [(4, .box (cC4 0 1 2 3 g_) 27), (5, .own (rI .i64) st.1 true)], (vV4 0 1 2 3 g_ []), 6⟩) (fun n st => z28_l2 N g_ s_ n st.1 st.2) (r := r) (fun _ => rfl) ?_ (fun ih => ?_)
 ·intro n12 ih12
  rintro ⟨e, f⟩ h
  replace h : z28_l2 N g_ s_ (n12 + 1) e f = some r := h
  unfold z28_l2 at h
  refine wq (wq (wg (wx ⟨[(1, .I s_), (2, .B 4 0), (5, .S 5), (6, .I f), (12, .O (decide (f < (g_.Edges.length : Int))))], [(4, .box (cC4 0 1 2 3 g_) 27), (5, .own (rI .i64) e true)], (vV4 0 1 2 3 g_ []), 6⟩ J 5 (wn ?_))))
  rcases oc' h with ⟨hc, h⟩ | ⟨hc, h⟩
  ·exact wf hc Q (wz rfl (wu [] (j1 e h) Q Q Q Q))
  refine wt hc Q (wi (wq (wo (wq (wq (wg (xw [3, 4, 5, 6, 7] ⟨[(1, .I s_), (2, .B 4 0), (5, .S 5), (6, .I f), (16, .S 2), (17, .I f)], [(4, .box (cC4 0 1 2 3 g_) 27), (5, .own (rI .i64) e true)], (vV4 0 1 2 3 g_ []), 6⟩ J 3 ?_)))))))
  obtain ⟨g, i, h⟩ := ob h
  refine wj oO2 J i Q Q Q Q Q Q Q Q Q (wx ⟨[(1, .I s_), (2, .B 4 0), (5, .S 5), (6, .I f), (22, .O (g.From != s_))], [(4, .box (cC4 0 1 2 3 g_) 27), (5, .own (rI .i64) e true)], (vV4 0 1 2 3 g_ []), 7⟩ J 4 (wn ?_))
  rcases oc h with ⟨hc, h⟩ | ⟨hc, h⟩
  ·exact wt hc Q (wz rfl (wg (wx ⟨[(1, .I s_), (2, .B 4 0), (5, .S 5), (6, .I (w64 (f + 1)))], [(4, .box (cC4 0 1 2 3 g_) 27), (5, .own (rI .i64) e true)], (vV4 0 1 2 3 g_ []), 7⟩ J 3 (wn (wu [] (ih12 (e, (w64 (f + 1))) h) Q Q Q Q)))))
  refine wf hc Q (wi (wq (wg (ws J 1 Q (wn (wq ?_))))))
  refine wC (σ := Int) (fun st => ⟨[(1, .I s_), (2, .B 4 0), (5, .S 5), (6, .I f), (7, .I st)], [(4, .box (cC4 0 1 2 3 g_) 27), (5, .own (rI .i64) e true)], (vV4 0 1 2 3 g_ []), 7⟩) (fun st => z28_k3 e f (z28_l2 N g_ s_ n12) st = some r) ?_ (fun j19 => ?_)
  ·intro j h
   replace h : z28_k3 e f (z28_l2 N g_ s_ n12) j = some r := h
   unfold z28_k3 at h
   refine wN (fun m o p => ?_)
   have q : m 0 ⟨[(5, .S 5)], [], [], [], 7, [(38, .S 5)], [], [], 7⟩ := o _ _ (wl J Q Q Q Q Q Q)
   have s : m 1 ⟨[(7, .I j)], [], [], [], 7, [(39, .I j)], [], [], 7⟩ := o _ _ (wl J Q Q Q Q Q Q)
   obtain ⟨v, x, h⟩ := ob h
   have y : m 2 ⟨[(38, .S 5), (39, .I j)], [], [], [(5, .own (rI .i64) e true)], 7, [(40, .S 7)], [(7, .vw 5 none (some j) ((rI .i64)).sz)], [], 8⟩ := o _ _ (wO Q Q Q (fun _ _ _ _ _ _ _ k => WPr.vw J (l := none) (h := some (.i64, j)) x Q Q Q Q Q Q Q Q Q Q (k)) rfl)
   have z : m 3 ⟨[(6, .I f)], [], [], [], 8, [(41, .I f)], [], [], 8⟩ := o _ _ (wl J Q Q Q Q Q Q)
   have A : m 4 ⟨[(41, .I f)], [], [], [], 8, [(42, .S 8)], [], [(8, .own (rI .i64) ([f] : List Int) true)], 9⟩ := o _ _ (wO Q Q Q (fun _ _ _ _ _ _ _ k => WPr.bs (cs := [.I f]) (oI .i64) J ([f] : List Int) Q Q Q Q Q Q (by kernel_rfl) (by exact (an Q Q)) rfl (k)) rfl)
   have C : m 5 ⟨[(5, .S 5)], [], [], [], 9, [(43, .S 5)], [], [], 9⟩ := o _ _ (wl J Q Q Q Q Q Q)
   have D : m 6 ⟨[(7, .I j)], [], [], [], 9, [(44, .I j)], [], [], 9⟩ := o _ _ (wl J Q Q Q Q Q Q)
   obtain ⟨G, H, h⟩ := ob h
   have K : m 7 ⟨[(43, .S 5), (44, .I j)], [], [], [(5, .own (rI .i64) e true)], 9, [(45, .S 9)], [(9, .vw 5 (some j) none ((rI .i64)).sz)], [], 10⟩ := o _ _ (wO Q Q Q (fun _ _ _ _ _ _ _ k => WPr.vw J (l := some (.i64, j)) (h := none) H Q Q Q Q Q Q Q Q Q Q (k)) rfl)
   obtain ⟨R, T, h⟩ := ob h
   have U : m 8 ⟨[(42, .S 8), (45, .S 9)], [(9, .vw 5 (some j) none ((rI .i64)).sz)], [(8, .own (rI .i64) ([f] : List Int) true)], [(5, .own (rI .i64) e true)], 10, [(46, .S 10)], [], [(8, .gone), (10, .own (rI .i64) R true)], 11⟩ := o _ _ (wO Q Q Q (fun _ _ _ _ _ _ _ k => WPr.app J T (by exact (srcV H Q Q)) Q Q Q Q Q Q Q Q Q Q (k)) rfl)
   obtain ⟨X, Y, h⟩ := ob h
   have Z : m 9 ⟨[(40, .S 7), (46, .S 10)], [(7, .vw 5 none (some j) ((rI .i64)).sz)], [(5, .own (rI .i64) e true)], [(10, .own (rI .i64) R true)], 11, [(47, .S 11)], [], [(5, .gone), (7, .gone), (11, .own (rI .i64) X true)], 12⟩ := o _ _ (wO Q Q Q (fun _ _ _ _ _ _ _ k => WPr.stl 7 x Q Q Q (WPr.app J Y (by exact (srcO rfl)) Q Q Q Q Q Q Q Q Q Q (k))) rfl)
   have a0 : m 10 ⟨[(47, .S 11)], [], [], [], 12, [(5, .S 11)], [], [], 12⟩ := o _ _ (wl J Q Q Q Q Q Q)
   exact wD (t := ⟨[(1, .I s_), (2, .B 4 0), (5, .S 11), (6, .I f)], [(4, .box (cC4 0 1 2 3 g_) 27), (11, .own (rI .i64) X true)], (vV4 0 1 2 3 g_ []), 12⟩) [0, 0, 3, 0, 8, 0, 0, 96, 248, 511, 1023] (.cons (p _ _ q) (.cons (p _ _ s) (.cons (p _ _ y) (.cons (p _ _ z) (.cons (p _ _ A) (.cons (p _ _ C) (.cons (p _ _ D) (.cons (p _ _ K) (.cons (p _ _ U) (.cons (p _ _ Z) (.cons (p _ _ a0) .nil))))))))))) (by kernel_rfl) (by kernel_rfl) (by kernel_rfl) (by kernel_rfl) (wb (wg (wx ⟨[(1, .I s_), (2, .B 4 0), (5, .S 11), (6, .I (w64 (f + 1)))], [(4, .box (cC4 0 1 2 3 g_) 27), (11, .own (rI .i64) X true)], (vV4 0 1 2 3 g_ []), 12⟩ J 3 (wn (wu [(5, .sl 11)] (ih12 (X, (w64 (f + 1))) h) Q Q Q Q)))))
  refine wo ?_
  refine wI (σ := Int) (fun st => ⟨[(1, .I s_), (2, .B 4 0), (5, .S 5), (6, .I f), (7, .I st)], [(4, .box (cC4 0 1 2 3 g_) 27), (5, .own (rI .i64) e true)], (vV4 0 1 2 3 g_ []), 7⟩) (fun n st => z28_l4 N g_ e f (z28_l2 N g_ s_ n12) n st) (r := r) (fun _ => rfl) ?_ (fun ih => ?_)
  ·intro n14 ih21
   intro b0 h
   replace h : z28_l4 N g_ e f (z28_l2 N g_ s_ n12) (n14 + 1) b0 = some r := h
   unfold z28_l4 at h
   refine wq (wq (wN (fun c0 d0 e0 => ?_)))
   have f0 : c0 0 ⟨[(7, .I b0)], [], [], [], 7, [(23, .I b0)], [], [], 7⟩ := d0 _ _ (wl J Q Q Q Q Q Q)
   have g0 : c0 1 ⟨[(5, .S 5)], [], [], [], 7, [(24, .S 5)], [], [], 7⟩ := d0 _ _ (wl J Q Q Q Q Q Q)
   have i0 : c0 2 ⟨[(24, .S 5)], [], [], [(5, .own (rI .i64) e true)], 7, [(25, .I (e.length : Int))], [], [], 7⟩ := d0 _ _ (wl J Q Q Q Q Q Q)
   have j0 : c0 3 ⟨[(23, .I b0), (25, .I (e.length : Int))], [], [], [], 7, [(26, .O (decide (b0 < (e.length : Int))))], [], [], 7⟩ := d0 _ _ (wl J Q Q Q Q Q Q)
   have k0 : c0 4 ⟨[(26, .O (decide (b0 < (e.length : Int))))], [], [], [], 7, [(27, .O (decide (b0 < (e.length : Int))))], [], [], 7⟩ := d0 _ _ (wl J Q Q Q Q Q Q)
   rcases oc' h with ⟨hc, h⟩ | ⟨hc, h⟩
   ·have l0 := d0 _ _ (LS.kb hc Q (e0 _ _ k0))
    have m0 : c0 5 ⟨[(27, .O false)], [], [], [], 7, [(28, .u)], [], [], 7⟩ := d0 _ _ (LS.skip Q Q Q (.inr ⟨_, rfl, rfl⟩) Q Q)
    have o0 : c0 6 ⟨[(27, .O false)], [], [], [], 7, [(29, .u)], [], [], 7⟩ := d0 _ _ (LS.skip Q Q Q (.inr ⟨_, rfl, rfl⟩) Q Q)
    have p0 : c0 7 ⟨[(27, .O false)], [], [], [], 7, [(30, .u)], [], [], 7⟩ := d0 _ _ (LS.skip Q Q Q (.inr ⟨_, rfl, rfl⟩) Q Q)
    have q0 : c0 8 ⟨[(27, .O false)], [], [], [], 7, [(31, .u)], [], [], 7⟩ := d0 _ _ (LS.skip Q Q Q (.inr ⟨_, rfl, rfl⟩) Q Q)
    have s0 : c0 9 ⟨[(27, .O false)], [], [], [], 7, [(32, .u)], [], [], 7⟩ := d0 _ _ (LS.skip Q Q Q (.inr ⟨_, rfl, rfl⟩) Q Q)
    have t0 : c0 10 ⟨[(27, .O false)], [], [], [], 7, [(33, .u)], [], [], 7⟩ := d0 _ _ (LS.skip Q Q Q (.inr ⟨_, rfl, rfl⟩) Q Q)
    have u0 : c0 11 ⟨[(27, .O false)], [], [], [], 7, [(34, .u)], [], [], 7⟩ := d0 _ _ (LS.skip Q Q Q (.inr ⟨_, rfl, rfl⟩) Q Q)
    have v0 : c0 12 ⟨[(27, .O false), (34, .u)], [], [], [], 7, [(35, .O false)], [], [], 7⟩ := d0 _ _ (wl J Q Q Q Q Q Q)
    exact wD (t := ⟨[(1, .I s_), (2, .B 4 0), (5, .S 5), (6, .I f), (7, .I b0), (35, .O false)], [(4, .box (cC4 0 1 2 3 g_) 27), (5, .own (rI .i64) e true)], (vV4 0 1 2 3 g_ []), 7⟩) [0, 0, 2, 7, 15, 31, 31, 31, 223, 479, 31, 2047, 4095] (.cons (e0 _ _ f0) (.cons (e0 _ _ g0) (.cons (e0 _ _ i0) (.cons (e0 _ _ j0) (.cons (e0 _ _ l0) (.cons (e0 _ _ m0) (.cons (e0 _ _ o0) (.cons (e0 _ _ p0) (.cons (e0 _ _ q0) (.cons (e0 _ _ s0) (.cons (e0 _ _ t0) (.cons (e0 _ _ u0) (.cons (e0 _ _ v0) .nil))))))))))))) (by kernel_rfl) (by kernel_rfl) (by kernel_rfl) (by kernel_rfl) (wf Q Q (wz rfl (wu [] (j19 b0 h) Q Q Q Q)))
   have x0 := d0 _ _ (LS.kb hc Q (e0 _ _ k0))
   have y0 : c0 5 ⟨[(2, .B 4 0), (27, .O true)], (vV4 0 1 2 3 g_ []), [], [(4, .box (cC4 0 1 2 3 g_) 27)], 7, [(28, .a (cC4 0 1 2 3 g_))], [], [], 7⟩ := d0 _ _ (wl J Q Q Q Q Q Q)
   have z0 : c0 6 ⟨[(5, .S 5), (27, .O true)], [], [], [], 7, [(29, .S 5)], [], [], 7⟩ := d0 _ _ (wl J Q Q Q Q Q Q)
   have A0 : c0 7 ⟨[(7, .I b0), (27, .O true)], [], [], [], 7, [(30, .I b0)], [], [], 7⟩ := d0 _ _ (wl J Q Q Q Q Q Q)
   obtain ⟨B0, C0, h⟩ := ob h
   have D0 : c0 8 ⟨[(27, .O true), (29, .S 5), (30, .I b0)], [], [], [(5, .own (rI .i64) e true)], 7, [(31, .P 7 0)], [(7, .el 5 ((b0).toNat * ((rI .i64)).sz))], [], 8⟩ := d0 _ _ (wO Q Q Q (fun _ _ _ _ _ _ _ k => wX J C0 Q Q Q Q Q Q Q Q Q (k)) rfl)
   have G0 : c0 9 ⟨[(27, .O true), (31, .P 7 0)], [(7, .el 5 ((b0).toNat * ((rI .i64)).sz))], [], [(5, .own (rI .i64) e true)], 8, [(32, .I B0)], [], [], 8⟩ := d0 _ _ (wO Q Q Q (fun _ _ _ _ _ _ _ k => wL (oI .i64) J C0 Q Q Q Q Q Q Q Q Q Q (k)) rfl)
   have H0 : c0 10 ⟨[(6, .I f), (27, .O true)], [], [], [], 8, [(33, .I f)], [], [], 8⟩ := d0 _ _ (wl J Q Q Q Q Q Q)
   obtain ⟨I0, K0, h⟩ := ob h
   have L0 : c0 11 ⟨[(27, .O true), (28, .a (cC4 0 1 2 3 g_)), (32, .I B0), (33, .I f)], (vV4 0 1 2 3 g_ []), [], [], 8, [(34, .O I0)], [], [], 8⟩ := d0 _ _ (wO Q Q Q (fun _ _ _ _ _ _ _ k => wc (z74_ct N g_ B0 f _ K0) [(0, .sl 0), (1, .sl 1), (2, .sl 2), (3, .sl 3)] [] Q Q Q Q Q Q Q Q (.inl rfl) rfl (k)) rfl)
   have M0 : c0 12 ⟨[(27, .O true), (34, .O I0)], [], [], [], 8, [(35, .O I0)], [], [], 8⟩ := d0 _ _ (wl J Q Q Q Q Q Q)
   refine wD (t := ⟨[(1, .I s_), (2, .B 4 0), (5, .S 5), (6, .I f), (7, .I b0), (35, .O I0)], [(4, .box (cC4 0 1 2 3 g_) 27), (5, .own (rI .i64) e true)], (vV4 0 1 2 3 g_ []), 8⟩) [0, 0, 2, 7, 15, 31, 31, 31, 223, 479, 31, 2047, 4095] (.cons (e0 _ _ f0) (.cons (e0 _ _ g0) (.cons (e0 _ _ i0) (.cons (e0 _ _ j0) (.cons (e0 _ _ x0) (.cons (e0 _ _ y0) (.cons (e0 _ _ z0) (.cons (e0 _ _ A0) (.cons (e0 _ _ D0) (.cons (e0 _ _ G0) (.cons (e0 _ _ H0) (.cons (e0 _ _ L0) (.cons (e0 _ _ M0) .nil))))))))))))) (by kernel_rfl) (by kernel_rfl) (by kernel_rfl) (by kernel_rfl) ?_
   rcases oc h with ⟨hc, h⟩ | ⟨hc, h⟩
   ·exact wt hc Q (wi (wo (wg (wx ⟨[(1, .I s_), (2, .B 4 0), (5, .S 5), (6, .I f), (7, .I (w64 (b0 + 1)))], [(4, .box (cC4 0 1 2 3 g_) 27), (5, .own (rI .i64) e true)], (vV4 0 1 2 3 g_ []), 8⟩ J 3 (wn (wb (wu [] (ih21 (w64 (b0 + 1)) h) Q Q Q Q)))))))
   exact wf hc Q (wz rfl (wu [] (j19 b0 h) Q Q Q Q))
  exact wu [] (ih N 0 h) Q Q Q Q
 exact wu [(5, .nil)] (ih N (([] : List Int), 0) h) Q Q Q Q
theorem z54_ct (N : Nat) (g_ : T4) (r : Bool) (h : z54 N g_ = some r) :
 Fn Tryz.prog 54 ⟨4, [.a (cC4 0 1 2 3 g_)], (vV4 0 1 2 3 g_ []), [], 4, .O r, [], []⟩ := by
 refine Fn.intro _ _ Tryz.func54 rfl (by kernel_rfl) rfl (fun E F w => ?_)
 unfold z54 at h
 refine wq (wg (ws J 2 Q (wn (wq (wg (xw [2, 3] ⟨[(1, .B 4 0), (2, .O false), (9, .I g_.States)], [(4, .box (cC4 0 1 2 3 g_) 27)], (vV4 0 1 2 3 g_ []), 5⟩ J 2 ?_))))))
 obtain ⟨x1, c, h⟩ := ob h
 refine WPr.mk oB J false c Q Q Q Q Q Q Q Q (by exact an Q Q) rfl (ws J 1 Q (wn (wq (wg (xw [3, 4] ⟨[(1, .B 4 0), (2, .O false), (3, .S 5), (11, .S 5), (13, .I g_.Start)], [(4, .box (cC4 0 1 2 3 g_) 27), (5, .own rB x1 true)], (vV4 0 1 2 3 g_ []), 6⟩ J 3 ?_)))))
 obtain ⟨x2, d, h⟩ := ob h
 refine wX J d Q Q Q Q Q Q Q Q Q (WPr.sto oB J true d Q Q Q Q Q Q Q Q Q Q (by exact rfl) rfl (wn (wq (wq (wg (wx ⟨[(1, .B 4 0), (2, .O false), (3, .S 5), (4, .I 0)], [(4, .box (cC4 0 1 2 3 g_) 27), (5, .own rB (setL' x1 g_.Start true) true)], (vV4 0 1 2 3 g_ []), 7⟩ J 1 (wn ?_)))))))
 refine wC (σ := (List Bool)) (fun st => ⟨[(1, .B 4 0), (3, .S 5)], [(4, .box (cC4 0 1 2 3 g_) 27), (5, .own rB st true)], (vV4 0 1 2 3 g_ []), 7⟩) (fun st => z54_k3 N g_ st = some r) ?_ (fun j1 => ?_)
 ·intro e h
  replace h : z54_k3 N g_ e = some r := h
  unfold z54_k3 at h
  refine wq (wg (ws J 1 Q ?_))
  obtain ⟨f, g, h⟩ := ob h
  refine wc (z81_ct N g_ _ g) [(0, .sl 0), (1, .sl 1), (2, .sl 2), (3, .sl 3)] [] Q Q Q Q Q Q Q Q (.inl rfl) rfl (wx ⟨[(1, .B 4 0), (3, .S 5), (6, .S 7)], [(4, .box (cC4 0 1 2 3 g_) 27), (5, .own rB e true), (7, .own (rI .i64) f true)], (vV4 0 1 2 3 g_ []), 8⟩ J 1 (wn (wq (wq (wg (ws J 1 Q (wn ?_)))))))
  refine wC (σ := Unit) (fun st => ⟨[(1, .B 4 0)], [(4, .box (cC4 0 1 2 3 g_) 27)], (vV4 0 1 2 3 g_ []), 8⟩) (fun st => z54_k1 N g_ = some r) ?_ (fun j12 => ?_)
  ·intro _ h
   replace h : z54_k1 N g_ = some r := h
   unfold z54_k1 at h
   refine wq (wg (xw [3, 4, 5, 6] ⟨[(76, .a (cC4 0 1 2 3 g_)), (78, .I g_.End)], [], (vV4 0 1 2 3 g_ []), 8⟩ J 3 ?_))
   obtain ⟨i, j, h⟩ := ob h
   refine wc (z28_ct N g_ g_.End _ j) [(0, .sl 0), (1, .sl 1), (2, .sl 2), (3, .sl 3)] [] Q Q Q Q Q Q Q Q (.inl rfl) rfl (wx ⟨[(2, .O ((i.length : Int) == 0))], [], (vV4 0 1 2 3 g_ []), 9⟩ J 3 (wn ?_))
   cases h
   exact we J Tryz.func54 [] Q Q Q Q
  refine wo ?_
  refine wI (σ := Int) (fun st => ⟨[(1, .B 4 0), (3, .S 5), (6, .S 7), (7, .I st)], [(4, .box (cC4 0 1 2 3 g_) 27), (5, .own rB e true), (7, .own (rI .i64) f true)], (vV4 0 1 2 3 g_ []), 8⟩) (fun n st => z54_l2 N g_ e f n st) (r := r) (fun _ => rfl) ?_ (fun ih => ?_)
  ·intro n9 ih14
   intro l h
   replace h : z54_l2 N g_ e f (n9 + 1) l = some r := h
   unfold z54_l2 at h
   refine wq (wq (wg (wx ⟨[(1, .B 4 0), (3, .S 5), (6, .S 7), (7, .I l), (61, .O (decide (l < g_.States)))], [(4, .box (cC4 0 1 2 3 g_) 27), (5, .own rB e true), (7, .own (rI .i64) f true)], (vV4 0 1 2 3 g_ []), 8⟩ J 4 (wn ?_))))
   rcases oc' h with ⟨hc, h⟩ | ⟨hc, h⟩
   ·exact wf hc Q (wz rfl (wu [] (j12 () h) Q Q Q Q))
   refine wt hc Q (wi (wq (wo (wq (wg (ws J 2 Q ?_))))))
   obtain ⟨m, o, h⟩ := ob h
   refine wX J o Q Q Q Q Q Q Q Q Q (xw (rg 3 9) ⟨[(1, .B 4 0), (3, .S 5), (6, .S 7), (7, .I l), (66, .P 8 0)], [(4, .box (cC4 0 1 2 3 g_) 27), (5, .own rB e true), (7, .own (rI .i64) f true)], (vV4 0 1 2 3 g_ [(8, .el 5 ((l).toNat * (rB).sz))]), 9⟩ J 0 (wL oB J o Q Q Q Q Q Q Q Q Q Q (xw (rg 6 6) ⟨[(1, .B 4 0), (3, .S 5), (6, .S 7), (7, .I l), (69, .O (!m))], [(4, .box (cC4 0 1 2 3 g_) 27), (5, .own rB e true), (7, .own (rI .i64) f true)], (vV4 0 1 2 3 g_ []), 9⟩ J 2 ?_)))
   rcases oc h with ⟨hc, h⟩ | ⟨hc, h⟩
   ·refine wy 69 hc Q (wx ⟨[(1, .B 4 0), (3, .S 5), (6, .S 7), (7, .I l), (75, .O true)], [(4, .box (cC4 0 1 2 3 g_) 27), (5, .own rB e true), (7, .own (rI .i64) f true)], (vV4 0 1 2 3 g_ []), 9⟩ J 6 (wn (wt Q Q (wq (wg (ws J 1 Q (wn ?_)))))))
    cases h
    exact we J Tryz.func54 [] Q Q Q Q
   refine wy 69 hc Q (ws J 2 Q ?_)
   obtain ⟨p, q, h⟩ := ob h
   refine wX J q Q Q Q Q Q Q Q Q Q (xw [9, 10, 11] ⟨[(1, .B 4 0), (3, .S 5), (6, .S 7), (7, .I l), (69, .O false), (72, .P 9 0)], [(4, .box (cC4 0 1 2 3 g_) 27), (5, .own rB e true), (7, .own (rI .i64) f true)], (vV4 0 1 2 3 g_ [(9, .el 7 ((l).toNat * ((rI .i64)).sz))]), 10⟩ J 0 (wL (oI .i64) J q Q Q Q Q Q Q Q Q Q Q (wx ⟨[(1, .B 4 0), (3, .S 5), (6, .S 7), (7, .I l), (75, .O (decide (p < 0)))], [(4, .box (cC4 0 1 2 3 g_) 27), (5, .own rB e true), (7, .own (rI .i64) f true)], (vV4 0 1 2 3 g_ []), 10⟩ J 2 (wn ?_))))
   rcases oc h with ⟨hc, h⟩ | ⟨hc, h⟩
   ·refine wt hc Q (wq (wg (ws J 1 Q (wn ?_))))
    cases h
    exact we J Tryz.func54 [] Q Q Q Q
   exact wf hc Q (wi (wb (wg (wx ⟨[(1, .B 4 0), (3, .S 5), (6, .S 7), (7, .I (w64 (l + 1)))], [(4, .box (cC4 0 1 2 3 g_) 27), (5, .own rB e true), (7, .own (rI .i64) f true)], (vV4 0 1 2 3 g_ []), 10⟩ J 3 (wn (wu [] (ih14 (w64 (l + 1)) h) Q Q Q Q))))))
  exact wu [] (ih N 0 h) Q Q Q Q
 refine wo ?_
 refine wI (σ := (List Bool) × Int) (fun st => ⟨[(1, .B 4 0), (3, .S 5), (4, .I st.2)], [(4, .box (cC4 0 1 2 3 g_) 27), (5, .own rB st.1 true)], (vV4 0 1 2 3 g_ []), 7⟩) (fun n st => z54_l4 N g_ n st.1 st.2) (r := r) (fun _ => rfl) ?_ (fun ih => ?_)
 ·intro n14 ih15
  rintro ⟨s, v⟩ h
  replace h : z54_l4 N g_ (n14 + 1) s v = some r := h
  unfold z54_l4 at h
  refine wq (wq (wg (wx ⟨[(1, .B 4 0), (3, .S 5), (4, .I v), (18, .O (decide (v < g_.States)))], [(4, .box (cC4 0 1 2 3 g_) 27), (5, .own rB s true)], (vV4 0 1 2 3 g_ []), 7⟩ J 4 (wn ?_))))
  rcases oc' h with ⟨hc, h⟩ | ⟨hc, h⟩
  ·exact wf hc Q (wz rfl (wu [] (j1 s h) Q Q Q Q))
  refine wt hc Q (wi (wq (wo (wq (wg (ws J 1 Q (wn ?_)))))))
  refine wC (σ := (List Bool)) (fun st => ⟨[(1, .B 4 0), (3, .S 5), (4, .I v)], [(4, .box (cC4 0 1 2 3 g_) 27), (5, .own rB st true)], (vV4 0 1 2 3 g_ []), 7⟩) (fun st => z54_k5 v (z54_l4 N g_ n14) st = some r) ?_ (fun j22 => ?_)
  ·intro x h
   replace h : z54_k5 v (z54_l4 N g_ n14) x = some r := h
   unfold z54_k5 at h
   exact wb (wg (wx ⟨[(1, .B 4 0), (3, .S 5), (4, .I (w64 (v + 1)))], [(4, .box (cC4 0 1 2 3 g_) 27), (5, .own rB x true)], (vV4 0 1 2 3 g_ []), 7⟩ J 3 (wn (wu [] (ih15 (x, (w64 (v + 1))) h) Q Q Q Q))))
  refine wo ?_
  refine wI (σ := (List Bool) × Int) (fun st => ⟨[(1, .B 4 0), (3, .S 5), (4, .I v), (5, .I st.2)], [(4, .box (cC4 0 1 2 3 g_) 27), (5, .own rB st.1 true)], (vV4 0 1 2 3 g_ []), 7⟩) (fun n st => z54_l6 g_ v (z54_l4 N g_ n14) n st.1 st.2) (r := r) (fun _ => rfl) ?_ (fun ih => ?_)
  ·intro n16 ih24
   rintro ⟨y, z⟩ h
   replace h : z54_l6 g_ v (z54_l4 N g_ n14) (n16 + 1) y z = some r := h
   unfold z54_l6 at h
   refine wq (wq (wg (wx ⟨[(1, .B 4 0), (3, .S 5), (4, .I v), (5, .I z), (25, .O (decide (z < (g_.Edges.length : Int))))], [(4, .box (cC4 0 1 2 3 g_) 27), (5, .own rB y true)], (vV4 0 1 2 3 g_ []), 7⟩ J 5 (wn ?_))))
   rcases oc' h with ⟨hc, h⟩ | ⟨hc, h⟩
   ·exact wf hc Q (wz rfl (wu [] (j22 y h) Q Q Q Q))
   refine wt hc Q (wi (wq (wo (wN (fun A C D => ?_)))))
   have G : A 0 ⟨[(3, .S 5)], [], [], [], 7, [(28, .S 5)], [], [], 7⟩ := C _ _ (wl J Q Q Q Q Q Q)
   have H : A 1 ⟨[(1, .B 4 0)], [], [], [], 7, [(29, .B 4 6)], [], [], 7⟩ := C _ _ (wl J Q Q Q Q Q Q)
   have K : A 2 ⟨[(29, .B 4 6)], (vV4 0 1 2 3 g_ []), [], [(4, .box (cC4 0 1 2 3 g_) 27)], 7, [(30, .S 2)], [], [], 7⟩ := C _ _ (wl J Q Q Q Q Q Q)
   have R : A 3 ⟨[(5, .I z)], [], [], [], 7, [(31, .I z)], [], [], 7⟩ := C _ _ (wl J Q Q Q Q Q Q)
   obtain ⟨T, U, h⟩ := ob h
   have X : A 4 ⟨[(30, .S 2), (31, .I z)], [(2, .sl rR2 g_.Edges)], [], [], 7, [(32, .P 7 0)], [(7, .pl (cC2 T))], [], 8⟩ := C _ _ (wO Q Q Q (fun _ _ _ _ _ _ _ k => wj oO2 J U Q Q Q Q Q Q Q Q Q (k)) rfl)
   have Y : A 5 ⟨[(32, .P 7 0)], [(7, .pl (cC2 T))], [], [], 8, [(33, .P 7 4)], [], [], 8⟩ := C _ _ (wl J Q Q Q Q Q Q)
   have Z : A 6 ⟨[(33, .P 7 4)], [(7, .pl (cC2 T))], [], [], 8, [(34, .I T.To)], [], [], 8⟩ := C _ _ (wl J Q Q Q Q Q Q)
   have a0 : A 7 ⟨[(3, .S 5)], [], [], [], 8, [(35, .S 5)], [], [], 8⟩ := C _ _ (wl J Q Q Q Q Q Q)
   have b0 : A 8 ⟨[(1, .B 4 0)], [], [], [], 8, [(36, .B 4 6)], [], [], 8⟩ := C _ _ (wl J Q Q Q Q Q Q)
   have c0 : A 9 ⟨[(36, .B 4 6)], (vV4 0 1 2 3 g_ []), [], [(4, .box (cC4 0 1 2 3 g_) 27)], 8, [(37, .S 2)], [], [], 8⟩ := C _ _ (wl J Q Q Q Q Q Q)
   have d0 : A 10 ⟨[(5, .I z)], [], [], [], 8, [(38, .I z)], [], [], 8⟩ := C _ _ (wl J Q Q Q Q Q Q)
   obtain ⟨e0, f0, h⟩ := ob h
   have g0 : A 11 ⟨[(37, .S 2), (38, .I z)], [(2, .sl rR2 g_.Edges)], [], [], 8, [(39, .P 8 0)], [(8, .pl (cC2 e0))], [], 9⟩ := C _ _ (wO Q Q Q (fun _ _ _ _ _ _ _ k => wj oO2 J f0 Q Q Q Q Q Q Q Q Q (k)) rfl)
   have i0 : A 12 ⟨[(39, .P 8 0)], [(8, .pl (cC2 e0))], [], [], 9, [(40, .P 8 4)], [], [], 9⟩ := C _ _ (wl J Q Q Q Q Q Q)
   have j0 : A 13 ⟨[(40, .P 8 4)], [(8, .pl (cC2 e0))], [], [], 9, [(41, .I e0.To)], [], [], 9⟩ := C _ _ (wl J Q Q Q Q Q Q)
   obtain ⟨k0, l0, h⟩ := ob h
   have m0 : A 14 ⟨[(35, .S 5), (41, .I e0.To)], [], [], [(5, .own rB y true)], 9, [(42, .P 9 0)], [(9, .el 5 ((e0.To).toNat * (rB).sz))], [], 10⟩ := C _ _ (wO Q Q Q (fun _ _ _ _ _ _ _ k => wX J l0 Q Q Q Q Q Q Q Q Q (k)) rfl)
   have o0 : A 15 ⟨[(42, .P 9 0)], [(9, .el 5 ((e0.To).toNat * (rB).sz))], [], [(5, .own rB y true)], 10, [(43, .O k0)], [], [], 10⟩ := C _ _ (wO Q Q Q (fun _ _ _ _ _ _ _ k => wL oB J l0 Q Q Q Q Q Q Q Q Q Q (k)) rfl)
   have p0 : A 16 ⟨[(43, .O k0)], [], [], [], 10, [(44, .O k0)], [], [], 10⟩ := C _ _ (wl J Q Q Q Q Q Q)
   rcases oc h with ⟨hc, h⟩ | ⟨hc, h⟩
   ·have q0 := C _ _ (LS.kb hc Q (D _ _ p0))
    have s0 : A 17 ⟨[(44, .O true)], [], [], [], 10, [(45, .u)], [], [], 10⟩ := C _ _ (LS.skip Q Q Q (.inr ⟨_, rfl, rfl⟩) Q Q)
    have t0 : A 18 ⟨[(44, .O true)], [], [], [], 10, [(46, .u)], [], [], 10⟩ := C _ _ (LS.skip Q Q Q (.inr ⟨_, rfl, rfl⟩) Q Q)
    have u0 : A 19 ⟨[(44, .O true)], [], [], [], 10, [(47, .u)], [], [], 10⟩ := C _ _ (LS.skip Q Q Q (.inr ⟨_, rfl, rfl⟩) Q Q)
    have v0 : A 20 ⟨[(44, .O true)], [], [], [], 10, [(48, .u)], [], [], 10⟩ := C _ _ (LS.skip Q Q Q (.inr ⟨_, rfl, rfl⟩) Q Q)
    have x0 : A 21 ⟨[(44, .O true)], [], [], [], 10, [(49, .u)], [], [], 10⟩ := C _ _ (LS.skip Q Q Q (.inr ⟨_, rfl, rfl⟩) Q Q)
    have y0 : A 22 ⟨[(44, .O true)], [], [], [], 10, [(50, .u)], [], [], 10⟩ := C _ _ (LS.skip Q Q Q (.inr ⟨_, rfl, rfl⟩) Q Q)
    have z0 : A 23 ⟨[(44, .O true)], [], [], [], 10, [(51, .u)], [], [], 10⟩ := C _ _ (LS.skip Q Q Q (.inr ⟨_, rfl, rfl⟩) Q Q)
    have A0 : A 24 ⟨[(44, .O true)], [], [], [], 10, [(52, .u)], [], [], 10⟩ := C _ _ (LS.skip Q Q Q (.inr ⟨_, rfl, rfl⟩) Q Q)
    have B0 : A 25 ⟨[(44, .O true)], [], [], [], 10, [(53, .u)], [], [], 10⟩ := C _ _ (LS.skip Q Q Q (.inr ⟨_, rfl, rfl⟩) Q Q)
    have C0 : A 26 ⟨[(44, .O true), (53, .u)], [], [], [], 10, [(54, .O true)], [], [], 10⟩ := C _ _ (wl J Q Q Q Q Q Q)
    obtain ⟨D0, G0, h⟩ := ob h
    have H0 : A 27 ⟨[(28, .S 5), (34, .I T.To)], [], [], [(5, .own rB y true)], 10, [(55, .P 10 0)], [(10, .el 5 ((T.To).toNat * (rB).sz))], [], 11⟩ := C _ _ (wO Q Q Q (fun _ _ _ _ _ _ _ k => wX J G0 Q Q Q Q Q Q Q Q Q (k)) rfl)
    have I0 : A 28 ⟨[(54, .O true), (55, .P 10 0)], [(10, .el 5 ((T.To).toNat * (rB).sz))], [(5, .own rB y true)], [], 11, [], [], [(5, .own rB (setL' y T.To true) true)], 11⟩ := C _ _ (wO Q Q Q (fun _ _ _ _ _ _ _ k => WPr.sto oB J true G0 Q Q Q Q Q Q Q Q Q Q (by exact rfl) rfl (k)) rfl)
    exact wD (t := ⟨[(1, .B 4 0), (3, .S 5), (4, .I v), (5, .I z)], [(4, .box (cC4 0 1 2 3 g_) 27), (5, .own rB (setL' y T.To true) true)], (vV4 0 1 2 3 g_ []), 11⟩) [0, 0, 2, 0, 14, 30, 62, 0, 0, 256, 0, 1792, 3840, 7936, 16256, 32640, 65408, 130944, 130944, 393088, 130944, 1965952, 4063104, 8257408, 16777088, 33554304, 67108736, 134217727, 268435455] (.cons (D _ _ G) (.cons (D _ _ H) (.cons (D _ _ K) (.cons (D _ _ R) (.cons (D _ _ X) (.cons (D _ _ Y) (.cons (D _ _ Z) (.cons (D _ _ a0) (.cons (D _ _ b0) (.cons (D _ _ c0) (.cons (D _ _ d0) (.cons (D _ _ g0) (.cons (D _ _ i0) (.cons (D _ _ j0) (.cons (D _ _ m0) (.cons (D _ _ o0) (.cons (D _ _ q0) (.cons (D _ _ s0) (.cons (D _ _ t0) (.cons (D _ _ u0) (.cons (D _ _ v0) (.cons (D _ _ x0) (.cons (D _ _ y0) (.cons (D _ _ z0) (.cons (D _ _ A0) (.cons (D _ _ B0) (.cons (D _ _ C0) (.cons (D _ _ H0) (.cons (D _ _ I0) .nil))))))))))))))))))))))))))))) (by kernel_rfl) (by kernel_rfl) (by kernel_rfl) (by kernel_rfl) (wb (wg (wx ⟨[(1, .B 4 0), (3, .S 5), (4, .I v), (5, .I (w64 (z + 1)))], [(4, .box (cC4 0 1 2 3 g_) 27), (5, .own rB (setL' y T.To true) true)], (vV4 0 1 2 3 g_ []), 11⟩ J 3 (wn (wu [] (ih24 ((setL' y T.To true), (w64 (z + 1))) h) Q Q Q Q)))))
   have K0 := C _ _ (LS.kb hc Q (D _ _ p0))
   have L0 : A 17 ⟨[(3, .S 5), (44, .O false)], [], [], [], 10, [(45, .S 5)], [], [], 10⟩ := C _ _ (wl J Q Q Q Q Q Q)
   have M0 : A 18 ⟨[(1, .B 4 0), (44, .O false)], [], [], [], 10, [(46, .B 4 6)], [], [], 10⟩ := C _ _ (wl J Q Q Q Q Q Q)
   have O0 : A 19 ⟨[(44, .O false), (46, .B 4 6)], (vV4 0 1 2 3 g_ []), [], [(4, .box (cC4 0 1 2 3 g_) 27)], 10, [(47, .S 2)], [], [], 10⟩ := C _ _ (wl J Q Q Q Q Q Q)
   have R0 : A 20 ⟨[(5, .I z), (44, .O false)], [], [], [], 10, [(48, .I z)], [], [], 10⟩ := C _ _ (wl J Q Q Q Q Q Q)
   obtain ⟨S0, T0, h⟩ := ob h
   have U0 : A 21 ⟨[(44, .O false), (47, .S 2), (48, .I z)], [(2, .sl rR2 g_.Edges)], [], [], 10, [(49, .P 10 0)], [(10, .pl (cC2 S0))], [], 11⟩ := C _ _ (wO Q Q Q (fun _ _ _ _ _ _ _ k => wj oO2 J T0 Q Q Q Q Q Q Q Q Q (k)) rfl)
   have V0 : A 22 ⟨[(44, .O false), (49, .P 10 0)], [(10, .pl (cC2 S0))], [], [], 11, [(50, .P 10 0)], [], [], 11⟩ := C _ _ (wl J Q Q Q Q Q Q)
   have X0 : A 23 ⟨[(44, .O false), (50, .P 10 0)], [(10, .pl (cC2 S0))], [], [], 11, [(51, .I S0.From)], [], [], 11⟩ := C _ _ (wl J Q Q Q Q Q Q)
   obtain ⟨Y0, Z0, h⟩ := ob h
   have a1 : A 24 ⟨[(44, .O false), (45, .S 5), (51, .I S0.From)], [], [], [(5, .own rB y true)], 11, [(52, .P 11 0)], [(11, .el 5 ((S0.From).toNat * (rB).sz))], [], 12⟩ := C _ _ (wO Q Q Q (fun _ _ _ _ _ _ _ k => wX J Z0 Q Q Q Q Q Q Q Q Q (k)) rfl)
   have b1 : A 25 ⟨[(44, .O false), (52, .P 11 0)], [(11, .el 5 ((S0.From).toNat * (rB).sz))], [], [(5, .own rB y true)], 12, [(53, .O Y0)], [], [], 12⟩ := C _ _ (wO Q Q Q (fun _ _ _ _ _ _ _ k => wL oB J Z0 Q Q Q Q Q Q Q Q Q Q (k)) rfl)
   have c1 : A 26 ⟨[(44, .O false), (53, .O Y0)], [], [], [], 12, [(54, .O Y0)], [], [], 12⟩ := C _ _ (wl J Q Q Q Q Q Q)
   obtain ⟨d1, e1, h⟩ := ob h
   have f1 : A 27 ⟨[(28, .S 5), (34, .I T.To)], [], [], [(5, .own rB y true)], 12, [(55, .P 12 0)], [(12, .el 5 ((T.To).toNat * (rB).sz))], [], 13⟩ := C _ _ (wO Q Q Q (fun _ _ _ _ _ _ _ k => wX J e1 Q Q Q Q Q Q Q Q Q (k)) rfl)
   have g1 : A 28 ⟨[(54, .O Y0), (55, .P 12 0)], [(12, .el 5 ((T.To).toNat * (rB).sz))], [(5, .own rB y true)], [], 13, [], [], [(5, .own rB (setL' y T.To Y0) true)], 13⟩ := C _ _ (wO Q Q Q (fun _ _ _ _ _ _ _ k => WPr.sto oB J Y0 e1 Q Q Q Q Q Q Q Q Q Q (by exact rfl) rfl (k)) rfl)
   exact wD (t := ⟨[(1, .B 4 0), (3, .S 5), (4, .I v), (5, .I z)], [(4, .box (cC4 0 1 2 3 g_) 27), (5, .own rB (setL' y T.To Y0) true)], (vV4 0 1 2 3 g_ []), 13⟩) [0, 0, 2, 0, 14, 30, 62, 0, 0, 256, 0, 1792, 3840, 7936, 16256, 32640, 65408, 130944, 130944, 393088, 130944, 1965952, 4063104, 8257408, 16777088, 33554304, 67108736, 134217727, 268435455] (.cons (D _ _ G) (.cons (D _ _ H) (.cons (D _ _ K) (.cons (D _ _ R) (.cons (D _ _ X) (.cons (D _ _ Y) (.cons (D _ _ Z) (.cons (D _ _ a0) (.cons (D _ _ b0) (.cons (D _ _ c0) (.cons (D _ _ d0) (.cons (D _ _ g0) (.cons (D _ _ i0) (.cons (D _ _ j0) (.cons (D _ _ m0) (.cons (D _ _ o0) (.cons (D _ _ K0) (.cons (D _ _ L0) (.cons (D _ _ M0) (.cons (D _ _ O0) (.cons (D _ _ R0) (.cons (D _ _ U0) (.cons (D _ _ V0) (.cons (D _ _ X0) (.cons (D _ _ a1) (.cons (D _ _ b1) (.cons (D _ _ c1) (.cons (D _ _ f1) (.cons (D _ _ g1) .nil))))))))))))))))))))))))))))) (by kernel_rfl) (by kernel_rfl) (by kernel_rfl) (by kernel_rfl) (wb (wg (wx ⟨[(1, .B 4 0), (3, .S 5), (4, .I v), (5, .I (w64 (z + 1)))], [(4, .box (cC4 0 1 2 3 g_) 27), (5, .own rB (setL' y T.To Y0) true)], (vV4 0 1 2 3 g_ []), 13⟩ J 3 (wn (wu [] (ih24 ((setL' y T.To Y0), (w64 (z + 1))) h) Q Q Q Q)))))
  exact wu [] (ih N (s, 0) h) Q Q Q Q
 exact wu [] (ih N ((setL' x1 g_.Start true), 0) h) Q Q Q Q
theorem z55_ct (N : Nat) (g_ : T4) (r : Bool) (h : z55 N g_ = some r) :
 Fn Tryz.prog 55 ⟨4, [.a (cC4 0 1 2 3 g_)], (vV4 0 1 2 3 g_ []), [], 4, .O r, [], []⟩ := by
 refine Fn.intro _ _ Tryz.func55 rfl (by kernel_rfl) rfl (fun E F w => ?_)
 unfold z55 at h
 refine wq (wg (ws J 2 Q (wn (wq (wq (wg (wx ⟨[(1, .B 4 0), (2, .O false), (3, .I 0)], [(4, .box (cC4 0 1 2 3 g_) 27)], (vV4 0 1 2 3 g_ []), 5⟩ J 1 (wn ?_))))))))
 refine wC (σ := Unit) (fun st => ⟨[], [], (vV4 0 1 2 3 g_ []), 5⟩) (fun st => z55_k1 = some r) ?_ (fun j1 => ?_)
 ·intro _ h
  replace h : z55_k1 = some r := h
  unfold z55_k1 at h
  refine wq (wg (ws J 1 Q (wn ?_)))
  cases h
  exact we J Tryz.func55 [] Q Q Q Q
 refine wo ?_
 refine wI (σ := Int) (fun st => ⟨[(1, .B 4 0), (3, .I st)], [(4, .box (cC4 0 1 2 3 g_) 27)], (vV4 0 1 2 3 g_ []), 5⟩) (fun n st => z55_l2 N g_ n st) (r := r) (fun _ => rfl) ?_ (fun ih => ?_)
 ·intro n2 ih3
  intro c h
  replace h : z55_l2 N g_ (n2 + 1) c = some r := h
  unfold z55_l2 at h
  refine wq (wq (wg (wx ⟨[(1, .B 4 0), (3, .I c), (9, .O (decide (c < (g_.Timeouts.length : Int))))], [(4, .box (cC4 0 1 2 3 g_) 27)], (vV4 0 1 2 3 g_ []), 5⟩ J 5 (wn ?_))))
  rcases oc' h with ⟨hc, h⟩ | ⟨hc, h⟩
  ·exact wf hc Q (wz rfl (wu [] (j1 () h) Q Q Q Q))
  refine wt hc Q (wi (wq (wo (wq (wg (xw [3, 4, 5, 6] ⟨[(1, .B 4 0), (3, .I c), (13, .S 3), (14, .I c)], [(4, .box (cC4 0 1 2 3 g_) 27)], (vV4 0 1 2 3 g_ []), 5⟩ J 3 ?_))))))
  obtain ⟨d, e, h⟩ := ob h
  refine wj oO8 J e Q Q Q Q Q Q Q Q Q (wx ⟨[(1, .B 4 0), (3, .I c), (4, .B 6 0)], [(4, .box (cC4 0 1 2 3 g_) 27), (6, .box (cC8 d) 79)], (vV4 0 1 2 3 g_ []), 7⟩ J 3 (wn (wq (wQ (by kernel_rfl) (by kernel_rfl) (xq (rg 3 62) ⟨[(1, .B 4 0), (3, .I c), (4, .B 6 0), (17, .a (cC4 0 1 2 3 g_)), (19, .I d.State)], [(4, .box (cC4 0 1 2 3 g_) 27), (6, .box (cC8 d) 79)], (vV4 0 1 2 3 g_ []), 7⟩ J 3 ?_)))))
  obtain ⟨f, g, h⟩ := ob h
  refine qc (z114_ct N g_ d.State _ g) [(0, .sl 0), (1, .sl 1), (2, .sl 2), (3, .sl 3)] [] Q Q Q Q Q Q Q Q Q Q Q Q (xq (rg 6 59) ⟨[(1, .B 4 0), (3, .I c), (4, .B 6 0), (22, .O (!f))], [(4, .box (cC4 0 1 2 3 g_) 27), (6, .box (cC8 d) 79)], (vV4 0 1 2 3 g_ []), 7⟩ J 2 ?_)
  rcases oc h with ⟨hc, h⟩ | ⟨hc, h⟩
  ·refine qy 22 hc Q (qx ⟨[(1, .B 4 0), (3, .I c), (81, .O true)], [(4, .box (cC4 0 1 2 3 g_) 27)], (vV4 0 1 2 3 g_ []), 7⟩ J 59 (qn (wt Q Q (wq (wg (ws J 1 Q (wn ?_)))))))
   cases h
   exact we J Tryz.func55 [] Q Q Q Q
  refine qy 22 hc Q (xq (rg 9 56) ⟨[(1, .B 4 0), (3, .I c), (4, .B 6 0), (22, .O false), (25, .O (decide (c > 0)))], [(4, .box (cC4 0 1 2 3 g_) 27), (6, .box (cC8 d) 79)], (vV4 0 1 2 3 g_ []), 7⟩ J 3 ?_)
  rcases oc' h with ⟨hc, h⟩ | ⟨hc, h⟩
  ·refine qy 25 hc Q (xq (rg 27 38) ⟨[(1, .B 4 0), (3, .I c), (4, .B 6 0), (43, .O (decide (d.Ticks < 1)))], [(4, .box (cC4 0 1 2 3 g_) 27), (6, .box (cC8 d) 79)], (vV4 0 1 2 3 g_ []), 7⟩ J 18 ?_)
   rcases oc h with ⟨hc, h⟩ | ⟨hc, h⟩
   ·refine qy 43 hc Q (qx ⟨[(1, .B 4 0), (3, .I c), (81, .O true)], [(4, .box (cC4 0 1 2 3 g_) 27)], (vV4 0 1 2 3 g_ []), 7⟩ J 38 (qn (wt Q Q (wq (wg (ws J 1 Q (wn ?_)))))))
    cases h
    exact we J Tryz.func55 [] Q Q Q Q
   refine qy 43 hc Q (xq (rg 32 33) ⟨[(1, .B 4 0), (3, .I c), (4, .B 6 0), (48, .O (decide (d.Ticks > 1000)))], [(4, .box (cC4 0 1 2 3 g_) 27), (6, .box (cC8 d) 79)], (vV4 0 1 2 3 g_ []), 7⟩ J 5 ?_)
   rcases oc h with ⟨hc, h⟩ | ⟨hc, h⟩
   ·refine qy 48 hc Q (qx ⟨[(1, .B 4 0), (3, .I c), (81, .O true)], [(4, .box (cC4 0 1 2 3 g_) 27)], (vV4 0 1 2 3 g_ []), 7⟩ J 33 (qn (wt Q Q (wq (wg (ws J 1 Q (wn ?_)))))))
    cases h
    exact we J Tryz.func55 [] Q Q Q Q
   refine qy 48 hc Q (xq (rg 37 28) ⟨[(1, .B 4 0), (3, .I c), (4, .B 6 0), (53, .O (decide (d.Else < 0)))], [(4, .box (cC4 0 1 2 3 g_) 27), (6, .box (cC8 d) 79)], (vV4 0 1 2 3 g_ []), 7⟩ J 5 ?_)
   rcases oc h with ⟨hc, h⟩ | ⟨hc, h⟩
   ·refine qy 53 hc Q (qx ⟨[(1, .B 4 0), (3, .I c), (81, .O true)], [(4, .box (cC4 0 1 2 3 g_) 27)], (vV4 0 1 2 3 g_ []), 7⟩ J 28 (qn (wt Q Q (wq (wg (ws J 1 Q (wn ?_)))))))
    cases h
    exact we J Tryz.func55 [] Q Q Q Q
   refine qy 53 hc Q (xq (rg 45 20) ⟨[(1, .B 4 0), (3, .I c), (4, .B 6 0), (61, .O (decide (d.Else ≥ (g_.Edges.length : Int))))], [(4, .box (cC4 0 1 2 3 g_) 27), (6, .box (cC8 d) 79)], (vV4 0 1 2 3 g_ []), 7⟩ J 8 ?_)
   rcases oc h with ⟨hc, h⟩ | ⟨hc, h⟩
   ·refine qy 61 hc Q (qx ⟨[(1, .B 4 0), (3, .I c), (81, .O true)], [(4, .box (cC4 0 1 2 3 g_) 27)], (vV4 0 1 2 3 g_ []), 7⟩ J 20 (qn (wt Q Q (wq (wg (ws J 1 Q (wn ?_)))))))
    cases h
    exact we J Tryz.func55 [] Q Q Q Q
   refine qy 61 hc Q (xq (rg 49 16) ⟨[(1, .B 4 0), (3, .I c), (4, .B 6 0), (61, .O false), (63, .S 2), (65, .I d.Else)], [(4, .box (cC4 0 1 2 3 g_) 27), (6, .box (cC8 d) 79)], (vV4 0 1 2 3 g_ []), 7⟩ J 4 ?_)
   obtain ⟨i, j, h⟩ := ob h
   refine WPq.op Q Q (VN.vs (VN.ix oO2 J j Q Q Q Q Q Q Q)) (xq (rg 57 8) ⟨[(1, .B 4 0), (3, .I c), (4, .B 6 0), (73, .O (i.From != d.State))], [(4, .box (cC4 0 1 2 3 g_) 27), (6, .box (cC8 d) 79)], (vV4 0 1 2 3 g_ []), 8⟩ J 7 ?_)
   rcases oc h with ⟨hc, h⟩ | ⟨hc, h⟩
   ·refine qy 73 hc Q (qx ⟨[(1, .B 4 0), (3, .I c), (81, .O true)], [(4, .box (cC4 0 1 2 3 g_) 27)], (vV4 0 1 2 3 g_ []), 8⟩ J 8 (qn (wt Q Q (wq (wg (ws J 1 Q (wn ?_)))))))
    cases h
    exact we J Tryz.func55 [] Q Q Q Q
   refine qy 73 hc Q (xq [61, 62, 63, 64] ⟨[(1, .B 4 0), (3, .I c), (73, .O false), (75, .S 2), (77, .I d.Else)], [(4, .box (cC4 0 1 2 3 g_) 27)], (vV4 0 1 2 3 g_ []), 8⟩ J 4 ?_)
   obtain ⟨k, l, h⟩ := ob h
   refine WPq.op Q Q (VN.vs (VN.ix oO2 J l Q Q Q Q Q Q Q)) (qx ⟨[(1, .B 4 0), (3, .I c), (81, .O k.Again)], [(4, .box (cC4 0 1 2 3 g_) 27)], (vV4 0 1 2 3 g_ []), 9⟩ J 3 (qn ?_))
   rcases oc h with ⟨hc, h⟩ | ⟨hc, h⟩
   ·refine wt hc Q (wq (wg (ws J 1 Q (wn ?_))))
    cases h
    exact we J Tryz.func55 [] Q Q Q Q
   exact wf hc Q (wi (wb (wg (wx ⟨[(1, .B 4 0), (3, .I (w64 (c + 1)))], [(4, .box (cC4 0 1 2 3 g_) 27)], (vV4 0 1 2 3 g_ []), 9⟩ J 3 (wn (wu [] (ih3 (w64 (c + 1)) h) Q Q Q Q))))))
  refine qy 25 hc Q (xq (rg 15 50) ⟨[(1, .B 4 0), (3, .I c), (4, .B 6 0), (22, .O false), (25, .O true), (27, .I d.State), (29, .S 3), (31, .I (w64 (c - 1)))], [(4, .box (cC4 0 1 2 3 g_) 27), (6, .box (cC8 d) 79)], (vV4 0 1 2 3 g_ []), 7⟩ J 6 ?_)
  obtain ⟨m, o, h⟩ := ob h
  refine WPq.op Q Q (VN.vs (VN.ix oO8 J o Q Q Q Q Q Q Q)) (xq (rg 22 43) ⟨[(1, .B 4 0), (3, .I c), (4, .B 6 0), (38, .O (decide (d.State ≤ m.State)))], [(4, .box (cC4 0 1 2 3 g_) 27), (6, .box (cC8 d) 79)], (vV4 0 1 2 3 g_ []), 8⟩ J 6 ?_)
  rcases oc h with ⟨hc, h⟩ | ⟨hc, h⟩
  ·refine qy 38 hc Q (qx ⟨[(1, .B 4 0), (3, .I c), (81, .O true)], [(4, .box (cC4 0 1 2 3 g_) 27)], (vV4 0 1 2 3 g_ []), 8⟩ J 43 (qn (wt Q Q (wq (wg (ws J 1 Q (wn ?_)))))))
   cases h
   exact we J Tryz.func55 [] Q Q Q Q
  refine qy 38 hc Q (xq (rg 27 38) ⟨[(1, .B 4 0), (3, .I c), (4, .B 6 0), (43, .O (decide (d.Ticks < 1)))], [(4, .box (cC4 0 1 2 3 g_) 27), (6, .box (cC8 d) 79)], (vV4 0 1 2 3 g_ []), 8⟩ J 5 ?_)
  rcases oc h with ⟨hc, h⟩ | ⟨hc, h⟩
  ·refine qy 43 hc Q (qx ⟨[(1, .B 4 0), (3, .I c), (81, .O true)], [(4, .box (cC4 0 1 2 3 g_) 27)], (vV4 0 1 2 3 g_ []), 8⟩ J 38 (qn (wt Q Q (wq (wg (ws J 1 Q (wn ?_)))))))
   cases h
   exact we J Tryz.func55 [] Q Q Q Q
  refine qy 43 hc Q (xq (rg 32 33) ⟨[(1, .B 4 0), (3, .I c), (4, .B 6 0), (48, .O (decide (d.Ticks > 1000)))], [(4, .box (cC4 0 1 2 3 g_) 27), (6, .box (cC8 d) 79)], (vV4 0 1 2 3 g_ []), 8⟩ J 5 ?_)
  rcases oc h with ⟨hc, h⟩ | ⟨hc, h⟩
  ·refine qy 48 hc Q (qx ⟨[(1, .B 4 0), (3, .I c), (81, .O true)], [(4, .box (cC4 0 1 2 3 g_) 27)], (vV4 0 1 2 3 g_ []), 8⟩ J 33 (qn (wt Q Q (wq (wg (ws J 1 Q (wn ?_)))))))
   cases h
   exact we J Tryz.func55 [] Q Q Q Q
  refine qy 48 hc Q (xq (rg 37 28) ⟨[(1, .B 4 0), (3, .I c), (4, .B 6 0), (53, .O (decide (d.Else < 0)))], [(4, .box (cC4 0 1 2 3 g_) 27), (6, .box (cC8 d) 79)], (vV4 0 1 2 3 g_ []), 8⟩ J 5 ?_)
  rcases oc h with ⟨hc, h⟩ | ⟨hc, h⟩
  ·refine qy 53 hc Q (qx ⟨[(1, .B 4 0), (3, .I c), (81, .O true)], [(4, .box (cC4 0 1 2 3 g_) 27)], (vV4 0 1 2 3 g_ []), 8⟩ J 28 (qn (wt Q Q (wq (wg (ws J 1 Q (wn ?_)))))))
   cases h
   exact we J Tryz.func55 [] Q Q Q Q
  refine qy 53 hc Q (xq (rg 45 20) ⟨[(1, .B 4 0), (3, .I c), (4, .B 6 0), (61, .O (decide (d.Else ≥ (g_.Edges.length : Int))))], [(4, .box (cC4 0 1 2 3 g_) 27), (6, .box (cC8 d) 79)], (vV4 0 1 2 3 g_ []), 8⟩ J 8 ?_)
  rcases oc h with ⟨hc, h⟩ | ⟨hc, h⟩
  ·refine qy 61 hc Q (qx ⟨[(1, .B 4 0), (3, .I c), (81, .O true)], [(4, .box (cC4 0 1 2 3 g_) 27)], (vV4 0 1 2 3 g_ []), 8⟩ J 20 (qn (wt Q Q (wq (wg (ws J 1 Q (wn ?_)))))))
   cases h
   exact we J Tryz.func55 [] Q Q Q Q
  refine qy 61 hc Q (xq (rg 49 16) ⟨[(1, .B 4 0), (3, .I c), (4, .B 6 0), (61, .O false), (63, .S 2), (65, .I d.Else)], [(4, .box (cC4 0 1 2 3 g_) 27), (6, .box (cC8 d) 79)], (vV4 0 1 2 3 g_ []), 8⟩ J 4 ?_)
  obtain ⟨p, q, h⟩ := ob h
  refine WPq.op Q Q (VN.vs (VN.ix oO2 J q Q Q Q Q Q Q Q)) (xq (rg 57 8) ⟨[(1, .B 4 0), (3, .I c), (4, .B 6 0), (73, .O (p.From != d.State))], [(4, .box (cC4 0 1 2 3 g_) 27), (6, .box (cC8 d) 79)], (vV4 0 1 2 3 g_ []), 9⟩ J 7 ?_)
  rcases oc h with ⟨hc, h⟩ | ⟨hc, h⟩
  ·refine qy 73 hc Q (qx ⟨[(1, .B 4 0), (3, .I c), (81, .O true)], [(4, .box (cC4 0 1 2 3 g_) 27)], (vV4 0 1 2 3 g_ []), 9⟩ J 8 (qn (wt Q Q (wq (wg (ws J 1 Q (wn ?_)))))))
   cases h
   exact we J Tryz.func55 [] Q Q Q Q
  refine qy 73 hc Q (xq [61, 62, 63, 64] ⟨[(1, .B 4 0), (3, .I c), (73, .O false), (75, .S 2), (77, .I d.Else)], [(4, .box (cC4 0 1 2 3 g_) 27)], (vV4 0 1 2 3 g_ []), 9⟩ J 4 ?_)
  obtain ⟨s, t, h⟩ := ob h
  refine WPq.op Q Q (VN.vs (VN.ix oO2 J t Q Q Q Q Q Q Q)) (qx ⟨[(1, .B 4 0), (3, .I c), (81, .O s.Again)], [(4, .box (cC4 0 1 2 3 g_) 27)], (vV4 0 1 2 3 g_ []), 10⟩ J 3 (qn ?_))
  rcases oc h with ⟨hc, h⟩ | ⟨hc, h⟩
  ·refine wt hc Q (wq (wg (ws J 1 Q (wn ?_))))
   cases h
   exact we J Tryz.func55 [] Q Q Q Q
  exact wf hc Q (wi (wb (wg (wx ⟨[(1, .B 4 0), (3, .I (w64 (c + 1)))], [(4, .box (cC4 0 1 2 3 g_) 27)], (vV4 0 1 2 3 g_ []), 10⟩ J 3 (wn (wu [] (ih3 (w64 (c + 1)) h) Q Q Q Q))))))
 exact wu [] (ih N 0 h) Q Q Q Q
theorem z19_ct (N : Nat) (g_ : T4) (r : Bool) (h : z19 N g_ = some r) :
 Fn Tryz.prog 19 ⟨4, [.a (cC4 0 1 2 3 g_)], (vV4 0 1 2 3 g_ []), [], 4, .O r, [], []⟩ := by
 refine Fn.intro _ _ Tryz.func19 rfl (by kernel_rfl) rfl (fun E F w => ?_)
 unfold z19 at h
 refine wq (wg (ws J 2 Q (wn (wq (wg (xw (rg 1 18) ⟨[(1, .B 4 0), (3, .a (cC4 0 1 2 3 g_))], [(4, .box (cC4 0 1 2 3 g_) 27)], (vV4 0 1 2 3 g_ []), 5⟩ J 1 ?_))))))
 obtain ⟨x1, c, h⟩ := ob h
 refine wc (z51_ct N g_ _ c) [(0, .sl 0), (1, .sl 1), (2, .sl 2), (3, .sl 3)] [] Q Q Q Q Q Q Q Q (.inl rfl) rfl (xw (rg 3 16) ⟨[(1, .B 4 0), (5, .O x1)], [(4, .box (cC4 0 1 2 3 g_) 27)], (vV4 0 1 2 3 g_ []), 5⟩ J 1 ?_)
 rcases oc' h with ⟨hc, h⟩ | ⟨hc, h⟩
 ·refine wy 5 hc Q (wx ⟨[(2, .O false)], [], (vV4 0 1 2 3 g_ []), 5⟩ J 16 (wn ?_))
  cases h
  exact we J Tryz.func19 [] Q Q Q Q
 refine wy 5 hc Q (ws J 1 Q ?_)
 obtain ⟨x2, d, h⟩ := ob h
 refine wc (z52_ct N g_ _ d) [(0, .sl 0), (1, .sl 1), (2, .sl 2), (3, .sl 3)] [] Q Q Q Q Q Q Q Q (.inl rfl) rfl (xw (rg 7 12) ⟨[(1, .B 4 0), (9, .O x2)], [(4, .box (cC4 0 1 2 3 g_) 27)], (vV4 0 1 2 3 g_ []), 5⟩ J 2 ?_)
 rcases oc' h with ⟨hc, h⟩ | ⟨hc, h⟩
 ·refine wy 9 hc Q (wx ⟨[(2, .O false)], [], (vV4 0 1 2 3 g_ []), 5⟩ J 12 (wn ?_))
  cases h
  exact we J Tryz.func19 [] Q Q Q Q
 refine wy 9 hc Q (ws J 1 Q ?_)
 obtain ⟨x3, e, h⟩ := ob h
 refine wc (z53_ct N g_ _ e) [(0, .sl 0), (1, .sl 1), (2, .sl 2), (3, .sl 3)] [] Q Q Q Q Q Q Q Q (.inl rfl) rfl (xw (rg 11 8) ⟨[(1, .B 4 0), (13, .O x3)], [(4, .box (cC4 0 1 2 3 g_) 27)], (vV4 0 1 2 3 g_ []), 5⟩ J 2 ?_)
 rcases oc' h with ⟨hc, h⟩ | ⟨hc, h⟩
 ·refine wy 13 hc Q (wx ⟨[(2, .O false)], [], (vV4 0 1 2 3 g_ []), 5⟩ J 8 (wn ?_))
  cases h
  exact we J Tryz.func19 [] Q Q Q Q
 refine wy 13 hc Q (ws J 1 Q ?_)
 obtain ⟨x4, f, h⟩ := ob h
 refine wc (z54_ct N g_ _ f) [(0, .sl 0), (1, .sl 1), (2, .sl 2), (3, .sl 3)] [] Q Q Q Q Q Q Q Q (.inl rfl) rfl (xw [15, 16, 17, 18] ⟨[(1, .B 4 0), (17, .O x4)], [(4, .box (cC4 0 1 2 3 g_) 27)], (vV4 0 1 2 3 g_ []), 5⟩ J 2 ?_)
 rcases oc' h with ⟨hc, h⟩ | ⟨hc, h⟩
 ·refine wy 17 hc Q (wx ⟨[(2, .O false)], [], (vV4 0 1 2 3 g_ []), 5⟩ J 4 (wn ?_))
  cases h
  exact we J Tryz.func19 [] Q Q Q Q
 refine wy 17 hc Q (ws J 1 Q ?_)
 obtain ⟨x5, g, h⟩ := ob h
 refine wc (z55_ct N g_ _ g) [(0, .sl 0), (1, .sl 1), (2, .sl 2), (3, .sl 3)] [] Q Q Q Q Q Q Q Q (.inl rfl) rfl (wx ⟨[(2, .O x5)], [], (vV4 0 1 2 3 g_ []), 5⟩ J 2 (wn ?_))
 cases h
 exact we J Tryz.func19 [] Q Q Q Q
theorem z16_ct (N : Nat) (a_ : (List (List T6))) (b_ : (List (List T6))) (r : Bool) (h : z16 N a_ b_ = some r) :
 Fn Tryz.prog 16 ⟨2, [.S 0, .S 1], [(0, .sl (rSl rR6) a_), (1, .sl (rSl rR6) b_)], [], 2, .O r, [], []⟩ := by
 refine Fn.intro _ _ Tryz.func16 rfl (by kernel_rfl) rfl (fun E F w => ?_)
 unfold z16 at h
 refine wq (wg (ws J 1 Q (wn (wq (wq (wg (wx ⟨[(0, .S 0), (1, .S 1), (4, .O false), (11, .O ((a_.length : Int) != (b_.length : Int)))], [], [(0, .sl (rSl rR6) a_), (1, .sl (rSl rR6) b_)], 2⟩ J 5 (wn ?_))))))))
 rcases oc h with ⟨hc, h⟩ | ⟨hc, h⟩
 ·refine wt hc Q (wq (wg (ws J 1 Q (wn ?_))))
  cases h
  exact we J Tryz.func16 [] Q Q Q Q
 refine wf hc Q (wi (wq (wq (wg (wx ⟨[(0, .S 0), (1, .S 1), (4, .O false), (13, .I (a_.length : Int)), (14, .I 0)], [], [(0, .sl (rSl rR6) a_), (1, .sl (rSl rR6) b_)], 2⟩ J 3 (wn ?_))))))
 refine wC (σ := Unit) (fun st => ⟨[], [], [(0, .sl (rSl rR6) a_), (1, .sl (rSl rR6) b_)], 2⟩) (fun st => z16_k1 = some r) ?_ (fun j1 => ?_)
 ·intro _ h
  replace h : z16_k1 = some r := h
  unfold z16_k1 at h
  refine wq (wg (ws J 1 Q (wn ?_)))
  cases h
  exact we J Tryz.func16 [] Q Q Q Q
 refine wo ?_
 refine wI (σ := Int) (fun st => ⟨[(0, .S 0), (1, .S 1), (13, .I (a_.length : Int)), (14, .I st)], [], [(0, .sl (rSl rR6) a_), (1, .sl (rSl rR6) b_)], 2⟩) (fun n st => z16_l2 N a_ b_ n st) (r := r) (fun _ => rfl) ?_ (fun ih => ?_)
 ·intro n12 ih12
  intro c h
  replace h : z16_l2 N a_ b_ (n12 + 1) c = some r := h
  unfold z16_l2 at h
  refine wq (wg (ws J 1 Q (wn (wq ?_))))
  rcases oc' h with ⟨hc, h⟩ | ⟨hc, h⟩
  ·exact wf hc Q (wz rfl (wu [] (j1 () h) Q Q Q Q))
  refine wt hc Q (wi (wq (wo (wq (wg (wx ⟨[(0, .S 0), (1, .S 1), (5, .I c), (13, .I (a_.length : Int)), (14, .I c)], [], [(0, .sl (rSl rR6) a_), (1, .sl (rSl rR6) b_)], 2⟩ J 2 (wn (wq (wq (wQ (by kernel_rfl) (by kernel_rfl) (WPq.sil J 2 rfl ?_)))))))))))
  obtain ⟨d, e, h⟩ := ob h
  refine WPq.op Q Q (VN.vs (VN.ix (oSl rR6) J e Q Q Q Q Q Q Q)) (xq [7, 8, 9, 10] ⟨[(0, .S 0), (1, .S 1), (5, .I c), (13, .I (a_.length : Int)), (14, .I c), (21, .I (d.length : Int)), (22, .S 1), (23, .I c)], [], [(0, .sl (rSl rR6) a_), (1, .sl (rSl rR6) b_)], 4⟩ J 4 ?_)
  obtain ⟨f, g, h⟩ := ob h
  refine WPq.op Q Q (VN.vs (VN.ix (oSl rR6) J g Q Q Q Q Q Q Q)) (qx ⟨[(0, .S 0), (1, .S 1), (5, .I c), (13, .I (a_.length : Int)), (14, .I c), (27, .O ((d.length : Int) != (f.length : Int)))], [], [(0, .sl (rSl rR6) a_), (1, .sl (rSl rR6) b_)], 6⟩ J 3 (qn ?_))
  rcases oc h with ⟨hc, h⟩ | ⟨hc, h⟩
  ·refine wt hc Q (wq (wg (ws J 1 Q (wn ?_))))
   cases h
   exact we J Tryz.func16 [] Q Q Q Q
  refine wf hc Q (wi (wq (wg (ws J 2 Q ?_))))
  obtain ⟨i, j, h⟩ := ob h
  refine wj (oSl rR6) J j Q Q Q Q Q Q Q Q Q (wx ⟨[(0, .S 0), (1, .S 1), (5, .I c), (13, .I (a_.length : Int)), (14, .I c), (32, .I (i.length : Int)), (33, .I 0)], [], [(0, .sl (rSl rR6) a_), (1, .sl (rSl rR6) b_)], 8⟩ J 3 (wn ?_))
  refine wC (σ := Unit) (fun st => ⟨[(0, .S 0), (1, .S 1), (13, .I (a_.length : Int)), (14, .I c)], [], [(0, .sl (rSl rR6) a_), (1, .sl (rSl rR6) b_)], 8⟩) (fun st => z16_k3 c (z16_l2 N a_ b_ n12) = some r) ?_ (fun j19 => ?_)
  ·intro _ h
   replace h : z16_k3 c (z16_l2 N a_ b_ n12) = some r := h
   unfold z16_k3 at h
   exact wb (wg (ws J 2 Q (wn (wu [] (ih12 (w64 (c + 1)) h) Q Q Q Q))))
  refine wo ?_
  refine wI (σ := Int) (fun st => ⟨[(0, .S 0), (1, .S 1), (5, .I c), (13, .I (a_.length : Int)), (14, .I c), (32, .I (i.length : Int)), (33, .I st)], [], [(0, .sl (rSl rR6) a_), (1, .sl (rSl rR6) b_)], 8⟩) (fun n st => z16_l4 a_ b_ c (z16_l2 N a_ b_ n12) i n st) (r := r) (fun _ => rfl) ?_ (fun ih => ?_)
  ·intro n14 ih21
   intro k h
   replace h : z16_l4 a_ b_ c (z16_l2 N a_ b_ n12) i (n14 + 1) k = some r := h
   unfold z16_l4 at h
   refine wq (wg (ws J 1 Q (wn (wq ?_))))
   rcases oc' h with ⟨hc, h⟩ | ⟨hc, h⟩
   ·exact wf hc Q (wz rfl (wu [] (j19 () h) Q Q Q Q))
   refine wt hc Q (wi (wq (wo (wq (wg (wx ⟨[(0, .S 0), (1, .S 1), (5, .I c), (6, .I k), (13, .I (a_.length : Int)), (14, .I c), (32, .I (i.length : Int)), (33, .I k)], [], [(0, .sl (rSl rR6) a_), (1, .sl (rSl rR6) b_)], 8⟩ J 2 (wn (wq (wQ (by kernel_rfl) (by kernel_rfl) (WPq.sil J 2 rfl ?_))))))))))
   obtain ⟨l, m, h⟩ := ob h
   refine WPq.op Q Q (VN.vs (VN.ix (oSl rR6) J m Q Q Q Q Q Q Q)) (xq (rg 5 10) ⟨[(0, .S 0), (1, .S 1), (5, .I c), (6, .I k), (13, .I (a_.length : Int)), (14, .I c), (32, .I (i.length : Int)), (33, .I k), (39, .S 9), (40, .I k)], [], [(0, .sl (rSl rR6) a_), (1, .sl (rSl rR6) b_), (9, .sl rR6 l)], 10⟩ J 2 ?_)
   obtain ⟨o, p, h⟩ := ob h
   refine WPq.op Q Q (VN.vs (VN.ix oO6 J p Q Q Q Q Q Q Q)) (xq (rg 9 6) ⟨[(0, .S 0), (1, .S 1), (5, .I c), (6, .I k), (13, .I (a_.length : Int)), (14, .I c), (32, .I (i.length : Int)), (33, .I k), (42, .a (cC6 o)), (43, .S 1), (44, .I c)], [], [(0, .sl (rSl rR6) a_), (1, .sl (rSl rR6) b_)], 11⟩ J 3 ?_)
   obtain ⟨q, s, h⟩ := ob h
   refine WPq.op Q Q (VN.vs (VN.ix (oSl rR6) J s Q Q Q Q Q Q Q)) (xq [12, 13, 14] ⟨[(0, .S 0), (1, .S 1), (5, .I c), (13, .I (a_.length : Int)), (14, .I c), (32, .I (i.length : Int)), (33, .I k), (42, .a (cC6 o)), (46, .S 12), (47, .I k)], [], [(0, .sl (rSl rR6) a_), (1, .sl (rSl rR6) b_), (12, .sl rR6 q)], 13⟩ J 2 ?_)
   obtain ⟨t, u, h⟩ := ob h
   refine WPq.op Q Q (VN.vs (VN.ix oO6 J u Q Q Q Q Q Q Q)) (WPq.sil J 1 rfl (WPq.op Q Q (VN.vs (VN.eqa (neg := true) (equal_run (b := ((o.From == t.From) && ((o.To == t.To) && ((o.Label == t.Label) && true)))) (by kernel_rfl) (by kernel_rfl)) (by kernel_rfl) Q Q Q Q Q)) (qx ⟨[(0, .S 0), (1, .S 1), (5, .I c), (13, .I (a_.length : Int)), (14, .I c), (32, .I (i.length : Int)), (33, .I k), (50, .O (!((o.From == t.From) && ((o.To == t.To) && ((o.Label == t.Label) && true)))))], [], [(0, .sl (rSl rR6) a_), (1, .sl (rSl rR6) b_)], 14⟩ J 0 (qn ?_))))
   rcases oc h with ⟨hc, h⟩ | ⟨hc, h⟩
   ·refine wt hc Q (wq (wg (ws J 1 Q (wn ?_))))
    cases h
    exact we J Tryz.func16 [] Q Q Q Q
   exact wf hc Q (wi (wb (wg (ws J 2 Q (wn (wu [] (ih21 (w64 (k + 1)) h) Q Q Q Q))))))
  exact wu [] (ih N 0 h) Q Q Q Q
 exact wu [] (ih N 0 h) Q Q Q Q
theorem z25_ct (N : Nat) (g_ : T4) (s_ : Int) (r : Int × T6) (h : z25 N g_ s_ = some r) :
 Fn Tryz.prog 25 ⟨4, [.a (cC4 0 1 2 3 g_), .I s_], (vV4 0 1 2 3 g_ []), [], 4, .t [.inl (.I r.1), .inr (cC6 r.2)], [], []⟩ := by
 refine Fn.intro _ _ Tryz.func25 rfl (by kernel_rfl) rfl (fun E F w => ?_)
 unfold z25 at h
 refine wq (wg (wx ⟨[(1, .I s_), (2, .B 4 0), (4, .I 0), (5, .B 5 0)], [(4, .box (cC4 0 1 2 3 g_) 27), (5, .box [.I 0, .I 0, .I 0] 37)], (vV4 0 1 2 3 g_ []), 6⟩ J 3 (wn (wq (wq (wg (wx ⟨[(1, .I s_), (2, .B 4 0), (4, .I 0), (5, .B 5 0), (9, .S 3), (10, .I (g_.Timeouts.length : Int)), (11, .I 0)], [(4, .box (cC4 0 1 2 3 g_) 27), (5, .box [.I 0, .I 0, .I 0] 37)], (vV4 0 1 2 3 g_ []), 6⟩ J 4 (wn ?_))))))))
 refine wC (σ := Unit) (fun st => ⟨[(5, .B 5 0)], [(5, .box [.I 0, .I 0, .I 0] 37)], (vV4 0 1 2 3 g_ []), 6⟩) (fun st => z25_k1 = some r) ?_ (fun j1 => ?_)
 ·intro _ h
  replace h : z25_k1 = some r := h
  unfold z25_k1 at h
  refine wq (wg (wx ⟨[(4, .I 0), (5, .B 5 0)], [(5, .box [.I 0, .I 0, .I 0] 37)], (vV4 0 1 2 3 g_ []), 6⟩ J 3 (wn ?_)))
  cases h
  exact we J Tryz.func25 [] Q Q Q Q
 refine wo ?_
 refine wI (σ := Int) (fun st => ⟨[(1, .I s_), (2, .B 4 0), (5, .B 5 0), (9, .S 3), (10, .I (g_.Timeouts.length : Int)), (11, .I st)], [(4, .box (cC4 0 1 2 3 g_) 27), (5, .box [.I 0, .I 0, .I 0] 37)], (vV4 0 1 2 3 g_ []), 6⟩) (fun n st => z25_l2 g_ s_ n st) (r := r) (fun _ => rfl) ?_ (fun ih => ?_)
 ·intro n2 ih3
  intro c h
  replace h : z25_l2 g_ s_ (n2 + 1) c = some r := h
  unfold z25_l2 at h
  refine wq (wg (ws J 1 Q (wn (wq ?_))))
  rcases oc' h with ⟨hc, h⟩ | ⟨hc, h⟩
  ·exact wf hc Q (wz rfl (wu [] (j1 () h) Q Q Q Q))
  refine wt hc Q (wi (wq (wo (wq (wg ?_)))))
  obtain ⟨d, e, h⟩ := ob h
  refine wj oO8 J e Q Q Q Q Q Q Q Q Q (wx ⟨[(1, .I s_), (2, .B 4 0), (5, .B 5 0), (7, .B 7 0), (9, .S 3), (10, .I (g_.Timeouts.length : Int)), (11, .I c)], [(4, .box (cC4 0 1 2 3 g_) 27), (5, .box [.I 0, .I 0, .I 0] 37), (7, .box (cC8 d) 79)], (vV4 0 1 2 3 g_ []), 8⟩ J 3 (wn (wq (wg (wx ⟨[(1, .I s_), (2, .B 4 0), (5, .B 5 0), (7, .B 7 0), (9, .S 3), (10, .I (g_.Timeouts.length : Int)), (11, .I c), (18, .O (d.State == s_))], [(4, .box (cC4 0 1 2 3 g_) 27), (5, .box [.I 0, .I 0, .I 0] 37), (7, .box (cC8 d) 79)], (vV4 0 1 2 3 g_ []), 8⟩ J 4 (wn ?_))))))
  rcases oc' h with ⟨hc, h⟩ | ⟨hc, h⟩
  ·exact wf hc Q (wi (wb (wg (ws J 2 Q (wn (wu [] (ih3 (w64 (c + 1)) h) Q Q Q Q))))))
  refine wt hc Q (wq (wN (fun A9 f g => ?_)))
  have i : A9 0 ⟨[(7, .B 7 0)], [], [], [], 8, [(19, .B 7 1)], [], [], 8⟩ := f _ _ (wl J Q Q Q Q Q Q)
  have j : A9 1 ⟨[(19, .B 7 1)], [], [], [(7, .box (cC8 d) 79)], 8, [(20, .I d.Ticks)], [], [], 8⟩ := f _ _ (wl J Q Q Q Q Q Q)
  have l : A9 2 ⟨[(2, .B 4 0)], [], [], [], 8, [(21, .B 4 6)], [], [], 8⟩ := f _ _ (wl J Q Q Q Q Q Q)
  have m : A9 3 ⟨[(21, .B 4 6)], (vV4 0 1 2 3 g_ []), [], [(4, .box (cC4 0 1 2 3 g_) 27)], 8, [(22, .S 2)], [], [], 8⟩ := f _ _ (wl J Q Q Q Q Q Q)
  have o : A9 4 ⟨[(7, .B 7 0)], [], [], [], 8, [(23, .B 7 2)], [], [], 8⟩ := f _ _ (wl J Q Q Q Q Q Q)
  have p : A9 5 ⟨[(23, .B 7 2)], [], [], [(7, .box (cC8 d) 79)], 8, [(24, .I d.Else)], [], [], 8⟩ := f _ _ (wl J Q Q Q Q Q Q)
  obtain ⟨q, s, h⟩ := ob h
  have u : A9 6 ⟨[(22, .S 2), (24, .I d.Else)], [(2, .sl rR2 g_.Edges)], [], [], 8, [(25, .P 8 0)], [(8, .pl (cC2 q))], [], 9⟩ := f _ _ (wO Q Q Q (fun _ _ _ _ _ _ _ k => wj oO2 J s Q Q Q Q Q Q Q Q Q (k)) rfl)
  have v : A9 7 ⟨[(25, .P 8 0)], [(8, .pl (cC2 q))], [], [], 9, [(26, .P 8 1)], [], [], 9⟩ := f _ _ (wl J Q Q Q Q Q Q)
  have x : A9 8 ⟨[(26, .P 8 1)], [(8, .pl (cC2 q))], [], [], 9, [(27, .a (cC6 q.Act))], [], [], 9⟩ := f _ _ (wl J Q Q Q Q Q Q)
  have y : A9 9 ⟨[(20, .I d.Ticks)], [], [], [], 9, [(4, .I d.Ticks)], [], [], 9⟩ := f _ _ (wl J Q Q Q Q Q Q)
  have z : A9 10 ⟨[(5, .B 5 0), (27, .a (cC6 q.Act))], [], [(5, .box [.I 0, .I 0, .I 0] 37)], [], 9, [], [], [(5, .box (cC6 q.Act) 37)], 9⟩ := f _ _ (wl J Q Q Q Q Q Q)
  refine wD (t := ⟨[(4, .I d.Ticks), (5, .B 5 0)], [(5, .box (cC6 q.Act) 37)], (vV4 0 1 2 3 g_ []), 9⟩) [0, 1, 0, 4, 0, 16, 60, 124, 252, 3, 1023] (.cons (g _ _ i) (.cons (g _ _ j) (.cons (g _ _ l) (.cons (g _ _ m) (.cons (g _ _ o) (.cons (g _ _ p) (.cons (g _ _ u) (.cons (g _ _ v) (.cons (g _ _ x) (.cons (g _ _ y) (.cons (g _ _ z) .nil))))))))))) (by kernel_rfl) (by kernel_rfl) (by kernel_rfl) (by kernel_rfl) ?_
  cases h
  exact we J Tryz.func25 [] Q Q Q Q
 exact wu [] (ih N 0 h) Q Q Q Q
theorem law18_GlobalSame_ct (N : Nat) (g_ : T4) (r : Bool) (h : law18_GlobalSame N g_ = some r) :
 Fn Tryz.prog 5 ⟨4, [.a (cC4 0 1 2 3 g_)], (vV4 0 1 2 3 g_ []), [], 4, .O r, [], []⟩ := by
 refine Fn.intro _ _ Tryz.func5 rfl (by kernel_rfl) rfl (fun E F w => ?_)
 unfold law18_GlobalSame at h
 refine wq (wg (ws J 2 Q (wn (wq (wq (wg ?_))))))
 obtain ⟨x1, c, h⟩ := ob h
 refine wc (z12_ct N _ c) [] [] Q Q Q Q Q Q Q Q (.inl rfl) rfl (xw (rg 3 9) ⟨[(1, .B 4 0), (2, .O false), (21, .O (!x1))], [(4, .box (cC4 0 1 2 3 g_) 27)], (vV4 0 1 2 3 g_ []), 5⟩ J 2 ?_)
 rcases oc h with ⟨hc, h⟩ | ⟨hc, h⟩
 ·refine wy 21 hc Q (wx ⟨[(1, .B 4 0), (2, .O false), (30, .O true)], [(4, .box (cC4 0 1 2 3 g_) 27)], (vV4 0 1 2 3 g_ []), 5⟩ J 9 (wn (wt Q Q (wq (wg ?_)))))
  obtain ⟨x2, d, h⟩ := ob h
  refine wc (z12_ct N _ d) [] [] Q Q Q Q Q Q Q Q (.inl rfl) rfl (wx ⟨[(2, .O x2)], [], (vV4 0 1 2 3 g_ []), 5⟩ J 1 (wn ?_))
  cases h
  exact we J Tryz.func5 [] Q Q Q Q
 refine wy 21 hc Q (ws J 1 Q ?_)
 obtain ⟨x3, e, h⟩ := ob h
 refine wc (z13_ct N g_ _ e) [(0, .sl 0), (1, .sl 1), (2, .sl 2), (3, .sl 3)] [] Q Q Q Q Q Q Q Q (.inl rfl) rfl (xw [8, 9, 10, 11] ⟨[(1, .B 4 0), (2, .O false), (26, .O (!x3))], [(4, .box (cC4 0 1 2 3 g_) 27)], (vV4 0 1 2 3 g_ []), 5⟩ J 3 ?_)
 rcases oc h with ⟨hc, h⟩ | ⟨hc, h⟩
 ·refine wy 26 hc Q (wx ⟨[(1, .B 4 0), (2, .O false), (30, .O true)], [(4, .box (cC4 0 1 2 3 g_) 27)], (vV4 0 1 2 3 g_ []), 5⟩ J 4 (wn (wt Q Q (wq (wg ?_)))))
  obtain ⟨x4, f, h⟩ := ob h
  refine wc (z12_ct N _ f) [] [] Q Q Q Q Q Q Q Q (.inl rfl) rfl (wx ⟨[(2, .O x4)], [], (vV4 0 1 2 3 g_ []), 5⟩ J 1 (wn ?_))
  cases h
  exact we J Tryz.func5 [] Q Q Q Q
 refine wy 26 hc Q (ws J 1 Q ?_)
 obtain ⟨x5, g, h⟩ := ob h
 refine wc (z19_ct N g_ _ g) [(0, .sl 0), (1, .sl 1), (2, .sl 2), (3, .sl 3)] [] Q Q Q Q Q Q Q Q (.inl rfl) rfl (wx ⟨[(1, .B 4 0), (2, .O false), (30, .O (!x5))], [(4, .box (cC4 0 1 2 3 g_) 27)], (vV4 0 1 2 3 g_ []), 5⟩ J 2 (wn ?_))
 rcases oc h with ⟨hc, h⟩ | ⟨hc, h⟩
 ·refine wt hc Q (wq (wg ?_))
  obtain ⟨x6, i, h⟩ := ob h
  refine wc (z12_ct N _ i) [] [] Q Q Q Q Q Q Q Q (.inl rfl) rfl (wx ⟨[(2, .O x6)], [], (vV4 0 1 2 3 g_ []), 5⟩ J 1 (wn ?_))
  cases h
  exact we J Tryz.func5 [] Q Q Q Q
 refine wf hc Q (wi (wq (wg (ws J 1 Q ?_))))
 obtain ⟨x7, j, h⟩ := ob h
 refine wc (z21_ct N g_ _ j) [(0, .sl 0), (1, .sl 1), (2, .sl 2), (3, .sl 3)] [] Q Q Q Q Q Q Q Q (.inl rfl) rfl (wx ⟨[(1, .B 4 0), (2, .O false), (3, .B 9 0), (4, .I x7.2)], [(4, .box (cC4 0 1 2 3 g_) 27), (9, .box (cC4 5 6 7 8 x7.1) 27)], (vV4 0 1 2 3 g_ (vV4 5 6 7 8 x7.1 [])), 10⟩ J 6 (wn (wq (wq (wg (ws J 2 Q (wn ?_)))))))
 rcases oc h with ⟨hc, h⟩ | ⟨hc, h⟩
 ·refine wt hc Q (wq (wg (wx ⟨[(2, .O false)], [], (vV4 0 1 2 3 g_ []), 10⟩ J 1 (wn ?_))))
  cases h
  exact we J Tryz.func5 [] Q Q Q Q
 refine wf hc Q (wi (wq (wg (xw (rg 1 6) ⟨[(1, .B 4 0), (2, .O false), (3, .B 9 0), (40, .a (cC4 0 1 2 3 g_))], [(4, .box (cC4 0 1 2 3 g_) 27), (9, .box (cC4 5 6 7 8 x7.1) 27)], (vV4 0 1 2 3 g_ (vV4 5 6 7 8 x7.1 [])), 10⟩ J 1 ?_))))
 obtain ⟨x8, k, h⟩ := ob h
 refine wc (z14_ct N g_ 4 _ k) [(0, .sl 0), (1, .sl 1), (2, .sl 2), (3, .sl 3)] [] Q Q Q Q Q Q Q Q (.inl rfl) rfl (wx ⟨[(1, .B 4 0), (2, .O false), (3, .B 9 0), (5, .S 10), (6, .I x8.2)], [(4, .box (cC4 0 1 2 3 g_) 27), (9, .box (cC4 5 6 7 8 x7.1) 27), (10, .own (rSl rR6) x8.1 true)], (vV4 0 1 2 3 g_ (vV4 5 6 7 8 x7.1 [])), 11⟩ J 5 (wn (wq (wg (ws J 1 Q ?_)))))
 obtain ⟨x9, l, h⟩ := ob h
 refine wc (z14_ct N x7.1 4 _ l) [(0, .sl 5), (1, .sl 6), (2, .sl 7), (3, .sl 8)] [] Q Q Q Q Q Q Q Q (.inl rfl) rfl (wx ⟨[(1, .B 4 0), (2, .O false), (3, .B 9 0), (5, .S 10), (6, .I x8.2), (7, .S 11), (8, .I x9.2)], [(4, .box (cC4 0 1 2 3 g_) 27), (9, .box (cC4 5 6 7 8 x7.1) 27), (10, .own (rSl rR6) x8.1 true), (11, .own (rSl rR6) x9.1 true)], (vV4 0 1 2 3 g_ (vV4 5 6 7 8 x7.1 [])), 12⟩ J 5 (wn (wq (wq (wg (xw [4, 5, 6, 7, 8] ⟨[(1, .B 4 0), (2, .O false), (3, .B 9 0), (5, .S 10), (7, .S 11), (52, .O (x8.2 != x9.2))], [(4, .box (cC4 0 1 2 3 g_) 27), (9, .box (cC4 5 6 7 8 x7.1) 27), (10, .own (rSl rR6) x8.1 true), (11, .own (rSl rR6) x9.1 true)], (vV4 0 1 2 3 g_ (vV4 5 6 7 8 x7.1 [])), 12⟩ J 4 ?_))))))
 rcases oc h with ⟨hc, h⟩ | ⟨hc, h⟩
 ·refine wy 52 hc Q (wx ⟨[(1, .B 4 0), (2, .O false), (3, .B 9 0), (5, .S 10), (57, .O true)], [(4, .box (cC4 0 1 2 3 g_) 27), (9, .box (cC4 5 6 7 8 x7.1) 27), (10, .own (rSl rR6) x8.1 true)], (vV4 0 1 2 3 g_ (vV4 5 6 7 8 x7.1 [])), 12⟩ J 5 (wn (wt Q Q (wq (wg (ws J 1 Q (wn ?_)))))))
  cases h
  exact we J Tryz.func5 [] Q Q Q Q
 refine wy 52 hc Q (ws J 2 Q ?_)
 obtain ⟨m, o, h⟩ := ob h
 refine wc (z16_ct N x8.1 x9.1 _ o) [(0, .sl 10), (1, .sl 11)] [10, 11] Q Q Q Q Q Q Q Q (.inr ⟨rfl, trivial⟩) rfl (wx ⟨[(1, .B 4 0), (2, .O false), (3, .B 9 0), (5, .S 10), (57, .O (!m))], [(4, .box (cC4 0 1 2 3 g_) 27), (9, .box (cC4 5 6 7 8 x7.1) 27), (10, .own (rSl rR6) x8.1 true)], (vV4 0 1 2 3 g_ (vV4 5 6 7 8 x7.1 [])), 12⟩ J 2 (wn ?_))
 rcases oc h with ⟨hc, h⟩ | ⟨hc, h⟩
 ·refine wt hc Q (wq (wg (ws J 1 Q (wn ?_))))
  cases h
  exact we J Tryz.func5 [] Q Q Q Q
 refine wf hc Q (wi (wq (wq (wg (wx ⟨[(1, .B 4 0), (2, .O false), (3, .B 9 0), (58, .S 10), (59, .I (x8.1.length : Int)), (60, .I 0)], [(4, .box (cC4 0 1 2 3 g_) 27), (9, .box (cC4 5 6 7 8 x7.1) 27), (10, .own (rSl rR6) x8.1 true)], (vV4 0 1 2 3 g_ (vV4 5 6 7 8 x7.1 [])), 12⟩ J 3 (wn ?_))))))
 refine wC (σ := Unit) (fun st => ⟨[], [], (vV4 0 1 2 3 g_ []), 12⟩) (fun st => law18_GlobalSame_k1 = some r) ?_ (fun j1 => ?_)
 ·intro _ h
  replace h : law18_GlobalSame_k1 = some r := h
  unfold law18_GlobalSame_k1 at h
  refine wq (wg (ws J 1 Q (wn ?_)))
  cases h
  exact we J Tryz.func5 [] Q Q Q Q
 refine wo ?_
 refine wI (σ := Int) (fun st => ⟨[(1, .B 4 0), (3, .B 9 0), (58, .S 10), (59, .I (x8.1.length : Int)), (60, .I st)], [(4, .box (cC4 0 1 2 3 g_) 27), (9, .box (cC4 5 6 7 8 x7.1) 27), (10, .own (rSl rR6) x8.1 true)], (vV4 0 1 2 3 g_ (vV4 5 6 7 8 x7.1 [])), 12⟩) (fun n st => law18_GlobalSame_l2 N g_ x7 x8 n st) (r := r) (fun _ => rfl) ?_ (fun ih => ?_)
 ·intro n12 ih12
  intro p h
  replace h : law18_GlobalSame_l2 N g_ x7 x8 (n12 + 1) p = some r := h
  unfold law18_GlobalSame_l2 at h
  refine wq (wg (ws J 1 Q (wn (wq ?_))))
  rcases oc' h with ⟨hc, h⟩ | ⟨hc, h⟩
  ·exact wf hc Q (wz rfl (wu [] (j1 () h) Q Q Q Q))
  refine wt hc Q (wi (wq (wo (wq (wg ?_)))))
  obtain ⟨q, s, h⟩ := ob h
  refine wX J s Q Q Q Q Q Q Q Q Q (wL (oSl rR6) J s Q Q Q Q Q Q Q Q Q Q (wx ⟨[(1, .B 4 0), (3, .B 9 0), (10, .S 13), (58, .S 10), (59, .I (x8.1.length : Int)), (60, .I p)], [(4, .box (cC4 0 1 2 3 g_) 27), (9, .box (cC4 5 6 7 8 x7.1) 27), (10, .own (rSl rR6) x8.1 true)], (vV4 0 1 2 3 g_ (vV4 5 6 7 8 x7.1 [(13, .sl rR6 q)])), 14⟩ J 1 (wn (wq (wQ (by kernel_rfl) (by kernel_rfl) (qx ⟨[(1, .B 4 0), (3, .B 9 0), (10, .S 13), (11, .I g_.Start), (12, .I x7.1.Start), (58, .S 10), (59, .I (x8.1.length : Int)), (60, .I p)], [(4, .box (cC4 0 1 2 3 g_) 27), (9, .box (cC4 5 6 7 8 x7.1) 27), (10, .own (rSl rR6) x8.1 true)], (vV4 0 1 2 3 g_ (vV4 5 6 7 8 x7.1 [(13, .sl rR6 q)])), 14⟩ J 6 (qn (wq (wq (wg (wx ⟨[(1, .B 4 0), (3, .B 9 0), (11, .I g_.Start), (12, .I x7.1.Start), (58, .S 10), (59, .I (x8.1.length : Int)), (60, .I p), (68, .S 13), (69, .I (q.length : Int)), (70, .I 0)], [(4, .box (cC4 0 1 2 3 g_) 27), (9, .box (cC4 5 6 7 8 x7.1) 27), (10, .own (rSl rR6) x8.1 true)], (vV4 0 1 2 3 g_ (vV4 5 6 7 8 x7.1 [(13, .sl rR6 q)])), 14⟩ J 3 (wn ?_))))))))))))
  refine wC (σ := Int × Int) (fun st => ⟨[(1, .B 4 0), (3, .B 9 0), (11, .I st.1), (12, .I st.2), (58, .S 10), (59, .I (x8.1.length : Int)), (60, .I p)], [(4, .box (cC4 0 1 2 3 g_) 27), (9, .box (cC4 5 6 7 8 x7.1) 27), (10, .own (rSl rR6) x8.1 true)], (vV4 0 1 2 3 g_ (vV4 5 6 7 8 x7.1 [])), 14⟩) (fun st => law18_GlobalSame_k3 N g_ x7 p (law18_GlobalSame_l2 N g_ x7 x8 n12) st.1 st.2 = some r) ?_ (fun j19 => ?_)
  ·rintro ⟨t, u⟩ h
   replace h : law18_GlobalSame_k3 N g_ x7 p (law18_GlobalSame_l2 N g_ x7 x8 n12) t u = some r := h
   unfold law18_GlobalSame_k3 at h
   refine wq (wg (ws J 2 Q ?_))
   obtain ⟨v, x, h⟩ := ob h
   refine wc (z25_ct N g_ t _ x) [(0, .sl 0), (1, .sl 1), (2, .sl 2), (3, .sl 3)] [] Q Q Q Q Q Q Q Q (.inl rfl) rfl (wx ⟨[(1, .B 4 0), (3, .B 9 0), (11, .I t), (12, .I u), (15, .I v.1), (16, .B 14 0), (58, .S 10), (59, .I (x8.1.length : Int)), (60, .I p)], [(4, .box (cC4 0 1 2 3 g_) 27), (9, .box (cC4 5 6 7 8 x7.1) 27), (10, .own (rSl rR6) x8.1 true), (14, .box (cC6 v.2) 37)], (vV4 0 1 2 3 g_ (vV4 5 6 7 8 x7.1 [])), 15⟩ J 6 (wn (wq (wg (ws J 2 Q ?_)))))
   obtain ⟨y, z, h⟩ := ob h
   refine wc (z25_ct N x7.1 u _ z) [(0, .sl 5), (1, .sl 6), (2, .sl 7), (3, .sl 8)] [] Q Q Q Q Q Q Q Q (.inl rfl) rfl (wx ⟨[(1, .B 4 0), (3, .B 9 0), (11, .I t), (12, .I u), (15, .I v.1), (16, .B 14 0), (17, .I y.1), (18, .B 15 0), (58, .S 10), (59, .I (x8.1.length : Int)), (60, .I p)], [(4, .box (cC4 0 1 2 3 g_) 27), (9, .box (cC4 5 6 7 8 x7.1) 27), (10, .own (rSl rR6) x8.1 true), (14, .box (cC6 v.2) 37), (15, .box (cC6 y.2) 37)], (vV4 0 1 2 3 g_ (vV4 5 6 7 8 x7.1 [])), 16⟩ J 6 (wn (wq (wg (xw (rg 4 15) ⟨[(1, .B 4 0), (3, .B 9 0), (11, .I t), (12, .I u), (16, .B 14 0), (18, .B 15 0), (58, .S 10), (59, .I (x8.1.length : Int)), (60, .I p), (104, .O (v.1 != y.1))], [(4, .box (cC4 0 1 2 3 g_) 27), (9, .box (cC4 5 6 7 8 x7.1) 27), (10, .own (rSl rR6) x8.1 true), (14, .box (cC6 v.2) 37), (15, .box (cC6 y.2) 37)], (vV4 0 1 2 3 g_ (vV4 5 6 7 8 x7.1 [])), 16⟩ J 4 ?_)))))
   rcases oc h with ⟨hc, h⟩ | ⟨hc, h⟩
   ·refine wy 104 hc Q (wx ⟨[(1, .B 4 0), (3, .B 9 0), (58, .S 10), (59, .I (x8.1.length : Int)), (60, .I p), (119, .O true)], [(4, .box (cC4 0 1 2 3 g_) 27), (9, .box (cC4 5 6 7 8 x7.1) 27), (10, .own (rSl rR6) x8.1 true)], (vV4 0 1 2 3 g_ (vV4 5 6 7 8 x7.1 [])), 16⟩ J 15 (wn (wt Q Q (wq (wg (ws J 1 Q (wn ?_)))))))
    cases h
    exact we J Tryz.func5 [] Q Q Q Q
   refine wy 104 hc Q (ws J 2 Q (WPr.eqa (neg := true) (equal_run (b := ((v.2.From == y.2.From) && ((v.2.To == y.2.To) && ((v.2.Label == y.2.Label) && true)))) (by kernel_rfl) (by kernel_rfl)) (by kernel_rfl) Q Q Q Q Q Q Q (xw (rg 9 10) ⟨[(1, .B 4 0), (3, .B 9 0), (11, .I t), (12, .I u), (58, .S 10), (59, .I (x8.1.length : Int)), (60, .I p), (109, .O (!((v.2.From == y.2.From) && ((v.2.To == y.2.To) && ((v.2.Label == y.2.Label) && true)))))], [(4, .box (cC4 0 1 2 3 g_) 27), (9, .box (cC4 5 6 7 8 x7.1) 27), (10, .own (rSl rR6) x8.1 true)], (vV4 0 1 2 3 g_ (vV4 5 6 7 8 x7.1 [])), 16⟩ J 2 ?_)))
   rcases oc h with ⟨hc, h⟩ | ⟨hc, h⟩
   ·refine wy 109 hc Q (wx ⟨[(1, .B 4 0), (3, .B 9 0), (58, .S 10), (59, .I (x8.1.length : Int)), (60, .I p), (119, .O true)], [(4, .box (cC4 0 1 2 3 g_) 27), (9, .box (cC4 5 6 7 8 x7.1) 27), (10, .own (rSl rR6) x8.1 true)], (vV4 0 1 2 3 g_ (vV4 5 6 7 8 x7.1 [])), 16⟩ J 10 (wn (wt Q Q (wq (wg (ws J 1 Q (wn ?_)))))))
    cases h
    exact we J Tryz.func5 [] Q Q Q Q
   refine wy 109 hc Q (wx ⟨[(1, .B 4 0), (3, .B 9 0), (58, .S 10), (59, .I (x8.1.length : Int)), (60, .I p), (119, .O (!((t == g_.End) == (u == x7.1.End))))], [(4, .box (cC4 0 1 2 3 g_) 27), (9, .box (cC4 5 6 7 8 x7.1) 27), (10, .own (rSl rR6) x8.1 true)], (vV4 0 1 2 3 g_ (vV4 5 6 7 8 x7.1 [])), 16⟩ J 10 (wn ?_))
   rcases oc h with ⟨hc, h⟩ | ⟨hc, h⟩
   ·refine wt hc Q (wq (wg (ws J 1 Q (wn ?_))))
    cases h
    exact we J Tryz.func5 [] Q Q Q Q
   exact wf hc Q (wi (wb (wg (ws J 2 Q (wn (wu [] (ih12 (w64 (p + 1)) h) Q Q Q Q))))))
  refine wo ?_
  refine wI (σ := Int × Int × Int) (fun st => ⟨[(1, .B 4 0), (3, .B 9 0), (11, .I st.1), (12, .I st.2.1), (58, .S 10), (59, .I (x8.1.length : Int)), (60, .I p), (68, .S 13), (69, .I (q.length : Int)), (70, .I st.2.2)], [(4, .box (cC4 0 1 2 3 g_) 27), (9, .box (cC4 5 6 7 8 x7.1) 27), (10, .own (rSl rR6) x8.1 true)], (vV4 0 1 2 3 g_ (vV4 5 6 7 8 x7.1 [(13, .sl rR6 q)])), 14⟩) (fun n st => law18_GlobalSame_l4 N g_ x7 p (law18_GlobalSame_l2 N g_ x7 x8 n12) q n st.1 st.2.1 st.2.2) (r := r) (fun _ => rfl) ?_ (fun ih => ?_)
  ·intro n14 ih21
   rintro ⟨A, C, D⟩ h
   replace h : law18_GlobalSame_l4 N g_ x7 p (law18_GlobalSame_l2 N g_ x7 x8 n12) q (n14 + 1) A C D = some r := h
   unfold law18_GlobalSame_l4 at h
   refine wq (wg (ws J 1 Q (wn (wq ?_))))
   rcases oc' h with ⟨hc, h⟩ | ⟨hc, h⟩
   ·exact wf hc Q (wz rfl (wu [] (j19 (A, C) h) Q Q Q Q))
   refine wt hc Q (wi (wq (wo (wq (wg ?_)))))
   obtain ⟨G, H, h⟩ := ob h
   refine wj oO6 J H Q Q Q Q Q Q Q Q Q (wx ⟨[(1, .B 4 0), (3, .B 9 0), (11, .I A), (12, .I C), (14, .B 15 0), (58, .S 10), (59, .I (x8.1.length : Int)), (60, .I p), (68, .S 13), (69, .I (q.length : Int)), (70, .I D)], [(4, .box (cC4 0 1 2 3 g_) 27), (9, .box (cC4 5 6 7 8 x7.1) 27), (10, .own (rSl rR6) x8.1 true), (15, .box (cC6 G) 37)], (vV4 0 1 2 3 g_ (vV4 5 6 7 8 x7.1 [(13, .sl rR6 q)])), 16⟩ J 3 (wn (wq (wg (xw [3, 4, 5, 6, 7] ⟨[(1, .B 4 0), (3, .B 9 0), (12, .I C), (14, .B 15 0), (58, .S 10), (59, .I (x8.1.length : Int)), (60, .I p), (68, .S 13), (69, .I (q.length : Int)), (70, .I D), (75, .a (cC4 0 1 2 3 g_)), (76, .I A), (77, .a (cC6 G))], [(4, .box (cC4 0 1 2 3 g_) 27), (9, .box (cC4 5 6 7 8 x7.1) 27), (10, .own (rSl rR6) x8.1 true), (15, .box (cC6 G) 37)], (vV4 0 1 2 3 g_ (vV4 5 6 7 8 x7.1 [(13, .sl rR6 q)])), 16⟩ J 3 ?_)))))
   obtain ⟨K, R, h⟩ := ob h
   refine wc (z17_ct N g_ A G _ R) [(0, .sl 0), (1, .sl 1), (2, .sl 2), (3, .sl 3)] [] Q Q Q Q Q Q Q Q (.inl rfl) rfl (wx ⟨[(1, .B 4 0), (3, .B 9 0), (11, .I K.1), (12, .I C), (14, .B 15 0), (58, .S 10), (59, .I (x8.1.length : Int)), (60, .I p), (68, .S 13), (69, .I (q.length : Int)), (70, .I D)], [(4, .box (cC4 0 1 2 3 g_) 27), (9, .box (cC4 5 6 7 8 x7.1) 27), (10, .own (rSl rR6) x8.1 true), (15, .box (cC6 G) 37)], (vV4 0 1 2 3 g_ (vV4 5 6 7 8 x7.1 [(13, .sl rR6 q)])), 16⟩ J 4 (wn (wg (xw [3, 4, 5, 6, 7] ⟨[(1, .B 4 0), (3, .B 9 0), (11, .I K.1), (58, .S 10), (59, .I (x8.1.length : Int)), (60, .I p), (68, .S 13), (69, .I (q.length : Int)), (70, .I D), (82, .a (cC4 5 6 7 8 x7.1)), (83, .I C), (84, .a (cC6 G))], [(4, .box (cC4 0 1 2 3 g_) 27), (9, .box (cC4 5 6 7 8 x7.1) 27), (10, .own (rSl rR6) x8.1 true)], (vV4 0 1 2 3 g_ (vV4 5 6 7 8 x7.1 [(13, .sl rR6 q)])), 16⟩ J 3 ?_))))
   obtain ⟨T, U, h⟩ := ob h
   exact wc (z17_ct N x7.1 C G _ U) [(0, .sl 5), (1, .sl 6), (2, .sl 7), (3, .sl 8)] [] Q Q Q Q Q Q Q Q (.inl rfl) rfl (wx ⟨[(1, .B 4 0), (3, .B 9 0), (11, .I K.1), (12, .I T.1), (58, .S 10), (59, .I (x8.1.length : Int)), (60, .I p), (68, .S 13), (69, .I (q.length : Int)), (70, .I D)], [(4, .box (cC4 0 1 2 3 g_) 27), (9, .box (cC4 5 6 7 8 x7.1) 27), (10, .own (rSl rR6) x8.1 true)], (vV4 0 1 2 3 g_ (vV4 5 6 7 8 x7.1 [(13, .sl rR6 q)])), 16⟩ J 4 (wn (wb (wg (ws J 2 Q (wn (wu [] (ih21 (K.1, T.1, (w64 (D + 1))) h) Q Q Q Q)))))))
  exact wu [] (ih N (g_.Start, x7.1.Start, 0) h) Q Q Q Q
 exact wu [] (ih N 0 h) Q Q Q Q
end Gx
end
