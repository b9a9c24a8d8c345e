/- Each function of the statement computes what its plain definition says, part 3. -/
import Derived.Test.YtenajajnbmfijaaGreatDoorGlobalDamageWalk2
set_option linter.all false
section
set_option maxRecDepth 10000
set_option maxHeartbeats 4000000
open Go Go.Kx Go.Proofs
namespace Gx
theorem z37_ct (N : Nat) (g_ : T4) (r : (List Int)) (h : z37 N g_ = some r) :
 Fn Tryz.prog 37 ⟨4, [.a (cC4 0 1 2 3 g_)], (vV4 0 1 2 3 g_ []), [], 5, .S 4, [], [(4, .own (rI .u8) r true)]⟩ := by
 refine Fn.intro _ _ Tryz.func37 rfl (by kernel_rfl) rfl (fun E F w => ?_)
 unfold z37 at h
 refine wq (wg (ws J 2 Q (wn (wq (wq (wg (xw [1, 2] ⟨[(1, .B 4 0), (2, .c .nil), (12, .a (cC4 0 1 2 3 g_))], [(4, .box (cC4 0 1 2 3 g_) 27)], (vV4 0 1 2 3 g_ []), 5⟩ J 1 ?_)))))))
 obtain ⟨x1, d, h⟩ := ob h
 refine wc (z22_ct N g_ _ d) [(0, .sl 0), (1, .sl 1), (2, .sl 2), (3, .sl 3)] [] Q Q Q Q Q Q Q Q (.inl rfl) rfl (wx ⟨[(1, .B 4 0), (2, .c .nil), (14, .O (!x1))], [(4, .box (cC4 0 1 2 3 g_) 27)], (vV4 0 1 2 3 g_ []), 5⟩ J 1 (wn ?_))
 rcases oc h with ⟨hc, h⟩ | ⟨hc, h⟩
 ·refine wt hc Q (wq (wg (ws J 1 Q (wn ?_))))
  cases h
  exact we J Tryz.func37 [(4, .nil)] Q Q Q Q
 refine wf hc Q (wi (wq (wN (fun A1 e f => ?_))))
 have g : A1 0 ⟨[(1, .B 4 0)], [], [], [], 5, [(15, .B 4 0)], [], [], 5⟩ := e _ _ (wl J Q Q Q Q Q Q)
 have i : A1 1 ⟨[(15, .B 4 0)], (vV4 0 1 2 3 g_ []), [], [(4, .box (cC4 0 1 2 3 g_) 27)], 5, [(16, .c (.s g_.Name))], [], [], 5⟩ := e _ _ (wl J Q Q Q Q Q Q)
 obtain ⟨x4, j, h⟩ := ob h
 have l : A1 2 ⟨[(16, .c (.s g_.Name))], [], [], [], 5, [(17, .S 5)], [], [(5, .own (rI .u8) x4 true)], 6⟩ := e _ _ (wO Q Q Q (fun _ _ _ _ _ _ _ k => wc (z83_ct N ([] : List Int) g_.Name _ j) [(0, .nil)] [] Q Q Q Q Q Q Q Q (.inl rfl) rfl (k)) rfl)
 have m : A1 3 ⟨[(1, .B 4 0)], [], [], [], 6, [(18, .B 4 1)], [], [], 6⟩ := e _ _ (wl J Q Q Q Q Q Q)
 have o : A1 4 ⟨[(18, .B 4 1)], (vV4 0 1 2 3 g_ []), [], [(4, .box (cC4 0 1 2 3 g_) 27)], 6, [(19, .S 0)], [], [], 6⟩ := e _ _ (wl J Q Q Q Q Q Q)
 have p : A1 5 ⟨[(19, .S 0)], [(0, .sl rS g_.Roles)], [], [], 6, [(20, .I (g_.Roles.length : Int))], [], [], 6⟩ := e _ _ (wl J Q Q Q Q Q Q)
 obtain ⟨x9, q, h⟩ := ob h
 have u : A1 6 ⟨[(17, .S 5), (20, .I (g_.Roles.length : Int))], [], [(5, .own (rI .u8) x4 true)], [], 6, [(21, .S 6)], [], [(5, .gone), (6, .own (rI .u8) x9 true)], 7⟩ := e _ _ (wO Q Q Q (fun _ _ _ _ _ _ _ k => wc (z82_ct N x4 (g_.Roles.length : Int) _ q) [(0, .sl 5)] [] Q Q Q Q Q Q Q Q (.inl rfl) rfl (k)) rfl)
 have v : A1 7 ⟨[(21, .S 6)], [], [], [], 7, [(3, .S 6)], [], [], 7⟩ := e _ _ (wl J Q Q Q Q Q Q)
 refine wD (t := ⟨[(1, .B 4 0), (2, .c .nil), (3, .S 6)], [(4, .box (cC4 0 1 2 3 g_) 27), (6, .own (rI .u8) x9 true)], (vV4 0 1 2 3 g_ []), 7⟩) [0, 1, 3, 0, 8, 24, 63, 127] (.cons (f _ _ g) (.cons (f _ _ i) (.cons (f _ _ l) (.cons (f _ _ m) (.cons (f _ _ o) (.cons (f _ _ p) (.cons (f _ _ u) (.cons (f _ _ v) .nil)))))))) (by kernel_rfl) (by kernel_rfl) (by kernel_rfl) (by kernel_rfl) (wq (wq (wg (wx ⟨[(1, .B 4 0), (2, .c .nil), (3, .S 6), (23, .S 0), (24, .I (g_.Roles.length : Int)), (25, .I 0)], [(4, .box (cC4 0 1 2 3 g_) 27), (6, .own (rI .u8) x9 true)], (vV4 0 1 2 3 g_ []), 7⟩ J 4 (wn ?_)))))
 refine wC (σ := (List Int)) (fun st => ⟨[(1, .B 4 0), (3, .S 7)], [(4, .box (cC4 0 1 2 3 g_) 27), (7, .own (rI .u8) st true)], (vV4 0 1 2 3 g_ []), 8⟩) (fun st => z37_k7 N g_ st = some r) ?_ (fun j1 => ?_)
 ·intro x h
  replace h : z37_k7 N g_ x = some r := h
  unfold z37_k7 at h
  refine wq (wg (xw [4, 5] ⟨[(1, .B 4 0), (33, .S 7), (36, .I (g_.Decls.length : Int))], [(4, .box (cC4 0 1 2 3 g_) 27), (7, .own (rI .u8) x true)], (vV4 0 1 2 3 g_ []), 8⟩ J 4 ?_))
  obtain ⟨y, z, h⟩ := ob h
  refine wc (z82_ct N x (g_.Decls.length : Int) _ z) [(0, .sl 7)] [] Q Q Q Q Q Q Q Q (.inl rfl) rfl (wx ⟨[(1, .B 4 0), (3, .S 8)], [(4, .box (cC4 0 1 2 3 g_) 27), (8, .own (rI .u8) y true)], (vV4 0 1 2 3 g_ []), 9⟩ J 1 (wn (wq (wq (wg (wx ⟨[(1, .B 4 0), (3, .S 8), (39, .S 1), (40, .I (g_.Decls.length : Int)), (41, .I 0)], [(4, .box (cC4 0 1 2 3 g_) 27), (8, .own (rI .u8) y true)], (vV4 0 1 2 3 g_ []), 9⟩ J 4 (wn ?_)))))))
  refine wC (σ := (List Int)) (fun st => ⟨[(1, .B 4 0), (3, .S 9)], [(4, .box (cC4 0 1 2 3 g_) 27), (9, .own (rI .u8) st true)], (vV4 0 1 2 3 g_ []), 10⟩) (fun st => z37_k5 N g_ st = some r) ?_ (fun j3 => ?_)
  ·intro A h
   replace h : z37_k5 N g_ A = some r := h
   unfold z37_k5 at h
   refine wq (wg (xw [10, 11, 12] ⟨[(1, .B 4 0), (49, .S 9), (51, .I g_.States), (53, .I g_.Start), (55, .I g_.End), (58, .I (g_.Edges.length : Int))], [(4, .box (cC4 0 1 2 3 g_) 27), (9, .own (rI .u8) A true)], (vV4 0 1 2 3 g_ []), 10⟩ J 10 (WPr.bs (cs := [.I g_.States, .I g_.Start, .I g_.End, .I (g_.Edges.length : Int)]) (oI .i64) J ([g_.States, g_.Start, g_.End, (g_.Edges.length : Int)] : List Int) Q Q Q Q Q Q (by kernel_rfl) (by exact (an rfl (an rfl (an rfl (an Q Q))))) rfl ?_)))
   obtain ⟨C, D, h⟩ := ob h
   refine wc (z85_ct N A ([g_.States, g_.Start, g_.End, (g_.Edges.length : Int)] : List Int) _ D) [(0, .sl 9), (1, .sl 10)] [10] Q Q Q Q Q Q Q Q (.inr ⟨rfl, ⟨(rI_flat _), trivial⟩⟩) rfl (wx ⟨[(1, .B 4 0), (3, .S 11)], [(4, .box (cC4 0 1 2 3 g_) 27), (11, .own (rI .u8) C true)], (vV4 0 1 2 3 g_ []), 12⟩ J 1 (wn (wq (wq (wg (wx ⟨[(1, .B 4 0), (3, .S 11), (62, .S 2), (63, .I (g_.Edges.length : Int)), (64, .I 0)], [(4, .box (cC4 0 1 2 3 g_) 27), (11, .own (rI .u8) C true)], (vV4 0 1 2 3 g_ []), 12⟩ J 4 (wn ?_)))))))
   refine wC (σ := (List Int)) (fun st => ⟨[(1, .B 4 0), (3, .S 12)], [(4, .box (cC4 0 1 2 3 g_) 27), (12, .own (rI .u8) st true)], (vV4 0 1 2 3 g_ []), 13⟩) (fun st => z37_k3 N g_ st = some r) ?_ (fun j5 => ?_)
   ·intro G h
    replace h : z37_k3 N g_ G = some r := h
    unfold z37_k3 at h
    refine wq (wg (xw [4, 5] ⟨[(1, .B 4 0), (88, .S 12), (91, .I (g_.Timeouts.length : Int))], [(4, .box (cC4 0 1 2 3 g_) 27), (12, .own (rI .u8) G true)], (vV4 0 1 2 3 g_ []), 13⟩ J 4 ?_))
    obtain ⟨H, K, h⟩ := ob h
    refine wc (z82_ct N G (g_.Timeouts.length : Int) _ K) [(0, .sl 12)] [] Q Q Q Q Q Q Q Q (.inl rfl) rfl (wx ⟨[(1, .B 4 0), (3, .S 13)], [(4, .box (cC4 0 1 2 3 g_) 27), (13, .own (rI .u8) H true)], (vV4 0 1 2 3 g_ []), 14⟩ J 1 (wn (wq (wq (wg (wx ⟨[(3, .S 13), (94, .S 3), (95, .I (g_.Timeouts.length : Int)), (96, .I 0)], [(13, .own (rI .u8) H true)], (vV4 0 1 2 3 g_ []), 14⟩ J 4 (wn ?_)))))))
    refine wC (σ := (List Int)) (fun st => ⟨[(3, .S 14)], [(14, .own (rI .u8) st true)], (vV4 0 1 2 3 g_ []), 15⟩) (fun st => z37_k1 st = some r) ?_ (fun j7 => ?_)
    ·intro R h
     replace h : z37_k1 R = some r := h
     unfold z37_k1 at h
     refine wq (wg (ws J 2 Q (wn ?_)))
     cases h
     exact we J Tryz.func37 [(4, .sl 14)] Q Q Q Q
    refine wo ?_
    refine wI (σ := (List Int) × Int) (fun st => ⟨[(3, .S 14), (94, .S 3), (95, .I (g_.Timeouts.length : Int)), (96, .I st.2)], [(14, .own (rI .u8) st.1 true)], (vV4 0 1 2 3 g_ []), 15⟩) (fun n st => z37_l2 N g_ n st.1 st.2) (r := r) (fun _ => rfl) ?_ (fun ih => ?_)
    ·intro n5 ih9
     rintro ⟨T, U⟩ h
     replace h : z37_l2 N g_ (n5 + 1) T U = some r := h
     unfold z37_l2 at h
     refine wq (wg (ws J 1 Q (wn (wq ?_))))
     rcases oc' h with ⟨hc, h⟩ | ⟨hc, h⟩
     ·exact wf hc Q (wz rfl (wu [] (j7 T h) Q Q Q Q))
     refine wt hc Q (wi (wq (wo (wq (wg ?_)))))
     obtain ⟨X, Y, h⟩ := ob h
     refine wj oO8 J Y Q Q Q Q Q Q Q Q Q (wx ⟨[(3, .S 14), (11, .B 16 0), (94, .S 3), (95, .I (g_.Timeouts.length : Int)), (96, .I U)], [(14, .own (rI .u8) T true), (16, .box (cC8 X) 79)], (vV4 0 1 2 3 g_ []), 17⟩ J 3 (wn (wg (xw [7, 8, 9] ⟨[(94, .S 3), (95, .I (g_.Timeouts.length : Int)), (96, .I U), (100, .S 14), (102, .I X.State), (104, .I X.Ticks), (106, .I X.Else)], [(14, .own (rI .u8) T true)], (vV4 0 1 2 3 g_ []), 17⟩ J 7 (WPr.bs (cs := (cC8 X)) (oI .i64) J ([X.State, X.Ticks, X.Else] : List Int) Q Q Q Q Q Q (by kernel_rfl) (by exact (an rfl (an rfl (an Q Q)))) rfl ?_)))))
     obtain ⟨Z, a0, h⟩ := ob h
     exact wc (z85_ct N T ([X.State, X.Ticks, X.Else] : List Int) _ a0) [(0, .sl 14), (1, .sl 17)] [17] Q Q Q Q Q Q Q Q (.inr ⟨rfl, ⟨(rI_flat _), trivial⟩⟩) rfl (wx ⟨[(3, .S 18), (94, .S 3), (95, .I (g_.Timeouts.length : Int)), (96, .I U)], [(18, .own (rI .u8) Z true)], (vV4 0 1 2 3 g_ []), 19⟩ J 1 (wn (wb (wg (ws J 2 Q (wn (wu [(14, .sl 18)] (ih9 (Z, (w64 (U + 1))) h) Q Q Q Q)))))))
    exact wu [(14, .sl 13)] (ih N (H, 0) h) Q Q Q Q
   refine wo ?_
   refine wI (σ := (List Int) × Int) (fun st => ⟨[(1, .B 4 0), (3, .S 12), (62, .S 2), (63, .I (g_.Edges.length : Int)), (64, .I st.2)], [(4, .box (cC4 0 1 2 3 g_) 27), (12, .own (rI .u8) st.1 true)], (vV4 0 1 2 3 g_ []), 13⟩) (fun n st => z37_l4 N g_ n st.1 st.2) (r := r) (fun _ => rfl) ?_ (fun ih => ?_)
   ·intro n6 ih10
    rintro ⟨b0, c0⟩ h
    replace h : z37_l4 N g_ (n6 + 1) b0 c0 = some r := h
    unfold z37_l4 at h
    refine wq (wg (ws J 1 Q (wn (wq ?_))))
    rcases oc' h with ⟨hc, h⟩ | ⟨hc, h⟩
    ·exact wf hc Q (wz rfl (wu [] (j5 b0 h) Q Q Q Q))
    refine wt hc Q (wi (wq (wo (wq (wg ?_)))))
    obtain ⟨d0, e0, h⟩ := ob h
    refine wj oO2 J e0 Q Q Q Q Q Q Q Q Q (wx ⟨[(1, .B 4 0), (3, .S 12), (9, .B 14 0), (62, .S 2), (63, .I (g_.Edges.length : Int)), (64, .I c0)], [(4, .box (cC4 0 1 2 3 g_) 27), (12, .own (rI .u8) b0 true), (14, .box (cC2 d0) 43)], (vV4 0 1 2 3 g_ []), 15⟩ J 3 (wn (wN (fun f0 g0 i0 => ?_))))
    have j0 : f0 0 ⟨[(3, .S 12)], [], [], [], 15, [(68, .S 12)], [], [], 15⟩ := g0 _ _ (wl J Q Q Q Q Q Q)
    have k0 : f0 1 ⟨[(9, .B 14 0)], [], [], [], 15, [(69, .B 14 0)], [], [], 15⟩ := g0 _ _ (wl J Q Q Q Q Q Q)
    have l0 : f0 2 ⟨[(69, .B 14 0)], [], [], [(14, .box (cC2 d0) 43)], 15, [(70, .I d0.From)], [], [], 15⟩ := g0 _ _ (wl J Q Q Q Q Q Q)
    have m0 : f0 3 ⟨[(9, .B 14 0)], [], [], [], 15, [(71, .B 14 1)], [], [], 15⟩ := g0 _ _ (wl J Q Q Q Q Q Q)
    have o0 : f0 4 ⟨[(71, .B 14 1)], [], [], [], 15, [(72, .B 14 1)], [], [], 15⟩ := g0 _ _ (wl J Q Q Q Q Q Q)
    have p0 : f0 5 ⟨[(72, .B 14 1)], [], [], [(14, .box (cC2 d0) 43)], 15, [(73, .I d0.Act.From)], [], [], 15⟩ := g0 _ _ (wl J Q Q Q Q Q Q)
    have q0 : f0 6 ⟨[(9, .B 14 0)], [], [], [], 15, [(74, .B 14 1)], [], [], 15⟩ := g0 _ _ (wl J Q Q Q Q Q Q)
    have s0 : f0 7 ⟨[(74, .B 14 1)], [], [], [], 15, [(75, .B 14 2)], [], [], 15⟩ := g0 _ _ (wl J Q Q Q Q Q Q)
    have t0 : f0 8 ⟨[(75, .B 14 2)], [], [], [(14, .box (cC2 d0) 43)], 15, [(76, .I d0.Act.To)], [], [], 15⟩ := g0 _ _ (wl J Q Q Q Q Q Q)
    have u0 : f0 9 ⟨[(9, .B 14 0)], [], [], [], 15, [(77, .B 14 1)], [], [], 15⟩ := g0 _ _ (wl J Q Q Q Q Q Q)
    have v0 : f0 10 ⟨[(77, .B 14 1)], [], [], [], 15, [(78, .B 14 3)], [], [], 15⟩ := g0 _ _ (wl J Q Q Q Q Q Q)
    have x0 : f0 11 ⟨[(78, .B 14 3)], [], [], [(14, .box (cC2 d0) 43)], 15, [(79, .I d0.Act.Label)], [], [], 15⟩ := g0 _ _ (wl J Q Q Q Q Q Q)
    have y0 : f0 12 ⟨[(9, .B 14 0)], [], [], [], 15, [(80, .B 14 4)], [], [], 15⟩ := g0 _ _ (wl J Q Q Q Q Q Q)
    have z0 : f0 13 ⟨[(80, .B 14 4)], [], [], [(14, .box (cC2 d0) 43)], 15, [(81, .I d0.To)], [], [], 15⟩ := g0 _ _ (wl J Q Q Q Q Q Q)
    have A0 : f0 14 ⟨[(70, .I d0.From), (73, .I d0.Act.From), (76, .I d0.Act.To), (79, .I d0.Act.Label), (81, .I d0.To)], [], [], [], 15, [(82, .S 15)], [], [(15, .own (rI .i64) ([d0.From, d0.Act.From, d0.Act.To, d0.Act.Label, d0.To] : List Int) true)], 16⟩ := g0 _ _ (wO Q Q Q (fun _ _ _ _ _ _ _ k => WPr.bs (cs := [.I d0.From, .I d0.Act.From, .I d0.Act.To, .I d0.Act.Label, .I d0.To]) (oI .i64) J ([d0.From, d0.Act.From, d0.Act.To, d0.Act.Label, d0.To] : List Int) Q Q Q Q Q Q (by kernel_rfl) (by exact (an rfl (an rfl (an rfl (an rfl (an Q Q)))))) rfl (k)) rfl)
    obtain ⟨B0, C0, h⟩ := ob h
    have D0 : f0 15 ⟨[(68, .S 12), (82, .S 15)], [], [(12, .own (rI .u8) b0 true)], [(15, .own (rI .i64) ([d0.From, d0.Act.From, d0.Act.To, d0.Act.Label, d0.To] : List Int) true)], 16, [(83, .S 16)], [], [(12, .gone), (16, .own (rI .u8) B0 true)], 17⟩ := g0 _ _ (wO Q Q Q (fun _ _ _ _ _ _ _ k => wc (z85_ct N b0 ([d0.From, d0.Act.From, d0.Act.To, d0.Act.Label, d0.To] : List Int) _ C0) [(0, .sl 12), (1, .sl 15)] [15] Q Q Q Q Q Q Q Q (.inr ⟨rfl, ⟨(rI_flat _), trivial⟩⟩) rfl (k)) rfl)
    have G0 : f0 16 ⟨[(9, .B 14 0)], [], [], [], 17, [(84, .B 14 5)], [], [], 17⟩ := g0 _ _ (wl J Q Q Q Q Q Q)
    have H0 : f0 17 ⟨[(84, .B 14 5)], [], [], [(14, .box (cC2 d0) 43)], 17, [(85, .O d0.Again)], [], [], 17⟩ := g0 _ _ (wl J Q Q Q Q Q Q)
    obtain ⟨I0, K0, h⟩ := ob h
    have L0 : f0 18 ⟨[(83, .S 16), (85, .O d0.Again)], [], [(16, .own (rI .u8) B0 true)], [], 17, [(86, .S 17)], [], [(16, .gone), (17, .own (rI .u8) I0 true)], 18⟩ := g0 _ _ (wO Q Q Q (fun _ _ _ _ _ _ _ k => wc (z86_ct N B0 d0.Again _ K0) [(0, .sl 16)] [] Q Q Q Q Q Q Q Q (.inl rfl) rfl (k)) rfl)
    have M0 : f0 19 ⟨[(86, .S 17)], [], [], [], 18, [(3, .S 17)], [], [], 18⟩ := g0 _ _ (wl J Q Q Q Q Q Q)
    exact wD (t := ⟨[(1, .B 4 0), (3, .S 17), (62, .S 2), (63, .I (g_.Edges.length : Int)), (64, .I c0)], [(4, .box (cC4 0 1 2 3 g_) 27), (17, .own (rI .u8) I0 true)], (vV4 0 1 2 3 g_ []), 18⟩) [0, 0, 2, 0, 8, 24, 0, 64, 192, 0, 512, 1536, 0, 4096, 16382, 32767, 0, 65536, 262143, 524287] (.cons (i0 _ _ j0) (.cons (i0 _ _ k0) (.cons (i0 _ _ l0) (.cons (i0 _ _ m0) (.cons (i0 _ _ o0) (.cons (i0 _ _ p0) (.cons (i0 _ _ q0) (.cons (i0 _ _ s0) (.cons (i0 _ _ t0) (.cons (i0 _ _ u0) (.cons (i0 _ _ v0) (.cons (i0 _ _ x0) (.cons (i0 _ _ y0) (.cons (i0 _ _ z0) (.cons (i0 _ _ A0) (.cons (i0 _ _ D0) (.cons (i0 _ _ G0) (.cons (i0 _ _ H0) (.cons (i0 _ _ L0) (.cons (i0 _ _ M0) .nil)))))))))))))))))))) (by kernel_rfl) (by kernel_rfl) (by kernel_rfl) (by kernel_rfl) (wb (wg (ws J 2 Q (wn (wu [(12, .sl 17)] (ih10 (I0, (w64 (c0 + 1))) h) Q Q Q Q)))))
   exact wu [(12, .sl 11)] (ih N (C, 0) h) Q Q Q Q
  refine wo ?_
  refine wI (σ := (List Int) × Int) (fun st => ⟨[(1, .B 4 0), (3, .S 9), (39, .S 1), (40, .I (g_.Decls.length : Int)), (41, .I st.2)], [(4, .box (cC4 0 1 2 3 g_) 27), (9, .own (rI .u8) st.1 true)], (vV4 0 1 2 3 g_ []), 10⟩) (fun n st => z37_l6 N g_ n st.1 st.2) (r := r) (fun _ => rfl) ?_ (fun ih => ?_)
  ·intro n7 ih11
   rintro ⟨O0, R0⟩ h
   replace h : z37_l6 N g_ (n7 + 1) O0 R0 = some r := h
   unfold z37_l6 at h
   refine wq (wg (ws J 1 Q (wn (wq ?_))))
   rcases oc' h with ⟨hc, h⟩ | ⟨hc, h⟩
   ·exact wf hc Q (wz rfl (wu [] (j3 O0 h) Q Q Q Q))
   refine wt hc Q (wi (wq (wo (wq (wg ?_)))))
   obtain ⟨S0, T0, h⟩ := ob h
   refine wj oO0 J T0 Q Q Q Q Q Q Q Q Q (wx ⟨[(1, .B 4 0), (3, .S 9), (7, .B 14 0), (39, .S 1), (40, .I (g_.Decls.length : Int)), (41, .I R0)], [(4, .box (cC4 0 1 2 3 g_) 27), (9, .own (rI .u8) O0 true), (14, .box (cC0 11 12 13 S0) 94)], (vV4 0 1 2 3 g_ (vV0 11 12 13 S0 [])), 15⟩ J 3 (wn (wg (ws J 2 Q ?_))))
   obtain ⟨U0, V0, h⟩ := ob h
   exact wc (z84_ct N O0 S0 _ V0) [(0, .sl 9), (1, .sl 11), (2, .sl 12), (3, .sl 13)] [] Q Q Q Q Q Q Q Q (.inl rfl) rfl (wx ⟨[(1, .B 4 0), (3, .S 15), (39, .S 1), (40, .I (g_.Decls.length : Int)), (41, .I R0)], [(4, .box (cC4 0 1 2 3 g_) 27), (15, .own (rI .u8) U0 true)], (vV4 0 1 2 3 g_ []), 16⟩ J 1 (wn (wb (wg (ws J 2 Q (wn (wu [(9, .sl 15)] (ih11 (U0, (w64 (R0 + 1))) h) Q Q Q Q)))))))
  exact wu [(9, .sl 8)] (ih N (y, 0) h) Q Q Q Q
 refine wo ?_
 refine wI (σ := (List Int) × Int) (fun st => ⟨[(1, .B 4 0), (3, .S 7), (23, .S 0), (24, .I (g_.Roles.length : Int)), (25, .I st.2)], [(4, .box (cC4 0 1 2 3 g_) 27), (7, .own (rI .u8) st.1 true)], (vV4 0 1 2 3 g_ []), 8⟩) (fun n st => z37_l8 N g_ n st.1 st.2) (r := r) (fun _ => rfl) ?_ (fun ih => ?_)
 ·intro n8 ih12
  rintro ⟨X0, Y0⟩ h
  replace h : z37_l8 N g_ (n8 + 1) X0 Y0 = some r := h
  unfold z37_l8 at h
  refine wq (wg (ws J 1 Q (wn (wq ?_))))
  rcases oc' h with ⟨hc, h⟩ | ⟨hc, h⟩
  ·exact wf hc Q (wz rfl (wu [] (j1 X0 h) Q Q Q Q))
  refine wt hc Q (wi (wq (wo (wq (wg ?_)))))
  obtain ⟨Z0, a1, h⟩ := ob h
  refine wj oS J a1 Q Q Q Q Q Q Q Q Q (wx ⟨[(1, .B 4 0), (3, .S 7), (5, .c (.s Z0)), (23, .S 0), (24, .I (g_.Roles.length : Int)), (25, .I Y0)], [(4, .box (cC4 0 1 2 3 g_) 27), (7, .own (rI .u8) X0 true)], (vV4 0 1 2 3 g_ []), 9⟩ J 2 (wn (wg (ws J 2 Q ?_))))
  obtain ⟨b1, c1, h⟩ := ob h
  exact wc (z83_ct N X0 Z0 _ c1) [(0, .sl 7)] [] Q Q Q Q Q Q Q Q (.inl rfl) rfl (wx ⟨[(1, .B 4 0), (3, .S 9), (23, .S 0), (24, .I (g_.Roles.length : Int)), (25, .I Y0)], [(4, .box (cC4 0 1 2 3 g_) 27), (9, .own (rI .u8) b1 true)], (vV4 0 1 2 3 g_ []), 10⟩ J 1 (wn (wb (wg (ws J 2 Q (wn (wu [(7, .sl 9)] (ih12 (b1, (w64 (Y0 + 1))) h) Q Q Q Q)))))))
 exact wu [(7, .sl 6)] (ih N (x9, 0) h) Q Q Q Q
theorem z127_ct (N : Nat) (seed_ : Int) (b_ : (List Int)) (r : Int) (h : z127 N seed_ b_ = some r) :
 Fn Tryz.prog 127 ⟨1, [.c (.i .u64 seed_), .S 0], [(0, .sl (rI .u8) b_)], [], 1, .c (.i .u64 r), [], []⟩ := by
 refine Fn.intro _ _ Tryz.func127 rfl (by kernel_rfl) rfl (fun E F w => ?_)
 unfold z127 at h
 refine wq (wg (ws J 1 Q (wn (wq (wq (wg (wx ⟨[(0, .c (.i .u64 seed_)), (4, .c (.i .u64 0)), (7, .S 0), (8, .I (b_.length : Int)), (9, .I 0)], [], [(0, .sl (rI .u8) b_)], 1⟩ J 3 (wn ?_))))))))
 refine wC (σ := Int) (fun st => ⟨[(0, .c (.i .u64 st))], [], [(0, .sl (rI .u8) b_)], 1⟩) (fun st => z127_k1 st = some r) ?_ (fun j1 => ?_)
 ·intro d h
  replace h : z127_k1 d = some r := h
  unfold z127_k1 at h
  refine wq (wg (ws J 2 Q (wn ?_)))
  cases h
  exact we J Tryz.func127 [] Q Q Q Q
 refine wo ?_
 refine wI (σ := Int × Int) (fun st => ⟨[(0, .c (.i .u64 st.1)), (7, .S 0), (8, .I (b_.length : Int)), (9, .I st.2)], [], [(0, .sl (rI .u8) b_)], 1⟩) (fun n st => z127_l2 b_ n st.1 st.2) (r := r) (fun _ => rfl) ?_ (fun ih => ?_)
 ·intro n2 ih3
  rintro ⟨e, f⟩ h
  replace h : z127_l2 b_ (n2 + 1) e f = some r := h
  unfold z127_l2 at h
  refine wq (wg (ws J 1 Q (wn (wq ?_))))
  rcases oc' h with ⟨hc, h⟩ | ⟨hc, h⟩
  ·exact wf hc Q (wz rfl (wu [] (j1 e h) Q Q Q Q))
  refine wt hc Q (wi (wq (wo (wq (wg ?_)))))
  obtain ⟨g, j, h⟩ := ob h
  refine wj (oI .u8) J j Q Q Q Q Q Q Q Q Q (wx ⟨[(0, .c (.i .u64 e)), (6, .c (.i .u8 g)), (7, .S 0), (8, .I (b_.length : Int)), (9, .I f)], [], [(0, .sl (rI .u8) b_)], 2⟩ J 2 (wn (wg (xw [3, 4, 5] ⟨[(7, .S 0), (8, .I (b_.length : Int)), (9, .I f), (13, .c (.i .u64 e)), (15, .c (.i .u64 (wk .u64 (g))))], [], [(0, .sl (rI .u8) b_)], 2⟩ J 3 ?_))))
  obtain ⟨k, l, h⟩ := ob h
  exact WPr.bin l Q Q Q Q Q Q Q Q (wx ⟨[(0, .c (.i .u64 (wk .u64 (k * 1099511628211)))), (7, .S 0), (8, .I (b_.length : Int)), (9, .I f)], [], [(0, .sl (rI .u8) b_)], 2⟩ J 2 (wn (wb (wg (ws J 2 Q (wn (wu [] (ih3 ((wk .u64 (k * 1099511628211)), (w64 (f + 1))) h) Q Q Q Q)))))))
 exact wu [] (ih N (seed_, 0) h) Q Q Q Q
theorem z73_ct (N : Nat) (b_ : (List Int)) (r : Int) (h : z73 N b_ = some r) :
 Fn Tryz.prog 73 ⟨1, [.S 0], [(0, .sl (rI .u8) b_)], [], 1, .c (.i .u64 r), [], []⟩ := by
 refine Fn.intro _ _ Tryz.func73 rfl (by kernel_rfl) rfl (fun E F w => ?_)
 unfold z73 at h
 refine wq (wg (ws J 1 Q (wn (wq (wg (ws J 1 Q ?_))))))
 obtain ⟨x1, d, h⟩ := ob h
 refine wc (z127_ct N 14695981039346656037 b_ _ d) [(0, .sl 0)] [] Q Q Q Q Q Q Q Q (.inl rfl) rfl (wx ⟨[(2, .c (.i .u64 x1))], [], [(0, .sl (rI .u8) b_)], 1⟩ J 1 (wn ?_))
 cases h
 exact we J Tryz.func73 [] Q Q Q Q
theorem z24_ct (N : Nat) (g_ : T4) (r : Int) (h : z24 N g_ = some r) :
 Fn Tryz.prog 24 ⟨4, [.a (cC4 0 1 2 3 g_)], (vV4 0 1 2 3 g_ []), [], 4, .c (.i .u64 r), [], []⟩ := by
 refine Fn.intro _ _ Tryz.func24 rfl (by kernel_rfl) rfl (fun E F w => ?_)
 unfold z24 at h
 refine wq (wg (ws J 2 Q (wn (wq (wg (xw (rg 1 7) ⟨[(2, .c (.i .u64 0)), (6, .a (cC4 0 1 2 3 g_))], [], (vV4 0 1 2 3 g_ []), 5⟩ J 1 ?_))))))
 obtain ⟨x1, d, h⟩ := ob h
 refine wc (z21_ct N g_ _ d) [(0, .sl 0), (1, .sl 1), (2, .sl 2), (3, .sl 3)] [] Q Q Q Q Q Q Q Q (.inl rfl) rfl (wx ⟨[(2, .c (.i .u64 0)), (3, .B 9 0), (4, .I x1.2)], [(9, .box (cC4 5 6 7 8 x1.1) 27)], (vV4 0 1 2 3 g_ (vV4 5 6 7 8 x1.1 [])), 10⟩ J 6 (wn (wq (wq (wg (ws J 2 Q (wn ?_)))))))
 rcases oc h with ⟨hc, h⟩ | ⟨hc, h⟩
 ·refine wt hc Q (wq (wg (wx ⟨[(2, .c (.i .u64 0))], [], (vV4 0 1 2 3 g_ []), 10⟩ J 1 (wn ?_))))
  cases h
  exact we J Tryz.func24 [] Q Q Q Q
 refine wf hc Q (wi (wq (wg (xw [1, 2, 3] ⟨[(12, .a (cC4 5 6 7 8 x1.1))], [], (vV4 0 1 2 3 g_ (vV4 5 6 7 8 x1.1 [])), 10⟩ J 1 ?_))))
 obtain ⟨x2, e, h⟩ := ob h
 refine wc (z37_ct N x1.1 _ e) [(0, .sl 5), (1, .sl 6), (2, .sl 7), (3, .sl 8)] [] Q Q Q Q Q Q Q Q (.inl rfl) rfl (xw [2, 3] ⟨[(13, .S 10)], [(10, .own (rI .u8) x2 true)], (vV4 0 1 2 3 g_ []), 11⟩ J 0 ?_)
 obtain ⟨x3, f, h⟩ := ob h
 refine wc (z73_ct N x2 _ f) [(0, .sl 10)] [10] Q Q Q Q Q Q Q Q (.inr ⟨rfl, trivial⟩) rfl (wx ⟨[(2, .c (.i .u64 x3))], [], (vV4 0 1 2 3 g_ []), 11⟩ J 1 (wn ?_))
 cases h
 exact we J Tryz.func24 [] Q Q Q Q
theorem z12_ct (N : Nat) (r : Bool) (h : z12 N = some r) :
 Fn Tryz.prog 12 ⟨0, [], [], [], 0, .O r, [], []⟩ := by
 refine Fn.intro _ _ Tryz.func12 rfl (by kernel_rfl) rfl (fun E F w => ?_)
 unfold z12 at h
 refine wq (wg (ws J 1 Q (wn (wq (wg ?_)))))
 obtain ⟨x1, c, h⟩ := ob h
 refine wc (z43_ct N _ c) [] [] Q Q Q Q Q Q Q Q (.inl rfl) rfl (wx ⟨[(0, .O false), (1, .B 4 0)], [(4, .box (cC4 0 1 2 3 x1) 27)], (vV4 0 1 2 3 x1 []), 5⟩ J 2 (wn (wq (wg (ws J 1 Q ?_)))))
 obtain ⟨x2, d, h⟩ := ob h
 refine wc (z14_ct N x1 3 _ d) [(0, .sl 0), (1, .sl 1), (2, .sl 2), (3, .sl 3)] [] Q Q Q Q Q Q Q Q (.inl rfl) rfl (wx ⟨[(0, .O false), (1, .B 4 0), (2, .S 5), (3, .I x2.2)], [(4, .box (cC4 0 1 2 3 x1) 27), (5, .own (rSl rR6) x2.1 true)], (vV4 0 1 2 3 x1 []), 6⟩ J 5 (wn (wq (wg (ws J 2 Q ?_)))))
 obtain ⟨x3, e, h⟩ := ob h
 refine wc (z17_ct N x1 0 (⟨0, 1, 0⟩ : T6) _ e) [(0, .sl 0), (1, .sl 1), (2, .sl 2), (3, .sl 3)] [] Q Q Q Q Q Q Q Q (.inl rfl) rfl (wx ⟨[(0, .O false), (1, .B 4 0), (2, .S 5), (3, .I x2.2), (4, .I x3.1), (5, .O x3.2)], [(4, .box (cC4 0 1 2 3 x1) 27), (5, .own (rSl rR6) x2.1 true)], (vV4 0 1 2 3 x1 []), 6⟩ J 5 (wn (wq (wg (ws J 1 Q ?_)))))
 obtain ⟨x4, f, h⟩ := ob h
 refine wc (z22_ct N x1 _ f) [(0, .sl 0), (1, .sl 1), (2, .sl 2), (3, .sl 3)] [] Q Q Q Q Q Q Q Q (.inl rfl) rfl (xw (rg 3 38) ⟨[(1, .B 4 0), (2, .S 5), (3, .I x2.2), (4, .I x3.1), (5, .O x3.2), (20, .O x4)], [(4, .box (cC4 0 1 2 3 x1) 27), (5, .own (rSl rR6) x2.1 true)], (vV4 0 1 2 3 x1 []), 6⟩ J 1 ?_)
 rcases oc' h with ⟨hc, h⟩ | ⟨hc, h⟩
 ·refine wy 20 hc Q (wx ⟨[(0, .O false)], [], [], 6⟩ J 38 (wn ?_))
  cases h
  exact we J Tryz.func12 [] Q Q Q Q
 refine wy 20 hc Q (xw (rg 7 34) ⟨[(1, .B 4 0), (2, .S 5), (4, .I x3.1), (5, .O x3.2), (24, .O (x2.2 == 0))], [(4, .box (cC4 0 1 2 3 x1) 27), (5, .own (rSl rR6) x2.1 true)], (vV4 0 1 2 3 x1 []), 6⟩ J 4 ?_)
 rcases oc' h with ⟨hc, h⟩ | ⟨hc, h⟩
 ·refine wy 24 hc Q (wx ⟨[(0, .O false)], [], [], 6⟩ J 34 (wn ?_))
  cases h
  exact we J Tryz.func12 [] Q Q Q Q
 refine wy 24 hc Q (xw (rg 12 29) ⟨[(1, .B 4 0), (2, .S 5), (4, .I x3.1), (5, .O x3.2), (29, .O ((x2.1.length : Int) == 2))], [(4, .box (cC4 0 1 2 3 x1) 27), (5, .own (rSl rR6) x2.1 true)], (vV4 0 1 2 3 x1 []), 6⟩ J 5 ?_)
 rcases oc' h with ⟨hc, h⟩ | ⟨hc, h⟩
 ·refine wy 29 hc Q (wx ⟨[(0, .O false)], [], [], 6⟩ J 29 (wn ?_))
  cases h
  exact we J Tryz.func12 [] Q Q Q Q
 refine wy 29 hc Q (ws J 1 Q ?_)
 obtain ⟨x5, g, h⟩ := ob h
 refine wX J g Q Q Q Q Q Q Q Q Q (wL (oSl rR6) J g Q Q Q Q Q Q Q Q Q Q (xw (rg 19 22) ⟨[(1, .B 4 0), (4, .I x3.1), (5, .O x3.2), (36, .O ((x5.length : Int) == 1))], [(4, .box (cC4 0 1 2 3 x1) 27)], (vV4 0 1 2 3 x1 []), 8⟩ J 4 ?_))
 rcases oc' h with ⟨hc, h⟩ | ⟨hc, h⟩
 ·refine wy 36 hc Q (wx ⟨[(0, .O false)], [], [], 8⟩ J 22 (wn ?_))
  cases h
  exact we J Tryz.func12 [] Q Q Q Q
 refine wy 36 hc Q (xw (rg 22 19) ⟨[(1, .B 4 0), (4, .I x3.1), (39, .O x3.2)], [(4, .box (cC4 0 1 2 3 x1) 27)], (vV4 0 1 2 3 x1 []), 8⟩ J 3 ?_)
 rcases oc' h with ⟨hc, h⟩ | ⟨hc, h⟩
 ·refine wy 39 hc Q (wx ⟨[(0, .O false)], [], [], 8⟩ J 19 (wn ?_))
  cases h
  exact we J Tryz.func12 [] Q Q Q Q
 refine wy 39 hc Q (xw (rg 26 15) ⟨[(1, .B 4 0), (43, .O (x3.1 == 1))], [(4, .box (cC4 0 1 2 3 x1) 27)], (vV4 0 1 2 3 x1 []), 8⟩ J 4 ?_)
 rcases oc' h with ⟨hc, h⟩ | ⟨hc, h⟩
 ·refine wy 43 hc Q (wx ⟨[(0, .O false)], [], [], 8⟩ J 15 (wn ?_))
  cases h
  exact we J Tryz.func12 [] Q Q Q Q
 refine wy 43 hc Q (ws J 2 Q ?_)
 obtain ⟨x6, i, h⟩ := ob h
 refine wc (z23_ct N x1 x1 _ i) [(0, .sl 0), (1, .sl 1), (2, .sl 2), (3, .sl 3), (4, .sl 0), (5, .sl 1), (6, .sl 2), (7, .sl 3)] [] Q Q Q Q Q Q Q Q (.inl rfl) rfl (xw (rg 31 10) ⟨[(1, .B 4 0), (48, .O x6)], [(4, .box (cC4 0 1 2 3 x1) 27)], (vV4 0 1 2 3 x1 []), 8⟩ J 2 ?_)
 rcases oc' h with ⟨hc, h⟩ | ⟨hc, h⟩
 ·refine wy 48 hc Q (wx ⟨[(0, .O false)], [], [], 8⟩ J 10 (wn ?_))
  cases h
  exact we J Tryz.func12 [] Q Q Q Q
 refine wy 48 hc Q (ws J 1 Q ?_)
 obtain ⟨x7, j, h⟩ := ob h
 refine wc (z31_ct N x1 (str [120]) _ j) [(0, .sl 0), (1, .sl 1), (2, .sl 2), (3, .sl 3)] [] Q Q Q Q Q Q Q Q (.inl rfl) rfl (xw [36, 37, 38, 39, 40] ⟨[(1, .B 4 0), (53, .O (x7 == 0))], [(4, .box (cC4 0 1 2 3 x1) 27)], (vV4 0 1 2 3 x1 []), 8⟩ J 3 ?_)
 rcases oc' h with ⟨hc, h⟩ | ⟨hc, h⟩
 ·refine wy 53 hc Q (wx ⟨[(0, .O false)], [], [], 8⟩ J 5 (wn ?_))
  cases h
  exact we J Tryz.func12 [] Q Q Q Q
 refine wy 53 hc Q (ws J 1 Q ?_)
 obtain ⟨x8, k, h⟩ := ob h
 refine wc (z24_ct N x1 _ k) [(0, .sl 0), (1, .sl 1), (2, .sl 2), (3, .sl 3)] [] Q Q Q Q Q Q Q Q (.inl rfl) rfl (wx ⟨[(0, .O (x8 != 0))], [], [], 8⟩ J 3 (wn ?_))
 cases h
 exact we J Tryz.func12 [] Q Q Q Q
theorem z44_ct (N : Nat) (l_ : (List T0)) (r : Bool) (h : z44 N l_ = some r) :
 Fn Tryz.prog 44 ⟨1, [.S 0], [(0, .sl rR0 l_)], [], 1, .O r, [], []⟩ := by
 refine Fn.intro _ _ Tryz.func44 rfl (by kernel_rfl) rfl (fun E F w => ?_)
 unfold z44 at h
 refine wq (wg (ws J 1 Q (wn (wq (wg (ws J 1 Q (wn (wq (wq (wg (wx ⟨[(0, .S 0), (2, .O false), (3, .I 0), (4, .I 0)], [], [(0, .sl rR0 l_)], 1⟩ J 1 (wn ?_))))))))))))
 refine wC (σ := Int) (fun st => ⟨[(0, .S 0), (3, .I st)], [], [(0, .sl rR0 l_)], 1⟩) (fun st => z44_k1 l_ st = some r) ?_ (fun j1 => ?_)
 ·intro c h
  replace h : z44_k1 l_ c = some r := h
  unfold z44_k1 at h
  refine wq (wg (xw [4, 5, 6, 7] ⟨[(3, .I c), (38, .O (decide ((l_.length : Int) ≤ 60)))], [], [(0, .sl rR0 l_)], 1⟩ J 4 ?_))
  rcases oc h with ⟨hc, h⟩ | ⟨hc, h⟩
  ·refine wy 38 hc Q (wx ⟨[(2, .O (decide (c ≤ 100)))], [], [(0, .sl rR0 l_)], 1⟩ J 4 (wn ?_))
   cases h
   exact we J Tryz.func44 [] Q Q Q Q
  refine wy 38 hc Q (wx ⟨[(2, .O false)], [], [(0, .sl rR0 l_)], 1⟩ J 4 (wn ?_))
  cases h
  exact we J Tryz.func44 [] Q Q Q Q
 refine wo ?_
 refine wI (σ := Int × Int) (fun st => ⟨[(0, .S 0), (3, .I st.1), (4, .I st.2)], [], [(0, .sl rR0 l_)], 1⟩) (fun n st => z44_l2 l_ n st.1 st.2) (r := r) (fun _ => rfl) ?_ (fun ih => ?_)
 ·intro n2 ih3
  rintro ⟨d, e⟩ h
  replace h : z44_l2 l_ (n2 + 1) d e = some r := h
  unfold z44_l2 at h
  refine wq (wq (wg (wx ⟨[(0, .S 0), (3, .I d), (4, .I e), (8, .O (decide (e < (l_.length : Int))))], [], [(0, .sl rR0 l_)], 1⟩ J 4 (wn ?_))))
  rcases oc' h with ⟨hc, h⟩ | ⟨hc, h⟩
  ·exact wf hc Q (wz rfl (wu [] (j1 d h) Q Q Q Q))
  refine wt hc Q (wi (wq (wo (wQ (by kernel_rfl) (by kernel_rfl) (xq (rg 3 22) ⟨[(0, .S 0), (4, .I e), (11, .I d), (12, .S 0), (13, .I e)], [], [(0, .sl rR0 l_)], 1⟩ J 3 ?_)))))
  obtain ⟨f, g, h⟩ := ob h
  refine WPq.op Q Q (VN.vs (VN.ix oO0 J g Q Q Q Q Q Q Q)) (xq (rg 9 16) ⟨[(0, .S 0), (4, .I e), (11, .I d), (17, .I (f.Fields.length : Int)), (18, .S 0), (19, .I e)], [], [(0, .sl rR0 l_)], 5⟩ J 5 ?_)
  obtain ⟨i, j, h⟩ := ob h
  refine WPq.op Q Q (VN.vs (VN.ix oO0 J j Q Q Q Q Q Q Q)) (xq (rg 17 8) ⟨[(0, .S 0), (4, .I e), (11, .I d), (25, .I (w64 ((f.Fields.length : Int) + (i.Guard.Diffs.length : Int)))), (26, .S 0), (27, .I e)], [], [(0, .sl rR0 l_)], 9⟩ J 7 ?_)
  obtain ⟨k, l, h⟩ := ob h
  exact WPq.op Q Q (VN.vs (VN.ix oO0 J l Q Q Q Q Q Q Q)) (qx ⟨[(0, .S 0), (3, .I (w64 (d + (w64 ((w64 ((f.Fields.length : Int) + (i.Guard.Diffs.length : Int))) + (k.Guard.Equals.length : Int)))))), (4, .I e)], [], [(0, .sl rR0 l_)], 13⟩ J 7 (qn (wb (wg (wx ⟨[(0, .S 0), (3, .I (w64 (d + (w64 ((w64 ((f.Fields.length : Int) + (i.Guard.Diffs.length : Int))) + (k.Guard.Equals.length : Int)))))), (4, .I (w64 (e + 1)))], [], [(0, .sl rR0 l_)], 13⟩ J 3 (wn (wu [] (ih3 ((w64 (d + (w64 ((w64 ((f.Fields.length : Int) + (i.Guard.Diffs.length : Int))) + (k.Guard.Equals.length : Int))))), (w64 (e + 1))) h) Q Q Q Q)))))))
 exact wu [] (ih N (0, 0) h) Q Q Q Q
theorem z13_ct (N : Nat) (g_ : T4) (r : Bool) (h : z13 N g_ = some r) :
 Fn Tryz.prog 13 ⟨4, [.a (cC4 0 1 2 3 g_)], (vV4 0 1 2 3 g_ []), [], 4, .O r, [], []⟩ := by
 refine Fn.intro _ _ Tryz.func13 rfl (by kernel_rfl) rfl (fun E F w => ?_)
 unfold z13 at h
 refine wq (wg (ws J 2 Q (wn (wq (wg (xw (rg 4 23) ⟨[(1, .B 4 0), (6, .O (decide (g_.States ≤ 40)))], [(4, .box (cC4 0 1 2 3 g_) 27)], (vV4 0 1 2 3 g_ []), 5⟩ J 4 ?_))))))
 rcases oc' h with ⟨hc, h⟩ | ⟨hc, h⟩
 ·refine wy 6 hc Q (wx ⟨[(2, .O false)], [], (vV4 0 1 2 3 g_ []), 5⟩ J 23 (wn ?_))
  cases h
  exact we J Tryz.func13 [] Q Q Q Q
 refine wy 6 hc Q (xw (rg 10 17) ⟨[(1, .B 4 0), (12, .O (decide ((g_.Edges.length : Int) ≤ 80)))], [(4, .box (cC4 0 1 2 3 g_) 27)], (vV4 0 1 2 3 g_ []), 5⟩ J 6 ?_)
 rcases oc' h with ⟨hc, h⟩ | ⟨hc, h⟩
 ·refine wy 12 hc Q (wx ⟨[(2, .O false)], [], (vV4 0 1 2 3 g_ []), 5⟩ J 17 (wn ?_))
  cases h
  exact we J Tryz.func13 [] Q Q Q Q
 refine wy 12 hc Q (xw (rg 16 11) ⟨[(1, .B 4 0), (18, .O (decide ((g_.Timeouts.length : Int) ≤ 40)))], [(4, .box (cC4 0 1 2 3 g_) 27)], (vV4 0 1 2 3 g_ []), 5⟩ J 6 ?_)
 rcases oc' h with ⟨hc, h⟩ | ⟨hc, h⟩
 ·refine wy 18 hc Q (wx ⟨[(2, .O false)], [], (vV4 0 1 2 3 g_ []), 5⟩ J 11 (wn ?_))
  cases h
  exact we J Tryz.func13 [] Q Q Q Q
 refine wy 18 hc Q (xw [22, 23, 24, 25, 26] ⟨[(1, .B 4 0), (24, .O (decide ((g_.Roles.length : Int) ≤ 10)))], [(4, .box (cC4 0 1 2 3 g_) 27)], (vV4 0 1 2 3 g_ []), 5⟩ J 6 ?_)
 rcases oc' h with ⟨hc, h⟩ | ⟨hc, h⟩
 ·refine wy 24 hc Q (wx ⟨[(2, .O false)], [], (vV4 0 1 2 3 g_ []), 5⟩ J 5 (wn ?_))
  cases h
  exact we J Tryz.func13 [] Q Q Q Q
 refine wy 24 hc Q (ws J 2 Q ?_)
 obtain ⟨x1, c, h⟩ := ob h
 refine wc (z44_ct N g_.Decls _ c) [(0, .sl 1)] [] Q Q Q Q Q Q Q Q (.inl rfl) rfl (wx ⟨[(2, .O x1)], [], (vV4 0 1 2 3 g_ []), 5⟩ J 2 (wn ?_))
 cases h
 exact we J Tryz.func13 [] Q Q Q Q
theorem z92_ct (N : Nat) (b_ : (List Int)) (r : T12) (h : z92 N b_ = some r) :
 Fn Tryz.prog 92 ⟨1, [.S 0], [(0, .sl (rI .u8) b_)], [], 3, .B 1 0, [(2, .sl (rI .u8) r.b')], [(1, .box (cC12 2 r) 160)]⟩ := by
 refine Fn.intro _ _ Tryz.func92 rfl (by kernel_rfl) rfl (fun E F w => ?_)
 unfold z92 at h
 refine wq (wg (ws J 1 Q (wn (wq (wg (ws J 1 Q ?_))))))
 obtain ⟨x1, c, h⟩ := ob h
 refine WPr.appN (rI .u8) J c (by exact (srcI rfl)) Q Q Q Q Q Q Q Q Q (wx ⟨[(2, .B 2 0)], [(1, .own (rI .u8) x1 true), (2, .box [.sl 1, .I 0, .b false] 160)], [(0, .sl (rI .u8) b_)], 3⟩ J 3 (wn (WP.frz 1 rfl ?_)))
 cases h
 exact we J Tryz.func92 [(1, .bp 2 0), (2, .sl 1)] Q Q Q Q
theorem z165_ct (N : Nat) (r_ : T12) (n_ : Int) (r : (List Int) × T12) (h : z165 N r_ n_ = some r) :
 Fn Tryz.prog 165 ⟨2, [.B 0 0, .I n_], [(1, .sl (rI .u8) r_.b')], [(0, .box (cC12 1 r_) 160)], 4, .S 2, [(2, .sl (rI .u8) r.1), (3, .sl (rI .u8) r.2.b')], [(0, .box (cC12 3 r.2) 160)]⟩ := by
 refine Fn.intro _ _ Tryz.func165 rfl (by kernel_rfl) rfl (fun E F w => ?_)
 unfold z165 at h
 refine wq (wg (ws J 1 Q (wn (wq (wq (wQ (by kernel_rfl) (by kernel_rfl) (xq (rg 5 13) ⟨[(0, .B 0 0), (1, .I n_), (4, .c .nil), (9, .O r_.failed')], [(0, .box (cC12 1 r_) 160)], [(1, .sl (rI .u8) r_.b')], 2⟩ J 5 ?_)))))))
 rcases oc h with ⟨hc, h⟩ | ⟨hc, h⟩
 ·refine qy 9 hc Q (qx ⟨[(0, .B 0 0), (1, .I n_), (4, .c .nil), (22, .O true)], [(0, .box (cC12 1 r_) 160)], [(1, .sl (rI .u8) r_.b')], 2⟩ J 13 (qn (wt Q Q (wq (wg (wx ⟨[(4, .c .nil)], [(0, .box [.sl 1, .I r_.at', .b true] 160)], [(1, .sl (rI .u8) r_.b')], 2⟩ J 4 (wn (wq (wg (ws J 1 Q (wn ?_)))))))))))
  cases h
  exact we J Tryz.func165 [(2, .nil), (3, .sl 1)] Q Q Q Q
 refine qy 9 hc Q (qx ⟨[(0, .B 0 0), (1, .I n_), (4, .c .nil), (22, .O (decide (n_ > (w64 ((r_.b'.length : Int) - r_.at')))))], [(0, .box (cC12 1 r_) 160)], [(1, .sl (rI .u8) r_.b')], 2⟩ J 13 (qn ?_))
 rcases oc h with ⟨hc, h⟩ | ⟨hc, h⟩
 ·refine wt hc Q (wq (wg (wx ⟨[(4, .c .nil)], [(0, .box [.sl 1, .I r_.at', .b true] 160)], [(1, .sl (rI .u8) r_.b')], 2⟩ J 4 (wn (wq (wg (ws J 1 Q (wn ?_))))))))
  cases h
  exact we J Tryz.func165 [(2, .nil), (3, .sl 1)] Q Q Q Q
 refine wf hc Q (wi (wq (wg (wx ⟨[(0, .B 0 0), (1, .I n_), (4, .c .nil)], [(0, .box [.sl 1, .I (w64 (r_.at' + n_)), .b r_.failed'] 160)], [(1, .sl (rI .u8) r_.b')], 2⟩ J 9 (wn (wq (wQ (by kernel_rfl) (by kernel_rfl) (xq [14, 15] ⟨[(37, .S 1), (43, .I (w64 ((w64 (r_.at' + n_)) - n_))), (47, .I (w64 (r_.at' + n_)))], [(0, .box [.sl 1, .I (w64 (r_.at' + n_)), .b r_.failed'] 160)], [(1, .sl (rI .u8) r_.b')], 2⟩ J 14 ?_))))))))
 obtain ⟨x2, d, h⟩ := ob h
 refine WPq.op Q Q (VN.vs (VN.isl J (l := some (.i64, (w64 ((w64 (r_.at' + n_)) - n_)))) (h := some (.i64, (w64 (r_.at' + n_)))) d Q Q Q Q Q Q Q Q)) (WPq.sil J 1 rfl (qn ?_))
 cases h
 exact we J Tryz.func165 [(2, .sl 2), (3, .sl 1)] Q Q Q Q
theorem z141_ct (N : Nat) (r_ : T12) (r : Int × T12) (h : z141 N r_ = some r) :
 Fn Tryz.prog 141 ⟨2, [.B 0 0], [(1, .sl (rI .u8) r_.b')], [(0, .box (cC12 1 r_) 160)], 3, .I r.1, [(2, .sl (rI .u8) r.2.b')], [(0, .box (cC12 2 r.2) 160)]⟩ := by
 refine Fn.intro _ _ Tryz.func141 rfl (by kernel_rfl) rfl (fun E F w => ?_)
 unfold z141 at h
 refine wq (wg (ws J 1 Q (wn (wq (wg (ws J 1 Q (wn (wq (wq (wg (wx ⟨[(0, .B 0 0), (2, .I 0), (3, .c (.i .u64 0)), (6, .I 0)], [(0, .box (cC12 1 r_) 160)], [(1, .sl (rI .u8) r_.b')], 2⟩ J 1 (wn ?_))))))))))))
 refine wC (σ := (List Int) × Int × Bool) (fun st => ⟨[(0, .B 0 0)], [(0, .box [.sl 2, .I st.2.1, .b st.2.2] 160)], [(1, .sl (rI .u8) r_.b'), (2, .sl (rI .u8) st.1)], 3⟩) (fun st => z141_k1 st.1 st.2.1 st.2.2 = some r) ?_ (fun j1 => ?_)
 ·rintro ⟨vbk0_0_0_1, vbk0_0_1_1, vbk0_0_2_1⟩ h
  replace h : z141_k1 vbk0_0_0_1 vbk0_0_1_1 vbk0_0_2_1 = some r := h
  unfold z141_k1 at h
  refine wq (wg (wx ⟨[], [(0, .box [.sl 2, .I vbk0_0_1_1, .b true] 160)], [(1, .sl (rI .u8) r_.b'), (2, .sl (rI .u8) vbk0_0_0_1)], 3⟩ J 4 (wn (wq (wg (ws J 1 Q (wn ?_)))))))
  cases h
  exact we J Tryz.func141 [(2, .sl 2)] Q Q Q Q
 refine wo ?_
 refine wI (σ := (List Int) × Int × Bool × Int × Int) (fun st => ⟨[(0, .B 0 0), (3, .c (.i .u64 st.2.2.2.1)), (6, .I st.2.2.2.2)], [(0, .box [.sl 2, .I st.2.1, .b st.2.2.1] 160)], [(1, .sl (rI .u8) r_.b'), (2, .sl (rI .u8) st.1)], 3⟩) (fun n st => z141_l2 N n st.1 st.2.1 st.2.2.1 st.2.2.2.1 st.2.2.2.2) (r := r) (fun _ => rfl) ?_ (fun ih => ?_)
 ·intro n2 ih3
  rintro ⟨vbk0_0_0_3, vbk0_0_1_3, vbk0_0_2_3, d, e⟩ h
  replace h : z141_l2 N (n2 + 1) vbk0_0_0_3 vbk0_0_1_3 vbk0_0_2_3 d e = some r := h
  unfold z141_l2 at h
  refine wq (wg (ws J 1 Q (wn (wq ?_))))
  rcases oc' h with ⟨hc, h⟩ | ⟨hc, h⟩
  ·exact wf hc Q (wz rfl (wu [] (j1 (vbk0_0_0_3, vbk0_0_1_3, vbk0_0_2_3) h) Q Q Q Q))
  refine wt hc Q (wi (wq (wo (wq (wg (wx ⟨[(0, .B 0 0), (3, .c (.i .u64 d)), (4, .I e), (6, .I e)], [(0, .box [.sl 2, .I vbk0_0_1_3, .b vbk0_0_2_3] 160)], [(1, .sl (rI .u8) r_.b'), (2, .sl (rI .u8) vbk0_0_0_3)], 3⟩ J 2 (wn (wq (wg (ws J 1 Q ?_))))))))))
  obtain ⟨f, g, h⟩ := ob h
  refine wc (z165_ct N (⟨vbk0_0_0_3, vbk0_0_1_3, vbk0_0_2_3⟩ : T12) 1 _ g) [(0, .bp 0 0), (1, .sl 2)] [] Q Q Q Q Q Q Q Q (.inl rfl) rfl (wx ⟨[(0, .B 0 0), (3, .c (.i .u64 d)), (4, .I e), (5, .S 3), (6, .I e)], [(0, .box (cC12 4 f.2) 160)], [(1, .sl (rI .u8) r_.b'), (3, .sl (rI .u8) f.1), (4, .sl (rI .u8) f.2.b')], 5⟩ J 1 (wn (wq (wq (wg (wx ⟨[(0, .B 0 0), (3, .c (.i .u64 d)), (4, .I e), (5, .S 3), (6, .I e), (14, .O f.2.failed')], [(0, .box (cC12 4 f.2) 160)], [(1, .sl (rI .u8) r_.b'), (3, .sl (rI .u8) f.1), (4, .sl (rI .u8) f.2.b')], 5⟩ J 4 (wn ?_)))))))
  rcases oc h with ⟨hc, h⟩ | ⟨hc, h⟩
  ·refine wt hc Q (wq (wg (ws J 1 Q (wn ?_))))
   cases h
   exact we J Tryz.func141 [(2, .sl 4)] Q Q Q Q
  refine wf hc Q (wi (wq (wg (ws J 2 Q ?_))))
  obtain ⟨j, k, h⟩ := ob h
  refine wj (oI .u8) J k Q Q Q Q Q Q Q Q Q (xw (rg 4 7) ⟨[(0, .B 0 0), (4, .I e), (5, .S 3), (6, .I e), (15, .c (.i .u64 d)), (18, .c (.i .u8 j))], [(0, .box (cC12 4 f.2) 160)], [(1, .sl (rI .u8) r_.b'), (3, .sl (rI .u8) f.1), (4, .sl (rI .u8) f.2.b')], 6⟩ J 1 ?_)
  obtain ⟨l, m, h⟩ := ob h
  refine WPr.bin m Q Q Q Q Q Q Q Q (xw [8, 9, 10] ⟨[(0, .B 0 0), (4, .I e), (5, .S 3), (6, .I e), (15, .c (.i .u64 d)), (20, .c (.i .u64 (wk .u64 (l)))), (22, .I (w64 (7 * e)))], [(0, .box (cC12 4 f.2) 160)], [(1, .sl (rI .u8) r_.b'), (3, .sl (rI .u8) f.1), (4, .sl (rI .u8) f.2.b')], 6⟩ J 3 ?_)
  obtain ⟨o, p, h⟩ := ob h
  refine WPr.bin p Q Q Q Q Q Q Q Q ?_
  obtain ⟨q, s, h⟩ := ob h
  refine WPr.bin s Q Q Q Q Q Q Q Q (wx ⟨[(0, .B 0 0), (3, .c (.i .u64 q)), (4, .I e), (5, .S 3), (6, .I e)], [(0, .box (cC12 4 f.2) 160)], [(1, .sl (rI .u8) r_.b'), (3, .sl (rI .u8) f.1), (4, .sl (rI .u8) f.2.b')], 6⟩ J 1 (wn (wq (wg (ws J 1 Q ?_)))))
  obtain ⟨t, u, h⟩ := ob h
  refine wj (oI .u8) J u Q Q Q Q Q Q Q Q Q (wx ⟨[(0, .B 0 0), (3, .c (.i .u64 q)), (4, .I e), (5, .S 3), (6, .I e), (28, .O (decide (t < 128)))], [(0, .box (cC12 4 f.2) 160)], [(1, .sl (rI .u8) r_.b'), (3, .sl (rI .u8) f.1), (4, .sl (rI .u8) f.2.b')], 7⟩ J 2 (wn ?_))
  rcases oc' h with ⟨hc, h⟩ | ⟨hc, h⟩
  ·exact wf hc Q (wi (wb (wg (ws J 2 Q (wn (wu [(2, .sl 4)] (ih3 (f.2.b', f.2.at', f.2.failed', q, (w64 (e + 1))) h) Q Q Q Q))))))
  refine wt hc Q (wq (wg (ws J 2 Q ?_)))
  obtain ⟨v, x, h⟩ := ob h
  refine wj (oI .u8) J x Q Q Q Q Q Q Q Q Q (xw (rg 6 16) ⟨[(3, .c (.i .u64 q)), (4, .I e), (5, .S 3), (29, .B 0 0), (34, .O (v == 0))], [(0, .box (cC12 4 f.2) 160)], [(1, .sl (rI .u8) r_.b'), (3, .sl (rI .u8) f.1), (4, .sl (rI .u8) f.2.b')], 8⟩ J 3 ?_)
  rcases oc' h with ⟨hc, h⟩ | ⟨hc, h⟩
  ·refine wy 34 hc Q (xw (rg 13 9) ⟨[(3, .c (.i .u64 q)), (5, .S 3), (29, .B 0 0), (38, .O false), (41, .O (e == 9))], [(0, .box (cC12 4 f.2) 160)], [(1, .sl (rI .u8) r_.b'), (3, .sl (rI .u8) f.1), (4, .sl (rI .u8) f.2.b')], 8⟩ J 7 ?_)
   rcases oc' h with ⟨hc, h⟩ | ⟨hc, h⟩
   ·refine wy 41 hc Q (wx ⟨[(3, .c (.i .u64 q))], [(0, .box [.sl 4, .I f.2.at', .b false] 160)], [(1, .sl (rI .u8) r_.b'), (4, .sl (rI .u8) f.2.b')], 8⟩ J 9 (wn (wq (wg (ws J 1 Q ?_)))))
    obtain ⟨y, z, h⟩ := ob h
    refine WPr.bin z Q Q Q Q Q Q Q Q (xw [4, 5, 6, 7, 8] ⟨[(52, .I (w64 (y))), (53, .c (.i .u64 q))], [(0, .box [.sl 4, .I f.2.at', .b false] 160)], [(1, .sl (rI .u8) r_.b'), (4, .sl (rI .u8) f.2.b')], 8⟩ J 2 ?_)
    obtain ⟨A, C, h⟩ := ob h
    refine WPr.bin C Q Q Q Q Q Q Q Q (xw [7, 8] ⟨[(52, .I (w64 (y))), (56, .I (w64 (0 - (w64 (A)))))], [(0, .box [.sl 4, .I f.2.at', .b false] 160)], [(1, .sl (rI .u8) r_.b'), (4, .sl (rI .u8) f.2.b')], 8⟩ J 2 ?_)
    obtain ⟨D, G, h⟩ := ob h
    refine WPr.bin G Q Q Q Q Q Q Q Q (ws J 1 Q (wn ?_))
    cases h
    exact we J Tryz.func141 [(2, .sl 4)] Q Q Q Q
   refine wy 41 hc Q (ws J 1 Q ?_)
   obtain ⟨H, K, h⟩ := ob h
   refine wj (oI .u8) J K Q Q Q Q Q Q Q Q Q (wx ⟨[(3, .c (.i .u64 q))], [(0, .box [.sl 4, .I f.2.at', .b (decide (H > 1))] 160)], [(1, .sl (rI .u8) r_.b'), (4, .sl (rI .u8) f.2.b')], 9⟩ J 7 (wn (wq (wg (ws J 1 Q ?_)))))
   obtain ⟨R, T, h⟩ := ob h
   refine WPr.bin T Q Q Q Q Q Q Q Q (xw [4, 5, 6, 7, 8] ⟨[(52, .I (w64 (R))), (53, .c (.i .u64 q))], [(0, .box [.sl 4, .I f.2.at', .b (decide (H > 1))] 160)], [(1, .sl (rI .u8) r_.b'), (4, .sl (rI .u8) f.2.b')], 9⟩ J 2 ?_)
   obtain ⟨U, X, h⟩ := ob h
   refine WPr.bin X Q Q Q Q Q Q Q Q (xw [7, 8] ⟨[(52, .I (w64 (R))), (56, .I (w64 (0 - (w64 (U)))))], [(0, .box [.sl 4, .I f.2.at', .b (decide (H > 1))] 160)], [(1, .sl (rI .u8) r_.b'), (4, .sl (rI .u8) f.2.b')], 9⟩ J 2 ?_)
   obtain ⟨Y, Z, h⟩ := ob h
   refine WPr.bin Z Q Q Q Q Q Q Q Q (ws J 1 Q (wn ?_))
   cases h
   exact we J Tryz.func141 [(2, .sl 4)] Q Q Q Q
  refine wy 34 hc Q (xw (rg 10 12) ⟨[(3, .c (.i .u64 q)), (4, .I e), (5, .S 3), (29, .B 0 0), (38, .O (decide (e > 0)))], [(0, .box (cC12 4 f.2) 160)], [(1, .sl (rI .u8) r_.b'), (3, .sl (rI .u8) f.1), (4, .sl (rI .u8) f.2.b')], 8⟩ J 4 ?_)
  rcases oc h with ⟨hc, h⟩ | ⟨hc, h⟩
  ·refine wy 38 hc Q (wx ⟨[(3, .c (.i .u64 q))], [(0, .box [.sl 4, .I f.2.at', .b true] 160)], [(1, .sl (rI .u8) r_.b'), (4, .sl (rI .u8) f.2.b')], 8⟩ J 12 (wn (wq (wg (ws J 1 Q ?_)))))
   obtain ⟨a0, b0, h⟩ := ob h
   refine WPr.bin b0 Q Q Q Q Q Q Q Q (xw [4, 5, 6, 7, 8] ⟨[(52, .I (w64 (a0))), (53, .c (.i .u64 q))], [(0, .box [.sl 4, .I f.2.at', .b true] 160)], [(1, .sl (rI .u8) r_.b'), (4, .sl (rI .u8) f.2.b')], 8⟩ J 2 ?_)
   obtain ⟨c0, d0, h⟩ := ob h
   refine WPr.bin d0 Q Q Q Q Q Q Q Q (xw [7, 8] ⟨[(52, .I (w64 (a0))), (56, .I (w64 (0 - (w64 (c0)))))], [(0, .box [.sl 4, .I f.2.at', .b true] 160)], [(1, .sl (rI .u8) r_.b'), (4, .sl (rI .u8) f.2.b')], 8⟩ J 2 ?_)
   obtain ⟨e0, f0, h⟩ := ob h
   refine WPr.bin f0 Q Q Q Q Q Q Q Q (ws J 1 Q (wn ?_))
   cases h
   exact we J Tryz.func141 [(2, .sl 4)] Q Q Q Q
  refine wy 38 hc Q (xw (rg 13 9) ⟨[(3, .c (.i .u64 q)), (5, .S 3), (29, .B 0 0), (38, .O false), (41, .O (e == 9))], [(0, .box (cC12 4 f.2) 160)], [(1, .sl (rI .u8) r_.b'), (3, .sl (rI .u8) f.1), (4, .sl (rI .u8) f.2.b')], 8⟩ J 3 ?_)
  rcases oc' h with ⟨hc, h⟩ | ⟨hc, h⟩
  ·refine wy 41 hc Q (wx ⟨[(3, .c (.i .u64 q))], [(0, .box [.sl 4, .I f.2.at', .b false] 160)], [(1, .sl (rI .u8) r_.b'), (4, .sl (rI .u8) f.2.b')], 8⟩ J 9 (wn (wq (wg (ws J 1 Q ?_)))))
   obtain ⟨g0, i0, h⟩ := ob h
   refine WPr.bin i0 Q Q Q Q Q Q Q Q (xw [4, 5, 6, 7, 8] ⟨[(52, .I (w64 (g0))), (53, .c (.i .u64 q))], [(0, .box [.sl 4, .I f.2.at', .b false] 160)], [(1, .sl (rI .u8) r_.b'), (4, .sl (rI .u8) f.2.b')], 8⟩ J 2 ?_)
   obtain ⟨j0, k0, h⟩ := ob h
   refine WPr.bin k0 Q Q Q Q Q Q Q Q (xw [7, 8] ⟨[(52, .I (w64 (g0))), (56, .I (w64 (0 - (w64 (j0)))))], [(0, .box [.sl 4, .I f.2.at', .b false] 160)], [(1, .sl (rI .u8) r_.b'), (4, .sl (rI .u8) f.2.b')], 8⟩ J 2 ?_)
   obtain ⟨l0, m0, h⟩ := ob h
   refine WPr.bin m0 Q Q Q Q Q Q Q Q (ws J 1 Q (wn ?_))
   cases h
   exact we J Tryz.func141 [(2, .sl 4)] Q Q Q Q
  refine wy 41 hc Q (ws J 1 Q ?_)
  obtain ⟨o0, p0, h⟩ := ob h
  refine wj (oI .u8) J p0 Q Q Q Q Q Q Q Q Q (wx ⟨[(3, .c (.i .u64 q))], [(0, .box [.sl 4, .I f.2.at', .b (decide (o0 > 1))] 160)], [(1, .sl (rI .u8) r_.b'), (4, .sl (rI .u8) f.2.b')], 9⟩ J 7 (wn (wq (wg (ws J 1 Q ?_)))))
  obtain ⟨q0, s0, h⟩ := ob h
  refine WPr.bin s0 Q Q Q Q Q Q Q Q (xw [4, 5, 6, 7, 8] ⟨[(52, .I (w64 (q0))), (53, .c (.i .u64 q))], [(0, .box [.sl 4, .I f.2.at', .b (decide (o0 > 1))] 160)], [(1, .sl (rI .u8) r_.b'), (4, .sl (rI .u8) f.2.b')], 9⟩ J 2 ?_)
  obtain ⟨t0, u0, h⟩ := ob h
  refine WPr.bin u0 Q Q Q Q Q Q Q Q (xw [7, 8] ⟨[(52, .I (w64 (q0))), (56, .I (w64 (0 - (w64 (t0)))))], [(0, .box [.sl 4, .I f.2.at', .b (decide (o0 > 1))] 160)], [(1, .sl (rI .u8) r_.b'), (4, .sl (rI .u8) f.2.b')], 9⟩ J 2 ?_)
  obtain ⟨v0, x0, h⟩ := ob h
  refine WPr.bin x0 Q Q Q Q Q Q Q Q (ws J 1 Q (wn ?_))
  cases h
  exact we J Tryz.func141 [(2, .sl 4)] Q Q Q Q
 exact wu [(2, .sl 1)] (ih N (r_.b', r_.at', r_.failed', 0, 0) h) Q Q Q Q
theorem z164_ct (N : Nat) (r_ : T12) (lo_ : Int) (hi_ : Int) (r : Int × T12) (h : z164 N r_ lo_ hi_ = some r) :
 Fn Tryz.prog 164 ⟨2, [.B 0 0, .I lo_, .I hi_], [(1, .sl (rI .u8) r_.b')], [(0, .box (cC12 1 r_) 160)], 3, .I r.1, [(2, .sl (rI .u8) r.2.b')], [(0, .box (cC12 2 r.2) 160)]⟩ := by
 refine Fn.intro _ _ Tryz.func164 rfl (by kernel_rfl) rfl (fun E F w => ?_)
 unfold z164 at h
 refine wq (wg (ws J 1 Q (wn (wq (wg (ws J 1 Q ?_))))))
 obtain ⟨x1, c, h⟩ := ob h
 refine wc (z141_ct N r_ _ c) [(0, .bp 0 0), (1, .sl 1)] [] Q Q Q Q Q Q Q Q (.inl rfl) rfl (wx ⟨[(0, .B 0 0), (1, .I lo_), (2, .I hi_), (6, .I 0), (7, .I x1.1)], [(0, .box (cC12 2 x1.2) 160)], [(1, .sl (rI .u8) r_.b'), (2, .sl (rI .u8) x1.2.b')], 3⟩ J 1 (wn (wq (wg (xw (rg 6 12) ⟨[(1, .I lo_), (2, .I hi_), (6, .I 0), (7, .I x1.1), (10, .B 0 0), (15, .O x1.2.failed')], [(0, .box (cC12 2 x1.2) 160)], [(1, .sl (rI .u8) r_.b'), (2, .sl (rI .u8) x1.2.b')], 3⟩ J 6 ?_)))))
 rcases oc h with ⟨hc, h⟩ | ⟨hc, h⟩
 ·refine wy 15 hc Q (wx ⟨[(6, .I 0), (7, .I x1.1)], [(0, .box [.sl 2, .I x1.2.at', .b true] 160)], [(1, .sl (rI .u8) r_.b'), (2, .sl (rI .u8) x1.2.b')], 3⟩ J 12 (wn (wq (wg (ws J 2 Q (wn ?_))))))
  cases h
  exact we J Tryz.func164 [(2, .sl 2)] Q Q Q Q
 refine wy 15 hc Q (xw (rg 11 7) ⟨[(2, .I hi_), (6, .I 0), (7, .I x1.1), (10, .B 0 0), (20, .O (decide (x1.1 < lo_)))], [(0, .box (cC12 2 x1.2) 160)], [(1, .sl (rI .u8) r_.b'), (2, .sl (rI .u8) x1.2.b')], 3⟩ J 5 ?_)
 rcases oc h with ⟨hc, h⟩ | ⟨hc, h⟩
 ·refine wy 20 hc Q (wx ⟨[(6, .I 0), (7, .I x1.1)], [(0, .box [.sl 2, .I x1.2.at', .b true] 160)], [(1, .sl (rI .u8) r_.b'), (2, .sl (rI .u8) x1.2.b')], 3⟩ J 7 (wn (wq (wg (ws J 2 Q (wn ?_))))))
  cases h
  exact we J Tryz.func164 [(2, .sl 2)] Q Q Q Q
 refine wy 20 hc Q (wx ⟨[(6, .I 0), (7, .I x1.1)], [(0, .box [.sl 2, .I x1.2.at', .b (decide (x1.1 > hi_))] 160)], [(1, .sl (rI .u8) r_.b'), (2, .sl (rI .u8) x1.2.b')], 3⟩ J 7 (wn (wq (wg (ws J 2 Q (wn ?_))))))
 cases h
 exact we J Tryz.func164 [(2, .sl 2)] Q Q Q Q
theorem z162_ct (N : Nat) (r_ : T12) (most_ : Int) (r : (List Int) × T12) (h : z162 N r_ most_ = some r) :
 Fn Tryz.prog 162 ⟨2, [.B 0 0, .I most_], [(1, .sl (rI .u8) r_.b')], [(0, .box (cC12 1 r_) 160)], 4, .S 2, [(2, .sl (rI .u8) r.1), (3, .sl (rI .u8) r.2.b')], [(0, .box (cC12 3 r.2) 160)]⟩ := by
 refine Fn.intro _ _ Tryz.func162 rfl (by kernel_rfl) rfl (fun E F w => ?_)
 unfold z162 at h
 refine wq (wg (ws J 1 Q (wn (wq (wg (xw [2, 3] ⟨[(0, .B 0 0), (4, .c .nil), (6, .B 0 0), (7, .I most_)], [(0, .box (cC12 1 r_) 160)], [(1, .sl (rI .u8) r_.b')], 2⟩ J 2 ?_))))))
 obtain ⟨x1, d, h⟩ := ob h
 refine wc (z164_ct N r_ 0 most_ _ d) [(0, .bp 0 0), (1, .sl 1)] [] Q Q Q Q Q Q Q Q (.inl rfl) rfl (wx ⟨[(0, .B 0 0), (4, .c .nil), (5, .I x1.1)], [(0, .box (cC12 2 x1.2) 160)], [(1, .sl (rI .u8) r_.b'), (2, .sl (rI .u8) x1.2.b')], 3⟩ J 1 (wn (wq (wq (wg (wx ⟨[(0, .B 0 0), (4, .c .nil), (5, .I x1.1), (12, .O x1.2.failed')], [(0, .box (cC12 2 x1.2) 160)], [(1, .sl (rI .u8) r_.b'), (2, .sl (rI .u8) x1.2.b')], 3⟩ J 4 (wn ?_)))))))
 rcases oc h with ⟨hc, h⟩ | ⟨hc, h⟩
 ·refine wt hc Q (wq (wg (ws J 1 Q (wn ?_))))
  cases h
  exact we J Tryz.func162 [(2, .nil), (3, .sl 2)] Q Q Q Q
 refine wf hc Q (wi (wq (wg (ws J 2 Q ?_))))
 obtain ⟨x2, e, h⟩ := ob h
 refine wc (z165_ct N x1.2 x1.1 _ e) [(0, .bp 0 0), (1, .sl 2)] [] Q Q Q Q Q Q Q Q (.inl rfl) rfl (wx ⟨[(4, .S 3)], [(0, .box (cC12 4 x2.2) 160)], [(1, .sl (rI .u8) r_.b'), (3, .sl (rI .u8) x2.1), (4, .sl (rI .u8) x2.2.b')], 5⟩ J 1 (wn ?_))
 cases h
 exact we J Tryz.func162 [(2, .sl 3), (3, .sl 4)] Q Q Q Q
theorem z161_21_ct (N : Nat) (c0_ : T12) (c2_ : Int) (r : (List Int) × T12) (h : z161_21 N c0_ c2_ = some r) :
 Fn Tryz.prog 161 ⟨4, [.B 2 0, .B 3 0], [(1, .sl (rI .u8) c0_.b')], [(0, .box (cC12 1 c0_) 160), (2, .box [.bp 0 0] 115), (3, .box [.I c2_] 3)], 6, .S 4, [(5, .sl (rI .u8) r.2.b')], [(4, .own (rI .u8) r.1 true), (0, .box (cC12 5 r.2) 160), (2, .box [.bp 0 0] 115), (3, .box [.I c2_] 3)]⟩ := by
 refine Fn.intro _ _ Tryz.func161 rfl (by kernel_rfl) rfl (fun E F w => ?_)
 unfold z161_21 at h
 refine wq (wg (ws J 1 Q (wn (wq (wg (xw [2, 3, 4] ⟨[(3, .B 0 0), (4, .I c2_)], [(0, .box (cC12 1 c0_) 160), (2, .box [.bp 0 0] 115), (3, .box [.I c2_] 3)], [(1, .sl (rI .u8) c0_.b')], 4⟩ J 2 ?_))))))
 obtain ⟨x1, c, h⟩ := ob h
 refine wc (z162_ct N c0_ c2_ _ c) [(0, .bp 0 0), (1, .sl 1)] [] Q Q Q Q Q Q Q Q (.inl rfl) rfl (xw [3, 4] ⟨[(5, .S 4)], [(0, .box (cC12 5 x1.2) 160), (2, .box [.bp 0 0] 115), (3, .box [.I c2_] 3)], [(1, .sl (rI .u8) c0_.b'), (4, .sl (rI .u8) x1.1), (5, .sl (rI .u8) x1.2.b')], 6⟩ J 0 ?_)
 obtain ⟨x2, d, h⟩ := ob h
 refine WPr.appN (rI .u8) J d (by exact (srcI rfl)) Q Q Q Q Q Q Q Q Q (wx ⟨[(2, .S 6)], [(0, .box (cC12 5 x1.2) 160), (2, .box [.bp 0 0] 115), (3, .box [.I c2_] 3), (6, .own (rI .u8) x2 true)], [(1, .sl (rI .u8) c0_.b'), (5, .sl (rI .u8) x1.2.b')], 7⟩ J 1 (wn ?_))
 cases h
 exact we J Tryz.func161 [(4, .sl 6), (5, .sl 5)] Q Q Q Q
theorem z160_22_ct (N : Nat) (c0_ : T12) (c2_ : Int) (r : (List Int) × T12) (h : z160_22 N c0_ c2_ = some r) :
 Fn Tryz.prog 160 ⟨4, [.B 0 0, .c (.cl 161 [] [2, 3])], [(1, .sl (rI .u8) c0_.b')], [(0, .box (cC12 1 c0_) 160), (2, .box [.bp 0 0] 115), (3, .box [.I c2_] 3)], 6, .S 4, [(5, .sl (rI .u8) r.2.b')], [(4, .own (rI .u8) r.1 true), (0, .box (cC12 5 r.2) 160), (2, .box [.bp 0 0] 115), (3, .box [.I c2_] 3)]⟩ := by
 refine Fn.intro _ _ Tryz.func160 rfl (by kernel_rfl) rfl (fun E F w => ?_)
 unfold z160_22 at h
 refine wq (wg (ws J 1 Q (wn (wq (wg (ws J 1 Q (wn (wq (wq (wg (xw (rg 1 7) ⟨[(0, .B 0 0), (1, .c (.cl 161 [] [2, 3])), (4, .c .nil), (5, .c .nil), (8, .B 0 0)], [(0, .box (cC12 1 c0_) 160), (2, .box [.bp 0 0] 115), (3, .box [.I c2_] 3)], [(1, .sl (rI .u8) c0_.b')], 4⟩ J 1 (WPr.pnil (el := 160) false Q Q Q Q (by kernel_rfl) Q Q Q (wx ⟨[(0, .B 0 0), (1, .c (.cl 161 [] [2, 3])), (4, .c .nil), (5, .c .nil), (15, .O c0_.failed')], [(0, .box (cC12 1 c0_) 160), (2, .box [.bp 0 0] 115), (3, .box [.I c2_] 3)], [(1, .sl (rI .u8) c0_.b')], 4⟩ J 6 (wn ?_))))))))))))))
 rcases oc h with ⟨hc, h⟩ | ⟨hc, h⟩
 ·refine wt hc Q (wq (wg (ws J 2 Q (wn ?_))))
  cases h
  exact we J Tryz.func160 [(4, .nil), (5, .sl 1)] Q Q Q Q
 refine wf hc Q (wi (wq (wg (wx ⟨[(0, .B 0 0), (1, .c (.cl 161 [] [2, 3])), (4, .c .nil), (5, .c .nil), (6, .I c0_.at')], [(0, .box (cC12 1 c0_) 160), (2, .box [.bp 0 0] 115), (3, .box [.I c2_] 3)], [(1, .sl (rI .u8) c0_.b')], 4⟩ J 5 (wn (wq (wg (ws J 1 Q ?_))))))))
 obtain ⟨x1, d, h⟩ := ob h
 refine WPr.callc (z161_21_ct N c0_ c2_ _ d) [(0, .bp 0 0), (1, .sl 1), (2, .bp 2 0), (3, .bp 3 0)] [] Q Q Q Q Q Q Q Q Q (.inl rfl) rfl (wx ⟨[(0, .B 0 0), (4, .c .nil), (5, .c .nil), (6, .I c0_.at'), (7, .S 4)], [(0, .box (cC12 5 x1.2) 160), (2, .box [.bp 0 0] 115), (3, .box [.I c2_] 3), (4, .own (rI .u8) x1.1 true)], [(1, .sl (rI .u8) c0_.b'), (5, .sl (rI .u8) x1.2.b')], 6⟩ J 1 (wn (wq (wq (wg (wx ⟨[(0, .B 0 0), (4, .c .nil), (5, .c .nil), (6, .I c0_.at'), (7, .S 4), (26, .O x1.2.failed')], [(0, .box (cC12 5 x1.2) 160), (2, .box [.bp 0 0] 115), (3, .box [.I c2_] 3), (4, .own (rI .u8) x1.1 true)], [(1, .sl (rI .u8) c0_.b'), (5, .sl (rI .u8) x1.2.b')], 6⟩ J 4 (wn ?_)))))))
 rcases oc h with ⟨hc, h⟩ | ⟨hc, h⟩
 ·refine wt hc Q (wq (wg (wx ⟨[(4, .c .nil), (5, .c .nil)], [(0, .box [.sl 5, .I c0_.at', .b x1.2.failed'] 160), (2, .box [.bp 0 0] 115), (3, .box [.I c2_] 3)], [(1, .sl (rI .u8) c0_.b'), (5, .sl (rI .u8) x1.2.b')], 6⟩ J 5 (wn (wq (wg (ws J 2 Q (wn ?_))))))))
  cases h
  exact we J Tryz.func160 [(4, .nil), (5, .sl 5)] Q Q Q Q
 refine wf hc Q (wi (wq (wg (ws J 2 Q (wn ?_)))))
 cases h
 exact we J Tryz.func160 [(4, .sl 4), (5, .sl 5)] Q Q Q Q
theorem z132_ct (N : Nat) (r_ : T12) (most_ : Int) (r : (List Int) × T12) (h : z132 N r_ most_ = some r) :
 Fn Tryz.prog 132 ⟨2, [.B 0 0, .I most_], [(1, .sl (rI .u8) r_.b')], [(0, .box (cC12 1 r_) 160)], 4, .S 2, [(3, .sl (rI .u8) r.2.b')], [(2, .own (rI .u8) r.1 true), (0, .box (cC12 3 r.2) 160)]⟩ := by
 refine Fn.intro _ _ Tryz.func132 rfl (by kernel_rfl) rfl (fun E F w => ?_)
 unfold z132 at h
 refine wq (wg (wx ⟨[(2, .B 2 0), (3, .B 3 0), (4, .c .nil)], [(0, .box (cC12 1 r_) 160), (2, .box [.bp 0 0] 115), (3, .box [.I most_] 3)], [(1, .sl (rI .u8) r_.b')], 4⟩ J 3 (wn (wq (wg (ws J 2 Q ?_))))))
 obtain ⟨x1, d, h⟩ := ob h
 refine wc (z160_22_ct N r_ most_ _ d) [(0, .bp 0 0), (1, .sl 1), (2, .bp 2 0), (3, .bp 3 0)] [] Q Q Q Q Q Q Q Q (.inl rfl) rfl (wx ⟨[(4, .S 4)], [(0, .box (cC12 5 x1.2) 160), (4, .own (rI .u8) x1.1 true)], [(1, .sl (rI .u8) r_.b'), (5, .sl (rI .u8) x1.2.b')], 6⟩ J 1 (wn ?_))
 cases h
 exact we J Tryz.func132 [(2, .sl 4), (3, .sl 5)] Q Q Q Q
theorem z93_ct (N : Nat) (r_ : T12) (most_ : Int) (r : ByteArray × T12) (h : z93 N r_ most_ = some r) :
 Fn Tryz.prog 93 ⟨2, [.B 0 0, .I most_], [(1, .sl (rI .u8) r_.b')], [(0, .box (cC12 1 r_) 160)], 3, .c (.s r.1), [(2, .sl (rI .u8) r.2.b')], [(0, .box (cC12 2 r.2) 160)]⟩ := by
 refine Fn.intro _ _ Tryz.func93 rfl (by kernel_rfl) rfl (fun E F w => ?_)
 unfold z93 at h
 refine wq (wg (ws J 1 Q (wn (wq (wg (xw [2, 3, 4] ⟨[(5, .B 0 0), (6, .I most_)], [(0, .box (cC12 1 r_) 160)], [(1, .sl (rI .u8) r_.b')], 2⟩ J 2 ?_))))))
 obtain ⟨x1, d, h⟩ := ob h
 refine wc (z132_ct N r_ most_ _ d) [(0, .bp 0 0), (1, .sl 1)] [] Q Q Q Q Q Q Q Q (.inl rfl) rfl (xw [3, 4] ⟨[(7, .S 2)], [(0, .box (cC12 3 x1.2) 160), (2, .own (rI .u8) x1.1 true)], [(1, .sl (rI .u8) r_.b'), (3, .sl (rI .u8) x1.2.b')], 4⟩ J 0 (WPr.cvs (el := 5) x1.1 (srcO rfl) Q Q Q Q Q (by kernel_rfl) (by kernel_rfl) (by kernel_rfl) rfl (shO rfl) rfl (ws J 1 Q (wn ?_))))
 cases h
 exact we J Tryz.func93 [(2, .sl 3)] Q Q Q Q
theorem z163_23_ct (N : Nat) (c0_ : T12) (c2_ : Int) (c3_ : Int) (r : Int × T12) (h : z163_23 N c0_ c2_ c3_ = some r) :
 Fn Tryz.prog 163 ⟨5, [.B 2 0, .B 3 0, .B 4 0], [(1, .sl (rI .u8) c0_.b')], [(0, .box (cC12 1 c0_) 160), (2, .box [.bp 0 0] 115), (3, .box [.I c2_] 3), (4, .box [.I c3_] 3)], 6, .I r.1, [(5, .sl (rI .u8) r.2.b')], [(0, .box (cC12 5 r.2) 160), (2, .box [.bp 0 0] 115), (3, .box [.I c2_] 3), (4, .box [.I c3_] 3)]⟩ := by
 refine Fn.intro _ _ Tryz.func163 rfl (by kernel_rfl) rfl (fun E F w => ?_)
 unfold z163_23 at h
 refine wq (wg (ws J 1 Q (wn (wq (wg (xw [3, 4] ⟨[(4, .B 0 0), (5, .I c2_), (6, .I c3_)], [(0, .box (cC12 1 c0_) 160), (2, .box [.bp 0 0] 115), (3, .box [.I c2_] 3), (4, .box [.I c3_] 3)], [(1, .sl (rI .u8) c0_.b')], 5⟩ J 3 ?_))))))
 obtain ⟨x1, c, h⟩ := ob h
 refine wc (z164_ct N c0_ c2_ c3_ _ c) [(0, .bp 0 0), (1, .sl 1)] [] Q Q Q Q Q Q Q Q (.inl rfl) rfl (wx ⟨[(3, .I x1.1)], [(0, .box (cC12 5 x1.2) 160), (2, .box [.bp 0 0] 115), (3, .box [.I c2_] 3), (4, .box [.I c3_] 3)], [(1, .sl (rI .u8) c0_.b'), (5, .sl (rI .u8) x1.2.b')], 6⟩ J 1 (wn ?_))
 cases h
 exact we J Tryz.func163 [(5, .sl 5)] Q Q Q Q
theorem z140_24_ct (N : Nat) (c0_ : T12) (c2_ : Int) (c3_ : Int) (r : Int × T12) (h : z140_24 N c0_ c2_ c3_ = some r) :
 Fn Tryz.prog 140 ⟨5, [.B 0 0, .c (.cl 163 [] [2, 3, 4])], [(1, .sl (rI .u8) c0_.b')], [(0, .box (cC12 1 c0_) 160), (2, .box [.bp 0 0] 115), (3, .box [.I c2_] 3), (4, .box [.I c3_] 3)], 6, .I r.1, [(5, .sl (rI .u8) r.2.b')], [(0, .box (cC12 5 r.2) 160), (2, .box [.bp 0 0] 115), (3, .box [.I c2_] 3), (4, .box [.I c3_] 3)]⟩ := by
 refine Fn.intro _ _ Tryz.func140 rfl (by kernel_rfl) rfl (fun E F w => ?_)
 unfold z140_24 at h
 refine wq (wg (ws J 1 Q (wn (wq (wg (ws J 1 Q (wn (wq (wq (wg (xw (rg 1 7) ⟨[(0, .B 0 0), (1, .c (.cl 163 [] [2, 3, 4])), (4, .I 0), (5, .I 0), (8, .B 0 0)], [(0, .box (cC12 1 c0_) 160), (2, .box [.bp 0 0] 115), (3, .box [.I c2_] 3), (4, .box [.I c3_] 3)], [(1, .sl (rI .u8) c0_.b')], 5⟩ J 1 (WPr.pnil (el := 160) false Q Q Q Q (by kernel_rfl) Q Q Q (wx ⟨[(0, .B 0 0), (1, .c (.cl 163 [] [2, 3, 4])), (4, .I 0), (5, .I 0), (15, .O c0_.failed')], [(0, .box (cC12 1 c0_) 160), (2, .box [.bp 0 0] 115), (3, .box [.I c2_] 3), (4, .box [.I c3_] 3)], [(1, .sl (rI .u8) c0_.b')], 5⟩ J 6 (wn ?_))))))))))))))
 rcases oc h with ⟨hc, h⟩ | ⟨hc, h⟩
 ·refine wt hc Q (wq (wg (ws J 2 Q (wn ?_))))
  cases h
  exact we J Tryz.func140 [(5, .sl 1)] Q Q Q Q
 refine wf hc Q (wi (wq (wg (wx ⟨[(0, .B 0 0), (1, .c (.cl 163 [] [2, 3, 4])), (4, .I 0), (5, .I 0), (6, .I c0_.at')], [(0, .box (cC12 1 c0_) 160), (2, .box [.bp 0 0] 115), (3, .box [.I c2_] 3), (4, .box [.I c3_] 3)], [(1, .sl (rI .u8) c0_.b')], 5⟩ J 5 (wn (wq (wg (ws J 1 Q ?_))))))))
 obtain ⟨x1, d, h⟩ := ob h
 refine WPr.callc (z163_23_ct N c0_ c2_ c3_ _ d) [(0, .bp 0 0), (1, .sl 1), (2, .bp 2 0), (3, .bp 3 0), (4, .bp 4 0)] [] Q Q Q Q Q Q Q Q Q (.inl rfl) rfl (wx ⟨[(0, .B 0 0), (4, .I 0), (5, .I 0), (6, .I c0_.at'), (7, .I x1.1)], [(0, .box (cC12 5 x1.2) 160), (2, .box [.bp 0 0] 115), (3, .box [.I c2_] 3), (4, .box [.I c3_] 3)], [(1, .sl (rI .u8) c0_.b'), (5, .sl (rI .u8) x1.2.b')], 6⟩ J 1 (wn (wq (wq (wg (wx ⟨[(0, .B 0 0), (4, .I 0), (5, .I 0), (6, .I c0_.at'), (7, .I x1.1), (26, .O x1.2.failed')], [(0, .box (cC12 5 x1.2) 160), (2, .box [.bp 0 0] 115), (3, .box [.I c2_] 3), (4, .box [.I c3_] 3)], [(1, .sl (rI .u8) c0_.b'), (5, .sl (rI .u8) x1.2.b')], 6⟩ J 4 (wn ?_)))))))
 rcases oc h with ⟨hc, h⟩ | ⟨hc, h⟩
 ·refine wt hc Q (wq (wg (wx ⟨[(4, .I 0), (5, .I 0)], [(0, .box [.sl 5, .I c0_.at', .b x1.2.failed'] 160), (2, .box [.bp 0 0] 115), (3, .box [.I c2_] 3), (4, .box [.I c3_] 3)], [(1, .sl (rI .u8) c0_.b'), (5, .sl (rI .u8) x1.2.b')], 6⟩ J 5 (wn (wq (wg (ws J 2 Q (wn ?_))))))))
  cases h
  exact we J Tryz.func140 [(5, .sl 5)] Q Q Q Q
 refine wf hc Q (wi (wq (wg (ws J 2 Q (wn ?_)))))
 cases h
 exact we J Tryz.func140 [(5, .sl 5)] Q Q Q Q
theorem z133_ct (N : Nat) (r_ : T12) (lo_ : Int) (hi_ : Int) (r : Int × T12) (h : z133 N r_ lo_ hi_ = some r) :
 Fn Tryz.prog 133 ⟨2, [.B 0 0, .I lo_, .I hi_], [(1, .sl (rI .u8) r_.b')], [(0, .box (cC12 1 r_) 160)], 3, .I r.1, [(2, .sl (rI .u8) r.2.b')], [(0, .box (cC12 2 r.2) 160)]⟩ := by
 refine Fn.intro _ _ Tryz.func133 rfl (by kernel_rfl) rfl (fun E F w => ?_)
 unfold z133 at h
 refine wq (wg (wx ⟨[(3, .B 2 0), (4, .B 3 0), (5, .B 4 0), (6, .I 0)], [(0, .box (cC12 1 r_) 160), (2, .box [.bp 0 0] 115), (3, .box [.I lo_] 3), (4, .box [.I hi_] 3)], [(1, .sl (rI .u8) r_.b')], 5⟩ J 4 (wn (wq (wg (ws J 2 Q ?_))))))
 obtain ⟨x1, c, h⟩ := ob h
 refine wc (z140_24_ct N r_ lo_ hi_ _ c) [(0, .bp 0 0), (1, .sl 1), (2, .bp 2 0), (3, .bp 3 0), (4, .bp 4 0)] [] Q Q Q Q Q Q Q Q (.inl rfl) rfl (wx ⟨[(6, .I x1.1)], [(0, .box (cC12 5 x1.2) 160)], [(1, .sl (rI .u8) r_.b'), (5, .sl (rI .u8) x1.2.b')], 6⟩ J 1 (wn ?_))
 cases h
 exact we J Tryz.func133 [(2, .sl 5)] Q Q Q Q
theorem z95_ct (N : Nat) (r_ : T12) (r : ByteArray × T12) (h : z95 N r_ = some r) :
 Fn Tryz.prog 95 ⟨2, [.B 0 0], [(1, .sl (rI .u8) r_.b')], [(0, .box (cC12 1 r_) 160)], 3, .c (.s r.1), [(2, .sl (rI .u8) r.2.b')], [(0, .box (cC12 2 r.2) 160)]⟩ := by
 refine Fn.intro _ _ Tryz.func95 rfl (by kernel_rfl) rfl (fun E F w => ?_)
 unfold z95 at h
 refine wq (wg (ws J 1 Q (wn (wq (wg (ws J 1 Q ?_))))))
 obtain ⟨x1, d, h⟩ := ob h
 refine wc (z93_ct N r_ 16 _ d) [(0, .bp 0 0), (1, .sl 1)] [] Q Q Q Q Q Q Q Q (.inl rfl) rfl (wx ⟨[(2, .c (.s x1.1))], [(0, .box (cC12 2 x1.2) 160)], [(1, .sl (rI .u8) r_.b'), (2, .sl (rI .u8) x1.2.b')], 3⟩ J 1 (wn ?_))
 cases h
 exact we J Tryz.func95 [(2, .sl 2)] Q Q Q Q
theorem z94_25_ct (N : Nat) (r_ : T12) (most_ : Int) (r : (List ByteArray) × T12) (h : z94_25 N r_ most_ = some r) :
 Fn Tryz.prog 94 ⟨2, [.B 0 0, .I most_, .c (.cl 95 [] [])], [(1, .sl (rI .u8) r_.b')], [(0, .box (cC12 1 r_) 160)], 4, .S 2, [(3, .sl (rI .u8) r.2.b')], [(2, .own rS r.1 true), (0, .box (cC12 3 r.2) 160)]⟩ := by
 refine Fn.intro _ _ Tryz.func94 rfl (by kernel_rfl) rfl (fun E F w => ?_)
 unfold z94_25 at h
 refine wq (wg (ws J 1 Q (wn (wq (wg (ws J 1 Q (wn (wq (wq (wg (xw [2, 3] ⟨[(0, .B 0 0), (2, .c (.cl 95 [] [])), (6, .c .nil), (7, .c .nil), (8, .B 0 0), (9, .I most_)], [(0, .box (cC12 1 r_) 160)], [(1, .sl (rI .u8) r_.b')], 2⟩ J 2 ?_)))))))))))
 obtain ⟨x1, d, h⟩ := ob h
 refine wc (z133_ct N r_ 0 most_ _ d) [(0, .bp 0 0), (1, .sl 1)] [] Q Q Q Q Q Q Q Q (.inl rfl) rfl (wx ⟨[(0, .B 0 0), (2, .c (.cl 95 [] [])), (6, .c .nil), (7, .c .nil), (10, .I x1.1), (11, .I 0)], [(0, .box (cC12 2 x1.2) 160)], [(1, .sl (rI .u8) r_.b'), (2, .sl (rI .u8) x1.2.b')], 3⟩ J 1 (wn ?_))
 refine wC (σ := (List Int) × Int × Bool × (List ByteArray)) (fun st => ⟨[(7, .S 4)], [(0, .box [.sl 3, .I st.2.1, .b st.2.2.1] 160), (4, .own rS st.2.2.2 true)], [(1, .sl (rI .u8) r_.b'), (3, .sl (rI .u8) st.1)], 5⟩) (fun st => z94_25_k1 st.1 st.2.1 st.2.2.1 st.2.2.2 = some r) ?_ (fun j1 => ?_)
 ·rintro ⟨vbk0_0_0_1, vbk0_0_1_1, vbk0_0_2_1, e⟩ h
  replace h : z94_25_k1 vbk0_0_0_1 vbk0_0_1_1 vbk0_0_2_1 e = some r := h
  unfold z94_25_k1 at h
  refine wq (wg (ws J 2 Q (wn ?_)))
  cases h
  exact we J Tryz.func94 [(2, .sl 4), (3, .sl 3)] Q Q Q Q
 refine wo ?_
 refine wI (σ := (List Int) × Int × Bool × (List ByteArray) × Int) (fun st => ⟨[(0, .B 0 0), (2, .c (.cl 95 [] [])), (7, .S 4), (10, .I x1.1), (11, .I st.2.2.2.2)], [(0, .box [.sl 3, .I st.2.1, .b st.2.2.1] 160), (4, .own rS st.2.2.2.1 true)], [(1, .sl (rI .u8) r_.b'), (3, .sl (rI .u8) st.1)], 5⟩) (fun n st => z94_25_l2 N x1 n st.1 st.2.1 st.2.2.1 st.2.2.2.1 st.2.2.2.2) (r := r) (fun _ => rfl) ?_ (fun ih => ?_)
 ·intro n2 ih3
  rintro ⟨vbk0_0_0_3, vbk0_0_1_3, vbk0_0_2_3, f, g⟩ h
  replace h : z94_25_l2 N x1 (n2 + 1) vbk0_0_0_3 vbk0_0_1_3 vbk0_0_2_3 f g = some r := h
  unfold z94_25_l2 at h
  refine wq (wg (ws J 1 Q (wn (wq ?_))))
  rcases oc' h with ⟨hc, h⟩ | ⟨hc, h⟩
  ·exact wf hc Q (wz rfl (wu [] (j1 (vbk0_0_0_3, vbk0_0_1_3, vbk0_0_2_3, f) h) Q Q Q Q))
  refine wt hc Q (wi (wq (wo (wg (xw [3, 4, 5, 6] ⟨[(0, .B 0 0), (2, .c (.cl 95 [] [])), (10, .I x1.1), (11, .I g), (13, .S 4), (14, .c (.cl 95 [] [])), (15, .B 0 0)], [(0, .box [.sl 3, .I vbk0_0_1_3, .b vbk0_0_2_3] 160), (4, .own rS f true)], [(1, .sl (rI .u8) r_.b'), (3, .sl (rI .u8) vbk0_0_0_3)], 5⟩ J 3 ?_)))))
  obtain ⟨i, j, h⟩ := ob h
  refine WPr.callc (z95_ct N (⟨vbk0_0_0_3, vbk0_0_1_3, vbk0_0_2_3⟩ : T12) _ j) [(0, .bp 0 0), (1, .sl 3)] [] Q Q Q Q Q Q Q Q Q (.inl rfl) rfl (xw [4, 5, 6] ⟨[(0, .B 0 0), (2, .c (.cl 95 [] [])), (10, .I x1.1), (11, .I g), (13, .S 4), (16, .c (.s i.1))], [(0, .box (cC12 5 i.2) 160), (4, .own rS f true)], [(1, .sl (rI .u8) r_.b'), (5, .sl (rI .u8) i.2.b')], 6⟩ J 0 (WPr.bs (cs := [.s i.1]) oS J ([i.1] : List ByteArray) Q Q Q Q Q Q (by kernel_rfl) (by exact (an Q Q)) rfl ?_))
  obtain ⟨k, l, h⟩ := ob h
  exact WPr.app J l (by exact (srcO rfl)) Q Q Q Q Q Q Q Q Q Q (wx ⟨[(0, .B 0 0), (2, .c (.cl 95 [] [])), (7, .S 7), (10, .I x1.1), (11, .I g)], [(0, .box (cC12 5 i.2) 160), (7, .own rS k true)], [(1, .sl (rI .u8) r_.b'), (5, .sl (rI .u8) i.2.b')], 8⟩ J 1 (wn (wb (wg (ws J 2 Q (wn (wu [(3, .sl 5), (4, .sl 7)] (ih3 (i.2.b', i.2.at', i.2.failed', k, (w64 (g + 1))) h) Q Q Q Q)))))))
 exact wu [(3, .sl 2), (4, .nil)] (ih N (x1.2.b', x1.2.at', x1.2.failed', ([] : List ByteArray), 0) h) Q Q Q Q
theorem z140_26_ct (N : Nat) (c0_ : T12) (r : Int × T12) (h : z140_26 N c0_ = some r) :
 Fn Tryz.prog 140 ⟨2, [.B 0 0, .c (.cl 141 [0] [])], [(1, .sl (rI .u8) c0_.b')], [(0, .box (cC12 1 c0_) 160)], 3, .I r.1, [(2, .sl (rI .u8) r.2.b')], [(0, .box (cC12 2 r.2) 160)]⟩ := by
 refine Fn.intro _ _ Tryz.func140 rfl (by kernel_rfl) rfl (fun E F w => ?_)
 unfold z140_26 at h
 refine wq (wg (ws J 1 Q (wn (wq (wg (ws J 1 Q (wn (wq (wq (wg (xw (rg 1 7) ⟨[(0, .B 0 0), (1, .c (.cl 141 [0] [])), (4, .I 0), (5, .I 0), (8, .B 0 0)], [(0, .box (cC12 1 c0_) 160)], [(1, .sl (rI .u8) c0_.b')], 2⟩ J 1 (WPr.pnil (el := 160) false Q Q Q Q (by kernel_rfl) Q Q Q (wx ⟨[(0, .B 0 0), (1, .c (.cl 141 [0] [])), (4, .I 0), (5, .I 0), (15, .O c0_.failed')], [(0, .box (cC12 1 c0_) 160)], [(1, .sl (rI .u8) c0_.b')], 2⟩ J 6 (wn ?_))))))))))))))
 rcases oc h with ⟨hc, h⟩ | ⟨hc, h⟩
 ·refine wt hc Q (wq (wg (ws J 2 Q (wn ?_))))
  cases h
  exact we J Tryz.func140 [(2, .sl 1)] Q Q Q Q
 refine wf hc Q (wi (wq (wg (wx ⟨[(0, .B 0 0), (1, .c (.cl 141 [0] [])), (4, .I 0), (5, .I 0), (6, .I c0_.at')], [(0, .box (cC12 1 c0_) 160)], [(1, .sl (rI .u8) c0_.b')], 2⟩ J 5 (wn (wq (wg (ws J 1 Q ?_))))))))
 obtain ⟨x1, d, h⟩ := ob h
 refine WPr.callc (z141_ct N c0_ _ d) [(0, .bp 0 0), (1, .sl 1)] [] Q Q Q Q Q Q Q Q Q (.inl rfl) rfl (wx ⟨[(0, .B 0 0), (4, .I 0), (5, .I 0), (6, .I c0_.at'), (7, .I x1.1)], [(0, .box (cC12 2 x1.2) 160)], [(1, .sl (rI .u8) c0_.b'), (2, .sl (rI .u8) x1.2.b')], 3⟩ J 1 (wn (wq (wq (wg (wx ⟨[(0, .B 0 0), (4, .I 0), (5, .I 0), (6, .I c0_.at'), (7, .I x1.1), (26, .O x1.2.failed')], [(0, .box (cC12 2 x1.2) 160)], [(1, .sl (rI .u8) c0_.b'), (2, .sl (rI .u8) x1.2.b')], 3⟩ J 4 (wn ?_)))))))
 rcases oc h with ⟨hc, h⟩ | ⟨hc, h⟩
 ·refine wt hc Q (wq (wg (wx ⟨[(4, .I 0), (5, .I 0)], [(0, .box [.sl 2, .I c0_.at', .b x1.2.failed'] 160)], [(1, .sl (rI .u8) c0_.b'), (2, .sl (rI .u8) x1.2.b')], 3⟩ J 5 (wn (wq (wg (ws J 2 Q (wn ?_))))))))
  cases h
  exact we J Tryz.func140 [(2, .sl 2)] Q Q Q Q
 refine wf hc Q (wi (wq (wg (ws J 2 Q (wn ?_)))))
 cases h
 exact we J Tryz.func140 [(2, .sl 2)] Q Q Q Q
theorem z98_ct (N : Nat) (r_ : T12) (r : Int × T12) (h : z98 N r_ = some r) :
 Fn Tryz.prog 98 ⟨2, [.B 0 0], [(1, .sl (rI .u8) r_.b')], [(0, .box (cC12 1 r_) 160)], 3, .I r.1, [(2, .sl (rI .u8) r.2.b')], [(0, .box (cC12 2 r.2) 160)]⟩ := by
 refine Fn.intro _ _ Tryz.func98 rfl (by kernel_rfl) rfl (fun E F w => ?_)
 unfold z98 at h
 refine wq (wg (ws J 1 Q (wn (wq (wg (xw [3, 4] ⟨[(3, .B 0 0), (5, .c (.cl 141 [0] []))], [(0, .box (cC12 1 r_) 160)], [(1, .sl (rI .u8) r_.b')], 2⟩ J 3 ?_))))))
 obtain ⟨x1, d, h⟩ := ob h
 refine wc (z140_26_ct N r_ _ d) [(0, .bp 0 0), (1, .sl 1)] [] Q Q Q Q Q Q Q Q (.inl rfl) rfl (wx ⟨[(2, .I x1.1)], [(0, .box (cC12 2 x1.2) 160)], [(1, .sl (rI .u8) r_.b'), (2, .sl (rI .u8) x1.2.b')], 3⟩ J 1 (wn ?_))
 cases h
 exact we J Tryz.func98 [(2, .sl 2)] Q Q Q Q
theorem z135_ct (N : Nat) (r_ : T12) (r : T3 × T12) (h : z135 N r_ = some r) :
 Fn Tryz.prog 135 ⟨2, [.B 0 0], [(1, .sl (rI .u8) r_.b')], [(0, .box (cC12 1 r_) 160)], 3, .a (cC3 r.1), [(2, .sl (rI .u8) r.2.b')], [(0, .box (cC12 2 r.2) 160)]⟩ := by
 refine Fn.intro _ _ Tryz.func135 rfl (by kernel_rfl) rfl (fun E F w => ?_)
 unfold z135 at h
 refine wq (wg (ws J 1 Q (wn (wq (wg (ws J 1 Q ?_))))))
 obtain ⟨x1, c, h⟩ := ob h
 refine wc (z93_ct N r_ 16 _ c) [(0, .bp 0 0), (1, .sl 1)] [] Q Q Q Q Q Q Q Q (.inl rfl) rfl (wx ⟨[(0, .B 0 0), (2, .B 2 0), (3, .B 4 0)], [(0, .box (cC12 3 x1.2) 160), (2, .box [.s (str []), .I 0, .I 0, .I 0] 141), (4, .box [.s x1.1, .I 0, .I 0, .I 0] 141)], [(1, .sl (rI .u8) r_.b'), (3, .sl (rI .u8) x1.2.b')], 5⟩ J 3 (wn (wq (wg (ws J 1 Q ?_)))))
 obtain ⟨x2, d, h⟩ := ob h
 refine wc (z98_ct N x1.2 _ d) [(0, .bp 0 0), (1, .sl 3)] [] Q Q Q Q Q Q Q Q (.inl rfl) rfl (wx ⟨[(0, .B 0 0), (2, .B 2 0), (3, .B 4 0)], [(0, .box (cC12 5 x2.2) 160), (2, .box [.s (str []), .I 0, .I 0, .I 0] 141), (4, .box [.s x1.1, .I x2.1, .I 0, .I 0] 141)], [(1, .sl (rI .u8) r_.b'), (5, .sl (rI .u8) x2.2.b')], 6⟩ J 3 (wn (wq (wg (ws J 1 Q ?_)))))
 obtain ⟨x3, e, h⟩ := ob h
 refine wc (z98_ct N x2.2 _ e) [(0, .bp 0 0), (1, .sl 5)] [] Q Q Q Q Q Q Q Q (.inl rfl) rfl (wx ⟨[(0, .B 0 0), (2, .B 2 0), (3, .B 4 0)], [(0, .box (cC12 6 x3.2) 160), (2, .box [.s (str []), .I 0, .I 0, .I 0] 141), (4, .box [.s x1.1, .I x2.1, .I x3.1, .I 0] 141)], [(1, .sl (rI .u8) r_.b'), (6, .sl (rI .u8) x3.2.b')], 7⟩ J 3 (wn (wq (wg (ws J 1 Q ?_)))))
 obtain ⟨x4, f, h⟩ := ob h
 refine wc (z98_ct N x3.2 _ f) [(0, .bp 0 0), (1, .sl 6)] [] Q Q Q Q Q Q Q Q (.inl rfl) rfl (wx ⟨[(2, .B 2 0), (3, .B 4 0)], [(0, .box (cC12 7 x4.2) 160), (2, .box [.s (str []), .I 0, .I 0, .I 0] 141), (4, .box [.s x1.1, .I x2.1, .I x3.1, .I x4.1] 141)], [(1, .sl (rI .u8) r_.b'), (7, .sl (rI .u8) x4.2.b')], 8⟩ J 3 (wn (wq (wg (ws J 2 Q (wn ?_))))))
 cases h
 exact we J Tryz.func135 [(2, .sl 7)] Q Q Q Q
theorem z134_27_ct (N : Nat) (r_ : T12) (most_ : Int) (r : (List T3) × T12) (h : z134_27 N r_ most_ = some r) :
 Fn Tryz.prog 134 ⟨2, [.B 0 0, .I most_, .c (.cl 135 [] [])], [(1, .sl (rI .u8) r_.b')], [(0, .box (cC12 1 r_) 160)], 4, .S 2, [(3, .sl (rI .u8) r.2.b')], [(2, .own rR3 r.1 true), (0, .box (cC12 3 r.2) 160)]⟩ := by
 refine Fn.intro _ _ Tryz.func134 rfl (by kernel_rfl) rfl (fun E F w => ?_)
 unfold z134_27 at h
 refine wq (wg (ws J 1 Q (wn (wq (wg (ws J 1 Q (wn (wq (wq (wg (xw [2, 3] ⟨[(0, .B 0 0), (2, .c (.cl 135 [] [])), (6, .c .nil), (7, .c .nil), (8, .B 0 0), (9, .I most_)], [(0, .box (cC12 1 r_) 160)], [(1, .sl (rI .u8) r_.b')], 2⟩ J 2 ?_)))))))))))
 obtain ⟨x1, d, h⟩ := ob h
 refine wc (z133_ct N r_ 0 most_ _ d) [(0, .bp 0 0), (1, .sl 1)] [] Q Q Q Q Q Q Q Q (.inl rfl) rfl (wx ⟨[(0, .B 0 0), (2, .c (.cl 135 [] [])), (6, .c .nil), (7, .c .nil), (10, .I x1.1), (11, .I 0)], [(0, .box (cC12 2 x1.2) 160)], [(1, .sl (rI .u8) r_.b'), (2, .sl (rI .u8) x1.2.b')], 3⟩ J 1 (wn ?_))
 refine wC (σ := (List Int) × Int × Bool × (List T3)) (fun st => ⟨[(7, .S 4)], [(0, .box [.sl 3, .I st.2.1, .b st.2.2.1] 160), (4, .own rR3 st.2.2.2 true)], [(1, .sl (rI .u8) r_.b'), (3, .sl (rI .u8) st.1)], 5⟩) (fun st => z134_27_k1 st.1 st.2.1 st.2.2.1 st.2.2.2 = some r) ?_ (fun j1 => ?_)
 ·rintro ⟨vbk0_0_0_1, vbk0_0_1_1, vbk0_0_2_1, e⟩ h
  replace h : z134_27_k1 vbk0_0_0_1 vbk0_0_1_1 vbk0_0_2_1 e = some r := h
  unfold z134_27_k1 at h
  refine wq (wg (ws J 2 Q (wn ?_)))
  cases h
  exact we J Tryz.func134 [(2, .sl 4), (3, .sl 3)] Q Q Q Q
 refine wo ?_
 refine wI (σ := (List Int) × Int × Bool × (List T3) × Int) (fun st => ⟨[(0, .B 0 0), (2, .c (.cl 135 [] [])), (7, .S 4), (10, .I x1.1), (11, .I st.2.2.2.2)], [(0, .box [.sl 3, .I st.2.1, .b st.2.2.1] 160), (4, .own rR3 st.2.2.2.1 true)], [(1, .sl (rI .u8) r_.b'), (3, .sl (rI .u8) st.1)], 5⟩) (fun n st => z134_27_l2 N x1 n st.1 st.2.1 st.2.2.1 st.2.2.2.1 st.2.2.2.2) (r := r) (fun _ => rfl) ?_ (fun ih => ?_)
 ·intro n2 ih3
  rintro ⟨vbk0_0_0_3, vbk0_0_1_3, vbk0_0_2_3, f, g⟩ h
  replace h : z134_27_l2 N x1 (n2 + 1) vbk0_0_0_3 vbk0_0_1_3 vbk0_0_2_3 f g = some r := h
  unfold z134_27_l2 at h
  refine wq (wg (ws J 1 Q (wn (wq ?_))))
  rcases oc' h with ⟨hc, h⟩ | ⟨hc, h⟩
  ·exact wf hc Q (wz rfl (wu [] (j1 (vbk0_0_0_3, vbk0_0_1_3, vbk0_0_2_3, f) h) Q Q Q Q))
  refine wt hc Q (wi (wq (wo (wg (xw [3, 4, 5, 6] ⟨[(0, .B 0 0), (2, .c (.cl 135 [] [])), (10, .I x1.1), (11, .I g), (13, .S 4), (14, .c (.cl 135 [] [])), (15, .B 0 0)], [(0, .box [.sl 3, .I vbk0_0_1_3, .b vbk0_0_2_3] 160), (4, .own rR3 f true)], [(1, .sl (rI .u8) r_.b'), (3, .sl (rI .u8) vbk0_0_0_3)], 5⟩ J 3 ?_)))))
  obtain ⟨i, j, h⟩ := ob h
  refine WPr.callc (z135_ct N (⟨vbk0_0_0_3, vbk0_0_1_3, vbk0_0_2_3⟩ : T12) _ j) [(0, .bp 0 0), (1, .sl 3)] [] Q Q Q Q Q Q Q Q Q (.inl rfl) rfl (xw [4, 5, 6] ⟨[(0, .B 0 0), (2, .c (.cl 135 [] [])), (10, .I x1.1), (11, .I g), (13, .S 4), (16, .a (cC3 i.1))], [(0, .box (cC12 5 i.2) 160), (4, .own rR3 f true)], [(1, .sl (rI .u8) r_.b'), (5, .sl (rI .u8) i.2.b')], 6⟩ J 0 (WPr.bs (cs := (cC3 i.1)) oO3 J ([i.1] : List T3) Q Q Q Q Q Q (by kernel_rfl) (by exact (an (an rfl (an rfl (an Q Q))) rfl)) rfl ?_))
  obtain ⟨k, l, h⟩ := ob h
  exact WPr.app J l (by exact (srcO rfl)) Q Q Q Q Q Q Q Q Q Q (wx ⟨[(0, .B 0 0), (2, .c (.cl 135 [] [])), (7, .S 7), (10, .I x1.1), (11, .I g)], [(0, .box (cC12 5 i.2) 160), (7, .own rR3 k true)], [(1, .sl (rI .u8) r_.b'), (5, .sl (rI .u8) i.2.b')], 8⟩ J 1 (wn (wb (wg (ws J 2 Q (wn (wu [(3, .sl 5), (4, .sl 7)] (ih3 (i.2.b', i.2.at', i.2.failed', k, (w64 (g + 1))) h) Q Q Q Q)))))))
 exact wu [(3, .sl 2), (4, .nil)] (ih N (x1.2.b', x1.2.at', x1.2.failed', ([] : List T3), 0) h) Q Q Q Q
theorem z137_ct (N : Nat) (r_ : T12) (r : T1 × T12) (h : z137 N r_ = some r) :
 Fn Tryz.prog 137 ⟨2, [.B 0 0], [(1, .sl (rI .u8) r_.b')], [(0, .box (cC12 1 r_) 160)], 3, .a (cC1 r.1), [(2, .sl (rI .u8) r.2.b')], [(0, .box (cC12 2 r.2) 160)]⟩ := by
 refine Fn.intro _ _ Tryz.func137 rfl (by kernel_rfl) rfl (fun E F w => ?_)
 unfold z137 at h
 refine wq (wg (ws J 1 Q (wn (wq (wg (ws J 1 Q ?_))))))
 obtain ⟨x1, c, h⟩ := ob h
 refine wc (z98_ct N r_ _ c) [(0, .bp 0 0), (1, .sl 1)] [] Q Q Q Q Q Q Q Q (.inl rfl) rfl (wx ⟨[(0, .B 0 0), (2, .B 2 0), (3, .B 4 0)], [(0, .box (cC12 3 x1.2) 160), (2, .box [.I 0, .I 0, .I 0] 144), (4, .box [.I x1.1, .I 0, .I 0] 144)], [(1, .sl (rI .u8) r_.b'), (3, .sl (rI .u8) x1.2.b')], 5⟩ J 3 (wn (wq (wg (ws J 1 Q ?_)))))
 obtain ⟨x2, d, h⟩ := ob h
 refine wc (z98_ct N x1.2 _ d) [(0, .bp 0 0), (1, .sl 3)] [] Q Q Q Q Q Q Q Q (.inl rfl) rfl (wx ⟨[(0, .B 0 0), (2, .B 2 0), (3, .B 4 0)], [(0, .box (cC12 5 x2.2) 160), (2, .box [.I 0, .I 0, .I 0] 144), (4, .box [.I x1.1, .I x2.1, .I 0] 144)], [(1, .sl (rI .u8) r_.b'), (5, .sl (rI .u8) x2.2.b')], 6⟩ J 2 (wn (wq (wg (ws J 1 Q ?_)))))
 obtain ⟨x3, e, h⟩ := ob h
 refine wc (z98_ct N x2.2 _ e) [(0, .bp 0 0), (1, .sl 5)] [] Q Q Q Q Q Q Q Q (.inl rfl) rfl (wx ⟨[(2, .B 2 0), (3, .B 4 0)], [(0, .box (cC12 6 x3.2) 160), (2, .box [.I 0, .I 0, .I 0] 144), (4, .box [.I x1.1, .I x2.1, .I x3.1] 144)], [(1, .sl (rI .u8) r_.b'), (6, .sl (rI .u8) x3.2.b')], 7⟩ J 2 (wn (wq (wg (ws J 2 Q (wn ?_))))))
 cases h
 exact we J Tryz.func137 [(2, .sl 6)] Q Q Q Q
theorem z136_28_ct (N : Nat) (r_ : T12) (most_ : Int) (r : (List T1) × T12) (h : z136_28 N r_ most_ = some r) :
 Fn Tryz.prog 136 ⟨2, [.B 0 0, .I most_, .c (.cl 137 [] [])], [(1, .sl (rI .u8) r_.b')], [(0, .box (cC12 1 r_) 160)], 4, .S 2, [(3, .sl (rI .u8) r.2.b')], [(2, .own rR1 r.1 true), (0, .box (cC12 3 r.2) 160)]⟩ := by
 refine Fn.intro _ _ Tryz.func136 rfl (by kernel_rfl) rfl (fun E F w => ?_)
 unfold z136_28 at h
 refine wq (wg (ws J 1 Q (wn (wq (wg (ws J 1 Q (wn (wq (wq (wg (xw [2, 3] ⟨[(0, .B 0 0), (2, .c (.cl 137 [] [])), (6, .c .nil), (7, .c .nil), (8, .B 0 0), (9, .I most_)], [(0, .box (cC12 1 r_) 160)], [(1, .sl (rI .u8) r_.b')], 2⟩ J 2 ?_)))))))))))
 obtain ⟨x1, d, h⟩ := ob h
 refine wc (z133_ct N r_ 0 most_ _ d) [(0, .bp 0 0), (1, .sl 1)] [] Q Q Q Q Q Q Q Q (.inl rfl) rfl (wx ⟨[(0, .B 0 0), (2, .c (.cl 137 [] [])), (6, .c .nil), (7, .c .nil), (10, .I x1.1), (11, .I 0)], [(0, .box (cC12 2 x1.2) 160)], [(1, .sl (rI .u8) r_.b'), (2, .sl (rI .u8) x1.2.b')], 3⟩ J 1 (wn ?_))
 refine wC (σ := (List Int) × Int × Bool × (List T1)) (fun st => ⟨[(7, .S 4)], [(0, .box [.sl 3, .I st.2.1, .b st.2.2.1] 160), (4, .own rR1 st.2.2.2 true)], [(1, .sl (rI .u8) r_.b'), (3, .sl (rI .u8) st.1)], 5⟩) (fun st => z136_28_k1 st.1 st.2.1 st.2.2.1 st.2.2.2 = some r) ?_ (fun j1 => ?_)
 ·rintro ⟨vbk0_0_0_1, vbk0_0_1_1, vbk0_0_2_1, e⟩ h
  replace h : z136_28_k1 vbk0_0_0_1 vbk0_0_1_1 vbk0_0_2_1 e = some r := h
  unfold z136_28_k1 at h
  refine wq (wg (ws J 2 Q (wn ?_)))
  cases h
  exact we J Tryz.func136 [(2, .sl 4), (3, .sl 3)] Q Q Q Q
 refine wo ?_
 refine wI (σ := (List Int) × Int × Bool × (List T1) × Int) (fun st => ⟨[(0, .B 0 0), (2, .c (.cl 137 [] [])), (7, .S 4), (10, .I x1.1), (11, .I st.2.2.2.2)], [(0, .box [.sl 3, .I st.2.1, .b st.2.2.1] 160), (4, .own rR1 st.2.2.2.1 true)], [(1, .sl (rI .u8) r_.b'), (3, .sl (rI .u8) st.1)], 5⟩) (fun n st => z136_28_l2 N x1 n st.1 st.2.1 st.2.2.1 st.2.2.2.1 st.2.2.2.2) (r := r) (fun _ => rfl) ?_ (fun ih => ?_)
 ·intro n2 ih3
  rintro ⟨vbk0_0_0_3, vbk0_0_1_3, vbk0_0_2_3, f, g⟩ h
  replace h : z136_28_l2 N x1 (n2 + 1) vbk0_0_0_3 vbk0_0_1_3 vbk0_0_2_3 f g = some r := h
  unfold z136_28_l2 at h
  refine wq (wg (ws J 1 Q (wn (wq ?_))))
  rcases oc' h with ⟨hc, h⟩ | ⟨hc, h⟩
  ·exact wf hc Q (wz rfl (wu [] (j1 (vbk0_0_0_3, vbk0_0_1_3, vbk0_0_2_3, f) h) Q Q Q Q))
  refine wt hc Q (wi (wq (wo (wg (xw [3, 4, 5, 6] ⟨[(0, .B 0 0), (2, .c (.cl 137 [] [])), (10, .I x1.1), (11, .I g), (13, .S 4), (14, .c (.cl 137 [] [])), (15, .B 0 0)], [(0, .box [.sl 3, .I vbk0_0_1_3, .b vbk0_0_2_3] 160), (4, .own rR1 f true)], [(1, .sl (rI .u8) r_.b'), (3, .sl (rI .u8) vbk0_0_0_3)], 5⟩ J 3 ?_)))))
  obtain ⟨i, j, h⟩ := ob h
  refine WPr.callc (z137_ct N (⟨vbk0_0_0_3, vbk0_0_1_3, vbk0_0_2_3⟩ : T12) _ j) [(0, .bp 0 0), (1, .sl 3)] [] Q Q Q Q Q Q Q Q Q (.inl rfl) rfl (xw [4, 5, 6] ⟨[(0, .B 0 0), (2, .c (.cl 137 [] [])), (10, .I x1.1), (11, .I g), (13, .S 4), (16, .a (cC1 i.1))], [(0, .box (cC12 5 i.2) 160), (4, .own rR1 f true)], [(1, .sl (rI .u8) r_.b'), (5, .sl (rI .u8) i.2.b')], 6⟩ J 0 (WPr.bs (cs := (cC1 i.1)) oO1 J ([i.1] : List T1) Q Q Q Q Q Q (by kernel_rfl) (by exact (an (an rfl (an Q Q)) rfl)) rfl ?_))
  obtain ⟨k, l, h⟩ := ob h
  exact WPr.app J l (by exact (srcO rfl)) Q Q Q Q Q Q Q Q Q Q (wx ⟨[(0, .B 0 0), (2, .c (.cl 137 [] [])), (7, .S 7), (10, .I x1.1), (11, .I g)], [(0, .box (cC12 5 i.2) 160), (7, .own rR1 k true)], [(1, .sl (rI .u8) r_.b'), (5, .sl (rI .u8) i.2.b')], 8⟩ J 1 (wn (wb (wg (ws J 2 Q (wn (wu [(3, .sl 5), (4, .sl 7)] (ih3 (i.2.b', i.2.at', i.2.failed', k, (w64 (g + 1))) h) Q Q Q Q)))))))
 exact wu [(3, .sl 2), (4, .nil)] (ih N (x1.2.b', x1.2.at', x1.2.failed', ([] : List T1), 0) h) Q Q Q Q
theorem z139_ct (N : Nat) (r_ : T12) (r : (Int × Int) × T12) (h : z139 N r_ = some r) :
 Fn Tryz.prog 139 ⟨2, [.B 0 0], [(1, .sl (rI .u8) r_.b')], [(0, .box (cC12 1 r_) 160)], 3, .a [.I r.1.1, .I r.1.2], [(2, .sl (rI .u8) r.2.b')], [(0, .box (cC12 2 r.2) 160)]⟩ := by
 refine Fn.intro _ _ Tryz.func139 rfl (by kernel_rfl) rfl (fun E F w => ?_)
 unfold z139 at h
 refine wq (wg (ws J 1 Q (wn (wq (wg (ws J 1 Q ?_))))))
 obtain ⟨x1, c, h⟩ := ob h
 refine wc (z98_ct N r_ _ c) [(0, .bp 0 0), (1, .sl 1)] [] Q Q Q Q Q Q Q Q (.inl rfl) rfl (wx ⟨[(0, .B 0 0), (2, .B 2 0), (3, .I x1.1)], [(0, .box (cC12 3 x1.2) 160), (2, .box [.I 0, .I 0] 146)], [(1, .sl (rI .u8) r_.b'), (3, .sl (rI .u8) x1.2.b')], 4⟩ J 1 (wn (wq (wg (ws J 2 Q ?_)))))
 obtain ⟨x2, d, h⟩ := ob h
 refine wc (z98_ct N x1.2 _ d) [(0, .bp 0 0), (1, .sl 3)] [] Q Q Q Q Q Q Q Q (.inl rfl) rfl (wx ⟨[(2, .B 2 0)], [(0, .box (cC12 4 x2.2) 160), (2, .box [.I x1.1, .I x2.1] 146)], [(1, .sl (rI .u8) r_.b'), (4, .sl (rI .u8) x2.2.b')], 5⟩ J 2 (wn ?_))
 cases h
 exact we J Tryz.func139 [(2, .sl 4)] Q Q Q Q
theorem z138_29_ct (N : Nat) (r_ : T12) (most_ : Int) (r : (List (Int × Int)) × T12) (h : z138_29 N r_ most_ = some r) :
 Fn Tryz.prog 138 ⟨2, [.B 0 0, .I most_, .c (.cl 139 [] [])], [(1, .sl (rI .u8) r_.b')], [(0, .box (cC12 1 r_) 160)], 4, .S 2, [(3, .sl (rI .u8) r.2.b')], [(2, .own (rP (rI .i64) (rI .i64)) r.1 true), (0, .box (cC12 3 r.2) 160)]⟩ := by
 refine Fn.intro _ _ Tryz.func138 rfl (by kernel_rfl) rfl (fun E F w => ?_)
 unfold z138_29 at h
 refine wq (wg (ws J 1 Q (wn (wq (wg (ws J 1 Q (wn (wq (wq (wg (xw [2, 3] ⟨[(0, .B 0 0), (2, .c (.cl 139 [] [])), (6, .c .nil), (7, .c .nil), (8, .B 0 0), (9, .I most_)], [(0, .box (cC12 1 r_) 160)], [(1, .sl (rI .u8) r_.b')], 2⟩ J 2 ?_)))))))))))
 obtain ⟨x1, d, h⟩ := ob h
 refine wc (z133_ct N r_ 0 most_ _ d) [(0, .bp 0 0), (1, .sl 1)] [] Q Q Q Q Q Q Q Q (.inl rfl) rfl (wx ⟨[(0, .B 0 0), (2, .c (.cl 139 [] [])), (6, .c .nil), (7, .c .nil), (10, .I x1.1), (11, .I 0)], [(0, .box (cC12 2 x1.2) 160)], [(1, .sl (rI .u8) r_.b'), (2, .sl (rI .u8) x1.2.b')], 3⟩ J 1 (wn ?_))
 refine wC (σ := (List Int) × Int × Bool × (List (Int × Int))) (fun st => ⟨[(7, .S 4)], [(0, .box [.sl 3, .I st.2.1, .b st.2.2.1] 160), (4, .own (rP (rI .i64) (rI .i64)) st.2.2.2 true)], [(1, .sl (rI .u8) r_.b'), (3, .sl (rI .u8) st.1)], 5⟩) (fun st => z138_29_k1 st.1 st.2.1 st.2.2.1 st.2.2.2 = some r) ?_ (fun j1 => ?_)
 ·rintro ⟨vbk0_0_0_1, vbk0_0_1_1, vbk0_0_2_1, e⟩ h
  replace h : z138_29_k1 vbk0_0_0_1 vbk0_0_1_1 vbk0_0_2_1 e = some r := h
  unfold z138_29_k1 at h
  refine wq (wg (ws J 2 Q (wn ?_)))
  cases h
  exact we J Tryz.func138 [(2, .sl 4), (3, .sl 3)] Q Q Q Q
 refine wo ?_
 refine wI (σ := (List Int) × Int × Bool × (List (Int × Int)) × Int) (fun st => ⟨[(0, .B 0 0), (2, .c (.cl 139 [] [])), (7, .S 4), (10, .I x1.1), (11, .I st.2.2.2.2)], [(0, .box [.sl 3, .I st.2.1, .b st.2.2.1] 160), (4, .own (rP (rI .i64) (rI .i64)) st.2.2.2.1 true)], [(1, .sl (rI .u8) r_.b'), (3, .sl (rI .u8) st.1)], 5⟩) (fun n st => z138_29_l2 N x1 n st.1 st.2.1 st.2.2.1 st.2.2.2.1 st.2.2.2.2) (r := r) (fun _ => rfl) ?_ (fun ih => ?_)
 ·intro n2 ih3
  rintro ⟨vbk0_0_0_3, vbk0_0_1_3, vbk0_0_2_3, f, g⟩ h
  replace h : z138_29_l2 N x1 (n2 + 1) vbk0_0_0_3 vbk0_0_1_3 vbk0_0_2_3 f g = some r := h
  unfold z138_29_l2 at h
  refine wq (wg (ws J 1 Q (wn (wq ?_))))
  rcases oc' h with ⟨hc, h⟩ | ⟨hc, h⟩
  ·exact wf hc Q (wz rfl (wu [] (j1 (vbk0_0_0_3, vbk0_0_1_3, vbk0_0_2_3, f) h) Q Q Q Q))
  refine wt hc Q (wi (wq (wo (wg (xw [3, 4, 5, 6] ⟨[(0, .B 0 0), (2, .c (.cl 139 [] [])), (10, .I x1.1), (11, .I g), (13, .S 4), (14, .c (.cl 139 [] [])), (15, .B 0 0)], [(0, .box [.sl 3, .I vbk0_0_1_3, .b vbk0_0_2_3] 160), (4, .own (rP (rI .i64) (rI .i64)) f true)], [(1, .sl (rI .u8) r_.b'), (3, .sl (rI .u8) vbk0_0_0_3)], 5⟩ J 3 ?_)))))
  obtain ⟨i, j, h⟩ := ob h
  refine WPr.callc (z139_ct N (⟨vbk0_0_0_3, vbk0_0_1_3, vbk0_0_2_3⟩ : T12) _ j) [(0, .bp 0 0), (1, .sl 3)] [] Q Q Q Q Q Q Q Q Q (.inl rfl) rfl (xw [4, 5, 6] ⟨[(0, .B 0 0), (2, .c (.cl 139 [] [])), (10, .I x1.1), (11, .I g), (13, .S 4), (16, .a [.I i.1.1, .I i.1.2])], [(0, .box (cC12 5 i.2) 160), (4, .own (rP (rI .i64) (rI .i64)) f true)], [(1, .sl (rI .u8) r_.b'), (5, .sl (rI .u8) i.2.b')], 6⟩ J 0 (WPr.bs (cs := [.I i.1.1, .I i.1.2]) (oP (oI .i64) (oI .i64)) J ([(i.1.1, i.1.2)] : List (Int × Int)) Q Q Q Q Q Q (by kernel_rfl) (by exact (an (an Q Q) rfl)) rfl ?_))
  obtain ⟨k, l, h⟩ := ob h
  exact WPr.app J l (by exact (srcO rfl)) Q Q Q Q Q Q Q Q Q Q (wx ⟨[(0, .B 0 0), (2, .c (.cl 139 [] [])), (7, .S 7), (10, .I x1.1), (11, .I g)], [(0, .box (cC12 5 i.2) 160), (7, .own (rP (rI .i64) (rI .i64)) k true)], [(1, .sl (rI .u8) r_.b'), (5, .sl (rI .u8) i.2.b')], 8⟩ J 1 (wn (wb (wg (ws J 2 Q (wn (wu [(3, .sl 5), (4, .sl 7)] (ih3 (i.2.b', i.2.at', i.2.failed', k, (w64 (g + 1))) h) Q Q Q Q)))))))
 exact wu [(3, .sl 2), (4, .nil)] (ih N (x1.2.b', x1.2.at', x1.2.failed', ([] : List (Int × Int)), 0) h) Q Q Q Q
theorem z97_ct (N : Nat) (r_ : T12) (r : T0 × T12) (h : z97 N r_ = some r) :
 Fn Tryz.prog 97 ⟨2, [.B 0 0], [(1, .sl (rI .u8) r_.b')], [(0, .box (cC12 1 r_) 160)], 6, .a (cC0 2 3 4 r.1), (vV0 2 3 4 r.1 [(5, .sl (rI .u8) r.2.b')]), [(0, .box (cC12 5 r.2) 160)]⟩ := by
 refine Fn.intro _ _ Tryz.func97 rfl (by kernel_rfl) rfl (fun E F w => ?_)
 unfold z97 at h
 refine wq (wg (ws J 1 Q (wn (wq (wg (ws J 1 Q ?_))))))
 obtain ⟨x1, c, h⟩ := ob h
 refine wc (z93_ct N r_ 50 _ c) [(0, .bp 0 0), (1, .sl 1)] [] Q Q Q Q Q Q Q Q (.inl rfl) rfl (wx ⟨[(0, .B 0 0), (2, .B 2 0), (3, .B 4 0)], [(0, .box (cC12 3 x1.2) 160), (2, .box [.s (str []), .nil, .I 0, .nil, .nil] 94), (4, .box [.s x1.1, .nil, .I 0, .nil, .nil] 94)], [(1, .sl (rI .u8) r_.b'), (3, .sl (rI .u8) x1.2.b')], 5⟩ J 3 (wn (wq (wg (ws J 1 Q ?_)))))
 obtain ⟨x2, d, h⟩ := ob h
 refine wc (z134_27_ct N x1.2 4 _ d) [(0, .bp 0 0), (1, .sl 3)] [] Q Q Q Q Q Q Q Q (.inl rfl) rfl (wx ⟨[(0, .B 0 0), (2, .B 2 0), (3, .B 4 0)], [(0, .box (cC12 6 x2.2) 160), (2, .box [.s (str []), .nil, .I 0, .nil, .nil] 94), (4, .box [.s x1.1, .sl 5, .I 0, .nil, .nil] 94), (5, .own rR3 x2.1 true)], [(1, .sl (rI .u8) r_.b'), (6, .sl (rI .u8) x2.2.b')], 7⟩ J 2 (wn (wq (wg (ws J 1 Q ?_)))))
 obtain ⟨x3, e, h⟩ := ob h
 refine wc (z98_ct N x2.2 _ e) [(0, .bp 0 0), (1, .sl 6)] [] Q Q Q Q Q Q Q Q (.inl rfl) rfl (wx ⟨[(0, .B 0 0), (2, .B 2 0), (3, .B 4 0)], [(0, .box (cC12 7 x3.2) 160), (2, .box [.s (str []), .nil, .I 0, .nil, .nil] 94), (4, .box [.s x1.1, .sl 5, .I x3.1, .nil, .nil] 94), (5, .own rR3 x2.1 true)], [(1, .sl (rI .u8) r_.b'), (7, .sl (rI .u8) x3.2.b')], 8⟩ J 2 (wn (wq (wg (ws J 1 Q ?_)))))
 obtain ⟨x4, f, h⟩ := ob h
 refine wc (z136_28_ct N x3.2 20 _ f) [(0, .bp 0 0), (1, .sl 7)] [] Q Q Q Q Q Q Q Q (.inl rfl) rfl (wx ⟨[(0, .B 0 0), (2, .B 2 0), (3, .B 4 0)], [(0, .box (cC12 9 x4.2) 160), (2, .box [.s (str []), .nil, .I 0, .nil, .nil] 94), (4, .box [.s x1.1, .sl 5, .I x3.1, .sl 8, .nil] 94), (5, .own rR3 x2.1 true), (8, .own rR1 x4.1 true)], [(1, .sl (rI .u8) r_.b'), (9, .sl (rI .u8) x4.2.b')], 10⟩ J 3 (wn (wq (wg (ws J 1 Q ?_)))))
 obtain ⟨x5, g, h⟩ := ob h
 refine wc (z138_29_ct N x4.2 20 _ g) [(0, .bp 0 0), (1, .sl 9)] [] Q Q Q Q Q Q Q Q (.inl rfl) rfl (wx ⟨[(2, .B 2 0), (3, .B 4 0)], [(0, .box (cC12 11 x5.2) 160), (2, .box [.s (str []), .nil, .I 0, .nil, .nil] 94), (4, .box [.s x1.1, .sl 5, .I x3.1, .sl 8, .sl 10] 94), (5, .own rR3 x2.1 true), (8, .own rR1 x4.1 true), (10, .own (rP (rI .i64) (rI .i64)) x5.1 true)], [(1, .sl (rI .u8) r_.b'), (11, .sl (rI .u8) x5.2.b')], 12⟩ J 3 (wn (wq (wg (ws J 2 Q (wn (WP.frz 5 rfl (WP.frz 8 rfl (WP.frz 10 rfl ?_)))))))))
 cases h
 exact we J Tryz.func97 [(2, .sl 5), (3, .sl 8), (4, .sl 10), (5, .sl 11)] Q Q Q Q
theorem z96_30_ct (N : Nat) (r_ : T12) (most_ : Int) (r : (List T0) × T12) (h : z96_30 N r_ most_ = some r) :
 Fn Tryz.prog 96 ⟨2, [.B 0 0, .I most_, .c (.cl 97 [] [])], [(1, .sl (rI .u8) r_.b')], [(0, .box (cC12 1 r_) 160)], 4, .S 2, [(3, .sl (rI .u8) r.2.b')], [(2, .own rR0 r.1 true), (0, .box (cC12 3 r.2) 160)]⟩ := by
 refine Fn.intro _ _ Tryz.func96 rfl (by kernel_rfl) rfl (fun E F w => ?_)
 unfold z96_30 at h
 refine wq (wg (ws J 1 Q (wn (wq (wg (ws J 1 Q (wn (wq (wq (wg (xw [2, 3] ⟨[(0, .B 0 0), (2, .c (.cl 97 [] [])), (6, .c .nil), (7, .c .nil), (8, .B 0 0), (9, .I most_)], [(0, .box (cC12 1 r_) 160)], [(1, .sl (rI .u8) r_.b')], 2⟩ J 2 ?_)))))))))))
 obtain ⟨x1, d, h⟩ := ob h
 refine wc (z133_ct N r_ 0 most_ _ d) [(0, .bp 0 0), (1, .sl 1)] [] Q Q Q Q Q Q Q Q (.inl rfl) rfl (wx ⟨[(0, .B 0 0), (2, .c (.cl 97 [] [])), (6, .c .nil), (7, .c .nil), (10, .I x1.1), (11, .I 0)], [(0, .box (cC12 2 x1.2) 160)], [(1, .sl (rI .u8) r_.b'), (2, .sl (rI .u8) x1.2.b')], 3⟩ J 1 (wn ?_))
 refine wC (σ := (List Int) × Int × Bool × (List T0)) (fun st => ⟨[(7, .S 4)], [(0, .box [.sl 3, .I st.2.1, .b st.2.2.1] 160), (4, .own rR0 st.2.2.2 true)], [(1, .sl (rI .u8) r_.b'), (3, .sl (rI .u8) st.1)], 5⟩) (fun st => z96_30_k1 st.1 st.2.1 st.2.2.1 st.2.2.2 = some r) ?_ (fun j1 => ?_)
 ·rintro ⟨vbk0_0_0_1, vbk0_0_1_1, vbk0_0_2_1, e⟩ h
  replace h : z96_30_k1 vbk0_0_0_1 vbk0_0_1_1 vbk0_0_2_1 e = some r := h
  unfold z96_30_k1 at h
  refine wq (wg (ws J 2 Q (wn ?_)))
  cases h
  exact we J Tryz.func96 [(2, .sl 4), (3, .sl 3)] Q Q Q Q
 refine wo ?_
 refine wI (σ := (List Int) × Int × Bool × (List T0) × Int) (fun st => ⟨[(0, .B 0 0), (2, .c (.cl 97 [] [])), (7, .S 4), (10, .I x1.1), (11, .I st.2.2.2.2)], [(0, .box [.sl 3, .I st.2.1, .b st.2.2.1] 160), (4, .own rR0 st.2.2.2.1 true)], [(1, .sl (rI .u8) r_.b'), (3, .sl (rI .u8) st.1)], 5⟩) (fun n st => z96_30_l2 N x1 n st.1 st.2.1 st.2.2.1 st.2.2.2.1 st.2.2.2.2) (r := r) (fun _ => rfl) ?_ (fun ih => ?_)
 ·intro n2 ih3
  rintro ⟨vbk0_0_0_3, vbk0_0_1_3, vbk0_0_2_3, f, g⟩ h
  replace h : z96_30_l2 N x1 (n2 + 1) vbk0_0_0_3 vbk0_0_1_3 vbk0_0_2_3 f g = some r := h
  unfold z96_30_l2 at h
  refine wq (wg (ws J 1 Q (wn (wq ?_))))
  rcases oc' h with ⟨hc, h⟩ | ⟨hc, h⟩
  ·exact wf hc Q (wz rfl (wu [] (j1 (vbk0_0_0_3, vbk0_0_1_3, vbk0_0_2_3, f) h) Q Q Q Q))
  refine wt hc Q (wi (wq (wo (wg (xw [3, 4, 5, 6] ⟨[(0, .B 0 0), (2, .c (.cl 97 [] [])), (10, .I x1.1), (11, .I g), (13, .S 4), (14, .c (.cl 97 [] [])), (15, .B 0 0)], [(0, .box [.sl 3, .I vbk0_0_1_3, .b vbk0_0_2_3] 160), (4, .own rR0 f true)], [(1, .sl (rI .u8) r_.b'), (3, .sl (rI .u8) vbk0_0_0_3)], 5⟩ J 3 ?_)))))
  obtain ⟨i, j, h⟩ := ob h
  refine WPr.callc (z97_ct N (⟨vbk0_0_0_3, vbk0_0_1_3, vbk0_0_2_3⟩ : T12) _ j) [(0, .bp 0 0), (1, .sl 3)] [] Q Q Q Q Q Q Q Q Q (.inl rfl) rfl (xw [4, 5, 6] ⟨[(0, .B 0 0), (2, .c (.cl 97 [] [])), (10, .I x1.1), (11, .I g), (13, .S 4), (16, .a (cC0 5 6 7 i.1))], [(0, .box (cC12 8 i.2) 160), (4, .own rR0 f true)], ((1, .sl (rI .u8) r_.b') :: vV0 5 6 7 i.1 [(8, .sl (rI .u8) i.2.b')]), 9⟩ J 0 (WPr.bs (cs := (cC0 5 6 7 i.1)) oO0 J ([i.1] : List T0) Q Q Q Q Q Q (by kernel_rfl) (by exact (an (an rfl (an rfl (an rfl (an Q Q)))) rfl)) rfl ?_))
  obtain ⟨k, l, h⟩ := ob h
  exact WPr.app J l (by exact (srcO rfl)) Q Q Q Q Q Q Q Q Q Q (wx ⟨[(0, .B 0 0), (2, .c (.cl 97 [] [])), (7, .S 10), (10, .I x1.1), (11, .I g)], [(0, .box (cC12 8 i.2) 160), (10, .own rR0 k true)], [(1, .sl (rI .u8) r_.b'), (8, .sl (rI .u8) i.2.b')], 11⟩ J 1 (wn (wb (wg (ws J 2 Q (wn (wu [(3, .sl 8), (4, .sl 10)] (ih3 (i.2.b', i.2.at', i.2.failed', k, (w64 (g + 1))) h) Q Q Q Q)))))))
 exact wu [(3, .sl 2), (4, .nil)] (ih N (x1.2.b', x1.2.at', x1.2.failed', ([] : List T0), 0) h) Q Q Q Q
theorem z167_ct (N : Nat) (r_ : T12) (r : Bool × T12) (h : z167 N r_ = some r) :
 Fn Tryz.prog 167 ⟨2, [.B 0 0], [(1, .sl (rI .u8) r_.b')], [(0, .box (cC12 1 r_) 160)], 3, .O r.1, [(2, .sl (rI .u8) r.2.b')], [(0, .box (cC12 2 r.2) 160)]⟩ := by
 refine Fn.intro _ _ Tryz.func167 rfl (by kernel_rfl) rfl (fun E F w => ?_)
 unfold z167 at h
 refine wq (wg (ws J 1 Q (wn (wq (wg (ws J 1 Q ?_))))))
 obtain ⟨x1, c, h⟩ := ob h
 refine wc (z165_ct N r_ 1 _ c) [(0, .bp 0 0), (1, .sl 1)] [] Q Q Q Q Q Q Q Q (.inl rfl) rfl (wx ⟨[(0, .B 0 0), (2, .O false), (3, .S 2)], [(0, .box (cC12 3 x1.2) 160)], [(1, .sl (rI .u8) r_.b'), (2, .sl (rI .u8) x1.1), (3, .sl (rI .u8) x1.2.b')], 4⟩ J 1 (wn (wq (wg (xw (rg 6 8) ⟨[(0, .B 0 0), (2, .O false), (3, .S 2), (6, .B 0 0), (11, .O x1.2.failed')], [(0, .box (cC12 3 x1.2) 160)], [(1, .sl (rI .u8) r_.b'), (2, .sl (rI .u8) x1.1), (3, .sl (rI .u8) x1.2.b')], 4⟩ J 6 ?_)))))
 rcases oc h with ⟨hc, h⟩ | ⟨hc, h⟩
 ·refine wy 11 hc Q (wx ⟨[(0, .B 0 0), (2, .O false), (3, .S 2)], [(0, .box [.sl 3, .I x1.2.at', .b true] 160)], [(1, .sl (rI .u8) r_.b'), (2, .sl (rI .u8) x1.1), (3, .sl (rI .u8) x1.2.b')], 4⟩ J 8 (wn (wq (wg (wx ⟨[(2, .O false)], [(0, .box [.sl 3, .I x1.2.at', .b true] 160)], [(1, .sl (rI .u8) r_.b'), (3, .sl (rI .u8) x1.2.b')], 4⟩ J 12 (wn ?_))))))
  cases h
  exact we J Tryz.func167 [(2, .sl 3)] Q Q Q Q
 refine wy 11 hc Q (ws J 1 Q ?_)
 obtain ⟨x2, d, h⟩ := ob h
 refine wj (oI .u8) J d Q Q Q Q Q Q Q Q Q (wx ⟨[(0, .B 0 0), (2, .O false), (3, .S 2)], [(0, .box [.sl 3, .I x1.2.at', .b (decide (x2 > 1))] 160)], [(1, .sl (rI .u8) r_.b'), (2, .sl (rI .u8) x1.1), (3, .sl (rI .u8) x1.2.b')], 5⟩ J 6 (wn (wq (wg (xw (rg 6 6) ⟨[(3, .S 2), (24, .O (!(decide (x2 > 1))))], [(0, .box [.sl 3, .I x1.2.at', .b (decide (x2 > 1))] 160)], [(1, .sl (rI .u8) r_.b'), (2, .sl (rI .u8) x1.1), (3, .sl (rI .u8) x1.2.b')], 5⟩ J 6 ?_)))))
 rcases oc' h with ⟨hc, h⟩ | ⟨hc, h⟩
 ·refine wy 24 hc Q (wx ⟨[(2, .O false)], [(0, .box [.sl 3, .I x1.2.at', .b (decide (x2 > 1))] 160)], [(1, .sl (rI .u8) r_.b'), (3, .sl (rI .u8) x1.2.b')], 5⟩ J 6 (wn ?_))
  cases h
  exact we J Tryz.func167 [(2, .sl 3)] Q Q Q Q
 refine wy 24 hc Q (ws J 1 Q ?_)
 obtain ⟨x3, e, h⟩ := ob h
 refine wj (oI .u8) J e Q Q Q Q Q Q Q Q Q (wx ⟨[(2, .O (x3 == 1))], [(0, .box [.sl 3, .I x1.2.at', .b (decide (x2 > 1))] 160)], [(1, .sl (rI .u8) r_.b'), (3, .sl (rI .u8) x1.2.b')], 6⟩ J 4 (wn ?_))
 cases h
 exact we J Tryz.func167 [(2, .sl 3)] Q Q Q Q
theorem z166_31_ct (N : Nat) (c0_ : T12) (r : Bool × T12) (h : z166_31 N c0_ = some r) :
 Fn Tryz.prog 166 ⟨2, [.B 0 0, .c (.cl 167 [0] [])], [(1, .sl (rI .u8) c0_.b')], [(0, .box (cC12 1 c0_) 160)], 3, .O r.1, [(2, .sl (rI .u8) r.2.b')], [(0, .box (cC12 2 r.2) 160)]⟩ := by
 refine Fn.intro _ _ Tryz.func166 rfl (by kernel_rfl) rfl (fun E F w => ?_)
 unfold z166_31 at h
 refine wq (wg (ws J 1 Q (wn (wq (wg (ws J 1 Q (wn (wq (wq (wg (xw (rg 1 7) ⟨[(0, .B 0 0), (1, .c (.cl 167 [0] [])), (4, .O false), (5, .O false), (8, .B 0 0)], [(0, .box (cC12 1 c0_) 160)], [(1, .sl (rI .u8) c0_.b')], 2⟩ J 1 (WPr.pnil (el := 160) false Q Q Q Q (by kernel_rfl) Q Q Q (wx ⟨[(0, .B 0 0), (1, .c (.cl 167 [0] [])), (4, .O false), (5, .O false), (15, .O c0_.failed')], [(0, .box (cC12 1 c0_) 160)], [(1, .sl (rI .u8) c0_.b')], 2⟩ J 6 (wn ?_))))))))))))))
 rcases oc h with ⟨hc, h⟩ | ⟨hc, h⟩
 ·refine wt hc Q (wq (wg (ws J 2 Q (wn ?_))))
  cases h
  exact we J Tryz.func166 [(2, .sl 1)] Q Q Q Q
 refine wf hc Q (wi (wq (wg (wx ⟨[(0, .B 0 0), (1, .c (.cl 167 [0] [])), (4, .O false), (5, .O false), (6, .I c0_.at')], [(0, .box (cC12 1 c0_) 160)], [(1, .sl (rI .u8) c0_.b')], 2⟩ J 5 (wn (wq (wg (ws J 1 Q ?_))))))))
 obtain ⟨x1, d, h⟩ := ob h
 refine WPr.callc (z167_ct N c0_ _ d) [(0, .bp 0 0), (1, .sl 1)] [] Q Q Q Q Q Q Q Q Q (.inl rfl) rfl (wx ⟨[(0, .B 0 0), (4, .O false), (5, .O false), (6, .I c0_.at'), (7, .O x1.1)], [(0, .box (cC12 2 x1.2) 160)], [(1, .sl (rI .u8) c0_.b'), (2, .sl (rI .u8) x1.2.b')], 3⟩ J 1 (wn (wq (wq (wg (wx ⟨[(0, .B 0 0), (4, .O false), (5, .O false), (6, .I c0_.at'), (7, .O x1.1), (26, .O x1.2.failed')], [(0, .box (cC12 2 x1.2) 160)], [(1, .sl (rI .u8) c0_.b'), (2, .sl (rI .u8) x1.2.b')], 3⟩ J 4 (wn ?_)))))))
 rcases oc h with ⟨hc, h⟩ | ⟨hc, h⟩
 ·refine wt hc Q (wq (wg (wx ⟨[(4, .O false), (5, .O false)], [(0, .box [.sl 2, .I c0_.at', .b x1.2.failed'] 160)], [(1, .sl (rI .u8) c0_.b'), (2, .sl (rI .u8) x1.2.b')], 3⟩ J 5 (wn (wq (wg (ws J 2 Q (wn ?_))))))))
  cases h
  exact we J Tryz.func166 [(2, .sl 2)] Q Q Q Q
 refine wf hc Q (wi (wq (wg (ws J 2 Q (wn ?_)))))
 cases h
 exact we J Tryz.func166 [(2, .sl 2)] Q Q Q Q
theorem z142_ct (N : Nat) (r_ : T12) (r : Bool × T12) (h : z142 N r_ = some r) :
 Fn Tryz.prog 142 ⟨2, [.B 0 0], [(1, .sl (rI .u8) r_.b')], [(0, .box (cC12 1 r_) 160)], 3, .O r.1, [(2, .sl (rI .u8) r.2.b')], [(0, .box (cC12 2 r.2) 160)]⟩ := by
 refine Fn.intro _ _ Tryz.func142 rfl (by kernel_rfl) rfl (fun E F w => ?_)
 unfold z142 at h
 refine wq (wg (ws J 1 Q (wn (wq (wg (xw [3, 4] ⟨[(3, .B 0 0), (5, .c (.cl 167 [0] []))], [(0, .box (cC12 1 r_) 160)], [(1, .sl (rI .u8) r_.b')], 2⟩ J 3 ?_))))))
 obtain ⟨x1, d, h⟩ := ob h
 refine wc (z166_31_ct N r_ _ d) [(0, .bp 0 0), (1, .sl 1)] [] Q Q Q Q Q Q Q Q (.inl rfl) rfl (wx ⟨[(2, .O x1.1)], [(0, .box (cC12 2 x1.2) 160)], [(1, .sl (rI .u8) r_.b'), (2, .sl (rI .u8) x1.2.b')], 3⟩ J 1 (wn ?_))
 cases h
 exact we J Tryz.func142 [(2, .sl 2)] Q Q Q Q
theorem z100_ct (N : Nat) (r_ : T12) (r : T2 × T12) (h : z100 N r_ = some r) :
 Fn Tryz.prog 100 ⟨2, [.B 0 0], [(1, .sl (rI .u8) r_.b')], [(0, .box (cC12 1 r_) 160)], 3, .a (cC2 r.1), [(2, .sl (rI .u8) r.2.b')], [(0, .box (cC12 2 r.2) 160)]⟩ := by
 refine Fn.intro _ _ Tryz.func100 rfl (by kernel_rfl) rfl (fun E F w => ?_)
 unfold z100 at h
 refine wq (wg (ws J 1 Q (wn (wq (wg (ws J 1 Q ?_))))))
 obtain ⟨x1, c, h⟩ := ob h
 refine wc (z98_ct N r_ _ c) [(0, .bp 0 0), (1, .sl 1)] [] Q Q Q Q Q Q Q Q (.inl rfl) rfl (wx ⟨[(0, .B 0 0), (2, .B 2 0), (3, .B 4 0)], [(0, .box (cC12 3 x1.2) 160), (2, .box [.I 0, .I 0, .I 0, .I 0, .I 0, .b false] 43), (4, .box [.I x1.1, .I 0, .I 0, .I 0, .I 0, .b false] 43)], [(1, .sl (rI .u8) r_.b'), (3, .sl (rI .u8) x1.2.b')], 5⟩ J 3 (wn (wq (wg (ws J 1 Q ?_)))))
 obtain ⟨x2, d, h⟩ := ob h
 refine wc (z98_ct N x1.2 _ d) [(0, .bp 0 0), (1, .sl 3)] [] Q Q Q Q Q Q Q Q (.inl rfl) rfl (wx ⟨[(0, .B 0 0), (2, .B 2 0), (3, .B 4 0)], [(0, .box (cC12 5 x2.2) 160), (2, .box [.I 0, .I 0, .I 0, .I 0, .I 0, .b false] 43), (4, .box [.I x1.1, .I x2.1, .I 0, .I 0, .I 0, .b false] 43)], [(1, .sl (rI .u8) r_.b'), (5, .sl (rI .u8) x2.2.b')], 6⟩ J 3 (wn (wq (wg (ws J 1 Q ?_)))))
 obtain ⟨x3, e, h⟩ := ob h
 refine wc (z98_ct N x2.2 _ e) [(0, .bp 0 0), (1, .sl 5)] [] Q Q Q Q Q Q Q Q (.inl rfl) rfl (wx ⟨[(0, .B 0 0), (2, .B 2 0), (3, .B 4 0)], [(0, .box (cC12 6 x3.2) 160), (2, .box [.I 0, .I 0, .I 0, .I 0, .I 0, .b false] 43), (4, .box [.I x1.1, .I x2.1, .I x3.1, .I 0, .I 0, .b false] 43)], [(1, .sl (rI .u8) r_.b'), (6, .sl (rI .u8) x3.2.b')], 7⟩ J 3 (wn (wq (wg (ws J 1 Q ?_)))))
 obtain ⟨x4, f, h⟩ := ob h
 refine wc (z98_ct N x3.2 _ f) [(0, .bp 0 0), (1, .sl 6)] [] Q Q Q Q Q Q Q Q (.inl rfl) rfl (wx ⟨[(0, .B 0 0), (2, .B 2 0), (3, .B 4 0)], [(0, .box (cC12 7 x4.2) 160), (2, .box [.I 0, .I 0, .I 0, .I 0, .I 0, .b false] 43), (4, .box [.I x1.1, .I x2.1, .I x3.1, .I x4.1, .I 0, .b false] 43)], [(1, .sl (rI .u8) r_.b'), (7, .sl (rI .u8) x4.2.b')], 8⟩ J 3 (wn (wq (wg (ws J 1 Q ?_)))))
 obtain ⟨x5, g, h⟩ := ob h
 refine wc (z98_ct N x4.2 _ g) [(0, .bp 0 0), (1, .sl 7)] [] Q Q Q Q Q Q Q Q (.inl rfl) rfl (wx ⟨[(0, .B 0 0), (2, .B 2 0), (3, .B 4 0)], [(0, .box (cC12 8 x5.2) 160), (2, .box [.I 0, .I 0, .I 0, .I 0, .I 0, .b false] 43), (4, .box [.I x1.1, .I x2.1, .I x3.1, .I x4.1, .I x5.1, .b false] 43)], [(1, .sl (rI .u8) r_.b'), (8, .sl (rI .u8) x5.2.b')], 9⟩ J 2 (wn (wq (wg (ws J 1 Q ?_)))))
 obtain ⟨x6, i, h⟩ := ob h
 refine wc (z142_ct N x5.2 _ i) [(0, .bp 0 0), (1, .sl 8)] [] Q Q Q Q Q Q Q Q (.inl rfl) rfl (wx ⟨[(2, .B 2 0), (3, .B 4 0)], [(0, .box (cC12 9 x6.2) 160), (2, .box [.I 0, .I 0, .I 0, .I 0, .I 0, .b false] 43), (4, .box [.I x1.1, .I x2.1, .I x3.1, .I x4.1, .I x5.1, .b x6.1] 43)], [(1, .sl (rI .u8) r_.b'), (9, .sl (rI .u8) x6.2.b')], 10⟩ J 2 (wn (wq (wg (ws J 2 Q (wn ?_))))))
 cases h
 exact we J Tryz.func100 [(2, .sl 9)] Q Q Q Q
theorem z99_32_ct (N : Nat) (r_ : T12) (most_ : Int) (r : (List T2) × T12) (h : z99_32 N r_ most_ = some r) :
 Fn Tryz.prog 99 ⟨2, [.B 0 0, .I most_, .c (.cl 100 [] [])], [(1, .sl (rI .u8) r_.b')], [(0, .box (cC12 1 r_) 160)], 4, .S 2, [(3, .sl (rI .u8) r.2.b')], [(2, .own rR2 r.1 true), (0, .box (cC12 3 r.2) 160)]⟩ := by
 refine Fn.intro _ _ Tryz.func99 rfl (by kernel_rfl) rfl (fun E F w => ?_)
 unfold z99_32 at h
 refine wq (wg (ws J 1 Q (wn (wq (wg (ws J 1 Q (wn (wq (wq (wg (xw [2, 3] ⟨[(0, .B 0 0), (2, .c (.cl 100 [] [])), (6, .c .nil), (7, .c .nil), (8, .B 0 0), (9, .I most_)], [(0, .box (cC12 1 r_) 160)], [(1, .sl (rI .u8) r_.b')], 2⟩ J 2 ?_)))))))))))
 obtain ⟨x1, d, h⟩ := ob h
 refine wc (z133_ct N r_ 0 most_ _ d) [(0, .bp 0 0), (1, .sl 1)] [] Q Q Q Q Q Q Q Q (.inl rfl) rfl (wx ⟨[(0, .B 0 0), (2, .c (.cl 100 [] [])), (6, .c .nil), (7, .c .nil), (10, .I x1.1), (11, .I 0)], [(0, .box (cC12 2 x1.2) 160)], [(1, .sl (rI .u8) r_.b'), (2, .sl (rI .u8) x1.2.b')], 3⟩ J 1 (wn ?_))
 refine wC (σ := (List Int) × Int × Bool × (List T2)) (fun st => ⟨[(7, .S 4)], [(0, .box [.sl 3, .I st.2.1, .b st.2.2.1] 160), (4, .own rR2 st.2.2.2 true)], [(1, .sl (rI .u8) r_.b'), (3, .sl (rI .u8) st.1)], 5⟩) (fun st => z99_32_k1 st.1 st.2.1 st.2.2.1 st.2.2.2 = some r) ?_ (fun j1 => ?_)
 ·rintro ⟨vbk0_0_0_1, vbk0_0_1_1, vbk0_0_2_1, e⟩ h
  replace h : z99_32_k1 vbk0_0_0_1 vbk0_0_1_1 vbk0_0_2_1 e = some r := h
  unfold z99_32_k1 at h
  refine wq (wg (ws J 2 Q (wn ?_)))
  cases h
  exact we J Tryz.func99 [(2, .sl 4), (3, .sl 3)] Q Q Q Q
 refine wo ?_
 refine wI (σ := (List Int) × Int × Bool × (List T2) × Int) (fun st => ⟨[(0, .B 0 0), (2, .c (.cl 100 [] [])), (7, .S 4), (10, .I x1.1), (11, .I st.2.2.2.2)], [(0, .box [.sl 3, .I st.2.1, .b st.2.2.1] 160), (4, .own rR2 st.2.2.2.1 true)], [(1, .sl (rI .u8) r_.b'), (3, .sl (rI .u8) st.1)], 5⟩) (fun n st => z99_32_l2 N x1 n st.1 st.2.1 st.2.2.1 st.2.2.2.1 st.2.2.2.2) (r := r) (fun _ => rfl) ?_ (fun ih => ?_)
 ·intro n2 ih3
  rintro ⟨vbk0_0_0_3, vbk0_0_1_3, vbk0_0_2_3, f, g⟩ h
  replace h : z99_32_l2 N x1 (n2 + 1) vbk0_0_0_3 vbk0_0_1_3 vbk0_0_2_3 f g = some r := h
  unfold z99_32_l2 at h
  refine wq (wg (ws J 1 Q (wn (wq ?_))))
  rcases oc' h with ⟨hc, h⟩ | ⟨hc, h⟩
  ·exact wf hc Q (wz rfl (wu [] (j1 (vbk0_0_0_3, vbk0_0_1_3, vbk0_0_2_3, f) h) Q Q Q Q))
  refine wt hc Q (wi (wq (wo (wg (xw [3, 4, 5, 6] ⟨[(0, .B 0 0), (2, .c (.cl 100 [] [])), (10, .I x1.1), (11, .I g), (13, .S 4), (14, .c (.cl 100 [] [])), (15, .B 0 0)], [(0, .box [.sl 3, .I vbk0_0_1_3, .b vbk0_0_2_3] 160), (4, .own rR2 f true)], [(1, .sl (rI .u8) r_.b'), (3, .sl (rI .u8) vbk0_0_0_3)], 5⟩ J 3 ?_)))))
  obtain ⟨i, j, h⟩ := ob h
  refine WPr.callc (z100_ct N (⟨vbk0_0_0_3, vbk0_0_1_3, vbk0_0_2_3⟩ : T12) _ j) [(0, .bp 0 0), (1, .sl 3)] [] Q Q Q Q Q Q Q Q Q (.inl rfl) rfl (xw [4, 5, 6] ⟨[(0, .B 0 0), (2, .c (.cl 100 [] [])), (10, .I x1.1), (11, .I g), (13, .S 4), (16, .a (cC2 i.1))], [(0, .box (cC12 5 i.2) 160), (4, .own rR2 f true)], [(1, .sl (rI .u8) r_.b'), (5, .sl (rI .u8) i.2.b')], 6⟩ J 0 (WPr.bs (cs := (cC2 i.1)) oO2 J ([i.1] : List T2) Q Q Q Q Q Q (by kernel_rfl) (by exact (an (an rfl (an (an rfl (an Q Q)) (an Q Q))) rfl)) rfl ?_))
  obtain ⟨k, l, h⟩ := ob h
  exact WPr.app J l (by exact (srcO rfl)) Q Q Q Q Q Q Q Q Q Q (wx ⟨[(0, .B 0 0), (2, .c (.cl 100 [] [])), (7, .S 7), (10, .I x1.1), (11, .I g)], [(0, .box (cC12 5 i.2) 160), (7, .own rR2 k true)], [(1, .sl (rI .u8) r_.b'), (5, .sl (rI .u8) i.2.b')], 8⟩ J 1 (wn (wb (wg (ws J 2 Q (wn (wu [(3, .sl 5), (4, .sl 7)] (ih3 (i.2.b', i.2.at', i.2.failed', k, (w64 (g + 1))) h) Q Q Q Q)))))))
 exact wu [(3, .sl 2), (4, .nil)] (ih N (x1.2.b', x1.2.at', x1.2.failed', ([] : List T2), 0) h) Q Q Q Q
theorem z102_ct (N : Nat) (r_ : T12) (r : T8 × T12) (h : z102 N r_ = some r) :
 Fn Tryz.prog 102 ⟨2, [.B 0 0], [(1, .sl (rI .u8) r_.b')], [(0, .box (cC12 1 r_) 160)], 3, .a (cC8 r.1), [(2, .sl (rI .u8) r.2.b')], [(0, .box (cC12 2 r.2) 160)]⟩ := by
 refine Fn.intro _ _ Tryz.func102 rfl (by kernel_rfl) rfl (fun E F w => ?_)
 unfold z102 at h
 refine wq (wg (ws J 1 Q (wn (wq (wg (ws J 1 Q ?_))))))
 obtain ⟨x1, c, h⟩ := ob h
 refine wc (z98_ct N r_ _ c) [(0, .bp 0 0), (1, .sl 1)] [] Q Q Q Q Q Q Q Q (.inl rfl) rfl (wx ⟨[(0, .B 0 0), (2, .B 2 0), (3, .B 4 0)], [(0, .box (cC12 3 x1.2) 160), (2, .box [.I 0, .I 0, .I 0] 79), (4, .box [.I x1.1, .I 0, .I 0] 79)], [(1, .sl (rI .u8) r_.b'), (3, .sl (rI .u8) x1.2.b')], 5⟩ J 3 (wn (wq (wg (ws J 1 Q ?_)))))
 obtain ⟨x2, d, h⟩ := ob h
 refine wc (z98_ct N x1.2 _ d) [(0, .bp 0 0), (1, .sl 3)] [] Q Q Q Q Q Q Q Q (.inl rfl) rfl (wx ⟨[(0, .B 0 0), (2, .B 2 0), (3, .B 4 0)], [(0, .box (cC12 5 x2.2) 160), (2, .box [.I 0, .I 0, .I 0] 79), (4, .box [.I x1.1, .I x2.1, .I 0] 79)], [(1, .sl (rI .u8) r_.b'), (5, .sl (rI .u8) x2.2.b')], 6⟩ J 2 (wn (wq (wg (ws J 1 Q ?_)))))
 obtain ⟨x3, e, h⟩ := ob h
 refine wc (z98_ct N x2.2 _ e) [(0, .bp 0 0), (1, .sl 5)] [] Q Q Q Q Q Q Q Q (.inl rfl) rfl (wx ⟨[(2, .B 2 0), (3, .B 4 0)], [(0, .box (cC12 6 x3.2) 160), (2, .box [.I 0, .I 0, .I 0] 79), (4, .box [.I x1.1, .I x2.1, .I x3.1] 79)], [(1, .sl (rI .u8) r_.b'), (6, .sl (rI .u8) x3.2.b')], 7⟩ J 2 (wn (wq (wg (ws J 2 Q (wn ?_))))))
 cases h
 exact we J Tryz.func102 [(2, .sl 6)] Q Q Q Q
theorem z101_33_ct (N : Nat) (r_ : T12) (most_ : Int) (r : (List T8) × T12) (h : z101_33 N r_ most_ = some r) :
 Fn Tryz.prog 101 ⟨2, [.B 0 0, .I most_, .c (.cl 102 [] [])], [(1, .sl (rI .u8) r_.b')], [(0, .box (cC12 1 r_) 160)], 4, .S 2, [(3, .sl (rI .u8) r.2.b')], [(2, .own rR8 r.1 true), (0, .box (cC12 3 r.2) 160)]⟩ := by
 refine Fn.intro _ _ Tryz.func101 rfl (by kernel_rfl) rfl (fun E F w => ?_)
 unfold z101_33 at h
 refine wq (wg (ws J 1 Q (wn (wq (wg (ws J 1 Q (wn (wq (wq (wg (xw [2, 3] ⟨[(0, .B 0 0), (2, .c (.cl 102 [] [])), (6, .c .nil), (7, .c .nil), (8, .B 0 0), (9, .I most_)], [(0, .box (cC12 1 r_) 160)], [(1, .sl (rI .u8) r_.b')], 2⟩ J 2 ?_)))))))))))
 obtain ⟨x1, d, h⟩ := ob h
 refine wc (z133_ct N r_ 0 most_ _ d) [(0, .bp 0 0), (1, .sl 1)] [] Q Q Q Q Q Q Q Q (.inl rfl) rfl (wx ⟨[(0, .B 0 0), (2, .c (.cl 102 [] [])), (6, .c .nil), (7, .c .nil), (10, .I x1.1), (11, .I 0)], [(0, .box (cC12 2 x1.2) 160)], [(1, .sl (rI .u8) r_.b'), (2, .sl (rI .u8) x1.2.b')], 3⟩ J 1 (wn ?_))
 refine wC (σ := (List Int) × Int × Bool × (List T8)) (fun st => ⟨[(7, .S 4)], [(0, .box [.sl 3, .I st.2.1, .b st.2.2.1] 160), (4, .own rR8 st.2.2.2 true)], [(1, .sl (rI .u8) r_.b'), (3, .sl (rI .u8) st.1)], 5⟩) (fun st => z101_33_k1 st.1 st.2.1 st.2.2.1 st.2.2.2 = some r) ?_ (fun j1 => ?_)
 ·rintro ⟨vbk0_0_0_1, vbk0_0_1_1, vbk0_0_2_1, e⟩ h
  replace h : z101_33_k1 vbk0_0_0_1 vbk0_0_1_1 vbk0_0_2_1 e = some r := h
  unfold z101_33_k1 at h
  refine wq (wg (ws J 2 Q (wn ?_)))
  cases h
  exact we J Tryz.func101 [(2, .sl 4), (3, .sl 3)] Q Q Q Q
 refine wo ?_
 refine wI (σ := (List Int) × Int × Bool × (List T8) × Int) (fun st => ⟨[(0, .B 0 0), (2, .c (.cl 102 [] [])), (7, .S 4), (10, .I x1.1), (11, .I st.2.2.2.2)], [(0, .box [.sl 3, .I st.2.1, .b st.2.2.1] 160), (4, .own rR8 st.2.2.2.1 true)], [(1, .sl (rI .u8) r_.b'), (3, .sl (rI .u8) st.1)], 5⟩) (fun n st => z101_33_l2 N x1 n st.1 st.2.1 st.2.2.1 st.2.2.2.1 st.2.2.2.2) (r := r) (fun _ => rfl) ?_ (fun ih => ?_)
 ·intro n2 ih3
  rintro ⟨vbk0_0_0_3, vbk0_0_1_3, vbk0_0_2_3, f, g⟩ h
  replace h : z101_33_l2 N x1 (n2 + 1) vbk0_0_0_3 vbk0_0_1_3 vbk0_0_2_3 f g = some r := h
  unfold z101_33_l2 at h
  refine wq (wg (ws J 1 Q (wn (wq ?_))))
  rcases oc' h with ⟨hc, h⟩ | ⟨hc, h⟩
  ·exact wf hc Q (wz rfl (wu [] (j1 (vbk0_0_0_3, vbk0_0_1_3, vbk0_0_2_3, f) h) Q Q Q Q))
  refine wt hc Q (wi (wq (wo (wg (xw [3, 4, 5, 6] ⟨[(0, .B 0 0), (2, .c (.cl 102 [] [])), (10, .I x1.1), (11, .I g), (13, .S 4), (14, .c (.cl 102 [] [])), (15, .B 0 0)], [(0, .box [.sl 3, .I vbk0_0_1_3, .b vbk0_0_2_3] 160), (4, .own rR8 f true)], [(1, .sl (rI .u8) r_.b'), (3, .sl (rI .u8) vbk0_0_0_3)], 5⟩ J 3 ?_)))))
  obtain ⟨i, j, h⟩ := ob h
  refine WPr.callc (z102_ct N (⟨vbk0_0_0_3, vbk0_0_1_3, vbk0_0_2_3⟩ : T12) _ j) [(0, .bp 0 0), (1, .sl 3)] [] Q Q Q Q Q Q Q Q Q (.inl rfl) rfl (xw [4, 5, 6] ⟨[(0, .B 0 0), (2, .c (.cl 102 [] [])), (10, .I x1.1), (11, .I g), (13, .S 4), (16, .a (cC8 i.1))], [(0, .box (cC12 5 i.2) 160), (4, .own rR8 f true)], [(1, .sl (rI .u8) r_.b'), (5, .sl (rI .u8) i.2.b')], 6⟩ J 0 (WPr.bs (cs := (cC8 i.1)) oO8 J ([i.1] : List T8) Q Q Q Q Q Q (by kernel_rfl) (by exact (an (an rfl (an Q Q)) rfl)) rfl ?_))
  obtain ⟨k, l, h⟩ := ob h
  exact WPr.app J l (by exact (srcO rfl)) Q Q Q Q Q Q Q Q Q Q (wx ⟨[(0, .B 0 0), (2, .c (.cl 102 [] [])), (7, .S 7), (10, .I x1.1), (11, .I g)], [(0, .box (cC12 5 i.2) 160), (7, .own rR8 k true)], [(1, .sl (rI .u8) r_.b'), (5, .sl (rI .u8) i.2.b')], 8⟩ J 1 (wn (wb (wg (ws J 2 Q (wn (wu [(3, .sl 5), (4, .sl 7)] (ih3 (i.2.b', i.2.at', i.2.failed', k, (w64 (g + 1))) h) Q Q Q Q)))))))
 exact wu [(3, .sl 2), (4, .nil)] (ih N (x1.2.b', x1.2.at', x1.2.failed', ([] : List T8), 0) h) Q Q Q Q
theorem z143_ct (N : Nat) (r_ : T12) (r : Int) (h : z143 N r_ = some r) :
 Fn Tryz.prog 143 ⟨2, [.B 0 0], [(1, .sl (rI .u8) r_.b')], [(0, .box (cC12 1 r_) 160)], 2, .I r, [], [(0, .box (cC12 1 r_) 160)]⟩ := by
 refine Fn.intro _ _ Tryz.func143 rfl (by kernel_rfl) rfl (fun E F w => ?_)
 unfold z143 at h
 refine wq (wg (ws J 1 Q (wn (wq (wq (wg (ws J 1 Q (WPr.pnil (el := 160) false Q Q Q Q (by kernel_rfl) Q Q Q (wx ⟨[(0, .B 0 0), (2, .I 0), (4, .O false)], [(0, .box (cC12 1 r_) 160)], [(1, .sl (rI .u8) r_.b')], 2⟩ J 0 (wn (wf Q Q (wi (wq (wQ (by kernel_rfl) (by kernel_rfl) (qx ⟨[(2, .I (w64 ((r_.b'.length : Int) - r_.at')))], [(0, .box (cC12 1 r_) 160)], [(1, .sl (rI .u8) r_.b')], 2⟩ J 11 (qn ?_))))))))))))))))
 cases h
 exact we J Tryz.func143 [] Q Q Q Q
theorem z103_ct (N : Nat) (r_ : T12) (r : Int) (h : z103 N r_ = some r) :
 Fn Tryz.prog 103 ⟨2, [.B 0 0], [(1, .sl (rI .u8) r_.b')], [(0, .box (cC12 1 r_) 160)], 2, .I r, [], [(0, .box (cC12 1 r_) 160)]⟩ := by
 refine Fn.intro _ _ Tryz.func103 rfl (by kernel_rfl) rfl (fun E F w => ?_)
 unfold z103 at h
 refine wq (wg (ws J 1 Q (wn (wq (wo (wq (wg (ws J 1 Q (WPr.pnil (el := 160) false Q Q Q Q (by kernel_rfl) Q Q Q (wx ⟨[(0, .B 0 0), (2, .I 0), (3, .O false)], [(0, .box (cC12 1 r_) 160)], [(1, .sl (rI .u8) r_.b')], 2⟩ J 1 (wn (wf Q Q (wq (wg (xw [5, 6, 7, 8, 9] ⟨[(0, .B 0 0), (2, .I 0), (11, .O r_.failed')], [(0, .box (cC12 1 r_) 160)], [(1, .sl (rI .u8) r_.b')], 2⟩ J 5 ?_)))))))))))))))
 rcases oc h with ⟨hc, h⟩ | ⟨hc, h⟩
 ·refine wy 11 hc Q (wx ⟨[(2, .I 0), (6, .O true)], [(0, .box (cC12 1 r_) 160)], [(1, .sl (rI .u8) r_.b')], 2⟩ J 5 (wn (wt Q Q (wq (wg (ws J 1 Q (wn ?_)))))))
  cases h
  exact we J Tryz.func103 [] Q Q Q Q
 refine wy 11 hc Q (ws J 1 Q ?_)
 obtain ⟨x1, c, h⟩ := ob h
 refine wc (z143_ct N r_ _ c) [(0, .bp 0 0), (1, .sl 1)] [] Q Q Q Q Q Q Q Q (.inl rfl) rfl (wx ⟨[(2, .I 0), (6, .O (decide (x1 > 0)))], [(0, .box (cC12 1 r_) 160)], [(1, .sl (rI .u8) r_.b')], 2⟩ J 3 (wn ?_))
 rcases oc h with ⟨hc, h⟩ | ⟨hc, h⟩
 ·refine wt hc Q (wq (wg (ws J 1 Q (wn ?_))))
  cases h
  exact we J Tryz.func103 [] Q Q Q Q
 refine wf hc Q (wi (wb (wq (wg (ws J 1 Q (wn ?_))))))
 cases h
 exact we J Tryz.func103 [] Q Q Q Q
theorem z41_ct (N : Nat) (b_ : (List Int)) (r : T4 × Int) (h : z41 N b_ = some r) :
 Fn Tryz.prog 41 ⟨1, [.S 0], [(0, .sl (rI .u8) b_)], [], 5, .t [.inr (cC4 1 2 3 4 r.1), .inl (.I r.2)], (vV4 1 2 3 4 r.1 []), []⟩ := by
 refine Fn.intro _ _ Tryz.func41 rfl (by kernel_rfl) rfl (fun E F w => ?_)
 unfold z41 at h
 refine wq (wg (ws J 2 Q (wn (wq (wg (xw [1, 2] ⟨[(2, .B 1 0), (3, .I 0), (6, .S 0)], [(1, .box [.s (str []), .nil, .nil, .I 0, .I 0, .I 0, .nil, .nil] 27)], [(0, .sl (rI .u8) b_)], 2⟩ J 1 ?_))))))
 obtain ⟨x1, c, h⟩ := ob h
 refine wc (z92_ct N b_ _ c) [(0, .sl 0)] [] Q Q Q Q Q Q Q Q (.inl rfl) rfl (wx ⟨[(2, .B 1 0), (3, .I 0), (4, .B 2 0)], [(1, .box [.s (str []), .nil, .nil, .I 0, .I 0, .I 0, .nil, .nil] 27), (2, .box (cC12 3 x1) 160)], [(0, .sl (rI .u8) b_), (3, .sl (rI .u8) x1.b')], 4⟩ J 1 (wn (wq (wg (ws J 1 Q ?_)))))
 obtain ⟨x2, d, h⟩ := ob h
 refine wc (z93_ct N x1 16 _ d) [(0, .bp 2 0), (1, .sl 3)] [] Q Q Q Q Q Q Q Q (.inl rfl) rfl (wx ⟨[(2, .B 1 0), (3, .I 0), (4, .B 2 0), (5, .B 5 0)], [(1, .box [.s (str []), .nil, .nil, .I 0, .I 0, .I 0, .nil, .nil] 27), (2, .box (cC12 4 x2.2) 160), (5, .box [.s x2.1, .nil, .nil, .I 0, .I 0, .I 0, .nil, .nil] 27)], [(0, .sl (rI .u8) b_), (4, .sl (rI .u8) x2.2.b')], 6⟩ J 3 (wn (wq (wg (ws J 1 Q ?_)))))
 obtain ⟨x3, e, h⟩ := ob h
 refine wc (z94_25_ct N x2.2 6 _ e) [(0, .bp 2 0), (1, .sl 4)] [] Q Q Q Q Q Q Q Q (.inl rfl) rfl (wx ⟨[(2, .B 1 0), (3, .I 0), (4, .B 2 0), (5, .B 5 0)], [(1, .box [.s (str []), .nil, .nil, .I 0, .I 0, .I 0, .nil, .nil] 27), (2, .box (cC12 7 x3.2) 160), (5, .box [.s x2.1, .sl 6, .nil, .I 0, .I 0, .I 0, .nil, .nil] 27), (6, .own rS x3.1 true)], [(0, .sl (rI .u8) b_), (7, .sl (rI .u8) x3.2.b')], 8⟩ J 2 (wn (wq (wg (ws J 1 Q ?_)))))
 obtain ⟨x4, f, h⟩ := ob h
 refine wc (z96_30_ct N x3.2 40 _ f) [(0, .bp 2 0), (1, .sl 7)] [] Q Q Q Q Q Q Q Q (.inl rfl) rfl (wx ⟨[(2, .B 1 0), (3, .I 0), (4, .B 2 0), (5, .B 5 0)], [(1, .box [.s (str []), .nil, .nil, .I 0, .I 0, .I 0, .nil, .nil] 27), (2, .box (cC12 9 x4.2) 160), (5, .box [.s x2.1, .sl 6, .sl 8, .I 0, .I 0, .I 0, .nil, .nil] 27), (6, .own rS x3.1 true), (8, .own rR0 x4.1 true)], [(0, .sl (rI .u8) b_), (9, .sl (rI .u8) x4.2.b')], 10⟩ J 2 (wn (wq (wg (ws J 1 Q ?_)))))
 obtain ⟨x5, g, h⟩ := ob h
 refine wc (z98_ct N x4.2 _ g) [(0, .bp 2 0), (1, .sl 9)] [] Q Q Q Q Q Q Q Q (.inl rfl) rfl (wx ⟨[(2, .B 1 0), (3, .I 0), (4, .B 2 0), (5, .B 5 0)], [(1, .box [.s (str []), .nil, .nil, .I 0, .I 0, .I 0, .nil, .nil] 27), (2, .box (cC12 10 x5.2) 160), (5, .box [.s x2.1, .sl 6, .sl 8, .I x5.1, .I 0, .I 0, .nil, .nil] 27), (6, .own rS x3.1 true), (8, .own rR0 x4.1 true)], [(0, .sl (rI .u8) b_), (10, .sl (rI .u8) x5.2.b')], 11⟩ J 2 (wn (wq (wg (ws J 1 Q ?_)))))
 obtain ⟨x6, i, h⟩ := ob h
 refine wc (z98_ct N x5.2 _ i) [(0, .bp 2 0), (1, .sl 10)] [] Q Q Q Q Q Q Q Q (.inl rfl) rfl (wx ⟨[(2, .B 1 0), (3, .I 0), (4, .B 2 0), (5, .B 5 0)], [(1, .box [.s (str []), .nil, .nil, .I 0, .I 0, .I 0, .nil, .nil] 27), (2, .box (cC12 11 x6.2) 160), (5, .box [.s x2.1, .sl 6, .sl 8, .I x5.1, .I x6.1, .I 0, .nil, .nil] 27), (6, .own rS x3.1 true), (8, .own rR0 x4.1 true)], [(0, .sl (rI .u8) b_), (11, .sl (rI .u8) x6.2.b')], 12⟩ J 2 (wn (wq (wg (ws J 1 Q ?_)))))
 obtain ⟨x7, j, h⟩ := ob h
 refine wc (z98_ct N x6.2 _ j) [(0, .bp 2 0), (1, .sl 11)] [] Q Q Q Q Q Q Q Q (.inl rfl) rfl (wx ⟨[(2, .B 1 0), (3, .I 0), (4, .B 2 0), (5, .B 5 0)], [(1, .box [.s (str []), .nil, .nil, .I 0, .I 0, .I 0, .nil, .nil] 27), (2, .box (cC12 12 x7.2) 160), (5, .box [.s x2.1, .sl 6, .sl 8, .I x5.1, .I x6.1, .I x7.1, .nil, .nil] 27), (6, .own rS x3.1 true), (8, .own rR0 x4.1 true)], [(0, .sl (rI .u8) b_), (12, .sl (rI .u8) x7.2.b')], 13⟩ J 2 (wn (wq (wg (ws J 1 Q ?_)))))
 obtain ⟨x8, k, h⟩ := ob h
 refine wc (z99_32_ct N x7.2 400 _ k) [(0, .bp 2 0), (1, .sl 12)] [] Q Q Q Q Q Q Q Q (.inl rfl) rfl (wx ⟨[(2, .B 1 0), (3, .I 0), (4, .B 2 0), (5, .B 5 0)], [(1, .box [.s (str []), .nil, .nil, .I 0, .I 0, .I 0, .nil, .nil] 27), (2, .box (cC12 14 x8.2) 160), (5, .box [.s x2.1, .sl 6, .sl 8, .I x5.1, .I x6.1, .I x7.1, .sl 13, .nil] 27), (6, .own rS x3.1 true), (8, .own rR0 x4.1 true), (13, .own rR2 x8.1 true)], [(0, .sl (rI .u8) b_), (14, .sl (rI .u8) x8.2.b')], 15⟩ J 2 (wn (wq (wg (ws J 1 Q ?_)))))
 obtain ⟨x9, l, h⟩ := ob h
 refine wc (z101_33_ct N x8.2 200 _ l) [(0, .bp 2 0), (1, .sl 14)] [] Q Q Q Q Q Q Q Q (.inl rfl) rfl (wx ⟨[(2, .B 1 0), (3, .I 0), (4, .B 2 0), (5, .B 5 0)], [(1, .box [.s (str []), .nil, .nil, .I 0, .I 0, .I 0, .nil, .nil] 27), (2, .box (cC12 16 x9.2) 160), (5, .box [.s x2.1, .sl 6, .sl 8, .I x5.1, .I x6.1, .I x7.1, .sl 13, .sl 15] 27), (6, .own rS x3.1 true), (8, .own rR0 x4.1 true), (13, .own rR2 x8.1 true), (15, .own rR8 x9.1 true)], [(0, .sl (rI .u8) b_), (16, .sl (rI .u8) x9.2.b')], 17⟩ J 2 (wn (wq (wq (wg (ws J 1 Q ?_))))))
 obtain ⟨m, o, h⟩ := ob h
 refine wc (z103_ct N x9.2 _ o) [(0, .bp 2 0), (1, .sl 16)] [] Q Q Q Q Q Q Q Q (.inl rfl) rfl (xw [4, 5, 6, 7] ⟨[(2, .B 1 0), (3, .I 0), (5, .B 5 0), (35, .O (m != 0))], [(1, .box [.s (str []), .nil, .nil, .I 0, .I 0, .I 0, .nil, .nil] 27), (5, .box [.s x2.1, .sl 6, .sl 8, .I x5.1, .I x6.1, .I x7.1, .sl 13, .sl 15] 27), (6, .own rS x3.1 true), (8, .own rR0 x4.1 true), (13, .own rR2 x8.1 true), (15, .own rR8 x9.1 true)], [(0, .sl (rI .u8) b_)], 17⟩ J 2 ?_)
 rcases oc h with ⟨hc, h⟩ | ⟨hc, h⟩
 ·refine wy 35 hc Q (wx ⟨[(2, .B 1 0), (3, .I 0), (5, .B 5 0), (39, .O true)], [(1, .box [.s (str []), .nil, .nil, .I 0, .I 0, .I 0, .nil, .nil] 27), (5, .box [.s x2.1, .sl 6, .sl 8, .I x5.1, .I x6.1, .I x7.1, .sl 13, .sl 15] 27), (6, .own rS x3.1 true), (8, .own rR0 x4.1 true), (13, .own rR2 x8.1 true), (15, .own rR8 x9.1 true)], [(0, .sl (rI .u8) b_)], 17⟩ J 4 (wn (wt Q Q (wq (wg (wx ⟨[(2, .B 1 0), (3, .I 4)], [(1, .box [.s (str []), .nil, .nil, .I 0, .I 0, .I 0, .nil, .nil] 27)], [(0, .sl (rI .u8) b_)], 17⟩ J 3 (wn ?_)))))))
  cases h
  exact we J Tryz.func41 [(1, .nil), (2, .nil), (3, .nil), (4, .nil)] Q Q Q Q
 refine wy 35 hc Q (ws J 1 Q ?_)
 obtain ⟨p, q, h⟩ := ob h
 refine wc (z22_ct N (⟨x2.1, x3.1, x4.1, x5.1, x6.1, x7.1, x8.1, x9.1⟩ : T4) _ q) [(0, .sl 6), (1, .sl 8), (2, .sl 13), (3, .sl 15)] [6, 8, 13, 15] Q Q Q Q Q Q Q Q (.inr ⟨rfl, trivial⟩) rfl (wx ⟨[(2, .B 1 0), (3, .I 0), (5, .B 5 0), (39, .O (!p))], [(1, .box [.s (str []), .nil, .nil, .I 0, .I 0, .I 0, .nil, .nil] 27), (5, .box [.s x2.1, .sl 6, .sl 8, .I x5.1, .I x6.1, .I x7.1, .sl 13, .sl 15] 27), (6, .own rS x3.1 true), (8, .own rR0 x4.1 true), (13, .own rR2 x8.1 true), (15, .own rR8 x9.1 true)], [(0, .sl (rI .u8) b_)], 17⟩ J 2 (wn ?_))
 rcases oc h with ⟨hc, h⟩ | ⟨hc, h⟩
 ·refine wt hc Q (wq (wg (wx ⟨[(2, .B 1 0), (3, .I 4)], [(1, .box [.s (str []), .nil, .nil, .I 0, .I 0, .I 0, .nil, .nil] 27)], [(0, .sl (rI .u8) b_)], 17⟩ J 3 (wn ?_))))
  cases h
  exact we J Tryz.func41 [(1, .nil), (2, .nil), (3, .nil), (4, .nil)] Q Q Q Q
 refine wf hc Q (wi (wq (wg (wx ⟨[(2, .B 1 0), (3, .I 0)], [(1, .box [.s x2.1, .sl 6, .sl 8, .I x5.1, .I x6.1, .I x7.1, .sl 13, .sl 15] 27), (6, .own rS x3.1 true), (8, .own rR0 x4.1 true), (13, .own rR2 x8.1 true), (15, .own rR8 x9.1 true)], [(0, .sl (rI .u8) b_)], 17⟩ J 3 (wn (WP.frz 6 rfl (WP.frz 8 rfl (WP.frz 13 rfl (WP.frz 15 rfl ?_)))))))))
 cases h
 exact we J Tryz.func41 [(1, .sl 6), (2, .sl 8), (3, .sl 13), (4, .sl 15)] Q Q Q Q
theorem law18_GlobalDamage_ct (N : Nat) (g_ : T4) (x_ : T9) (r : Bool) (h : law18_GlobalDamage N g_ x_ = some r) :
 Fn Tryz.prog 11 ⟨4, [.a (cC4 0 1 2 3 g_), .a (cC9 x_)], (vV4 0 1 2 3 g_ []), [], 4, .O r, [], []⟩ := by
 refine Fn.intro _ _ Tryz.func11 rfl (by kernel_rfl) rfl (fun E F w => ?_)
 unfold law18_GlobalDamage at h
 refine wq (wg (wx ⟨[(2, .B 4 0), (3, .B 5 0), (4, .O false)], [(4, .box (cC4 0 1 2 3 g_) 27), (5, .box (cC9 x_) 68)], (vV4 0 1 2 3 g_ []), 6⟩ J 3 (wn (wq (wq (wg ?_))))))
 obtain ⟨x1, d, h⟩ := ob h
 refine wc (z12_ct N _ d) [] [] Q Q Q Q Q Q Q Q (.inl rfl) rfl (xw [3, 4, 5, 6] ⟨[(2, .B 4 0), (3, .B 5 0), (4, .O false), (12, .O (!x1))], [(4, .box (cC4 0 1 2 3 g_) 27), (5, .box (cC9 x_) 68)], (vV4 0 1 2 3 g_ []), 6⟩ J 2 ?_)
 rcases oc h with ⟨hc, h⟩ | ⟨hc, h⟩
 ·refine wy 12 hc Q (wx ⟨[(2, .B 4 0), (3, .B 5 0), (4, .O false), (16, .O true)], [(4, .box (cC4 0 1 2 3 g_) 27), (5, .box (cC9 x_) 68)], (vV4 0 1 2 3 g_ []), 6⟩ J 4 (wn (wt Q Q (wq (wg ?_)))))
  obtain ⟨x2, e, h⟩ := ob h
  refine wc (z12_ct N _ e) [] [] Q Q Q Q Q Q Q Q (.inl rfl) rfl (wx ⟨[(4, .O x2)], [], (vV4 0 1 2 3 g_ []), 6⟩ J 1 (wn ?_))
  cases h
  exact we J Tryz.func11 [] Q Q Q Q
 refine wy 12 hc Q (ws J 1 Q ?_)
 obtain ⟨x3, f, h⟩ := ob h
 refine wc (z13_ct N g_ _ f) [(0, .sl 0), (1, .sl 1), (2, .sl 2), (3, .sl 3)] [] Q Q Q Q Q Q Q Q (.inl rfl) rfl (wx ⟨[(2, .B 4 0), (3, .B 5 0), (4, .O false), (16, .O (!x3))], [(4, .box (cC4 0 1 2 3 g_) 27), (5, .box (cC9 x_) 68)], (vV4 0 1 2 3 g_ []), 6⟩ J 2 (wn ?_))
 rcases oc h with ⟨hc, h⟩ | ⟨hc, h⟩
 ·refine wt hc Q (wq (wg ?_))
  obtain ⟨x4, g, h⟩ := ob h
  refine wc (z12_ct N _ g) [] [] Q Q Q Q Q Q Q Q (.inl rfl) rfl (wx ⟨[(4, .O x4)], [], (vV4 0 1 2 3 g_ []), 6⟩ J 1 (wn ?_))
  cases h
  exact we J Tryz.func11 [] Q Q Q Q
 refine wf hc Q (wi (wq (wg (ws J 1 Q ?_))))
 obtain ⟨x5, j, h⟩ := ob h
 refine wc (z37_ct N g_ _ j) [(0, .sl 0), (1, .sl 1), (2, .sl 2), (3, .sl 3)] [] Q Q Q Q Q Q Q Q (.inl rfl) rfl (wx ⟨[(2, .B 4 0), (3, .B 5 0), (4, .O false), (5, .S 6)], [(4, .box (cC4 0 1 2 3 g_) 27), (5, .box (cC9 x_) 68), (6, .own (rI .u8) x5 true)], (vV4 0 1 2 3 g_ []), 7⟩ J 1 (wn (wq (wq (wg (wx ⟨[(2, .B 4 0), (3, .B 5 0), (4, .O false), (5, .S 6), (22, .O ((x5.length : Int) == 0))], [(4, .box (cC4 0 1 2 3 g_) 27), (5, .box (cC9 x_) 68), (6, .own (rI .u8) x5 true)], (vV4 0 1 2 3 g_ []), 7⟩ J 3 (wn ?_)))))))
 rcases oc h with ⟨hc, h⟩ | ⟨hc, h⟩
 ·refine wt hc Q (wq (wg (ws J 1 Q (wn ?_))))
  cases h
  exact we J Tryz.func11 [] Q Q Q Q
 refine wf hc Q (wi (wq (wg (xw [5, 6] ⟨[(2, .B 4 0), (3, .B 5 0), (4, .O false), (5, .S 6), (25, .I (w64 (x_.At))), (27, .I (x5.length : Int))], [(4, .box (cC4 0 1 2 3 g_) 27), (5, .box (cC9 x_) 68), (6, .own (rI .u8) x5 true)], (vV4 0 1 2 3 g_ []), 7⟩ J 5 ?_))))
 obtain ⟨x6, l, h⟩ := ob h
 refine WPr.bin l Q Q Q Q Q Q Q Q (ws J 1 Q (wn (wq (wN (fun A1 m o => ?_)))))
 have p : A1 0 ⟨[(5, .S 6)], [], [], [], 7, [(29, .S 6)], [], [], 7⟩ := m _ _ (wl J Q Q Q Q Q Q)
 have q : A1 1 ⟨[(6, .I x6)], [], [], [], 7, [(30, .I x6)], [], [], 7⟩ := m _ _ (wl J Q Q Q Q Q Q)
 obtain ⟨s, u, h⟩ := ob h
 have v : A1 2 ⟨[(29, .S 6), (30, .I x6)], [], [], [(6, .own (rI .u8) x5 true)], 7, [(31, .P 7 0)], [(7, .el 6 ((x6).toNat * ((rI .u8)).sz))], [], 8⟩ := m _ _ (wO Q Q Q (fun _ _ _ _ _ _ _ k => wX J u Q Q Q Q Q Q Q Q Q (k)) rfl)
 have x : A1 3 ⟨[(31, .P 7 0)], [(7, .el 6 ((x6).toNat * ((rI .u8)).sz))], [], [(6, .own (rI .u8) x5 true)], 8, [(32, .c (.i .u8 s))], [], [], 8⟩ := m _ _ (wO Q Q Q (fun _ _ _ _ _ _ _ k => wL (oI .u8) J u Q Q Q Q Q Q Q Q Q Q (k)) rfl)
 have y : A1 4 ⟨[(3, .B 5 0)], [], [], [], 8, [(33, .B 5 1)], [], [], 8⟩ := m _ _ (wl J Q Q Q Q Q Q)
 have z : A1 5 ⟨[(33, .B 5 1)], [], [], [(5, .box (cC9 x_) 68)], 8, [(34, .c (.i .u8 x_.To))], [], [], 8⟩ := m _ _ (wl J Q Q Q Q Q Q)
 have A : A1 6 ⟨[(32, .c (.i .u8 s)), (34, .c (.i .u8 x_.To))], [], [], [], 8, [(35, .O (s == x_.To))], [], [], 8⟩ := m _ _ (wl J Q Q Q Q Q Q)
 have C : A1 7 ⟨[(35, .O (s == x_.To))], [], [], [], 8, [(7, .O (s == x_.To))], [], [], 8⟩ := m _ _ (wl J Q Q Q Q Q Q)
 refine wD (t := ⟨[(2, .B 4 0), (3, .B 5 0), (4, .O false), (5, .S 6), (6, .I x6), (7, .O (s == x_.To))], [(4, .box (cC4 0 1 2 3 g_) 27), (5, .box (cC9 x_) 68), (6, .own (rI .u8) x5 true)], (vV4 0 1 2 3 g_ []), 8⟩) [0, 0, 3, 7, 0, 16, 63, 127] (.cons (o _ _ p) (.cons (o _ _ q) (.cons (o _ _ v) (.cons (o _ _ x) (.cons (o _ _ y) (.cons (o _ _ z) (.cons (o _ _ A) (.cons (o _ _ C) .nil)))))))) (by kernel_rfl) (by kernel_rfl) (by kernel_rfl) (by kernel_rfl) (wq (wg (xw [4, 5] ⟨[(2, .B 4 0), (4, .O false), (5, .S 6), (7, .O (s == x_.To)), (36, .S 6), (37, .I x6), (39, .c (.i .u8 x_.To))], [(4, .box (cC4 0 1 2 3 g_) 27), (6, .own (rI .u8) x5 true)], (vV4 0 1 2 3 g_ []), 8⟩ J 4 ?_)))
 obtain ⟨D, G, h⟩ := ob h
 refine wX J G Q Q Q Q Q Q Q Q Q (WPr.sto (oI .u8) J x_.To G Q Q Q Q Q Q Q Q Q Q (by exact rfl) rfl (wn (wq (wg (xw (rg 1 7) ⟨[(2, .B 4 0), (4, .O false), (7, .O (s == x_.To)), (42, .S 6)], [(4, .box (cC4 0 1 2 3 g_) 27), (6, .own (rI .u8) (setL' x5 x6 x_.To) true)], (vV4 0 1 2 3 g_ []), 9⟩ J 1 (WPr.frz 6 rfl ?_))))))
 obtain ⟨H, K, h⟩ := ob h
 refine wc (z41_ct N (setL' x5 x6 x_.To) _ K) [(0, .sl 6)] [] Q Q Q Q Q Q Q Q (.inl rfl) rfl (wx ⟨[(2, .B 4 0), (4, .O false), (7, .O (s == x_.To)), (8, .B 13 0), (9, .I H.2)], [(4, .box (cC4 0 1 2 3 g_) 27), (13, .box (cC4 9 10 11 12 H.1) 27)], (vV4 0 1 2 3 g_ (vV4 9 10 11 12 H.1 [])), 14⟩ J 6 (wn (wq (wg (ws J 2 Q ?_)))))
 rcases oc' h with ⟨hc, h⟩ | ⟨hc, h⟩
 ·refine wy 47 hc Q (xw (rg 14 11) ⟨[(2, .B 4 0), (8, .B 13 0), (9, .I H.2), (56, .O false), (59, .O (!(s == x_.To)))], [(4, .box (cC4 0 1 2 3 g_) 27), (13, .box (cC4 9 10 11 12 H.1) 27)], (vV4 0 1 2 3 g_ (vV4 9 10 11 12 H.1 [])), 14⟩ J 12 ?_)
  rcases oc' h with ⟨hc, h⟩ | ⟨hc, h⟩
  ·refine wy 59 hc Q (wx ⟨[(4, .O false)], [], (vV4 0 1 2 3 g_ []), 14⟩ J 11 (wn ?_))
   cases h
   exact we J Tryz.func11 [] Q Q Q Q
  refine wy 59 hc Q (xw (rg 17 8) ⟨[(2, .B 4 0), (8, .B 13 0), (56, .O false), (59, .O true), (62, .O (H.2 != 0))], [(4, .box (cC4 0 1 2 3 g_) 27), (13, .box (cC4 9 10 11 12 H.1) 27)], (vV4 0 1 2 3 g_ (vV4 9 10 11 12 H.1 [])), 14⟩ J 3 ?_)
  rcases oc h with ⟨hc, h⟩ | ⟨hc, h⟩
  ·refine wy 62 hc Q (wx ⟨[(4, .O true)], [], (vV4 0 1 2 3 g_ []), 14⟩ J 8 (wn ?_))
   cases h
   exact we J Tryz.func11 [] Q Q Q Q
  refine wy 62 hc Q (ws J 2 Q ?_)
  obtain ⟨R, T, h⟩ := ob h
  refine wc (z23_ct N g_ H.1 _ T) [(0, .sl 0), (1, .sl 1), (2, .sl 2), (3, .sl 3), (4, .sl 9), (5, .sl 10), (6, .sl 11), (7, .sl 12)] [] Q Q Q Q Q Q Q Q (.inl rfl) rfl (wx ⟨[(4, .O (!R))], [], (vV4 0 1 2 3 g_ []), 14⟩ J 5 (wn ?_))
  cases h
  exact we J Tryz.func11 [] Q Q Q Q
 refine wy 47 hc Q (xw (rg 6 19) ⟨[(2, .B 4 0), (7, .O (s == x_.To)), (8, .B 13 0), (9, .I H.2), (51, .O (H.2 == 0))], [(4, .box (cC4 0 1 2 3 g_) 27), (13, .box (cC4 9 10 11 12 H.1) 27)], (vV4 0 1 2 3 g_ (vV4 9 10 11 12 H.1 [])), 14⟩ J 4 ?_)
 rcases oc' h with ⟨hc, h⟩ | ⟨hc, h⟩
 ·refine wy 51 hc Q (xw (rg 14 11) ⟨[(2, .B 4 0), (8, .B 13 0), (9, .I H.2), (56, .O false), (59, .O (!(s == x_.To)))], [(4, .box (cC4 0 1 2 3 g_) 27), (13, .box (cC4 9 10 11 12 H.1) 27)], (vV4 0 1 2 3 g_ (vV4 9 10 11 12 H.1 [])), 14⟩ J 8 ?_)
  rcases oc' h with ⟨hc, h⟩ | ⟨hc, h⟩
  ·refine wy 59 hc Q (wx ⟨[(4, .O false)], [], (vV4 0 1 2 3 g_ []), 14⟩ J 11 (wn ?_))
   cases h
   exact we J Tryz.func11 [] Q Q Q Q
  refine wy 59 hc Q (xw (rg 17 8) ⟨[(2, .B 4 0), (8, .B 13 0), (56, .O false), (59, .O true), (62, .O (H.2 != 0))], [(4, .box (cC4 0 1 2 3 g_) 27), (13, .box (cC4 9 10 11 12 H.1) 27)], (vV4 0 1 2 3 g_ (vV4 9 10 11 12 H.1 [])), 14⟩ J 3 ?_)
  rcases oc h with ⟨hc, h⟩ | ⟨hc, h⟩
  ·refine wy 62 hc Q (wx ⟨[(4, .O true)], [], (vV4 0 1 2 3 g_ []), 14⟩ J 8 (wn ?_))
   cases h
   exact we J Tryz.func11 [] Q Q Q Q
  refine wy 62 hc Q (ws J 2 Q ?_)
  obtain ⟨U, X, h⟩ := ob h
  refine wc (z23_ct N g_ H.1 _ X) [(0, .sl 0), (1, .sl 1), (2, .sl 2), (3, .sl 3), (4, .sl 9), (5, .sl 10), (6, .sl 11), (7, .sl 12)] [] Q Q Q Q Q Q Q Q (.inl rfl) rfl (wx ⟨[(4, .O (!U))], [], (vV4 0 1 2 3 g_ []), 14⟩ J 5 (wn ?_))
  cases h
  exact we J Tryz.func11 [] Q Q Q Q
 refine wy 51 hc Q (ws J 2 Q ?_)
 obtain ⟨Y, Z, h⟩ := ob h
 refine wc (z23_ct N g_ H.1 _ Z) [(0, .sl 0), (1, .sl 1), (2, .sl 2), (3, .sl 3), (4, .sl 9), (5, .sl 10), (6, .sl 11), (7, .sl 12)] [] Q Q Q Q Q Q Q Q (.inl rfl) rfl (xw (rg 11 14) ⟨[(2, .B 4 0), (7, .O (s == x_.To)), (8, .B 13 0), (9, .I H.2), (56, .O Y)], [(4, .box (cC4 0 1 2 3 g_) 27), (13, .box (cC4 9 10 11 12 H.1) 27)], (vV4 0 1 2 3 g_ (vV4 9 10 11 12 H.1 [])), 14⟩ J 2 ?_)
 rcases oc h with ⟨hc, h⟩ | ⟨hc, h⟩
 ·refine wy 56 hc Q (wx ⟨[(4, .O true)], [], (vV4 0 1 2 3 g_ []), 14⟩ J 14 (wn ?_))
  cases h
  exact we J Tryz.func11 [] Q Q Q Q
 refine wy 56 hc Q (xw (rg 14 11) ⟨[(2, .B 4 0), (8, .B 13 0), (9, .I H.2), (56, .O false), (59, .O (!(s == x_.To)))], [(4, .box (cC4 0 1 2 3 g_) 27), (13, .box (cC4 9 10 11 12 H.1) 27)], (vV4 0 1 2 3 g_ (vV4 9 10 11 12 H.1 [])), 14⟩ J 3 ?_)
 rcases oc' h with ⟨hc, h⟩ | ⟨hc, h⟩
 ·refine wy 59 hc Q (wx ⟨[(4, .O false)], [], (vV4 0 1 2 3 g_ []), 14⟩ J 11 (wn ?_))
  cases h
  exact we J Tryz.func11 [] Q Q Q Q
 refine wy 59 hc Q (xw (rg 17 8) ⟨[(2, .B 4 0), (8, .B 13 0), (56, .O false), (59, .O true), (62, .O (H.2 != 0))], [(4, .box (cC4 0 1 2 3 g_) 27), (13, .box (cC4 9 10 11 12 H.1) 27)], (vV4 0 1 2 3 g_ (vV4 9 10 11 12 H.1 [])), 14⟩ J 3 ?_)
 rcases oc h with ⟨hc, h⟩ | ⟨hc, h⟩
 ·refine wy 62 hc Q (wx ⟨[(4, .O true)], [], (vV4 0 1 2 3 g_ []), 14⟩ J 8 (wn ?_))
  cases h
  exact we J Tryz.func11 [] Q Q Q Q
 refine wy 62 hc Q (ws J 2 Q ?_)
 obtain ⟨a0, b0, h⟩ := ob h
 refine wc (z23_ct N g_ H.1 _ b0) [(0, .sl 0), (1, .sl 1), (2, .sl 2), (3, .sl 3), (4, .sl 9), (5, .sl 10), (6, .sl 11), (7, .sl 12)] [] Q Q Q Q Q Q Q Q (.inl rfl) rfl (wx ⟨[(4, .O (!a0))], [], (vV4 0 1 2 3 g_ []), 14⟩ J 5 (wn ?_))
 cases h
 exact we J Tryz.func11 [] Q Q Q Q
end Gx
end
