/- Each function of the statement computes what its plain definition says, part 3. -/
import Derived.Test.YtenajajnbmfijaaGreatDoorGlobalWordsWalk2
set_option linter.all false
section
set_option linter.unusedVariables false
set_option maxRecDepth 10000
set_option maxHeartbeats 4000000
open Go Go.Kx Go.Proofs
namespace Gx
theorem z84_ct (N : Nat) (b_ : (List Int)) (d_ : T0) (r : (List Int)) (h : z84 N b_ d_ = some r) :
 Fn Tryz.prog 84 ⟨4, [.S 0, .a (cC0 1 2 3 d_)], (vV0 1 2 3 d_ []), [(0, .own (rI .u8) b_ false)], 5, .S 4, [], [(4, .own (rI .u8) r false), (0, .gone)]⟩ := by
 refine Fn.intro _ _ Tryz.func84 rfl (by kernel_rfl) rfl (fun E F w => ?_)
 unfold z84 at h
 refine wq (wg (ws htt 2 rfl (wn (wq (wN (fun A1 d e => ?_))))))
 have f : A1 0 ⟨[(0, .S 0)], [], [], [], 5, [(11, .S 0)], [], [], 5⟩ := d _ _ (wl htt rfl rfl rfl rfl rfl rfl)
 have g : A1 1 ⟨[(3, .B 4 0)], [], [], [], 5, [(12, .B 4 0)], [], [], 5⟩ := d _ _ (wl htt rfl rfl rfl rfl rfl rfl)
 have i : A1 2 ⟨[(12, .B 4 0)], (vV0 1 2 3 d_ []), [], [(4, .box (cC0 1 2 3 d_) 94)], 5, [(13, .c (.s d_.Name))], [], [], 5⟩ := d _ _ (wl htt rfl rfl rfl rfl rfl rfl)
 obtain ⟨x4, j, h⟩ := ob h
 have l : A1 3 ⟨[(11, .S 0), (13, .c (.s d_.Name))], [], [(0, .own (rI .u8) b_ false)], [], 5, [(14, .S 5)], [], [(0, .gone), (5, .own (rI .u8) x4 false)], 6⟩ := d _ _ (wO rfl rfl rfl (fun _ _ _ _ _ _ _ k => wc (z83_ct N b_ d_.Name _ j) [(0, .sl 0)] [] rfl rfl rfl rfl rfl rfl rfl rfl (.inl rfl) rfl (k)) rfl)
 have m : A1 4 ⟨[(3, .B 4 0)], [], [], [], 6, [(15, .B 4 1)], [], [], 6⟩ := d _ _ (wl htt rfl rfl rfl rfl rfl rfl)
 have o : A1 5 ⟨[(15, .B 4 1)], (vV0 1 2 3 d_ []), [], [(4, .box (cC0 1 2 3 d_) 94)], 6, [(16, .S 1)], [], [], 6⟩ := d _ _ (wl htt rfl rfl rfl rfl rfl rfl)
 have p : A1 6 ⟨[(16, .S 1)], [(1, .sl rR3 d_.Fields)], [], [], 6, [(17, .I (d_.Fields.length : Int))], [], [], 6⟩ := d _ _ (wl htt rfl rfl rfl rfl rfl rfl)
 obtain ⟨x9, q, h⟩ := ob h
 have u : A1 7 ⟨[(14, .S 5), (17, .I (d_.Fields.length : Int))], [], [(5, .own (rI .u8) x4 false)], [], 6, [(18, .S 6)], [], [(5, .gone), (6, .own (rI .u8) x9 false)], 7⟩ := d _ _ (wO rfl rfl rfl (fun _ _ _ _ _ _ _ k => wc (z82_ct N x4 (d_.Fields.length : Int) _ q) [(0, .sl 5)] [] rfl rfl rfl rfl rfl rfl rfl rfl (.inl rfl) rfl (k)) rfl)
 have v : A1 8 ⟨[(18, .S 6)], [], [], [], 7, [(0, .S 6)], [], [], 7⟩ := d _ _ (wl htt rfl rfl rfl rfl rfl rfl)
 refine wD (t := ⟨[(0, .S 6), (3, .B 4 0), (4, .c .nil)], [(4, .box (cC0 1 2 3 d_) 94), (6, .own (rI .u8) x9 false)], (vV0 1 2 3 d_ []), 7⟩) [0, 0, 2, 7, 0, 16, 48, 127, 255] (.cons (e _ _ f) (.cons (e _ _ g) (.cons (e _ _ i) (.cons (e _ _ l) (.cons (e _ _ m) (.cons (e _ _ o) (.cons (e _ _ p) (.cons (e _ _ u) (.cons (e _ _ v) .nil))))))))) (by kernel_rfl) (by kernel_rfl) (by kernel_rfl) (by kernel_rfl) (wq (wq (wg (wx [] ⟨[(0, .S 6), (3, .B 4 0), (4, .c .nil), (20, .S 1), (21, .I (d_.Fields.length : Int)), (22, .I 0)], [(4, .box (cC0 1 2 3 d_) 94), (6, .own (rI .u8) x9 false)], (vV0 1 2 3 d_ []), 7⟩ htt 4 (by kernel_rfl) (wn (?_))))))
 refine wC (σ := (List Int)) (fun st => ⟨[(0, .S 7), (3, .B 4 0)], [(4, .box (cC0 1 2 3 d_) 94), (7, .own (rI .u8) st false)], (vV0 1 2 3 d_ []), 8⟩) (fun st => z84_k5 N d_ st = some r) ?_ (fun j1 => ?_)
 ·intro x h
  replace h : z84_k5 N d_ x = some r := h
  unfold z84_k5 at h
  refine wq (wg (wx [7, 8, 9] ⟨[(3, .B 4 0), (42, .S 7), (44, .I d_.First), (48, .I (d_.Guard.Diffs.length : Int))], [(4, .box (cC0 1 2 3 d_) 94), (7, .own (rI .u8) x false)], (vV0 1 2 3 d_ []), 8⟩ htt 7 (by kernel_rfl) (WPr.bs (cs := [.I d_.First, .I (d_.Guard.Diffs.length : Int)]) (oI .i64) htt ([d_.First, (d_.Guard.Diffs.length : Int)] : List Int) rfl rfl rfl rfl rfl rfl (by kernel_rfl) (by exact (an rfl (an rfl rfl))) rfl (?_))))
  obtain ⟨y, z, h⟩ := ob h
  refine wc (z85_ct N x ([d_.First, (d_.Guard.Diffs.length : Int)] : List Int) _ z) [(0, .sl 7), (1, .sl 8)] [8] rfl rfl rfl rfl rfl rfl rfl rfl (.inr ⟨rfl, ⟨(rI_flat _), trivial⟩⟩) rfl (wx [] ⟨[(0, .S 9), (3, .B 4 0)], [(4, .box (cC0 1 2 3 d_) 94), (9, .own (rI .u8) y false)], (vV0 1 2 3 d_ []), 10⟩ htt 1 (by kernel_rfl) (wn (wq (wq (wg (wx [] ⟨[(0, .S 9), (3, .B 4 0), (53, .S 2), (54, .I (d_.Guard.Diffs.length : Int)), (55, .I 0)], [(4, .box (cC0 1 2 3 d_) 94), (9, .own (rI .u8) y false)], (vV0 1 2 3 d_ []), 10⟩ htt 5 (by kernel_rfl) (wn (?_))))))))
  refine wC (σ := (List Int)) (fun st => ⟨[(0, .S 10), (3, .B 4 0)], [(4, .box (cC0 1 2 3 d_) 94), (10, .own (rI .u8) st false)], (vV0 1 2 3 d_ []), 11⟩) (fun st => z84_k3 N d_ st = some r) ?_ (fun j3 => ?_)
  ·intro A h
   replace h : z84_k3 N d_ A = some r := h
   unfold z84_k3 at h
   refine wq (wg (wx [5, 6] ⟨[(3, .B 4 0), (69, .S 10), (73, .I (d_.Guard.Equals.length : Int))], [(4, .box (cC0 1 2 3 d_) 94), (10, .own (rI .u8) A false)], (vV0 1 2 3 d_ []), 11⟩ htt 5 (by kernel_rfl) (?_)))
   obtain ⟨D, G, h⟩ := ob h
   refine wc (z82_ct N A (d_.Guard.Equals.length : Int) _ G) [(0, .sl 10)] [] rfl rfl rfl rfl rfl rfl rfl rfl (.inl rfl) rfl (wx [] ⟨[(0, .S 11), (3, .B 4 0)], [(4, .box (cC0 1 2 3 d_) 94), (11, .own (rI .u8) D false)], (vV0 1 2 3 d_ []), 12⟩ htt 1 (by kernel_rfl) (wn (wq (wq (wg (wx [] ⟨[(0, .S 11), (77, .S 3), (78, .I (d_.Guard.Equals.length : Int)), (79, .I 0)], [(11, .own (rI .u8) D false)], (vV0 1 2 3 d_ []), 12⟩ htt 5 (by kernel_rfl) (wn (?_))))))))
   refine wC (σ := (List Int)) (fun st => ⟨[(0, .S 12)], [(12, .own (rI .u8) st false)], (vV0 1 2 3 d_ []), 13⟩) (fun st => z84_k1 st = some r) ?_ (fun j5 => ?_)
   ·intro H h
    replace h : z84_k1 H = some r := h
    unfold z84_k1 at h
    refine wq (wg (ws htt 2 rfl (wn (?_))))
    cases h
    exact we htt Tryz.func84 [(4, .sl 12)] rfl rfl rfl rfl
   refine wo (?_)
   refine wI (σ := (List Int) × Int) (fun st => ⟨[(0, .S 12), (77, .S 3), (78, .I (d_.Guard.Equals.length : Int)), (79, .I st.2)], [(12, .own (rI .u8) st.1 false)], (vV0 1 2 3 d_ []), 13⟩) (fun n st => z84_l2 N d_ n st.1 st.2) (r := r) (fun _ => rfl) ?_ (fun ih => ?_)
   ·intro n4 ih7
    rintro ⟨J, K⟩ h
    replace h : z84_l2 N d_ (n4 + 1) J K = some r := h
    unfold z84_l2 at h
    refine wq (wg (ws htt 1 rfl (wn (wq (?_)))))
    rcases oc' h with ⟨hc, h⟩ | ⟨hc, h⟩
    ·exact wf hc rfl (wz rfl (wu [] (j5 J h) rfl rfl rfl rfl))
    refine wt hc rfl (wi (wq (wo (wq (wg (?_))))))
    obtain ⟨Q, R, h⟩ := ob h
    refine wj (oP (oI .i64) (oI .i64)) htt R rfl rfl rfl rfl rfl rfl rfl rfl rfl (wx [] ⟨[(0, .S 12), (10, .B 14 0), (77, .S 3), (78, .I (d_.Guard.Equals.length : Int)), (79, .I K)], [(12, .own (rI .u8) J false), (14, .box [.I Q.1, .I Q.2] 146)], (vV0 1 2 3 d_ []), 15⟩ htt 3 (by kernel_rfl) (wn (wg (ws htt 1 rfl (WPr.slb (len := 2) (el := 3) (oI .i64) ([Q.1, Q.2] : List Int) (by exact (an rfl (an rfl rfl))) rfl rfl rfl rfl (by kernel_rfl) (by kernel_rfl) rfl rfl rfl (?_))))))
    obtain ⟨T, U, h⟩ := ob h
    exact wc (z85_ct N J ([Q.1, Q.2] : List Int) _ U) [(0, .sl 12), (1, .sl 15)] [15] rfl rfl rfl rfl rfl rfl rfl rfl (.inr ⟨rfl, ⟨(rI_flat _), trivial⟩⟩) rfl (wx [] ⟨[(0, .S 16), (77, .S 3), (78, .I (d_.Guard.Equals.length : Int)), (79, .I K)], [(16, .own (rI .u8) T false)], (vV0 1 2 3 d_ []), 17⟩ htt 1 (by kernel_rfl) (wn (wb (wg (ws htt 2 rfl (wn (wu [(12, .sl 16)] (ih7 (T, (w64 (K + 1))) h) rfl rfl rfl rfl)))))))
   exact wu [(12, .sl 11)] (ih N (D, 0) h) rfl rfl rfl rfl
  refine wo (?_)
  refine wI (σ := (List Int) × Int) (fun st => ⟨[(0, .S 10), (3, .B 4 0), (53, .S 2), (54, .I (d_.Guard.Diffs.length : Int)), (55, .I st.2)], [(4, .box (cC0 1 2 3 d_) 94), (10, .own (rI .u8) st.1 false)], (vV0 1 2 3 d_ []), 11⟩) (fun n st => z84_l4 N d_ n st.1 st.2) (r := r) (fun _ => rfl) ?_ (fun ih => ?_)
  ·intro n5 ih8
   rintro ⟨Z, a0⟩ h
   replace h : z84_l4 N d_ (n5 + 1) Z a0 = some r := h
   unfold z84_l4 at h
   refine wq (wg (ws htt 1 rfl (wn (wq (?_)))))
   rcases oc' h with ⟨hc, h⟩ | ⟨hc, h⟩
   ·exact wf hc rfl (wz rfl (wu [] (j3 Z h) rfl rfl rfl rfl))
   refine wt hc rfl (wi (wq (wo (wq (wg (?_))))))
   obtain ⟨b0, c0, h⟩ := ob h
   refine wj oO1 htt c0 rfl rfl rfl rfl rfl rfl rfl rfl rfl (wx [] ⟨[(0, .S 10), (3, .B 4 0), (8, .B 12 0), (53, .S 2), (54, .I (d_.Guard.Diffs.length : Int)), (55, .I a0)], [(4, .box (cC0 1 2 3 d_) 94), (10, .own (rI .u8) Z false), (12, .box (cC1 b0) 144)], (vV0 1 2 3 d_ []), 13⟩ htt 3 (by kernel_rfl) (wn (wg (wx [7, 8, 9] ⟨[(3, .B 4 0), (53, .S 2), (54, .I (d_.Guard.Diffs.length : Int)), (55, .I a0), (59, .S 10), (61, .I b0.X), (63, .I b0.Y), (65, .I b0.C)], [(4, .box (cC0 1 2 3 d_) 94), (10, .own (rI .u8) Z false)], (vV0 1 2 3 d_ []), 13⟩ htt 7 (by kernel_rfl) (WPr.bs (cs := (cC1 b0)) (oI .i64) htt ([b0.X, b0.Y, b0.C] : List Int) rfl rfl rfl rfl rfl rfl (by kernel_rfl) (by exact (an rfl (an rfl (an rfl rfl)))) rfl (?_))))))
   obtain ⟨d0, e0, h⟩ := ob h
   exact wc (z85_ct N Z ([b0.X, b0.Y, b0.C] : List Int) _ e0) [(0, .sl 10), (1, .sl 13)] [13] rfl rfl rfl rfl rfl rfl rfl rfl (.inr ⟨rfl, ⟨(rI_flat _), trivial⟩⟩) rfl (wx [] ⟨[(0, .S 14), (3, .B 4 0), (53, .S 2), (54, .I (d_.Guard.Diffs.length : Int)), (55, .I a0)], [(4, .box (cC0 1 2 3 d_) 94), (14, .own (rI .u8) d0 false)], (vV0 1 2 3 d_ []), 15⟩ htt 1 (by kernel_rfl) (wn (wb (wg (ws htt 2 rfl (wn (wu [(10, .sl 14)] (ih8 (d0, (w64 (a0 + 1))) h) rfl rfl rfl rfl)))))))
  exact wu [(10, .sl 9)] (ih N (y, 0) h) rfl rfl rfl rfl
 refine wo (?_)
 refine wI (σ := (List Int) × Int) (fun st => ⟨[(0, .S 7), (3, .B 4 0), (20, .S 1), (21, .I (d_.Fields.length : Int)), (22, .I st.2)], [(4, .box (cC0 1 2 3 d_) 94), (7, .own (rI .u8) st.1 false)], (vV0 1 2 3 d_ []), 8⟩) (fun n st => z84_l6 N d_ n st.1 st.2) (r := r) (fun _ => rfl) ?_ (fun ih => ?_)
 ·intro n6 ih9
  rintro ⟨f0, g0⟩ h
  replace h : z84_l6 N d_ (n6 + 1) f0 g0 = some r := h
  unfold z84_l6 at h
  refine wq (wg (ws htt 1 rfl (wn (wq (?_)))))
  rcases oc' h with ⟨hc, h⟩ | ⟨hc, h⟩
  ·exact wf hc rfl (wz rfl (wu [] (j1 f0 h) rfl rfl rfl rfl))
  refine wt hc rfl (wi (wq (wo (wq (wg (?_))))))
  obtain ⟨i0, j0, h⟩ := ob h
  refine wj oO3 htt j0 rfl rfl rfl rfl rfl rfl rfl rfl rfl (wx [] ⟨[(0, .S 7), (3, .B 4 0), (6, .B 9 0), (20, .S 1), (21, .I (d_.Fields.length : Int)), (22, .I g0)], [(4, .box (cC0 1 2 3 d_) 94), (7, .own (rI .u8) f0 false), (9, .box (cC3 i0) 141)], (vV0 1 2 3 d_ []), 10⟩ htt 3 (by kernel_rfl) (wn (wN (fun k0 l0 m0 => ?_))))
  have o0 : k0 0 ⟨[(0, .S 7)], [], [], [], 10, [(26, .S 7)], [], [], 10⟩ := l0 _ _ (wl htt rfl rfl rfl rfl rfl rfl)
  have p0 : k0 1 ⟨[(6, .B 9 0)], [], [], [], 10, [(27, .B 9 0)], [], [], 10⟩ := l0 _ _ (wl htt rfl rfl rfl rfl rfl rfl)
  have q0 : k0 2 ⟨[(27, .B 9 0)], [], [], [(9, .box (cC3 i0) 141)], 10, [(28, .c (.s i0.Name))], [], [], 10⟩ := l0 _ _ (wl htt rfl rfl rfl rfl rfl rfl)
  obtain ⟨s0, t0, h⟩ := ob h
  have u0 : k0 3 ⟨[(26, .S 7), (28, .c (.s i0.Name))], [], [(7, .own (rI .u8) f0 false)], [], 10, [(29, .S 10)], [], [(7, .gone), (10, .own (rI .u8) s0 false)], 11⟩ := l0 _ _ (wO rfl rfl rfl (fun _ _ _ _ _ _ _ k => wc (z83_ct N f0 i0.Name _ t0) [(0, .sl 7)] [] rfl rfl rfl rfl rfl rfl rfl rfl (.inl rfl) rfl (k)) rfl)
  have v0 : k0 4 ⟨[(6, .B 9 0)], [], [], [], 11, [(30, .B 9 1)], [], [], 11⟩ := l0 _ _ (wl htt rfl rfl rfl rfl rfl rfl)
  have x0 : k0 5 ⟨[(30, .B 9 1)], [], [], [], 11, [(31, .B 9 1)], [], [], 11⟩ := l0 _ _ (wl htt rfl rfl rfl rfl rfl rfl)
  have y0 : k0 6 ⟨[(31, .B 9 1)], [], [], [(9, .box (cC3 i0) 141)], 11, [(32, .I i0.Sort'.Kind)], [], [], 11⟩ := l0 _ _ (wl htt rfl rfl rfl rfl rfl rfl)
  have z0 : k0 7 ⟨[(6, .B 9 0)], [], [], [], 11, [(33, .B 9 1)], [], [], 11⟩ := l0 _ _ (wl htt rfl rfl rfl rfl rfl rfl)
  have A0 : k0 8 ⟨[(33, .B 9 1)], [], [], [], 11, [(34, .B 9 2)], [], [], 11⟩ := l0 _ _ (wl htt rfl rfl rfl rfl rfl rfl)
  have B0 : k0 9 ⟨[(34, .B 9 2)], [], [], [(9, .box (cC3 i0) 141)], 11, [(35, .I i0.Sort'.Lo)], [], [], 11⟩ := l0 _ _ (wl htt rfl rfl rfl rfl rfl rfl)
  have C0 : k0 10 ⟨[(6, .B 9 0)], [], [], [], 11, [(36, .B 9 1)], [], [], 11⟩ := l0 _ _ (wl htt rfl rfl rfl rfl rfl rfl)
  have D0 : k0 11 ⟨[(36, .B 9 1)], [], [], [], 11, [(37, .B 9 3)], [], [], 11⟩ := l0 _ _ (wl htt rfl rfl rfl rfl rfl rfl)
  have G0 : k0 12 ⟨[(37, .B 9 3)], [], [], [(9, .box (cC3 i0) 141)], 11, [(38, .I i0.Sort'.Hi)], [], [], 11⟩ := l0 _ _ (wl htt rfl rfl rfl rfl rfl rfl)
  have H0 : k0 13 ⟨[(32, .I i0.Sort'.Kind), (35, .I i0.Sort'.Lo), (38, .I i0.Sort'.Hi)], [], [], [], 11, [(39, .S 11)], [], [(11, .own (rI .i64) ([i0.Sort'.Kind, i0.Sort'.Lo, i0.Sort'.Hi] : List Int) true)], 12⟩ := l0 _ _ (wO rfl rfl rfl (fun _ _ _ _ _ _ _ k => WPr.bs (cs := (cC7 i0.Sort')) (oI .i64) htt ([i0.Sort'.Kind, i0.Sort'.Lo, i0.Sort'.Hi] : List Int) rfl rfl rfl rfl rfl rfl (by kernel_rfl) (by exact (an rfl (an rfl (an rfl rfl)))) rfl (k)) rfl)
  obtain ⟨I0, J0, h⟩ := ob h
  have K0 : k0 14 ⟨[(29, .S 10), (39, .S 11)], [], [(10, .own (rI .u8) s0 false)], [(11, .own (rI .i64) ([i0.Sort'.Kind, i0.Sort'.Lo, i0.Sort'.Hi] : List Int) true)], 12, [(40, .S 12)], [], [(10, .gone), (12, .own (rI .u8) I0 false)], 13⟩ := l0 _ _ (wO rfl rfl rfl (fun _ _ _ _ _ _ _ k => wc (z85_ct N s0 ([i0.Sort'.Kind, i0.Sort'.Lo, i0.Sort'.Hi] : List Int) _ J0) [(0, .sl 10), (1, .sl 11)] [11] rfl rfl rfl rfl rfl rfl rfl rfl (.inr ⟨rfl, ⟨(rI_flat _), trivial⟩⟩) rfl (k)) rfl)
  have L0 : k0 15 ⟨[(40, .S 12)], [], [], [], 13, [(0, .S 12)], [], [], 13⟩ := l0 _ _ (wl htt rfl rfl rfl rfl rfl rfl)
  exact wD (t := ⟨[(0, .S 12), (3, .B 4 0), (20, .S 1), (21, .I (d_.Fields.length : Int)), (22, .I g0)], [(4, .box (cC0 1 2 3 d_) 94), (12, .own (rI .u8) I0 false)], (vV0 1 2 3 d_ []), 13⟩) [0, 0, 2, 7, 0, 16, 48, 0, 128, 384, 0, 1024, 3072, 8176, 16383, 32767] (.cons (m0 _ _ o0) (.cons (m0 _ _ p0) (.cons (m0 _ _ q0) (.cons (m0 _ _ u0) (.cons (m0 _ _ v0) (.cons (m0 _ _ x0) (.cons (m0 _ _ y0) (.cons (m0 _ _ z0) (.cons (m0 _ _ A0) (.cons (m0 _ _ B0) (.cons (m0 _ _ C0) (.cons (m0 _ _ D0) (.cons (m0 _ _ G0) (.cons (m0 _ _ H0) (.cons (m0 _ _ K0) (.cons (m0 _ _ L0) .nil)))))))))))))))) (by kernel_rfl) (by kernel_rfl) (by kernel_rfl) (by kernel_rfl) (wb (wg (ws htt 2 rfl (wn (wu [(7, .sl 12)] (ih9 (I0, (w64 (g0 + 1))) h) rfl rfl rfl rfl)))))
 exact wu [(7, .sl 6)] (ih N (x9, 0) h) rfl rfl rfl rfl
theorem z86_ct (N : Nat) (b_ : (List Int)) (v_ : Bool) (r : (List Int)) (h : z86 N b_ v_ = some r) :
 Fn Tryz.prog 86 ⟨1, [.S 0, .O v_], [], [(0, .own (rI .u8) b_ false)], 2, .S 1, [], [(1, .own (rI .u8) r false), (0, .gone)]⟩ := by
 refine Fn.intro _ _ Tryz.func86 rfl (by kernel_rfl) rfl (fun E F w => ?_)
 unfold z86 at h
 refine wq (wg (ws htt 1 rfl (wn (wq (wq (wg (ws htt 1 rfl (wn (?_)))))))))
 rcases oc h with ⟨hc, h⟩ | ⟨hc, h⟩
 ·refine wt hc rfl (wq (wg (wx [1, 2, 3] ⟨[(6, .S 0)], [(0, .own (rI .u8) b_ false)], [], 1⟩ htt 1 (by kernel_rfl) (WPr.bs (cs := [.i .u8 1]) (oI .u8) htt ([1] : List Int) rfl rfl rfl rfl rfl rfl (by kernel_rfl) (by exact (an rfl rfl)) rfl (?_)))))
  obtain ⟨x1, c, h⟩ := ob h
  refine WPr.app htt c (by exact (srcO rfl)) rfl rfl rfl rfl rfl rfl rfl rfl rfl rfl (wx [] ⟨[(4, .S 2)], [(2, .own (rI .u8) x1 false)], [], 3⟩ htt 1 (by kernel_rfl) (wn (?_)))
  cases h
  exact we htt Tryz.func86 [(1, .sl 2)] rfl rfl rfl rfl
 refine wf hc rfl (wi (wq (wg (wx [1, 2, 3] ⟨[(9, .S 0)], [(0, .own (rI .u8) b_ false)], [], 1⟩ htt 1 (by kernel_rfl) (WPr.bs (cs := [.i .u8 0]) (oI .u8) htt ([0] : List Int) rfl rfl rfl rfl rfl rfl (by kernel_rfl) (by exact (an rfl rfl)) rfl (?_))))))
 obtain ⟨x2, d, h⟩ := ob h
 refine WPr.app htt d (by exact (srcO rfl)) rfl rfl rfl rfl rfl rfl rfl rfl rfl rfl (wx [] ⟨[(4, .S 2)], [(2, .own (rI .u8) x2 false)], [], 3⟩ htt 1 (by kernel_rfl) (wn (?_)))
 cases h
 exact we htt Tryz.func86 [(1, .sl 2)] rfl rfl rfl rfl
theorem z37_ct (N : Nat) (g_ : T4) (r : (List Int)) (h : z37 N g_ = some r) :
 Fn Tryz.prog 37 ⟨4, [.a (cC4 0 1 2 3 g_)], (vV4 0 1 2 3 g_ []), [], 5, .S 4, [], [(4, .own (rI .u8) r true)]⟩ := by
 refine Fn.intro _ _ Tryz.func37 rfl (by kernel_rfl) rfl (fun E F w => ?_)
 unfold z37 at h
 refine wq (wg (ws htt 2 rfl (wn (wq (wq (wg (wx [1, 2] ⟨[(1, .B 4 0), (2, .c .nil), (12, .a (cC4 0 1 2 3 g_))], [(4, .box (cC4 0 1 2 3 g_) 27)], (vV4 0 1 2 3 g_ []), 5⟩ htt 1 (by kernel_rfl) (?_))))))))
 obtain ⟨x1, d, h⟩ := ob h
 refine wc (z22_ct N g_ _ d) [(0, .sl 0), (1, .sl 1), (2, .sl 2), (3, .sl 3)] [] rfl rfl rfl rfl rfl rfl rfl rfl (.inl rfl) rfl (wx [] ⟨[(1, .B 4 0), (2, .c .nil), (14, .O (!x1))], [(4, .box (cC4 0 1 2 3 g_) 27)], (vV4 0 1 2 3 g_ []), 5⟩ htt 1 (by kernel_rfl) (wn (?_)))
 rcases oc h with ⟨hc, h⟩ | ⟨hc, h⟩
 ·refine wt hc rfl (wq (wg (ws htt 1 rfl (wn (?_)))))
  cases h
  exact we htt Tryz.func37 [(4, .nil)] rfl rfl rfl rfl
 refine wf hc rfl (wi (wq (wN (fun A1 e f => ?_))))
 have g : A1 0 ⟨[(1, .B 4 0)], [], [], [], 5, [(15, .B 4 0)], [], [], 5⟩ := e _ _ (wl htt rfl rfl rfl rfl rfl rfl)
 have i : A1 1 ⟨[(15, .B 4 0)], (vV4 0 1 2 3 g_ []), [], [(4, .box (cC4 0 1 2 3 g_) 27)], 5, [(16, .c (.s g_.Name))], [], [], 5⟩ := e _ _ (wl htt rfl rfl rfl rfl rfl rfl)
 obtain ⟨x4, j, h⟩ := ob h
 have l : A1 2 ⟨[(16, .c (.s g_.Name))], [], [], [], 5, [(17, .S 5)], [], [(5, .own (rI .u8) x4 true)], 6⟩ := e _ _ (wO rfl rfl rfl (fun _ _ _ _ _ _ _ k => wc (z83_ct N ([] : List Int) g_.Name _ j) [(0, .nil)] [] rfl rfl rfl rfl rfl rfl rfl rfl (.inl rfl) rfl (k)) rfl)
 have m : A1 3 ⟨[(1, .B 4 0)], [], [], [], 6, [(18, .B 4 1)], [], [], 6⟩ := e _ _ (wl htt rfl rfl rfl rfl rfl rfl)
 have o : A1 4 ⟨[(18, .B 4 1)], (vV4 0 1 2 3 g_ []), [], [(4, .box (cC4 0 1 2 3 g_) 27)], 6, [(19, .S 0)], [], [], 6⟩ := e _ _ (wl htt rfl rfl rfl rfl rfl rfl)
 have p : A1 5 ⟨[(19, .S 0)], [(0, .sl rS g_.Roles)], [], [], 6, [(20, .I (g_.Roles.length : Int))], [], [], 6⟩ := e _ _ (wl htt rfl rfl rfl rfl rfl rfl)
 obtain ⟨x9, q, h⟩ := ob h
 have u : A1 6 ⟨[(17, .S 5), (20, .I (g_.Roles.length : Int))], [], [(5, .own (rI .u8) x4 true)], [], 6, [(21, .S 6)], [], [(5, .gone), (6, .own (rI .u8) x9 true)], 7⟩ := e _ _ (wO rfl rfl rfl (fun _ _ _ _ _ _ _ k => wc (z82_ct N x4 (g_.Roles.length : Int) _ q) [(0, .sl 5)] [] rfl rfl rfl rfl rfl rfl rfl rfl (.inl rfl) rfl (k)) rfl)
 have v : A1 7 ⟨[(21, .S 6)], [], [], [], 7, [(3, .S 6)], [], [], 7⟩ := e _ _ (wl htt rfl rfl rfl rfl rfl rfl)
 refine wD (t := ⟨[(1, .B 4 0), (2, .c .nil), (3, .S 6)], [(4, .box (cC4 0 1 2 3 g_) 27), (6, .own (rI .u8) x9 true)], (vV4 0 1 2 3 g_ []), 7⟩) [0, 1, 3, 0, 8, 24, 63, 127] (.cons (f _ _ g) (.cons (f _ _ i) (.cons (f _ _ l) (.cons (f _ _ m) (.cons (f _ _ o) (.cons (f _ _ p) (.cons (f _ _ u) (.cons (f _ _ v) .nil)))))))) (by kernel_rfl) (by kernel_rfl) (by kernel_rfl) (by kernel_rfl) (wq (wq (wg (wx [] ⟨[(1, .B 4 0), (2, .c .nil), (3, .S 6), (23, .S 0), (24, .I (g_.Roles.length : Int)), (25, .I 0)], [(4, .box (cC4 0 1 2 3 g_) 27), (6, .own (rI .u8) x9 true)], (vV4 0 1 2 3 g_ []), 7⟩ htt 4 (by kernel_rfl) (wn (?_))))))
 refine wC (σ := (List Int)) (fun st => ⟨[(1, .B 4 0), (3, .S 7)], [(4, .box (cC4 0 1 2 3 g_) 27), (7, .own (rI .u8) st true)], (vV4 0 1 2 3 g_ []), 8⟩) (fun st => z37_k7 N g_ st = some r) ?_ (fun j1 => ?_)
 ·intro x h
  replace h : z37_k7 N g_ x = some r := h
  unfold z37_k7 at h
  refine wq (wg (wx [4, 5] ⟨[(1, .B 4 0), (33, .S 7), (36, .I (g_.Decls.length : Int))], [(4, .box (cC4 0 1 2 3 g_) 27), (7, .own (rI .u8) x true)], (vV4 0 1 2 3 g_ []), 8⟩ htt 4 (by kernel_rfl) (?_)))
  obtain ⟨y, z, h⟩ := ob h
  refine wc (z82_ct N x (g_.Decls.length : Int) _ z) [(0, .sl 7)] [] rfl rfl rfl rfl rfl rfl rfl rfl (.inl rfl) rfl (wx [] ⟨[(1, .B 4 0), (3, .S 8)], [(4, .box (cC4 0 1 2 3 g_) 27), (8, .own (rI .u8) y true)], (vV4 0 1 2 3 g_ []), 9⟩ htt 1 (by kernel_rfl) (wn (wq (wq (wg (wx [] ⟨[(1, .B 4 0), (3, .S 8), (39, .S 1), (40, .I (g_.Decls.length : Int)), (41, .I 0)], [(4, .box (cC4 0 1 2 3 g_) 27), (8, .own (rI .u8) y true)], (vV4 0 1 2 3 g_ []), 9⟩ htt 4 (by kernel_rfl) (wn (?_))))))))
  refine wC (σ := (List Int)) (fun st => ⟨[(1, .B 4 0), (3, .S 9)], [(4, .box (cC4 0 1 2 3 g_) 27), (9, .own (rI .u8) st true)], (vV4 0 1 2 3 g_ []), 10⟩) (fun st => z37_k5 N g_ st = some r) ?_ (fun j3 => ?_)
  ·intro A h
   replace h : z37_k5 N g_ A = some r := h
   unfold z37_k5 at h
   refine wq (wg (wx [10, 11, 12] ⟨[(1, .B 4 0), (49, .S 9), (51, .I g_.States), (53, .I g_.Start), (55, .I g_.End), (58, .I (g_.Edges.length : Int))], [(4, .box (cC4 0 1 2 3 g_) 27), (9, .own (rI .u8) A true)], (vV4 0 1 2 3 g_ []), 10⟩ htt 10 (by kernel_rfl) (WPr.bs (cs := [.I g_.States, .I g_.Start, .I g_.End, .I (g_.Edges.length : Int)]) (oI .i64) htt ([g_.States, g_.Start, g_.End, (g_.Edges.length : Int)] : List Int) rfl rfl rfl rfl rfl rfl (by kernel_rfl) (by exact (an rfl (an rfl (an rfl (an rfl rfl))))) rfl (?_))))
   obtain ⟨C, D, h⟩ := ob h
   refine wc (z85_ct N A ([g_.States, g_.Start, g_.End, (g_.Edges.length : Int)] : List Int) _ D) [(0, .sl 9), (1, .sl 10)] [10] rfl rfl rfl rfl rfl rfl rfl rfl (.inr ⟨rfl, ⟨(rI_flat _), trivial⟩⟩) rfl (wx [] ⟨[(1, .B 4 0), (3, .S 11)], [(4, .box (cC4 0 1 2 3 g_) 27), (11, .own (rI .u8) C true)], (vV4 0 1 2 3 g_ []), 12⟩ htt 1 (by kernel_rfl) (wn (wq (wq (wg (wx [] ⟨[(1, .B 4 0), (3, .S 11), (62, .S 2), (63, .I (g_.Edges.length : Int)), (64, .I 0)], [(4, .box (cC4 0 1 2 3 g_) 27), (11, .own (rI .u8) C true)], (vV4 0 1 2 3 g_ []), 12⟩ htt 4 (by kernel_rfl) (wn (?_))))))))
   refine wC (σ := (List Int)) (fun st => ⟨[(1, .B 4 0), (3, .S 12)], [(4, .box (cC4 0 1 2 3 g_) 27), (12, .own (rI .u8) st true)], (vV4 0 1 2 3 g_ []), 13⟩) (fun st => z37_k3 N g_ st = some r) ?_ (fun j5 => ?_)
   ·intro G h
    replace h : z37_k3 N g_ G = some r := h
    unfold z37_k3 at h
    refine wq (wg (wx [4, 5] ⟨[(1, .B 4 0), (88, .S 12), (91, .I (g_.Timeouts.length : Int))], [(4, .box (cC4 0 1 2 3 g_) 27), (12, .own (rI .u8) G true)], (vV4 0 1 2 3 g_ []), 13⟩ htt 4 (by kernel_rfl) (?_)))
    obtain ⟨H, J, h⟩ := ob h
    refine wc (z82_ct N G (g_.Timeouts.length : Int) _ J) [(0, .sl 12)] [] rfl rfl rfl rfl rfl rfl rfl rfl (.inl rfl) rfl (wx [] ⟨[(1, .B 4 0), (3, .S 13)], [(4, .box (cC4 0 1 2 3 g_) 27), (13, .own (rI .u8) H true)], (vV4 0 1 2 3 g_ []), 14⟩ htt 1 (by kernel_rfl) (wn (wq (wq (wg (wx [] ⟨[(3, .S 13), (94, .S 3), (95, .I (g_.Timeouts.length : Int)), (96, .I 0)], [(13, .own (rI .u8) H true)], (vV4 0 1 2 3 g_ []), 14⟩ htt 4 (by kernel_rfl) (wn (?_))))))))
    refine wC (σ := (List Int)) (fun st => ⟨[(3, .S 14)], [(14, .own (rI .u8) st true)], (vV4 0 1 2 3 g_ []), 15⟩) (fun st => z37_k1 st = some r) ?_ (fun j7 => ?_)
    ·intro K h
     replace h : z37_k1 K = some r := h
     unfold z37_k1 at h
     refine wq (wg (ws htt 2 rfl (wn (?_))))
     cases h
     exact we htt Tryz.func37 [(4, .sl 14)] rfl rfl rfl rfl
    refine wo (?_)
    refine wI (σ := (List Int) × Int) (fun st => ⟨[(3, .S 14), (94, .S 3), (95, .I (g_.Timeouts.length : Int)), (96, .I st.2)], [(14, .own (rI .u8) st.1 true)], (vV4 0 1 2 3 g_ []), 15⟩) (fun n st => z37_l2 N g_ n st.1 st.2) (r := r) (fun _ => rfl) ?_ (fun ih => ?_)
    ·intro n5 ih9
     rintro ⟨Q, R⟩ h
     replace h : z37_l2 N g_ (n5 + 1) Q R = some r := h
     unfold z37_l2 at h
     refine wq (wg (ws htt 1 rfl (wn (wq (?_)))))
     rcases oc' h with ⟨hc, h⟩ | ⟨hc, h⟩
     ·exact wf hc rfl (wz rfl (wu [] (j7 Q h) rfl rfl rfl rfl))
     refine wt hc rfl (wi (wq (wo (wq (wg (?_))))))
     obtain ⟨T, U, h⟩ := ob h
     refine wj oO8 htt U rfl rfl rfl rfl rfl rfl rfl rfl rfl (wx [] ⟨[(3, .S 14), (11, .B 16 0), (94, .S 3), (95, .I (g_.Timeouts.length : Int)), (96, .I R)], [(14, .own (rI .u8) Q true), (16, .box (cC8 T) 79)], (vV4 0 1 2 3 g_ []), 17⟩ htt 3 (by kernel_rfl) (wn (wg (wx [7, 8, 9] ⟨[(94, .S 3), (95, .I (g_.Timeouts.length : Int)), (96, .I R), (100, .S 14), (102, .I T.State), (104, .I T.Ticks), (106, .I T.Else)], [(14, .own (rI .u8) Q true)], (vV4 0 1 2 3 g_ []), 17⟩ htt 7 (by kernel_rfl) (WPr.bs (cs := (cC8 T)) (oI .i64) htt ([T.State, T.Ticks, T.Else] : List Int) rfl rfl rfl rfl rfl rfl (by kernel_rfl) (by exact (an rfl (an rfl (an rfl rfl)))) rfl (?_))))))
     obtain ⟨X, Y, h⟩ := ob h
     exact wc (z85_ct N Q ([T.State, T.Ticks, T.Else] : List Int) _ Y) [(0, .sl 14), (1, .sl 17)] [17] rfl rfl rfl rfl rfl rfl rfl rfl (.inr ⟨rfl, ⟨(rI_flat _), trivial⟩⟩) rfl (wx [] ⟨[(3, .S 18), (94, .S 3), (95, .I (g_.Timeouts.length : Int)), (96, .I R)], [(18, .own (rI .u8) X true)], (vV4 0 1 2 3 g_ []), 19⟩ htt 1 (by kernel_rfl) (wn (wb (wg (ws htt 2 rfl (wn (wu [(14, .sl 18)] (ih9 (X, (w64 (R + 1))) h) rfl rfl rfl rfl)))))))
    exact wu [(14, .sl 13)] (ih N (H, 0) h) rfl rfl rfl rfl
   refine wo (?_)
   refine wI (σ := (List Int) × Int) (fun st => ⟨[(1, .B 4 0), (3, .S 12), (62, .S 2), (63, .I (g_.Edges.length : Int)), (64, .I st.2)], [(4, .box (cC4 0 1 2 3 g_) 27), (12, .own (rI .u8) st.1 true)], (vV4 0 1 2 3 g_ []), 13⟩) (fun n st => z37_l4 N g_ n st.1 st.2) (r := r) (fun _ => rfl) ?_ (fun ih => ?_)
   ·intro n6 ih10
    rintro ⟨Z, a0⟩ h
    replace h : z37_l4 N g_ (n6 + 1) Z a0 = some r := h
    unfold z37_l4 at h
    refine wq (wg (ws htt 1 rfl (wn (wq (?_)))))
    rcases oc' h with ⟨hc, h⟩ | ⟨hc, h⟩
    ·exact wf hc rfl (wz rfl (wu [] (j5 Z h) rfl rfl rfl rfl))
    refine wt hc rfl (wi (wq (wo (wq (wg (?_))))))
    obtain ⟨b0, c0, h⟩ := ob h
    refine wj oO2 htt c0 rfl rfl rfl rfl rfl rfl rfl rfl rfl (wx [] ⟨[(1, .B 4 0), (3, .S 12), (9, .B 14 0), (62, .S 2), (63, .I (g_.Edges.length : Int)), (64, .I a0)], [(4, .box (cC4 0 1 2 3 g_) 27), (12, .own (rI .u8) Z true), (14, .box (cC2 b0) 43)], (vV4 0 1 2 3 g_ []), 15⟩ htt 3 (by kernel_rfl) (wn (wN (fun d0 e0 f0 => ?_))))
    have g0 : d0 0 ⟨[(3, .S 12)], [], [], [], 15, [(68, .S 12)], [], [], 15⟩ := e0 _ _ (wl htt rfl rfl rfl rfl rfl rfl)
    have i0 : d0 1 ⟨[(9, .B 14 0)], [], [], [], 15, [(69, .B 14 0)], [], [], 15⟩ := e0 _ _ (wl htt rfl rfl rfl rfl rfl rfl)
    have j0 : d0 2 ⟨[(69, .B 14 0)], [], [], [(14, .box (cC2 b0) 43)], 15, [(70, .I b0.From)], [], [], 15⟩ := e0 _ _ (wl htt rfl rfl rfl rfl rfl rfl)
    have k0 : d0 3 ⟨[(9, .B 14 0)], [], [], [], 15, [(71, .B 14 1)], [], [], 15⟩ := e0 _ _ (wl htt rfl rfl rfl rfl rfl rfl)
    have l0 : d0 4 ⟨[(71, .B 14 1)], [], [], [], 15, [(72, .B 14 1)], [], [], 15⟩ := e0 _ _ (wl htt rfl rfl rfl rfl rfl rfl)
    have m0 : d0 5 ⟨[(72, .B 14 1)], [], [], [(14, .box (cC2 b0) 43)], 15, [(73, .I b0.Act.From)], [], [], 15⟩ := e0 _ _ (wl htt rfl rfl rfl rfl rfl rfl)
    have o0 : d0 6 ⟨[(9, .B 14 0)], [], [], [], 15, [(74, .B 14 1)], [], [], 15⟩ := e0 _ _ (wl htt rfl rfl rfl rfl rfl rfl)
    have p0 : d0 7 ⟨[(74, .B 14 1)], [], [], [], 15, [(75, .B 14 2)], [], [], 15⟩ := e0 _ _ (wl htt rfl rfl rfl rfl rfl rfl)
    have q0 : d0 8 ⟨[(75, .B 14 2)], [], [], [(14, .box (cC2 b0) 43)], 15, [(76, .I b0.Act.To)], [], [], 15⟩ := e0 _ _ (wl htt rfl rfl rfl rfl rfl rfl)
    have s0 : d0 9 ⟨[(9, .B 14 0)], [], [], [], 15, [(77, .B 14 1)], [], [], 15⟩ := e0 _ _ (wl htt rfl rfl rfl rfl rfl rfl)
    have t0 : d0 10 ⟨[(77, .B 14 1)], [], [], [], 15, [(78, .B 14 3)], [], [], 15⟩ := e0 _ _ (wl htt rfl rfl rfl rfl rfl rfl)
    have u0 : d0 11 ⟨[(78, .B 14 3)], [], [], [(14, .box (cC2 b0) 43)], 15, [(79, .I b0.Act.Label)], [], [], 15⟩ := e0 _ _ (wl htt rfl rfl rfl rfl rfl rfl)
    have v0 : d0 12 ⟨[(9, .B 14 0)], [], [], [], 15, [(80, .B 14 4)], [], [], 15⟩ := e0 _ _ (wl htt rfl rfl rfl rfl rfl rfl)
    have x0 : d0 13 ⟨[(80, .B 14 4)], [], [], [(14, .box (cC2 b0) 43)], 15, [(81, .I b0.To)], [], [], 15⟩ := e0 _ _ (wl htt rfl rfl rfl rfl rfl rfl)
    have y0 : d0 14 ⟨[(70, .I b0.From), (73, .I b0.Act.From), (76, .I b0.Act.To), (79, .I b0.Act.Label), (81, .I b0.To)], [], [], [], 15, [(82, .S 15)], [], [(15, .own (rI .i64) ([b0.From, b0.Act.From, b0.Act.To, b0.Act.Label, b0.To] : List Int) true)], 16⟩ := e0 _ _ (wO rfl rfl rfl (fun _ _ _ _ _ _ _ k => WPr.bs (cs := [.I b0.From, .I b0.Act.From, .I b0.Act.To, .I b0.Act.Label, .I b0.To]) (oI .i64) htt ([b0.From, b0.Act.From, b0.Act.To, b0.Act.Label, b0.To] : List Int) rfl rfl rfl rfl rfl rfl (by kernel_rfl) (by exact (an rfl (an rfl (an rfl (an rfl (an rfl rfl)))))) rfl (k)) rfl)
    obtain ⟨z0, A0, h⟩ := ob h
    have B0 : d0 15 ⟨[(68, .S 12), (82, .S 15)], [], [(12, .own (rI .u8) Z true)], [(15, .own (rI .i64) ([b0.From, b0.Act.From, b0.Act.To, b0.Act.Label, b0.To] : List Int) true)], 16, [(83, .S 16)], [], [(12, .gone), (16, .own (rI .u8) z0 true)], 17⟩ := e0 _ _ (wO rfl rfl rfl (fun _ _ _ _ _ _ _ k => wc (z85_ct N Z ([b0.From, b0.Act.From, b0.Act.To, b0.Act.Label, b0.To] : List Int) _ A0) [(0, .sl 12), (1, .sl 15)] [15] rfl rfl rfl rfl rfl rfl rfl rfl (.inr ⟨rfl, ⟨(rI_flat _), trivial⟩⟩) rfl (k)) rfl)
    have C0 : d0 16 ⟨[(9, .B 14 0)], [], [], [], 17, [(84, .B 14 5)], [], [], 17⟩ := e0 _ _ (wl htt rfl rfl rfl rfl rfl rfl)
    have D0 : d0 17 ⟨[(84, .B 14 5)], [], [], [(14, .box (cC2 b0) 43)], 17, [(85, .O b0.Again)], [], [], 17⟩ := e0 _ _ (wl htt rfl rfl rfl rfl rfl rfl)
    obtain ⟨G0, H0, h⟩ := ob h
    have I0 : d0 18 ⟨[(83, .S 16), (85, .O b0.Again)], [], [(16, .own (rI .u8) z0 true)], [], 17, [(86, .S 17)], [], [(16, .gone), (17, .own (rI .u8) G0 true)], 18⟩ := e0 _ _ (wO rfl rfl rfl (fun _ _ _ _ _ _ _ k => wc (z86_ct N z0 b0.Again _ H0) [(0, .sl 16)] [] rfl rfl rfl rfl rfl rfl rfl rfl (.inl rfl) rfl (k)) rfl)
    have J0 : d0 19 ⟨[(86, .S 17)], [], [], [], 18, [(3, .S 17)], [], [], 18⟩ := e0 _ _ (wl htt rfl rfl rfl rfl rfl rfl)
    exact wD (t := ⟨[(1, .B 4 0), (3, .S 17), (62, .S 2), (63, .I (g_.Edges.length : Int)), (64, .I a0)], [(4, .box (cC4 0 1 2 3 g_) 27), (17, .own (rI .u8) G0 true)], (vV4 0 1 2 3 g_ []), 18⟩) [0, 0, 2, 0, 8, 24, 0, 64, 192, 0, 512, 1536, 0, 4096, 16382, 32767, 0, 65536, 262143, 524287] (.cons (f0 _ _ g0) (.cons (f0 _ _ i0) (.cons (f0 _ _ j0) (.cons (f0 _ _ k0) (.cons (f0 _ _ l0) (.cons (f0 _ _ m0) (.cons (f0 _ _ o0) (.cons (f0 _ _ p0) (.cons (f0 _ _ q0) (.cons (f0 _ _ s0) (.cons (f0 _ _ t0) (.cons (f0 _ _ u0) (.cons (f0 _ _ v0) (.cons (f0 _ _ x0) (.cons (f0 _ _ y0) (.cons (f0 _ _ B0) (.cons (f0 _ _ C0) (.cons (f0 _ _ D0) (.cons (f0 _ _ I0) (.cons (f0 _ _ J0) .nil)))))))))))))))))))) (by kernel_rfl) (by kernel_rfl) (by kernel_rfl) (by kernel_rfl) (wb (wg (ws htt 2 rfl (wn (wu [(12, .sl 17)] (ih10 (G0, (w64 (a0 + 1))) h) rfl rfl rfl rfl)))))
   exact wu [(12, .sl 11)] (ih N (C, 0) h) rfl rfl rfl rfl
  refine wo (?_)
  refine wI (σ := (List Int) × Int) (fun st => ⟨[(1, .B 4 0), (3, .S 9), (39, .S 1), (40, .I (g_.Decls.length : Int)), (41, .I st.2)], [(4, .box (cC4 0 1 2 3 g_) 27), (9, .own (rI .u8) st.1 true)], (vV4 0 1 2 3 g_ []), 10⟩) (fun n st => z37_l6 N g_ n st.1 st.2) (r := r) (fun _ => rfl) ?_ (fun ih => ?_)
  ·intro n7 ih11
   rintro ⟨K0, L0⟩ h
   replace h : z37_l6 N g_ (n7 + 1) K0 L0 = some r := h
   unfold z37_l6 at h
   refine wq (wg (ws htt 1 rfl (wn (wq (?_)))))
   rcases oc' h with ⟨hc, h⟩ | ⟨hc, h⟩
   ·exact wf hc rfl (wz rfl (wu [] (j3 K0 h) rfl rfl rfl rfl))
   refine wt hc rfl (wi (wq (wo (wq (wg (?_))))))
   obtain ⟨M0, O0, h⟩ := ob h
   refine wj oO0 htt O0 rfl rfl rfl rfl rfl rfl rfl rfl rfl (wx [] ⟨[(1, .B 4 0), (3, .S 9), (7, .B 14 0), (39, .S 1), (40, .I (g_.Decls.length : Int)), (41, .I L0)], [(4, .box (cC4 0 1 2 3 g_) 27), (9, .own (rI .u8) K0 true), (14, .box (cC0 11 12 13 M0) 94)], (vV4 0 1 2 3 g_ (vV0 11 12 13 M0 [])), 15⟩ htt 3 (by kernel_rfl) (wn (wg (ws htt 2 rfl (?_)))))
   obtain ⟨Q0, R0, h⟩ := ob h
   exact wc (z84_ct N K0 M0 _ R0) [(0, .sl 9), (1, .sl 11), (2, .sl 12), (3, .sl 13)] [] rfl rfl rfl rfl rfl rfl rfl rfl (.inl rfl) rfl (wx [] ⟨[(1, .B 4 0), (3, .S 15), (39, .S 1), (40, .I (g_.Decls.length : Int)), (41, .I L0)], [(4, .box (cC4 0 1 2 3 g_) 27), (15, .own (rI .u8) Q0 true)], (vV4 0 1 2 3 g_ []), 16⟩ htt 1 (by kernel_rfl) (wn (wb (wg (ws htt 2 rfl (wn (wu [(9, .sl 15)] (ih11 (Q0, (w64 (L0 + 1))) h) rfl rfl rfl rfl)))))))
  exact wu [(9, .sl 8)] (ih N (y, 0) h) rfl rfl rfl rfl
 refine wo (?_)
 refine wI (σ := (List Int) × Int) (fun st => ⟨[(1, .B 4 0), (3, .S 7), (23, .S 0), (24, .I (g_.Roles.length : Int)), (25, .I st.2)], [(4, .box (cC4 0 1 2 3 g_) 27), (7, .own (rI .u8) st.1 true)], (vV4 0 1 2 3 g_ []), 8⟩) (fun n st => z37_l8 N g_ n st.1 st.2) (r := r) (fun _ => rfl) ?_ (fun ih => ?_)
 ·intro n8 ih12
  rintro ⟨S0, T0⟩ h
  replace h : z37_l8 N g_ (n8 + 1) S0 T0 = some r := h
  unfold z37_l8 at h
  refine wq (wg (ws htt 1 rfl (wn (wq (?_)))))
  rcases oc' h with ⟨hc, h⟩ | ⟨hc, h⟩
  ·exact wf hc rfl (wz rfl (wu [] (j1 S0 h) rfl rfl rfl rfl))
  refine wt hc rfl (wi (wq (wo (wq (wg (?_))))))
  obtain ⟨U0, V0, h⟩ := ob h
  refine wj oS htt V0 rfl rfl rfl rfl rfl rfl rfl rfl rfl (wx [] ⟨[(1, .B 4 0), (3, .S 7), (5, .c (.s U0)), (23, .S 0), (24, .I (g_.Roles.length : Int)), (25, .I T0)], [(4, .box (cC4 0 1 2 3 g_) 27), (7, .own (rI .u8) S0 true)], (vV4 0 1 2 3 g_ []), 9⟩ htt 2 (by kernel_rfl) (wn (wg (ws htt 2 rfl (?_)))))
  obtain ⟨X0, Y0, h⟩ := ob h
  exact wc (z83_ct N S0 U0 _ Y0) [(0, .sl 7)] [] rfl rfl rfl rfl rfl rfl rfl rfl (.inl rfl) rfl (wx [] ⟨[(1, .B 4 0), (3, .S 9), (23, .S 0), (24, .I (g_.Roles.length : Int)), (25, .I T0)], [(4, .box (cC4 0 1 2 3 g_) 27), (9, .own (rI .u8) X0 true)], (vV4 0 1 2 3 g_ []), 10⟩ htt 1 (by kernel_rfl) (wn (wb (wg (ws htt 2 rfl (wn (wu [(7, .sl 9)] (ih12 (X0, (w64 (T0 + 1))) h) rfl rfl rfl rfl)))))))
 exact wu [(7, .sl 6)] (ih N (x9, 0) h) rfl rfl rfl rfl
theorem z127_ct (N : Nat) (seed_ : Int) (b_ : (List Int)) (r : Int) (h : z127 N seed_ b_ = some r) :
 Fn Tryz.prog 127 ⟨1, [.c (.i .u64 seed_), .S 0], [(0, .sl (rI .u8) b_)], [], 1, .c (.i .u64 r), [], []⟩ := by
 refine Fn.intro _ _ Tryz.func127 rfl (by kernel_rfl) rfl (fun E F w => ?_)
 unfold z127 at h
 refine wq (wg (ws htt 1 rfl (wn (wq (wq (wg (wx [] ⟨[(0, .c (.i .u64 seed_)), (4, .c (.i .u64 0)), (7, .S 0), (8, .I (b_.length : Int)), (9, .I 0)], [], [(0, .sl (rI .u8) b_)], 1⟩ htt 3 (by kernel_rfl) (wn (?_)))))))))
 refine wC (σ := Int) (fun st => ⟨[(0, .c (.i .u64 st))], [], [(0, .sl (rI .u8) b_)], 1⟩) (fun st => z127_k1 st = some r) ?_ (fun j1 => ?_)
 ·intro d h
  replace h : z127_k1 d = some r := h
  unfold z127_k1 at h
  refine wq (wg (ws htt 2 rfl (wn (?_))))
  cases h
  exact we htt Tryz.func127 [] rfl rfl rfl rfl
 refine wo (?_)
 refine wI (σ := Int × Int) (fun st => ⟨[(0, .c (.i .u64 st.1)), (7, .S 0), (8, .I (b_.length : Int)), (9, .I st.2)], [], [(0, .sl (rI .u8) b_)], 1⟩) (fun n st => z127_l2 b_ n st.1 st.2) (r := r) (fun _ => rfl) ?_ (fun ih => ?_)
 ·intro n2 ih3
  rintro ⟨e, f⟩ h
  replace h : z127_l2 b_ (n2 + 1) e f = some r := h
  unfold z127_l2 at h
  refine wq (wg (ws htt 1 rfl (wn (wq (?_)))))
  rcases oc' h with ⟨hc, h⟩ | ⟨hc, h⟩
  ·exact wf hc rfl (wz rfl (wu [] (j1 e h) rfl rfl rfl rfl))
  refine wt hc rfl (wi (wq (wo (wq (wg (?_))))))
  obtain ⟨g, j, h⟩ := ob h
  refine wj (oI .u8) htt j rfl rfl rfl rfl rfl rfl rfl rfl rfl (wx [] ⟨[(0, .c (.i .u64 e)), (6, .c (.i .u8 g)), (7, .S 0), (8, .I (b_.length : Int)), (9, .I f)], [], [(0, .sl (rI .u8) b_)], 2⟩ htt 2 (by kernel_rfl) (wn (wg (wx [3, 4, 5] ⟨[(7, .S 0), (8, .I (b_.length : Int)), (9, .I f), (13, .c (.i .u64 e)), (15, .c (.i .u64 (wk .u64 (g))))], [], [(0, .sl (rI .u8) b_)], 2⟩ htt 3 (by kernel_rfl) (?_)))))
  obtain ⟨k, l, h⟩ := ob h
  exact WPr.bin l rfl rfl rfl rfl rfl rfl rfl rfl (wx [] ⟨[(0, .c (.i .u64 (wk .u64 (k * 1099511628211)))), (7, .S 0), (8, .I (b_.length : Int)), (9, .I f)], [], [(0, .sl (rI .u8) b_)], 2⟩ htt 2 (by kernel_rfl) (wn (wb (wg (ws htt 2 rfl (wn (wu [] (ih3 ((wk .u64 (k * 1099511628211)), (w64 (f + 1))) h) rfl rfl rfl rfl)))))))
 exact wu [] (ih N (seed_, 0) h) rfl rfl rfl rfl
theorem z73_ct (N : Nat) (b_ : (List Int)) (r : Int) (h : z73 N b_ = some r) :
 Fn Tryz.prog 73 ⟨1, [.S 0], [(0, .sl (rI .u8) b_)], [], 1, .c (.i .u64 r), [], []⟩ := by
 refine Fn.intro _ _ Tryz.func73 rfl (by kernel_rfl) rfl (fun E F w => ?_)
 unfold z73 at h
 refine wq (wg (ws htt 1 rfl (wn (wq (wg (ws htt 1 rfl (?_)))))))
 obtain ⟨x1, d, h⟩ := ob h
 refine wc (z127_ct N 14695981039346656037 b_ _ d) [(0, .sl 0)] [] rfl rfl rfl rfl rfl rfl rfl rfl (.inl rfl) rfl (wx [] ⟨[(2, .c (.i .u64 x1))], [], [(0, .sl (rI .u8) b_)], 1⟩ htt 1 (by kernel_rfl) (wn (?_)))
 cases h
 exact we htt Tryz.func73 [] rfl rfl rfl rfl
theorem z24_ct (N : Nat) (g_ : T4) (r : Int) (h : z24 N g_ = some r) :
 Fn Tryz.prog 24 ⟨4, [.a (cC4 0 1 2 3 g_)], (vV4 0 1 2 3 g_ []), [], 4, .c (.i .u64 r), [], []⟩ := by
 refine Fn.intro _ _ Tryz.func24 rfl (by kernel_rfl) rfl (fun E F w => ?_)
 unfold z24 at h
 refine wq (wg (ws htt 2 rfl (wn (wq (wg (wx (rg 1 7) ⟨[(2, .c (.i .u64 0)), (6, .a (cC4 0 1 2 3 g_))], [], (vV4 0 1 2 3 g_ []), 5⟩ htt 1 (by kernel_rfl) (?_)))))))
 obtain ⟨x1, d, h⟩ := ob h
 refine wc (z21_ct N g_ _ d) [(0, .sl 0), (1, .sl 1), (2, .sl 2), (3, .sl 3)] [] rfl rfl rfl rfl rfl rfl rfl rfl (.inl rfl) rfl (wx [] ⟨[(2, .c (.i .u64 0)), (3, .B 9 0), (4, .I x1.2)], [(9, .box (cC4 5 6 7 8 x1.1) 27)], (vV4 0 1 2 3 g_ (vV4 5 6 7 8 x1.1 [])), 10⟩ htt 6 (by kernel_rfl) (wn (wq (wq (wg (ws htt 2 rfl (wn (?_))))))))
 rcases oc h with ⟨hc, h⟩ | ⟨hc, h⟩
 ·refine wt hc rfl (wq (wg (wx [] ⟨[(2, .c (.i .u64 0))], [], (vV4 0 1 2 3 g_ []), 10⟩ htt 1 (by kernel_rfl) (wn (?_)))))
  cases h
  exact we htt Tryz.func24 [] rfl rfl rfl rfl
 refine wf hc rfl (wi (wq (wg (wx [1, 2, 3] ⟨[(12, .a (cC4 5 6 7 8 x1.1))], [], (vV4 0 1 2 3 g_ (vV4 5 6 7 8 x1.1 [])), 10⟩ htt 1 (by kernel_rfl) (?_)))))
 obtain ⟨x2, e, h⟩ := ob h
 refine wc (z37_ct N x1.1 _ e) [(0, .sl 5), (1, .sl 6), (2, .sl 7), (3, .sl 8)] [] rfl rfl rfl rfl rfl rfl rfl rfl (.inl rfl) rfl (wx [2, 3] ⟨[(13, .S 10)], [(10, .own (rI .u8) x2 true)], (vV4 0 1 2 3 g_ []), 11⟩ htt 0 (by kernel_rfl) (?_))
 obtain ⟨x3, f, h⟩ := ob h
 refine wc (z73_ct N x2 _ f) [(0, .sl 10)] [10] rfl rfl rfl rfl rfl rfl rfl rfl (.inr ⟨rfl, trivial⟩) rfl (wx [] ⟨[(2, .c (.i .u64 x3))], [], (vV4 0 1 2 3 g_ []), 11⟩ htt 1 (by kernel_rfl) (wn (?_)))
 cases h
 exact we htt Tryz.func24 [] rfl rfl rfl rfl
theorem z12_ct (N : Nat) (r : Bool) (h : z12 N = some r) :
 Fn Tryz.prog 12 ⟨0, [], [], [], 0, .O r, [], []⟩ := by
 refine Fn.intro _ _ Tryz.func12 rfl (by kernel_rfl) rfl (fun E F w => ?_)
 unfold z12 at h
 refine wq (wg (ws htt 1 rfl (wn (wq (wg (?_))))))
 obtain ⟨x1, c, h⟩ := ob h
 refine wc (z43_ct N _ c) [] [] rfl rfl rfl rfl rfl rfl rfl rfl (.inl rfl) rfl (wx [] ⟨[(0, .O false), (1, .B 4 0)], [(4, .box (cC4 0 1 2 3 x1) 27)], (vV4 0 1 2 3 x1 []), 5⟩ htt 2 (by kernel_rfl) (wn (wq (wg (ws htt 1 rfl (?_))))))
 obtain ⟨x2, d, h⟩ := ob h
 refine wc (z14_ct N x1 3 _ d) [(0, .sl 0), (1, .sl 1), (2, .sl 2), (3, .sl 3)] [] rfl rfl rfl rfl rfl rfl rfl rfl (.inl rfl) rfl (wx [] ⟨[(0, .O false), (1, .B 4 0), (2, .S 5), (3, .I x2.2)], [(4, .box (cC4 0 1 2 3 x1) 27), (5, .own (rSl rR6) x2.1 true)], (vV4 0 1 2 3 x1 []), 6⟩ htt 5 (by kernel_rfl) (wn (wq (wg (ws htt 2 rfl (?_))))))
 obtain ⟨x3, e, h⟩ := ob h
 refine wc (z17_ct N x1 0 (⟨0, 1, 0⟩ : T6) _ e) [(0, .sl 0), (1, .sl 1), (2, .sl 2), (3, .sl 3)] [] rfl rfl rfl rfl rfl rfl rfl rfl (.inl rfl) rfl (wx [] ⟨[(0, .O false), (1, .B 4 0), (2, .S 5), (3, .I x2.2), (4, .I x3.1), (5, .O x3.2)], [(4, .box (cC4 0 1 2 3 x1) 27), (5, .own (rSl rR6) x2.1 true)], (vV4 0 1 2 3 x1 []), 6⟩ htt 5 (by kernel_rfl) (wn (wq (wg (ws htt 1 rfl (?_))))))
 obtain ⟨x4, f, h⟩ := ob h
 refine wc (z22_ct N x1 _ f) [(0, .sl 0), (1, .sl 1), (2, .sl 2), (3, .sl 3)] [] rfl rfl rfl rfl rfl rfl rfl rfl (.inl rfl) rfl (wx (rg 3 38) ⟨[(1, .B 4 0), (2, .S 5), (3, .I x2.2), (4, .I x3.1), (5, .O x3.2), (20, .O x4)], [(4, .box (cC4 0 1 2 3 x1) 27), (5, .own (rSl rR6) x2.1 true)], (vV4 0 1 2 3 x1 []), 6⟩ htt 1 (by kernel_rfl) (?_))
 rcases oc' h with ⟨hc, h⟩ | ⟨hc, h⟩
 ·refine wy 20 hc rfl (wx [] ⟨[(0, .O false)], [], [], 6⟩ htt 38 (by kernel_rfl) (wn (?_)))
  cases h
  exact we htt Tryz.func12 [] rfl rfl rfl rfl
 refine wy 20 hc rfl (wx (rg 7 34) ⟨[(1, .B 4 0), (2, .S 5), (4, .I x3.1), (5, .O x3.2), (24, .O (x2.2 == 0))], [(4, .box (cC4 0 1 2 3 x1) 27), (5, .own (rSl rR6) x2.1 true)], (vV4 0 1 2 3 x1 []), 6⟩ htt 4 (by kernel_rfl) (?_))
 rcases oc' h with ⟨hc, h⟩ | ⟨hc, h⟩
 ·refine wy 24 hc rfl (wx [] ⟨[(0, .O false)], [], [], 6⟩ htt 34 (by kernel_rfl) (wn (?_)))
  cases h
  exact we htt Tryz.func12 [] rfl rfl rfl rfl
 refine wy 24 hc rfl (wx (rg 12 29) ⟨[(1, .B 4 0), (2, .S 5), (4, .I x3.1), (5, .O x3.2), (29, .O ((x2.1.length : Int) == 2))], [(4, .box (cC4 0 1 2 3 x1) 27), (5, .own (rSl rR6) x2.1 true)], (vV4 0 1 2 3 x1 []), 6⟩ htt 5 (by kernel_rfl) (?_))
 rcases oc' h with ⟨hc, h⟩ | ⟨hc, h⟩
 ·refine wy 29 hc rfl (wx [] ⟨[(0, .O false)], [], [], 6⟩ htt 29 (by kernel_rfl) (wn (?_)))
  cases h
  exact we htt Tryz.func12 [] rfl rfl rfl rfl
 refine wy 29 hc rfl (ws htt 1 rfl (?_))
 obtain ⟨x5, g, h⟩ := ob h
 refine wX htt g rfl rfl rfl rfl rfl rfl rfl rfl rfl (wL (oSl rR6) htt g rfl rfl rfl rfl rfl rfl rfl rfl rfl rfl (wx (rg 19 22) ⟨[(1, .B 4 0), (4, .I x3.1), (5, .O x3.2), (36, .O ((x5.length : Int) == 1))], [(4, .box (cC4 0 1 2 3 x1) 27)], (vV4 0 1 2 3 x1 []), 8⟩ htt 4 (by kernel_rfl) (?_)))
 rcases oc' h with ⟨hc, h⟩ | ⟨hc, h⟩
 ·refine wy 36 hc rfl (wx [] ⟨[(0, .O false)], [], [], 8⟩ htt 22 (by kernel_rfl) (wn (?_)))
  cases h
  exact we htt Tryz.func12 [] rfl rfl rfl rfl
 refine wy 36 hc rfl (wx (rg 22 19) ⟨[(1, .B 4 0), (4, .I x3.1), (39, .O x3.2)], [(4, .box (cC4 0 1 2 3 x1) 27)], (vV4 0 1 2 3 x1 []), 8⟩ htt 3 (by kernel_rfl) (?_))
 rcases oc' h with ⟨hc, h⟩ | ⟨hc, h⟩
 ·refine wy 39 hc rfl (wx [] ⟨[(0, .O false)], [], [], 8⟩ htt 19 (by kernel_rfl) (wn (?_)))
  cases h
  exact we htt Tryz.func12 [] rfl rfl rfl rfl
 refine wy 39 hc rfl (wx (rg 26 15) ⟨[(1, .B 4 0), (43, .O (x3.1 == 1))], [(4, .box (cC4 0 1 2 3 x1) 27)], (vV4 0 1 2 3 x1 []), 8⟩ htt 4 (by kernel_rfl) (?_))
 rcases oc' h with ⟨hc, h⟩ | ⟨hc, h⟩
 ·refine wy 43 hc rfl (wx [] ⟨[(0, .O false)], [], [], 8⟩ htt 15 (by kernel_rfl) (wn (?_)))
  cases h
  exact we htt Tryz.func12 [] rfl rfl rfl rfl
 refine wy 43 hc rfl (ws htt 2 rfl (?_))
 obtain ⟨x6, i, h⟩ := ob h
 refine wc (z23_ct N x1 x1 _ i) [(0, .sl 0), (1, .sl 1), (2, .sl 2), (3, .sl 3), (4, .sl 0), (5, .sl 1), (6, .sl 2), (7, .sl 3)] [] rfl rfl rfl rfl rfl rfl rfl rfl (.inl rfl) rfl (wx (rg 31 10) ⟨[(1, .B 4 0), (48, .O x6)], [(4, .box (cC4 0 1 2 3 x1) 27)], (vV4 0 1 2 3 x1 []), 8⟩ htt 2 (by kernel_rfl) (?_))
 rcases oc' h with ⟨hc, h⟩ | ⟨hc, h⟩
 ·refine wy 48 hc rfl (wx [] ⟨[(0, .O false)], [], [], 8⟩ htt 10 (by kernel_rfl) (wn (?_)))
  cases h
  exact we htt Tryz.func12 [] rfl rfl rfl rfl
 refine wy 48 hc rfl (ws htt 1 rfl (?_))
 obtain ⟨x7, j, h⟩ := ob h
 refine wc (z31_ct N x1 (str [120]) _ j) [(0, .sl 0), (1, .sl 1), (2, .sl 2), (3, .sl 3)] [] rfl rfl rfl rfl rfl rfl rfl rfl (.inl rfl) rfl (wx [36, 37, 38, 39, 40] ⟨[(1, .B 4 0), (53, .O (x7 == 0))], [(4, .box (cC4 0 1 2 3 x1) 27)], (vV4 0 1 2 3 x1 []), 8⟩ htt 3 (by kernel_rfl) (?_))
 rcases oc' h with ⟨hc, h⟩ | ⟨hc, h⟩
 ·refine wy 53 hc rfl (wx [] ⟨[(0, .O false)], [], [], 8⟩ htt 5 (by kernel_rfl) (wn (?_)))
  cases h
  exact we htt Tryz.func12 [] rfl rfl rfl rfl
 refine wy 53 hc rfl (ws htt 1 rfl (?_))
 obtain ⟨x8, k, h⟩ := ob h
 refine wc (z24_ct N x1 _ k) [(0, .sl 0), (1, .sl 1), (2, .sl 2), (3, .sl 3)] [] rfl rfl rfl rfl rfl rfl rfl rfl (.inl rfl) rfl (wx [] ⟨[(0, .O (x8 != 0))], [], [], 8⟩ htt 3 (by kernel_rfl) (wn (?_)))
 cases h
 exact we htt Tryz.func12 [] rfl rfl rfl rfl
theorem z44_ct (N : Nat) (l_ : (List T0)) (r : Bool) (h : z44 N l_ = some r) :
 Fn Tryz.prog 44 ⟨1, [.S 0], [(0, .sl rR0 l_)], [], 1, .O r, [], []⟩ := by
 refine Fn.intro _ _ Tryz.func44 rfl (by kernel_rfl) rfl (fun E F w => ?_)
 unfold z44 at h
 refine wq (wg (ws htt 1 rfl (wn (wq (wg (ws htt 1 rfl (wn (wq (wq (wg (wx [] ⟨[(0, .S 0), (2, .O false), (3, .I 0), (4, .I 0)], [], [(0, .sl rR0 l_)], 1⟩ htt 1 (by kernel_rfl) (wn (?_)))))))))))))
 refine wC (σ := Int) (fun st => ⟨[(0, .S 0), (3, .I st)], [], [(0, .sl rR0 l_)], 1⟩) (fun st => z44_k1 l_ st = some r) ?_ (fun j1 => ?_)
 ·intro c h
  replace h : z44_k1 l_ c = some r := h
  unfold z44_k1 at h
  refine wq (wg (wx [4, 5, 6, 7] ⟨[(3, .I c), (38, .O (decide ((l_.length : Int) ≤ 60)))], [], [(0, .sl rR0 l_)], 1⟩ htt 4 (by kernel_rfl) (?_)))
  rcases oc h with ⟨hc, h⟩ | ⟨hc, h⟩
  ·refine wy 38 hc rfl (wx [] ⟨[(2, .O (decide (c ≤ 100)))], [], [(0, .sl rR0 l_)], 1⟩ htt 4 (by kernel_rfl) (wn (?_)))
   cases h
   exact we htt Tryz.func44 [] rfl rfl rfl rfl
  refine wy 38 hc rfl (wx [] ⟨[(2, .O false)], [], [(0, .sl rR0 l_)], 1⟩ htt 4 (by kernel_rfl) (wn (?_)))
  cases h
  exact we htt Tryz.func44 [] rfl rfl rfl rfl
 refine wo (?_)
 refine wI (σ := Int × Int) (fun st => ⟨[(0, .S 0), (3, .I st.1), (4, .I st.2)], [], [(0, .sl rR0 l_)], 1⟩) (fun n st => z44_l2 l_ n st.1 st.2) (r := r) (fun _ => rfl) ?_ (fun ih => ?_)
 ·intro n2 ih3
  rintro ⟨d, e⟩ h
  replace h : z44_l2 l_ (n2 + 1) d e = some r := h
  unfold z44_l2 at h
  refine wq (wq (wg (wx [] ⟨[(0, .S 0), (3, .I d), (4, .I e), (8, .O (decide (e < (l_.length : Int))))], [], [(0, .sl rR0 l_)], 1⟩ htt 4 (by kernel_rfl) (wn (?_)))))
  rcases oc' h with ⟨hc, h⟩ | ⟨hc, h⟩
  ·exact wf hc rfl (wz rfl (wu [] (j1 d h) rfl rfl rfl rfl))
  refine wt hc rfl (wi (wq (wo (wQ (by kernel_rfl) (by kernel_rfl) (qx (rg 3 22) ⟨[(0, .S 0), (4, .I e), (11, .I d), (12, .S 0), (13, .I e)], [], [(0, .sl rR0 l_)], 1⟩ htt 3 (by kernel_rfl) (?_))))))
  obtain ⟨f, g, h⟩ := ob h
  refine WPq.op rfl rfl (VN.vs (VN.ix oO0 htt g rfl rfl rfl rfl rfl rfl rfl)) (qx (rg 9 16) ⟨[(0, .S 0), (4, .I e), (11, .I d), (17, .I (f.Fields.length : Int)), (18, .S 0), (19, .I e)], [], [(0, .sl rR0 l_)], 5⟩ htt 5 (by kernel_rfl) (?_))
  obtain ⟨i, j, h⟩ := ob h
  refine WPq.op rfl rfl (VN.vs (VN.ix oO0 htt j rfl rfl rfl rfl rfl rfl rfl)) (qx (rg 17 8) ⟨[(0, .S 0), (4, .I e), (11, .I d), (25, .I (w64 ((f.Fields.length : Int) + (i.Guard.Diffs.length : Int)))), (26, .S 0), (27, .I e)], [], [(0, .sl rR0 l_)], 9⟩ htt 7 (by kernel_rfl) (?_))
  obtain ⟨k, l, h⟩ := ob h
  exact WPq.op rfl rfl (VN.vs (VN.ix oO0 htt l rfl rfl rfl rfl rfl rfl rfl)) (qx [] ⟨[(0, .S 0), (3, .I (w64 (d + (w64 ((w64 ((f.Fields.length : Int) + (i.Guard.Diffs.length : Int))) + (k.Guard.Equals.length : Int)))))), (4, .I e)], [], [(0, .sl rR0 l_)], 13⟩ htt 7 (by kernel_rfl) (qn (wb (wg (wx [] ⟨[(0, .S 0), (3, .I (w64 (d + (w64 ((w64 ((f.Fields.length : Int) + (i.Guard.Diffs.length : Int))) + (k.Guard.Equals.length : Int)))))), (4, .I (w64 (e + 1)))], [], [(0, .sl rR0 l_)], 13⟩ htt 3 (by kernel_rfl) (wn (wu [] (ih3 ((w64 (d + (w64 ((w64 ((f.Fields.length : Int) + (i.Guard.Diffs.length : Int))) + (k.Guard.Equals.length : Int))))), (w64 (e + 1))) h) rfl rfl rfl rfl)))))))
 exact wu [] (ih N (0, 0) h) rfl rfl rfl rfl
theorem z13_ct (N : Nat) (g_ : T4) (r : Bool) (h : z13 N g_ = some r) :
 Fn Tryz.prog 13 ⟨4, [.a (cC4 0 1 2 3 g_)], (vV4 0 1 2 3 g_ []), [], 4, .O r, [], []⟩ := by
 refine Fn.intro _ _ Tryz.func13 rfl (by kernel_rfl) rfl (fun E F w => ?_)
 unfold z13 at h
 refine wq (wg (ws htt 2 rfl (wn (wq (wg (wx (rg 4 23) ⟨[(1, .B 4 0), (6, .O (decide (g_.States ≤ 40)))], [(4, .box (cC4 0 1 2 3 g_) 27)], (vV4 0 1 2 3 g_ []), 5⟩ htt 4 (by kernel_rfl) (?_)))))))
 rcases oc' h with ⟨hc, h⟩ | ⟨hc, h⟩
 ·refine wy 6 hc rfl (wx [] ⟨[(2, .O false)], [], (vV4 0 1 2 3 g_ []), 5⟩ htt 23 (by kernel_rfl) (wn (?_)))
  cases h
  exact we htt Tryz.func13 [] rfl rfl rfl rfl
 refine wy 6 hc rfl (wx (rg 10 17) ⟨[(1, .B 4 0), (12, .O (decide ((g_.Edges.length : Int) ≤ 80)))], [(4, .box (cC4 0 1 2 3 g_) 27)], (vV4 0 1 2 3 g_ []), 5⟩ htt 6 (by kernel_rfl) (?_))
 rcases oc' h with ⟨hc, h⟩ | ⟨hc, h⟩
 ·refine wy 12 hc rfl (wx [] ⟨[(2, .O false)], [], (vV4 0 1 2 3 g_ []), 5⟩ htt 17 (by kernel_rfl) (wn (?_)))
  cases h
  exact we htt Tryz.func13 [] rfl rfl rfl rfl
 refine wy 12 hc rfl (wx (rg 16 11) ⟨[(1, .B 4 0), (18, .O (decide ((g_.Timeouts.length : Int) ≤ 40)))], [(4, .box (cC4 0 1 2 3 g_) 27)], (vV4 0 1 2 3 g_ []), 5⟩ htt 6 (by kernel_rfl) (?_))
 rcases oc' h with ⟨hc, h⟩ | ⟨hc, h⟩
 ·refine wy 18 hc rfl (wx [] ⟨[(2, .O false)], [], (vV4 0 1 2 3 g_ []), 5⟩ htt 11 (by kernel_rfl) (wn (?_)))
  cases h
  exact we htt Tryz.func13 [] rfl rfl rfl rfl
 refine wy 18 hc rfl (wx [22, 23, 24, 25, 26] ⟨[(1, .B 4 0), (24, .O (decide ((g_.Roles.length : Int) ≤ 10)))], [(4, .box (cC4 0 1 2 3 g_) 27)], (vV4 0 1 2 3 g_ []), 5⟩ htt 6 (by kernel_rfl) (?_))
 rcases oc' h with ⟨hc, h⟩ | ⟨hc, h⟩
 ·refine wy 24 hc rfl (wx [] ⟨[(2, .O false)], [], (vV4 0 1 2 3 g_ []), 5⟩ htt 5 (by kernel_rfl) (wn (?_)))
  cases h
  exact we htt Tryz.func13 [] rfl rfl rfl rfl
 refine wy 24 hc rfl (ws htt 2 rfl (?_))
 obtain ⟨x1, c, h⟩ := ob h
 refine wc (z44_ct N g_.Decls _ c) [(0, .sl 1)] [] rfl rfl rfl rfl rfl rfl rfl rfl (.inl rfl) rfl (wx [] ⟨[(2, .O x1)], [], (vV4 0 1 2 3 g_ []), 5⟩ htt 2 (by kernel_rfl) (wn (?_)))
 cases h
 exact we htt Tryz.func13 [] rfl rfl rfl rfl
theorem z169_ct (N : Nat) (c_ : Int) (r : Bool) (h : z169 N c_ = some r) :
 Fn Tryz.prog 169 ⟨0, [.c (.i .u8 c_)], [], [], 0, .O r, [], []⟩ := by
 refine Fn.intro _ _ Tryz.func169 rfl (by kernel_rfl) rfl (fun E F w => ?_)
 unfold z169 at h
 refine wq (wg (ws htt 1 rfl (wn (wq (wg (wx (rg 3 12) ⟨[(0, .c (.i .u8 c_)), (5, .O (decide (c_ ≥ 97)))], [], [], 0⟩ htt 3 (by kernel_rfl) (?_)))))))
 rcases oc' h with ⟨hc, h⟩ | ⟨hc, h⟩
 ·refine wy 5 hc rfl (wx [10, 11, 12, 13, 14] ⟨[(0, .c (.i .u8 c_)), (9, .O false), (12, .O (decide (c_ ≥ 65)))], [], [], 0⟩ htt 7 (by kernel_rfl) (?_))
  rcases oc h with ⟨hc, h⟩ | ⟨hc, h⟩
  ·refine wy 12 hc rfl (wx [] ⟨[(2, .O (decide (c_ ≤ 90)))], [], [], 0⟩ htt 5 (by kernel_rfl) (wn (?_)))
   cases h
   exact we htt Tryz.func169 [] rfl rfl rfl rfl
  refine wy 12 hc rfl (wx [] ⟨[(2, .O false)], [], [], 0⟩ htt 5 (by kernel_rfl) (wn (?_)))
  cases h
  exact we htt Tryz.func169 [] rfl rfl rfl rfl
 refine wy 5 hc rfl (wx (rg 7 8) ⟨[(0, .c (.i .u8 c_)), (9, .O (decide (c_ ≤ 122)))], [], [], 0⟩ htt 4 (by kernel_rfl) (?_))
 rcases oc h with ⟨hc, h⟩ | ⟨hc, h⟩
 ·refine wy 9 hc rfl (wx [] ⟨[(2, .O true)], [], [], 0⟩ htt 8 (by kernel_rfl) (wn (?_)))
  cases h
  exact we htt Tryz.func169 [] rfl rfl rfl rfl
 refine wy 9 hc rfl (wx [10, 11, 12, 13, 14] ⟨[(0, .c (.i .u8 c_)), (9, .O false), (12, .O (decide (c_ ≥ 65)))], [], [], 0⟩ htt 3 (by kernel_rfl) (?_))
 rcases oc h with ⟨hc, h⟩ | ⟨hc, h⟩
 ·refine wy 12 hc rfl (wx [] ⟨[(2, .O (decide (c_ ≤ 90)))], [], [], 0⟩ htt 5 (by kernel_rfl) (wn (?_)))
  cases h
  exact we htt Tryz.func169 [] rfl rfl rfl rfl
 refine wy 12 hc rfl (wx [] ⟨[(2, .O false)], [], [], 0⟩ htt 5 (by kernel_rfl) (wn (?_)))
 cases h
 exact we htt Tryz.func169 [] rfl rfl rfl rfl
theorem z184_ct (N : Nat) (c_ : Int) (r : Bool) (h : z184 N c_ = some r) :
 Fn Tryz.prog 184 ⟨0, [.c (.i .u8 c_)], [], [], 0, .O r, [], []⟩ := by
 refine Fn.intro _ _ Tryz.func184 rfl (by kernel_rfl) rfl (fun E F w => ?_)
 unfold z184 at h
 refine wq (wg (ws htt 1 rfl (wn (wq (wg (wx [3, 4, 5, 6] ⟨[(0, .c (.i .u8 c_)), (5, .O (decide (c_ ≥ 48)))], [], [], 0⟩ htt 3 (by kernel_rfl) (?_)))))))
 rcases oc h with ⟨hc, h⟩ | ⟨hc, h⟩
 ·refine wy 5 hc rfl (wx [] ⟨[(2, .O (decide (c_ ≤ 57)))], [], [], 0⟩ htt 4 (by kernel_rfl) (wn (?_)))
  cases h
  exact we htt Tryz.func184 [] rfl rfl rfl rfl
 refine wy 5 hc rfl (wx [] ⟨[(2, .O false)], [], [], 0⟩ htt 4 (by kernel_rfl) (wn (?_)))
 cases h
 exact we htt Tryz.func184 [] rfl rfl rfl rfl
theorem z170_ct (N : Nat) (c_ : Int) (r : Bool) (h : z170 N c_ = some r) :
 Fn Tryz.prog 170 ⟨0, [.c (.i .u8 c_)], [], [], 0, .O r, [], []⟩ := by
 refine Fn.intro _ _ Tryz.func170 rfl (by kernel_rfl) rfl (fun E F w => ?_)
 unfold z170 at h
 refine wq (wg (ws htt 1 rfl (wn (wq (wg (ws htt 1 rfl (?_)))))))
 obtain ⟨x1, d, h⟩ := ob h
 refine wc (z169_ct N c_ _ d) [] [] rfl rfl rfl rfl rfl rfl rfl rfl (.inl rfl) rfl (wx (rg 3 8) ⟨[(0, .c (.i .u8 c_)), (5, .O x1)], [], [], 0⟩ htt 1 (by kernel_rfl) (?_))
 rcases oc h with ⟨hc, h⟩ | ⟨hc, h⟩
 ·refine wy 5 hc rfl (wx [] ⟨[(2, .O true)], [], [], 0⟩ htt 8 (by kernel_rfl) (wn (?_)))
  cases h
  exact we htt Tryz.func170 [] rfl rfl rfl rfl
 refine wy 5 hc rfl (ws htt 1 rfl (?_))
 obtain ⟨x2, e, h⟩ := ob h
 refine wc (z184_ct N c_ _ e) [] [] rfl rfl rfl rfl rfl rfl rfl rfl (.inl rfl) rfl (wx [7, 8, 9, 10] ⟨[(0, .c (.i .u8 c_)), (9, .O x2)], [], [], 0⟩ htt 2 (by kernel_rfl) (?_))
 rcases oc h with ⟨hc, h⟩ | ⟨hc, h⟩
 ·refine wy 9 hc rfl (wx [] ⟨[(2, .O true)], [], [], 0⟩ htt 4 (by kernel_rfl) (wn (?_)))
  cases h
  exact we htt Tryz.func170 [] rfl rfl rfl rfl
 refine wy 9 hc rfl (wx [] ⟨[(2, .O (c_ == 95))], [], [], 0⟩ htt 4 (by kernel_rfl) (wn (?_)))
 cases h
 exact we htt Tryz.func170 [] rfl rfl rfl rfl
theorem z148_ct (N : Nat) (s_ : ByteArray) (r : Bool) (h : z148 N s_ = some r) :
 Fn Tryz.prog 148 ⟨0, [.c (.s s_)], [], [], 0, .O r, [], []⟩ := by
 refine Fn.intro _ _ Tryz.func148 rfl (by kernel_rfl) rfl (fun E F w => ?_)
 unfold z148 at h
 refine wq (wg (ws htt 1 rfl (wn (wq (wq (wg (wx (rg 3 10) ⟨[(0, .c (.s s_)), (2, .O false), (6, .O (s_.toList == (str []).toList))], [], [], 0⟩ htt 3 (by kernel_rfl) (?_))))))))
 rcases oc h with ⟨hc, h⟩ | ⟨hc, h⟩
 ·refine wy 6 hc rfl (wx [] ⟨[(0, .c (.s s_)), (2, .O false), (16, .O true)], [], [], 0⟩ htt 10 (by kernel_rfl) (wn (wt rfl rfl (wq (wg (ws htt 1 rfl (wn (?_))))))))
  cases h
  exact we htt Tryz.func148 [] rfl rfl rfl rfl
 refine wy 6 hc rfl (ws htt 1 rfl (?_))
 obtain ⟨x1, d, h⟩ := ob h
 refine WPr.sx htt d rfl rfl rfl rfl rfl rfl rfl rfl rfl (?_)
 obtain ⟨x2, e, h⟩ := ob h
 refine wc (z169_ct N x1 _ e) [] [] rfl rfl rfl rfl rfl rfl rfl rfl (.inl rfl) rfl (wx [9, 10, 11, 12] ⟨[(0, .c (.s s_)), (2, .O false), (12, .O (!x2))], [], [], 0⟩ htt 3 (by kernel_rfl) (?_))
 rcases oc h with ⟨hc, h⟩ | ⟨hc, h⟩
 ·refine wy 12 hc rfl (wx [] ⟨[(0, .c (.s s_)), (2, .O false), (16, .O true)], [], [], 0⟩ htt 4 (by kernel_rfl) (wn (wt rfl rfl (wq (wg (ws htt 1 rfl (wn (?_))))))))
  cases h
  exact we htt Tryz.func148 [] rfl rfl rfl rfl
 refine wy 12 hc rfl (wx [] ⟨[(0, .c (.s s_)), (2, .O false), (16, .O (decide ((s_.size : Int) > 16)))], [], [], 0⟩ htt 4 (by kernel_rfl) (wn (?_)))
 rcases oc h with ⟨hc, h⟩ | ⟨hc, h⟩
 ·refine wt hc rfl (wq (wg (ws htt 1 rfl (wn (?_)))))
  cases h
  exact we htt Tryz.func148 [] rfl rfl rfl rfl
 refine wf hc rfl (wi (wq (wq (wg (ws htt 1 rfl (wn (?_)))))))
 refine wC (σ := Unit) (fun st => ⟨[], [], [], 0⟩) (fun st => z148_k1 = some r) ?_ (fun j1 => ?_)
 ·intro _ h
  replace h : z148_k1 = some r := h
  unfold z148_k1 at h
  refine wq (wg (ws htt 1 rfl (wn (?_))))
  cases h
  exact we htt Tryz.func148 [] rfl rfl rfl rfl
 refine wo (?_)
 refine wI (σ := Int) (fun st => ⟨[(0, .c (.s s_)), (3, .I st)], [], [], 0⟩) (fun n st => z148_l2 N s_ n st) (r := r) (fun _ => rfl) ?_ (fun ih => ?_)
 ·intro n2 ih3
  intro f h
  replace h : z148_l2 N s_ (n2 + 1) f = some r := h
  unfold z148_l2 at h
  refine wq (wq (wg (wx [] ⟨[(0, .c (.s s_)), (3, .I f), (20, .O (decide (f < (s_.size : Int))))], [], [], 0⟩ htt 4 (by kernel_rfl) (wn (?_)))))
  rcases oc' h with ⟨hc, h⟩ | ⟨hc, h⟩
  ·exact wf hc rfl (wz rfl (wu [] (j1 () h) rfl rfl rfl rfl))
  refine wt hc rfl (wi (wq (wo (wq (wg (ws htt 2 rfl (?_)))))))
  obtain ⟨g, j, h⟩ := ob h
  refine WPr.sx htt j rfl rfl rfl rfl rfl rfl rfl rfl rfl (wx [3, 4] ⟨[(0, .c (.s s_)), (3, .I f), (25, .c (.i .u8 g))], [], [], 0⟩ htt 0 (by kernel_rfl) (?_))
  obtain ⟨k, l, h⟩ := ob h
  refine wc (z170_ct N g _ l) [] [] rfl rfl rfl rfl rfl rfl rfl rfl (.inl rfl) rfl (wx [] ⟨[(0, .c (.s s_)), (3, .I f), (27, .O (!k))], [], [], 0⟩ htt 1 (by kernel_rfl) (wn (?_)))
  rcases oc h with ⟨hc, h⟩ | ⟨hc, h⟩
  ·refine wt hc rfl (wq (wg (ws htt 1 rfl (wn (?_)))))
   cases h
   exact we htt Tryz.func148 [] rfl rfl rfl rfl
  exact wf hc rfl (wi (wb (wg (wx [] ⟨[(0, .c (.s s_)), (3, .I (w64 (f + 1)))], [], [], 0⟩ htt 3 (by kernel_rfl) (wn (wu [] (ih3 (w64 (f + 1)) h) rfl rfl rfl rfl))))))
 exact wu [] (ih N 0 h) rfl rfl rfl rfl
theorem z150_ct (N : Nat) (r : (List ByteArray)) (h : z150 N = some r) :
 Fn Tryz.prog 150 ⟨0, [], [], [], 1, .S 0, [], [(0, .own rS r true)]⟩ := by
 refine Fn.intro _ _ Tryz.func150 rfl (by kernel_rfl) rfl (fun E F w => ?_)
 unfold z150 at h
 refine wq (wg (ws htt 1 rfl (wn (wq (wg (WPr.bs (cs := [.s (str [97, 103, 97, 105, 110]), .s (str [97, 110, 100]), .s (str [97, 115]), .s (str [97, 116]), .s (str [99, 97, 108, 108]), .s (str [99, 104, 111, 105, 99, 101]), .s (str [101, 108, 115, 101]), .s (str [102, 114, 111, 109]), .s (str [105, 102]), .s (str [105, 110, 116]), .s (str [108, 101, 110]), .s (str [108, 111, 111, 112]), .s (str [109, 101, 115, 115, 97, 103, 101]), .s (str [111, 102]), .s (str [111, 102, 102, 101, 114]), .s (str [111, 110]), .s (str [111, 114]), .s (str [112, 97, 114]), .s (str [112, 108, 97, 121, 115]), .s (str [112, 114, 111, 116, 111, 99, 111, 108]), .s (str [115, 101, 114, 118, 105, 99, 101]), .s (str [116, 101, 120, 116]), .s (str [116, 105, 109, 101, 115]), .s (str [116, 111]), .s (str [118, 97, 114]), .s (str [119, 104, 101, 114, 101]), .s (str [119, 104, 105, 108, 101]), .s (str [119, 105, 116, 104, 105, 110])]) oS htt ([(str [97, 103, 97, 105, 110]), (str [97, 110, 100]), (str [97, 115]), (str [97, 116]), (str [99, 97, 108, 108]), (str [99, 104, 111, 105, 99, 101]), (str [101, 108, 115, 101]), (str [102, 114, 111, 109]), (str [105, 102]), (str [105, 110, 116]), (str [108, 101, 110]), (str [108, 111, 111, 112]), (str [109, 101, 115, 115, 97, 103, 101]), (str [111, 102]), (str [111, 102, 102, 101, 114]), (str [111, 110]), (str [111, 114]), (str [112, 97, 114]), (str [112, 108, 97, 121, 115]), (str [112, 114, 111, 116, 111, 99, 111, 108]), (str [115, 101, 114, 118, 105, 99, 101]), (str [116, 101, 120, 116]), (str [116, 105, 109, 101, 115]), (str [116, 111]), (str [118, 97, 114]), (str [119, 104, 101, 114, 101]), (str [119, 104, 105, 108, 101]), (str [119, 105, 116, 104, 105, 110])] : List ByteArray) rfl rfl rfl rfl rfl rfl (by kernel_rfl) (by exact (an rfl (an rfl (an rfl (an rfl (an rfl (an rfl (an rfl (an rfl (an rfl (an rfl (an rfl (an rfl (an rfl (an rfl (an rfl (an rfl (an rfl (an rfl (an rfl (an rfl (an rfl (an rfl (an rfl (an rfl (an rfl (an rfl (an rfl (an rfl rfl))))))))))))))))))))))))))))) rfl (wx [] ⟨[(0, .S 0)], [(0, .own rS ([(str [97, 103, 97, 105, 110]), (str [97, 110, 100]), (str [97, 115]), (str [97, 116]), (str [99, 97, 108, 108]), (str [99, 104, 111, 105, 99, 101]), (str [101, 108, 115, 101]), (str [102, 114, 111, 109]), (str [105, 102]), (str [105, 110, 116]), (str [108, 101, 110]), (str [108, 111, 111, 112]), (str [109, 101, 115, 115, 97, 103, 101]), (str [111, 102]), (str [111, 102, 102, 101, 114]), (str [111, 110]), (str [111, 114]), (str [112, 97, 114]), (str [112, 108, 97, 121, 115]), (str [112, 114, 111, 116, 111, 99, 111, 108]), (str [115, 101, 114, 118, 105, 99, 101]), (str [116, 101, 120, 116]), (str [116, 105, 109, 101, 115]), (str [116, 111]), (str [118, 97, 114]), (str [119, 104, 101, 114, 101]), (str [119, 104, 105, 108, 101]), (str [119, 105, 116, 104, 105, 110])] : List ByteArray) true)], [], 1⟩ htt 1 (by kernel_rfl) (wn (?_)))))))))
 cases h
 exact we htt Tryz.func150 [(0, .sl 0)] rfl rfl rfl rfl
theorem z149_ct (N : Nat) (l_ : (List ByteArray)) (s_ : ByteArray) (r : Bool) (h : z149 N l_ s_ = some r) :
 Fn Tryz.prog 149 ⟨1, [.S 0, .c (.s s_)], [(0, .sl rS l_)], [], 1, .O r, [], []⟩ := by
 refine Fn.intro _ _ Tryz.func149 rfl (by kernel_rfl) rfl (fun E F w => ?_)
 unfold z149 at h
 refine wq (wg (ws htt 1 rfl (wn (wq (wq (wg (ws htt 1 rfl (wn (?_)))))))))
 refine wC (σ := Unit) (fun st => ⟨[], [], [(0, .sl rS l_)], 1⟩) (fun st => z149_k1 = some r) ?_ (fun j1 => ?_)
 ·intro _ h
  replace h : z149_k1 = some r := h
  unfold z149_k1 at h
  refine wq (wg (ws htt 1 rfl (wn (?_))))
  cases h
  exact we htt Tryz.func149 [] rfl rfl rfl rfl
 refine wo (?_)
 refine wI (σ := Int) (fun st => ⟨[(0, .S 0), (1, .c (.s s_)), (5, .I st)], [], [(0, .sl rS l_)], 1⟩) (fun n st => z149_l2 l_ s_ n st) (r := r) (fun _ => rfl) ?_ (fun ih => ?_)
 ·intro n2 ih3
  intro d h
  replace h : z149_l2 l_ s_ (n2 + 1) d = some r := h
  unfold z149_l2 at h
  refine wq (wq (wg (wx [] ⟨[(0, .S 0), (1, .c (.s s_)), (5, .I d), (9, .O (decide (d < (l_.length : Int))))], [], [(0, .sl rS l_)], 1⟩ htt 4 (by kernel_rfl) (wn (?_)))))
  rcases oc' h with ⟨hc, h⟩ | ⟨hc, h⟩
  ·exact wf hc rfl (wz rfl (wu [] (j1 () h) rfl rfl rfl rfl))
  refine wt hc rfl (wi (wq (wo (wq (wg (ws htt 2 rfl (?_)))))))
  obtain ⟨x9, e, h⟩ := ob h
  refine wj oS htt e rfl rfl rfl rfl rfl rfl rfl rfl rfl (wx [] ⟨[(0, .S 0), (1, .c (.s s_)), (5, .I d), (17, .O (x9.toList == s_.toList))], [], [(0, .sl rS l_)], 2⟩ htt 3 (by kernel_rfl) (wn (?_)))
  rcases oc h with ⟨hc, h⟩ | ⟨hc, h⟩
  ·refine wt hc rfl (wq (wg (ws htt 1 rfl (wn (?_)))))
   cases h
   exact we htt Tryz.func149 [] rfl rfl rfl rfl
  exact wf hc rfl (wi (wb (wg (wx [] ⟨[(0, .S 0), (1, .c (.s s_)), (5, .I (w64 (d + 1)))], [], [(0, .sl rS l_)], 2⟩ htt 3 (by kernel_rfl) (wn (wu [] (ih3 (w64 (d + 1)) h) rfl rfl rfl rfl))))))
 exact wu [] (ih N 0 h) rfl rfl rfl rfl
theorem z112_ct (N : Nat) (s_ : ByteArray) (r : Bool) (h : z112 N s_ = some r) :
 Fn Tryz.prog 112 ⟨0, [.c (.s s_)], [], [], 0, .O r, [], []⟩ := by
 refine Fn.intro _ _ Tryz.func112 rfl (by kernel_rfl) rfl (fun E F w => ?_)
 unfold z112 at h
 refine wq (wg (ws htt 1 rfl (wn (wq (wg (ws htt 1 rfl (?_)))))))
 obtain ⟨x1, d, h⟩ := ob h
 refine wc (z148_ct N s_ _ d) [] [] rfl rfl rfl rfl rfl rfl rfl rfl (.inl rfl) rfl (wx (rg 3 6) ⟨[(0, .c (.s s_)), (5, .O x1)], [], [], 0⟩ htt 1 (by kernel_rfl) (?_))
 rcases oc' h with ⟨hc, h⟩ | ⟨hc, h⟩
 ·refine wy 5 hc rfl (wx [] ⟨[(2, .O false)], [], [], 0⟩ htt 6 (by kernel_rfl) (wn (?_)))
  cases h
  exact we htt Tryz.func112 [] rfl rfl rfl rfl
 refine wy 5 hc rfl (?_)
 obtain ⟨x2, e, h⟩ := ob h
 refine wc (z150_ct N _ e) [] [] rfl rfl rfl rfl rfl rfl rfl rfl (.inl rfl) rfl (wx [5, 6, 7, 8] ⟨[(5, .O true), (6, .S 0), (7, .c (.s s_))], [(0, .own rS x2 true)], [], 1⟩ htt 1 (by kernel_rfl) (?_))
 obtain ⟨x3, f, h⟩ := ob h
 refine wc (z149_ct N x2 s_ _ f) [(0, .sl 0)] [0] rfl rfl rfl rfl rfl rfl rfl rfl (.inr ⟨rfl, trivial⟩) rfl (wx [] ⟨[(2, .O (!x3))], [], [], 1⟩ htt 3 (by kernel_rfl) (wn (?_)))
 cases h
 exact we htt Tryz.func112 [] rfl rfl rfl rfl
theorem z76_ct (N : Nat) (l_ : (List ByteArray)) (s_ : ByteArray) (r : Int) (h : z76 N l_ s_ = some r) :
 Fn Tryz.prog 76 ⟨1, [.S 0, .c (.s s_)], [(0, .sl rS l_)], [], 1, .I r, [], []⟩ := by
 refine Fn.intro _ _ Tryz.func76 rfl (by kernel_rfl) rfl (fun E F w => ?_)
 unfold z76 at h
 refine wq (wg (ws htt 1 rfl (wn (wq (wq (wg (ws htt 1 rfl (wn (?_)))))))))
 refine wC (σ := Unit) (fun st => ⟨[], [], [(0, .sl rS l_)], 1⟩) (fun st => z76_k1 = some r) ?_ (fun j1 => ?_)
 ·intro _ h
  replace h : z76_k1 = some r := h
  unfold z76_k1 at h
  refine wq (wg (ws htt 1 rfl (wn (?_))))
  cases h
  exact we htt Tryz.func76 [] rfl rfl rfl rfl
 refine wo (?_)
 refine wI (σ := Int) (fun st => ⟨[(0, .S 0), (1, .c (.s s_)), (5, .I st)], [], [(0, .sl rS l_)], 1⟩) (fun n st => z76_l2 l_ s_ n st) (r := r) (fun _ => rfl) ?_ (fun ih => ?_)
 ·intro n2 ih3
  intro d h
  replace h : z76_l2 l_ s_ (n2 + 1) d = some r := h
  unfold z76_l2 at h
  refine wq (wq (wg (wx [] ⟨[(0, .S 0), (1, .c (.s s_)), (5, .I d), (9, .O (decide (d < (l_.length : Int))))], [], [(0, .sl rS l_)], 1⟩ htt 4 (by kernel_rfl) (wn (?_)))))
  rcases oc' h with ⟨hc, h⟩ | ⟨hc, h⟩
  ·exact wf hc rfl (wz rfl (wu [] (j1 () h) rfl rfl rfl rfl))
  refine wt hc rfl (wi (wq (wo (wq (wg (ws htt 2 rfl (?_)))))))
  obtain ⟨x9, e, h⟩ := ob h
  refine wj oS htt e rfl rfl rfl rfl rfl rfl rfl rfl rfl (wx [] ⟨[(0, .S 0), (1, .c (.s s_)), (5, .I d), (17, .O (x9.toList == s_.toList))], [], [(0, .sl rS l_)], 2⟩ htt 3 (by kernel_rfl) (wn (?_)))
  rcases oc h with ⟨hc, h⟩ | ⟨hc, h⟩
  ·refine wt hc rfl (wq (wg (ws htt 2 rfl (wn (?_)))))
   cases h
   exact we htt Tryz.func76 [] rfl rfl rfl rfl
  exact wf hc rfl (wi (wb (wg (wx [] ⟨[(0, .S 0), (1, .c (.s s_)), (5, .I (w64 (d + 1)))], [], [(0, .sl rS l_)], 2⟩ htt 3 (by kernel_rfl) (wn (wu [] (ih3 (w64 (d + 1)) h) rfl rfl rfl rfl))))))
 exact wu [] (ih N 0 h) rfl rfl rfl rfl
theorem z151_ct (N : Nat) (decls_ : (List T0)) (r : Int) (h : z151 N decls_ = some r) :
 Fn Tryz.prog 151 ⟨1, [.S 0], [(0, .sl rR0 decls_)], [], 1, .I r, [], []⟩ := by
 refine Fn.intro _ _ Tryz.func151 rfl (by kernel_rfl) rfl (fun E F w => ?_)
 unfold z151 at h
 refine wq (wg (ws htt 1 rfl (wn (wq (wg (ws htt 1 rfl (wn (wq (wq (wg (wx [] ⟨[(0, .S 0), (2, .I 0), (3, .I 0), (4, .I 0)], [], [(0, .sl rR0 decls_)], 1⟩ htt 1 (by kernel_rfl) (wn (?_)))))))))))))
 refine wC (σ := Int) (fun st => ⟨[(3, .I st)], [], [(0, .sl rR0 decls_)], 1⟩) (fun st => z151_k1 st = some r) ?_ (fun j1 => ?_)
 ·intro c h
  replace h : z151_k1 c = some r := h
  unfold z151_k1 at h
  refine wq (wg (ws htt 2 rfl (wn (?_))))
  cases h
  exact we htt Tryz.func151 [] rfl rfl rfl rfl
 refine wo (?_)
 refine wI (σ := Int × Int) (fun st => ⟨[(0, .S 0), (3, .I st.1), (4, .I st.2)], [], [(0, .sl rR0 decls_)], 1⟩) (fun n st => z151_l2 decls_ n st.1 st.2) (r := r) (fun _ => rfl) ?_ (fun ih => ?_)
 ·intro n2 ih3
  rintro ⟨d, e⟩ h
  replace h : z151_l2 decls_ (n2 + 1) d e = some r := h
  unfold z151_l2 at h
  refine wq (wq (wg (wx [] ⟨[(0, .S 0), (3, .I d), (4, .I e), (8, .O (decide (e < (decls_.length : Int))))], [], [(0, .sl rR0 decls_)], 1⟩ htt 4 (by kernel_rfl) (wn (?_)))))
  rcases oc' h with ⟨hc, h⟩ | ⟨hc, h⟩
  ·exact wf hc rfl (wz rfl (wu [] (j1 d h) rfl rfl rfl rfl))
  refine wt hc rfl (wi (wq (wo (wg (wx (rg 3 6) ⟨[(0, .S 0), (4, .I e), (11, .I d), (12, .S 0), (13, .I e)], [], [(0, .sl rR0 decls_)], 1⟩ htt 3 (by kernel_rfl) (?_))))))
  obtain ⟨x9, f, h⟩ := ob h
  exact wj oO0 htt f rfl rfl rfl rfl rfl rfl rfl rfl rfl (wx [] ⟨[(0, .S 0), (3, .I (w64 (d + (x9.Fields.length : Int)))), (4, .I e)], [], [(0, .sl rR0 decls_)], 5⟩ htt 5 (by kernel_rfl) (wn (wb (wg (wx [] ⟨[(0, .S 0), (3, .I (w64 (d + (x9.Fields.length : Int)))), (4, .I (w64 (e + 1)))], [], [(0, .sl rR0 decls_)], 5⟩ htt 3 (by kernel_rfl) (wn (wu [] (ih3 ((w64 (d + (x9.Fields.length : Int))), (w64 (e + 1))) h) rfl rfl rfl rfl)))))))
 exact wu [] (ih N (0, 0) h) rfl rfl rfl rfl
theorem z152_ct (N : Nat) (s_ : T7) (r : Bool) (h : z152 N s_ = some r) :
 Fn Tryz.prog 152 ⟨0, [.a (cC7 s_)], [], [], 0, .O r, [], []⟩ := by
 refine Fn.intro _ _ Tryz.func152 rfl (by kernel_rfl) rfl (fun E F w => ?_)
 unfold z152 at h
 refine wq (wg (ws htt 2 rfl (wn (wq (wg (wx [] ⟨[(1, .B 0 0), (2, .O false), (3, .I (-1000)), (4, .I 1000)], [(0, .box (cC7 s_) 139)], [], 1⟩ htt 2 (by kernel_rfl) (wn (wq (wq (wg (wx [] ⟨[(1, .B 0 0), (2, .O false), (3, .I (-1000)), (4, .I 1000), (7, .O (s_.Kind == 2))], [(0, .box (cC7 s_) 139)], [], 1⟩ htt 3 (by kernel_rfl) (wn (?_)))))))))))))
 refine wC (σ := Int × Int) (fun st => ⟨[(1, .B 0 0), (3, .I st.1), (4, .I st.2)], [(0, .box (cC7 s_) 139)], [], 1⟩) (fun st => z152_k1 s_ st.1 st.2 = some r) ?_ (fun j1 => ?_)
 ·rintro ⟨c, d⟩ h
  replace h : z152_k1 s_ c d = some r := h
  unfold z152_k1 at h
  refine wq (wg (wx (rg 4 24) ⟨[(1, .B 0 0), (3, .I c), (4, .I d), (11, .O (s_.Kind == 1))], [(0, .box (cC7 s_) 139)], [], 1⟩ htt 4 (by kernel_rfl) (?_)))
  rcases oc h with ⟨hc, h⟩ | ⟨hc, h⟩
  ·refine wy 11 hc rfl (wx (rg 15 13) ⟨[(1, .B 0 0), (4, .I d), (22, .O (decide (s_.Lo ≥ c)))], [(0, .box (cC7 s_) 139)], [], 1⟩ htt 11 (by kernel_rfl) (?_))
   rcases oc' h with ⟨hc, h⟩ | ⟨hc, h⟩
   ·refine wy 22 hc rfl (wx [] ⟨[(2, .O false)], [], [], 1⟩ htt 13 (by kernel_rfl) (wn (?_)))
    cases h
    exact we htt Tryz.func152 [] rfl rfl rfl rfl
   refine wy 22 hc rfl (wx (rg 21 7) ⟨[(1, .B 0 0), (28, .O (decide (s_.Hi ≤ d)))], [(0, .box (cC7 s_) 139)], [], 1⟩ htt 6 (by kernel_rfl) (?_))
   rcases oc h with ⟨hc, h⟩ | ⟨hc, h⟩
   ·refine wy 28 hc rfl (wx [] ⟨[(2, .O (decide (s_.Lo ≤ s_.Hi)))], [], [], 1⟩ htt 7 (by kernel_rfl) (wn (?_)))
    cases h
    exact we htt Tryz.func152 [] rfl rfl rfl rfl
   refine wy 28 hc rfl (wx [] ⟨[(2, .O false)], [], [], 1⟩ htt 7 (by kernel_rfl) (wn (?_)))
   cases h
   exact we htt Tryz.func152 [] rfl rfl rfl rfl
  refine wy 11 hc rfl (wx (rg 9 19) ⟨[(1, .B 0 0), (3, .I c), (4, .I d), (16, .O (s_.Kind == 2))], [(0, .box (cC7 s_) 139)], [], 1⟩ htt 5 (by kernel_rfl) (?_))
  rcases oc' h with ⟨hc, h⟩ | ⟨hc, h⟩
  ·refine wy 16 hc rfl (wx [] ⟨[(2, .O false)], [], [], 1⟩ htt 19 (by kernel_rfl) (wn (?_)))
   cases h
   exact we htt Tryz.func152 [] rfl rfl rfl rfl
  refine wy 16 hc rfl (wx (rg 15 13) ⟨[(1, .B 0 0), (4, .I d), (22, .O (decide (s_.Lo ≥ c)))], [(0, .box (cC7 s_) 139)], [], 1⟩ htt 6 (by kernel_rfl) (?_))
  rcases oc' h with ⟨hc, h⟩ | ⟨hc, h⟩
  ·refine wy 22 hc rfl (wx [] ⟨[(2, .O false)], [], [], 1⟩ htt 13 (by kernel_rfl) (wn (?_)))
   cases h
   exact we htt Tryz.func152 [] rfl rfl rfl rfl
  refine wy 22 hc rfl (wx (rg 21 7) ⟨[(1, .B 0 0), (28, .O (decide (s_.Hi ≤ d)))], [(0, .box (cC7 s_) 139)], [], 1⟩ htt 6 (by kernel_rfl) (?_))
  rcases oc h with ⟨hc, h⟩ | ⟨hc, h⟩
  ·refine wy 28 hc rfl (wx [] ⟨[(2, .O (decide (s_.Lo ≤ s_.Hi)))], [], [], 1⟩ htt 7 (by kernel_rfl) (wn (?_)))
   cases h
   exact we htt Tryz.func152 [] rfl rfl rfl rfl
  refine wy 28 hc rfl (wx [] ⟨[(2, .O false)], [], [], 1⟩ htt 7 (by kernel_rfl) (wn (?_)))
  cases h
  exact we htt Tryz.func152 [] rfl rfl rfl rfl
 rcases oc h with ⟨hc, h⟩ | ⟨hc, h⟩
 ·exact wt hc rfl (wg (ws htt 2 rfl (wn (wu [] (j1 (0, 40) h) rfl rfl rfl rfl))))
 exact wf hc rfl (wi (wu [] (j1 ((-1000), 1000) h) rfl rfl rfl rfl))
theorem z171_ct (N : Nat) (s_ : ByteArray) (r : Bool) (h : z171 N s_ = some r) :
 Fn Tryz.prog 171 ⟨0, [.c (.s s_)], [], [], 0, .O r, [], []⟩ := by
 refine Fn.intro _ _ Tryz.func171 rfl (by kernel_rfl) rfl (fun E F w => ?_)
 unfold z171 at h
 refine wq (wg (ws htt 1 rfl (wn (wq (wg (ws htt 1 rfl (?_)))))))
 obtain ⟨x1, d, h⟩ := ob h
 refine wc (z112_ct N s_ _ d) [] [] rfl rfl rfl rfl rfl rfl rfl rfl (.inl rfl) rfl (wx [] ⟨[(2, .O x1)], [], [], 0⟩ htt 1 (by kernel_rfl) (wn (?_)))
 cases h
 exact we htt Tryz.func171 [] rfl rfl rfl rfl
theorem z153_ct (N : Nat) (s_ : ByteArray) (r : Bool) (h : z153 N s_ = some r) :
 Fn Tryz.prog 153 ⟨0, [.c (.s s_)], [], [], 0, .O r, [], []⟩ := by
 refine Fn.intro _ _ Tryz.func153 rfl (by kernel_rfl) rfl (fun E F w => ?_)
 unfold z153 at h
 refine wq (wg (ws htt 1 rfl (wn (wq (wg (ws htt 1 rfl (wn (wq (wq (wg (wx [] ⟨[(0, .c (.s s_)), (2, .O false), (3, .I 0), (4, .I 0)], [], [], 0⟩ htt 1 (by kernel_rfl) (wn (?_)))))))))))))
 refine wC (σ := Unit) (fun st => ⟨[(0, .c (.s s_))], [], [], 0⟩) (fun st => z153_k1 s_ = some r) ?_ (fun j1 => ?_)
 ·intro _ h
  replace h : z153_k1 s_ = some r := h
  unfold z153_k1 at h
  refine wq (wg (wx [] ⟨[(2, .O (decide ((s_.size : Int) ≤ 50)))], [], [], 0⟩ htt 4 (by kernel_rfl) (wn (?_))))
  cases h
  exact we htt Tryz.func153 [] rfl rfl rfl rfl
 refine wo (?_)
 refine wI (σ := Int × Int) (fun st => ⟨[(0, .c (.s s_)), (3, .I st.1), (4, .I st.2)], [], [], 0⟩) (fun n st => z153_l2 N s_ n st.1 st.2) (r := r) (fun _ => rfl) ?_ (fun ih => ?_)
 ·intro n2 ih6
  rintro ⟨d, e⟩ h
  replace h : z153_l2 N s_ (n2 + 1) d e = some r := h
  unfold z153_l2 at h
  refine wq (wq (wg (wx [] ⟨[(0, .c (.s s_)), (3, .I d), (4, .I e), (8, .O (decide (e ≤ (s_.size : Int))))], [], [], 0⟩ htt 4 (by kernel_rfl) (wn (?_)))))
  rcases oc' h with ⟨hc, h⟩ | ⟨hc, h⟩
  ·exact wf hc rfl (wz rfl (wu [] (j1 () h) rfl rfl rfl rfl))
  refine wt hc rfl (wi (wq (wo (wq (wg (wx [5, 6, 7, 8, 9] ⟨[(0, .c (.s s_)), (3, .I d), (4, .I e), (15, .O (e == (s_.size : Int)))], [], [], 0⟩ htt 5 (by kernel_rfl) (?_)))))))
  refine WP.cutr (σ := Bool) (fun st => ⟨[(0, .c (.s s_)), (3, .I d), (4, .I e), (20, .O st)], [], [], 0⟩) (fun st => z153_k3 N s_ d e (z153_l2 N s_ n2) st = some r) ?_ (fun j9 => ?_)
  ·intro f h
   replace h : z153_k3 N s_ d e (z153_l2 N s_ n2) f = some r := h
   unfold z153_k3 at h
   rcases oc' h with ⟨hc, h⟩ | ⟨hc, h⟩
   ·exact wf hc rfl (wi (wb (wg (wx [] ⟨[(0, .c (.s s_)), (3, .I d), (4, .I (w64 (e + 1)))], [], [], 0⟩ htt 3 (by kernel_rfl) (wn (wu [] (ih6 (d, (w64 (e + 1))) h) rfl rfl rfl rfl))))))
   refine wt hc rfl (wq (wq (wg (wx [3, 4, 5] ⟨[(0, .c (.s s_)), (4, .I e), (21, .c (.s s_)), (22, .I d), (23, .I e)], [], [], 0⟩ htt 3 (by kernel_rfl) (?_)))))
   obtain ⟨g, i, h⟩ := ob h
   refine WPr.ssl htt (l := some (.i64, d)) (h := some (.i64, e)) i rfl rfl rfl rfl rfl rfl rfl rfl rfl rfl (?_)
   obtain ⟨j, k, h⟩ := ob h
   refine wc (z171_ct N g _ k) [] [] rfl rfl rfl rfl rfl rfl rfl rfl (.inl rfl) rfl (wx [] ⟨[(0, .c (.s s_)), (4, .I e), (26, .O (!j))], [], [], 0⟩ htt 1 (by kernel_rfl) (wn (?_)))
   rcases oc h with ⟨hc, h⟩ | ⟨hc, h⟩
   ·refine wt hc rfl (wq (wg (ws htt 1 rfl (wn (?_)))))
    cases h
    exact we htt Tryz.func153 [] rfl rfl rfl rfl
   exact wf hc rfl (wi (wg (wx [] ⟨[(0, .c (.s s_)), (3, .I (w64 (e + 1))), (4, .I e)], [], [], 0⟩ htt 3 (by kernel_rfl) (wn (wb (wg (wx [] ⟨[(0, .c (.s s_)), (3, .I (w64 (e + 1))), (4, .I (w64 (e + 1)))], [], [], 0⟩ htt 3 (by kernel_rfl) (wn (wu [] (ih6 ((w64 (e + 1)), (w64 (e + 1))) h) rfl rfl rfl rfl)))))))))
  rcases oc h with ⟨hc, h⟩ | ⟨hc, h⟩
  ·exact wy 15 hc rfl (wx [] ⟨[(0, .c (.s s_)), (3, .I d), (4, .I e), (20, .O true)], [], [], 0⟩ htt 5 (by kernel_rfl) (wn (wu [] (j9 true h) rfl rfl rfl rfl)))
  refine wy 15 hc rfl (ws htt 2 rfl (?_))
  obtain ⟨m, o, h⟩ := ob h
  exact WPr.sx htt o rfl rfl rfl rfl rfl rfl rfl rfl rfl (wx [] ⟨[(0, .c (.s s_)), (3, .I d), (4, .I e), (20, .O (m == 46))], [], [], 0⟩ htt 2 (by kernel_rfl) (wn (wu [] (j9 (m == 46) h) rfl rfl rfl rfl)))
 exact wu [] (ih N (0, 0) h) rfl rfl rfl rfl
theorem z185_ct (N : Nat) (decls_ : (List T0)) (x_ : Int) (r : T3) (h : z185 N decls_ x_ = some r) :
 Fn Tryz.prog 185 ⟨1, [.S 0, .I x_], [(0, .sl rR0 decls_)], [], 1, .a (cC3 r), [], []⟩ := by
 refine Fn.intro _ _ Tryz.func185 rfl (by kernel_rfl) rfl (fun E F w => ?_)
 unfold z185 at h
 refine wq (wg (ws htt 1 rfl (wn (wq (wq (wg (ws htt 1 rfl (wn (?_)))))))))
 refine wC (σ := Unit) (fun st => ⟨[(4, .B 1 0)], [(1, .box [.s (str []), .I 0, .I 0, .I 0] 141)], [(0, .sl rR0 decls_)], 2⟩) (fun st => z185_k1 = some r) ?_ (fun j1 => ?_)
 ·intro _ h
  replace h : z185_k1 = some r := h
  unfold z185_k1 at h
  refine wq (wg (ws htt 2 rfl (wn (?_))))
  cases h
  exact we htt Tryz.func185 [] rfl rfl rfl rfl
 refine wo (?_)
 refine wI (σ := Int × Int) (fun st => ⟨[(0, .S 0), (1, .I st.1), (4, .B 1 0), (5, .I st.2)], [(1, .box [.s (str []), .I 0, .I 0, .I 0] 141)], [(0, .sl rR0 decls_)], 2⟩) (fun n st => z185_l2 decls_ n st.1 st.2) (r := r) (fun _ => rfl) ?_ (fun ih => ?_)
 ·intro n2 ih3
  rintro ⟨c, d⟩ h
  replace h : z185_l2 decls_ (n2 + 1) c d = some r := h
  unfold z185_l2 at h
  refine wq (wq (wg (wx [] ⟨[(0, .S 0), (1, .I c), (4, .B 1 0), (5, .I d), (9, .O (decide (d < (decls_.length : Int))))], [(1, .box [.s (str []), .I 0, .I 0, .I 0] 141)], [(0, .sl rR0 decls_)], 2⟩ htt 4 (by kernel_rfl) (wn (?_)))))
  rcases oc' h with ⟨hc, h⟩ | ⟨hc, h⟩
  ·exact wf hc rfl (wz rfl (wu [] (j1 () h) rfl rfl rfl rfl))
  refine wt hc rfl (wi (wq (wo (wq (wq (wg (wx [3, 4, 5, 6, 7] ⟨[(0, .S 0), (1, .I c), (4, .B 1 0), (5, .I d), (12, .I c), (13, .S 0), (14, .I d)], [(1, .box [.s (str []), .I 0, .I 0, .I 0] 141)], [(0, .sl rR0 decls_)], 2⟩ htt 3 (by kernel_rfl) (?_))))))))
  obtain ⟨e, f, h⟩ := ob h
  refine wj oO0 htt f rfl rfl rfl rfl rfl rfl rfl rfl rfl (wx [] ⟨[(0, .S 0), (1, .I c), (4, .B 1 0), (5, .I d), (19, .O (decide (c < (e.Fields.length : Int))))], [(1, .box [.s (str []), .I 0, .I 0, .I 0] 141)], [(0, .sl rR0 decls_)], 6⟩ htt 4 (by kernel_rfl) (wn (?_)))
  rcases oc' h with ⟨hc, h⟩ | ⟨hc, h⟩
  ·refine wf hc rfl (wi (wg (wx (rg 3 6) ⟨[(0, .S 0), (4, .B 1 0), (5, .I d), (28, .I c), (29, .S 0), (30, .I d)], [(1, .box [.s (str []), .I 0, .I 0, .I 0] 141)], [(0, .sl rR0 decls_)], 6⟩ htt 3 (by kernel_rfl) (?_))))
   obtain ⟨g, i, h⟩ := ob h
   exact wj oO0 htt i rfl rfl rfl rfl rfl rfl rfl rfl rfl (wx [] ⟨[(0, .S 0), (1, .I (w64 (c - (g.Fields.length : Int)))), (4, .B 1 0), (5, .I d)], [(1, .box [.s (str []), .I 0, .I 0, .I 0] 141)], [(0, .sl rR0 decls_)], 10⟩ htt 5 (by kernel_rfl) (wn (wb (wg (wx [] ⟨[(0, .S 0), (1, .I (w64 (c - (g.Fields.length : Int)))), (4, .B 1 0), (5, .I (w64 (d + 1)))], [(1, .box [.s (str []), .I 0, .I 0, .I 0] 141)], [(0, .sl rR0 decls_)], 10⟩ htt 3 (by kernel_rfl) (wn (wu [] (ih3 ((w64 (c - (g.Fields.length : Int))), (w64 (d + 1))) h) rfl rfl rfl rfl)))))))
  refine wt hc rfl (wq (wg (ws htt 2 rfl (?_))))
  obtain ⟨j, k, h⟩ := ob h
  refine wj oO0 htt k rfl rfl rfl rfl rfl rfl rfl rfl rfl (wx [6, 7, 8] ⟨[(4, .B 1 0), (24, .S 7), (25, .I c)], [(1, .box [.s (str []), .I 0, .I 0, .I 0] 141)], [(0, .sl rR0 decls_), (7, .sl rR3 j.Fields)], 10⟩ htt 3 (by kernel_rfl) (?_))
  obtain ⟨l, m, h⟩ := ob h
  refine wj oO3 htt m rfl rfl rfl rfl rfl rfl rfl rfl rfl (wx [] ⟨[(4, .B 1 0)], [(1, .box (cC3 l) 141)], [(0, .sl rR0 decls_)], 11⟩ htt 2 (by kernel_rfl) (wn (?_)))
  cases h
  exact we htt Tryz.func185 [] rfl rfl rfl rfl
 exact wu [] (ih N (x_, 0) h) rfl rfl rfl rfl
theorem z172_ct (N : Nat) (decls_ : (List T0)) (x_ : Int) (r : Bool) (h : z172 N decls_ x_ = some r) :
 Fn Tryz.prog 172 ⟨1, [.S 0, .I x_], [(0, .sl rR0 decls_)], [], 1, .O r, [], []⟩ := by
 refine Fn.intro _ _ Tryz.func172 rfl (by kernel_rfl) rfl (fun E F w => ?_)
 unfold z172 at h
 refine wq (wg (ws htt 1 rfl (wn (wq (wg (wx (rg 3 14) ⟨[(0, .S 0), (1, .I x_), (7, .O (decide (x_ ≥ 0)))], [], [(0, .sl rR0 decls_)], 1⟩ htt 3 (by kernel_rfl) (?_)))))))
 rcases oc' h with ⟨hc, h⟩ | ⟨hc, h⟩
 ·refine wy 7 hc rfl (wx [] ⟨[(4, .O false)], [], [(0, .sl rR0 decls_)], 1⟩ htt 14 (by kernel_rfl) (wn (?_)))
  cases h
  exact we htt Tryz.func172 [] rfl rfl rfl rfl
 refine wy 7 hc rfl (ws htt 2 rfl (?_))
 obtain ⟨x1, c, h⟩ := ob h
 refine wc (z151_ct N decls_ _ c) [(0, .sl 0)] [] rfl rfl rfl rfl rfl rfl rfl rfl (.inl rfl) rfl (wx (rg 9 8) ⟨[(0, .S 0), (1, .I x_), (13, .O (decide (x_ < x1)))], [], [(0, .sl rR0 decls_)], 1⟩ htt 3 (by kernel_rfl) (?_))
 rcases oc' h with ⟨hc, h⟩ | ⟨hc, h⟩
 ·refine wy 13 hc rfl (wx [] ⟨[(4, .O false)], [], [(0, .sl rR0 decls_)], 1⟩ htt 8 (by kernel_rfl) (wn (?_)))
  cases h
  exact we htt Tryz.func172 [] rfl rfl rfl rfl
 refine wy 13 hc rfl (ws htt 2 rfl (?_))
 obtain ⟨x2, d, h⟩ := ob h
 refine wc (z185_ct N decls_ x_ _ d) [(0, .sl 0)] [] rfl rfl rfl rfl rfl rfl rfl rfl (.inl rfl) rfl (wx [] ⟨[(4, .O (x2.Sort'.Kind == 2))], [], [(0, .sl rR0 decls_)], 1⟩ htt 5 (by kernel_rfl) (wn (?_)))
 cases h
 exact we htt Tryz.func172 [] rfl rfl rfl rfl
theorem z154_ct (N : Nat) (decls_ : (List T0)) (g_ : T5) (r : Bool) (h : z154 N decls_ g_ = some r) :
 Fn Tryz.prog 154 ⟨3, [.S 0, .a [.sl 1, .sl 2]], [(0, .sl rR0 decls_), (1, .sl rR1 g_.Diffs), (2, .sl (rP (rI .i64) (rI .i64)) g_.Equals)], [], 3, .O r, [], []⟩ := by
 refine Fn.intro _ _ Tryz.func154 rfl (by kernel_rfl) rfl (fun E F w => ?_)
 unfold z154 at h
 refine wq (wg (ws htt 2 rfl (wn (wq (wg (wx [1, 2] ⟨[(0, .S 0), (3, .B 3 0), (4, .O false), (9, .S 0)], [(3, .box [.sl 1, .sl 2] 92)], [(0, .sl rR0 decls_), (1, .sl rR1 g_.Diffs), (2, .sl (rP (rI .i64) (rI .i64)) g_.Equals)], 4⟩ htt 1 (by kernel_rfl) (?_)))))))
 obtain ⟨x1, c, h⟩ := ob h
 refine wc (z151_ct N decls_ _ c) [(0, .sl 0)] [] rfl rfl rfl rfl rfl rfl rfl rfl (.inl rfl) rfl (wx [] ⟨[(0, .S 0), (3, .B 3 0), (4, .O false), (5, .I x1)], [(3, .box [.sl 1, .sl 2] 92)], [(0, .sl rR0 decls_), (1, .sl rR1 g_.Diffs), (2, .sl (rP (rI .i64) (rI .i64)) g_.Equals)], 4⟩ htt 1 (by kernel_rfl) (wn (wq (wq (wg (ws htt 1 rfl (wn (?_))))))))
 refine wC (σ := Unit) (fun st => ⟨[(0, .S 0), (3, .B 3 0)], [(3, .box [.sl 1, .sl 2] 92)], [(0, .sl rR0 decls_), (1, .sl rR1 g_.Diffs), (2, .sl (rP (rI .i64) (rI .i64)) g_.Equals)], 4⟩) (fun st => z154_k3 N decls_ g_ = some r) ?_ (fun j1 => ?_)
 ·intro _ h
  replace h : z154_k3 N decls_ g_ = some r := h
  unfold z154_k3 at h
  refine wq (wq (wg (ws htt 1 rfl (wn (?_)))))
  refine wC (σ := Unit) (fun st => ⟨[(3, .B 3 0)], [(3, .box [.sl 1, .sl 2] 92)], [(0, .sl rR0 decls_), (1, .sl rR1 g_.Diffs), (2, .sl (rP (rI .i64) (rI .i64)) g_.Equals)], 4⟩) (fun st => z154_k1 g_ = some r) ?_ (fun j3 => ?_)
  ·intro _ h
   replace h : z154_k1 g_ = some r := h
   unfold z154_k1 at h
   refine wq (wg (wx (rg 5 6) ⟨[(3, .B 3 0), (84, .O (decide ((g_.Diffs.length : Int) ≤ 20)))], [(3, .box [.sl 1, .sl 2] 92)], [(0, .sl rR0 decls_), (1, .sl rR1 g_.Diffs), (2, .sl (rP (rI .i64) (rI .i64)) g_.Equals)], 4⟩ htt 5 (by kernel_rfl) (?_)))
   rcases oc h with ⟨hc, h⟩ | ⟨hc, h⟩
   ·refine wy 84 hc rfl (wx [] ⟨[(4, .O (decide ((g_.Equals.length : Int) ≤ 20)))], [], [(0, .sl rR0 decls_), (1, .sl rR1 g_.Diffs), (2, .sl (rP (rI .i64) (rI .i64)) g_.Equals)], 4⟩ htt 6 (by kernel_rfl) (wn (?_)))
    cases h
    exact we htt Tryz.func154 [] rfl rfl rfl rfl
   refine wy 84 hc rfl (wx [] ⟨[(4, .O false)], [], [(0, .sl rR0 decls_), (1, .sl rR1 g_.Diffs), (2, .sl (rP (rI .i64) (rI .i64)) g_.Equals)], 4⟩ htt 6 (by kernel_rfl) (wn (?_)))
   cases h
   exact we htt Tryz.func154 [] rfl rfl rfl rfl
  refine wo (?_)
  refine wI (σ := Int) (fun st => ⟨[(0, .S 0), (3, .B 3 0), (8, .I st)], [(3, .box [.sl 1, .sl 2] 92)], [(0, .sl rR0 decls_), (1, .sl rR1 g_.Diffs), (2, .sl (rP (rI .i64) (rI .i64)) g_.Equals)], 4⟩) (fun n st => z154_l2 N decls_ g_ n st) (r := r) (fun _ => rfl) ?_ (fun ih => ?_)
  ·intro n3 ih5
   intro d h
   replace h : z154_l2 N decls_ g_ (n3 + 1) d = some r := h
   unfold z154_l2 at h
   refine wq (wq (wg (wx [] ⟨[(0, .S 0), (3, .B 3 0), (8, .I d), (57, .O (decide (d < (g_.Equals.length : Int))))], [(3, .box [.sl 1, .sl 2] 92)], [(0, .sl rR0 decls_), (1, .sl rR1 g_.Diffs), (2, .sl (rP (rI .i64) (rI .i64)) g_.Equals)], 4⟩ htt 5 (by kernel_rfl) (wn (?_)))))
   rcases oc' h with ⟨hc, h⟩ | ⟨hc, h⟩
   ·exact wf hc rfl (wz rfl (wu [] (j3 () h) rfl rfl rfl rfl))
   refine wt hc rfl (wi (wq (wo (wq (wg (wx (rg 4 16) ⟨[(0, .S 0), (3, .B 3 0), (8, .I d), (60, .S 0), (62, .S 2), (63, .I d)], [(3, .box [.sl 1, .sl 2] 92)], [(0, .sl rR0 decls_), (1, .sl rR1 g_.Diffs), (2, .sl (rP (rI .i64) (rI .i64)) g_.Equals)], 4⟩ htt 4 (by kernel_rfl) (?_)))))))
   obtain ⟨e, f, h⟩ := ob h
   refine wj (oP (oI .i64) (oI .i64)) htt f rfl rfl rfl rfl rfl rfl rfl rfl rfl (WPr.axp (len := 2) (el := 3) (es := 1) 0 rfl rfl rfl rfl rfl (by kernel_rfl) (by kernel_rfl) rfl rfl (Or.inl ⟨_, rfl⟩) rfl rfl (wx (rg 7 13) ⟨[(0, .S 0), (3, .B 3 0), (8, .I d), (60, .S 0), (66, .I e.1)], [(3, .box [.sl 1, .sl 2] 92)], [(0, .sl rR0 decls_), (1, .sl rR1 g_.Diffs), (2, .sl (rP (rI .i64) (rI .i64)) g_.Equals)], 5⟩ htt 1 (by kernel_rfl) (?_)))
   obtain ⟨g, i, h⟩ := ob h
   refine wc (z172_ct N decls_ e.1 _ i) [(0, .sl 0)] [] rfl rfl rfl rfl rfl rfl rfl rfl (.inl rfl) rfl (wx (rg 10 10) ⟨[(0, .S 0), (3, .B 3 0), (8, .I d), (69, .O (!g))], [(3, .box [.sl 1, .sl 2] 92)], [(0, .sl rR0 decls_), (1, .sl rR1 g_.Diffs), (2, .sl (rP (rI .i64) (rI .i64)) g_.Equals)], 5⟩ htt 2 (by kernel_rfl) (?_))
   rcases oc h with ⟨hc, h⟩ | ⟨hc, h⟩
   ·refine wy 69 hc rfl (wx [] ⟨[(0, .S 0), (3, .B 3 0), (8, .I d), (79, .O true)], [(3, .box [.sl 1, .sl 2] 92)], [(0, .sl rR0 decls_), (1, .sl rR1 g_.Diffs), (2, .sl (rP (rI .i64) (rI .i64)) g_.Equals)], 5⟩ htt 10 (by kernel_rfl) (wn (wt rfl rfl (wq (wg (ws htt 1 rfl (wn (?_))))))))
    cases h
    exact we htt Tryz.func154 [] rfl rfl rfl rfl
   refine wy 69 hc rfl (wx (rg 14 6) ⟨[(0, .S 0), (3, .B 3 0), (8, .I d), (69, .O false), (70, .S 0), (72, .S 2), (73, .I d)], [(3, .box [.sl 1, .sl 2] 92)], [(0, .sl rR0 decls_), (1, .sl rR1 g_.Diffs), (2, .sl (rP (rI .i64) (rI .i64)) g_.Equals)], 5⟩ htt 4 (by kernel_rfl) (?_))
   obtain ⟨j, k, h⟩ := ob h
   refine wj (oP (oI .i64) (oI .i64)) htt k rfl rfl rfl rfl rfl rfl rfl rfl rfl (WPr.axp (len := 2) (el := 3) (es := 1) 1 rfl rfl rfl rfl rfl (by kernel_rfl) (by kernel_rfl) rfl rfl (Or.inl ⟨_, rfl⟩) rfl rfl (wx [17, 18, 19] ⟨[(0, .S 0), (3, .B 3 0), (8, .I d), (69, .O false), (70, .S 0), (76, .I j.2)], [(3, .box [.sl 1, .sl 2] 92)], [(0, .sl rR0 decls_), (1, .sl rR1 g_.Diffs), (2, .sl (rP (rI .i64) (rI .i64)) g_.Equals)], 6⟩ htt 1 (by kernel_rfl) (?_)))
   obtain ⟨l, m, h⟩ := ob h
   refine wc (z172_ct N decls_ j.2 _ m) [(0, .sl 0)] [] rfl rfl rfl rfl rfl rfl rfl rfl (.inl rfl) rfl (wx [] ⟨[(0, .S 0), (3, .B 3 0), (8, .I d), (79, .O (!l))], [(3, .box [.sl 1, .sl 2] 92)], [(0, .sl rR0 decls_), (1, .sl rR1 g_.Diffs), (2, .sl (rP (rI .i64) (rI .i64)) g_.Equals)], 6⟩ htt 2 (by kernel_rfl) (wn (?_)))
   rcases oc h with ⟨hc, h⟩ | ⟨hc, h⟩
   ·refine wt hc rfl (wq (wg (ws htt 1 rfl (wn (?_)))))
    cases h
    exact we htt Tryz.func154 [] rfl rfl rfl rfl
   exact wf hc rfl (wi (wb (wg (wx [] ⟨[(0, .S 0), (3, .B 3 0), (8, .I (w64 (d + 1)))], [(3, .box [.sl 1, .sl 2] 92)], [(0, .sl rR0 decls_), (1, .sl rR1 g_.Diffs), (2, .sl (rP (rI .i64) (rI .i64)) g_.Equals)], 6⟩ htt 3 (by kernel_rfl) (wn (wu [] (ih5 (w64 (d + 1)) h) rfl rfl rfl rfl))))))
  exact wu [] (ih N 0 h) rfl rfl rfl rfl
 refine wo (?_)
 refine wI (σ := Int) (fun st => ⟨[(0, .S 0), (3, .B 3 0), (5, .I x1), (6, .I st)], [(3, .box [.sl 1, .sl 2] 92)], [(0, .sl rR0 decls_), (1, .sl rR1 g_.Diffs), (2, .sl (rP (rI .i64) (rI .i64)) g_.Equals)], 4⟩) (fun n st => z154_l4 N decls_ g_ x1 n st) (r := r) (fun _ => rfl) ?_ (fun ih => ?_)
 ·intro n4 ih6
  intro o h
  replace h : z154_l4 N decls_ g_ x1 (n4 + 1) o = some r := h
  unfold z154_l4 at h
  refine wq (wq (wg (wx [] ⟨[(0, .S 0), (3, .B 3 0), (5, .I x1), (6, .I o), (15, .O (decide (o < (g_.Diffs.length : Int))))], [(3, .box [.sl 1, .sl 2] 92)], [(0, .sl rR0 decls_), (1, .sl rR1 g_.Diffs), (2, .sl (rP (rI .i64) (rI .i64)) g_.Equals)], 4⟩ htt 5 (by kernel_rfl) (wn (?_)))))
  rcases oc' h with ⟨hc, h⟩ | ⟨hc, h⟩
  ·exact wf hc rfl (wz rfl (wu [] (j1 () h) rfl rfl rfl rfl))
  refine wt hc rfl (wi (wq (wo (wq (wg (wx [3, 4, 5, 6] ⟨[(0, .S 0), (3, .B 3 0), (5, .I x1), (6, .I o), (19, .S 1), (20, .I o)], [(3, .box [.sl 1, .sl 2] 92)], [(0, .sl rR0 decls_), (1, .sl rR1 g_.Diffs), (2, .sl (rP (rI .i64) (rI .i64)) g_.Equals)], 4⟩ htt 3 (by kernel_rfl) (?_)))))))
  obtain ⟨p, q, h⟩ := ob h
  refine wj oO1 htt q rfl rfl rfl rfl rfl rfl rfl rfl rfl (wx [] ⟨[(0, .S 0), (3, .B 3 0), (5, .I x1), (6, .I o), (7, .B 5 0)], [(3, .box [.sl 1, .sl 2] 92), (5, .box (cC1 p) 144)], [(0, .sl rR0 decls_), (1, .sl rR1 g_.Diffs), (2, .sl (rP (rI .i64) (rI .i64)) g_.Equals)], 6⟩ htt 3 (by kernel_rfl) (wn (wq (wg (wx (rg 4 26) ⟨[(0, .S 0), (3, .B 3 0), (5, .I x1), (6, .I o), (7, .B 5 0), (26, .O (decide (p.X < (-1))))], [(3, .box [.sl 1, .sl 2] 92), (5, .box (cC1 p) 144)], [(0, .sl rR0 decls_), (1, .sl rR1 g_.Diffs), (2, .sl (rP (rI .i64) (rI .i64)) g_.Equals)], 6⟩ htt 4 (by kernel_rfl) (?_))))))
  rcases oc h with ⟨hc, h⟩ | ⟨hc, h⟩
  ·refine wy 26 hc rfl (wx [] ⟨[(0, .S 0), (3, .B 3 0), (5, .I x1), (6, .I o), (52, .O true)], [(3, .box [.sl 1, .sl 2] 92)], [(0, .sl rR0 decls_), (1, .sl rR1 g_.Diffs), (2, .sl (rP (rI .i64) (rI .i64)) g_.Equals)], 6⟩ htt 26 (by kernel_rfl) (wn (wt rfl rfl (wq (wg (ws htt 1 rfl (wn (?_))))))))
   cases h
   exact we htt Tryz.func154 [] rfl rfl rfl rfl
  refine wy 26 hc rfl (wx (rg 10 20) ⟨[(0, .S 0), (3, .B 3 0), (5, .I x1), (6, .I o), (7, .B 5 0), (32, .O (decide (p.X ≥ x1)))], [(3, .box [.sl 1, .sl 2] 92), (5, .box (cC1 p) 144)], [(0, .sl rR0 decls_), (1, .sl rR1 g_.Diffs), (2, .sl (rP (rI .i64) (rI .i64)) g_.Equals)], 6⟩ htt 6 (by kernel_rfl) (?_))
  rcases oc h with ⟨hc, h⟩ | ⟨hc, h⟩
  ·refine wy 32 hc rfl (wx [] ⟨[(0, .S 0), (3, .B 3 0), (5, .I x1), (6, .I o), (52, .O true)], [(3, .box [.sl 1, .sl 2] 92)], [(0, .sl rR0 decls_), (1, .sl rR1 g_.Diffs), (2, .sl (rP (rI .i64) (rI .i64)) g_.Equals)], 6⟩ htt 20 (by kernel_rfl) (wn (wt rfl rfl (wq (wg (ws htt 1 rfl (wn (?_))))))))
   cases h
   exact we htt Tryz.func154 [] rfl rfl rfl rfl
  refine wy 32 hc rfl (wx (rg 15 15) ⟨[(0, .S 0), (3, .B 3 0), (5, .I x1), (6, .I o), (7, .B 5 0), (37, .O (decide (p.Y < (-1))))], [(3, .box [.sl 1, .sl 2] 92), (5, .box (cC1 p) 144)], [(0, .sl rR0 decls_), (1, .sl rR1 g_.Diffs), (2, .sl (rP (rI .i64) (rI .i64)) g_.Equals)], 6⟩ htt 5 (by kernel_rfl) (?_))
  rcases oc h with ⟨hc, h⟩ | ⟨hc, h⟩
  ·refine wy 37 hc rfl (wx [] ⟨[(0, .S 0), (3, .B 3 0), (5, .I x1), (6, .I o), (52, .O true)], [(3, .box [.sl 1, .sl 2] 92)], [(0, .sl rR0 decls_), (1, .sl rR1 g_.Diffs), (2, .sl (rP (rI .i64) (rI .i64)) g_.Equals)], 6⟩ htt 15 (by kernel_rfl) (wn (wt rfl rfl (wq (wg (ws htt 1 rfl (wn (?_))))))))
   cases h
   exact we htt Tryz.func154 [] rfl rfl rfl rfl
  refine wy 37 hc rfl (wx (rg 21 9) ⟨[(0, .S 0), (3, .B 3 0), (5, .I x1), (6, .I o), (7, .B 5 0), (43, .O (decide (p.Y ≥ x1)))], [(3, .box [.sl 1, .sl 2] 92), (5, .box (cC1 p) 144)], [(0, .sl rR0 decls_), (1, .sl rR1 g_.Diffs), (2, .sl (rP (rI .i64) (rI .i64)) g_.Equals)], 6⟩ htt 6 (by kernel_rfl) (?_))
  rcases oc h with ⟨hc, h⟩ | ⟨hc, h⟩
  ·refine wy 43 hc rfl (wx [] ⟨[(0, .S 0), (3, .B 3 0), (5, .I x1), (6, .I o), (52, .O true)], [(3, .box [.sl 1, .sl 2] 92)], [(0, .sl rR0 decls_), (1, .sl rR1 g_.Diffs), (2, .sl (rP (rI .i64) (rI .i64)) g_.Equals)], 6⟩ htt 9 (by kernel_rfl) (wn (wt rfl rfl (wq (wg (ws htt 1 rfl (wn (?_))))))))
   cases h
   exact we htt Tryz.func154 [] rfl rfl rfl rfl
  refine wy 43 hc rfl (wx [26, 27, 28, 29] ⟨[(0, .S 0), (3, .B 3 0), (5, .I x1), (6, .I o), (7, .B 5 0), (48, .O (decide (p.C < (-20000))))], [(3, .box [.sl 1, .sl 2] 92), (5, .box (cC1 p) 144)], [(0, .sl rR0 decls_), (1, .sl rR1 g_.Diffs), (2, .sl (rP (rI .i64) (rI .i64)) g_.Equals)], 6⟩ htt 5 (by kernel_rfl) (?_))
  rcases oc h with ⟨hc, h⟩ | ⟨hc, h⟩
  ·refine wy 48 hc rfl (wx [] ⟨[(0, .S 0), (3, .B 3 0), (5, .I x1), (6, .I o), (52, .O true)], [(3, .box [.sl 1, .sl 2] 92)], [(0, .sl rR0 decls_), (1, .sl rR1 g_.Diffs), (2, .sl (rP (rI .i64) (rI .i64)) g_.Equals)], 6⟩ htt 4 (by kernel_rfl) (wn (wt rfl rfl (wq (wg (ws htt 1 rfl (wn (?_))))))))
   cases h
   exact we htt Tryz.func154 [] rfl rfl rfl rfl
  refine wy 48 hc rfl (wx [] ⟨[(0, .S 0), (3, .B 3 0), (5, .I x1), (6, .I o), (52, .O (decide (p.C > 20000)))], [(3, .box [.sl 1, .sl 2] 92)], [(0, .sl rR0 decls_), (1, .sl rR1 g_.Diffs), (2, .sl (rP (rI .i64) (rI .i64)) g_.Equals)], 6⟩ htt 4 (by kernel_rfl) (wn (?_)))
  rcases oc h with ⟨hc, h⟩ | ⟨hc, h⟩
  ·refine wt hc rfl (wq (wg (ws htt 1 rfl (wn (?_)))))
   cases h
   exact we htt Tryz.func154 [] rfl rfl rfl rfl
  exact wf hc rfl (wi (wb (wg (wx [] ⟨[(0, .S 0), (3, .B 3 0), (5, .I x1), (6, .I (w64 (o + 1)))], [(3, .box [.sl 1, .sl 2] 92)], [(0, .sl rR0 decls_), (1, .sl rR1 g_.Diffs), (2, .sl (rP (rI .i64) (rI .i64)) g_.Equals)], 6⟩ htt 3 (by kernel_rfl) (wn (wu [] (ih6 (w64 (o + 1)) h) rfl rfl rfl rfl))))))
 exact wu [] (ih N 0 h) rfl rfl rfl rfl
theorem z113_ct (N : Nat) (decls_ : (List T0)) (r : Bool) (h : z113 N decls_ = some r) :
 Fn Tryz.prog 113 ⟨1, [.S 0], [(0, .sl rR0 decls_)], [], 1, .O r, [], []⟩ := by
 refine Fn.intro _ _ Tryz.func113 rfl (by kernel_rfl) rfl (fun E F w => ?_)
 unfold z113 at h
 refine wq (wg (ws htt 1 rfl (wn (wq (wq (wg (wx [4, 5, 6, 7] ⟨[(0, .S 0), (2, .O false), (12, .O (decide ((decls_.length : Int) > 40)))], [], [(0, .sl rR0 decls_)], 1⟩ htt 4 (by kernel_rfl) (?_))))))))
 rcases oc h with ⟨hc, h⟩ | ⟨hc, h⟩
 ·refine wy 12 hc rfl (wx [] ⟨[(0, .S 0), (2, .O false), (16, .O true)], [], [(0, .sl rR0 decls_)], 1⟩ htt 4 (by kernel_rfl) (wn (wt rfl rfl (wq (wg (ws htt 1 rfl (wn (?_))))))))
  cases h
  exact we htt Tryz.func113 [] rfl rfl rfl rfl
 refine wy 12 hc rfl (ws htt 1 rfl (?_))
 obtain ⟨x1, d, h⟩ := ob h
 refine wc (z151_ct N decls_ _ d) [(0, .sl 0)] [] rfl rfl rfl rfl rfl rfl rfl rfl (.inl rfl) rfl (wx [] ⟨[(0, .S 0), (2, .O false), (16, .O (decide (x1 > 24)))], [], [(0, .sl rR0 decls_)], 1⟩ htt 2 (by kernel_rfl) (wn (?_)))
 rcases oc h with ⟨hc, h⟩ | ⟨hc, h⟩
 ·refine wt hc rfl (wq (wg (ws htt 1 rfl (wn (?_)))))
  cases h
  exact we htt Tryz.func113 [] rfl rfl rfl rfl
 refine wf hc rfl (wi (wq (wg (ws htt 1 rfl (wn (wq (wq (wg (ws htt 1 rfl (wn (?_)))))))))))
 refine wC (σ := Unit) (fun st => ⟨[], [], [(0, .sl rR0 decls_)], 1⟩) (fun st => z113_k1 = some r) ?_ (fun j1 => ?_)
 ·intro _ h
  replace h : z113_k1 = some r := h
  unfold z113_k1 at h
  refine wq (wg (ws htt 1 rfl (wn (?_))))
  cases h
  exact we htt Tryz.func113 [] rfl rfl rfl rfl
 refine wo (?_)
 refine wI (σ := Int × Int) (fun st => ⟨[(0, .S 0), (3, .I st.1), (4, .I st.2)], [], [(0, .sl rR0 decls_)], 1⟩) (fun n st => z113_l2 N decls_ n st.1 st.2) (r := r) (fun _ => rfl) ?_ (fun ih => ?_)
 ·intro n82 ih75
  rintro ⟨e, f⟩ h
  replace h : z113_l2 N decls_ (n82 + 1) e f = some r := h
  unfold z113_l2 at h
  refine wq (wq (wg (wx [] ⟨[(0, .S 0), (3, .I e), (4, .I f), (20, .O (decide (f < (decls_.length : Int))))], [], [(0, .sl rR0 decls_)], 1⟩ htt 4 (by kernel_rfl) (wn (?_)))))
  rcases oc' h with ⟨hc, h⟩ | ⟨hc, h⟩
  ·exact wf hc rfl (wz rfl (wu [] (j1 () h) rfl rfl rfl rfl))
  refine wt hc rfl (wi (wq (wo (wq (wg (ws htt 2 rfl (?_)))))))
  obtain ⟨g, i, h⟩ := ob h
  refine wj oO0 htt i rfl rfl rfl rfl rfl rfl rfl rfl rfl (wx [] ⟨[(0, .S 0), (3, .I e), (4, .I f), (5, .B 5 0)], [(5, .box (cC0 2 3 4 g) 94)], ((0, .sl rR0 decls_) :: vV0 2 3 4 g []), 6⟩ htt 3 (by kernel_rfl) (wn (wq (wq (wg (ws htt 1 rfl (wn (?_))))))))
  refine wC (σ := Unit) (fun st => ⟨[(0, .S 0), (3, .I e), (4, .I f), (5, .B 5 0)], [(5, .box (cC0 2 3 4 g) 94)], ((0, .sl rR0 decls_) :: vV0 2 3 4 g []), 6⟩) (fun st => z113_k7 N decls_ e f (z113_l2 N decls_ n82) g = some r) ?_ (fun j124 => ?_)
  ·intro _ h
   replace h : z113_k7 N decls_ e f (z113_l2 N decls_ n82) g = some r := h
   unfold z113_k7 at h
   refine wq (wq (wg (ws htt 1 rfl (wn (?_)))))
   refine wC (σ := Unit) (fun st => ⟨[(0, .S 0), (3, .I e), (4, .I f), (5, .B 5 0)], [(5, .box (cC0 2 3 4 g) 94)], ((0, .sl rR0 decls_) :: vV0 2 3 4 g []), 6⟩) (fun st => z113_k3 N decls_ e f (z113_l2 N decls_ n82) g = some r) ?_ (fun j126 => ?_)
   ·intro _ h
    replace h : z113_k3 N decls_ e f (z113_l2 N decls_ n82) g = some r := h
    unfold z113_k3 at h
    refine wq (wq (wg (ws htt 2 rfl (?_))))
    obtain ⟨j, k, h⟩ := ob h
    refine wc (z153_ct N g.Name _ k) [] [] rfl rfl rfl rfl rfl rfl rfl rfl (.inl rfl) rfl (wx (rg 5 18) ⟨[(0, .S 0), (3, .I e), (4, .I f), (5, .B 5 0), (87, .O (!j))], [(5, .box (cC0 2 3 4 g) 94)], ((0, .sl rR0 decls_) :: vV0 2 3 4 g []), 6⟩ htt 2 (by kernel_rfl) (?_))
    rcases oc h with ⟨hc, h⟩ | ⟨hc, h⟩
    ·refine wy 87 hc rfl (wx [] ⟨[(0, .S 0), (3, .I e), (4, .I f), (5, .B 5 0), (105, .O true)], [(5, .box (cC0 2 3 4 g) 94)], ((0, .sl rR0 decls_) :: vV0 2 3 4 g []), 6⟩ htt 18 (by kernel_rfl) (wn (wt rfl rfl (wq (wg (ws htt 1 rfl (wn (?_))))))))
     cases h
     exact we htt Tryz.func113 [] rfl rfl rfl rfl
    refine wy 87 hc rfl (wx (rg 11 12) ⟨[(0, .S 0), (3, .I e), (4, .I f), (5, .B 5 0), (93, .O (decide ((g.Fields.length : Int) > 4)))], [(5, .box (cC0 2 3 4 g) 94)], ((0, .sl rR0 decls_) :: vV0 2 3 4 g []), 6⟩ htt 6 (by kernel_rfl) (?_))
    rcases oc h with ⟨hc, h⟩ | ⟨hc, h⟩
    ·refine wy 93 hc rfl (wx [] ⟨[(0, .S 0), (3, .I e), (4, .I f), (5, .B 5 0), (105, .O true)], [(5, .box (cC0 2 3 4 g) 94)], ((0, .sl rR0 decls_) :: vV0 2 3 4 g []), 6⟩ htt 12 (by kernel_rfl) (wn (wt rfl rfl (wq (wg (ws htt 1 rfl (wn (?_))))))))
     cases h
     exact we htt Tryz.func113 [] rfl rfl rfl rfl
    refine wy 93 hc rfl (wx (rg 17 6) ⟨[(0, .S 0), (3, .I e), (4, .I f), (5, .B 5 0), (99, .O (g.First != e))], [(5, .box (cC0 2 3 4 g) 94)], ((0, .sl rR0 decls_) :: vV0 2 3 4 g []), 6⟩ htt 6 (by kernel_rfl) (?_))
    rcases oc h with ⟨hc, h⟩ | ⟨hc, h⟩
    ·refine wy 99 hc rfl (wx [] ⟨[(0, .S 0), (3, .I e), (4, .I f), (5, .B 5 0), (105, .O true)], [(5, .box (cC0 2 3 4 g) 94)], ((0, .sl rR0 decls_) :: vV0 2 3 4 g []), 6⟩ htt 6 (by kernel_rfl) (wn (wt rfl rfl (wq (wg (ws htt 1 rfl (wn (?_))))))))
     cases h
     exact we htt Tryz.func113 [] rfl rfl rfl rfl
    refine wy 99 hc rfl (wx [20, 21, 22] ⟨[(0, .S 0), (3, .I e), (4, .I f), (5, .B 5 0), (99, .O false), (100, .S 0), (102, .a [.sl 3, .sl 4])], [(5, .box (cC0 2 3 4 g) 94)], ((0, .sl rR0 decls_) :: vV0 2 3 4 g []), 6⟩ htt 3 (by kernel_rfl) (?_))
    obtain ⟨l, m, h⟩ := ob h
    refine wc (z154_ct N decls_ g.Guard _ m) [(0, .sl 0), (1, .sl 3), (2, .sl 4)] [] rfl rfl rfl rfl rfl rfl rfl rfl (.inl rfl) rfl (wx [] ⟨[(0, .S 0), (3, .I e), (4, .I f), (5, .B 5 0), (105, .O (!l))], [(5, .box (cC0 2 3 4 g) 94)], ((0, .sl rR0 decls_) :: vV0 2 3 4 g []), 6⟩ htt 2 (by kernel_rfl) (wn (?_)))
    rcases oc h with ⟨hc, h⟩ | ⟨hc, h⟩
    ·refine wt hc rfl (wq (wg (ws htt 1 rfl (wn (?_)))))
     cases h
     exact we htt Tryz.func113 [] rfl rfl rfl rfl
    exact wf hc rfl (wi (wg (wx [] ⟨[(0, .S 0), (3, .I (w64 (e + (g.Fields.length : Int)))), (4, .I f)], [], [(0, .sl rR0 decls_)], 6⟩ htt 6 (by kernel_rfl) (wn (wb (wg (wx [] ⟨[(0, .S 0), (3, .I (w64 (e + (g.Fields.length : Int)))), (4, .I (w64 (f + 1)))], [], [(0, .sl rR0 decls_)], 6⟩ htt 3 (by kernel_rfl) (wn (wu [] (ih75 ((w64 (e + (g.Fields.length : Int))), (w64 (f + 1))) h) rfl rfl rfl rfl)))))))))
   refine wo (?_)
   refine wI (σ := Int) (fun st => ⟨[(0, .S 0), (3, .I e), (4, .I f), (5, .B 5 0), (7, .I st)], [(5, .box (cC0 2 3 4 g) 94)], ((0, .sl rR0 decls_) :: vV0 2 3 4 g []), 6⟩) (fun n st => z113_l4 N decls_ e f (z113_l2 N decls_ n82) g n st) (r := r) (fun _ => rfl) ?_ (fun ih => ?_)
   ·intro n95 ih137
    intro o h
    replace h : z113_l4 N decls_ e f (z113_l2 N decls_ n82) g (n95 + 1) o = some r := h
    unfold z113_l4 at h
    refine wq (wq (wg (wx [] ⟨[(0, .S 0), (3, .I e), (4, .I f), (5, .B 5 0), (7, .I o), (44, .O (decide (o < (g.Fields.length : Int))))], [(5, .box (cC0 2 3 4 g) 94)], ((0, .sl rR0 decls_) :: vV0 2 3 4 g []), 6⟩ htt 5 (by kernel_rfl) (wn (?_)))))
    rcases oc' h with ⟨hc, h⟩ | ⟨hc, h⟩
    ·exact wf hc rfl (wz rfl (wu [] (j126 () h) rfl rfl rfl rfl))
    refine wt hc rfl (wi (wq (wo (wq (wq (wg (wx (rg 3 15) ⟨[(0, .S 0), (3, .I e), (4, .I f), (5, .B 5 0), (7, .I o), (48, .S 2), (49, .I o)], [(5, .box (cC0 2 3 4 g) 94)], ((0, .sl rR0 decls_) :: vV0 2 3 4 g []), 6⟩ htt 3 (by kernel_rfl) (?_))))))))
    obtain ⟨p, q, h⟩ := ob h
    refine wj oO3 htt q rfl rfl rfl rfl rfl rfl rfl rfl rfl (wx (rg 6 12) ⟨[(0, .S 0), (3, .I e), (4, .I f), (5, .B 5 0), (7, .I o), (52, .a (cC7 p.Sort'))], [(5, .box (cC0 2 3 4 g) 94)], ((0, .sl rR0 decls_) :: vV0 2 3 4 g []), 7⟩ htt 2 (by kernel_rfl) (?_))
    obtain ⟨t, u, h⟩ := ob h
    refine wc (z152_ct N p.Sort' _ u) [] [] rfl rfl rfl rfl rfl rfl rfl rfl (.inl rfl) rfl (wx (rg 9 9) ⟨[(0, .S 0), (3, .I e), (4, .I f), (5, .B 5 0), (7, .I o), (55, .O (!t))], [(5, .box (cC0 2 3 4 g) 94)], ((0, .sl rR0 decls_) :: vV0 2 3 4 g []), 7⟩ htt 2 (by kernel_rfl) (?_))
    rcases oc h with ⟨hc, h⟩ | ⟨hc, h⟩
    ·refine wy 55 hc rfl (wx [] ⟨[(0, .S 0), (3, .I e), (4, .I f), (5, .B 5 0), (7, .I o), (64, .O true)], [(5, .box (cC0 2 3 4 g) 94)], ((0, .sl rR0 decls_) :: vV0 2 3 4 g []), 7⟩ htt 9 (by kernel_rfl) (wn (wt rfl rfl (wq (wg (ws htt 1 rfl (wn (?_))))))))
     cases h
     exact we htt Tryz.func113 [] rfl rfl rfl rfl
    refine wy 55 hc rfl (wx (rg 12 6) ⟨[(0, .S 0), (3, .I e), (4, .I f), (5, .B 5 0), (7, .I o), (55, .O false), (57, .S 2), (58, .I o)], [(5, .box (cC0 2 3 4 g) 94)], ((0, .sl rR0 decls_) :: vV0 2 3 4 g []), 7⟩ htt 3 (by kernel_rfl) (?_))
    obtain ⟨v, x, h⟩ := ob h
    refine wj oO3 htt x rfl rfl rfl rfl rfl rfl rfl rfl rfl (wx [15, 16, 17] ⟨[(0, .S 0), (3, .I e), (4, .I f), (5, .B 5 0), (7, .I o), (55, .O false), (61, .c (.s v.Name))], [(5, .box (cC0 2 3 4 g) 94)], ((0, .sl rR0 decls_) :: vV0 2 3 4 g []), 8⟩ htt 2 (by kernel_rfl) (?_))
    obtain ⟨y, z, h⟩ := ob h
    refine wc (z112_ct N v.Name _ z) [] [] rfl rfl rfl rfl rfl rfl rfl rfl (.inl rfl) rfl (wx [] ⟨[(0, .S 0), (3, .I e), (4, .I f), (5, .B 5 0), (7, .I o), (64, .O (!y))], [(5, .box (cC0 2 3 4 g) 94)], ((0, .sl rR0 decls_) :: vV0 2 3 4 g []), 8⟩ htt 2 (by kernel_rfl) (wn (?_)))
    rcases oc h with ⟨hc, h⟩ | ⟨hc, h⟩
    ·refine wt hc rfl (wq (wg (ws htt 1 rfl (wn (?_)))))
     cases h
     exact we htt Tryz.func113 [] rfl rfl rfl rfl
    refine wf hc rfl (wi (wq (wg (ws htt 1 rfl (wn (?_))))))
    refine wC (σ := Unit) (fun st => ⟨[(0, .S 0), (3, .I e), (4, .I f), (5, .B 5 0), (7, .I o)], [(5, .box (cC0 2 3 4 g) 94)], ((0, .sl rR0 decls_) :: vV0 2 3 4 g []), 8⟩) (fun st => z113_k5 o (z113_l4 N decls_ e f (z113_l2 N decls_ n82) g n95) = some r) ?_ (fun j144 => ?_)
    ·intro _ h
     replace h : z113_k5 o (z113_l4 N decls_ e f (z113_l2 N decls_ n82) g n95) = some r := h
     unfold z113_k5 at h
     exact wb (wg (wx [] ⟨[(0, .S 0), (3, .I e), (4, .I f), (5, .B 5 0), (7, .I (w64 (o + 1)))], [(5, .box (cC0 2 3 4 g) 94)], ((0, .sl rR0 decls_) :: vV0 2 3 4 g []), 8⟩ htt 3 (by kernel_rfl) (wn (wu [] (ih137 (w64 (o + 1)) h) rfl rfl rfl rfl))))
    refine wo (?_)
    refine wI (σ := Int) (fun st => ⟨[(0, .S 0), (3, .I e), (4, .I f), (5, .B 5 0), (7, .I o), (8, .I st)], [(5, .box (cC0 2 3 4 g) 94)], ((0, .sl rR0 decls_) :: vV0 2 3 4 g []), 8⟩) (fun n st => z113_l6 g o (z113_l4 N decls_ e f (z113_l2 N decls_ n82) g n95) n st) (r := r) (fun _ => rfl) ?_ (fun ih => ?_)
    ·intro n97 ih146
     intro A h
     replace h : z113_l6 g o (z113_l4 N decls_ e f (z113_l2 N decls_ n82) g n95) (n97 + 1) A = some r := h
     unfold z113_l6 at h
     refine wq (wq (wg (wx [] ⟨[(0, .S 0), (3, .I e), (4, .I f), (5, .B 5 0), (7, .I o), (8, .I A), (67, .O (decide (A < o)))], [(5, .box (cC0 2 3 4 g) 94)], ((0, .sl rR0 decls_) :: vV0 2 3 4 g []), 8⟩ htt 3 (by kernel_rfl) (wn (?_)))))
     rcases oc' h with ⟨hc, h⟩ | ⟨hc, h⟩
     ·exact wf hc rfl (wz rfl (wu [] (j144 () h) rfl rfl rfl rfl))
     refine wt hc rfl (wi (wq (wo (wq (wQ (by kernel_rfl) (by kernel_rfl) (qx (rg 3 10) ⟨[(0, .S 0), (3, .I e), (4, .I f), (5, .B 5 0), (7, .I o), (8, .I A), (71, .S 2), (72, .I A)], [(5, .box (cC0 2 3 4 g) 94)], ((0, .sl rR0 decls_) :: vV0 2 3 4 g []), 8⟩ htt 3 (by kernel_rfl) (?_)))))))
     obtain ⟨C, D, h⟩ := ob h
     refine WPq.op rfl rfl (VN.vs (VN.ix oO3 htt D rfl rfl rfl rfl rfl rfl rfl)) (qx [9, 10, 11, 12] ⟨[(0, .S 0), (3, .I e), (4, .I f), (5, .B 5 0), (7, .I o), (8, .I A), (75, .c (.s C.Name)), (77, .S 2), (78, .I o)], [(5, .box (cC0 2 3 4 g) 94)], ((0, .sl rR0 decls_) :: vV0 2 3 4 g []), 9⟩ htt 5 (by kernel_rfl) (?_))
     obtain ⟨G, H, h⟩ := ob h
     refine WPq.op rfl rfl (VN.vs (VN.ix oO3 htt H rfl rfl rfl rfl rfl rfl rfl)) (qx [] ⟨[(0, .S 0), (3, .I e), (4, .I f), (5, .B 5 0), (7, .I o), (8, .I A), (82, .O (C.Name.toList == G.Name.toList))], [(5, .box (cC0 2 3 4 g) 94)], ((0, .sl rR0 decls_) :: vV0 2 3 4 g []), 10⟩ htt 3 (by kernel_rfl) (qn (?_)))
     rcases oc h with ⟨hc, h⟩ | ⟨hc, h⟩
     ·refine wt hc rfl (wq (wg (ws htt 1 rfl (wn (?_)))))
      cases h
      exact we htt Tryz.func113 [] rfl rfl rfl rfl
     exact wf hc rfl (wi (wb (wg (wx [] ⟨[(0, .S 0), (3, .I e), (4, .I f), (5, .B 5 0), (7, .I o), (8, .I (w64 (A + 1)))], [(5, .box (cC0 2 3 4 g) 94)], ((0, .sl rR0 decls_) :: vV0 2 3 4 g []), 10⟩ htt 3 (by kernel_rfl) (wn (wu [] (ih146 (w64 (A + 1)) h) rfl rfl rfl rfl))))))
    exact wu [] (ih N 0 h) rfl rfl rfl rfl
   exact wu [] (ih N 0 h) rfl rfl rfl rfl
  refine wo (?_)
  refine wI (σ := Int) (fun st => ⟨[(0, .S 0), (3, .I e), (4, .I f), (5, .B 5 0), (6, .I st)], [(5, .box (cC0 2 3 4 g) 94)], ((0, .sl rR0 decls_) :: vV0 2 3 4 g []), 6⟩) (fun n st => z113_l8 N decls_ e f (z113_l2 N decls_ n82) g n st) (r := r) (fun _ => rfl) ?_ (fun ih => ?_)
  ·intro n98 ih147
   intro J h
   replace h : z113_l8 N decls_ e f (z113_l2 N decls_ n82) g (n98 + 1) J = some r := h
   unfold z113_l8 at h
   refine wq (wq (wg (wx [] ⟨[(0, .S 0), (3, .I e), (4, .I f), (5, .B 5 0), (6, .I J), (29, .O (decide (J < f)))], [(5, .box (cC0 2 3 4 g) 94)], ((0, .sl rR0 decls_) :: vV0 2 3 4 g []), 6⟩ htt 3 (by kernel_rfl) (wn (?_)))))
   rcases oc' h with ⟨hc, h⟩ | ⟨hc, h⟩
   ·exact wf hc rfl (wz rfl (wu [] (j124 () h) rfl rfl rfl rfl))
   refine wt hc rfl (wi (wq (wo (wq (wQ (by kernel_rfl) (by kernel_rfl) (WPq.sil htt 2 rfl (?_)))))))
   obtain ⟨K, Q, h⟩ := ob h
   refine WPq.op rfl rfl (VN.vs (VN.ix oO0 htt Q rfl rfl rfl rfl rfl rfl rfl)) (qx [] ⟨[(0, .S 0), (3, .I e), (4, .I f), (5, .B 5 0), (6, .I J), (39, .O (K.Name.toList == g.Name.toList))], [(5, .box (cC0 2 3 4 g) 94)], ((0, .sl rR0 decls_) :: vV0 2 3 4 g []), 10⟩ htt 5 (by kernel_rfl) (qn (?_)))
   rcases oc h with ⟨hc, h⟩ | ⟨hc, h⟩
   ·refine wt hc rfl (wq (wg (ws htt 1 rfl (wn (?_)))))
    cases h
    exact we htt Tryz.func113 [] rfl rfl rfl rfl
   exact wf hc rfl (wi (wb (wg (wx [] ⟨[(0, .S 0), (3, .I e), (4, .I f), (5, .B 5 0), (6, .I (w64 (J + 1)))], [(5, .box (cC0 2 3 4 g) 94)], ((0, .sl rR0 decls_) :: vV0 2 3 4 g []), 10⟩ htt 3 (by kernel_rfl) (wn (wu [] (ih147 (w64 (J + 1)) h) rfl rfl rfl rfl))))))
  exact wu [] (ih N 0 h) rfl rfl rfl rfl
 exact wu [] (ih N (0, 0) h) rfl rfl rfl rfl
theorem z51_ct (N : Nat) (g_ : T4) (r : Bool) (h : z51 N g_ = some r) :
 Fn Tryz.prog 51 ⟨4, [.a (cC4 0 1 2 3 g_)], (vV4 0 1 2 3 g_ []), [], 4, .O r, [], []⟩ := by
 refine Fn.intro _ _ Tryz.func51 rfl (by kernel_rfl) rfl (fun E F w => ?_)
 unfold z51 at h
 refine wq (wg (ws htt 2 rfl (wn (wq (wq (wg (wx [] ⟨[(1, .B 4 0), (2, .O false), (3, .I 0)], [(4, .box (cC4 0 1 2 3 g_) 27)], (vV4 0 1 2 3 g_ []), 5⟩ htt 1 (by kernel_rfl) (wn (?_)))))))))
 refine wC (σ := Unit) (fun st => ⟨[(1, .B 4 0)], [(4, .box (cC4 0 1 2 3 g_) 27)], (vV4 0 1 2 3 g_ []), 5⟩) (fun st => z51_k1 N g_ = some r) ?_ (fun j1 => ?_)
 ·intro _ h
  replace h : z51_k1 N g_ = some r := h
  unfold z51_k1 at h
  refine wq (wg (ws htt 2 rfl (?_)))
  obtain ⟨c, d, h⟩ := ob h
  refine wc (z112_ct N g_.Name _ d) [] [] rfl rfl rfl rfl rfl rfl rfl rfl (.inl rfl) rfl (wx (rg 4 17) ⟨[(1, .B 4 0), (33, .O c)], [(4, .box (cC4 0 1 2 3 g_) 27)], (vV4 0 1 2 3 g_ []), 5⟩ htt 1 (by kernel_rfl) (?_))
  rcases oc' h with ⟨hc, h⟩ | ⟨hc, h⟩
  ·refine wy 33 hc rfl (wx [] ⟨[(2, .O false)], [], (vV4 0 1 2 3 g_ []), 5⟩ htt 17 (by kernel_rfl) (wn (?_)))
   cases h
   exact we htt Tryz.func51 [] rfl rfl rfl rfl
  refine wy 33 hc rfl (wx (rg 10 11) ⟨[(1, .B 4 0), (39, .O (decide ((g_.Roles.length : Int) ≥ 1)))], [(4, .box (cC4 0 1 2 3 g_) 27)], (vV4 0 1 2 3 g_ []), 5⟩ htt 6 (by kernel_rfl) (?_))
  rcases oc' h with ⟨hc, h⟩ | ⟨hc, h⟩
  ·refine wy 39 hc rfl (wx [] ⟨[(2, .O false)], [], (vV4 0 1 2 3 g_ []), 5⟩ htt 11 (by kernel_rfl) (wn (?_)))
   cases h
   exact we htt Tryz.func51 [] rfl rfl rfl rfl
  refine wy 39 hc rfl (wx [16, 17, 18, 19, 20] ⟨[(1, .B 4 0), (45, .O (decide ((g_.Roles.length : Int) ≤ 6)))], [(4, .box (cC4 0 1 2 3 g_) 27)], (vV4 0 1 2 3 g_ []), 5⟩ htt 6 (by kernel_rfl) (?_))
  rcases oc' h with ⟨hc, h⟩ | ⟨hc, h⟩
  ·refine wy 45 hc rfl (wx [] ⟨[(2, .O false)], [], (vV4 0 1 2 3 g_ []), 5⟩ htt 5 (by kernel_rfl) (wn (?_)))
   cases h
   exact we htt Tryz.func51 [] rfl rfl rfl rfl
  refine wy 45 hc rfl (ws htt 2 rfl (?_))
  obtain ⟨e, f, h⟩ := ob h
  refine wc (z113_ct N g_.Decls _ f) [(0, .sl 1)] [] rfl rfl rfl rfl rfl rfl rfl rfl (.inl rfl) rfl (wx [] ⟨[(2, .O e)], [], (vV4 0 1 2 3 g_ []), 5⟩ htt 2 (by kernel_rfl) (wn (?_)))
  cases h
  exact we htt Tryz.func51 [] rfl rfl rfl rfl
 refine wo (?_)
 refine wI (σ := Int) (fun st => ⟨[(1, .B 4 0), (3, .I st)], [(4, .box (cC4 0 1 2 3 g_) 27)], (vV4 0 1 2 3 g_ []), 5⟩) (fun n st => z51_l2 N g_ n st) (r := r) (fun _ => rfl) ?_ (fun ih => ?_)
 ·intro n2 ih3
  intro g h
  replace h : z51_l2 N g_ (n2 + 1) g = some r := h
  unfold z51_l2 at h
  refine wq (wq (wg (wx [] ⟨[(1, .B 4 0), (3, .I g), (8, .O (decide (g < (g_.Roles.length : Int))))], [(4, .box (cC4 0 1 2 3 g_) 27)], (vV4 0 1 2 3 g_ []), 5⟩ htt 5 (by kernel_rfl) (wn (?_)))))
  rcases oc' h with ⟨hc, h⟩ | ⟨hc, h⟩
  ·exact wf hc rfl (wz rfl (wu [] (j1 () h) rfl rfl rfl rfl))
  refine wt hc rfl (wi (wq (wo (wq (wQ (by kernel_rfl) (by kernel_rfl) (qx (rg 3 16) ⟨[(1, .B 4 0), (3, .I g), (12, .S 0), (13, .I g)], [(4, .box (cC4 0 1 2 3 g_) 27)], (vV4 0 1 2 3 g_ []), 5⟩ htt 3 (by kernel_rfl) (?_)))))))
  obtain ⟨i, j, h⟩ := ob h
  refine WPq.op rfl rfl (VN.vs (VN.ix oS htt j rfl rfl rfl rfl rfl rfl rfl)) (WPq.sil htt 1 rfl (?_))
  obtain ⟨k, l, h⟩ := ob h
  refine qc (z112_ct N i _ l) [] [] rfl rfl rfl rfl rfl rfl rfl rfl rfl rfl rfl rfl (qx (rg 8 11) ⟨[(1, .B 4 0), (3, .I g), (18, .O (!k))], [(4, .box (cC4 0 1 2 3 g_) 27)], (vV4 0 1 2 3 g_ []), 6⟩ htt 2 (by kernel_rfl) (?_))
  rcases oc h with ⟨hc, h⟩ | ⟨hc, h⟩
  ·refine qy 18 hc rfl (qx [] ⟨[(1, .B 4 0), (3, .I g), (29, .O true)], [(4, .box (cC4 0 1 2 3 g_) 27)], (vV4 0 1 2 3 g_ []), 6⟩ htt 11 (by kernel_rfl) (qn (wt rfl rfl (wq (wg (ws htt 1 rfl (wn (?_))))))))
   cases h
   exact we htt Tryz.func51 [] rfl rfl rfl rfl
  refine qy 18 hc rfl (qx (rg 13 6) ⟨[(1, .B 4 0), (3, .I g), (18, .O false), (20, .S 0), (22, .S 0), (23, .I g)], [(4, .box (cC4 0 1 2 3 g_) 27)], (vV4 0 1 2 3 g_ []), 6⟩ htt 5 (by kernel_rfl) (?_))
  obtain ⟨m, o, h⟩ := ob h
  refine WPq.op rfl rfl (VN.vs (VN.ix oS htt o rfl rfl rfl rfl rfl rfl rfl)) (WPq.sil htt 1 rfl (?_))
  obtain ⟨p, q, h⟩ := ob h
  refine qc (z76_ct N g_.Roles m _ q) [(0, .sl 0)] [] rfl rfl rfl rfl rfl rfl rfl rfl rfl rfl rfl rfl (qx [] ⟨[(1, .B 4 0), (3, .I g), (29, .O (decide (p < g)))], [(4, .box (cC4 0 1 2 3 g_) 27)], (vV4 0 1 2 3 g_ []), 7⟩ htt 3 (by kernel_rfl) (qn (?_)))
  rcases oc h with ⟨hc, h⟩ | ⟨hc, h⟩
  ·refine wt hc rfl (wq (wg (ws htt 1 rfl (wn (?_)))))
   cases h
   exact we htt Tryz.func51 [] rfl rfl rfl rfl
  exact wf hc rfl (wi (wb (wg (wx [] ⟨[(1, .B 4 0), (3, .I (w64 (g + 1)))], [(4, .box (cC4 0 1 2 3 g_) 27)], (vV4 0 1 2 3 g_ []), 7⟩ htt 3 (by kernel_rfl) (wn (wu [] (ih3 (w64 (g + 1)) h) rfl rfl rfl rfl))))))
 exact wu [] (ih N 0 h) rfl rfl rfl rfl
theorem z114_ct (N : Nat) (g_ : T4) (s_ : Int) (r : Bool) (h : z114 N g_ s_ = some r) :
 Fn Tryz.prog 114 ⟨4, [.a (cC4 0 1 2 3 g_), .I s_], (vV4 0 1 2 3 g_ []), [], 4, .O r, [], []⟩ := by
 refine Fn.intro _ _ Tryz.func114 rfl (by kernel_rfl) rfl (fun E F w => ?_)
 unfold z114 at h
 refine wq (wg (ws htt 2 rfl (wn (wq (wg (wx (rg 3 6) ⟨[(1, .I s_), (2, .B 4 0), (7, .O (decide (s_ ≥ 0)))], [(4, .box (cC4 0 1 2 3 g_) 27)], (vV4 0 1 2 3 g_ []), 5⟩ htt 3 (by kernel_rfl) (?_)))))))
 rcases oc h with ⟨hc, h⟩ | ⟨hc, h⟩
 ·refine wy 7 hc rfl (wx [] ⟨[(4, .O (decide (s_ < g_.States)))], [], (vV4 0 1 2 3 g_ []), 5⟩ htt 6 (by kernel_rfl) (wn (?_)))
  cases h
  exact we htt Tryz.func114 [] rfl rfl rfl rfl
 refine wy 7 hc rfl (wx [] ⟨[(4, .O false)], [], (vV4 0 1 2 3 g_ []), 5⟩ htt 6 (by kernel_rfl) (wn (?_)))
 cases h
 exact we htt Tryz.func114 [] rfl rfl rfl rfl
theorem z52_ct (N : Nat) (g_ : T4) (r : Bool) (h : z52 N g_ = some r) :
 Fn Tryz.prog 52 ⟨4, [.a (cC4 0 1 2 3 g_)], (vV4 0 1 2 3 g_ []), [], 4, .O r, [], []⟩ := by
 refine Fn.intro _ _ Tryz.func52 rfl (by kernel_rfl) rfl (fun E F w => ?_)
 unfold z52 at h
 refine wq (wg (ws htt 2 rfl (wn (wq (wq (wg (wx [] ⟨[(1, .B 4 0), (2, .O false), (3, .I 0)], [(4, .box (cC4 0 1 2 3 g_) 27)], (vV4 0 1 2 3 g_ []), 5⟩ htt 1 (by kernel_rfl) (wn (?_)))))))))
 refine wC (σ := Unit) (fun st => ⟨[(1, .B 4 0)], [(4, .box (cC4 0 1 2 3 g_) 27)], (vV4 0 1 2 3 g_ []), 5⟩) (fun st => z52_k1 N g_ = some r) ?_ (fun j1 => ?_)
 ·intro _ h
  replace h : z52_k1 N g_ = some r := h
  unfold z52_k1 at h
  refine wq (wg (wx (rg 4 23) ⟨[(1, .B 4 0), (86, .O (decide (g_.States ≥ 1)))], [(4, .box (cC4 0 1 2 3 g_) 27)], (vV4 0 1 2 3 g_ []), 5⟩ htt 4 (by kernel_rfl) (?_)))
  rcases oc' h with ⟨hc, h⟩ | ⟨hc, h⟩
  ·refine wy 86 hc rfl (wx [] ⟨[(2, .O false)], [], (vV4 0 1 2 3 g_ []), 5⟩ htt 23 (by kernel_rfl) (wn (?_)))
   cases h
   exact we htt Tryz.func52 [] rfl rfl rfl rfl
  refine wy 86 hc rfl (wx (rg 9 18) ⟨[(1, .B 4 0), (91, .O (decide (g_.States ≤ 200)))], [(4, .box (cC4 0 1 2 3 g_) 27)], (vV4 0 1 2 3 g_ []), 5⟩ htt 5 (by kernel_rfl) (?_))
  rcases oc' h with ⟨hc, h⟩ | ⟨hc, h⟩
  ·refine wy 91 hc rfl (wx [] ⟨[(2, .O false)], [], (vV4 0 1 2 3 g_ []), 5⟩ htt 18 (by kernel_rfl) (wn (?_)))
   cases h
   exact we htt Tryz.func52 [] rfl rfl rfl rfl
  refine wy 91 hc rfl (wx (rg 12 15) ⟨[(1, .B 4 0), (91, .O true), (92, .a (cC4 0 1 2 3 g_)), (94, .I g_.Start)], [(4, .box (cC4 0 1 2 3 g_) 27)], (vV4 0 1 2 3 g_ []), 5⟩ htt 3 (by kernel_rfl) (?_))
  obtain ⟨c, d, h⟩ := ob h
  refine wc (z114_ct N g_ g_.Start _ d) [(0, .sl 0), (1, .sl 1), (2, .sl 2), (3, .sl 3)] [] rfl rfl rfl rfl rfl rfl rfl rfl (.inl rfl) rfl (wx (rg 15 12) ⟨[(1, .B 4 0), (97, .O c)], [(4, .box (cC4 0 1 2 3 g_) 27)], (vV4 0 1 2 3 g_ []), 5⟩ htt 2 (by kernel_rfl) (?_))
  rcases oc' h with ⟨hc, h⟩ | ⟨hc, h⟩
  ·refine wy 97 hc rfl (wx [] ⟨[(2, .O false)], [], (vV4 0 1 2 3 g_ []), 5⟩ htt 12 (by kernel_rfl) (wn (?_)))
   cases h
   exact we htt Tryz.func52 [] rfl rfl rfl rfl
  refine wy 97 hc rfl (wx (rg 18 9) ⟨[(1, .B 4 0), (97, .O true), (98, .a (cC4 0 1 2 3 g_)), (100, .I g_.End)], [(4, .box (cC4 0 1 2 3 g_) 27)], (vV4 0 1 2 3 g_ []), 5⟩ htt 3 (by kernel_rfl) (?_))
  obtain ⟨e, f, h⟩ := ob h
  refine wc (z114_ct N g_ g_.End _ f) [(0, .sl 0), (1, .sl 1), (2, .sl 2), (3, .sl 3)] [] rfl rfl rfl rfl rfl rfl rfl rfl (.inl rfl) rfl (wx (rg 21 6) ⟨[(1, .B 4 0), (103, .O e)], [(4, .box (cC4 0 1 2 3 g_) 27)], (vV4 0 1 2 3 g_ []), 5⟩ htt 2 (by kernel_rfl) (?_))
  rcases oc h with ⟨hc, h⟩ | ⟨hc, h⟩
  ·refine wy 103 hc rfl (wx [] ⟨[(2, .O (decide ((g_.Edges.length : Int) ≤ 400)))], [], (vV4 0 1 2 3 g_ []), 5⟩ htt 6 (by kernel_rfl) (wn (?_)))
   cases h
   exact we htt Tryz.func52 [] rfl rfl rfl rfl
  refine wy 103 hc rfl (wx [] ⟨[(2, .O false)], [], (vV4 0 1 2 3 g_ []), 5⟩ htt 6 (by kernel_rfl) (wn (?_)))
  cases h
  exact we htt Tryz.func52 [] rfl rfl rfl rfl
 refine wo (?_)
 refine wI (σ := Int) (fun st => ⟨[(1, .B 4 0), (3, .I st)], [(4, .box (cC4 0 1 2 3 g_) 27)], (vV4 0 1 2 3 g_ []), 5⟩) (fun n st => z52_l2 N g_ n st) (r := r) (fun _ => rfl) ?_ (fun ih => ?_)
 ·intro n2 ih3
  intro g h
  replace h : z52_l2 N g_ (n2 + 1) g = some r := h
  unfold z52_l2 at h
  refine wq (wq (wg (wx [] ⟨[(1, .B 4 0), (3, .I g), (9, .O (decide (g < (g_.Edges.length : Int))))], [(4, .box (cC4 0 1 2 3 g_) 27)], (vV4 0 1 2 3 g_ []), 5⟩ htt 5 (by kernel_rfl) (wn (?_)))))
  rcases oc' h with ⟨hc, h⟩ | ⟨hc, h⟩
  ·exact wf hc rfl (wz rfl (wu [] (j1 () h) rfl rfl rfl rfl))
  refine wt hc rfl (wi (wq (wo (wq (wg (wx [3, 4, 5, 6] ⟨[(1, .B 4 0), (3, .I g), (13, .S 2), (14, .I g)], [(4, .box (cC4 0 1 2 3 g_) 27)], (vV4 0 1 2 3 g_ []), 5⟩ htt 3 (by kernel_rfl) (?_)))))))
  obtain ⟨i, j, h⟩ := ob h
  refine wj oO2 htt j rfl rfl rfl rfl rfl rfl rfl rfl rfl (wx [] ⟨[(1, .B 4 0), (3, .I g), (4, .B 6 0)], [(4, .box (cC4 0 1 2 3 g_) 27), (6, .box (cC2 i) 43)], (vV4 0 1 2 3 g_ []), 7⟩ htt 3 (by kernel_rfl) (wn (wq (wg (wx (rg 3 63) ⟨[(1, .B 4 0), (3, .I g), (4, .B 6 0), (17, .a (cC4 0 1 2 3 g_)), (19, .I i.From)], [(4, .box (cC4 0 1 2 3 g_) 27), (6, .box (cC2 i) 43)], (vV4 0 1 2 3 g_ []), 7⟩ htt 3 (by kernel_rfl) (?_))))))
  obtain ⟨k, l, h⟩ := ob h
  refine wc (z114_ct N g_ i.From _ l) [(0, .sl 0), (1, .sl 1), (2, .sl 2), (3, .sl 3)] [] rfl rfl rfl rfl rfl rfl rfl rfl (.inl rfl) rfl (wx (rg 6 60) ⟨[(1, .B 4 0), (3, .I g), (4, .B 6 0), (22, .O (!k))], [(4, .box (cC4 0 1 2 3 g_) 27), (6, .box (cC2 i) 43)], (vV4 0 1 2 3 g_ []), 7⟩ htt 2 (by kernel_rfl) (?_))
  rcases oc h with ⟨hc, h⟩ | ⟨hc, h⟩
  ·refine wy 22 hc rfl (wx [] ⟨[(1, .B 4 0), (3, .I g), (82, .O true)], [(4, .box (cC4 0 1 2 3 g_) 27)], (vV4 0 1 2 3 g_ []), 7⟩ htt 60 (by kernel_rfl) (wn (wt rfl rfl (wq (wg (ws htt 1 rfl (wn (?_))))))))
   cases h
   exact we htt Tryz.func52 [] rfl rfl rfl rfl
  refine wy 22 hc rfl (wx (rg 9 57) ⟨[(1, .B 4 0), (3, .I g), (4, .B 6 0), (22, .O false), (23, .a (cC4 0 1 2 3 g_)), (25, .I i.To)], [(4, .box (cC4 0 1 2 3 g_) 27), (6, .box (cC2 i) 43)], (vV4 0 1 2 3 g_ []), 7⟩ htt 3 (by kernel_rfl) (?_))
  obtain ⟨m, o, h⟩ := ob h
  refine wc (z114_ct N g_ i.To _ o) [(0, .sl 0), (1, .sl 1), (2, .sl 2), (3, .sl 3)] [] rfl rfl rfl rfl rfl rfl rfl rfl (.inl rfl) rfl (wx (rg 13 53) ⟨[(1, .B 4 0), (3, .I g), (4, .B 6 0), (29, .O (!m))], [(4, .box (cC4 0 1 2 3 g_) 27), (6, .box (cC2 i) 43)], (vV4 0 1 2 3 g_ []), 7⟩ htt 3 (by kernel_rfl) (?_))
  rcases oc h with ⟨hc, h⟩ | ⟨hc, h⟩
  ·refine wy 29 hc rfl (wx [] ⟨[(1, .B 4 0), (3, .I g), (82, .O true)], [(4, .box (cC4 0 1 2 3 g_) 27)], (vV4 0 1 2 3 g_ []), 7⟩ htt 53 (by kernel_rfl) (wn (wt rfl rfl (wq (wg (ws htt 1 rfl (wn (?_))))))))
   cases h
   exact we htt Tryz.func52 [] rfl rfl rfl rfl
  refine wy 29 hc rfl (wx (rg 19 47) ⟨[(1, .B 4 0), (3, .I g), (4, .B 6 0), (35, .O (decide (i.Act.From < 0)))], [(4, .box (cC4 0 1 2 3 g_) 27), (6, .box (cC2 i) 43)], (vV4 0 1 2 3 g_ []), 7⟩ htt 6 (by kernel_rfl) (?_))
  rcases oc h with ⟨hc, h⟩ | ⟨hc, h⟩
  ·refine wy 35 hc rfl (wx [] ⟨[(1, .B 4 0), (3, .I g), (82, .O true)], [(4, .box (cC4 0 1 2 3 g_) 27)], (vV4 0 1 2 3 g_ []), 7⟩ htt 47 (by kernel_rfl) (wn (wt rfl rfl (wq (wg (ws htt 1 rfl (wn (?_))))))))
   cases h
   exact we htt Tryz.func52 [] rfl rfl rfl rfl
  refine wy 35 hc rfl (wx (rg 28 38) ⟨[(1, .B 4 0), (3, .I g), (4, .B 6 0), (44, .O (decide (i.Act.From ≥ (g_.Roles.length : Int))))], [(4, .box (cC4 0 1 2 3 g_) 27), (6, .box (cC2 i) 43)], (vV4 0 1 2 3 g_ []), 7⟩ htt 9 (by kernel_rfl) (?_))
  rcases oc h with ⟨hc, h⟩ | ⟨hc, h⟩
  ·refine wy 44 hc rfl (wx [] ⟨[(1, .B 4 0), (3, .I g), (82, .O true)], [(4, .box (cC4 0 1 2 3 g_) 27)], (vV4 0 1 2 3 g_ []), 7⟩ htt 38 (by kernel_rfl) (wn (wt rfl rfl (wq (wg (ws htt 1 rfl (wn (?_))))))))
   cases h
   exact we htt Tryz.func52 [] rfl rfl rfl rfl
  refine wy 44 hc rfl (wx (rg 34 32) ⟨[(1, .B 4 0), (3, .I g), (4, .B 6 0), (50, .O (decide (i.Act.To < 0)))], [(4, .box (cC4 0 1 2 3 g_) 27), (6, .box (cC2 i) 43)], (vV4 0 1 2 3 g_ []), 7⟩ htt 6 (by kernel_rfl) (?_))
  rcases oc h with ⟨hc, h⟩ | ⟨hc, h⟩
  ·refine wy 50 hc rfl (wx [] ⟨[(1, .B 4 0), (3, .I g), (82, .O true)], [(4, .box (cC4 0 1 2 3 g_) 27)], (vV4 0 1 2 3 g_ []), 7⟩ htt 32 (by kernel_rfl) (wn (wt rfl rfl (wq (wg (ws htt 1 rfl (wn (?_))))))))
   cases h
   exact we htt Tryz.func52 [] rfl rfl rfl rfl
  refine wy 50 hc rfl (wx (rg 43 23) ⟨[(1, .B 4 0), (3, .I g), (4, .B 6 0), (59, .O (decide (i.Act.To ≥ (g_.Roles.length : Int))))], [(4, .box (cC4 0 1 2 3 g_) 27), (6, .box (cC2 i) 43)], (vV4 0 1 2 3 g_ []), 7⟩ htt 9 (by kernel_rfl) (?_))
  rcases oc h with ⟨hc, h⟩ | ⟨hc, h⟩
  ·refine wy 59 hc rfl (wx [] ⟨[(1, .B 4 0), (3, .I g), (82, .O true)], [(4, .box (cC4 0 1 2 3 g_) 27)], (vV4 0 1 2 3 g_ []), 7⟩ htt 23 (by kernel_rfl) (wn (wt rfl rfl (wq (wg (ws htt 1 rfl (wn (?_))))))))
   cases h
   exact we htt Tryz.func52 [] rfl rfl rfl rfl
  refine wy 59 hc rfl (wx (rg 52 14) ⟨[(1, .B 4 0), (3, .I g), (4, .B 6 0), (68, .O (i.Act.From == i.Act.To))], [(4, .box (cC4 0 1 2 3 g_) 27), (6, .box (cC2 i) 43)], (vV4 0 1 2 3 g_ []), 7⟩ htt 9 (by kernel_rfl) (?_))
  rcases oc h with ⟨hc, h⟩ | ⟨hc, h⟩
  ·refine wy 68 hc rfl (wx [] ⟨[(1, .B 4 0), (3, .I g), (82, .O true)], [(4, .box (cC4 0 1 2 3 g_) 27)], (vV4 0 1 2 3 g_ []), 7⟩ htt 14 (by kernel_rfl) (wn (wt rfl rfl (wq (wg (ws htt 1 rfl (wn (?_))))))))
   cases h
   exact we htt Tryz.func52 [] rfl rfl rfl rfl
  refine wy 68 hc rfl (wx (rg 58 8) ⟨[(1, .B 4 0), (3, .I g), (4, .B 6 0), (74, .O (decide (i.Act.Label < 0)))], [(4, .box (cC4 0 1 2 3 g_) 27), (6, .box (cC2 i) 43)], (vV4 0 1 2 3 g_ []), 7⟩ htt 6 (by kernel_rfl) (?_))
  rcases oc h with ⟨hc, h⟩ | ⟨hc, h⟩
  ·refine wy 74 hc rfl (wx [] ⟨[(1, .B 4 0), (3, .I g), (82, .O true)], [(4, .box (cC4 0 1 2 3 g_) 27)], (vV4 0 1 2 3 g_ []), 7⟩ htt 8 (by kernel_rfl) (wn (wt rfl rfl (wq (wg (ws htt 1 rfl (wn (?_))))))))
   cases h
   exact we htt Tryz.func52 [] rfl rfl rfl rfl
  refine wy 74 hc rfl (wx [] ⟨[(1, .B 4 0), (3, .I g), (82, .O (decide (i.Act.Label ≥ (g_.Decls.length : Int))))], [(4, .box (cC4 0 1 2 3 g_) 27)], (vV4 0 1 2 3 g_ []), 7⟩ htt 8 (by kernel_rfl) (wn (?_)))
  rcases oc h with ⟨hc, h⟩ | ⟨hc, h⟩
  ·refine wt hc rfl (wq (wg (ws htt 1 rfl (wn (?_)))))
   cases h
   exact we htt Tryz.func52 [] rfl rfl rfl rfl
  exact wf hc rfl (wi (wb (wg (wx [] ⟨[(1, .B 4 0), (3, .I (w64 (g + 1)))], [(4, .box (cC4 0 1 2 3 g_) 27)], (vV4 0 1 2 3 g_ []), 7⟩ htt 3 (by kernel_rfl) (wn (wu [] (ih3 (w64 (g + 1)) h) rfl rfl rfl rfl))))))
 exact wu [] (ih N 0 h) rfl rfl rfl rfl
theorem z53_ct (N : Nat) (g_ : T4) (r : Bool) (h : z53 N g_ = some r) :
 Fn Tryz.prog 53 ⟨4, [.a (cC4 0 1 2 3 g_)], (vV4 0 1 2 3 g_ []), [], 4, .O r, [], []⟩ := by
 refine Fn.intro _ _ Tryz.func53 rfl (by kernel_rfl) rfl (fun E F w => ?_)
 unfold z53 at h
 refine wq (wg (ws htt 2 rfl (wn (wq (wq (wg (wx [] ⟨[(1, .B 4 0), (2, .O false), (3, .I 0)], [(4, .box (cC4 0 1 2 3 g_) 27)], (vV4 0 1 2 3 g_ []), 5⟩ htt 1 (by kernel_rfl) (wn (?_)))))))))
 refine wC (σ := Unit) (fun st => ⟨[], [], (vV4 0 1 2 3 g_ []), 5⟩) (fun st => z53_k1 = some r) ?_ (fun j1 => ?_)
 ·intro _ h
  replace h : z53_k1 = some r := h
  unfold z53_k1 at h
  refine wq (wg (ws htt 1 rfl (wn (?_))))
  cases h
  exact we htt Tryz.func53 [] rfl rfl rfl rfl
 refine wo (?_)
 refine wI (σ := Int) (fun st => ⟨[(1, .B 4 0), (3, .I st)], [(4, .box (cC4 0 1 2 3 g_) 27)], (vV4 0 1 2 3 g_ []), 5⟩) (fun n st => z53_l2 N g_ n st) (r := r) (fun _ => rfl) ?_ (fun ih => ?_)
 ·intro n12 ih33
  intro c h
  replace h : z53_l2 N g_ (n12 + 1) c = some r := h
  unfold z53_l2 at h
  refine wq (wq (wg (wx [] ⟨[(1, .B 4 0), (3, .I c), (11, .O (decide (c < (g_.Edges.length : Int))))], [(4, .box (cC4 0 1 2 3 g_) 27)], (vV4 0 1 2 3 g_ []), 5⟩ htt 5 (by kernel_rfl) (wn (?_)))))
  rcases oc' h with ⟨hc, h⟩ | ⟨hc, h⟩
  ·exact wf hc rfl (wz rfl (wu [] (j1 () h) rfl rfl rfl rfl))
  refine wt hc rfl (wi (wq (wo (wq (wg (wx [3, 4, 5, 6] ⟨[(1, .B 4 0), (3, .I c), (15, .S 2), (16, .I c)], [(4, .box (cC4 0 1 2 3 g_) 27)], (vV4 0 1 2 3 g_ []), 5⟩ htt 3 (by kernel_rfl) (?_)))))))
  obtain ⟨d, e, h⟩ := ob h
  refine wj oO2 htt e rfl rfl rfl rfl rfl rfl rfl rfl rfl (wx [] ⟨[(1, .B 4 0), (3, .I c), (4, .B 6 0)], [(4, .box (cC4 0 1 2 3 g_) 27), (6, .box (cC2 d) 43)], (vV4 0 1 2 3 g_ []), 7⟩ htt 3 (by kernel_rfl) (wn (wq (wq (wg (wx (rg 3 6) ⟨[(1, .B 4 0), (3, .I c), (4, .B 6 0), (21, .O d.Again)], [(4, .box (cC4 0 1 2 3 g_) 27), (6, .box (cC2 d) 43)], (vV4 0 1 2 3 g_ []), 7⟩ htt 3 (by kernel_rfl) (?_)))))))
  refine WP.cutr (σ := Bool) (fun st => ⟨[(1, .B 4 0), (3, .I c), (4, .B 6 0), (27, .O st)], [(4, .box (cC4 0 1 2 3 g_) 27), (6, .box (cC2 d) 43)], (vV4 0 1 2 3 g_ []), 7⟩) (fun st => z53_k6 N g_ c (z53_l2 N g_ n12) d st = some r) ?_ (fun j54 => ?_)
  ·intro f h
   replace h : z53_k6 N g_ c (z53_l2 N g_ n12) d f = some r := h
   unfold z53_k6 at h
   rcases oc h with ⟨hc, h⟩ | ⟨hc, h⟩
   ·refine wt hc rfl (wq (wg (ws htt 1 rfl (wn (?_)))))
    cases h
    exact we htt Tryz.func53 [] rfl rfl rfl rfl
   refine wf hc rfl (wi (wq (wg (ws htt 1 rfl (wn (?_))))))
   refine wC (σ := Unit) (fun st => ⟨[(1, .B 4 0), (3, .I c)], [(4, .box (cC4 0 1 2 3 g_) 27)], (vV4 0 1 2 3 g_ []), 7⟩) (fun st => z53_k3 c (z53_l2 N g_ n12) = some r) ?_ (fun j55 => ?_)
   ·intro _ h
    replace h : z53_k3 c (z53_l2 N g_ n12) = some r := h
    unfold z53_k3 at h
    exact wb (wg (wx [] ⟨[(1, .B 4 0), (3, .I (w64 (c + 1)))], [(4, .box (cC4 0 1 2 3 g_) 27)], (vV4 0 1 2 3 g_ []), 7⟩ htt 3 (by kernel_rfl) (wn (wu [] (ih33 (w64 (c + 1)) h) rfl rfl rfl rfl))))
   refine wo (?_)
   refine wI (σ := Int) (fun st => ⟨[(1, .B 4 0), (3, .I c), (4, .B 6 0), (5, .I st)], [(4, .box (cC4 0 1 2 3 g_) 27), (6, .box (cC2 d) 43)], (vV4 0 1 2 3 g_ []), 7⟩) (fun n st => z53_l4 g_ c (z53_l2 N g_ n12) d n st) (r := r) (fun _ => rfl) ?_ (fun ih => ?_)
   ·intro n14 ih60
    intro g h
    replace h : z53_l4 g_ c (z53_l2 N g_ n12) d (n14 + 1) g = some r := h
    unfold z53_l4 at h
    refine wq (wq (wg (wx [] ⟨[(1, .B 4 0), (3, .I c), (4, .B 6 0), (5, .I g), (32, .O (decide (g < (g_.Edges.length : Int))))], [(4, .box (cC4 0 1 2 3 g_) 27), (6, .box (cC2 d) 43)], (vV4 0 1 2 3 g_ []), 7⟩ htt 5 (by kernel_rfl) (wn (?_)))))
    rcases oc' h with ⟨hc, h⟩ | ⟨hc, h⟩
    ·exact wf hc rfl (wz rfl (wu [] (j55 () h) rfl rfl rfl rfl))
    refine wt hc rfl (wi (wq (wo (wq (wg (wx [3, 4, 5, 6] ⟨[(1, .B 4 0), (3, .I c), (4, .B 6 0), (5, .I g), (36, .S 2), (37, .I g)], [(4, .box (cC4 0 1 2 3 g_) 27), (6, .box (cC2 d) 43)], (vV4 0 1 2 3 g_ []), 7⟩ htt 3 (by kernel_rfl) (?_)))))))
    obtain ⟨i, j, h⟩ := ob h
    refine wj oO2 htt j rfl rfl rfl rfl rfl rfl rfl rfl rfl (wx [] ⟨[(1, .B 4 0), (3, .I c), (4, .B 6 0), (5, .I g), (6, .B 8 0)], [(4, .box (cC4 0 1 2 3 g_) 27), (6, .box (cC2 d) 43), (8, .box (cC2 i) 43)], (vV4 0 1 2 3 g_ []), 9⟩ htt 3 (by kernel_rfl) (wn (wq (wq (wg (wx (rg 4 26) ⟨[(1, .B 4 0), (3, .I c), (4, .B 6 0), (5, .I g), (6, .B 8 0), (43, .O (g != c))], [(4, .box (cC4 0 1 2 3 g_) 27), (6, .box (cC2 d) 43), (8, .box (cC2 i) 43)], (vV4 0 1 2 3 g_ []), 9⟩ htt 4 (by kernel_rfl) (?_)))))))
    refine WP.cutr (σ := Bool) (fun st => ⟨[(1, .B 4 0), (3, .I c), (4, .B 6 0), (5, .I g), (6, .B 8 0), (69, .O st)], [(4, .box (cC4 0 1 2 3 g_) 27), (6, .box (cC2 d) 43), (8, .box (cC2 i) 43)], (vV4 0 1 2 3 g_ []), 9⟩) (fun st => z53_k5 d g (z53_l4 g_ c (z53_l2 N g_ n12) d n14) i st = some r) ?_ (fun j63 => ?_)
    ·intro k h
     replace h : z53_k5 d g (z53_l4 g_ c (z53_l2 N g_ n12) d n14) i k = some r := h
     unfold z53_k5 at h
     rcases oc h with ⟨hc, h⟩ | ⟨hc, h⟩
     ·refine wt hc rfl (wq (wg (ws htt 1 rfl (wn (?_)))))
      cases h
      exact we htt Tryz.func53 [] rfl rfl rfl rfl
     refine wf hc rfl (wi (wq (wg (wx (rg 3 24) ⟨[(1, .B 4 0), (3, .I c), (4, .B 6 0), (5, .I g), (6, .B 8 0), (72, .O d.Again)], [(4, .box (cC4 0 1 2 3 g_) 27), (6, .box (cC2 d) 43), (8, .box (cC2 i) 43)], (vV4 0 1 2 3 g_ []), 9⟩ htt 3 (by kernel_rfl) (?_)))))
     rcases oc' h with ⟨hc, h⟩ | ⟨hc, h⟩
     ·exact wy 72 hc rfl (wx [] ⟨[(1, .B 4 0), (3, .I c), (4, .B 6 0), (5, .I g), (96, .O false)], [(4, .box (cC4 0 1 2 3 g_) 27), (6, .box (cC2 d) 43)], (vV4 0 1 2 3 g_ []), 9⟩ htt 24 (by kernel_rfl) (wn (wf rfl rfl (wi (wb (wg (wx [] ⟨[(1, .B 4 0), (3, .I c), (4, .B 6 0), (5, .I (w64 (g + 1)))], [(4, .box (cC4 0 1 2 3 g_) 27), (6, .box (cC2 d) 43)], (vV4 0 1 2 3 g_ []), 9⟩ htt 3 (by kernel_rfl) (wn (wu [] (ih60 (w64 (g + 1)) h) rfl rfl rfl rfl)))))))))
     refine wy 72 hc rfl (wx (rg 10 17) ⟨[(1, .B 4 0), (3, .I c), (4, .B 6 0), (5, .I g), (6, .B 8 0), (79, .O (i.To == d.From))], [(4, .box (cC4 0 1 2 3 g_) 27), (6, .box (cC2 d) 43), (8, .box (cC2 i) 43)], (vV4 0 1 2 3 g_ []), 9⟩ htt 7 (by kernel_rfl) (?_))
     rcases oc' h with ⟨hc, h⟩ | ⟨hc, h⟩
     ·exact wy 79 hc rfl (wx [] ⟨[(1, .B 4 0), (3, .I c), (4, .B 6 0), (5, .I g), (96, .O false)], [(4, .box (cC4 0 1 2 3 g_) 27), (6, .box (cC2 d) 43)], (vV4 0 1 2 3 g_ []), 9⟩ htt 17 (by kernel_rfl) (wn (wf rfl rfl (wi (wb (wg (wx [] ⟨[(1, .B 4 0), (3, .I c), (4, .B 6 0), (5, .I (w64 (g + 1)))], [(4, .box (cC4 0 1 2 3 g_) 27), (6, .box (cC2 d) 43)], (vV4 0 1 2 3 g_ []), 9⟩ htt 3 (by kernel_rfl) (wn (wu [] (ih60 (w64 (g + 1)) h) rfl rfl rfl rfl)))))))))
     refine wy 79 hc rfl (wx (rg 18 9) ⟨[(1, .B 4 0), (3, .I c), (4, .B 6 0), (5, .I g), (6, .B 8 0), (79, .O true), (87, .O (i.Act.From != d.Act.From))], [(4, .box (cC4 0 1 2 3 g_) 27), (6, .box (cC2 d) 43), (8, .box (cC2 i) 43)], (vV4 0 1 2 3 g_ []), 9⟩ htt 8 (by kernel_rfl) (?_))
     rcases oc h with ⟨hc, h⟩ | ⟨hc, h⟩
     ·refine wy 87 hc rfl (wx [] ⟨[(1, .B 4 0), (3, .I c), (4, .B 6 0), (5, .I g), (96, .O true)], [(4, .box (cC4 0 1 2 3 g_) 27), (6, .box (cC2 d) 43)], (vV4 0 1 2 3 g_ []), 9⟩ htt 9 (by kernel_rfl) (wn (wt rfl rfl (wq (wg (ws htt 1 rfl (wn (?_))))))))
      cases h
      exact we htt Tryz.func53 [] rfl rfl rfl rfl
     refine wy 87 hc rfl (wx [] ⟨[(1, .B 4 0), (3, .I c), (4, .B 6 0), (5, .I g), (96, .O (i.Act.Label != d.Act.Label))], [(4, .box (cC4 0 1 2 3 g_) 27), (6, .box (cC2 d) 43)], (vV4 0 1 2 3 g_ []), 9⟩ htt 9 (by kernel_rfl) (wn (?_)))
     rcases oc h with ⟨hc, h⟩ | ⟨hc, h⟩
     ·refine wt hc rfl (wq (wg (ws htt 1 rfl (wn (?_)))))
      cases h
      exact we htt Tryz.func53 [] rfl rfl rfl rfl
     exact wf hc rfl (wi (wb (wg (wx [] ⟨[(1, .B 4 0), (3, .I c), (4, .B 6 0), (5, .I (w64 (g + 1)))], [(4, .box (cC4 0 1 2 3 g_) 27), (6, .box (cC2 d) 43)], (vV4 0 1 2 3 g_ []), 9⟩ htt 3 (by kernel_rfl) (wn (wu [] (ih60 (w64 (g + 1)) h) rfl rfl rfl rfl))))))
    rcases oc' h with ⟨hc, h⟩ | ⟨hc, h⟩
    ·exact wy 43 hc rfl (wx [] ⟨[(1, .B 4 0), (3, .I c), (4, .B 6 0), (5, .I g), (6, .B 8 0), (69, .O false)], [(4, .box (cC4 0 1 2 3 g_) 27), (6, .box (cC2 d) 43), (8, .box (cC2 i) 43)], (vV4 0 1 2 3 g_ []), 9⟩ htt 26 (by kernel_rfl) (wn (wu [] (j63 false h) rfl rfl rfl rfl)))
    refine wy 43 hc rfl (wx (rg 11 19) ⟨[(1, .B 4 0), (3, .I c), (4, .B 6 0), (5, .I g), (6, .B 8 0), (50, .O (d.From == i.From))], [(4, .box (cC4 0 1 2 3 g_) 27), (6, .box (cC2 d) 43), (8, .box (cC2 i) 43)], (vV4 0 1 2 3 g_ []), 9⟩ htt 7 (by kernel_rfl) (?_))
    rcases oc' h with ⟨hc, h⟩ | ⟨hc, h⟩
    ·exact wy 50 hc rfl (wx [] ⟨[(1, .B 4 0), (3, .I c), (4, .B 6 0), (5, .I g), (6, .B 8 0), (69, .O false)], [(4, .box (cC4 0 1 2 3 g_) 27), (6, .box (cC2 d) 43), (8, .box (cC2 i) 43)], (vV4 0 1 2 3 g_ []), 9⟩ htt 19 (by kernel_rfl) (wn (wu [] (j63 false h) rfl rfl rfl rfl)))
    refine wy 50 hc rfl (wx (rg 15 15) ⟨[(1, .B 4 0), (3, .I c), (4, .B 6 0), (5, .I g), (6, .B 8 0), (50, .O true), (52, .a (cC6 d.Act)), (54, .a (cC6 i.Act))], [(4, .box (cC4 0 1 2 3 g_) 27), (6, .box (cC2 d) 43), (8, .box (cC2 i) 43)], (vV4 0 1 2 3 g_ []), 9⟩ htt 4 (by kernel_rfl) (WPr.eqa (neg := false) (equal_run (b := ((d.Act.From == i.Act.From) && ((d.Act.To == i.Act.To) && ((d.Act.Label == i.Act.Label) && true)))) (by kernel_rfl) (by kernel_rfl)) (by kernel_rfl) rfl rfl rfl rfl rfl rfl rfl (ws htt 1 rfl (?_))))
    rcases oc h with ⟨hc, h⟩ | ⟨hc, h⟩
    ·exact wy 56 hc rfl (wx [] ⟨[(1, .B 4 0), (3, .I c), (4, .B 6 0), (5, .I g), (6, .B 8 0), (69, .O true)], [(4, .box (cC4 0 1 2 3 g_) 27), (6, .box (cC2 d) 43), (8, .box (cC2 i) 43)], (vV4 0 1 2 3 g_ []), 9⟩ htt 13 (by kernel_rfl) (wn (wu [] (j63 true h) rfl rfl rfl rfl)))
    refine wy 56 hc rfl (wx [26, 27, 28, 29] ⟨[(1, .B 4 0), (3, .I c), (4, .B 6 0), (5, .I g), (6, .B 8 0), (50, .O true), (65, .O (d.Act.From != i.Act.From))], [(4, .box (cC4 0 1 2 3 g_) 27), (6, .box (cC2 d) 43), (8, .box (cC2 i) 43)], (vV4 0 1 2 3 g_ []), 9⟩ htt 9 (by kernel_rfl) (?_))
    rcases oc h with ⟨hc, h⟩ | ⟨hc, h⟩
    ·exact wy 65 hc rfl (wx [] ⟨[(1, .B 4 0), (3, .I c), (4, .B 6 0), (5, .I g), (6, .B 8 0), (69, .O true)], [(4, .box (cC4 0 1 2 3 g_) 27), (6, .box (cC2 d) 43), (8, .box (cC2 i) 43)], (vV4 0 1 2 3 g_ []), 9⟩ htt 4 (by kernel_rfl) (wn (wu [] (j63 true h) rfl rfl rfl rfl)))
    exact wy 65 hc rfl (wx [] ⟨[(1, .B 4 0), (3, .I c), (4, .B 6 0), (5, .I g), (6, .B 8 0), (69, .O d.Again)], [(4, .box (cC4 0 1 2 3 g_) 27), (6, .box (cC2 d) 43), (8, .box (cC2 i) 43)], (vV4 0 1 2 3 g_ []), 9⟩ htt 4 (by kernel_rfl) (wn (wu [] (j63 d.Again h) rfl rfl rfl rfl)))
   exact wu [] (ih N 0 h) rfl rfl rfl rfl
  rcases oc h with ⟨hc, h⟩ | ⟨hc, h⟩
  ·exact wy 21 hc rfl (wx [] ⟨[(1, .B 4 0), (3, .I c), (4, .B 6 0), (27, .O (d.From == g_.Start))], [(4, .box (cC4 0 1 2 3 g_) 27), (6, .box (cC2 d) 43)], (vV4 0 1 2 3 g_ []), 7⟩ htt 6 (by kernel_rfl) (wn (wu [] (j54 (d.From == g_.Start) h) rfl rfl rfl rfl)))
  exact wy 21 hc rfl (wx [] ⟨[(1, .B 4 0), (3, .I c), (4, .B 6 0), (27, .O false)], [(4, .box (cC4 0 1 2 3 g_) 27), (6, .box (cC2 d) 43)], (vV4 0 1 2 3 g_ []), 7⟩ htt 6 (by kernel_rfl) (wn (wu [] (j54 false h) rfl rfl rfl rfl)))
 exact wu [] (ih N 0 h) rfl rfl rfl rfl
theorem z81_ct (N : Nat) (g_ : T4) (r : (List Int)) (h : z81 N g_ = some r) :
 Fn Tryz.prog 81 ⟨4, [.a (cC4 0 1 2 3 g_)], (vV4 0 1 2 3 g_ []), [], 5, .S 4, [], [(4, .own (rI .i64) r true)]⟩ := by
 refine Fn.intro _ _ Tryz.func81 rfl (by kernel_rfl) rfl (fun E F w => ?_)
 unfold z81 at h
 refine wq (wg (ws htt 2 rfl (wn (wq (wg (wx [2, 3] ⟨[(1, .B 4 0), (2, .c .nil), (9, .I g_.States)], [(4, .box (cC4 0 1 2 3 g_) 27)], (vV4 0 1 2 3 g_ []), 5⟩ htt 2 (by kernel_rfl) (?_)))))))
 obtain ⟨x1, d, h⟩ := ob h
 refine WPr.mk (oI .i64) htt 0 d rfl rfl rfl rfl rfl rfl rfl rfl (by exact an rfl rfl) rfl (ws htt 1 rfl (wn (wq (wq (wg (wx [] ⟨[(1, .B 4 0), (2, .c .nil), (3, .S 5), (4, .I 0)], [(4, .box (cC4 0 1 2 3 g_) 27), (5, .own (rI .i64) x1 true)], (vV4 0 1 2 3 g_ []), 6⟩ htt 1 (by kernel_rfl) (wn (?_))))))))
 refine wC (σ := (List Int)) (fun st => ⟨[(1, .B 4 0), (3, .S 5)], [(4, .box (cC4 0 1 2 3 g_) 27), (5, .own (rI .i64) st true)], (vV4 0 1 2 3 g_ []), 6⟩) (fun st => z81_k5 N g_ st = some r) ?_ (fun j1 => ?_)
 ·intro e h
  replace h : z81_k5 N g_ e = some r := h
  unfold z81_k5 at h
  refine wq (wg (wx [3, 4] ⟨[(1, .B 4 0), (3, .S 5), (20, .S 5), (22, .I g_.End)], [(4, .box (cC4 0 1 2 3 g_) 27), (5, .own (rI .i64) e true)], (vV4 0 1 2 3 g_ []), 6⟩ htt 3 (by kernel_rfl) (?_)))
  obtain ⟨x6, f, h⟩ := ob h
  refine wX htt f rfl rfl rfl rfl rfl rfl rfl rfl rfl (WPr.sto (oI .i64) htt 0 f rfl rfl rfl rfl rfl rfl rfl rfl rfl rfl (by exact rfl) rfl (wn (wq (wq (wg (wx [] ⟨[(1, .B 4 0), (3, .S 5), (5, .I 0)], [(4, .box (cC4 0 1 2 3 g_) 27), (5, .own (rI .i64) (setL' e g_.End 0) true)], (vV4 0 1 2 3 g_ []), 7⟩ htt 1 (by kernel_rfl) (wn (?_))))))))
  refine wC (σ := (List Int)) (fun st => ⟨[(3, .S 5)], [(5, .own (rI .i64) st true)], (vV4 0 1 2 3 g_ []), 7⟩) (fun st => z81_k1 st = some r) ?_ (fun j3 => ?_)
  ·intro g h
   replace h : z81_k1 g = some r := h
   unfold z81_k1 at h
   refine wq (wg (ws htt 2 rfl (wn (?_))))
   cases h
   exact we htt Tryz.func81 [(4, .sl 5)] rfl rfl rfl rfl
  refine wo (?_)
  refine wI (σ := (List Int) × Int) (fun st => ⟨[(1, .B 4 0), (3, .S 5), (5, .I st.2)], [(4, .box (cC4 0 1 2 3 g_) 27), (5, .own (rI .i64) st.1 true)], (vV4 0 1 2 3 g_ []), 7⟩) (fun n st => z81_l2 N g_ n st.1 st.2) (r := r) (fun _ => rfl) ?_ (fun ih => ?_)
  ·intro n13 ih14
   rintro ⟨i, j⟩ h
   replace h : z81_l2 N g_ (n13 + 1) i j = some r := h
   unfold z81_l2 at h
   refine wq (wq (wg (wx [] ⟨[(1, .B 4 0), (3, .S 5), (5, .I j), (27, .O (decide (j < g_.States)))], [(4, .box (cC4 0 1 2 3 g_) 27), (5, .own (rI .i64) i true)], (vV4 0 1 2 3 g_ []), 7⟩ htt 4 (by kernel_rfl) (wn (?_)))))
   rcases oc' h with ⟨hc, h⟩ | ⟨hc, h⟩
   ·exact wf hc rfl (wz rfl (wu [] (j3 i h) rfl rfl rfl rfl))
   refine wt hc rfl (wi (wq (wo (wq (wg (ws htt 1 rfl (wn (?_))))))))
   refine wC (σ := (List Int)) (fun st => ⟨[(1, .B 4 0), (3, .S 5), (5, .I j)], [(4, .box (cC4 0 1 2 3 g_) 27), (5, .own (rI .i64) st true)], (vV4 0 1 2 3 g_ []), 7⟩) (fun st => z81_k3 j (z81_l2 N g_ n13) st = some r) ?_ (fun j21 => ?_)
   ·intro k h
    replace h : z81_k3 j (z81_l2 N g_ n13) k = some r := h
    unfold z81_k3 at h
    exact wb (wg (wx [] ⟨[(1, .B 4 0), (3, .S 5), (5, .I (w64 (j + 1)))], [(4, .box (cC4 0 1 2 3 g_) 27), (5, .own (rI .i64) k true)], (vV4 0 1 2 3 g_ []), 7⟩ htt 3 (by kernel_rfl) (wn (wu [] (ih14 (k, (w64 (j + 1))) h) rfl rfl rfl rfl))))
   refine wo (?_)
   refine wI (σ := (List Int) × Int) (fun st => ⟨[(1, .B 4 0), (3, .S 5), (5, .I j), (6, .I st.2)], [(4, .box (cC4 0 1 2 3 g_) 27), (5, .own (rI .i64) st.1 true)], (vV4 0 1 2 3 g_ []), 7⟩) (fun n st => z81_l4 g_ j (z81_l2 N g_ n13) n st.1 st.2) (r := r) (fun _ => rfl) ?_ (fun ih => ?_)
   ·intro n15 ih23
    rintro ⟨l, m⟩ h
    replace h : z81_l4 g_ j (z81_l2 N g_ n13) (n15 + 1) l m = some r := h
    unfold z81_l4 at h
    refine wq (wq (wg (wx [] ⟨[(1, .B 4 0), (3, .S 5), (5, .I j), (6, .I m), (34, .O (decide (m < (g_.Edges.length : Int))))], [(4, .box (cC4 0 1 2 3 g_) 27), (5, .own (rI .i64) l true)], (vV4 0 1 2 3 g_ []), 7⟩ htt 5 (by kernel_rfl) (wn (?_)))))
    rcases oc' h with ⟨hc, h⟩ | ⟨hc, h⟩
    ·exact wf hc rfl (wz rfl (wu [] (j21 l h) rfl rfl rfl rfl))
    refine wt hc rfl (wi (wq (wo (wq (wg (wx [3, 4, 5, 6] ⟨[(1, .B 4 0), (3, .S 5), (5, .I j), (6, .I m), (38, .S 2), (39, .I m)], [(4, .box (cC4 0 1 2 3 g_) 27), (5, .own (rI .i64) l true)], (vV4 0 1 2 3 g_ []), 7⟩ htt 3 (by kernel_rfl) (?_)))))))
    obtain ⟨o, p, h⟩ := ob h
    refine wj oO2 htt p rfl rfl rfl rfl rfl rfl rfl rfl rfl (wx [] ⟨[(1, .B 4 0), (3, .S 5), (5, .I j), (6, .I m), (7, .B 8 0)], [(4, .box (cC4 0 1 2 3 g_) 27), (5, .own (rI .i64) l true), (8, .box (cC2 o) 43)], (vV4 0 1 2 3 g_ []), 9⟩ htt 3 (by kernel_rfl) (wn (wq (wg (wx (rg 3 12) ⟨[(1, .B 4 0), (3, .S 5), (5, .I j), (6, .I m), (7, .B 8 0), (42, .S 5), (44, .I o.To)], [(4, .box (cC4 0 1 2 3 g_) 27), (5, .own (rI .i64) l true), (8, .box (cC2 o) 43)], (vV4 0 1 2 3 g_ []), 9⟩ htt 3 (by kernel_rfl) (?_))))))
    obtain ⟨q, s, h⟩ := ob h
    refine wX htt s rfl rfl rfl rfl rfl rfl rfl rfl rfl (wL (oI .i64) htt s rfl rfl rfl rfl rfl rfl rfl rfl rfl rfl (wx (rg 8 7) ⟨[(1, .B 4 0), (3, .S 5), (5, .I j), (6, .I m), (7, .B 8 0), (49, .O (q == j))], [(4, .box (cC4 0 1 2 3 g_) 27), (5, .own (rI .i64) l true), (8, .box (cC2 o) 43)], (vV4 0 1 2 3 g_ []), 10⟩ htt 3 (by kernel_rfl) (?_)))
    rcases oc' h with ⟨hc, h⟩ | ⟨hc, h⟩
    ·exact wy 49 hc rfl (wx [] ⟨[(1, .B 4 0), (3, .S 5), (5, .I j), (6, .I m), (7, .B 8 0), (56, .O false)], [(4, .box (cC4 0 1 2 3 g_) 27), (5, .own (rI .i64) l true), (8, .box (cC2 o) 43)], (vV4 0 1 2 3 g_ []), 10⟩ htt 7 (by kernel_rfl) (wn (wf rfl rfl (wi (wb (wg (wx [] ⟨[(1, .B 4 0), (3, .S 5), (5, .I j), (6, .I (w64 (m + 1)))], [(4, .box (cC4 0 1 2 3 g_) 27), (5, .own (rI .i64) l true)], (vV4 0 1 2 3 g_ []), 10⟩ htt 3 (by kernel_rfl) (wn (wu [] (ih23 (l, (w64 (m + 1))) h) rfl rfl rfl rfl)))))))))
    refine wy 49 hc rfl (wx [11, 12, 13, 14] ⟨[(1, .B 4 0), (3, .S 5), (5, .I j), (6, .I m), (7, .B 8 0), (49, .O true), (50, .S 5), (52, .I o.From)], [(4, .box (cC4 0 1 2 3 g_) 27), (5, .own (rI .i64) l true), (8, .box (cC2 o) 43)], (vV4 0 1 2 3 g_ []), 10⟩ htt 3 (by kernel_rfl) (?_))
    obtain ⟨t, u, h⟩ := ob h
    refine wX htt u rfl rfl rfl rfl rfl rfl rfl rfl rfl (wL (oI .i64) htt u rfl rfl rfl rfl rfl rfl rfl rfl rfl rfl (wx [] ⟨[(1, .B 4 0), (3, .S 5), (5, .I j), (6, .I m), (7, .B 8 0), (56, .O (decide (t < 0)))], [(4, .box (cC4 0 1 2 3 g_) 27), (5, .own (rI .i64) l true), (8, .box (cC2 o) 43)], (vV4 0 1 2 3 g_ []), 11⟩ htt 2 (by kernel_rfl) (wn (?_))))
    rcases oc' h with ⟨hc, h⟩ | ⟨hc, h⟩
    ·exact wf hc rfl (wi (wb (wg (wx [] ⟨[(1, .B 4 0), (3, .S 5), (5, .I j), (6, .I (w64 (m + 1)))], [(4, .box (cC4 0 1 2 3 g_) 27), (5, .own (rI .i64) l true)], (vV4 0 1 2 3 g_ []), 11⟩ htt 3 (by kernel_rfl) (wn (wu [] (ih23 (l, (w64 (m + 1))) h) rfl rfl rfl rfl))))))
    refine wt hc rfl (wg (wx [5, 6] ⟨[(1, .B 4 0), (3, .S 5), (5, .I j), (6, .I m), (57, .S 5), (59, .I o.From), (61, .I (w64 (j + 1)))], [(4, .box (cC4 0 1 2 3 g_) 27), (5, .own (rI .i64) l true)], (vV4 0 1 2 3 g_ []), 11⟩ htt 5 (by kernel_rfl) (?_)))
    obtain ⟨v, x, h⟩ := ob h
    exact wX htt x rfl rfl rfl rfl rfl rfl rfl rfl rfl (WPr.sto (oI .i64) htt (w64 (j + 1)) x rfl rfl rfl rfl rfl rfl rfl rfl rfl rfl (by exact rfl) rfl (wn (wb (wg (wx [] ⟨[(1, .B 4 0), (3, .S 5), (5, .I j), (6, .I (w64 (m + 1)))], [(4, .box (cC4 0 1 2 3 g_) 27), (5, .own (rI .i64) (setL' l o.From (w64 (j + 1))) true)], (vV4 0 1 2 3 g_ []), 12⟩ htt 3 (by kernel_rfl) (wn (wu [] (ih23 ((setL' l o.From (w64 (j + 1))), (w64 (m + 1))) h) rfl rfl rfl rfl)))))))
   exact wu [] (ih N (i, 0) h) rfl rfl rfl rfl
  exact wu [] (ih N ((setL' e g_.End 0), 0) h) rfl rfl rfl rfl
 refine wo (?_)
 refine wI (σ := (List Int) × Int) (fun st => ⟨[(1, .B 4 0), (3, .S 5), (4, .I st.2)], [(4, .box (cC4 0 1 2 3 g_) 27), (5, .own (rI .i64) st.1 true)], (vV4 0 1 2 3 g_ []), 6⟩) (fun n st => z81_l6 N g_ n st.1 st.2) (r := r) (fun _ => rfl) ?_ (fun ih => ?_)
 ·intro n16 ih24
  rintro ⟨y, z⟩ h
  replace h : z81_l6 N g_ (n16 + 1) y z = some r := h
  unfold z81_l6 at h
  refine wq (wq (wg (wx [] ⟨[(1, .B 4 0), (3, .S 5), (4, .I z), (14, .O (decide (z < g_.States)))], [(4, .box (cC4 0 1 2 3 g_) 27), (5, .own (rI .i64) y true)], (vV4 0 1 2 3 g_ []), 6⟩ htt 4 (by kernel_rfl) (wn (?_)))))
  rcases oc' h with ⟨hc, h⟩ | ⟨hc, h⟩
  ·exact wf hc rfl (wz rfl (wu [] (j1 y h) rfl rfl rfl rfl))
  refine wt hc rfl (wi (wq (wo (wg (ws htt 2 rfl (?_))))))
  obtain ⟨A, C, h⟩ := ob h
  exact wX htt C rfl rfl rfl rfl rfl rfl rfl rfl rfl (wx [3] ⟨[(1, .B 4 0), (3, .S 5), (4, .I z), (19, .P 6 0)], [(4, .box (cC4 0 1 2 3 g_) 27), (5, .own (rI .i64) y true)], (vV4 0 1 2 3 g_ [(6, .el 5 ((z).toNat * ((rI .i64)).sz))]), 7⟩ htt 0 (by kernel_rfl) (WPr.sto (oI .i64) htt (-1) C rfl rfl rfl rfl rfl rfl rfl rfl rfl rfl (by exact rfl) rfl (wn (wb (wg (wx [] ⟨[(1, .B 4 0), (3, .S 5), (4, .I (w64 (z + 1)))], [(4, .box (cC4 0 1 2 3 g_) 27), (5, .own (rI .i64) (setL' y z (-1)) true)], (vV4 0 1 2 3 g_ []), 7⟩ htt 3 (by kernel_rfl) (wn (wu [] (ih24 ((setL' y z (-1)), (w64 (z + 1))) h) rfl rfl rfl rfl))))))))
 exact wu [] (ih N (x1, 0) h) rfl rfl rfl rfl
theorem z74_ct (N : Nat) (g_ : T4) (i_ : Int) (k_ : Int) (r : Bool) (h : z74 N g_ i_ k_ = some r) :
 Fn Tryz.prog 74 ⟨4, [.a (cC4 0 1 2 3 g_), .I i_, .I k_], (vV4 0 1 2 3 g_ []), [], 4, .O r, [], []⟩ := by
 refine Fn.intro _ _ Tryz.func74 rfl (by kernel_rfl) rfl (fun E F w => ?_)
 unfold z74 at h
 refine wq (wg (ws htt 2 rfl (wn (wq (wN (fun A1 c d => ?_))))))
 have e : A1 0 ⟨[(3, .B 4 0)], [], [], [], 5, [(9, .B 4 6)], [], [], 5⟩ := c _ _ (wl htt rfl rfl rfl rfl rfl rfl)
 have f : A1 1 ⟨[(9, .B 4 6)], (vV4 0 1 2 3 g_ []), [], [(4, .box (cC4 0 1 2 3 g_) 27)], 5, [(10, .S 2)], [], [], 5⟩ := c _ _ (wl htt rfl rfl rfl rfl rfl rfl)
 have g : A1 2 ⟨[(1, .I i_)], [], [], [], 5, [(11, .I i_)], [], [], 5⟩ := c _ _ (wl htt rfl rfl rfl rfl rfl rfl)
 obtain ⟨x4, i, h⟩ := ob h
 have j : A1 3 ⟨[(10, .S 2), (11, .I i_)], [(2, .sl rR2 g_.Edges)], [], [], 5, [(12, .P 5 0)], [(5, .pl (cC2 x4))], [], 6⟩ := c _ _ (wO rfl rfl rfl (fun _ _ _ _ _ _ _ k => wj oO2 htt i rfl rfl rfl rfl rfl rfl rfl rfl rfl (k)) rfl)
 have l : A1 4 ⟨[(12, .P 5 0)], [(5, .pl (cC2 x4))], [], [], 6, [(13, .P 5 1)], [], [], 6⟩ := c _ _ (wl htt rfl rfl rfl rfl rfl rfl)
 have m : A1 5 ⟨[(13, .P 5 1)], [(5, .pl (cC2 x4))], [], [], 6, [(14, .a (cC6 x4.Act))], [], [], 6⟩ := c _ _ (wl htt rfl rfl rfl rfl rfl rfl)
 have o : A1 6 ⟨[(3, .B 4 0)], [], [], [], 6, [(15, .B 4 6)], [], [], 6⟩ := c _ _ (wl htt rfl rfl rfl rfl rfl rfl)
 have p : A1 7 ⟨[(15, .B 4 6)], (vV4 0 1 2 3 g_ []), [], [(4, .box (cC4 0 1 2 3 g_) 27)], 6, [(16, .S 2)], [], [], 6⟩ := c _ _ (wl htt rfl rfl rfl rfl rfl rfl)
 have q : A1 8 ⟨[(2, .I k_)], [], [], [], 6, [(17, .I k_)], [], [], 6⟩ := c _ _ (wl htt rfl rfl rfl rfl rfl rfl)
 obtain ⟨s, u, h⟩ := ob h
 have v : A1 9 ⟨[(16, .S 2), (17, .I k_)], [(2, .sl rR2 g_.Edges)], [], [], 6, [(18, .P 6 0)], [(6, .pl (cC2 s))], [], 7⟩ := c _ _ (wO rfl rfl rfl (fun _ _ _ _ _ _ _ k => wj oO2 htt u rfl rfl rfl rfl rfl rfl rfl rfl rfl (k)) rfl)
 have x : A1 10 ⟨[(18, .P 6 0)], [(6, .pl (cC2 s))], [], [], 7, [(19, .P 6 1)], [], [], 7⟩ := c _ _ (wl htt rfl rfl rfl rfl rfl rfl)
 have y : A1 11 ⟨[(19, .P 6 1)], [(6, .pl (cC2 s))], [], [], 7, [(20, .a (cC6 s.Act))], [], [], 7⟩ := c _ _ (wl htt rfl rfl rfl rfl rfl rfl)
 have z : A1 12 ⟨[], [], [], [], 7, [(7, .B 7 0)], [], [(7, .box [.I 0, .I 0, .I 0] 37)], 8⟩ := c _ _ (wl htt rfl rfl rfl rfl rfl rfl)
 have A : A1 13 ⟨[], [], [], [], 8, [(8, .B 8 0)], [], [(8, .box [.I 0, .I 0, .I 0] 37)], 9⟩ := c _ _ (wl htt rfl rfl rfl rfl rfl rfl)
 have C : A1 14 ⟨[(7, .B 7 0), (14, .a (cC6 x4.Act))], [], [(7, .box [.I 0, .I 0, .I 0] 37)], [], 9, [], [], [(7, .box (cC6 x4.Act) 37)], 9⟩ := c _ _ (wl htt rfl rfl rfl rfl rfl rfl)
 have D : A1 15 ⟨[(8, .B 8 0), (20, .a (cC6 s.Act))], [], [(8, .box [.I 0, .I 0, .I 0] 37)], [], 9, [], [], [(8, .box (cC6 s.Act) 37)], 9⟩ := c _ _ (wl htt rfl rfl rfl rfl rfl rfl)
 refine wD (t := ⟨[(1, .I i_), (2, .I k_), (6, .O false), (7, .B 7 0), (8, .B 8 0)], [(7, .box (cC6 x4.Act) 37), (8, .box (cC6 s.Act) 37)], (vV4 0 1 2 3 g_ []), 9⟩) [0, 1, 0, 7, 15, 31, 0, 64, 0, 448, 960, 1984, 0, 0, 12351, 32767] (.cons (d _ _ e) (.cons (d _ _ f) (.cons (d _ _ g) (.cons (d _ _ j) (.cons (d _ _ l) (.cons (d _ _ m) (.cons (d _ _ o) (.cons (d _ _ p) (.cons (d _ _ q) (.cons (d _ _ v) (.cons (d _ _ x) (.cons (d _ _ y) (.cons (d _ _ z) (.cons (d _ _ A) (.cons (d _ _ C) (.cons (d _ _ D) .nil)))))))))))))))) (by kernel_rfl) (by kernel_rfl) (by kernel_rfl) (by kernel_rfl) (wq (wq (wg (wx [] ⟨[(1, .I i_), (2, .I k_), (6, .O false), (7, .B 7 0), (8, .B 8 0), (25, .O (x4.Act.To != s.Act.To))], [(7, .box (cC6 x4.Act) 37), (8, .box (cC6 s.Act) 37)], (vV4 0 1 2 3 g_ []), 9⟩ htt 5 (by kernel_rfl) (wn (?_))))))
 rcases oc h with ⟨hc, h⟩ | ⟨hc, h⟩
 ·refine wt hc rfl (wq (wg (wx [] ⟨[(6, .O (decide (x4.Act.To < s.Act.To)))], [], (vV4 0 1 2 3 g_ []), 9⟩ htt 6 (by kernel_rfl) (wn (?_)))))
  cases h
  exact we htt Tryz.func74 [] rfl rfl rfl rfl
 refine wf hc rfl (wi (wq (wq (wg (wx [] ⟨[(1, .I i_), (2, .I k_), (6, .O false), (7, .B 7 0), (8, .B 8 0), (35, .O (x4.Act.Label != s.Act.Label))], [(7, .box (cC6 x4.Act) 37), (8, .box (cC6 s.Act) 37)], (vV4 0 1 2 3 g_ []), 9⟩ htt 5 (by kernel_rfl) (wn (?_)))))))
 rcases oc h with ⟨hc, h⟩ | ⟨hc, h⟩
 ·refine wt hc rfl (wq (wg (wx [] ⟨[(6, .O (decide (x4.Act.Label < s.Act.Label)))], [], (vV4 0 1 2 3 g_ []), 9⟩ htt 6 (by kernel_rfl) (wn (?_)))))
  cases h
  exact we htt Tryz.func74 [] rfl rfl rfl rfl
 refine wf hc rfl (wi (wq (wg (wx [] ⟨[(6, .O (decide (i_ < k_)))], [], (vV4 0 1 2 3 g_ []), 9⟩ htt 4 (by kernel_rfl) (wn (?_))))))
 cases h
 exact we htt Tryz.func74 [] rfl rfl rfl rfl
theorem z28_ct (N : Nat) (g_ : T4) (s_ : Int) (r : (List Int)) (h : z28 N g_ s_ = some r) :
 Fn Tryz.prog 28 ⟨4, [.a (cC4 0 1 2 3 g_), .I s_], (vV4 0 1 2 3 g_ []), [], 5, .S 4, [], [(4, .own (rI .i64) r true)]⟩ := by
 refine Fn.intro _ _ Tryz.func28 rfl (by kernel_rfl) rfl (fun E F w => ?_)
 unfold z28 at h
 refine wq (wg (ws htt 2 rfl (wn (wq (wg (wx [] ⟨[(1, .I s_), (2, .B 4 0), (4, .c .nil), (5, .c .nil)], [(4, .box (cC4 0 1 2 3 g_) 27)], (vV4 0 1 2 3 g_ []), 5⟩ htt 1 (by kernel_rfl) (wn (wq (wq (wg (ws htt 1 rfl (wn (?_)))))))))))))
 refine wC (σ := (List Int)) (fun st => ⟨[(5, .S 5)], [(5, .own (rI .i64) st true)], (vV4 0 1 2 3 g_ []), 6⟩) (fun st => z28_k1 st = some r) ?_ (fun j1 => ?_)
 ·intro d h
  replace h : z28_k1 d = some r := h
  unfold z28_k1 at h
  refine wq (wg (ws htt 2 rfl (wn (?_))))
  cases h
  exact we htt Tryz.func28 [(4, .sl 5)] rfl rfl rfl rfl
 refine wo (?_)
 refine wI (σ := (List Int) × Int) (fun st => ⟨[(1, .I s_), (2, .B 4 0), (5, .S 5), (6, .I st.2)], [(4, .box (cC4 0 1 2 3 g_) 27), (5, .own (rI .i64) st.1 true)], (vV4 0 1 2 3 g_ []), 6⟩) (fun n st => z28_l2 N g_ s_ n st.1 st.2) (r := r) (fun _ => rfl) ?_ (fun ih => ?_)
 ·intro n12 ih12
  rintro ⟨e, f⟩ h
  replace h : z28_l2 N g_ s_ (n12 + 1) e f = some r := h
  unfold z28_l2 at h
  refine wq (wq (wg (wx [] ⟨[(1, .I s_), (2, .B 4 0), (5, .S 5), (6, .I f), (12, .O (decide (f < (g_.Edges.length : Int))))], [(4, .box (cC4 0 1 2 3 g_) 27), (5, .own (rI .i64) e true)], (vV4 0 1 2 3 g_ []), 6⟩ htt 5 (by kernel_rfl) (wn (?_)))))
  rcases oc' h with ⟨hc, h⟩ | ⟨hc, h⟩
  ·exact wf hc rfl (wz rfl (wu [] (j1 e h) rfl rfl rfl rfl))
  refine wt hc rfl (wi (wq (wo (wq (wq (wg (wx [3, 4, 5, 6, 7] ⟨[(1, .I s_), (2, .B 4 0), (5, .S 5), (6, .I f), (16, .S 2), (17, .I f)], [(4, .box (cC4 0 1 2 3 g_) 27), (5, .own (rI .i64) e true)], (vV4 0 1 2 3 g_ []), 6⟩ htt 3 (by kernel_rfl) (?_))))))))
  obtain ⟨g, i, h⟩ := ob h
  refine wj oO2 htt i rfl rfl rfl rfl rfl rfl rfl rfl rfl (wx [] ⟨[(1, .I s_), (2, .B 4 0), (5, .S 5), (6, .I f), (22, .O (g.From != s_))], [(4, .box (cC4 0 1 2 3 g_) 27), (5, .own (rI .i64) e true)], (vV4 0 1 2 3 g_ []), 7⟩ htt 4 (by kernel_rfl) (wn (?_)))
  rcases oc h with ⟨hc, h⟩ | ⟨hc, h⟩
  ·exact wt hc rfl (wz rfl (wg (wx [] ⟨[(1, .I s_), (2, .B 4 0), (5, .S 5), (6, .I (w64 (f + 1)))], [(4, .box (cC4 0 1 2 3 g_) 27), (5, .own (rI .i64) e true)], (vV4 0 1 2 3 g_ []), 7⟩ htt 3 (by kernel_rfl) (wn (wu [] (ih12 (e, (w64 (f + 1))) h) rfl rfl rfl rfl)))))
  refine wf hc rfl (wi (wq (wg (ws htt 1 rfl (wn (wq (?_)))))))
  refine wC (σ := Int) (fun st => ⟨[(1, .I s_), (2, .B 4 0), (5, .S 5), (6, .I f), (7, .I st)], [(4, .box (cC4 0 1 2 3 g_) 27), (5, .own (rI .i64) e true)], (vV4 0 1 2 3 g_ []), 7⟩) (fun st => z28_k3 e f (z28_l2 N g_ s_ n12) st = some r) ?_ (fun j19 => ?_)
  ·intro j h
   replace h : z28_k3 e f (z28_l2 N g_ s_ n12) j = some r := h
   unfold z28_k3 at h
   refine wN (fun m o p => ?_)
   have q : m 0 ⟨[(5, .S 5)], [], [], [], 7, [(38, .S 5)], [], [], 7⟩ := o _ _ (wl htt rfl rfl rfl rfl rfl rfl)
   have s : m 1 ⟨[(7, .I j)], [], [], [], 7, [(39, .I j)], [], [], 7⟩ := o _ _ (wl htt rfl rfl rfl rfl rfl rfl)
   obtain ⟨v, x, h⟩ := ob h
   have y : m 2 ⟨[(38, .S 5), (39, .I j)], [], [], [(5, .own (rI .i64) e true)], 7, [(40, .S 7)], [(7, .vw 5 none (some j) ((rI .i64)).sz)], [], 8⟩ := o _ _ (wO rfl rfl rfl (fun _ _ _ _ _ _ _ k => WPr.vw htt (l := none) (h := some (.i64, j)) x rfl rfl rfl rfl rfl rfl rfl rfl rfl rfl (k)) rfl)
   have z : m 3 ⟨[(6, .I f)], [], [], [], 8, [(41, .I f)], [], [], 8⟩ := o _ _ (wl htt rfl rfl rfl rfl rfl rfl)
   have A : m 4 ⟨[(41, .I f)], [], [], [], 8, [(42, .S 8)], [], [(8, .own (rI .i64) ([f] : List Int) true)], 9⟩ := o _ _ (wO rfl rfl rfl (fun _ _ _ _ _ _ _ k => WPr.bs (cs := [.I f]) (oI .i64) htt ([f] : List Int) rfl rfl rfl rfl rfl rfl (by kernel_rfl) (by exact (an rfl rfl)) rfl (k)) rfl)
   have C : m 5 ⟨[(5, .S 5)], [], [], [], 9, [(43, .S 5)], [], [], 9⟩ := o _ _ (wl htt rfl rfl rfl rfl rfl rfl)
   have D : m 6 ⟨[(7, .I j)], [], [], [], 9, [(44, .I j)], [], [], 9⟩ := o _ _ (wl htt rfl rfl rfl rfl rfl rfl)
   obtain ⟨G, H, h⟩ := ob h
   have J : m 7 ⟨[(43, .S 5), (44, .I j)], [], [], [(5, .own (rI .i64) e true)], 9, [(45, .S 9)], [(9, .vw 5 (some j) none ((rI .i64)).sz)], [], 10⟩ := o _ _ (wO rfl rfl rfl (fun _ _ _ _ _ _ _ k => WPr.vw htt (l := some (.i64, j)) (h := none) H rfl rfl rfl rfl rfl rfl rfl rfl rfl rfl (k)) rfl)
   obtain ⟨K, Q, h⟩ := ob h
   have R : m 8 ⟨[(42, .S 8), (45, .S 9)], [(9, .vw 5 (some j) none ((rI .i64)).sz)], [(8, .own (rI .i64) ([f] : List Int) true)], [(5, .own (rI .i64) e true)], 10, [(46, .S 10)], [], [(8, .gone), (10, .own (rI .i64) K true)], 11⟩ := o _ _ (wO rfl rfl rfl (fun _ _ _ _ _ _ _ k => WPr.app htt Q (by exact (srcV H rfl rfl)) rfl rfl rfl rfl rfl rfl rfl rfl rfl rfl (k)) rfl)
   obtain ⟨T, U, h⟩ := ob h
   have X : m 9 ⟨[(40, .S 7), (46, .S 10)], [(7, .vw 5 none (some j) ((rI .i64)).sz)], [(5, .own (rI .i64) e true)], [(10, .own (rI .i64) K true)], 11, [(47, .S 11)], [], [(5, .gone), (7, .gone), (11, .own (rI .i64) T true)], 12⟩ := o _ _ (wO rfl rfl rfl (fun _ _ _ _ _ _ _ k => WPr.stl 7 x rfl rfl rfl (WPr.app htt U (by exact (srcO rfl)) rfl rfl rfl rfl rfl rfl rfl rfl rfl rfl (k))) rfl)
   have Y : m 10 ⟨[(47, .S 11)], [], [], [], 12, [(5, .S 11)], [], [], 12⟩ := o _ _ (wl htt rfl rfl rfl rfl rfl rfl)
   exact wD (t := ⟨[(1, .I s_), (2, .B 4 0), (5, .S 11), (6, .I f)], [(4, .box (cC4 0 1 2 3 g_) 27), (11, .own (rI .i64) T true)], (vV4 0 1 2 3 g_ []), 12⟩) [0, 0, 3, 0, 8, 0, 0, 96, 248, 511, 1023] (.cons (p _ _ q) (.cons (p _ _ s) (.cons (p _ _ y) (.cons (p _ _ z) (.cons (p _ _ A) (.cons (p _ _ C) (.cons (p _ _ D) (.cons (p _ _ J) (.cons (p _ _ R) (.cons (p _ _ X) (.cons (p _ _ Y) .nil))))))))))) (by kernel_rfl) (by kernel_rfl) (by kernel_rfl) (by kernel_rfl) (wb (wg (wx [] ⟨[(1, .I s_), (2, .B 4 0), (5, .S 11), (6, .I (w64 (f + 1)))], [(4, .box (cC4 0 1 2 3 g_) 27), (11, .own (rI .i64) T true)], (vV4 0 1 2 3 g_ []), 12⟩ htt 3 (by kernel_rfl) (wn (wu [(5, .sl 11)] (ih12 (T, (w64 (f + 1))) h) rfl rfl rfl rfl)))))
  refine wo (?_)
  refine wI (σ := Int) (fun st => ⟨[(1, .I s_), (2, .B 4 0), (5, .S 5), (6, .I f), (7, .I st)], [(4, .box (cC4 0 1 2 3 g_) 27), (5, .own (rI .i64) e true)], (vV4 0 1 2 3 g_ []), 7⟩) (fun n st => z28_l4 N g_ e f (z28_l2 N g_ s_ n12) n st) (r := r) (fun _ => rfl) ?_ (fun ih => ?_)
  ·intro n14 ih21
   intro Z h
   replace h : z28_l4 N g_ e f (z28_l2 N g_ s_ n12) (n14 + 1) Z = some r := h
   unfold z28_l4 at h
   refine wq (wq (wN (fun a0 b0 c0 => ?_)))
   have d0 : a0 0 ⟨[(7, .I Z)], [], [], [], 7, [(23, .I Z)], [], [], 7⟩ := b0 _ _ (wl htt rfl rfl rfl rfl rfl rfl)
   have e0 : a0 1 ⟨[(5, .S 5)], [], [], [], 7, [(24, .S 5)], [], [], 7⟩ := b0 _ _ (wl htt rfl rfl rfl rfl rfl rfl)
   have f0 : a0 2 ⟨[(24, .S 5)], [], [], [(5, .own (rI .i64) e true)], 7, [(25, .I (e.length : Int))], [], [], 7⟩ := b0 _ _ (wl htt rfl rfl rfl rfl rfl rfl)
   have g0 : a0 3 ⟨[(23, .I Z), (25, .I (e.length : Int))], [], [], [], 7, [(26, .O (decide (Z < (e.length : Int))))], [], [], 7⟩ := b0 _ _ (wl htt rfl rfl rfl rfl rfl rfl)
   have i0 : a0 4 ⟨[(26, .O (decide (Z < (e.length : Int))))], [], [], [], 7, [(27, .O (decide (Z < (e.length : Int))))], [], [], 7⟩ := b0 _ _ (wl htt rfl rfl rfl rfl rfl rfl)
   rcases oc' h with ⟨hc, h⟩ | ⟨hc, h⟩
   ·have j0 := b0 _ _ (LS.kb hc rfl (c0 _ _ i0))
    have k0 : a0 5 ⟨[(27, .O false)], [], [], [], 7, [(28, .u)], [], [], 7⟩ := b0 _ _ (LS.skip rfl rfl rfl (.inr ⟨_, rfl, rfl⟩) rfl rfl)
    have l0 : a0 6 ⟨[(27, .O false)], [], [], [], 7, [(29, .u)], [], [], 7⟩ := b0 _ _ (LS.skip rfl rfl rfl (.inr ⟨_, rfl, rfl⟩) rfl rfl)
    have m0 : a0 7 ⟨[(27, .O false)], [], [], [], 7, [(30, .u)], [], [], 7⟩ := b0 _ _ (LS.skip rfl rfl rfl (.inr ⟨_, rfl, rfl⟩) rfl rfl)
    have o0 : a0 8 ⟨[(27, .O false)], [], [], [], 7, [(31, .u)], [], [], 7⟩ := b0 _ _ (LS.skip rfl rfl rfl (.inr ⟨_, rfl, rfl⟩) rfl rfl)
    have p0 : a0 9 ⟨[(27, .O false)], [], [], [], 7, [(32, .u)], [], [], 7⟩ := b0 _ _ (LS.skip rfl rfl rfl (.inr ⟨_, rfl, rfl⟩) rfl rfl)
    have q0 : a0 10 ⟨[(27, .O false)], [], [], [], 7, [(33, .u)], [], [], 7⟩ := b0 _ _ (LS.skip rfl rfl rfl (.inr ⟨_, rfl, rfl⟩) rfl rfl)
    have s0 : a0 11 ⟨[(27, .O false)], [], [], [], 7, [(34, .u)], [], [], 7⟩ := b0 _ _ (LS.skip rfl rfl rfl (.inr ⟨_, rfl, rfl⟩) rfl rfl)
    have t0 : a0 12 ⟨[(27, .O false), (34, .u)], [], [], [], 7, [(35, .O false)], [], [], 7⟩ := b0 _ _ (wl htt rfl rfl rfl rfl rfl rfl)
    exact wD (t := ⟨[(1, .I s_), (2, .B 4 0), (5, .S 5), (6, .I f), (7, .I Z), (35, .O false)], [(4, .box (cC4 0 1 2 3 g_) 27), (5, .own (rI .i64) e true)], (vV4 0 1 2 3 g_ []), 7⟩) [0, 0, 2, 7, 15, 31, 31, 31, 223, 479, 31, 2047, 4095] (.cons (c0 _ _ d0) (.cons (c0 _ _ e0) (.cons (c0 _ _ f0) (.cons (c0 _ _ g0) (.cons (c0 _ _ j0) (.cons (c0 _ _ k0) (.cons (c0 _ _ l0) (.cons (c0 _ _ m0) (.cons (c0 _ _ o0) (.cons (c0 _ _ p0) (.cons (c0 _ _ q0) (.cons (c0 _ _ s0) (.cons (c0 _ _ t0) .nil))))))))))))) (by kernel_rfl) (by kernel_rfl) (by kernel_rfl) (by kernel_rfl) (wf rfl rfl (wz rfl (wu [] (j19 Z h) rfl rfl rfl rfl)))
   have u0 := b0 _ _ (LS.kb hc rfl (c0 _ _ i0))
   have v0 : a0 5 ⟨[(2, .B 4 0), (27, .O true)], (vV4 0 1 2 3 g_ []), [], [(4, .box (cC4 0 1 2 3 g_) 27)], 7, [(28, .a (cC4 0 1 2 3 g_))], [], [], 7⟩ := b0 _ _ (wl htt rfl rfl rfl rfl rfl rfl)
   have x0 : a0 6 ⟨[(5, .S 5), (27, .O true)], [], [], [], 7, [(29, .S 5)], [], [], 7⟩ := b0 _ _ (wl htt rfl rfl rfl rfl rfl rfl)
   have y0 : a0 7 ⟨[(7, .I Z), (27, .O true)], [], [], [], 7, [(30, .I Z)], [], [], 7⟩ := b0 _ _ (wl htt rfl rfl rfl rfl rfl rfl)
   obtain ⟨z0, A0, h⟩ := ob h
   have B0 : a0 8 ⟨[(27, .O true), (29, .S 5), (30, .I Z)], [], [], [(5, .own (rI .i64) e true)], 7, [(31, .P 7 0)], [(7, .el 5 ((Z).toNat * ((rI .i64)).sz))], [], 8⟩ := b0 _ _ (wO rfl rfl rfl (fun _ _ _ _ _ _ _ k => wX htt A0 rfl rfl rfl rfl rfl rfl rfl rfl rfl (k)) rfl)
   have C0 : a0 9 ⟨[(27, .O true), (31, .P 7 0)], [(7, .el 5 ((Z).toNat * ((rI .i64)).sz))], [], [(5, .own (rI .i64) e true)], 8, [(32, .I z0)], [], [], 8⟩ := b0 _ _ (wO rfl rfl rfl (fun _ _ _ _ _ _ _ k => wL (oI .i64) htt A0 rfl rfl rfl rfl rfl rfl rfl rfl rfl rfl (k)) rfl)
   have D0 : a0 10 ⟨[(6, .I f), (27, .O true)], [], [], [], 8, [(33, .I f)], [], [], 8⟩ := b0 _ _ (wl htt rfl rfl rfl rfl rfl rfl)
   obtain ⟨G0, H0, h⟩ := ob h
   have I0 : a0 11 ⟨[(27, .O true), (28, .a (cC4 0 1 2 3 g_)), (32, .I z0), (33, .I f)], (vV4 0 1 2 3 g_ []), [], [], 8, [(34, .O G0)], [], [], 8⟩ := b0 _ _ (wO rfl rfl rfl (fun _ _ _ _ _ _ _ k => wc (z74_ct N g_ z0 f _ H0) [(0, .sl 0), (1, .sl 1), (2, .sl 2), (3, .sl 3)] [] rfl rfl rfl rfl rfl rfl rfl rfl (.inl rfl) rfl (k)) rfl)
   have J0 : a0 12 ⟨[(27, .O true), (34, .O G0)], [], [], [], 8, [(35, .O G0)], [], [], 8⟩ := b0 _ _ (wl htt rfl rfl rfl rfl rfl rfl)
   refine wD (t := ⟨[(1, .I s_), (2, .B 4 0), (5, .S 5), (6, .I f), (7, .I Z), (35, .O G0)], [(4, .box (cC4 0 1 2 3 g_) 27), (5, .own (rI .i64) e true)], (vV4 0 1 2 3 g_ []), 8⟩) [0, 0, 2, 7, 15, 31, 31, 31, 223, 479, 31, 2047, 4095] (.cons (c0 _ _ d0) (.cons (c0 _ _ e0) (.cons (c0 _ _ f0) (.cons (c0 _ _ g0) (.cons (c0 _ _ u0) (.cons (c0 _ _ v0) (.cons (c0 _ _ x0) (.cons (c0 _ _ y0) (.cons (c0 _ _ B0) (.cons (c0 _ _ C0) (.cons (c0 _ _ D0) (.cons (c0 _ _ I0) (.cons (c0 _ _ J0) .nil))))))))))))) (by kernel_rfl) (by kernel_rfl) (by kernel_rfl) (by kernel_rfl) (?_)
   rcases oc h with ⟨hc, h⟩ | ⟨hc, h⟩
   ·exact wt hc rfl (wi (wo (wg (wx [] ⟨[(1, .I s_), (2, .B 4 0), (5, .S 5), (6, .I f), (7, .I (w64 (Z + 1)))], [(4, .box (cC4 0 1 2 3 g_) 27), (5, .own (rI .i64) e true)], (vV4 0 1 2 3 g_ []), 8⟩ htt 3 (by kernel_rfl) (wn (wb (wu [] (ih21 (w64 (Z + 1)) h) rfl rfl rfl rfl)))))))
   exact wf hc rfl (wz rfl (wu [] (j19 Z h) rfl rfl rfl rfl))
  exact wu [] (ih N 0 h) rfl rfl rfl rfl
 exact wu [(5, .nil)] (ih N (([] : List Int), 0) h) rfl rfl rfl rfl
theorem z54_ct (N : Nat) (g_ : T4) (r : Bool) (h : z54 N g_ = some r) :
 Fn Tryz.prog 54 ⟨4, [.a (cC4 0 1 2 3 g_)], (vV4 0 1 2 3 g_ []), [], 4, .O r, [], []⟩ := by
 refine Fn.intro _ _ Tryz.func54 rfl (by kernel_rfl) rfl (fun E F w => ?_)
 unfold z54 at h
 refine wq (wg (ws htt 2 rfl (wn (wq (wg (wx [2, 3] ⟨[(1, .B 4 0), (2, .O false), (9, .I g_.States)], [(4, .box (cC4 0 1 2 3 g_) 27)], (vV4 0 1 2 3 g_ []), 5⟩ htt 2 (by kernel_rfl) (?_)))))))
 obtain ⟨x1, c, h⟩ := ob h
 refine WPr.mk oB htt false c rfl rfl rfl rfl rfl rfl rfl rfl (by exact an rfl rfl) rfl (ws htt 1 rfl (wn (wq (wg (wx [3, 4] ⟨[(1, .B 4 0), (2, .O false), (3, .S 5), (11, .S 5), (13, .I g_.Start)], [(4, .box (cC4 0 1 2 3 g_) 27), (5, .own rB x1 true)], (vV4 0 1 2 3 g_ []), 6⟩ htt 3 (by kernel_rfl) (?_))))))
 obtain ⟨x2, d, h⟩ := ob h
 refine wX htt d rfl rfl rfl rfl rfl rfl rfl rfl rfl (WPr.sto oB htt true d rfl rfl rfl rfl rfl rfl rfl rfl rfl rfl (by exact rfl) rfl (wn (wq (wq (wg (wx [] ⟨[(1, .B 4 0), (2, .O false), (3, .S 5), (4, .I 0)], [(4, .box (cC4 0 1 2 3 g_) 27), (5, .own rB (setL' x1 g_.Start true) true)], (vV4 0 1 2 3 g_ []), 7⟩ htt 1 (by kernel_rfl) (wn (?_))))))))
 refine wC (σ := (List Bool)) (fun st => ⟨[(1, .B 4 0), (3, .S 5)], [(4, .box (cC4 0 1 2 3 g_) 27), (5, .own rB st true)], (vV4 0 1 2 3 g_ []), 7⟩) (fun st => z54_k3 N g_ st = some r) ?_ (fun j1 => ?_)
 ·intro e h
  replace h : z54_k3 N g_ e = some r := h
  unfold z54_k3 at h
  refine wq (wg (ws htt 1 rfl (?_)))
  obtain ⟨f, g, h⟩ := ob h
  refine wc (z81_ct N g_ _ g) [(0, .sl 0), (1, .sl 1), (2, .sl 2), (3, .sl 3)] [] rfl rfl rfl rfl rfl rfl rfl rfl (.inl rfl) rfl (wx [] ⟨[(1, .B 4 0), (3, .S 5), (6, .S 7)], [(4, .box (cC4 0 1 2 3 g_) 27), (5, .own rB e true), (7, .own (rI .i64) f true)], (vV4 0 1 2 3 g_ []), 8⟩ htt 1 (by kernel_rfl) (wn (wq (wq (wg (ws htt 1 rfl (wn (?_))))))))
  refine wC (σ := Unit) (fun st => ⟨[(1, .B 4 0)], [(4, .box (cC4 0 1 2 3 g_) 27)], (vV4 0 1 2 3 g_ []), 8⟩) (fun st => z54_k1 N g_ = some r) ?_ (fun j12 => ?_)
  ·intro _ h
   replace h : z54_k1 N g_ = some r := h
   unfold z54_k1 at h
   refine wq (wg (wx [3, 4, 5, 6] ⟨[(76, .a (cC4 0 1 2 3 g_)), (78, .I g_.End)], [], (vV4 0 1 2 3 g_ []), 8⟩ htt 3 (by kernel_rfl) (?_)))
   obtain ⟨i, j, h⟩ := ob h
   refine wc (z28_ct N g_ g_.End _ j) [(0, .sl 0), (1, .sl 1), (2, .sl 2), (3, .sl 3)] [] rfl rfl rfl rfl rfl rfl rfl rfl (.inl rfl) rfl (wx [] ⟨[(2, .O ((i.length : Int) == 0))], [], (vV4 0 1 2 3 g_ []), 9⟩ htt 3 (by kernel_rfl) (wn (?_)))
   cases h
   exact we htt Tryz.func54 [] rfl rfl rfl rfl
  refine wo (?_)
  refine wI (σ := Int) (fun st => ⟨[(1, .B 4 0), (3, .S 5), (6, .S 7), (7, .I st)], [(4, .box (cC4 0 1 2 3 g_) 27), (5, .own rB e true), (7, .own (rI .i64) f true)], (vV4 0 1 2 3 g_ []), 8⟩) (fun n st => z54_l2 N g_ e f n st) (r := r) (fun _ => rfl) ?_ (fun ih => ?_)
  ·intro n9 ih14
   intro l h
   replace h : z54_l2 N g_ e f (n9 + 1) l = some r := h
   unfold z54_l2 at h
   refine wq (wq (wg (wx [] ⟨[(1, .B 4 0), (3, .S 5), (6, .S 7), (7, .I l), (61, .O (decide (l < g_.States)))], [(4, .box (cC4 0 1 2 3 g_) 27), (5, .own rB e true), (7, .own (rI .i64) f true)], (vV4 0 1 2 3 g_ []), 8⟩ htt 4 (by kernel_rfl) (wn (?_)))))
   rcases oc' h with ⟨hc, h⟩ | ⟨hc, h⟩
   ·exact wf hc rfl (wz rfl (wu [] (j12 () h) rfl rfl rfl rfl))
   refine wt hc rfl (wi (wq (wo (wq (wg (ws htt 2 rfl (?_)))))))
   obtain ⟨m, o, h⟩ := ob h
   refine wX htt o rfl rfl rfl rfl rfl rfl rfl rfl rfl (wx (rg 3 9) ⟨[(1, .B 4 0), (3, .S 5), (6, .S 7), (7, .I l), (66, .P 8 0)], [(4, .box (cC4 0 1 2 3 g_) 27), (5, .own rB e true), (7, .own (rI .i64) f true)], (vV4 0 1 2 3 g_ [(8, .el 5 ((l).toNat * (rB).sz))]), 9⟩ htt 0 (by kernel_rfl) (wL oB htt o rfl rfl rfl rfl rfl rfl rfl rfl rfl rfl (wx (rg 6 6) ⟨[(1, .B 4 0), (3, .S 5), (6, .S 7), (7, .I l), (69, .O (!m))], [(4, .box (cC4 0 1 2 3 g_) 27), (5, .own rB e true), (7, .own (rI .i64) f true)], (vV4 0 1 2 3 g_ []), 9⟩ htt 2 (by kernel_rfl) (?_))))
   rcases oc h with ⟨hc, h⟩ | ⟨hc, h⟩
   ·refine wy 69 hc rfl (wx [] ⟨[(1, .B 4 0), (3, .S 5), (6, .S 7), (7, .I l), (75, .O true)], [(4, .box (cC4 0 1 2 3 g_) 27), (5, .own rB e true), (7, .own (rI .i64) f true)], (vV4 0 1 2 3 g_ []), 9⟩ htt 6 (by kernel_rfl) (wn (wt rfl rfl (wq (wg (ws htt 1 rfl (wn (?_))))))))
    cases h
    exact we htt Tryz.func54 [] rfl rfl rfl rfl
   refine wy 69 hc rfl (ws htt 2 rfl (?_))
   obtain ⟨p, q, h⟩ := ob h
   refine wX htt q rfl rfl rfl rfl rfl rfl rfl rfl rfl (wx [9, 10, 11] ⟨[(1, .B 4 0), (3, .S 5), (6, .S 7), (7, .I l), (69, .O false), (72, .P 9 0)], [(4, .box (cC4 0 1 2 3 g_) 27), (5, .own rB e true), (7, .own (rI .i64) f true)], (vV4 0 1 2 3 g_ [(9, .el 7 ((l).toNat * ((rI .i64)).sz))]), 10⟩ htt 0 (by kernel_rfl) (wL (oI .i64) htt q rfl rfl rfl rfl rfl rfl rfl rfl rfl rfl (wx [] ⟨[(1, .B 4 0), (3, .S 5), (6, .S 7), (7, .I l), (75, .O (decide (p < 0)))], [(4, .box (cC4 0 1 2 3 g_) 27), (5, .own rB e true), (7, .own (rI .i64) f true)], (vV4 0 1 2 3 g_ []), 10⟩ htt 2 (by kernel_rfl) (wn (?_)))))
   rcases oc h with ⟨hc, h⟩ | ⟨hc, h⟩
   ·refine wt hc rfl (wq (wg (ws htt 1 rfl (wn (?_)))))
    cases h
    exact we htt Tryz.func54 [] rfl rfl rfl rfl
   exact wf hc rfl (wi (wb (wg (wx [] ⟨[(1, .B 4 0), (3, .S 5), (6, .S 7), (7, .I (w64 (l + 1)))], [(4, .box (cC4 0 1 2 3 g_) 27), (5, .own rB e true), (7, .own (rI .i64) f true)], (vV4 0 1 2 3 g_ []), 10⟩ htt 3 (by kernel_rfl) (wn (wu [] (ih14 (w64 (l + 1)) h) rfl rfl rfl rfl))))))
  exact wu [] (ih N 0 h) rfl rfl rfl rfl
 refine wo (?_)
 refine wI (σ := (List Bool) × Int) (fun st => ⟨[(1, .B 4 0), (3, .S 5), (4, .I st.2)], [(4, .box (cC4 0 1 2 3 g_) 27), (5, .own rB st.1 true)], (vV4 0 1 2 3 g_ []), 7⟩) (fun n st => z54_l4 N g_ n st.1 st.2) (r := r) (fun _ => rfl) ?_ (fun ih => ?_)
 ·intro n14 ih15
  rintro ⟨s, v⟩ h
  replace h : z54_l4 N g_ (n14 + 1) s v = some r := h
  unfold z54_l4 at h
  refine wq (wq (wg (wx [] ⟨[(1, .B 4 0), (3, .S 5), (4, .I v), (18, .O (decide (v < g_.States)))], [(4, .box (cC4 0 1 2 3 g_) 27), (5, .own rB s true)], (vV4 0 1 2 3 g_ []), 7⟩ htt 4 (by kernel_rfl) (wn (?_)))))
  rcases oc' h with ⟨hc, h⟩ | ⟨hc, h⟩
  ·exact wf hc rfl (wz rfl (wu [] (j1 s h) rfl rfl rfl rfl))
  refine wt hc rfl (wi (wq (wo (wq (wg (ws htt 1 rfl (wn (?_))))))))
  refine wC (σ := (List Bool)) (fun st => ⟨[(1, .B 4 0), (3, .S 5), (4, .I v)], [(4, .box (cC4 0 1 2 3 g_) 27), (5, .own rB st true)], (vV4 0 1 2 3 g_ []), 7⟩) (fun st => z54_k5 v (z54_l4 N g_ n14) st = some r) ?_ (fun j22 => ?_)
  ·intro x h
   replace h : z54_k5 v (z54_l4 N g_ n14) x = some r := h
   unfold z54_k5 at h
   exact wb (wg (wx [] ⟨[(1, .B 4 0), (3, .S 5), (4, .I (w64 (v + 1)))], [(4, .box (cC4 0 1 2 3 g_) 27), (5, .own rB x true)], (vV4 0 1 2 3 g_ []), 7⟩ htt 3 (by kernel_rfl) (wn (wu [] (ih15 (x, (w64 (v + 1))) h) rfl rfl rfl rfl))))
  refine wo (?_)
  refine wI (σ := (List Bool) × Int) (fun st => ⟨[(1, .B 4 0), (3, .S 5), (4, .I v), (5, .I st.2)], [(4, .box (cC4 0 1 2 3 g_) 27), (5, .own rB st.1 true)], (vV4 0 1 2 3 g_ []), 7⟩) (fun n st => z54_l6 g_ v (z54_l4 N g_ n14) n st.1 st.2) (r := r) (fun _ => rfl) ?_ (fun ih => ?_)
  ·intro n16 ih24
   rintro ⟨y, z⟩ h
   replace h : z54_l6 g_ v (z54_l4 N g_ n14) (n16 + 1) y z = some r := h
   unfold z54_l6 at h
   refine wq (wq (wg (wx [] ⟨[(1, .B 4 0), (3, .S 5), (4, .I v), (5, .I z), (25, .O (decide (z < (g_.Edges.length : Int))))], [(4, .box (cC4 0 1 2 3 g_) 27), (5, .own rB y true)], (vV4 0 1 2 3 g_ []), 7⟩ htt 5 (by kernel_rfl) (wn (?_)))))
   rcases oc' h with ⟨hc, h⟩ | ⟨hc, h⟩
   ·exact wf hc rfl (wz rfl (wu [] (j22 y h) rfl rfl rfl rfl))
   refine wt hc rfl (wi (wq (wo (wN (fun A C D => ?_)))))
   have G : A 0 ⟨[(3, .S 5)], [], [], [], 7, [(28, .S 5)], [], [], 7⟩ := C _ _ (wl htt rfl rfl rfl rfl rfl rfl)
   have H : A 1 ⟨[(1, .B 4 0)], [], [], [], 7, [(29, .B 4 6)], [], [], 7⟩ := C _ _ (wl htt rfl rfl rfl rfl rfl rfl)
   have J : A 2 ⟨[(29, .B 4 6)], (vV4 0 1 2 3 g_ []), [], [(4, .box (cC4 0 1 2 3 g_) 27)], 7, [(30, .S 2)], [], [], 7⟩ := C _ _ (wl htt rfl rfl rfl rfl rfl rfl)
   have K : A 3 ⟨[(5, .I z)], [], [], [], 7, [(31, .I z)], [], [], 7⟩ := C _ _ (wl htt rfl rfl rfl rfl rfl rfl)
   obtain ⟨Q, R, h⟩ := ob h
   have T : A 4 ⟨[(30, .S 2), (31, .I z)], [(2, .sl rR2 g_.Edges)], [], [], 7, [(32, .P 7 0)], [(7, .pl (cC2 Q))], [], 8⟩ := C _ _ (wO rfl rfl rfl (fun _ _ _ _ _ _ _ k => wj oO2 htt R rfl rfl rfl rfl rfl rfl rfl rfl rfl (k)) rfl)
   have U : A 5 ⟨[(32, .P 7 0)], [(7, .pl (cC2 Q))], [], [], 8, [(33, .P 7 4)], [], [], 8⟩ := C _ _ (wl htt rfl rfl rfl rfl rfl rfl)
   have X : A 6 ⟨[(33, .P 7 4)], [(7, .pl (cC2 Q))], [], [], 8, [(34, .I Q.To)], [], [], 8⟩ := C _ _ (wl htt rfl rfl rfl rfl rfl rfl)
   have Y : A 7 ⟨[(3, .S 5)], [], [], [], 8, [(35, .S 5)], [], [], 8⟩ := C _ _ (wl htt rfl rfl rfl rfl rfl rfl)
   have Z : A 8 ⟨[(1, .B 4 0)], [], [], [], 8, [(36, .B 4 6)], [], [], 8⟩ := C _ _ (wl htt rfl rfl rfl rfl rfl rfl)
   have a0 : A 9 ⟨[(36, .B 4 6)], (vV4 0 1 2 3 g_ []), [], [(4, .box (cC4 0 1 2 3 g_) 27)], 8, [(37, .S 2)], [], [], 8⟩ := C _ _ (wl htt rfl rfl rfl rfl rfl rfl)
   have b0 : A 10 ⟨[(5, .I z)], [], [], [], 8, [(38, .I z)], [], [], 8⟩ := C _ _ (wl htt rfl rfl rfl rfl rfl rfl)
   obtain ⟨c0, d0, h⟩ := ob h
   have e0 : A 11 ⟨[(37, .S 2), (38, .I z)], [(2, .sl rR2 g_.Edges)], [], [], 8, [(39, .P 8 0)], [(8, .pl (cC2 c0))], [], 9⟩ := C _ _ (wO rfl rfl rfl (fun _ _ _ _ _ _ _ k => wj oO2 htt d0 rfl rfl rfl rfl rfl rfl rfl rfl rfl (k)) rfl)
   have f0 : A 12 ⟨[(39, .P 8 0)], [(8, .pl (cC2 c0))], [], [], 9, [(40, .P 8 4)], [], [], 9⟩ := C _ _ (wl htt rfl rfl rfl rfl rfl rfl)
   have g0 : A 13 ⟨[(40, .P 8 4)], [(8, .pl (cC2 c0))], [], [], 9, [(41, .I c0.To)], [], [], 9⟩ := C _ _ (wl htt rfl rfl rfl rfl rfl rfl)
   obtain ⟨i0, j0, h⟩ := ob h
   have k0 : A 14 ⟨[(35, .S 5), (41, .I c0.To)], [], [], [(5, .own rB y true)], 9, [(42, .P 9 0)], [(9, .el 5 ((c0.To).toNat * (rB).sz))], [], 10⟩ := C _ _ (wO rfl rfl rfl (fun _ _ _ _ _ _ _ k => wX htt j0 rfl rfl rfl rfl rfl rfl rfl rfl rfl (k)) rfl)
   have l0 : A 15 ⟨[(42, .P 9 0)], [(9, .el 5 ((c0.To).toNat * (rB).sz))], [], [(5, .own rB y true)], 10, [(43, .O i0)], [], [], 10⟩ := C _ _ (wO rfl rfl rfl (fun _ _ _ _ _ _ _ k => wL oB htt j0 rfl rfl rfl rfl rfl rfl rfl rfl rfl rfl (k)) rfl)
   have m0 : A 16 ⟨[(43, .O i0)], [], [], [], 10, [(44, .O i0)], [], [], 10⟩ := C _ _ (wl htt rfl rfl rfl rfl rfl rfl)
   rcases oc h with ⟨hc, h⟩ | ⟨hc, h⟩
   ·have o0 := C _ _ (LS.kb hc rfl (D _ _ m0))
    have p0 : A 17 ⟨[(44, .O true)], [], [], [], 10, [(45, .u)], [], [], 10⟩ := C _ _ (LS.skip rfl rfl rfl (.inr ⟨_, rfl, rfl⟩) rfl rfl)
    have q0 : A 18 ⟨[(44, .O true)], [], [], [], 10, [(46, .u)], [], [], 10⟩ := C _ _ (LS.skip rfl rfl rfl (.inr ⟨_, rfl, rfl⟩) rfl rfl)
    have s0 : A 19 ⟨[(44, .O true)], [], [], [], 10, [(47, .u)], [], [], 10⟩ := C _ _ (LS.skip rfl rfl rfl (.inr ⟨_, rfl, rfl⟩) rfl rfl)
    have t0 : A 20 ⟨[(44, .O true)], [], [], [], 10, [(48, .u)], [], [], 10⟩ := C _ _ (LS.skip rfl rfl rfl (.inr ⟨_, rfl, rfl⟩) rfl rfl)
    have u0 : A 21 ⟨[(44, .O true)], [], [], [], 10, [(49, .u)], [], [], 10⟩ := C _ _ (LS.skip rfl rfl rfl (.inr ⟨_, rfl, rfl⟩) rfl rfl)
    have v0 : A 22 ⟨[(44, .O true)], [], [], [], 10, [(50, .u)], [], [], 10⟩ := C _ _ (LS.skip rfl rfl rfl (.inr ⟨_, rfl, rfl⟩) rfl rfl)
    have x0 : A 23 ⟨[(44, .O true)], [], [], [], 10, [(51, .u)], [], [], 10⟩ := C _ _ (LS.skip rfl rfl rfl (.inr ⟨_, rfl, rfl⟩) rfl rfl)
    have y0 : A 24 ⟨[(44, .O true)], [], [], [], 10, [(52, .u)], [], [], 10⟩ := C _ _ (LS.skip rfl rfl rfl (.inr ⟨_, rfl, rfl⟩) rfl rfl)
    have z0 : A 25 ⟨[(44, .O true)], [], [], [], 10, [(53, .u)], [], [], 10⟩ := C _ _ (LS.skip rfl rfl rfl (.inr ⟨_, rfl, rfl⟩) rfl rfl)
    have A0 : A 26 ⟨[(44, .O true), (53, .u)], [], [], [], 10, [(54, .O true)], [], [], 10⟩ := C _ _ (wl htt rfl rfl rfl rfl rfl rfl)
    obtain ⟨B0, C0, h⟩ := ob h
    have D0 : A 27 ⟨[(28, .S 5), (34, .I Q.To)], [], [], [(5, .own rB y true)], 10, [(55, .P 10 0)], [(10, .el 5 ((Q.To).toNat * (rB).sz))], [], 11⟩ := C _ _ (wO rfl rfl rfl (fun _ _ _ _ _ _ _ k => wX htt C0 rfl rfl rfl rfl rfl rfl rfl rfl rfl (k)) rfl)
    have G0 : A 28 ⟨[(54, .O true), (55, .P 10 0)], [(10, .el 5 ((Q.To).toNat * (rB).sz))], [(5, .own rB y true)], [], 11, [], [], [(5, .own rB (setL' y Q.To true) true)], 11⟩ := C _ _ (wO rfl rfl rfl (fun _ _ _ _ _ _ _ k => WPr.sto oB htt true C0 rfl rfl rfl rfl rfl rfl rfl rfl rfl rfl (by exact rfl) rfl (k)) rfl)
    exact wD (t := ⟨[(1, .B 4 0), (3, .S 5), (4, .I v), (5, .I z)], [(4, .box (cC4 0 1 2 3 g_) 27), (5, .own rB (setL' y Q.To true) true)], (vV4 0 1 2 3 g_ []), 11⟩) [0, 0, 2, 0, 14, 30, 62, 0, 0, 256, 0, 1792, 3840, 7936, 16256, 32640, 65408, 130944, 130944, 393088, 130944, 1965952, 4063104, 8257408, 16777088, 33554304, 67108736, 134217727, 268435455] (.cons (D _ _ G) (.cons (D _ _ H) (.cons (D _ _ J) (.cons (D _ _ K) (.cons (D _ _ T) (.cons (D _ _ U) (.cons (D _ _ X) (.cons (D _ _ Y) (.cons (D _ _ Z) (.cons (D _ _ a0) (.cons (D _ _ b0) (.cons (D _ _ e0) (.cons (D _ _ f0) (.cons (D _ _ g0) (.cons (D _ _ k0) (.cons (D _ _ l0) (.cons (D _ _ o0) (.cons (D _ _ p0) (.cons (D _ _ q0) (.cons (D _ _ s0) (.cons (D _ _ t0) (.cons (D _ _ u0) (.cons (D _ _ v0) (.cons (D _ _ x0) (.cons (D _ _ y0) (.cons (D _ _ z0) (.cons (D _ _ A0) (.cons (D _ _ D0) (.cons (D _ _ G0) .nil))))))))))))))))))))))))))))) (by kernel_rfl) (by kernel_rfl) (by kernel_rfl) (by kernel_rfl) (wb (wg (wx [] ⟨[(1, .B 4 0), (3, .S 5), (4, .I v), (5, .I (w64 (z + 1)))], [(4, .box (cC4 0 1 2 3 g_) 27), (5, .own rB (setL' y Q.To true) true)], (vV4 0 1 2 3 g_ []), 11⟩ htt 3 (by kernel_rfl) (wn (wu [] (ih24 ((setL' y Q.To true), (w64 (z + 1))) h) rfl rfl rfl rfl)))))
   have H0 := C _ _ (LS.kb hc rfl (D _ _ m0))
   have I0 : A 17 ⟨[(3, .S 5), (44, .O false)], [], [], [], 10, [(45, .S 5)], [], [], 10⟩ := C _ _ (wl htt rfl rfl rfl rfl rfl rfl)
   have J0 : A 18 ⟨[(1, .B 4 0), (44, .O false)], [], [], [], 10, [(46, .B 4 6)], [], [], 10⟩ := C _ _ (wl htt rfl rfl rfl rfl rfl rfl)
   have K0 : A 19 ⟨[(44, .O false), (46, .B 4 6)], (vV4 0 1 2 3 g_ []), [], [(4, .box (cC4 0 1 2 3 g_) 27)], 10, [(47, .S 2)], [], [], 10⟩ := C _ _ (wl htt rfl rfl rfl rfl rfl rfl)
   have L0 : A 20 ⟨[(5, .I z), (44, .O false)], [], [], [], 10, [(48, .I z)], [], [], 10⟩ := C _ _ (wl htt rfl rfl rfl rfl rfl rfl)
   obtain ⟨M0, O0, h⟩ := ob h
   have Q0 : A 21 ⟨[(44, .O false), (47, .S 2), (48, .I z)], [(2, .sl rR2 g_.Edges)], [], [], 10, [(49, .P 10 0)], [(10, .pl (cC2 M0))], [], 11⟩ := C _ _ (wO rfl rfl rfl (fun _ _ _ _ _ _ _ k => wj oO2 htt O0 rfl rfl rfl rfl rfl rfl rfl rfl rfl (k)) rfl)
   have R0 : A 22 ⟨[(44, .O false), (49, .P 10 0)], [(10, .pl (cC2 M0))], [], [], 11, [(50, .P 10 0)], [], [], 11⟩ := C _ _ (wl htt rfl rfl rfl rfl rfl rfl)
   have S0 : A 23 ⟨[(44, .O false), (50, .P 10 0)], [(10, .pl (cC2 M0))], [], [], 11, [(51, .I M0.From)], [], [], 11⟩ := C _ _ (wl htt rfl rfl rfl rfl rfl rfl)
   obtain ⟨T0, U0, h⟩ := ob h
   have V0 : A 24 ⟨[(44, .O false), (45, .S 5), (51, .I M0.From)], [], [], [(5, .own rB y true)], 11, [(52, .P 11 0)], [(11, .el 5 ((M0.From).toNat * (rB).sz))], [], 12⟩ := C _ _ (wO rfl rfl rfl (fun _ _ _ _ _ _ _ k => wX htt U0 rfl rfl rfl rfl rfl rfl rfl rfl rfl (k)) rfl)
   have X0 : A 25 ⟨[(44, .O false), (52, .P 11 0)], [(11, .el 5 ((M0.From).toNat * (rB).sz))], [], [(5, .own rB y true)], 12, [(53, .O T0)], [], [], 12⟩ := C _ _ (wO rfl rfl rfl (fun _ _ _ _ _ _ _ k => wL oB htt U0 rfl rfl rfl rfl rfl rfl rfl rfl rfl rfl (k)) rfl)
   have Y0 : A 26 ⟨[(44, .O false), (53, .O T0)], [], [], [], 12, [(54, .O T0)], [], [], 12⟩ := C _ _ (wl htt rfl rfl rfl rfl rfl rfl)
   obtain ⟨Z0, a1, h⟩ := ob h
   have b1 : A 27 ⟨[(28, .S 5), (34, .I Q.To)], [], [], [(5, .own rB y true)], 12, [(55, .P 12 0)], [(12, .el 5 ((Q.To).toNat * (rB).sz))], [], 13⟩ := C _ _ (wO rfl rfl rfl (fun _ _ _ _ _ _ _ k => wX htt a1 rfl rfl rfl rfl rfl rfl rfl rfl rfl (k)) rfl)
   have c1 : A 28 ⟨[(54, .O T0), (55, .P 12 0)], [(12, .el 5 ((Q.To).toNat * (rB).sz))], [(5, .own rB y true)], [], 13, [], [], [(5, .own rB (setL' y Q.To T0) true)], 13⟩ := C _ _ (wO rfl rfl rfl (fun _ _ _ _ _ _ _ k => WPr.sto oB htt T0 a1 rfl rfl rfl rfl rfl rfl rfl rfl rfl rfl (by exact rfl) rfl (k)) rfl)
   exact wD (t := ⟨[(1, .B 4 0), (3, .S 5), (4, .I v), (5, .I z)], [(4, .box (cC4 0 1 2 3 g_) 27), (5, .own rB (setL' y Q.To T0) true)], (vV4 0 1 2 3 g_ []), 13⟩) [0, 0, 2, 0, 14, 30, 62, 0, 0, 256, 0, 1792, 3840, 7936, 16256, 32640, 65408, 130944, 130944, 393088, 130944, 1965952, 4063104, 8257408, 16777088, 33554304, 67108736, 134217727, 268435455] (.cons (D _ _ G) (.cons (D _ _ H) (.cons (D _ _ J) (.cons (D _ _ K) (.cons (D _ _ T) (.cons (D _ _ U) (.cons (D _ _ X) (.cons (D _ _ Y) (.cons (D _ _ Z) (.cons (D _ _ a0) (.cons (D _ _ b0) (.cons (D _ _ e0) (.cons (D _ _ f0) (.cons (D _ _ g0) (.cons (D _ _ k0) (.cons (D _ _ l0) (.cons (D _ _ H0) (.cons (D _ _ I0) (.cons (D _ _ J0) (.cons (D _ _ K0) (.cons (D _ _ L0) (.cons (D _ _ Q0) (.cons (D _ _ R0) (.cons (D _ _ S0) (.cons (D _ _ V0) (.cons (D _ _ X0) (.cons (D _ _ Y0) (.cons (D _ _ b1) (.cons (D _ _ c1) .nil))))))))))))))))))))))))))))) (by kernel_rfl) (by kernel_rfl) (by kernel_rfl) (by kernel_rfl) (wb (wg (wx [] ⟨[(1, .B 4 0), (3, .S 5), (4, .I v), (5, .I (w64 (z + 1)))], [(4, .box (cC4 0 1 2 3 g_) 27), (5, .own rB (setL' y Q.To T0) true)], (vV4 0 1 2 3 g_ []), 13⟩ htt 3 (by kernel_rfl) (wn (wu [] (ih24 ((setL' y Q.To T0), (w64 (z + 1))) h) rfl rfl rfl rfl)))))
  exact wu [] (ih N (s, 0) h) rfl rfl rfl rfl
 exact wu [] (ih N ((setL' x1 g_.Start true), 0) h) rfl rfl rfl rfl
theorem z55_ct (N : Nat) (g_ : T4) (r : Bool) (h : z55 N g_ = some r) :
 Fn Tryz.prog 55 ⟨4, [.a (cC4 0 1 2 3 g_)], (vV4 0 1 2 3 g_ []), [], 4, .O r, [], []⟩ := by
 refine Fn.intro _ _ Tryz.func55 rfl (by kernel_rfl) rfl (fun E F w => ?_)
 unfold z55 at h
 refine wq (wg (ws htt 2 rfl (wn (wq (wq (wg (wx [] ⟨[(1, .B 4 0), (2, .O false), (3, .I 0)], [(4, .box (cC4 0 1 2 3 g_) 27)], (vV4 0 1 2 3 g_ []), 5⟩ htt 1 (by kernel_rfl) (wn (?_)))))))))
 refine wC (σ := Unit) (fun st => ⟨[], [], (vV4 0 1 2 3 g_ []), 5⟩) (fun st => z55_k1 = some r) ?_ (fun j1 => ?_)
 ·intro _ h
  replace h : z55_k1 = some r := h
  unfold z55_k1 at h
  refine wq (wg (ws htt 1 rfl (wn (?_))))
  cases h
  exact we htt Tryz.func55 [] rfl rfl rfl rfl
 refine wo (?_)
 refine wI (σ := Int) (fun st => ⟨[(1, .B 4 0), (3, .I st)], [(4, .box (cC4 0 1 2 3 g_) 27)], (vV4 0 1 2 3 g_ []), 5⟩) (fun n st => z55_l2 N g_ n st) (r := r) (fun _ => rfl) ?_ (fun ih => ?_)
 ·intro n2 ih3
  intro c h
  replace h : z55_l2 N g_ (n2 + 1) c = some r := h
  unfold z55_l2 at h
  refine wq (wq (wg (wx [] ⟨[(1, .B 4 0), (3, .I c), (9, .O (decide (c < (g_.Timeouts.length : Int))))], [(4, .box (cC4 0 1 2 3 g_) 27)], (vV4 0 1 2 3 g_ []), 5⟩ htt 5 (by kernel_rfl) (wn (?_)))))
  rcases oc' h with ⟨hc, h⟩ | ⟨hc, h⟩
  ·exact wf hc rfl (wz rfl (wu [] (j1 () h) rfl rfl rfl rfl))
  refine wt hc rfl (wi (wq (wo (wq (wg (wx [3, 4, 5, 6] ⟨[(1, .B 4 0), (3, .I c), (13, .S 3), (14, .I c)], [(4, .box (cC4 0 1 2 3 g_) 27)], (vV4 0 1 2 3 g_ []), 5⟩ htt 3 (by kernel_rfl) (?_)))))))
  obtain ⟨d, e, h⟩ := ob h
  refine wj oO8 htt e rfl rfl rfl rfl rfl rfl rfl rfl rfl (wx [] ⟨[(1, .B 4 0), (3, .I c), (4, .B 6 0)], [(4, .box (cC4 0 1 2 3 g_) 27), (6, .box (cC8 d) 79)], (vV4 0 1 2 3 g_ []), 7⟩ htt 3 (by kernel_rfl) (wn (wq (wQ (by kernel_rfl) (by kernel_rfl) (qx (rg 3 62) ⟨[(1, .B 4 0), (3, .I c), (4, .B 6 0), (17, .a (cC4 0 1 2 3 g_)), (19, .I d.State)], [(4, .box (cC4 0 1 2 3 g_) 27), (6, .box (cC8 d) 79)], (vV4 0 1 2 3 g_ []), 7⟩ htt 3 (by kernel_rfl) (?_))))))
  obtain ⟨f, g, h⟩ := ob h
  refine qc (z114_ct N g_ d.State _ g) [(0, .sl 0), (1, .sl 1), (2, .sl 2), (3, .sl 3)] [] rfl rfl rfl rfl rfl rfl rfl rfl rfl rfl rfl rfl (qx (rg 6 59) ⟨[(1, .B 4 0), (3, .I c), (4, .B 6 0), (22, .O (!f))], [(4, .box (cC4 0 1 2 3 g_) 27), (6, .box (cC8 d) 79)], (vV4 0 1 2 3 g_ []), 7⟩ htt 2 (by kernel_rfl) (?_))
  rcases oc h with ⟨hc, h⟩ | ⟨hc, h⟩
  ·refine qy 22 hc rfl (qx [] ⟨[(1, .B 4 0), (3, .I c), (81, .O true)], [(4, .box (cC4 0 1 2 3 g_) 27)], (vV4 0 1 2 3 g_ []), 7⟩ htt 59 (by kernel_rfl) (qn (wt rfl rfl (wq (wg (ws htt 1 rfl (wn (?_))))))))
   cases h
   exact we htt Tryz.func55 [] rfl rfl rfl rfl
  refine qy 22 hc rfl (qx (rg 9 56) ⟨[(1, .B 4 0), (3, .I c), (4, .B 6 0), (22, .O false), (25, .O (decide (c > 0)))], [(4, .box (cC4 0 1 2 3 g_) 27), (6, .box (cC8 d) 79)], (vV4 0 1 2 3 g_ []), 7⟩ htt 3 (by kernel_rfl) (?_))
  rcases oc' h with ⟨hc, h⟩ | ⟨hc, h⟩
  ·refine qy 25 hc rfl (qx (rg 27 38) ⟨[(1, .B 4 0), (3, .I c), (4, .B 6 0), (43, .O (decide (d.Ticks < 1)))], [(4, .box (cC4 0 1 2 3 g_) 27), (6, .box (cC8 d) 79)], (vV4 0 1 2 3 g_ []), 7⟩ htt 18 (by kernel_rfl) (?_))
   rcases oc h with ⟨hc, h⟩ | ⟨hc, h⟩
   ·refine qy 43 hc rfl (qx [] ⟨[(1, .B 4 0), (3, .I c), (81, .O true)], [(4, .box (cC4 0 1 2 3 g_) 27)], (vV4 0 1 2 3 g_ []), 7⟩ htt 38 (by kernel_rfl) (qn (wt rfl rfl (wq (wg (ws htt 1 rfl (wn (?_))))))))
    cases h
    exact we htt Tryz.func55 [] rfl rfl rfl rfl
   refine qy 43 hc rfl (qx (rg 32 33) ⟨[(1, .B 4 0), (3, .I c), (4, .B 6 0), (48, .O (decide (d.Ticks > 1000)))], [(4, .box (cC4 0 1 2 3 g_) 27), (6, .box (cC8 d) 79)], (vV4 0 1 2 3 g_ []), 7⟩ htt 5 (by kernel_rfl) (?_))
   rcases oc h with ⟨hc, h⟩ | ⟨hc, h⟩
   ·refine qy 48 hc rfl (qx [] ⟨[(1, .B 4 0), (3, .I c), (81, .O true)], [(4, .box (cC4 0 1 2 3 g_) 27)], (vV4 0 1 2 3 g_ []), 7⟩ htt 33 (by kernel_rfl) (qn (wt rfl rfl (wq (wg (ws htt 1 rfl (wn (?_))))))))
    cases h
    exact we htt Tryz.func55 [] rfl rfl rfl rfl
   refine qy 48 hc rfl (qx (rg 37 28) ⟨[(1, .B 4 0), (3, .I c), (4, .B 6 0), (53, .O (decide (d.Else < 0)))], [(4, .box (cC4 0 1 2 3 g_) 27), (6, .box (cC8 d) 79)], (vV4 0 1 2 3 g_ []), 7⟩ htt 5 (by kernel_rfl) (?_))
   rcases oc h with ⟨hc, h⟩ | ⟨hc, h⟩
   ·refine qy 53 hc rfl (qx [] ⟨[(1, .B 4 0), (3, .I c), (81, .O true)], [(4, .box (cC4 0 1 2 3 g_) 27)], (vV4 0 1 2 3 g_ []), 7⟩ htt 28 (by kernel_rfl) (qn (wt rfl rfl (wq (wg (ws htt 1 rfl (wn (?_))))))))
    cases h
    exact we htt Tryz.func55 [] rfl rfl rfl rfl
   refine qy 53 hc rfl (qx (rg 45 20) ⟨[(1, .B 4 0), (3, .I c), (4, .B 6 0), (61, .O (decide (d.Else ≥ (g_.Edges.length : Int))))], [(4, .box (cC4 0 1 2 3 g_) 27), (6, .box (cC8 d) 79)], (vV4 0 1 2 3 g_ []), 7⟩ htt 8 (by kernel_rfl) (?_))
   rcases oc h with ⟨hc, h⟩ | ⟨hc, h⟩
   ·refine qy 61 hc rfl (qx [] ⟨[(1, .B 4 0), (3, .I c), (81, .O true)], [(4, .box (cC4 0 1 2 3 g_) 27)], (vV4 0 1 2 3 g_ []), 7⟩ htt 20 (by kernel_rfl) (qn (wt rfl rfl (wq (wg (ws htt 1 rfl (wn (?_))))))))
    cases h
    exact we htt Tryz.func55 [] rfl rfl rfl rfl
   refine qy 61 hc rfl (qx (rg 49 16) ⟨[(1, .B 4 0), (3, .I c), (4, .B 6 0), (61, .O false), (63, .S 2), (65, .I d.Else)], [(4, .box (cC4 0 1 2 3 g_) 27), (6, .box (cC8 d) 79)], (vV4 0 1 2 3 g_ []), 7⟩ htt 4 (by kernel_rfl) (?_))
   obtain ⟨i, j, h⟩ := ob h
   refine WPq.op rfl rfl (VN.vs (VN.ix oO2 htt j rfl rfl rfl rfl rfl rfl rfl)) (qx (rg 57 8) ⟨[(1, .B 4 0), (3, .I c), (4, .B 6 0), (73, .O (i.From != d.State))], [(4, .box (cC4 0 1 2 3 g_) 27), (6, .box (cC8 d) 79)], (vV4 0 1 2 3 g_ []), 8⟩ htt 7 (by kernel_rfl) (?_))
   rcases oc h with ⟨hc, h⟩ | ⟨hc, h⟩
   ·refine qy 73 hc rfl (qx [] ⟨[(1, .B 4 0), (3, .I c), (81, .O true)], [(4, .box (cC4 0 1 2 3 g_) 27)], (vV4 0 1 2 3 g_ []), 8⟩ htt 8 (by kernel_rfl) (qn (wt rfl rfl (wq (wg (ws htt 1 rfl (wn (?_))))))))
    cases h
    exact we htt Tryz.func55 [] rfl rfl rfl rfl
   refine qy 73 hc rfl (qx [61, 62, 63, 64] ⟨[(1, .B 4 0), (3, .I c), (73, .O false), (75, .S 2), (77, .I d.Else)], [(4, .box (cC4 0 1 2 3 g_) 27)], (vV4 0 1 2 3 g_ []), 8⟩ htt 4 (by kernel_rfl) (?_))
   obtain ⟨k, l, h⟩ := ob h
   refine WPq.op rfl rfl (VN.vs (VN.ix oO2 htt l rfl rfl rfl rfl rfl rfl rfl)) (qx [] ⟨[(1, .B 4 0), (3, .I c), (81, .O k.Again)], [(4, .box (cC4 0 1 2 3 g_) 27)], (vV4 0 1 2 3 g_ []), 9⟩ htt 3 (by kernel_rfl) (qn (?_)))
   rcases oc h with ⟨hc, h⟩ | ⟨hc, h⟩
   ·refine wt hc rfl (wq (wg (ws htt 1 rfl (wn (?_)))))
    cases h
    exact we htt Tryz.func55 [] rfl rfl rfl rfl
   exact wf hc rfl (wi (wb (wg (wx [] ⟨[(1, .B 4 0), (3, .I (w64 (c + 1)))], [(4, .box (cC4 0 1 2 3 g_) 27)], (vV4 0 1 2 3 g_ []), 9⟩ htt 3 (by kernel_rfl) (wn (wu [] (ih3 (w64 (c + 1)) h) rfl rfl rfl rfl))))))
  refine qy 25 hc rfl (qx (rg 15 50) ⟨[(1, .B 4 0), (3, .I c), (4, .B 6 0), (22, .O false), (25, .O true), (27, .I d.State), (29, .S 3), (31, .I (w64 (c - 1)))], [(4, .box (cC4 0 1 2 3 g_) 27), (6, .box (cC8 d) 79)], (vV4 0 1 2 3 g_ []), 7⟩ htt 6 (by kernel_rfl) (?_))
  obtain ⟨m, o, h⟩ := ob h
  refine WPq.op rfl rfl (VN.vs (VN.ix oO8 htt o rfl rfl rfl rfl rfl rfl rfl)) (qx (rg 22 43) ⟨[(1, .B 4 0), (3, .I c), (4, .B 6 0), (38, .O (decide (d.State ≤ m.State)))], [(4, .box (cC4 0 1 2 3 g_) 27), (6, .box (cC8 d) 79)], (vV4 0 1 2 3 g_ []), 8⟩ htt 6 (by kernel_rfl) (?_))
  rcases oc h with ⟨hc, h⟩ | ⟨hc, h⟩
  ·refine qy 38 hc rfl (qx [] ⟨[(1, .B 4 0), (3, .I c), (81, .O true)], [(4, .box (cC4 0 1 2 3 g_) 27)], (vV4 0 1 2 3 g_ []), 8⟩ htt 43 (by kernel_rfl) (qn (wt rfl rfl (wq (wg (ws htt 1 rfl (wn (?_))))))))
   cases h
   exact we htt Tryz.func55 [] rfl rfl rfl rfl
  refine qy 38 hc rfl (qx (rg 27 38) ⟨[(1, .B 4 0), (3, .I c), (4, .B 6 0), (43, .O (decide (d.Ticks < 1)))], [(4, .box (cC4 0 1 2 3 g_) 27), (6, .box (cC8 d) 79)], (vV4 0 1 2 3 g_ []), 8⟩ htt 5 (by kernel_rfl) (?_))
  rcases oc h with ⟨hc, h⟩ | ⟨hc, h⟩
  ·refine qy 43 hc rfl (qx [] ⟨[(1, .B 4 0), (3, .I c), (81, .O true)], [(4, .box (cC4 0 1 2 3 g_) 27)], (vV4 0 1 2 3 g_ []), 8⟩ htt 38 (by kernel_rfl) (qn (wt rfl rfl (wq (wg (ws htt 1 rfl (wn (?_))))))))
   cases h
   exact we htt Tryz.func55 [] rfl rfl rfl rfl
  refine qy 43 hc rfl (qx (rg 32 33) ⟨[(1, .B 4 0), (3, .I c), (4, .B 6 0), (48, .O (decide (d.Ticks > 1000)))], [(4, .box (cC4 0 1 2 3 g_) 27), (6, .box (cC8 d) 79)], (vV4 0 1 2 3 g_ []), 8⟩ htt 5 (by kernel_rfl) (?_))
  rcases oc h with ⟨hc, h⟩ | ⟨hc, h⟩
  ·refine qy 48 hc rfl (qx [] ⟨[(1, .B 4 0), (3, .I c), (81, .O true)], [(4, .box (cC4 0 1 2 3 g_) 27)], (vV4 0 1 2 3 g_ []), 8⟩ htt 33 (by kernel_rfl) (qn (wt rfl rfl (wq (wg (ws htt 1 rfl (wn (?_))))))))
   cases h
   exact we htt Tryz.func55 [] rfl rfl rfl rfl
  refine qy 48 hc rfl (qx (rg 37 28) ⟨[(1, .B 4 0), (3, .I c), (4, .B 6 0), (53, .O (decide (d.Else < 0)))], [(4, .box (cC4 0 1 2 3 g_) 27), (6, .box (cC8 d) 79)], (vV4 0 1 2 3 g_ []), 8⟩ htt 5 (by kernel_rfl) (?_))
  rcases oc h with ⟨hc, h⟩ | ⟨hc, h⟩
  ·refine qy 53 hc rfl (qx [] ⟨[(1, .B 4 0), (3, .I c), (81, .O true)], [(4, .box (cC4 0 1 2 3 g_) 27)], (vV4 0 1 2 3 g_ []), 8⟩ htt 28 (by kernel_rfl) (qn (wt rfl rfl (wq (wg (ws htt 1 rfl (wn (?_))))))))
   cases h
   exact we htt Tryz.func55 [] rfl rfl rfl rfl
  refine qy 53 hc rfl (qx (rg 45 20) ⟨[(1, .B 4 0), (3, .I c), (4, .B 6 0), (61, .O (decide (d.Else ≥ (g_.Edges.length : Int))))], [(4, .box (cC4 0 1 2 3 g_) 27), (6, .box (cC8 d) 79)], (vV4 0 1 2 3 g_ []), 8⟩ htt 8 (by kernel_rfl) (?_))
  rcases oc h with ⟨hc, h⟩ | ⟨hc, h⟩
  ·refine qy 61 hc rfl (qx [] ⟨[(1, .B 4 0), (3, .I c), (81, .O true)], [(4, .box (cC4 0 1 2 3 g_) 27)], (vV4 0 1 2 3 g_ []), 8⟩ htt 20 (by kernel_rfl) (qn (wt rfl rfl (wq (wg (ws htt 1 rfl (wn (?_))))))))
   cases h
   exact we htt Tryz.func55 [] rfl rfl rfl rfl
  refine qy 61 hc rfl (qx (rg 49 16) ⟨[(1, .B 4 0), (3, .I c), (4, .B 6 0), (61, .O false), (63, .S 2), (65, .I d.Else)], [(4, .box (cC4 0 1 2 3 g_) 27), (6, .box (cC8 d) 79)], (vV4 0 1 2 3 g_ []), 8⟩ htt 4 (by kernel_rfl) (?_))
  obtain ⟨p, q, h⟩ := ob h
  refine WPq.op rfl rfl (VN.vs (VN.ix oO2 htt q rfl rfl rfl rfl rfl rfl rfl)) (qx (rg 57 8) ⟨[(1, .B 4 0), (3, .I c), (4, .B 6 0), (73, .O (p.From != d.State))], [(4, .box (cC4 0 1 2 3 g_) 27), (6, .box (cC8 d) 79)], (vV4 0 1 2 3 g_ []), 9⟩ htt 7 (by kernel_rfl) (?_))
  rcases oc h with ⟨hc, h⟩ | ⟨hc, h⟩
  ·refine qy 73 hc rfl (qx [] ⟨[(1, .B 4 0), (3, .I c), (81, .O true)], [(4, .box (cC4 0 1 2 3 g_) 27)], (vV4 0 1 2 3 g_ []), 9⟩ htt 8 (by kernel_rfl) (qn (wt rfl rfl (wq (wg (ws htt 1 rfl (wn (?_))))))))
   cases h
   exact we htt Tryz.func55 [] rfl rfl rfl rfl
  refine qy 73 hc rfl (qx [61, 62, 63, 64] ⟨[(1, .B 4 0), (3, .I c), (73, .O false), (75, .S 2), (77, .I d.Else)], [(4, .box (cC4 0 1 2 3 g_) 27)], (vV4 0 1 2 3 g_ []), 9⟩ htt 4 (by kernel_rfl) (?_))
  obtain ⟨s, t, h⟩ := ob h
  refine WPq.op rfl rfl (VN.vs (VN.ix oO2 htt t rfl rfl rfl rfl rfl rfl rfl)) (qx [] ⟨[(1, .B 4 0), (3, .I c), (81, .O s.Again)], [(4, .box (cC4 0 1 2 3 g_) 27)], (vV4 0 1 2 3 g_ []), 10⟩ htt 3 (by kernel_rfl) (qn (?_)))
  rcases oc h with ⟨hc, h⟩ | ⟨hc, h⟩
  ·refine wt hc rfl (wq (wg (ws htt 1 rfl (wn (?_)))))
   cases h
   exact we htt Tryz.func55 [] rfl rfl rfl rfl
  exact wf hc rfl (wi (wb (wg (wx [] ⟨[(1, .B 4 0), (3, .I (w64 (c + 1)))], [(4, .box (cC4 0 1 2 3 g_) 27)], (vV4 0 1 2 3 g_ []), 10⟩ htt 3 (by kernel_rfl) (wn (wu [] (ih3 (w64 (c + 1)) h) rfl rfl rfl rfl))))))
 exact wu [] (ih N 0 h) rfl rfl rfl rfl
theorem z19_ct (N : Nat) (g_ : T4) (r : Bool) (h : z19 N g_ = some r) :
 Fn Tryz.prog 19 ⟨4, [.a (cC4 0 1 2 3 g_)], (vV4 0 1 2 3 g_ []), [], 4, .O r, [], []⟩ := by
 refine Fn.intro _ _ Tryz.func19 rfl (by kernel_rfl) rfl (fun E F w => ?_)
 unfold z19 at h
 refine wq (wg (ws htt 2 rfl (wn (wq (wg (wx (rg 1 18) ⟨[(1, .B 4 0), (3, .a (cC4 0 1 2 3 g_))], [(4, .box (cC4 0 1 2 3 g_) 27)], (vV4 0 1 2 3 g_ []), 5⟩ htt 1 (by kernel_rfl) (?_)))))))
 obtain ⟨x1, c, h⟩ := ob h
 refine wc (z51_ct N g_ _ c) [(0, .sl 0), (1, .sl 1), (2, .sl 2), (3, .sl 3)] [] rfl rfl rfl rfl rfl rfl rfl rfl (.inl rfl) rfl (wx (rg 3 16) ⟨[(1, .B 4 0), (5, .O x1)], [(4, .box (cC4 0 1 2 3 g_) 27)], (vV4 0 1 2 3 g_ []), 5⟩ htt 1 (by kernel_rfl) (?_))
 rcases oc' h with ⟨hc, h⟩ | ⟨hc, h⟩
 ·refine wy 5 hc rfl (wx [] ⟨[(2, .O false)], [], (vV4 0 1 2 3 g_ []), 5⟩ htt 16 (by kernel_rfl) (wn (?_)))
  cases h
  exact we htt Tryz.func19 [] rfl rfl rfl rfl
 refine wy 5 hc rfl (ws htt 1 rfl (?_))
 obtain ⟨x2, d, h⟩ := ob h
 refine wc (z52_ct N g_ _ d) [(0, .sl 0), (1, .sl 1), (2, .sl 2), (3, .sl 3)] [] rfl rfl rfl rfl rfl rfl rfl rfl (.inl rfl) rfl (wx (rg 7 12) ⟨[(1, .B 4 0), (9, .O x2)], [(4, .box (cC4 0 1 2 3 g_) 27)], (vV4 0 1 2 3 g_ []), 5⟩ htt 2 (by kernel_rfl) (?_))
 rcases oc' h with ⟨hc, h⟩ | ⟨hc, h⟩
 ·refine wy 9 hc rfl (wx [] ⟨[(2, .O false)], [], (vV4 0 1 2 3 g_ []), 5⟩ htt 12 (by kernel_rfl) (wn (?_)))
  cases h
  exact we htt Tryz.func19 [] rfl rfl rfl rfl
 refine wy 9 hc rfl (ws htt 1 rfl (?_))
 obtain ⟨x3, e, h⟩ := ob h
 refine wc (z53_ct N g_ _ e) [(0, .sl 0), (1, .sl 1), (2, .sl 2), (3, .sl 3)] [] rfl rfl rfl rfl rfl rfl rfl rfl (.inl rfl) rfl (wx (rg 11 8) ⟨[(1, .B 4 0), (13, .O x3)], [(4, .box (cC4 0 1 2 3 g_) 27)], (vV4 0 1 2 3 g_ []), 5⟩ htt 2 (by kernel_rfl) (?_))
 rcases oc' h with ⟨hc, h⟩ | ⟨hc, h⟩
 ·refine wy 13 hc rfl (wx [] ⟨[(2, .O false)], [], (vV4 0 1 2 3 g_ []), 5⟩ htt 8 (by kernel_rfl) (wn (?_)))
  cases h
  exact we htt Tryz.func19 [] rfl rfl rfl rfl
 refine wy 13 hc rfl (ws htt 1 rfl (?_))
 obtain ⟨x4, f, h⟩ := ob h
 refine wc (z54_ct N g_ _ f) [(0, .sl 0), (1, .sl 1), (2, .sl 2), (3, .sl 3)] [] rfl rfl rfl rfl rfl rfl rfl rfl (.inl rfl) rfl (wx [15, 16, 17, 18] ⟨[(1, .B 4 0), (17, .O x4)], [(4, .box (cC4 0 1 2 3 g_) 27)], (vV4 0 1 2 3 g_ []), 5⟩ htt 2 (by kernel_rfl) (?_))
 rcases oc' h with ⟨hc, h⟩ | ⟨hc, h⟩
 ·refine wy 17 hc rfl (wx [] ⟨[(2, .O false)], [], (vV4 0 1 2 3 g_ []), 5⟩ htt 4 (by kernel_rfl) (wn (?_)))
  cases h
  exact we htt Tryz.func19 [] rfl rfl rfl rfl
 refine wy 17 hc rfl (ws htt 1 rfl (?_))
 obtain ⟨x5, g, h⟩ := ob h
 refine wc (z55_ct N g_ _ g) [(0, .sl 0), (1, .sl 1), (2, .sl 2), (3, .sl 3)] [] rfl rfl rfl rfl rfl rfl rfl rfl (.inl rfl) rfl (wx [] ⟨[(2, .O x5)], [], (vV4 0 1 2 3 g_ []), 5⟩ htt 2 (by kernel_rfl) (wn (?_)))
 cases h
 exact we htt Tryz.func19 [] rfl rfl rfl rfl
end Gx
end
