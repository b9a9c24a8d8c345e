/- Each function of the statement computes what its plain definition says, part 3. -/
import Derived.Test.YtenajajnbmfijaaGreatDoorGlobalEndsWalk2
set_option linter.all false
section
set_option linter.unusedVariables false
set_option maxRecDepth 10000
set_option maxHeartbeats 4000000
open Go Go.Kx Go.Proofs
namespace Gx
theorem z57_ct (N : Nat) (g_ : T4) (r : T4) (h : z57 N g_ = some r) :
  Fn Tryz.prog 57 ⟨4, [.a (cC4 0 1 2 3 g_)], (vV4 0 1 2 3 g_ []), [], 8, .a (cC4 4 5 6 7 r), [(4, .sl rS r.Roles), (5, .sl rR0 r.Decls)], [(6, .own rR2 r.Edges true), (7, .own rR8 r.Timeouts true)]⟩ := by
  refine Fn.intro _ _ Tryz.func57 rfl (by kernel_rfl) rfl (fun E F w => ?_)
  unfold z57 at h
  refine WP.seq (WP.region (WPr.sil htt 2 rfl (WPr.nil (WP.seq (WP.nm (fun A1 tA1 fA1 => ?_))))))
  have st1 : A1 0 ⟨[(1, .B 4 0)], [], [], [], 6, [(6, .B 4 0)], [], [], 6⟩ := tA1 _ _ (LS.sil htt rfl rfl rfl rfl rfl rfl)
  have st2 : A1 1 ⟨[(6, .B 4 0)], (vV4 0 1 2 3 g_ []), [], [(4, .box (cC4 0 1 2 3 g_) 27)], 6, [(7, .c (.s g_.Name))], [], [], 6⟩ := tA1 _ _ (LS.sil htt rfl rfl rfl rfl rfl rfl)
  have st3 : A1 2 ⟨[(1, .B 4 0)], [], [], [], 6, [(8, .B 4 1)], [], [], 6⟩ := tA1 _ _ (LS.sil htt rfl rfl rfl rfl rfl rfl)
  have st4 : A1 3 ⟨[(8, .B 4 1)], (vV4 0 1 2 3 g_ []), [], [(4, .box (cC4 0 1 2 3 g_) 27)], 6, [(9, .S 0)], [], [], 6⟩ := tA1 _ _ (LS.sil htt rfl rfl rfl rfl rfl rfl)
  obtain ⟨x5, hx5, h⟩ := ob h
  have st6 : A1 4 ⟨[(9, .S 0)], [(0, .sl rS g_.Roles)], [], [], 6, [(10, .S 6)], [], [(6, .own rS x5 true)], 7⟩ := tA1 _ _ (LS.of rfl rfl rfl (fun _ _ _ _ _ _ _ k => WPr.call (z115_ct N g_.Roles _ hx5) [(0, .sl 0)] [] rfl rfl rfl rfl rfl rfl rfl rfl (.inl rfl) rfl (k)) rfl)
  have st7 : A1 5 ⟨[(7, .c (.s g_.Name)), (10, .S 6)], [], [], [], 7, [(11, .a [.s g_.Name, .sl 6, .nil, .I (0 : Int), .I (0 : Int), .I (0 : Int), .nil, .nil])], [], [], 7⟩ := tA1 _ _ (LS.sil htt rfl rfl rfl rfl rfl rfl)
  have st8 : A1 6 ⟨[], [], [], [], 7, [(3, .B 7 0)], [], [(7, .box [.s (str []), .nil, .nil, .I (0 : Int), .I (0 : Int), .I (0 : Int), .nil, .nil] 27)], 8⟩ := tA1 _ _ (LS.sil htt rfl rfl rfl rfl rfl rfl)
  have st9 : A1 7 ⟨[(3, .B 7 0), (11, .a [.s g_.Name, .sl 6, .nil, .I (0 : Int), .I (0 : Int), .I (0 : Int), .nil, .nil])], [], [(7, .box [.s (str []), .nil, .nil, .I (0 : Int), .I (0 : Int), .I (0 : Int), .nil, .nil] 27)], [(6, .own rS x5 true)], 8, [], [], [(7, .box [.s g_.Name, .sl 6, .nil, .I (0 : Int), .I (0 : Int), .I (0 : Int), .nil, .nil] 27)], 8⟩ := tA1 _ _ (LS.sil htt rfl rfl rfl rfl rfl rfl)
  refine WP.regionD (t := ⟨[(1, .B 4 0), (2, .B 5 0), (3, .B 7 0)], [(4, .box (cC4 0 1 2 3 g_) 27), (5, .box [.s (str []), .nil, .nil, .I (0 : Int), .I (0 : Int), .I (0 : Int), .nil, .nil] 27), (6, .own rS x5 true), (7, .box [.s g_.Name, .sl 6, .nil, .I (0 : Int), .I (0 : Int), .I (0 : Int), .nil, .nil] 27)], (vV4 0 1 2 3 g_ []), 8⟩) [0, 1, 0, 4, 12, 31, 0, 127] (.cons (fA1 _ _ st1) (.cons (fA1 _ _ st2) (.cons (fA1 _ _ st3) (.cons (fA1 _ _ st4) (.cons (fA1 _ _ st6) (.cons (fA1 _ _ st7) (.cons (fA1 _ _ st8) (.cons (fA1 _ _ st9) .nil)))))))) (by kernel_rfl) (by kernel_rfl) (by kernel_rfl) (by kernel_rfl) (WP.seq (WP.seq (WP.region (WPr.silx [] ⟨[(2, .B 5 0), (3, .B 7 0), (13, .S 1), (14, .I (g_.Decls.length : Int)), (15, .I (0 : Int))], [(5, .box [.s (str []), .nil, .nil, .I (0 : Int), .I (0 : Int), .I (0 : Int), .nil, .nil] 27), (6, .own rS x5 true), (7, .box [.s g_.Name, .sl 6, .nil, .I (0 : Int), .I (0 : Int), .I (0 : Int), .nil, .nil] 27)], (vV4 0 1 2 3 g_ []), 8⟩ htt 4 (by kernel_rfl) (WPr.nil (?_))))))
  refine WP.cut (σ := (List T0)) (fun st => ⟨[(2, .B 5 0), (3, .B 7 0)], [(5, .box [.s (str []), .nil, .nil, .I (0 : Int), .I (0 : Int), .I (0 : Int), .nil, .nil] 27), (6, .own rS x5 true), (7, .box [.s g_.Name, .sl 6, .sl 8, .I (0 : Int), .I (0 : Int), .I (0 : Int), .nil, .nil] 27), (8, .own rR0 st true)], (vV4 0 1 2 3 g_ []), 9⟩) (fun st => z57_k1 g_ x5 st = some r) ?_ (fun j1 => ?_)
  · intro vb3_7_2_1 h
    replace h : z57_k1 g_ x5 vb3_7_2_1 = some r := h
    unfold z57_k1 at h
    refine WP.seq (WP.region (WPr.sil htt 2 rfl (WPr.nil (WP.frz 6 rfl (WP.frz 8 rfl (?_))))))
    cases h
    exact WP.ret htt Tryz.func57 [(4, .sl 6), (5, .sl 8), (6, .nil), (7, .nil)] rfl rfl rfl rfl
  refine WP.block (?_)
  refine WP.loopI (σ := (List T0) × Int) (fun st => ⟨[(2, .B 5 0), (3, .B 7 0), (13, .S 1), (14, .I (g_.Decls.length : Int)), (15, .I st.2)], [(5, .box [.s (str []), .nil, .nil, .I (0 : Int), .I (0 : Int), .I (0 : Int), .nil, .nil] 27), (6, .own rS x5 true), (7, .box [.s g_.Name, .sl 6, .sl 8, .I (0 : Int), .I (0 : Int), .I (0 : Int), .nil, .nil] 27), (8, .own rR0 st.1 true)], (vV4 0 1 2 3 g_ []), 9⟩) (fun n st => z57_l2 N g_ x5 n st.1 st.2) (r := r) (fun _ => rfl) ?_ (fun ih => ?_)
  · intro n2 ih3
    rintro ⟨vb3_7_2_3, v15_3⟩ h
    replace h : z57_l2 N g_ x5 (n2 + 1) vb3_7_2_3 v15_3 = some r := h
    unfold z57_l2 at h
    refine WP.seq (WP.region (WPr.sil htt 1 rfl (WPr.nil (WP.seq (?_)))))
    rcases oc' h with ⟨hc, h⟩ | ⟨hc, h⟩
    · exact WP.condF hc rfl (WP.exit rfl (WP.sub [] (j1 vb3_7_2_3 h) rfl rfl rfl rfl))
    refine WP.condT hc rfl (WP.skip (WP.seq (WP.block (WP.seq (WP.region (?_))))))
    obtain ⟨x138, hx138, h⟩ := ob h
    refine WPr.ix oO0 htt hx138 rfl rfl rfl rfl rfl rfl rfl rfl rfl (WPr.silx [] ⟨[(2, .B 5 0), (3, .B 7 0), (5, .B 13 0), (13, .S 1), (14, .I (g_.Decls.length : Int)), (15, .I v15_3)], [(5, .box [.s (str []), .nil, .nil, .I (0 : Int), .I (0 : Int), .I (0 : Int), .nil, .nil] 27), (6, .own rS x5 true), (7, .box [.s g_.Name, .sl 6, .sl 8, .I (0 : Int), .I (0 : Int), .I (0 : Int), .nil, .nil] 27), (8, .own rR0 vb3_7_2_3 true), (13, .box (cC0 10 11 12 x138) 94)], (vV4 0 1 2 3 g_ (vV0 10 11 12 x138 [])), 14⟩ htt 3 (by kernel_rfl) (WPr.nil (WP.seq (WP.region (WPr.sil htt 2 rfl (?_))))))
    obtain ⟨x139, hx139, h⟩ := ob h
    refine WPr.call (z116_ct N x138.Fields _ hx139) [(0, .sl 10)] [] rfl rfl rfl rfl rfl rfl rfl rfl (.inl rfl) rfl (WPr.silx [] ⟨[(2, .B 5 0), (3, .B 7 0), (5, .B 13 0), (13, .S 1), (14, .I (g_.Decls.length : Int)), (15, .I v15_3)], [(5, .box [.s (str []), .nil, .nil, .I (0 : Int), .I (0 : Int), .I (0 : Int), .nil, .nil] 27), (6, .own rS x5 true), (7, .box [.s g_.Name, .sl 6, .sl 8, .I (0 : Int), .I (0 : Int), .I (0 : Int), .nil, .nil] 27), (8, .own rR0 vb3_7_2_3 true), (13, .box (cC0 14 11 12 x138) 94), (14, .own rR3 x139 true)], (vV4 0 1 2 3 g_ [(11, .sl rR1 x138.Guard.Diffs), (12, .sl (rP (rI .i64) (rI .i64)) x138.Guard.Equals)]), 15⟩ htt 2 (by kernel_rfl) (WPr.nil (WP.seq (WP.nm (fun A10 tA10 fA10 => ?_)))))
    have st140 : A10 0 ⟨[(5, .B 13 0)], [], [], [], 15, [(23, .B 13 3)], [], [], 15⟩ := tA10 _ _ (LS.sil htt rfl rfl rfl rfl rfl rfl)
    have st141 : A10 1 ⟨[(23, .B 13 3)], [], [], [], 15, [(24, .B 13 3)], [], [], 15⟩ := tA10 _ _ (LS.sil htt rfl rfl rfl rfl rfl rfl)
    have st142 : A10 2 ⟨[(24, .B 13 3)], [(11, .sl rR1 x138.Guard.Diffs), (12, .sl (rP (rI .i64) (rI .i64)) x138.Guard.Equals)], [], [(13, .box (cC0 14 11 12 x138) 94)], 15, [(25, .S 11)], [], [], 15⟩ := tA10 _ _ (LS.sil htt rfl rfl rfl rfl rfl rfl)
    obtain ⟨x143, hx143, h⟩ := ob h
    have st144 : A10 3 ⟨[(25, .S 11)], [(11, .sl rR1 x138.Guard.Diffs)], [], [], 15, [(26, .S 15)], [], [(15, .own rR1 x143 true)], 16⟩ := tA10 _ _ (LS.of rfl rfl rfl (fun _ _ _ _ _ _ _ k => WPr.call (z117_ct N x138.Guard.Diffs _ hx143) [(0, .sl 11)] [] rfl rfl rfl rfl rfl rfl rfl rfl (.inl rfl) rfl (k)) rfl)
    have st145 : A10 4 ⟨[(5, .B 13 0)], [], [], [], 16, [(27, .B 13 3)], [], [], 16⟩ := tA10 _ _ (LS.sil htt rfl rfl rfl rfl rfl rfl)
    have st146 : A10 5 ⟨[(27, .B 13 3)], [], [], [], 16, [(28, .B 13 4)], [], [], 16⟩ := tA10 _ _ (LS.sil htt rfl rfl rfl rfl rfl rfl)
    have st147 : A10 6 ⟨[(28, .B 13 4)], [(11, .sl rR1 x138.Guard.Diffs), (12, .sl (rP (rI .i64) (rI .i64)) x138.Guard.Equals)], [], [(13, .box (cC0 14 11 12 x138) 94)], 16, [(29, .S 12)], [], [], 16⟩ := tA10 _ _ (LS.sil htt rfl rfl rfl rfl rfl rfl)
    obtain ⟨x148, hx148, h⟩ := ob h
    have st149 : A10 7 ⟨[(29, .S 12)], [(12, .sl (rP (rI .i64) (rI .i64)) x138.Guard.Equals)], [], [], 16, [(30, .S 16)], [], [(16, .own (rP (rI .i64) (rI .i64)) x148 true)], 17⟩ := tA10 _ _ (LS.of rfl rfl rfl (fun _ _ _ _ _ _ _ k => WPr.call (z118_ct N x138.Guard.Equals _ hx148) [(0, .sl 12)] [] rfl rfl rfl rfl rfl rfl rfl rfl (.inl rfl) rfl (k)) rfl)
    have st150 : A10 8 ⟨[(26, .S 15), (30, .S 16)], [], [], [], 17, [(31, .a [.sl 15, .sl 16])], [], [], 17⟩ := tA10 _ _ (LS.sil htt rfl rfl rfl rfl rfl rfl)
    have st151 : A10 9 ⟨[(5, .B 13 0)], [], [], [], 17, [(32, .B 13 3)], [], [], 17⟩ := tA10 _ _ (LS.sil htt rfl rfl rfl rfl rfl rfl)
    have st152 : A10 10 ⟨[(31, .a [.sl 15, .sl 16]), (32, .B 13 3)], [(11, .sl rR1 x138.Guard.Diffs), (12, .sl (rP (rI .i64) (rI .i64)) x138.Guard.Equals)], [(13, .box (cC0 14 11 12 x138) 94)], [(15, .own rR1 x143 true), (16, .own (rP (rI .i64) (rI .i64)) x148 true)], 17, [], [], [(13, .box (cC0 14 15 16 x138) 94)], 17⟩ := tA10 _ _ (LS.sil htt rfl rfl rfl rfl rfl rfl)
    refine WP.regionD (t := ⟨[(2, .B 5 0), (3, .B 7 0), (5, .B 13 0), (13, .S 1), (14, .I (g_.Decls.length : Int)), (15, .I v15_3)], [(5, .box [.s (str []), .nil, .nil, .I (0 : Int), .I (0 : Int), .I (0 : Int), .nil, .nil] 27), (6, .own rS x5 true), (7, .box [.s g_.Name, .sl 6, .sl 8, .I (0 : Int), .I (0 : Int), .I (0 : Int), .nil, .nil] 27), (8, .own rR0 vb3_7_2_3 true), (13, .box (cC0 14 15 16 x138) 94), (14, .own rR3 x139 true), (15, .own rR1 x143 true), (16, .own (rP (rI .i64) (rI .i64)) x148 true)], (vV4 0 1 2 3 g_ []), 17⟩) [0, 1, 3, 7, 0, 16, 48, 127, 255, 511, 1023] (.cons (fA10 _ _ st140) (.cons (fA10 _ _ st141) (.cons (fA10 _ _ st142) (.cons (fA10 _ _ st144) (.cons (fA10 _ _ st145) (.cons (fA10 _ _ st146) (.cons (fA10 _ _ st147) (.cons (fA10 _ _ st149) (.cons (fA10 _ _ st150) (.cons (fA10 _ _ st151) (.cons (fA10 _ _ st152) .nil))))))))))) (by kernel_rfl) (by kernel_rfl) (by kernel_rfl) (by kernel_rfl) (WP.region (WPr.silx [3, 4, 5, 6] ⟨[(2, .B 5 0), (3, .B 7 0), (13, .S 1), (14, .I (g_.Decls.length : Int)), (15, .I v15_3), (34, .S 8), (35, .a (cC0 14 15 16 x138))], [(5, .box [.s (str []), .nil, .nil, .I (0 : Int), .I (0 : Int), .I (0 : Int), .nil, .nil] 27), (6, .own rS x5 true), (7, .box [.s g_.Name, .sl 6, .sl 8, .I (0 : Int), .I (0 : Int), .I (0 : Int), .nil, .nil] 27), (8, .own rR0 vb3_7_2_3 true), (14, .own rR3 x139 true), (15, .own rR1 x143 true), (16, .own (rP (rI .i64) (rI .i64)) x148 true)], (vV4 0 1 2 3 g_ []), 17⟩ htt 3 (by kernel_rfl) (WPr.frz 14 rfl (WPr.frz 15 rfl (WPr.frz 16 rfl (WPr.bs (cs := (cC0 14 15 16 x138)) oO0 htt ([(⟨x138.Name, x139, x138.First, (⟨x143, x148⟩ : T5)⟩ : T0)] : List T0) rfl rfl rfl rfl rfl rfl (by kernel_rfl) (by exact (an (an rfl (an rfl (an rfl (an rfl rfl)))) rfl)) rfl (?_)))))))
    obtain ⟨x153, hx153, h⟩ := ob h
    exact WPr.app htt hx153 (by exact (srcO rfl)) rfl rfl rfl rfl rfl rfl rfl rfl rfl rfl (WPr.silx [] ⟨[(2, .B 5 0), (3, .B 7 0), (13, .S 1), (14, .I (g_.Decls.length : Int)), (15, .I v15_3)], [(5, .box [.s (str []), .nil, .nil, .I (0 : Int), .I (0 : Int), .I (0 : Int), .nil, .nil] 27), (6, .own rS x5 true), (7, .box [.s g_.Name, .sl 6, .sl 18, .I (0 : Int), .I (0 : Int), .I (0 : Int), .nil, .nil] 27), (18, .own rR0 x153 true)], (vV4 0 1 2 3 g_ []), 19⟩ htt 2 (by kernel_rfl) (WPr.nil (WP.inBlock (WP.region (WPr.sil htt 2 rfl (WPr.nil (WP.sub [(8, .sl 18)] (ih3 (x153, (w64 (v15_3 + (1 : Int)))) h) rfl rfl rfl rfl)))))))
  exact WP.sub [(8, .nil)] (ih N (([] : List T0), (0 : Int)) h) rfl rfl rfl rfl
theorem z21_ct (N : Nat) (g_ : T4) (r : T4 × Int) (h : z21 N g_ = some r) :
  Fn Tryz.prog 21 ⟨4, [.a (cC4 0 1 2 3 g_)], (vV4 0 1 2 3 g_ []), [], 8, .t [.inr (cC4 4 5 6 7 r.1), .inl (.I r.2)], (vV4 4 5 6 7 r.1 []), []⟩ := by
  refine Fn.intro _ _ Tryz.func21 rfl (by kernel_rfl) rfl (fun E F w => ?_)
  unfold z21 at h
  refine WP.seq (WP.region (WPr.silx [] ⟨[(1, .B 4 0), (2, .B 5 0), (3, .I (0 : Int))], [(4, .box (cC4 0 1 2 3 g_) 27), (5, .box [.s (str []), .nil, .nil, .I (0 : Int), .I (0 : Int), .I (0 : Int), .nil, .nil] 27)], (vV4 0 1 2 3 g_ []), 6⟩ htt 3 (by kernel_rfl) (WPr.nil (WP.seq (WP.seq (WP.region (WPr.sil htt 1 rfl (?_))))))))
  obtain ⟨x1, hx1, h⟩ := ob h
  refine WPr.call (z22_ct N g_ _ hx1) [(0, .sl 0), (1, .sl 1), (2, .sl 2), (3, .sl 3)] [] rfl rfl rfl rfl rfl rfl rfl rfl (.inl rfl) rfl (WPr.silx [] ⟨[(1, .B 4 0), (2, .B 5 0), (3, .I (0 : Int)), (14, .O (!x1))], [(4, .box (cC4 0 1 2 3 g_) 27), (5, .box [.s (str []), .nil, .nil, .I (0 : Int), .I (0 : Int), .I (0 : Int), .nil, .nil] 27)], (vV4 0 1 2 3 g_ []), 6⟩ htt 1 (by kernel_rfl) (WPr.nil (?_)))
  rcases oc h with ⟨hc, h⟩ | ⟨hc, h⟩
  · refine WP.condT hc rfl (WP.seq (WP.region (WPr.silx [] ⟨[(2, .B 5 0), (3, .I (1 : Int))], [(5, .box [.s (str []), .nil, .nil, .I (0 : Int), .I (0 : Int), .I (0 : Int), .nil, .nil] 27)], (vV4 0 1 2 3 g_ []), 6⟩ htt 3 (by kernel_rfl) (WPr.nil (?_)))))
    cases h
    exact WP.ret htt Tryz.func21 [(4, .nil), (5, .nil), (6, .nil), (7, .nil)] rfl rfl rfl rfl
  refine WP.condF hc rfl (WP.skip (WP.seq (WP.region (WPr.sil htt 1 rfl (?_)))))
  obtain ⟨x2, hx2, h⟩ := ob h
  refine WPr.call (z57_ct N g_ _ hx2) [(0, .sl 0), (1, .sl 1), (2, .sl 2), (3, .sl 3)] [] rfl rfl rfl rfl rfl rfl rfl rfl (.inl rfl) rfl (WPr.silx [] ⟨[(1, .B 4 0), (2, .B 5 0), (3, .I (0 : Int)), (4, .B 10 0)], [(4, .box (cC4 0 1 2 3 g_) 27), (5, .box [.s (str []), .nil, .nil, .I (0 : Int), .I (0 : Int), .I (0 : Int), .nil, .nil] 27), (8, .own rR2 x2.Edges true), (9, .own rR8 x2.Timeouts true), (10, .box (cC4 6 7 8 9 x2) 27)], (vV4 0 1 2 3 g_ [(6, .sl rS x2.Roles), (7, .sl rR0 x2.Decls)]), 11⟩ htt 2 (by kernel_rfl) (WPr.nil (WP.seq (WP.region (WPr.bs (cs := [.I (-1 : Int)]) (oI .i64) htt ([(-1 : Int)] : List Int) rfl rfl rfl rfl rfl rfl (by kernel_rfl) (by exact (an rfl rfl)) rfl (WPr.silx [3, 4] ⟨[(1, .B 4 0), (2, .B 5 0), (3, .I (0 : Int)), (4, .B 10 0), (18, .S 11), (20, .I g_.States)], [(4, .box (cC4 0 1 2 3 g_) 27), (5, .box [.s (str []), .nil, .nil, .I (0 : Int), .I (0 : Int), .I (0 : Int), .nil, .nil] 27), (8, .own rR2 x2.Edges true), (9, .own rR8 x2.Timeouts true), (10, .box (cC4 6 7 8 9 x2) 27), (11, .own (rI .i64) ([(-1 : Int)] : List Int) true)], (vV4 0 1 2 3 g_ [(6, .sl rS x2.Roles), (7, .sl rR0 x2.Decls)]), 12⟩ htt 2 (by kernel_rfl) (?_)))))))
  obtain ⟨x3, hx3, h⟩ := ob h
  refine WPr.call (z58_ct N ([(-1 : Int)] : List Int) g_.States _ hx3) [(0, .sl 11)] [11] rfl rfl rfl rfl rfl rfl rfl rfl (.inr ⟨rfl, ⟨(rI_flat _), trivial⟩⟩) rfl (WPr.silx [] ⟨[(1, .B 4 0), (2, .B 5 0), (3, .I (0 : Int)), (4, .B 10 0), (5, .S 12)], [(4, .box (cC4 0 1 2 3 g_) 27), (5, .box [.s (str []), .nil, .nil, .I (0 : Int), .I (0 : Int), .I (0 : Int), .nil, .nil] 27), (8, .own rR2 x2.Edges true), (9, .own rR8 x2.Timeouts true), (10, .box (cC4 6 7 8 9 x2) 27), (12, .own (rI .i64) x3 true)], (vV4 0 1 2 3 g_ [(6, .sl rS x2.Roles), (7, .sl rR0 x2.Decls)]), 13⟩ htt 1 (by kernel_rfl) (WPr.nil (WP.seq (WP.region (WPr.silx [3, 4] ⟨[(1, .B 4 0), (2, .B 5 0), (3, .I (0 : Int)), (4, .B 10 0), (5, .S 12), (22, .S 12), (24, .I g_.Start)], [(4, .box (cC4 0 1 2 3 g_) 27), (5, .box [.s (str []), .nil, .nil, .I (0 : Int), .I (0 : Int), .I (0 : Int), .nil, .nil] 27), (8, .own rR2 x2.Edges true), (9, .own rR8 x2.Timeouts true), (10, .box (cC4 6 7 8 9 x2) 27), (12, .own (rI .i64) x3 true)], (vV4 0 1 2 3 g_ [(6, .sl rS x2.Roles), (7, .sl rR0 x2.Decls)]), 13⟩ htt 3 (by kernel_rfl) (?_))))))
  obtain ⟨x4, hx4, h⟩ := ob h
  refine WPr.ixo htt hx4 rfl rfl rfl rfl rfl rfl rfl rfl rfl (WPr.sto (oI .i64) htt (0 : Int) hx4 rfl rfl rfl rfl rfl rfl rfl rfl rfl rfl (by exact rfl) rfl (WPr.nil (WP.seq (WP.seq (WP.region (WPr.silx [2, 3] ⟨[(1, .B 4 0), (2, .B 5 0), (3, .I (0 : Int)), (4, .B 10 0), (5, .S 12), (27, .I g_.Start)], [(4, .box (cC4 0 1 2 3 g_) 27), (5, .box [.s (str []), .nil, .nil, .I (0 : Int), .I (0 : Int), .I (0 : Int), .nil, .nil] 27), (8, .own rR2 x2.Edges true), (9, .own rR8 x2.Timeouts true), (10, .box (cC4 6 7 8 9 x2) 27), (12, .own (rI .i64) (setL' x3 g_.Start (0 : Int)) true)], (vV4 0 1 2 3 g_ [(6, .sl rS x2.Roles), (7, .sl rR0 x2.Decls)]), 14⟩ htt 2 (by kernel_rfl) (WPr.bs (cs := [.I g_.Start]) (oI .i64) htt ([g_.Start] : List Int) rfl rfl rfl rfl rfl rfl (by kernel_rfl) (by exact (an rfl rfl)) rfl (WPr.sil htt 1 rfl (WPr.nil (?_))))))))))
  refine WP.cut (σ := Int × (List T2) × (List T8) × (List Int)) (fun st => ⟨[(1, .B 4 0), (2, .B 5 0), (4, .B 10 0), (5, .S 12)], [(4, .box (cC4 0 1 2 3 g_) 27), (5, .box [.s (str []), .nil, .nil, .I (0 : Int), .I (0 : Int), .I (0 : Int), .nil, .nil] 27), (10, .box [.s x2.Name, .sl 6, .sl 7, .I st.1, .I x2.Start, .I x2.End, .sl 15, .sl 16] 27), (12, .own (rI .i64) st.2.2.2 true), (15, .own rR2 st.2.1 true), (16, .own rR8 st.2.2.1 true)], (vV4 0 1 2 3 g_ [(6, .sl rS x2.Roles), (7, .sl rR0 x2.Decls)]), 17⟩) (fun st => z21_k1 g_ x2 st.1 st.2.1 st.2.2.1 st.2.2.2 = some r) ?_ (fun j1 => ?_)
  · rintro ⟨vb4_10_3_1, vb4_10_6_1, vb4_10_7_1, v5_1⟩ h
    replace h : z21_k1 g_ x2 vb4_10_3_1 vb4_10_6_1 vb4_10_7_1 v5_1 = some r := h
    unfold z21_k1 at h
    refine WP.seq (WP.region (WPr.silx [3, 4, 5, 6] ⟨[(2, .B 5 0), (4, .B 10 0), (124, .S 12), (126, .I g_.End)], [(5, .box [.s (str []), .nil, .nil, .I (0 : Int), .I (0 : Int), .I (0 : Int), .nil, .nil] 27), (10, .box [.s x2.Name, .sl 6, .sl 7, .I vb4_10_3_1, .I x2.Start, .I x2.End, .sl 15, .sl 16] 27), (12, .own (rI .i64) v5_1 true), (15, .own rR2 vb4_10_6_1 true), (16, .own rR8 vb4_10_7_1 true)], (vV4 0 1 2 3 g_ [(6, .sl rS x2.Roles), (7, .sl rR0 x2.Decls)]), 17⟩ htt 3 (by kernel_rfl) (?_)))
    obtain ⟨x2225, hx2225, h⟩ := ob h
    refine WPr.ixo htt hx2225 rfl rfl rfl rfl rfl rfl rfl rfl rfl (WPr.ldo (oI .i64) htt hx2225 rfl rfl rfl rfl rfl rfl rfl rfl rfl rfl (WPr.silx [] ⟨[(2, .B 5 0), (4, .B 10 0)], [(5, .box [.s (str []), .nil, .nil, .I (0 : Int), .I (0 : Int), .I (0 : Int), .nil, .nil] 27), (10, .box [.s x2.Name, .sl 6, .sl 7, .I vb4_10_3_1, .I x2.Start, .I x2225, .sl 15, .sl 16] 27), (15, .own rR2 vb4_10_6_1 true), (16, .own rR8 vb4_10_7_1 true)], (vV4 0 1 2 3 g_ [(6, .sl rS x2.Roles), (7, .sl rR0 x2.Decls)]), 18⟩ htt 2 (by kernel_rfl) (WPr.nil (WP.seq (WP.region (WPr.silx [] ⟨[(2, .B 5 0), (3, .I (0 : Int))], [(5, .box [.s x2.Name, .sl 6, .sl 7, .I vb4_10_3_1, .I x2.Start, .I x2225, .sl 15, .sl 16] 27), (15, .own rR2 vb4_10_6_1 true), (16, .own rR8 vb4_10_7_1 true)], (vV4 0 1 2 3 g_ [(6, .sl rS x2.Roles), (7, .sl rR0 x2.Decls)]), 18⟩ htt 3 (by kernel_rfl) (WPr.nil (WP.frz 15 rfl (WP.frz 16 rfl (?_))))))))))
    cases h
    exact WP.ret htt Tryz.func21 [(4, .sl 6), (5, .sl 7), (6, .sl 15), (7, .sl 16)] rfl rfl rfl rfl
  refine WP.block (?_)
  refine WP.loopI (σ := Int × (List T2) × (List T8) × (List Int) × (List Int)) (fun st => ⟨[(1, .B 4 0), (2, .B 5 0), (4, .B 10 0), (5, .S 12), (6, .S 17)], [(4, .box (cC4 0 1 2 3 g_) 27), (5, .box [.s (str []), .nil, .nil, .I (0 : Int), .I (0 : Int), .I (0 : Int), .nil, .nil] 27), (10, .box [.s x2.Name, .sl 6, .sl 7, .I st.1, .I x2.Start, .I x2.End, .sl 15, .sl 16] 27), (12, .own (rI .i64) st.2.2.2.1 true), (15, .own rR2 st.2.1 true), (16, .own rR8 st.2.2.1 true), (17, .own (rI .i64) st.2.2.2.2 true)], (vV4 0 1 2 3 g_ [(6, .sl rS x2.Roles), (7, .sl rR0 x2.Decls)]), 18⟩) (fun n st => z21_l2 N g_ x2 n st.1 st.2.1 st.2.2.1 st.2.2.2.1 st.2.2.2.2) (r := r) (fun _ => rfl) ?_ (fun ih => ?_)
  · intro n12 ih66
    rintro ⟨vb4_10_3_66, vb4_10_6_66, vb4_10_7_66, v5_66, v6_66⟩ h
    replace h : z21_l2 N g_ x2 (n12 + 1) vb4_10_3_66 vb4_10_6_66 vb4_10_7_66 v5_66 v6_66 = some r := h
    unfold z21_l2 at h
    refine WP.seq (WP.seq (WP.region (WPr.silx [] ⟨[(1, .B 4 0), (2, .B 5 0), (4, .B 10 0), (5, .S 12), (6, .S 17), (33, .O (decide (vb4_10_3_66 < (v6_66.length : Int))))], [(4, .box (cC4 0 1 2 3 g_) 27), (5, .box [.s (str []), .nil, .nil, .I (0 : Int), .I (0 : Int), .I (0 : Int), .nil, .nil] 27), (10, .box [.s x2.Name, .sl 6, .sl 7, .I vb4_10_3_66, .I x2.Start, .I x2.End, .sl 15, .sl 16] 27), (12, .own (rI .i64) v5_66 true), (15, .own rR2 vb4_10_6_66 true), (16, .own rR8 vb4_10_7_66 true), (17, .own (rI .i64) v6_66 true)], (vV4 0 1 2 3 g_ [(6, .sl rS x2.Roles), (7, .sl rR0 x2.Decls)]), 18⟩ htt 5 (by kernel_rfl) (WPr.nil (?_)))))
    rcases oc' h with ⟨hc, h⟩ | ⟨hc, h⟩
    · exact WP.condF hc rfl (WP.exit rfl (WP.sub [] (j1 (vb4_10_3_66, vb4_10_6_66, vb4_10_7_66, v5_66) h) rfl rfl rfl rfl))
    refine WP.condT hc rfl (WP.skip (WP.seq (WP.block (WP.seq (WP.region (WPr.silx [3, 4, 5, 6] ⟨[(1, .B 4 0), (2, .B 5 0), (4, .B 10 0), (5, .S 12), (6, .S 17), (38, .S 17), (40, .I vb4_10_3_66)], [(4, .box (cC4 0 1 2 3 g_) 27), (5, .box [.s (str []), .nil, .nil, .I (0 : Int), .I (0 : Int), .I (0 : Int), .nil, .nil] 27), (10, .box [.s x2.Name, .sl 6, .sl 7, .I vb4_10_3_66, .I x2.Start, .I x2.End, .sl 15, .sl 16] 27), (12, .own (rI .i64) v5_66 true), (15, .own rR2 vb4_10_6_66 true), (16, .own rR8 vb4_10_7_66 true), (17, .own (rI .i64) v6_66 true)], (vV4 0 1 2 3 g_ [(6, .sl rS x2.Roles), (7, .sl rR0 x2.Decls)]), 18⟩ htt 3 (by kernel_rfl) (?_)))))))
    obtain ⟨x4515, hx4515, h⟩ := ob h
    refine WPr.ixo htt hx4515 rfl rfl rfl rfl rfl rfl rfl rfl rfl (WPr.ldo (oI .i64) htt hx4515 rfl rfl rfl rfl rfl rfl rfl rfl rfl rfl (WPr.silx [] ⟨[(1, .B 4 0), (2, .B 5 0), (4, .B 10 0), (5, .S 12), (6, .S 17), (7, .B 19 0)], [(4, .box (cC4 0 1 2 3 g_) 27), (5, .box [.s (str []), .nil, .nil, .I (0 : Int), .I (0 : Int), .I (0 : Int), .nil, .nil] 27), (10, .box [.s x2.Name, .sl 6, .sl 7, .I vb4_10_3_66, .I x2.Start, .I x2.End, .sl 15, .sl 16] 27), (12, .own (rI .i64) v5_66 true), (15, .own rR2 vb4_10_6_66 true), (16, .own rR8 vb4_10_7_66 true), (17, .own (rI .i64) v6_66 true), (19, .box [.I x4515] 3)], (vV4 0 1 2 3 g_ [(6, .sl rS x2.Roles), (7, .sl rR0 x2.Decls)]), 20⟩ htt 2 (by kernel_rfl) (WPr.nil (WP.seq (WP.region (WPr.silx [3, 4] ⟨[(1, .B 4 0), (2, .B 5 0), (4, .B 10 0), (5, .S 12), (6, .S 17), (7, .B 19 0), (44, .S 3), (45, .c (.cl 60 [] [19]))], [(4, .box (cC4 0 1 2 3 g_) 27), (5, .box [.s (str []), .nil, .nil, .I (0 : Int), .I (0 : Int), .I (0 : Int), .nil, .nil] 27), (10, .box [.s x2.Name, .sl 6, .sl 7, .I vb4_10_3_66, .I x2.Start, .I x2.End, .sl 15, .sl 16] 27), (12, .own (rI .i64) v5_66 true), (15, .own rR2 vb4_10_6_66 true), (16, .own rR8 vb4_10_7_66 true), (17, .own (rI .i64) v6_66 true), (19, .box [.I x4515] 3)], (vV4 0 1 2 3 g_ [(6, .sl rS x2.Roles), (7, .sl rR0 x2.Decls)]), 20⟩ htt 3 (by kernel_rfl) (?_)))))))
    obtain ⟨x4516, hx4516, h⟩ := ob h
    refine WPr.call (z59_19_ct N g_.Timeouts x4515 _ hx4516) [(0, .sl 3), (1, .bp 19 0)] [] rfl rfl rfl rfl rfl rfl rfl rfl (.inl rfl) rfl (WPr.silx [] ⟨[(1, .B 4 0), (2, .B 5 0), (4, .B 10 0), (5, .S 12), (6, .S 17), (7, .B 19 0), (8, .I x4516)], [(4, .box (cC4 0 1 2 3 g_) 27), (5, .box [.s (str []), .nil, .nil, .I (0 : Int), .I (0 : Int), .I (0 : Int), .nil, .nil] 27), (10, .box [.s x2.Name, .sl 6, .sl 7, .I vb4_10_3_66, .I x2.Start, .I x2.End, .sl 15, .sl 16] 27), (12, .own (rI .i64) v5_66 true), (15, .own rR2 vb4_10_6_66 true), (16, .own rR8 vb4_10_7_66 true), (17, .own (rI .i64) v6_66 true), (19, .box [.I x4515] 3)], (vV4 0 1 2 3 g_ [(6, .sl rS x2.Roles), (7, .sl rR0 x2.Decls)]), 20⟩ htt 1 (by kernel_rfl) (WPr.nil (WP.seq (WP.region (WPr.sil htt 2 rfl (?_))))))
    obtain ⟨x4517, hx4517, h⟩ := ob h
    refine WPr.call (z18_ct N g_ x4515 _ hx4517) [(0, .sl 0), (1, .sl 1), (2, .sl 2), (3, .sl 3)] [] rfl rfl rfl rfl rfl rfl rfl rfl (.inl rfl) rfl (WPr.silx [] ⟨[(1, .B 4 0), (2, .B 5 0), (4, .B 10 0), (5, .S 12), (6, .S 17), (8, .I x4516), (49, .S 20), (50, .I (x4517.length : Int)), (51, .I (0 : Int))], [(4, .box (cC4 0 1 2 3 g_) 27), (5, .box [.s (str []), .nil, .nil, .I (0 : Int), .I (0 : Int), .I (0 : Int), .nil, .nil] 27), (10, .box [.s x2.Name, .sl 6, .sl 7, .I vb4_10_3_66, .I x2.Start, .I x2.End, .sl 15, .sl 16] 27), (12, .own (rI .i64) v5_66 true), (15, .own rR2 vb4_10_6_66 true), (16, .own rR8 vb4_10_7_66 true), (17, .own (rI .i64) v6_66 true), (20, .own (rI .i64) x4517 true)], (vV4 0 1 2 3 g_ [(6, .sl rS x2.Roles), (7, .sl rR0 x2.Decls)]), 21⟩ htt 2 (by kernel_rfl) (WPr.nil (?_)))
    refine WP.cut (σ := (List T2) × (List T8) × (List Int) × (List Int)) (fun st => ⟨[(1, .B 4 0), (2, .B 5 0), (4, .B 10 0), (5, .S 12), (6, .S 23)], [(4, .box (cC4 0 1 2 3 g_) 27), (5, .box [.s (str []), .nil, .nil, .I (0 : Int), .I (0 : Int), .I (0 : Int), .nil, .nil] 27), (10, .box [.s x2.Name, .sl 6, .sl 7, .I vb4_10_3_66, .I x2.Start, .I x2.End, .sl 21, .sl 22] 27), (12, .own (rI .i64) st.2.2.1 true), (21, .own rR2 st.1 true), (22, .own rR8 st.2.1 true), (23, .own (rI .i64) st.2.2.2 true)], (vV4 0 1 2 3 g_ [(6, .sl rS x2.Roles), (7, .sl rR0 x2.Decls)]), 24⟩) (fun st => z21_k3 vb4_10_3_66 (z21_l2 N g_ x2 n12) st.1 st.2.1 st.2.2.1 st.2.2.2 = some r) ?_ (fun j109 => ?_)
    · rintro ⟨vb4_10_6_109, vb4_10_7_109, v5_109, v6_109⟩ h
      replace h : z21_k3 vb4_10_3_66 (z21_l2 N g_ x2 n12) vb4_10_6_109 vb4_10_7_109 v5_109 v6_109 = some r := h
      unfold z21_k3 at h
      exact WP.inBlock (WP.region (WPr.silx [] ⟨[(1, .B 4 0), (2, .B 5 0), (4, .B 10 0), (5, .S 12), (6, .S 23)], [(4, .box (cC4 0 1 2 3 g_) 27), (5, .box [.s (str []), .nil, .nil, .I (0 : Int), .I (0 : Int), .I (0 : Int), .nil, .nil] 27), (10, .box [.s x2.Name, .sl 6, .sl 7, .I (w64 (vb4_10_3_66 + (1 : Int))), .I x2.Start, .I x2.End, .sl 21, .sl 22] 27), (12, .own (rI .i64) v5_109 true), (21, .own rR2 vb4_10_6_109 true), (22, .own rR8 vb4_10_7_109 true), (23, .own (rI .i64) v6_109 true)], (vV4 0 1 2 3 g_ [(6, .sl rS x2.Roles), (7, .sl rR0 x2.Decls)]), 24⟩ htt 5 (by kernel_rfl) (WPr.nil (WP.sub [(15, .sl 21), (16, .sl 22), (17, .sl 23)] (ih66 ((w64 (vb4_10_3_66 + (1 : Int))), vb4_10_6_109, vb4_10_7_109, v5_109, v6_109) h) rfl rfl rfl rfl))))
    refine WP.block (?_)
    refine WP.loopI (σ := (List T2) × (List T8) × (List Int) × (List Int) × Int) (fun st => ⟨[(1, .B 4 0), (2, .B 5 0), (4, .B 10 0), (5, .S 12), (6, .S 23), (8, .I x4516), (49, .S 20), (50, .I (x4517.length : Int)), (51, .I st.2.2.2.2)], [(4, .box (cC4 0 1 2 3 g_) 27), (5, .box [.s (str []), .nil, .nil, .I (0 : Int), .I (0 : Int), .I (0 : Int), .nil, .nil] 27), (10, .box [.s x2.Name, .sl 6, .sl 7, .I vb4_10_3_66, .I x2.Start, .I x2.End, .sl 21, .sl 22] 27), (12, .own (rI .i64) st.2.2.1 true), (20, .own (rI .i64) x4517 true), (21, .own rR2 st.1 true), (22, .own rR8 st.2.1 true), (23, .own (rI .i64) st.2.2.2.1 true)], (vV4 0 1 2 3 g_ [(6, .sl rS x2.Roles), (7, .sl rR0 x2.Decls)]), 24⟩) (fun n st => z21_l4 g_ vb4_10_3_66 (z21_l2 N g_ x2 n12) x4516 x4517 n st.1 st.2.1 st.2.2.1 st.2.2.2.1 st.2.2.2.2) (r := r) (fun _ => rfl) ?_ (fun ih => ?_)
    · intro n14 ih120
      rintro ⟨vb4_10_6_120, vb4_10_7_120, v5_120, v6_120, v51_120⟩ h
      replace h : z21_l4 g_ vb4_10_3_66 (z21_l2 N g_ x2 n12) x4516 x4517 (n14 + 1) vb4_10_6_120 vb4_10_7_120 v5_120 v6_120 v51_120 = some r := h
      unfold z21_l4 at h
      refine WP.seq (WP.region (WPr.sil htt 1 rfl (WPr.nil (WP.seq (?_)))))
      rcases oc' h with ⟨hc, h⟩ | ⟨hc, h⟩
      · exact WP.condF hc rfl (WP.exit rfl (WP.sub [] (j109 (vb4_10_6_120, vb4_10_7_120, v5_120, v6_120) h) rfl rfl rfl rfl))
      refine WP.condT hc rfl (WP.skip (WP.seq (WP.block (WP.seq (WP.region (?_))))))
      obtain ⟨x5070, hx5070, h⟩ := ob h
      refine WPr.ixo htt hx5070 rfl rfl rfl rfl rfl rfl rfl rfl rfl (WPr.ldo (oI .i64) htt hx5070 rfl rfl rfl rfl rfl rfl rfl rfl rfl rfl (WPr.silx [] ⟨[(1, .B 4 0), (2, .B 5 0), (4, .B 10 0), (5, .S 12), (6, .S 23), (8, .I x4516), (10, .I x5070), (49, .S 20), (50, .I (x4517.length : Int)), (51, .I v51_120)], [(4, .box (cC4 0 1 2 3 g_) 27), (5, .box [.s (str []), .nil, .nil, .I (0 : Int), .I (0 : Int), .I (0 : Int), .nil, .nil] 27), (10, .box [.s x2.Name, .sl 6, .sl 7, .I vb4_10_3_66, .I x2.Start, .I x2.End, .sl 21, .sl 22] 27), (12, .own (rI .i64) v5_120 true), (20, .own (rI .i64) x4517 true), (21, .own rR2 vb4_10_6_120 true), (22, .own rR8 vb4_10_7_120 true), (23, .own (rI .i64) v6_120 true)], (vV4 0 1 2 3 g_ [(6, .sl rS x2.Roles), (7, .sl rR0 x2.Decls)]), 25⟩ htt 1 (by kernel_rfl) (WPr.nil (WP.seq (WP.region (WPr.silx [3, 4, 5, 6] ⟨[(1, .B 4 0), (2, .B 5 0), (4, .B 10 0), (5, .S 12), (6, .S 23), (8, .I x4516), (10, .I x5070), (49, .S 20), (50, .I (x4517.length : Int)), (51, .I v51_120), (56, .S 2), (57, .I x5070)], [(4, .box (cC4 0 1 2 3 g_) 27), (5, .box [.s (str []), .nil, .nil, .I (0 : Int), .I (0 : Int), .I (0 : Int), .nil, .nil] 27), (10, .box [.s x2.Name, .sl 6, .sl 7, .I vb4_10_3_66, .I x2.Start, .I x2.End, .sl 21, .sl 22] 27), (12, .own (rI .i64) v5_120 true), (20, .own (rI .i64) x4517 true), (21, .own rR2 vb4_10_6_120 true), (22, .own rR8 vb4_10_7_120 true), (23, .own (rI .i64) v6_120 true)], (vV4 0 1 2 3 g_ [(6, .sl rS x2.Roles), (7, .sl rR0 x2.Decls)]), 25⟩ htt 3 (by kernel_rfl) (?_)))))))
      obtain ⟨x5071, hx5071, h⟩ := ob h
      refine WPr.ix oO2 htt hx5071 rfl rfl rfl rfl rfl rfl rfl rfl rfl (WPr.silx [] ⟨[(1, .B 4 0), (2, .B 5 0), (4, .B 10 0), (5, .S 12), (6, .S 23), (8, .I x4516), (10, .I x5070), (11, .B 26 0), (49, .S 20), (50, .I (x4517.length : Int)), (51, .I v51_120)], [(4, .box (cC4 0 1 2 3 g_) 27), (5, .box [.s (str []), .nil, .nil, .I (0 : Int), .I (0 : Int), .I (0 : Int), .nil, .nil] 27), (10, .box [.s x2.Name, .sl 6, .sl 7, .I vb4_10_3_66, .I x2.Start, .I x2.End, .sl 21, .sl 22] 27), (12, .own (rI .i64) v5_120 true), (20, .own (rI .i64) x4517 true), (21, .own rR2 vb4_10_6_120 true), (22, .own rR8 vb4_10_7_120 true), (23, .own (rI .i64) v6_120 true), (26, .box (cC2 x5071) 43)], (vV4 0 1 2 3 g_ [(6, .sl rS x2.Roles), (7, .sl rR0 x2.Decls)]), 27⟩ htt 3 (by kernel_rfl) (WPr.nil (WP.seq (WP.seq (WP.region (WPr.silx [3, 4, 5] ⟨[(1, .B 4 0), (2, .B 5 0), (4, .B 10 0), (5, .S 12), (6, .S 23), (8, .I x4516), (10, .I x5070), (11, .B 26 0), (49, .S 20), (50, .I (x4517.length : Int)), (51, .I v51_120), (60, .S 12), (62, .I x5071.To)], [(4, .box (cC4 0 1 2 3 g_) 27), (5, .box [.s (str []), .nil, .nil, .I (0 : Int), .I (0 : Int), .I (0 : Int), .nil, .nil] 27), (10, .box [.s x2.Name, .sl 6, .sl 7, .I vb4_10_3_66, .I x2.Start, .I x2.End, .sl 21, .sl 22] 27), (12, .own (rI .i64) v5_120 true), (20, .own (rI .i64) x4517 true), (21, .own rR2 vb4_10_6_120 true), (22, .own rR8 vb4_10_7_120 true), (23, .own (rI .i64) v6_120 true), (26, .box (cC2 x5071) 43)], (vV4 0 1 2 3 g_ [(6, .sl rS x2.Roles), (7, .sl rR0 x2.Decls)]), 27⟩ htt 3 (by kernel_rfl) (?_)))))))
      obtain ⟨x5072, hx5072, h⟩ := ob h
      refine WPr.ixo htt hx5072 rfl rfl rfl rfl rfl rfl rfl rfl rfl (WPr.ldo (oI .i64) htt hx5072 rfl rfl rfl rfl rfl rfl rfl rfl rfl rfl (WPr.silx [] ⟨[(1, .B 4 0), (2, .B 5 0), (4, .B 10 0), (5, .S 12), (6, .S 23), (8, .I x4516), (10, .I x5070), (11, .B 26 0), (49, .S 20), (50, .I (x4517.length : Int)), (51, .I v51_120), (65, .O (decide (x5072 < (0 : Int))))], [(4, .box (cC4 0 1 2 3 g_) 27), (5, .box [.s (str []), .nil, .nil, .I (0 : Int), .I (0 : Int), .I (0 : Int), .nil, .nil] 27), (10, .box [.s x2.Name, .sl 6, .sl 7, .I vb4_10_3_66, .I x2.Start, .I x2.End, .sl 21, .sl 22] 27), (12, .own (rI .i64) v5_120 true), (20, .own (rI .i64) x4517 true), (21, .own rR2 vb4_10_6_120 true), (22, .own rR8 vb4_10_7_120 true), (23, .own (rI .i64) v6_120 true), (26, .box (cC2 x5071) 43)], (vV4 0 1 2 3 g_ [(6, .sl rS x2.Roles), (7, .sl rR0 x2.Decls)]), 28⟩ htt 1 (by kernel_rfl) (WPr.nil (?_))))
      refine WP.cut (σ := (List Int) × (List Int)) (fun st => ⟨[(1, .B 4 0), (2, .B 5 0), (4, .B 10 0), (5, .S 12), (6, .S 28), (8, .I x4516), (10, .I x5070), (11, .B 26 0), (49, .S 20), (50, .I (x4517.length : Int)), (51, .I v51_120)], [(4, .box (cC4 0 1 2 3 g_) 27), (5, .box [.s (str []), .nil, .nil, .I (0 : Int), .I (0 : Int), .I (0 : Int), .nil, .nil] 27), (10, .box [.s x2.Name, .sl 6, .sl 7, .I vb4_10_3_66, .I x2.Start, .I x2.End, .sl 21, .sl 22] 27), (12, .own (rI .i64) st.1 true), (20, .own (rI .i64) x4517 true), (21, .own rR2 vb4_10_6_120 true), (22, .own rR8 vb4_10_7_120 true), (26, .box (cC2 x5071) 43), (28, .own (rI .i64) st.2 true)], (vV4 0 1 2 3 g_ [(6, .sl rS x2.Roles), (7, .sl rR0 x2.Decls)]), 29⟩) (fun st => z21_k7 g_ vb4_10_3_66 x4516 vb4_10_6_120 vb4_10_7_120 v51_120 (z21_l4 g_ vb4_10_3_66 (z21_l2 N g_ x2 n12) x4516 x4517 n14) x5070 x5071 st.1 st.2 = some r) ?_ (fun j127 => ?_)
      · rintro ⟨v5_127, v6_127⟩ h
        replace h : z21_k7 g_ vb4_10_3_66 x4516 vb4_10_6_120 vb4_10_7_120 v51_120 (z21_l4 g_ vb4_10_3_66 (z21_l2 N g_ x2 n12) x4516 x4517 n14) x5070 x5071 v5_127 v6_127 = some r := h
        unfold z21_k7 at h
        refine WP.seq (WP.seq (WP.region (WPr.silx (rg 3 9) ⟨[(1, .B 4 0), (2, .B 5 0), (4, .B 10 0), (5, .S 12), (6, .S 28), (8, .I x4516), (10, .I x5070), (11, .B 26 0), (49, .S 20), (50, .I (x4517.length : Int)), (51, .I v51_120), (79, .O (decide (x4516 ≥ (0 : Int))))], [(4, .box (cC4 0 1 2 3 g_) 27), (5, .box [.s (str []), .nil, .nil, .I (0 : Int), .I (0 : Int), .I (0 : Int), .nil, .nil] 27), (10, .box [.s x2.Name, .sl 6, .sl 7, .I vb4_10_3_66, .I x2.Start, .I x2.End, .sl 21, .sl 22] 27), (12, .own (rI .i64) v5_127 true), (20, .own (rI .i64) x4517 true), (21, .own rR2 vb4_10_6_120 true), (22, .own rR8 vb4_10_7_120 true), (26, .box (cC2 x5071) 43), (28, .own (rI .i64) v6_127 true)], (vV4 0 1 2 3 g_ [(6, .sl rS x2.Roles), (7, .sl rR0 x2.Decls)]), 29⟩ htt 3 (by kernel_rfl) (?_))))
        refine WP.cutr (σ := Bool) (fun st => ⟨[(1, .B 4 0), (2, .B 5 0), (4, .B 10 0), (5, .S 12), (6, .S 28), (8, .I x4516), (11, .B 26 0), (49, .S 20), (50, .I (x4517.length : Int)), (51, .I v51_120), (88, .O st)], [(4, .box (cC4 0 1 2 3 g_) 27), (5, .box [.s (str []), .nil, .nil, .I (0 : Int), .I (0 : Int), .I (0 : Int), .nil, .nil] 27), (10, .box [.s x2.Name, .sl 6, .sl 7, .I vb4_10_3_66, .I x2.Start, .I x2.End, .sl 21, .sl 22] 27), (12, .own (rI .i64) v5_127 true), (20, .own (rI .i64) x4517 true), (21, .own rR2 vb4_10_6_120 true), (22, .own rR8 vb4_10_7_120 true), (26, .box (cC2 x5071) 43), (28, .own (rI .i64) v6_127 true)], (vV4 0 1 2 3 g_ [(6, .sl rS x2.Roles), (7, .sl rR0 x2.Decls)]), 29⟩) (fun st => z21_k6 g_ vb4_10_3_66 x4516 vb4_10_6_120 vb4_10_7_120 v51_120 (z21_l4 g_ vb4_10_3_66 (z21_l2 N g_ x2 n12) x4516 x4517 n14) x5071 v5_127 v6_127 st = some r) ?_ (fun j128 => ?_)
        · intro v88_128 h
          replace h : z21_k6 g_ vb4_10_3_66 x4516 vb4_10_6_120 vb4_10_7_120 v51_120 (z21_l4 g_ vb4_10_3_66 (z21_l2 N g_ x2 n12) x4516 x4517 n14) x5071 v5_127 v6_127 v88_128 = some r := h
          unfold z21_k6 at h
          refine WP.cut (σ := (List T8)) (fun st => ⟨[(1, .B 4 0), (2, .B 5 0), (4, .B 10 0), (5, .S 12), (6, .S 28), (8, .I x4516), (11, .B 26 0), (49, .S 20), (50, .I (x4517.length : Int)), (51, .I v51_120)], [(4, .box (cC4 0 1 2 3 g_) 27), (5, .box [.s (str []), .nil, .nil, .I (0 : Int), .I (0 : Int), .I (0 : Int), .nil, .nil] 27), (10, .box [.s x2.Name, .sl 6, .sl 7, .I vb4_10_3_66, .I x2.Start, .I x2.End, .sl 21, .sl 29] 27), (12, .own (rI .i64) v5_127 true), (20, .own (rI .i64) x4517 true), (21, .own rR2 vb4_10_6_120 true), (26, .box (cC2 x5071) 43), (28, .own (rI .i64) v6_127 true), (29, .own rR8 st true)], (vV4 0 1 2 3 g_ [(6, .sl rS x2.Roles), (7, .sl rR0 x2.Decls)]), 30⟩) (fun st => z21_k5 vb4_10_3_66 vb4_10_6_120 v51_120 (z21_l4 g_ vb4_10_3_66 (z21_l2 N g_ x2 n12) x4516 x4517 n14) x5071 v5_127 v6_127 st = some r) ?_ (fun j129 => ?_)
          · intro vb4_10_7_129 h
            replace h : z21_k5 vb4_10_3_66 vb4_10_6_120 v51_120 (z21_l4 g_ vb4_10_3_66 (z21_l2 N g_ x2 n12) x4516 x4517 n14) x5071 v5_127 v6_127 vb4_10_7_129 = some r := h
            unfold z21_k5 at h
            refine WP.nm (fun A221 tA221 fA221 => ?_)
            have st5096 : A221 0 ⟨[(4, .B 10 0)], [], [], [], 30, [(106, .B 10 6)], [], [], 30⟩ := tA221 _ _ (LS.sil htt rfl rfl rfl rfl rfl rfl)
            have st5097 : A221 1 ⟨[(106, .B 10 6)], [(6, .sl rS x2.Roles), (7, .sl rR0 x2.Decls)], [], [(10, .box [.s x2.Name, .sl 6, .sl 7, .I vb4_10_3_66, .I x2.Start, .I x2.End, .sl 21, .sl 29] 27)], 30, [(107, .S 21)], [], [], 30⟩ := tA221 _ _ (LS.sil htt rfl rfl rfl rfl rfl rfl)
            have st5098 : A221 2 ⟨[(4, .B 10 0)], [], [], [], 30, [(108, .B 10 3)], [], [], 30⟩ := tA221 _ _ (LS.sil htt rfl rfl rfl rfl rfl rfl)
            have st5099 : A221 3 ⟨[(108, .B 10 3)], [(6, .sl rS x2.Roles), (7, .sl rR0 x2.Decls)], [], [(10, .box [.s x2.Name, .sl 6, .sl 7, .I vb4_10_3_66, .I x2.Start, .I x2.End, .sl 21, .sl 29] 27)], 30, [(109, .I vb4_10_3_66)], [], [], 30⟩ := tA221 _ _ (LS.sil htt rfl rfl rfl rfl rfl rfl)
            have st5100 : A221 4 ⟨[(11, .B 26 0)], [], [], [], 30, [(110, .B 26 1)], [], [], 30⟩ := tA221 _ _ (LS.sil htt rfl rfl rfl rfl rfl rfl)
            have st5101 : A221 5 ⟨[(110, .B 26 1)], [], [], [(26, .box (cC2 x5071) 43)], 30, [(111, .a (cC6 x5071.Act))], [], [], 30⟩ := tA221 _ _ (LS.sil htt rfl rfl rfl rfl rfl rfl)
            have st5102 : A221 6 ⟨[(5, .S 12)], [], [], [], 30, [(112, .S 12)], [], [], 30⟩ := tA221 _ _ (LS.sil htt rfl rfl rfl rfl rfl rfl)
            have st5103 : A221 7 ⟨[(11, .B 26 0)], [], [], [], 30, [(113, .B 26 4)], [], [], 30⟩ := tA221 _ _ (LS.sil htt rfl rfl rfl rfl rfl rfl)
            have st5104 : A221 8 ⟨[(113, .B 26 4)], [], [], [(26, .box (cC2 x5071) 43)], 30, [(114, .I x5071.To)], [], [], 30⟩ := tA221 _ _ (LS.sil htt rfl rfl rfl rfl rfl rfl)
            obtain ⟨x5105, hx5105, h⟩ := ob h
            have st5106 : A221 9 ⟨[(112, .S 12), (114, .I x5071.To)], [], [], [(12, .own (rI .i64) v5_127 true)], 30, [(115, .P 30 0)], [(30, .el 12 ((x5071.To).toNat * ((rI .i64)).sz))], [], 31⟩ := tA221 _ _ (LS.of rfl rfl rfl (fun _ _ _ _ _ _ _ k => WPr.ixo htt hx5105 rfl rfl rfl rfl rfl rfl rfl rfl rfl (k)) rfl)
            have st5107 : A221 10 ⟨[(115, .P 30 0)], [(30, .el 12 ((x5071.To).toNat * ((rI .i64)).sz))], [], [(12, .own (rI .i64) v5_127 true)], 31, [(116, .I x5105)], [], [], 31⟩ := tA221 _ _ (LS.of rfl rfl rfl (fun _ _ _ _ _ _ _ k => WPr.ldo (oI .i64) htt hx5105 rfl rfl rfl rfl rfl rfl rfl rfl rfl rfl (k)) rfl)
            have st5108 : A221 11 ⟨[(11, .B 26 0)], [], [], [], 31, [(117, .B 26 5)], [], [], 31⟩ := tA221 _ _ (LS.sil htt rfl rfl rfl rfl rfl rfl)
            have st5109 : A221 12 ⟨[(117, .B 26 5)], [], [], [(26, .box (cC2 x5071) 43)], 31, [(118, .O x5071.Again)], [], [], 31⟩ := tA221 _ _ (LS.sil htt rfl rfl rfl rfl rfl rfl)
            have st5110 : A221 13 ⟨[(109, .I vb4_10_3_66), (111, .a (cC6 x5071.Act)), (116, .I x5105), (118, .O x5071.Again)], [], [], [], 31, [(119, .a [.I vb4_10_3_66, .I x5071.Act.From, .I x5071.Act.To, .I x5071.Act.Label, .I x5105, .b x5071.Again])], [], [], 31⟩ := tA221 _ _ (LS.sil htt rfl rfl rfl rfl rfl rfl)
            have st5111 : A221 14 ⟨[(119, .a [.I vb4_10_3_66, .I x5071.Act.From, .I x5071.Act.To, .I x5071.Act.Label, .I x5105, .b x5071.Again])], [], [], [], 31, [(120, .S 31)], [], [(31, .own rR2 ([(⟨vb4_10_3_66, x5071.Act, x5105, x5071.Again⟩ : T2)] : List T2) true)], 32⟩ := tA221 _ _ (LS.of rfl rfl rfl (fun _ _ _ _ _ _ _ k => WPr.bs (cs := [.I vb4_10_3_66, .I x5071.Act.From, .I x5071.Act.To, .I x5071.Act.Label, .I x5105, .b x5071.Again]) oO2 htt ([(⟨vb4_10_3_66, x5071.Act, x5105, x5071.Again⟩ : T2)] : List T2) rfl rfl rfl rfl rfl rfl (by kernel_rfl) (by exact (an (an rfl (an (an rfl (an rfl rfl)) (an rfl rfl))) rfl)) rfl (k)) rfl)
            obtain ⟨x5112, hx5112, h⟩ := ob h
            have st5113 : A221 15 ⟨[(107, .S 21), (120, .S 31)], [], [(21, .own rR2 vb4_10_6_120 true)], [(31, .own rR2 ([(⟨vb4_10_3_66, x5071.Act, x5105, x5071.Again⟩ : T2)] : List T2) true)], 32, [(121, .S 32)], [], [(21, .gone), (32, .own rR2 x5112 true)], 33⟩ := tA221 _ _ (LS.of rfl rfl rfl (fun _ _ _ _ _ _ _ k => WPr.app htt hx5112 (by exact (srcO rfl)) rfl rfl rfl rfl rfl rfl rfl rfl rfl rfl (k)) rfl)
            have st5114 : A221 16 ⟨[(4, .B 10 0)], [], [], [], 33, [(122, .B 10 6)], [], [], 33⟩ := tA221 _ _ (LS.sil htt rfl rfl rfl rfl rfl rfl)
            have st5115 : A221 17 ⟨[(121, .S 32), (122, .B 10 6)], [(6, .sl rS x2.Roles), (7, .sl rR0 x2.Decls)], [(10, .box [.s x2.Name, .sl 6, .sl 7, .I vb4_10_3_66, .I x2.Start, .I x2.End, .sl 21, .sl 29] 27)], [(32, .own rR2 x5112 true)], 33, [], [], [(10, .box [.s x2.Name, .sl 6, .sl 7, .I vb4_10_3_66, .I x2.Start, .I x2.End, .sl 32, .sl 29] 27)], 33⟩ := tA221 _ _ (LS.sil htt rfl rfl rfl rfl rfl rfl)
            exact WP.regionD (t := ⟨[(1, .B 4 0), (2, .B 5 0), (4, .B 10 0), (5, .S 12), (6, .S 28), (8, .I x4516), (49, .S 20), (50, .I (x4517.length : Int)), (51, .I v51_120)], [(4, .box (cC4 0 1 2 3 g_) 27), (5, .box [.s (str []), .nil, .nil, .I (0 : Int), .I (0 : Int), .I (0 : Int), .nil, .nil] 27), (10, .box [.s x2.Name, .sl 6, .sl 7, .I vb4_10_3_66, .I x2.Start, .I x2.End, .sl 32, .sl 29] 27), (12, .own (rI .i64) v5_127 true), (20, .own (rI .i64) x4517 true), (28, .own (rI .i64) v6_127 true), (29, .own rR8 vb4_10_7_129 true), (32, .own rR2 x5112 true)], (vV4 0 1 2 3 g_ [(6, .sl rS x2.Roles), (7, .sl rR0 x2.Decls)]), 33⟩) [0, 1, 0, 4, 0, 16, 0, 0, 128, 448, 960, 0, 2048, 8188, 16380, 32767, 65535, 131071] (.cons (fA221 _ _ st5096) (.cons (fA221 _ _ st5097) (.cons (fA221 _ _ st5098) (.cons (fA221 _ _ st5099) (.cons (fA221 _ _ st5100) (.cons (fA221 _ _ st5101) (.cons (fA221 _ _ st5102) (.cons (fA221 _ _ st5103) (.cons (fA221 _ _ st5104) (.cons (fA221 _ _ st5106) (.cons (fA221 _ _ st5107) (.cons (fA221 _ _ st5108) (.cons (fA221 _ _ st5109) (.cons (fA221 _ _ st5110) (.cons (fA221 _ _ st5111) (.cons (fA221 _ _ st5113) (.cons (fA221 _ _ st5114) (.cons (fA221 _ _ st5115) .nil)))))))))))))))))) (by kernel_rfl) (by kernel_rfl) (by kernel_rfl) (by kernel_rfl) (WP.inBlock (WP.region (WPr.sil htt 2 rfl (WPr.nil (WP.sub [(21, .sl 32), (22, .sl 29), (23, .sl 28)] (ih120 (x5112, vb4_10_7_129, v5_127, v6_127, (w64 (v51_120 + (1 : Int)))) h) rfl rfl rfl rfl)))))
          rcases oc' h with ⟨hc, h⟩ | ⟨hc, h⟩
          · exact WP.condF hc rfl (WP.skip (WP.sub [(29, .sl 22)] (j129 vb4_10_7_120 h) rfl rfl rfl rfl))
          refine WP.condT hc rfl (WP.nm (fun A222 tA222 fA222 => ?_))
          have st5116 : A222 0 ⟨[(4, .B 10 0)], [], [], [], 29, [(89, .B 10 7)], [], [], 29⟩ := tA222 _ _ (LS.sil htt rfl rfl rfl rfl rfl rfl)
          have st5117 : A222 1 ⟨[(89, .B 10 7)], [(6, .sl rS x2.Roles), (7, .sl rR0 x2.Decls)], [], [(10, .box [.s x2.Name, .sl 6, .sl 7, .I vb4_10_3_66, .I x2.Start, .I x2.End, .sl 21, .sl 22] 27)], 29, [(90, .S 22)], [], [], 29⟩ := tA222 _ _ (LS.sil htt rfl rfl rfl rfl rfl rfl)
          have st5118 : A222 2 ⟨[(4, .B 10 0)], [], [], [], 29, [(91, .B 10 3)], [], [], 29⟩ := tA222 _ _ (LS.sil htt rfl rfl rfl rfl rfl rfl)
          have st5119 : A222 3 ⟨[(91, .B 10 3)], [(6, .sl rS x2.Roles), (7, .sl rR0 x2.Decls)], [], [(10, .box [.s x2.Name, .sl 6, .sl 7, .I vb4_10_3_66, .I x2.Start, .I x2.End, .sl 21, .sl 22] 27)], 29, [(92, .I vb4_10_3_66)], [], [], 29⟩ := tA222 _ _ (LS.sil htt rfl rfl rfl rfl rfl rfl)
          have st5120 : A222 4 ⟨[(1, .B 4 0)], [], [], [], 29, [(93, .B 4 7)], [], [], 29⟩ := tA222 _ _ (LS.sil htt rfl rfl rfl rfl rfl rfl)
          have st5121 : A222 5 ⟨[(93, .B 4 7)], (vV4 0 1 2 3 g_ []), [], [(4, .box (cC4 0 1 2 3 g_) 27)], 29, [(94, .S 3)], [], [], 29⟩ := tA222 _ _ (LS.sil htt rfl rfl rfl rfl rfl rfl)
          have st5122 : A222 6 ⟨[(8, .I x4516)], [], [], [], 29, [(95, .I x4516)], [], [], 29⟩ := tA222 _ _ (LS.sil htt rfl rfl rfl rfl rfl rfl)
          obtain ⟨x5123, hx5123, h⟩ := ob h
          have st5124 : A222 7 ⟨[(94, .S 3), (95, .I x4516)], [(3, .sl rR8 g_.Timeouts)], [], [], 29, [(96, .P 29 0)], [(29, .pl (cC8 x5123))], [], 30⟩ := tA222 _ _ (LS.of rfl rfl rfl (fun _ _ _ _ _ _ _ k => WPr.ix oO8 htt hx5123 rfl rfl rfl rfl rfl rfl rfl rfl rfl (k)) rfl)
          have st5125 : A222 8 ⟨[(96, .P 29 0)], [(29, .pl (cC8 x5123))], [], [], 30, [(97, .P 29 1)], [], [], 30⟩ := tA222 _ _ (LS.sil htt rfl rfl rfl rfl rfl rfl)
          have st5126 : A222 9 ⟨[(97, .P 29 1)], [(29, .pl (cC8 x5123))], [], [], 30, [(98, .I x5123.Ticks)], [], [], 30⟩ := tA222 _ _ (LS.sil htt rfl rfl rfl rfl rfl rfl)
          have st5127 : A222 10 ⟨[(4, .B 10 0)], [], [], [], 30, [(99, .B 10 6)], [], [], 30⟩ := tA222 _ _ (LS.sil htt rfl rfl rfl rfl rfl rfl)
          have st5128 : A222 11 ⟨[(99, .B 10 6)], [(6, .sl rS x2.Roles), (7, .sl rR0 x2.Decls)], [], [(10, .box [.s x2.Name, .sl 6, .sl 7, .I vb4_10_3_66, .I x2.Start, .I x2.End, .sl 21, .sl 22] 27)], 30, [(100, .S 21)], [], [], 30⟩ := tA222 _ _ (LS.sil htt rfl rfl rfl rfl rfl rfl)
          have st5129 : A222 12 ⟨[(100, .S 21)], [], [], [(21, .own rR2 vb4_10_6_120 true)], 30, [(101, .I (vb4_10_6_120.length : Int))], [], [], 30⟩ := tA222 _ _ (LS.sil htt rfl rfl rfl rfl rfl rfl)
          have st5130 : A222 13 ⟨[(92, .I vb4_10_3_66), (98, .I x5123.Ticks), (101, .I (vb4_10_6_120.length : Int))], [], [], [], 30, [(102, .a [.I vb4_10_3_66, .I x5123.Ticks, .I (vb4_10_6_120.length : Int)])], [], [], 30⟩ := tA222 _ _ (LS.sil htt rfl rfl rfl rfl rfl rfl)
          have st5131 : A222 14 ⟨[(102, .a [.I vb4_10_3_66, .I x5123.Ticks, .I (vb4_10_6_120.length : Int)])], [], [], [], 30, [(103, .S 30)], [], [(30, .own rR8 ([(⟨vb4_10_3_66, x5123.Ticks, (vb4_10_6_120.length : Int)⟩ : T8)] : List T8) true)], 31⟩ := tA222 _ _ (LS.of rfl rfl rfl (fun _ _ _ _ _ _ _ k => WPr.bs (cs := [.I vb4_10_3_66, .I x5123.Ticks, .I (vb4_10_6_120.length : Int)]) oO8 htt ([(⟨vb4_10_3_66, x5123.Ticks, (vb4_10_6_120.length : Int)⟩ : T8)] : List T8) rfl rfl rfl rfl rfl rfl (by kernel_rfl) (by exact (an (an rfl (an rfl rfl)) rfl)) rfl (k)) rfl)
          obtain ⟨x5132, hx5132, h⟩ := ob h
          have st5133 : A222 15 ⟨[(90, .S 22), (103, .S 30)], [], [(22, .own rR8 vb4_10_7_120 true)], [(30, .own rR8 ([(⟨vb4_10_3_66, x5123.Ticks, (vb4_10_6_120.length : Int)⟩ : T8)] : List T8) true)], 31, [(104, .S 31)], [], [(22, .gone), (31, .own rR8 x5132 true)], 32⟩ := tA222 _ _ (LS.of rfl rfl rfl (fun _ _ _ _ _ _ _ k => WPr.app htt hx5132 (by exact (srcO rfl)) rfl rfl rfl rfl rfl rfl rfl rfl rfl rfl (k)) rfl)
          have st5134 : A222 16 ⟨[(4, .B 10 0)], [], [], [], 32, [(105, .B 10 7)], [], [], 32⟩ := tA222 _ _ (LS.sil htt rfl rfl rfl rfl rfl rfl)
          have st5135 : A222 17 ⟨[(104, .S 31), (105, .B 10 7)], [(6, .sl rS x2.Roles), (7, .sl rR0 x2.Decls)], [(10, .box [.s x2.Name, .sl 6, .sl 7, .I vb4_10_3_66, .I x2.Start, .I x2.End, .sl 21, .sl 22] 27)], [(31, .own rR8 x5132 true)], 32, [], [], [(10, .box [.s x2.Name, .sl 6, .sl 7, .I vb4_10_3_66, .I x2.Start, .I x2.End, .sl 21, .sl 31] 27)], 32⟩ := tA222 _ _ (LS.sil htt rfl rfl rfl rfl rfl rfl)
          exact WP.regionD (t := ⟨[(1, .B 4 0), (2, .B 5 0), (4, .B 10 0), (5, .S 12), (6, .S 28), (8, .I x4516), (11, .B 26 0), (49, .S 20), (50, .I (x4517.length : Int)), (51, .I v51_120)], [(4, .box (cC4 0 1 2 3 g_) 27), (5, .box [.s (str []), .nil, .nil, .I (0 : Int), .I (0 : Int), .I (0 : Int), .nil, .nil] 27), (10, .box [.s x2.Name, .sl 6, .sl 7, .I vb4_10_3_66, .I x2.Start, .I x2.End, .sl 21, .sl 31] 27), (12, .own (rI .i64) v5_127 true), (20, .own (rI .i64) x4517 true), (21, .own rR2 vb4_10_6_120 true), (26, .box (cC2 x5071) 43), (28, .own (rI .i64) v6_127 true), (31, .own rR8 x5132 true)], (vV4 0 1 2 3 g_ [(6, .sl rS x2.Roles), (7, .sl rR0 x2.Decls)]), 32⟩) [0, 1, 0, 4, 0, 16, 0, 112, 240, 496, 0, 1024, 3072, 8188, 16380, 32767, 65535, 131071] (.cons (fA222 _ _ st5116) (.cons (fA222 _ _ st5117) (.cons (fA222 _ _ st5118) (.cons (fA222 _ _ st5119) (.cons (fA222 _ _ st5120) (.cons (fA222 _ _ st5121) (.cons (fA222 _ _ st5122) (.cons (fA222 _ _ st5124) (.cons (fA222 _ _ st5125) (.cons (fA222 _ _ st5126) (.cons (fA222 _ _ st5127) (.cons (fA222 _ _ st5128) (.cons (fA222 _ _ st5129) (.cons (fA222 _ _ st5130) (.cons (fA222 _ _ st5131) (.cons (fA222 _ _ st5133) (.cons (fA222 _ _ st5134) (.cons (fA222 _ _ st5135) .nil)))))))))))))))))) (by kernel_rfl) (by kernel_rfl) (by kernel_rfl) (by kernel_rfl) (WP.sub [(29, .sl 31)] (j129 x5132 h) rfl rfl rfl rfl)
        rcases oc' h with ⟨hc, h⟩ | ⟨hc, h⟩
        · exact WPr.kb 79 hc rfl (WPr.silx [] ⟨[(1, .B 4 0), (2, .B 5 0), (4, .B 10 0), (5, .S 12), (6, .S 28), (8, .I x4516), (11, .B 26 0), (49, .S 20), (50, .I (x4517.length : Int)), (51, .I v51_120), (88, .O false)], [(4, .box (cC4 0 1 2 3 g_) 27), (5, .box [.s (str []), .nil, .nil, .I (0 : Int), .I (0 : Int), .I (0 : Int), .nil, .nil] 27), (10, .box [.s x2.Name, .sl 6, .sl 7, .I vb4_10_3_66, .I x2.Start, .I x2.End, .sl 21, .sl 22] 27), (12, .own (rI .i64) v5_127 true), (20, .own (rI .i64) x4517 true), (21, .own rR2 vb4_10_6_120 true), (22, .own rR8 vb4_10_7_120 true), (26, .box (cC2 x5071) 43), (28, .own (rI .i64) v6_127 true)], (vV4 0 1 2 3 g_ [(6, .sl rS x2.Roles), (7, .sl rR0 x2.Decls)]), 29⟩ htt 9 (by kernel_rfl) (WPr.nil (WP.sub [] (j128 false h) rfl rfl rfl rfl)))
        refine WPr.kb 79 hc rfl (WPr.silx (rg 6 6) ⟨[(1, .B 4 0), (2, .B 5 0), (4, .B 10 0), (5, .S 12), (6, .S 28), (8, .I x4516), (10, .I x5070), (11, .B 26 0), (49, .S 20), (50, .I (x4517.length : Int)), (51, .I v51_120), (79, .O true), (81, .S 3), (82, .I x4516)], [(4, .box (cC4 0 1 2 3 g_) 27), (5, .box [.s (str []), .nil, .nil, .I (0 : Int), .I (0 : Int), .I (0 : Int), .nil, .nil] 27), (10, .box [.s x2.Name, .sl 6, .sl 7, .I vb4_10_3_66, .I x2.Start, .I x2.End, .sl 21, .sl 22] 27), (12, .own (rI .i64) v5_127 true), (20, .own (rI .i64) x4517 true), (21, .own rR2 vb4_10_6_120 true), (22, .own rR8 vb4_10_7_120 true), (26, .box (cC2 x5071) 43), (28, .own (rI .i64) v6_127 true)], (vV4 0 1 2 3 g_ [(6, .sl rS x2.Roles), (7, .sl rR0 x2.Decls)]), 29⟩ htt 3 (by kernel_rfl) (?_))
        obtain ⟨x5136, hx5136, h⟩ := ob h
        exact WPr.ix oO8 htt hx5136 rfl rfl rfl rfl rfl rfl rfl rfl rfl (WPr.silx [] ⟨[(1, .B 4 0), (2, .B 5 0), (4, .B 10 0), (5, .S 12), (6, .S 28), (8, .I x4516), (11, .B 26 0), (49, .S 20), (50, .I (x4517.length : Int)), (51, .I v51_120), (88, .O (x5136.Else == x5070))], [(4, .box (cC4 0 1 2 3 g_) 27), (5, .box [.s (str []), .nil, .nil, .I (0 : Int), .I (0 : Int), .I (0 : Int), .nil, .nil] 27), (10, .box [.s x2.Name, .sl 6, .sl 7, .I vb4_10_3_66, .I x2.Start, .I x2.End, .sl 21, .sl 22] 27), (12, .own (rI .i64) v5_127 true), (20, .own (rI .i64) x4517 true), (21, .own rR2 vb4_10_6_120 true), (22, .own rR8 vb4_10_7_120 true), (26, .box (cC2 x5071) 43), (28, .own (rI .i64) v6_127 true)], (vV4 0 1 2 3 g_ [(6, .sl rS x2.Roles), (7, .sl rR0 x2.Decls)]), 30⟩ htt 5 (by kernel_rfl) (WPr.nil (WP.sub [] (j128 (x5136.Else == x5070) h) rfl rfl rfl rfl)))
      rcases oc' h with ⟨hc, h⟩ | ⟨hc, h⟩
      · exact WP.condF hc rfl (WP.skip (WP.sub [(28, .sl 23)] (j127 (v5_120, v6_120) h) rfl rfl rfl rfl))
      refine WP.condT hc rfl (WP.seq (WP.region (WPr.silx [5, 6] ⟨[(1, .B 4 0), (2, .B 5 0), (4, .B 10 0), (5, .S 12), (6, .S 23), (8, .I x4516), (10, .I x5070), (11, .B 26 0), (49, .S 20), (50, .I (x4517.length : Int)), (51, .I v51_120), (66, .S 12), (68, .I x5071.To), (70, .I (v6_120.length : Int))], [(4, .box (cC4 0 1 2 3 g_) 27), (5, .box [.s (str []), .nil, .nil, .I (0 : Int), .I (0 : Int), .I (0 : Int), .nil, .nil] 27), (10, .box [.s x2.Name, .sl 6, .sl 7, .I vb4_10_3_66, .I x2.Start, .I x2.End, .sl 21, .sl 22] 27), (12, .own (rI .i64) v5_120 true), (20, .own (rI .i64) x4517 true), (21, .own rR2 vb4_10_6_120 true), (22, .own rR8 vb4_10_7_120 true), (23, .own (rI .i64) v6_120 true), (26, .box (cC2 x5071) 43)], (vV4 0 1 2 3 g_ [(6, .sl rS x2.Roles), (7, .sl rR0 x2.Decls)]), 28⟩ htt 5 (by kernel_rfl) (?_))))
      obtain ⟨x5137, hx5137, h⟩ := ob h
      refine WPr.ixo htt hx5137 rfl rfl rfl rfl rfl rfl rfl rfl rfl (WPr.sto (oI .i64) htt (v6_120.length : Int) hx5137 rfl rfl rfl rfl rfl rfl rfl rfl rfl rfl (by exact rfl) rfl (WPr.nil (WP.region (WPr.silx [3, 4, 5] ⟨[(1, .B 4 0), (2, .B 5 0), (4, .B 10 0), (5, .S 12), (8, .I x4516), (10, .I x5070), (11, .B 26 0), (49, .S 20), (50, .I (x4517.length : Int)), (51, .I v51_120), (72, .S 23), (74, .I x5071.To)], [(4, .box (cC4 0 1 2 3 g_) 27), (5, .box [.s (str []), .nil, .nil, .I (0 : Int), .I (0 : Int), .I (0 : Int), .nil, .nil] 27), (10, .box [.s x2.Name, .sl 6, .sl 7, .I vb4_10_3_66, .I x2.Start, .I x2.End, .sl 21, .sl 22] 27), (12, .own (rI .i64) (setL' v5_120 x5071.To (v6_120.length : Int)) true), (20, .own (rI .i64) x4517 true), (21, .own rR2 vb4_10_6_120 true), (22, .own rR8 vb4_10_7_120 true), (23, .own (rI .i64) v6_120 true), (26, .box (cC2 x5071) 43)], (vV4 0 1 2 3 g_ [(6, .sl rS x2.Roles), (7, .sl rR0 x2.Decls)]), 29⟩ htt 3 (by kernel_rfl) (WPr.bs (cs := [.I x5071.To]) (oI .i64) htt ([x5071.To] : List Int) rfl rfl rfl rfl rfl rfl (by kernel_rfl) (by exact (an rfl rfl)) rfl (?_))))))
      obtain ⟨x5138, hx5138, h⟩ := ob h
      exact WPr.app htt hx5138 (by exact (srcO rfl)) rfl rfl rfl rfl rfl rfl rfl rfl rfl rfl (WPr.silx [] ⟨[(1, .B 4 0), (2, .B 5 0), (4, .B 10 0), (5, .S 12), (6, .S 30), (8, .I x4516), (10, .I x5070), (11, .B 26 0), (49, .S 20), (50, .I (x4517.length : Int)), (51, .I v51_120)], [(4, .box (cC4 0 1 2 3 g_) 27), (5, .box [.s (str []), .nil, .nil, .I (0 : Int), .I (0 : Int), .I (0 : Int), .nil, .nil] 27), (10, .box [.s x2.Name, .sl 6, .sl 7, .I vb4_10_3_66, .I x2.Start, .I x2.End, .sl 21, .sl 22] 27), (12, .own (rI .i64) (setL' v5_120 x5071.To (v6_120.length : Int)) true), (20, .own (rI .i64) x4517 true), (21, .own rR2 vb4_10_6_120 true), (22, .own rR8 vb4_10_7_120 true), (26, .box (cC2 x5071) 43), (30, .own (rI .i64) x5138 true)], (vV4 0 1 2 3 g_ [(6, .sl rS x2.Roles), (7, .sl rR0 x2.Decls)]), 31⟩ htt 1 (by kernel_rfl) (WPr.nil (WP.sub [(28, .sl 30)] (j127 ((setL' v5_120 x5071.To (v6_120.length : Int)), x5138) h) rfl rfl rfl rfl)))
    exact WP.sub [(21, .sl 15), (22, .sl 16), (23, .sl 17)] (ih N (vb4_10_6_66, vb4_10_7_66, v5_66, v6_66, (0 : Int)) h) rfl rfl rfl rfl
  exact WP.sub [(15, .sl 8), (16, .sl 9), (17, .sl 14)] (ih N (x2.States, x2.Edges, x2.Timeouts, (setL' x3 g_.Start (0 : Int)), ([g_.Start] : List Int)) h) rfl rfl rfl rfl
theorem z82_ct (N : Nat) (b_ : (List Int)) (n_ : Int) (r : (List Int)) (h : z82 N b_ n_ = some r) :
  Fn Tryz.prog 82 ⟨1, [.S 0, .I n_], [], [(0, .own (rI .u8) b_ false)], 2, .S 1, [], [(1, .own (rI .u8) r false), (0, .gone)]⟩ := by
  refine Fn.intro _ _ Tryz.func82 rfl (by kernel_rfl) rfl (fun E F w => ?_)
  unfold z82 at h
  refine WP.seq (WP.region (WPr.sil htt 1 rfl (WPr.nil (WP.seq (WP.region (WPr.silx (rg 2 6) ⟨[(0, .S 0), (1, .I n_), (4, .c .nil), (7, .c (.i .u64 (wk .u64 (n_))))], [(0, .own (rI .u8) b_ false)], [], 1⟩ htt 2 (by kernel_rfl) (?_)))))))
  obtain ⟨x1, hx1, h⟩ := ob h
  refine WPr.bin hx1 rfl rfl rfl rfl rfl rfl rfl rfl (WPr.sil htt 1 rfl (?_))
  obtain ⟨x2, hx2, h⟩ := ob h
  refine WPr.bin hx2 rfl rfl rfl rfl rfl rfl rfl rfl (WPr.silx [6, 7] ⟨[(0, .S 0), (4, .c .nil), (8, .c (.i .u64 x1)), (11, .c (.i .u64 (wk .u64 (x2))))], [(0, .own (rI .u8) b_ false)], [], 1⟩ htt 1 (by kernel_rfl) (?_))
  obtain ⟨x3, hx3, h⟩ := ob h
  refine WPr.bin hx3 rfl rfl rfl rfl rfl rfl rfl rfl (WPr.sil htt 1 rfl (WPr.nil (WP.seq (?_))))
  refine WP.cut (σ := (List Int) × Int) (fun st => ⟨[(0, .S 1), (5, .c (.i .u64 st.2))], [(1, .own (rI .u8) st.1 false)], [], 2⟩) (fun st => z82_k1 st.1 st.2 = some r) ?_ (fun j1 => ?_)
  · rintro ⟨v0_1, v5_1⟩ h
    replace h : z82_k1 v0_1 v5_1 = some r := h
    unfold z82_k1 at h
    refine WP.seq (WP.region (WPr.silx [3, 4, 5] ⟨[(23, .S 1), (25, .c (.i .u8 (wk .u8 (v5_1))))], [(1, .own (rI .u8) v0_1 false)], [], 2⟩ htt 3 (by kernel_rfl) (WPr.bs (cs := [.i .u8 (wk .u8 (v5_1))]) (oI .u8) htt ([(wk .u8 (v5_1))] : List Int) rfl rfl rfl rfl rfl rfl (by kernel_rfl) (by exact (an rfl rfl)) rfl (?_))))
    obtain ⟨x16, hx16, h⟩ := ob h
    refine WPr.app htt hx16 (by exact (srcO rfl)) rfl rfl rfl rfl rfl rfl rfl rfl rfl rfl (WPr.silx [] ⟨[(4, .S 3)], [(3, .own (rI .u8) x16 false)], [], 4⟩ htt 1 (by kernel_rfl) (WPr.nil (?_)))
    cases h
    exact WP.ret htt Tryz.func82 [(1, .sl 3)] rfl rfl rfl rfl
  refine WP.block (?_)
  refine WP.loopI (σ := (List Int) × Int) (fun st => ⟨[(0, .S 1), (5, .c (.i .u64 st.2))], [(1, .own (rI .u8) st.1 false)], [], 2⟩) (fun n st => z82_l2 n st.1 st.2) (r := r) (fun _ => rfl) ?_ (fun ih => ?_)
  · intro n2 ih3
    rintro ⟨v0_3, v5_3⟩ h
    replace h : z82_l2 (n2 + 1) v0_3 v5_3 = some r := h
    unfold z82_l2 at h
    refine WP.seq (WP.seq (WP.region (WPr.sil htt 2 rfl (WPr.nil (?_)))))
    rcases oc' h with ⟨hc, h⟩ | ⟨hc, h⟩
    · exact WP.condF hc rfl (WP.exit rfl (WP.sub [] (j1 (v0_3, v5_3) h) rfl rfl rfl rfl))
    refine WP.condT hc rfl (WP.skip (WP.block (WP.seq (WP.region (WPr.silx [3, 4, 5, 6] ⟨[(5, .c (.i .u64 v5_3)), (15, .S 1), (17, .c (.i .u8 (wk .u8 (v5_3))))], [(1, .own (rI .u8) v0_3 false)], [], 2⟩ htt 3 (by kernel_rfl) (?_))))))
    obtain ⟨x29, hx29, h⟩ := ob h
    refine WPr.bin hx29 rfl rfl rfl rfl rfl rfl rfl rfl (WPr.bs (cs := [.i .u8 x29]) (oI .u8) htt ([x29] : List Int) rfl rfl rfl rfl rfl rfl (by kernel_rfl) (by exact (an rfl rfl)) rfl (?_))
    obtain ⟨x30, hx30, h⟩ := ob h
    refine WPr.app htt hx30 (by exact (srcO rfl)) rfl rfl rfl rfl rfl rfl rfl rfl rfl rfl (WPr.silx [] ⟨[(0, .S 3), (5, .c (.i .u64 v5_3))], [(3, .own (rI .u8) x30 false)], [], 4⟩ htt 1 (by kernel_rfl) (WPr.nil (WP.region (WPr.sil htt 1 rfl (?_)))))
    obtain ⟨x31, hx31, h⟩ := ob h
    exact WPr.bin hx31 rfl rfl rfl rfl rfl rfl rfl rfl (WPr.silx [] ⟨[(0, .S 3), (5, .c (.i .u64 x31))], [(3, .own (rI .u8) x30 false)], [], 4⟩ htt 1 (by kernel_rfl) (WPr.nil (WP.inBlock (WP.sub [(1, .sl 3)] (ih3 (x30, x31) h) rfl rfl rfl rfl))))
  exact WP.sub [(1, .sl 0)] (ih N (b_, x3) h) rfl rfl rfl rfl
theorem z83_ct (N : Nat) (b_ : (List Int)) (s_ : ByteArray) (r : (List Int)) (h : z83 N b_ s_ = some r) :
  Fn Tryz.prog 83 ⟨1, [.S 0, .c (.s s_)], [], [(0, .own (rI .u8) b_ false)], 2, .S 1, [], [(1, .own (rI .u8) r false), (0, .gone)]⟩ := by
  refine Fn.intro _ _ Tryz.func83 rfl (by kernel_rfl) rfl (fun E F w => ?_)
  unfold z83 at h
  refine WP.seq (WP.region (WPr.sil htt 1 rfl (WPr.nil (WP.seq (WP.region (WPr.silx [3, 4, 5, 6] ⟨[(1, .c (.s s_)), (5, .S 0), (7, .I (s_.size : Int))], [(0, .own (rI .u8) b_ false)], [], 1⟩ htt 3 (by kernel_rfl) (?_)))))))
  obtain ⟨x1, hx1, h⟩ := ob h
  refine WPr.call (z82_ct N b_ (s_.size : Int) _ hx1) [(0, .sl 0)] [] rfl rfl rfl rfl rfl rfl rfl rfl (.inl rfl) rfl (WPr.silx [5, 6] ⟨[(8, .S 1), (9, .c (.s s_))], [(1, .own (rI .u8) x1 false)], [], 2⟩ htt 1 (by kernel_rfl) (?_))
  obtain ⟨x2, hx2, h⟩ := ob h
  refine WPr.app htt hx2 (by exact srcS) rfl rfl rfl rfl rfl rfl rfl rfl rfl rfl (WPr.silx [] ⟨[(4, .S 2)], [(2, .own (rI .u8) x2 false)], [], 3⟩ htt 1 (by kernel_rfl) (WPr.nil (?_)))
  cases h
  exact WP.ret htt Tryz.func83 [(1, .sl 2)] rfl rfl rfl rfl
theorem z85_ct (N : Nat) (b_ : (List Int)) (l_ : (List Int)) (r : (List Int)) (h : z85 N b_ l_ = some r) :
  Fn Tryz.prog 85 ⟨2, [.S 0, .S 1], [(1, .sl (rI .i64) l_)], [(0, .own (rI .u8) b_ false)], 3, .S 2, [], [(2, .own (rI .u8) r false), (0, .gone)]⟩ := by
  refine Fn.intro _ _ Tryz.func85 rfl (by kernel_rfl) rfl (fun E F w => ?_)
  unfold z85 at h
  refine WP.seq (WP.region (WPr.sil htt 1 rfl (WPr.nil (WP.seq (WP.seq (WP.region (WPr.silx [] ⟨[(0, .S 0), (4, .c .nil), (7, .S 1), (8, .I (l_.length : Int)), (9, .I (0 : Int))], [(0, .own (rI .u8) b_ false)], [(1, .sl (rI .i64) l_)], 2⟩ htt 3 (by kernel_rfl) (WPr.nil (?_)))))))))
  refine WP.cut (σ := (List Int)) (fun st => ⟨[(0, .S 2)], [(2, .own (rI .u8) st false)], [(1, .sl (rI .i64) l_)], 3⟩) (fun st => z85_k1 st = some r) ?_ (fun j1 => ?_)
  · intro v0_1 h
    replace h : z85_k1 v0_1 = some r := h
    unfold z85_k1 at h
    refine WP.seq (WP.region (WPr.sil htt 2 rfl (WPr.nil (?_))))
    cases h
    exact WP.ret htt Tryz.func85 [(2, .sl 2)] rfl rfl rfl rfl
  refine WP.block (?_)
  refine WP.loopI (σ := (List Int) × Int) (fun st => ⟨[(0, .S 2), (7, .S 1), (8, .I (l_.length : Int)), (9, .I st.2)], [(2, .own (rI .u8) st.1 false)], [(1, .sl (rI .i64) l_)], 3⟩) (fun n st => z85_l2 N l_ n st.1 st.2) (r := r) (fun _ => rfl) ?_ (fun ih => ?_)
  · intro n2 ih3
    rintro ⟨v0_3, v9_3⟩ h
    replace h : z85_l2 N l_ (n2 + 1) v0_3 v9_3 = some r := h
    unfold z85_l2 at h
    refine WP.seq (WP.region (WPr.sil htt 1 rfl (WPr.nil (WP.seq (?_)))))
    rcases oc' h with ⟨hc, h⟩ | ⟨hc, h⟩
    · exact WP.condF hc rfl (WP.exit rfl (WP.sub [] (j1 v0_3 h) rfl rfl rfl rfl))
    refine WP.condT hc rfl (WP.skip (WP.seq (WP.block (WP.seq (WP.region (?_))))))
    obtain ⟨x17, hx17, h⟩ := ob h
    refine WPr.ix (oI .i64) htt hx17 rfl rfl rfl rfl rfl rfl rfl rfl rfl (WPr.silx [] ⟨[(0, .S 2), (6, .I x17), (7, .S 1), (8, .I (l_.length : Int)), (9, .I v9_3)], [(2, .own (rI .u8) v0_3 false)], [(1, .sl (rI .i64) l_)], 4⟩ htt 2 (by kernel_rfl) (WPr.nil (WP.region (WPr.sil htt 2 rfl (?_)))))
    obtain ⟨x18, hx18, h⟩ := ob h
    exact WPr.call (z82_ct N v0_3 x17 _ hx18) [(0, .sl 2)] [] rfl rfl rfl rfl rfl rfl rfl rfl (.inl rfl) rfl (WPr.silx [] ⟨[(0, .S 4), (7, .S 1), (8, .I (l_.length : Int)), (9, .I v9_3)], [(4, .own (rI .u8) x18 false)], [(1, .sl (rI .i64) l_)], 5⟩ htt 1 (by kernel_rfl) (WPr.nil (WP.inBlock (WP.region (WPr.sil htt 2 rfl (WPr.nil (WP.sub [(2, .sl 4)] (ih3 (x18, (w64 (v9_3 + (1 : Int)))) h) rfl rfl rfl rfl)))))))
  exact WP.sub [(2, .sl 0)] (ih N (b_, (0 : Int)) h) rfl rfl rfl rfl
theorem z84_ct (N : Nat) (b_ : (List Int)) (d_ : T0) (r : (List Int)) (h : z84 N b_ d_ = some r) :
  Fn Tryz.prog 84 ⟨4, [.S 0, .a (cC0 1 2 3 d_)], (vV0 1 2 3 d_ []), [(0, .own (rI .u8) b_ false)], 5, .S 4, [], [(4, .own (rI .u8) r false), (0, .gone)]⟩ := by
  refine Fn.intro _ _ Tryz.func84 rfl (by kernel_rfl) rfl (fun E F w => ?_)
  unfold z84 at h
  refine WP.seq (WP.region (WPr.sil htt 2 rfl (WPr.nil (WP.seq (WP.nm (fun A1 tA1 fA1 => ?_))))))
  have st1 : A1 0 ⟨[(0, .S 0)], [], [], [], 5, [(11, .S 0)], [], [], 5⟩ := tA1 _ _ (LS.sil htt rfl rfl rfl rfl rfl rfl)
  have st2 : A1 1 ⟨[(3, .B 4 0)], [], [], [], 5, [(12, .B 4 0)], [], [], 5⟩ := tA1 _ _ (LS.sil htt rfl rfl rfl rfl rfl rfl)
  have st3 : A1 2 ⟨[(12, .B 4 0)], (vV0 1 2 3 d_ []), [], [(4, .box (cC0 1 2 3 d_) 94)], 5, [(13, .c (.s d_.Name))], [], [], 5⟩ := tA1 _ _ (LS.sil htt rfl rfl rfl rfl rfl rfl)
  obtain ⟨x4, hx4, h⟩ := ob h
  have st5 : A1 3 ⟨[(11, .S 0), (13, .c (.s d_.Name))], [], [(0, .own (rI .u8) b_ false)], [], 5, [(14, .S 5)], [], [(0, .gone), (5, .own (rI .u8) x4 false)], 6⟩ := tA1 _ _ (LS.of rfl rfl rfl (fun _ _ _ _ _ _ _ k => WPr.call (z83_ct N b_ d_.Name _ hx4) [(0, .sl 0)] [] rfl rfl rfl rfl rfl rfl rfl rfl (.inl rfl) rfl (k)) rfl)
  have st6 : A1 4 ⟨[(3, .B 4 0)], [], [], [], 6, [(15, .B 4 1)], [], [], 6⟩ := tA1 _ _ (LS.sil htt rfl rfl rfl rfl rfl rfl)
  have st7 : A1 5 ⟨[(15, .B 4 1)], (vV0 1 2 3 d_ []), [], [(4, .box (cC0 1 2 3 d_) 94)], 6, [(16, .S 1)], [], [], 6⟩ := tA1 _ _ (LS.sil htt rfl rfl rfl rfl rfl rfl)
  have st8 : A1 6 ⟨[(16, .S 1)], [(1, .sl rR3 d_.Fields)], [], [], 6, [(17, .I (d_.Fields.length : Int))], [], [], 6⟩ := tA1 _ _ (LS.sil htt rfl rfl rfl rfl rfl rfl)
  obtain ⟨x9, hx9, h⟩ := ob h
  have st10 : A1 7 ⟨[(14, .S 5), (17, .I (d_.Fields.length : Int))], [], [(5, .own (rI .u8) x4 false)], [], 6, [(18, .S 6)], [], [(5, .gone), (6, .own (rI .u8) x9 false)], 7⟩ := tA1 _ _ (LS.of rfl rfl rfl (fun _ _ _ _ _ _ _ k => WPr.call (z82_ct N x4 (d_.Fields.length : Int) _ hx9) [(0, .sl 5)] [] rfl rfl rfl rfl rfl rfl rfl rfl (.inl rfl) rfl (k)) rfl)
  have st11 : A1 8 ⟨[(18, .S 6)], [], [], [], 7, [(0, .S 6)], [], [], 7⟩ := tA1 _ _ (LS.sil htt rfl rfl rfl rfl rfl rfl)
  refine WP.regionD (t := ⟨[(0, .S 6), (3, .B 4 0), (4, .c .nil)], [(4, .box (cC0 1 2 3 d_) 94), (6, .own (rI .u8) x9 false)], (vV0 1 2 3 d_ []), 7⟩) [0, 0, 2, 7, 0, 16, 48, 127, 255] (.cons (fA1 _ _ st1) (.cons (fA1 _ _ st2) (.cons (fA1 _ _ st3) (.cons (fA1 _ _ st5) (.cons (fA1 _ _ st6) (.cons (fA1 _ _ st7) (.cons (fA1 _ _ st8) (.cons (fA1 _ _ st10) (.cons (fA1 _ _ st11) .nil))))))))) (by kernel_rfl) (by kernel_rfl) (by kernel_rfl) (by kernel_rfl) (WP.seq (WP.seq (WP.region (WPr.silx [] ⟨[(0, .S 6), (3, .B 4 0), (4, .c .nil), (20, .S 1), (21, .I (d_.Fields.length : Int)), (22, .I (0 : Int))], [(4, .box (cC0 1 2 3 d_) 94), (6, .own (rI .u8) x9 false)], (vV0 1 2 3 d_ []), 7⟩ htt 4 (by kernel_rfl) (WPr.nil (?_))))))
  refine WP.cut (σ := (List Int)) (fun st => ⟨[(0, .S 7), (3, .B 4 0)], [(4, .box (cC0 1 2 3 d_) 94), (7, .own (rI .u8) st false)], (vV0 1 2 3 d_ []), 8⟩) (fun st => z84_k5 N d_ st = some r) ?_ (fun j1 => ?_)
  · intro v0_1 h
    replace h : z84_k5 N d_ v0_1 = some r := h
    unfold z84_k5 at h
    refine WP.seq (WP.region (WPr.silx [7, 8, 9] ⟨[(3, .B 4 0), (42, .S 7), (44, .I d_.First), (48, .I (d_.Guard.Diffs.length : Int))], [(4, .box (cC0 1 2 3 d_) 94), (7, .own (rI .u8) v0_1 false)], (vV0 1 2 3 d_ []), 8⟩ htt 7 (by kernel_rfl) (WPr.bs (cs := [.I d_.First, .I (d_.Guard.Diffs.length : Int)]) (oI .i64) htt ([d_.First, (d_.Guard.Diffs.length : Int)] : List Int) rfl rfl rfl rfl rfl rfl (by kernel_rfl) (by exact (an rfl (an rfl rfl))) rfl (?_))))
    obtain ⟨x88, hx88, h⟩ := ob h
    refine WPr.call (z85_ct N v0_1 ([d_.First, (d_.Guard.Diffs.length : Int)] : List Int) _ hx88) [(0, .sl 7), (1, .sl 8)] [8] rfl rfl rfl rfl rfl rfl rfl rfl (.inr ⟨rfl, ⟨(rI_flat _), trivial⟩⟩) rfl (WPr.silx [] ⟨[(0, .S 9), (3, .B 4 0)], [(4, .box (cC0 1 2 3 d_) 94), (9, .own (rI .u8) x88 false)], (vV0 1 2 3 d_ []), 10⟩ htt 1 (by kernel_rfl) (WPr.nil (WP.seq (WP.seq (WP.region (WPr.silx [] ⟨[(0, .S 9), (3, .B 4 0), (53, .S 2), (54, .I (d_.Guard.Diffs.length : Int)), (55, .I (0 : Int))], [(4, .box (cC0 1 2 3 d_) 94), (9, .own (rI .u8) x88 false)], (vV0 1 2 3 d_ []), 10⟩ htt 5 (by kernel_rfl) (WPr.nil (?_))))))))
    refine WP.cut (σ := (List Int)) (fun st => ⟨[(0, .S 10), (3, .B 4 0)], [(4, .box (cC0 1 2 3 d_) 94), (10, .own (rI .u8) st false)], (vV0 1 2 3 d_ []), 11⟩) (fun st => z84_k3 N d_ st = some r) ?_ (fun j3 => ?_)
    · intro v0_3 h
      replace h : z84_k3 N d_ v0_3 = some r := h
      unfold z84_k3 at h
      refine WP.seq (WP.region (WPr.silx [5, 6] ⟨[(3, .B 4 0), (69, .S 10), (73, .I (d_.Guard.Equals.length : Int))], [(4, .box (cC0 1 2 3 d_) 94), (10, .own (rI .u8) v0_3 false)], (vV0 1 2 3 d_ []), 11⟩ htt 5 (by kernel_rfl) (?_)))
      obtain ⟨x97, hx97, h⟩ := ob h
      refine WPr.call (z82_ct N v0_3 (d_.Guard.Equals.length : Int) _ hx97) [(0, .sl 10)] [] rfl rfl rfl rfl rfl rfl rfl rfl (.inl rfl) rfl (WPr.silx [] ⟨[(0, .S 11), (3, .B 4 0)], [(4, .box (cC0 1 2 3 d_) 94), (11, .own (rI .u8) x97 false)], (vV0 1 2 3 d_ []), 12⟩ htt 1 (by kernel_rfl) (WPr.nil (WP.seq (WP.seq (WP.region (WPr.silx [] ⟨[(0, .S 11), (77, .S 3), (78, .I (d_.Guard.Equals.length : Int)), (79, .I (0 : Int))], [(11, .own (rI .u8) x97 false)], (vV0 1 2 3 d_ []), 12⟩ htt 5 (by kernel_rfl) (WPr.nil (?_))))))))
      refine WP.cut (σ := (List Int)) (fun st => ⟨[(0, .S 12)], [(12, .own (rI .u8) st false)], (vV0 1 2 3 d_ []), 13⟩) (fun st => z84_k1 st = some r) ?_ (fun j5 => ?_)
      · intro v0_5 h
        replace h : z84_k1 v0_5 = some r := h
        unfold z84_k1 at h
        refine WP.seq (WP.region (WPr.sil htt 2 rfl (WPr.nil (?_))))
        cases h
        exact WP.ret htt Tryz.func84 [(4, .sl 12)] rfl rfl rfl rfl
      refine WP.block (?_)
      refine WP.loopI (σ := (List Int) × Int) (fun st => ⟨[(0, .S 12), (77, .S 3), (78, .I (d_.Guard.Equals.length : Int)), (79, .I st.2)], [(12, .own (rI .u8) st.1 false)], (vV0 1 2 3 d_ []), 13⟩) (fun n st => z84_l2 N d_ n st.1 st.2) (r := r) (fun _ => rfl) ?_ (fun ih => ?_)
      · intro n4 ih7
        rintro ⟨v0_7, v79_7⟩ h
        replace h : z84_l2 N d_ (n4 + 1) v0_7 v79_7 = some r := h
        unfold z84_l2 at h
        refine WP.seq (WP.region (WPr.sil htt 1 rfl (WPr.nil (WP.seq (?_)))))
        rcases oc' h with ⟨hc, h⟩ | ⟨hc, h⟩
        · exact WP.condF hc rfl (WP.exit rfl (WP.sub [] (j5 v0_7 h) rfl rfl rfl rfl))
        refine WP.condT hc rfl (WP.skip (WP.seq (WP.block (WP.seq (WP.region (?_))))))
        obtain ⟨x114, hx114, h⟩ := ob h
        refine WPr.ix (oP (oI .i64) (oI .i64)) htt hx114 rfl rfl rfl rfl rfl rfl rfl rfl rfl (WPr.silx [] ⟨[(0, .S 12), (10, .B 14 0), (77, .S 3), (78, .I (d_.Guard.Equals.length : Int)), (79, .I v79_7)], [(12, .own (rI .u8) v0_7 false), (14, .box [.I x114.1, .I x114.2] 146)], (vV0 1 2 3 d_ []), 15⟩ htt 3 (by kernel_rfl) (WPr.nil (WP.region (WPr.sil htt 1 rfl (WPr.slb (len := 2) (el := 3) (oI .i64) ([x114.1, x114.2] : List Int) (by exact (an rfl (an rfl rfl))) rfl rfl rfl rfl (by kernel_rfl) (by kernel_rfl) rfl rfl rfl (?_))))))
        obtain ⟨x115, hx115, h⟩ := ob h
        exact WPr.call (z85_ct N v0_7 ([x114.1, x114.2] : List Int) _ hx115) [(0, .sl 12), (1, .sl 15)] [15] rfl rfl rfl rfl rfl rfl rfl rfl (.inr ⟨rfl, ⟨(rI_flat _), trivial⟩⟩) rfl (WPr.silx [] ⟨[(0, .S 16), (77, .S 3), (78, .I (d_.Guard.Equals.length : Int)), (79, .I v79_7)], [(16, .own (rI .u8) x115 false)], (vV0 1 2 3 d_ []), 17⟩ htt 1 (by kernel_rfl) (WPr.nil (WP.inBlock (WP.region (WPr.sil htt 2 rfl (WPr.nil (WP.sub [(12, .sl 16)] (ih7 (x115, (w64 (v79_7 + (1 : Int)))) h) rfl rfl rfl rfl)))))))
      exact WP.sub [(12, .sl 11)] (ih N (x97, (0 : Int)) h) rfl rfl rfl rfl
    refine WP.block (?_)
    refine WP.loopI (σ := (List Int) × Int) (fun st => ⟨[(0, .S 10), (3, .B 4 0), (53, .S 2), (54, .I (d_.Guard.Diffs.length : Int)), (55, .I st.2)], [(4, .box (cC0 1 2 3 d_) 94), (10, .own (rI .u8) st.1 false)], (vV0 1 2 3 d_ []), 11⟩) (fun n st => z84_l4 N d_ n st.1 st.2) (r := r) (fun _ => rfl) ?_ (fun ih => ?_)
    · intro n5 ih8
      rintro ⟨v0_8, v55_8⟩ h
      replace h : z84_l4 N d_ (n5 + 1) v0_8 v55_8 = some r := h
      unfold z84_l4 at h
      refine WP.seq (WP.region (WPr.sil htt 1 rfl (WPr.nil (WP.seq (?_)))))
      rcases oc' h with ⟨hc, h⟩ | ⟨hc, h⟩
      · exact WP.condF hc rfl (WP.exit rfl (WP.sub [] (j3 v0_8 h) rfl rfl rfl rfl))
      refine WP.condT hc rfl (WP.skip (WP.seq (WP.block (WP.seq (WP.region (?_))))))
      obtain ⟨x124, hx124, h⟩ := ob h
      refine WPr.ix oO1 htt hx124 rfl rfl rfl rfl rfl rfl rfl rfl rfl (WPr.silx [] ⟨[(0, .S 10), (3, .B 4 0), (8, .B 12 0), (53, .S 2), (54, .I (d_.Guard.Diffs.length : Int)), (55, .I v55_8)], [(4, .box (cC0 1 2 3 d_) 94), (10, .own (rI .u8) v0_8 false), (12, .box (cC1 x124) 144)], (vV0 1 2 3 d_ []), 13⟩ htt 3 (by kernel_rfl) (WPr.nil (WP.region (WPr.silx [7, 8, 9] ⟨[(3, .B 4 0), (53, .S 2), (54, .I (d_.Guard.Diffs.length : Int)), (55, .I v55_8), (59, .S 10), (61, .I x124.X), (63, .I x124.Y), (65, .I x124.C)], [(4, .box (cC0 1 2 3 d_) 94), (10, .own (rI .u8) v0_8 false)], (vV0 1 2 3 d_ []), 13⟩ htt 7 (by kernel_rfl) (WPr.bs (cs := (cC1 x124)) (oI .i64) htt ([x124.X, x124.Y, x124.C] : List Int) rfl rfl rfl rfl rfl rfl (by kernel_rfl) (by exact (an rfl (an rfl (an rfl rfl)))) rfl (?_))))))
      obtain ⟨x125, hx125, h⟩ := ob h
      exact WPr.call (z85_ct N v0_8 ([x124.X, x124.Y, x124.C] : List Int) _ hx125) [(0, .sl 10), (1, .sl 13)] [13] rfl rfl rfl rfl rfl rfl rfl rfl (.inr ⟨rfl, ⟨(rI_flat _), trivial⟩⟩) rfl (WPr.silx [] ⟨[(0, .S 14), (3, .B 4 0), (53, .S 2), (54, .I (d_.Guard.Diffs.length : Int)), (55, .I v55_8)], [(4, .box (cC0 1 2 3 d_) 94), (14, .own (rI .u8) x125 false)], (vV0 1 2 3 d_ []), 15⟩ htt 1 (by kernel_rfl) (WPr.nil (WP.inBlock (WP.region (WPr.sil htt 2 rfl (WPr.nil (WP.sub [(10, .sl 14)] (ih8 (x125, (w64 (v55_8 + (1 : Int)))) h) rfl rfl rfl rfl)))))))
    exact WP.sub [(10, .sl 9)] (ih N (x88, (0 : Int)) h) rfl rfl rfl rfl
  refine WP.block (?_)
  refine WP.loopI (σ := (List Int) × Int) (fun st => ⟨[(0, .S 7), (3, .B 4 0), (20, .S 1), (21, .I (d_.Fields.length : Int)), (22, .I st.2)], [(4, .box (cC0 1 2 3 d_) 94), (7, .own (rI .u8) st.1 false)], (vV0 1 2 3 d_ []), 8⟩) (fun n st => z84_l6 N d_ n st.1 st.2) (r := r) (fun _ => rfl) ?_ (fun ih => ?_)
  · intro n6 ih9
    rintro ⟨v0_9, v22_9⟩ h
    replace h : z84_l6 N d_ (n6 + 1) v0_9 v22_9 = some r := h
    unfold z84_l6 at h
    refine WP.seq (WP.region (WPr.sil htt 1 rfl (WPr.nil (WP.seq (?_)))))
    rcases oc' h with ⟨hc, h⟩ | ⟨hc, h⟩
    · exact WP.condF hc rfl (WP.exit rfl (WP.sub [] (j1 v0_9 h) rfl rfl rfl rfl))
    refine WP.condT hc rfl (WP.skip (WP.seq (WP.block (WP.seq (WP.region (?_))))))
    obtain ⟨x202, hx202, h⟩ := ob h
    refine WPr.ix oO3 htt hx202 rfl rfl rfl rfl rfl rfl rfl rfl rfl (WPr.silx [] ⟨[(0, .S 7), (3, .B 4 0), (6, .B 9 0), (20, .S 1), (21, .I (d_.Fields.length : Int)), (22, .I v22_9)], [(4, .box (cC0 1 2 3 d_) 94), (7, .own (rI .u8) v0_9 false), (9, .box (cC3 x202) 141)], (vV0 1 2 3 d_ []), 10⟩ htt 3 (by kernel_rfl) (WPr.nil (WP.nm (fun A10 tA10 fA10 => ?_))))
    have st203 : A10 0 ⟨[(0, .S 7)], [], [], [], 10, [(26, .S 7)], [], [], 10⟩ := tA10 _ _ (LS.sil htt rfl rfl rfl rfl rfl rfl)
    have st204 : A10 1 ⟨[(6, .B 9 0)], [], [], [], 10, [(27, .B 9 0)], [], [], 10⟩ := tA10 _ _ (LS.sil htt rfl rfl rfl rfl rfl rfl)
    have st205 : A10 2 ⟨[(27, .B 9 0)], [], [], [(9, .box (cC3 x202) 141)], 10, [(28, .c (.s x202.Name))], [], [], 10⟩ := tA10 _ _ (LS.sil htt rfl rfl rfl rfl rfl rfl)
    obtain ⟨x206, hx206, h⟩ := ob h
    have st207 : A10 3 ⟨[(26, .S 7), (28, .c (.s x202.Name))], [], [(7, .own (rI .u8) v0_9 false)], [], 10, [(29, .S 10)], [], [(7, .gone), (10, .own (rI .u8) x206 false)], 11⟩ := tA10 _ _ (LS.of rfl rfl rfl (fun _ _ _ _ _ _ _ k => WPr.call (z83_ct N v0_9 x202.Name _ hx206) [(0, .sl 7)] [] rfl rfl rfl rfl rfl rfl rfl rfl (.inl rfl) rfl (k)) rfl)
    have st208 : A10 4 ⟨[(6, .B 9 0)], [], [], [], 11, [(30, .B 9 1)], [], [], 11⟩ := tA10 _ _ (LS.sil htt rfl rfl rfl rfl rfl rfl)
    have st209 : A10 5 ⟨[(30, .B 9 1)], [], [], [], 11, [(31, .B 9 1)], [], [], 11⟩ := tA10 _ _ (LS.sil htt rfl rfl rfl rfl rfl rfl)
    have st210 : A10 6 ⟨[(31, .B 9 1)], [], [], [(9, .box (cC3 x202) 141)], 11, [(32, .I x202.Sort'.Kind)], [], [], 11⟩ := tA10 _ _ (LS.sil htt rfl rfl rfl rfl rfl rfl)
    have st211 : A10 7 ⟨[(6, .B 9 0)], [], [], [], 11, [(33, .B 9 1)], [], [], 11⟩ := tA10 _ _ (LS.sil htt rfl rfl rfl rfl rfl rfl)
    have st212 : A10 8 ⟨[(33, .B 9 1)], [], [], [], 11, [(34, .B 9 2)], [], [], 11⟩ := tA10 _ _ (LS.sil htt rfl rfl rfl rfl rfl rfl)
    have st213 : A10 9 ⟨[(34, .B 9 2)], [], [], [(9, .box (cC3 x202) 141)], 11, [(35, .I x202.Sort'.Lo)], [], [], 11⟩ := tA10 _ _ (LS.sil htt rfl rfl rfl rfl rfl rfl)
    have st214 : A10 10 ⟨[(6, .B 9 0)], [], [], [], 11, [(36, .B 9 1)], [], [], 11⟩ := tA10 _ _ (LS.sil htt rfl rfl rfl rfl rfl rfl)
    have st215 : A10 11 ⟨[(36, .B 9 1)], [], [], [], 11, [(37, .B 9 3)], [], [], 11⟩ := tA10 _ _ (LS.sil htt rfl rfl rfl rfl rfl rfl)
    have st216 : A10 12 ⟨[(37, .B 9 3)], [], [], [(9, .box (cC3 x202) 141)], 11, [(38, .I x202.Sort'.Hi)], [], [], 11⟩ := tA10 _ _ (LS.sil htt rfl rfl rfl rfl rfl rfl)
    have st217 : A10 13 ⟨[(32, .I x202.Sort'.Kind), (35, .I x202.Sort'.Lo), (38, .I x202.Sort'.Hi)], [], [], [], 11, [(39, .S 11)], [], [(11, .own (rI .i64) ([x202.Sort'.Kind, x202.Sort'.Lo, x202.Sort'.Hi] : List Int) true)], 12⟩ := tA10 _ _ (LS.of rfl rfl rfl (fun _ _ _ _ _ _ _ k => WPr.bs (cs := (cC7 x202.Sort')) (oI .i64) htt ([x202.Sort'.Kind, x202.Sort'.Lo, x202.Sort'.Hi] : List Int) rfl rfl rfl rfl rfl rfl (by kernel_rfl) (by exact (an rfl (an rfl (an rfl rfl)))) rfl (k)) rfl)
    obtain ⟨x218, hx218, h⟩ := ob h
    have st219 : A10 14 ⟨[(29, .S 10), (39, .S 11)], [], [(10, .own (rI .u8) x206 false)], [(11, .own (rI .i64) ([x202.Sort'.Kind, x202.Sort'.Lo, x202.Sort'.Hi] : List Int) true)], 12, [(40, .S 12)], [], [(10, .gone), (12, .own (rI .u8) x218 false)], 13⟩ := tA10 _ _ (LS.of rfl rfl rfl (fun _ _ _ _ _ _ _ k => WPr.call (z85_ct N x206 ([x202.Sort'.Kind, x202.Sort'.Lo, x202.Sort'.Hi] : List Int) _ hx218) [(0, .sl 10), (1, .sl 11)] [11] rfl rfl rfl rfl rfl rfl rfl rfl (.inr ⟨rfl, ⟨(rI_flat _), trivial⟩⟩) rfl (k)) rfl)
    have st220 : A10 15 ⟨[(40, .S 12)], [], [], [], 13, [(0, .S 12)], [], [], 13⟩ := tA10 _ _ (LS.sil htt rfl rfl rfl rfl rfl rfl)
    exact WP.regionD (t := ⟨[(0, .S 12), (3, .B 4 0), (20, .S 1), (21, .I (d_.Fields.length : Int)), (22, .I v22_9)], [(4, .box (cC0 1 2 3 d_) 94), (12, .own (rI .u8) x218 false)], (vV0 1 2 3 d_ []), 13⟩) [0, 0, 2, 7, 0, 16, 48, 0, 128, 384, 0, 1024, 3072, 8176, 16383, 32767] (.cons (fA10 _ _ st203) (.cons (fA10 _ _ st204) (.cons (fA10 _ _ st205) (.cons (fA10 _ _ st207) (.cons (fA10 _ _ st208) (.cons (fA10 _ _ st209) (.cons (fA10 _ _ st210) (.cons (fA10 _ _ st211) (.cons (fA10 _ _ st212) (.cons (fA10 _ _ st213) (.cons (fA10 _ _ st214) (.cons (fA10 _ _ st215) (.cons (fA10 _ _ st216) (.cons (fA10 _ _ st217) (.cons (fA10 _ _ st219) (.cons (fA10 _ _ st220) .nil)))))))))))))))) (by kernel_rfl) (by kernel_rfl) (by kernel_rfl) (by kernel_rfl) (WP.inBlock (WP.region (WPr.sil htt 2 rfl (WPr.nil (WP.sub [(7, .sl 12)] (ih9 (x218, (w64 (v22_9 + (1 : Int)))) h) rfl rfl rfl rfl)))))
  exact WP.sub [(7, .sl 6)] (ih N (x9, (0 : Int)) h) rfl rfl rfl rfl
theorem z86_ct (N : Nat) (b_ : (List Int)) (v_ : Bool) (r : (List Int)) (h : z86 N b_ v_ = some r) :
  Fn Tryz.prog 86 ⟨1, [.S 0, .O v_], [], [(0, .own (rI .u8) b_ false)], 2, .S 1, [], [(1, .own (rI .u8) r false), (0, .gone)]⟩ := by
  refine Fn.intro _ _ Tryz.func86 rfl (by kernel_rfl) rfl (fun E F w => ?_)
  unfold z86 at h
  refine WP.seq (WP.region (WPr.sil htt 1 rfl (WPr.nil (WP.seq (WP.seq (WP.region (WPr.sil htt 1 rfl (WPr.nil (?_)))))))))
  rcases oc h with ⟨hc, h⟩ | ⟨hc, h⟩
  · refine WP.condT hc rfl (WP.seq (WP.region (WPr.silx [1, 2, 3] ⟨[(6, .S 0)], [(0, .own (rI .u8) b_ false)], [], 1⟩ htt 1 (by kernel_rfl) (WPr.bs (cs := [.i .u8 (1 : Int)]) (oI .u8) htt ([(1 : Int)] : List Int) rfl rfl rfl rfl rfl rfl (by kernel_rfl) (by exact (an rfl rfl)) rfl (?_)))))
    obtain ⟨x1, hx1, h⟩ := ob h
    refine WPr.app htt hx1 (by exact (srcO rfl)) rfl rfl rfl rfl rfl rfl rfl rfl rfl rfl (WPr.silx [] ⟨[(4, .S 2)], [(2, .own (rI .u8) x1 false)], [], 3⟩ htt 1 (by kernel_rfl) (WPr.nil (?_)))
    cases h
    exact WP.ret htt Tryz.func86 [(1, .sl 2)] rfl rfl rfl rfl
  refine WP.condF hc rfl (WP.skip (WP.seq (WP.region (WPr.silx [1, 2, 3] ⟨[(9, .S 0)], [(0, .own (rI .u8) b_ false)], [], 1⟩ htt 1 (by kernel_rfl) (WPr.bs (cs := [.i .u8 (0 : Int)]) (oI .u8) htt ([(0 : Int)] : List Int) rfl rfl rfl rfl rfl rfl (by kernel_rfl) (by exact (an rfl rfl)) rfl (?_))))))
  obtain ⟨x2, hx2, h⟩ := ob h
  refine WPr.app htt hx2 (by exact (srcO rfl)) rfl rfl rfl rfl rfl rfl rfl rfl rfl rfl (WPr.silx [] ⟨[(4, .S 2)], [(2, .own (rI .u8) x2 false)], [], 3⟩ htt 1 (by kernel_rfl) (WPr.nil (?_)))
  cases h
  exact WP.ret htt Tryz.func86 [(1, .sl 2)] rfl rfl rfl rfl
theorem z37_ct (N : Nat) (g_ : T4) (r : (List Int)) (h : z37 N g_ = some r) :
  Fn Tryz.prog 37 ⟨4, [.a (cC4 0 1 2 3 g_)], (vV4 0 1 2 3 g_ []), [], 5, .S 4, [], [(4, .own (rI .u8) r true)]⟩ := by
  refine Fn.intro _ _ Tryz.func37 rfl (by kernel_rfl) rfl (fun E F w => ?_)
  unfold z37 at h
  refine WP.seq (WP.region (WPr.sil htt 2 rfl (WPr.nil (WP.seq (WP.seq (WP.region (WPr.silx [1, 2] ⟨[(1, .B 4 0), (2, .c .nil), (12, .a (cC4 0 1 2 3 g_))], [(4, .box (cC4 0 1 2 3 g_) 27)], (vV4 0 1 2 3 g_ []), 5⟩ htt 1 (by kernel_rfl) (?_))))))))
  obtain ⟨x1, hx1, h⟩ := ob h
  refine WPr.call (z22_ct N g_ _ hx1) [(0, .sl 0), (1, .sl 1), (2, .sl 2), (3, .sl 3)] [] rfl rfl rfl rfl rfl rfl rfl rfl (.inl rfl) rfl (WPr.silx [] ⟨[(1, .B 4 0), (2, .c .nil), (14, .O (!x1))], [(4, .box (cC4 0 1 2 3 g_) 27)], (vV4 0 1 2 3 g_ []), 5⟩ htt 1 (by kernel_rfl) (WPr.nil (?_)))
  rcases oc h with ⟨hc, h⟩ | ⟨hc, h⟩
  · refine WP.condT hc rfl (WP.seq (WP.region (WPr.sil htt 1 rfl (WPr.nil (?_)))))
    cases h
    exact WP.ret htt Tryz.func37 [(4, .nil)] rfl rfl rfl rfl
  refine WP.condF hc rfl (WP.skip (WP.seq (WP.nm (fun A1 tA1 fA1 => ?_))))
  have st2 : A1 0 ⟨[(1, .B 4 0)], [], [], [], 5, [(15, .B 4 0)], [], [], 5⟩ := tA1 _ _ (LS.sil htt rfl rfl rfl rfl rfl rfl)
  have st3 : A1 1 ⟨[(15, .B 4 0)], (vV4 0 1 2 3 g_ []), [], [(4, .box (cC4 0 1 2 3 g_) 27)], 5, [(16, .c (.s g_.Name))], [], [], 5⟩ := tA1 _ _ (LS.sil htt rfl rfl rfl rfl rfl rfl)
  obtain ⟨x4, hx4, h⟩ := ob h
  have st5 : A1 2 ⟨[(16, .c (.s g_.Name))], [], [], [], 5, [(17, .S 5)], [], [(5, .own (rI .u8) x4 true)], 6⟩ := tA1 _ _ (LS.of rfl rfl rfl (fun _ _ _ _ _ _ _ k => WPr.call (z83_ct N ([] : List Int) g_.Name _ hx4) [(0, .nil)] [] rfl rfl rfl rfl rfl rfl rfl rfl (.inl rfl) rfl (k)) rfl)
  have st6 : A1 3 ⟨[(1, .B 4 0)], [], [], [], 6, [(18, .B 4 1)], [], [], 6⟩ := tA1 _ _ (LS.sil htt rfl rfl rfl rfl rfl rfl)
  have st7 : A1 4 ⟨[(18, .B 4 1)], (vV4 0 1 2 3 g_ []), [], [(4, .box (cC4 0 1 2 3 g_) 27)], 6, [(19, .S 0)], [], [], 6⟩ := tA1 _ _ (LS.sil htt rfl rfl rfl rfl rfl rfl)
  have st8 : A1 5 ⟨[(19, .S 0)], [(0, .sl rS g_.Roles)], [], [], 6, [(20, .I (g_.Roles.length : Int))], [], [], 6⟩ := tA1 _ _ (LS.sil htt rfl rfl rfl rfl rfl rfl)
  obtain ⟨x9, hx9, h⟩ := ob h
  have st10 : A1 6 ⟨[(17, .S 5), (20, .I (g_.Roles.length : Int))], [], [(5, .own (rI .u8) x4 true)], [], 6, [(21, .S 6)], [], [(5, .gone), (6, .own (rI .u8) x9 true)], 7⟩ := tA1 _ _ (LS.of rfl rfl rfl (fun _ _ _ _ _ _ _ k => WPr.call (z82_ct N x4 (g_.Roles.length : Int) _ hx9) [(0, .sl 5)] [] rfl rfl rfl rfl rfl rfl rfl rfl (.inl rfl) rfl (k)) rfl)
  have st11 : A1 7 ⟨[(21, .S 6)], [], [], [], 7, [(3, .S 6)], [], [], 7⟩ := tA1 _ _ (LS.sil htt rfl rfl rfl rfl rfl rfl)
  refine WP.regionD (t := ⟨[(1, .B 4 0), (2, .c .nil), (3, .S 6)], [(4, .box (cC4 0 1 2 3 g_) 27), (6, .own (rI .u8) x9 true)], (vV4 0 1 2 3 g_ []), 7⟩) [0, 1, 3, 0, 8, 24, 63, 127] (.cons (fA1 _ _ st2) (.cons (fA1 _ _ st3) (.cons (fA1 _ _ st5) (.cons (fA1 _ _ st6) (.cons (fA1 _ _ st7) (.cons (fA1 _ _ st8) (.cons (fA1 _ _ st10) (.cons (fA1 _ _ st11) .nil)))))))) (by kernel_rfl) (by kernel_rfl) (by kernel_rfl) (by kernel_rfl) (WP.seq (WP.seq (WP.region (WPr.silx [] ⟨[(1, .B 4 0), (2, .c .nil), (3, .S 6), (23, .S 0), (24, .I (g_.Roles.length : Int)), (25, .I (0 : Int))], [(4, .box (cC4 0 1 2 3 g_) 27), (6, .own (rI .u8) x9 true)], (vV4 0 1 2 3 g_ []), 7⟩ htt 4 (by kernel_rfl) (WPr.nil (?_))))))
  refine WP.cut (σ := (List Int)) (fun st => ⟨[(1, .B 4 0), (3, .S 7)], [(4, .box (cC4 0 1 2 3 g_) 27), (7, .own (rI .u8) st true)], (vV4 0 1 2 3 g_ []), 8⟩) (fun st => z37_k7 N g_ st = some r) ?_ (fun j1 => ?_)
  · intro v3_1 h
    replace h : z37_k7 N g_ v3_1 = some r := h
    unfold z37_k7 at h
    refine WP.seq (WP.region (WPr.silx [4, 5] ⟨[(1, .B 4 0), (33, .S 7), (36, .I (g_.Decls.length : Int))], [(4, .box (cC4 0 1 2 3 g_) 27), (7, .own (rI .u8) v3_1 true)], (vV4 0 1 2 3 g_ []), 8⟩ htt 4 (by kernel_rfl) (?_)))
    obtain ⟨x20, hx20, h⟩ := ob h
    refine WPr.call (z82_ct N v3_1 (g_.Decls.length : Int) _ hx20) [(0, .sl 7)] [] rfl rfl rfl rfl rfl rfl rfl rfl (.inl rfl) rfl (WPr.silx [] ⟨[(1, .B 4 0), (3, .S 8)], [(4, .box (cC4 0 1 2 3 g_) 27), (8, .own (rI .u8) x20 true)], (vV4 0 1 2 3 g_ []), 9⟩ htt 1 (by kernel_rfl) (WPr.nil (WP.seq (WP.seq (WP.region (WPr.silx [] ⟨[(1, .B 4 0), (3, .S 8), (39, .S 1), (40, .I (g_.Decls.length : Int)), (41, .I (0 : Int))], [(4, .box (cC4 0 1 2 3 g_) 27), (8, .own (rI .u8) x20 true)], (vV4 0 1 2 3 g_ []), 9⟩ htt 4 (by kernel_rfl) (WPr.nil (?_))))))))
    refine WP.cut (σ := (List Int)) (fun st => ⟨[(1, .B 4 0), (3, .S 9)], [(4, .box (cC4 0 1 2 3 g_) 27), (9, .own (rI .u8) st true)], (vV4 0 1 2 3 g_ []), 10⟩) (fun st => z37_k5 N g_ st = some r) ?_ (fun j3 => ?_)
    · intro v3_3 h
      replace h : z37_k5 N g_ v3_3 = some r := h
      unfold z37_k5 at h
      refine WP.seq (WP.region (WPr.silx [10, 11, 12] ⟨[(1, .B 4 0), (49, .S 9), (51, .I g_.States), (53, .I g_.Start), (55, .I g_.End), (58, .I (g_.Edges.length : Int))], [(4, .box (cC4 0 1 2 3 g_) 27), (9, .own (rI .u8) v3_3 true)], (vV4 0 1 2 3 g_ []), 10⟩ htt 10 (by kernel_rfl) (WPr.bs (cs := [.I g_.States, .I g_.Start, .I g_.End, .I (g_.Edges.length : Int)]) (oI .i64) htt ([g_.States, g_.Start, g_.End, (g_.Edges.length : Int)] : List Int) rfl rfl rfl rfl rfl rfl (by kernel_rfl) (by exact (an rfl (an rfl (an rfl (an rfl rfl))))) rfl (?_))))
      obtain ⟨x29, hx29, h⟩ := ob h
      refine WPr.call (z85_ct N v3_3 ([g_.States, g_.Start, g_.End, (g_.Edges.length : Int)] : List Int) _ hx29) [(0, .sl 9), (1, .sl 10)] [10] rfl rfl rfl rfl rfl rfl rfl rfl (.inr ⟨rfl, ⟨(rI_flat _), trivial⟩⟩) rfl (WPr.silx [] ⟨[(1, .B 4 0), (3, .S 11)], [(4, .box (cC4 0 1 2 3 g_) 27), (11, .own (rI .u8) x29 true)], (vV4 0 1 2 3 g_ []), 12⟩ htt 1 (by kernel_rfl) (WPr.nil (WP.seq (WP.seq (WP.region (WPr.silx [] ⟨[(1, .B 4 0), (3, .S 11), (62, .S 2), (63, .I (g_.Edges.length : Int)), (64, .I (0 : Int))], [(4, .box (cC4 0 1 2 3 g_) 27), (11, .own (rI .u8) x29 true)], (vV4 0 1 2 3 g_ []), 12⟩ htt 4 (by kernel_rfl) (WPr.nil (?_))))))))
      refine WP.cut (σ := (List Int)) (fun st => ⟨[(1, .B 4 0), (3, .S 12)], [(4, .box (cC4 0 1 2 3 g_) 27), (12, .own (rI .u8) st true)], (vV4 0 1 2 3 g_ []), 13⟩) (fun st => z37_k3 N g_ st = some r) ?_ (fun j5 => ?_)
      · intro v3_5 h
        replace h : z37_k3 N g_ v3_5 = some r := h
        unfold z37_k3 at h
        refine WP.seq (WP.region (WPr.silx [4, 5] ⟨[(1, .B 4 0), (88, .S 12), (91, .I (g_.Timeouts.length : Int))], [(4, .box (cC4 0 1 2 3 g_) 27), (12, .own (rI .u8) v3_5 true)], (vV4 0 1 2 3 g_ []), 13⟩ htt 4 (by kernel_rfl) (?_)))
        obtain ⟨x122, hx122, h⟩ := ob h
        refine WPr.call (z82_ct N v3_5 (g_.Timeouts.length : Int) _ hx122) [(0, .sl 12)] [] rfl rfl rfl rfl rfl rfl rfl rfl (.inl rfl) rfl (WPr.silx [] ⟨[(1, .B 4 0), (3, .S 13)], [(4, .box (cC4 0 1 2 3 g_) 27), (13, .own (rI .u8) x122 true)], (vV4 0 1 2 3 g_ []), 14⟩ htt 1 (by kernel_rfl) (WPr.nil (WP.seq (WP.seq (WP.region (WPr.silx [] ⟨[(3, .S 13), (94, .S 3), (95, .I (g_.Timeouts.length : Int)), (96, .I (0 : Int))], [(13, .own (rI .u8) x122 true)], (vV4 0 1 2 3 g_ []), 14⟩ htt 4 (by kernel_rfl) (WPr.nil (?_))))))))
        refine WP.cut (σ := (List Int)) (fun st => ⟨[(3, .S 14)], [(14, .own (rI .u8) st true)], (vV4 0 1 2 3 g_ []), 15⟩) (fun st => z37_k1 st = some r) ?_ (fun j7 => ?_)
        · intro v3_7 h
          replace h : z37_k1 v3_7 = some r := h
          unfold z37_k1 at h
          refine WP.seq (WP.region (WPr.sil htt 2 rfl (WPr.nil (?_))))
          cases h
          exact WP.ret htt Tryz.func37 [(4, .sl 14)] rfl rfl rfl rfl
        refine WP.block (?_)
        refine WP.loopI (σ := (List Int) × Int) (fun st => ⟨[(3, .S 14), (94, .S 3), (95, .I (g_.Timeouts.length : Int)), (96, .I st.2)], [(14, .own (rI .u8) st.1 true)], (vV4 0 1 2 3 g_ []), 15⟩) (fun n st => z37_l2 N g_ n st.1 st.2) (r := r) (fun _ => rfl) ?_ (fun ih => ?_)
        · intro n5 ih9
          rintro ⟨v3_9, v96_9⟩ h
          replace h : z37_l2 N g_ (n5 + 1) v3_9 v96_9 = some r := h
          unfold z37_l2 at h
          refine WP.seq (WP.region (WPr.sil htt 1 rfl (WPr.nil (WP.seq (?_)))))
          rcases oc' h with ⟨hc, h⟩ | ⟨hc, h⟩
          · exact WP.condF hc rfl (WP.exit rfl (WP.sub [] (j7 v3_9 h) rfl rfl rfl rfl))
          refine WP.condT hc rfl (WP.skip (WP.seq (WP.block (WP.seq (WP.region (?_))))))
          obtain ⟨x139, hx139, h⟩ := ob h
          refine WPr.ix oO8 htt hx139 rfl rfl rfl rfl rfl rfl rfl rfl rfl (WPr.silx [] ⟨[(3, .S 14), (11, .B 16 0), (94, .S 3), (95, .I (g_.Timeouts.length : Int)), (96, .I v96_9)], [(14, .own (rI .u8) v3_9 true), (16, .box (cC8 x139) 79)], (vV4 0 1 2 3 g_ []), 17⟩ htt 3 (by kernel_rfl) (WPr.nil (WP.region (WPr.silx [7, 8, 9] ⟨[(94, .S 3), (95, .I (g_.Timeouts.length : Int)), (96, .I v96_9), (100, .S 14), (102, .I x139.State), (104, .I x139.Ticks), (106, .I x139.Else)], [(14, .own (rI .u8) v3_9 true)], (vV4 0 1 2 3 g_ []), 17⟩ htt 7 (by kernel_rfl) (WPr.bs (cs := (cC8 x139)) (oI .i64) htt ([x139.State, x139.Ticks, x139.Else] : List Int) rfl rfl rfl rfl rfl rfl (by kernel_rfl) (by exact (an rfl (an rfl (an rfl rfl)))) rfl (?_))))))
          obtain ⟨x140, hx140, h⟩ := ob h
          exact WPr.call (z85_ct N v3_9 ([x139.State, x139.Ticks, x139.Else] : List Int) _ hx140) [(0, .sl 14), (1, .sl 17)] [17] rfl rfl rfl rfl rfl rfl rfl rfl (.inr ⟨rfl, ⟨(rI_flat _), trivial⟩⟩) rfl (WPr.silx [] ⟨[(3, .S 18), (94, .S 3), (95, .I (g_.Timeouts.length : Int)), (96, .I v96_9)], [(18, .own (rI .u8) x140 true)], (vV4 0 1 2 3 g_ []), 19⟩ htt 1 (by kernel_rfl) (WPr.nil (WP.inBlock (WP.region (WPr.sil htt 2 rfl (WPr.nil (WP.sub [(14, .sl 18)] (ih9 (x140, (w64 (v96_9 + (1 : Int)))) h) rfl rfl rfl rfl)))))))
        exact WP.sub [(14, .sl 13)] (ih N (x122, (0 : Int)) h) rfl rfl rfl rfl
      refine WP.block (?_)
      refine WP.loopI (σ := (List Int) × Int) (fun st => ⟨[(1, .B 4 0), (3, .S 12), (62, .S 2), (63, .I (g_.Edges.length : Int)), (64, .I st.2)], [(4, .box (cC4 0 1 2 3 g_) 27), (12, .own (rI .u8) st.1 true)], (vV4 0 1 2 3 g_ []), 13⟩) (fun n st => z37_l4 N g_ n st.1 st.2) (r := r) (fun _ => rfl) ?_ (fun ih => ?_)
      · intro n6 ih10
        rintro ⟨v3_10, v64_10⟩ h
        replace h : z37_l4 N g_ (n6 + 1) v3_10 v64_10 = some r := h
        unfold z37_l4 at h
        refine WP.seq (WP.region (WPr.sil htt 1 rfl (WPr.nil (WP.seq (?_)))))
        rcases oc' h with ⟨hc, h⟩ | ⟨hc, h⟩
        · exact WP.condF hc rfl (WP.exit rfl (WP.sub [] (j5 v3_10 h) rfl rfl rfl rfl))
        refine WP.condT hc rfl (WP.skip (WP.seq (WP.block (WP.seq (WP.region (?_))))))
        obtain ⟨x233, hx233, h⟩ := ob h
        refine WPr.ix oO2 htt hx233 rfl rfl rfl rfl rfl rfl rfl rfl rfl (WPr.silx [] ⟨[(1, .B 4 0), (3, .S 12), (9, .B 14 0), (62, .S 2), (63, .I (g_.Edges.length : Int)), (64, .I v64_10)], [(4, .box (cC4 0 1 2 3 g_) 27), (12, .own (rI .u8) v3_10 true), (14, .box (cC2 x233) 43)], (vV4 0 1 2 3 g_ []), 15⟩ htt 3 (by kernel_rfl) (WPr.nil (WP.nm (fun A10 tA10 fA10 => ?_))))
        have st234 : A10 0 ⟨[(3, .S 12)], [], [], [], 15, [(68, .S 12)], [], [], 15⟩ := tA10 _ _ (LS.sil htt rfl rfl rfl rfl rfl rfl)
        have st235 : A10 1 ⟨[(9, .B 14 0)], [], [], [], 15, [(69, .B 14 0)], [], [], 15⟩ := tA10 _ _ (LS.sil htt rfl rfl rfl rfl rfl rfl)
        have st236 : A10 2 ⟨[(69, .B 14 0)], [], [], [(14, .box (cC2 x233) 43)], 15, [(70, .I x233.From)], [], [], 15⟩ := tA10 _ _ (LS.sil htt rfl rfl rfl rfl rfl rfl)
        have st237 : A10 3 ⟨[(9, .B 14 0)], [], [], [], 15, [(71, .B 14 1)], [], [], 15⟩ := tA10 _ _ (LS.sil htt rfl rfl rfl rfl rfl rfl)
        have st238 : A10 4 ⟨[(71, .B 14 1)], [], [], [], 15, [(72, .B 14 1)], [], [], 15⟩ := tA10 _ _ (LS.sil htt rfl rfl rfl rfl rfl rfl)
        have st239 : A10 5 ⟨[(72, .B 14 1)], [], [], [(14, .box (cC2 x233) 43)], 15, [(73, .I x233.Act.From)], [], [], 15⟩ := tA10 _ _ (LS.sil htt rfl rfl rfl rfl rfl rfl)
        have st240 : A10 6 ⟨[(9, .B 14 0)], [], [], [], 15, [(74, .B 14 1)], [], [], 15⟩ := tA10 _ _ (LS.sil htt rfl rfl rfl rfl rfl rfl)
        have st241 : A10 7 ⟨[(74, .B 14 1)], [], [], [], 15, [(75, .B 14 2)], [], [], 15⟩ := tA10 _ _ (LS.sil htt rfl rfl rfl rfl rfl rfl)
        have st242 : A10 8 ⟨[(75, .B 14 2)], [], [], [(14, .box (cC2 x233) 43)], 15, [(76, .I x233.Act.To)], [], [], 15⟩ := tA10 _ _ (LS.sil htt rfl rfl rfl rfl rfl rfl)
        have st243 : A10 9 ⟨[(9, .B 14 0)], [], [], [], 15, [(77, .B 14 1)], [], [], 15⟩ := tA10 _ _ (LS.sil htt rfl rfl rfl rfl rfl rfl)
        have st244 : A10 10 ⟨[(77, .B 14 1)], [], [], [], 15, [(78, .B 14 3)], [], [], 15⟩ := tA10 _ _ (LS.sil htt rfl rfl rfl rfl rfl rfl)
        have st245 : A10 11 ⟨[(78, .B 14 3)], [], [], [(14, .box (cC2 x233) 43)], 15, [(79, .I x233.Act.Label)], [], [], 15⟩ := tA10 _ _ (LS.sil htt rfl rfl rfl rfl rfl rfl)
        have st246 : A10 12 ⟨[(9, .B 14 0)], [], [], [], 15, [(80, .B 14 4)], [], [], 15⟩ := tA10 _ _ (LS.sil htt rfl rfl rfl rfl rfl rfl)
        have st247 : A10 13 ⟨[(80, .B 14 4)], [], [], [(14, .box (cC2 x233) 43)], 15, [(81, .I x233.To)], [], [], 15⟩ := tA10 _ _ (LS.sil htt rfl rfl rfl rfl rfl rfl)
        have st248 : A10 14 ⟨[(70, .I x233.From), (73, .I x233.Act.From), (76, .I x233.Act.To), (79, .I x233.Act.Label), (81, .I x233.To)], [], [], [], 15, [(82, .S 15)], [], [(15, .own (rI .i64) ([x233.From, x233.Act.From, x233.Act.To, x233.Act.Label, x233.To] : List Int) true)], 16⟩ := tA10 _ _ (LS.of rfl rfl rfl (fun _ _ _ _ _ _ _ k => WPr.bs (cs := [.I x233.From, .I x233.Act.From, .I x233.Act.To, .I x233.Act.Label, .I x233.To]) (oI .i64) htt ([x233.From, x233.Act.From, x233.Act.To, x233.Act.Label, x233.To] : List Int) rfl rfl rfl rfl rfl rfl (by kernel_rfl) (by exact (an rfl (an rfl (an rfl (an rfl (an rfl rfl)))))) rfl (k)) rfl)
        obtain ⟨x249, hx249, h⟩ := ob h
        have st250 : A10 15 ⟨[(68, .S 12), (82, .S 15)], [], [(12, .own (rI .u8) v3_10 true)], [(15, .own (rI .i64) ([x233.From, x233.Act.From, x233.Act.To, x233.Act.Label, x233.To] : List Int) true)], 16, [(83, .S 16)], [], [(12, .gone), (16, .own (rI .u8) x249 true)], 17⟩ := tA10 _ _ (LS.of rfl rfl rfl (fun _ _ _ _ _ _ _ k => WPr.call (z85_ct N v3_10 ([x233.From, x233.Act.From, x233.Act.To, x233.Act.Label, x233.To] : List Int) _ hx249) [(0, .sl 12), (1, .sl 15)] [15] rfl rfl rfl rfl rfl rfl rfl rfl (.inr ⟨rfl, ⟨(rI_flat _), trivial⟩⟩) rfl (k)) rfl)
        have st251 : A10 16 ⟨[(9, .B 14 0)], [], [], [], 17, [(84, .B 14 5)], [], [], 17⟩ := tA10 _ _ (LS.sil htt rfl rfl rfl rfl rfl rfl)
        have st252 : A10 17 ⟨[(84, .B 14 5)], [], [], [(14, .box (cC2 x233) 43)], 17, [(85, .O x233.Again)], [], [], 17⟩ := tA10 _ _ (LS.sil htt rfl rfl rfl rfl rfl rfl)
        obtain ⟨x253, hx253, h⟩ := ob h
        have st254 : A10 18 ⟨[(83, .S 16), (85, .O x233.Again)], [], [(16, .own (rI .u8) x249 true)], [], 17, [(86, .S 17)], [], [(16, .gone), (17, .own (rI .u8) x253 true)], 18⟩ := tA10 _ _ (LS.of rfl rfl rfl (fun _ _ _ _ _ _ _ k => WPr.call (z86_ct N x249 x233.Again _ hx253) [(0, .sl 16)] [] rfl rfl rfl rfl rfl rfl rfl rfl (.inl rfl) rfl (k)) rfl)
        have st255 : A10 19 ⟨[(86, .S 17)], [], [], [], 18, [(3, .S 17)], [], [], 18⟩ := tA10 _ _ (LS.sil htt rfl rfl rfl rfl rfl rfl)
        exact WP.regionD (t := ⟨[(1, .B 4 0), (3, .S 17), (62, .S 2), (63, .I (g_.Edges.length : Int)), (64, .I v64_10)], [(4, .box (cC4 0 1 2 3 g_) 27), (17, .own (rI .u8) x253 true)], (vV4 0 1 2 3 g_ []), 18⟩) [0, 0, 2, 0, 8, 24, 0, 64, 192, 0, 512, 1536, 0, 4096, 16382, 32767, 0, 65536, 262143, 524287] (.cons (fA10 _ _ st234) (.cons (fA10 _ _ st235) (.cons (fA10 _ _ st236) (.cons (fA10 _ _ st237) (.cons (fA10 _ _ st238) (.cons (fA10 _ _ st239) (.cons (fA10 _ _ st240) (.cons (fA10 _ _ st241) (.cons (fA10 _ _ st242) (.cons (fA10 _ _ st243) (.cons (fA10 _ _ st244) (.cons (fA10 _ _ st245) (.cons (fA10 _ _ st246) (.cons (fA10 _ _ st247) (.cons (fA10 _ _ st248) (.cons (fA10 _ _ st250) (.cons (fA10 _ _ st251) (.cons (fA10 _ _ st252) (.cons (fA10 _ _ st254) (.cons (fA10 _ _ st255) .nil)))))))))))))))))))) (by kernel_rfl) (by kernel_rfl) (by kernel_rfl) (by kernel_rfl) (WP.inBlock (WP.region (WPr.sil htt 2 rfl (WPr.nil (WP.sub [(12, .sl 17)] (ih10 (x253, (w64 (v64_10 + (1 : Int)))) h) rfl rfl rfl rfl)))))
      exact WP.sub [(12, .sl 11)] (ih N (x29, (0 : Int)) h) rfl rfl rfl rfl
    refine WP.block (?_)
    refine WP.loopI (σ := (List Int) × Int) (fun st => ⟨[(1, .B 4 0), (3, .S 9), (39, .S 1), (40, .I (g_.Decls.length : Int)), (41, .I st.2)], [(4, .box (cC4 0 1 2 3 g_) 27), (9, .own (rI .u8) st.1 true)], (vV4 0 1 2 3 g_ []), 10⟩) (fun n st => z37_l6 N g_ n st.1 st.2) (r := r) (fun _ => rfl) ?_ (fun ih => ?_)
    · intro n7 ih11
      rintro ⟨v3_11, v41_11⟩ h
      replace h : z37_l6 N g_ (n7 + 1) v3_11 v41_11 = some r := h
      unfold z37_l6 at h
      refine WP.seq (WP.region (WPr.sil htt 1 rfl (WPr.nil (WP.seq (?_)))))
      rcases oc' h with ⟨hc, h⟩ | ⟨hc, h⟩
      · exact WP.condF hc rfl (WP.exit rfl (WP.sub [] (j3 v3_11 h) rfl rfl rfl rfl))
      refine WP.condT hc rfl (WP.skip (WP.seq (WP.block (WP.seq (WP.region (?_))))))
      obtain ⟨x264, hx264, h⟩ := ob h
      refine WPr.ix oO0 htt hx264 rfl rfl rfl rfl rfl rfl rfl rfl rfl (WPr.silx [] ⟨[(1, .B 4 0), (3, .S 9), (7, .B 14 0), (39, .S 1), (40, .I (g_.Decls.length : Int)), (41, .I v41_11)], [(4, .box (cC4 0 1 2 3 g_) 27), (9, .own (rI .u8) v3_11 true), (14, .box (cC0 11 12 13 x264) 94)], (vV4 0 1 2 3 g_ (vV0 11 12 13 x264 [])), 15⟩ htt 3 (by kernel_rfl) (WPr.nil (WP.region (WPr.sil htt 2 rfl (?_)))))
      obtain ⟨x265, hx265, h⟩ := ob h
      exact WPr.call (z84_ct N v3_11 x264 _ hx265) [(0, .sl 9), (1, .sl 11), (2, .sl 12), (3, .sl 13)] [] rfl rfl rfl rfl rfl rfl rfl rfl (.inl rfl) rfl (WPr.silx [] ⟨[(1, .B 4 0), (3, .S 15), (39, .S 1), (40, .I (g_.Decls.length : Int)), (41, .I v41_11)], [(4, .box (cC4 0 1 2 3 g_) 27), (15, .own (rI .u8) x265 true)], (vV4 0 1 2 3 g_ []), 16⟩ htt 1 (by kernel_rfl) (WPr.nil (WP.inBlock (WP.region (WPr.sil htt 2 rfl (WPr.nil (WP.sub [(9, .sl 15)] (ih11 (x265, (w64 (v41_11 + (1 : Int)))) h) rfl rfl rfl rfl)))))))
    exact WP.sub [(9, .sl 8)] (ih N (x20, (0 : Int)) h) rfl rfl rfl rfl
  refine WP.block (?_)
  refine WP.loopI (σ := (List Int) × Int) (fun st => ⟨[(1, .B 4 0), (3, .S 7), (23, .S 0), (24, .I (g_.Roles.length : Int)), (25, .I st.2)], [(4, .box (cC4 0 1 2 3 g_) 27), (7, .own (rI .u8) st.1 true)], (vV4 0 1 2 3 g_ []), 8⟩) (fun n st => z37_l8 N g_ n st.1 st.2) (r := r) (fun _ => rfl) ?_ (fun ih => ?_)
  · intro n8 ih12
    rintro ⟨v3_12, v25_12⟩ h
    replace h : z37_l8 N g_ (n8 + 1) v3_12 v25_12 = some r := h
    unfold z37_l8 at h
    refine WP.seq (WP.region (WPr.sil htt 1 rfl (WPr.nil (WP.seq (?_)))))
    rcases oc' h with ⟨hc, h⟩ | ⟨hc, h⟩
    · exact WP.condF hc rfl (WP.exit rfl (WP.sub [] (j1 v3_12 h) rfl rfl rfl rfl))
    refine WP.condT hc rfl (WP.skip (WP.seq (WP.block (WP.seq (WP.region (?_))))))
    obtain ⟨x274, hx274, h⟩ := ob h
    refine WPr.ix oS htt hx274 rfl rfl rfl rfl rfl rfl rfl rfl rfl (WPr.silx [] ⟨[(1, .B 4 0), (3, .S 7), (5, .c (.s x274)), (23, .S 0), (24, .I (g_.Roles.length : Int)), (25, .I v25_12)], [(4, .box (cC4 0 1 2 3 g_) 27), (7, .own (rI .u8) v3_12 true)], (vV4 0 1 2 3 g_ []), 9⟩ htt 2 (by kernel_rfl) (WPr.nil (WP.region (WPr.sil htt 2 rfl (?_)))))
    obtain ⟨x275, hx275, h⟩ := ob h
    exact WPr.call (z83_ct N v3_12 x274 _ hx275) [(0, .sl 7)] [] rfl rfl rfl rfl rfl rfl rfl rfl (.inl rfl) rfl (WPr.silx [] ⟨[(1, .B 4 0), (3, .S 9), (23, .S 0), (24, .I (g_.Roles.length : Int)), (25, .I v25_12)], [(4, .box (cC4 0 1 2 3 g_) 27), (9, .own (rI .u8) x275 true)], (vV4 0 1 2 3 g_ []), 10⟩ htt 1 (by kernel_rfl) (WPr.nil (WP.inBlock (WP.region (WPr.sil htt 2 rfl (WPr.nil (WP.sub [(7, .sl 9)] (ih12 (x275, (w64 (v25_12 + (1 : Int)))) h) rfl rfl rfl rfl)))))))
  exact WP.sub [(7, .sl 6)] (ih N (x9, (0 : Int)) h) rfl rfl rfl rfl
theorem z127_ct (N : Nat) (seed_ : Int) (b_ : (List Int)) (r : Int) (h : z127 N seed_ b_ = some r) :
  Fn Tryz.prog 127 ⟨1, [.c (.i .u64 seed_), .S 0], [(0, .sl (rI .u8) b_)], [], 1, .c (.i .u64 r), [], []⟩ := by
  refine Fn.intro _ _ Tryz.func127 rfl (by kernel_rfl) rfl (fun E F w => ?_)
  unfold z127 at h
  refine WP.seq (WP.region (WPr.sil htt 1 rfl (WPr.nil (WP.seq (WP.seq (WP.region (WPr.silx [] ⟨[(0, .c (.i .u64 seed_)), (4, .c (.i .u64 (0 : Int))), (7, .S 0), (8, .I (b_.length : Int)), (9, .I (0 : Int))], [], [(0, .sl (rI .u8) b_)], 1⟩ htt 3 (by kernel_rfl) (WPr.nil (?_)))))))))
  refine WP.cut (σ := Int) (fun st => ⟨[(0, .c (.i .u64 st))], [], [(0, .sl (rI .u8) b_)], 1⟩) (fun st => z127_k1 st = some r) ?_ (fun j1 => ?_)
  · intro v0_1 h
    replace h : z127_k1 v0_1 = some r := h
    unfold z127_k1 at h
    refine WP.seq (WP.region (WPr.sil htt 2 rfl (WPr.nil (?_))))
    cases h
    exact WP.ret htt Tryz.func127 [] rfl rfl rfl rfl
  refine WP.block (?_)
  refine WP.loopI (σ := Int × Int) (fun st => ⟨[(0, .c (.i .u64 st.1)), (7, .S 0), (8, .I (b_.length : Int)), (9, .I st.2)], [], [(0, .sl (rI .u8) b_)], 1⟩) (fun n st => z127_l2 b_ n st.1 st.2) (r := r) (fun _ => rfl) ?_ (fun ih => ?_)
  · intro n2 ih3
    rintro ⟨v0_3, v9_3⟩ h
    replace h : z127_l2 b_ (n2 + 1) v0_3 v9_3 = some r := h
    unfold z127_l2 at h
    refine WP.seq (WP.region (WPr.sil htt 1 rfl (WPr.nil (WP.seq (?_)))))
    rcases oc' h with ⟨hc, h⟩ | ⟨hc, h⟩
    · exact WP.condF hc rfl (WP.exit rfl (WP.sub [] (j1 v0_3 h) rfl rfl rfl rfl))
    refine WP.condT hc rfl (WP.skip (WP.seq (WP.block (WP.seq (WP.region (?_))))))
    obtain ⟨x17, hx17, h⟩ := ob h
    refine WPr.ix (oI .u8) htt hx17 rfl rfl rfl rfl rfl rfl rfl rfl rfl (WPr.silx [] ⟨[(0, .c (.i .u64 v0_3)), (6, .c (.i .u8 x17)), (7, .S 0), (8, .I (b_.length : Int)), (9, .I v9_3)], [], [(0, .sl (rI .u8) b_)], 2⟩ htt 2 (by kernel_rfl) (WPr.nil (WP.region (WPr.silx [3, 4, 5] ⟨[(7, .S 0), (8, .I (b_.length : Int)), (9, .I v9_3), (13, .c (.i .u64 v0_3)), (15, .c (.i .u64 (wk .u64 (x17))))], [], [(0, .sl (rI .u8) b_)], 2⟩ htt 3 (by kernel_rfl) (?_)))))
    obtain ⟨x18, hx18, h⟩ := ob h
    exact WPr.bin hx18 rfl rfl rfl rfl rfl rfl rfl rfl (WPr.silx [] ⟨[(0, .c (.i .u64 (wk .u64 (x18 * (1099511628211 : Int))))), (7, .S 0), (8, .I (b_.length : Int)), (9, .I v9_3)], [], [(0, .sl (rI .u8) b_)], 2⟩ htt 2 (by kernel_rfl) (WPr.nil (WP.inBlock (WP.region (WPr.sil htt 2 rfl (WPr.nil (WP.sub [] (ih3 ((wk .u64 (x18 * (1099511628211 : Int))), (w64 (v9_3 + (1 : Int)))) h) rfl rfl rfl rfl)))))))
  exact WP.sub [] (ih N (seed_, (0 : Int)) h) rfl rfl rfl rfl
theorem z73_ct (N : Nat) (b_ : (List Int)) (r : Int) (h : z73 N b_ = some r) :
  Fn Tryz.prog 73 ⟨1, [.S 0], [(0, .sl (rI .u8) b_)], [], 1, .c (.i .u64 r), [], []⟩ := by
  refine Fn.intro _ _ Tryz.func73 rfl (by kernel_rfl) rfl (fun E F w => ?_)
  unfold z73 at h
  refine WP.seq (WP.region (WPr.sil htt 1 rfl (WPr.nil (WP.seq (WP.region (WPr.sil htt 1 rfl (?_)))))))
  obtain ⟨x1, hx1, h⟩ := ob h
  refine WPr.call (z127_ct N (14695981039346656037 : Int) b_ _ hx1) [(0, .sl 0)] [] rfl rfl rfl rfl rfl rfl rfl rfl (.inl rfl) rfl (WPr.silx [] ⟨[(2, .c (.i .u64 x1))], [], [(0, .sl (rI .u8) b_)], 1⟩ htt 1 (by kernel_rfl) (WPr.nil (?_)))
  cases h
  exact WP.ret htt Tryz.func73 [] rfl rfl rfl rfl
theorem z24_ct (N : Nat) (g_ : T4) (r : Int) (h : z24 N g_ = some r) :
  Fn Tryz.prog 24 ⟨4, [.a (cC4 0 1 2 3 g_)], (vV4 0 1 2 3 g_ []), [], 4, .c (.i .u64 r), [], []⟩ := by
  refine Fn.intro _ _ Tryz.func24 rfl (by kernel_rfl) rfl (fun E F w => ?_)
  unfold z24 at h
  refine WP.seq (WP.region (WPr.sil htt 2 rfl (WPr.nil (WP.seq (WP.region (WPr.silx (rg 1 7) ⟨[(2, .c (.i .u64 (0 : Int))), (6, .a (cC4 0 1 2 3 g_))], [], (vV4 0 1 2 3 g_ []), 5⟩ htt 1 (by kernel_rfl) (?_)))))))
  obtain ⟨x1, hx1, h⟩ := ob h
  refine WPr.call (z21_ct N g_ _ hx1) [(0, .sl 0), (1, .sl 1), (2, .sl 2), (3, .sl 3)] [] rfl rfl rfl rfl rfl rfl rfl rfl (.inl rfl) rfl (WPr.silx [] ⟨[(2, .c (.i .u64 (0 : Int))), (3, .B 9 0), (4, .I x1.2)], [(9, .box (cC4 5 6 7 8 x1.1) 27)], (vV4 0 1 2 3 g_ (vV4 5 6 7 8 x1.1 [])), 10⟩ htt 6 (by kernel_rfl) (WPr.nil (WP.seq (WP.seq (WP.region (WPr.sil htt 2 rfl (WPr.nil (?_))))))))
  rcases oc h with ⟨hc, h⟩ | ⟨hc, h⟩
  · refine WP.condT hc rfl (WP.seq (WP.region (WPr.silx [] ⟨[(2, .c (.i .u64 (0 : Int)))], [], (vV4 0 1 2 3 g_ []), 10⟩ htt 1 (by kernel_rfl) (WPr.nil (?_)))))
    cases h
    exact WP.ret htt Tryz.func24 [] rfl rfl rfl rfl
  refine WP.condF hc rfl (WP.skip (WP.seq (WP.region (WPr.silx [1, 2, 3] ⟨[(12, .a (cC4 5 6 7 8 x1.1))], [], (vV4 0 1 2 3 g_ (vV4 5 6 7 8 x1.1 [])), 10⟩ htt 1 (by kernel_rfl) (?_)))))
  obtain ⟨x2, hx2, h⟩ := ob h
  refine WPr.call (z37_ct N x1.1 _ hx2) [(0, .sl 5), (1, .sl 6), (2, .sl 7), (3, .sl 8)] [] rfl rfl rfl rfl rfl rfl rfl rfl (.inl rfl) rfl (WPr.silx [2, 3] ⟨[(13, .S 10)], [(10, .own (rI .u8) x2 true)], (vV4 0 1 2 3 g_ []), 11⟩ htt 0 (by kernel_rfl) (?_))
  obtain ⟨x3, hx3, h⟩ := ob h
  refine WPr.call (z73_ct N x2 _ hx3) [(0, .sl 10)] [10] rfl rfl rfl rfl rfl rfl rfl rfl (.inr ⟨rfl, trivial⟩) rfl (WPr.silx [] ⟨[(2, .c (.i .u64 x3))], [], (vV4 0 1 2 3 g_ []), 11⟩ htt 1 (by kernel_rfl) (WPr.nil (?_)))
  cases h
  exact WP.ret htt Tryz.func24 [] rfl rfl rfl rfl
theorem z12_ct (N : Nat) (r : Bool) (h : z12 N = some r) :
  Fn Tryz.prog 12 ⟨0, [], [], [], 0, .O r, [], []⟩ := by
  refine Fn.intro _ _ Tryz.func12 rfl (by kernel_rfl) rfl (fun E F w => ?_)
  unfold z12 at h
  refine WP.seq (WP.region (WPr.sil htt 1 rfl (WPr.nil (WP.seq (WP.region (?_))))))
  obtain ⟨x1, hx1, h⟩ := ob h
  refine WPr.call (z43_ct N _ hx1) [] [] rfl rfl rfl rfl rfl rfl rfl rfl (.inl rfl) rfl (WPr.silx [] ⟨[(0, .O false), (1, .B 4 0)], [(4, .box (cC4 0 1 2 3 x1) 27)], (vV4 0 1 2 3 x1 []), 5⟩ htt 2 (by kernel_rfl) (WPr.nil (WP.seq (WP.region (WPr.sil htt 1 rfl (?_))))))
  obtain ⟨x2, hx2, h⟩ := ob h
  refine WPr.call (z14_ct N x1 (3 : Int) _ hx2) [(0, .sl 0), (1, .sl 1), (2, .sl 2), (3, .sl 3)] [] rfl rfl rfl rfl rfl rfl rfl rfl (.inl rfl) rfl (WPr.silx [] ⟨[(0, .O false), (1, .B 4 0), (2, .S 5), (3, .I x2.2)], [(4, .box (cC4 0 1 2 3 x1) 27), (5, .own (rSl rR6) x2.1 true)], (vV4 0 1 2 3 x1 []), 6⟩ htt 5 (by kernel_rfl) (WPr.nil (WP.seq (WP.region (WPr.sil htt 2 rfl (?_))))))
  obtain ⟨x3, hx3, h⟩ := ob h
  refine WPr.call (z17_ct N x1 (0 : Int) (⟨(0 : Int), (1 : Int), (0 : Int)⟩ : T6) _ hx3) [(0, .sl 0), (1, .sl 1), (2, .sl 2), (3, .sl 3)] [] rfl rfl rfl rfl rfl rfl rfl rfl (.inl rfl) rfl (WPr.silx [] ⟨[(0, .O false), (1, .B 4 0), (2, .S 5), (3, .I x2.2), (4, .I x3.1), (5, .O x3.2)], [(4, .box (cC4 0 1 2 3 x1) 27), (5, .own (rSl rR6) x2.1 true)], (vV4 0 1 2 3 x1 []), 6⟩ htt 5 (by kernel_rfl) (WPr.nil (WP.seq (WP.region (WPr.sil htt 1 rfl (?_))))))
  obtain ⟨x4, hx4, h⟩ := ob h
  refine WPr.call (z22_ct N x1 _ hx4) [(0, .sl 0), (1, .sl 1), (2, .sl 2), (3, .sl 3)] [] rfl rfl rfl rfl rfl rfl rfl rfl (.inl rfl) rfl (WPr.silx (rg 3 38) ⟨[(1, .B 4 0), (2, .S 5), (3, .I x2.2), (4, .I x3.1), (5, .O x3.2), (20, .O x4)], [(4, .box (cC4 0 1 2 3 x1) 27), (5, .own (rSl rR6) x2.1 true)], (vV4 0 1 2 3 x1 []), 6⟩ htt 1 (by kernel_rfl) (?_))
  rcases oc' h with ⟨hc, h⟩ | ⟨hc, h⟩
  · refine WPr.kb 20 hc rfl (WPr.silx [] ⟨[(0, .O false)], [], [], 6⟩ htt 38 (by kernel_rfl) (WPr.nil (?_)))
    cases h
    exact WP.ret htt Tryz.func12 [] rfl rfl rfl rfl
  refine WPr.kb 20 hc rfl (WPr.silx (rg 7 34) ⟨[(1, .B 4 0), (2, .S 5), (4, .I x3.1), (5, .O x3.2), (24, .O (x2.2 == (0 : Int)))], [(4, .box (cC4 0 1 2 3 x1) 27), (5, .own (rSl rR6) x2.1 true)], (vV4 0 1 2 3 x1 []), 6⟩ htt 4 (by kernel_rfl) (?_))
  rcases oc' h with ⟨hc, h⟩ | ⟨hc, h⟩
  · refine WPr.kb 24 hc rfl (WPr.silx [] ⟨[(0, .O false)], [], [], 6⟩ htt 34 (by kernel_rfl) (WPr.nil (?_)))
    cases h
    exact WP.ret htt Tryz.func12 [] rfl rfl rfl rfl
  refine WPr.kb 24 hc rfl (WPr.silx (rg 12 29) ⟨[(1, .B 4 0), (2, .S 5), (4, .I x3.1), (5, .O x3.2), (29, .O ((x2.1.length : Int) == (2 : Int)))], [(4, .box (cC4 0 1 2 3 x1) 27), (5, .own (rSl rR6) x2.1 true)], (vV4 0 1 2 3 x1 []), 6⟩ htt 5 (by kernel_rfl) (?_))
  rcases oc' h with ⟨hc, h⟩ | ⟨hc, h⟩
  · refine WPr.kb 29 hc rfl (WPr.silx [] ⟨[(0, .O false)], [], [], 6⟩ htt 29 (by kernel_rfl) (WPr.nil (?_)))
    cases h
    exact WP.ret htt Tryz.func12 [] rfl rfl rfl rfl
  refine WPr.kb 29 hc rfl (WPr.sil htt 1 rfl (?_))
  obtain ⟨x5, hx5, h⟩ := ob h
  refine WPr.ixo htt hx5 rfl rfl rfl rfl rfl rfl rfl rfl rfl (WPr.ldo (oSl rR6) htt hx5 rfl rfl rfl rfl rfl rfl rfl rfl rfl rfl (WPr.silx (rg 19 22) ⟨[(1, .B 4 0), (4, .I x3.1), (5, .O x3.2), (36, .O ((x5.length : Int) == (1 : Int)))], [(4, .box (cC4 0 1 2 3 x1) 27)], (vV4 0 1 2 3 x1 []), 8⟩ htt 4 (by kernel_rfl) (?_)))
  rcases oc' h with ⟨hc, h⟩ | ⟨hc, h⟩
  · refine WPr.kb 36 hc rfl (WPr.silx [] ⟨[(0, .O false)], [], [], 8⟩ htt 22 (by kernel_rfl) (WPr.nil (?_)))
    cases h
    exact WP.ret htt Tryz.func12 [] rfl rfl rfl rfl
  refine WPr.kb 36 hc rfl (WPr.silx (rg 22 19) ⟨[(1, .B 4 0), (4, .I x3.1), (39, .O x3.2)], [(4, .box (cC4 0 1 2 3 x1) 27)], (vV4 0 1 2 3 x1 []), 8⟩ htt 3 (by kernel_rfl) (?_))
  rcases oc' h with ⟨hc, h⟩ | ⟨hc, h⟩
  · refine WPr.kb 39 hc rfl (WPr.silx [] ⟨[(0, .O false)], [], [], 8⟩ htt 19 (by kernel_rfl) (WPr.nil (?_)))
    cases h
    exact WP.ret htt Tryz.func12 [] rfl rfl rfl rfl
  refine WPr.kb 39 hc rfl (WPr.silx (rg 26 15) ⟨[(1, .B 4 0), (43, .O (x3.1 == (1 : Int)))], [(4, .box (cC4 0 1 2 3 x1) 27)], (vV4 0 1 2 3 x1 []), 8⟩ htt 4 (by kernel_rfl) (?_))
  rcases oc' h with ⟨hc, h⟩ | ⟨hc, h⟩
  · refine WPr.kb 43 hc rfl (WPr.silx [] ⟨[(0, .O false)], [], [], 8⟩ htt 15 (by kernel_rfl) (WPr.nil (?_)))
    cases h
    exact WP.ret htt Tryz.func12 [] rfl rfl rfl rfl
  refine WPr.kb 43 hc rfl (WPr.sil htt 2 rfl (?_))
  obtain ⟨x6, hx6, h⟩ := ob h
  refine WPr.call (z23_ct N x1 x1 _ hx6) [(0, .sl 0), (1, .sl 1), (2, .sl 2), (3, .sl 3), (4, .sl 0), (5, .sl 1), (6, .sl 2), (7, .sl 3)] [] rfl rfl rfl rfl rfl rfl rfl rfl (.inl rfl) rfl (WPr.silx (rg 31 10) ⟨[(1, .B 4 0), (48, .O x6)], [(4, .box (cC4 0 1 2 3 x1) 27)], (vV4 0 1 2 3 x1 []), 8⟩ htt 2 (by kernel_rfl) (?_))
  rcases oc' h with ⟨hc, h⟩ | ⟨hc, h⟩
  · refine WPr.kb 48 hc rfl (WPr.silx [] ⟨[(0, .O false)], [], [], 8⟩ htt 10 (by kernel_rfl) (WPr.nil (?_)))
    cases h
    exact WP.ret htt Tryz.func12 [] rfl rfl rfl rfl
  refine WPr.kb 48 hc rfl (WPr.sil htt 1 rfl (?_))
  obtain ⟨x7, hx7, h⟩ := ob h
  refine WPr.call (z31_ct N x1 (str [120]) _ hx7) [(0, .sl 0), (1, .sl 1), (2, .sl 2), (3, .sl 3)] [] rfl rfl rfl rfl rfl rfl rfl rfl (.inl rfl) rfl (WPr.silx [36, 37, 38, 39, 40] ⟨[(1, .B 4 0), (53, .O (x7 == (0 : Int)))], [(4, .box (cC4 0 1 2 3 x1) 27)], (vV4 0 1 2 3 x1 []), 8⟩ htt 3 (by kernel_rfl) (?_))
  rcases oc' h with ⟨hc, h⟩ | ⟨hc, h⟩
  · refine WPr.kb 53 hc rfl (WPr.silx [] ⟨[(0, .O false)], [], [], 8⟩ htt 5 (by kernel_rfl) (WPr.nil (?_)))
    cases h
    exact WP.ret htt Tryz.func12 [] rfl rfl rfl rfl
  refine WPr.kb 53 hc rfl (WPr.sil htt 1 rfl (?_))
  obtain ⟨x8, hx8, h⟩ := ob h
  refine WPr.call (z24_ct N x1 _ hx8) [(0, .sl 0), (1, .sl 1), (2, .sl 2), (3, .sl 3)] [] rfl rfl rfl rfl rfl rfl rfl rfl (.inl rfl) rfl (WPr.silx [] ⟨[(0, .O (x8 != (0 : Int)))], [], [], 8⟩ htt 3 (by kernel_rfl) (WPr.nil (?_)))
  cases h
  exact WP.ret htt Tryz.func12 [] rfl rfl rfl rfl
theorem z44_ct (N : Nat) (l_ : (List T0)) (r : Bool) (h : z44 N l_ = some r) :
  Fn Tryz.prog 44 ⟨1, [.S 0], [(0, .sl rR0 l_)], [], 1, .O r, [], []⟩ := by
  refine Fn.intro _ _ Tryz.func44 rfl (by kernel_rfl) rfl (fun E F w => ?_)
  unfold z44 at h
  refine WP.seq (WP.region (WPr.sil htt 1 rfl (WPr.nil (WP.seq (WP.region (WPr.sil htt 1 rfl (WPr.nil (WP.seq (WP.seq (WP.region (WPr.silx [] ⟨[(0, .S 0), (2, .O false), (3, .I (0 : Int)), (4, .I (0 : Int))], [], [(0, .sl rR0 l_)], 1⟩ htt 1 (by kernel_rfl) (WPr.nil (?_)))))))))))))
  refine WP.cut (σ := Int) (fun st => ⟨[(0, .S 0), (3, .I st)], [], [(0, .sl rR0 l_)], 1⟩) (fun st => z44_k1 l_ st = some r) ?_ (fun j1 => ?_)
  · intro v3_1 h
    replace h : z44_k1 l_ v3_1 = some r := h
    unfold z44_k1 at h
    refine WP.seq (WP.region (WPr.silx [4, 5, 6, 7] ⟨[(3, .I v3_1), (38, .O (decide ((l_.length : Int) ≤ (60 : Int))))], [], [(0, .sl rR0 l_)], 1⟩ htt 4 (by kernel_rfl) (?_)))
    rcases oc h with ⟨hc, h⟩ | ⟨hc, h⟩
    · refine WPr.kb 38 hc rfl (WPr.silx [] ⟨[(2, .O (decide (v3_1 ≤ (100 : Int))))], [], [(0, .sl rR0 l_)], 1⟩ htt 4 (by kernel_rfl) (WPr.nil (?_)))
      cases h
      exact WP.ret htt Tryz.func44 [] rfl rfl rfl rfl
    refine WPr.kb 38 hc rfl (WPr.silx [] ⟨[(2, .O false)], [], [(0, .sl rR0 l_)], 1⟩ htt 4 (by kernel_rfl) (WPr.nil (?_)))
    cases h
    exact WP.ret htt Tryz.func44 [] rfl rfl rfl rfl
  refine WP.block (?_)
  refine WP.loopI (σ := Int × Int) (fun st => ⟨[(0, .S 0), (3, .I st.1), (4, .I st.2)], [], [(0, .sl rR0 l_)], 1⟩) (fun n st => z44_l2 l_ n st.1 st.2) (r := r) (fun _ => rfl) ?_ (fun ih => ?_)
  · intro n2 ih3
    rintro ⟨v3_3, v4_3⟩ h
    replace h : z44_l2 l_ (n2 + 1) v3_3 v4_3 = some r := h
    unfold z44_l2 at h
    refine WP.seq (WP.seq (WP.region (WPr.silx [] ⟨[(0, .S 0), (3, .I v3_3), (4, .I v4_3), (8, .O (decide (v4_3 < (l_.length : Int))))], [], [(0, .sl rR0 l_)], 1⟩ htt 4 (by kernel_rfl) (WPr.nil (?_)))))
    rcases oc' h with ⟨hc, h⟩ | ⟨hc, h⟩
    · exact WP.condF hc rfl (WP.exit rfl (WP.sub [] (j1 v3_3 h) rfl rfl rfl rfl))
    refine WP.condT hc rfl (WP.skip (WP.seq (WP.block (WP.regionQ (by kernel_rfl) (by kernel_rfl) (WPq.silx (rg 3 22) ⟨[(0, .S 0), (4, .I v4_3), (11, .I v3_3), (12, .S 0), (13, .I v4_3)], [], [(0, .sl rR0 l_)], 1⟩ htt 3 (by kernel_rfl) (?_))))))
    obtain ⟨x52, hx52, h⟩ := ob h
    refine WPq.op rfl rfl (VN.vs (VN.ix oO0 htt hx52 rfl rfl rfl rfl rfl rfl rfl)) (WPq.silx (rg 9 16) ⟨[(0, .S 0), (4, .I v4_3), (11, .I v3_3), (17, .I (x52.Fields.length : Int)), (18, .S 0), (19, .I v4_3)], [], [(0, .sl rR0 l_)], 5⟩ htt 5 (by kernel_rfl) (?_))
    obtain ⟨x53, hx53, h⟩ := ob h
    refine WPq.op rfl rfl (VN.vs (VN.ix oO0 htt hx53 rfl rfl rfl rfl rfl rfl rfl)) (WPq.silx (rg 17 8) ⟨[(0, .S 0), (4, .I v4_3), (11, .I v3_3), (25, .I (w64 ((x52.Fields.length : Int) + (x53.Guard.Diffs.length : Int)))), (26, .S 0), (27, .I v4_3)], [], [(0, .sl rR0 l_)], 9⟩ htt 7 (by kernel_rfl) (?_))
    obtain ⟨x54, hx54, h⟩ := ob h
    exact WPq.op rfl rfl (VN.vs (VN.ix oO0 htt hx54 rfl rfl rfl rfl rfl rfl rfl)) (WPq.silx [] ⟨[(0, .S 0), (3, .I (w64 (v3_3 + (w64 ((w64 ((x52.Fields.length : Int) + (x53.Guard.Diffs.length : Int))) + (x54.Guard.Equals.length : Int)))))), (4, .I v4_3)], [], [(0, .sl rR0 l_)], 13⟩ htt 7 (by kernel_rfl) (WPq.nil (WP.inBlock (WP.region (WPr.silx [] ⟨[(0, .S 0), (3, .I (w64 (v3_3 + (w64 ((w64 ((x52.Fields.length : Int) + (x53.Guard.Diffs.length : Int))) + (x54.Guard.Equals.length : Int)))))), (4, .I (w64 (v4_3 + (1 : Int))))], [], [(0, .sl rR0 l_)], 13⟩ htt 3 (by kernel_rfl) (WPr.nil (WP.sub [] (ih3 ((w64 (v3_3 + (w64 ((w64 ((x52.Fields.length : Int) + (x53.Guard.Diffs.length : Int))) + (x54.Guard.Equals.length : Int))))), (w64 (v4_3 + (1 : Int)))) h) rfl rfl rfl rfl)))))))
  exact WP.sub [] (ih N ((0 : Int), (0 : Int)) h) rfl rfl rfl rfl
theorem z13_ct (N : Nat) (g_ : T4) (r : Bool) (h : z13 N g_ = some r) :
  Fn Tryz.prog 13 ⟨4, [.a (cC4 0 1 2 3 g_)], (vV4 0 1 2 3 g_ []), [], 4, .O r, [], []⟩ := by
  refine Fn.intro _ _ Tryz.func13 rfl (by kernel_rfl) rfl (fun E F w => ?_)
  unfold z13 at h
  refine WP.seq (WP.region (WPr.sil htt 2 rfl (WPr.nil (WP.seq (WP.region (WPr.silx (rg 4 23) ⟨[(1, .B 4 0), (6, .O (decide (g_.States ≤ (40 : Int))))], [(4, .box (cC4 0 1 2 3 g_) 27)], (vV4 0 1 2 3 g_ []), 5⟩ htt 4 (by kernel_rfl) (?_)))))))
  rcases oc' h with ⟨hc, h⟩ | ⟨hc, h⟩
  · refine WPr.kb 6 hc rfl (WPr.silx [] ⟨[(2, .O false)], [], (vV4 0 1 2 3 g_ []), 5⟩ htt 23 (by kernel_rfl) (WPr.nil (?_)))
    cases h
    exact WP.ret htt Tryz.func13 [] rfl rfl rfl rfl
  refine WPr.kb 6 hc rfl (WPr.silx (rg 10 17) ⟨[(1, .B 4 0), (12, .O (decide ((g_.Edges.length : Int) ≤ (80 : Int))))], [(4, .box (cC4 0 1 2 3 g_) 27)], (vV4 0 1 2 3 g_ []), 5⟩ htt 6 (by kernel_rfl) (?_))
  rcases oc' h with ⟨hc, h⟩ | ⟨hc, h⟩
  · refine WPr.kb 12 hc rfl (WPr.silx [] ⟨[(2, .O false)], [], (vV4 0 1 2 3 g_ []), 5⟩ htt 17 (by kernel_rfl) (WPr.nil (?_)))
    cases h
    exact WP.ret htt Tryz.func13 [] rfl rfl rfl rfl
  refine WPr.kb 12 hc rfl (WPr.silx (rg 16 11) ⟨[(1, .B 4 0), (18, .O (decide ((g_.Timeouts.length : Int) ≤ (40 : Int))))], [(4, .box (cC4 0 1 2 3 g_) 27)], (vV4 0 1 2 3 g_ []), 5⟩ htt 6 (by kernel_rfl) (?_))
  rcases oc' h with ⟨hc, h⟩ | ⟨hc, h⟩
  · refine WPr.kb 18 hc rfl (WPr.silx [] ⟨[(2, .O false)], [], (vV4 0 1 2 3 g_ []), 5⟩ htt 11 (by kernel_rfl) (WPr.nil (?_)))
    cases h
    exact WP.ret htt Tryz.func13 [] rfl rfl rfl rfl
  refine WPr.kb 18 hc rfl (WPr.silx [22, 23, 24, 25, 26] ⟨[(1, .B 4 0), (24, .O (decide ((g_.Roles.length : Int) ≤ (10 : Int))))], [(4, .box (cC4 0 1 2 3 g_) 27)], (vV4 0 1 2 3 g_ []), 5⟩ htt 6 (by kernel_rfl) (?_))
  rcases oc' h with ⟨hc, h⟩ | ⟨hc, h⟩
  · refine WPr.kb 24 hc rfl (WPr.silx [] ⟨[(2, .O false)], [], (vV4 0 1 2 3 g_ []), 5⟩ htt 5 (by kernel_rfl) (WPr.nil (?_)))
    cases h
    exact WP.ret htt Tryz.func13 [] rfl rfl rfl rfl
  refine WPr.kb 24 hc rfl (WPr.sil htt 2 rfl (?_))
  obtain ⟨x1, hx1, h⟩ := ob h
  refine WPr.call (z44_ct N g_.Decls _ hx1) [(0, .sl 1)] [] rfl rfl rfl rfl rfl rfl rfl rfl (.inl rfl) rfl (WPr.silx [] ⟨[(2, .O x1)], [], (vV4 0 1 2 3 g_ []), 5⟩ htt 2 (by kernel_rfl) (WPr.nil (?_)))
  cases h
  exact WP.ret htt Tryz.func13 [] rfl rfl rfl rfl
theorem z169_ct (N : Nat) (c_ : Int) (r : Bool) (h : z169 N c_ = some r) :
  Fn Tryz.prog 169 ⟨0, [.c (.i .u8 c_)], [], [], 0, .O r, [], []⟩ := by
  refine Fn.intro _ _ Tryz.func169 rfl (by kernel_rfl) rfl (fun E F w => ?_)
  unfold z169 at h
  refine WP.seq (WP.region (WPr.sil htt 1 rfl (WPr.nil (WP.seq (WP.region (WPr.silx (rg 3 12) ⟨[(0, .c (.i .u8 c_)), (5, .O (decide (c_ ≥ (97 : Int))))], [], [], 0⟩ htt 3 (by kernel_rfl) (?_)))))))
  rcases oc' h with ⟨hc, h⟩ | ⟨hc, h⟩
  · refine WPr.kb 5 hc rfl (WPr.silx [10, 11, 12, 13, 14] ⟨[(0, .c (.i .u8 c_)), (9, .O false), (12, .O (decide (c_ ≥ (65 : Int))))], [], [], 0⟩ htt 7 (by kernel_rfl) (?_))
    rcases oc h with ⟨hc, h⟩ | ⟨hc, h⟩
    · refine WPr.kb 12 hc rfl (WPr.silx [] ⟨[(2, .O (decide (c_ ≤ (90 : Int))))], [], [], 0⟩ htt 5 (by kernel_rfl) (WPr.nil (?_)))
      cases h
      exact WP.ret htt Tryz.func169 [] rfl rfl rfl rfl
    refine WPr.kb 12 hc rfl (WPr.silx [] ⟨[(2, .O false)], [], [], 0⟩ htt 5 (by kernel_rfl) (WPr.nil (?_)))
    cases h
    exact WP.ret htt Tryz.func169 [] rfl rfl rfl rfl
  refine WPr.kb 5 hc rfl (WPr.silx (rg 7 8) ⟨[(0, .c (.i .u8 c_)), (9, .O (decide (c_ ≤ (122 : Int))))], [], [], 0⟩ htt 4 (by kernel_rfl) (?_))
  rcases oc h with ⟨hc, h⟩ | ⟨hc, h⟩
  · refine WPr.kb 9 hc rfl (WPr.silx [] ⟨[(2, .O true)], [], [], 0⟩ htt 8 (by kernel_rfl) (WPr.nil (?_)))
    cases h
    exact WP.ret htt Tryz.func169 [] rfl rfl rfl rfl
  refine WPr.kb 9 hc rfl (WPr.silx [10, 11, 12, 13, 14] ⟨[(0, .c (.i .u8 c_)), (9, .O false), (12, .O (decide (c_ ≥ (65 : Int))))], [], [], 0⟩ htt 3 (by kernel_rfl) (?_))
  rcases oc h with ⟨hc, h⟩ | ⟨hc, h⟩
  · refine WPr.kb 12 hc rfl (WPr.silx [] ⟨[(2, .O (decide (c_ ≤ (90 : Int))))], [], [], 0⟩ htt 5 (by kernel_rfl) (WPr.nil (?_)))
    cases h
    exact WP.ret htt Tryz.func169 [] rfl rfl rfl rfl
  refine WPr.kb 12 hc rfl (WPr.silx [] ⟨[(2, .O false)], [], [], 0⟩ htt 5 (by kernel_rfl) (WPr.nil (?_)))
  cases h
  exact WP.ret htt Tryz.func169 [] rfl rfl rfl rfl
theorem z184_ct (N : Nat) (c_ : Int) (r : Bool) (h : z184 N c_ = some r) :
  Fn Tryz.prog 184 ⟨0, [.c (.i .u8 c_)], [], [], 0, .O r, [], []⟩ := by
  refine Fn.intro _ _ Tryz.func184 rfl (by kernel_rfl) rfl (fun E F w => ?_)
  unfold z184 at h
  refine WP.seq (WP.region (WPr.sil htt 1 rfl (WPr.nil (WP.seq (WP.region (WPr.silx [3, 4, 5, 6] ⟨[(0, .c (.i .u8 c_)), (5, .O (decide (c_ ≥ (48 : Int))))], [], [], 0⟩ htt 3 (by kernel_rfl) (?_)))))))
  rcases oc h with ⟨hc, h⟩ | ⟨hc, h⟩
  · refine WPr.kb 5 hc rfl (WPr.silx [] ⟨[(2, .O (decide (c_ ≤ (57 : Int))))], [], [], 0⟩ htt 4 (by kernel_rfl) (WPr.nil (?_)))
    cases h
    exact WP.ret htt Tryz.func184 [] rfl rfl rfl rfl
  refine WPr.kb 5 hc rfl (WPr.silx [] ⟨[(2, .O false)], [], [], 0⟩ htt 4 (by kernel_rfl) (WPr.nil (?_)))
  cases h
  exact WP.ret htt Tryz.func184 [] rfl rfl rfl rfl
theorem z170_ct (N : Nat) (c_ : Int) (r : Bool) (h : z170 N c_ = some r) :
  Fn Tryz.prog 170 ⟨0, [.c (.i .u8 c_)], [], [], 0, .O r, [], []⟩ := by
  refine Fn.intro _ _ Tryz.func170 rfl (by kernel_rfl) rfl (fun E F w => ?_)
  unfold z170 at h
  refine WP.seq (WP.region (WPr.sil htt 1 rfl (WPr.nil (WP.seq (WP.region (WPr.sil htt 1 rfl (?_)))))))
  obtain ⟨x1, hx1, h⟩ := ob h
  refine WPr.call (z169_ct N c_ _ hx1) [] [] rfl rfl rfl rfl rfl rfl rfl rfl (.inl rfl) rfl (WPr.silx (rg 3 8) ⟨[(0, .c (.i .u8 c_)), (5, .O x1)], [], [], 0⟩ htt 1 (by kernel_rfl) (?_))
  rcases oc h with ⟨hc, h⟩ | ⟨hc, h⟩
  · refine WPr.kb 5 hc rfl (WPr.silx [] ⟨[(2, .O true)], [], [], 0⟩ htt 8 (by kernel_rfl) (WPr.nil (?_)))
    cases h
    exact WP.ret htt Tryz.func170 [] rfl rfl rfl rfl
  refine WPr.kb 5 hc rfl (WPr.sil htt 1 rfl (?_))
  obtain ⟨x2, hx2, h⟩ := ob h
  refine WPr.call (z184_ct N c_ _ hx2) [] [] rfl rfl rfl rfl rfl rfl rfl rfl (.inl rfl) rfl (WPr.silx [7, 8, 9, 10] ⟨[(0, .c (.i .u8 c_)), (9, .O x2)], [], [], 0⟩ htt 2 (by kernel_rfl) (?_))
  rcases oc h with ⟨hc, h⟩ | ⟨hc, h⟩
  · refine WPr.kb 9 hc rfl (WPr.silx [] ⟨[(2, .O true)], [], [], 0⟩ htt 4 (by kernel_rfl) (WPr.nil (?_)))
    cases h
    exact WP.ret htt Tryz.func170 [] rfl rfl rfl rfl
  refine WPr.kb 9 hc rfl (WPr.silx [] ⟨[(2, .O (c_ == (95 : Int)))], [], [], 0⟩ htt 4 (by kernel_rfl) (WPr.nil (?_)))
  cases h
  exact WP.ret htt Tryz.func170 [] rfl rfl rfl rfl
theorem z148_ct (N : Nat) (s_ : ByteArray) (r : Bool) (h : z148 N s_ = some r) :
  Fn Tryz.prog 148 ⟨0, [.c (.s s_)], [], [], 0, .O r, [], []⟩ := by
  refine Fn.intro _ _ Tryz.func148 rfl (by kernel_rfl) rfl (fun E F w => ?_)
  unfold z148 at h
  refine WP.seq (WP.region (WPr.sil htt 1 rfl (WPr.nil (WP.seq (WP.seq (WP.region (WPr.silx (rg 3 10) ⟨[(0, .c (.s s_)), (2, .O false), (6, .O (s_.toList == (str []).toList))], [], [], 0⟩ htt 3 (by kernel_rfl) (?_))))))))
  rcases oc h with ⟨hc, h⟩ | ⟨hc, h⟩
  · refine WPr.kb 6 hc rfl (WPr.silx [] ⟨[(0, .c (.s s_)), (2, .O false), (16, .O true)], [], [], 0⟩ htt 10 (by kernel_rfl) (WPr.nil (WP.condT rfl rfl (WP.seq (WP.region (WPr.sil htt 1 rfl (WPr.nil (?_))))))))
    cases h
    exact WP.ret htt Tryz.func148 [] rfl rfl rfl rfl
  refine WPr.kb 6 hc rfl (WPr.sil htt 1 rfl (?_))
  obtain ⟨x1, hx1, h⟩ := ob h
  refine WPr.sx htt hx1 rfl rfl rfl rfl rfl rfl rfl rfl rfl (?_)
  obtain ⟨x2, hx2, h⟩ := ob h
  refine WPr.call (z169_ct N x1 _ hx2) [] [] rfl rfl rfl rfl rfl rfl rfl rfl (.inl rfl) rfl (WPr.silx [9, 10, 11, 12] ⟨[(0, .c (.s s_)), (2, .O false), (12, .O (!x2))], [], [], 0⟩ htt 3 (by kernel_rfl) (?_))
  rcases oc h with ⟨hc, h⟩ | ⟨hc, h⟩
  · refine WPr.kb 12 hc rfl (WPr.silx [] ⟨[(0, .c (.s s_)), (2, .O false), (16, .O true)], [], [], 0⟩ htt 4 (by kernel_rfl) (WPr.nil (WP.condT rfl rfl (WP.seq (WP.region (WPr.sil htt 1 rfl (WPr.nil (?_))))))))
    cases h
    exact WP.ret htt Tryz.func148 [] rfl rfl rfl rfl
  refine WPr.kb 12 hc rfl (WPr.silx [] ⟨[(0, .c (.s s_)), (2, .O false), (16, .O (decide ((s_.size : Int) > (16 : Int))))], [], [], 0⟩ htt 4 (by kernel_rfl) (WPr.nil (?_)))
  rcases oc h with ⟨hc, h⟩ | ⟨hc, h⟩
  · refine WP.condT hc rfl (WP.seq (WP.region (WPr.sil htt 1 rfl (WPr.nil (?_)))))
    cases h
    exact WP.ret htt Tryz.func148 [] rfl rfl rfl rfl
  refine WP.condF hc rfl (WP.skip (WP.seq (WP.seq (WP.region (WPr.sil htt 1 rfl (WPr.nil (?_)))))))
  refine WP.cut (σ := Unit) (fun st => ⟨[], [], [], 0⟩) (fun st => z148_k1 = some r) ?_ (fun j1 => ?_)
  · intro _ h
    replace h : z148_k1 = some r := h
    unfold z148_k1 at h
    refine WP.seq (WP.region (WPr.sil htt 1 rfl (WPr.nil (?_))))
    cases h
    exact WP.ret htt Tryz.func148 [] rfl rfl rfl rfl
  refine WP.block (?_)
  refine WP.loopI (σ := Int) (fun st => ⟨[(0, .c (.s s_)), (3, .I st)], [], [], 0⟩) (fun n st => z148_l2 N s_ n st) (r := r) (fun _ => rfl) ?_ (fun ih => ?_)
  · intro n2 ih3
    intro v3_3 h
    replace h : z148_l2 N s_ (n2 + 1) v3_3 = some r := h
    unfold z148_l2 at h
    refine WP.seq (WP.seq (WP.region (WPr.silx [] ⟨[(0, .c (.s s_)), (3, .I v3_3), (20, .O (decide (v3_3 < (s_.size : Int))))], [], [], 0⟩ htt 4 (by kernel_rfl) (WPr.nil (?_)))))
    rcases oc' h with ⟨hc, h⟩ | ⟨hc, h⟩
    · exact WP.condF hc rfl (WP.exit rfl (WP.sub [] (j1 () h) rfl rfl rfl rfl))
    refine WP.condT hc rfl (WP.skip (WP.seq (WP.block (WP.seq (WP.region (WPr.sil htt 2 rfl (?_)))))))
    obtain ⟨x19, hx19, h⟩ := ob h
    refine WPr.sx htt hx19 rfl rfl rfl rfl rfl rfl rfl rfl rfl (WPr.silx [3, 4] ⟨[(0, .c (.s s_)), (3, .I v3_3), (25, .c (.i .u8 x19))], [], [], 0⟩ htt 0 (by kernel_rfl) (?_))
    obtain ⟨x20, hx20, h⟩ := ob h
    refine WPr.call (z170_ct N x19 _ hx20) [] [] rfl rfl rfl rfl rfl rfl rfl rfl (.inl rfl) rfl (WPr.silx [] ⟨[(0, .c (.s s_)), (3, .I v3_3), (27, .O (!x20))], [], [], 0⟩ htt 1 (by kernel_rfl) (WPr.nil (?_)))
    rcases oc h with ⟨hc, h⟩ | ⟨hc, h⟩
    · refine WP.condT hc rfl (WP.seq (WP.region (WPr.sil htt 1 rfl (WPr.nil (?_)))))
      cases h
      exact WP.ret htt Tryz.func148 [] rfl rfl rfl rfl
    exact WP.condF hc rfl (WP.skip (WP.inBlock (WP.region (WPr.silx [] ⟨[(0, .c (.s s_)), (3, .I (w64 (v3_3 + (1 : Int))))], [], [], 0⟩ htt 3 (by kernel_rfl) (WPr.nil (WP.sub [] (ih3 (w64 (v3_3 + (1 : Int))) h) rfl rfl rfl rfl))))))
  exact WP.sub [] (ih N (0 : Int) h) rfl rfl rfl rfl
theorem z150_ct (N : Nat) (r : (List ByteArray)) (h : z150 N = some r) :
  Fn Tryz.prog 150 ⟨0, [], [], [], 1, .S 0, [], [(0, .own rS r true)]⟩ := by
  refine Fn.intro _ _ Tryz.func150 rfl (by kernel_rfl) rfl (fun E F w => ?_)
  unfold z150 at h
  refine WP.seq (WP.region (WPr.sil htt 1 rfl (WPr.nil (WP.seq (WP.region (WPr.bs (cs := [.s (str [97, 103, 97, 105, 110]), .s (str [97, 110, 100]), .s (str [97, 115]), .s (str [97, 116]), .s (str [99, 97, 108, 108]), .s (str [99, 104, 111, 105, 99, 101]), .s (str [101, 108, 115, 101]), .s (str [102, 114, 111, 109]), .s (str [105, 102]), .s (str [105, 110, 116]), .s (str [108, 101, 110]), .s (str [108, 111, 111, 112]), .s (str [109, 101, 115, 115, 97, 103, 101]), .s (str [111, 102]), .s (str [111, 102, 102, 101, 114]), .s (str [111, 110]), .s (str [111, 114]), .s (str [112, 97, 114]), .s (str [112, 108, 97, 121, 115]), .s (str [112, 114, 111, 116, 111, 99, 111, 108]), .s (str [115, 101, 114, 118, 105, 99, 101]), .s (str [116, 101, 120, 116]), .s (str [116, 105, 109, 101, 115]), .s (str [116, 111]), .s (str [118, 97, 114]), .s (str [119, 104, 101, 114, 101]), .s (str [119, 104, 105, 108, 101]), .s (str [119, 105, 116, 104, 105, 110])]) oS htt ([(str [97, 103, 97, 105, 110]), (str [97, 110, 100]), (str [97, 115]), (str [97, 116]), (str [99, 97, 108, 108]), (str [99, 104, 111, 105, 99, 101]), (str [101, 108, 115, 101]), (str [102, 114, 111, 109]), (str [105, 102]), (str [105, 110, 116]), (str [108, 101, 110]), (str [108, 111, 111, 112]), (str [109, 101, 115, 115, 97, 103, 101]), (str [111, 102]), (str [111, 102, 102, 101, 114]), (str [111, 110]), (str [111, 114]), (str [112, 97, 114]), (str [112, 108, 97, 121, 115]), (str [112, 114, 111, 116, 111, 99, 111, 108]), (str [115, 101, 114, 118, 105, 99, 101]), (str [116, 101, 120, 116]), (str [116, 105, 109, 101, 115]), (str [116, 111]), (str [118, 97, 114]), (str [119, 104, 101, 114, 101]), (str [119, 104, 105, 108, 101]), (str [119, 105, 116, 104, 105, 110])] : List ByteArray) rfl rfl rfl rfl rfl rfl (by kernel_rfl) (by exact (an rfl (an rfl (an rfl (an rfl (an rfl (an rfl (an rfl (an rfl (an rfl (an rfl (an rfl (an rfl (an rfl (an rfl (an rfl (an rfl (an rfl (an rfl (an rfl (an rfl (an rfl (an rfl (an rfl (an rfl (an rfl (an rfl (an rfl (an rfl rfl))))))))))))))))))))))))))))) rfl (WPr.silx [] ⟨[(0, .S 0)], [(0, .own rS ([(str [97, 103, 97, 105, 110]), (str [97, 110, 100]), (str [97, 115]), (str [97, 116]), (str [99, 97, 108, 108]), (str [99, 104, 111, 105, 99, 101]), (str [101, 108, 115, 101]), (str [102, 114, 111, 109]), (str [105, 102]), (str [105, 110, 116]), (str [108, 101, 110]), (str [108, 111, 111, 112]), (str [109, 101, 115, 115, 97, 103, 101]), (str [111, 102]), (str [111, 102, 102, 101, 114]), (str [111, 110]), (str [111, 114]), (str [112, 97, 114]), (str [112, 108, 97, 121, 115]), (str [112, 114, 111, 116, 111, 99, 111, 108]), (str [115, 101, 114, 118, 105, 99, 101]), (str [116, 101, 120, 116]), (str [116, 105, 109, 101, 115]), (str [116, 111]), (str [118, 97, 114]), (str [119, 104, 101, 114, 101]), (str [119, 104, 105, 108, 101]), (str [119, 105, 116, 104, 105, 110])] : List ByteArray) true)], [], 1⟩ htt 1 (by kernel_rfl) (WPr.nil (?_)))))))))
  cases h
  exact WP.ret htt Tryz.func150 [(0, .sl 0)] rfl rfl rfl rfl
theorem z149_ct (N : Nat) (l_ : (List ByteArray)) (s_ : ByteArray) (r : Bool) (h : z149 N l_ s_ = some r) :
  Fn Tryz.prog 149 ⟨1, [.S 0, .c (.s s_)], [(0, .sl rS l_)], [], 1, .O r, [], []⟩ := by
  refine Fn.intro _ _ Tryz.func149 rfl (by kernel_rfl) rfl (fun E F w => ?_)
  unfold z149 at h
  refine WP.seq (WP.region (WPr.sil htt 1 rfl (WPr.nil (WP.seq (WP.seq (WP.region (WPr.sil htt 1 rfl (WPr.nil (?_)))))))))
  refine WP.cut (σ := Unit) (fun st => ⟨[], [], [(0, .sl rS l_)], 1⟩) (fun st => z149_k1 = some r) ?_ (fun j1 => ?_)
  · intro _ h
    replace h : z149_k1 = some r := h
    unfold z149_k1 at h
    refine WP.seq (WP.region (WPr.sil htt 1 rfl (WPr.nil (?_))))
    cases h
    exact WP.ret htt Tryz.func149 [] rfl rfl rfl rfl
  refine WP.block (?_)
  refine WP.loopI (σ := Int) (fun st => ⟨[(0, .S 0), (1, .c (.s s_)), (5, .I st)], [], [(0, .sl rS l_)], 1⟩) (fun n st => z149_l2 l_ s_ n st) (r := r) (fun _ => rfl) ?_ (fun ih => ?_)
  · intro n2 ih3
    intro v5_3 h
    replace h : z149_l2 l_ s_ (n2 + 1) v5_3 = some r := h
    unfold z149_l2 at h
    refine WP.seq (WP.seq (WP.region (WPr.silx [] ⟨[(0, .S 0), (1, .c (.s s_)), (5, .I v5_3), (9, .O (decide (v5_3 < (l_.length : Int))))], [], [(0, .sl rS l_)], 1⟩ htt 4 (by kernel_rfl) (WPr.nil (?_)))))
    rcases oc' h with ⟨hc, h⟩ | ⟨hc, h⟩
    · exact WP.condF hc rfl (WP.exit rfl (WP.sub [] (j1 () h) rfl rfl rfl rfl))
    refine WP.condT hc rfl (WP.skip (WP.seq (WP.block (WP.seq (WP.region (WPr.sil htt 2 rfl (?_)))))))
    obtain ⟨x9, hx9, h⟩ := ob h
    refine WPr.ix oS htt hx9 rfl rfl rfl rfl rfl rfl rfl rfl rfl (WPr.silx [] ⟨[(0, .S 0), (1, .c (.s s_)), (5, .I v5_3), (17, .O (x9.toList == s_.toList))], [], [(0, .sl rS l_)], 2⟩ htt 3 (by kernel_rfl) (WPr.nil (?_)))
    rcases oc h with ⟨hc, h⟩ | ⟨hc, h⟩
    · refine WP.condT hc rfl (WP.seq (WP.region (WPr.sil htt 1 rfl (WPr.nil (?_)))))
      cases h
      exact WP.ret htt Tryz.func149 [] rfl rfl rfl rfl
    exact WP.condF hc rfl (WP.skip (WP.inBlock (WP.region (WPr.silx [] ⟨[(0, .S 0), (1, .c (.s s_)), (5, .I (w64 (v5_3 + (1 : Int))))], [], [(0, .sl rS l_)], 2⟩ htt 3 (by kernel_rfl) (WPr.nil (WP.sub [] (ih3 (w64 (v5_3 + (1 : Int))) h) rfl rfl rfl rfl))))))
  exact WP.sub [] (ih N (0 : Int) h) rfl rfl rfl rfl
theorem z112_ct (N : Nat) (s_ : ByteArray) (r : Bool) (h : z112 N s_ = some r) :
  Fn Tryz.prog 112 ⟨0, [.c (.s s_)], [], [], 0, .O r, [], []⟩ := by
  refine Fn.intro _ _ Tryz.func112 rfl (by kernel_rfl) rfl (fun E F w => ?_)
  unfold z112 at h
  refine WP.seq (WP.region (WPr.sil htt 1 rfl (WPr.nil (WP.seq (WP.region (WPr.sil htt 1 rfl (?_)))))))
  obtain ⟨x1, hx1, h⟩ := ob h
  refine WPr.call (z148_ct N s_ _ hx1) [] [] rfl rfl rfl rfl rfl rfl rfl rfl (.inl rfl) rfl (WPr.silx (rg 3 6) ⟨[(0, .c (.s s_)), (5, .O x1)], [], [], 0⟩ htt 1 (by kernel_rfl) (?_))
  rcases oc' h with ⟨hc, h⟩ | ⟨hc, h⟩
  · refine WPr.kb 5 hc rfl (WPr.silx [] ⟨[(2, .O false)], [], [], 0⟩ htt 6 (by kernel_rfl) (WPr.nil (?_)))
    cases h
    exact WP.ret htt Tryz.func112 [] rfl rfl rfl rfl
  refine WPr.kb 5 hc rfl (?_)
  obtain ⟨x2, hx2, h⟩ := ob h
  refine WPr.call (z150_ct N _ hx2) [] [] rfl rfl rfl rfl rfl rfl rfl rfl (.inl rfl) rfl (WPr.silx [5, 6, 7, 8] ⟨[(5, .O true), (6, .S 0), (7, .c (.s s_))], [(0, .own rS x2 true)], [], 1⟩ htt 1 (by kernel_rfl) (?_))
  obtain ⟨x3, hx3, h⟩ := ob h
  refine WPr.call (z149_ct N x2 s_ _ hx3) [(0, .sl 0)] [0] rfl rfl rfl rfl rfl rfl rfl rfl (.inr ⟨rfl, trivial⟩) rfl (WPr.silx [] ⟨[(2, .O (!x3))], [], [], 1⟩ htt 3 (by kernel_rfl) (WPr.nil (?_)))
  cases h
  exact WP.ret htt Tryz.func112 [] rfl rfl rfl rfl
theorem z76_ct (N : Nat) (l_ : (List ByteArray)) (s_ : ByteArray) (r : Int) (h : z76 N l_ s_ = some r) :
  Fn Tryz.prog 76 ⟨1, [.S 0, .c (.s s_)], [(0, .sl rS l_)], [], 1, .I r, [], []⟩ := by
  refine Fn.intro _ _ Tryz.func76 rfl (by kernel_rfl) rfl (fun E F w => ?_)
  unfold z76 at h
  refine WP.seq (WP.region (WPr.sil htt 1 rfl (WPr.nil (WP.seq (WP.seq (WP.region (WPr.sil htt 1 rfl (WPr.nil (?_)))))))))
  refine WP.cut (σ := Unit) (fun st => ⟨[], [], [(0, .sl rS l_)], 1⟩) (fun st => z76_k1 = some r) ?_ (fun j1 => ?_)
  · intro _ h
    replace h : z76_k1 = some r := h
    unfold z76_k1 at h
    refine WP.seq (WP.region (WPr.sil htt 1 rfl (WPr.nil (?_))))
    cases h
    exact WP.ret htt Tryz.func76 [] rfl rfl rfl rfl
  refine WP.block (?_)
  refine WP.loopI (σ := Int) (fun st => ⟨[(0, .S 0), (1, .c (.s s_)), (5, .I st)], [], [(0, .sl rS l_)], 1⟩) (fun n st => z76_l2 l_ s_ n st) (r := r) (fun _ => rfl) ?_ (fun ih => ?_)
  · intro n2 ih3
    intro v5_3 h
    replace h : z76_l2 l_ s_ (n2 + 1) v5_3 = some r := h
    unfold z76_l2 at h
    refine WP.seq (WP.seq (WP.region (WPr.silx [] ⟨[(0, .S 0), (1, .c (.s s_)), (5, .I v5_3), (9, .O (decide (v5_3 < (l_.length : Int))))], [], [(0, .sl rS l_)], 1⟩ htt 4 (by kernel_rfl) (WPr.nil (?_)))))
    rcases oc' h with ⟨hc, h⟩ | ⟨hc, h⟩
    · exact WP.condF hc rfl (WP.exit rfl (WP.sub [] (j1 () h) rfl rfl rfl rfl))
    refine WP.condT hc rfl (WP.skip (WP.seq (WP.block (WP.seq (WP.region (WPr.sil htt 2 rfl (?_)))))))
    obtain ⟨x9, hx9, h⟩ := ob h
    refine WPr.ix oS htt hx9 rfl rfl rfl rfl rfl rfl rfl rfl rfl (WPr.silx [] ⟨[(0, .S 0), (1, .c (.s s_)), (5, .I v5_3), (17, .O (x9.toList == s_.toList))], [], [(0, .sl rS l_)], 2⟩ htt 3 (by kernel_rfl) (WPr.nil (?_)))
    rcases oc h with ⟨hc, h⟩ | ⟨hc, h⟩
    · refine WP.condT hc rfl (WP.seq (WP.region (WPr.sil htt 2 rfl (WPr.nil (?_)))))
      cases h
      exact WP.ret htt Tryz.func76 [] rfl rfl rfl rfl
    exact WP.condF hc rfl (WP.skip (WP.inBlock (WP.region (WPr.silx [] ⟨[(0, .S 0), (1, .c (.s s_)), (5, .I (w64 (v5_3 + (1 : Int))))], [], [(0, .sl rS l_)], 2⟩ htt 3 (by kernel_rfl) (WPr.nil (WP.sub [] (ih3 (w64 (v5_3 + (1 : Int))) h) rfl rfl rfl rfl))))))
  exact WP.sub [] (ih N (0 : Int) h) rfl rfl rfl rfl
theorem z151_ct (N : Nat) (decls_ : (List T0)) (r : Int) (h : z151 N decls_ = some r) :
  Fn Tryz.prog 151 ⟨1, [.S 0], [(0, .sl rR0 decls_)], [], 1, .I r, [], []⟩ := by
  refine Fn.intro _ _ Tryz.func151 rfl (by kernel_rfl) rfl (fun E F w => ?_)
  unfold z151 at h
  refine WP.seq (WP.region (WPr.sil htt 1 rfl (WPr.nil (WP.seq (WP.region (WPr.sil htt 1 rfl (WPr.nil (WP.seq (WP.seq (WP.region (WPr.silx [] ⟨[(0, .S 0), (2, .I (0 : Int)), (3, .I (0 : Int)), (4, .I (0 : Int))], [], [(0, .sl rR0 decls_)], 1⟩ htt 1 (by kernel_rfl) (WPr.nil (?_)))))))))))))
  refine WP.cut (σ := Int) (fun st => ⟨[(3, .I st)], [], [(0, .sl rR0 decls_)], 1⟩) (fun st => z151_k1 st = some r) ?_ (fun j1 => ?_)
  · intro v3_1 h
    replace h : z151_k1 v3_1 = some r := h
    unfold z151_k1 at h
    refine WP.seq (WP.region (WPr.sil htt 2 rfl (WPr.nil (?_))))
    cases h
    exact WP.ret htt Tryz.func151 [] rfl rfl rfl rfl
  refine WP.block (?_)
  refine WP.loopI (σ := Int × Int) (fun st => ⟨[(0, .S 0), (3, .I st.1), (4, .I st.2)], [], [(0, .sl rR0 decls_)], 1⟩) (fun n st => z151_l2 decls_ n st.1 st.2) (r := r) (fun _ => rfl) ?_ (fun ih => ?_)
  · intro n2 ih3
    rintro ⟨v3_3, v4_3⟩ h
    replace h : z151_l2 decls_ (n2 + 1) v3_3 v4_3 = some r := h
    unfold z151_l2 at h
    refine WP.seq (WP.seq (WP.region (WPr.silx [] ⟨[(0, .S 0), (3, .I v3_3), (4, .I v4_3), (8, .O (decide (v4_3 < (decls_.length : Int))))], [], [(0, .sl rR0 decls_)], 1⟩ htt 4 (by kernel_rfl) (WPr.nil (?_)))))
    rcases oc' h with ⟨hc, h⟩ | ⟨hc, h⟩
    · exact WP.condF hc rfl (WP.exit rfl (WP.sub [] (j1 v3_3 h) rfl rfl rfl rfl))
    refine WP.condT hc rfl (WP.skip (WP.seq (WP.block (WP.region (WPr.silx (rg 3 6) ⟨[(0, .S 0), (4, .I v4_3), (11, .I v3_3), (12, .S 0), (13, .I v4_3)], [], [(0, .sl rR0 decls_)], 1⟩ htt 3 (by kernel_rfl) (?_))))))
    obtain ⟨x9, hx9, h⟩ := ob h
    exact WPr.ix oO0 htt hx9 rfl rfl rfl rfl rfl rfl rfl rfl rfl (WPr.silx [] ⟨[(0, .S 0), (3, .I (w64 (v3_3 + (x9.Fields.length : Int)))), (4, .I v4_3)], [], [(0, .sl rR0 decls_)], 5⟩ htt 5 (by kernel_rfl) (WPr.nil (WP.inBlock (WP.region (WPr.silx [] ⟨[(0, .S 0), (3, .I (w64 (v3_3 + (x9.Fields.length : Int)))), (4, .I (w64 (v4_3 + (1 : Int))))], [], [(0, .sl rR0 decls_)], 5⟩ htt 3 (by kernel_rfl) (WPr.nil (WP.sub [] (ih3 ((w64 (v3_3 + (x9.Fields.length : Int))), (w64 (v4_3 + (1 : Int)))) h) rfl rfl rfl rfl)))))))
  exact WP.sub [] (ih N ((0 : Int), (0 : Int)) h) rfl rfl rfl rfl
theorem z152_ct (N : Nat) (s_ : T7) (r : Bool) (h : z152 N s_ = some r) :
  Fn Tryz.prog 152 ⟨0, [.a (cC7 s_)], [], [], 0, .O r, [], []⟩ := by
  refine Fn.intro _ _ Tryz.func152 rfl (by kernel_rfl) rfl (fun E F w => ?_)
  unfold z152 at h
  refine WP.seq (WP.region (WPr.sil htt 2 rfl (WPr.nil (WP.seq (WP.region (WPr.silx [] ⟨[(1, .B 0 0), (2, .O false), (3, .I (-1000 : Int)), (4, .I (1000 : Int))], [(0, .box (cC7 s_) 139)], [], 1⟩ htt 2 (by kernel_rfl) (WPr.nil (WP.seq (WP.seq (WP.region (WPr.silx [] ⟨[(1, .B 0 0), (2, .O false), (3, .I (-1000 : Int)), (4, .I (1000 : Int)), (7, .O (s_.Kind == (2 : Int)))], [(0, .box (cC7 s_) 139)], [], 1⟩ htt 3 (by kernel_rfl) (WPr.nil (?_)))))))))))))
  refine WP.cut (σ := Int × Int) (fun st => ⟨[(1, .B 0 0), (3, .I st.1), (4, .I st.2)], [(0, .box (cC7 s_) 139)], [], 1⟩) (fun st => z152_k1 s_ st.1 st.2 = some r) ?_ (fun j1 => ?_)
  · rintro ⟨v3_1, v4_1⟩ h
    replace h : z152_k1 s_ v3_1 v4_1 = some r := h
    unfold z152_k1 at h
    refine WP.seq (WP.region (WPr.silx (rg 4 24) ⟨[(1, .B 0 0), (3, .I v3_1), (4, .I v4_1), (11, .O (s_.Kind == (1 : Int)))], [(0, .box (cC7 s_) 139)], [], 1⟩ htt 4 (by kernel_rfl) (?_)))
    rcases oc h with ⟨hc, h⟩ | ⟨hc, h⟩
    · refine WPr.kb 11 hc rfl (WPr.silx (rg 15 13) ⟨[(1, .B 0 0), (4, .I v4_1), (22, .O (decide (s_.Lo ≥ v3_1)))], [(0, .box (cC7 s_) 139)], [], 1⟩ htt 11 (by kernel_rfl) (?_))
      rcases oc' h with ⟨hc, h⟩ | ⟨hc, h⟩
      · refine WPr.kb 22 hc rfl (WPr.silx [] ⟨[(2, .O false)], [], [], 1⟩ htt 13 (by kernel_rfl) (WPr.nil (?_)))
        cases h
        exact WP.ret htt Tryz.func152 [] rfl rfl rfl rfl
      refine WPr.kb 22 hc rfl (WPr.silx (rg 21 7) ⟨[(1, .B 0 0), (28, .O (decide (s_.Hi ≤ v4_1)))], [(0, .box (cC7 s_) 139)], [], 1⟩ htt 6 (by kernel_rfl) (?_))
      rcases oc h with ⟨hc, h⟩ | ⟨hc, h⟩
      · refine WPr.kb 28 hc rfl (WPr.silx [] ⟨[(2, .O (decide (s_.Lo ≤ s_.Hi)))], [], [], 1⟩ htt 7 (by kernel_rfl) (WPr.nil (?_)))
        cases h
        exact WP.ret htt Tryz.func152 [] rfl rfl rfl rfl
      refine WPr.kb 28 hc rfl (WPr.silx [] ⟨[(2, .O false)], [], [], 1⟩ htt 7 (by kernel_rfl) (WPr.nil (?_)))
      cases h
      exact WP.ret htt Tryz.func152 [] rfl rfl rfl rfl
    refine WPr.kb 11 hc rfl (WPr.silx (rg 9 19) ⟨[(1, .B 0 0), (3, .I v3_1), (4, .I v4_1), (16, .O (s_.Kind == (2 : Int)))], [(0, .box (cC7 s_) 139)], [], 1⟩ htt 5 (by kernel_rfl) (?_))
    rcases oc' h with ⟨hc, h⟩ | ⟨hc, h⟩
    · refine WPr.kb 16 hc rfl (WPr.silx [] ⟨[(2, .O false)], [], [], 1⟩ htt 19 (by kernel_rfl) (WPr.nil (?_)))
      cases h
      exact WP.ret htt Tryz.func152 [] rfl rfl rfl rfl
    refine WPr.kb 16 hc rfl (WPr.silx (rg 15 13) ⟨[(1, .B 0 0), (4, .I v4_1), (22, .O (decide (s_.Lo ≥ v3_1)))], [(0, .box (cC7 s_) 139)], [], 1⟩ htt 6 (by kernel_rfl) (?_))
    rcases oc' h with ⟨hc, h⟩ | ⟨hc, h⟩
    · refine WPr.kb 22 hc rfl (WPr.silx [] ⟨[(2, .O false)], [], [], 1⟩ htt 13 (by kernel_rfl) (WPr.nil (?_)))
      cases h
      exact WP.ret htt Tryz.func152 [] rfl rfl rfl rfl
    refine WPr.kb 22 hc rfl (WPr.silx (rg 21 7) ⟨[(1, .B 0 0), (28, .O (decide (s_.Hi ≤ v4_1)))], [(0, .box (cC7 s_) 139)], [], 1⟩ htt 6 (by kernel_rfl) (?_))
    rcases oc h with ⟨hc, h⟩ | ⟨hc, h⟩
    · refine WPr.kb 28 hc rfl (WPr.silx [] ⟨[(2, .O (decide (s_.Lo ≤ s_.Hi)))], [], [], 1⟩ htt 7 (by kernel_rfl) (WPr.nil (?_)))
      cases h
      exact WP.ret htt Tryz.func152 [] rfl rfl rfl rfl
    refine WPr.kb 28 hc rfl (WPr.silx [] ⟨[(2, .O false)], [], [], 1⟩ htt 7 (by kernel_rfl) (WPr.nil (?_)))
    cases h
    exact WP.ret htt Tryz.func152 [] rfl rfl rfl rfl
  rcases oc h with ⟨hc, h⟩ | ⟨hc, h⟩
  · exact WP.condT hc rfl (WP.region (WPr.sil htt 2 rfl (WPr.nil (WP.sub [] (j1 ((0 : Int), (40 : Int)) h) rfl rfl rfl rfl))))
  exact WP.condF hc rfl (WP.skip (WP.sub [] (j1 ((-1000 : Int), (1000 : Int)) h) rfl rfl rfl rfl))
theorem z171_ct (N : Nat) (s_ : ByteArray) (r : Bool) (h : z171 N s_ = some r) :
  Fn Tryz.prog 171 ⟨0, [.c (.s s_)], [], [], 0, .O r, [], []⟩ := by
  refine Fn.intro _ _ Tryz.func171 rfl (by kernel_rfl) rfl (fun E F w => ?_)
  unfold z171 at h
  refine WP.seq (WP.region (WPr.sil htt 1 rfl (WPr.nil (WP.seq (WP.region (WPr.sil htt 1 rfl (?_)))))))
  obtain ⟨x1, hx1, h⟩ := ob h
  refine WPr.call (z112_ct N s_ _ hx1) [] [] rfl rfl rfl rfl rfl rfl rfl rfl (.inl rfl) rfl (WPr.silx [] ⟨[(2, .O x1)], [], [], 0⟩ htt 1 (by kernel_rfl) (WPr.nil (?_)))
  cases h
  exact WP.ret htt Tryz.func171 [] rfl rfl rfl rfl
theorem z153_ct (N : Nat) (s_ : ByteArray) (r : Bool) (h : z153 N s_ = some r) :
  Fn Tryz.prog 153 ⟨0, [.c (.s s_)], [], [], 0, .O r, [], []⟩ := by
  refine Fn.intro _ _ Tryz.func153 rfl (by kernel_rfl) rfl (fun E F w => ?_)
  unfold z153 at h
  refine WP.seq (WP.region (WPr.sil htt 1 rfl (WPr.nil (WP.seq (WP.region (WPr.sil htt 1 rfl (WPr.nil (WP.seq (WP.seq (WP.region (WPr.silx [] ⟨[(0, .c (.s s_)), (2, .O false), (3, .I (0 : Int)), (4, .I (0 : Int))], [], [], 0⟩ htt 1 (by kernel_rfl) (WPr.nil (?_)))))))))))))
  refine WP.cut (σ := Unit) (fun st => ⟨[(0, .c (.s s_))], [], [], 0⟩) (fun st => z153_k1 s_ = some r) ?_ (fun j1 => ?_)
  · intro _ h
    replace h : z153_k1 s_ = some r := h
    unfold z153_k1 at h
    refine WP.seq (WP.region (WPr.silx [] ⟨[(2, .O (decide ((s_.size : Int) ≤ (50 : Int))))], [], [], 0⟩ htt 4 (by kernel_rfl) (WPr.nil (?_))))
    cases h
    exact WP.ret htt Tryz.func153 [] rfl rfl rfl rfl
  refine WP.block (?_)
  refine WP.loopI (σ := Int × Int) (fun st => ⟨[(0, .c (.s s_)), (3, .I st.1), (4, .I st.2)], [], [], 0⟩) (fun n st => z153_l2 N s_ n st.1 st.2) (r := r) (fun _ => rfl) ?_ (fun ih => ?_)
  · intro n2 ih6
    rintro ⟨v3_6, v4_6⟩ h
    replace h : z153_l2 N s_ (n2 + 1) v3_6 v4_6 = some r := h
    unfold z153_l2 at h
    refine WP.seq (WP.seq (WP.region (WPr.silx [] ⟨[(0, .c (.s s_)), (3, .I v3_6), (4, .I v4_6), (8, .O (decide (v4_6 ≤ (s_.size : Int))))], [], [], 0⟩ htt 4 (by kernel_rfl) (WPr.nil (?_)))))
    rcases oc' h with ⟨hc, h⟩ | ⟨hc, h⟩
    · exact WP.condF hc rfl (WP.exit rfl (WP.sub [] (j1 () h) rfl rfl rfl rfl))
    refine WP.condT hc rfl (WP.skip (WP.seq (WP.block (WP.seq (WP.region (WPr.silx [5, 6, 7, 8, 9] ⟨[(0, .c (.s s_)), (3, .I v3_6), (4, .I v4_6), (15, .O (v4_6 == (s_.size : Int)))], [], [], 0⟩ htt 5 (by kernel_rfl) (?_)))))))
    refine WP.cutr (σ := Bool) (fun st => ⟨[(0, .c (.s s_)), (3, .I v3_6), (4, .I v4_6), (20, .O st)], [], [], 0⟩) (fun st => z153_k3 N s_ v3_6 v4_6 (z153_l2 N s_ n2) st = some r) ?_ (fun j9 => ?_)
    · intro v20_9 h
      replace h : z153_k3 N s_ v3_6 v4_6 (z153_l2 N s_ n2) v20_9 = some r := h
      unfold z153_k3 at h
      rcases oc' h with ⟨hc, h⟩ | ⟨hc, h⟩
      · exact WP.condF hc rfl (WP.skip (WP.inBlock (WP.region (WPr.silx [] ⟨[(0, .c (.s s_)), (3, .I v3_6), (4, .I (w64 (v4_6 + (1 : Int))))], [], [], 0⟩ htt 3 (by kernel_rfl) (WPr.nil (WP.sub [] (ih6 (v3_6, (w64 (v4_6 + (1 : Int)))) h) rfl rfl rfl rfl))))))
      refine WP.condT hc rfl (WP.seq (WP.seq (WP.region (WPr.silx [3, 4, 5] ⟨[(0, .c (.s s_)), (4, .I v4_6), (21, .c (.s s_)), (22, .I v3_6), (23, .I v4_6)], [], [], 0⟩ htt 3 (by kernel_rfl) (?_)))))
      obtain ⟨x34, hx34, h⟩ := ob h
      refine WPr.ssl htt (l := some (.i64, v3_6)) (h := some (.i64, v4_6)) hx34 rfl rfl rfl rfl rfl rfl rfl rfl rfl rfl (?_)
      obtain ⟨x35, hx35, h⟩ := ob h
      refine WPr.call (z171_ct N x34 _ hx35) [] [] rfl rfl rfl rfl rfl rfl rfl rfl (.inl rfl) rfl (WPr.silx [] ⟨[(0, .c (.s s_)), (4, .I v4_6), (26, .O (!x35))], [], [], 0⟩ htt 1 (by kernel_rfl) (WPr.nil (?_)))
      rcases oc h with ⟨hc, h⟩ | ⟨hc, h⟩
      · refine WP.condT hc rfl (WP.seq (WP.region (WPr.sil htt 1 rfl (WPr.nil (?_)))))
        cases h
        exact WP.ret htt Tryz.func153 [] rfl rfl rfl rfl
      exact WP.condF hc rfl (WP.skip (WP.region (WPr.silx [] ⟨[(0, .c (.s s_)), (3, .I (w64 (v4_6 + (1 : Int)))), (4, .I v4_6)], [], [], 0⟩ htt 3 (by kernel_rfl) (WPr.nil (WP.inBlock (WP.region (WPr.silx [] ⟨[(0, .c (.s s_)), (3, .I (w64 (v4_6 + (1 : Int)))), (4, .I (w64 (v4_6 + (1 : Int))))], [], [], 0⟩ htt 3 (by kernel_rfl) (WPr.nil (WP.sub [] (ih6 ((w64 (v4_6 + (1 : Int))), (w64 (v4_6 + (1 : Int)))) h) rfl rfl rfl rfl)))))))))
    rcases oc h with ⟨hc, h⟩ | ⟨hc, h⟩
    · exact WPr.kb 15 hc rfl (WPr.silx [] ⟨[(0, .c (.s s_)), (3, .I v3_6), (4, .I v4_6), (20, .O true)], [], [], 0⟩ htt 5 (by kernel_rfl) (WPr.nil (WP.sub [] (j9 true h) rfl rfl rfl rfl)))
    refine WPr.kb 15 hc rfl (WPr.sil htt 2 rfl (?_))
    obtain ⟨x36, hx36, h⟩ := ob h
    exact WPr.sx htt hx36 rfl rfl rfl rfl rfl rfl rfl rfl rfl (WPr.silx [] ⟨[(0, .c (.s s_)), (3, .I v3_6), (4, .I v4_6), (20, .O (x36 == (46 : Int)))], [], [], 0⟩ htt 2 (by kernel_rfl) (WPr.nil (WP.sub [] (j9 (x36 == (46 : Int)) h) rfl rfl rfl rfl)))
  exact WP.sub [] (ih N ((0 : Int), (0 : Int)) h) rfl rfl rfl rfl
theorem z185_ct (N : Nat) (decls_ : (List T0)) (x_ : Int) (r : T3) (h : z185 N decls_ x_ = some r) :
  Fn Tryz.prog 185 ⟨1, [.S 0, .I x_], [(0, .sl rR0 decls_)], [], 1, .a (cC3 r), [], []⟩ := by
  refine Fn.intro _ _ Tryz.func185 rfl (by kernel_rfl) rfl (fun E F w => ?_)
  unfold z185 at h
  refine WP.seq (WP.region (WPr.sil htt 1 rfl (WPr.nil (WP.seq (WP.seq (WP.region (WPr.sil htt 1 rfl (WPr.nil (?_)))))))))
  refine WP.cut (σ := Unit) (fun st => ⟨[(4, .B 1 0)], [(1, .box [.s (str []), .I (0 : Int), .I (0 : Int), .I (0 : Int)] 141)], [(0, .sl rR0 decls_)], 2⟩) (fun st => z185_k1 = some r) ?_ (fun j1 => ?_)
  · intro _ h
    replace h : z185_k1 = some r := h
    unfold z185_k1 at h
    refine WP.seq (WP.region (WPr.sil htt 2 rfl (WPr.nil (?_))))
    cases h
    exact WP.ret htt Tryz.func185 [] rfl rfl rfl rfl
  refine WP.block (?_)
  refine WP.loopI (σ := Int × Int) (fun st => ⟨[(0, .S 0), (1, .I st.1), (4, .B 1 0), (5, .I st.2)], [(1, .box [.s (str []), .I (0 : Int), .I (0 : Int), .I (0 : Int)] 141)], [(0, .sl rR0 decls_)], 2⟩) (fun n st => z185_l2 decls_ n st.1 st.2) (r := r) (fun _ => rfl) ?_ (fun ih => ?_)
  · intro n2 ih3
    rintro ⟨v1_3, v5_3⟩ h
    replace h : z185_l2 decls_ (n2 + 1) v1_3 v5_3 = some r := h
    unfold z185_l2 at h
    refine WP.seq (WP.seq (WP.region (WPr.silx [] ⟨[(0, .S 0), (1, .I v1_3), (4, .B 1 0), (5, .I v5_3), (9, .O (decide (v5_3 < (decls_.length : Int))))], [(1, .box [.s (str []), .I (0 : Int), .I (0 : Int), .I (0 : Int)] 141)], [(0, .sl rR0 decls_)], 2⟩ htt 4 (by kernel_rfl) (WPr.nil (?_)))))
    rcases oc' h with ⟨hc, h⟩ | ⟨hc, h⟩
    · exact WP.condF hc rfl (WP.exit rfl (WP.sub [] (j1 () h) rfl rfl rfl rfl))
    refine WP.condT hc rfl (WP.skip (WP.seq (WP.block (WP.seq (WP.seq (WP.region (WPr.silx [3, 4, 5, 6, 7] ⟨[(0, .S 0), (1, .I v1_3), (4, .B 1 0), (5, .I v5_3), (12, .I v1_3), (13, .S 0), (14, .I v5_3)], [(1, .box [.s (str []), .I (0 : Int), .I (0 : Int), .I (0 : Int)] 141)], [(0, .sl rR0 decls_)], 2⟩ htt 3 (by kernel_rfl) (?_))))))))
    obtain ⟨x33, hx33, h⟩ := ob h
    refine WPr.ix oO0 htt hx33 rfl rfl rfl rfl rfl rfl rfl rfl rfl (WPr.silx [] ⟨[(0, .S 0), (1, .I v1_3), (4, .B 1 0), (5, .I v5_3), (19, .O (decide (v1_3 < (x33.Fields.length : Int))))], [(1, .box [.s (str []), .I (0 : Int), .I (0 : Int), .I (0 : Int)] 141)], [(0, .sl rR0 decls_)], 6⟩ htt 4 (by kernel_rfl) (WPr.nil (?_)))
    rcases oc' h with ⟨hc, h⟩ | ⟨hc, h⟩
    · refine WP.condF hc rfl (WP.skip (WP.region (WPr.silx (rg 3 6) ⟨[(0, .S 0), (4, .B 1 0), (5, .I v5_3), (28, .I v1_3), (29, .S 0), (30, .I v5_3)], [(1, .box [.s (str []), .I (0 : Int), .I (0 : Int), .I (0 : Int)] 141)], [(0, .sl rR0 decls_)], 6⟩ htt 3 (by kernel_rfl) (?_))))
      obtain ⟨x36, hx36, h⟩ := ob h
      exact WPr.ix oO0 htt hx36 rfl rfl rfl rfl rfl rfl rfl rfl rfl (WPr.silx [] ⟨[(0, .S 0), (1, .I (w64 (v1_3 - (x36.Fields.length : Int)))), (4, .B 1 0), (5, .I v5_3)], [(1, .box [.s (str []), .I (0 : Int), .I (0 : Int), .I (0 : Int)] 141)], [(0, .sl rR0 decls_)], 10⟩ htt 5 (by kernel_rfl) (WPr.nil (WP.inBlock (WP.region (WPr.silx [] ⟨[(0, .S 0), (1, .I (w64 (v1_3 - (x36.Fields.length : Int)))), (4, .B 1 0), (5, .I (w64 (v5_3 + (1 : Int))))], [(1, .box [.s (str []), .I (0 : Int), .I (0 : Int), .I (0 : Int)] 141)], [(0, .sl rR0 decls_)], 10⟩ htt 3 (by kernel_rfl) (WPr.nil (WP.sub [] (ih3 ((w64 (v1_3 - (x36.Fields.length : Int))), (w64 (v5_3 + (1 : Int)))) h) rfl rfl rfl rfl)))))))
    refine WP.condT hc rfl (WP.seq (WP.region (WPr.sil htt 2 rfl (?_))))
    obtain ⟨x34, hx34, h⟩ := ob h
    refine WPr.ix oO0 htt hx34 rfl rfl rfl rfl rfl rfl rfl rfl rfl (WPr.silx [6, 7, 8] ⟨[(4, .B 1 0), (24, .S 7), (25, .I v1_3)], [(1, .box [.s (str []), .I (0 : Int), .I (0 : Int), .I (0 : Int)] 141)], [(0, .sl rR0 decls_), (7, .sl rR3 x34.Fields)], 10⟩ htt 3 (by kernel_rfl) (?_))
    obtain ⟨x35, hx35, h⟩ := ob h
    refine WPr.ix oO3 htt hx35 rfl rfl rfl rfl rfl rfl rfl rfl rfl (WPr.silx [] ⟨[(4, .B 1 0)], [(1, .box (cC3 x35) 141)], [(0, .sl rR0 decls_)], 11⟩ htt 2 (by kernel_rfl) (WPr.nil (?_)))
    cases h
    exact WP.ret htt Tryz.func185 [] rfl rfl rfl rfl
  exact WP.sub [] (ih N (x_, (0 : Int)) h) rfl rfl rfl rfl
theorem z172_ct (N : Nat) (decls_ : (List T0)) (x_ : Int) (r : Bool) (h : z172 N decls_ x_ = some r) :
  Fn Tryz.prog 172 ⟨1, [.S 0, .I x_], [(0, .sl rR0 decls_)], [], 1, .O r, [], []⟩ := by
  refine Fn.intro _ _ Tryz.func172 rfl (by kernel_rfl) rfl (fun E F w => ?_)
  unfold z172 at h
  refine WP.seq (WP.region (WPr.sil htt 1 rfl (WPr.nil (WP.seq (WP.region (WPr.silx (rg 3 14) ⟨[(0, .S 0), (1, .I x_), (7, .O (decide (x_ ≥ (0 : Int))))], [], [(0, .sl rR0 decls_)], 1⟩ htt 3 (by kernel_rfl) (?_)))))))
  rcases oc' h with ⟨hc, h⟩ | ⟨hc, h⟩
  · refine WPr.kb 7 hc rfl (WPr.silx [] ⟨[(4, .O false)], [], [(0, .sl rR0 decls_)], 1⟩ htt 14 (by kernel_rfl) (WPr.nil (?_)))
    cases h
    exact WP.ret htt Tryz.func172 [] rfl rfl rfl rfl
  refine WPr.kb 7 hc rfl (WPr.sil htt 2 rfl (?_))
  obtain ⟨x1, hx1, h⟩ := ob h
  refine WPr.call (z151_ct N decls_ _ hx1) [(0, .sl 0)] [] rfl rfl rfl rfl rfl rfl rfl rfl (.inl rfl) rfl (WPr.silx (rg 9 8) ⟨[(0, .S 0), (1, .I x_), (13, .O (decide (x_ < x1)))], [], [(0, .sl rR0 decls_)], 1⟩ htt 3 (by kernel_rfl) (?_))
  rcases oc' h with ⟨hc, h⟩ | ⟨hc, h⟩
  · refine WPr.kb 13 hc rfl (WPr.silx [] ⟨[(4, .O false)], [], [(0, .sl rR0 decls_)], 1⟩ htt 8 (by kernel_rfl) (WPr.nil (?_)))
    cases h
    exact WP.ret htt Tryz.func172 [] rfl rfl rfl rfl
  refine WPr.kb 13 hc rfl (WPr.sil htt 2 rfl (?_))
  obtain ⟨x2, hx2, h⟩ := ob h
  refine WPr.call (z185_ct N decls_ x_ _ hx2) [(0, .sl 0)] [] rfl rfl rfl rfl rfl rfl rfl rfl (.inl rfl) rfl (WPr.silx [] ⟨[(4, .O (x2.Sort'.Kind == (2 : Int)))], [], [(0, .sl rR0 decls_)], 1⟩ htt 5 (by kernel_rfl) (WPr.nil (?_)))
  cases h
  exact WP.ret htt Tryz.func172 [] rfl rfl rfl rfl
theorem z154_ct (N : Nat) (decls_ : (List T0)) (g_ : T5) (r : Bool) (h : z154 N decls_ g_ = some r) :
  Fn Tryz.prog 154 ⟨3, [.S 0, .a [.sl 1, .sl 2]], [(0, .sl rR0 decls_), (1, .sl rR1 g_.Diffs), (2, .sl (rP (rI .i64) (rI .i64)) g_.Equals)], [], 3, .O r, [], []⟩ := by
  refine Fn.intro _ _ Tryz.func154 rfl (by kernel_rfl) rfl (fun E F w => ?_)
  unfold z154 at h
  refine WP.seq (WP.region (WPr.sil htt 2 rfl (WPr.nil (WP.seq (WP.region (WPr.silx [1, 2] ⟨[(0, .S 0), (3, .B 3 0), (4, .O false), (9, .S 0)], [(3, .box [.sl 1, .sl 2] 92)], [(0, .sl rR0 decls_), (1, .sl rR1 g_.Diffs), (2, .sl (rP (rI .i64) (rI .i64)) g_.Equals)], 4⟩ htt 1 (by kernel_rfl) (?_)))))))
  obtain ⟨x1, hx1, h⟩ := ob h
  refine WPr.call (z151_ct N decls_ _ hx1) [(0, .sl 0)] [] rfl rfl rfl rfl rfl rfl rfl rfl (.inl rfl) rfl (WPr.silx [] ⟨[(0, .S 0), (3, .B 3 0), (4, .O false), (5, .I x1)], [(3, .box [.sl 1, .sl 2] 92)], [(0, .sl rR0 decls_), (1, .sl rR1 g_.Diffs), (2, .sl (rP (rI .i64) (rI .i64)) g_.Equals)], 4⟩ htt 1 (by kernel_rfl) (WPr.nil (WP.seq (WP.seq (WP.region (WPr.sil htt 1 rfl (WPr.nil (?_))))))))
  refine WP.cut (σ := Unit) (fun st => ⟨[(0, .S 0), (3, .B 3 0)], [(3, .box [.sl 1, .sl 2] 92)], [(0, .sl rR0 decls_), (1, .sl rR1 g_.Diffs), (2, .sl (rP (rI .i64) (rI .i64)) g_.Equals)], 4⟩) (fun st => z154_k3 N decls_ g_ = some r) ?_ (fun j1 => ?_)
  · intro _ h
    replace h : z154_k3 N decls_ g_ = some r := h
    unfold z154_k3 at h
    refine WP.seq (WP.seq (WP.region (WPr.sil htt 1 rfl (WPr.nil (?_)))))
    refine WP.cut (σ := Unit) (fun st => ⟨[(3, .B 3 0)], [(3, .box [.sl 1, .sl 2] 92)], [(0, .sl rR0 decls_), (1, .sl rR1 g_.Diffs), (2, .sl (rP (rI .i64) (rI .i64)) g_.Equals)], 4⟩) (fun st => z154_k1 g_ = some r) ?_ (fun j3 => ?_)
    · intro _ h
      replace h : z154_k1 g_ = some r := h
      unfold z154_k1 at h
      refine WP.seq (WP.region (WPr.silx (rg 5 6) ⟨[(3, .B 3 0), (84, .O (decide ((g_.Diffs.length : Int) ≤ (20 : Int))))], [(3, .box [.sl 1, .sl 2] 92)], [(0, .sl rR0 decls_), (1, .sl rR1 g_.Diffs), (2, .sl (rP (rI .i64) (rI .i64)) g_.Equals)], 4⟩ htt 5 (by kernel_rfl) (?_)))
      rcases oc h with ⟨hc, h⟩ | ⟨hc, h⟩
      · refine WPr.kb 84 hc rfl (WPr.silx [] ⟨[(4, .O (decide ((g_.Equals.length : Int) ≤ (20 : Int))))], [], [(0, .sl rR0 decls_), (1, .sl rR1 g_.Diffs), (2, .sl (rP (rI .i64) (rI .i64)) g_.Equals)], 4⟩ htt 6 (by kernel_rfl) (WPr.nil (?_)))
        cases h
        exact WP.ret htt Tryz.func154 [] rfl rfl rfl rfl
      refine WPr.kb 84 hc rfl (WPr.silx [] ⟨[(4, .O false)], [], [(0, .sl rR0 decls_), (1, .sl rR1 g_.Diffs), (2, .sl (rP (rI .i64) (rI .i64)) g_.Equals)], 4⟩ htt 6 (by kernel_rfl) (WPr.nil (?_)))
      cases h
      exact WP.ret htt Tryz.func154 [] rfl rfl rfl rfl
    refine WP.block (?_)
    refine WP.loopI (σ := Int) (fun st => ⟨[(0, .S 0), (3, .B 3 0), (8, .I st)], [(3, .box [.sl 1, .sl 2] 92)], [(0, .sl rR0 decls_), (1, .sl rR1 g_.Diffs), (2, .sl (rP (rI .i64) (rI .i64)) g_.Equals)], 4⟩) (fun n st => z154_l2 N decls_ g_ n st) (r := r) (fun _ => rfl) ?_ (fun ih => ?_)
    · intro n3 ih5
      intro v8_5 h
      replace h : z154_l2 N decls_ g_ (n3 + 1) v8_5 = some r := h
      unfold z154_l2 at h
      refine WP.seq (WP.seq (WP.region (WPr.silx [] ⟨[(0, .S 0), (3, .B 3 0), (8, .I v8_5), (57, .O (decide (v8_5 < (g_.Equals.length : Int))))], [(3, .box [.sl 1, .sl 2] 92)], [(0, .sl rR0 decls_), (1, .sl rR1 g_.Diffs), (2, .sl (rP (rI .i64) (rI .i64)) g_.Equals)], 4⟩ htt 5 (by kernel_rfl) (WPr.nil (?_)))))
      rcases oc' h with ⟨hc, h⟩ | ⟨hc, h⟩
      · exact WP.condF hc rfl (WP.exit rfl (WP.sub [] (j3 () h) rfl rfl rfl rfl))
      refine WP.condT hc rfl (WP.skip (WP.seq (WP.block (WP.seq (WP.region (WPr.silx (rg 4 16) ⟨[(0, .S 0), (3, .B 3 0), (8, .I v8_5), (60, .S 0), (62, .S 2), (63, .I v8_5)], [(3, .box [.sl 1, .sl 2] 92)], [(0, .sl rR0 decls_), (1, .sl rR1 g_.Diffs), (2, .sl (rP (rI .i64) (rI .i64)) g_.Equals)], 4⟩ htt 4 (by kernel_rfl) (?_)))))))
      obtain ⟨x38, hx38, h⟩ := ob h
      refine WPr.ix (oP (oI .i64) (oI .i64)) htt hx38 rfl rfl rfl rfl rfl rfl rfl rfl rfl (WPr.axp (len := 2) (el := 3) (es := 1) 0 rfl rfl rfl rfl rfl (by kernel_rfl) (by kernel_rfl) rfl rfl (Or.inl ⟨_, rfl⟩) rfl rfl (WPr.silx (rg 7 13) ⟨[(0, .S 0), (3, .B 3 0), (8, .I v8_5), (60, .S 0), (66, .I x38.1)], [(3, .box [.sl 1, .sl 2] 92)], [(0, .sl rR0 decls_), (1, .sl rR1 g_.Diffs), (2, .sl (rP (rI .i64) (rI .i64)) g_.Equals)], 5⟩ htt 1 (by kernel_rfl) (?_)))
      obtain ⟨x39, hx39, h⟩ := ob h
      refine WPr.call (z172_ct N decls_ x38.1 _ hx39) [(0, .sl 0)] [] rfl rfl rfl rfl rfl rfl rfl rfl (.inl rfl) rfl (WPr.silx (rg 10 10) ⟨[(0, .S 0), (3, .B 3 0), (8, .I v8_5), (69, .O (!x39))], [(3, .box [.sl 1, .sl 2] 92)], [(0, .sl rR0 decls_), (1, .sl rR1 g_.Diffs), (2, .sl (rP (rI .i64) (rI .i64)) g_.Equals)], 5⟩ htt 2 (by kernel_rfl) (?_))
      rcases oc h with ⟨hc, h⟩ | ⟨hc, h⟩
      · refine WPr.kb 69 hc rfl (WPr.silx [] ⟨[(0, .S 0), (3, .B 3 0), (8, .I v8_5), (79, .O true)], [(3, .box [.sl 1, .sl 2] 92)], [(0, .sl rR0 decls_), (1, .sl rR1 g_.Diffs), (2, .sl (rP (rI .i64) (rI .i64)) g_.Equals)], 5⟩ htt 10 (by kernel_rfl) (WPr.nil (WP.condT rfl rfl (WP.seq (WP.region (WPr.sil htt 1 rfl (WPr.nil (?_))))))))
        cases h
        exact WP.ret htt Tryz.func154 [] rfl rfl rfl rfl
      refine WPr.kb 69 hc rfl (WPr.silx (rg 14 6) ⟨[(0, .S 0), (3, .B 3 0), (8, .I v8_5), (69, .O false), (70, .S 0), (72, .S 2), (73, .I v8_5)], [(3, .box [.sl 1, .sl 2] 92)], [(0, .sl rR0 decls_), (1, .sl rR1 g_.Diffs), (2, .sl (rP (rI .i64) (rI .i64)) g_.Equals)], 5⟩ htt 4 (by kernel_rfl) (?_))
      obtain ⟨x40, hx40, h⟩ := ob h
      refine WPr.ix (oP (oI .i64) (oI .i64)) htt hx40 rfl rfl rfl rfl rfl rfl rfl rfl rfl (WPr.axp (len := 2) (el := 3) (es := 1) 1 rfl rfl rfl rfl rfl (by kernel_rfl) (by kernel_rfl) rfl rfl (Or.inl ⟨_, rfl⟩) rfl rfl (WPr.silx [17, 18, 19] ⟨[(0, .S 0), (3, .B 3 0), (8, .I v8_5), (69, .O false), (70, .S 0), (76, .I x40.2)], [(3, .box [.sl 1, .sl 2] 92)], [(0, .sl rR0 decls_), (1, .sl rR1 g_.Diffs), (2, .sl (rP (rI .i64) (rI .i64)) g_.Equals)], 6⟩ htt 1 (by kernel_rfl) (?_)))
      obtain ⟨x41, hx41, h⟩ := ob h
      refine WPr.call (z172_ct N decls_ x40.2 _ hx41) [(0, .sl 0)] [] rfl rfl rfl rfl rfl rfl rfl rfl (.inl rfl) rfl (WPr.silx [] ⟨[(0, .S 0), (3, .B 3 0), (8, .I v8_5), (79, .O (!x41))], [(3, .box [.sl 1, .sl 2] 92)], [(0, .sl rR0 decls_), (1, .sl rR1 g_.Diffs), (2, .sl (rP (rI .i64) (rI .i64)) g_.Equals)], 6⟩ htt 2 (by kernel_rfl) (WPr.nil (?_)))
      rcases oc h with ⟨hc, h⟩ | ⟨hc, h⟩
      · refine WP.condT hc rfl (WP.seq (WP.region (WPr.sil htt 1 rfl (WPr.nil (?_)))))
        cases h
        exact WP.ret htt Tryz.func154 [] rfl rfl rfl rfl
      exact WP.condF hc rfl (WP.skip (WP.inBlock (WP.region (WPr.silx [] ⟨[(0, .S 0), (3, .B 3 0), (8, .I (w64 (v8_5 + (1 : Int))))], [(3, .box [.sl 1, .sl 2] 92)], [(0, .sl rR0 decls_), (1, .sl rR1 g_.Diffs), (2, .sl (rP (rI .i64) (rI .i64)) g_.Equals)], 6⟩ htt 3 (by kernel_rfl) (WPr.nil (WP.sub [] (ih5 (w64 (v8_5 + (1 : Int))) h) rfl rfl rfl rfl))))))
    exact WP.sub [] (ih N (0 : Int) h) rfl rfl rfl rfl
  refine WP.block (?_)
  refine WP.loopI (σ := Int) (fun st => ⟨[(0, .S 0), (3, .B 3 0), (5, .I x1), (6, .I st)], [(3, .box [.sl 1, .sl 2] 92)], [(0, .sl rR0 decls_), (1, .sl rR1 g_.Diffs), (2, .sl (rP (rI .i64) (rI .i64)) g_.Equals)], 4⟩) (fun n st => z154_l4 N decls_ g_ x1 n st) (r := r) (fun _ => rfl) ?_ (fun ih => ?_)
  · intro n4 ih6
    intro v6_6 h
    replace h : z154_l4 N decls_ g_ x1 (n4 + 1) v6_6 = some r := h
    unfold z154_l4 at h
    refine WP.seq (WP.seq (WP.region (WPr.silx [] ⟨[(0, .S 0), (3, .B 3 0), (5, .I x1), (6, .I v6_6), (15, .O (decide (v6_6 < (g_.Diffs.length : Int))))], [(3, .box [.sl 1, .sl 2] 92)], [(0, .sl rR0 decls_), (1, .sl rR1 g_.Diffs), (2, .sl (rP (rI .i64) (rI .i64)) g_.Equals)], 4⟩ htt 5 (by kernel_rfl) (WPr.nil (?_)))))
    rcases oc' h with ⟨hc, h⟩ | ⟨hc, h⟩
    · exact WP.condF hc rfl (WP.exit rfl (WP.sub [] (j1 () h) rfl rfl rfl rfl))
    refine WP.condT hc rfl (WP.skip (WP.seq (WP.block (WP.seq (WP.region (WPr.silx [3, 4, 5, 6] ⟨[(0, .S 0), (3, .B 3 0), (5, .I x1), (6, .I v6_6), (19, .S 1), (20, .I v6_6)], [(3, .box [.sl 1, .sl 2] 92)], [(0, .sl rR0 decls_), (1, .sl rR1 g_.Diffs), (2, .sl (rP (rI .i64) (rI .i64)) g_.Equals)], 4⟩ htt 3 (by kernel_rfl) (?_)))))))
    obtain ⟨x46, hx46, h⟩ := ob h
    refine WPr.ix oO1 htt hx46 rfl rfl rfl rfl rfl rfl rfl rfl rfl (WPr.silx [] ⟨[(0, .S 0), (3, .B 3 0), (5, .I x1), (6, .I v6_6), (7, .B 5 0)], [(3, .box [.sl 1, .sl 2] 92), (5, .box (cC1 x46) 144)], [(0, .sl rR0 decls_), (1, .sl rR1 g_.Diffs), (2, .sl (rP (rI .i64) (rI .i64)) g_.Equals)], 6⟩ htt 3 (by kernel_rfl) (WPr.nil (WP.seq (WP.region (WPr.silx (rg 4 26) ⟨[(0, .S 0), (3, .B 3 0), (5, .I x1), (6, .I v6_6), (7, .B 5 0), (26, .O (decide (x46.X < (-1 : Int))))], [(3, .box [.sl 1, .sl 2] 92), (5, .box (cC1 x46) 144)], [(0, .sl rR0 decls_), (1, .sl rR1 g_.Diffs), (2, .sl (rP (rI .i64) (rI .i64)) g_.Equals)], 6⟩ htt 4 (by kernel_rfl) (?_))))))
    rcases oc h with ⟨hc, h⟩ | ⟨hc, h⟩
    · refine WPr.kb 26 hc rfl (WPr.silx [] ⟨[(0, .S 0), (3, .B 3 0), (5, .I x1), (6, .I v6_6), (52, .O true)], [(3, .box [.sl 1, .sl 2] 92)], [(0, .sl rR0 decls_), (1, .sl rR1 g_.Diffs), (2, .sl (rP (rI .i64) (rI .i64)) g_.Equals)], 6⟩ htt 26 (by kernel_rfl) (WPr.nil (WP.condT rfl rfl (WP.seq (WP.region (WPr.sil htt 1 rfl (WPr.nil (?_))))))))
      cases h
      exact WP.ret htt Tryz.func154 [] rfl rfl rfl rfl
    refine WPr.kb 26 hc rfl (WPr.silx (rg 10 20) ⟨[(0, .S 0), (3, .B 3 0), (5, .I x1), (6, .I v6_6), (7, .B 5 0), (32, .O (decide (x46.X ≥ x1)))], [(3, .box [.sl 1, .sl 2] 92), (5, .box (cC1 x46) 144)], [(0, .sl rR0 decls_), (1, .sl rR1 g_.Diffs), (2, .sl (rP (rI .i64) (rI .i64)) g_.Equals)], 6⟩ htt 6 (by kernel_rfl) (?_))
    rcases oc h with ⟨hc, h⟩ | ⟨hc, h⟩
    · refine WPr.kb 32 hc rfl (WPr.silx [] ⟨[(0, .S 0), (3, .B 3 0), (5, .I x1), (6, .I v6_6), (52, .O true)], [(3, .box [.sl 1, .sl 2] 92)], [(0, .sl rR0 decls_), (1, .sl rR1 g_.Diffs), (2, .sl (rP (rI .i64) (rI .i64)) g_.Equals)], 6⟩ htt 20 (by kernel_rfl) (WPr.nil (WP.condT rfl rfl (WP.seq (WP.region (WPr.sil htt 1 rfl (WPr.nil (?_))))))))
      cases h
      exact WP.ret htt Tryz.func154 [] rfl rfl rfl rfl
    refine WPr.kb 32 hc rfl (WPr.silx (rg 15 15) ⟨[(0, .S 0), (3, .B 3 0), (5, .I x1), (6, .I v6_6), (7, .B 5 0), (37, .O (decide (x46.Y < (-1 : Int))))], [(3, .box [.sl 1, .sl 2] 92), (5, .box (cC1 x46) 144)], [(0, .sl rR0 decls_), (1, .sl rR1 g_.Diffs), (2, .sl (rP (rI .i64) (rI .i64)) g_.Equals)], 6⟩ htt 5 (by kernel_rfl) (?_))
    rcases oc h with ⟨hc, h⟩ | ⟨hc, h⟩
    · refine WPr.kb 37 hc rfl (WPr.silx [] ⟨[(0, .S 0), (3, .B 3 0), (5, .I x1), (6, .I v6_6), (52, .O true)], [(3, .box [.sl 1, .sl 2] 92)], [(0, .sl rR0 decls_), (1, .sl rR1 g_.Diffs), (2, .sl (rP (rI .i64) (rI .i64)) g_.Equals)], 6⟩ htt 15 (by kernel_rfl) (WPr.nil (WP.condT rfl rfl (WP.seq (WP.region (WPr.sil htt 1 rfl (WPr.nil (?_))))))))
      cases h
      exact WP.ret htt Tryz.func154 [] rfl rfl rfl rfl
    refine WPr.kb 37 hc rfl (WPr.silx (rg 21 9) ⟨[(0, .S 0), (3, .B 3 0), (5, .I x1), (6, .I v6_6), (7, .B 5 0), (43, .O (decide (x46.Y ≥ x1)))], [(3, .box [.sl 1, .sl 2] 92), (5, .box (cC1 x46) 144)], [(0, .sl rR0 decls_), (1, .sl rR1 g_.Diffs), (2, .sl (rP (rI .i64) (rI .i64)) g_.Equals)], 6⟩ htt 6 (by kernel_rfl) (?_))
    rcases oc h with ⟨hc, h⟩ | ⟨hc, h⟩
    · refine WPr.kb 43 hc rfl (WPr.silx [] ⟨[(0, .S 0), (3, .B 3 0), (5, .I x1), (6, .I v6_6), (52, .O true)], [(3, .box [.sl 1, .sl 2] 92)], [(0, .sl rR0 decls_), (1, .sl rR1 g_.Diffs), (2, .sl (rP (rI .i64) (rI .i64)) g_.Equals)], 6⟩ htt 9 (by kernel_rfl) (WPr.nil (WP.condT rfl rfl (WP.seq (WP.region (WPr.sil htt 1 rfl (WPr.nil (?_))))))))
      cases h
      exact WP.ret htt Tryz.func154 [] rfl rfl rfl rfl
    refine WPr.kb 43 hc rfl (WPr.silx [26, 27, 28, 29] ⟨[(0, .S 0), (3, .B 3 0), (5, .I x1), (6, .I v6_6), (7, .B 5 0), (48, .O (decide (x46.C < (-20000 : Int))))], [(3, .box [.sl 1, .sl 2] 92), (5, .box (cC1 x46) 144)], [(0, .sl rR0 decls_), (1, .sl rR1 g_.Diffs), (2, .sl (rP (rI .i64) (rI .i64)) g_.Equals)], 6⟩ htt 5 (by kernel_rfl) (?_))
    rcases oc h with ⟨hc, h⟩ | ⟨hc, h⟩
    · refine WPr.kb 48 hc rfl (WPr.silx [] ⟨[(0, .S 0), (3, .B 3 0), (5, .I x1), (6, .I v6_6), (52, .O true)], [(3, .box [.sl 1, .sl 2] 92)], [(0, .sl rR0 decls_), (1, .sl rR1 g_.Diffs), (2, .sl (rP (rI .i64) (rI .i64)) g_.Equals)], 6⟩ htt 4 (by kernel_rfl) (WPr.nil (WP.condT rfl rfl (WP.seq (WP.region (WPr.sil htt 1 rfl (WPr.nil (?_))))))))
      cases h
      exact WP.ret htt Tryz.func154 [] rfl rfl rfl rfl
    refine WPr.kb 48 hc rfl (WPr.silx [] ⟨[(0, .S 0), (3, .B 3 0), (5, .I x1), (6, .I v6_6), (52, .O (decide (x46.C > (20000 : Int))))], [(3, .box [.sl 1, .sl 2] 92)], [(0, .sl rR0 decls_), (1, .sl rR1 g_.Diffs), (2, .sl (rP (rI .i64) (rI .i64)) g_.Equals)], 6⟩ htt 4 (by kernel_rfl) (WPr.nil (?_)))
    rcases oc h with ⟨hc, h⟩ | ⟨hc, h⟩
    · refine WP.condT hc rfl (WP.seq (WP.region (WPr.sil htt 1 rfl (WPr.nil (?_)))))
      cases h
      exact WP.ret htt Tryz.func154 [] rfl rfl rfl rfl
    exact WP.condF hc rfl (WP.skip (WP.inBlock (WP.region (WPr.silx [] ⟨[(0, .S 0), (3, .B 3 0), (5, .I x1), (6, .I (w64 (v6_6 + (1 : Int))))], [(3, .box [.sl 1, .sl 2] 92)], [(0, .sl rR0 decls_), (1, .sl rR1 g_.Diffs), (2, .sl (rP (rI .i64) (rI .i64)) g_.Equals)], 6⟩ htt 3 (by kernel_rfl) (WPr.nil (WP.sub [] (ih6 (w64 (v6_6 + (1 : Int))) h) rfl rfl rfl rfl))))))
  exact WP.sub [] (ih N (0 : Int) h) rfl rfl rfl rfl
theorem z113_ct (N : Nat) (decls_ : (List T0)) (r : Bool) (h : z113 N decls_ = some r) :
  Fn Tryz.prog 113 ⟨1, [.S 0], [(0, .sl rR0 decls_)], [], 1, .O r, [], []⟩ := by
  refine Fn.intro _ _ Tryz.func113 rfl (by kernel_rfl) rfl (fun E F w => ?_)
  unfold z113 at h
  refine WP.seq (WP.region (WPr.sil htt 1 rfl (WPr.nil (WP.seq (WP.seq (WP.region (WPr.silx [4, 5, 6, 7] ⟨[(0, .S 0), (2, .O false), (12, .O (decide ((decls_.length : Int) > (40 : Int))))], [], [(0, .sl rR0 decls_)], 1⟩ htt 4 (by kernel_rfl) (?_))))))))
  rcases oc h with ⟨hc, h⟩ | ⟨hc, h⟩
  · refine WPr.kb 12 hc rfl (WPr.silx [] ⟨[(0, .S 0), (2, .O false), (16, .O true)], [], [(0, .sl rR0 decls_)], 1⟩ htt 4 (by kernel_rfl) (WPr.nil (WP.condT rfl rfl (WP.seq (WP.region (WPr.sil htt 1 rfl (WPr.nil (?_))))))))
    cases h
    exact WP.ret htt Tryz.func113 [] rfl rfl rfl rfl
  refine WPr.kb 12 hc rfl (WPr.sil htt 1 rfl (?_))
  obtain ⟨x1, hx1, h⟩ := ob h
  refine WPr.call (z151_ct N decls_ _ hx1) [(0, .sl 0)] [] rfl rfl rfl rfl rfl rfl rfl rfl (.inl rfl) rfl (WPr.silx [] ⟨[(0, .S 0), (2, .O false), (16, .O (decide (x1 > (24 : Int))))], [], [(0, .sl rR0 decls_)], 1⟩ htt 2 (by kernel_rfl) (WPr.nil (?_)))
  rcases oc h with ⟨hc, h⟩ | ⟨hc, h⟩
  · refine WP.condT hc rfl (WP.seq (WP.region (WPr.sil htt 1 rfl (WPr.nil (?_)))))
    cases h
    exact WP.ret htt Tryz.func113 [] rfl rfl rfl rfl
  refine WP.condF hc rfl (WP.skip (WP.seq (WP.region (WPr.sil htt 1 rfl (WPr.nil (WP.seq (WP.seq (WP.region (WPr.sil htt 1 rfl (WPr.nil (?_)))))))))))
  refine WP.cut (σ := Unit) (fun st => ⟨[], [], [(0, .sl rR0 decls_)], 1⟩) (fun st => z113_k1 = some r) ?_ (fun j1 => ?_)
  · intro _ h
    replace h : z113_k1 = some r := h
    unfold z113_k1 at h
    refine WP.seq (WP.region (WPr.sil htt 1 rfl (WPr.nil (?_))))
    cases h
    exact WP.ret htt Tryz.func113 [] rfl rfl rfl rfl
  refine WP.block (?_)
  refine WP.loopI (σ := Int × Int) (fun st => ⟨[(0, .S 0), (3, .I st.1), (4, .I st.2)], [], [(0, .sl rR0 decls_)], 1⟩) (fun n st => z113_l2 N decls_ n st.1 st.2) (r := r) (fun _ => rfl) ?_ (fun ih => ?_)
  · intro n82 ih75
    rintro ⟨v3_75, v4_75⟩ h
    replace h : z113_l2 N decls_ (n82 + 1) v3_75 v4_75 = some r := h
    unfold z113_l2 at h
    refine WP.seq (WP.seq (WP.region (WPr.silx [] ⟨[(0, .S 0), (3, .I v3_75), (4, .I v4_75), (20, .O (decide (v4_75 < (decls_.length : Int))))], [], [(0, .sl rR0 decls_)], 1⟩ htt 4 (by kernel_rfl) (WPr.nil (?_)))))
    rcases oc' h with ⟨hc, h⟩ | ⟨hc, h⟩
    · exact WP.condF hc rfl (WP.exit rfl (WP.sub [] (j1 () h) rfl rfl rfl rfl))
    refine WP.condT hc rfl (WP.skip (WP.seq (WP.block (WP.seq (WP.region (WPr.sil htt 2 rfl (?_)))))))
    obtain ⟨x2504, hx2504, h⟩ := ob h
    refine WPr.ix oO0 htt hx2504 rfl rfl rfl rfl rfl rfl rfl rfl rfl (WPr.silx [] ⟨[(0, .S 0), (3, .I v3_75), (4, .I v4_75), (5, .B 5 0)], [(5, .box (cC0 2 3 4 x2504) 94)], ((0, .sl rR0 decls_) :: vV0 2 3 4 x2504 []), 6⟩ htt 3 (by kernel_rfl) (WPr.nil (WP.seq (WP.seq (WP.region (WPr.sil htt 1 rfl (WPr.nil (?_))))))))
    refine WP.cut (σ := Unit) (fun st => ⟨[(0, .S 0), (3, .I v3_75), (4, .I v4_75), (5, .B 5 0)], [(5, .box (cC0 2 3 4 x2504) 94)], ((0, .sl rR0 decls_) :: vV0 2 3 4 x2504 []), 6⟩) (fun st => z113_k7 N decls_ v3_75 v4_75 (z113_l2 N decls_ n82) x2504 = some r) ?_ (fun j124 => ?_)
    · intro _ h
      replace h : z113_k7 N decls_ v3_75 v4_75 (z113_l2 N decls_ n82) x2504 = some r := h
      unfold z113_k7 at h
      refine WP.seq (WP.seq (WP.region (WPr.sil htt 1 rfl (WPr.nil (?_)))))
      refine WP.cut (σ := Unit) (fun st => ⟨[(0, .S 0), (3, .I v3_75), (4, .I v4_75), (5, .B 5 0)], [(5, .box (cC0 2 3 4 x2504) 94)], ((0, .sl rR0 decls_) :: vV0 2 3 4 x2504 []), 6⟩) (fun st => z113_k3 N decls_ v3_75 v4_75 (z113_l2 N decls_ n82) x2504 = some r) ?_ (fun j126 => ?_)
      · intro _ h
        replace h : z113_k3 N decls_ v3_75 v4_75 (z113_l2 N decls_ n82) x2504 = some r := h
        unfold z113_k3 at h
        refine WP.seq (WP.seq (WP.region (WPr.sil htt 2 rfl (?_))))
        obtain ⟨x2657, hx2657, h⟩ := ob h
        refine WPr.call (z153_ct N x2504.Name _ hx2657) [] [] rfl rfl rfl rfl rfl rfl rfl rfl (.inl rfl) rfl (WPr.silx (rg 5 18) ⟨[(0, .S 0), (3, .I v3_75), (4, .I v4_75), (5, .B 5 0), (87, .O (!x2657))], [(5, .box (cC0 2 3 4 x2504) 94)], ((0, .sl rR0 decls_) :: vV0 2 3 4 x2504 []), 6⟩ htt 2 (by kernel_rfl) (?_))
        rcases oc h with ⟨hc, h⟩ | ⟨hc, h⟩
        · refine WPr.kb 87 hc rfl (WPr.silx [] ⟨[(0, .S 0), (3, .I v3_75), (4, .I v4_75), (5, .B 5 0), (105, .O true)], [(5, .box (cC0 2 3 4 x2504) 94)], ((0, .sl rR0 decls_) :: vV0 2 3 4 x2504 []), 6⟩ htt 18 (by kernel_rfl) (WPr.nil (WP.condT rfl rfl (WP.seq (WP.region (WPr.sil htt 1 rfl (WPr.nil (?_))))))))
          cases h
          exact WP.ret htt Tryz.func113 [] rfl rfl rfl rfl
        refine WPr.kb 87 hc rfl (WPr.silx (rg 11 12) ⟨[(0, .S 0), (3, .I v3_75), (4, .I v4_75), (5, .B 5 0), (93, .O (decide ((x2504.Fields.length : Int) > (4 : Int))))], [(5, .box (cC0 2 3 4 x2504) 94)], ((0, .sl rR0 decls_) :: vV0 2 3 4 x2504 []), 6⟩ htt 6 (by kernel_rfl) (?_))
        rcases oc h with ⟨hc, h⟩ | ⟨hc, h⟩
        · refine WPr.kb 93 hc rfl (WPr.silx [] ⟨[(0, .S 0), (3, .I v3_75), (4, .I v4_75), (5, .B 5 0), (105, .O true)], [(5, .box (cC0 2 3 4 x2504) 94)], ((0, .sl rR0 decls_) :: vV0 2 3 4 x2504 []), 6⟩ htt 12 (by kernel_rfl) (WPr.nil (WP.condT rfl rfl (WP.seq (WP.region (WPr.sil htt 1 rfl (WPr.nil (?_))))))))
          cases h
          exact WP.ret htt Tryz.func113 [] rfl rfl rfl rfl
        refine WPr.kb 93 hc rfl (WPr.silx (rg 17 6) ⟨[(0, .S 0), (3, .I v3_75), (4, .I v4_75), (5, .B 5 0), (99, .O (x2504.First != v3_75))], [(5, .box (cC0 2 3 4 x2504) 94)], ((0, .sl rR0 decls_) :: vV0 2 3 4 x2504 []), 6⟩ htt 6 (by kernel_rfl) (?_))
        rcases oc h with ⟨hc, h⟩ | ⟨hc, h⟩
        · refine WPr.kb 99 hc rfl (WPr.silx [] ⟨[(0, .S 0), (3, .I v3_75), (4, .I v4_75), (5, .B 5 0), (105, .O true)], [(5, .box (cC0 2 3 4 x2504) 94)], ((0, .sl rR0 decls_) :: vV0 2 3 4 x2504 []), 6⟩ htt 6 (by kernel_rfl) (WPr.nil (WP.condT rfl rfl (WP.seq (WP.region (WPr.sil htt 1 rfl (WPr.nil (?_))))))))
          cases h
          exact WP.ret htt Tryz.func113 [] rfl rfl rfl rfl
        refine WPr.kb 99 hc rfl (WPr.silx [20, 21, 22] ⟨[(0, .S 0), (3, .I v3_75), (4, .I v4_75), (5, .B 5 0), (99, .O false), (100, .S 0), (102, .a [.sl 3, .sl 4])], [(5, .box (cC0 2 3 4 x2504) 94)], ((0, .sl rR0 decls_) :: vV0 2 3 4 x2504 []), 6⟩ htt 3 (by kernel_rfl) (?_))
        obtain ⟨x2658, hx2658, h⟩ := ob h
        refine WPr.call (z154_ct N decls_ x2504.Guard _ hx2658) [(0, .sl 0), (1, .sl 3), (2, .sl 4)] [] rfl rfl rfl rfl rfl rfl rfl rfl (.inl rfl) rfl (WPr.silx [] ⟨[(0, .S 0), (3, .I v3_75), (4, .I v4_75), (5, .B 5 0), (105, .O (!x2658))], [(5, .box (cC0 2 3 4 x2504) 94)], ((0, .sl rR0 decls_) :: vV0 2 3 4 x2504 []), 6⟩ htt 2 (by kernel_rfl) (WPr.nil (?_)))
        rcases oc h with ⟨hc, h⟩ | ⟨hc, h⟩
        · refine WP.condT hc rfl (WP.seq (WP.region (WPr.sil htt 1 rfl (WPr.nil (?_)))))
          cases h
          exact WP.ret htt Tryz.func113 [] rfl rfl rfl rfl
        exact WP.condF hc rfl (WP.skip (WP.region (WPr.silx [] ⟨[(0, .S 0), (3, .I (w64 (v3_75 + (x2504.Fields.length : Int)))), (4, .I v4_75)], [], [(0, .sl rR0 decls_)], 6⟩ htt 6 (by kernel_rfl) (WPr.nil (WP.inBlock (WP.region (WPr.silx [] ⟨[(0, .S 0), (3, .I (w64 (v3_75 + (x2504.Fields.length : Int)))), (4, .I (w64 (v4_75 + (1 : Int))))], [], [(0, .sl rR0 decls_)], 6⟩ htt 3 (by kernel_rfl) (WPr.nil (WP.sub [] (ih75 ((w64 (v3_75 + (x2504.Fields.length : Int))), (w64 (v4_75 + (1 : Int)))) h) rfl rfl rfl rfl)))))))))
      refine WP.block (?_)
      refine WP.loopI (σ := Int) (fun st => ⟨[(0, .S 0), (3, .I v3_75), (4, .I v4_75), (5, .B 5 0), (7, .I st)], [(5, .box (cC0 2 3 4 x2504) 94)], ((0, .sl rR0 decls_) :: vV0 2 3 4 x2504 []), 6⟩) (fun n st => z113_l4 N decls_ v3_75 v4_75 (z113_l2 N decls_ n82) x2504 n st) (r := r) (fun _ => rfl) ?_ (fun ih => ?_)
      · intro n95 ih137
        intro v7_137 h
        replace h : z113_l4 N decls_ v3_75 v4_75 (z113_l2 N decls_ n82) x2504 (n95 + 1) v7_137 = some r := h
        unfold z113_l4 at h
        refine WP.seq (WP.seq (WP.region (WPr.silx [] ⟨[(0, .S 0), (3, .I v3_75), (4, .I v4_75), (5, .B 5 0), (7, .I v7_137), (44, .O (decide (v7_137 < (x2504.Fields.length : Int))))], [(5, .box (cC0 2 3 4 x2504) 94)], ((0, .sl rR0 decls_) :: vV0 2 3 4 x2504 []), 6⟩ htt 5 (by kernel_rfl) (WPr.nil (?_)))))
        rcases oc' h with ⟨hc, h⟩ | ⟨hc, h⟩
        · exact WP.condF hc rfl (WP.exit rfl (WP.sub [] (j126 () h) rfl rfl rfl rfl))
        refine WP.condT hc rfl (WP.skip (WP.seq (WP.block (WP.seq (WP.seq (WP.region (WPr.silx (rg 3 15) ⟨[(0, .S 0), (3, .I v3_75), (4, .I v4_75), (5, .B 5 0), (7, .I v7_137), (48, .S 2), (49, .I v7_137)], [(5, .box (cC0 2 3 4 x2504) 94)], ((0, .sl rR0 decls_) :: vV0 2 3 4 x2504 []), 6⟩ htt 3 (by kernel_rfl) (?_))))))))
        obtain ⟨x2807, hx2807, h⟩ := ob h
        refine WPr.ix oO3 htt hx2807 rfl rfl rfl rfl rfl rfl rfl rfl rfl (WPr.silx (rg 6 12) ⟨[(0, .S 0), (3, .I v3_75), (4, .I v4_75), (5, .B 5 0), (7, .I v7_137), (52, .a (cC7 x2807.Sort'))], [(5, .box (cC0 2 3 4 x2504) 94)], ((0, .sl rR0 decls_) :: vV0 2 3 4 x2504 []), 7⟩ htt 2 (by kernel_rfl) (?_))
        obtain ⟨x2808, hx2808, h⟩ := ob h
        refine WPr.call (z152_ct N x2807.Sort' _ hx2808) [] [] rfl rfl rfl rfl rfl rfl rfl rfl (.inl rfl) rfl (WPr.silx (rg 9 9) ⟨[(0, .S 0), (3, .I v3_75), (4, .I v4_75), (5, .B 5 0), (7, .I v7_137), (55, .O (!x2808))], [(5, .box (cC0 2 3 4 x2504) 94)], ((0, .sl rR0 decls_) :: vV0 2 3 4 x2504 []), 7⟩ htt 2 (by kernel_rfl) (?_))
        rcases oc h with ⟨hc, h⟩ | ⟨hc, h⟩
        · refine WPr.kb 55 hc rfl (WPr.silx [] ⟨[(0, .S 0), (3, .I v3_75), (4, .I v4_75), (5, .B 5 0), (7, .I v7_137), (64, .O true)], [(5, .box (cC0 2 3 4 x2504) 94)], ((0, .sl rR0 decls_) :: vV0 2 3 4 x2504 []), 7⟩ htt 9 (by kernel_rfl) (WPr.nil (WP.condT rfl rfl (WP.seq (WP.region (WPr.sil htt 1 rfl (WPr.nil (?_))))))))
          cases h
          exact WP.ret htt Tryz.func113 [] rfl rfl rfl rfl
        refine WPr.kb 55 hc rfl (WPr.silx (rg 12 6) ⟨[(0, .S 0), (3, .I v3_75), (4, .I v4_75), (5, .B 5 0), (7, .I v7_137), (55, .O false), (57, .S 2), (58, .I v7_137)], [(5, .box (cC0 2 3 4 x2504) 94)], ((0, .sl rR0 decls_) :: vV0 2 3 4 x2504 []), 7⟩ htt 3 (by kernel_rfl) (?_))
        obtain ⟨x2809, hx2809, h⟩ := ob h
        refine WPr.ix oO3 htt hx2809 rfl rfl rfl rfl rfl rfl rfl rfl rfl (WPr.silx [15, 16, 17] ⟨[(0, .S 0), (3, .I v3_75), (4, .I v4_75), (5, .B 5 0), (7, .I v7_137), (55, .O false), (61, .c (.s x2809.Name))], [(5, .box (cC0 2 3 4 x2504) 94)], ((0, .sl rR0 decls_) :: vV0 2 3 4 x2504 []), 8⟩ htt 2 (by kernel_rfl) (?_))
        obtain ⟨x2810, hx2810, h⟩ := ob h
        refine WPr.call (z112_ct N x2809.Name _ hx2810) [] [] rfl rfl rfl rfl rfl rfl rfl rfl (.inl rfl) rfl (WPr.silx [] ⟨[(0, .S 0), (3, .I v3_75), (4, .I v4_75), (5, .B 5 0), (7, .I v7_137), (64, .O (!x2810))], [(5, .box (cC0 2 3 4 x2504) 94)], ((0, .sl rR0 decls_) :: vV0 2 3 4 x2504 []), 8⟩ htt 2 (by kernel_rfl) (WPr.nil (?_)))
        rcases oc h with ⟨hc, h⟩ | ⟨hc, h⟩
        · refine WP.condT hc rfl (WP.seq (WP.region (WPr.sil htt 1 rfl (WPr.nil (?_)))))
          cases h
          exact WP.ret htt Tryz.func113 [] rfl rfl rfl rfl
        refine WP.condF hc rfl (WP.skip (WP.seq (WP.region (WPr.sil htt 1 rfl (WPr.nil (?_))))))
        refine WP.cut (σ := Unit) (fun st => ⟨[(0, .S 0), (3, .I v3_75), (4, .I v4_75), (5, .B 5 0), (7, .I v7_137)], [(5, .box (cC0 2 3 4 x2504) 94)], ((0, .sl rR0 decls_) :: vV0 2 3 4 x2504 []), 8⟩) (fun st => z113_k5 v7_137 (z113_l4 N decls_ v3_75 v4_75 (z113_l2 N decls_ n82) x2504 n95) = some r) ?_ (fun j144 => ?_)
        · intro _ h
          replace h : z113_k5 v7_137 (z113_l4 N decls_ v3_75 v4_75 (z113_l2 N decls_ n82) x2504 n95) = some r := h
          unfold z113_k5 at h
          exact WP.inBlock (WP.region (WPr.silx [] ⟨[(0, .S 0), (3, .I v3_75), (4, .I v4_75), (5, .B 5 0), (7, .I (w64 (v7_137 + (1 : Int))))], [(5, .box (cC0 2 3 4 x2504) 94)], ((0, .sl rR0 decls_) :: vV0 2 3 4 x2504 []), 8⟩ htt 3 (by kernel_rfl) (WPr.nil (WP.sub [] (ih137 (w64 (v7_137 + (1 : Int))) h) rfl rfl rfl rfl))))
        refine WP.block (?_)
        refine WP.loopI (σ := Int) (fun st => ⟨[(0, .S 0), (3, .I v3_75), (4, .I v4_75), (5, .B 5 0), (7, .I v7_137), (8, .I st)], [(5, .box (cC0 2 3 4 x2504) 94)], ((0, .sl rR0 decls_) :: vV0 2 3 4 x2504 []), 8⟩) (fun n st => z113_l6 x2504 v7_137 (z113_l4 N decls_ v3_75 v4_75 (z113_l2 N decls_ n82) x2504 n95) n st) (r := r) (fun _ => rfl) ?_ (fun ih => ?_)
        · intro n97 ih146
          intro v8_146 h
          replace h : z113_l6 x2504 v7_137 (z113_l4 N decls_ v3_75 v4_75 (z113_l2 N decls_ n82) x2504 n95) (n97 + 1) v8_146 = some r := h
          unfold z113_l6 at h
          refine WP.seq (WP.seq (WP.region (WPr.silx [] ⟨[(0, .S 0), (3, .I v3_75), (4, .I v4_75), (5, .B 5 0), (7, .I v7_137), (8, .I v8_146), (67, .O (decide (v8_146 < v7_137)))], [(5, .box (cC0 2 3 4 x2504) 94)], ((0, .sl rR0 decls_) :: vV0 2 3 4 x2504 []), 8⟩ htt 3 (by kernel_rfl) (WPr.nil (?_)))))
          rcases oc' h with ⟨hc, h⟩ | ⟨hc, h⟩
          · exact WP.condF hc rfl (WP.exit rfl (WP.sub [] (j144 () h) rfl rfl rfl rfl))
          refine WP.condT hc rfl (WP.skip (WP.seq (WP.block (WP.seq (WP.regionQ (by kernel_rfl) (by kernel_rfl) (WPq.silx (rg 3 10) ⟨[(0, .S 0), (3, .I v3_75), (4, .I v4_75), (5, .B 5 0), (7, .I v7_137), (8, .I v8_146), (71, .S 2), (72, .I v8_146)], [(5, .box (cC0 2 3 4 x2504) 94)], ((0, .sl rR0 decls_) :: vV0 2 3 4 x2504 []), 8⟩ htt 3 (by kernel_rfl) (?_)))))))
          obtain ⟨x2845, hx2845, h⟩ := ob h
          refine WPq.op rfl rfl (VN.vs (VN.ix oO3 htt hx2845 rfl rfl rfl rfl rfl rfl rfl)) (WPq.silx [9, 10, 11, 12] ⟨[(0, .S 0), (3, .I v3_75), (4, .I v4_75), (5, .B 5 0), (7, .I v7_137), (8, .I v8_146), (75, .c (.s x2845.Name)), (77, .S 2), (78, .I v7_137)], [(5, .box (cC0 2 3 4 x2504) 94)], ((0, .sl rR0 decls_) :: vV0 2 3 4 x2504 []), 9⟩ htt 5 (by kernel_rfl) (?_))
          obtain ⟨x2846, hx2846, h⟩ := ob h
          refine WPq.op rfl rfl (VN.vs (VN.ix oO3 htt hx2846 rfl rfl rfl rfl rfl rfl rfl)) (WPq.silx [] ⟨[(0, .S 0), (3, .I v3_75), (4, .I v4_75), (5, .B 5 0), (7, .I v7_137), (8, .I v8_146), (82, .O (x2845.Name.toList == x2846.Name.toList))], [(5, .box (cC0 2 3 4 x2504) 94)], ((0, .sl rR0 decls_) :: vV0 2 3 4 x2504 []), 10⟩ htt 3 (by kernel_rfl) (WPq.nil (?_)))
          rcases oc h with ⟨hc, h⟩ | ⟨hc, h⟩
          · refine WP.condT hc rfl (WP.seq (WP.region (WPr.sil htt 1 rfl (WPr.nil (?_)))))
            cases h
            exact WP.ret htt Tryz.func113 [] rfl rfl rfl rfl
          exact WP.condF hc rfl (WP.skip (WP.inBlock (WP.region (WPr.silx [] ⟨[(0, .S 0), (3, .I v3_75), (4, .I v4_75), (5, .B 5 0), (7, .I v7_137), (8, .I (w64 (v8_146 + (1 : Int))))], [(5, .box (cC0 2 3 4 x2504) 94)], ((0, .sl rR0 decls_) :: vV0 2 3 4 x2504 []), 10⟩ htt 3 (by kernel_rfl) (WPr.nil (WP.sub [] (ih146 (w64 (v8_146 + (1 : Int))) h) rfl rfl rfl rfl))))))
        exact WP.sub [] (ih N (0 : Int) h) rfl rfl rfl rfl
      exact WP.sub [] (ih N (0 : Int) h) rfl rfl rfl rfl
    refine WP.block (?_)
    refine WP.loopI (σ := Int) (fun st => ⟨[(0, .S 0), (3, .I v3_75), (4, .I v4_75), (5, .B 5 0), (6, .I st)], [(5, .box (cC0 2 3 4 x2504) 94)], ((0, .sl rR0 decls_) :: vV0 2 3 4 x2504 []), 6⟩) (fun n st => z113_l8 N decls_ v3_75 v4_75 (z113_l2 N decls_ n82) x2504 n st) (r := r) (fun _ => rfl) ?_ (fun ih => ?_)
    · intro n98 ih147
      intro v6_147 h
      replace h : z113_l8 N decls_ v3_75 v4_75 (z113_l2 N decls_ n82) x2504 (n98 + 1) v6_147 = some r := h
      unfold z113_l8 at h
      refine WP.seq (WP.seq (WP.region (WPr.silx [] ⟨[(0, .S 0), (3, .I v3_75), (4, .I v4_75), (5, .B 5 0), (6, .I v6_147), (29, .O (decide (v6_147 < v4_75)))], [(5, .box (cC0 2 3 4 x2504) 94)], ((0, .sl rR0 decls_) :: vV0 2 3 4 x2504 []), 6⟩ htt 3 (by kernel_rfl) (WPr.nil (?_)))))
      rcases oc' h with ⟨hc, h⟩ | ⟨hc, h⟩
      · exact WP.condF hc rfl (WP.exit rfl (WP.sub [] (j124 () h) rfl rfl rfl rfl))
      refine WP.condT hc rfl (WP.skip (WP.seq (WP.block (WP.seq (WP.regionQ (by kernel_rfl) (by kernel_rfl) (WPq.sil htt 2 rfl (?_)))))))
      obtain ⟨x2856, hx2856, h⟩ := ob h
      refine WPq.op rfl rfl (VN.vs (VN.ix oO0 htt hx2856 rfl rfl rfl rfl rfl rfl rfl)) (WPq.silx [] ⟨[(0, .S 0), (3, .I v3_75), (4, .I v4_75), (5, .B 5 0), (6, .I v6_147), (39, .O (x2856.Name.toList == x2504.Name.toList))], [(5, .box (cC0 2 3 4 x2504) 94)], ((0, .sl rR0 decls_) :: vV0 2 3 4 x2504 []), 10⟩ htt 5 (by kernel_rfl) (WPq.nil (?_)))
      rcases oc h with ⟨hc, h⟩ | ⟨hc, h⟩
      · refine WP.condT hc rfl (WP.seq (WP.region (WPr.sil htt 1 rfl (WPr.nil (?_)))))
        cases h
        exact WP.ret htt Tryz.func113 [] rfl rfl rfl rfl
      exact WP.condF hc rfl (WP.skip (WP.inBlock (WP.region (WPr.silx [] ⟨[(0, .S 0), (3, .I v3_75), (4, .I v4_75), (5, .B 5 0), (6, .I (w64 (v6_147 + (1 : Int))))], [(5, .box (cC0 2 3 4 x2504) 94)], ((0, .sl rR0 decls_) :: vV0 2 3 4 x2504 []), 10⟩ htt 3 (by kernel_rfl) (WPr.nil (WP.sub [] (ih147 (w64 (v6_147 + (1 : Int))) h) rfl rfl rfl rfl))))))
    exact WP.sub [] (ih N (0 : Int) h) rfl rfl rfl rfl
  exact WP.sub [] (ih N ((0 : Int), (0 : Int)) h) rfl rfl rfl rfl
theorem z51_ct (N : Nat) (g_ : T4) (r : Bool) (h : z51 N g_ = some r) :
  Fn Tryz.prog 51 ⟨4, [.a (cC4 0 1 2 3 g_)], (vV4 0 1 2 3 g_ []), [], 4, .O r, [], []⟩ := by
  refine Fn.intro _ _ Tryz.func51 rfl (by kernel_rfl) rfl (fun E F w => ?_)
  unfold z51 at h
  refine WP.seq (WP.region (WPr.sil htt 2 rfl (WPr.nil (WP.seq (WP.seq (WP.region (WPr.silx [] ⟨[(1, .B 4 0), (2, .O false), (3, .I (0 : Int))], [(4, .box (cC4 0 1 2 3 g_) 27)], (vV4 0 1 2 3 g_ []), 5⟩ htt 1 (by kernel_rfl) (WPr.nil (?_)))))))))
  refine WP.cut (σ := Unit) (fun st => ⟨[(1, .B 4 0)], [(4, .box (cC4 0 1 2 3 g_) 27)], (vV4 0 1 2 3 g_ []), 5⟩) (fun st => z51_k1 N g_ = some r) ?_ (fun j1 => ?_)
  · intro _ h
    replace h : z51_k1 N g_ = some r := h
    unfold z51_k1 at h
    refine WP.seq (WP.region (WPr.sil htt 2 rfl (?_)))
    obtain ⟨x33, hx33, h⟩ := ob h
    refine WPr.call (z112_ct N g_.Name _ hx33) [] [] rfl rfl rfl rfl rfl rfl rfl rfl (.inl rfl) rfl (WPr.silx (rg 4 17) ⟨[(1, .B 4 0), (33, .O x33)], [(4, .box (cC4 0 1 2 3 g_) 27)], (vV4 0 1 2 3 g_ []), 5⟩ htt 1 (by kernel_rfl) (?_))
    rcases oc' h with ⟨hc, h⟩ | ⟨hc, h⟩
    · refine WPr.kb 33 hc rfl (WPr.silx [] ⟨[(2, .O false)], [], (vV4 0 1 2 3 g_ []), 5⟩ htt 17 (by kernel_rfl) (WPr.nil (?_)))
      cases h
      exact WP.ret htt Tryz.func51 [] rfl rfl rfl rfl
    refine WPr.kb 33 hc rfl (WPr.silx (rg 10 11) ⟨[(1, .B 4 0), (39, .O (decide ((g_.Roles.length : Int) ≥ (1 : Int))))], [(4, .box (cC4 0 1 2 3 g_) 27)], (vV4 0 1 2 3 g_ []), 5⟩ htt 6 (by kernel_rfl) (?_))
    rcases oc' h with ⟨hc, h⟩ | ⟨hc, h⟩
    · refine WPr.kb 39 hc rfl (WPr.silx [] ⟨[(2, .O false)], [], (vV4 0 1 2 3 g_ []), 5⟩ htt 11 (by kernel_rfl) (WPr.nil (?_)))
      cases h
      exact WP.ret htt Tryz.func51 [] rfl rfl rfl rfl
    refine WPr.kb 39 hc rfl (WPr.silx [16, 17, 18, 19, 20] ⟨[(1, .B 4 0), (45, .O (decide ((g_.Roles.length : Int) ≤ (6 : Int))))], [(4, .box (cC4 0 1 2 3 g_) 27)], (vV4 0 1 2 3 g_ []), 5⟩ htt 6 (by kernel_rfl) (?_))
    rcases oc' h with ⟨hc, h⟩ | ⟨hc, h⟩
    · refine WPr.kb 45 hc rfl (WPr.silx [] ⟨[(2, .O false)], [], (vV4 0 1 2 3 g_ []), 5⟩ htt 5 (by kernel_rfl) (WPr.nil (?_)))
      cases h
      exact WP.ret htt Tryz.func51 [] rfl rfl rfl rfl
    refine WPr.kb 45 hc rfl (WPr.sil htt 2 rfl (?_))
    obtain ⟨x34, hx34, h⟩ := ob h
    refine WPr.call (z113_ct N g_.Decls _ hx34) [(0, .sl 1)] [] rfl rfl rfl rfl rfl rfl rfl rfl (.inl rfl) rfl (WPr.silx [] ⟨[(2, .O x34)], [], (vV4 0 1 2 3 g_ []), 5⟩ htt 2 (by kernel_rfl) (WPr.nil (?_)))
    cases h
    exact WP.ret htt Tryz.func51 [] rfl rfl rfl rfl
  refine WP.block (?_)
  refine WP.loopI (σ := Int) (fun st => ⟨[(1, .B 4 0), (3, .I st)], [(4, .box (cC4 0 1 2 3 g_) 27)], (vV4 0 1 2 3 g_ []), 5⟩) (fun n st => z51_l2 N g_ n st) (r := r) (fun _ => rfl) ?_ (fun ih => ?_)
  · intro n2 ih3
    intro v3_3 h
    replace h : z51_l2 N g_ (n2 + 1) v3_3 = some r := h
    unfold z51_l2 at h
    refine WP.seq (WP.seq (WP.region (WPr.silx [] ⟨[(1, .B 4 0), (3, .I v3_3), (8, .O (decide (v3_3 < (g_.Roles.length : Int))))], [(4, .box (cC4 0 1 2 3 g_) 27)], (vV4 0 1 2 3 g_ []), 5⟩ htt 5 (by kernel_rfl) (WPr.nil (?_)))))
    rcases oc' h with ⟨hc, h⟩ | ⟨hc, h⟩
    · exact WP.condF hc rfl (WP.exit rfl (WP.sub [] (j1 () h) rfl rfl rfl rfl))
    refine WP.condT hc rfl (WP.skip (WP.seq (WP.block (WP.seq (WP.regionQ (by kernel_rfl) (by kernel_rfl) (WPq.silx (rg 3 16) ⟨[(1, .B 4 0), (3, .I v3_3), (12, .S 0), (13, .I v3_3)], [(4, .box (cC4 0 1 2 3 g_) 27)], (vV4 0 1 2 3 g_ []), 5⟩ htt 3 (by kernel_rfl) (?_)))))))
    obtain ⟨x71, hx71, h⟩ := ob h
    refine WPq.op rfl rfl (VN.vs (VN.ix oS htt hx71 rfl rfl rfl rfl rfl rfl rfl)) (WPq.sil htt 1 rfl (?_))
    obtain ⟨x72, hx72, h⟩ := ob h
    refine WPq.call (z112_ct N x71 _ hx72) [] [] rfl rfl rfl rfl rfl rfl rfl rfl rfl rfl rfl rfl (WPq.silx (rg 8 11) ⟨[(1, .B 4 0), (3, .I v3_3), (18, .O (!x72))], [(4, .box (cC4 0 1 2 3 g_) 27)], (vV4 0 1 2 3 g_ []), 6⟩ htt 2 (by kernel_rfl) (?_))
    rcases oc h with ⟨hc, h⟩ | ⟨hc, h⟩
    · refine WPq.kb 18 hc rfl (WPq.silx [] ⟨[(1, .B 4 0), (3, .I v3_3), (29, .O true)], [(4, .box (cC4 0 1 2 3 g_) 27)], (vV4 0 1 2 3 g_ []), 6⟩ htt 11 (by kernel_rfl) (WPq.nil (WP.condT rfl rfl (WP.seq (WP.region (WPr.sil htt 1 rfl (WPr.nil (?_))))))))
      cases h
      exact WP.ret htt Tryz.func51 [] rfl rfl rfl rfl
    refine WPq.kb 18 hc rfl (WPq.silx (rg 13 6) ⟨[(1, .B 4 0), (3, .I v3_3), (18, .O false), (20, .S 0), (22, .S 0), (23, .I v3_3)], [(4, .box (cC4 0 1 2 3 g_) 27)], (vV4 0 1 2 3 g_ []), 6⟩ htt 5 (by kernel_rfl) (?_))
    obtain ⟨x73, hx73, h⟩ := ob h
    refine WPq.op rfl rfl (VN.vs (VN.ix oS htt hx73 rfl rfl rfl rfl rfl rfl rfl)) (WPq.sil htt 1 rfl (?_))
    obtain ⟨x74, hx74, h⟩ := ob h
    refine WPq.call (z76_ct N g_.Roles x73 _ hx74) [(0, .sl 0)] [] rfl rfl rfl rfl rfl rfl rfl rfl rfl rfl rfl rfl (WPq.silx [] ⟨[(1, .B 4 0), (3, .I v3_3), (29, .O (decide (x74 < v3_3)))], [(4, .box (cC4 0 1 2 3 g_) 27)], (vV4 0 1 2 3 g_ []), 7⟩ htt 3 (by kernel_rfl) (WPq.nil (?_)))
    rcases oc h with ⟨hc, h⟩ | ⟨hc, h⟩
    · refine WP.condT hc rfl (WP.seq (WP.region (WPr.sil htt 1 rfl (WPr.nil (?_)))))
      cases h
      exact WP.ret htt Tryz.func51 [] rfl rfl rfl rfl
    exact WP.condF hc rfl (WP.skip (WP.inBlock (WP.region (WPr.silx [] ⟨[(1, .B 4 0), (3, .I (w64 (v3_3 + (1 : Int))))], [(4, .box (cC4 0 1 2 3 g_) 27)], (vV4 0 1 2 3 g_ []), 7⟩ htt 3 (by kernel_rfl) (WPr.nil (WP.sub [] (ih3 (w64 (v3_3 + (1 : Int))) h) rfl rfl rfl rfl))))))
  exact WP.sub [] (ih N (0 : Int) h) rfl rfl rfl rfl
theorem z114_ct (N : Nat) (g_ : T4) (s_ : Int) (r : Bool) (h : z114 N g_ s_ = some r) :
  Fn Tryz.prog 114 ⟨4, [.a (cC4 0 1 2 3 g_), .I s_], (vV4 0 1 2 3 g_ []), [], 4, .O r, [], []⟩ := by
  refine Fn.intro _ _ Tryz.func114 rfl (by kernel_rfl) rfl (fun E F w => ?_)
  unfold z114 at h
  refine WP.seq (WP.region (WPr.sil htt 2 rfl (WPr.nil (WP.seq (WP.region (WPr.silx (rg 3 6) ⟨[(1, .I s_), (2, .B 4 0), (7, .O (decide (s_ ≥ (0 : Int))))], [(4, .box (cC4 0 1 2 3 g_) 27)], (vV4 0 1 2 3 g_ []), 5⟩ htt 3 (by kernel_rfl) (?_)))))))
  rcases oc h with ⟨hc, h⟩ | ⟨hc, h⟩
  · refine WPr.kb 7 hc rfl (WPr.silx [] ⟨[(4, .O (decide (s_ < g_.States)))], [], (vV4 0 1 2 3 g_ []), 5⟩ htt 6 (by kernel_rfl) (WPr.nil (?_)))
    cases h
    exact WP.ret htt Tryz.func114 [] rfl rfl rfl rfl
  refine WPr.kb 7 hc rfl (WPr.silx [] ⟨[(4, .O false)], [], (vV4 0 1 2 3 g_ []), 5⟩ htt 6 (by kernel_rfl) (WPr.nil (?_)))
  cases h
  exact WP.ret htt Tryz.func114 [] rfl rfl rfl rfl
end Gx
end
