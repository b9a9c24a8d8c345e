/- Each function of the statement computes what its plain definition says, part 4. -/
import Derived.Test.YtenajajnbmfijaaGreatDoorGlobalSearchWalk3
set_option linter.all false
section
set_option linter.unusedVariables false
set_option maxRecDepth 10000
set_option maxHeartbeats 4000000
open Go Go.Kx Go.Proofs
namespace Gx
theorem ref14_Same_ct (N : Nat) (a_ : (List T_api_Decl)) (b_ : (List T_api_Decl)) (r : Bool) (h : ref14_Same N a_ b_ = some r) :
  Fn Tryz.prog 79 ⟨2, [.S 0, .S 1], [(0, .sl r_api_Decl a_), (1, .sl r_api_Decl b_)], [], 2, .O r, [], []⟩ := by
  refine Fn.intro _ _ Tryz.func79 rfl (by kernel_rfl) rfl (fun E F w => ?_)
  unfold ref14_Same at h
  refine WP.seq (WP.region (WPr.sil htt 1 rfl (WPr.nil (WP.seq (WP.seq (WP.region (WPr.silx [] ⟨[(0, .S 0), (1, .S 1), (4, .O false), (14, .O ((a_.length : Int) != (b_.length : Int)))], [], [(0, .sl r_api_Decl a_), (1, .sl r_api_Decl b_)], 2⟩ htt 5 (by kernel_rfl) (WPr.nil (?_)))))))))
  rcases oc h with ⟨hc, h⟩ | ⟨hc, h⟩
  · refine WP.condT hc rfl (WP.seq (WP.region (WPr.sil htt 1 rfl (WPr.nil (?_)))))
    cases h
    exact WP.ret htt Tryz.func79 [] rfl rfl rfl rfl
  refine WP.condF hc rfl (WP.skip (WP.seq (WP.seq (WP.region (WPr.sil htt 1 rfl (WPr.nil (?_)))))))
  refine WP.cut (σ := Unit) (fun st => ⟨[], [], [(0, .sl r_api_Decl a_), (1, .sl r_api_Decl b_)], 2⟩) (fun st => ref14_Same_k1 = some r) ?_ (fun j1 => ?_)
  · intro _ h
    replace h : ref14_Same_k1 = some r := h
    unfold ref14_Same_k1 at h
    refine WP.seq (WP.region (WPr.sil htt 1 rfl (WPr.nil (?_))))
    cases h
    exact WP.ret htt Tryz.func79 [] rfl rfl rfl rfl
  refine WP.block (?_)
  refine WP.loopI (σ := Int) (fun st => ⟨[(0, .S 0), (1, .S 1), (5, .I st)], [], [(0, .sl r_api_Decl a_), (1, .sl r_api_Decl b_)], 2⟩) (fun n st => ref14_Same_l2 N a_ b_ n st) (r := r) (fun _ => rfl) ?_ (fun ih => ?_)
  · intro n22 ih21
    intro v5_21 h
    replace h : ref14_Same_l2 N a_ b_ (n22 + 1) v5_21 = some r := h
    unfold ref14_Same_l2 at h
    refine WP.seq (WP.seq (WP.region (WPr.silx [] ⟨[(0, .S 0), (1, .S 1), (5, .I v5_21), (18, .O (decide (v5_21 < (a_.length : Int))))], [], [(0, .sl r_api_Decl a_), (1, .sl r_api_Decl b_)], 2⟩ htt 4 (by kernel_rfl) (WPr.nil (?_)))))
    rcases oc' h with ⟨hc, h⟩ | ⟨hc, h⟩
    · exact WP.condF hc rfl (WP.exit rfl (WP.sub [] (j1 () h) rfl rfl rfl rfl))
    refine WP.condT hc rfl (WP.skip (WP.seq (WP.block (WP.seq (WP.nm (fun A9 tA9 fA9 => ?_))))))
    have st641 : A9 0 ⟨[(0, .S 0)], [(0, .sl r_api_Decl a_)], [], [], 2, [(21, .S 0)], [], [], 2⟩ := tA9 _ _ (LS.sil htt rfl rfl rfl rfl rfl rfl)
    have st642 : A9 1 ⟨[(5, .I v5_21)], [], [], [], 2, [(22, .I v5_21)], [], [], 2⟩ := tA9 _ _ (LS.sil htt rfl rfl rfl rfl rfl rfl)
    obtain ⟨x643, hx643, h⟩ := ob h
    have st644 : A9 2 ⟨[(21, .S 0), (22, .I v5_21)], [(0, .sl r_api_Decl a_)], [], [], 2, [(23, .P 2 0)], ((2, .pl (c_api_Decl 3 4 5 x643)) :: v_api_Decl 3 4 5 x643 []), [], 6⟩ := tA9 _ _ (LS.of rfl rfl rfl (fun _ _ _ _ _ _ _ k => WPr.ix o_api_Decl htt hx643 rfl rfl rfl rfl rfl rfl rfl rfl rfl (k)) rfl)
    have st645 : A9 3 ⟨[(23, .P 2 0)], [(2, .pl (c_api_Decl 3 4 5 x643))], [], [], 6, [(24, .a (c_api_Decl 3 4 5 x643))], [], [], 6⟩ := tA9 _ _ (LS.sil htt rfl rfl rfl rfl rfl rfl)
    have st646 : A9 4 ⟨[(1, .S 1)], [(1, .sl r_api_Decl b_)], [], [], 6, [(25, .S 1)], [], [], 6⟩ := tA9 _ _ (LS.sil htt rfl rfl rfl rfl rfl rfl)
    have st647 : A9 5 ⟨[(5, .I v5_21)], [], [], [], 6, [(26, .I v5_21)], [], [], 6⟩ := tA9 _ _ (LS.sil htt rfl rfl rfl rfl rfl rfl)
    obtain ⟨x648, hx648, h⟩ := ob h
    have st649 : A9 6 ⟨[(25, .S 1), (26, .I v5_21)], [(1, .sl r_api_Decl b_)], [], [], 6, [(27, .P 6 0)], ((6, .pl (c_api_Decl 7 8 9 x648)) :: v_api_Decl 7 8 9 x648 []), [], 10⟩ := tA9 _ _ (LS.of rfl rfl rfl (fun _ _ _ _ _ _ _ k => WPr.ix o_api_Decl htt hx648 rfl rfl rfl rfl rfl rfl rfl rfl rfl (k)) rfl)
    have st650 : A9 7 ⟨[(27, .P 6 0)], [(6, .pl (c_api_Decl 7 8 9 x648))], [], [], 10, [(28, .a (c_api_Decl 7 8 9 x648))], [], [], 10⟩ := tA9 _ _ (LS.sil htt rfl rfl rfl rfl rfl rfl)
    have st651 : A9 8 ⟨[], [], [], [], 10, [(6, .B 10 0)], [], [(10, .box [.s (str []), .nil, .I (0 : Int), .nil, .nil] 94)], 11⟩ := tA9 _ _ (LS.sil htt rfl rfl rfl rfl rfl rfl)
    have st652 : A9 9 ⟨[], [], [], [], 11, [(7, .B 11 0)], [], [(11, .box [.s (str []), .nil, .I (0 : Int), .nil, .nil] 94)], 12⟩ := tA9 _ _ (LS.sil htt rfl rfl rfl rfl rfl rfl)
    have st653 : A9 10 ⟨[(6, .B 10 0), (24, .a (c_api_Decl 3 4 5 x643))], (v_api_Decl 3 4 5 x643 []), [(10, .box [.s (str []), .nil, .I (0 : Int), .nil, .nil] 94)], [], 12, [], [], [(10, .box (c_api_Decl 3 4 5 x643) 94)], 12⟩ := tA9 _ _ (LS.sil htt rfl rfl rfl rfl rfl rfl)
    have st654 : A9 11 ⟨[(7, .B 11 0), (28, .a (c_api_Decl 7 8 9 x648))], (v_api_Decl 7 8 9 x648 []), [(11, .box [.s (str []), .nil, .I (0 : Int), .nil, .nil] 94)], [], 12, [], [], [(11, .box (c_api_Decl 7 8 9 x648) 94)], 12⟩ := tA9 _ _ (LS.sil htt rfl rfl rfl rfl rfl rfl)
    refine WP.regionD (t := ⟨[(0, .S 0), (1, .S 1), (5, .I v5_21), (6, .B 10 0), (7, .B 11 0)], [(10, .box (c_api_Decl 3 4 5 x643) 94), (11, .box (c_api_Decl 7 8 9 x648) 94)], ((0, .sl r_api_Decl a_) :: (1, .sl r_api_Decl b_) :: v_api_Decl 3 4 5 x643 (v_api_Decl 7 8 9 x648 [])), 12⟩) [0, 0, 3, 7, 0, 0, 48, 112, 0, 0, 783, 2047] (.cons (fA9 _ _ st641) (.cons (fA9 _ _ st642) (.cons (fA9 _ _ st644) (.cons (fA9 _ _ st645) (.cons (fA9 _ _ st646) (.cons (fA9 _ _ st647) (.cons (fA9 _ _ st649) (.cons (fA9 _ _ st650) (.cons (fA9 _ _ st651) (.cons (fA9 _ _ st652) (.cons (fA9 _ _ st653) (.cons (fA9 _ _ st654) .nil)))))))))))) (by kernel_rfl) (by kernel_rfl) (by kernel_rfl) (by kernel_rfl) (WP.seq (WP.seq (WP.region (WPr.silx (rg 6 36) ⟨[(0, .S 0), (1, .S 1), (5, .I v5_21), (6, .B 10 0), (7, .B 11 0), (34, .O (!(x643.Name.toList == x648.Name.toList)))], [(10, .box (c_api_Decl 3 4 5 x643) 94), (11, .box (c_api_Decl 7 8 9 x648) 94)], ((0, .sl r_api_Decl a_) :: (1, .sl r_api_Decl b_) :: v_api_Decl 3 4 5 x643 (v_api_Decl 7 8 9 x648 [])), 12⟩ htt 6 (by kernel_rfl) (?_)))))
    rcases oc h with ⟨hc, h⟩ | ⟨hc, h⟩
    · refine WPr.kb 34 hc rfl (WPr.silx [] ⟨[(0, .S 0), (1, .S 1), (5, .I v5_21), (6, .B 10 0), (7, .B 11 0), (70, .O true)], [(10, .box (c_api_Decl 3 4 5 x643) 94), (11, .box (c_api_Decl 7 8 9 x648) 94)], ((0, .sl r_api_Decl a_) :: (1, .sl r_api_Decl b_) :: v_api_Decl 3 4 5 x643 (v_api_Decl 7 8 9 x648 [])), 12⟩ htt 36 (by kernel_rfl) (WPr.nil (WP.condT rfl rfl (WP.seq (WP.region (WPr.sil htt 1 rfl (WPr.nil (?_))))))))
      cases h
      exact WP.ret htt Tryz.func79 [] rfl rfl rfl rfl
    refine WPr.kb 34 hc rfl (WPr.silx (rg 13 29) ⟨[(0, .S 0), (1, .S 1), (5, .I v5_21), (6, .B 10 0), (7, .B 11 0), (41, .O (x643.First != x648.First))], [(10, .box (c_api_Decl 3 4 5 x643) 94), (11, .box (c_api_Decl 7 8 9 x648) 94)], ((0, .sl r_api_Decl a_) :: (1, .sl r_api_Decl b_) :: v_api_Decl 3 4 5 x643 (v_api_Decl 7 8 9 x648 [])), 12⟩ htt 7 (by kernel_rfl) (?_))
    rcases oc h with ⟨hc, h⟩ | ⟨hc, h⟩
    · refine WPr.kb 41 hc rfl (WPr.silx [] ⟨[(0, .S 0), (1, .S 1), (5, .I v5_21), (6, .B 10 0), (7, .B 11 0), (70, .O true)], [(10, .box (c_api_Decl 3 4 5 x643) 94), (11, .box (c_api_Decl 7 8 9 x648) 94)], ((0, .sl r_api_Decl a_) :: (1, .sl r_api_Decl b_) :: v_api_Decl 3 4 5 x643 (v_api_Decl 7 8 9 x648 [])), 12⟩ htt 29 (by kernel_rfl) (WPr.nil (WP.condT rfl rfl (WP.seq (WP.region (WPr.sil htt 1 rfl (WPr.nil (?_))))))))
      cases h
      exact WP.ret htt Tryz.func79 [] rfl rfl rfl rfl
    refine WPr.kb 41 hc rfl (WPr.silx (rg 22 20) ⟨[(0, .S 0), (1, .S 1), (5, .I v5_21), (6, .B 10 0), (7, .B 11 0), (50, .O ((x643.Fields.length : Int) != (x648.Fields.length : Int)))], [(10, .box (c_api_Decl 3 4 5 x643) 94), (11, .box (c_api_Decl 7 8 9 x648) 94)], ((0, .sl r_api_Decl a_) :: (1, .sl r_api_Decl b_) :: v_api_Decl 3 4 5 x643 (v_api_Decl 7 8 9 x648 [])), 12⟩ htt 9 (by kernel_rfl) (?_))
    rcases oc h with ⟨hc, h⟩ | ⟨hc, h⟩
    · refine WPr.kb 50 hc rfl (WPr.silx [] ⟨[(0, .S 0), (1, .S 1), (5, .I v5_21), (6, .B 10 0), (7, .B 11 0), (70, .O true)], [(10, .box (c_api_Decl 3 4 5 x643) 94), (11, .box (c_api_Decl 7 8 9 x648) 94)], ((0, .sl r_api_Decl a_) :: (1, .sl r_api_Decl b_) :: v_api_Decl 3 4 5 x643 (v_api_Decl 7 8 9 x648 [])), 12⟩ htt 20 (by kernel_rfl) (WPr.nil (WP.condT rfl rfl (WP.seq (WP.region (WPr.sil htt 1 rfl (WPr.nil (?_))))))))
      cases h
      exact WP.ret htt Tryz.func79 [] rfl rfl rfl rfl
    refine WPr.kb 50 hc rfl (WPr.silx (rg 28 14) ⟨[(0, .S 0), (1, .S 1), (5, .I v5_21), (6, .B 10 0), (7, .B 11 0), (50, .O false), (53, .S 4), (56, .S 8)], [(10, .box (c_api_Decl 3 4 5 x643) 94), (11, .box (c_api_Decl 7 8 9 x648) 94)], ((0, .sl r_api_Decl a_) :: (1, .sl r_api_Decl b_) :: v_api_Decl 3 4 5 x643 (v_api_Decl 7 8 9 x648 [])), 12⟩ htt 6 (by kernel_rfl) (?_))
    obtain ⟨x655, hx655, h⟩ := ob h
    refine WPr.call (ref14_SameDiffs_ct N x643.Guard.Diffs x648.Guard.Diffs _ hx655) [(0, .sl 4), (1, .sl 8)] [] rfl rfl rfl rfl rfl rfl rfl rfl (.inl rfl) rfl (WPr.silx (rg 32 10) ⟨[(0, .S 0), (1, .S 1), (5, .I v5_21), (6, .B 10 0), (7, .B 11 0), (60, .O (!x655))], [(10, .box (c_api_Decl 3 4 5 x643) 94), (11, .box (c_api_Decl 7 8 9 x648) 94)], ((0, .sl r_api_Decl a_) :: (1, .sl r_api_Decl b_) :: v_api_Decl 3 4 5 x643 (v_api_Decl 7 8 9 x648 [])), 12⟩ htt 3 (by kernel_rfl) (?_))
    rcases oc h with ⟨hc, h⟩ | ⟨hc, h⟩
    · refine WPr.kb 60 hc rfl (WPr.silx [] ⟨[(0, .S 0), (1, .S 1), (5, .I v5_21), (6, .B 10 0), (7, .B 11 0), (70, .O true)], [(10, .box (c_api_Decl 3 4 5 x643) 94), (11, .box (c_api_Decl 7 8 9 x648) 94)], ((0, .sl r_api_Decl a_) :: (1, .sl r_api_Decl b_) :: v_api_Decl 3 4 5 x643 (v_api_Decl 7 8 9 x648 [])), 12⟩ htt 10 (by kernel_rfl) (WPr.nil (WP.condT rfl rfl (WP.seq (WP.region (WPr.sil htt 1 rfl (WPr.nil (?_))))))))
      cases h
      exact WP.ret htt Tryz.func79 [] rfl rfl rfl rfl
    refine WPr.kb 60 hc rfl (WPr.silx [] ⟨[(0, .S 0), (1, .S 1), (5, .I v5_21), (6, .B 10 0), (7, .B 11 0), (70, .O ((x643.Guard.Equals.length : Int) != (x648.Guard.Equals.length : Int)))], [(10, .box (c_api_Decl 3 4 5 x643) 94), (11, .box (c_api_Decl 7 8 9 x648) 94)], ((0, .sl r_api_Decl a_) :: (1, .sl r_api_Decl b_) :: v_api_Decl 3 4 5 x643 (v_api_Decl 7 8 9 x648 [])), 12⟩ htt 10 (by kernel_rfl) (WPr.nil (?_)))
    rcases oc h with ⟨hc, h⟩ | ⟨hc, h⟩
    · refine WP.condT hc rfl (WP.seq (WP.region (WPr.sil htt 1 rfl (WPr.nil (?_)))))
      cases h
      exact WP.ret htt Tryz.func79 [] rfl rfl rfl rfl
    refine WP.condF hc rfl (WP.skip (WP.seq (WP.seq (WP.region (WPr.sil htt 1 rfl (WPr.nil (?_)))))))
    refine WP.cut (σ := Unit) (fun st => ⟨[(0, .S 0), (1, .S 1), (5, .I v5_21), (6, .B 10 0), (7, .B 11 0)], [(10, .box (c_api_Decl 3 4 5 x643) 94), (11, .box (c_api_Decl 7 8 9 x648) 94)], ((0, .sl r_api_Decl a_) :: (1, .sl r_api_Decl b_) :: v_api_Decl 3 4 5 x643 (v_api_Decl 7 8 9 x648 [])), 12⟩) (fun st => ref14_Same_k5 N v5_21 (ref14_Same_l2 N a_ b_ n22) x643 x648 = some r) ?_ (fun j34 => ?_)
    · intro _ h
      replace h : ref14_Same_k5 N v5_21 (ref14_Same_l2 N a_ b_ n22) x643 x648 = some r := h
      unfold ref14_Same_k5 at h
      refine WP.seq (WP.region (WPr.sil htt 1 rfl (WPr.nil (?_))))
      refine WP.cut (σ := Unit) (fun st => ⟨[(0, .S 0), (1, .S 1), (5, .I v5_21)], [], [(0, .sl r_api_Decl a_), (1, .sl r_api_Decl b_)], 12⟩) (fun st => ref14_Same_k3 v5_21 (ref14_Same_l2 N a_ b_ n22) = some r) ?_ (fun j36 => ?_)
      · intro _ h
        replace h : ref14_Same_k3 v5_21 (ref14_Same_l2 N a_ b_ n22) = some r := h
        unfold ref14_Same_k3 at h
        exact WP.inBlock (WP.region (WPr.silx [] ⟨[(0, .S 0), (1, .S 1), (5, .I (w64 (v5_21 + (1 : Int))))], [], [(0, .sl r_api_Decl a_), (1, .sl r_api_Decl b_)], 12⟩ htt 3 (by kernel_rfl) (WPr.nil (WP.sub [] (ih21 (w64 (v5_21 + (1 : Int))) h) rfl rfl rfl rfl))))
      refine WP.block (?_)
      refine WP.loopI (σ := Int) (fun st => ⟨[(0, .S 0), (1, .S 1), (5, .I v5_21), (6, .B 10 0), (7, .B 11 0), (9, .I st)], [(10, .box (c_api_Decl 3 4 5 x643) 94), (11, .box (c_api_Decl 7 8 9 x648) 94)], ((0, .sl r_api_Decl a_) :: (1, .sl r_api_Decl b_) :: v_api_Decl 3 4 5 x643 (v_api_Decl 7 8 9 x648 [])), 12⟩) (fun n st => ref14_Same_l4 v5_21 (ref14_Same_l2 N a_ b_ n22) x643 x648 n st) (r := r) (fun _ => rfl) ?_ (fun ih => ?_)
      · intro n25 ih38
        intro v9_38 h
        replace h : ref14_Same_l4 v5_21 (ref14_Same_l2 N a_ b_ n22) x643 x648 (n25 + 1) v9_38 = some r := h
        unfold ref14_Same_l4 at h
        refine WP.seq (WP.seq (WP.region (WPr.silx [] ⟨[(0, .S 0), (1, .S 1), (5, .I v5_21), (6, .B 10 0), (7, .B 11 0), (9, .I v9_38), (94, .O (decide (v9_38 < (x643.Guard.Equals.length : Int))))], [(10, .box (c_api_Decl 3 4 5 x643) 94), (11, .box (c_api_Decl 7 8 9 x648) 94)], ((0, .sl r_api_Decl a_) :: (1, .sl r_api_Decl b_) :: v_api_Decl 3 4 5 x643 (v_api_Decl 7 8 9 x648 [])), 12⟩ htt 6 (by kernel_rfl) (WPr.nil (?_)))))
        rcases oc' h with ⟨hc, h⟩ | ⟨hc, h⟩
        · exact WP.condF hc rfl (WP.exit rfl (WP.sub [] (j36 () h) rfl rfl rfl rfl))
        refine WP.condT hc rfl (WP.skip (WP.seq (WP.block (WP.seq (WP.regionQ (by kernel_rfl) (by kernel_rfl) (WPq.silx (rg 4 9) ⟨[(0, .S 0), (1, .S 1), (5, .I v5_21), (6, .B 10 0), (7, .B 11 0), (9, .I v9_38), (99, .S 5), (100, .I v9_38)], [(10, .box (c_api_Decl 3 4 5 x643) 94), (11, .box (c_api_Decl 7 8 9 x648) 94)], ((0, .sl r_api_Decl a_) :: (1, .sl r_api_Decl b_) :: v_api_Decl 3 4 5 x643 (v_api_Decl 7 8 9 x648 [])), 12⟩ htt 4 (by kernel_rfl) (?_)))))))
        obtain ⟨x706, hx706, h⟩ := ob h
        refine WPq.op rfl rfl (VN.vs (VN.ix (oP (oI .i64) (oI .i64)) htt hx706 rfl rfl rfl rfl rfl rfl rfl)) (WPq.silx [10, 11, 12] ⟨[(0, .S 0), (1, .S 1), (5, .I v5_21), (6, .B 10 0), (7, .B 11 0), (9, .I v9_38), (102, .a [.I x706.1, .I x706.2]), (105, .S 9), (106, .I v9_38)], [(10, .box (c_api_Decl 3 4 5 x643) 94), (11, .box (c_api_Decl 7 8 9 x648) 94)], ((0, .sl r_api_Decl a_) :: (1, .sl r_api_Decl b_) :: v_api_Decl 3 4 5 x643 (v_api_Decl 7 8 9 x648 [])), 13⟩ htt 5 (by kernel_rfl) (?_))
        obtain ⟨x707, hx707, h⟩ := ob h
        refine WPq.op rfl rfl (VN.vs (VN.ix (oP (oI .i64) (oI .i64)) htt hx707 rfl rfl rfl rfl rfl rfl rfl)) (WPq.sil htt 1 rfl (WPq.op rfl rfl (VN.vs (VN.eqa (neg := true) (equal_run (b := ((x706.1 == x707.1) && ((x706.2 == x707.2) && true))) (by kernel_rfl) (by kernel_rfl)) (by kernel_rfl) rfl rfl rfl rfl rfl)) (WPq.silx [] ⟨[(0, .S 0), (1, .S 1), (5, .I v5_21), (6, .B 10 0), (7, .B 11 0), (9, .I v9_38), (109, .O (!((x706.1 == x707.1) && ((x706.2 == x707.2) && true))))], [(10, .box (c_api_Decl 3 4 5 x643) 94), (11, .box (c_api_Decl 7 8 9 x648) 94)], ((0, .sl r_api_Decl a_) :: (1, .sl r_api_Decl b_) :: v_api_Decl 3 4 5 x643 (v_api_Decl 7 8 9 x648 [])), 14⟩ htt 0 (by kernel_rfl) (WPq.nil (?_)))))
        rcases oc h with ⟨hc, h⟩ | ⟨hc, h⟩
        · refine WP.condT hc rfl (WP.seq (WP.region (WPr.sil htt 1 rfl (WPr.nil (?_)))))
          cases h
          exact WP.ret htt Tryz.func79 [] rfl rfl rfl rfl
        exact WP.condF hc rfl (WP.skip (WP.inBlock (WP.region (WPr.silx [] ⟨[(0, .S 0), (1, .S 1), (5, .I v5_21), (6, .B 10 0), (7, .B 11 0), (9, .I (w64 (v9_38 + (1 : Int))))], [(10, .box (c_api_Decl 3 4 5 x643) 94), (11, .box (c_api_Decl 7 8 9 x648) 94)], ((0, .sl r_api_Decl a_) :: (1, .sl r_api_Decl b_) :: v_api_Decl 3 4 5 x643 (v_api_Decl 7 8 9 x648 [])), 14⟩ htt 3 (by kernel_rfl) (WPr.nil (WP.sub [] (ih38 (w64 (v9_38 + (1 : Int))) h) rfl rfl rfl rfl))))))
      exact WP.sub [] (ih N (0 : Int) h) rfl rfl rfl rfl
    refine WP.block (?_)
    refine WP.loopI (σ := Int) (fun st => ⟨[(0, .S 0), (1, .S 1), (5, .I v5_21), (6, .B 10 0), (7, .B 11 0), (8, .I st)], [(10, .box (c_api_Decl 3 4 5 x643) 94), (11, .box (c_api_Decl 7 8 9 x648) 94)], ((0, .sl r_api_Decl a_) :: (1, .sl r_api_Decl b_) :: v_api_Decl 3 4 5 x643 (v_api_Decl 7 8 9 x648 [])), 12⟩) (fun n st => ref14_Same_l6 N v5_21 (ref14_Same_l2 N a_ b_ n22) x643 x648 n st) (r := r) (fun _ => rfl) ?_ (fun ih => ?_)
    · intro n26 ih39
      intro v8_39 h
      replace h : ref14_Same_l6 N v5_21 (ref14_Same_l2 N a_ b_ n22) x643 x648 (n26 + 1) v8_39 = some r := h
      unfold ref14_Same_l6 at h
      refine WP.seq (WP.seq (WP.region (WPr.silx [] ⟨[(0, .S 0), (1, .S 1), (5, .I v5_21), (6, .B 10 0), (7, .B 11 0), (8, .I v8_39), (75, .O (decide (v8_39 < (x643.Fields.length : Int))))], [(10, .box (c_api_Decl 3 4 5 x643) 94), (11, .box (c_api_Decl 7 8 9 x648) 94)], ((0, .sl r_api_Decl a_) :: (1, .sl r_api_Decl b_) :: v_api_Decl 3 4 5 x643 (v_api_Decl 7 8 9 x648 [])), 12⟩ htt 5 (by kernel_rfl) (WPr.nil (?_)))))
      rcases oc' h with ⟨hc, h⟩ | ⟨hc, h⟩
      · exact WP.condF hc rfl (WP.exit rfl (WP.sub [] (j34 () h) rfl rfl rfl rfl))
      refine WP.condT hc rfl (WP.skip (WP.seq (WP.block (WP.seq (WP.regionQ (by kernel_rfl) (by kernel_rfl) (WPq.silx (rg 3 8) ⟨[(0, .S 0), (1, .S 1), (5, .I v5_21), (6, .B 10 0), (7, .B 11 0), (8, .I v8_39), (79, .S 3), (80, .I v8_39)], [(10, .box (c_api_Decl 3 4 5 x643) 94), (11, .box (c_api_Decl 7 8 9 x648) 94)], ((0, .sl r_api_Decl a_) :: (1, .sl r_api_Decl b_) :: v_api_Decl 3 4 5 x643 (v_api_Decl 7 8 9 x648 [])), 12⟩ htt 3 (by kernel_rfl) (?_)))))))
      obtain ⟨x726, hx726, h⟩ := ob h
      refine WPq.op rfl rfl (VN.vs (VN.ix o_api_Field htt hx726 rfl rfl rfl rfl rfl rfl rfl)) (WPq.silx [8, 9, 10] ⟨[(0, .S 0), (1, .S 1), (5, .I v5_21), (6, .B 10 0), (7, .B 11 0), (8, .I v8_39), (82, .a (c_api_Field x726)), (84, .S 7), (85, .I v8_39)], [(10, .box (c_api_Decl 3 4 5 x643) 94), (11, .box (c_api_Decl 7 8 9 x648) 94)], ((0, .sl r_api_Decl a_) :: (1, .sl r_api_Decl b_) :: v_api_Decl 3 4 5 x643 (v_api_Decl 7 8 9 x648 [])), 13⟩ htt 4 (by kernel_rfl) (?_))
      obtain ⟨x727, hx727, h⟩ := ob h
      refine WPq.op rfl rfl (VN.vs (VN.ix o_api_Field htt hx727 rfl rfl rfl rfl rfl rfl rfl)) (WPq.sil htt 1 rfl (WPq.op rfl rfl (VN.vs (VN.eqa (neg := true) (equal_run (b := ((x726.Name.toList == x727.Name.toList) && (((x726.Sort'.Kind == x727.Sort'.Kind) && ((x726.Sort'.Lo == x727.Sort'.Lo) && ((x726.Sort'.Hi == x727.Sort'.Hi) && true))) && true))) (by kernel_rfl) (by kernel_rfl)) (by kernel_rfl) rfl rfl rfl rfl rfl)) (WPq.silx [] ⟨[(0, .S 0), (1, .S 1), (5, .I v5_21), (6, .B 10 0), (7, .B 11 0), (8, .I v8_39), (88, .O (!((x726.Name.toList == x727.Name.toList) && (((x726.Sort'.Kind == x727.Sort'.Kind) && ((x726.Sort'.Lo == x727.Sort'.Lo) && ((x726.Sort'.Hi == x727.Sort'.Hi) && true))) && true))))], [(10, .box (c_api_Decl 3 4 5 x643) 94), (11, .box (c_api_Decl 7 8 9 x648) 94)], ((0, .sl r_api_Decl a_) :: (1, .sl r_api_Decl b_) :: v_api_Decl 3 4 5 x643 (v_api_Decl 7 8 9 x648 [])), 14⟩ htt 0 (by kernel_rfl) (WPq.nil (?_)))))
      rcases oc h with ⟨hc, h⟩ | ⟨hc, h⟩
      · refine WP.condT hc rfl (WP.seq (WP.region (WPr.sil htt 1 rfl (WPr.nil (?_)))))
        cases h
        exact WP.ret htt Tryz.func79 [] rfl rfl rfl rfl
      exact WP.condF hc rfl (WP.skip (WP.inBlock (WP.region (WPr.silx [] ⟨[(0, .S 0), (1, .S 1), (5, .I v5_21), (6, .B 10 0), (7, .B 11 0), (8, .I (w64 (v8_39 + (1 : Int))))], [(10, .box (c_api_Decl 3 4 5 x643) 94), (11, .box (c_api_Decl 7 8 9 x648) 94)], ((0, .sl r_api_Decl a_) :: (1, .sl r_api_Decl b_) :: v_api_Decl 3 4 5 x643 (v_api_Decl 7 8 9 x648 [])), 14⟩ htt 3 (by kernel_rfl) (WPr.nil (WP.sub [] (ih39 (w64 (v8_39 + (1 : Int))) h) rfl rfl rfl rfl))))))
    exact WP.sub [] (ih N (0 : Int) h) rfl rfl rfl rfl
  exact WP.sub [] (ih N (0 : Int) h) rfl rfl rfl rfl
theorem ref18_Equal_ct (N : Nat) (a_ : T_api_Global) (b_ : T_api_Global) (r : Bool) (h : ref18_Equal N a_ b_ = some r) :
  Fn Tryz.prog 33 ⟨8, [.a (c_api_Global 0 1 2 3 a_), .a (c_api_Global 4 5 6 7 b_)], (v_api_Global 0 1 2 3 a_ (v_api_Global 4 5 6 7 b_ [])), [], 8, .O r, [], []⟩ := by
  refine Fn.intro _ _ Tryz.func33 rfl (by kernel_rfl) rfl (fun E F w => ?_)
  unfold ref18_Equal at h
  refine WP.seq (WP.region (WPr.silx [] ⟨[(2, .B 8 0), (3, .B 9 0), (4, .O false)], [(8, .box (c_api_Global 0 1 2 3 a_) 27), (9, .box (c_api_Global 4 5 6 7 b_) 27)], (v_api_Global 0 1 2 3 a_ (v_api_Global 4 5 6 7 b_ [])), 10⟩ htt 3 (by kernel_rfl) (WPr.nil (WP.seq (WP.seq (WP.region (WPr.silx (rg 6 55) ⟨[(2, .B 8 0), (3, .B 9 0), (4, .O false), (13, .O (!(a_.Name.toList == b_.Name.toList)))], [(8, .box (c_api_Global 0 1 2 3 a_) 27), (9, .box (c_api_Global 4 5 6 7 b_) 27)], (v_api_Global 0 1 2 3 a_ (v_api_Global 4 5 6 7 b_ [])), 10⟩ htt 6 (by kernel_rfl) (?_))))))))
  rcases oc h with ⟨hc, h⟩ | ⟨hc, h⟩
  · refine WPr.kb 13 hc rfl (WPr.silx [] ⟨[(2, .B 8 0), (3, .B 9 0), (4, .O false), (68, .O true)], [(8, .box (c_api_Global 0 1 2 3 a_) 27), (9, .box (c_api_Global 4 5 6 7 b_) 27)], (v_api_Global 0 1 2 3 a_ (v_api_Global 4 5 6 7 b_ [])), 10⟩ htt 55 (by kernel_rfl) (WPr.nil (WP.condT rfl rfl (WP.seq (WP.region (WPr.sil htt 1 rfl (WPr.nil (?_))))))))
    cases h
    exact WP.ret htt Tryz.func33 [] rfl rfl rfl rfl
  refine WPr.kb 13 hc rfl (WPr.silx (rg 15 46) ⟨[(2, .B 8 0), (3, .B 9 0), (4, .O false), (22, .O ((a_.Roles.length : Int) != (b_.Roles.length : Int)))], [(8, .box (c_api_Global 0 1 2 3 a_) 27), (9, .box (c_api_Global 4 5 6 7 b_) 27)], (v_api_Global 0 1 2 3 a_ (v_api_Global 4 5 6 7 b_ [])), 10⟩ htt 9 (by kernel_rfl) (?_))
  rcases oc h with ⟨hc, h⟩ | ⟨hc, h⟩
  · refine WPr.kb 22 hc rfl (WPr.silx [] ⟨[(2, .B 8 0), (3, .B 9 0), (4, .O false), (68, .O true)], [(8, .box (c_api_Global 0 1 2 3 a_) 27), (9, .box (c_api_Global 4 5 6 7 b_) 27)], (v_api_Global 0 1 2 3 a_ (v_api_Global 4 5 6 7 b_ [])), 10⟩ htt 46 (by kernel_rfl) (WPr.nil (WP.condT rfl rfl (WP.seq (WP.region (WPr.sil htt 1 rfl (WPr.nil (?_))))))))
    cases h
    exact WP.ret htt Tryz.func33 [] rfl rfl rfl rfl
  refine WPr.kb 22 hc rfl (WPr.silx (rg 19 42) ⟨[(2, .B 8 0), (3, .B 9 0), (4, .O false), (22, .O false), (24, .S 1), (26, .S 5)], [(8, .box (c_api_Global 0 1 2 3 a_) 27), (9, .box (c_api_Global 4 5 6 7 b_) 27)], (v_api_Global 0 1 2 3 a_ (v_api_Global 4 5 6 7 b_ [])), 10⟩ htt 4 (by kernel_rfl) (?_))
  obtain ⟨x1, hx1, h⟩ := ob h
  refine WPr.call (ref14_Same_ct N a_.Decls b_.Decls _ hx1) [(0, .sl 1), (1, .sl 5)] [] rfl rfl rfl rfl rfl rfl rfl rfl (.inl rfl) rfl (WPr.silx (rg 23 38) ⟨[(2, .B 8 0), (3, .B 9 0), (4, .O false), (30, .O (!x1))], [(8, .box (c_api_Global 0 1 2 3 a_) 27), (9, .box (c_api_Global 4 5 6 7 b_) 27)], (v_api_Global 0 1 2 3 a_ (v_api_Global 4 5 6 7 b_ [])), 10⟩ htt 3 (by kernel_rfl) (?_))
  rcases oc h with ⟨hc, h⟩ | ⟨hc, h⟩
  · refine WPr.kb 30 hc rfl (WPr.silx [] ⟨[(2, .B 8 0), (3, .B 9 0), (4, .O false), (68, .O true)], [(8, .box (c_api_Global 0 1 2 3 a_) 27), (9, .box (c_api_Global 4 5 6 7 b_) 27)], (v_api_Global 0 1 2 3 a_ (v_api_Global 4 5 6 7 b_ [])), 10⟩ htt 38 (by kernel_rfl) (WPr.nil (WP.condT rfl rfl (WP.seq (WP.region (WPr.sil htt 1 rfl (WPr.nil (?_))))))))
    cases h
    exact WP.ret htt Tryz.func33 [] rfl rfl rfl rfl
  refine WPr.kb 30 hc rfl (WPr.silx (rg 30 31) ⟨[(2, .B 8 0), (3, .B 9 0), (4, .O false), (37, .O (a_.States != b_.States))], [(8, .box (c_api_Global 0 1 2 3 a_) 27), (9, .box (c_api_Global 4 5 6 7 b_) 27)], (v_api_Global 0 1 2 3 a_ (v_api_Global 4 5 6 7 b_ [])), 10⟩ htt 7 (by kernel_rfl) (?_))
  rcases oc h with ⟨hc, h⟩ | ⟨hc, h⟩
  · refine WPr.kb 37 hc rfl (WPr.silx [] ⟨[(2, .B 8 0), (3, .B 9 0), (4, .O false), (68, .O true)], [(8, .box (c_api_Global 0 1 2 3 a_) 27), (9, .box (c_api_Global 4 5 6 7 b_) 27)], (v_api_Global 0 1 2 3 a_ (v_api_Global 4 5 6 7 b_ [])), 10⟩ htt 31 (by kernel_rfl) (WPr.nil (WP.condT rfl rfl (WP.seq (WP.region (WPr.sil htt 1 rfl (WPr.nil (?_))))))))
    cases h
    exact WP.ret htt Tryz.func33 [] rfl rfl rfl rfl
  refine WPr.kb 37 hc rfl (WPr.silx (rg 37 24) ⟨[(2, .B 8 0), (3, .B 9 0), (4, .O false), (44, .O (a_.Start != b_.Start))], [(8, .box (c_api_Global 0 1 2 3 a_) 27), (9, .box (c_api_Global 4 5 6 7 b_) 27)], (v_api_Global 0 1 2 3 a_ (v_api_Global 4 5 6 7 b_ [])), 10⟩ htt 7 (by kernel_rfl) (?_))
  rcases oc h with ⟨hc, h⟩ | ⟨hc, h⟩
  · refine WPr.kb 44 hc rfl (WPr.silx [] ⟨[(2, .B 8 0), (3, .B 9 0), (4, .O false), (68, .O true)], [(8, .box (c_api_Global 0 1 2 3 a_) 27), (9, .box (c_api_Global 4 5 6 7 b_) 27)], (v_api_Global 0 1 2 3 a_ (v_api_Global 4 5 6 7 b_ [])), 10⟩ htt 24 (by kernel_rfl) (WPr.nil (WP.condT rfl rfl (WP.seq (WP.region (WPr.sil htt 1 rfl (WPr.nil (?_))))))))
    cases h
    exact WP.ret htt Tryz.func33 [] rfl rfl rfl rfl
  refine WPr.kb 44 hc rfl (WPr.silx (rg 44 17) ⟨[(2, .B 8 0), (3, .B 9 0), (4, .O false), (51, .O (a_.End != b_.End))], [(8, .box (c_api_Global 0 1 2 3 a_) 27), (9, .box (c_api_Global 4 5 6 7 b_) 27)], (v_api_Global 0 1 2 3 a_ (v_api_Global 4 5 6 7 b_ [])), 10⟩ htt 7 (by kernel_rfl) (?_))
  rcases oc h with ⟨hc, h⟩ | ⟨hc, h⟩
  · refine WPr.kb 51 hc rfl (WPr.silx [] ⟨[(2, .B 8 0), (3, .B 9 0), (4, .O false), (68, .O true)], [(8, .box (c_api_Global 0 1 2 3 a_) 27), (9, .box (c_api_Global 4 5 6 7 b_) 27)], (v_api_Global 0 1 2 3 a_ (v_api_Global 4 5 6 7 b_ [])), 10⟩ htt 17 (by kernel_rfl) (WPr.nil (WP.condT rfl rfl (WP.seq (WP.region (WPr.sil htt 1 rfl (WPr.nil (?_))))))))
    cases h
    exact WP.ret htt Tryz.func33 [] rfl rfl rfl rfl
  refine WPr.kb 51 hc rfl (WPr.silx (rg 53 8) ⟨[(2, .B 8 0), (3, .B 9 0), (4, .O false), (60, .O ((a_.Edges.length : Int) != (b_.Edges.length : Int)))], [(8, .box (c_api_Global 0 1 2 3 a_) 27), (9, .box (c_api_Global 4 5 6 7 b_) 27)], (v_api_Global 0 1 2 3 a_ (v_api_Global 4 5 6 7 b_ [])), 10⟩ htt 9 (by kernel_rfl) (?_))
  rcases oc h with ⟨hc, h⟩ | ⟨hc, h⟩
  · refine WPr.kb 60 hc rfl (WPr.silx [] ⟨[(2, .B 8 0), (3, .B 9 0), (4, .O false), (68, .O true)], [(8, .box (c_api_Global 0 1 2 3 a_) 27), (9, .box (c_api_Global 4 5 6 7 b_) 27)], (v_api_Global 0 1 2 3 a_ (v_api_Global 4 5 6 7 b_ [])), 10⟩ htt 8 (by kernel_rfl) (WPr.nil (WP.condT rfl rfl (WP.seq (WP.region (WPr.sil htt 1 rfl (WPr.nil (?_))))))))
    cases h
    exact WP.ret htt Tryz.func33 [] rfl rfl rfl rfl
  refine WPr.kb 60 hc rfl (WPr.silx [] ⟨[(2, .B 8 0), (3, .B 9 0), (4, .O false), (68, .O ((a_.Timeouts.length : Int) != (b_.Timeouts.length : Int)))], [(8, .box (c_api_Global 0 1 2 3 a_) 27), (9, .box (c_api_Global 4 5 6 7 b_) 27)], (v_api_Global 0 1 2 3 a_ (v_api_Global 4 5 6 7 b_ [])), 10⟩ htt 8 (by kernel_rfl) (WPr.nil (?_)))
  rcases oc h with ⟨hc, h⟩ | ⟨hc, h⟩
  · refine WP.condT hc rfl (WP.seq (WP.region (WPr.sil htt 1 rfl (WPr.nil (?_)))))
    cases h
    exact WP.ret htt Tryz.func33 [] rfl rfl rfl rfl
  refine WP.condF hc rfl (WP.skip (WP.seq (WP.seq (WP.region (WPr.sil htt 1 rfl (WPr.nil (?_)))))))
  refine WP.cut (σ := Unit) (fun st => ⟨[(2, .B 8 0), (3, .B 9 0)], [(8, .box (c_api_Global 0 1 2 3 a_) 27), (9, .box (c_api_Global 4 5 6 7 b_) 27)], (v_api_Global 0 1 2 3 a_ (v_api_Global 4 5 6 7 b_ [])), 10⟩) (fun st => ref18_Equal_k5 N a_ b_ = some r) ?_ (fun j1 => ?_)
  · intro _ h
    replace h : ref18_Equal_k5 N a_ b_ = some r := h
    unfold ref18_Equal_k5 at h
    refine WP.seq (WP.seq (WP.region (WPr.sil htt 1 rfl (WPr.nil (?_)))))
    refine WP.cut (σ := Unit) (fun st => ⟨[(2, .B 8 0), (3, .B 9 0)], [(8, .box (c_api_Global 0 1 2 3 a_) 27), (9, .box (c_api_Global 4 5 6 7 b_) 27)], (v_api_Global 0 1 2 3 a_ (v_api_Global 4 5 6 7 b_ [])), 10⟩) (fun st => ref18_Equal_k3 N a_ b_ = some r) ?_ (fun j3 => ?_)
    · intro _ h
      replace h : ref18_Equal_k3 N a_ b_ = some r := h
      unfold ref18_Equal_k3 at h
      refine WP.seq (WP.seq (WP.region (WPr.sil htt 1 rfl (WPr.nil (?_)))))
      refine WP.cut (σ := Unit) (fun st => ⟨[], [], (v_api_Global 0 1 2 3 a_ (v_api_Global 4 5 6 7 b_ [])), 10⟩) (fun st => ref18_Equal_k1 = some r) ?_ (fun j5 => ?_)
      · intro _ h
        replace h : ref18_Equal_k1 = some r := h
        unfold ref18_Equal_k1 at h
        refine WP.seq (WP.region (WPr.sil htt 1 rfl (WPr.nil (?_))))
        cases h
        exact WP.ret htt Tryz.func33 [] rfl rfl rfl rfl
      refine WP.block (?_)
      refine WP.loopI (σ := Int) (fun st => ⟨[(2, .B 8 0), (3, .B 9 0), (7, .I st)], [(8, .box (c_api_Global 0 1 2 3 a_) 27), (9, .box (c_api_Global 4 5 6 7 b_) 27)], (v_api_Global 0 1 2 3 a_ (v_api_Global 4 5 6 7 b_ [])), 10⟩) (fun n st => ref18_Equal_l2 a_ b_ n st) (r := r) (fun _ => rfl) ?_ (fun ih => ?_)
      · intro n4 ih7
        intro v7_7 h
        replace h : ref18_Equal_l2 a_ b_ (n4 + 1) v7_7 = some r := h
        unfold ref18_Equal_l2 at h
        refine WP.seq (WP.seq (WP.region (WPr.silx [] ⟨[(2, .B 8 0), (3, .B 9 0), (7, .I v7_7), (109, .O (decide (v7_7 < (a_.Timeouts.length : Int))))], [(8, .box (c_api_Global 0 1 2 3 a_) 27), (9, .box (c_api_Global 4 5 6 7 b_) 27)], (v_api_Global 0 1 2 3 a_ (v_api_Global 4 5 6 7 b_ [])), 10⟩ htt 5 (by kernel_rfl) (WPr.nil (?_)))))
        rcases oc' h with ⟨hc, h⟩ | ⟨hc, h⟩
        · exact WP.condF hc rfl (WP.exit rfl (WP.sub [] (j5 () h) rfl rfl rfl rfl))
        refine WP.condT hc rfl (WP.skip (WP.seq (WP.block (WP.seq (WP.regionQ (by kernel_rfl) (by kernel_rfl) (WPq.silx (rg 3 8) ⟨[(2, .B 8 0), (3, .B 9 0), (7, .I v7_7), (113, .S 3), (114, .I v7_7)], [(8, .box (c_api_Global 0 1 2 3 a_) 27), (9, .box (c_api_Global 4 5 6 7 b_) 27)], (v_api_Global 0 1 2 3 a_ (v_api_Global 4 5 6 7 b_ [])), 10⟩ htt 3 (by kernel_rfl) (?_)))))))
        obtain ⟨x68, hx68, h⟩ := ob h
        refine WPq.op rfl rfl (VN.vs (VN.ix o_api_Timeout htt hx68 rfl rfl rfl rfl rfl rfl rfl)) (WPq.silx [8, 9, 10] ⟨[(2, .B 8 0), (3, .B 9 0), (7, .I v7_7), (116, .a (c_api_Timeout x68)), (118, .S 7), (119, .I v7_7)], [(8, .box (c_api_Global 0 1 2 3 a_) 27), (9, .box (c_api_Global 4 5 6 7 b_) 27)], (v_api_Global 0 1 2 3 a_ (v_api_Global 4 5 6 7 b_ [])), 11⟩ htt 4 (by kernel_rfl) (?_))
        obtain ⟨x69, hx69, h⟩ := ob h
        refine WPq.op rfl rfl (VN.vs (VN.ix o_api_Timeout htt hx69 rfl rfl rfl rfl rfl rfl rfl)) (WPq.sil htt 1 rfl (WPq.op rfl rfl (VN.vs (VN.eqa (neg := true) (equal_run (b := ((x68.State == x69.State) && ((x68.Ticks == x69.Ticks) && ((x68.Else == x69.Else) && true)))) (by kernel_rfl) (by kernel_rfl)) (by kernel_rfl) rfl rfl rfl rfl rfl)) (WPq.silx [] ⟨[(2, .B 8 0), (3, .B 9 0), (7, .I v7_7), (122, .O (!((x68.State == x69.State) && ((x68.Ticks == x69.Ticks) && ((x68.Else == x69.Else) && true)))))], [(8, .box (c_api_Global 0 1 2 3 a_) 27), (9, .box (c_api_Global 4 5 6 7 b_) 27)], (v_api_Global 0 1 2 3 a_ (v_api_Global 4 5 6 7 b_ [])), 12⟩ htt 0 (by kernel_rfl) (WPq.nil (?_)))))
        rcases oc h with ⟨hc, h⟩ | ⟨hc, h⟩
        · refine WP.condT hc rfl (WP.seq (WP.region (WPr.sil htt 1 rfl (WPr.nil (?_)))))
          cases h
          exact WP.ret htt Tryz.func33 [] rfl rfl rfl rfl
        exact WP.condF hc rfl (WP.skip (WP.inBlock (WP.region (WPr.silx [] ⟨[(2, .B 8 0), (3, .B 9 0), (7, .I (w64 (v7_7 + (1 : Int))))], [(8, .box (c_api_Global 0 1 2 3 a_) 27), (9, .box (c_api_Global 4 5 6 7 b_) 27)], (v_api_Global 0 1 2 3 a_ (v_api_Global 4 5 6 7 b_ [])), 12⟩ htt 3 (by kernel_rfl) (WPr.nil (WP.sub [] (ih7 (w64 (v7_7 + (1 : Int))) h) rfl rfl rfl rfl))))))
      exact WP.sub [] (ih N (0 : Int) h) rfl rfl rfl rfl
    refine WP.block (?_)
    refine WP.loopI (σ := Int) (fun st => ⟨[(2, .B 8 0), (3, .B 9 0), (6, .I st)], [(8, .box (c_api_Global 0 1 2 3 a_) 27), (9, .box (c_api_Global 4 5 6 7 b_) 27)], (v_api_Global 0 1 2 3 a_ (v_api_Global 4 5 6 7 b_ [])), 10⟩) (fun n st => ref18_Equal_l4 N a_ b_ n st) (r := r) (fun _ => rfl) ?_ (fun ih => ?_)
    · intro n5 ih8
      intro v6_8 h
      replace h : ref18_Equal_l4 N a_ b_ (n5 + 1) v6_8 = some r := h
      unfold ref18_Equal_l4 at h
      refine WP.seq (WP.seq (WP.region (WPr.silx [] ⟨[(2, .B 8 0), (3, .B 9 0), (6, .I v6_8), (91, .O (decide (v6_8 < (a_.Edges.length : Int))))], [(8, .box (c_api_Global 0 1 2 3 a_) 27), (9, .box (c_api_Global 4 5 6 7 b_) 27)], (v_api_Global 0 1 2 3 a_ (v_api_Global 4 5 6 7 b_ [])), 10⟩ htt 5 (by kernel_rfl) (WPr.nil (?_)))))
      rcases oc' h with ⟨hc, h⟩ | ⟨hc, h⟩
      · exact WP.condF hc rfl (WP.exit rfl (WP.sub [] (j3 () h) rfl rfl rfl rfl))
      refine WP.condT hc rfl (WP.skip (WP.seq (WP.block (WP.seq (WP.regionQ (by kernel_rfl) (by kernel_rfl) (WPq.silx (rg 3 8) ⟨[(2, .B 8 0), (3, .B 9 0), (6, .I v6_8), (95, .S 2), (96, .I v6_8)], [(8, .box (c_api_Global 0 1 2 3 a_) 27), (9, .box (c_api_Global 4 5 6 7 b_) 27)], (v_api_Global 0 1 2 3 a_ (v_api_Global 4 5 6 7 b_ [])), 10⟩ htt 3 (by kernel_rfl) (?_)))))))
      obtain ⟨x88, hx88, h⟩ := ob h
      refine WPq.op rfl rfl (VN.vs (VN.ix o_api_Edge htt hx88 rfl rfl rfl rfl rfl rfl rfl)) (WPq.silx [8, 9, 10] ⟨[(2, .B 8 0), (3, .B 9 0), (6, .I v6_8), (98, .a (c_api_Edge x88)), (100, .S 6), (101, .I v6_8)], [(8, .box (c_api_Global 0 1 2 3 a_) 27), (9, .box (c_api_Global 4 5 6 7 b_) 27)], (v_api_Global 0 1 2 3 a_ (v_api_Global 4 5 6 7 b_ [])), 11⟩ htt 4 (by kernel_rfl) (?_))
      obtain ⟨x89, hx89, h⟩ := ob h
      refine WPq.op rfl rfl (VN.vs (VN.ix o_api_Edge htt hx89 rfl rfl rfl rfl rfl rfl rfl)) (WPq.sil htt 1 rfl (WPq.op rfl rfl (VN.vs (VN.eqa (neg := true) (equal_run (b := ((x88.From == x89.From) && (((x88.Act.From == x89.Act.From) && ((x88.Act.To == x89.Act.To) && ((x88.Act.Label == x89.Act.Label) && true))) && ((x88.To == x89.To) && ((x88.Again == x89.Again) && true))))) (by kernel_rfl) (by kernel_rfl)) (by kernel_rfl) rfl rfl rfl rfl rfl)) (WPq.silx [] ⟨[(2, .B 8 0), (3, .B 9 0), (6, .I v6_8), (104, .O (!((x88.From == x89.From) && (((x88.Act.From == x89.Act.From) && ((x88.Act.To == x89.Act.To) && ((x88.Act.Label == x89.Act.Label) && true))) && ((x88.To == x89.To) && ((x88.Again == x89.Again) && true))))))], [(8, .box (c_api_Global 0 1 2 3 a_) 27), (9, .box (c_api_Global 4 5 6 7 b_) 27)], (v_api_Global 0 1 2 3 a_ (v_api_Global 4 5 6 7 b_ [])), 12⟩ htt 0 (by kernel_rfl) (WPq.nil (?_)))))
      rcases oc h with ⟨hc, h⟩ | ⟨hc, h⟩
      · refine WP.condT hc rfl (WP.seq (WP.region (WPr.sil htt 1 rfl (WPr.nil (?_)))))
        cases h
        exact WP.ret htt Tryz.func33 [] rfl rfl rfl rfl
      exact WP.condF hc rfl (WP.skip (WP.inBlock (WP.region (WPr.silx [] ⟨[(2, .B 8 0), (3, .B 9 0), (6, .I (w64 (v6_8 + (1 : Int))))], [(8, .box (c_api_Global 0 1 2 3 a_) 27), (9, .box (c_api_Global 4 5 6 7 b_) 27)], (v_api_Global 0 1 2 3 a_ (v_api_Global 4 5 6 7 b_ [])), 12⟩ htt 3 (by kernel_rfl) (WPr.nil (WP.sub [] (ih8 (w64 (v6_8 + (1 : Int))) h) rfl rfl rfl rfl))))))
    exact WP.sub [] (ih N (0 : Int) h) rfl rfl rfl rfl
  refine WP.block (?_)
  refine WP.loopI (σ := Int) (fun st => ⟨[(2, .B 8 0), (3, .B 9 0), (5, .I st)], [(8, .box (c_api_Global 0 1 2 3 a_) 27), (9, .box (c_api_Global 4 5 6 7 b_) 27)], (v_api_Global 0 1 2 3 a_ (v_api_Global 4 5 6 7 b_ [])), 10⟩) (fun n st => ref18_Equal_l6 N a_ b_ n st) (r := r) (fun _ => rfl) ?_ (fun ih => ?_)
  · intro n6 ih9
    intro v5_9 h
    replace h : ref18_Equal_l6 N a_ b_ (n6 + 1) v5_9 = some r := h
    unfold ref18_Equal_l6 at h
    refine WP.seq (WP.seq (WP.region (WPr.silx [] ⟨[(2, .B 8 0), (3, .B 9 0), (5, .I v5_9), (73, .O (decide (v5_9 < (a_.Roles.length : Int))))], [(8, .box (c_api_Global 0 1 2 3 a_) 27), (9, .box (c_api_Global 4 5 6 7 b_) 27)], (v_api_Global 0 1 2 3 a_ (v_api_Global 4 5 6 7 b_ [])), 10⟩ htt 5 (by kernel_rfl) (WPr.nil (?_)))))
    rcases oc' h with ⟨hc, h⟩ | ⟨hc, h⟩
    · exact WP.condF hc rfl (WP.exit rfl (WP.sub [] (j1 () h) rfl rfl rfl rfl))
    refine WP.condT hc rfl (WP.skip (WP.seq (WP.block (WP.seq (WP.regionQ (by kernel_rfl) (by kernel_rfl) (WPq.silx (rg 3 8) ⟨[(2, .B 8 0), (3, .B 9 0), (5, .I v5_9), (77, .S 0), (78, .I v5_9)], [(8, .box (c_api_Global 0 1 2 3 a_) 27), (9, .box (c_api_Global 4 5 6 7 b_) 27)], (v_api_Global 0 1 2 3 a_ (v_api_Global 4 5 6 7 b_ [])), 10⟩ htt 3 (by kernel_rfl) (?_)))))))
    obtain ⟨x108, hx108, h⟩ := ob h
    refine WPq.op rfl rfl (VN.vs (VN.ix oS htt hx108 rfl rfl rfl rfl rfl rfl rfl)) (WPq.silx [8, 9, 10] ⟨[(2, .B 8 0), (3, .B 9 0), (5, .I v5_9), (80, .c (.s x108)), (82, .S 4), (83, .I v5_9)], [(8, .box (c_api_Global 0 1 2 3 a_) 27), (9, .box (c_api_Global 4 5 6 7 b_) 27)], (v_api_Global 0 1 2 3 a_ (v_api_Global 4 5 6 7 b_ [])), 11⟩ htt 4 (by kernel_rfl) (?_))
    obtain ⟨x109, hx109, h⟩ := ob h
    refine WPq.op rfl rfl (VN.vs (VN.ix oS htt hx109 rfl rfl rfl rfl rfl rfl rfl)) (WPq.silx [] ⟨[(2, .B 8 0), (3, .B 9 0), (5, .I v5_9), (86, .O (!(x108.toList == x109.toList)))], [(8, .box (c_api_Global 0 1 2 3 a_) 27), (9, .box (c_api_Global 4 5 6 7 b_) 27)], (v_api_Global 0 1 2 3 a_ (v_api_Global 4 5 6 7 b_ [])), 12⟩ htt 2 (by kernel_rfl) (WPq.nil (?_)))
    rcases oc h with ⟨hc, h⟩ | ⟨hc, h⟩
    · refine WP.condT hc rfl (WP.seq (WP.region (WPr.sil htt 1 rfl (WPr.nil (?_)))))
      cases h
      exact WP.ret htt Tryz.func33 [] rfl rfl rfl rfl
    exact WP.condF hc rfl (WP.skip (WP.inBlock (WP.region (WPr.silx [] ⟨[(2, .B 8 0), (3, .B 9 0), (5, .I (w64 (v5_9 + (1 : Int))))], [(8, .box (c_api_Global 0 1 2 3 a_) 27), (9, .box (c_api_Global 4 5 6 7 b_) 27)], (v_api_Global 0 1 2 3 a_ (v_api_Global 4 5 6 7 b_ [])), 12⟩ htt 3 (by kernel_rfl) (WPr.nil (WP.sub [] (ih9 (w64 (v5_9 + (1 : Int))) h) rfl rfl rfl rfl))))))
  exact WP.sub [] (ih N (0 : Int) h) rfl rfl rfl rfl
theorem law18_GlobalSearch_ct (N : Nat) (g_ : T_api_Global) (other_ : T_api_Global) (q_ : T_law18_Query) (r : Bool) (h : law18_GlobalSearch N g_ other_ q_ = some r) :
  Fn Tryz.prog 6 ⟨8, [.a (c_api_Global 0 1 2 3 g_), .a (c_api_Global 4 5 6 7 other_), .a (c_law18_Query q_)], (v_api_Global 0 1 2 3 g_ (v_api_Global 4 5 6 7 other_ [])), [], 8, .O r, [], []⟩ := by
  refine Fn.intro _ _ Tryz.func6 rfl (by kernel_rfl) rfl (fun E F w => ?_)
  unfold law18_GlobalSearch at h
  refine WP.seq (WP.region (WPr.silx [] ⟨[(3, .B 8 0), (4, .B 9 0), (5, .B 10 0), (6, .O false)], [(8, .box (c_api_Global 0 1 2 3 g_) 27), (9, .box (c_api_Global 4 5 6 7 other_) 27), (10, .box (c_law18_Query q_) 55)], (v_api_Global 0 1 2 3 g_ (v_api_Global 4 5 6 7 other_ [])), 11⟩ htt 4 (by kernel_rfl) (WPr.nil (WP.seq (WP.seq (WP.region (?_)))))))
  obtain ⟨x1, hx1, h⟩ := ob h
  refine WPr.call (law18_awake_ct N _ hx1) [] [] rfl rfl rfl rfl rfl rfl rfl rfl (.inl rfl) rfl (WPr.silx (rg 3 9) ⟨[(3, .B 8 0), (4, .B 9 0), (5, .B 10 0), (6, .O false), (13, .O (!x1))], [(8, .box (c_api_Global 0 1 2 3 g_) 27), (9, .box (c_api_Global 4 5 6 7 other_) 27), (10, .box (c_law18_Query q_) 55)], (v_api_Global 0 1 2 3 g_ (v_api_Global 4 5 6 7 other_ [])), 11⟩ htt 2 (by kernel_rfl) (?_))
  rcases oc h with ⟨hc, h⟩ | ⟨hc, h⟩
  · refine WPr.kb 13 hc rfl (WPr.silx [] ⟨[(3, .B 8 0), (4, .B 9 0), (5, .B 10 0), (6, .O false), (22, .O true)], [(8, .box (c_api_Global 0 1 2 3 g_) 27), (9, .box (c_api_Global 4 5 6 7 other_) 27), (10, .box (c_law18_Query q_) 55)], (v_api_Global 0 1 2 3 g_ (v_api_Global 4 5 6 7 other_ [])), 11⟩ htt 9 (by kernel_rfl) (WPr.nil (WP.condT rfl rfl (WP.seq (WP.region (?_))))))
    obtain ⟨x2, hx2, h⟩ := ob h
    refine WPr.call (law18_awake_ct N _ hx2) [] [] rfl rfl rfl rfl rfl rfl rfl rfl (.inl rfl) rfl (WPr.silx [] ⟨[(6, .O x2)], [], (v_api_Global 0 1 2 3 g_ (v_api_Global 4 5 6 7 other_ [])), 11⟩ htt 1 (by kernel_rfl) (WPr.nil (?_)))
    cases h
    exact WP.ret htt Tryz.func6 [] rfl rfl rfl rfl
  refine WPr.kb 13 hc rfl (WPr.sil htt 1 rfl (?_))
  obtain ⟨x3, hx3, h⟩ := ob h
  refine WPr.call (ref18_Few_ct N g_ _ hx3) [(0, .sl 0), (1, .sl 1), (2, .sl 2), (3, .sl 3)] [] rfl rfl rfl rfl rfl rfl rfl rfl (.inl rfl) rfl (WPr.silx [8, 9, 10, 11] ⟨[(3, .B 8 0), (4, .B 9 0), (5, .B 10 0), (6, .O false), (18, .O (!x3))], [(8, .box (c_api_Global 0 1 2 3 g_) 27), (9, .box (c_api_Global 4 5 6 7 other_) 27), (10, .box (c_law18_Query q_) 55)], (v_api_Global 0 1 2 3 g_ (v_api_Global 4 5 6 7 other_ [])), 11⟩ htt 3 (by kernel_rfl) (?_))
  rcases oc h with ⟨hc, h⟩ | ⟨hc, h⟩
  · refine WPr.kb 18 hc rfl (WPr.silx [] ⟨[(3, .B 8 0), (4, .B 9 0), (5, .B 10 0), (6, .O false), (22, .O true)], [(8, .box (c_api_Global 0 1 2 3 g_) 27), (9, .box (c_api_Global 4 5 6 7 other_) 27), (10, .box (c_law18_Query q_) 55)], (v_api_Global 0 1 2 3 g_ (v_api_Global 4 5 6 7 other_ [])), 11⟩ htt 4 (by kernel_rfl) (WPr.nil (WP.condT rfl rfl (WP.seq (WP.region (?_))))))
    obtain ⟨x4, hx4, h⟩ := ob h
    refine WPr.call (law18_awake_ct N _ hx4) [] [] rfl rfl rfl rfl rfl rfl rfl rfl (.inl rfl) rfl (WPr.silx [] ⟨[(6, .O x4)], [], (v_api_Global 0 1 2 3 g_ (v_api_Global 4 5 6 7 other_ [])), 11⟩ htt 1 (by kernel_rfl) (WPr.nil (?_)))
    cases h
    exact WP.ret htt Tryz.func6 [] rfl rfl rfl rfl
  refine WPr.kb 18 hc rfl (WPr.sil htt 1 rfl (?_))
  obtain ⟨x5, hx5, h⟩ := ob h
  refine WPr.call (ref18_Few_ct N other_ _ hx5) [(0, .sl 4), (1, .sl 5), (2, .sl 6), (3, .sl 7)] [] rfl rfl rfl rfl rfl rfl rfl rfl (.inl rfl) rfl (WPr.silx [] ⟨[(3, .B 8 0), (4, .B 9 0), (5, .B 10 0), (6, .O false), (22, .O (!x5))], [(8, .box (c_api_Global 0 1 2 3 g_) 27), (9, .box (c_api_Global 4 5 6 7 other_) 27), (10, .box (c_law18_Query q_) 55)], (v_api_Global 0 1 2 3 g_ (v_api_Global 4 5 6 7 other_ [])), 11⟩ htt 2 (by kernel_rfl) (WPr.nil (?_)))
  rcases oc h with ⟨hc, h⟩ | ⟨hc, h⟩
  · refine WP.condT hc rfl (WP.seq (WP.region (?_)))
    obtain ⟨x6, hx6, h⟩ := ob h
    refine WPr.call (law18_awake_ct N _ hx6) [] [] rfl rfl rfl rfl rfl rfl rfl rfl (.inl rfl) rfl (WPr.silx [] ⟨[(6, .O x6)], [], (v_api_Global 0 1 2 3 g_ (v_api_Global 4 5 6 7 other_ [])), 11⟩ htt 1 (by kernel_rfl) (WPr.nil (?_)))
    cases h
    exact WP.ret htt Tryz.func6 [] rfl rfl rfl rfl
  refine WP.condF hc rfl (WP.skip (WP.seq (WP.region (WPr.silx (rg 5 6) ⟨[(3, .B 8 0), (4, .B 9 0), (5, .B 10 0), (6, .O false), (25, .a (c_api_Global 0 1 2 3 g_)), (27, .I q_.State), (29, .a (c_api_Interaction q_.Act))], [(8, .box (c_api_Global 0 1 2 3 g_) 27), (9, .box (c_api_Global 4 5 6 7 other_) 27), (10, .box (c_law18_Query q_) 55)], (v_api_Global 0 1 2 3 g_ (v_api_Global 4 5 6 7 other_ [])), 11⟩ htt 5 (by kernel_rfl) (?_)))))
  obtain ⟨x7, hx7, h⟩ := ob h
  refine WPr.call (global_Next_ct N g_ q_.State q_.Act _ hx7) [(0, .sl 0), (1, .sl 1), (2, .sl 2), (3, .sl 3)] [] rfl rfl rfl rfl rfl rfl rfl rfl (.inl rfl) rfl (WPr.silx [] ⟨[(3, .B 8 0), (4, .B 9 0), (5, .B 10 0), (6, .O false), (7, .I x7.1), (8, .O x7.2)], [(8, .box (c_api_Global 0 1 2 3 g_) 27), (9, .box (c_api_Global 4 5 6 7 other_) 27), (10, .box (c_law18_Query q_) 55)], (v_api_Global 0 1 2 3 g_ (v_api_Global 4 5 6 7 other_ [])), 11⟩ htt 5 (by kernel_rfl) (WPr.nil (WP.seq (WP.region (WPr.silx (rg 5 6) ⟨[(3, .B 8 0), (4, .B 9 0), (5, .B 10 0), (6, .O false), (7, .I x7.1), (8, .O x7.2), (34, .a (c_api_Global 0 1 2 3 g_)), (36, .I q_.State), (38, .a (c_api_Interaction q_.Act))], [(8, .box (c_api_Global 0 1 2 3 g_) 27), (9, .box (c_api_Global 4 5 6 7 other_) 27), (10, .box (c_law18_Query q_) 55)], (v_api_Global 0 1 2 3 g_ (v_api_Global 4 5 6 7 other_ [])), 11⟩ htt 5 (by kernel_rfl) (?_))))))
  obtain ⟨x8, hx8, h⟩ := ob h
  refine WPr.call (ref18_Next_ct N g_ q_.State q_.Act _ hx8) [(0, .sl 0), (1, .sl 1), (2, .sl 2), (3, .sl 3)] [] rfl rfl rfl rfl rfl rfl rfl rfl (.inl rfl) rfl (WPr.silx [] ⟨[(3, .B 8 0), (4, .B 9 0), (5, .B 10 0), (6, .O false), (7, .I x7.1), (8, .O x7.2), (9, .I x8.1), (10, .O x8.2)], [(8, .box (c_api_Global 0 1 2 3 g_) 27), (9, .box (c_api_Global 4 5 6 7 other_) 27), (10, .box (c_law18_Query q_) 55)], (v_api_Global 0 1 2 3 g_ (v_api_Global 4 5 6 7 other_ [])), 11⟩ htt 5 (by kernel_rfl) (WPr.nil (WP.seq (WP.nm (fun A1 tA1 fA1 => ?_)))))
  have st9 : A1 0 ⟨[(7, .I x7.1)], [], [], [], 11, [(42, .I x7.1)], [], [], 11⟩ := tA1 _ _ (LS.sil htt rfl rfl rfl rfl rfl rfl)
  have st10 : A1 1 ⟨[(9, .I x8.1)], [], [], [], 11, [(43, .I x8.1)], [], [], 11⟩ := tA1 _ _ (LS.sil htt rfl rfl rfl rfl rfl rfl)
  have st11 : A1 2 ⟨[(42, .I x7.1), (43, .I x8.1)], [], [], [], 11, [(44, .O (x7.1 == x8.1))], [], [], 11⟩ := tA1 _ _ (LS.sil htt rfl rfl rfl rfl rfl rfl)
  have st12 : A1 3 ⟨[(44, .O (x7.1 == x8.1))], [], [], [], 11, [(45, .O (x7.1 == x8.1))], [], [], 11⟩ := tA1 _ _ (LS.sil htt rfl rfl rfl rfl rfl rfl)
  rcases oc' h with ⟨hc, h⟩ | ⟨hc, h⟩
  · have st213 := tA1 _ _ (LS.kb hc rfl (fA1 _ _ st12))
    have st214 : A1 4 ⟨[(45, .O false)], [], [], [], 11, [(46, .u)], [], [], 11⟩ := tA1 _ _ (LS.skip rfl rfl rfl (.inr ⟨_, rfl, rfl⟩) rfl rfl)
    have st215 : A1 5 ⟨[(45, .O false)], [], [], [], 11, [(47, .u)], [], [], 11⟩ := tA1 _ _ (LS.skip rfl rfl rfl (.inr ⟨_, rfl, rfl⟩) rfl rfl)
    have st216 : A1 6 ⟨[(45, .O false)], [], [], [], 11, [(48, .u)], [], [], 11⟩ := tA1 _ _ (LS.skip rfl rfl rfl (.inr ⟨_, rfl, rfl⟩) rfl rfl)
    have st217 : A1 7 ⟨[(45, .O false), (48, .u)], [], [], [], 11, [(49, .O false)], [], [], 11⟩ := tA1 _ _ (LS.sil htt rfl rfl rfl rfl rfl rfl)
    have st218 : A1 8 ⟨[(49, .O false)], [], [], [], 11, [(50, .O false)], [], [], 11⟩ := tA1 _ _ (LS.sil htt rfl rfl rfl rfl rfl rfl)
    have st219 : A1 9 ⟨[(50, .O false)], [], [], [], 11, [(51, .u)], [], [], 11⟩ := tA1 _ _ (LS.skip rfl rfl rfl (.inr ⟨_, rfl, rfl⟩) rfl rfl)
    have st220 : A1 10 ⟨[(50, .O false)], [], [], [], 11, [(52, .u)], [], [], 11⟩ := tA1 _ _ (LS.skip rfl rfl rfl (.inr ⟨_, rfl, rfl⟩) rfl rfl)
    have st221 : A1 11 ⟨[(50, .O false)], [], [], [], 11, [(53, .u)], [], [], 11⟩ := tA1 _ _ (LS.skip rfl rfl rfl (.inr ⟨_, rfl, rfl⟩) rfl rfl)
    have st222 : A1 12 ⟨[(50, .O false)], [], [], [], 11, [(54, .u)], [], [], 11⟩ := tA1 _ _ (LS.skip rfl rfl rfl (.inr ⟨_, rfl, rfl⟩) rfl rfl)
    have st223 : A1 13 ⟨[(50, .O false)], [], [], [], 11, [(55, .u)], [], [], 11⟩ := tA1 _ _ (LS.skip rfl rfl rfl (.inr ⟨_, rfl, rfl⟩) rfl rfl)
    have st224 : A1 14 ⟨[(50, .O false)], [], [], [], 11, [(56, .u)], [], [], 11⟩ := tA1 _ _ (LS.skip rfl rfl rfl (.inr ⟨_, rfl, rfl⟩) rfl rfl)
    have st225 : A1 15 ⟨[(50, .O false)], [], [], [], 11, [(57, .u)], [], [], 11⟩ := tA1 _ _ (LS.skip rfl rfl rfl (.inr ⟨_, rfl, rfl⟩) rfl rfl)
    have st226 : A1 16 ⟨[(50, .O false)], [], [], [], 11, [(58, .u)], [], [], 11⟩ := tA1 _ _ (LS.skip rfl rfl rfl (.inr ⟨_, rfl, rfl⟩) rfl rfl)
    have st227 : A1 17 ⟨[(50, .O false)], [], [], [], 11, [(59, .u)], [], [], 11⟩ := tA1 _ _ (LS.skip rfl rfl rfl (.inr ⟨_, rfl, rfl⟩) rfl rfl)
    have st228 : A1 18 ⟨[(50, .O false), (59, .u)], [], [], [], 11, [(60, .O false)], [], [], 11⟩ := tA1 _ _ (LS.sil htt rfl rfl rfl rfl rfl rfl)
    have st229 : A1 19 ⟨[(60, .O false)], [], [], [], 11, [(61, .O false)], [], [], 11⟩ := tA1 _ _ (LS.sil htt rfl rfl rfl rfl rfl rfl)
    have st230 : A1 20 ⟨[(61, .O false)], [], [], [], 11, [(62, .u)], [], [], 11⟩ := tA1 _ _ (LS.skip rfl rfl rfl (.inr ⟨_, rfl, rfl⟩) rfl rfl)
    have st231 : A1 21 ⟨[(61, .O false)], [], [], [], 11, [(63, .u)], [], [], 11⟩ := tA1 _ _ (LS.skip rfl rfl rfl (.inr ⟨_, rfl, rfl⟩) rfl rfl)
    have st232 : A1 22 ⟨[(61, .O false)], [], [], [], 11, [(64, .u)], [], [], 11⟩ := tA1 _ _ (LS.skip rfl rfl rfl (.inr ⟨_, rfl, rfl⟩) rfl rfl)
    have st233 : A1 23 ⟨[(61, .O false)], [], [], [], 11, [(65, .u)], [], [], 11⟩ := tA1 _ _ (LS.skip rfl rfl rfl (.inr ⟨_, rfl, rfl⟩) rfl rfl)
    have st234 : A1 24 ⟨[(61, .O false)], [], [], [], 11, [(66, .u)], [], [], 11⟩ := tA1 _ _ (LS.skip rfl rfl rfl (.inr ⟨_, rfl, rfl⟩) rfl rfl)
    have st235 : A1 25 ⟨[(61, .O false)], [], [], [], 11, [(67, .u)], [], [], 11⟩ := tA1 _ _ (LS.skip rfl rfl rfl (.inr ⟨_, rfl, rfl⟩) rfl rfl)
    have st236 : A1 26 ⟨[(61, .O false)], [], [], [], 11, [(68, .u)], [], [], 11⟩ := tA1 _ _ (LS.skip rfl rfl rfl (.inr ⟨_, rfl, rfl⟩) rfl rfl)
    have st237 : A1 27 ⟨[(61, .O false)], [], [], [], 11, [(69, .u)], [], [], 11⟩ := tA1 _ _ (LS.skip rfl rfl rfl (.inr ⟨_, rfl, rfl⟩) rfl rfl)
    have st238 : A1 28 ⟨[(61, .O false)], [], [], [], 11, [(70, .u)], [], [], 11⟩ := tA1 _ _ (LS.skip rfl rfl rfl (.inr ⟨_, rfl, rfl⟩) rfl rfl)
    have st239 : A1 29 ⟨[(61, .O false), (70, .u)], [], [], [], 11, [(71, .O false)], [], [], 11⟩ := tA1 _ _ (LS.sil htt rfl rfl rfl rfl rfl rfl)
    have st240 : A1 30 ⟨[(71, .O false)], [], [], [], 11, [(72, .O false)], [], [], 11⟩ := tA1 _ _ (LS.sil htt rfl rfl rfl rfl rfl rfl)
    have st241 : A1 31 ⟨[(72, .O false)], [], [], [], 11, [(73, .u)], [], [], 11⟩ := tA1 _ _ (LS.skip rfl rfl rfl (.inr ⟨_, rfl, rfl⟩) rfl rfl)
    have st242 : A1 32 ⟨[(72, .O false)], [], [], [], 11, [(74, .u)], [], [], 11⟩ := tA1 _ _ (LS.skip rfl rfl rfl (.inr ⟨_, rfl, rfl⟩) rfl rfl)
    have st243 : A1 33 ⟨[(72, .O false)], [], [], [], 11, [(75, .u)], [], [], 11⟩ := tA1 _ _ (LS.skip rfl rfl rfl (.inr ⟨_, rfl, rfl⟩) rfl rfl)
    have st244 : A1 34 ⟨[(72, .O false)], [], [], [], 11, [(76, .u)], [], [], 11⟩ := tA1 _ _ (LS.skip rfl rfl rfl (.inr ⟨_, rfl, rfl⟩) rfl rfl)
    have st245 : A1 35 ⟨[(72, .O false)], [], [], [], 11, [(77, .u)], [], [], 11⟩ := tA1 _ _ (LS.skip rfl rfl rfl (.inr ⟨_, rfl, rfl⟩) rfl rfl)
    have st246 : A1 36 ⟨[(72, .O false)], [], [], [], 11, [(78, .u)], [], [], 11⟩ := tA1 _ _ (LS.skip rfl rfl rfl (.inr ⟨_, rfl, rfl⟩) rfl rfl)
    have st247 : A1 37 ⟨[(72, .O false)], [], [], [], 11, [(79, .u)], [], [], 11⟩ := tA1 _ _ (LS.skip rfl rfl rfl (.inr ⟨_, rfl, rfl⟩) rfl rfl)
    have st248 : A1 38 ⟨[(72, .O false)], [], [], [], 11, [(80, .u)], [], [], 11⟩ := tA1 _ _ (LS.skip rfl rfl rfl (.inr ⟨_, rfl, rfl⟩) rfl rfl)
    have st249 : A1 39 ⟨[(72, .O false)], [], [], [], 11, [(81, .u)], [], [], 11⟩ := tA1 _ _ (LS.skip rfl rfl rfl (.inr ⟨_, rfl, rfl⟩) rfl rfl)
    have st250 : A1 40 ⟨[(72, .O false), (81, .u)], [], [], [], 11, [(82, .O false)], [], [], 11⟩ := tA1 _ _ (LS.sil htt rfl rfl rfl rfl rfl rfl)
    have st251 : A1 41 ⟨[(82, .O false)], [], [], [], 11, [(83, .O false)], [], [], 11⟩ := tA1 _ _ (LS.sil htt rfl rfl rfl rfl rfl rfl)
    have st252 : A1 42 ⟨[(83, .O false)], [], [], [], 11, [(84, .u)], [], [], 11⟩ := tA1 _ _ (LS.skip rfl rfl rfl (.inr ⟨_, rfl, rfl⟩) rfl rfl)
    have st253 : A1 43 ⟨[(83, .O false)], [], [], [], 11, [(85, .u)], [], [], 11⟩ := tA1 _ _ (LS.skip rfl rfl rfl (.inr ⟨_, rfl, rfl⟩) rfl rfl)
    have st254 : A1 44 ⟨[(83, .O false)], [], [], [], 11, [(86, .u)], [], [], 11⟩ := tA1 _ _ (LS.skip rfl rfl rfl (.inr ⟨_, rfl, rfl⟩) rfl rfl)
    have st255 : A1 45 ⟨[(83, .O false)], [], [], [], 11, [(87, .u)], [], [], 11⟩ := tA1 _ _ (LS.skip rfl rfl rfl (.inr ⟨_, rfl, rfl⟩) rfl rfl)
    have st256 : A1 46 ⟨[(83, .O false)], [], [], [], 11, [(88, .u)], [], [], 11⟩ := tA1 _ _ (LS.skip rfl rfl rfl (.inr ⟨_, rfl, rfl⟩) rfl rfl)
    have st257 : A1 47 ⟨[(83, .O false)], [], [], [], 11, [(89, .u)], [], [], 11⟩ := tA1 _ _ (LS.skip rfl rfl rfl (.inr ⟨_, rfl, rfl⟩) rfl rfl)
    have st258 : A1 48 ⟨[(83, .O false)], [], [], [], 11, [(90, .u)], [], [], 11⟩ := tA1 _ _ (LS.skip rfl rfl rfl (.inr ⟨_, rfl, rfl⟩) rfl rfl)
    have st259 : A1 49 ⟨[(83, .O false), (90, .u)], [], [], [], 11, [(91, .O false)], [], [], 11⟩ := tA1 _ _ (LS.sil htt rfl rfl rfl rfl rfl rfl)
    have st260 : A1 50 ⟨[(91, .O false)], [], [], [], 11, [(92, .O false)], [], [], 11⟩ := tA1 _ _ (LS.sil htt rfl rfl rfl rfl rfl rfl)
    have st261 : A1 51 ⟨[(92, .O false)], [], [], [], 11, [(93, .u)], [], [], 11⟩ := tA1 _ _ (LS.skip rfl rfl rfl (.inr ⟨_, rfl, rfl⟩) rfl rfl)
    have st262 : A1 52 ⟨[(92, .O false)], [], [], [], 11, [(94, .u)], [], [], 11⟩ := tA1 _ _ (LS.skip rfl rfl rfl (.inr ⟨_, rfl, rfl⟩) rfl rfl)
    have st263 : A1 53 ⟨[(92, .O false)], [], [], [], 11, [(95, .u)], [], [], 11⟩ := tA1 _ _ (LS.skip rfl rfl rfl (.inr ⟨_, rfl, rfl⟩) rfl rfl)
    have st264 : A1 54 ⟨[(92, .O false), (95, .u)], [], [], [], 11, [(96, .O false)], [], [], 11⟩ := tA1 _ _ (LS.sil htt rfl rfl rfl rfl rfl rfl)
    have st265 : A1 55 ⟨[(96, .O false)], [], [], [], 11, [(6, .O false)], [], [], 11⟩ := tA1 _ _ (LS.sil htt rfl rfl rfl rfl rfl rfl)
    refine WP.regionD (t := ⟨[(6, .O false)], [], (v_api_Global 0 1 2 3 g_ (v_api_Global 4 5 6 7 other_ [])), 11⟩) [0, 0, 3, 7, 15, 15, 63, 127, 255, 511, 511, 1535, 4095, 511, 511, 16895, 65535, 131071, 262143, 524287, 1048575, 1048575, 3145727, 8388607, 1048575, 1048575, 34603007, 134217727, 268435455, 536870911, 1073741823, 2147483647, 2147483647, 6442450943, 17179869183, 2147483647, 2147483647, 70866960383, 274877906943, 549755813887, 1099511627775, 2199023255551, 4398046511103, 4398046511103, 17592186044415, 4398046511103, 4398046511103, 140737488355327, 281474976710655, 562949953421311, 1125899906842623, 2251799813685247, 2251799813685247, 9007199254740991, 18014398509481983, 36028797018963967] (.cons (fA1 _ _ st9) (.cons (fA1 _ _ st10) (.cons (fA1 _ _ st11) (.cons (fA1 _ _ st213) (.cons (fA1 _ _ st214) (.cons (fA1 _ _ st215) (.cons (fA1 _ _ st216) (.cons (fA1 _ _ st217) (.cons (fA1 _ _ st218) (.cons (fA1 _ _ st219) (.cons (fA1 _ _ st220) (.cons (fA1 _ _ st221) (.cons (fA1 _ _ st222) (.cons (fA1 _ _ st223) (.cons (fA1 _ _ st224) (.cons (fA1 _ _ st225) (.cons (fA1 _ _ st226) (.cons (fA1 _ _ st227) (.cons (fA1 _ _ st228) (.cons (fA1 _ _ st229) (.cons (fA1 _ _ st230) (.cons (fA1 _ _ st231) (.cons (fA1 _ _ st232) (.cons (fA1 _ _ st233) (.cons (fA1 _ _ st234) (.cons (fA1 _ _ st235) (.cons (fA1 _ _ st236) (.cons (fA1 _ _ st237) (.cons (fA1 _ _ st238) (.cons (fA1 _ _ st239) (.cons (fA1 _ _ st240) (.cons (fA1 _ _ st241) (.cons (fA1 _ _ st242) (.cons (fA1 _ _ st243) (.cons (fA1 _ _ st244) (.cons (fA1 _ _ st245) (.cons (fA1 _ _ st246) (.cons (fA1 _ _ st247) (.cons (fA1 _ _ st248) (.cons (fA1 _ _ st249) (.cons (fA1 _ _ st250) (.cons (fA1 _ _ st251) (.cons (fA1 _ _ st252) (.cons (fA1 _ _ st253) (.cons (fA1 _ _ st254) (.cons (fA1 _ _ st255) (.cons (fA1 _ _ st256) (.cons (fA1 _ _ st257) (.cons (fA1 _ _ st258) (.cons (fA1 _ _ st259) (.cons (fA1 _ _ st260) (.cons (fA1 _ _ st261) (.cons (fA1 _ _ st262) (.cons (fA1 _ _ st263) (.cons (fA1 _ _ st264) (.cons (fA1 _ _ st265) .nil)))))))))))))))))))))))))))))))))))))))))))))))))))))))) (by kernel_rfl) (by kernel_rfl) (by kernel_rfl) (by kernel_rfl) (?_)
    cases h
    exact WP.ret htt Tryz.func6 [] rfl rfl rfl rfl
  have st13 := tA1 _ _ (LS.kb hc rfl (fA1 _ _ st12))
  have st14 : A1 4 ⟨[(8, .O x7.2), (45, .O true)], [], [], [], 11, [(46, .O x7.2)], [], [], 11⟩ := tA1 _ _ (LS.sil htt rfl rfl rfl rfl rfl rfl)
  have st15 : A1 5 ⟨[(10, .O x8.2), (45, .O true)], [], [], [], 11, [(47, .O x8.2)], [], [], 11⟩ := tA1 _ _ (LS.sil htt rfl rfl rfl rfl rfl rfl)
  have st16 : A1 6 ⟨[(45, .O true), (46, .O x7.2), (47, .O x8.2)], [], [], [], 11, [(48, .O (x7.2 == x8.2))], [], [], 11⟩ := tA1 _ _ (LS.sil htt rfl rfl rfl rfl rfl rfl)
  have st17 : A1 7 ⟨[(45, .O true), (48, .O (x7.2 == x8.2))], [], [], [], 11, [(49, .O (x7.2 == x8.2))], [], [], 11⟩ := tA1 _ _ (LS.sil htt rfl rfl rfl rfl rfl rfl)
  have st18 : A1 8 ⟨[(49, .O (x7.2 == x8.2))], [], [], [], 11, [(50, .O (x7.2 == x8.2))], [], [], 11⟩ := tA1 _ _ (LS.sil htt rfl rfl rfl rfl rfl rfl)
  rcases oc' h with ⟨hc, h⟩ | ⟨hc, h⟩
  · have st165 := tA1 _ _ (LS.kb hc rfl (fA1 _ _ st18))
    have st166 : A1 9 ⟨[(50, .O false)], [], [], [], 11, [(51, .u)], [], [], 11⟩ := tA1 _ _ (LS.skip rfl rfl rfl (.inr ⟨_, rfl, rfl⟩) rfl rfl)
    have st167 : A1 10 ⟨[(50, .O false)], [], [], [], 11, [(52, .u)], [], [], 11⟩ := tA1 _ _ (LS.skip rfl rfl rfl (.inr ⟨_, rfl, rfl⟩) rfl rfl)
    have st168 : A1 11 ⟨[(50, .O false)], [], [], [], 11, [(53, .u)], [], [], 11⟩ := tA1 _ _ (LS.skip rfl rfl rfl (.inr ⟨_, rfl, rfl⟩) rfl rfl)
    have st169 : A1 12 ⟨[(50, .O false)], [], [], [], 11, [(54, .u)], [], [], 11⟩ := tA1 _ _ (LS.skip rfl rfl rfl (.inr ⟨_, rfl, rfl⟩) rfl rfl)
    have st170 : A1 13 ⟨[(50, .O false)], [], [], [], 11, [(55, .u)], [], [], 11⟩ := tA1 _ _ (LS.skip rfl rfl rfl (.inr ⟨_, rfl, rfl⟩) rfl rfl)
    have st171 : A1 14 ⟨[(50, .O false)], [], [], [], 11, [(56, .u)], [], [], 11⟩ := tA1 _ _ (LS.skip rfl rfl rfl (.inr ⟨_, rfl, rfl⟩) rfl rfl)
    have st172 : A1 15 ⟨[(50, .O false)], [], [], [], 11, [(57, .u)], [], [], 11⟩ := tA1 _ _ (LS.skip rfl rfl rfl (.inr ⟨_, rfl, rfl⟩) rfl rfl)
    have st173 : A1 16 ⟨[(50, .O false)], [], [], [], 11, [(58, .u)], [], [], 11⟩ := tA1 _ _ (LS.skip rfl rfl rfl (.inr ⟨_, rfl, rfl⟩) rfl rfl)
    have st174 : A1 17 ⟨[(50, .O false)], [], [], [], 11, [(59, .u)], [], [], 11⟩ := tA1 _ _ (LS.skip rfl rfl rfl (.inr ⟨_, rfl, rfl⟩) rfl rfl)
    have st175 : A1 18 ⟨[(50, .O false), (59, .u)], [], [], [], 11, [(60, .O false)], [], [], 11⟩ := tA1 _ _ (LS.sil htt rfl rfl rfl rfl rfl rfl)
    have st176 : A1 19 ⟨[(60, .O false)], [], [], [], 11, [(61, .O false)], [], [], 11⟩ := tA1 _ _ (LS.sil htt rfl rfl rfl rfl rfl rfl)
    have st177 : A1 20 ⟨[(61, .O false)], [], [], [], 11, [(62, .u)], [], [], 11⟩ := tA1 _ _ (LS.skip rfl rfl rfl (.inr ⟨_, rfl, rfl⟩) rfl rfl)
    have st178 : A1 21 ⟨[(61, .O false)], [], [], [], 11, [(63, .u)], [], [], 11⟩ := tA1 _ _ (LS.skip rfl rfl rfl (.inr ⟨_, rfl, rfl⟩) rfl rfl)
    have st179 : A1 22 ⟨[(61, .O false)], [], [], [], 11, [(64, .u)], [], [], 11⟩ := tA1 _ _ (LS.skip rfl rfl rfl (.inr ⟨_, rfl, rfl⟩) rfl rfl)
    have st180 : A1 23 ⟨[(61, .O false)], [], [], [], 11, [(65, .u)], [], [], 11⟩ := tA1 _ _ (LS.skip rfl rfl rfl (.inr ⟨_, rfl, rfl⟩) rfl rfl)
    have st181 : A1 24 ⟨[(61, .O false)], [], [], [], 11, [(66, .u)], [], [], 11⟩ := tA1 _ _ (LS.skip rfl rfl rfl (.inr ⟨_, rfl, rfl⟩) rfl rfl)
    have st182 : A1 25 ⟨[(61, .O false)], [], [], [], 11, [(67, .u)], [], [], 11⟩ := tA1 _ _ (LS.skip rfl rfl rfl (.inr ⟨_, rfl, rfl⟩) rfl rfl)
    have st183 : A1 26 ⟨[(61, .O false)], [], [], [], 11, [(68, .u)], [], [], 11⟩ := tA1 _ _ (LS.skip rfl rfl rfl (.inr ⟨_, rfl, rfl⟩) rfl rfl)
    have st184 : A1 27 ⟨[(61, .O false)], [], [], [], 11, [(69, .u)], [], [], 11⟩ := tA1 _ _ (LS.skip rfl rfl rfl (.inr ⟨_, rfl, rfl⟩) rfl rfl)
    have st185 : A1 28 ⟨[(61, .O false)], [], [], [], 11, [(70, .u)], [], [], 11⟩ := tA1 _ _ (LS.skip rfl rfl rfl (.inr ⟨_, rfl, rfl⟩) rfl rfl)
    have st186 : A1 29 ⟨[(61, .O false), (70, .u)], [], [], [], 11, [(71, .O false)], [], [], 11⟩ := tA1 _ _ (LS.sil htt rfl rfl rfl rfl rfl rfl)
    have st187 : A1 30 ⟨[(71, .O false)], [], [], [], 11, [(72, .O false)], [], [], 11⟩ := tA1 _ _ (LS.sil htt rfl rfl rfl rfl rfl rfl)
    have st188 : A1 31 ⟨[(72, .O false)], [], [], [], 11, [(73, .u)], [], [], 11⟩ := tA1 _ _ (LS.skip rfl rfl rfl (.inr ⟨_, rfl, rfl⟩) rfl rfl)
    have st189 : A1 32 ⟨[(72, .O false)], [], [], [], 11, [(74, .u)], [], [], 11⟩ := tA1 _ _ (LS.skip rfl rfl rfl (.inr ⟨_, rfl, rfl⟩) rfl rfl)
    have st190 : A1 33 ⟨[(72, .O false)], [], [], [], 11, [(75, .u)], [], [], 11⟩ := tA1 _ _ (LS.skip rfl rfl rfl (.inr ⟨_, rfl, rfl⟩) rfl rfl)
    have st191 : A1 34 ⟨[(72, .O false)], [], [], [], 11, [(76, .u)], [], [], 11⟩ := tA1 _ _ (LS.skip rfl rfl rfl (.inr ⟨_, rfl, rfl⟩) rfl rfl)
    have st192 : A1 35 ⟨[(72, .O false)], [], [], [], 11, [(77, .u)], [], [], 11⟩ := tA1 _ _ (LS.skip rfl rfl rfl (.inr ⟨_, rfl, rfl⟩) rfl rfl)
    have st193 : A1 36 ⟨[(72, .O false)], [], [], [], 11, [(78, .u)], [], [], 11⟩ := tA1 _ _ (LS.skip rfl rfl rfl (.inr ⟨_, rfl, rfl⟩) rfl rfl)
    have st194 : A1 37 ⟨[(72, .O false)], [], [], [], 11, [(79, .u)], [], [], 11⟩ := tA1 _ _ (LS.skip rfl rfl rfl (.inr ⟨_, rfl, rfl⟩) rfl rfl)
    have st195 : A1 38 ⟨[(72, .O false)], [], [], [], 11, [(80, .u)], [], [], 11⟩ := tA1 _ _ (LS.skip rfl rfl rfl (.inr ⟨_, rfl, rfl⟩) rfl rfl)
    have st196 : A1 39 ⟨[(72, .O false)], [], [], [], 11, [(81, .u)], [], [], 11⟩ := tA1 _ _ (LS.skip rfl rfl rfl (.inr ⟨_, rfl, rfl⟩) rfl rfl)
    have st197 : A1 40 ⟨[(72, .O false), (81, .u)], [], [], [], 11, [(82, .O false)], [], [], 11⟩ := tA1 _ _ (LS.sil htt rfl rfl rfl rfl rfl rfl)
    have st198 : A1 41 ⟨[(82, .O false)], [], [], [], 11, [(83, .O false)], [], [], 11⟩ := tA1 _ _ (LS.sil htt rfl rfl rfl rfl rfl rfl)
    have st199 : A1 42 ⟨[(83, .O false)], [], [], [], 11, [(84, .u)], [], [], 11⟩ := tA1 _ _ (LS.skip rfl rfl rfl (.inr ⟨_, rfl, rfl⟩) rfl rfl)
    have st200 : A1 43 ⟨[(83, .O false)], [], [], [], 11, [(85, .u)], [], [], 11⟩ := tA1 _ _ (LS.skip rfl rfl rfl (.inr ⟨_, rfl, rfl⟩) rfl rfl)
    have st201 : A1 44 ⟨[(83, .O false)], [], [], [], 11, [(86, .u)], [], [], 11⟩ := tA1 _ _ (LS.skip rfl rfl rfl (.inr ⟨_, rfl, rfl⟩) rfl rfl)
    have st202 : A1 45 ⟨[(83, .O false)], [], [], [], 11, [(87, .u)], [], [], 11⟩ := tA1 _ _ (LS.skip rfl rfl rfl (.inr ⟨_, rfl, rfl⟩) rfl rfl)
    have st203 : A1 46 ⟨[(83, .O false)], [], [], [], 11, [(88, .u)], [], [], 11⟩ := tA1 _ _ (LS.skip rfl rfl rfl (.inr ⟨_, rfl, rfl⟩) rfl rfl)
    have st204 : A1 47 ⟨[(83, .O false)], [], [], [], 11, [(89, .u)], [], [], 11⟩ := tA1 _ _ (LS.skip rfl rfl rfl (.inr ⟨_, rfl, rfl⟩) rfl rfl)
    have st205 : A1 48 ⟨[(83, .O false)], [], [], [], 11, [(90, .u)], [], [], 11⟩ := tA1 _ _ (LS.skip rfl rfl rfl (.inr ⟨_, rfl, rfl⟩) rfl rfl)
    have st206 : A1 49 ⟨[(83, .O false), (90, .u)], [], [], [], 11, [(91, .O false)], [], [], 11⟩ := tA1 _ _ (LS.sil htt rfl rfl rfl rfl rfl rfl)
    have st207 : A1 50 ⟨[(91, .O false)], [], [], [], 11, [(92, .O false)], [], [], 11⟩ := tA1 _ _ (LS.sil htt rfl rfl rfl rfl rfl rfl)
    have st208 : A1 51 ⟨[(92, .O false)], [], [], [], 11, [(93, .u)], [], [], 11⟩ := tA1 _ _ (LS.skip rfl rfl rfl (.inr ⟨_, rfl, rfl⟩) rfl rfl)
    have st209 : A1 52 ⟨[(92, .O false)], [], [], [], 11, [(94, .u)], [], [], 11⟩ := tA1 _ _ (LS.skip rfl rfl rfl (.inr ⟨_, rfl, rfl⟩) rfl rfl)
    have st210 : A1 53 ⟨[(92, .O false)], [], [], [], 11, [(95, .u)], [], [], 11⟩ := tA1 _ _ (LS.skip rfl rfl rfl (.inr ⟨_, rfl, rfl⟩) rfl rfl)
    have st211 : A1 54 ⟨[(92, .O false), (95, .u)], [], [], [], 11, [(96, .O false)], [], [], 11⟩ := tA1 _ _ (LS.sil htt rfl rfl rfl rfl rfl rfl)
    have st212 : A1 55 ⟨[(96, .O false)], [], [], [], 11, [(6, .O false)], [], [], 11⟩ := tA1 _ _ (LS.sil htt rfl rfl rfl rfl rfl rfl)
    refine WP.regionD (t := ⟨[(6, .O false)], [], (v_api_Global 0 1 2 3 g_ (v_api_Global 4 5 6 7 other_ [])), 11⟩) [0, 0, 3, 7, 15, 15, 63, 127, 255, 511, 511, 1535, 4095, 511, 511, 16895, 65535, 131071, 262143, 524287, 1048575, 1048575, 3145727, 8388607, 1048575, 1048575, 34603007, 134217727, 268435455, 536870911, 1073741823, 2147483647, 2147483647, 6442450943, 17179869183, 2147483647, 2147483647, 70866960383, 274877906943, 549755813887, 1099511627775, 2199023255551, 4398046511103, 4398046511103, 17592186044415, 4398046511103, 4398046511103, 140737488355327, 281474976710655, 562949953421311, 1125899906842623, 2251799813685247, 2251799813685247, 9007199254740991, 18014398509481983, 36028797018963967] (.cons (fA1 _ _ st9) (.cons (fA1 _ _ st10) (.cons (fA1 _ _ st11) (.cons (fA1 _ _ st13) (.cons (fA1 _ _ st14) (.cons (fA1 _ _ st15) (.cons (fA1 _ _ st16) (.cons (fA1 _ _ st17) (.cons (fA1 _ _ st165) (.cons (fA1 _ _ st166) (.cons (fA1 _ _ st167) (.cons (fA1 _ _ st168) (.cons (fA1 _ _ st169) (.cons (fA1 _ _ st170) (.cons (fA1 _ _ st171) (.cons (fA1 _ _ st172) (.cons (fA1 _ _ st173) (.cons (fA1 _ _ st174) (.cons (fA1 _ _ st175) (.cons (fA1 _ _ st176) (.cons (fA1 _ _ st177) (.cons (fA1 _ _ st178) (.cons (fA1 _ _ st179) (.cons (fA1 _ _ st180) (.cons (fA1 _ _ st181) (.cons (fA1 _ _ st182) (.cons (fA1 _ _ st183) (.cons (fA1 _ _ st184) (.cons (fA1 _ _ st185) (.cons (fA1 _ _ st186) (.cons (fA1 _ _ st187) (.cons (fA1 _ _ st188) (.cons (fA1 _ _ st189) (.cons (fA1 _ _ st190) (.cons (fA1 _ _ st191) (.cons (fA1 _ _ st192) (.cons (fA1 _ _ st193) (.cons (fA1 _ _ st194) (.cons (fA1 _ _ st195) (.cons (fA1 _ _ st196) (.cons (fA1 _ _ st197) (.cons (fA1 _ _ st198) (.cons (fA1 _ _ st199) (.cons (fA1 _ _ st200) (.cons (fA1 _ _ st201) (.cons (fA1 _ _ st202) (.cons (fA1 _ _ st203) (.cons (fA1 _ _ st204) (.cons (fA1 _ _ st205) (.cons (fA1 _ _ st206) (.cons (fA1 _ _ st207) (.cons (fA1 _ _ st208) (.cons (fA1 _ _ st209) (.cons (fA1 _ _ st210) (.cons (fA1 _ _ st211) (.cons (fA1 _ _ st212) .nil)))))))))))))))))))))))))))))))))))))))))))))))))))))))) (by kernel_rfl) (by kernel_rfl) (by kernel_rfl) (by kernel_rfl) (?_)
    cases h
    exact WP.ret htt Tryz.func6 [] rfl rfl rfl rfl
  have st19 := tA1 _ _ (LS.kb hc rfl (fA1 _ _ st18))
  have st20 : A1 9 ⟨[(3, .B 8 0), (50, .O true)], (v_api_Global 0 1 2 3 g_ []), [], [(8, .box (c_api_Global 0 1 2 3 g_) 27)], 11, [(51, .a (c_api_Global 0 1 2 3 g_))], [], [], 11⟩ := tA1 _ _ (LS.sil htt rfl rfl rfl rfl rfl rfl)
  have st21 : A1 10 ⟨[(5, .B 10 0), (50, .O true)], [], [], [], 11, [(52, .B 10 0)], [], [], 11⟩ := tA1 _ _ (LS.sil htt rfl rfl rfl rfl rfl rfl)
  have st22 : A1 11 ⟨[(50, .O true), (52, .B 10 0)], [], [], [(10, .box (c_law18_Query q_) 55)], 11, [(53, .I q_.State)], [], [], 11⟩ := tA1 _ _ (LS.sil htt rfl rfl rfl rfl rfl rfl)
  obtain ⟨x23, hx23, h⟩ := ob h
  have st24 : A1 12 ⟨[(50, .O true), (51, .a (c_api_Global 0 1 2 3 g_)), (53, .I q_.State)], (v_api_Global 0 1 2 3 g_ []), [], [], 11, [(54, .S 11)], [], [(11, .own (rI .i64) x23 true)], 12⟩ := tA1 _ _ (LS.of rfl rfl rfl (fun _ _ _ _ _ _ _ k => WPr.call (global_Edges_ct N g_ q_.State _ hx23) [(0, .sl 0), (1, .sl 1), (2, .sl 2), (3, .sl 3)] [] rfl rfl rfl rfl rfl rfl rfl rfl (.inl rfl) rfl (k)) rfl)
  have st25 : A1 13 ⟨[(3, .B 8 0), (50, .O true)], (v_api_Global 0 1 2 3 g_ []), [], [(8, .box (c_api_Global 0 1 2 3 g_) 27)], 12, [(55, .a (c_api_Global 0 1 2 3 g_))], [], [], 12⟩ := tA1 _ _ (LS.sil htt rfl rfl rfl rfl rfl rfl)
  have st26 : A1 14 ⟨[(5, .B 10 0), (50, .O true)], [], [], [], 12, [(56, .B 10 0)], [], [], 12⟩ := tA1 _ _ (LS.sil htt rfl rfl rfl rfl rfl rfl)
  have st27 : A1 15 ⟨[(50, .O true), (56, .B 10 0)], [], [], [(10, .box (c_law18_Query q_) 55)], 12, [(57, .I q_.State)], [], [], 12⟩ := tA1 _ _ (LS.sil htt rfl rfl rfl rfl rfl rfl)
  obtain ⟨x28, hx28, h⟩ := ob h
  have st29 : A1 16 ⟨[(50, .O true), (55, .a (c_api_Global 0 1 2 3 g_)), (57, .I q_.State)], (v_api_Global 0 1 2 3 g_ []), [], [], 12, [(58, .S 12)], [], [(12, .own (rI .i64) x28 true)], 13⟩ := tA1 _ _ (LS.of rfl rfl rfl (fun _ _ _ _ _ _ _ k => WPr.call (ref18_Edges_ct N g_ q_.State _ hx28) [(0, .sl 0), (1, .sl 1), (2, .sl 2), (3, .sl 3)] [] rfl rfl rfl rfl rfl rfl rfl rfl (.inl rfl) rfl (k)) rfl)
  obtain ⟨x30, hx30, h⟩ := ob h
  have st31 : A1 17 ⟨[(50, .O true), (54, .S 11), (58, .S 12)], [], [], [(11, .own (rI .i64) x23 true), (12, .own (rI .i64) x28 true)], 13, [(59, .O x30)], [], [], 13⟩ := tA1 _ _ (LS.of rfl rfl rfl (fun _ _ _ _ _ _ _ k => WPr.call (ref01_SameInts_ct N x23 x28 _ hx30) [(0, .sl 11), (1, .sl 12)] [11, 12] rfl rfl rfl rfl rfl rfl rfl rfl (.inr ⟨rfl, trivial⟩) rfl (k)) rfl)
  have st32 : A1 18 ⟨[(50, .O true), (59, .O x30)], [], [], [], 13, [(60, .O x30)], [], [], 13⟩ := tA1 _ _ (LS.sil htt rfl rfl rfl rfl rfl rfl)
  have st33 : A1 19 ⟨[(60, .O x30)], [], [], [], 13, [(61, .O x30)], [], [], 13⟩ := tA1 _ _ (LS.sil htt rfl rfl rfl rfl rfl rfl)
  rcases oc' h with ⟨hc, h⟩ | ⟨hc, h⟩
  · have st128 := tA1 _ _ (LS.kb hc rfl (fA1 _ _ st33))
    have st129 : A1 20 ⟨[(61, .O false)], [], [], [], 13, [(62, .u)], [], [], 13⟩ := tA1 _ _ (LS.skip rfl rfl rfl (.inr ⟨_, rfl, rfl⟩) rfl rfl)
    have st130 : A1 21 ⟨[(61, .O false)], [], [], [], 13, [(63, .u)], [], [], 13⟩ := tA1 _ _ (LS.skip rfl rfl rfl (.inr ⟨_, rfl, rfl⟩) rfl rfl)
    have st131 : A1 22 ⟨[(61, .O false)], [], [], [], 13, [(64, .u)], [], [], 13⟩ := tA1 _ _ (LS.skip rfl rfl rfl (.inr ⟨_, rfl, rfl⟩) rfl rfl)
    have st132 : A1 23 ⟨[(61, .O false)], [], [], [], 13, [(65, .u)], [], [], 13⟩ := tA1 _ _ (LS.skip rfl rfl rfl (.inr ⟨_, rfl, rfl⟩) rfl rfl)
    have st133 : A1 24 ⟨[(61, .O false)], [], [], [], 13, [(66, .u)], [], [], 13⟩ := tA1 _ _ (LS.skip rfl rfl rfl (.inr ⟨_, rfl, rfl⟩) rfl rfl)
    have st134 : A1 25 ⟨[(61, .O false)], [], [], [], 13, [(67, .u)], [], [], 13⟩ := tA1 _ _ (LS.skip rfl rfl rfl (.inr ⟨_, rfl, rfl⟩) rfl rfl)
    have st135 : A1 26 ⟨[(61, .O false)], [], [], [], 13, [(68, .u)], [], [], 13⟩ := tA1 _ _ (LS.skip rfl rfl rfl (.inr ⟨_, rfl, rfl⟩) rfl rfl)
    have st136 : A1 27 ⟨[(61, .O false)], [], [], [], 13, [(69, .u)], [], [], 13⟩ := tA1 _ _ (LS.skip rfl rfl rfl (.inr ⟨_, rfl, rfl⟩) rfl rfl)
    have st137 : A1 28 ⟨[(61, .O false)], [], [], [], 13, [(70, .u)], [], [], 13⟩ := tA1 _ _ (LS.skip rfl rfl rfl (.inr ⟨_, rfl, rfl⟩) rfl rfl)
    have st138 : A1 29 ⟨[(61, .O false), (70, .u)], [], [], [], 13, [(71, .O false)], [], [], 13⟩ := tA1 _ _ (LS.sil htt rfl rfl rfl rfl rfl rfl)
    have st139 : A1 30 ⟨[(71, .O false)], [], [], [], 13, [(72, .O false)], [], [], 13⟩ := tA1 _ _ (LS.sil htt rfl rfl rfl rfl rfl rfl)
    have st140 : A1 31 ⟨[(72, .O false)], [], [], [], 13, [(73, .u)], [], [], 13⟩ := tA1 _ _ (LS.skip rfl rfl rfl (.inr ⟨_, rfl, rfl⟩) rfl rfl)
    have st141 : A1 32 ⟨[(72, .O false)], [], [], [], 13, [(74, .u)], [], [], 13⟩ := tA1 _ _ (LS.skip rfl rfl rfl (.inr ⟨_, rfl, rfl⟩) rfl rfl)
    have st142 : A1 33 ⟨[(72, .O false)], [], [], [], 13, [(75, .u)], [], [], 13⟩ := tA1 _ _ (LS.skip rfl rfl rfl (.inr ⟨_, rfl, rfl⟩) rfl rfl)
    have st143 : A1 34 ⟨[(72, .O false)], [], [], [], 13, [(76, .u)], [], [], 13⟩ := tA1 _ _ (LS.skip rfl rfl rfl (.inr ⟨_, rfl, rfl⟩) rfl rfl)
    have st144 : A1 35 ⟨[(72, .O false)], [], [], [], 13, [(77, .u)], [], [], 13⟩ := tA1 _ _ (LS.skip rfl rfl rfl (.inr ⟨_, rfl, rfl⟩) rfl rfl)
    have st145 : A1 36 ⟨[(72, .O false)], [], [], [], 13, [(78, .u)], [], [], 13⟩ := tA1 _ _ (LS.skip rfl rfl rfl (.inr ⟨_, rfl, rfl⟩) rfl rfl)
    have st146 : A1 37 ⟨[(72, .O false)], [], [], [], 13, [(79, .u)], [], [], 13⟩ := tA1 _ _ (LS.skip rfl rfl rfl (.inr ⟨_, rfl, rfl⟩) rfl rfl)
    have st147 : A1 38 ⟨[(72, .O false)], [], [], [], 13, [(80, .u)], [], [], 13⟩ := tA1 _ _ (LS.skip rfl rfl rfl (.inr ⟨_, rfl, rfl⟩) rfl rfl)
    have st148 : A1 39 ⟨[(72, .O false)], [], [], [], 13, [(81, .u)], [], [], 13⟩ := tA1 _ _ (LS.skip rfl rfl rfl (.inr ⟨_, rfl, rfl⟩) rfl rfl)
    have st149 : A1 40 ⟨[(72, .O false), (81, .u)], [], [], [], 13, [(82, .O false)], [], [], 13⟩ := tA1 _ _ (LS.sil htt rfl rfl rfl rfl rfl rfl)
    have st150 : A1 41 ⟨[(82, .O false)], [], [], [], 13, [(83, .O false)], [], [], 13⟩ := tA1 _ _ (LS.sil htt rfl rfl rfl rfl rfl rfl)
    have st151 : A1 42 ⟨[(83, .O false)], [], [], [], 13, [(84, .u)], [], [], 13⟩ := tA1 _ _ (LS.skip rfl rfl rfl (.inr ⟨_, rfl, rfl⟩) rfl rfl)
    have st152 : A1 43 ⟨[(83, .O false)], [], [], [], 13, [(85, .u)], [], [], 13⟩ := tA1 _ _ (LS.skip rfl rfl rfl (.inr ⟨_, rfl, rfl⟩) rfl rfl)
    have st153 : A1 44 ⟨[(83, .O false)], [], [], [], 13, [(86, .u)], [], [], 13⟩ := tA1 _ _ (LS.skip rfl rfl rfl (.inr ⟨_, rfl, rfl⟩) rfl rfl)
    have st154 : A1 45 ⟨[(83, .O false)], [], [], [], 13, [(87, .u)], [], [], 13⟩ := tA1 _ _ (LS.skip rfl rfl rfl (.inr ⟨_, rfl, rfl⟩) rfl rfl)
    have st155 : A1 46 ⟨[(83, .O false)], [], [], [], 13, [(88, .u)], [], [], 13⟩ := tA1 _ _ (LS.skip rfl rfl rfl (.inr ⟨_, rfl, rfl⟩) rfl rfl)
    have st156 : A1 47 ⟨[(83, .O false)], [], [], [], 13, [(89, .u)], [], [], 13⟩ := tA1 _ _ (LS.skip rfl rfl rfl (.inr ⟨_, rfl, rfl⟩) rfl rfl)
    have st157 : A1 48 ⟨[(83, .O false)], [], [], [], 13, [(90, .u)], [], [], 13⟩ := tA1 _ _ (LS.skip rfl rfl rfl (.inr ⟨_, rfl, rfl⟩) rfl rfl)
    have st158 : A1 49 ⟨[(83, .O false), (90, .u)], [], [], [], 13, [(91, .O false)], [], [], 13⟩ := tA1 _ _ (LS.sil htt rfl rfl rfl rfl rfl rfl)
    have st159 : A1 50 ⟨[(91, .O false)], [], [], [], 13, [(92, .O false)], [], [], 13⟩ := tA1 _ _ (LS.sil htt rfl rfl rfl rfl rfl rfl)
    have st160 : A1 51 ⟨[(92, .O false)], [], [], [], 13, [(93, .u)], [], [], 13⟩ := tA1 _ _ (LS.skip rfl rfl rfl (.inr ⟨_, rfl, rfl⟩) rfl rfl)
    have st161 : A1 52 ⟨[(92, .O false)], [], [], [], 13, [(94, .u)], [], [], 13⟩ := tA1 _ _ (LS.skip rfl rfl rfl (.inr ⟨_, rfl, rfl⟩) rfl rfl)
    have st162 : A1 53 ⟨[(92, .O false)], [], [], [], 13, [(95, .u)], [], [], 13⟩ := tA1 _ _ (LS.skip rfl rfl rfl (.inr ⟨_, rfl, rfl⟩) rfl rfl)
    have st163 : A1 54 ⟨[(92, .O false), (95, .u)], [], [], [], 13, [(96, .O false)], [], [], 13⟩ := tA1 _ _ (LS.sil htt rfl rfl rfl rfl rfl rfl)
    have st164 : A1 55 ⟨[(96, .O false)], [], [], [], 13, [(6, .O false)], [], [], 13⟩ := tA1 _ _ (LS.sil htt rfl rfl rfl rfl rfl rfl)
    refine WP.regionD (t := ⟨[(6, .O false)], [], (v_api_Global 0 1 2 3 g_ (v_api_Global 4 5 6 7 other_ [])), 13⟩) [0, 0, 3, 7, 15, 15, 63, 127, 255, 511, 511, 1535, 4095, 511, 511, 16895, 65535, 131071, 262143, 524287, 1048575, 1048575, 3145727, 8388607, 1048575, 1048575, 34603007, 134217727, 268435455, 536870911, 1073741823, 2147483647, 2147483647, 6442450943, 17179869183, 2147483647, 2147483647, 70866960383, 274877906943, 549755813887, 1099511627775, 2199023255551, 4398046511103, 4398046511103, 17592186044415, 4398046511103, 4398046511103, 140737488355327, 281474976710655, 562949953421311, 1125899906842623, 2251799813685247, 2251799813685247, 9007199254740991, 18014398509481983, 36028797018963967] (.cons (fA1 _ _ st9) (.cons (fA1 _ _ st10) (.cons (fA1 _ _ st11) (.cons (fA1 _ _ st13) (.cons (fA1 _ _ st14) (.cons (fA1 _ _ st15) (.cons (fA1 _ _ st16) (.cons (fA1 _ _ st17) (.cons (fA1 _ _ st19) (.cons (fA1 _ _ st20) (.cons (fA1 _ _ st21) (.cons (fA1 _ _ st22) (.cons (fA1 _ _ st24) (.cons (fA1 _ _ st25) (.cons (fA1 _ _ st26) (.cons (fA1 _ _ st27) (.cons (fA1 _ _ st29) (.cons (fA1 _ _ st31) (.cons (fA1 _ _ st32) (.cons (fA1 _ _ st128) (.cons (fA1 _ _ st129) (.cons (fA1 _ _ st130) (.cons (fA1 _ _ st131) (.cons (fA1 _ _ st132) (.cons (fA1 _ _ st133) (.cons (fA1 _ _ st134) (.cons (fA1 _ _ st135) (.cons (fA1 _ _ st136) (.cons (fA1 _ _ st137) (.cons (fA1 _ _ st138) (.cons (fA1 _ _ st139) (.cons (fA1 _ _ st140) (.cons (fA1 _ _ st141) (.cons (fA1 _ _ st142) (.cons (fA1 _ _ st143) (.cons (fA1 _ _ st144) (.cons (fA1 _ _ st145) (.cons (fA1 _ _ st146) (.cons (fA1 _ _ st147) (.cons (fA1 _ _ st148) (.cons (fA1 _ _ st149) (.cons (fA1 _ _ st150) (.cons (fA1 _ _ st151) (.cons (fA1 _ _ st152) (.cons (fA1 _ _ st153) (.cons (fA1 _ _ st154) (.cons (fA1 _ _ st155) (.cons (fA1 _ _ st156) (.cons (fA1 _ _ st157) (.cons (fA1 _ _ st158) (.cons (fA1 _ _ st159) (.cons (fA1 _ _ st160) (.cons (fA1 _ _ st161) (.cons (fA1 _ _ st162) (.cons (fA1 _ _ st163) (.cons (fA1 _ _ st164) .nil)))))))))))))))))))))))))))))))))))))))))))))))))))))))) (by kernel_rfl) (by kernel_rfl) (by kernel_rfl) (by kernel_rfl) (?_)
    cases h
    exact WP.ret htt Tryz.func6 [] rfl rfl rfl rfl
  have st34 := tA1 _ _ (LS.kb hc rfl (fA1 _ _ st33))
  have st35 : A1 20 ⟨[(3, .B 8 0), (61, .O true)], (v_api_Global 0 1 2 3 g_ []), [], [(8, .box (c_api_Global 0 1 2 3 g_) 27)], 13, [(62, .a (c_api_Global 0 1 2 3 g_))], [], [], 13⟩ := tA1 _ _ (LS.sil htt rfl rfl rfl rfl rfl rfl)
  have st36 : A1 21 ⟨[(5, .B 10 0), (61, .O true)], [], [], [], 13, [(63, .B 10 4)], [], [], 13⟩ := tA1 _ _ (LS.sil htt rfl rfl rfl rfl rfl rfl)
  have st37 : A1 22 ⟨[(61, .O true), (63, .B 10 4)], [], [], [(10, .box (c_law18_Query q_) 55)], 13, [(64, .c (.s q_.Name))], [], [], 13⟩ := tA1 _ _ (LS.sil htt rfl rfl rfl rfl rfl rfl)
  obtain ⟨x38, hx38, h⟩ := ob h
  have st39 : A1 23 ⟨[(61, .O true), (62, .a (c_api_Global 0 1 2 3 g_)), (64, .c (.s q_.Name))], (v_api_Global 0 1 2 3 g_ []), [], [], 13, [(65, .I x38)], [], [], 13⟩ := tA1 _ _ (LS.of rfl rfl rfl (fun _ _ _ _ _ _ _ k => WPr.call (global_Role_ct N g_ q_.Name _ hx38) [(0, .sl 0), (1, .sl 1), (2, .sl 2), (3, .sl 3)] [] rfl rfl rfl rfl rfl rfl rfl rfl (.inl rfl) rfl (k)) rfl)
  have st40 : A1 24 ⟨[(3, .B 8 0), (61, .O true)], (v_api_Global 0 1 2 3 g_ []), [], [(8, .box (c_api_Global 0 1 2 3 g_) 27)], 13, [(66, .a (c_api_Global 0 1 2 3 g_))], [], [], 13⟩ := tA1 _ _ (LS.sil htt rfl rfl rfl rfl rfl rfl)
  have st41 : A1 25 ⟨[(5, .B 10 0), (61, .O true)], [], [], [], 13, [(67, .B 10 4)], [], [], 13⟩ := tA1 _ _ (LS.sil htt rfl rfl rfl rfl rfl rfl)
  have st42 : A1 26 ⟨[(61, .O true), (67, .B 10 4)], [], [], [(10, .box (c_law18_Query q_) 55)], 13, [(68, .c (.s q_.Name))], [], [], 13⟩ := tA1 _ _ (LS.sil htt rfl rfl rfl rfl rfl rfl)
  obtain ⟨x43, hx43, h⟩ := ob h
  have st44 : A1 27 ⟨[(61, .O true), (66, .a (c_api_Global 0 1 2 3 g_)), (68, .c (.s q_.Name))], (v_api_Global 0 1 2 3 g_ []), [], [], 13, [(69, .I x43)], [], [], 13⟩ := tA1 _ _ (LS.of rfl rfl rfl (fun _ _ _ _ _ _ _ k => WPr.call (ref18_Role_ct N g_ q_.Name _ hx43) [(0, .sl 0), (1, .sl 1), (2, .sl 2), (3, .sl 3)] [] rfl rfl rfl rfl rfl rfl rfl rfl (.inl rfl) rfl (k)) rfl)
  have st45 : A1 28 ⟨[(61, .O true), (65, .I x38), (69, .I x43)], [], [], [], 13, [(70, .O (x38 == x43))], [], [], 13⟩ := tA1 _ _ (LS.sil htt rfl rfl rfl rfl rfl rfl)
  have st46 : A1 29 ⟨[(61, .O true), (70, .O (x38 == x43))], [], [], [], 13, [(71, .O (x38 == x43))], [], [], 13⟩ := tA1 _ _ (LS.sil htt rfl rfl rfl rfl rfl rfl)
  have st47 : A1 30 ⟨[(71, .O (x38 == x43))], [], [], [], 13, [(72, .O (x38 == x43))], [], [], 13⟩ := tA1 _ _ (LS.sil htt rfl rfl rfl rfl rfl rfl)
  rcases oc' h with ⟨hc, h⟩ | ⟨hc, h⟩
  · have st102 := tA1 _ _ (LS.kb hc rfl (fA1 _ _ st47))
    have st103 : A1 31 ⟨[(72, .O false)], [], [], [], 13, [(73, .u)], [], [], 13⟩ := tA1 _ _ (LS.skip rfl rfl rfl (.inr ⟨_, rfl, rfl⟩) rfl rfl)
    have st104 : A1 32 ⟨[(72, .O false)], [], [], [], 13, [(74, .u)], [], [], 13⟩ := tA1 _ _ (LS.skip rfl rfl rfl (.inr ⟨_, rfl, rfl⟩) rfl rfl)
    have st105 : A1 33 ⟨[(72, .O false)], [], [], [], 13, [(75, .u)], [], [], 13⟩ := tA1 _ _ (LS.skip rfl rfl rfl (.inr ⟨_, rfl, rfl⟩) rfl rfl)
    have st106 : A1 34 ⟨[(72, .O false)], [], [], [], 13, [(76, .u)], [], [], 13⟩ := tA1 _ _ (LS.skip rfl rfl rfl (.inr ⟨_, rfl, rfl⟩) rfl rfl)
    have st107 : A1 35 ⟨[(72, .O false)], [], [], [], 13, [(77, .u)], [], [], 13⟩ := tA1 _ _ (LS.skip rfl rfl rfl (.inr ⟨_, rfl, rfl⟩) rfl rfl)
    have st108 : A1 36 ⟨[(72, .O false)], [], [], [], 13, [(78, .u)], [], [], 13⟩ := tA1 _ _ (LS.skip rfl rfl rfl (.inr ⟨_, rfl, rfl⟩) rfl rfl)
    have st109 : A1 37 ⟨[(72, .O false)], [], [], [], 13, [(79, .u)], [], [], 13⟩ := tA1 _ _ (LS.skip rfl rfl rfl (.inr ⟨_, rfl, rfl⟩) rfl rfl)
    have st110 : A1 38 ⟨[(72, .O false)], [], [], [], 13, [(80, .u)], [], [], 13⟩ := tA1 _ _ (LS.skip rfl rfl rfl (.inr ⟨_, rfl, rfl⟩) rfl rfl)
    have st111 : A1 39 ⟨[(72, .O false)], [], [], [], 13, [(81, .u)], [], [], 13⟩ := tA1 _ _ (LS.skip rfl rfl rfl (.inr ⟨_, rfl, rfl⟩) rfl rfl)
    have st112 : A1 40 ⟨[(72, .O false), (81, .u)], [], [], [], 13, [(82, .O false)], [], [], 13⟩ := tA1 _ _ (LS.sil htt rfl rfl rfl rfl rfl rfl)
    have st113 : A1 41 ⟨[(82, .O false)], [], [], [], 13, [(83, .O false)], [], [], 13⟩ := tA1 _ _ (LS.sil htt rfl rfl rfl rfl rfl rfl)
    have st114 : A1 42 ⟨[(83, .O false)], [], [], [], 13, [(84, .u)], [], [], 13⟩ := tA1 _ _ (LS.skip rfl rfl rfl (.inr ⟨_, rfl, rfl⟩) rfl rfl)
    have st115 : A1 43 ⟨[(83, .O false)], [], [], [], 13, [(85, .u)], [], [], 13⟩ := tA1 _ _ (LS.skip rfl rfl rfl (.inr ⟨_, rfl, rfl⟩) rfl rfl)
    have st116 : A1 44 ⟨[(83, .O false)], [], [], [], 13, [(86, .u)], [], [], 13⟩ := tA1 _ _ (LS.skip rfl rfl rfl (.inr ⟨_, rfl, rfl⟩) rfl rfl)
    have st117 : A1 45 ⟨[(83, .O false)], [], [], [], 13, [(87, .u)], [], [], 13⟩ := tA1 _ _ (LS.skip rfl rfl rfl (.inr ⟨_, rfl, rfl⟩) rfl rfl)
    have st118 : A1 46 ⟨[(83, .O false)], [], [], [], 13, [(88, .u)], [], [], 13⟩ := tA1 _ _ (LS.skip rfl rfl rfl (.inr ⟨_, rfl, rfl⟩) rfl rfl)
    have st119 : A1 47 ⟨[(83, .O false)], [], [], [], 13, [(89, .u)], [], [], 13⟩ := tA1 _ _ (LS.skip rfl rfl rfl (.inr ⟨_, rfl, rfl⟩) rfl rfl)
    have st120 : A1 48 ⟨[(83, .O false)], [], [], [], 13, [(90, .u)], [], [], 13⟩ := tA1 _ _ (LS.skip rfl rfl rfl (.inr ⟨_, rfl, rfl⟩) rfl rfl)
    have st121 : A1 49 ⟨[(83, .O false), (90, .u)], [], [], [], 13, [(91, .O false)], [], [], 13⟩ := tA1 _ _ (LS.sil htt rfl rfl rfl rfl rfl rfl)
    have st122 : A1 50 ⟨[(91, .O false)], [], [], [], 13, [(92, .O false)], [], [], 13⟩ := tA1 _ _ (LS.sil htt rfl rfl rfl rfl rfl rfl)
    have st123 : A1 51 ⟨[(92, .O false)], [], [], [], 13, [(93, .u)], [], [], 13⟩ := tA1 _ _ (LS.skip rfl rfl rfl (.inr ⟨_, rfl, rfl⟩) rfl rfl)
    have st124 : A1 52 ⟨[(92, .O false)], [], [], [], 13, [(94, .u)], [], [], 13⟩ := tA1 _ _ (LS.skip rfl rfl rfl (.inr ⟨_, rfl, rfl⟩) rfl rfl)
    have st125 : A1 53 ⟨[(92, .O false)], [], [], [], 13, [(95, .u)], [], [], 13⟩ := tA1 _ _ (LS.skip rfl rfl rfl (.inr ⟨_, rfl, rfl⟩) rfl rfl)
    have st126 : A1 54 ⟨[(92, .O false), (95, .u)], [], [], [], 13, [(96, .O false)], [], [], 13⟩ := tA1 _ _ (LS.sil htt rfl rfl rfl rfl rfl rfl)
    have st127 : A1 55 ⟨[(96, .O false)], [], [], [], 13, [(6, .O false)], [], [], 13⟩ := tA1 _ _ (LS.sil htt rfl rfl rfl rfl rfl rfl)
    refine WP.regionD (t := ⟨[(6, .O false)], [], (v_api_Global 0 1 2 3 g_ (v_api_Global 4 5 6 7 other_ [])), 13⟩) [0, 0, 3, 7, 15, 15, 63, 127, 255, 511, 511, 1535, 4095, 511, 511, 16895, 65535, 131071, 262143, 524287, 1048575, 1048575, 3145727, 8388607, 1048575, 1048575, 34603007, 134217727, 268435455, 536870911, 1073741823, 2147483647, 2147483647, 6442450943, 17179869183, 2147483647, 2147483647, 70866960383, 274877906943, 549755813887, 1099511627775, 2199023255551, 4398046511103, 4398046511103, 17592186044415, 4398046511103, 4398046511103, 140737488355327, 281474976710655, 562949953421311, 1125899906842623, 2251799813685247, 2251799813685247, 9007199254740991, 18014398509481983, 36028797018963967] (.cons (fA1 _ _ st9) (.cons (fA1 _ _ st10) (.cons (fA1 _ _ st11) (.cons (fA1 _ _ st13) (.cons (fA1 _ _ st14) (.cons (fA1 _ _ st15) (.cons (fA1 _ _ st16) (.cons (fA1 _ _ st17) (.cons (fA1 _ _ st19) (.cons (fA1 _ _ st20) (.cons (fA1 _ _ st21) (.cons (fA1 _ _ st22) (.cons (fA1 _ _ st24) (.cons (fA1 _ _ st25) (.cons (fA1 _ _ st26) (.cons (fA1 _ _ st27) (.cons (fA1 _ _ st29) (.cons (fA1 _ _ st31) (.cons (fA1 _ _ st32) (.cons (fA1 _ _ st34) (.cons (fA1 _ _ st35) (.cons (fA1 _ _ st36) (.cons (fA1 _ _ st37) (.cons (fA1 _ _ st39) (.cons (fA1 _ _ st40) (.cons (fA1 _ _ st41) (.cons (fA1 _ _ st42) (.cons (fA1 _ _ st44) (.cons (fA1 _ _ st45) (.cons (fA1 _ _ st46) (.cons (fA1 _ _ st102) (.cons (fA1 _ _ st103) (.cons (fA1 _ _ st104) (.cons (fA1 _ _ st105) (.cons (fA1 _ _ st106) (.cons (fA1 _ _ st107) (.cons (fA1 _ _ st108) (.cons (fA1 _ _ st109) (.cons (fA1 _ _ st110) (.cons (fA1 _ _ st111) (.cons (fA1 _ _ st112) (.cons (fA1 _ _ st113) (.cons (fA1 _ _ st114) (.cons (fA1 _ _ st115) (.cons (fA1 _ _ st116) (.cons (fA1 _ _ st117) (.cons (fA1 _ _ st118) (.cons (fA1 _ _ st119) (.cons (fA1 _ _ st120) (.cons (fA1 _ _ st121) (.cons (fA1 _ _ st122) (.cons (fA1 _ _ st123) (.cons (fA1 _ _ st124) (.cons (fA1 _ _ st125) (.cons (fA1 _ _ st126) (.cons (fA1 _ _ st127) .nil)))))))))))))))))))))))))))))))))))))))))))))))))))))))) (by kernel_rfl) (by kernel_rfl) (by kernel_rfl) (by kernel_rfl) (?_)
    cases h
    exact WP.ret htt Tryz.func6 [] rfl rfl rfl rfl
  have st48 := tA1 _ _ (LS.kb hc rfl (fA1 _ _ st47))
  have st49 : A1 31 ⟨[(3, .B 8 0), (72, .O true)], (v_api_Global 0 1 2 3 g_ []), [], [(8, .box (c_api_Global 0 1 2 3 g_) 27)], 13, [(73, .a (c_api_Global 0 1 2 3 g_))], [], [], 13⟩ := tA1 _ _ (LS.sil htt rfl rfl rfl rfl rfl rfl)
  have st50 : A1 32 ⟨[(5, .B 10 0), (72, .O true)], [], [], [], 13, [(74, .B 10 4)], [], [], 13⟩ := tA1 _ _ (LS.sil htt rfl rfl rfl rfl rfl rfl)
  have st51 : A1 33 ⟨[(72, .O true), (74, .B 10 4)], [], [], [(10, .box (c_law18_Query q_) 55)], 13, [(75, .c (.s q_.Name))], [], [], 13⟩ := tA1 _ _ (LS.sil htt rfl rfl rfl rfl rfl rfl)
  obtain ⟨x52, hx52, h⟩ := ob h
  have st53 : A1 34 ⟨[(72, .O true), (73, .a (c_api_Global 0 1 2 3 g_)), (75, .c (.s q_.Name))], (v_api_Global 0 1 2 3 g_ []), [], [], 13, [(76, .I x52)], [], [], 13⟩ := tA1 _ _ (LS.of rfl rfl rfl (fun _ _ _ _ _ _ _ k => WPr.call (global_Label_ct N g_ q_.Name _ hx52) [(0, .sl 0), (1, .sl 1), (2, .sl 2), (3, .sl 3)] [] rfl rfl rfl rfl rfl rfl rfl rfl (.inl rfl) rfl (k)) rfl)
  have st54 : A1 35 ⟨[(3, .B 8 0), (72, .O true)], (v_api_Global 0 1 2 3 g_ []), [], [(8, .box (c_api_Global 0 1 2 3 g_) 27)], 13, [(77, .a (c_api_Global 0 1 2 3 g_))], [], [], 13⟩ := tA1 _ _ (LS.sil htt rfl rfl rfl rfl rfl rfl)
  have st55 : A1 36 ⟨[(5, .B 10 0), (72, .O true)], [], [], [], 13, [(78, .B 10 4)], [], [], 13⟩ := tA1 _ _ (LS.sil htt rfl rfl rfl rfl rfl rfl)
  have st56 : A1 37 ⟨[(72, .O true), (78, .B 10 4)], [], [], [(10, .box (c_law18_Query q_) 55)], 13, [(79, .c (.s q_.Name))], [], [], 13⟩ := tA1 _ _ (LS.sil htt rfl rfl rfl rfl rfl rfl)
  obtain ⟨x57, hx57, h⟩ := ob h
  have st58 : A1 38 ⟨[(72, .O true), (77, .a (c_api_Global 0 1 2 3 g_)), (79, .c (.s q_.Name))], (v_api_Global 0 1 2 3 g_ []), [], [], 13, [(80, .I x57)], [], [], 13⟩ := tA1 _ _ (LS.of rfl rfl rfl (fun _ _ _ _ _ _ _ k => WPr.call (ref18_Label_ct N g_ q_.Name _ hx57) [(0, .sl 0), (1, .sl 1), (2, .sl 2), (3, .sl 3)] [] rfl rfl rfl rfl rfl rfl rfl rfl (.inl rfl) rfl (k)) rfl)
  have st59 : A1 39 ⟨[(72, .O true), (76, .I x52), (80, .I x57)], [], [], [], 13, [(81, .O (x52 == x57))], [], [], 13⟩ := tA1 _ _ (LS.sil htt rfl rfl rfl rfl rfl rfl)
  have st60 : A1 40 ⟨[(72, .O true), (81, .O (x52 == x57))], [], [], [], 13, [(82, .O (x52 == x57))], [], [], 13⟩ := tA1 _ _ (LS.sil htt rfl rfl rfl rfl rfl rfl)
  have st61 : A1 41 ⟨[(82, .O (x52 == x57))], [], [], [], 13, [(83, .O (x52 == x57))], [], [], 13⟩ := tA1 _ _ (LS.sil htt rfl rfl rfl rfl rfl rfl)
  rcases oc' h with ⟨hc, h⟩ | ⟨hc, h⟩
  · have st87 := tA1 _ _ (LS.kb hc rfl (fA1 _ _ st61))
    have st88 : A1 42 ⟨[(83, .O false)], [], [], [], 13, [(84, .u)], [], [], 13⟩ := tA1 _ _ (LS.skip rfl rfl rfl (.inr ⟨_, rfl, rfl⟩) rfl rfl)
    have st89 : A1 43 ⟨[(83, .O false)], [], [], [], 13, [(85, .u)], [], [], 13⟩ := tA1 _ _ (LS.skip rfl rfl rfl (.inr ⟨_, rfl, rfl⟩) rfl rfl)
    have st90 : A1 44 ⟨[(83, .O false)], [], [], [], 13, [(86, .u)], [], [], 13⟩ := tA1 _ _ (LS.skip rfl rfl rfl (.inr ⟨_, rfl, rfl⟩) rfl rfl)
    have st91 : A1 45 ⟨[(83, .O false)], [], [], [], 13, [(87, .u)], [], [], 13⟩ := tA1 _ _ (LS.skip rfl rfl rfl (.inr ⟨_, rfl, rfl⟩) rfl rfl)
    have st92 : A1 46 ⟨[(83, .O false)], [], [], [], 13, [(88, .u)], [], [], 13⟩ := tA1 _ _ (LS.skip rfl rfl rfl (.inr ⟨_, rfl, rfl⟩) rfl rfl)
    have st93 : A1 47 ⟨[(83, .O false)], [], [], [], 13, [(89, .u)], [], [], 13⟩ := tA1 _ _ (LS.skip rfl rfl rfl (.inr ⟨_, rfl, rfl⟩) rfl rfl)
    have st94 : A1 48 ⟨[(83, .O false)], [], [], [], 13, [(90, .u)], [], [], 13⟩ := tA1 _ _ (LS.skip rfl rfl rfl (.inr ⟨_, rfl, rfl⟩) rfl rfl)
    have st95 : A1 49 ⟨[(83, .O false), (90, .u)], [], [], [], 13, [(91, .O false)], [], [], 13⟩ := tA1 _ _ (LS.sil htt rfl rfl rfl rfl rfl rfl)
    have st96 : A1 50 ⟨[(91, .O false)], [], [], [], 13, [(92, .O false)], [], [], 13⟩ := tA1 _ _ (LS.sil htt rfl rfl rfl rfl rfl rfl)
    have st97 : A1 51 ⟨[(92, .O false)], [], [], [], 13, [(93, .u)], [], [], 13⟩ := tA1 _ _ (LS.skip rfl rfl rfl (.inr ⟨_, rfl, rfl⟩) rfl rfl)
    have st98 : A1 52 ⟨[(92, .O false)], [], [], [], 13, [(94, .u)], [], [], 13⟩ := tA1 _ _ (LS.skip rfl rfl rfl (.inr ⟨_, rfl, rfl⟩) rfl rfl)
    have st99 : A1 53 ⟨[(92, .O false)], [], [], [], 13, [(95, .u)], [], [], 13⟩ := tA1 _ _ (LS.skip rfl rfl rfl (.inr ⟨_, rfl, rfl⟩) rfl rfl)
    have st100 : A1 54 ⟨[(92, .O false), (95, .u)], [], [], [], 13, [(96, .O false)], [], [], 13⟩ := tA1 _ _ (LS.sil htt rfl rfl rfl rfl rfl rfl)
    have st101 : A1 55 ⟨[(96, .O false)], [], [], [], 13, [(6, .O false)], [], [], 13⟩ := tA1 _ _ (LS.sil htt rfl rfl rfl rfl rfl rfl)
    refine WP.regionD (t := ⟨[(6, .O false)], [], (v_api_Global 0 1 2 3 g_ (v_api_Global 4 5 6 7 other_ [])), 13⟩) [0, 0, 3, 7, 15, 15, 63, 127, 255, 511, 511, 1535, 4095, 511, 511, 16895, 65535, 131071, 262143, 524287, 1048575, 1048575, 3145727, 8388607, 1048575, 1048575, 34603007, 134217727, 268435455, 536870911, 1073741823, 2147483647, 2147483647, 6442450943, 17179869183, 2147483647, 2147483647, 70866960383, 274877906943, 549755813887, 1099511627775, 2199023255551, 4398046511103, 4398046511103, 17592186044415, 4398046511103, 4398046511103, 140737488355327, 281474976710655, 562949953421311, 1125899906842623, 2251799813685247, 2251799813685247, 9007199254740991, 18014398509481983, 36028797018963967] (.cons (fA1 _ _ st9) (.cons (fA1 _ _ st10) (.cons (fA1 _ _ st11) (.cons (fA1 _ _ st13) (.cons (fA1 _ _ st14) (.cons (fA1 _ _ st15) (.cons (fA1 _ _ st16) (.cons (fA1 _ _ st17) (.cons (fA1 _ _ st19) (.cons (fA1 _ _ st20) (.cons (fA1 _ _ st21) (.cons (fA1 _ _ st22) (.cons (fA1 _ _ st24) (.cons (fA1 _ _ st25) (.cons (fA1 _ _ st26) (.cons (fA1 _ _ st27) (.cons (fA1 _ _ st29) (.cons (fA1 _ _ st31) (.cons (fA1 _ _ st32) (.cons (fA1 _ _ st34) (.cons (fA1 _ _ st35) (.cons (fA1 _ _ st36) (.cons (fA1 _ _ st37) (.cons (fA1 _ _ st39) (.cons (fA1 _ _ st40) (.cons (fA1 _ _ st41) (.cons (fA1 _ _ st42) (.cons (fA1 _ _ st44) (.cons (fA1 _ _ st45) (.cons (fA1 _ _ st46) (.cons (fA1 _ _ st48) (.cons (fA1 _ _ st49) (.cons (fA1 _ _ st50) (.cons (fA1 _ _ st51) (.cons (fA1 _ _ st53) (.cons (fA1 _ _ st54) (.cons (fA1 _ _ st55) (.cons (fA1 _ _ st56) (.cons (fA1 _ _ st58) (.cons (fA1 _ _ st59) (.cons (fA1 _ _ st60) (.cons (fA1 _ _ st87) (.cons (fA1 _ _ st88) (.cons (fA1 _ _ st89) (.cons (fA1 _ _ st90) (.cons (fA1 _ _ st91) (.cons (fA1 _ _ st92) (.cons (fA1 _ _ st93) (.cons (fA1 _ _ st94) (.cons (fA1 _ _ st95) (.cons (fA1 _ _ st96) (.cons (fA1 _ _ st97) (.cons (fA1 _ _ st98) (.cons (fA1 _ _ st99) (.cons (fA1 _ _ st100) (.cons (fA1 _ _ st101) .nil)))))))))))))))))))))))))))))))))))))))))))))))))))))))) (by kernel_rfl) (by kernel_rfl) (by kernel_rfl) (by kernel_rfl) (?_)
    cases h
    exact WP.ret htt Tryz.func6 [] rfl rfl rfl rfl
  have st62 := tA1 _ _ (LS.kb hc rfl (fA1 _ _ st61))
  have st63 : A1 42 ⟨[(3, .B 8 0), (83, .O true)], (v_api_Global 0 1 2 3 g_ []), [], [(8, .box (c_api_Global 0 1 2 3 g_) 27)], 13, [(84, .a (c_api_Global 0 1 2 3 g_))], [], [], 13⟩ := tA1 _ _ (LS.sil htt rfl rfl rfl rfl rfl rfl)
  have st64 : A1 43 ⟨[(4, .B 9 0), (83, .O true)], (v_api_Global 4 5 6 7 other_ []), [], [(9, .box (c_api_Global 4 5 6 7 other_) 27)], 13, [(85, .a (c_api_Global 4 5 6 7 other_))], [], [], 13⟩ := tA1 _ _ (LS.sil htt rfl rfl rfl rfl rfl rfl)
  obtain ⟨x65, hx65, h⟩ := ob h
  have st66 : A1 44 ⟨[(83, .O true), (84, .a (c_api_Global 0 1 2 3 g_)), (85, .a (c_api_Global 4 5 6 7 other_))], (v_api_Global 0 1 2 3 g_ (v_api_Global 4 5 6 7 other_ [])), [], [], 13, [(86, .O x65)], [], [], 13⟩ := tA1 _ _ (LS.of rfl rfl rfl (fun _ _ _ _ _ _ _ k => WPr.call (global_Equal_ct N g_ other_ _ hx65) [(0, .sl 0), (1, .sl 1), (2, .sl 2), (3, .sl 3), (4, .sl 4), (5, .sl 5), (6, .sl 6), (7, .sl 7)] [] rfl rfl rfl rfl rfl rfl rfl rfl (.inl rfl) rfl (k)) rfl)
  have st67 : A1 45 ⟨[(3, .B 8 0), (83, .O true)], (v_api_Global 0 1 2 3 g_ []), [], [(8, .box (c_api_Global 0 1 2 3 g_) 27)], 13, [(87, .a (c_api_Global 0 1 2 3 g_))], [], [], 13⟩ := tA1 _ _ (LS.sil htt rfl rfl rfl rfl rfl rfl)
  have st68 : A1 46 ⟨[(4, .B 9 0), (83, .O true)], (v_api_Global 4 5 6 7 other_ []), [], [(9, .box (c_api_Global 4 5 6 7 other_) 27)], 13, [(88, .a (c_api_Global 4 5 6 7 other_))], [], [], 13⟩ := tA1 _ _ (LS.sil htt rfl rfl rfl rfl rfl rfl)
  obtain ⟨x69, hx69, h⟩ := ob h
  have st70 : A1 47 ⟨[(83, .O true), (87, .a (c_api_Global 0 1 2 3 g_)), (88, .a (c_api_Global 4 5 6 7 other_))], (v_api_Global 0 1 2 3 g_ (v_api_Global 4 5 6 7 other_ [])), [], [], 13, [(89, .O x69)], [], [], 13⟩ := tA1 _ _ (LS.of rfl rfl rfl (fun _ _ _ _ _ _ _ k => WPr.call (ref18_Equal_ct N g_ other_ _ hx69) [(0, .sl 0), (1, .sl 1), (2, .sl 2), (3, .sl 3), (4, .sl 4), (5, .sl 5), (6, .sl 6), (7, .sl 7)] [] rfl rfl rfl rfl rfl rfl rfl rfl (.inl rfl) rfl (k)) rfl)
  have st71 : A1 48 ⟨[(83, .O true), (86, .O x65), (89, .O x69)], [], [], [], 13, [(90, .O (x65 == x69))], [], [], 13⟩ := tA1 _ _ (LS.sil htt rfl rfl rfl rfl rfl rfl)
  have st72 : A1 49 ⟨[(83, .O true), (90, .O (x65 == x69))], [], [], [], 13, [(91, .O (x65 == x69))], [], [], 13⟩ := tA1 _ _ (LS.sil htt rfl rfl rfl rfl rfl rfl)
  have st73 : A1 50 ⟨[(91, .O (x65 == x69))], [], [], [], 13, [(92, .O (x65 == x69))], [], [], 13⟩ := tA1 _ _ (LS.sil htt rfl rfl rfl rfl rfl rfl)
  rcases oc' h with ⟨hc, h⟩ | ⟨hc, h⟩
  · have st81 := tA1 _ _ (LS.kb hc rfl (fA1 _ _ st73))
    have st82 : A1 51 ⟨[(92, .O false)], [], [], [], 13, [(93, .u)], [], [], 13⟩ := tA1 _ _ (LS.skip rfl rfl rfl (.inr ⟨_, rfl, rfl⟩) rfl rfl)
    have st83 : A1 52 ⟨[(92, .O false)], [], [], [], 13, [(94, .u)], [], [], 13⟩ := tA1 _ _ (LS.skip rfl rfl rfl (.inr ⟨_, rfl, rfl⟩) rfl rfl)
    have st84 : A1 53 ⟨[(92, .O false)], [], [], [], 13, [(95, .u)], [], [], 13⟩ := tA1 _ _ (LS.skip rfl rfl rfl (.inr ⟨_, rfl, rfl⟩) rfl rfl)
    have st85 : A1 54 ⟨[(92, .O false), (95, .u)], [], [], [], 13, [(96, .O false)], [], [], 13⟩ := tA1 _ _ (LS.sil htt rfl rfl rfl rfl rfl rfl)
    have st86 : A1 55 ⟨[(96, .O false)], [], [], [], 13, [(6, .O false)], [], [], 13⟩ := tA1 _ _ (LS.sil htt rfl rfl rfl rfl rfl rfl)
    refine WP.regionD (t := ⟨[(6, .O false)], [], (v_api_Global 0 1 2 3 g_ (v_api_Global 4 5 6 7 other_ [])), 13⟩) [0, 0, 3, 7, 15, 15, 63, 127, 255, 511, 511, 1535, 4095, 511, 511, 16895, 65535, 131071, 262143, 524287, 1048575, 1048575, 3145727, 8388607, 1048575, 1048575, 34603007, 134217727, 268435455, 536870911, 1073741823, 2147483647, 2147483647, 6442450943, 17179869183, 2147483647, 2147483647, 70866960383, 274877906943, 549755813887, 1099511627775, 2199023255551, 4398046511103, 4398046511103, 17592186044415, 4398046511103, 4398046511103, 140737488355327, 281474976710655, 562949953421311, 1125899906842623, 2251799813685247, 2251799813685247, 9007199254740991, 18014398509481983, 36028797018963967] (.cons (fA1 _ _ st9) (.cons (fA1 _ _ st10) (.cons (fA1 _ _ st11) (.cons (fA1 _ _ st13) (.cons (fA1 _ _ st14) (.cons (fA1 _ _ st15) (.cons (fA1 _ _ st16) (.cons (fA1 _ _ st17) (.cons (fA1 _ _ st19) (.cons (fA1 _ _ st20) (.cons (fA1 _ _ st21) (.cons (fA1 _ _ st22) (.cons (fA1 _ _ st24) (.cons (fA1 _ _ st25) (.cons (fA1 _ _ st26) (.cons (fA1 _ _ st27) (.cons (fA1 _ _ st29) (.cons (fA1 _ _ st31) (.cons (fA1 _ _ st32) (.cons (fA1 _ _ st34) (.cons (fA1 _ _ st35) (.cons (fA1 _ _ st36) (.cons (fA1 _ _ st37) (.cons (fA1 _ _ st39) (.cons (fA1 _ _ st40) (.cons (fA1 _ _ st41) (.cons (fA1 _ _ st42) (.cons (fA1 _ _ st44) (.cons (fA1 _ _ st45) (.cons (fA1 _ _ st46) (.cons (fA1 _ _ st48) (.cons (fA1 _ _ st49) (.cons (fA1 _ _ st50) (.cons (fA1 _ _ st51) (.cons (fA1 _ _ st53) (.cons (fA1 _ _ st54) (.cons (fA1 _ _ st55) (.cons (fA1 _ _ st56) (.cons (fA1 _ _ st58) (.cons (fA1 _ _ st59) (.cons (fA1 _ _ st60) (.cons (fA1 _ _ st62) (.cons (fA1 _ _ st63) (.cons (fA1 _ _ st64) (.cons (fA1 _ _ st66) (.cons (fA1 _ _ st67) (.cons (fA1 _ _ st68) (.cons (fA1 _ _ st70) (.cons (fA1 _ _ st71) (.cons (fA1 _ _ st72) (.cons (fA1 _ _ st81) (.cons (fA1 _ _ st82) (.cons (fA1 _ _ st83) (.cons (fA1 _ _ st84) (.cons (fA1 _ _ st85) (.cons (fA1 _ _ st86) .nil)))))))))))))))))))))))))))))))))))))))))))))))))))))))) (by kernel_rfl) (by kernel_rfl) (by kernel_rfl) (by kernel_rfl) (?_)
    cases h
    exact WP.ret htt Tryz.func6 [] rfl rfl rfl rfl
  have st74 := tA1 _ _ (LS.kb hc rfl (fA1 _ _ st73))
  have st75 : A1 51 ⟨[(3, .B 8 0), (92, .O true)], (v_api_Global 0 1 2 3 g_ []), [], [(8, .box (c_api_Global 0 1 2 3 g_) 27)], 13, [(93, .a (c_api_Global 0 1 2 3 g_))], [], [], 13⟩ := tA1 _ _ (LS.sil htt rfl rfl rfl rfl rfl rfl)
  have st76 : A1 52 ⟨[(3, .B 8 0), (92, .O true)], (v_api_Global 0 1 2 3 g_ []), [], [(8, .box (c_api_Global 0 1 2 3 g_) 27)], 13, [(94, .a (c_api_Global 0 1 2 3 g_))], [], [], 13⟩ := tA1 _ _ (LS.sil htt rfl rfl rfl rfl rfl rfl)
  obtain ⟨x77, hx77, h⟩ := ob h
  have st78 : A1 53 ⟨[(92, .O true), (93, .a (c_api_Global 0 1 2 3 g_)), (94, .a (c_api_Global 0 1 2 3 g_))], (v_api_Global 0 1 2 3 g_ []), [], [], 13, [(95, .O x77)], [], [], 13⟩ := tA1 _ _ (LS.of rfl rfl rfl (fun _ _ _ _ _ _ _ k => WPr.call (global_Equal_ct N g_ g_ _ hx77) [(0, .sl 0), (1, .sl 1), (2, .sl 2), (3, .sl 3), (4, .sl 0), (5, .sl 1), (6, .sl 2), (7, .sl 3)] [] rfl rfl rfl rfl rfl rfl rfl rfl (.inl rfl) rfl (k)) rfl)
  have st79 : A1 54 ⟨[(92, .O true), (95, .O x77)], [], [], [], 13, [(96, .O x77)], [], [], 13⟩ := tA1 _ _ (LS.sil htt rfl rfl rfl rfl rfl rfl)
  have st80 : A1 55 ⟨[(96, .O x77)], [], [], [], 13, [(6, .O x77)], [], [], 13⟩ := tA1 _ _ (LS.sil htt rfl rfl rfl rfl rfl rfl)
  refine WP.regionD (t := ⟨[(6, .O x77)], [], (v_api_Global 0 1 2 3 g_ (v_api_Global 4 5 6 7 other_ [])), 13⟩) [0, 0, 3, 7, 15, 15, 63, 127, 255, 511, 511, 1535, 4095, 511, 511, 16895, 65535, 131071, 262143, 524287, 1048575, 1048575, 3145727, 8388607, 1048575, 1048575, 34603007, 134217727, 268435455, 536870911, 1073741823, 2147483647, 2147483647, 6442450943, 17179869183, 2147483647, 2147483647, 70866960383, 274877906943, 549755813887, 1099511627775, 2199023255551, 4398046511103, 4398046511103, 17592186044415, 4398046511103, 4398046511103, 140737488355327, 281474976710655, 562949953421311, 1125899906842623, 2251799813685247, 2251799813685247, 9007199254740991, 18014398509481983, 36028797018963967] (.cons (fA1 _ _ st9) (.cons (fA1 _ _ st10) (.cons (fA1 _ _ st11) (.cons (fA1 _ _ st13) (.cons (fA1 _ _ st14) (.cons (fA1 _ _ st15) (.cons (fA1 _ _ st16) (.cons (fA1 _ _ st17) (.cons (fA1 _ _ st19) (.cons (fA1 _ _ st20) (.cons (fA1 _ _ st21) (.cons (fA1 _ _ st22) (.cons (fA1 _ _ st24) (.cons (fA1 _ _ st25) (.cons (fA1 _ _ st26) (.cons (fA1 _ _ st27) (.cons (fA1 _ _ st29) (.cons (fA1 _ _ st31) (.cons (fA1 _ _ st32) (.cons (fA1 _ _ st34) (.cons (fA1 _ _ st35) (.cons (fA1 _ _ st36) (.cons (fA1 _ _ st37) (.cons (fA1 _ _ st39) (.cons (fA1 _ _ st40) (.cons (fA1 _ _ st41) (.cons (fA1 _ _ st42) (.cons (fA1 _ _ st44) (.cons (fA1 _ _ st45) (.cons (fA1 _ _ st46) (.cons (fA1 _ _ st48) (.cons (fA1 _ _ st49) (.cons (fA1 _ _ st50) (.cons (fA1 _ _ st51) (.cons (fA1 _ _ st53) (.cons (fA1 _ _ st54) (.cons (fA1 _ _ st55) (.cons (fA1 _ _ st56) (.cons (fA1 _ _ st58) (.cons (fA1 _ _ st59) (.cons (fA1 _ _ st60) (.cons (fA1 _ _ st62) (.cons (fA1 _ _ st63) (.cons (fA1 _ _ st64) (.cons (fA1 _ _ st66) (.cons (fA1 _ _ st67) (.cons (fA1 _ _ st68) (.cons (fA1 _ _ st70) (.cons (fA1 _ _ st71) (.cons (fA1 _ _ st72) (.cons (fA1 _ _ st74) (.cons (fA1 _ _ st75) (.cons (fA1 _ _ st76) (.cons (fA1 _ _ st78) (.cons (fA1 _ _ st79) (.cons (fA1 _ _ st80) .nil)))))))))))))))))))))))))))))))))))))))))))))))))))))))) (by kernel_rfl) (by kernel_rfl) (by kernel_rfl) (by kernel_rfl) (?_)
  cases h
  exact WP.ret htt Tryz.func6 [] rfl rfl rfl rfl
end Gx
end
