/- Each function of the statement computes what its plain definition says, part 2. -/
import Derived.Test.YtenajajnbmfijaaGreatDoorGlobalEndsWalk1
set_option linter.all false
section
set_option linter.unusedVariables false
set_option maxRecDepth 10000
set_option maxHeartbeats 4000000
open Go Go.Kx Go.Proofs
namespace Gx
theorem z48_8_ct (N : Nat) (i_ : Int) (k_ : Int) (c0_ : T4) (r : Int) (h : z48_8 N i_ k_ c0_ = some r) :
  Fn Tryz.prog 48 ⟨5, [.I i_, .I k_, .B 0 0], (vV4 1 2 3 4 c0_ []), [(0, .box (cC4 1 2 3 4 c0_) 27)], 5, .I r, [], [(0, .box (cC4 1 2 3 4 c0_) 27)]⟩ := by
  refine Fn.intro _ _ Tryz.func48 rfl (by kernel_rfl) rfl (fun E F w => ?_)
  unfold z48_8 at h
  refine WP.seq (WP.region (WPr.sil htt 1 rfl (WPr.nil (WP.seq (WP.nm (fun A1 tA1 fA1 => ?_))))))
  have st1 : A1 0 ⟨[(2, .B 0 0)], [], [], [], 5, [(8, .B 0 6)], [], [], 5⟩ := tA1 _ _ (LS.sil htt rfl rfl rfl rfl rfl rfl)
  have st2 : A1 1 ⟨[(8, .B 0 6)], (vV4 1 2 3 4 c0_ []), [], [(0, .box (cC4 1 2 3 4 c0_) 27)], 5, [(9, .S 3)], [], [], 5⟩ := tA1 _ _ (LS.sil htt rfl rfl rfl rfl rfl rfl)
  have st3 : A1 2 ⟨[(0, .I i_)], [], [], [], 5, [(10, .I i_)], [], [], 5⟩ := tA1 _ _ (LS.sil htt rfl rfl rfl rfl rfl rfl)
  obtain ⟨x4, hx4, h⟩ := ob h
  have st5 : A1 3 ⟨[(9, .S 3), (10, .I i_)], [(3, .sl rR2 c0_.Edges)], [], [], 5, [(11, .P 5 0)], [(5, .pl (cC2 x4))], [], 6⟩ := tA1 _ _ (LS.of rfl rfl rfl (fun _ _ _ _ _ _ _ k => WPr.ix oO2 htt hx4 rfl rfl rfl rfl rfl rfl rfl rfl rfl (k)) rfl)
  have st6 : A1 4 ⟨[(11, .P 5 0)], [(5, .pl (cC2 x4))], [], [], 6, [(12, .P 5 1)], [], [], 6⟩ := tA1 _ _ (LS.sil htt rfl rfl rfl rfl rfl rfl)
  have st7 : A1 5 ⟨[(12, .P 5 1)], [(5, .pl (cC2 x4))], [], [], 6, [(13, .a (cC6 x4.Act))], [], [], 6⟩ := tA1 _ _ (LS.sil htt rfl rfl rfl rfl rfl rfl)
  have st8 : A1 6 ⟨[(2, .B 0 0)], [], [], [], 6, [(14, .B 0 6)], [], [], 6⟩ := tA1 _ _ (LS.sil htt rfl rfl rfl rfl rfl rfl)
  have st9 : A1 7 ⟨[(14, .B 0 6)], (vV4 1 2 3 4 c0_ []), [], [(0, .box (cC4 1 2 3 4 c0_) 27)], 6, [(15, .S 3)], [], [], 6⟩ := tA1 _ _ (LS.sil htt rfl rfl rfl rfl rfl rfl)
  have st10 : A1 8 ⟨[(1, .I k_)], [], [], [], 6, [(16, .I k_)], [], [], 6⟩ := tA1 _ _ (LS.sil htt rfl rfl rfl rfl rfl rfl)
  obtain ⟨x11, hx11, h⟩ := ob h
  have st12 : A1 9 ⟨[(15, .S 3), (16, .I k_)], [(3, .sl rR2 c0_.Edges)], [], [], 6, [(17, .P 6 0)], [(6, .pl (cC2 x11))], [], 7⟩ := tA1 _ _ (LS.of rfl rfl rfl (fun _ _ _ _ _ _ _ k => WPr.ix oO2 htt hx11 rfl rfl rfl rfl rfl rfl rfl rfl rfl (k)) rfl)
  have st13 : A1 10 ⟨[(17, .P 6 0)], [(6, .pl (cC2 x11))], [], [], 7, [(18, .P 6 1)], [], [], 7⟩ := tA1 _ _ (LS.sil htt rfl rfl rfl rfl rfl rfl)
  have st14 : A1 11 ⟨[(18, .P 6 1)], [(6, .pl (cC2 x11))], [], [], 7, [(19, .a (cC6 x11.Act))], [], [], 7⟩ := tA1 _ _ (LS.sil htt rfl rfl rfl rfl rfl rfl)
  have st15 : A1 12 ⟨[], [], [], [], 7, [(6, .B 7 0)], [], [(7, .box [.I (0 : Int), .I (0 : Int), .I (0 : Int)] 37)], 8⟩ := tA1 _ _ (LS.sil htt rfl rfl rfl rfl rfl rfl)
  have st16 : A1 13 ⟨[], [], [], [], 8, [(7, .B 8 0)], [], [(8, .box [.I (0 : Int), .I (0 : Int), .I (0 : Int)] 37)], 9⟩ := tA1 _ _ (LS.sil htt rfl rfl rfl rfl rfl rfl)
  have st17 : A1 14 ⟨[(6, .B 7 0), (13, .a (cC6 x4.Act))], [], [(7, .box [.I (0 : Int), .I (0 : Int), .I (0 : Int)] 37)], [], 9, [], [], [(7, .box (cC6 x4.Act) 37)], 9⟩ := tA1 _ _ (LS.sil htt rfl rfl rfl rfl rfl rfl)
  have st18 : A1 15 ⟨[(7, .B 8 0), (19, .a (cC6 x11.Act))], [], [(8, .box [.I (0 : Int), .I (0 : Int), .I (0 : Int)] 37)], [], 9, [], [], [(8, .box (cC6 x11.Act) 37)], 9⟩ := tA1 _ _ (LS.sil htt rfl rfl rfl rfl rfl rfl)
  refine WP.regionD (t := ⟨[(5, .I (0 : Int)), (6, .B 7 0), (7, .B 8 0)], [(0, .box (cC4 1 2 3 4 c0_) 27), (7, .box (cC6 x4.Act) 37), (8, .box (cC6 x11.Act) 37)], (vV4 1 2 3 4 c0_ []), 9⟩) [0, 1, 0, 7, 15, 31, 0, 64, 0, 448, 960, 1984, 0, 0, 12351, 32767] (.cons (fA1 _ _ st1) (.cons (fA1 _ _ st2) (.cons (fA1 _ _ st3) (.cons (fA1 _ _ st5) (.cons (fA1 _ _ st6) (.cons (fA1 _ _ st7) (.cons (fA1 _ _ st8) (.cons (fA1 _ _ st9) (.cons (fA1 _ _ st10) (.cons (fA1 _ _ st12) (.cons (fA1 _ _ st13) (.cons (fA1 _ _ st14) (.cons (fA1 _ _ st15) (.cons (fA1 _ _ st16) (.cons (fA1 _ _ st17) (.cons (fA1 _ _ st18) .nil)))))))))))))))) (by kernel_rfl) (by kernel_rfl) (by kernel_rfl) (by kernel_rfl) (WP.seq (WP.nm (fun A2 tA2 fA2 => ?_)))
  have st19 : A2 0 ⟨[(6, .B 7 0)], [], [], [], 9, [(20, .B 7 1)], [], [], 9⟩ := tA2 _ _ (LS.sil htt rfl rfl rfl rfl rfl rfl)
  have st20 : A2 1 ⟨[(20, .B 7 1)], [], [], [(7, .box (cC6 x4.Act) 37)], 9, [(21, .I x4.Act.To)], [], [], 9⟩ := tA2 _ _ (LS.sil htt rfl rfl rfl rfl rfl rfl)
  have st21 : A2 2 ⟨[(7, .B 8 0)], [], [], [], 9, [(22, .B 8 1)], [], [], 9⟩ := tA2 _ _ (LS.sil htt rfl rfl rfl rfl rfl rfl)
  have st22 : A2 3 ⟨[(22, .B 8 1)], [], [], [(8, .box (cC6 x11.Act) 37)], 9, [(23, .I x11.Act.To)], [], [], 9⟩ := tA2 _ _ (LS.sil htt rfl rfl rfl rfl rfl rfl)
  obtain ⟨x23, hx23, h⟩ := ob h
  have st24 : A2 4 ⟨[(21, .I x4.Act.To), (23, .I x11.Act.To)], [], [], [], 9, [(24, .I x23)], [], [], 9⟩ := tA2 _ _ (LS.of rfl rfl rfl (fun _ _ _ _ _ _ _ k => WPr.call (z50_ct N x4.Act.To x11.Act.To _ hx23) [] [] rfl rfl rfl rfl rfl rfl rfl rfl (.inl rfl) rfl (k)) rfl)
  have st25 : A2 5 ⟨[(6, .B 7 0)], [], [], [], 9, [(25, .B 7 2)], [], [], 9⟩ := tA2 _ _ (LS.sil htt rfl rfl rfl rfl rfl rfl)
  have st26 : A2 6 ⟨[(25, .B 7 2)], [], [], [(7, .box (cC6 x4.Act) 37)], 9, [(26, .I x4.Act.Label)], [], [], 9⟩ := tA2 _ _ (LS.sil htt rfl rfl rfl rfl rfl rfl)
  have st27 : A2 7 ⟨[(7, .B 8 0)], [], [], [], 9, [(27, .B 8 2)], [], [], 9⟩ := tA2 _ _ (LS.sil htt rfl rfl rfl rfl rfl rfl)
  have st28 : A2 8 ⟨[(27, .B 8 2)], [], [], [(8, .box (cC6 x11.Act) 37)], 9, [(28, .I x11.Act.Label)], [], [], 9⟩ := tA2 _ _ (LS.sil htt rfl rfl rfl rfl rfl rfl)
  obtain ⟨x29, hx29, h⟩ := ob h
  have st30 : A2 9 ⟨[(26, .I x4.Act.Label), (28, .I x11.Act.Label)], [], [], [], 9, [(29, .I x29)], [], [], 9⟩ := tA2 _ _ (LS.of rfl rfl rfl (fun _ _ _ _ _ _ _ k => WPr.call (z50_ct N x4.Act.Label x11.Act.Label _ hx29) [] [] rfl rfl rfl rfl rfl rfl rfl rfl (.inl rfl) rfl (k)) rfl)
  have st31 : A2 10 ⟨[(24, .I x23), (29, .I x29)], [], [], [], 9, [(30, .S 9)], [], [(9, .own (rI .i64) ([x23, x29] : List Int) true)], 10⟩ := tA2 _ _ (LS.of rfl rfl rfl (fun _ _ _ _ _ _ _ k => WPr.bs (cs := [.I x23, .I x29]) (oI .i64) htt ([x23, x29] : List Int) rfl rfl rfl rfl rfl rfl (by kernel_rfl) (by exact (an rfl (an rfl rfl))) rfl (k)) rfl)
  obtain ⟨x32, hx32, h⟩ := ob h
  have st33 : A2 11 ⟨[(30, .S 9)], [], [], [(9, .own (rI .i64) ([x23, x29] : List Int) true)], 10, [(31, .I x32)], [], [], 10⟩ := tA2 _ _ (LS.of rfl rfl rfl (fun _ _ _ _ _ _ _ k => WPr.call (z49_ct N ([x23, x29] : List Int) _ hx32) [(0, .sl 9)] [9] rfl rfl rfl rfl rfl rfl rfl rfl (.inr ⟨rfl, trivial⟩) rfl (k)) rfl)
  have st34 : A2 12 ⟨[(31, .I x32)], [], [], [], 10, [(5, .I x32)], [], [], 10⟩ := tA2 _ _ (LS.sil htt rfl rfl rfl rfl rfl rfl)
  refine WP.regionD (t := ⟨[(5, .I x32)], [(0, .box (cC4 1 2 3 4 c0_) 27)], (vV4 1 2 3 4 c0_ []), 10⟩) [0, 1, 0, 4, 15, 0, 32, 0, 128, 511, 1023, 2047, 4095] (.cons (fA2 _ _ st19) (.cons (fA2 _ _ st20) (.cons (fA2 _ _ st21) (.cons (fA2 _ _ st22) (.cons (fA2 _ _ st24) (.cons (fA2 _ _ st25) (.cons (fA2 _ _ st26) (.cons (fA2 _ _ st27) (.cons (fA2 _ _ st28) (.cons (fA2 _ _ st30) (.cons (fA2 _ _ st31) (.cons (fA2 _ _ st33) (.cons (fA2 _ _ st34) .nil))))))))))))) (by kernel_rfl) (by kernel_rfl) (by kernel_rfl) (by kernel_rfl) (?_)
  cases h
  exact WP.ret htt Tryz.func48 [] rfl rfl rfl rfl
theorem z146_9_ct (N : Nat) (data_ : (List Int)) (a_ : Int) (b_ : Int) (c0_ : T4) (r : (List Int)) (h : z146_9 N data_ a_ b_ c0_ = some r) :
  Fn Tryz.prog 146 ⟨6, [.S 0, .I a_, .I b_, .c (.cl 48 [] [1])], (vV4 2 3 4 5 c0_ []), [(0, .own (rI .i64) data_ false), (1, .box (cC4 2 3 4 5 c0_) 27)], 6, .t [], [], [(0, .own (rI .i64) r false), (1, .box (cC4 2 3 4 5 c0_) 27)]⟩ := by
  refine Fn.intro _ _ Tryz.func146 rfl (by kernel_rfl) rfl (fun E F w => ?_)
  unfold z146_9 at h
  refine WP.seq (WP.region (WPr.silx [] ⟨[(0, .S 0), (1, .I a_), (2, .I b_), (3, .c (.cl 48 [] [1])), (8, .I (w64 (a_ + (1 : Int))))], [(0, .own (rI .i64) data_ false), (1, .box (cC4 2 3 4 5 c0_) 27)], (vV4 2 3 4 5 c0_ []), 6⟩ htt 3 (by kernel_rfl) (WPr.nil (?_))))
  refine WP.cut (σ := (List Int)) (fun st => ⟨[], [(0, .own (rI .i64) st false), (1, .box (cC4 2 3 4 5 c0_) 27)], (vV4 2 3 4 5 c0_ []), 6⟩) (fun st => z146_9_k1 st = some r) ?_ (fun j1 => ?_)
  · intro vk0_1 h
    replace h : z146_9_k1 vk0_1 = some r := h
    unfold z146_9_k1 at h
    cases h
    exact WP.fin htt Tryz.func146 [] rfl rfl rfl rfl
  refine WP.block (?_)
  refine WP.loopI (σ := (List Int) × Int) (fun st => ⟨[(0, .S 0), (1, .I a_), (2, .I b_), (3, .c (.cl 48 [] [1])), (8, .I st.2)], [(0, .own (rI .i64) st.1 false), (1, .box (cC4 2 3 4 5 c0_) 27)], (vV4 2 3 4 5 c0_ []), 6⟩) (fun n st => z146_9_l2 N a_ b_ c0_ n st.1 st.2) (r := r) (fun _ => rfl) ?_ (fun ih => ?_)
  · intro n12 ih12
    rintro ⟨vk0_12, v8_12⟩ h
    replace h : z146_9_l2 N a_ b_ c0_ (n12 + 1) vk0_12 v8_12 = some r := h
    unfold z146_9_l2 at h
    refine WP.seq (WP.seq (WP.region (WPr.silx [] ⟨[(0, .S 0), (1, .I a_), (2, .I b_), (3, .c (.cl 48 [] [1])), (8, .I v8_12), (14, .O (decide (v8_12 < b_)))], [(0, .own (rI .i64) vk0_12 false), (1, .box (cC4 2 3 4 5 c0_) 27)], (vV4 2 3 4 5 c0_ []), 6⟩ htt 3 (by kernel_rfl) (WPr.nil (?_)))))
    rcases oc' h with ⟨hc, h⟩ | ⟨hc, h⟩
    · exact WP.condF hc rfl (WP.exit rfl (WP.sub [] (j1 vk0_12 h) rfl rfl rfl rfl))
    refine WP.condT hc rfl (WP.skip (WP.seq (WP.block (WP.seq (WP.region (WPr.sil htt 2 rfl (WPr.nil (?_))))))))
    refine WP.cut (σ := (List Int)) (fun st => ⟨[(0, .S 0), (1, .I a_), (2, .I b_), (3, .c (.cl 48 [] [1])), (8, .I v8_12)], [(0, .own (rI .i64) st false), (1, .box (cC4 2 3 4 5 c0_) 27)], (vV4 2 3 4 5 c0_ []), 6⟩) (fun st => z146_9_k3 v8_12 (z146_9_l2 N a_ b_ c0_ n12) st = some r) ?_ (fun j19 => ?_)
    · intro vk0_19 h
      replace h : z146_9_k3 v8_12 (z146_9_l2 N a_ b_ c0_ n12) vk0_19 = some r := h
      unfold z146_9_k3 at h
      exact WP.inBlock (WP.region (WPr.silx [] ⟨[(0, .S 0), (1, .I a_), (2, .I b_), (3, .c (.cl 48 [] [1])), (8, .I (w64 (v8_12 + (1 : Int))))], [(0, .own (rI .i64) vk0_19 false), (1, .box (cC4 2 3 4 5 c0_) 27)], (vV4 2 3 4 5 c0_ []), 6⟩ htt 3 (by kernel_rfl) (WPr.nil (WP.sub [] (ih12 (vk0_19, (w64 (v8_12 + (1 : Int)))) h) rfl rfl rfl rfl))))
    refine WP.block (?_)
    refine WP.loopI (σ := (List Int) × Int) (fun st => ⟨[(0, .S 0), (1, .I a_), (2, .I b_), (3, .c (.cl 48 [] [1])), (8, .I v8_12), (9, .I st.2)], [(0, .own (rI .i64) st.1 false), (1, .box (cC4 2 3 4 5 c0_) 27)], (vV4 2 3 4 5 c0_ []), 6⟩) (fun n st => z146_9_l4 N a_ c0_ v8_12 (z146_9_l2 N a_ b_ c0_ n12) n st.1 st.2) (r := r) (fun _ => rfl) ?_ (fun ih => ?_)
    · intro n14 ih21
      rintro ⟨vk0_21, v9_21⟩ h
      replace h : z146_9_l4 N a_ c0_ v8_12 (z146_9_l2 N a_ b_ c0_ n12) (n14 + 1) vk0_21 v9_21 = some r := h
      unfold z146_9_l4 at h
      refine WP.seq (WP.seq (WP.nm (fun A147 tA147 fA147 => ?_)))
      have st4162 : A147 0 ⟨[(9, .I v9_21)], [], [], [], 6, [(18, .I v9_21)], [], [], 6⟩ := tA147 _ _ (LS.sil htt rfl rfl rfl rfl rfl rfl)
      have st4163 : A147 1 ⟨[(1, .I a_)], [], [], [], 6, [(19, .I a_)], [], [], 6⟩ := tA147 _ _ (LS.sil htt rfl rfl rfl rfl rfl rfl)
      have st4164 : A147 2 ⟨[(18, .I v9_21), (19, .I a_)], [], [], [], 6, [(20, .O (decide (v9_21 > a_)))], [], [], 6⟩ := tA147 _ _ (LS.sil htt rfl rfl rfl rfl rfl rfl)
      have st4165 : A147 3 ⟨[(20, .O (decide (v9_21 > a_)))], [], [], [], 6, [(21, .O (decide (v9_21 > a_)))], [], [], 6⟩ := tA147 _ _ (LS.sil htt rfl rfl rfl rfl rfl rfl)
      rcases oc' h with ⟨hc, h⟩ | ⟨hc, h⟩
      · have st4205 := tA147 _ _ (LS.kb hc rfl (fA147 _ _ st4165))
        have st4206 : A147 4 ⟨[(21, .O false)], [], [], [], 6, [(22, .u)], [], [], 6⟩ := tA147 _ _ (LS.skip rfl rfl rfl (.inr ⟨_, rfl, rfl⟩) rfl rfl)
        have st4207 : A147 5 ⟨[(21, .O false)], [], [], [], 6, [(23, .u)], [], [], 6⟩ := tA147 _ _ (LS.skip rfl rfl rfl (.inr ⟨_, rfl, rfl⟩) rfl rfl)
        have st4208 : A147 6 ⟨[(21, .O false)], [], [], [], 6, [(24, .u)], [], [], 6⟩ := tA147 _ _ (LS.skip rfl rfl rfl (.inr ⟨_, rfl, rfl⟩) rfl rfl)
        have st4209 : A147 7 ⟨[(21, .O false)], [], [], [], 6, [(25, .u)], [], [], 6⟩ := tA147 _ _ (LS.skip rfl rfl rfl (.inr ⟨_, rfl, rfl⟩) rfl rfl)
        have st4210 : A147 8 ⟨[(21, .O false)], [], [], [], 6, [(26, .u)], [], [], 6⟩ := tA147 _ _ (LS.skip rfl rfl rfl (.inr ⟨_, rfl, rfl⟩) rfl rfl)
        have st4211 : A147 9 ⟨[(21, .O false)], [], [], [], 6, [(27, .u)], [], [], 6⟩ := tA147 _ _ (LS.skip rfl rfl rfl (.inr ⟨_, rfl, rfl⟩) rfl rfl)
        have st4212 : A147 10 ⟨[(21, .O false)], [], [], [], 6, [(28, .u)], [], [], 6⟩ := tA147 _ _ (LS.skip rfl rfl rfl (.inr ⟨_, rfl, rfl⟩) rfl rfl)
        have st4213 : A147 11 ⟨[(21, .O false)], [], [], [], 6, [(29, .u)], [], [], 6⟩ := tA147 _ _ (LS.skip rfl rfl rfl (.inr ⟨_, rfl, rfl⟩) rfl rfl)
        have st4214 : A147 12 ⟨[(21, .O false)], [], [], [], 6, [(30, .u)], [], [], 6⟩ := tA147 _ _ (LS.skip rfl rfl rfl (.inr ⟨_, rfl, rfl⟩) rfl rfl)
        have st4215 : A147 13 ⟨[(21, .O false)], [], [], [], 6, [(31, .u)], [], [], 6⟩ := tA147 _ _ (LS.skip rfl rfl rfl (.inr ⟨_, rfl, rfl⟩) rfl rfl)
        have st4216 : A147 14 ⟨[(21, .O false)], [], [], [], 6, [(32, .u)], [], [], 6⟩ := tA147 _ _ (LS.skip rfl rfl rfl (.inr ⟨_, rfl, rfl⟩) rfl rfl)
        have st4217 : A147 15 ⟨[(21, .O false)], [], [], [], 6, [(33, .u)], [], [], 6⟩ := tA147 _ _ (LS.skip rfl rfl rfl (.inr ⟨_, rfl, rfl⟩) rfl rfl)
        have st4218 : A147 16 ⟨[(21, .O false), (33, .u)], [], [], [], 6, [(34, .O false)], [], [], 6⟩ := tA147 _ _ (LS.sil htt rfl rfl rfl rfl rfl rfl)
        exact WP.regionD (t := ⟨[(0, .S 0), (1, .I a_), (2, .I b_), (3, .c (.cl 48 [] [1])), (8, .I v8_12), (9, .I v9_21), (34, .O false)], [(0, .own (rI .i64) vk0_21 false), (1, .box (cC4 2 3 4 5 c0_) 27)], (vV4 2 3 4 5 c0_ []), 6⟩) [0, 0, 3, 7, 15, 15, 15, 111, 239, 15, 15, 1039, 3599, 7695, 16383, 32767, 65535] (.cons (fA147 _ _ st4162) (.cons (fA147 _ _ st4163) (.cons (fA147 _ _ st4164) (.cons (fA147 _ _ st4205) (.cons (fA147 _ _ st4206) (.cons (fA147 _ _ st4207) (.cons (fA147 _ _ st4208) (.cons (fA147 _ _ st4209) (.cons (fA147 _ _ st4210) (.cons (fA147 _ _ st4211) (.cons (fA147 _ _ st4212) (.cons (fA147 _ _ st4213) (.cons (fA147 _ _ st4214) (.cons (fA147 _ _ st4215) (.cons (fA147 _ _ st4216) (.cons (fA147 _ _ st4217) (.cons (fA147 _ _ st4218) .nil))))))))))))))))) (by kernel_rfl) (by kernel_rfl) (by kernel_rfl) (by kernel_rfl) (WP.condF rfl rfl (WP.exit rfl (WP.sub [] (j19 vk0_21 h) rfl rfl rfl rfl)))
      have st4166 := tA147 _ _ (LS.kb hc rfl (fA147 _ _ st4165))
      have st4167 : A147 4 ⟨[(3, .c (.cl 48 [] [1])), (21, .O true)], [], [], [], 6, [(22, .c (.cl 48 [] [1]))], [], [], 6⟩ := tA147 _ _ (LS.sil htt rfl rfl rfl rfl rfl rfl)
      have st4168 : A147 5 ⟨[(0, .S 0), (21, .O true)], [], [], [], 6, [(23, .S 0)], [], [], 6⟩ := tA147 _ _ (LS.sil htt rfl rfl rfl rfl rfl rfl)
      have st4169 : A147 6 ⟨[(9, .I v9_21), (21, .O true)], [], [], [], 6, [(24, .I v9_21)], [], [], 6⟩ := tA147 _ _ (LS.sil htt rfl rfl rfl rfl rfl rfl)
      obtain ⟨x4170, hx4170, h⟩ := ob h
      have st4171 : A147 7 ⟨[(21, .O true), (23, .S 0), (24, .I v9_21)], [], [], [(0, .own (rI .i64) vk0_21 false)], 6, [(25, .P 6 0)], [(6, .el 0 ((v9_21).toNat * ((rI .i64)).sz))], [], 7⟩ := tA147 _ _ (LS.of rfl rfl rfl (fun _ _ _ _ _ _ _ k => WPr.ixo htt hx4170 rfl rfl rfl rfl rfl rfl rfl rfl rfl (k)) rfl)
      have st4172 : A147 8 ⟨[(21, .O true), (25, .P 6 0)], [(6, .el 0 ((v9_21).toNat * ((rI .i64)).sz))], [], [(0, .own (rI .i64) vk0_21 false)], 7, [(26, .I x4170)], [], [], 7⟩ := tA147 _ _ (LS.of rfl rfl rfl (fun _ _ _ _ _ _ _ k => WPr.ldo (oI .i64) htt hx4170 rfl rfl rfl rfl rfl rfl rfl rfl rfl rfl (k)) rfl)
      have st4173 : A147 9 ⟨[(0, .S 0), (21, .O true)], [], [], [], 7, [(27, .S 0)], [], [], 7⟩ := tA147 _ _ (LS.sil htt rfl rfl rfl rfl rfl rfl)
      have st4174 : A147 10 ⟨[(9, .I v9_21), (21, .O true)], [], [], [], 7, [(28, .I v9_21)], [], [], 7⟩ := tA147 _ _ (LS.sil htt rfl rfl rfl rfl rfl rfl)
      have st4175 : A147 11 ⟨[(21, .O true), (28, .I v9_21)], [], [], [], 7, [(29, .I (w64 (v9_21 - (1 : Int))))], [], [], 7⟩ := tA147 _ _ (LS.sil htt rfl rfl rfl rfl rfl rfl)
      obtain ⟨x4176, hx4176, h⟩ := ob h
      have st4177 : A147 12 ⟨[(21, .O true), (27, .S 0), (29, .I (w64 (v9_21 - (1 : Int))))], [], [], [(0, .own (rI .i64) vk0_21 false)], 7, [(30, .P 7 0)], [(7, .el 0 (((w64 (v9_21 - (1 : Int)))).toNat * ((rI .i64)).sz))], [], 8⟩ := tA147 _ _ (LS.of rfl rfl rfl (fun _ _ _ _ _ _ _ k => WPr.ixo htt hx4176 rfl rfl rfl rfl rfl rfl rfl rfl rfl (k)) rfl)
      have st4178 : A147 13 ⟨[(21, .O true), (30, .P 7 0)], [(7, .el 0 (((w64 (v9_21 - (1 : Int)))).toNat * ((rI .i64)).sz))], [], [(0, .own (rI .i64) vk0_21 false)], 8, [(31, .I x4176)], [], [], 8⟩ := tA147 _ _ (LS.of rfl rfl rfl (fun _ _ _ _ _ _ _ k => WPr.ldo (oI .i64) htt hx4176 rfl rfl rfl rfl rfl rfl rfl rfl rfl rfl (k)) rfl)
      obtain ⟨x4179, hx4179, h⟩ := ob h
      have st4180 : A147 14 ⟨[(21, .O true), (22, .c (.cl 48 [] [1])), (26, .I x4170), (31, .I x4176)], (vV4 2 3 4 5 c0_ []), [], [(1, .box (cC4 2 3 4 5 c0_) 27)], 8, [(32, .I x4179)], [], [], 8⟩ := tA147 _ _ (LS.of rfl rfl rfl (fun _ _ _ _ _ _ _ k => WPr.callc (z48_8_ct N x4170 x4176 c0_ _ hx4179) [(0, .bp 1 0), (1, .sl 2), (2, .sl 3), (3, .sl 4), (4, .sl 5)] [] rfl rfl rfl rfl rfl rfl rfl rfl rfl (.inl rfl) rfl (k)) rfl)
      have st4181 : A147 15 ⟨[(21, .O true), (32, .I x4179)], [], [], [], 8, [(33, .O (decide (x4179 < (0 : Int))))], [], [], 8⟩ := tA147 _ _ (LS.sil htt rfl rfl rfl rfl rfl rfl)
      have st4182 : A147 16 ⟨[(21, .O true), (33, .O (decide (x4179 < (0 : Int))))], [], [], [], 8, [(34, .O (decide (x4179 < (0 : Int))))], [], [], 8⟩ := tA147 _ _ (LS.sil htt rfl rfl rfl rfl rfl rfl)
      refine WP.regionD (t := ⟨[(0, .S 0), (1, .I a_), (2, .I b_), (3, .c (.cl 48 [] [1])), (8, .I v8_12), (9, .I v9_21), (34, .O (decide (x4179 < (0 : Int))))], [(0, .own (rI .i64) vk0_21 false), (1, .box (cC4 2 3 4 5 c0_) 27)], (vV4 2 3 4 5 c0_ []), 8⟩) [0, 0, 3, 7, 15, 15, 15, 111, 239, 15, 15, 1039, 3599, 7695, 16383, 32767, 65535] (.cons (fA147 _ _ st4162) (.cons (fA147 _ _ st4163) (.cons (fA147 _ _ st4164) (.cons (fA147 _ _ st4166) (.cons (fA147 _ _ st4167) (.cons (fA147 _ _ st4168) (.cons (fA147 _ _ st4169) (.cons (fA147 _ _ st4171) (.cons (fA147 _ _ st4172) (.cons (fA147 _ _ st4173) (.cons (fA147 _ _ st4174) (.cons (fA147 _ _ st4175) (.cons (fA147 _ _ st4177) (.cons (fA147 _ _ st4178) (.cons (fA147 _ _ st4180) (.cons (fA147 _ _ st4181) (.cons (fA147 _ _ st4182) .nil))))))))))))))))) (by kernel_rfl) (by kernel_rfl) (by kernel_rfl) (by kernel_rfl) (?_)
      rcases oc' h with ⟨hc, h⟩ | ⟨hc, h⟩
      · exact WP.condF hc rfl (WP.exit rfl (WP.sub [] (j19 vk0_21 h) rfl rfl rfl rfl))
      refine WP.condT hc rfl (WP.skip (WP.seq (WP.block (WP.nm (fun A148 tA148 fA148 => ?_)))))
      have st4183 : A148 0 ⟨[(0, .S 0)], [], [], [], 8, [(37, .S 0)], [], [], 8⟩ := tA148 _ _ (LS.sil htt rfl rfl rfl rfl rfl rfl)
      have st4184 : A148 1 ⟨[(9, .I v9_21)], [], [], [], 8, [(38, .I v9_21)], [], [], 8⟩ := tA148 _ _ (LS.sil htt rfl rfl rfl rfl rfl rfl)
      have st4185 : A148 2 ⟨[(0, .S 0)], [], [], [], 8, [(39, .S 0)], [], [], 8⟩ := tA148 _ _ (LS.sil htt rfl rfl rfl rfl rfl rfl)
      have st4186 : A148 3 ⟨[(9, .I v9_21)], [], [], [], 8, [(40, .I v9_21)], [], [], 8⟩ := tA148 _ _ (LS.sil htt rfl rfl rfl rfl rfl rfl)
      have st4187 : A148 4 ⟨[(40, .I v9_21)], [], [], [], 8, [(41, .I (w64 (v9_21 - (1 : Int))))], [], [], 8⟩ := tA148 _ _ (LS.sil htt rfl rfl rfl rfl rfl rfl)
      have st4188 : A148 5 ⟨[(0, .S 0)], [], [], [], 8, [(42, .S 0)], [], [], 8⟩ := tA148 _ _ (LS.sil htt rfl rfl rfl rfl rfl rfl)
      have st4189 : A148 6 ⟨[(9, .I v9_21)], [], [], [], 8, [(43, .I v9_21)], [], [], 8⟩ := tA148 _ _ (LS.sil htt rfl rfl rfl rfl rfl rfl)
      have st4190 : A148 7 ⟨[(43, .I v9_21)], [], [], [], 8, [(44, .I (w64 (v9_21 - (1 : Int))))], [], [], 8⟩ := tA148 _ _ (LS.sil htt rfl rfl rfl rfl rfl rfl)
      obtain ⟨x4191, hx4191, h⟩ := ob h
      have st4192 : A148 8 ⟨[(42, .S 0), (44, .I (w64 (v9_21 - (1 : Int))))], [], [], [(0, .own (rI .i64) vk0_21 false)], 8, [(45, .P 8 0)], [(8, .el 0 (((w64 (v9_21 - (1 : Int)))).toNat * ((rI .i64)).sz))], [], 9⟩ := tA148 _ _ (LS.of rfl rfl rfl (fun _ _ _ _ _ _ _ k => WPr.ixo htt hx4191 rfl rfl rfl rfl rfl rfl rfl rfl rfl (k)) rfl)
      have st4193 : A148 9 ⟨[(45, .P 8 0)], [(8, .el 0 (((w64 (v9_21 - (1 : Int)))).toNat * ((rI .i64)).sz))], [], [(0, .own (rI .i64) vk0_21 false)], 9, [(46, .I x4191)], [], [], 9⟩ := tA148 _ _ (LS.of rfl rfl rfl (fun _ _ _ _ _ _ _ k => WPr.ldo (oI .i64) htt hx4191 rfl rfl rfl rfl rfl rfl rfl rfl rfl rfl (k)) rfl)
      have st4194 : A148 10 ⟨[(0, .S 0)], [], [], [], 9, [(47, .S 0)], [], [], 9⟩ := tA148 _ _ (LS.sil htt rfl rfl rfl rfl rfl rfl)
      have st4195 : A148 11 ⟨[(9, .I v9_21)], [], [], [], 9, [(48, .I v9_21)], [], [], 9⟩ := tA148 _ _ (LS.sil htt rfl rfl rfl rfl rfl rfl)
      obtain ⟨x4196, hx4196, h⟩ := ob h
      have st4197 : A148 12 ⟨[(47, .S 0), (48, .I v9_21)], [], [], [(0, .own (rI .i64) vk0_21 false)], 9, [(49, .P 9 0)], [(9, .el 0 ((v9_21).toNat * ((rI .i64)).sz))], [], 10⟩ := tA148 _ _ (LS.of rfl rfl rfl (fun _ _ _ _ _ _ _ k => WPr.ixo htt hx4196 rfl rfl rfl rfl rfl rfl rfl rfl rfl (k)) rfl)
      have st4198 : A148 13 ⟨[(49, .P 9 0)], [(9, .el 0 ((v9_21).toNat * ((rI .i64)).sz))], [], [(0, .own (rI .i64) vk0_21 false)], 10, [(50, .I x4196)], [], [], 10⟩ := tA148 _ _ (LS.of rfl rfl rfl (fun _ _ _ _ _ _ _ k => WPr.ldo (oI .i64) htt hx4196 rfl rfl rfl rfl rfl rfl rfl rfl rfl rfl (k)) rfl)
      obtain ⟨x4199, hx4199, h⟩ := ob h
      have st4200 : A148 14 ⟨[(37, .S 0), (38, .I v9_21)], [], [], [(0, .own (rI .i64) vk0_21 false)], 10, [(51, .P 10 0)], [(10, .el 0 ((v9_21).toNat * ((rI .i64)).sz))], [], 11⟩ := tA148 _ _ (LS.of rfl rfl rfl (fun _ _ _ _ _ _ _ k => WPr.ixo htt hx4199 rfl rfl rfl rfl rfl rfl rfl rfl rfl (k)) rfl)
      have st4201 : A148 15 ⟨[(46, .I x4191), (51, .P 10 0)], [(10, .el 0 ((v9_21).toNat * ((rI .i64)).sz))], [(0, .own (rI .i64) vk0_21 false)], [], 11, [], [], [(0, .own (rI .i64) (setL' vk0_21 v9_21 x4191) false)], 11⟩ := tA148 _ _ (LS.of rfl rfl rfl (fun _ _ _ _ _ _ _ k => WPr.sto (oI .i64) htt x4191 hx4199 rfl rfl rfl rfl rfl rfl rfl rfl rfl rfl (by exact rfl) rfl (k)) rfl)
      obtain ⟨x4202, hx4202, h⟩ := ob h
      have st4203 : A148 16 ⟨[(39, .S 0), (41, .I (w64 (v9_21 - (1 : Int))))], [], [], [(0, .own (rI .i64) (setL' vk0_21 v9_21 x4191) false)], 11, [(52, .P 11 0)], [(11, .el 0 (((w64 (v9_21 - (1 : Int)))).toNat * ((rI .i64)).sz))], [], 12⟩ := tA148 _ _ (LS.of rfl rfl rfl (fun _ _ _ _ _ _ _ k => WPr.ixo htt hx4202 rfl rfl rfl rfl rfl rfl rfl rfl rfl (k)) rfl)
      have st4204 : A148 17 ⟨[(50, .I x4196), (52, .P 11 0)], [(11, .el 0 (((w64 (v9_21 - (1 : Int)))).toNat * ((rI .i64)).sz))], [(0, .own (rI .i64) (setL' vk0_21 v9_21 x4191) false)], [], 12, [], [], [(0, .own (rI .i64) (setL' (setL' vk0_21 v9_21 x4191) (w64 (v9_21 - (1 : Int))) x4196) false)], 12⟩ := tA148 _ _ (LS.of rfl rfl rfl (fun _ _ _ _ _ _ _ k => WPr.sto (oI .i64) htt x4196 hx4202 rfl rfl rfl rfl rfl rfl rfl rfl rfl rfl (by exact rfl) rfl (k)) rfl)
      exact WP.regionD (t := ⟨[(0, .S 0), (1, .I a_), (2, .I b_), (3, .c (.cl 48 [] [1])), (8, .I v8_12), (9, .I v9_21)], [(0, .own (rI .i64) (setL' (setL' vk0_21 v9_21 x4191) (w64 (v9_21 - (1 : Int))) x4196) false), (1, .box (cC4 2 3 4 5 c0_) 27)], (vV4 2 3 4 5 c0_ []), 12⟩) [0, 0, 0, 0, 8, 0, 0, 64, 224, 480, 0, 0, 3072, 7168, 16355, 32739, 65535, 131071] (.cons (fA148 _ _ st4183) (.cons (fA148 _ _ st4184) (.cons (fA148 _ _ st4185) (.cons (fA148 _ _ st4186) (.cons (fA148 _ _ st4187) (.cons (fA148 _ _ st4188) (.cons (fA148 _ _ st4189) (.cons (fA148 _ _ st4190) (.cons (fA148 _ _ st4192) (.cons (fA148 _ _ st4193) (.cons (fA148 _ _ st4194) (.cons (fA148 _ _ st4195) (.cons (fA148 _ _ st4197) (.cons (fA148 _ _ st4198) (.cons (fA148 _ _ st4200) (.cons (fA148 _ _ st4201) (.cons (fA148 _ _ st4203) (.cons (fA148 _ _ st4204) .nil)))))))))))))))))) (by kernel_rfl) (by kernel_rfl) (by kernel_rfl) (by kernel_rfl) (WP.inBlock (WP.region (WPr.silx [] ⟨[(0, .S 0), (1, .I a_), (2, .I b_), (3, .c (.cl 48 [] [1])), (8, .I v8_12), (9, .I (w64 (v9_21 - (1 : Int))))], [(0, .own (rI .i64) (setL' (setL' vk0_21 v9_21 x4191) (w64 (v9_21 - (1 : Int))) x4196) false), (1, .box (cC4 2 3 4 5 c0_) 27)], (vV4 2 3 4 5 c0_ []), 12⟩ htt 3 (by kernel_rfl) (WPr.nil (WP.sub [] (ih21 ((setL' (setL' vk0_21 v9_21 x4191) (w64 (v9_21 - (1 : Int))) x4196), (w64 (v9_21 - (1 : Int)))) h) rfl rfl rfl rfl)))))
    exact WP.sub [] (ih N (vk0_12, v8_12) h) rfl rfl rfl rfl
  exact WP.sub [] (ih N (data_, (w64 (a_ + (1 : Int)))) h) rfl rfl rfl rfl
theorem z183_10_ct (N : Nat) (data_ : (List Int)) (a_ : Int) (b_ : Int) (n_ : Int) (c0_ : T4) (r : (List Int)) (h : z183_10 N data_ a_ b_ n_ c0_ = some r) :
  Fn Tryz.prog 183 ⟨6, [.S 0, .I a_, .I b_, .I n_, .c (.cl 48 [] [1])], (vV4 2 3 4 5 c0_ []), [(0, .own (rI .i64) data_ false), (1, .box (cC4 2 3 4 5 c0_) 27)], 6, .t [], [], [(0, .own (rI .i64) r false), (1, .box (cC4 2 3 4 5 c0_) 27)]⟩ := by
  refine Fn.intro _ _ Tryz.func183 rfl (by kernel_rfl) rfl (fun E F w => ?_)
  unfold z183_10 at h
  refine WP.seq (WP.region (WPr.sil htt 1 rfl (WPr.nil (?_))))
  refine WP.cut (σ := (List Int)) (fun st => ⟨[], [(0, .own (rI .i64) st false), (1, .box (cC4 2 3 4 5 c0_) 27)], (vV4 2 3 4 5 c0_ []), 6⟩) (fun st => z183_10_k1 st = some r) ?_ (fun j1 => ?_)
  · intro vk0_1 h
    replace h : z183_10_k1 vk0_1 = some r := h
    unfold z183_10_k1 at h
    cases h
    exact WP.fin htt Tryz.func183 [] rfl rfl rfl rfl
  refine WP.block (?_)
  refine WP.loopI (σ := (List Int) × Int) (fun st => ⟨[(0, .S 0), (1, .I a_), (2, .I b_), (3, .I n_), (10, .I st.2)], [(0, .own (rI .i64) st.1 false), (1, .box (cC4 2 3 4 5 c0_) 27)], (vV4 2 3 4 5 c0_ []), 6⟩) (fun n st => z183_10_l2 a_ b_ n_ n st.1 st.2) (r := r) (fun _ => rfl) ?_ (fun ih => ?_)
  · intro n2 ih3
    rintro ⟨vk0_3, v10_3⟩ h
    replace h : z183_10_l2 a_ b_ n_ (n2 + 1) vk0_3 v10_3 = some r := h
    unfold z183_10_l2 at h
    refine WP.seq (WP.seq (WP.region (WPr.silx [] ⟨[(0, .S 0), (1, .I a_), (2, .I b_), (3, .I n_), (10, .I v10_3), (13, .O (decide (v10_3 < n_)))], [(0, .own (rI .i64) vk0_3 false), (1, .box (cC4 2 3 4 5 c0_) 27)], (vV4 2 3 4 5 c0_ []), 6⟩ htt 3 (by kernel_rfl) (WPr.nil (?_)))))
    rcases oc' h with ⟨hc, h⟩ | ⟨hc, h⟩
    · exact WP.condF hc rfl (WP.exit rfl (WP.sub [] (j1 vk0_3 h) rfl rfl rfl rfl))
    refine WP.condT hc rfl (WP.skip (WP.seq (WP.block (WP.nm (fun A9 tA9 fA9 => ?_)))))
    have st225 : A9 0 ⟨[(0, .S 0)], [], [], [], 6, [(16, .S 0)], [], [], 6⟩ := tA9 _ _ (LS.sil htt rfl rfl rfl rfl rfl rfl)
    have st226 : A9 1 ⟨[(1, .I a_)], [], [], [], 6, [(17, .I a_)], [], [], 6⟩ := tA9 _ _ (LS.sil htt rfl rfl rfl rfl rfl rfl)
    have st227 : A9 2 ⟨[(10, .I v10_3)], [], [], [], 6, [(18, .I v10_3)], [], [], 6⟩ := tA9 _ _ (LS.sil htt rfl rfl rfl rfl rfl rfl)
    have st228 : A9 3 ⟨[(17, .I a_), (18, .I v10_3)], [], [], [], 6, [(19, .I (w64 (a_ + v10_3)))], [], [], 6⟩ := tA9 _ _ (LS.sil htt rfl rfl rfl rfl rfl rfl)
    have st229 : A9 4 ⟨[(0, .S 0)], [], [], [], 6, [(20, .S 0)], [], [], 6⟩ := tA9 _ _ (LS.sil htt rfl rfl rfl rfl rfl rfl)
    have st230 : A9 5 ⟨[(2, .I b_)], [], [], [], 6, [(21, .I b_)], [], [], 6⟩ := tA9 _ _ (LS.sil htt rfl rfl rfl rfl rfl rfl)
    have st231 : A9 6 ⟨[(10, .I v10_3)], [], [], [], 6, [(22, .I v10_3)], [], [], 6⟩ := tA9 _ _ (LS.sil htt rfl rfl rfl rfl rfl rfl)
    have st232 : A9 7 ⟨[(21, .I b_), (22, .I v10_3)], [], [], [], 6, [(23, .I (w64 (b_ + v10_3)))], [], [], 6⟩ := tA9 _ _ (LS.sil htt rfl rfl rfl rfl rfl rfl)
    have st233 : A9 8 ⟨[(0, .S 0)], [], [], [], 6, [(24, .S 0)], [], [], 6⟩ := tA9 _ _ (LS.sil htt rfl rfl rfl rfl rfl rfl)
    have st234 : A9 9 ⟨[(2, .I b_)], [], [], [], 6, [(25, .I b_)], [], [], 6⟩ := tA9 _ _ (LS.sil htt rfl rfl rfl rfl rfl rfl)
    have st235 : A9 10 ⟨[(10, .I v10_3)], [], [], [], 6, [(26, .I v10_3)], [], [], 6⟩ := tA9 _ _ (LS.sil htt rfl rfl rfl rfl rfl rfl)
    have st236 : A9 11 ⟨[(25, .I b_), (26, .I v10_3)], [], [], [], 6, [(27, .I (w64 (b_ + v10_3)))], [], [], 6⟩ := tA9 _ _ (LS.sil htt rfl rfl rfl rfl rfl rfl)
    obtain ⟨x237, hx237, h⟩ := ob h
    have st238 : A9 12 ⟨[(24, .S 0), (27, .I (w64 (b_ + v10_3)))], [], [], [(0, .own (rI .i64) vk0_3 false)], 6, [(28, .P 6 0)], [(6, .el 0 (((w64 (b_ + v10_3))).toNat * ((rI .i64)).sz))], [], 7⟩ := tA9 _ _ (LS.of rfl rfl rfl (fun _ _ _ _ _ _ _ k => WPr.ixo htt hx237 rfl rfl rfl rfl rfl rfl rfl rfl rfl (k)) rfl)
    have st239 : A9 13 ⟨[(28, .P 6 0)], [(6, .el 0 (((w64 (b_ + v10_3))).toNat * ((rI .i64)).sz))], [], [(0, .own (rI .i64) vk0_3 false)], 7, [(29, .I x237)], [], [], 7⟩ := tA9 _ _ (LS.of rfl rfl rfl (fun _ _ _ _ _ _ _ k => WPr.ldo (oI .i64) htt hx237 rfl rfl rfl rfl rfl rfl rfl rfl rfl rfl (k)) rfl)
    have st240 : A9 14 ⟨[(0, .S 0)], [], [], [], 7, [(30, .S 0)], [], [], 7⟩ := tA9 _ _ (LS.sil htt rfl rfl rfl rfl rfl rfl)
    have st241 : A9 15 ⟨[(1, .I a_)], [], [], [], 7, [(31, .I a_)], [], [], 7⟩ := tA9 _ _ (LS.sil htt rfl rfl rfl rfl rfl rfl)
    have st242 : A9 16 ⟨[(10, .I v10_3)], [], [], [], 7, [(32, .I v10_3)], [], [], 7⟩ := tA9 _ _ (LS.sil htt rfl rfl rfl rfl rfl rfl)
    have st243 : A9 17 ⟨[(31, .I a_), (32, .I v10_3)], [], [], [], 7, [(33, .I (w64 (a_ + v10_3)))], [], [], 7⟩ := tA9 _ _ (LS.sil htt rfl rfl rfl rfl rfl rfl)
    obtain ⟨x244, hx244, h⟩ := ob h
    have st245 : A9 18 ⟨[(30, .S 0), (33, .I (w64 (a_ + v10_3)))], [], [], [(0, .own (rI .i64) vk0_3 false)], 7, [(34, .P 7 0)], [(7, .el 0 (((w64 (a_ + v10_3))).toNat * ((rI .i64)).sz))], [], 8⟩ := tA9 _ _ (LS.of rfl rfl rfl (fun _ _ _ _ _ _ _ k => WPr.ixo htt hx244 rfl rfl rfl rfl rfl rfl rfl rfl rfl (k)) rfl)
    have st246 : A9 19 ⟨[(34, .P 7 0)], [(7, .el 0 (((w64 (a_ + v10_3))).toNat * ((rI .i64)).sz))], [], [(0, .own (rI .i64) vk0_3 false)], 8, [(35, .I x244)], [], [], 8⟩ := tA9 _ _ (LS.of rfl rfl rfl (fun _ _ _ _ _ _ _ k => WPr.ldo (oI .i64) htt hx244 rfl rfl rfl rfl rfl rfl rfl rfl rfl rfl (k)) rfl)
    obtain ⟨x247, hx247, h⟩ := ob h
    have st248 : A9 20 ⟨[(16, .S 0), (19, .I (w64 (a_ + v10_3)))], [], [], [(0, .own (rI .i64) vk0_3 false)], 8, [(36, .P 8 0)], [(8, .el 0 (((w64 (a_ + v10_3))).toNat * ((rI .i64)).sz))], [], 9⟩ := tA9 _ _ (LS.of rfl rfl rfl (fun _ _ _ _ _ _ _ k => WPr.ixo htt hx247 rfl rfl rfl rfl rfl rfl rfl rfl rfl (k)) rfl)
    have st249 : A9 21 ⟨[(29, .I x237), (36, .P 8 0)], [(8, .el 0 (((w64 (a_ + v10_3))).toNat * ((rI .i64)).sz))], [(0, .own (rI .i64) vk0_3 false)], [], 9, [], [], [(0, .own (rI .i64) (setL' vk0_3 (w64 (a_ + v10_3)) x237) false)], 9⟩ := tA9 _ _ (LS.of rfl rfl rfl (fun _ _ _ _ _ _ _ k => WPr.sto (oI .i64) htt x237 hx247 rfl rfl rfl rfl rfl rfl rfl rfl rfl rfl (by exact rfl) rfl (k)) rfl)
    obtain ⟨x250, hx250, h⟩ := ob h
    have st251 : A9 22 ⟨[(20, .S 0), (23, .I (w64 (b_ + v10_3)))], [], [], [(0, .own (rI .i64) (setL' vk0_3 (w64 (a_ + v10_3)) x237) false)], 9, [(37, .P 9 0)], [(9, .el 0 (((w64 (b_ + v10_3))).toNat * ((rI .i64)).sz))], [], 10⟩ := tA9 _ _ (LS.of rfl rfl rfl (fun _ _ _ _ _ _ _ k => WPr.ixo htt hx250 rfl rfl rfl rfl rfl rfl rfl rfl rfl (k)) rfl)
    have st252 : A9 23 ⟨[(35, .I x244), (37, .P 9 0)], [(9, .el 0 (((w64 (b_ + v10_3))).toNat * ((rI .i64)).sz))], [(0, .own (rI .i64) (setL' vk0_3 (w64 (a_ + v10_3)) x237) false)], [], 10, [], [], [(0, .own (rI .i64) (setL' (setL' vk0_3 (w64 (a_ + v10_3)) x237) (w64 (b_ + v10_3)) x244) false)], 10⟩ := tA9 _ _ (LS.of rfl rfl rfl (fun _ _ _ _ _ _ _ k => WPr.sto (oI .i64) htt x244 hx250 rfl rfl rfl rfl rfl rfl rfl rfl rfl rfl (by exact rfl) rfl (k)) rfl)
    exact WP.regionD (t := ⟨[(0, .S 0), (1, .I a_), (2, .I b_), (3, .I n_), (10, .I v10_3)], [(0, .own (rI .i64) (setL' (setL' vk0_3 (w64 (a_ + v10_3)) x237) (w64 (b_ + v10_3)) x244) false), (1, .box (cC4 2 3 4 5 c0_) 27)], (vV4 2 3 4 5 c0_ []), 10⟩) [0, 0, 0, 6, 0, 0, 0, 96, 0, 0, 0, 1536, 3840, 7936, 0, 0, 0, 98304, 245760, 507904, 1048335, 2096911, 4194303, 8388607] (.cons (fA9 _ _ st225) (.cons (fA9 _ _ st226) (.cons (fA9 _ _ st227) (.cons (fA9 _ _ st228) (.cons (fA9 _ _ st229) (.cons (fA9 _ _ st230) (.cons (fA9 _ _ st231) (.cons (fA9 _ _ st232) (.cons (fA9 _ _ st233) (.cons (fA9 _ _ st234) (.cons (fA9 _ _ st235) (.cons (fA9 _ _ st236) (.cons (fA9 _ _ st238) (.cons (fA9 _ _ st239) (.cons (fA9 _ _ st240) (.cons (fA9 _ _ st241) (.cons (fA9 _ _ st242) (.cons (fA9 _ _ st243) (.cons (fA9 _ _ st245) (.cons (fA9 _ _ st246) (.cons (fA9 _ _ st248) (.cons (fA9 _ _ st249) (.cons (fA9 _ _ st251) (.cons (fA9 _ _ st252) .nil)))))))))))))))))))))))) (by kernel_rfl) (by kernel_rfl) (by kernel_rfl) (by kernel_rfl) (WP.inBlock (WP.region (WPr.silx [] ⟨[(0, .S 0), (1, .I a_), (2, .I b_), (3, .I n_), (10, .I (w64 (v10_3 + (1 : Int))))], [(0, .own (rI .i64) (setL' (setL' vk0_3 (w64 (a_ + v10_3)) x237) (w64 (b_ + v10_3)) x244) false), (1, .box (cC4 2 3 4 5 c0_) 27)], (vV4 2 3 4 5 c0_ []), 10⟩ htt 3 (by kernel_rfl) (WPr.nil (WP.sub [] (ih3 ((setL' (setL' vk0_3 (w64 (a_ + v10_3)) x237) (w64 (b_ + v10_3)) x244), (w64 (v10_3 + (1 : Int)))) h) rfl rfl rfl rfl)))))
  exact WP.sub [] (ih N (data_, (0 : Int)) h) rfl rfl rfl rfl
theorem z168_11_ct (N : Nat) (data_ : (List Int)) (a_ : Int) (m_ : Int) (b_ : Int) (c0_ : T4) (r : (List Int)) (h : z168_11 N data_ a_ m_ b_ c0_ = some r) :
  Fn Tryz.prog 168 ⟨6, [.S 0, .I a_, .I m_, .I b_, .c (.cl 48 [] [1])], (vV4 2 3 4 5 c0_ []), [(0, .own (rI .i64) data_ false), (1, .box (cC4 2 3 4 5 c0_) 27)], 6, .t [], [], [(0, .own (rI .i64) r false), (1, .box (cC4 2 3 4 5 c0_) 27)]⟩ := by
  refine Fn.intro _ _ Tryz.func168 rfl (by kernel_rfl) rfl (fun E F w => ?_)
  unfold z168_11 at h
  refine WP.seq (WP.region (WPr.silx [] ⟨[(0, .S 0), (2, .I m_), (3, .I b_), (4, .c (.cl 48 [] [1])), (10, .I (w64 (m_ - a_)))], [(0, .own (rI .i64) data_ false), (1, .box (cC4 2 3 4 5 c0_) 27)], (vV4 2 3 4 5 c0_ []), 6⟩ htt 4 (by kernel_rfl) (WPr.nil (WP.seq (WP.region (WPr.silx [] ⟨[(0, .S 0), (2, .I m_), (4, .c (.cl 48 [] [1])), (10, .I (w64 (m_ - a_))), (11, .I (w64 (b_ - m_)))], [(0, .own (rI .i64) data_ false), (1, .box (cC4 2 3 4 5 c0_) 27)], (vV4 2 3 4 5 c0_ []), 6⟩ htt 4 (by kernel_rfl) (WPr.nil (WP.seq (?_)))))))))
  refine WP.cut (σ := (List Int) × Int) (fun st => ⟨[(0, .S 0), (2, .I m_), (4, .c (.cl 48 [] [1])), (10, .I st.2)], [(0, .own (rI .i64) st.1 false), (1, .box (cC4 2 3 4 5 c0_) 27)], (vV4 2 3 4 5 c0_ []), 6⟩) (fun st => z168_11_k1 N m_ c0_ st.1 st.2 = some r) ?_ (fun j1 => ?_)
  · rintro ⟨vk0_1, v10_1⟩ h
    replace h : z168_11_k1 N m_ c0_ vk0_1 v10_1 = some r := h
    unfold z168_11_k1 at h
    refine WP.region (WPr.silx [7] ⟨[(50, .S 0), (53, .I (w64 (m_ - v10_1))), (54, .I m_), (55, .I v10_1), (56, .c (.cl 48 [] [1]))], [(0, .own (rI .i64) vk0_1 false), (1, .box (cC4 2 3 4 5 c0_) 27)], (vV4 2 3 4 5 c0_ []), 6⟩ htt 7 (by kernel_rfl) (?_))
    obtain ⟨x9, hx9, h⟩ := ob h
    refine WPr.call (z183_10_ct N vk0_1 (w64 (m_ - v10_1)) m_ v10_1 c0_ _ hx9) [(0, .sl 0), (1, .bp 1 0), (2, .sl 2), (3, .sl 3), (4, .sl 4), (5, .sl 5)] [] rfl rfl rfl rfl rfl rfl rfl rfl (.inl rfl) rfl (WPr.silx [] ⟨[], [(0, .own (rI .i64) x9 false), (1, .box (cC4 2 3 4 5 c0_) 27)], (vV4 2 3 4 5 c0_ []), 6⟩ htt 0 (by kernel_rfl) (WPr.nil (?_)))
    cases h
    exact WP.fin htt Tryz.func168 [] rfl rfl rfl rfl
  refine WP.block (?_)
  refine WP.loopI (σ := (List Int) × Int × Int) (fun st => ⟨[(0, .S 0), (2, .I m_), (4, .c (.cl 48 [] [1])), (10, .I st.2.1), (11, .I st.2.2)], [(0, .own (rI .i64) st.1 false), (1, .box (cC4 2 3 4 5 c0_) 27)], (vV4 2 3 4 5 c0_ []), 6⟩) (fun n st => z168_11_l2 N m_ c0_ n st.1 st.2.1 st.2.2) (r := r) (fun _ => rfl) ?_ (fun ih => ?_)
  · intro n2 ih3
    rintro ⟨vk0_3, v10_3, v11_3⟩ h
    replace h : z168_11_l2 N m_ c0_ (n2 + 1) vk0_3 v10_3 v11_3 = some r := h
    unfold z168_11_l2 at h
    refine WP.seq (WP.seq (WP.region (WPr.silx [] ⟨[(0, .S 0), (2, .I m_), (4, .c (.cl 48 [] [1])), (10, .I v10_3), (11, .I v11_3), (20, .O (v10_3 != v11_3))], [(0, .own (rI .i64) vk0_3 false), (1, .box (cC4 2 3 4 5 c0_) 27)], (vV4 2 3 4 5 c0_ []), 6⟩ htt 3 (by kernel_rfl) (WPr.nil (?_)))))
    rcases oc' h with ⟨hc, h⟩ | ⟨hc, h⟩
    · exact WP.condF hc rfl (WP.exit rfl (WP.sub [] (j1 (vk0_3, v10_3) h) rfl rfl rfl rfl))
    refine WP.condT hc rfl (WP.skip (WP.block (WP.seq (WP.region (WPr.silx [] ⟨[(0, .S 0), (2, .I m_), (4, .c (.cl 48 [] [1])), (10, .I v10_3), (11, .I v11_3), (23, .O (decide (v10_3 > v11_3)))], [(0, .own (rI .i64) vk0_3 false), (1, .box (cC4 2 3 4 5 c0_) 27)], (vV4 2 3 4 5 c0_ []), 6⟩ htt 3 (by kernel_rfl) (WPr.nil (?_)))))))
    rcases oc h with ⟨hc, h⟩ | ⟨hc, h⟩
    · refine WP.condT hc rfl (WP.seq (WP.region (WPr.silx [7] ⟨[(0, .S 0), (2, .I m_), (4, .c (.cl 48 [] [1])), (10, .I v10_3), (11, .I v11_3), (24, .S 0), (27, .I (w64 (m_ - v10_3))), (28, .I m_), (29, .I v11_3), (30, .c (.cl 48 [] [1]))], [(0, .own (rI .i64) vk0_3 false), (1, .box (cC4 2 3 4 5 c0_) 27)], (vV4 2 3 4 5 c0_ []), 6⟩ htt 7 (by kernel_rfl) (?_))))
      obtain ⟨x18, hx18, h⟩ := ob h
      exact WPr.call (z183_10_ct N vk0_3 (w64 (m_ - v10_3)) m_ v11_3 c0_ _ hx18) [(0, .sl 0), (1, .bp 1 0), (2, .sl 2), (3, .sl 3), (4, .sl 4), (5, .sl 5)] [] rfl rfl rfl rfl rfl rfl rfl rfl (.inl rfl) rfl (WPr.silx [] ⟨[(0, .S 0), (2, .I m_), (4, .c (.cl 48 [] [1])), (10, .I v10_3), (11, .I v11_3)], [(0, .own (rI .i64) x18 false), (1, .box (cC4 2 3 4 5 c0_) 27)], (vV4 2 3 4 5 c0_ []), 6⟩ htt 0 (by kernel_rfl) (WPr.nil (WP.region (WPr.silx [] ⟨[(0, .S 0), (2, .I m_), (4, .c (.cl 48 [] [1])), (10, .I (w64 (v10_3 - v11_3))), (11, .I v11_3)], [(0, .own (rI .i64) x18 false), (1, .box (cC4 2 3 4 5 c0_) 27)], (vV4 2 3 4 5 c0_ []), 6⟩ htt 4 (by kernel_rfl) (WPr.nil (WP.inBlock (WP.sub [] (ih3 (x18, (w64 (v10_3 - v11_3)), v11_3) h) rfl rfl rfl rfl)))))))
    refine WP.condF hc rfl (WP.seq (WP.region (WPr.silx [11] ⟨[(0, .S 0), (2, .I m_), (4, .c (.cl 48 [] [1])), (10, .I v10_3), (11, .I v11_3), (35, .S 0), (38, .I (w64 (m_ - v10_3))), (43, .I (w64 ((w64 (m_ + v11_3)) - v10_3))), (44, .I v10_3), (45, .c (.cl 48 [] [1]))], [(0, .own (rI .i64) vk0_3 false), (1, .box (cC4 2 3 4 5 c0_) 27)], (vV4 2 3 4 5 c0_ []), 6⟩ htt 11 (by kernel_rfl) (?_))))
    obtain ⟨x19, hx19, h⟩ := ob h
    exact WPr.call (z183_10_ct N vk0_3 (w64 (m_ - v10_3)) (w64 ((w64 (m_ + v11_3)) - v10_3)) v10_3 c0_ _ hx19) [(0, .sl 0), (1, .bp 1 0), (2, .sl 2), (3, .sl 3), (4, .sl 4), (5, .sl 5)] [] rfl rfl rfl rfl rfl rfl rfl rfl (.inl rfl) rfl (WPr.silx [] ⟨[(0, .S 0), (2, .I m_), (4, .c (.cl 48 [] [1])), (10, .I v10_3), (11, .I v11_3)], [(0, .own (rI .i64) x19 false), (1, .box (cC4 2 3 4 5 c0_) 27)], (vV4 2 3 4 5 c0_ []), 6⟩ htt 0 (by kernel_rfl) (WPr.nil (WP.region (WPr.silx [] ⟨[(0, .S 0), (2, .I m_), (4, .c (.cl 48 [] [1])), (10, .I v10_3), (11, .I (w64 (v11_3 - v10_3)))], [(0, .own (rI .i64) x19 false), (1, .box (cC4 2 3 4 5 c0_) 27)], (vV4 2 3 4 5 c0_ []), 6⟩ htt 4 (by kernel_rfl) (WPr.nil (WP.inBlock (WP.sub [] (ih3 (x19, v10_3, (w64 (v11_3 - v10_3))) h) rfl rfl rfl rfl)))))))
  exact WP.sub [] (ih N (data_, (w64 (m_ - a_)), (w64 (b_ - m_))) h) rfl rfl rfl rfl
theorem z147_12_ct (N : Nat) (rc_slices_symMergeCmpFunc_int_of_global_Edges_1 : (List Int) → Int → Int → Int → T4 → Option (List Int)) (rc_slices_symMergeCmpFunc_int_of_global_Edges_1_ct : (∀ (data_ : (List Int)) (a_ : Int) (m_ : Int) (b_ : Int) (c0_ : T4) (r : (List Int)), rc_slices_symMergeCmpFunc_int_of_global_Edges_1 data_ a_ m_ b_ c0_ = some r → Fn Tryz.prog 147 ⟨6, [.S 0, .I a_, .I m_, .I b_, .c (.cl 48 [] [1])], (vV4 2 3 4 5 c0_ []), [(0, .own (rI .i64) data_ false), (1, .box (cC4 2 3 4 5 c0_) 27)], 6, .t [], [], [(0, .own (rI .i64) r false), (1, .box (cC4 2 3 4 5 c0_) 27)]⟩)) (data_ : (List Int)) (a_ : Int) (m_ : Int) (b_ : Int) (c0_ : T4) (r : (List Int)) (h : z147_12 N rc_slices_symMergeCmpFunc_int_of_global_Edges_1 data_ a_ m_ b_ c0_ = some r) :
  Fn Tryz.prog 147 ⟨6, [.S 0, .I a_, .I m_, .I b_, .c (.cl 48 [] [1])], (vV4 2 3 4 5 c0_ []), [(0, .own (rI .i64) data_ false), (1, .box (cC4 2 3 4 5 c0_) 27)], 6, .t [], [], [(0, .own (rI .i64) r false), (1, .box (cC4 2 3 4 5 c0_) 27)]⟩ := by
  refine Fn.intro _ _ Tryz.func147 rfl (by kernel_rfl) rfl (fun E F w => ?_)
  unfold z147_12 at h
  refine WP.seq (WP.seq (WP.region (WPr.silx [] ⟨[(0, .S 0), (1, .I a_), (2, .I m_), (3, .I b_), (4, .c (.cl 48 [] [1])), (28, .O ((w64 (m_ - a_)) == (1 : Int)))], [(0, .own (rI .i64) data_ false), (1, .box (cC4 2 3 4 5 c0_) 27)], (vV4 2 3 4 5 c0_ []), 6⟩ htt 4 (by kernel_rfl) (WPr.nil (?_)))))
  rcases oc h with ⟨hc, h⟩ | ⟨hc, h⟩
  · refine WP.condT hc rfl (WP.seq (WP.region (WPr.sil htt 2 rfl (WPr.nil (WP.seq (WP.region (WPr.silx [] ⟨[(0, .S 0), (1, .I a_), (4, .c (.cl 48 [] [1])), (10, .I m_), (11, .I b_)], [(0, .own (rI .i64) data_ false), (1, .box (cC4 2 3 4 5 c0_) 27)], (vV4 2 3 4 5 c0_ []), 6⟩ htt 2 (by kernel_rfl) (WPr.nil (WP.seq (?_))))))))))
    refine WP.cut (σ := Int) (fun st => ⟨[(0, .S 0), (1, .I a_), (10, .I st)], [(0, .own (rI .i64) data_ false), (1, .box (cC4 2 3 4 5 c0_) 27)], (vV4 2 3 4 5 c0_ []), 6⟩) (fun st => slices_symMergeCmpFunc_int_of_global_Edges_1_k3 N data_ a_ st = some r) ?_ (fun j1 => ?_)
    · intro v10_1 h
      replace h : slices_symMergeCmpFunc_int_of_global_Edges_1_k3 N data_ a_ v10_1 = some r := h
      unfold slices_symMergeCmpFunc_int_of_global_Edges_1_k3 at h
      refine WP.seq (WP.seq (WP.region (WPr.sil htt 2 rfl (WPr.nil (?_)))))
      refine WP.cut (σ := (List Int)) (fun st => ⟨[], [(0, .own (rI .i64) st false), (1, .box (cC4 2 3 4 5 c0_) 27)], (vV4 2 3 4 5 c0_ []), 6⟩) (fun st => slices_symMergeCmpFunc_int_of_global_Edges_1_k1 st = some r) ?_ (fun j3 => ?_)
      · intro vk0_3 h
        replace h : slices_symMergeCmpFunc_int_of_global_Edges_1_k1 vk0_3 = some r := h
        unfold slices_symMergeCmpFunc_int_of_global_Edges_1_k1 at h
        cases h
        exact WP.ret htt Tryz.func147 [] rfl rfl rfl rfl
      refine WP.block (?_)
      refine WP.loopI (σ := (List Int) × Int) (fun st => ⟨[(0, .S 0), (10, .I v10_1), (13, .I st.2)], [(0, .own (rI .i64) st.1 false), (1, .box (cC4 2 3 4 5 c0_) 27)], (vV4 2 3 4 5 c0_ []), 6⟩) (fun n st => slices_symMergeCmpFunc_int_of_global_Edges_1_l2 v10_1 n st.1 st.2) (r := r) (fun _ => rfl) ?_ (fun ih => ?_)
      · intro n3 ih5
        rintro ⟨vk0_5, v13_5⟩ h
        replace h : slices_symMergeCmpFunc_int_of_global_Edges_1_l2 v10_1 (n3 + 1) vk0_5 v13_5 = some r := h
        unfold slices_symMergeCmpFunc_int_of_global_Edges_1_l2 at h
        refine WP.seq (WP.seq (WP.region (WPr.silx [] ⟨[(0, .S 0), (10, .I v10_1), (13, .I v13_5), (58, .O (decide (v13_5 < (w64 (v10_1 - (1 : Int))))))], [(0, .own (rI .i64) vk0_5 false), (1, .box (cC4 2 3 4 5 c0_) 27)], (vV4 2 3 4 5 c0_ []), 6⟩ htt 4 (by kernel_rfl) (WPr.nil (?_)))))
        rcases oc' h with ⟨hc, h⟩ | ⟨hc, h⟩
        · exact WP.condF hc rfl (WP.exit rfl (WP.sub [] (j3 vk0_5 h) rfl rfl rfl rfl))
        refine WP.condT hc rfl (WP.skip (WP.seq (WP.block (WP.nm (fun A13 tA13 fA13 => ?_)))))
        have st237 : A13 0 ⟨[(0, .S 0)], [], [], [], 6, [(61, .S 0)], [], [], 6⟩ := tA13 _ _ (LS.sil htt rfl rfl rfl rfl rfl rfl)
        have st238 : A13 1 ⟨[(13, .I v13_5)], [], [], [], 6, [(62, .I v13_5)], [], [], 6⟩ := tA13 _ _ (LS.sil htt rfl rfl rfl rfl rfl rfl)
        have st239 : A13 2 ⟨[(0, .S 0)], [], [], [], 6, [(63, .S 0)], [], [], 6⟩ := tA13 _ _ (LS.sil htt rfl rfl rfl rfl rfl rfl)
        have st240 : A13 3 ⟨[(13, .I v13_5)], [], [], [], 6, [(64, .I v13_5)], [], [], 6⟩ := tA13 _ _ (LS.sil htt rfl rfl rfl rfl rfl rfl)
        have st241 : A13 4 ⟨[(64, .I v13_5)], [], [], [], 6, [(65, .I (w64 (v13_5 + (1 : Int))))], [], [], 6⟩ := tA13 _ _ (LS.sil htt rfl rfl rfl rfl rfl rfl)
        have st242 : A13 5 ⟨[(0, .S 0)], [], [], [], 6, [(66, .S 0)], [], [], 6⟩ := tA13 _ _ (LS.sil htt rfl rfl rfl rfl rfl rfl)
        have st243 : A13 6 ⟨[(13, .I v13_5)], [], [], [], 6, [(67, .I v13_5)], [], [], 6⟩ := tA13 _ _ (LS.sil htt rfl rfl rfl rfl rfl rfl)
        have st244 : A13 7 ⟨[(67, .I v13_5)], [], [], [], 6, [(68, .I (w64 (v13_5 + (1 : Int))))], [], [], 6⟩ := tA13 _ _ (LS.sil htt rfl rfl rfl rfl rfl rfl)
        obtain ⟨x245, hx245, h⟩ := ob h
        have st246 : A13 8 ⟨[(66, .S 0), (68, .I (w64 (v13_5 + (1 : Int))))], [], [], [(0, .own (rI .i64) vk0_5 false)], 6, [(69, .P 6 0)], [(6, .el 0 (((w64 (v13_5 + (1 : Int)))).toNat * ((rI .i64)).sz))], [], 7⟩ := tA13 _ _ (LS.of rfl rfl rfl (fun _ _ _ _ _ _ _ k => WPr.ixo htt hx245 rfl rfl rfl rfl rfl rfl rfl rfl rfl (k)) rfl)
        have st247 : A13 9 ⟨[(69, .P 6 0)], [(6, .el 0 (((w64 (v13_5 + (1 : Int)))).toNat * ((rI .i64)).sz))], [], [(0, .own (rI .i64) vk0_5 false)], 7, [(70, .I x245)], [], [], 7⟩ := tA13 _ _ (LS.of rfl rfl rfl (fun _ _ _ _ _ _ _ k => WPr.ldo (oI .i64) htt hx245 rfl rfl rfl rfl rfl rfl rfl rfl rfl rfl (k)) rfl)
        have st248 : A13 10 ⟨[(0, .S 0)], [], [], [], 7, [(71, .S 0)], [], [], 7⟩ := tA13 _ _ (LS.sil htt rfl rfl rfl rfl rfl rfl)
        have st249 : A13 11 ⟨[(13, .I v13_5)], [], [], [], 7, [(72, .I v13_5)], [], [], 7⟩ := tA13 _ _ (LS.sil htt rfl rfl rfl rfl rfl rfl)
        obtain ⟨x250, hx250, h⟩ := ob h
        have st251 : A13 12 ⟨[(71, .S 0), (72, .I v13_5)], [], [], [(0, .own (rI .i64) vk0_5 false)], 7, [(73, .P 7 0)], [(7, .el 0 ((v13_5).toNat * ((rI .i64)).sz))], [], 8⟩ := tA13 _ _ (LS.of rfl rfl rfl (fun _ _ _ _ _ _ _ k => WPr.ixo htt hx250 rfl rfl rfl rfl rfl rfl rfl rfl rfl (k)) rfl)
        have st252 : A13 13 ⟨[(73, .P 7 0)], [(7, .el 0 ((v13_5).toNat * ((rI .i64)).sz))], [], [(0, .own (rI .i64) vk0_5 false)], 8, [(74, .I x250)], [], [], 8⟩ := tA13 _ _ (LS.of rfl rfl rfl (fun _ _ _ _ _ _ _ k => WPr.ldo (oI .i64) htt hx250 rfl rfl rfl rfl rfl rfl rfl rfl rfl rfl (k)) rfl)
        obtain ⟨x253, hx253, h⟩ := ob h
        have st254 : A13 14 ⟨[(61, .S 0), (62, .I v13_5)], [], [], [(0, .own (rI .i64) vk0_5 false)], 8, [(75, .P 8 0)], [(8, .el 0 ((v13_5).toNat * ((rI .i64)).sz))], [], 9⟩ := tA13 _ _ (LS.of rfl rfl rfl (fun _ _ _ _ _ _ _ k => WPr.ixo htt hx253 rfl rfl rfl rfl rfl rfl rfl rfl rfl (k)) rfl)
        have st255 : A13 15 ⟨[(70, .I x245), (75, .P 8 0)], [(8, .el 0 ((v13_5).toNat * ((rI .i64)).sz))], [(0, .own (rI .i64) vk0_5 false)], [], 9, [], [], [(0, .own (rI .i64) (setL' vk0_5 v13_5 x245) false)], 9⟩ := tA13 _ _ (LS.of rfl rfl rfl (fun _ _ _ _ _ _ _ k => WPr.sto (oI .i64) htt x245 hx253 rfl rfl rfl rfl rfl rfl rfl rfl rfl rfl (by exact rfl) rfl (k)) rfl)
        obtain ⟨x256, hx256, h⟩ := ob h
        have st257 : A13 16 ⟨[(63, .S 0), (65, .I (w64 (v13_5 + (1 : Int))))], [], [], [(0, .own (rI .i64) (setL' vk0_5 v13_5 x245) false)], 9, [(76, .P 9 0)], [(9, .el 0 (((w64 (v13_5 + (1 : Int)))).toNat * ((rI .i64)).sz))], [], 10⟩ := tA13 _ _ (LS.of rfl rfl rfl (fun _ _ _ _ _ _ _ k => WPr.ixo htt hx256 rfl rfl rfl rfl rfl rfl rfl rfl rfl (k)) rfl)
        have st258 : A13 17 ⟨[(74, .I x250), (76, .P 9 0)], [(9, .el 0 (((w64 (v13_5 + (1 : Int)))).toNat * ((rI .i64)).sz))], [(0, .own (rI .i64) (setL' vk0_5 v13_5 x245) false)], [], 10, [], [], [(0, .own (rI .i64) (setL' (setL' vk0_5 v13_5 x245) (w64 (v13_5 + (1 : Int))) x250) false)], 10⟩ := tA13 _ _ (LS.of rfl rfl rfl (fun _ _ _ _ _ _ _ k => WPr.sto (oI .i64) htt x250 hx256 rfl rfl rfl rfl rfl rfl rfl rfl rfl rfl (by exact rfl) rfl (k)) rfl)
        exact WP.regionD (t := ⟨[(0, .S 0), (10, .I v10_1), (13, .I v13_5)], [(0, .own (rI .i64) (setL' (setL' vk0_5 v13_5 x245) (w64 (v13_5 + (1 : Int))) x250) false), (1, .box (cC4 2 3 4 5 c0_) 27)], (vV4 2 3 4 5 c0_ []), 10⟩) [0, 0, 0, 0, 8, 0, 0, 64, 224, 480, 0, 0, 3072, 7168, 16355, 32739, 65535, 131071] (.cons (fA13 _ _ st237) (.cons (fA13 _ _ st238) (.cons (fA13 _ _ st239) (.cons (fA13 _ _ st240) (.cons (fA13 _ _ st241) (.cons (fA13 _ _ st242) (.cons (fA13 _ _ st243) (.cons (fA13 _ _ st244) (.cons (fA13 _ _ st246) (.cons (fA13 _ _ st247) (.cons (fA13 _ _ st248) (.cons (fA13 _ _ st249) (.cons (fA13 _ _ st251) (.cons (fA13 _ _ st252) (.cons (fA13 _ _ st254) (.cons (fA13 _ _ st255) (.cons (fA13 _ _ st257) (.cons (fA13 _ _ st258) .nil)))))))))))))))))) (by kernel_rfl) (by kernel_rfl) (by kernel_rfl) (by kernel_rfl) (WP.inBlock (WP.region (WPr.silx [] ⟨[(0, .S 0), (10, .I v10_1), (13, .I (w64 (v13_5 + (1 : Int))))], [(0, .own (rI .i64) (setL' (setL' vk0_5 v13_5 x245) (w64 (v13_5 + (1 : Int))) x250) false), (1, .box (cC4 2 3 4 5 c0_) 27)], (vV4 2 3 4 5 c0_ []), 10⟩ htt 3 (by kernel_rfl) (WPr.nil (WP.sub [] (ih5 ((setL' (setL' vk0_5 v13_5 x245) (w64 (v13_5 + (1 : Int))) x250), (w64 (v13_5 + (1 : Int)))) h) rfl rfl rfl rfl)))))
      exact WP.sub [] (ih N (data_, a_) h) rfl rfl rfl rfl
    refine WP.block (?_)
    refine WP.loopI (σ := Int × Int) (fun st => ⟨[(0, .S 0), (1, .I a_), (4, .c (.cl 48 [] [1])), (10, .I st.1), (11, .I st.2)], [(0, .own (rI .i64) data_ false), (1, .box (cC4 2 3 4 5 c0_) 27)], (vV4 2 3 4 5 c0_ []), 6⟩) (fun n st => slices_symMergeCmpFunc_int_of_global_Edges_1_l4 N data_ a_ c0_ n st.1 st.2) (r := r) (fun _ => rfl) ?_ (fun ih => ?_)
    · intro n4 ih6
      rintro ⟨v10_6, v11_6⟩ h
      replace h : slices_symMergeCmpFunc_int_of_global_Edges_1_l4 N data_ a_ c0_ (n4 + 1) v10_6 v11_6 = some r := h
      unfold slices_symMergeCmpFunc_int_of_global_Edges_1_l4 at h
      refine WP.seq (WP.seq (WP.region (WPr.silx [] ⟨[(0, .S 0), (1, .I a_), (4, .c (.cl 48 [] [1])), (10, .I v10_6), (11, .I v11_6), (33, .O (decide (v10_6 < v11_6)))], [(0, .own (rI .i64) data_ false), (1, .box (cC4 2 3 4 5 c0_) 27)], (vV4 2 3 4 5 c0_ []), 6⟩ htt 3 (by kernel_rfl) (WPr.nil (?_)))))
      rcases oc' h with ⟨hc, h⟩ | ⟨hc, h⟩
      · exact WP.condF hc rfl (WP.exit rfl (WP.sub [] (j1 v10_6 h) rfl rfl rfl rfl))
      refine WP.condT hc rfl (WP.skip (WP.block (WP.seq (WP.region (WPr.silx [4, 5, 6] ⟨[(0, .S 0), (1, .I a_), (4, .c (.cl 48 [] [1])), (10, .I v10_6), (11, .I v11_6), (37, .c (.i .u64 (wk .u64 ((w64 (v10_6 + v11_6))))))], [(0, .own (rI .i64) data_ false), (1, .box (cC4 2 3 4 5 c0_) 27)], (vV4 2 3 4 5 c0_ []), 6⟩ htt 4 (by kernel_rfl) (?_))))))
      obtain ⟨x319, hx319, h⟩ := ob h
      refine WPr.bin hx319 rfl rfl rfl rfl rfl rfl rfl rfl (WPr.silx [] ⟨[(0, .S 0), (1, .I a_), (4, .c (.cl 48 [] [1])), (10, .I v10_6), (11, .I v11_6), (12, .I (w64 (x319)))], [(0, .own (rI .i64) data_ false), (1, .box (cC4 2 3 4 5 c0_) 27)], (vV4 2 3 4 5 c0_ []), 6⟩ htt 2 (by kernel_rfl) (WPr.nil (WP.seq (WP.nm (fun A18 tA18 fA18 => ?_)))))
      have st320 : A18 0 ⟨[(4, .c (.cl 48 [] [1]))], [], [], [], 6, [(40, .c (.cl 48 [] [1]))], [], [], 6⟩ := tA18 _ _ (LS.sil htt rfl rfl rfl rfl rfl rfl)
      have st321 : A18 1 ⟨[(0, .S 0)], [], [], [], 6, [(41, .S 0)], [], [], 6⟩ := tA18 _ _ (LS.sil htt rfl rfl rfl rfl rfl rfl)
      have st322 : A18 2 ⟨[(12, .I (w64 (x319)))], [], [], [], 6, [(42, .I (w64 (x319)))], [], [], 6⟩ := tA18 _ _ (LS.sil htt rfl rfl rfl rfl rfl rfl)
      obtain ⟨x323, hx323, h⟩ := ob h
      have st324 : A18 3 ⟨[(41, .S 0), (42, .I (w64 (x319)))], [], [], [(0, .own (rI .i64) data_ false)], 6, [(43, .P 6 0)], [(6, .el 0 (((w64 (x319))).toNat * ((rI .i64)).sz))], [], 7⟩ := tA18 _ _ (LS.of rfl rfl rfl (fun _ _ _ _ _ _ _ k => WPr.ixo htt hx323 rfl rfl rfl rfl rfl rfl rfl rfl rfl (k)) rfl)
      have st325 : A18 4 ⟨[(43, .P 6 0)], [(6, .el 0 (((w64 (x319))).toNat * ((rI .i64)).sz))], [], [(0, .own (rI .i64) data_ false)], 7, [(44, .I x323)], [], [], 7⟩ := tA18 _ _ (LS.of rfl rfl rfl (fun _ _ _ _ _ _ _ k => WPr.ldo (oI .i64) htt hx323 rfl rfl rfl rfl rfl rfl rfl rfl rfl rfl (k)) rfl)
      have st326 : A18 5 ⟨[(0, .S 0)], [], [], [], 7, [(45, .S 0)], [], [], 7⟩ := tA18 _ _ (LS.sil htt rfl rfl rfl rfl rfl rfl)
      have st327 : A18 6 ⟨[(1, .I a_)], [], [], [], 7, [(46, .I a_)], [], [], 7⟩ := tA18 _ _ (LS.sil htt rfl rfl rfl rfl rfl rfl)
      obtain ⟨x328, hx328, h⟩ := ob h
      have st329 : A18 7 ⟨[(45, .S 0), (46, .I a_)], [], [], [(0, .own (rI .i64) data_ false)], 7, [(47, .P 7 0)], [(7, .el 0 ((a_).toNat * ((rI .i64)).sz))], [], 8⟩ := tA18 _ _ (LS.of rfl rfl rfl (fun _ _ _ _ _ _ _ k => WPr.ixo htt hx328 rfl rfl rfl rfl rfl rfl rfl rfl rfl (k)) rfl)
      have st330 : A18 8 ⟨[(47, .P 7 0)], [(7, .el 0 ((a_).toNat * ((rI .i64)).sz))], [], [(0, .own (rI .i64) data_ false)], 8, [(48, .I x328)], [], [], 8⟩ := tA18 _ _ (LS.of rfl rfl rfl (fun _ _ _ _ _ _ _ k => WPr.ldo (oI .i64) htt hx328 rfl rfl rfl rfl rfl rfl rfl rfl rfl rfl (k)) rfl)
      obtain ⟨x331, hx331, h⟩ := ob h
      have st332 : A18 9 ⟨[(40, .c (.cl 48 [] [1])), (44, .I x323), (48, .I x328)], (vV4 2 3 4 5 c0_ []), [], [(1, .box (cC4 2 3 4 5 c0_) 27)], 8, [(49, .I x331)], [], [], 8⟩ := tA18 _ _ (LS.of rfl rfl rfl (fun _ _ _ _ _ _ _ k => WPr.callc (z48_8_ct N x323 x328 c0_ _ hx331) [(0, .bp 1 0), (1, .sl 2), (2, .sl 3), (3, .sl 4), (4, .sl 5)] [] rfl rfl rfl rfl rfl rfl rfl rfl rfl (.inl rfl) rfl (k)) rfl)
      have st333 : A18 10 ⟨[(49, .I x331)], [], [], [], 8, [(50, .O (decide (x331 < (0 : Int))))], [], [], 8⟩ := tA18 _ _ (LS.sil htt rfl rfl rfl rfl rfl rfl)
      refine WP.regionD (t := ⟨[(0, .S 0), (1, .I a_), (4, .c (.cl 48 [] [1])), (10, .I v10_6), (11, .I v11_6), (12, .I (w64 (x319))), (50, .O (decide (x331 < (0 : Int))))], [(0, .own (rI .i64) data_ false), (1, .box (cC4 2 3 4 5 c0_) 27)], (vV4 2 3 4 5 c0_ []), 8⟩) [0, 0, 0, 6, 14, 0, 0, 96, 224, 511, 1023] (.cons (fA18 _ _ st320) (.cons (fA18 _ _ st321) (.cons (fA18 _ _ st322) (.cons (fA18 _ _ st324) (.cons (fA18 _ _ st325) (.cons (fA18 _ _ st326) (.cons (fA18 _ _ st327) (.cons (fA18 _ _ st329) (.cons (fA18 _ _ st330) (.cons (fA18 _ _ st332) (.cons (fA18 _ _ st333) .nil))))))))))) (by kernel_rfl) (by kernel_rfl) (by kernel_rfl) (by kernel_rfl) (?_)
      rcases oc h with ⟨hc, h⟩ | ⟨hc, h⟩
      · exact WP.condT hc rfl (WP.region (WPr.silx [] ⟨[(0, .S 0), (1, .I a_), (4, .c (.cl 48 [] [1])), (10, .I (w64 ((w64 (x319)) + (1 : Int)))), (11, .I v11_6)], [(0, .own (rI .i64) data_ false), (1, .box (cC4 2 3 4 5 c0_) 27)], (vV4 2 3 4 5 c0_ []), 8⟩ htt 3 (by kernel_rfl) (WPr.nil (WP.inBlock (WP.sub [] (ih6 ((w64 ((w64 (x319)) + (1 : Int))), v11_6) h) rfl rfl rfl rfl)))))
      exact WP.condF hc rfl (WP.region (WPr.sil htt 2 rfl (WPr.nil (WP.inBlock (WP.sub [] (ih6 (v10_6, (w64 (x319))) h) rfl rfl rfl rfl)))))
    exact WP.sub [] (ih N (m_, b_) h) rfl rfl rfl rfl
  refine WP.condF hc rfl (WP.skip (WP.seq (WP.seq (WP.region (WPr.silx [] ⟨[(0, .S 0), (1, .I a_), (2, .I m_), (3, .I b_), (4, .c (.cl 48 [] [1])), (80, .O ((w64 (b_ - m_)) == (1 : Int)))], [(0, .own (rI .i64) data_ false), (1, .box (cC4 2 3 4 5 c0_) 27)], (vV4 2 3 4 5 c0_ []), 6⟩ htt 4 (by kernel_rfl) (WPr.nil (?_)))))))
  rcases oc h with ⟨hc, h⟩ | ⟨hc, h⟩
  · refine WP.condT hc rfl (WP.seq (WP.region (WPr.sil htt 2 rfl (WPr.nil (WP.seq (WP.region (WPr.silx [] ⟨[(0, .S 0), (2, .I m_), (4, .c (.cl 48 [] [1])), (14, .I a_), (15, .I m_)], [(0, .own (rI .i64) data_ false), (1, .box (cC4 2 3 4 5 c0_) 27)], (vV4 2 3 4 5 c0_ []), 6⟩ htt 2 (by kernel_rfl) (WPr.nil (WP.seq (?_))))))))))
    refine WP.cut (σ := Int) (fun st => ⟨[(0, .S 0), (2, .I m_), (14, .I st)], [(0, .own (rI .i64) data_ false), (1, .box (cC4 2 3 4 5 c0_) 27)], (vV4 2 3 4 5 c0_ []), 6⟩) (fun st => slices_symMergeCmpFunc_int_of_global_Edges_1_k7 N data_ m_ st = some r) ?_ (fun j7 => ?_)
    · intro v14_7 h
      replace h : slices_symMergeCmpFunc_int_of_global_Edges_1_k7 N data_ m_ v14_7 = some r := h
      unfold slices_symMergeCmpFunc_int_of_global_Edges_1_k7 at h
      refine WP.seq (WP.seq (WP.region (WPr.sil htt 2 rfl (WPr.nil (?_)))))
      refine WP.cut (σ := (List Int)) (fun st => ⟨[], [(0, .own (rI .i64) st false), (1, .box (cC4 2 3 4 5 c0_) 27)], (vV4 2 3 4 5 c0_ []), 6⟩) (fun st => slices_symMergeCmpFunc_int_of_global_Edges_1_k5 st = some r) ?_ (fun j9 => ?_)
      · intro vk0_9 h
        replace h : slices_symMergeCmpFunc_int_of_global_Edges_1_k5 vk0_9 = some r := h
        unfold slices_symMergeCmpFunc_int_of_global_Edges_1_k5 at h
        cases h
        exact WP.ret htt Tryz.func147 [] rfl rfl rfl rfl
      refine WP.block (?_)
      refine WP.loopI (σ := (List Int) × Int) (fun st => ⟨[(0, .S 0), (14, .I v14_7), (17, .I st.2)], [(0, .own (rI .i64) st.1 false), (1, .box (cC4 2 3 4 5 c0_) 27)], (vV4 2 3 4 5 c0_ []), 6⟩) (fun n st => slices_symMergeCmpFunc_int_of_global_Edges_1_l6 v14_7 n st.1 st.2) (r := r) (fun _ => rfl) ?_ (fun ih => ?_)
      · intro n7 ih11
        rintro ⟨vk0_11, v17_11⟩ h
        replace h : slices_symMergeCmpFunc_int_of_global_Edges_1_l6 v14_7 (n7 + 1) vk0_11 v17_11 = some r := h
        unfold slices_symMergeCmpFunc_int_of_global_Edges_1_l6 at h
        refine WP.seq (WP.seq (WP.region (WPr.silx [] ⟨[(0, .S 0), (14, .I v14_7), (17, .I v17_11), (110, .O (decide (v17_11 > v14_7)))], [(0, .own (rI .i64) vk0_11 false), (1, .box (cC4 2 3 4 5 c0_) 27)], (vV4 2 3 4 5 c0_ []), 6⟩ htt 3 (by kernel_rfl) (WPr.nil (?_)))))
        rcases oc' h with ⟨hc, h⟩ | ⟨hc, h⟩
        · exact WP.condF hc rfl (WP.exit rfl (WP.sub [] (j9 vk0_11 h) rfl rfl rfl rfl))
        refine WP.condT hc rfl (WP.skip (WP.seq (WP.block (WP.nm (fun A31 tA31 fA31 => ?_)))))
        have st574 : A31 0 ⟨[(0, .S 0)], [], [], [], 6, [(113, .S 0)], [], [], 6⟩ := tA31 _ _ (LS.sil htt rfl rfl rfl rfl rfl rfl)
        have st575 : A31 1 ⟨[(17, .I v17_11)], [], [], [], 6, [(114, .I v17_11)], [], [], 6⟩ := tA31 _ _ (LS.sil htt rfl rfl rfl rfl rfl rfl)
        have st576 : A31 2 ⟨[(0, .S 0)], [], [], [], 6, [(115, .S 0)], [], [], 6⟩ := tA31 _ _ (LS.sil htt rfl rfl rfl rfl rfl rfl)
        have st577 : A31 3 ⟨[(17, .I v17_11)], [], [], [], 6, [(116, .I v17_11)], [], [], 6⟩ := tA31 _ _ (LS.sil htt rfl rfl rfl rfl rfl rfl)
        have st578 : A31 4 ⟨[(116, .I v17_11)], [], [], [], 6, [(117, .I (w64 (v17_11 - (1 : Int))))], [], [], 6⟩ := tA31 _ _ (LS.sil htt rfl rfl rfl rfl rfl rfl)
        have st579 : A31 5 ⟨[(0, .S 0)], [], [], [], 6, [(118, .S 0)], [], [], 6⟩ := tA31 _ _ (LS.sil htt rfl rfl rfl rfl rfl rfl)
        have st580 : A31 6 ⟨[(17, .I v17_11)], [], [], [], 6, [(119, .I v17_11)], [], [], 6⟩ := tA31 _ _ (LS.sil htt rfl rfl rfl rfl rfl rfl)
        have st581 : A31 7 ⟨[(119, .I v17_11)], [], [], [], 6, [(120, .I (w64 (v17_11 - (1 : Int))))], [], [], 6⟩ := tA31 _ _ (LS.sil htt rfl rfl rfl rfl rfl rfl)
        obtain ⟨x582, hx582, h⟩ := ob h
        have st583 : A31 8 ⟨[(118, .S 0), (120, .I (w64 (v17_11 - (1 : Int))))], [], [], [(0, .own (rI .i64) vk0_11 false)], 6, [(121, .P 6 0)], [(6, .el 0 (((w64 (v17_11 - (1 : Int)))).toNat * ((rI .i64)).sz))], [], 7⟩ := tA31 _ _ (LS.of rfl rfl rfl (fun _ _ _ _ _ _ _ k => WPr.ixo htt hx582 rfl rfl rfl rfl rfl rfl rfl rfl rfl (k)) rfl)
        have st584 : A31 9 ⟨[(121, .P 6 0)], [(6, .el 0 (((w64 (v17_11 - (1 : Int)))).toNat * ((rI .i64)).sz))], [], [(0, .own (rI .i64) vk0_11 false)], 7, [(122, .I x582)], [], [], 7⟩ := tA31 _ _ (LS.of rfl rfl rfl (fun _ _ _ _ _ _ _ k => WPr.ldo (oI .i64) htt hx582 rfl rfl rfl rfl rfl rfl rfl rfl rfl rfl (k)) rfl)
        have st585 : A31 10 ⟨[(0, .S 0)], [], [], [], 7, [(123, .S 0)], [], [], 7⟩ := tA31 _ _ (LS.sil htt rfl rfl rfl rfl rfl rfl)
        have st586 : A31 11 ⟨[(17, .I v17_11)], [], [], [], 7, [(124, .I v17_11)], [], [], 7⟩ := tA31 _ _ (LS.sil htt rfl rfl rfl rfl rfl rfl)
        obtain ⟨x587, hx587, h⟩ := ob h
        have st588 : A31 12 ⟨[(123, .S 0), (124, .I v17_11)], [], [], [(0, .own (rI .i64) vk0_11 false)], 7, [(125, .P 7 0)], [(7, .el 0 ((v17_11).toNat * ((rI .i64)).sz))], [], 8⟩ := tA31 _ _ (LS.of rfl rfl rfl (fun _ _ _ _ _ _ _ k => WPr.ixo htt hx587 rfl rfl rfl rfl rfl rfl rfl rfl rfl (k)) rfl)
        have st589 : A31 13 ⟨[(125, .P 7 0)], [(7, .el 0 ((v17_11).toNat * ((rI .i64)).sz))], [], [(0, .own (rI .i64) vk0_11 false)], 8, [(126, .I x587)], [], [], 8⟩ := tA31 _ _ (LS.of rfl rfl rfl (fun _ _ _ _ _ _ _ k => WPr.ldo (oI .i64) htt hx587 rfl rfl rfl rfl rfl rfl rfl rfl rfl rfl (k)) rfl)
        obtain ⟨x590, hx590, h⟩ := ob h
        have st591 : A31 14 ⟨[(113, .S 0), (114, .I v17_11)], [], [], [(0, .own (rI .i64) vk0_11 false)], 8, [(127, .P 8 0)], [(8, .el 0 ((v17_11).toNat * ((rI .i64)).sz))], [], 9⟩ := tA31 _ _ (LS.of rfl rfl rfl (fun _ _ _ _ _ _ _ k => WPr.ixo htt hx590 rfl rfl rfl rfl rfl rfl rfl rfl rfl (k)) rfl)
        have st592 : A31 15 ⟨[(122, .I x582), (127, .P 8 0)], [(8, .el 0 ((v17_11).toNat * ((rI .i64)).sz))], [(0, .own (rI .i64) vk0_11 false)], [], 9, [], [], [(0, .own (rI .i64) (setL' vk0_11 v17_11 x582) false)], 9⟩ := tA31 _ _ (LS.of rfl rfl rfl (fun _ _ _ _ _ _ _ k => WPr.sto (oI .i64) htt x582 hx590 rfl rfl rfl rfl rfl rfl rfl rfl rfl rfl (by exact rfl) rfl (k)) rfl)
        obtain ⟨x593, hx593, h⟩ := ob h
        have st594 : A31 16 ⟨[(115, .S 0), (117, .I (w64 (v17_11 - (1 : Int))))], [], [], [(0, .own (rI .i64) (setL' vk0_11 v17_11 x582) false)], 9, [(128, .P 9 0)], [(9, .el 0 (((w64 (v17_11 - (1 : Int)))).toNat * ((rI .i64)).sz))], [], 10⟩ := tA31 _ _ (LS.of rfl rfl rfl (fun _ _ _ _ _ _ _ k => WPr.ixo htt hx593 rfl rfl rfl rfl rfl rfl rfl rfl rfl (k)) rfl)
        have st595 : A31 17 ⟨[(126, .I x587), (128, .P 9 0)], [(9, .el 0 (((w64 (v17_11 - (1 : Int)))).toNat * ((rI .i64)).sz))], [(0, .own (rI .i64) (setL' vk0_11 v17_11 x582) false)], [], 10, [], [], [(0, .own (rI .i64) (setL' (setL' vk0_11 v17_11 x582) (w64 (v17_11 - (1 : Int))) x587) false)], 10⟩ := tA31 _ _ (LS.of rfl rfl rfl (fun _ _ _ _ _ _ _ k => WPr.sto (oI .i64) htt x587 hx593 rfl rfl rfl rfl rfl rfl rfl rfl rfl rfl (by exact rfl) rfl (k)) rfl)
        exact WP.regionD (t := ⟨[(0, .S 0), (14, .I v14_7), (17, .I v17_11)], [(0, .own (rI .i64) (setL' (setL' vk0_11 v17_11 x582) (w64 (v17_11 - (1 : Int))) x587) false), (1, .box (cC4 2 3 4 5 c0_) 27)], (vV4 2 3 4 5 c0_ []), 10⟩) [0, 0, 0, 0, 8, 0, 0, 64, 224, 480, 0, 0, 3072, 7168, 16355, 32739, 65535, 131071] (.cons (fA31 _ _ st574) (.cons (fA31 _ _ st575) (.cons (fA31 _ _ st576) (.cons (fA31 _ _ st577) (.cons (fA31 _ _ st578) (.cons (fA31 _ _ st579) (.cons (fA31 _ _ st580) (.cons (fA31 _ _ st581) (.cons (fA31 _ _ st583) (.cons (fA31 _ _ st584) (.cons (fA31 _ _ st585) (.cons (fA31 _ _ st586) (.cons (fA31 _ _ st588) (.cons (fA31 _ _ st589) (.cons (fA31 _ _ st591) (.cons (fA31 _ _ st592) (.cons (fA31 _ _ st594) (.cons (fA31 _ _ st595) .nil)))))))))))))))))) (by kernel_rfl) (by kernel_rfl) (by kernel_rfl) (by kernel_rfl) (WP.inBlock (WP.region (WPr.silx [] ⟨[(0, .S 0), (14, .I v14_7), (17, .I (w64 (v17_11 - (1 : Int))))], [(0, .own (rI .i64) (setL' (setL' vk0_11 v17_11 x582) (w64 (v17_11 - (1 : Int))) x587) false), (1, .box (cC4 2 3 4 5 c0_) 27)], (vV4 2 3 4 5 c0_ []), 10⟩ htt 3 (by kernel_rfl) (WPr.nil (WP.sub [] (ih11 ((setL' (setL' vk0_11 v17_11 x582) (w64 (v17_11 - (1 : Int))) x587), (w64 (v17_11 - (1 : Int)))) h) rfl rfl rfl rfl)))))
      exact WP.sub [] (ih N (data_, m_) h) rfl rfl rfl rfl
    refine WP.block (?_)
    refine WP.loopI (σ := Int × Int) (fun st => ⟨[(0, .S 0), (2, .I m_), (4, .c (.cl 48 [] [1])), (14, .I st.1), (15, .I st.2)], [(0, .own (rI .i64) data_ false), (1, .box (cC4 2 3 4 5 c0_) 27)], (vV4 2 3 4 5 c0_ []), 6⟩) (fun n st => slices_symMergeCmpFunc_int_of_global_Edges_1_l8 N data_ m_ c0_ n st.1 st.2) (r := r) (fun _ => rfl) ?_ (fun ih => ?_)
    · intro n8 ih12
      rintro ⟨v14_12, v15_12⟩ h
      replace h : slices_symMergeCmpFunc_int_of_global_Edges_1_l8 N data_ m_ c0_ (n8 + 1) v14_12 v15_12 = some r := h
      unfold slices_symMergeCmpFunc_int_of_global_Edges_1_l8 at h
      refine WP.seq (WP.seq (WP.region (WPr.silx [] ⟨[(0, .S 0), (2, .I m_), (4, .c (.cl 48 [] [1])), (14, .I v14_12), (15, .I v15_12), (85, .O (decide (v14_12 < v15_12)))], [(0, .own (rI .i64) data_ false), (1, .box (cC4 2 3 4 5 c0_) 27)], (vV4 2 3 4 5 c0_ []), 6⟩ htt 3 (by kernel_rfl) (WPr.nil (?_)))))
      rcases oc' h with ⟨hc, h⟩ | ⟨hc, h⟩
      · exact WP.condF hc rfl (WP.exit rfl (WP.sub [] (j7 v14_12 h) rfl rfl rfl rfl))
      refine WP.condT hc rfl (WP.skip (WP.block (WP.seq (WP.region (WPr.silx [4, 5, 6] ⟨[(0, .S 0), (2, .I m_), (4, .c (.cl 48 [] [1])), (14, .I v14_12), (15, .I v15_12), (89, .c (.i .u64 (wk .u64 ((w64 (v14_12 + v15_12))))))], [(0, .own (rI .i64) data_ false), (1, .box (cC4 2 3 4 5 c0_) 27)], (vV4 2 3 4 5 c0_ []), 6⟩ htt 4 (by kernel_rfl) (?_))))))
      obtain ⟨x660, hx660, h⟩ := ob h
      refine WPr.bin hx660 rfl rfl rfl rfl rfl rfl rfl rfl (WPr.silx [] ⟨[(0, .S 0), (2, .I m_), (4, .c (.cl 48 [] [1])), (14, .I v14_12), (15, .I v15_12), (16, .I (w64 (x660)))], [(0, .own (rI .i64) data_ false), (1, .box (cC4 2 3 4 5 c0_) 27)], (vV4 2 3 4 5 c0_ []), 6⟩ htt 2 (by kernel_rfl) (WPr.nil (WP.seq (WP.nm (fun A36 tA36 fA36 => ?_)))))
      have st661 : A36 0 ⟨[(4, .c (.cl 48 [] [1]))], [], [], [], 6, [(92, .c (.cl 48 [] [1]))], [], [], 6⟩ := tA36 _ _ (LS.sil htt rfl rfl rfl rfl rfl rfl)
      have st662 : A36 1 ⟨[(0, .S 0)], [], [], [], 6, [(93, .S 0)], [], [], 6⟩ := tA36 _ _ (LS.sil htt rfl rfl rfl rfl rfl rfl)
      have st663 : A36 2 ⟨[(2, .I m_)], [], [], [], 6, [(94, .I m_)], [], [], 6⟩ := tA36 _ _ (LS.sil htt rfl rfl rfl rfl rfl rfl)
      obtain ⟨x664, hx664, h⟩ := ob h
      have st665 : A36 3 ⟨[(93, .S 0), (94, .I m_)], [], [], [(0, .own (rI .i64) data_ false)], 6, [(95, .P 6 0)], [(6, .el 0 ((m_).toNat * ((rI .i64)).sz))], [], 7⟩ := tA36 _ _ (LS.of rfl rfl rfl (fun _ _ _ _ _ _ _ k => WPr.ixo htt hx664 rfl rfl rfl rfl rfl rfl rfl rfl rfl (k)) rfl)
      have st666 : A36 4 ⟨[(95, .P 6 0)], [(6, .el 0 ((m_).toNat * ((rI .i64)).sz))], [], [(0, .own (rI .i64) data_ false)], 7, [(96, .I x664)], [], [], 7⟩ := tA36 _ _ (LS.of rfl rfl rfl (fun _ _ _ _ _ _ _ k => WPr.ldo (oI .i64) htt hx664 rfl rfl rfl rfl rfl rfl rfl rfl rfl rfl (k)) rfl)
      have st667 : A36 5 ⟨[(0, .S 0)], [], [], [], 7, [(97, .S 0)], [], [], 7⟩ := tA36 _ _ (LS.sil htt rfl rfl rfl rfl rfl rfl)
      have st668 : A36 6 ⟨[(16, .I (w64 (x660)))], [], [], [], 7, [(98, .I (w64 (x660)))], [], [], 7⟩ := tA36 _ _ (LS.sil htt rfl rfl rfl rfl rfl rfl)
      obtain ⟨x669, hx669, h⟩ := ob h
      have st670 : A36 7 ⟨[(97, .S 0), (98, .I (w64 (x660)))], [], [], [(0, .own (rI .i64) data_ false)], 7, [(99, .P 7 0)], [(7, .el 0 (((w64 (x660))).toNat * ((rI .i64)).sz))], [], 8⟩ := tA36 _ _ (LS.of rfl rfl rfl (fun _ _ _ _ _ _ _ k => WPr.ixo htt hx669 rfl rfl rfl rfl rfl rfl rfl rfl rfl (k)) rfl)
      have st671 : A36 8 ⟨[(99, .P 7 0)], [(7, .el 0 (((w64 (x660))).toNat * ((rI .i64)).sz))], [], [(0, .own (rI .i64) data_ false)], 8, [(100, .I x669)], [], [], 8⟩ := tA36 _ _ (LS.of rfl rfl rfl (fun _ _ _ _ _ _ _ k => WPr.ldo (oI .i64) htt hx669 rfl rfl rfl rfl rfl rfl rfl rfl rfl rfl (k)) rfl)
      obtain ⟨x672, hx672, h⟩ := ob h
      have st673 : A36 9 ⟨[(92, .c (.cl 48 [] [1])), (96, .I x664), (100, .I x669)], (vV4 2 3 4 5 c0_ []), [], [(1, .box (cC4 2 3 4 5 c0_) 27)], 8, [(101, .I x672)], [], [], 8⟩ := tA36 _ _ (LS.of rfl rfl rfl (fun _ _ _ _ _ _ _ k => WPr.callc (z48_8_ct N x664 x669 c0_ _ hx672) [(0, .bp 1 0), (1, .sl 2), (2, .sl 3), (3, .sl 4), (4, .sl 5)] [] rfl rfl rfl rfl rfl rfl rfl rfl rfl (.inl rfl) rfl (k)) rfl)
      have st674 : A36 10 ⟨[(101, .I x672)], [], [], [], 8, [(102, .O (decide (x672 < (0 : Int))))], [], [], 8⟩ := tA36 _ _ (LS.sil htt rfl rfl rfl rfl rfl rfl)
      have st675 : A36 11 ⟨[(102, .O (decide (x672 < (0 : Int))))], [], [], [], 8, [(103, .O (!(decide (x672 < (0 : Int)))))], [], [], 8⟩ := tA36 _ _ (LS.sil htt rfl rfl rfl rfl rfl rfl)
      refine WP.regionD (t := ⟨[(0, .S 0), (2, .I m_), (4, .c (.cl 48 [] [1])), (14, .I v14_12), (15, .I v15_12), (16, .I (w64 (x660))), (103, .O (!(decide (x672 < (0 : Int)))))], [(0, .own (rI .i64) data_ false), (1, .box (cC4 2 3 4 5 c0_) 27)], (vV4 2 3 4 5 c0_ []), 8⟩) [0, 0, 0, 6, 14, 0, 0, 96, 224, 511, 1023, 2047] (.cons (fA36 _ _ st661) (.cons (fA36 _ _ st662) (.cons (fA36 _ _ st663) (.cons (fA36 _ _ st665) (.cons (fA36 _ _ st666) (.cons (fA36 _ _ st667) (.cons (fA36 _ _ st668) (.cons (fA36 _ _ st670) (.cons (fA36 _ _ st671) (.cons (fA36 _ _ st673) (.cons (fA36 _ _ st674) (.cons (fA36 _ _ st675) .nil)))))))))))) (by kernel_rfl) (by kernel_rfl) (by kernel_rfl) (by kernel_rfl) (?_)
      rcases oc h with ⟨hc, h⟩ | ⟨hc, h⟩
      · exact WP.condT hc rfl (WP.region (WPr.silx [] ⟨[(0, .S 0), (2, .I m_), (4, .c (.cl 48 [] [1])), (14, .I (w64 ((w64 (x660)) + (1 : Int)))), (15, .I v15_12)], [(0, .own (rI .i64) data_ false), (1, .box (cC4 2 3 4 5 c0_) 27)], (vV4 2 3 4 5 c0_ []), 8⟩ htt 3 (by kernel_rfl) (WPr.nil (WP.inBlock (WP.sub [] (ih12 ((w64 ((w64 (x660)) + (1 : Int))), v15_12) h) rfl rfl rfl rfl)))))
      exact WP.condF hc rfl (WP.region (WPr.sil htt 2 rfl (WPr.nil (WP.inBlock (WP.sub [] (ih12 (v14_12, (w64 (x660))) h) rfl rfl rfl rfl)))))
    exact WP.sub [] (ih N (a_, m_) h) rfl rfl rfl rfl
  refine WP.condF hc rfl (WP.skip (WP.seq (WP.region (WPr.silx [4, 5, 6] ⟨[(0, .S 0), (1, .I a_), (2, .I m_), (3, .I b_), (4, .c (.cl 48 [] [1])), (132, .c (.i .u64 (wk .u64 ((w64 (a_ + b_))))))], [(0, .own (rI .i64) data_ false), (1, .box (cC4 2 3 4 5 c0_) 27)], (vV4 2 3 4 5 c0_ []), 6⟩ htt 4 (by kernel_rfl) (?_)))))
  obtain ⟨x676, hx676, h⟩ := ob h
  refine WPr.bin hx676 rfl rfl rfl rfl rfl rfl rfl rfl (WPr.silx [] ⟨[(0, .S 0), (1, .I a_), (2, .I m_), (3, .I b_), (4, .c (.cl 48 [] [1])), (18, .I (w64 (x676)))], [(0, .own (rI .i64) data_ false), (1, .box (cC4 2 3 4 5 c0_) 27)], (vV4 2 3 4 5 c0_ []), 6⟩ htt 2 (by kernel_rfl) (WPr.nil (WP.seq (WP.region (WPr.silx [] ⟨[(0, .S 0), (1, .I a_), (2, .I m_), (3, .I b_), (4, .c (.cl 48 [] [1])), (18, .I (w64 (x676))), (19, .I (w64 ((w64 (x676)) + m_)))], [(0, .own (rI .i64) data_ false), (1, .box (cC4 2 3 4 5 c0_) 27)], (vV4 2 3 4 5 c0_ []), 6⟩ htt 4 (by kernel_rfl) (WPr.nil (WP.seq (WP.region (WPr.sil htt 2 rfl (WPr.nil (WP.seq (WP.seq (WP.region (WPr.silx [] ⟨[(0, .S 0), (1, .I a_), (2, .I m_), (3, .I b_), (4, .c (.cl 48 [] [1])), (18, .I (w64 (x676))), (19, .I (w64 ((w64 (x676)) + m_))), (140, .O (decide (m_ > (w64 (x676)))))], [(0, .own (rI .i64) data_ false), (1, .box (cC4 2 3 4 5 c0_) 27)], (vV4 2 3 4 5 c0_ []), 6⟩ htt 3 (by kernel_rfl) (WPr.nil (?_))))))))))))))))
  refine WP.cut (σ := Int × Int) (fun st => ⟨[(0, .S 0), (1, .I a_), (2, .I m_), (3, .I b_), (4, .c (.cl 48 [] [1])), (18, .I (w64 (x676))), (19, .I (w64 ((w64 (x676)) + m_))), (20, .I st.1), (21, .I st.2)], [(0, .own (rI .i64) data_ false), (1, .box (cC4 2 3 4 5 c0_) 27)], (vV4 2 3 4 5 c0_ []), 6⟩) (fun st => slices_symMergeCmpFunc_int_of_global_Edges_1_k15 N rc_slices_symMergeCmpFunc_int_of_global_Edges_1 data_ a_ m_ b_ c0_ x676 st.1 st.2 = some r) ?_ (fun j13 => ?_)
  · rintro ⟨v20_13, v21_13⟩ h
    replace h : slices_symMergeCmpFunc_int_of_global_Edges_1_k15 N rc_slices_symMergeCmpFunc_int_of_global_Edges_1 data_ a_ m_ b_ c0_ x676 v20_13 v21_13 = some r := h
    unfold slices_symMergeCmpFunc_int_of_global_Edges_1_k15 at h
    refine WP.seq (WP.region (WPr.silx [] ⟨[(0, .S 0), (1, .I a_), (2, .I m_), (3, .I b_), (4, .c (.cl 48 [] [1])), (18, .I (w64 (x676))), (19, .I (w64 ((w64 (x676)) + m_))), (20, .I v20_13), (21, .I v21_13), (22, .I (w64 ((w64 ((w64 (x676)) + m_)) - (1 : Int))))], [(0, .own (rI .i64) data_ false), (1, .box (cC4 2 3 4 5 c0_) 27)], (vV4 2 3 4 5 c0_ []), 6⟩ htt 3 (by kernel_rfl) (WPr.nil (WP.seq (?_)))))
    refine WP.cut (σ := Int) (fun st => ⟨[(0, .S 0), (1, .I a_), (2, .I m_), (3, .I b_), (4, .c (.cl 48 [] [1])), (18, .I (w64 (x676))), (19, .I (w64 ((w64 (x676)) + m_))), (20, .I st)], [(0, .own (rI .i64) data_ false), (1, .box (cC4 2 3 4 5 c0_) 27)], (vV4 2 3 4 5 c0_ []), 6⟩) (fun st => slices_symMergeCmpFunc_int_of_global_Edges_1_k13 N rc_slices_symMergeCmpFunc_int_of_global_Edges_1 data_ a_ m_ b_ c0_ x676 st = some r) ?_ (fun j14 => ?_)
    · intro v20_14 h
      replace h : slices_symMergeCmpFunc_int_of_global_Edges_1_k13 N rc_slices_symMergeCmpFunc_int_of_global_Edges_1 data_ a_ m_ b_ c0_ x676 v20_14 = some r := h
      unfold slices_symMergeCmpFunc_int_of_global_Edges_1_k13 at h
      refine WP.seq (WP.region (WPr.silx [] ⟨[(0, .S 0), (1, .I a_), (2, .I m_), (3, .I b_), (4, .c (.cl 48 [] [1])), (18, .I (w64 (x676))), (20, .I v20_14), (24, .I (w64 ((w64 ((w64 (x676)) + m_)) - v20_14)))], [(0, .own (rI .i64) data_ false), (1, .box (cC4 2 3 4 5 c0_) 27)], (vV4 2 3 4 5 c0_ []), 6⟩ htt 4 (by kernel_rfl) (WPr.nil (WP.seq (WP.seq (WP.region (WPr.silx [4, 5, 6, 7] ⟨[(0, .S 0), (1, .I a_), (2, .I m_), (3, .I b_), (4, .c (.cl 48 [] [1])), (18, .I (w64 (x676))), (20, .I v20_14), (24, .I (w64 ((w64 ((w64 (x676)) + m_)) - v20_14))), (181, .O (decide (v20_14 < m_)))], [(0, .own (rI .i64) data_ false), (1, .box (cC4 2 3 4 5 c0_) 27)], (vV4 2 3 4 5 c0_ []), 6⟩ htt 4 (by kernel_rfl) (?_))))))))
      refine WP.cutr (σ := Bool) (fun st => ⟨[(0, .S 0), (1, .I a_), (2, .I m_), (3, .I b_), (4, .c (.cl 48 [] [1])), (18, .I (w64 (x676))), (20, .I v20_14), (24, .I (w64 ((w64 ((w64 (x676)) + m_)) - v20_14))), (185, .O st)], [(0, .own (rI .i64) data_ false), (1, .box (cC4 2 3 4 5 c0_) 27)], (vV4 2 3 4 5 c0_ []), 6⟩) (fun st => slices_symMergeCmpFunc_int_of_global_Edges_1_k12 N rc_slices_symMergeCmpFunc_int_of_global_Edges_1 data_ a_ m_ b_ c0_ x676 v20_14 st = some r) ?_ (fun j16 => ?_)
      · intro v185_16 h
        replace h : slices_symMergeCmpFunc_int_of_global_Edges_1_k12 N rc_slices_symMergeCmpFunc_int_of_global_Edges_1 data_ a_ m_ b_ c0_ x676 v20_14 v185_16 = some r := h
        unfold slices_symMergeCmpFunc_int_of_global_Edges_1_k12 at h
        refine WP.cut (σ := (List Int)) (fun st => ⟨[(0, .S 0), (1, .I a_), (3, .I b_), (4, .c (.cl 48 [] [1])), (18, .I (w64 (x676))), (20, .I v20_14), (24, .I (w64 ((w64 ((w64 (x676)) + m_)) - v20_14)))], [(0, .own (rI .i64) st false), (1, .box (cC4 2 3 4 5 c0_) 27)], (vV4 2 3 4 5 c0_ []), 6⟩) (fun st => slices_symMergeCmpFunc_int_of_global_Edges_1_k11 rc_slices_symMergeCmpFunc_int_of_global_Edges_1 a_ m_ b_ c0_ x676 v20_14 st = some r) ?_ (fun j17 => ?_)
        · intro vk0_17 h
          replace h : slices_symMergeCmpFunc_int_of_global_Edges_1_k11 rc_slices_symMergeCmpFunc_int_of_global_Edges_1 a_ m_ b_ c0_ x676 v20_14 vk0_17 = some r := h
          unfold slices_symMergeCmpFunc_int_of_global_Edges_1_k11 at h
          refine WP.seq (WP.seq (WP.region (WPr.silx [4, 5, 6, 7] ⟨[(0, .S 0), (1, .I a_), (3, .I b_), (4, .c (.cl 48 [] [1])), (18, .I (w64 (x676))), (20, .I v20_14), (24, .I (w64 ((w64 ((w64 (x676)) + m_)) - v20_14))), (195, .O (decide (a_ < v20_14)))], [(0, .own (rI .i64) vk0_17 false), (1, .box (cC4 2 3 4 5 c0_) 27)], (vV4 2 3 4 5 c0_ []), 6⟩ htt 4 (by kernel_rfl) (?_))))
          refine WP.cutr (σ := Bool) (fun st => ⟨[(0, .S 0), (1, .I a_), (3, .I b_), (4, .c (.cl 48 [] [1])), (18, .I (w64 (x676))), (20, .I v20_14), (24, .I (w64 ((w64 ((w64 (x676)) + m_)) - v20_14))), (199, .O st)], [(0, .own (rI .i64) vk0_17 false), (1, .box (cC4 2 3 4 5 c0_) 27)], (vV4 2 3 4 5 c0_ []), 6⟩) (fun st => slices_symMergeCmpFunc_int_of_global_Edges_1_k10 rc_slices_symMergeCmpFunc_int_of_global_Edges_1 a_ m_ b_ c0_ x676 v20_14 vk0_17 st = some r) ?_ (fun j18 => ?_)
          · intro v199_18 h
            replace h : slices_symMergeCmpFunc_int_of_global_Edges_1_k10 rc_slices_symMergeCmpFunc_int_of_global_Edges_1 a_ m_ b_ c0_ x676 v20_14 vk0_17 v199_18 = some r := h
            unfold slices_symMergeCmpFunc_int_of_global_Edges_1_k10 at h
            refine WP.cut (σ := (List Int)) (fun st => ⟨[(0, .S 0), (3, .I b_), (4, .c (.cl 48 [] [1])), (18, .I (w64 (x676))), (24, .I (w64 ((w64 ((w64 (x676)) + m_)) - v20_14)))], [(0, .own (rI .i64) st false), (1, .box (cC4 2 3 4 5 c0_) 27)], (vV4 2 3 4 5 c0_ []), 6⟩) (fun st => slices_symMergeCmpFunc_int_of_global_Edges_1_k9 rc_slices_symMergeCmpFunc_int_of_global_Edges_1 m_ b_ c0_ x676 v20_14 st = some r) ?_ (fun j19 => ?_)
            · intro vk0_19 h
              replace h : slices_symMergeCmpFunc_int_of_global_Edges_1_k9 rc_slices_symMergeCmpFunc_int_of_global_Edges_1 m_ b_ c0_ x676 v20_14 vk0_19 = some r := h
              unfold slices_symMergeCmpFunc_int_of_global_Edges_1_k9 at h
              refine WP.seq (WP.region (WPr.silx [4, 5, 6, 7] ⟨[(0, .S 0), (3, .I b_), (4, .c (.cl 48 [] [1])), (18, .I (w64 (x676))), (24, .I (w64 ((w64 ((w64 (x676)) + m_)) - v20_14))), (209, .O (decide ((w64 (x676)) < (w64 ((w64 ((w64 (x676)) + m_)) - v20_14)))))], [(0, .own (rI .i64) vk0_19 false), (1, .box (cC4 2 3 4 5 c0_) 27)], (vV4 2 3 4 5 c0_ []), 6⟩ htt 4 (by kernel_rfl) (?_)))
              rcases oc' h with ⟨hc, h⟩ | ⟨hc, h⟩
              · refine WPr.kb 209 hc rfl (WPr.silx [] ⟨[(0, .S 0), (3, .I b_), (4, .c (.cl 48 [] [1])), (18, .I (w64 (x676))), (24, .I (w64 ((w64 ((w64 (x676)) + m_)) - v20_14))), (213, .O false)], [(0, .own (rI .i64) vk0_19 false), (1, .box (cC4 2 3 4 5 c0_) 27)], (vV4 2 3 4 5 c0_ []), 6⟩ htt 4 (by kernel_rfl) (WPr.nil (WP.condF rfl rfl (WP.skip (?_)))))
                cases h
                exact WP.fin htt Tryz.func147 [] rfl rfl rfl rfl
              refine WPr.kb 209 hc rfl (WPr.silx [] ⟨[(0, .S 0), (3, .I b_), (4, .c (.cl 48 [] [1])), (18, .I (w64 (x676))), (24, .I (w64 ((w64 ((w64 (x676)) + m_)) - v20_14))), (213, .O (decide ((w64 ((w64 ((w64 (x676)) + m_)) - v20_14)) < b_)))], [(0, .own (rI .i64) vk0_19 false), (1, .box (cC4 2 3 4 5 c0_) 27)], (vV4 2 3 4 5 c0_ []), 6⟩ htt 4 (by kernel_rfl) (WPr.nil (?_)))
              rcases oc' h with ⟨hc, h⟩ | ⟨hc, h⟩
              · refine WP.condF hc rfl (WP.skip (?_))
                cases h
                exact WP.fin htt Tryz.func147 [] rfl rfl rfl rfl
              refine WP.condT hc rfl (WP.region (WPr.silx [5] ⟨[(214, .S 0), (215, .I (w64 (x676))), (216, .I (w64 ((w64 ((w64 (x676)) + m_)) - v20_14))), (217, .I b_), (218, .c (.cl 48 [] [1]))], [(0, .own (rI .i64) vk0_19 false), (1, .box (cC4 2 3 4 5 c0_) 27)], (vV4 2 3 4 5 c0_ []), 6⟩ htt 5 (by kernel_rfl) (?_)))
              obtain ⟨x751, hx751, h⟩ := ob h
              refine WPr.call (rc_slices_symMergeCmpFunc_int_of_global_Edges_1_ct vk0_19 (w64 (x676)) (w64 ((w64 ((w64 (x676)) + m_)) - v20_14)) b_ c0_ _ hx751) [(0, .sl 0), (1, .bp 1 0), (2, .sl 2), (3, .sl 3), (4, .sl 4), (5, .sl 5)] [] rfl rfl rfl rfl rfl rfl rfl rfl (.inl rfl) rfl (WPr.silx [] ⟨[], [(0, .own (rI .i64) x751 false), (1, .box (cC4 2 3 4 5 c0_) 27)], (vV4 2 3 4 5 c0_ []), 6⟩ htt 0 (by kernel_rfl) (WPr.nil (?_)))
              cases h
              exact WP.fin htt Tryz.func147 [] rfl rfl rfl rfl
            rcases oc' h with ⟨hc, h⟩ | ⟨hc, h⟩
            · exact WP.condF hc rfl (WP.skip (WP.sub [] (j19 vk0_17 h) rfl rfl rfl rfl))
            refine WP.condT hc rfl (WP.region (WPr.silx [5] ⟨[(0, .S 0), (3, .I b_), (4, .c (.cl 48 [] [1])), (18, .I (w64 (x676))), (24, .I (w64 ((w64 ((w64 (x676)) + m_)) - v20_14))), (200, .S 0), (201, .I a_), (202, .I v20_14), (203, .I (w64 (x676))), (204, .c (.cl 48 [] [1]))], [(0, .own (rI .i64) vk0_17 false), (1, .box (cC4 2 3 4 5 c0_) 27)], (vV4 2 3 4 5 c0_ []), 6⟩ htt 5 (by kernel_rfl) (?_)))
            obtain ⟨x752, hx752, h⟩ := ob h
            exact WPr.call (rc_slices_symMergeCmpFunc_int_of_global_Edges_1_ct vk0_17 a_ v20_14 (w64 (x676)) c0_ _ hx752) [(0, .sl 0), (1, .bp 1 0), (2, .sl 2), (3, .sl 3), (4, .sl 4), (5, .sl 5)] [] rfl rfl rfl rfl rfl rfl rfl rfl (.inl rfl) rfl (WPr.silx [] ⟨[(0, .S 0), (3, .I b_), (4, .c (.cl 48 [] [1])), (18, .I (w64 (x676))), (24, .I (w64 ((w64 ((w64 (x676)) + m_)) - v20_14)))], [(0, .own (rI .i64) x752 false), (1, .box (cC4 2 3 4 5 c0_) 27)], (vV4 2 3 4 5 c0_ []), 6⟩ htt 0 (by kernel_rfl) (WPr.nil (WP.sub [] (j19 x752 h) rfl rfl rfl rfl)))
          rcases oc h with ⟨hc, h⟩ | ⟨hc, h⟩
          · exact WPr.kb 195 hc rfl (WPr.silx [] ⟨[(0, .S 0), (1, .I a_), (3, .I b_), (4, .c (.cl 48 [] [1])), (18, .I (w64 (x676))), (20, .I v20_14), (24, .I (w64 ((w64 ((w64 (x676)) + m_)) - v20_14))), (199, .O (decide (v20_14 < (w64 (x676)))))], [(0, .own (rI .i64) vk0_17 false), (1, .box (cC4 2 3 4 5 c0_) 27)], (vV4 2 3 4 5 c0_ []), 6⟩ htt 4 (by kernel_rfl) (WPr.nil (WP.sub [] (j18 (decide (v20_14 < (w64 (x676)))) h) rfl rfl rfl rfl)))
          exact WPr.kb 195 hc rfl (WPr.silx [] ⟨[(0, .S 0), (1, .I a_), (3, .I b_), (4, .c (.cl 48 [] [1])), (18, .I (w64 (x676))), (20, .I v20_14), (24, .I (w64 ((w64 ((w64 (x676)) + m_)) - v20_14))), (199, .O false)], [(0, .own (rI .i64) vk0_17 false), (1, .box (cC4 2 3 4 5 c0_) 27)], (vV4 2 3 4 5 c0_ []), 6⟩ htt 4 (by kernel_rfl) (WPr.nil (WP.sub [] (j18 false h) rfl rfl rfl rfl)))
        rcases oc' h with ⟨hc, h⟩ | ⟨hc, h⟩
        · exact WP.condF hc rfl (WP.skip (WP.sub [] (j17 data_ h) rfl rfl rfl rfl))
        refine WP.condT hc rfl (WP.region (WPr.silx [5] ⟨[(0, .S 0), (1, .I a_), (3, .I b_), (4, .c (.cl 48 [] [1])), (18, .I (w64 (x676))), (20, .I v20_14), (24, .I (w64 ((w64 ((w64 (x676)) + m_)) - v20_14))), (186, .S 0), (187, .I v20_14), (188, .I m_), (189, .I (w64 ((w64 ((w64 (x676)) + m_)) - v20_14))), (190, .c (.cl 48 [] [1]))], [(0, .own (rI .i64) data_ false), (1, .box (cC4 2 3 4 5 c0_) 27)], (vV4 2 3 4 5 c0_ []), 6⟩ htt 5 (by kernel_rfl) (?_)))
        obtain ⟨x753, hx753, h⟩ := ob h
        exact WPr.call (z168_11_ct N data_ v20_14 m_ (w64 ((w64 ((w64 (x676)) + m_)) - v20_14)) c0_ _ hx753) [(0, .sl 0), (1, .bp 1 0), (2, .sl 2), (3, .sl 3), (4, .sl 4), (5, .sl 5)] [] rfl rfl rfl rfl rfl rfl rfl rfl (.inl rfl) rfl (WPr.silx [] ⟨[(0, .S 0), (1, .I a_), (3, .I b_), (4, .c (.cl 48 [] [1])), (18, .I (w64 (x676))), (20, .I v20_14), (24, .I (w64 ((w64 ((w64 (x676)) + m_)) - v20_14)))], [(0, .own (rI .i64) x753 false), (1, .box (cC4 2 3 4 5 c0_) 27)], (vV4 2 3 4 5 c0_ []), 6⟩ htt 0 (by kernel_rfl) (WPr.nil (WP.sub [] (j17 x753 h) rfl rfl rfl rfl)))
      rcases oc h with ⟨hc, h⟩ | ⟨hc, h⟩
      · exact WPr.kb 181 hc rfl (WPr.silx [] ⟨[(0, .S 0), (1, .I a_), (2, .I m_), (3, .I b_), (4, .c (.cl 48 [] [1])), (18, .I (w64 (x676))), (20, .I v20_14), (24, .I (w64 ((w64 ((w64 (x676)) + m_)) - v20_14))), (185, .O (decide (m_ < (w64 ((w64 ((w64 (x676)) + m_)) - v20_14)))))], [(0, .own (rI .i64) data_ false), (1, .box (cC4 2 3 4 5 c0_) 27)], (vV4 2 3 4 5 c0_ []), 6⟩ htt 4 (by kernel_rfl) (WPr.nil (WP.sub [] (j16 (decide (m_ < (w64 ((w64 ((w64 (x676)) + m_)) - v20_14)))) h) rfl rfl rfl rfl)))
      exact WPr.kb 181 hc rfl (WPr.silx [] ⟨[(0, .S 0), (1, .I a_), (2, .I m_), (3, .I b_), (4, .c (.cl 48 [] [1])), (18, .I (w64 (x676))), (20, .I v20_14), (24, .I (w64 ((w64 ((w64 (x676)) + m_)) - v20_14))), (185, .O false)], [(0, .own (rI .i64) data_ false), (1, .box (cC4 2 3 4 5 c0_) 27)], (vV4 2 3 4 5 c0_ []), 6⟩ htt 4 (by kernel_rfl) (WPr.nil (WP.sub [] (j16 false h) rfl rfl rfl rfl)))
    refine WP.block (?_)
    refine WP.loopI (σ := Int × Int) (fun st => ⟨[(0, .S 0), (1, .I a_), (2, .I m_), (3, .I b_), (4, .c (.cl 48 [] [1])), (18, .I (w64 (x676))), (19, .I (w64 ((w64 (x676)) + m_))), (20, .I st.1), (21, .I st.2), (22, .I (w64 ((w64 ((w64 (x676)) + m_)) - (1 : Int))))], [(0, .own (rI .i64) data_ false), (1, .box (cC4 2 3 4 5 c0_) 27)], (vV4 2 3 4 5 c0_ []), 6⟩) (fun n st => slices_symMergeCmpFunc_int_of_global_Edges_1_l14 N rc_slices_symMergeCmpFunc_int_of_global_Edges_1 data_ a_ m_ b_ c0_ x676 n st.1 st.2) (r := r) (fun _ => rfl) ?_ (fun ih => ?_)
    · intro n10 ih20
      rintro ⟨v20_20, v21_20⟩ h
      replace h : slices_symMergeCmpFunc_int_of_global_Edges_1_l14 N rc_slices_symMergeCmpFunc_int_of_global_Edges_1 data_ a_ m_ b_ c0_ x676 (n10 + 1) v20_20 v21_20 = some r := h
      unfold slices_symMergeCmpFunc_int_of_global_Edges_1_l14 at h
      refine WP.seq (WP.seq (WP.region (WPr.silx [] ⟨[(0, .S 0), (1, .I a_), (2, .I m_), (3, .I b_), (4, .c (.cl 48 [] [1])), (18, .I (w64 (x676))), (19, .I (w64 ((w64 (x676)) + m_))), (20, .I v20_20), (21, .I v21_20), (22, .I (w64 ((w64 ((w64 (x676)) + m_)) - (1 : Int)))), (151, .O (decide (v20_20 < v21_20)))], [(0, .own (rI .i64) data_ false), (1, .box (cC4 2 3 4 5 c0_) 27)], (vV4 2 3 4 5 c0_ []), 6⟩ htt 3 (by kernel_rfl) (WPr.nil (?_)))))
      rcases oc' h with ⟨hc, h⟩ | ⟨hc, h⟩
      · exact WP.condF hc rfl (WP.exit rfl (WP.sub [] (j14 v20_20 h) rfl rfl rfl rfl))
      refine WP.condT hc rfl (WP.skip (WP.block (WP.seq (WP.region (WPr.silx [4, 5, 6] ⟨[(0, .S 0), (1, .I a_), (2, .I m_), (3, .I b_), (4, .c (.cl 48 [] [1])), (18, .I (w64 (x676))), (19, .I (w64 ((w64 (x676)) + m_))), (20, .I v20_20), (21, .I v21_20), (22, .I (w64 ((w64 ((w64 (x676)) + m_)) - (1 : Int)))), (155, .c (.i .u64 (wk .u64 ((w64 (v20_20 + v21_20))))))], [(0, .own (rI .i64) data_ false), (1, .box (cC4 2 3 4 5 c0_) 27)], (vV4 2 3 4 5 c0_ []), 6⟩ htt 4 (by kernel_rfl) (?_))))))
      obtain ⟨x826, hx826, h⟩ := ob h
      refine WPr.bin hx826 rfl rfl rfl rfl rfl rfl rfl rfl (WPr.silx [] ⟨[(0, .S 0), (1, .I a_), (2, .I m_), (3, .I b_), (4, .c (.cl 48 [] [1])), (18, .I (w64 (x676))), (19, .I (w64 ((w64 (x676)) + m_))), (20, .I v20_20), (21, .I v21_20), (22, .I (w64 ((w64 ((w64 (x676)) + m_)) - (1 : Int)))), (23, .I (w64 (x826)))], [(0, .own (rI .i64) data_ false), (1, .box (cC4 2 3 4 5 c0_) 27)], (vV4 2 3 4 5 c0_ []), 6⟩ htt 2 (by kernel_rfl) (WPr.nil (WP.seq (WP.nm (fun A45 tA45 fA45 => ?_)))))
      have st827 : A45 0 ⟨[(4, .c (.cl 48 [] [1]))], [], [], [], 6, [(158, .c (.cl 48 [] [1]))], [], [], 6⟩ := tA45 _ _ (LS.sil htt rfl rfl rfl rfl rfl rfl)
      have st828 : A45 1 ⟨[(0, .S 0)], [], [], [], 6, [(159, .S 0)], [], [], 6⟩ := tA45 _ _ (LS.sil htt rfl rfl rfl rfl rfl rfl)
      have st829 : A45 2 ⟨[(22, .I (w64 ((w64 ((w64 (x676)) + m_)) - (1 : Int))))], [], [], [], 6, [(160, .I (w64 ((w64 ((w64 (x676)) + m_)) - (1 : Int))))], [], [], 6⟩ := tA45 _ _ (LS.sil htt rfl rfl rfl rfl rfl rfl)
      have st830 : A45 3 ⟨[(23, .I (w64 (x826)))], [], [], [], 6, [(161, .I (w64 (x826)))], [], [], 6⟩ := tA45 _ _ (LS.sil htt rfl rfl rfl rfl rfl rfl)
      have st831 : A45 4 ⟨[(160, .I (w64 ((w64 ((w64 (x676)) + m_)) - (1 : Int)))), (161, .I (w64 (x826)))], [], [], [], 6, [(162, .I (w64 ((w64 ((w64 ((w64 (x676)) + m_)) - (1 : Int))) - (w64 (x826)))))], [], [], 6⟩ := tA45 _ _ (LS.sil htt rfl rfl rfl rfl rfl rfl)
      obtain ⟨x832, hx832, h⟩ := ob h
      have st833 : A45 5 ⟨[(159, .S 0), (162, .I (w64 ((w64 ((w64 ((w64 (x676)) + m_)) - (1 : Int))) - (w64 (x826)))))], [], [], [(0, .own (rI .i64) data_ false)], 6, [(163, .P 6 0)], [(6, .el 0 (((w64 ((w64 ((w64 ((w64 (x676)) + m_)) - (1 : Int))) - (w64 (x826))))).toNat * ((rI .i64)).sz))], [], 7⟩ := tA45 _ _ (LS.of rfl rfl rfl (fun _ _ _ _ _ _ _ k => WPr.ixo htt hx832 rfl rfl rfl rfl rfl rfl rfl rfl rfl (k)) rfl)
      have st834 : A45 6 ⟨[(163, .P 6 0)], [(6, .el 0 (((w64 ((w64 ((w64 ((w64 (x676)) + m_)) - (1 : Int))) - (w64 (x826))))).toNat * ((rI .i64)).sz))], [], [(0, .own (rI .i64) data_ false)], 7, [(164, .I x832)], [], [], 7⟩ := tA45 _ _ (LS.of rfl rfl rfl (fun _ _ _ _ _ _ _ k => WPr.ldo (oI .i64) htt hx832 rfl rfl rfl rfl rfl rfl rfl rfl rfl rfl (k)) rfl)
      have st835 : A45 7 ⟨[(0, .S 0)], [], [], [], 7, [(165, .S 0)], [], [], 7⟩ := tA45 _ _ (LS.sil htt rfl rfl rfl rfl rfl rfl)
      have st836 : A45 8 ⟨[(23, .I (w64 (x826)))], [], [], [], 7, [(166, .I (w64 (x826)))], [], [], 7⟩ := tA45 _ _ (LS.sil htt rfl rfl rfl rfl rfl rfl)
      obtain ⟨x837, hx837, h⟩ := ob h
      have st838 : A45 9 ⟨[(165, .S 0), (166, .I (w64 (x826)))], [], [], [(0, .own (rI .i64) data_ false)], 7, [(167, .P 7 0)], [(7, .el 0 (((w64 (x826))).toNat * ((rI .i64)).sz))], [], 8⟩ := tA45 _ _ (LS.of rfl rfl rfl (fun _ _ _ _ _ _ _ k => WPr.ixo htt hx837 rfl rfl rfl rfl rfl rfl rfl rfl rfl (k)) rfl)
      have st839 : A45 10 ⟨[(167, .P 7 0)], [(7, .el 0 (((w64 (x826))).toNat * ((rI .i64)).sz))], [], [(0, .own (rI .i64) data_ false)], 8, [(168, .I x837)], [], [], 8⟩ := tA45 _ _ (LS.of rfl rfl rfl (fun _ _ _ _ _ _ _ k => WPr.ldo (oI .i64) htt hx837 rfl rfl rfl rfl rfl rfl rfl rfl rfl rfl (k)) rfl)
      obtain ⟨x840, hx840, h⟩ := ob h
      have st841 : A45 11 ⟨[(158, .c (.cl 48 [] [1])), (164, .I x832), (168, .I x837)], (vV4 2 3 4 5 c0_ []), [], [(1, .box (cC4 2 3 4 5 c0_) 27)], 8, [(169, .I x840)], [], [], 8⟩ := tA45 _ _ (LS.of rfl rfl rfl (fun _ _ _ _ _ _ _ k => WPr.callc (z48_8_ct N x832 x837 c0_ _ hx840) [(0, .bp 1 0), (1, .sl 2), (2, .sl 3), (3, .sl 4), (4, .sl 5)] [] rfl rfl rfl rfl rfl rfl rfl rfl rfl (.inl rfl) rfl (k)) rfl)
      have st842 : A45 12 ⟨[(169, .I x840)], [], [], [], 8, [(170, .O (decide (x840 < (0 : Int))))], [], [], 8⟩ := tA45 _ _ (LS.sil htt rfl rfl rfl rfl rfl rfl)
      have st843 : A45 13 ⟨[(170, .O (decide (x840 < (0 : Int))))], [], [], [], 8, [(171, .O (!(decide (x840 < (0 : Int)))))], [], [], 8⟩ := tA45 _ _ (LS.sil htt rfl rfl rfl rfl rfl rfl)
      refine WP.regionD (t := ⟨[(0, .S 0), (1, .I a_), (2, .I m_), (3, .I b_), (4, .c (.cl 48 [] [1])), (18, .I (w64 (x676))), (19, .I (w64 ((w64 (x676)) + m_))), (20, .I v20_20), (21, .I v21_20), (22, .I (w64 ((w64 ((w64 (x676)) + m_)) - (1 : Int)))), (23, .I (w64 (x826))), (171, .O (!(decide (x840 < (0 : Int)))))], [(0, .own (rI .i64) data_ false), (1, .box (cC4 2 3 4 5 c0_) 27)], (vV4 2 3 4 5 c0_ []), 8⟩) [0, 0, 0, 0, 12, 30, 62, 0, 0, 384, 896, 2047, 4095, 8191] (.cons (fA45 _ _ st827) (.cons (fA45 _ _ st828) (.cons (fA45 _ _ st829) (.cons (fA45 _ _ st830) (.cons (fA45 _ _ st831) (.cons (fA45 _ _ st833) (.cons (fA45 _ _ st834) (.cons (fA45 _ _ st835) (.cons (fA45 _ _ st836) (.cons (fA45 _ _ st838) (.cons (fA45 _ _ st839) (.cons (fA45 _ _ st841) (.cons (fA45 _ _ st842) (.cons (fA45 _ _ st843) .nil)))))))))))))) (by kernel_rfl) (by kernel_rfl) (by kernel_rfl) (by kernel_rfl) (?_)
      rcases oc h with ⟨hc, h⟩ | ⟨hc, h⟩
      · exact WP.condT hc rfl (WP.region (WPr.silx [] ⟨[(0, .S 0), (1, .I a_), (2, .I m_), (3, .I b_), (4, .c (.cl 48 [] [1])), (18, .I (w64 (x676))), (19, .I (w64 ((w64 (x676)) + m_))), (20, .I (w64 ((w64 (x826)) + (1 : Int)))), (21, .I v21_20), (22, .I (w64 ((w64 ((w64 (x676)) + m_)) - (1 : Int))))], [(0, .own (rI .i64) data_ false), (1, .box (cC4 2 3 4 5 c0_) 27)], (vV4 2 3 4 5 c0_ []), 8⟩ htt 3 (by kernel_rfl) (WPr.nil (WP.inBlock (WP.sub [] (ih20 ((w64 ((w64 (x826)) + (1 : Int))), v21_20) h) rfl rfl rfl rfl)))))
      exact WP.condF hc rfl (WP.region (WPr.sil htt 2 rfl (WPr.nil (WP.inBlock (WP.sub [] (ih20 (v20_20, (w64 (x826))) h) rfl rfl rfl rfl)))))
    exact WP.sub [] (ih N (v20_13, v21_13) h) rfl rfl rfl rfl
  rcases oc h with ⟨hc, h⟩ | ⟨hc, h⟩
  · exact WP.condT hc rfl (WP.seq (WP.region (WPr.silx [] ⟨[(0, .S 0), (1, .I a_), (2, .I m_), (3, .I b_), (4, .c (.cl 48 [] [1])), (18, .I (w64 (x676))), (19, .I (w64 ((w64 (x676)) + m_))), (20, .I (w64 ((w64 ((w64 (x676)) + m_)) - b_)))], [(0, .own (rI .i64) data_ false), (1, .box (cC4 2 3 4 5 c0_) 27)], (vV4 2 3 4 5 c0_ []), 6⟩ htt 4 (by kernel_rfl) (WPr.nil (WP.region (WPr.sil htt 2 rfl (WPr.nil (WP.sub [] (j13 ((w64 ((w64 ((w64 (x676)) + m_)) - b_)), (w64 (x676))) h) rfl rfl rfl rfl))))))))
  exact WP.condF hc rfl (WP.seq (WP.region (WPr.sil htt 2 rfl (WPr.nil (WP.region (WPr.silx [] ⟨[(0, .S 0), (1, .I a_), (2, .I m_), (3, .I b_), (4, .c (.cl 48 [] [1])), (18, .I (w64 (x676))), (19, .I (w64 ((w64 (x676)) + m_))), (20, .I a_), (21, .I m_)], [(0, .own (rI .i64) data_ false), (1, .box (cC4 2 3 4 5 c0_) 27)], (vV4 2 3 4 5 c0_ []), 6⟩ htt 2 (by kernel_rfl) (WPr.nil (WP.sub [] (j13 (a_, m_) h) rfl rfl rfl rfl))))))))
theorem slices_symMergeCmpFunc_int_of_global_Edges_1_rct : ∀ (N : Nat) (data_ : (List Int)) (a_ : Int) (m_ : Int) (b_ : Int) (c0_ : T4) (r : (List Int)) (h : slices_symMergeCmpFunc_int_of_global_Edges_1_r N data_ a_ m_ b_ c0_ = some r), Fn Tryz.prog 147 ⟨6, [.S 0, .I a_, .I m_, .I b_, .c (.cl 48 [] [1])], (vV4 2 3 4 5 c0_ []), [(0, .own (rI .i64) data_ false), (1, .box (cC4 2 3 4 5 c0_) 27)], 6, .t [], [], [(0, .own (rI .i64) r false), (1, .box (cC4 2 3 4 5 c0_) 27)]⟩ := by
  intro N
  induction N with
  | zero => intros; rename_i h; cases h
  | succ N ih => intro data_ a_ m_ b_ c0_ r h; exact z147_12_ct N (slices_symMergeCmpFunc_int_of_global_Edges_1_r N) ih data_ a_ m_ b_ c0_ r h
theorem slices_symMergeCmpFunc_int_of_global_Edges_1_ct (N : Nat) (data_ : (List Int)) (a_ : Int) (m_ : Int) (b_ : Int) (c0_ : T4) (r : (List Int)) (h : slices_symMergeCmpFunc_int_of_global_Edges_1 N data_ a_ m_ b_ c0_ = some r) : Fn Tryz.prog 147 ⟨6, [.S 0, .I a_, .I m_, .I b_, .c (.cl 48 [] [1])], (vV4 2 3 4 5 c0_ []), [(0, .own (rI .i64) data_ false), (1, .box (cC4 2 3 4 5 c0_) 27)], 6, .t [], [], [(0, .own (rI .i64) r false), (1, .box (cC4 2 3 4 5 c0_) 27)]⟩ := slices_symMergeCmpFunc_int_of_global_Edges_1_rct N data_ a_ m_ b_ c0_ r h
theorem z110_13_ct (N : Nat) (data_ : (List Int)) (n_ : Int) (c0_ : T4) (r : (List Int)) (h : z110_13 N data_ n_ c0_ = some r) :
  Fn Tryz.prog 110 ⟨6, [.S 0, .I n_, .c (.cl 48 [] [1])], (vV4 2 3 4 5 c0_ []), [(0, .own (rI .i64) data_ false), (1, .box (cC4 2 3 4 5 c0_) 27)], 6, .t [], [], [(0, .own (rI .i64) r false), (1, .box (cC4 2 3 4 5 c0_) 27)]⟩ := by
  refine Fn.intro _ _ Tryz.func110 rfl (by kernel_rfl) rfl (fun E F w => ?_)
  unfold z110_13 at h
  refine WP.seq (WP.region (WPr.sil htt 1 rfl (WPr.nil (WP.seq (WP.region (WPr.silx [] ⟨[(0, .S 0), (1, .I n_), (2, .c (.cl 48 [] [1])), (6, .I (20 : Int)), (7, .I (0 : Int)), (8, .I (20 : Int))], [(0, .own (rI .i64) data_ false), (1, .box (cC4 2 3 4 5 c0_) 27)], (vV4 2 3 4 5 c0_ []), 6⟩ htt 3 (by kernel_rfl) (WPr.nil (WP.seq (?_)))))))))
  refine WP.cut (σ := (List Int) × Int) (fun st => ⟨[(0, .S 0), (1, .I n_), (2, .c (.cl 48 [] [1])), (6, .I (20 : Int)), (7, .I st.2)], [(0, .own (rI .i64) st.1 false), (1, .box (cC4 2 3 4 5 c0_) 27)], (vV4 2 3 4 5 c0_ []), 6⟩) (fun st => z110_13_k5 N n_ c0_ st.1 st.2 = some r) ?_ (fun j1 => ?_)
  · rintro ⟨vk0_1, v7_1⟩ h
    replace h : z110_13_k5 N n_ c0_ vk0_1 v7_1 = some r := h
    unfold z110_13_k5 at h
    refine WP.seq (WP.region (WPr.silx [4] ⟨[(0, .S 0), (1, .I n_), (2, .c (.cl 48 [] [1])), (6, .I (20 : Int)), (23, .S 0), (24, .I v7_1), (25, .I n_), (26, .c (.cl 48 [] [1]))], [(0, .own (rI .i64) vk0_1 false), (1, .box (cC4 2 3 4 5 c0_) 27)], (vV4 2 3 4 5 c0_ []), 6⟩ htt 4 (by kernel_rfl) (?_)))
    obtain ⟨x5, hx5, h⟩ := ob h
    refine WPr.call (z146_9_ct N vk0_1 v7_1 n_ c0_ _ hx5) [(0, .sl 0), (1, .bp 1 0), (2, .sl 2), (3, .sl 3), (4, .sl 4), (5, .sl 5)] [] rfl rfl rfl rfl rfl rfl rfl rfl (.inl rfl) rfl (WPr.silx [] ⟨[(0, .S 0), (1, .I n_), (2, .c (.cl 48 [] [1])), (6, .I (20 : Int))], [(0, .own (rI .i64) x5 false), (1, .box (cC4 2 3 4 5 c0_) 27)], (vV4 2 3 4 5 c0_ []), 6⟩ htt 0 (by kernel_rfl) (WPr.nil (?_)))
    refine WP.cut (σ := (List Int)) (fun st => ⟨[], [(0, .own (rI .i64) st false), (1, .box (cC4 2 3 4 5 c0_) 27)], (vV4 2 3 4 5 c0_ []), 6⟩) (fun st => z110_13_k1 st = some r) ?_ (fun j3 => ?_)
    · intro vk0_3 h
      replace h : z110_13_k1 vk0_3 = some r := h
      unfold z110_13_k1 at h
      cases h
      exact WP.fin htt Tryz.func110 [] rfl rfl rfl rfl
    refine WP.block (?_)
    refine WP.loopI (σ := (List Int) × Int) (fun st => ⟨[(0, .S 0), (1, .I n_), (2, .c (.cl 48 [] [1])), (6, .I st.2)], [(0, .own (rI .i64) st.1 false), (1, .box (cC4 2 3 4 5 c0_) 27)], (vV4 2 3 4 5 c0_ []), 6⟩) (fun n st => z110_13_l2 N n_ c0_ n st.1 st.2) (r := r) (fun _ => rfl) ?_ (fun ih => ?_)
    · intro n13 ih14
      rintro ⟨vk0_14, v6_14⟩ h
      replace h : z110_13_l2 N n_ c0_ (n13 + 1) vk0_14 v6_14 = some r := h
      unfold z110_13_l2 at h
      refine WP.seq (WP.seq (WP.region (WPr.silx [] ⟨[(0, .S 0), (1, .I n_), (2, .c (.cl 48 [] [1])), (6, .I v6_14), (30, .O (decide (v6_14 < n_)))], [(0, .own (rI .i64) vk0_14 false), (1, .box (cC4 2 3 4 5 c0_) 27)], (vV4 2 3 4 5 c0_ []), 6⟩ htt 3 (by kernel_rfl) (WPr.nil (?_)))))
      rcases oc' h with ⟨hc, h⟩ | ⟨hc, h⟩
      · exact WP.condF hc rfl (WP.exit rfl (WP.sub [] (j3 vk0_14 h) rfl rfl rfl rfl))
      refine WP.condT hc rfl (WP.skip (WP.block (WP.seq (WP.region (WPr.silx [] ⟨[(0, .S 0), (1, .I n_), (2, .c (.cl 48 [] [1])), (6, .I v6_14), (7, .I (0 : Int)), (8, .I (w64 ((2 : Int) * v6_14)))], [(0, .own (rI .i64) vk0_14 false), (1, .box (cC4 2 3 4 5 c0_) 27)], (vV4 2 3 4 5 c0_ []), 6⟩ htt 4 (by kernel_rfl) (WPr.nil (WP.seq (?_))))))))
      refine WP.cut (σ := (List Int) × Int) (fun st => ⟨[(0, .S 0), (1, .I n_), (2, .c (.cl 48 [] [1])), (6, .I v6_14), (7, .I st.2)], [(0, .own (rI .i64) st.1 false), (1, .box (cC4 2 3 4 5 c0_) 27)], (vV4 2 3 4 5 c0_ []), 6⟩) (fun st => z110_13_k3 N n_ c0_ v6_14 (z110_13_l2 N n_ c0_ n13) st.1 st.2 = some r) ?_ (fun j21 => ?_)
      · rintro ⟨vk0_21, v7_21⟩ h
        replace h : z110_13_k3 N n_ c0_ v6_14 (z110_13_l2 N n_ c0_ n13) vk0_21 v7_21 = some r := h
        unfold z110_13_k3 at h
        refine WP.seq (WP.seq (WP.region (WPr.silx [] ⟨[(0, .S 0), (1, .I n_), (2, .c (.cl 48 [] [1])), (6, .I v6_14), (7, .I v7_21), (9, .I (w64 (v7_21 + v6_14)))], [(0, .own (rI .i64) vk0_21 false), (1, .box (cC4 2 3 4 5 c0_) 27)], (vV4 2 3 4 5 c0_ []), 6⟩ htt 4 (by kernel_rfl) (WPr.nil (WP.seq (WP.region (WPr.silx [] ⟨[(0, .S 0), (1, .I n_), (2, .c (.cl 48 [] [1])), (6, .I v6_14), (7, .I v7_21), (9, .I (w64 (v7_21 + v6_14))), (54, .O (decide ((w64 (v7_21 + v6_14)) < n_)))], [(0, .own (rI .i64) vk0_21 false), (1, .box (cC4 2 3 4 5 c0_) 27)], (vV4 2 3 4 5 c0_ []), 6⟩ htt 3 (by kernel_rfl) (WPr.nil (?_)))))))))
        rcases oc' h with ⟨hc, h⟩ | ⟨hc, h⟩
        · exact WP.condF hc rfl (WP.skip (WP.region (WPr.silx [] ⟨[(0, .S 0), (1, .I n_), (2, .c (.cl 48 [] [1])), (6, .I (w64 (v6_14 * (2 : Int))))], [(0, .own (rI .i64) vk0_21 false), (1, .box (cC4 2 3 4 5 c0_) 27)], (vV4 2 3 4 5 c0_ []), 6⟩ htt 3 (by kernel_rfl) (WPr.nil (WP.inBlock (WP.sub [] (ih14 (vk0_21, (w64 (v6_14 * (2 : Int)))) h) rfl rfl rfl rfl))))))
        refine WP.condT hc rfl (WP.region (WPr.silx [5] ⟨[(0, .S 0), (1, .I n_), (2, .c (.cl 48 [] [1])), (6, .I v6_14), (55, .S 0), (56, .I v7_21), (57, .I (w64 (v7_21 + v6_14))), (58, .I n_), (59, .c (.cl 48 [] [1]))], [(0, .own (rI .i64) vk0_21 false), (1, .box (cC4 2 3 4 5 c0_) 27)], (vV4 2 3 4 5 c0_ []), 6⟩ htt 5 (by kernel_rfl) (?_)))
        obtain ⟨x83, hx83, h⟩ := ob h
        exact WPr.call (slices_symMergeCmpFunc_int_of_global_Edges_1_ct N vk0_21 v7_21 (w64 (v7_21 + v6_14)) n_ c0_ _ hx83) [(0, .sl 0), (1, .bp 1 0), (2, .sl 2), (3, .sl 3), (4, .sl 4), (5, .sl 5)] [] rfl rfl rfl rfl rfl rfl rfl rfl (.inl rfl) rfl (WPr.silx [] ⟨[(0, .S 0), (1, .I n_), (2, .c (.cl 48 [] [1])), (6, .I v6_14)], [(0, .own (rI .i64) x83 false), (1, .box (cC4 2 3 4 5 c0_) 27)], (vV4 2 3 4 5 c0_ []), 6⟩ htt 0 (by kernel_rfl) (WPr.nil (WP.region (WPr.silx [] ⟨[(0, .S 0), (1, .I n_), (2, .c (.cl 48 [] [1])), (6, .I (w64 (v6_14 * (2 : Int))))], [(0, .own (rI .i64) x83 false), (1, .box (cC4 2 3 4 5 c0_) 27)], (vV4 2 3 4 5 c0_ []), 6⟩ htt 3 (by kernel_rfl) (WPr.nil (WP.inBlock (WP.sub [] (ih14 (x83, (w64 (v6_14 * (2 : Int)))) h) rfl rfl rfl rfl)))))))
      refine WP.block (?_)
      refine WP.loopI (σ := (List Int) × Int × Int) (fun st => ⟨[(0, .S 0), (1, .I n_), (2, .c (.cl 48 [] [1])), (6, .I v6_14), (7, .I st.2.1), (8, .I st.2.2)], [(0, .own (rI .i64) st.1 false), (1, .box (cC4 2 3 4 5 c0_) 27)], (vV4 2 3 4 5 c0_ []), 6⟩) (fun n st => z110_13_l4 N n_ c0_ v6_14 (z110_13_l2 N n_ c0_ n13) n st.1 st.2.1 st.2.2) (r := r) (fun _ => rfl) ?_ (fun ih => ?_)
      · intro n15 ih23
        rintro ⟨vk0_23, v7_23, v8_23⟩ h
        replace h : z110_13_l4 N n_ c0_ v6_14 (z110_13_l2 N n_ c0_ n13) (n15 + 1) vk0_23 v7_23 v8_23 = some r := h
        unfold z110_13_l4 at h
        refine WP.seq (WP.seq (WP.region (WPr.silx [] ⟨[(0, .S 0), (1, .I n_), (2, .c (.cl 48 [] [1])), (6, .I v6_14), (7, .I v7_23), (8, .I v8_23), (35, .O (decide (v8_23 ≤ n_)))], [(0, .own (rI .i64) vk0_23 false), (1, .box (cC4 2 3 4 5 c0_) 27)], (vV4 2 3 4 5 c0_ []), 6⟩ htt 3 (by kernel_rfl) (WPr.nil (?_)))))
        rcases oc' h with ⟨hc, h⟩ | ⟨hc, h⟩
        · exact WP.condF hc rfl (WP.exit rfl (WP.sub [] (j21 (vk0_23, v7_23) h) rfl rfl rfl rfl))
        refine WP.condT hc rfl (WP.skip (WP.block (WP.seq (WP.region (WPr.silx [7] ⟨[(0, .S 0), (1, .I n_), (2, .c (.cl 48 [] [1])), (6, .I v6_14), (8, .I v8_23), (36, .S 0), (37, .I v7_23), (40, .I (w64 (v7_23 + v6_14))), (41, .I v8_23), (42, .c (.cl 48 [] [1]))], [(0, .own (rI .i64) vk0_23 false), (1, .box (cC4 2 3 4 5 c0_) 27)], (vV4 2 3 4 5 c0_ []), 6⟩ htt 7 (by kernel_rfl) (?_))))))
        obtain ⟨x88, hx88, h⟩ := ob h
        exact WPr.call (slices_symMergeCmpFunc_int_of_global_Edges_1_ct N vk0_23 v7_23 (w64 (v7_23 + v6_14)) v8_23 c0_ _ hx88) [(0, .sl 0), (1, .bp 1 0), (2, .sl 2), (3, .sl 3), (4, .sl 4), (5, .sl 5)] [] rfl rfl rfl rfl rfl rfl rfl rfl (.inl rfl) rfl (WPr.silx [] ⟨[(0, .S 0), (1, .I n_), (2, .c (.cl 48 [] [1])), (6, .I v6_14), (8, .I v8_23)], [(0, .own (rI .i64) x88 false), (1, .box (cC4 2 3 4 5 c0_) 27)], (vV4 2 3 4 5 c0_ []), 6⟩ htt 0 (by kernel_rfl) (WPr.nil (WP.seq (WP.region (WPr.sil htt 2 rfl (WPr.nil (WP.region (WPr.silx [] ⟨[(0, .S 0), (1, .I n_), (2, .c (.cl 48 [] [1])), (6, .I v6_14), (7, .I v8_23), (8, .I (w64 (v8_23 + (w64 ((2 : Int) * v6_14)))))], [(0, .own (rI .i64) x88 false), (1, .box (cC4 2 3 4 5 c0_) 27)], (vV4 2 3 4 5 c0_ []), 6⟩ htt 5 (by kernel_rfl) (WPr.nil (WP.inBlock (WP.sub [] (ih23 (x88, v8_23, (w64 (v8_23 + (w64 ((2 : Int) * v6_14))))) h) rfl rfl rfl rfl)))))))))))
      exact WP.sub [] (ih N (vk0_14, (0 : Int), (w64 ((2 : Int) * v6_14))) h) rfl rfl rfl rfl
    exact WP.sub [] (ih N (x5, (20 : Int)) h) rfl rfl rfl rfl
  refine WP.block (?_)
  refine WP.loopI (σ := (List Int) × Int × Int) (fun st => ⟨[(0, .S 0), (1, .I n_), (2, .c (.cl 48 [] [1])), (6, .I (20 : Int)), (7, .I st.2.1), (8, .I st.2.2)], [(0, .own (rI .i64) st.1 false), (1, .box (cC4 2 3 4 5 c0_) 27)], (vV4 2 3 4 5 c0_ []), 6⟩) (fun n st => z110_13_l6 N n_ c0_ n st.1 st.2.1 st.2.2) (r := r) (fun _ => rfl) ?_ (fun ih => ?_)
  · intro n16 ih24
    rintro ⟨vk0_24, v7_24, v8_24⟩ h
    replace h : z110_13_l6 N n_ c0_ (n16 + 1) vk0_24 v7_24 v8_24 = some r := h
    unfold z110_13_l6 at h
    refine WP.seq (WP.seq (WP.region (WPr.silx [] ⟨[(0, .S 0), (1, .I n_), (2, .c (.cl 48 [] [1])), (6, .I (20 : Int)), (7, .I v7_24), (8, .I v8_24), (13, .O (decide (v8_24 ≤ n_)))], [(0, .own (rI .i64) vk0_24 false), (1, .box (cC4 2 3 4 5 c0_) 27)], (vV4 2 3 4 5 c0_ []), 6⟩ htt 3 (by kernel_rfl) (WPr.nil (?_)))))
    rcases oc' h with ⟨hc, h⟩ | ⟨hc, h⟩
    · exact WP.condF hc rfl (WP.exit rfl (WP.sub [] (j1 (vk0_24, v7_24) h) rfl rfl rfl rfl))
    refine WP.condT hc rfl (WP.skip (WP.block (WP.seq (WP.region (WPr.silx [4] ⟨[(0, .S 0), (1, .I n_), (2, .c (.cl 48 [] [1])), (6, .I (20 : Int)), (8, .I v8_24), (14, .S 0), (15, .I v7_24), (16, .I v8_24), (17, .c (.cl 48 [] [1]))], [(0, .own (rI .i64) vk0_24 false), (1, .box (cC4 2 3 4 5 c0_) 27)], (vV4 2 3 4 5 c0_ []), 6⟩ htt 4 (by kernel_rfl) (?_))))))
    obtain ⟨x93, hx93, h⟩ := ob h
    exact WPr.call (z146_9_ct N vk0_24 v7_24 v8_24 c0_ _ hx93) [(0, .sl 0), (1, .bp 1 0), (2, .sl 2), (3, .sl 3), (4, .sl 4), (5, .sl 5)] [] rfl rfl rfl rfl rfl rfl rfl rfl (.inl rfl) rfl (WPr.silx [] ⟨[(0, .S 0), (1, .I n_), (2, .c (.cl 48 [] [1])), (6, .I (20 : Int)), (8, .I v8_24)], [(0, .own (rI .i64) x93 false), (1, .box (cC4 2 3 4 5 c0_) 27)], (vV4 2 3 4 5 c0_ []), 6⟩ htt 0 (by kernel_rfl) (WPr.nil (WP.seq (WP.region (WPr.sil htt 2 rfl (WPr.nil (WP.region (WPr.silx [] ⟨[(0, .S 0), (1, .I n_), (2, .c (.cl 48 [] [1])), (6, .I (20 : Int)), (7, .I v8_24), (8, .I (w64 (v8_24 + (20 : Int))))], [(0, .own (rI .i64) x93 false), (1, .box (cC4 2 3 4 5 c0_) 27)], (vV4 2 3 4 5 c0_ []), 6⟩ htt 4 (by kernel_rfl) (WPr.nil (WP.inBlock (WP.sub [] (ih24 (x93, v8_24, (w64 (v8_24 + (20 : Int)))) h) rfl rfl rfl rfl)))))))))))
  exact WP.sub [] (ih N (data_, (0 : Int), (20 : Int)) h) rfl rfl rfl rfl
theorem z47_14_ct (N : Nat) (x_ : (List Int)) (c0_ : T4) (r : (List Int)) (h : z47_14 N x_ c0_ = some r) :
  Fn Tryz.prog 47 ⟨6, [.S 0, .c (.cl 48 [] [1])], (vV4 2 3 4 5 c0_ []), [(0, .own (rI .i64) x_ false), (1, .box (cC4 2 3 4 5 c0_) 27)], 6, .t [], [], [(0, .own (rI .i64) r false), (1, .box (cC4 2 3 4 5 c0_) 27)]⟩ := by
  refine Fn.intro _ _ Tryz.func47 rfl (by kernel_rfl) rfl (fun E F w => ?_)
  unfold z47_14 at h
  refine WP.region (WPr.silx [4] ⟨[(4, .S 0), (6, .I (x_.length : Int)), (7, .c (.cl 48 [] [1]))], [(0, .own (rI .i64) x_ false), (1, .box (cC4 2 3 4 5 c0_) 27)], (vV4 2 3 4 5 c0_ []), 6⟩ htt 4 (by kernel_rfl) (?_))
  obtain ⟨x1, hx1, h⟩ := ob h
  refine WPr.call (z110_13_ct N x_ (x_.length : Int) c0_ _ hx1) [(0, .sl 0), (1, .bp 1 0), (2, .sl 2), (3, .sl 3), (4, .sl 4), (5, .sl 5)] [] rfl rfl rfl rfl rfl rfl rfl rfl (.inl rfl) rfl (WPr.silx [] ⟨[], [(0, .own (rI .i64) x1 false), (1, .box (cC4 2 3 4 5 c0_) 27)], (vV4 2 3 4 5 c0_ []), 6⟩ htt 0 (by kernel_rfl) (WPr.nil (?_)))
  cases h
  exact WP.fin htt Tryz.func47 [] rfl rfl rfl rfl
theorem z18_ct (N : Nat) (g_ : T4) (state_ : Int) (r : (List Int)) (h : z18 N g_ state_ = some r) :
  Fn Tryz.prog 18 ⟨4, [.a (cC4 0 1 2 3 g_), .I state_], (vV4 0 1 2 3 g_ []), [], 5, .S 4, [], [(4, .own (rI .i64) r true)]⟩ := by
  refine Fn.intro _ _ Tryz.func18 rfl (by kernel_rfl) rfl (fun E F w => ?_)
  unfold z18 at h
  refine WP.seq (WP.region (WPr.sil htt 2 rfl (WPr.nil (WP.seq (WP.region (WPr.silx [] ⟨[(1, .I state_), (2, .B 4 0), (4, .c .nil), (5, .c .nil)], [(4, .box (cC4 0 1 2 3 g_) 27)], (vV4 0 1 2 3 g_ []), 5⟩ htt 1 (by kernel_rfl) (WPr.nil (WP.seq (WP.seq (WP.region (WPr.silx [] ⟨[(1, .I state_), (2, .B 4 0), (4, .c .nil), (5, .c .nil), (9, .S 2), (10, .I (g_.Edges.length : Int)), (11, .I (0 : Int))], [(4, .box (cC4 0 1 2 3 g_) 27)], (vV4 0 1 2 3 g_ []), 5⟩ htt 4 (by kernel_rfl) (WPr.nil (?_)))))))))))))
  refine WP.cut (σ := (List Int)) (fun st => ⟨[(2, .B 4 0), (5, .S 5)], [(4, .box (cC4 0 1 2 3 g_) 27), (5, .own (rI .i64) st true)], (vV4 0 1 2 3 g_ []), 6⟩) (fun st => z18_k1 N g_ st = some r) ?_ (fun j1 => ?_)
  · intro v5_1 h
    replace h : z18_k1 N g_ v5_1 = some r := h
    unfold z18_k1 at h
    refine WP.seq (WP.region (WPr.sil htt 2 rfl (?_)))
    obtain ⟨x9, hx9, h⟩ := ob h
    refine WPr.call (z47_14_ct N v5_1 g_ _ hx9) [(0, .sl 5), (1, .bp 4 0), (2, .sl 0), (3, .sl 1), (4, .sl 2), (5, .sl 3)] [] rfl rfl rfl rfl rfl rfl rfl rfl (.inl rfl) rfl (WPr.silx [] ⟨[(5, .S 5)], [(5, .own (rI .i64) x9 true)], (vV4 0 1 2 3 g_ []), 6⟩ htt 0 (by kernel_rfl) (WPr.nil (WP.seq (WP.region (WPr.sil htt 2 rfl (WPr.nil (?_)))))))
    cases h
    exact WP.ret htt Tryz.func18 [(4, .sl 5)] rfl rfl rfl rfl
  refine WP.block (?_)
  refine WP.loopI (σ := (List Int) × Int) (fun st => ⟨[(1, .I state_), (2, .B 4 0), (5, .S 5), (9, .S 2), (10, .I (g_.Edges.length : Int)), (11, .I st.2)], [(4, .box (cC4 0 1 2 3 g_) 27), (5, .own (rI .i64) st.1 true)], (vV4 0 1 2 3 g_ []), 6⟩) (fun n st => z18_l2 N g_ state_ n st.1 st.2) (r := r) (fun _ => rfl) ?_ (fun ih => ?_)
  · intro n2 ih3
    rintro ⟨v5_3, v11_3⟩ h
    replace h : z18_l2 N g_ state_ (n2 + 1) v5_3 v11_3 = some r := h
    unfold z18_l2 at h
    refine WP.seq (WP.region (WPr.sil htt 1 rfl (WPr.nil (WP.seq (?_)))))
    rcases oc' h with ⟨hc, h⟩ | ⟨hc, h⟩
    · exact WP.condF hc rfl (WP.exit rfl (WP.sub [] (j1 v5_3 h) rfl rfl rfl rfl))
    refine WP.condT hc rfl (WP.skip (WP.seq (WP.block (WP.seq (WP.region (WPr.sil htt 1 rfl (?_)))))))
    obtain ⟨x18, hx18, h⟩ := ob h
    refine WPr.ix oO2 htt hx18 rfl rfl rfl rfl rfl rfl rfl rfl rfl (WPr.silx [] ⟨[(1, .I state_), (2, .B 4 0), (5, .S 5), (6, .I v11_3), (7, .B 7 0), (9, .S 2), (10, .I (g_.Edges.length : Int)), (11, .I v11_3)], [(4, .box (cC4 0 1 2 3 g_) 27), (5, .own (rI .i64) v5_3 true), (7, .box (cC2 x18) 43)], (vV4 0 1 2 3 g_ []), 8⟩ htt 4 (by kernel_rfl) (WPr.nil (WP.seq (WP.region (WPr.silx [] ⟨[(1, .I state_), (2, .B 4 0), (5, .S 5), (6, .I v11_3), (9, .S 2), (10, .I (g_.Edges.length : Int)), (11, .I v11_3), (19, .O (x18.From == state_))], [(4, .box (cC4 0 1 2 3 g_) 27), (5, .own (rI .i64) v5_3 true)], (vV4 0 1 2 3 g_ []), 8⟩ htt 4 (by kernel_rfl) (WPr.nil (?_)))))))
    rcases oc' h with ⟨hc, h⟩ | ⟨hc, h⟩
    · exact WP.condF hc rfl (WP.skip (WP.inBlock (WP.region (WPr.sil htt 2 rfl (WPr.nil (WP.sub [] (ih3 (v5_3, (w64 (v11_3 + (1 : Int)))) h) rfl rfl rfl rfl))))))
    refine WP.condT hc rfl (WP.region (WPr.sil htt 2 rfl (WPr.bs (cs := [.I v11_3]) (oI .i64) htt ([v11_3] : List Int) rfl rfl rfl rfl rfl rfl (by kernel_rfl) (by exact (an rfl rfl)) rfl (WPr.silx [3, 4] ⟨[(1, .I state_), (2, .B 4 0), (9, .S 2), (10, .I (g_.Edges.length : Int)), (11, .I v11_3), (20, .S 5), (22, .S 8)], [(4, .box (cC4 0 1 2 3 g_) 27), (5, .own (rI .i64) v5_3 true), (8, .own (rI .i64) ([v11_3] : List Int) true)], (vV4 0 1 2 3 g_ []), 9⟩ htt 0 (by kernel_rfl) (?_)))))
    obtain ⟨x19, hx19, h⟩ := ob h
    exact WPr.app htt hx19 (by exact (srcO rfl)) rfl rfl rfl rfl rfl rfl rfl rfl rfl rfl (WPr.silx [] ⟨[(1, .I state_), (2, .B 4 0), (5, .S 9), (9, .S 2), (10, .I (g_.Edges.length : Int)), (11, .I v11_3)], [(4, .box (cC4 0 1 2 3 g_) 27), (9, .own (rI .i64) x19 true)], (vV4 0 1 2 3 g_ []), 10⟩ htt 1 (by kernel_rfl) (WPr.nil (WP.inBlock (WP.region (WPr.sil htt 2 rfl (WPr.nil (WP.sub [(5, .sl 9)] (ih3 (x19, (w64 (v11_3 + (1 : Int)))) h) rfl rfl rfl rfl)))))))
  exact WP.sub [(5, .nil)] (ih N (([] : List Int), (0 : Int)) h) rfl rfl rfl rfl
theorem z45_ct (N : Nat) (s_ : (List T6)) (r : (List T6)) (h : z45 N s_ = some r) :
  Fn Tryz.prog 45 ⟨1, [.S 0], [(0, .sl rR6 s_)], [], 2, .S 1, [], [(1, .own rR6 r true)]⟩ := by
  refine Fn.intro _ _ Tryz.func45 rfl (by kernel_rfl) rfl (fun E F w => ?_)
  unfold z45 at h
  refine WP.seq (WP.region (WPr.sil htt 1 rfl (WPr.nil (WP.seq (WP.seq (WP.region (WPr.sil htt 1 rfl (WPr.nilc (el := 37) false (Or.inl rfl) rfl rfl rfl rfl (by kernel_rfl) rfl rfl rfl (?_)))))))))
  intro nb hnb
  cases nb
  · refine WPr.silx [] ⟨[(0, .S 0), (2, .c .nil), (4, .O false)], [], [(0, .sl rR6 s_)], 1⟩ htt 0 (by kernel_rfl) (WPr.nil (WP.condF rfl rfl (WP.skip (WP.seq (WP.region (WPr.bs (cs := []) oO6 htt ([] : List T6) rfl rfl rfl rfl rfl rfl (by kernel_rfl) (by exact rfl) rfl (WPr.sil htt 1 rfl (?_))))))))
    obtain ⟨x1, hx1, h⟩ := ob h
    refine WPr.app htt hx1 (by exact (srcI rfl)) rfl rfl rfl rfl rfl rfl rfl rfl rfl rfl (WPr.silx [] ⟨[(2, .S 2)], [(2, .own rR6 x1 true)], [(0, .sl rR6 s_)], 3⟩ htt 1 (by kernel_rfl) (WPr.nil (?_)))
    cases h
    exact WP.ret htt Tryz.func45 [(1, .sl 2)] rfl rfl rfl rfl
  · obtain rfl := hnb rfl
    replace h : (some ([] : List T6) : Option (List T6)) = some r := h
    refine WPr.silx [] ⟨[(0, .S 0), (2, .c .nil), (4, .O true)], [], [(0, .sl rR6 ([] : List T6))], 1⟩ htt 0 (by kernel_rfl) (WPr.nil (WP.condT rfl rfl (WP.seq (WP.region (WPr.sil htt 1 rfl (WPr.nil (?_)))))))
    cases h
    exact WP.ret htt Tryz.func45 [(1, .nil)] rfl rfl rfl rfl
theorem z14_ct (N : Nat) (g_ : T4) (n_ : Int) (r : (List (List T6)) × Int) (h : z14 N g_ n_ = some r) :
  Fn Tryz.prog 14 ⟨4, [.a (cC4 0 1 2 3 g_), .I n_], (vV4 0 1 2 3 g_ []), [], 5, .t [.inl (.sl 4), .inl (.I r.2)], [], [(4, .own (rSl rR6) r.1 true)]⟩ := by
  refine Fn.intro _ _ Tryz.func14 rfl (by kernel_rfl) rfl (fun E F w => ?_)
  unfold z14 at h
  refine WP.seq (WP.region (WPr.silx [] ⟨[(1, .I n_), (2, .B 4 0), (4, .c .nil), (5, .I (0 : Int))], [(4, .box (cC4 0 1 2 3 g_) 27)], (vV4 0 1 2 3 g_ []), 5⟩ htt 3 (by kernel_rfl) (WPr.nil (WP.seq (WP.seq (WP.region (WPr.sil htt 1 rfl (?_))))))))
  obtain ⟨x1, hx1, h⟩ := ob h
  refine WPr.call (z22_ct N g_ _ hx1) [(0, .sl 0), (1, .sl 1), (2, .sl 2), (3, .sl 3)] [] rfl rfl rfl rfl rfl rfl rfl rfl (.inl rfl) rfl (WPr.silx [] ⟨[(1, .I n_), (2, .B 4 0), (4, .c .nil), (5, .I (0 : Int)), (13, .O (!x1))], [(4, .box (cC4 0 1 2 3 g_) 27)], (vV4 0 1 2 3 g_ []), 5⟩ htt 1 (by kernel_rfl) (WPr.nil (?_)))
  rcases oc h with ⟨hc, h⟩ | ⟨hc, h⟩
  · refine WP.condT hc rfl (WP.seq (WP.region (WPr.sil htt 2 rfl (WPr.nil (?_)))))
    cases h
    exact WP.ret htt Tryz.func14 [(4, .nil)] rfl rfl rfl rfl
  refine WP.condF hc rfl (WP.skip (WP.seq (WP.seq (WP.region (WPr.silx [3, 4, 5] ⟨[(1, .I n_), (2, .B 4 0), (4, .c .nil), (5, .I (0 : Int)), (16, .O (decide (n_ < (0 : Int))))], [(4, .box (cC4 0 1 2 3 g_) 27)], (vV4 0 1 2 3 g_ []), 5⟩ htt 3 (by kernel_rfl) (?_))))))
  rcases oc h with ⟨hc, h⟩ | ⟨hc, h⟩
  · refine WPr.kb 16 hc rfl (WPr.silx [] ⟨[(1, .I n_), (2, .B 4 0), (4, .c .nil), (5, .I (0 : Int)), (19, .O true)], [(4, .box (cC4 0 1 2 3 g_) 27)], (vV4 0 1 2 3 g_ []), 5⟩ htt 3 (by kernel_rfl) (WPr.nil (WP.condT rfl rfl (WP.seq (WP.region (WPr.sil htt 2 rfl (WPr.nil (?_))))))))
    cases h
    exact WP.ret htt Tryz.func14 [(4, .nil)] rfl rfl rfl rfl
  refine WPr.kb 16 hc rfl (WPr.silx [] ⟨[(1, .I n_), (2, .B 4 0), (4, .c .nil), (5, .I (0 : Int)), (19, .O (decide (n_ > (12 : Int))))], [(4, .box (cC4 0 1 2 3 g_) 27)], (vV4 0 1 2 3 g_ []), 5⟩ htt 3 (by kernel_rfl) (WPr.nil (?_)))
  rcases oc h with ⟨hc, h⟩ | ⟨hc, h⟩
  · refine WP.condT hc rfl (WP.seq (WP.region (WPr.sil htt 2 rfl (WPr.nil (?_)))))
    cases h
    exact WP.ret htt Tryz.func14 [(4, .nil)] rfl rfl rfl rfl
  refine WP.condF hc rfl (WP.skip (WP.seq (WP.region (WPr.bs (cs := [.nil]) (oSl rR6) htt ([([] : List T6)] : List (List T6)) rfl rfl rfl rfl rfl rfl (by kernel_rfl) (by exact (an rfl rfl)) rfl (WPr.sil htt 1 rfl (WPr.nil (WP.seq (WP.region (WPr.silx [2, 3] ⟨[(1, .I n_), (2, .B 4 0), (4, .c .nil), (5, .I (0 : Int)), (6, .S 5), (22, .I g_.Start)], [(4, .box (cC4 0 1 2 3 g_) 27), (5, .own (rSl rR6) ([([] : List T6)] : List (List T6)) true)], (vV4 0 1 2 3 g_ []), 6⟩ htt 2 (by kernel_rfl) (WPr.bs (cs := [.I g_.Start]) (oI .i64) htt ([g_.Start] : List Int) rfl rfl rfl rfl rfl rfl (by kernel_rfl) (by exact (an rfl rfl)) rfl (WPr.sil htt 1 rfl (WPr.nil (WP.seq (WP.seq (WP.region (WPr.silx [] ⟨[(1, .I n_), (2, .B 4 0), (4, .c .nil), (5, .I (0 : Int)), (6, .S 5), (7, .S 6), (8, .I (0 : Int))], [(4, .box (cC4 0 1 2 3 g_) 27), (5, .own (rSl rR6) ([([] : List T6)] : List (List T6)) true), (6, .own (rI .i64) ([g_.Start] : List Int) true)], (vV4 0 1 2 3 g_ []), 7⟩ htt 1 (by kernel_rfl) (WPr.nil (?_))))))))))))))))))
  refine WP.cut (σ := (List (List T6))) (fun st => ⟨[(6, .S 7)], [(7, .own (rSl rR6) st true)], (vV4 0 1 2 3 g_ []), 8⟩) (fun st => z14_k1 st = some r) ?_ (fun j1 => ?_)
  · intro v6_1 h
    replace h : z14_k1 v6_1 = some r := h
    unfold z14_k1 at h
    refine WP.seq (WP.region (WPr.silx [] ⟨[(4, .S 7), (5, .I (0 : Int))], [(7, .own (rSl rR6) v6_1 true)], (vV4 0 1 2 3 g_ []), 8⟩ htt 3 (by kernel_rfl) (WPr.nil (?_))))
    cases h
    exact WP.ret htt Tryz.func14 [(4, .sl 7)] rfl rfl rfl rfl
  refine WP.block (?_)
  refine WP.loopI (σ := (List (List T6)) × (List Int) × Int) (fun st => ⟨[(1, .I n_), (2, .B 4 0), (6, .S 7), (7, .S 8), (8, .I st.2.2)], [(4, .box (cC4 0 1 2 3 g_) 27), (7, .own (rSl rR6) st.1 true), (8, .own (rI .i64) st.2.1 true)], (vV4 0 1 2 3 g_ []), 9⟩) (fun n st => z14_l2 N g_ n_ n st.1 st.2.1 st.2.2) (r := r) (fun _ => rfl) ?_ (fun ih => ?_)
  · intro n12 ih12
    rintro ⟨v6_12, v7_12, v8_12⟩ h
    replace h : z14_l2 N g_ n_ (n12 + 1) v6_12 v7_12 v8_12 = some r := h
    unfold z14_l2 at h
    refine WP.seq (WP.seq (WP.region (WPr.silx [] ⟨[(1, .I n_), (2, .B 4 0), (6, .S 7), (7, .S 8), (8, .I v8_12), (27, .O (decide (v8_12 < (v6_12.length : Int))))], [(4, .box (cC4 0 1 2 3 g_) 27), (7, .own (rSl rR6) v6_12 true), (8, .own (rI .i64) v7_12 true)], (vV4 0 1 2 3 g_ []), 9⟩ htt 4 (by kernel_rfl) (WPr.nil (?_)))))
    rcases oc' h with ⟨hc, h⟩ | ⟨hc, h⟩
    · exact WP.condF hc rfl (WP.exit rfl (WP.sub [] (j1 v6_12 h) rfl rfl rfl rfl))
    refine WP.condT hc rfl (WP.skip (WP.seq (WP.block (WP.seq (WP.seq (WP.region (WPr.sil htt 2 rfl (?_))))))))
    obtain ⟨x1715, hx1715, h⟩ := ob h
    refine WPr.ixo htt hx1715 rfl rfl rfl rfl rfl rfl rfl rfl rfl (WPr.silx [3, 4, 5, 6] ⟨[(1, .I n_), (2, .B 4 0), (6, .S 7), (7, .S 8), (8, .I v8_12), (32, .P 9 0)], [(4, .box (cC4 0 1 2 3 g_) 27), (7, .own (rSl rR6) v6_12 true), (8, .own (rI .i64) v7_12 true)], (vV4 0 1 2 3 g_ [(9, .el 7 ((v8_12).toNat * ((rSl rR6)).sz))]), 10⟩ htt 0 (by kernel_rfl) (WPr.ldo (oSl rR6) htt hx1715 rfl rfl rfl rfl rfl rfl rfl rfl rfl rfl (WPr.silx [] ⟨[(1, .I n_), (2, .B 4 0), (6, .S 7), (7, .S 8), (8, .I v8_12), (36, .O ((x1715.length : Int) == n_))], [(4, .box (cC4 0 1 2 3 g_) 27), (7, .own (rSl rR6) v6_12 true), (8, .own (rI .i64) v7_12 true)], (vV4 0 1 2 3 g_ []), 11⟩ htt 3 (by kernel_rfl) (WPr.nil (?_)))))
    rcases oc h with ⟨hc, h⟩ | ⟨hc, h⟩
    · exact WP.condT hc rfl (WP.exit rfl (WP.region (WPr.silx [] ⟨[(1, .I n_), (2, .B 4 0), (6, .S 7), (7, .S 8), (8, .I (w64 (v8_12 + (1 : Int))))], [(4, .box (cC4 0 1 2 3 g_) 27), (7, .own (rSl rR6) v6_12 true), (8, .own (rI .i64) v7_12 true)], (vV4 0 1 2 3 g_ []), 11⟩ htt 3 (by kernel_rfl) (WPr.nil (WP.sub [] (ih12 (v6_12, v7_12, (w64 (v8_12 + (1 : Int)))) h) rfl rfl rfl rfl)))))
    refine WP.condF hc rfl (WP.skip (WP.seq (WP.seq (WP.nm (fun A74 tA74 fA74 => ?_)))))
    have st1716 : A74 0 ⟨[(2, .B 4 0)], (vV4 0 1 2 3 g_ []), [], [(4, .box (cC4 0 1 2 3 g_) 27)], 11, [(37, .a (cC4 0 1 2 3 g_))], [], [], 11⟩ := tA74 _ _ (LS.sil htt rfl rfl rfl rfl rfl rfl)
    have st1717 : A74 1 ⟨[(7, .S 8)], [], [], [], 11, [(38, .S 8)], [], [], 11⟩ := tA74 _ _ (LS.sil htt rfl rfl rfl rfl rfl rfl)
    have st1718 : A74 2 ⟨[(8, .I v8_12)], [], [], [], 11, [(39, .I v8_12)], [], [], 11⟩ := tA74 _ _ (LS.sil htt rfl rfl rfl rfl rfl rfl)
    obtain ⟨x1719, hx1719, h⟩ := ob h
    have st1720 : A74 3 ⟨[(38, .S 8), (39, .I v8_12)], [], [], [(8, .own (rI .i64) v7_12 true)], 11, [(40, .P 11 0)], [(11, .el 8 ((v8_12).toNat * ((rI .i64)).sz))], [], 12⟩ := tA74 _ _ (LS.of rfl rfl rfl (fun _ _ _ _ _ _ _ k => WPr.ixo htt hx1719 rfl rfl rfl rfl rfl rfl rfl rfl rfl (k)) rfl)
    have st1721 : A74 4 ⟨[(40, .P 11 0)], [(11, .el 8 ((v8_12).toNat * ((rI .i64)).sz))], [], [(8, .own (rI .i64) v7_12 true)], 12, [(41, .I x1719)], [], [], 12⟩ := tA74 _ _ (LS.of rfl rfl rfl (fun _ _ _ _ _ _ _ k => WPr.ldo (oI .i64) htt hx1719 rfl rfl rfl rfl rfl rfl rfl rfl rfl rfl (k)) rfl)
    obtain ⟨x1722, hx1722, h⟩ := ob h
    have st1723 : A74 5 ⟨[(37, .a (cC4 0 1 2 3 g_)), (41, .I x1719)], (vV4 0 1 2 3 g_ []), [], [], 12, [(42, .S 12)], [], [(12, .own (rI .i64) x1722 true)], 13⟩ := tA74 _ _ (LS.of rfl rfl rfl (fun _ _ _ _ _ _ _ k => WPr.call (z18_ct N g_ x1719 _ hx1722) [(0, .sl 0), (1, .sl 1), (2, .sl 2), (3, .sl 3)] [] rfl rfl rfl rfl rfl rfl rfl rfl (.inl rfl) rfl (k)) rfl)
    have st1724 : A74 6 ⟨[(42, .S 12)], [], [], [(12, .own (rI .i64) x1722 true)], 13, [(43, .I (x1722.length : Int))], [], [], 13⟩ := tA74 _ _ (LS.sil htt rfl rfl rfl rfl rfl rfl)
    have st1725 : A74 7 ⟨[], [], [], [], 13, [(44, .I (0 : Int))], [], [], 13⟩ := tA74 _ _ (LS.sil htt rfl rfl rfl rfl rfl rfl)
    refine WP.regionD (t := ⟨[(1, .I n_), (2, .B 4 0), (6, .S 7), (7, .S 8), (8, .I v8_12), (42, .S 12), (43, .I (x1722.length : Int)), (44, .I (0 : Int))], [(4, .box (cC4 0 1 2 3 g_) 27), (7, .own (rSl rR6) v6_12 true), (8, .own (rI .i64) v7_12 true), (12, .own (rI .i64) x1722 true)], (vV4 0 1 2 3 g_ []), 13⟩) [0, 0, 0, 6, 14, 31, 63, 0] (.cons (fA74 _ _ st1716) (.cons (fA74 _ _ st1717) (.cons (fA74 _ _ st1718) (.cons (fA74 _ _ st1720) (.cons (fA74 _ _ st1721) (.cons (fA74 _ _ st1723) (.cons (fA74 _ _ st1724) (.cons (fA74 _ _ st1725) .nil)))))))) (by kernel_rfl) (by kernel_rfl) (by kernel_rfl) (by kernel_rfl) (?_)
    refine WP.cut (σ := (List (List T6)) × (List Int)) (fun st => ⟨[(1, .I n_), (2, .B 4 0), (6, .S 13), (7, .S 14), (8, .I v8_12)], [(4, .box (cC4 0 1 2 3 g_) 27), (13, .own (rSl rR6) st.1 true), (14, .own (rI .i64) st.2 true)], (vV4 0 1 2 3 g_ []), 15⟩) (fun st => z14_k3 v8_12 (z14_l2 N g_ n_ n12) st.1 st.2 = some r) ?_ (fun j19 => ?_)
    · rintro ⟨v6_19, v7_19⟩ h
      replace h : z14_k3 v8_12 (z14_l2 N g_ n_ n12) v6_19 v7_19 = some r := h
      unfold z14_k3 at h
      refine WP.seq (WP.region (WPr.silx [] ⟨[(1, .I n_), (2, .B 4 0), (6, .S 13), (7, .S 14), (8, .I v8_12), (76, .O (decide ((v6_19.length : Int) > (3000 : Int))))], [(4, .box (cC4 0 1 2 3 g_) 27), (13, .own (rSl rR6) v6_19 true), (14, .own (rI .i64) v7_19 true)], (vV4 0 1 2 3 g_ []), 15⟩ htt 3 (by kernel_rfl) (WPr.nil (?_))))
      rcases oc h with ⟨hc, h⟩ | ⟨hc, h⟩
      · refine WP.condT hc rfl (WP.seq (WP.region (WPr.sil htt 2 rfl (WPr.nil (?_)))))
        cases h
        exact WP.ret htt Tryz.func14 [(4, .nil)] rfl rfl rfl rfl
      exact WP.condF hc rfl (WP.skip (WP.inBlock (WP.region (WPr.silx [] ⟨[(1, .I n_), (2, .B 4 0), (6, .S 13), (7, .S 14), (8, .I (w64 (v8_12 + (1 : Int))))], [(4, .box (cC4 0 1 2 3 g_) 27), (13, .own (rSl rR6) v6_19 true), (14, .own (rI .i64) v7_19 true)], (vV4 0 1 2 3 g_ []), 15⟩ htt 3 (by kernel_rfl) (WPr.nil (WP.sub [(7, .sl 13), (8, .sl 14)] (ih12 (v6_19, v7_19, (w64 (v8_12 + (1 : Int)))) h) rfl rfl rfl rfl))))))
    refine WP.block (?_)
    refine WP.loopI (σ := (List (List T6)) × (List Int) × Int) (fun st => ⟨[(1, .I n_), (2, .B 4 0), (6, .S 13), (7, .S 14), (8, .I v8_12), (42, .S 12), (43, .I (x1722.length : Int)), (44, .I st.2.2)], [(4, .box (cC4 0 1 2 3 g_) 27), (12, .own (rI .i64) x1722 true), (13, .own (rSl rR6) st.1 true), (14, .own (rI .i64) st.2.1 true)], (vV4 0 1 2 3 g_ []), 15⟩) (fun n st => z14_l4 N g_ v8_12 (z14_l2 N g_ n_ n12) x1722 n st.1 st.2.1 st.2.2) (r := r) (fun _ => rfl) ?_ (fun ih => ?_)
    · intro n14 ih21
      rintro ⟨v6_21, v7_21, v44_21⟩ h
      replace h : z14_l4 N g_ v8_12 (z14_l2 N g_ n_ n12) x1722 (n14 + 1) v6_21 v7_21 v44_21 = some r := h
      unfold z14_l4 at h
      refine WP.seq (WP.region (WPr.sil htt 1 rfl (WPr.nil (WP.seq (?_)))))
      rcases oc' h with ⟨hc, h⟩ | ⟨hc, h⟩
      · exact WP.condF hc rfl (WP.exit rfl (WP.sub [] (j19 (v6_21, v7_21) h) rfl rfl rfl rfl))
      refine WP.condT hc rfl (WP.skip (WP.seq (WP.block (WP.seq (WP.region (?_))))))
      obtain ⟨x1926, hx1926, h⟩ := ob h
      refine WPr.ixo htt hx1926 rfl rfl rfl rfl rfl rfl rfl rfl rfl (WPr.ldo (oI .i64) htt hx1926 rfl rfl rfl rfl rfl rfl rfl rfl rfl rfl (WPr.silx [] ⟨[(1, .I n_), (2, .B 4 0), (6, .S 13), (7, .S 14), (8, .I v8_12), (10, .I x1926), (42, .S 12), (43, .I (x1722.length : Int)), (44, .I v44_21)], [(4, .box (cC4 0 1 2 3 g_) 27), (12, .own (rI .i64) x1722 true), (13, .own (rSl rR6) v6_21 true), (14, .own (rI .i64) v7_21 true)], (vV4 0 1 2 3 g_ []), 16⟩ htt 1 (by kernel_rfl) (WPr.nil (WP.seq (WP.nm (fun A83 tA83 fA83 => ?_))))))
      have st1927 : A83 0 ⟨[(6, .S 13)], [], [], [], 16, [(48, .S 13)], [], [], 16⟩ := tA83 _ _ (LS.sil htt rfl rfl rfl rfl rfl rfl)
      have st1928 : A83 1 ⟨[(6, .S 13)], [], [], [], 16, [(49, .S 13)], [], [], 16⟩ := tA83 _ _ (LS.sil htt rfl rfl rfl rfl rfl rfl)
      have st1929 : A83 2 ⟨[(8, .I v8_12)], [], [], [], 16, [(50, .I v8_12)], [], [], 16⟩ := tA83 _ _ (LS.sil htt rfl rfl rfl rfl rfl rfl)
      obtain ⟨x1930, hx1930, h⟩ := ob h
      have st1931 : A83 3 ⟨[(49, .S 13), (50, .I v8_12)], [], [], [(13, .own (rSl rR6) v6_21 true)], 16, [(51, .P 16 0)], [(16, .el 13 ((v8_12).toNat * ((rSl rR6)).sz))], [], 17⟩ := tA83 _ _ (LS.of rfl rfl rfl (fun _ _ _ _ _ _ _ k => WPr.ixo htt hx1930 rfl rfl rfl rfl rfl rfl rfl rfl rfl (k)) rfl)
      have st1932 : A83 4 ⟨[(51, .P 16 0)], [(16, .el 13 ((v8_12).toNat * ((rSl rR6)).sz))], [], [(13, .own (rSl rR6) v6_21 true)], 17, [(52, .S 17)], [(17, .sl rR6 x1930)], [], 18⟩ := tA83 _ _ (LS.of rfl rfl rfl (fun _ _ _ _ _ _ _ k => WPr.ldo (oSl rR6) htt hx1930 rfl rfl rfl rfl rfl rfl rfl rfl rfl rfl (k)) rfl)
      obtain ⟨x1933, hx1933, h⟩ := ob h
      have st1934 : A83 5 ⟨[(52, .S 17)], [(17, .sl rR6 x1930)], [], [], 18, [(53, .S 18)], [], [(18, .own rR6 x1933 true)], 19⟩ := tA83 _ _ (LS.of rfl rfl rfl (fun _ _ _ _ _ _ _ k => WPr.call (z45_ct N x1930 _ hx1933) [(0, .sl 17)] [] rfl rfl rfl rfl rfl rfl rfl rfl (.inl rfl) rfl (k)) rfl)
      have st1935 : A83 6 ⟨[(2, .B 4 0)], [], [], [], 19, [(54, .B 4 6)], [], [], 19⟩ := tA83 _ _ (LS.sil htt rfl rfl rfl rfl rfl rfl)
      have st1936 : A83 7 ⟨[(54, .B 4 6)], (vV4 0 1 2 3 g_ []), [], [(4, .box (cC4 0 1 2 3 g_) 27)], 19, [(55, .S 2)], [], [], 19⟩ := tA83 _ _ (LS.sil htt rfl rfl rfl rfl rfl rfl)
      have st1937 : A83 8 ⟨[(10, .I x1926)], [], [], [], 19, [(56, .I x1926)], [], [], 19⟩ := tA83 _ _ (LS.sil htt rfl rfl rfl rfl rfl rfl)
      obtain ⟨x1938, hx1938, h⟩ := ob h
      have st1939 : A83 9 ⟨[(55, .S 2), (56, .I x1926)], [(2, .sl rR2 g_.Edges)], [], [], 19, [(57, .P 19 0)], [(19, .pl (cC2 x1938))], [], 20⟩ := tA83 _ _ (LS.of rfl rfl rfl (fun _ _ _ _ _ _ _ k => WPr.ix oO2 htt hx1938 rfl rfl rfl rfl rfl rfl rfl rfl rfl (k)) rfl)
      have st1940 : A83 10 ⟨[(57, .P 19 0)], [(19, .pl (cC2 x1938))], [], [], 20, [(58, .P 19 1)], [], [], 20⟩ := tA83 _ _ (LS.sil htt rfl rfl rfl rfl rfl rfl)
      have st1941 : A83 11 ⟨[(58, .P 19 1)], [(19, .pl (cC2 x1938))], [], [], 20, [(59, .a (cC6 x1938.Act))], [], [], 20⟩ := tA83 _ _ (LS.sil htt rfl rfl rfl rfl rfl rfl)
      have st1942 : A83 12 ⟨[(59, .a (cC6 x1938.Act))], [], [], [], 20, [(60, .S 20)], [], [(20, .own rR6 ([x1938.Act] : List T6) true)], 21⟩ := tA83 _ _ (LS.of rfl rfl rfl (fun _ _ _ _ _ _ _ k => WPr.bs (cs := (cC6 x1938.Act)) oO6 htt ([x1938.Act] : List T6) rfl rfl rfl rfl rfl rfl (by kernel_rfl) (by exact (an (an rfl (an rfl rfl)) rfl)) rfl (k)) rfl)
      obtain ⟨x1943, hx1943, h⟩ := ob h
      have st1944 : A83 13 ⟨[(53, .S 18), (60, .S 20)], [], [(18, .own rR6 x1933 true)], [(20, .own rR6 ([x1938.Act] : List T6) true)], 21, [(61, .S 21)], [], [(18, .gone), (21, .own rR6 x1943 true)], 22⟩ := tA83 _ _ (LS.of rfl rfl rfl (fun _ _ _ _ _ _ _ k => WPr.app htt hx1943 (by exact (srcO rfl)) rfl rfl rfl rfl rfl rfl rfl rfl rfl rfl (k)) rfl)
      have st1945 : A83 14 ⟨[(61, .S 21)], [], [(21, .own rR6 x1943 true)], [], 22, [(62, .S 22)], [(21, .sl rR6 x1943)], [(21, .gone), (22, .own (rSl rR6) ([x1943] : List (List T6)) true)], 23⟩ := tA83 _ _ (LS.of rfl rfl rfl (fun _ _ _ _ _ _ _ k => WPr.frz 21 rfl (WPr.bs (cs := [.sl 21]) (oSl rR6) htt ([x1943] : List (List T6)) rfl rfl rfl rfl rfl rfl (by kernel_rfl) (by exact (an rfl rfl)) rfl (k))) rfl)
      obtain ⟨x1946, hx1946, h⟩ := ob h
      have st1947 : A83 15 ⟨[(48, .S 13), (62, .S 22)], [], [(13, .own (rSl rR6) v6_21 true)], [(22, .own (rSl rR6) ([x1943] : List (List T6)) true)], 23, [(63, .S 23)], [], [(13, .gone), (23, .own (rSl rR6) x1946 true)], 24⟩ := tA83 _ _ (LS.of rfl rfl rfl (fun _ _ _ _ _ _ _ k => WPr.app htt hx1946 (by exact (srcO rfl)) rfl rfl rfl rfl rfl rfl rfl rfl rfl rfl (k)) rfl)
      have st1948 : A83 16 ⟨[(63, .S 23)], [], [], [], 24, [(6, .S 23)], [], [], 24⟩ := tA83 _ _ (LS.sil htt rfl rfl rfl rfl rfl rfl)
      refine WP.regionD (t := ⟨[(1, .I n_), (2, .B 4 0), (6, .S 23), (7, .S 14), (8, .I v8_12), (10, .I x1926), (42, .S 12), (43, .I (x1722.length : Int)), (44, .I v44_21)], [(4, .box (cC4 0 1 2 3 g_) 27), (12, .own (rI .i64) x1722 true), (14, .own (rI .i64) v7_21 true), (23, .own (rSl rR6) x1946 true)], (vV4 0 1 2 3 g_ []), 24⟩) [0, 0, 0, 6, 14, 30, 0, 64, 0, 448, 960, 1984, 4032, 8190, 16382, 32767, 65535] (.cons (fA83 _ _ st1927) (.cons (fA83 _ _ st1928) (.cons (fA83 _ _ st1929) (.cons (fA83 _ _ st1931) (.cons (fA83 _ _ st1932) (.cons (fA83 _ _ st1934) (.cons (fA83 _ _ st1935) (.cons (fA83 _ _ st1936) (.cons (fA83 _ _ st1937) (.cons (fA83 _ _ st1939) (.cons (fA83 _ _ st1940) (.cons (fA83 _ _ st1941) (.cons (fA83 _ _ st1942) (.cons (fA83 _ _ st1944) (.cons (fA83 _ _ st1945) (.cons (fA83 _ _ st1947) (.cons (fA83 _ _ st1948) .nil))))))))))))))))) (by kernel_rfl) (by kernel_rfl) (by kernel_rfl) (by kernel_rfl) (WP.region (WPr.silx (rg 4 6) ⟨[(1, .I n_), (2, .B 4 0), (6, .S 23), (8, .I v8_12), (42, .S 12), (43, .I (x1722.length : Int)), (44, .I v44_21), (64, .S 14), (66, .S 2), (67, .I x1926)], [(4, .box (cC4 0 1 2 3 g_) 27), (12, .own (rI .i64) x1722 true), (14, .own (rI .i64) v7_21 true), (23, .own (rSl rR6) x1946 true)], (vV4 0 1 2 3 g_ []), 24⟩ htt 4 (by kernel_rfl) (?_)))
      obtain ⟨x1949, hx1949, h⟩ := ob h
      refine WPr.ix oO2 htt hx1949 rfl rfl rfl rfl rfl rfl rfl rfl rfl (WPr.silx [7, 8, 9] ⟨[(1, .I n_), (2, .B 4 0), (6, .S 23), (8, .I v8_12), (42, .S 12), (43, .I (x1722.length : Int)), (44, .I v44_21), (64, .S 14), (70, .I x1949.To)], [(4, .box (cC4 0 1 2 3 g_) 27), (12, .own (rI .i64) x1722 true), (14, .own (rI .i64) v7_21 true), (23, .own (rSl rR6) x1946 true)], (vV4 0 1 2 3 g_ []), 25⟩ htt 2 (by kernel_rfl) (WPr.bs (cs := [.I x1949.To]) (oI .i64) htt ([x1949.To] : List Int) rfl rfl rfl rfl rfl rfl (by kernel_rfl) (by exact (an rfl rfl)) rfl (?_)))
      obtain ⟨x1950, hx1950, h⟩ := ob h
      exact WPr.app htt hx1950 (by exact (srcO rfl)) rfl rfl rfl rfl rfl rfl rfl rfl rfl rfl (WPr.silx [] ⟨[(1, .I n_), (2, .B 4 0), (6, .S 23), (7, .S 26), (8, .I v8_12), (42, .S 12), (43, .I (x1722.length : Int)), (44, .I v44_21)], [(4, .box (cC4 0 1 2 3 g_) 27), (12, .own (rI .i64) x1722 true), (23, .own (rSl rR6) x1946 true), (26, .own (rI .i64) x1950 true)], (vV4 0 1 2 3 g_ []), 27⟩ htt 1 (by kernel_rfl) (WPr.nil (WP.inBlock (WP.region (WPr.sil htt 2 rfl (WPr.nil (WP.sub [(13, .sl 23), (14, .sl 26)] (ih21 (x1946, x1950, (w64 (v44_21 + (1 : Int)))) h) rfl rfl rfl rfl)))))))
    exact WP.sub [(13, .sl 7), (14, .sl 8)] (ih N (v6_12, v7_12, (0 : Int)) h) rfl rfl rfl rfl
  exact WP.sub [(7, .sl 5), (8, .sl 6)] (ih N (([([] : List T6)] : List (List T6)), ([g_.Start] : List Int), (0 : Int)) h) rfl rfl rfl rfl
theorem z17_ct (N : Nat) (g_ : T4) (state_ : Int) (act_ : T6) (r : Int × Bool) (h : z17 N g_ state_ act_ = some r) :
  Fn Tryz.prog 17 ⟨4, [.a (cC4 0 1 2 3 g_), .I state_, .a (cC6 act_)], (vV4 0 1 2 3 g_ []), [], 4, .t [.inl (.I r.1), .inl (.b r.2)], [], []⟩ := by
  refine Fn.intro _ _ Tryz.func17 rfl (by kernel_rfl) rfl (fun E F w => ?_)
  unfold z17 at h
  refine WP.seq (WP.region (WPr.silx [] ⟨[(1, .I state_), (3, .B 4 0), (5, .B 5 0), (6, .I (0 : Int)), (7, .O false)], [(4, .box (cC4 0 1 2 3 g_) 27), (5, .box (cC6 act_) 37)], (vV4 0 1 2 3 g_ []), 6⟩ htt 4 (by kernel_rfl) (WPr.nil (WP.seq (WP.seq (WP.region (WPr.silx [] ⟨[(1, .I state_), (5, .B 5 0), (6, .I (0 : Int)), (7, .O false), (11, .S 2), (12, .I (g_.Edges.length : Int)), (13, .I (0 : Int))], [(5, .box (cC6 act_) 37)], (vV4 0 1 2 3 g_ []), 6⟩ htt 4 (by kernel_rfl) (WPr.nil (?_)))))))))
  refine WP.cut (σ := Unit) (fun st => ⟨[], [], (vV4 0 1 2 3 g_ []), 6⟩) (fun st => z17_k1 = some r) ?_ (fun j1 => ?_)
  · intro _ h
    replace h : z17_k1 = some r := h
    unfold z17_k1 at h
    refine WP.seq (WP.region (WPr.sil htt 2 rfl (WPr.nil (?_))))
    cases h
    exact WP.ret htt Tryz.func17 [] rfl rfl rfl rfl
  refine WP.block (?_)
  refine WP.loopI (σ := Int) (fun st => ⟨[(1, .I state_), (5, .B 5 0), (11, .S 2), (12, .I (g_.Edges.length : Int)), (13, .I st)], [(5, .box (cC6 act_) 37)], (vV4 0 1 2 3 g_ []), 6⟩) (fun n st => z17_l2 g_ state_ act_ n st) (r := r) (fun _ => rfl) ?_ (fun ih => ?_)
  · intro n2 ih3
    intro v13_3 h
    replace h : z17_l2 g_ state_ act_ (n2 + 1) v13_3 = some r := h
    unfold z17_l2 at h
    refine WP.seq (WP.region (WPr.sil htt 1 rfl (WPr.nil (WP.seq (?_)))))
    rcases oc' h with ⟨hc, h⟩ | ⟨hc, h⟩
    · exact WP.condF hc rfl (WP.exit rfl (WP.sub [] (j1 () h) rfl rfl rfl rfl))
    refine WP.condT hc rfl (WP.skip (WP.seq (WP.block (WP.seq (WP.region (?_))))))
    obtain ⟨x9, hx9, h⟩ := ob h
    refine WPr.ix oO2 htt hx9 rfl rfl rfl rfl rfl rfl rfl rfl rfl (WPr.silx [] ⟨[(1, .I state_), (5, .B 5 0), (9, .B 7 0), (11, .S 2), (12, .I (g_.Edges.length : Int)), (13, .I v13_3)], [(5, .box (cC6 act_) 37), (7, .box (cC2 x9) 43)], (vV4 0 1 2 3 g_ []), 8⟩ htt 3 (by kernel_rfl) (WPr.nil (WP.seq (WP.region (WPr.silx [5, 6, 7, 8, 9] ⟨[(1, .I state_), (5, .B 5 0), (9, .B 7 0), (11, .S 2), (12, .I (g_.Edges.length : Int)), (13, .I v13_3), (21, .O (x9.From == state_))], [(5, .box (cC6 act_) 37), (7, .box (cC2 x9) 43)], (vV4 0 1 2 3 g_ []), 8⟩ htt 5 (by kernel_rfl) (?_))))))
    rcases oc' h with ⟨hc, h⟩ | ⟨hc, h⟩
    · exact WPr.kb 21 hc rfl (WPr.silx [] ⟨[(1, .I state_), (5, .B 5 0), (9, .B 7 0), (11, .S 2), (12, .I (g_.Edges.length : Int)), (13, .I v13_3), (26, .O false)], [(5, .box (cC6 act_) 37), (7, .box (cC2 x9) 43)], (vV4 0 1 2 3 g_ []), 8⟩ htt 5 (by kernel_rfl) (WPr.nil (WP.condF rfl rfl (WP.skip (WP.inBlock (WP.region (WPr.sil htt 2 rfl (WPr.nil (WP.sub [] (ih3 (w64 (v13_3 + (1 : Int))) h) rfl rfl rfl rfl)))))))))
    refine WPr.kb 21 hc rfl (WPr.silx [8, 9] ⟨[(1, .I state_), (5, .B 5 0), (9, .B 7 0), (11, .S 2), (12, .I (g_.Edges.length : Int)), (13, .I v13_3), (21, .O true), (23, .a (cC6 x9.Act)), (24, .a (cC6 act_))], [(5, .box (cC6 act_) 37), (7, .box (cC2 x9) 43)], (vV4 0 1 2 3 g_ []), 8⟩ htt 3 (by kernel_rfl) (WPr.eqa (neg := false) (equal_run (b := ((x9.Act.From == act_.From) && ((x9.Act.To == act_.To) && ((x9.Act.Label == act_.Label) && true)))) (by kernel_rfl) (by kernel_rfl)) (by kernel_rfl) rfl rfl rfl rfl rfl rfl rfl (WPr.sil htt 1 rfl (WPr.nil (?_)))))
    rcases oc h with ⟨hc, h⟩ | ⟨hc, h⟩
    · refine WP.condT hc rfl (WP.seq (WP.region (WPr.silx [] ⟨[(6, .I x9.To), (7, .O true)], [], (vV4 0 1 2 3 g_ []), 8⟩ htt 4 (by kernel_rfl) (WPr.nil (?_)))))
      cases h
      exact WP.ret htt Tryz.func17 [] rfl rfl rfl rfl
    exact WP.condF hc rfl (WP.skip (WP.inBlock (WP.region (WPr.silx [] ⟨[(1, .I state_), (5, .B 5 0), (11, .S 2), (12, .I (g_.Edges.length : Int)), (13, .I (w64 (v13_3 + (1 : Int))))], [(5, .box (cC6 act_) 37)], (vV4 0 1 2 3 g_ []), 8⟩ htt 2 (by kernel_rfl) (WPr.nil (WP.sub [] (ih3 (w64 (v13_3 + (1 : Int))) h) rfl rfl rfl rfl))))))
  exact WP.sub [] (ih N (0 : Int) h) rfl rfl rfl rfl
theorem z68_ct (N : Nat) (s1_ : (List ByteArray)) (s2_ : (List ByteArray)) (r : Bool) (h : z68 N s1_ s2_ = some r) :
  Fn Tryz.prog 68 ⟨2, [.S 0, .S 1], [(0, .sl rS s1_), (1, .sl rS s2_)], [], 2, .O r, [], []⟩ := by
  refine Fn.intro _ _ Tryz.func68 rfl (by kernel_rfl) rfl (fun E F w => ?_)
  unfold z68 at h
  refine WP.seq (WP.region (WPr.sil htt 1 rfl (WPr.nil (WP.seq (WP.seq (WP.region (WPr.silx [] ⟨[(0, .S 0), (1, .S 1), (4, .O false), (10, .O ((s1_.length : Int) != (s2_.length : Int)))], [], [(0, .sl rS s1_), (1, .sl rS s2_)], 2⟩ htt 5 (by kernel_rfl) (WPr.nil (?_)))))))))
  rcases oc h with ⟨hc, h⟩ | ⟨hc, h⟩
  · refine WP.condT hc rfl (WP.seq (WP.region (WPr.sil htt 1 rfl (WPr.nil (?_)))))
    cases h
    exact WP.ret htt Tryz.func68 [] rfl rfl rfl rfl
  refine WP.condF hc rfl (WP.skip (WP.seq (WP.seq (WP.region (WPr.silx [] ⟨[(0, .S 0), (1, .S 1), (4, .O false), (12, .I (s1_.length : Int)), (13, .I (0 : Int))], [], [(0, .sl rS s1_), (1, .sl rS s2_)], 2⟩ htt 3 (by kernel_rfl) (WPr.nil (?_)))))))
  refine WP.cut (σ := Unit) (fun st => ⟨[], [], [(0, .sl rS s1_), (1, .sl rS s2_)], 2⟩) (fun st => z68_k1 = some r) ?_ (fun j1 => ?_)
  · intro _ h
    replace h : z68_k1 = some r := h
    unfold z68_k1 at h
    refine WP.seq (WP.region (WPr.sil htt 1 rfl (WPr.nil (?_))))
    cases h
    exact WP.ret htt Tryz.func68 [] rfl rfl rfl rfl
  refine WP.block (?_)
  refine WP.loopI (σ := Int) (fun st => ⟨[(0, .S 0), (1, .S 1), (12, .I (s1_.length : Int)), (13, .I st)], [], [(0, .sl rS s1_), (1, .sl rS s2_)], 2⟩) (fun n st => z68_l2 s1_ s2_ n st) (r := r) (fun _ => rfl) ?_ (fun ih => ?_)
  · intro n2 ih3
    intro v13_3 h
    replace h : z68_l2 s1_ s2_ (n2 + 1) v13_3 = some r := h
    unfold z68_l2 at h
    refine WP.seq (WP.region (WPr.sil htt 1 rfl (WPr.nil (WP.seq (?_)))))
    rcases oc' h with ⟨hc, h⟩ | ⟨hc, h⟩
    · exact WP.condF hc rfl (WP.exit rfl (WP.sub [] (j1 () h) rfl rfl rfl rfl))
    refine WP.condT hc rfl (WP.skip (WP.seq (WP.block (WP.seq (WP.region (WPr.silx [] ⟨[(0, .S 0), (1, .S 1), (5, .I v13_3), (12, .I (s1_.length : Int)), (13, .I v13_3)], [], [(0, .sl rS s1_), (1, .sl rS s2_)], 2⟩ htt 2 (by kernel_rfl) (WPr.nil (WP.seq (WP.regionQ (by kernel_rfl) (by kernel_rfl) (WPq.sil htt 2 rfl (?_)))))))))))
    obtain ⟨x35, hx35, h⟩ := ob h
    refine WPq.op rfl rfl (VN.vs (VN.ix oS htt hx35 rfl rfl rfl rfl rfl rfl rfl)) (WPq.silx [6, 7, 8] ⟨[(0, .S 0), (1, .S 1), (12, .I (s1_.length : Int)), (13, .I v13_3), (19, .c (.s x35)), (20, .S 1), (21, .I v13_3)], [], [(0, .sl rS s1_), (1, .sl rS s2_)], 3⟩ htt 3 (by kernel_rfl) (?_))
    obtain ⟨x36, hx36, h⟩ := ob h
    refine WPq.op rfl rfl (VN.vs (VN.ix oS htt hx36 rfl rfl rfl rfl rfl rfl rfl)) (WPq.silx [] ⟨[(0, .S 0), (1, .S 1), (12, .I (s1_.length : Int)), (13, .I v13_3), (24, .O (!(x35.toList == x36.toList)))], [], [(0, .sl rS s1_), (1, .sl rS s2_)], 4⟩ htt 2 (by kernel_rfl) (WPq.nil (?_)))
    rcases oc h with ⟨hc, h⟩ | ⟨hc, h⟩
    · refine WP.condT hc rfl (WP.seq (WP.region (WPr.sil htt 1 rfl (WPr.nil (?_)))))
      cases h
      exact WP.ret htt Tryz.func68 [] rfl rfl rfl rfl
    exact WP.condF hc rfl (WP.skip (WP.inBlock (WP.region (WPr.sil htt 2 rfl (WPr.nil (WP.sub [] (ih3 (w64 (v13_3 + (1 : Int))) h) rfl rfl rfl rfl))))))
  exact WP.sub [] (ih N (0 : Int) h) rfl rfl rfl rfl
theorem z124_ct (N : Nat) (s1_ : (List T3)) (s2_ : (List T3)) (r : Bool) (h : z124 N s1_ s2_ = some r) :
  Fn Tryz.prog 124 ⟨2, [.S 0, .S 1], [(0, .sl rR3 s1_), (1, .sl rR3 s2_)], [], 2, .O r, [], []⟩ := by
  refine Fn.intro _ _ Tryz.func124 rfl (by kernel_rfl) rfl (fun E F w => ?_)
  unfold z124 at h
  refine WP.seq (WP.region (WPr.sil htt 1 rfl (WPr.nil (WP.seq (WP.seq (WP.region (WPr.silx [] ⟨[(0, .S 0), (1, .S 1), (4, .O false), (10, .O ((s1_.length : Int) != (s2_.length : Int)))], [], [(0, .sl rR3 s1_), (1, .sl rR3 s2_)], 2⟩ htt 5 (by kernel_rfl) (WPr.nil (?_)))))))))
  rcases oc h with ⟨hc, h⟩ | ⟨hc, h⟩
  · refine WP.condT hc rfl (WP.seq (WP.region (WPr.sil htt 1 rfl (WPr.nil (?_)))))
    cases h
    exact WP.ret htt Tryz.func124 [] rfl rfl rfl rfl
  refine WP.condF hc rfl (WP.skip (WP.seq (WP.seq (WP.region (WPr.silx [] ⟨[(0, .S 0), (1, .S 1), (4, .O false), (12, .I (s1_.length : Int)), (13, .I (0 : Int))], [], [(0, .sl rR3 s1_), (1, .sl rR3 s2_)], 2⟩ htt 3 (by kernel_rfl) (WPr.nil (?_)))))))
  refine WP.cut (σ := Unit) (fun st => ⟨[], [], [(0, .sl rR3 s1_), (1, .sl rR3 s2_)], 2⟩) (fun st => z124_k1 = some r) ?_ (fun j1 => ?_)
  · intro _ h
    replace h : z124_k1 = some r := h
    unfold z124_k1 at h
    refine WP.seq (WP.region (WPr.sil htt 1 rfl (WPr.nil (?_))))
    cases h
    exact WP.ret htt Tryz.func124 [] rfl rfl rfl rfl
  refine WP.block (?_)
  refine WP.loopI (σ := Int) (fun st => ⟨[(0, .S 0), (1, .S 1), (12, .I (s1_.length : Int)), (13, .I st)], [], [(0, .sl rR3 s1_), (1, .sl rR3 s2_)], 2⟩) (fun n st => z124_l2 s1_ s2_ n st) (r := r) (fun _ => rfl) ?_ (fun ih => ?_)
  · intro n2 ih3
    intro v13_3 h
    replace h : z124_l2 s1_ s2_ (n2 + 1) v13_3 = some r := h
    unfold z124_l2 at h
    refine WP.seq (WP.region (WPr.sil htt 1 rfl (WPr.nil (WP.seq (?_)))))
    rcases oc' h with ⟨hc, h⟩ | ⟨hc, h⟩
    · exact WP.condF hc rfl (WP.exit rfl (WP.sub [] (j1 () h) rfl rfl rfl rfl))
    refine WP.condT hc rfl (WP.skip (WP.seq (WP.block (WP.seq (WP.region (WPr.silx [] ⟨[(0, .S 0), (1, .S 1), (5, .I v13_3), (12, .I (s1_.length : Int)), (13, .I v13_3)], [], [(0, .sl rR3 s1_), (1, .sl rR3 s2_)], 2⟩ htt 2 (by kernel_rfl) (WPr.nil (WP.seq (WP.regionQ (by kernel_rfl) (by kernel_rfl) (WPq.sil htt 2 rfl (?_)))))))))))
    obtain ⟨x35, hx35, h⟩ := ob h
    refine WPq.op rfl rfl (VN.vs (VN.ix oO3 htt hx35 rfl rfl rfl rfl rfl rfl rfl)) (WPq.silx [6, 7, 8] ⟨[(0, .S 0), (1, .S 1), (12, .I (s1_.length : Int)), (13, .I v13_3), (19, .a (cC3 x35)), (20, .S 1), (21, .I v13_3)], [], [(0, .sl rR3 s1_), (1, .sl rR3 s2_)], 3⟩ htt 3 (by kernel_rfl) (?_))
    obtain ⟨x36, hx36, h⟩ := ob h
    refine WPq.op rfl rfl (VN.vs (VN.ix oO3 htt hx36 rfl rfl rfl rfl rfl rfl rfl)) (WPq.sil htt 1 rfl (WPq.op rfl rfl (VN.vs (VN.eqa (neg := true) (equal_run (b := ((x35.Name.toList == x36.Name.toList) && (((x35.Sort'.Kind == x36.Sort'.Kind) && ((x35.Sort'.Lo == x36.Sort'.Lo) && ((x35.Sort'.Hi == x36.Sort'.Hi) && true))) && true))) (by kernel_rfl) (by kernel_rfl)) (by kernel_rfl) rfl rfl rfl rfl rfl)) (WPq.silx [] ⟨[(0, .S 0), (1, .S 1), (12, .I (s1_.length : Int)), (13, .I v13_3), (24, .O (!((x35.Name.toList == x36.Name.toList) && (((x35.Sort'.Kind == x36.Sort'.Kind) && ((x35.Sort'.Lo == x36.Sort'.Lo) && ((x35.Sort'.Hi == x36.Sort'.Hi) && true))) && true))))], [], [(0, .sl rR3 s1_), (1, .sl rR3 s2_)], 4⟩ htt 0 (by kernel_rfl) (WPq.nil (?_)))))
    rcases oc h with ⟨hc, h⟩ | ⟨hc, h⟩
    · refine WP.condT hc rfl (WP.seq (WP.region (WPr.sil htt 1 rfl (WPr.nil (?_)))))
      cases h
      exact WP.ret htt Tryz.func124 [] rfl rfl rfl rfl
    exact WP.condF hc rfl (WP.skip (WP.inBlock (WP.region (WPr.sil htt 2 rfl (WPr.nil (WP.sub [] (ih3 (w64 (v13_3 + (1 : Int))) h) rfl rfl rfl rfl))))))
  exact WP.sub [] (ih N (0 : Int) h) rfl rfl rfl rfl
theorem z125_ct (N : Nat) (s1_ : (List T1)) (s2_ : (List T1)) (r : Bool) (h : z125 N s1_ s2_ = some r) :
  Fn Tryz.prog 125 ⟨2, [.S 0, .S 1], [(0, .sl rR1 s1_), (1, .sl rR1 s2_)], [], 2, .O r, [], []⟩ := by
  refine Fn.intro _ _ Tryz.func125 rfl (by kernel_rfl) rfl (fun E F w => ?_)
  unfold z125 at h
  refine WP.seq (WP.region (WPr.sil htt 1 rfl (WPr.nil (WP.seq (WP.seq (WP.region (WPr.silx [] ⟨[(0, .S 0), (1, .S 1), (4, .O false), (10, .O ((s1_.length : Int) != (s2_.length : Int)))], [], [(0, .sl rR1 s1_), (1, .sl rR1 s2_)], 2⟩ htt 5 (by kernel_rfl) (WPr.nil (?_)))))))))
  rcases oc h with ⟨hc, h⟩ | ⟨hc, h⟩
  · refine WP.condT hc rfl (WP.seq (WP.region (WPr.sil htt 1 rfl (WPr.nil (?_)))))
    cases h
    exact WP.ret htt Tryz.func125 [] rfl rfl rfl rfl
  refine WP.condF hc rfl (WP.skip (WP.seq (WP.seq (WP.region (WPr.silx [] ⟨[(0, .S 0), (1, .S 1), (4, .O false), (12, .I (s1_.length : Int)), (13, .I (0 : Int))], [], [(0, .sl rR1 s1_), (1, .sl rR1 s2_)], 2⟩ htt 3 (by kernel_rfl) (WPr.nil (?_)))))))
  refine WP.cut (σ := Unit) (fun st => ⟨[], [], [(0, .sl rR1 s1_), (1, .sl rR1 s2_)], 2⟩) (fun st => z125_k1 = some r) ?_ (fun j1 => ?_)
  · intro _ h
    replace h : z125_k1 = some r := h
    unfold z125_k1 at h
    refine WP.seq (WP.region (WPr.sil htt 1 rfl (WPr.nil (?_))))
    cases h
    exact WP.ret htt Tryz.func125 [] rfl rfl rfl rfl
  refine WP.block (?_)
  refine WP.loopI (σ := Int) (fun st => ⟨[(0, .S 0), (1, .S 1), (12, .I (s1_.length : Int)), (13, .I st)], [], [(0, .sl rR1 s1_), (1, .sl rR1 s2_)], 2⟩) (fun n st => z125_l2 s1_ s2_ n st) (r := r) (fun _ => rfl) ?_ (fun ih => ?_)
  · intro n2 ih3
    intro v13_3 h
    replace h : z125_l2 s1_ s2_ (n2 + 1) v13_3 = some r := h
    unfold z125_l2 at h
    refine WP.seq (WP.region (WPr.sil htt 1 rfl (WPr.nil (WP.seq (?_)))))
    rcases oc' h with ⟨hc, h⟩ | ⟨hc, h⟩
    · exact WP.condF hc rfl (WP.exit rfl (WP.sub [] (j1 () h) rfl rfl rfl rfl))
    refine WP.condT hc rfl (WP.skip (WP.seq (WP.block (WP.seq (WP.region (WPr.silx [] ⟨[(0, .S 0), (1, .S 1), (5, .I v13_3), (12, .I (s1_.length : Int)), (13, .I v13_3)], [], [(0, .sl rR1 s1_), (1, .sl rR1 s2_)], 2⟩ htt 2 (by kernel_rfl) (WPr.nil (WP.seq (WP.regionQ (by kernel_rfl) (by kernel_rfl) (WPq.sil htt 2 rfl (?_)))))))))))
    obtain ⟨x35, hx35, h⟩ := ob h
    refine WPq.op rfl rfl (VN.vs (VN.ix oO1 htt hx35 rfl rfl rfl rfl rfl rfl rfl)) (WPq.silx [6, 7, 8] ⟨[(0, .S 0), (1, .S 1), (12, .I (s1_.length : Int)), (13, .I v13_3), (19, .a (cC1 x35)), (20, .S 1), (21, .I v13_3)], [], [(0, .sl rR1 s1_), (1, .sl rR1 s2_)], 3⟩ htt 3 (by kernel_rfl) (?_))
    obtain ⟨x36, hx36, h⟩ := ob h
    refine WPq.op rfl rfl (VN.vs (VN.ix oO1 htt hx36 rfl rfl rfl rfl rfl rfl rfl)) (WPq.sil htt 1 rfl (WPq.op rfl rfl (VN.vs (VN.eqa (neg := true) (equal_run (b := ((x35.X == x36.X) && ((x35.Y == x36.Y) && ((x35.C == x36.C) && true)))) (by kernel_rfl) (by kernel_rfl)) (by kernel_rfl) rfl rfl rfl rfl rfl)) (WPq.silx [] ⟨[(0, .S 0), (1, .S 1), (12, .I (s1_.length : Int)), (13, .I v13_3), (24, .O (!((x35.X == x36.X) && ((x35.Y == x36.Y) && ((x35.C == x36.C) && true)))))], [], [(0, .sl rR1 s1_), (1, .sl rR1 s2_)], 4⟩ htt 0 (by kernel_rfl) (WPq.nil (?_)))))
    rcases oc h with ⟨hc, h⟩ | ⟨hc, h⟩
    · refine WP.condT hc rfl (WP.seq (WP.region (WPr.sil htt 1 rfl (WPr.nil (?_)))))
      cases h
      exact WP.ret htt Tryz.func125 [] rfl rfl rfl rfl
    exact WP.condF hc rfl (WP.skip (WP.inBlock (WP.region (WPr.sil htt 2 rfl (WPr.nil (WP.sub [] (ih3 (w64 (v13_3 + (1 : Int))) h) rfl rfl rfl rfl))))))
  exact WP.sub [] (ih N (0 : Int) h) rfl rfl rfl rfl
theorem z126_ct (N : Nat) (s1_ : (List (Int × Int))) (s2_ : (List (Int × Int))) (r : Bool) (h : z126 N s1_ s2_ = some r) :
  Fn Tryz.prog 126 ⟨2, [.S 0, .S 1], [(0, .sl (rP (rI .i64) (rI .i64)) s1_), (1, .sl (rP (rI .i64) (rI .i64)) s2_)], [], 2, .O r, [], []⟩ := by
  refine Fn.intro _ _ Tryz.func126 rfl (by kernel_rfl) rfl (fun E F w => ?_)
  unfold z126 at h
  refine WP.seq (WP.region (WPr.sil htt 1 rfl (WPr.nil (WP.seq (WP.seq (WP.region (WPr.silx [] ⟨[(0, .S 0), (1, .S 1), (4, .O false), (10, .O ((s1_.length : Int) != (s2_.length : Int)))], [], [(0, .sl (rP (rI .i64) (rI .i64)) s1_), (1, .sl (rP (rI .i64) (rI .i64)) s2_)], 2⟩ htt 5 (by kernel_rfl) (WPr.nil (?_)))))))))
  rcases oc h with ⟨hc, h⟩ | ⟨hc, h⟩
  · refine WP.condT hc rfl (WP.seq (WP.region (WPr.sil htt 1 rfl (WPr.nil (?_)))))
    cases h
    exact WP.ret htt Tryz.func126 [] rfl rfl rfl rfl
  refine WP.condF hc rfl (WP.skip (WP.seq (WP.seq (WP.region (WPr.silx [] ⟨[(0, .S 0), (1, .S 1), (4, .O false), (12, .I (s1_.length : Int)), (13, .I (0 : Int))], [], [(0, .sl (rP (rI .i64) (rI .i64)) s1_), (1, .sl (rP (rI .i64) (rI .i64)) s2_)], 2⟩ htt 3 (by kernel_rfl) (WPr.nil (?_)))))))
  refine WP.cut (σ := Unit) (fun st => ⟨[], [], [(0, .sl (rP (rI .i64) (rI .i64)) s1_), (1, .sl (rP (rI .i64) (rI .i64)) s2_)], 2⟩) (fun st => z126_k1 = some r) ?_ (fun j1 => ?_)
  · intro _ h
    replace h : z126_k1 = some r := h
    unfold z126_k1 at h
    refine WP.seq (WP.region (WPr.sil htt 1 rfl (WPr.nil (?_))))
    cases h
    exact WP.ret htt Tryz.func126 [] rfl rfl rfl rfl
  refine WP.block (?_)
  refine WP.loopI (σ := Int) (fun st => ⟨[(0, .S 0), (1, .S 1), (12, .I (s1_.length : Int)), (13, .I st)], [], [(0, .sl (rP (rI .i64) (rI .i64)) s1_), (1, .sl (rP (rI .i64) (rI .i64)) s2_)], 2⟩) (fun n st => z126_l2 s1_ s2_ n st) (r := r) (fun _ => rfl) ?_ (fun ih => ?_)
  · intro n2 ih3
    intro v13_3 h
    replace h : z126_l2 s1_ s2_ (n2 + 1) v13_3 = some r := h
    unfold z126_l2 at h
    refine WP.seq (WP.region (WPr.sil htt 1 rfl (WPr.nil (WP.seq (?_)))))
    rcases oc' h with ⟨hc, h⟩ | ⟨hc, h⟩
    · exact WP.condF hc rfl (WP.exit rfl (WP.sub [] (j1 () h) rfl rfl rfl rfl))
    refine WP.condT hc rfl (WP.skip (WP.seq (WP.block (WP.seq (WP.region (WPr.silx [] ⟨[(0, .S 0), (1, .S 1), (5, .I v13_3), (12, .I (s1_.length : Int)), (13, .I v13_3)], [], [(0, .sl (rP (rI .i64) (rI .i64)) s1_), (1, .sl (rP (rI .i64) (rI .i64)) s2_)], 2⟩ htt 2 (by kernel_rfl) (WPr.nil (WP.seq (WP.regionQ (by kernel_rfl) (by kernel_rfl) (WPq.sil htt 2 rfl (?_)))))))))))
    obtain ⟨x35, hx35, h⟩ := ob h
    refine WPq.op rfl rfl (VN.vs (VN.ix (oP (oI .i64) (oI .i64)) htt hx35 rfl rfl rfl rfl rfl rfl rfl)) (WPq.silx [6, 7, 8] ⟨[(0, .S 0), (1, .S 1), (12, .I (s1_.length : Int)), (13, .I v13_3), (19, .a [.I x35.1, .I x35.2]), (20, .S 1), (21, .I v13_3)], [], [(0, .sl (rP (rI .i64) (rI .i64)) s1_), (1, .sl (rP (rI .i64) (rI .i64)) s2_)], 3⟩ htt 3 (by kernel_rfl) (?_))
    obtain ⟨x36, hx36, h⟩ := ob h
    refine WPq.op rfl rfl (VN.vs (VN.ix (oP (oI .i64) (oI .i64)) htt hx36 rfl rfl rfl rfl rfl rfl rfl)) (WPq.sil htt 1 rfl (WPq.op rfl rfl (VN.vs (VN.eqa (neg := true) (equal_run (b := ((x35.1 == x36.1) && ((x35.2 == x36.2) && true))) (by kernel_rfl) (by kernel_rfl)) (by kernel_rfl) rfl rfl rfl rfl rfl)) (WPq.silx [] ⟨[(0, .S 0), (1, .S 1), (12, .I (s1_.length : Int)), (13, .I v13_3), (24, .O (!((x35.1 == x36.1) && ((x35.2 == x36.2) && true))))], [], [(0, .sl (rP (rI .i64) (rI .i64)) s1_), (1, .sl (rP (rI .i64) (rI .i64)) s2_)], 4⟩ htt 0 (by kernel_rfl) (WPq.nil (?_)))))
    rcases oc h with ⟨hc, h⟩ | ⟨hc, h⟩
    · refine WP.condT hc rfl (WP.seq (WP.region (WPr.sil htt 1 rfl (WPr.nil (?_)))))
      cases h
      exact WP.ret htt Tryz.func126 [] rfl rfl rfl rfl
    exact WP.condF hc rfl (WP.skip (WP.inBlock (WP.region (WPr.sil htt 2 rfl (WPr.nil (WP.sub [] (ih3 (w64 (v13_3 + (1 : Int))) h) rfl rfl rfl rfl))))))
  exact WP.sub [] (ih N (0 : Int) h) rfl rfl rfl rfl
theorem z70_ct (N : Nat) (a_ : T0) (b_ : T0) (r : Bool) (h : z70 N a_ b_ = some r) :
  Fn Tryz.prog 70 ⟨6, [.a (cC0 0 1 2 a_), .a (cC0 3 4 5 b_)], (vV0 0 1 2 a_ (vV0 3 4 5 b_ [])), [], 6, .O r, [], []⟩ := by
  refine Fn.intro _ _ Tryz.func70 rfl (by kernel_rfl) rfl (fun E F w => ?_)
  unfold z70 at h
  refine WP.seq (WP.region (WPr.silx [] ⟨[(2, .B 6 0), (3, .B 7 0), (4, .O false)], [(6, .box (cC0 0 1 2 a_) 94), (7, .box (cC0 3 4 5 b_) 94)], (vV0 0 1 2 a_ (vV0 3 4 5 b_ [])), 8⟩ htt 3 (by kernel_rfl) (WPr.nil (WP.seq (WP.region (WPr.silx (rg 6 32) ⟨[(2, .B 6 0), (3, .B 7 0), (10, .O (a_.Name.toList == b_.Name.toList))], [(6, .box (cC0 0 1 2 a_) 94), (7, .box (cC0 3 4 5 b_) 94)], (vV0 0 1 2 a_ (vV0 3 4 5 b_ [])), 8⟩ htt 6 (by kernel_rfl) (?_)))))))
  rcases oc' h with ⟨hc, h⟩ | ⟨hc, h⟩
  · refine WPr.kb 10 hc rfl (WPr.silx [] ⟨[(4, .O false)], [], (vV0 0 1 2 a_ (vV0 3 4 5 b_ [])), 8⟩ htt 32 (by kernel_rfl) (WPr.nil (?_)))
    cases h
    exact WP.ret htt Tryz.func70 [] rfl rfl rfl rfl
  refine WPr.kb 10 hc rfl (WPr.silx (rg 13 25) ⟨[(2, .B 6 0), (3, .B 7 0), (17, .O (a_.First == b_.First))], [(6, .box (cC0 0 1 2 a_) 94), (7, .box (cC0 3 4 5 b_) 94)], (vV0 0 1 2 a_ (vV0 3 4 5 b_ [])), 8⟩ htt 7 (by kernel_rfl) (?_))
  rcases oc' h with ⟨hc, h⟩ | ⟨hc, h⟩
  · refine WPr.kb 17 hc rfl (WPr.silx [] ⟨[(4, .O false)], [], (vV0 0 1 2 a_ (vV0 3 4 5 b_ [])), 8⟩ htt 25 (by kernel_rfl) (WPr.nil (?_)))
    cases h
    exact WP.ret htt Tryz.func70 [] rfl rfl rfl rfl
  refine WPr.kb 17 hc rfl (WPr.silx (rg 17 21) ⟨[(2, .B 6 0), (3, .B 7 0), (17, .O true), (19, .S 0), (21, .S 3)], [(6, .box (cC0 0 1 2 a_) 94), (7, .box (cC0 3 4 5 b_) 94)], (vV0 0 1 2 a_ (vV0 3 4 5 b_ [])), 8⟩ htt 4 (by kernel_rfl) (?_))
  obtain ⟨x1, hx1, h⟩ := ob h
  refine WPr.call (z124_ct N a_.Fields b_.Fields _ hx1) [(0, .sl 0), (1, .sl 3)] [] rfl rfl rfl rfl rfl rfl rfl rfl (.inl rfl) rfl (WPr.silx (rg 20 18) ⟨[(2, .B 6 0), (3, .B 7 0), (24, .O x1)], [(6, .box (cC0 0 1 2 a_) 94), (7, .box (cC0 3 4 5 b_) 94)], (vV0 0 1 2 a_ (vV0 3 4 5 b_ [])), 8⟩ htt 2 (by kernel_rfl) (?_))
  rcases oc' h with ⟨hc, h⟩ | ⟨hc, h⟩
  · refine WPr.kb 24 hc rfl (WPr.silx [] ⟨[(4, .O false)], [], (vV0 0 1 2 a_ (vV0 3 4 5 b_ [])), 8⟩ htt 18 (by kernel_rfl) (WPr.nil (?_)))
    cases h
    exact WP.ret htt Tryz.func70 [] rfl rfl rfl rfl
  refine WPr.kb 24 hc rfl (WPr.silx (rg 26 12) ⟨[(2, .B 6 0), (3, .B 7 0), (24, .O true), (27, .S 1), (30, .S 4)], [(6, .box (cC0 0 1 2 a_) 94), (7, .box (cC0 3 4 5 b_) 94)], (vV0 0 1 2 a_ (vV0 3 4 5 b_ [])), 8⟩ htt 6 (by kernel_rfl) (?_))
  obtain ⟨x2, hx2, h⟩ := ob h
  refine WPr.call (z125_ct N a_.Guard.Diffs b_.Guard.Diffs _ hx2) [(0, .sl 1), (1, .sl 4)] [] rfl rfl rfl rfl rfl rfl rfl rfl (.inl rfl) rfl (WPr.silx (rg 29 9) ⟨[(2, .B 6 0), (3, .B 7 0), (33, .O x2)], [(6, .box (cC0 0 1 2 a_) 94), (7, .box (cC0 3 4 5 b_) 94)], (vV0 0 1 2 a_ (vV0 3 4 5 b_ [])), 8⟩ htt 2 (by kernel_rfl) (?_))
  rcases oc' h with ⟨hc, h⟩ | ⟨hc, h⟩
  · refine WPr.kb 33 hc rfl (WPr.silx [] ⟨[(4, .O false)], [], (vV0 0 1 2 a_ (vV0 3 4 5 b_ [])), 8⟩ htt 9 (by kernel_rfl) (WPr.nil (?_)))
    cases h
    exact WP.ret htt Tryz.func70 [] rfl rfl rfl rfl
  refine WPr.kb 33 hc rfl (WPr.silx [35, 36, 37] ⟨[(33, .O true), (36, .S 2), (39, .S 5)], [], (vV0 0 1 2 a_ (vV0 3 4 5 b_ [])), 8⟩ htt 6 (by kernel_rfl) (?_))
  obtain ⟨x3, hx3, h⟩ := ob h
  refine WPr.call (z126_ct N a_.Guard.Equals b_.Guard.Equals _ hx3) [(0, .sl 2), (1, .sl 5)] [] rfl rfl rfl rfl rfl rfl rfl rfl (.inl rfl) rfl (WPr.silx [] ⟨[(4, .O x3)], [], (vV0 0 1 2 a_ (vV0 3 4 5 b_ [])), 8⟩ htt 2 (by kernel_rfl) (WPr.nil (?_)))
  cases h
  exact WP.ret htt Tryz.func70 [] rfl rfl rfl rfl
theorem z69_15_ct (N : Nat) (s1_ : (List T0)) (s2_ : (List T0)) (r : Bool) (h : z69_15 N s1_ s2_ = some r) :
  Fn Tryz.prog 69 ⟨2, [.S 0, .S 1, .c (.cl 70 [] [])], [(0, .sl rR0 s1_), (1, .sl rR0 s2_)], [], 2, .O r, [], []⟩ := by
  refine Fn.intro _ _ Tryz.func69 rfl (by kernel_rfl) rfl (fun E F w => ?_)
  unfold z69_15 at h
  refine WP.seq (WP.region (WPr.sil htt 1 rfl (WPr.nil (WP.seq (WP.seq (WP.region (WPr.silx [] ⟨[(0, .S 0), (1, .S 1), (2, .c (.cl 70 [] [])), (6, .O false), (14, .O ((s1_.length : Int) != (s2_.length : Int)))], [], [(0, .sl rR0 s1_), (1, .sl rR0 s2_)], 2⟩ htt 5 (by kernel_rfl) (WPr.nil (?_)))))))))
  rcases oc h with ⟨hc, h⟩ | ⟨hc, h⟩
  · refine WP.condT hc rfl (WP.seq (WP.region (WPr.sil htt 1 rfl (WPr.nil (?_)))))
    cases h
    exact WP.ret htt Tryz.func69 [] rfl rfl rfl rfl
  refine WP.condF hc rfl (WP.skip (WP.seq (WP.seq (WP.region (WPr.silx [] ⟨[(1, .S 1), (2, .c (.cl 70 [] [])), (6, .O false), (15, .S 0), (16, .I (s1_.length : Int)), (17, .I (0 : Int))], [], [(0, .sl rR0 s1_), (1, .sl rR0 s2_)], 2⟩ htt 3 (by kernel_rfl) (WPr.nil (?_)))))))
  refine WP.cut (σ := Unit) (fun st => ⟨[], [], [(0, .sl rR0 s1_), (1, .sl rR0 s2_)], 2⟩) (fun st => z69_15_k1 = some r) ?_ (fun j1 => ?_)
  · intro _ h
    replace h : z69_15_k1 = some r := h
    unfold z69_15_k1 at h
    refine WP.seq (WP.region (WPr.sil htt 1 rfl (WPr.nil (?_))))
    cases h
    exact WP.ret htt Tryz.func69 [] rfl rfl rfl rfl
  refine WP.block (?_)
  refine WP.loopI (σ := Int) (fun st => ⟨[(1, .S 1), (2, .c (.cl 70 [] [])), (15, .S 0), (16, .I (s1_.length : Int)), (17, .I st)], [], [(0, .sl rR0 s1_), (1, .sl rR0 s2_)], 2⟩) (fun n st => z69_15_l2 N s1_ s2_ n st) (r := r) (fun _ => rfl) ?_ (fun ih => ?_)
  · intro n2 ih3
    intro v17_3 h
    replace h : z69_15_l2 N s1_ s2_ (n2 + 1) v17_3 = some r := h
    unfold z69_15_l2 at h
    refine WP.seq (WP.region (WPr.sil htt 1 rfl (WPr.nil (WP.seq (?_)))))
    rcases oc' h with ⟨hc, h⟩ | ⟨hc, h⟩
    · exact WP.condF hc rfl (WP.exit rfl (WP.sub [] (j1 () h) rfl rfl rfl rfl))
    refine WP.condT hc rfl (WP.skip (WP.seq (WP.block (WP.seq (WP.region (WPr.sil htt 1 rfl (?_)))))))
    obtain ⟨x25, hx25, h⟩ := ob h
    refine WPr.ix oO0 htt hx25 rfl rfl rfl rfl rfl rfl rfl rfl rfl (WPr.silx [] ⟨[(1, .S 1), (2, .c (.cl 70 [] [])), (7, .I v17_3), (8, .B 6 0), (15, .S 0), (16, .I (s1_.length : Int)), (17, .I v17_3)], [(6, .box (cC0 3 4 5 x25) 94)], ((0, .sl rR0 s1_) :: (1, .sl rR0 s2_) :: vV0 3 4 5 x25 []), 7⟩ htt 4 (by kernel_rfl) (WPr.nil (WP.seq (WP.region (WPr.sil htt 2 rfl (?_))))))
    obtain ⟨x26, hx26, h⟩ := ob h
    refine WPr.ix oO0 htt hx26 rfl rfl rfl rfl rfl rfl rfl rfl rfl (WPr.silx [] ⟨[(1, .S 1), (2, .c (.cl 70 [] [])), (8, .B 6 0), (9, .B 11 0), (15, .S 0), (16, .I (s1_.length : Int)), (17, .I v17_3)], [(6, .box (cC0 3 4 5 x25) 94), (11, .box (cC0 8 9 10 x26) 94)], ((0, .sl rR0 s1_) :: (1, .sl rR0 s2_) :: vV0 3 4 5 x25 (vV0 8 9 10 x26 [])), 12⟩ htt 3 (by kernel_rfl) (WPr.nil (WP.seq (WP.region (WPr.silx [3, 4] ⟨[(1, .S 1), (2, .c (.cl 70 [] [])), (15, .S 0), (16, .I (s1_.length : Int)), (17, .I v17_3), (26, .c (.cl 70 [] [])), (27, .a (cC0 3 4 5 x25)), (28, .a (cC0 8 9 10 x26))], [], ((0, .sl rR0 s1_) :: (1, .sl rR0 s2_) :: vV0 3 4 5 x25 (vV0 8 9 10 x26 [])), 12⟩ htt 3 (by kernel_rfl) (?_))))))
    obtain ⟨x27, hx27, h⟩ := ob h
    refine WPr.callc (z70_ct N x25 x26 _ hx27) [(0, .sl 3), (1, .sl 4), (2, .sl 5), (3, .sl 8), (4, .sl 9), (5, .sl 10)] [] rfl rfl rfl rfl rfl rfl rfl rfl rfl (.inl rfl) rfl (WPr.silx [] ⟨[(1, .S 1), (2, .c (.cl 70 [] [])), (15, .S 0), (16, .I (s1_.length : Int)), (17, .I v17_3), (30, .O (!x27))], [], [(0, .sl rR0 s1_), (1, .sl rR0 s2_)], 12⟩ htt 1 (by kernel_rfl) (WPr.nil (?_)))
    rcases oc h with ⟨hc, h⟩ | ⟨hc, h⟩
    · refine WP.condT hc rfl (WP.seq (WP.region (WPr.sil htt 1 rfl (WPr.nil (?_)))))
      cases h
      exact WP.ret htt Tryz.func69 [] rfl rfl rfl rfl
    exact WP.condF hc rfl (WP.skip (WP.inBlock (WP.region (WPr.sil htt 2 rfl (WPr.nil (WP.sub [] (ih3 (w64 (v17_3 + (1 : Int))) h) rfl rfl rfl rfl))))))
  exact WP.sub [] (ih N (0 : Int) h) rfl rfl rfl rfl
theorem z71_ct (N : Nat) (s1_ : (List T2)) (s2_ : (List T2)) (r : Bool) (h : z71 N s1_ s2_ = some r) :
  Fn Tryz.prog 71 ⟨2, [.S 0, .S 1], [(0, .sl rR2 s1_), (1, .sl rR2 s2_)], [], 2, .O r, [], []⟩ := by
  refine Fn.intro _ _ Tryz.func71 rfl (by kernel_rfl) rfl (fun E F w => ?_)
  unfold z71 at h
  refine WP.seq (WP.region (WPr.sil htt 1 rfl (WPr.nil (WP.seq (WP.seq (WP.region (WPr.silx [] ⟨[(0, .S 0), (1, .S 1), (4, .O false), (10, .O ((s1_.length : Int) != (s2_.length : Int)))], [], [(0, .sl rR2 s1_), (1, .sl rR2 s2_)], 2⟩ htt 5 (by kernel_rfl) (WPr.nil (?_)))))))))
  rcases oc h with ⟨hc, h⟩ | ⟨hc, h⟩
  · refine WP.condT hc rfl (WP.seq (WP.region (WPr.sil htt 1 rfl (WPr.nil (?_)))))
    cases h
    exact WP.ret htt Tryz.func71 [] rfl rfl rfl rfl
  refine WP.condF hc rfl (WP.skip (WP.seq (WP.seq (WP.region (WPr.silx [] ⟨[(0, .S 0), (1, .S 1), (4, .O false), (12, .I (s1_.length : Int)), (13, .I (0 : Int))], [], [(0, .sl rR2 s1_), (1, .sl rR2 s2_)], 2⟩ htt 3 (by kernel_rfl) (WPr.nil (?_)))))))
  refine WP.cut (σ := Unit) (fun st => ⟨[], [], [(0, .sl rR2 s1_), (1, .sl rR2 s2_)], 2⟩) (fun st => z71_k1 = some r) ?_ (fun j1 => ?_)
  · intro _ h
    replace h : z71_k1 = some r := h
    unfold z71_k1 at h
    refine WP.seq (WP.region (WPr.sil htt 1 rfl (WPr.nil (?_))))
    cases h
    exact WP.ret htt Tryz.func71 [] rfl rfl rfl rfl
  refine WP.block (?_)
  refine WP.loopI (σ := Int) (fun st => ⟨[(0, .S 0), (1, .S 1), (12, .I (s1_.length : Int)), (13, .I st)], [], [(0, .sl rR2 s1_), (1, .sl rR2 s2_)], 2⟩) (fun n st => z71_l2 s1_ s2_ n st) (r := r) (fun _ => rfl) ?_ (fun ih => ?_)
  · intro n2 ih3
    intro v13_3 h
    replace h : z71_l2 s1_ s2_ (n2 + 1) v13_3 = some r := h
    unfold z71_l2 at h
    refine WP.seq (WP.region (WPr.sil htt 1 rfl (WPr.nil (WP.seq (?_)))))
    rcases oc' h with ⟨hc, h⟩ | ⟨hc, h⟩
    · exact WP.condF hc rfl (WP.exit rfl (WP.sub [] (j1 () h) rfl rfl rfl rfl))
    refine WP.condT hc rfl (WP.skip (WP.seq (WP.block (WP.seq (WP.region (WPr.silx [] ⟨[(0, .S 0), (1, .S 1), (5, .I v13_3), (12, .I (s1_.length : Int)), (13, .I v13_3)], [], [(0, .sl rR2 s1_), (1, .sl rR2 s2_)], 2⟩ htt 2 (by kernel_rfl) (WPr.nil (WP.seq (WP.regionQ (by kernel_rfl) (by kernel_rfl) (WPq.sil htt 2 rfl (?_)))))))))))
    obtain ⟨x35, hx35, h⟩ := ob h
    refine WPq.op rfl rfl (VN.vs (VN.ix oO2 htt hx35 rfl rfl rfl rfl rfl rfl rfl)) (WPq.silx [6, 7, 8] ⟨[(0, .S 0), (1, .S 1), (12, .I (s1_.length : Int)), (13, .I v13_3), (19, .a (cC2 x35)), (20, .S 1), (21, .I v13_3)], [], [(0, .sl rR2 s1_), (1, .sl rR2 s2_)], 3⟩ htt 3 (by kernel_rfl) (?_))
    obtain ⟨x36, hx36, h⟩ := ob h
    refine WPq.op rfl rfl (VN.vs (VN.ix oO2 htt hx36 rfl rfl rfl rfl rfl rfl rfl)) (WPq.sil htt 1 rfl (WPq.op rfl rfl (VN.vs (VN.eqa (neg := true) (equal_run (b := ((x35.From == x36.From) && (((x35.Act.From == x36.Act.From) && ((x35.Act.To == x36.Act.To) && ((x35.Act.Label == x36.Act.Label) && true))) && ((x35.To == x36.To) && ((x35.Again == x36.Again) && true))))) (by kernel_rfl) (by kernel_rfl)) (by kernel_rfl) rfl rfl rfl rfl rfl)) (WPq.silx [] ⟨[(0, .S 0), (1, .S 1), (12, .I (s1_.length : Int)), (13, .I v13_3), (24, .O (!((x35.From == x36.From) && (((x35.Act.From == x36.Act.From) && ((x35.Act.To == x36.Act.To) && ((x35.Act.Label == x36.Act.Label) && true))) && ((x35.To == x36.To) && ((x35.Again == x36.Again) && true))))))], [], [(0, .sl rR2 s1_), (1, .sl rR2 s2_)], 4⟩ htt 0 (by kernel_rfl) (WPq.nil (?_)))))
    rcases oc h with ⟨hc, h⟩ | ⟨hc, h⟩
    · refine WP.condT hc rfl (WP.seq (WP.region (WPr.sil htt 1 rfl (WPr.nil (?_)))))
      cases h
      exact WP.ret htt Tryz.func71 [] rfl rfl rfl rfl
    exact WP.condF hc rfl (WP.skip (WP.inBlock (WP.region (WPr.sil htt 2 rfl (WPr.nil (WP.sub [] (ih3 (w64 (v13_3 + (1 : Int))) h) rfl rfl rfl rfl))))))
  exact WP.sub [] (ih N (0 : Int) h) rfl rfl rfl rfl
theorem z72_ct (N : Nat) (s1_ : (List T8)) (s2_ : (List T8)) (r : Bool) (h : z72 N s1_ s2_ = some r) :
  Fn Tryz.prog 72 ⟨2, [.S 0, .S 1], [(0, .sl rR8 s1_), (1, .sl rR8 s2_)], [], 2, .O r, [], []⟩ := by
  refine Fn.intro _ _ Tryz.func72 rfl (by kernel_rfl) rfl (fun E F w => ?_)
  unfold z72 at h
  refine WP.seq (WP.region (WPr.sil htt 1 rfl (WPr.nil (WP.seq (WP.seq (WP.region (WPr.silx [] ⟨[(0, .S 0), (1, .S 1), (4, .O false), (10, .O ((s1_.length : Int) != (s2_.length : Int)))], [], [(0, .sl rR8 s1_), (1, .sl rR8 s2_)], 2⟩ htt 5 (by kernel_rfl) (WPr.nil (?_)))))))))
  rcases oc h with ⟨hc, h⟩ | ⟨hc, h⟩
  · refine WP.condT hc rfl (WP.seq (WP.region (WPr.sil htt 1 rfl (WPr.nil (?_)))))
    cases h
    exact WP.ret htt Tryz.func72 [] rfl rfl rfl rfl
  refine WP.condF hc rfl (WP.skip (WP.seq (WP.seq (WP.region (WPr.silx [] ⟨[(0, .S 0), (1, .S 1), (4, .O false), (12, .I (s1_.length : Int)), (13, .I (0 : Int))], [], [(0, .sl rR8 s1_), (1, .sl rR8 s2_)], 2⟩ htt 3 (by kernel_rfl) (WPr.nil (?_)))))))
  refine WP.cut (σ := Unit) (fun st => ⟨[], [], [(0, .sl rR8 s1_), (1, .sl rR8 s2_)], 2⟩) (fun st => z72_k1 = some r) ?_ (fun j1 => ?_)
  · intro _ h
    replace h : z72_k1 = some r := h
    unfold z72_k1 at h
    refine WP.seq (WP.region (WPr.sil htt 1 rfl (WPr.nil (?_))))
    cases h
    exact WP.ret htt Tryz.func72 [] rfl rfl rfl rfl
  refine WP.block (?_)
  refine WP.loopI (σ := Int) (fun st => ⟨[(0, .S 0), (1, .S 1), (12, .I (s1_.length : Int)), (13, .I st)], [], [(0, .sl rR8 s1_), (1, .sl rR8 s2_)], 2⟩) (fun n st => z72_l2 s1_ s2_ n st) (r := r) (fun _ => rfl) ?_ (fun ih => ?_)
  · intro n2 ih3
    intro v13_3 h
    replace h : z72_l2 s1_ s2_ (n2 + 1) v13_3 = some r := h
    unfold z72_l2 at h
    refine WP.seq (WP.region (WPr.sil htt 1 rfl (WPr.nil (WP.seq (?_)))))
    rcases oc' h with ⟨hc, h⟩ | ⟨hc, h⟩
    · exact WP.condF hc rfl (WP.exit rfl (WP.sub [] (j1 () h) rfl rfl rfl rfl))
    refine WP.condT hc rfl (WP.skip (WP.seq (WP.block (WP.seq (WP.region (WPr.silx [] ⟨[(0, .S 0), (1, .S 1), (5, .I v13_3), (12, .I (s1_.length : Int)), (13, .I v13_3)], [], [(0, .sl rR8 s1_), (1, .sl rR8 s2_)], 2⟩ htt 2 (by kernel_rfl) (WPr.nil (WP.seq (WP.regionQ (by kernel_rfl) (by kernel_rfl) (WPq.sil htt 2 rfl (?_)))))))))))
    obtain ⟨x35, hx35, h⟩ := ob h
    refine WPq.op rfl rfl (VN.vs (VN.ix oO8 htt hx35 rfl rfl rfl rfl rfl rfl rfl)) (WPq.silx [6, 7, 8] ⟨[(0, .S 0), (1, .S 1), (12, .I (s1_.length : Int)), (13, .I v13_3), (19, .a (cC8 x35)), (20, .S 1), (21, .I v13_3)], [], [(0, .sl rR8 s1_), (1, .sl rR8 s2_)], 3⟩ htt 3 (by kernel_rfl) (?_))
    obtain ⟨x36, hx36, h⟩ := ob h
    refine WPq.op rfl rfl (VN.vs (VN.ix oO8 htt hx36 rfl rfl rfl rfl rfl rfl rfl)) (WPq.sil htt 1 rfl (WPq.op rfl rfl (VN.vs (VN.eqa (neg := true) (equal_run (b := ((x35.State == x36.State) && ((x35.Ticks == x36.Ticks) && ((x35.Else == x36.Else) && true)))) (by kernel_rfl) (by kernel_rfl)) (by kernel_rfl) rfl rfl rfl rfl rfl)) (WPq.silx [] ⟨[(0, .S 0), (1, .S 1), (12, .I (s1_.length : Int)), (13, .I v13_3), (24, .O (!((x35.State == x36.State) && ((x35.Ticks == x36.Ticks) && ((x35.Else == x36.Else) && true)))))], [], [(0, .sl rR8 s1_), (1, .sl rR8 s2_)], 4⟩ htt 0 (by kernel_rfl) (WPq.nil (?_)))))
    rcases oc h with ⟨hc, h⟩ | ⟨hc, h⟩
    · refine WP.condT hc rfl (WP.seq (WP.region (WPr.sil htt 1 rfl (WPr.nil (?_)))))
      cases h
      exact WP.ret htt Tryz.func72 [] rfl rfl rfl rfl
    exact WP.condF hc rfl (WP.skip (WP.inBlock (WP.region (WPr.sil htt 2 rfl (WPr.nil (WP.sub [] (ih3 (w64 (v13_3 + (1 : Int))) h) rfl rfl rfl rfl))))))
  exact WP.sub [] (ih N (0 : Int) h) rfl rfl rfl rfl
theorem z23_ct (N : Nat) (a_ : T4) (b_ : T4) (r : Bool) (h : z23 N a_ b_ = some r) :
  Fn Tryz.prog 23 ⟨8, [.a (cC4 0 1 2 3 a_), .a (cC4 4 5 6 7 b_)], (vV4 0 1 2 3 a_ (vV4 4 5 6 7 b_ [])), [], 8, .O r, [], []⟩ := by
  refine Fn.intro _ _ Tryz.func23 rfl (by kernel_rfl) rfl (fun E F w => ?_)
  unfold z23 at h
  refine WP.seq (WP.region (WPr.silx [] ⟨[(2, .B 8 0), (3, .B 9 0), (4, .O false)], [(8, .box (cC4 0 1 2 3 a_) 27), (9, .box (cC4 4 5 6 7 b_) 27)], (vV4 0 1 2 3 a_ (vV4 4 5 6 7 b_ [])), 10⟩ htt 3 (by kernel_rfl) (WPr.nil (WP.seq (WP.region (WPr.silx (rg 6 49) ⟨[(2, .B 8 0), (3, .B 9 0), (10, .O (a_.Name.toList == b_.Name.toList))], [(8, .box (cC4 0 1 2 3 a_) 27), (9, .box (cC4 4 5 6 7 b_) 27)], (vV4 0 1 2 3 a_ (vV4 4 5 6 7 b_ [])), 10⟩ htt 6 (by kernel_rfl) (?_)))))))
  rcases oc' h with ⟨hc, h⟩ | ⟨hc, h⟩
  · refine WPr.kb 10 hc rfl (WPr.silx [] ⟨[(4, .O false)], [], (vV4 0 1 2 3 a_ (vV4 4 5 6 7 b_ [])), 10⟩ htt 49 (by kernel_rfl) (WPr.nil (?_)))
    cases h
    exact WP.ret htt Tryz.func23 [] rfl rfl rfl rfl
  refine WPr.kb 10 hc rfl (WPr.silx (rg 10 45) ⟨[(2, .B 8 0), (3, .B 9 0), (10, .O true), (12, .S 0), (14, .S 4)], [(8, .box (cC4 0 1 2 3 a_) 27), (9, .box (cC4 4 5 6 7 b_) 27)], (vV4 0 1 2 3 a_ (vV4 4 5 6 7 b_ [])), 10⟩ htt 4 (by kernel_rfl) (?_))
  obtain ⟨x1, hx1, h⟩ := ob h
  refine WPr.call (z68_ct N a_.Roles b_.Roles _ hx1) [(0, .sl 0), (1, .sl 4)] [] rfl rfl rfl rfl rfl rfl rfl rfl (.inl rfl) rfl (WPr.silx (rg 13 42) ⟨[(2, .B 8 0), (3, .B 9 0), (17, .O x1)], [(8, .box (cC4 0 1 2 3 a_) 27), (9, .box (cC4 4 5 6 7 b_) 27)], (vV4 0 1 2 3 a_ (vV4 4 5 6 7 b_ [])), 10⟩ htt 2 (by kernel_rfl) (?_))
  rcases oc' h with ⟨hc, h⟩ | ⟨hc, h⟩
  · refine WPr.kb 17 hc rfl (WPr.silx [] ⟨[(4, .O false)], [], (vV4 0 1 2 3 a_ (vV4 4 5 6 7 b_ [])), 10⟩ htt 42 (by kernel_rfl) (WPr.nil (?_)))
    cases h
    exact WP.ret htt Tryz.func23 [] rfl rfl rfl rfl
  refine WPr.kb 17 hc rfl (WPr.silx (rg 17 38) ⟨[(2, .B 8 0), (3, .B 9 0), (17, .O true), (19, .S 1), (21, .S 5)], [(8, .box (cC4 0 1 2 3 a_) 27), (9, .box (cC4 4 5 6 7 b_) 27)], (vV4 0 1 2 3 a_ (vV4 4 5 6 7 b_ [])), 10⟩ htt 4 (by kernel_rfl) (?_))
  obtain ⟨x2, hx2, h⟩ := ob h
  refine WPr.call (z69_15_ct N a_.Decls b_.Decls _ hx2) [(0, .sl 1), (1, .sl 5)] [] rfl rfl rfl rfl rfl rfl rfl rfl (.inl rfl) rfl (WPr.silx (rg 20 35) ⟨[(2, .B 8 0), (3, .B 9 0), (24, .O x2)], [(8, .box (cC4 0 1 2 3 a_) 27), (9, .box (cC4 4 5 6 7 b_) 27)], (vV4 0 1 2 3 a_ (vV4 4 5 6 7 b_ [])), 10⟩ htt 2 (by kernel_rfl) (?_))
  rcases oc' h with ⟨hc, h⟩ | ⟨hc, h⟩
  · refine WPr.kb 24 hc rfl (WPr.silx [] ⟨[(4, .O false)], [], (vV4 0 1 2 3 a_ (vV4 4 5 6 7 b_ [])), 10⟩ htt 35 (by kernel_rfl) (WPr.nil (?_)))
    cases h
    exact WP.ret htt Tryz.func23 [] rfl rfl rfl rfl
  refine WPr.kb 24 hc rfl (WPr.silx (rg 27 28) ⟨[(2, .B 8 0), (3, .B 9 0), (31, .O (a_.States == b_.States))], [(8, .box (cC4 0 1 2 3 a_) 27), (9, .box (cC4 4 5 6 7 b_) 27)], (vV4 0 1 2 3 a_ (vV4 4 5 6 7 b_ [])), 10⟩ htt 7 (by kernel_rfl) (?_))
  rcases oc' h with ⟨hc, h⟩ | ⟨hc, h⟩
  · refine WPr.kb 31 hc rfl (WPr.silx [] ⟨[(4, .O false)], [], (vV4 0 1 2 3 a_ (vV4 4 5 6 7 b_ [])), 10⟩ htt 28 (by kernel_rfl) (WPr.nil (?_)))
    cases h
    exact WP.ret htt Tryz.func23 [] rfl rfl rfl rfl
  refine WPr.kb 31 hc rfl (WPr.silx (rg 34 21) ⟨[(2, .B 8 0), (3, .B 9 0), (38, .O (a_.Start == b_.Start))], [(8, .box (cC4 0 1 2 3 a_) 27), (9, .box (cC4 4 5 6 7 b_) 27)], (vV4 0 1 2 3 a_ (vV4 4 5 6 7 b_ [])), 10⟩ htt 7 (by kernel_rfl) (?_))
  rcases oc' h with ⟨hc, h⟩ | ⟨hc, h⟩
  · refine WPr.kb 38 hc rfl (WPr.silx [] ⟨[(4, .O false)], [], (vV4 0 1 2 3 a_ (vV4 4 5 6 7 b_ [])), 10⟩ htt 21 (by kernel_rfl) (WPr.nil (?_)))
    cases h
    exact WP.ret htt Tryz.func23 [] rfl rfl rfl rfl
  refine WPr.kb 38 hc rfl (WPr.silx (rg 41 14) ⟨[(2, .B 8 0), (3, .B 9 0), (45, .O (a_.End == b_.End))], [(8, .box (cC4 0 1 2 3 a_) 27), (9, .box (cC4 4 5 6 7 b_) 27)], (vV4 0 1 2 3 a_ (vV4 4 5 6 7 b_ [])), 10⟩ htt 7 (by kernel_rfl) (?_))
  rcases oc' h with ⟨hc, h⟩ | ⟨hc, h⟩
  · refine WPr.kb 45 hc rfl (WPr.silx [] ⟨[(4, .O false)], [], (vV4 0 1 2 3 a_ (vV4 4 5 6 7 b_ [])), 10⟩ htt 14 (by kernel_rfl) (WPr.nil (?_)))
    cases h
    exact WP.ret htt Tryz.func23 [] rfl rfl rfl rfl
  refine WPr.kb 45 hc rfl (WPr.silx (rg 45 10) ⟨[(2, .B 8 0), (3, .B 9 0), (45, .O true), (47, .S 2), (49, .S 6)], [(8, .box (cC4 0 1 2 3 a_) 27), (9, .box (cC4 4 5 6 7 b_) 27)], (vV4 0 1 2 3 a_ (vV4 4 5 6 7 b_ [])), 10⟩ htt 4 (by kernel_rfl) (?_))
  obtain ⟨x3, hx3, h⟩ := ob h
  refine WPr.call (z71_ct N a_.Edges b_.Edges _ hx3) [(0, .sl 2), (1, .sl 6)] [] rfl rfl rfl rfl rfl rfl rfl rfl (.inl rfl) rfl (WPr.silx (rg 48 7) ⟨[(2, .B 8 0), (3, .B 9 0), (52, .O x3)], [(8, .box (cC4 0 1 2 3 a_) 27), (9, .box (cC4 4 5 6 7 b_) 27)], (vV4 0 1 2 3 a_ (vV4 4 5 6 7 b_ [])), 10⟩ htt 2 (by kernel_rfl) (?_))
  rcases oc' h with ⟨hc, h⟩ | ⟨hc, h⟩
  · refine WPr.kb 52 hc rfl (WPr.silx [] ⟨[(4, .O false)], [], (vV4 0 1 2 3 a_ (vV4 4 5 6 7 b_ [])), 10⟩ htt 7 (by kernel_rfl) (WPr.nil (?_)))
    cases h
    exact WP.ret htt Tryz.func23 [] rfl rfl rfl rfl
  refine WPr.kb 52 hc rfl (WPr.silx [52, 53, 54] ⟨[(52, .O true), (54, .S 3), (56, .S 7)], [], (vV4 0 1 2 3 a_ (vV4 4 5 6 7 b_ [])), 10⟩ htt 4 (by kernel_rfl) (?_))
  obtain ⟨x4, hx4, h⟩ := ob h
  refine WPr.call (z72_ct N a_.Timeouts b_.Timeouts _ hx4) [(0, .sl 3), (1, .sl 7)] [] rfl rfl rfl rfl rfl rfl rfl rfl (.inl rfl) rfl (WPr.silx [] ⟨[(4, .O x4)], [], (vV4 0 1 2 3 a_ (vV4 4 5 6 7 b_ [])), 10⟩ htt 2 (by kernel_rfl) (WPr.nil (?_)))
  cases h
  exact WP.ret htt Tryz.func23 [] rfl rfl rfl rfl
theorem z78_16_ct (N : Nat) (d_ : T0) (c0_ : ByteArray) (r : Bool) (h : z78_16 N d_ c0_ = some r) :
  Fn Tryz.prog 78 ⟨4, [.a (cC0 0 1 2 d_), .B 3 0], (vV0 0 1 2 d_ []), [(3, .box [.s c0_] 9)], 4, .O r, [], [(3, .box [.s c0_] 9)]⟩ := by
  refine Fn.intro _ _ Tryz.func78 rfl (by kernel_rfl) rfl (fun E F w => ?_)
  unfold z78_16 at h
  refine WP.seq (WP.region (WPr.sil htt 2 rfl (WPr.nil (WP.seq (WP.region (WPr.silx [] ⟨[(3, .O (d_.Name.toList == c0_.toList))], [(3, .box [.s c0_] 9)], (vV0 0 1 2 d_ []), 5⟩ htt 5 (by kernel_rfl) (WPr.nil (?_))))))))
  cases h
  exact WP.ret htt Tryz.func78 [] rfl rfl rfl rfl
theorem z77_17_ct (N : Nat) (s_ : (List T0)) (c0_ : ByteArray) (r : Int) (h : z77_17 N s_ c0_ = some r) :
  Fn Tryz.prog 77 ⟨2, [.S 0, .c (.cl 78 [] [1])], [(0, .sl rR0 s_)], [(1, .box [.s c0_] 9)], 2, .I r, [], [(1, .box [.s c0_] 9)]⟩ := by
  refine Fn.intro _ _ Tryz.func77 rfl (by kernel_rfl) rfl (fun E F w => ?_)
  unfold z77_17 at h
  refine WP.seq (WP.region (WPr.sil htt 1 rfl (WPr.nil (WP.seq (WP.seq (WP.region (WPr.silx [] ⟨[(0, .S 0), (1, .c (.cl 78 [] [1])), (4, .I (0 : Int)), (7, .I (s_.length : Int)), (8, .I (0 : Int))], [(1, .box [.s c0_] 9)], [(0, .sl rR0 s_)], 2⟩ htt 3 (by kernel_rfl) (WPr.nil (?_)))))))))
  refine WP.cut (σ := Unit) (fun st => ⟨[], [(1, .box [.s c0_] 9)], [(0, .sl rR0 s_)], 2⟩) (fun st => z77_17_k1 = some r) ?_ (fun j1 => ?_)
  · intro _ h
    replace h : z77_17_k1 = some r := h
    unfold z77_17_k1 at h
    refine WP.seq (WP.region (WPr.sil htt 1 rfl (WPr.nil (?_))))
    cases h
    exact WP.ret htt Tryz.func77 [] rfl rfl rfl rfl
  refine WP.block (?_)
  refine WP.loopI (σ := Int) (fun st => ⟨[(0, .S 0), (1, .c (.cl 78 [] [1])), (7, .I (s_.length : Int)), (8, .I st)], [(1, .box [.s c0_] 9)], [(0, .sl rR0 s_)], 2⟩) (fun n st => z77_17_l2 N s_ c0_ n st) (r := r) (fun _ => rfl) ?_ (fun ih => ?_)
  · intro n2 ih3
    intro v8_3 h
    replace h : z77_17_l2 N s_ c0_ (n2 + 1) v8_3 = some r := h
    unfold z77_17_l2 at h
    refine WP.seq (WP.region (WPr.sil htt 1 rfl (WPr.nil (WP.seq (?_)))))
    rcases oc' h with ⟨hc, h⟩ | ⟨hc, h⟩
    · exact WP.condF hc rfl (WP.exit rfl (WP.sub [] (j1 () h) rfl rfl rfl rfl))
    refine WP.condT hc rfl (WP.skip (WP.seq (WP.block (WP.seq (WP.region (WPr.silx [] ⟨[(0, .S 0), (1, .c (.cl 78 [] [1])), (5, .I v8_3), (7, .I (s_.length : Int)), (8, .I v8_3)], [(1, .box [.s c0_] 9)], [(0, .sl rR0 s_)], 2⟩ htt 2 (by kernel_rfl) (WPr.nil (WP.seq (WP.region (WPr.silx [3, 4, 5] ⟨[(0, .S 0), (1, .c (.cl 78 [] [1])), (5, .I v8_3), (7, .I (s_.length : Int)), (8, .I v8_3), (11, .c (.cl 78 [] [1])), (12, .S 0), (13, .I v8_3)], [(1, .box [.s c0_] 9)], [(0, .sl rR0 s_)], 2⟩ htt 3 (by kernel_rfl) (?_)))))))))))
    obtain ⟨x17, hx17, h⟩ := ob h
    refine WPr.ix oO0 htt hx17 rfl rfl rfl rfl rfl rfl rfl rfl rfl (WPr.sil htt 1 rfl (?_))
    obtain ⟨x18, hx18, h⟩ := ob h
    refine WPr.callc (z78_16_ct N x17 c0_ _ hx18) [(0, .sl 3), (1, .sl 4), (2, .sl 5), (3, .bp 1 0)] [] rfl rfl rfl rfl rfl rfl rfl rfl rfl (.inl rfl) rfl (WPr.silx [] ⟨[(0, .S 0), (1, .c (.cl 78 [] [1])), (5, .I v8_3), (7, .I (s_.length : Int)), (8, .I v8_3), (16, .O x18)], [(1, .box [.s c0_] 9)], [(0, .sl rR0 s_)], 6⟩ htt 0 (by kernel_rfl) (WPr.nil (?_)))
    rcases oc h with ⟨hc, h⟩ | ⟨hc, h⟩
    · refine WP.condT hc rfl (WP.seq (WP.region (WPr.sil htt 2 rfl (WPr.nil (?_)))))
      cases h
      exact WP.ret htt Tryz.func77 [] rfl rfl rfl rfl
    exact WP.condF hc rfl (WP.skip (WP.inBlock (WP.region (WPr.sil htt 2 rfl (WPr.nil (WP.sub [] (ih3 (w64 (v8_3 + (1 : Int))) h) rfl rfl rfl rfl))))))
  exact WP.sub [] (ih N (0 : Int) h) rfl rfl rfl rfl
theorem z31_ct (N : Nat) (g_ : T4) (name_ : ByteArray) (r : Int) (h : z31 N g_ name_ = some r) :
  Fn Tryz.prog 31 ⟨4, [.a (cC4 0 1 2 3 g_), .c (.s name_)], (vV4 0 1 2 3 g_ []), [], 4, .I r, [], []⟩ := by
  refine Fn.intro _ _ Tryz.func31 rfl (by kernel_rfl) rfl (fun E F w => ?_)
  unfold z31 at h
  refine WP.seq (WP.region (WPr.silx [] ⟨[(2, .B 4 0), (3, .B 5 0), (4, .I (0 : Int))], [(4, .box (cC4 0 1 2 3 g_) 27), (5, .box [.s name_] 9)], (vV4 0 1 2 3 g_ []), 6⟩ htt 3 (by kernel_rfl) (WPr.nil (WP.seq (WP.region (WPr.silx [3, 4] ⟨[(6, .S 1), (7, .c (.cl 78 [] [5]))], [(5, .box [.s name_] 9)], (vV4 0 1 2 3 g_ []), 6⟩ htt 3 (by kernel_rfl) (?_)))))))
  obtain ⟨x1, hx1, h⟩ := ob h
  refine WPr.call (z77_17_ct N g_.Decls name_ _ hx1) [(0, .sl 1), (1, .bp 5 0)] [] rfl rfl rfl rfl rfl rfl rfl rfl (.inl rfl) rfl (WPr.silx [] ⟨[(4, .I x1)], [], (vV4 0 1 2 3 g_ []), 6⟩ htt 1 (by kernel_rfl) (WPr.nil (?_)))
  cases h
  exact WP.ret htt Tryz.func31 [] rfl rfl rfl rfl
theorem z115_ct (N : Nat) (s_ : (List ByteArray)) (r : (List ByteArray)) (h : z115 N s_ = some r) :
  Fn Tryz.prog 115 ⟨1, [.S 0], [(0, .sl rS s_)], [], 2, .S 1, [], [(1, .own rS r true)]⟩ := by
  refine Fn.intro _ _ Tryz.func115 rfl (by kernel_rfl) rfl (fun E F w => ?_)
  unfold z115 at h
  refine WP.seq (WP.region (WPr.sil htt 1 rfl (WPr.nil (WP.seq (WP.seq (WP.region (WPr.sil htt 1 rfl (WPr.nilc (el := 9) false (Or.inl rfl) rfl rfl rfl rfl (by kernel_rfl) rfl rfl rfl (?_)))))))))
  intro nb hnb
  cases nb
  · refine WPr.silx [] ⟨[(0, .S 0), (2, .c .nil), (4, .O false)], [], [(0, .sl rS s_)], 1⟩ htt 0 (by kernel_rfl) (WPr.nil (WP.condF rfl rfl (WP.skip (WP.seq (WP.region (WPr.bs (cs := []) oS htt ([] : List ByteArray) rfl rfl rfl rfl rfl rfl (by kernel_rfl) (by exact rfl) rfl (WPr.sil htt 1 rfl (?_))))))))
    obtain ⟨x1, hx1, h⟩ := ob h
    refine WPr.app htt hx1 (by exact (srcI rfl)) rfl rfl rfl rfl rfl rfl rfl rfl rfl rfl (WPr.silx [] ⟨[(2, .S 2)], [(2, .own rS x1 true)], [(0, .sl rS s_)], 3⟩ htt 1 (by kernel_rfl) (WPr.nil (?_)))
    cases h
    exact WP.ret htt Tryz.func115 [(1, .sl 2)] rfl rfl rfl rfl
  · obtain rfl := hnb rfl
    replace h : (some ([] : List ByteArray) : Option (List ByteArray)) = some r := h
    refine WPr.silx [] ⟨[(0, .S 0), (2, .c .nil), (4, .O true)], [], [(0, .sl rS ([] : List ByteArray))], 1⟩ htt 0 (by kernel_rfl) (WPr.nil (WP.condT rfl rfl (WP.seq (WP.region (WPr.sil htt 1 rfl (WPr.nil (?_)))))))
    cases h
    exact WP.ret htt Tryz.func115 [(1, .nil)] rfl rfl rfl rfl
theorem z116_ct (N : Nat) (s_ : (List T3)) (r : (List T3)) (h : z116 N s_ = some r) :
  Fn Tryz.prog 116 ⟨1, [.S 0], [(0, .sl rR3 s_)], [], 2, .S 1, [], [(1, .own rR3 r true)]⟩ := by
  refine Fn.intro _ _ Tryz.func116 rfl (by kernel_rfl) rfl (fun E F w => ?_)
  unfold z116 at h
  refine WP.seq (WP.region (WPr.sil htt 1 rfl (WPr.nil (WP.seq (WP.seq (WP.region (WPr.sil htt 1 rfl (WPr.nilc (el := 141) false (Or.inl rfl) rfl rfl rfl rfl (by kernel_rfl) rfl rfl rfl (?_)))))))))
  intro nb hnb
  cases nb
  · refine WPr.silx [] ⟨[(0, .S 0), (2, .c .nil), (4, .O false)], [], [(0, .sl rR3 s_)], 1⟩ htt 0 (by kernel_rfl) (WPr.nil (WP.condF rfl rfl (WP.skip (WP.seq (WP.region (WPr.bs (cs := []) oO3 htt ([] : List T3) rfl rfl rfl rfl rfl rfl (by kernel_rfl) (by exact rfl) rfl (WPr.sil htt 1 rfl (?_))))))))
    obtain ⟨x1, hx1, h⟩ := ob h
    refine WPr.app htt hx1 (by exact (srcI rfl)) rfl rfl rfl rfl rfl rfl rfl rfl rfl rfl (WPr.silx [] ⟨[(2, .S 2)], [(2, .own rR3 x1 true)], [(0, .sl rR3 s_)], 3⟩ htt 1 (by kernel_rfl) (WPr.nil (?_)))
    cases h
    exact WP.ret htt Tryz.func116 [(1, .sl 2)] rfl rfl rfl rfl
  · obtain rfl := hnb rfl
    replace h : (some ([] : List T3) : Option (List T3)) = some r := h
    refine WPr.silx [] ⟨[(0, .S 0), (2, .c .nil), (4, .O true)], [], [(0, .sl rR3 ([] : List T3))], 1⟩ htt 0 (by kernel_rfl) (WPr.nil (WP.condT rfl rfl (WP.seq (WP.region (WPr.sil htt 1 rfl (WPr.nil (?_)))))))
    cases h
    exact WP.ret htt Tryz.func116 [(1, .nil)] rfl rfl rfl rfl
theorem z117_ct (N : Nat) (s_ : (List T1)) (r : (List T1)) (h : z117 N s_ = some r) :
  Fn Tryz.prog 117 ⟨1, [.S 0], [(0, .sl rR1 s_)], [], 2, .S 1, [], [(1, .own rR1 r true)]⟩ := by
  refine Fn.intro _ _ Tryz.func117 rfl (by kernel_rfl) rfl (fun E F w => ?_)
  unfold z117 at h
  refine WP.seq (WP.region (WPr.sil htt 1 rfl (WPr.nil (WP.seq (WP.seq (WP.region (WPr.sil htt 1 rfl (WPr.nilc (el := 144) false (Or.inl rfl) rfl rfl rfl rfl (by kernel_rfl) rfl rfl rfl (?_)))))))))
  intro nb hnb
  cases nb
  · refine WPr.silx [] ⟨[(0, .S 0), (2, .c .nil), (4, .O false)], [], [(0, .sl rR1 s_)], 1⟩ htt 0 (by kernel_rfl) (WPr.nil (WP.condF rfl rfl (WP.skip (WP.seq (WP.region (WPr.bs (cs := []) oO1 htt ([] : List T1) rfl rfl rfl rfl rfl rfl (by kernel_rfl) (by exact rfl) rfl (WPr.sil htt 1 rfl (?_))))))))
    obtain ⟨x1, hx1, h⟩ := ob h
    refine WPr.app htt hx1 (by exact (srcI rfl)) rfl rfl rfl rfl rfl rfl rfl rfl rfl rfl (WPr.silx [] ⟨[(2, .S 2)], [(2, .own rR1 x1 true)], [(0, .sl rR1 s_)], 3⟩ htt 1 (by kernel_rfl) (WPr.nil (?_)))
    cases h
    exact WP.ret htt Tryz.func117 [(1, .sl 2)] rfl rfl rfl rfl
  · obtain rfl := hnb rfl
    replace h : (some ([] : List T1) : Option (List T1)) = some r := h
    refine WPr.silx [] ⟨[(0, .S 0), (2, .c .nil), (4, .O true)], [], [(0, .sl rR1 ([] : List T1))], 1⟩ htt 0 (by kernel_rfl) (WPr.nil (WP.condT rfl rfl (WP.seq (WP.region (WPr.sil htt 1 rfl (WPr.nil (?_)))))))
    cases h
    exact WP.ret htt Tryz.func117 [(1, .nil)] rfl rfl rfl rfl
theorem z118_ct (N : Nat) (s_ : (List (Int × Int))) (r : (List (Int × Int))) (h : z118 N s_ = some r) :
  Fn Tryz.prog 118 ⟨1, [.S 0], [(0, .sl (rP (rI .i64) (rI .i64)) s_)], [], 2, .S 1, [], [(1, .own (rP (rI .i64) (rI .i64)) r true)]⟩ := by
  refine Fn.intro _ _ Tryz.func118 rfl (by kernel_rfl) rfl (fun E F w => ?_)
  unfold z118 at h
  refine WP.seq (WP.region (WPr.sil htt 1 rfl (WPr.nil (WP.seq (WP.seq (WP.region (WPr.sil htt 1 rfl (WPr.nilc (el := 146) false (Or.inl rfl) rfl rfl rfl rfl (by kernel_rfl) rfl rfl rfl (?_)))))))))
  intro nb hnb
  cases nb
  · refine WPr.silx [] ⟨[(0, .S 0), (2, .c .nil), (4, .O false)], [], [(0, .sl (rP (rI .i64) (rI .i64)) s_)], 1⟩ htt 0 (by kernel_rfl) (WPr.nil (WP.condF rfl rfl (WP.skip (WP.seq (WP.region (WPr.bs (cs := []) (oP (oI .i64) (oI .i64)) htt ([] : List (Int × Int)) rfl rfl rfl rfl rfl rfl (by kernel_rfl) (by exact rfl) rfl (WPr.sil htt 1 rfl (?_))))))))
    obtain ⟨x1, hx1, h⟩ := ob h
    refine WPr.app htt hx1 (by exact (srcI rfl)) rfl rfl rfl rfl rfl rfl rfl rfl rfl rfl (WPr.silx [] ⟨[(2, .S 2)], [(2, .own (rP (rI .i64) (rI .i64)) x1 true)], [(0, .sl (rP (rI .i64) (rI .i64)) s_)], 3⟩ htt 1 (by kernel_rfl) (WPr.nil (?_)))
    cases h
    exact WP.ret htt Tryz.func118 [(1, .sl 2)] rfl rfl rfl rfl
  · obtain rfl := hnb rfl
    replace h : (some ([] : List (Int × Int)) : Option (List (Int × Int))) = some r := h
    refine WPr.silx [] ⟨[(0, .S 0), (2, .c .nil), (4, .O true)], [], [(0, .sl (rP (rI .i64) (rI .i64)) ([] : List (Int × Int)))], 1⟩ htt 0 (by kernel_rfl) (WPr.nil (WP.condT rfl rfl (WP.seq (WP.region (WPr.sil htt 1 rfl (WPr.nil (?_)))))))
    cases h
    exact WP.ret htt Tryz.func118 [(1, .nil)] rfl rfl rfl rfl
theorem z60_18_ct (N : Nat) (t_ : T8) (c0_ : Int) (r : Bool) (h : z60_18 N t_ c0_ = some r) :
  Fn Tryz.prog 60 ⟨1, [.a (cC8 t_), .B 0 0], [], [(0, .box [.I c0_] 3)], 1, .O r, [], [(0, .box [.I c0_] 3)]⟩ := by
  refine Fn.intro _ _ Tryz.func60 rfl (by kernel_rfl) rfl (fun E F w => ?_)
  unfold z60_18 at h
  refine WP.seq (WP.region (WPr.sil htt 2 rfl (WPr.nil (WP.seq (WP.region (WPr.silx [] ⟨[(3, .O (t_.State == c0_))], [(0, .box [.I c0_] 3)], [], 2⟩ htt 5 (by kernel_rfl) (WPr.nil (?_))))))))
  cases h
  exact WP.ret htt Tryz.func60 [] rfl rfl rfl rfl
theorem z59_19_ct (N : Nat) (s_ : (List T8)) (c0_ : Int) (r : Int) (h : z59_19 N s_ c0_ = some r) :
  Fn Tryz.prog 59 ⟨2, [.S 0, .c (.cl 60 [] [1])], [(0, .sl rR8 s_)], [(1, .box [.I c0_] 3)], 2, .I r, [], [(1, .box [.I c0_] 3)]⟩ := by
  refine Fn.intro _ _ Tryz.func59 rfl (by kernel_rfl) rfl (fun E F w => ?_)
  unfold z59_19 at h
  refine WP.seq (WP.region (WPr.sil htt 1 rfl (WPr.nil (WP.seq (WP.seq (WP.region (WPr.silx [] ⟨[(0, .S 0), (1, .c (.cl 60 [] [1])), (4, .I (0 : Int)), (7, .I (s_.length : Int)), (8, .I (0 : Int))], [(1, .box [.I c0_] 3)], [(0, .sl rR8 s_)], 2⟩ htt 3 (by kernel_rfl) (WPr.nil (?_)))))))))
  refine WP.cut (σ := Unit) (fun st => ⟨[], [(1, .box [.I c0_] 3)], [(0, .sl rR8 s_)], 2⟩) (fun st => z59_19_k1 = some r) ?_ (fun j1 => ?_)
  · intro _ h
    replace h : z59_19_k1 = some r := h
    unfold z59_19_k1 at h
    refine WP.seq (WP.region (WPr.sil htt 1 rfl (WPr.nil (?_))))
    cases h
    exact WP.ret htt Tryz.func59 [] rfl rfl rfl rfl
  refine WP.block (?_)
  refine WP.loopI (σ := Int) (fun st => ⟨[(0, .S 0), (1, .c (.cl 60 [] [1])), (7, .I (s_.length : Int)), (8, .I st)], [(1, .box [.I c0_] 3)], [(0, .sl rR8 s_)], 2⟩) (fun n st => z59_19_l2 N s_ c0_ n st) (r := r) (fun _ => rfl) ?_ (fun ih => ?_)
  · intro n2 ih3
    intro v8_3 h
    replace h : z59_19_l2 N s_ c0_ (n2 + 1) v8_3 = some r := h
    unfold z59_19_l2 at h
    refine WP.seq (WP.region (WPr.sil htt 1 rfl (WPr.nil (WP.seq (?_)))))
    rcases oc' h with ⟨hc, h⟩ | ⟨hc, h⟩
    · exact WP.condF hc rfl (WP.exit rfl (WP.sub [] (j1 () h) rfl rfl rfl rfl))
    refine WP.condT hc rfl (WP.skip (WP.seq (WP.block (WP.seq (WP.region (WPr.silx [] ⟨[(0, .S 0), (1, .c (.cl 60 [] [1])), (5, .I v8_3), (7, .I (s_.length : Int)), (8, .I v8_3)], [(1, .box [.I c0_] 3)], [(0, .sl rR8 s_)], 2⟩ htt 2 (by kernel_rfl) (WPr.nil (WP.seq (WP.region (WPr.silx [3, 4, 5] ⟨[(0, .S 0), (1, .c (.cl 60 [] [1])), (5, .I v8_3), (7, .I (s_.length : Int)), (8, .I v8_3), (11, .c (.cl 60 [] [1])), (12, .S 0), (13, .I v8_3)], [(1, .box [.I c0_] 3)], [(0, .sl rR8 s_)], 2⟩ htt 3 (by kernel_rfl) (?_)))))))))))
    obtain ⟨x17, hx17, h⟩ := ob h
    refine WPr.ix oO8 htt hx17 rfl rfl rfl rfl rfl rfl rfl rfl rfl (WPr.sil htt 1 rfl (?_))
    obtain ⟨x18, hx18, h⟩ := ob h
    refine WPr.callc (z60_18_ct N x17 c0_ _ hx18) [(0, .bp 1 0)] [] rfl rfl rfl rfl rfl rfl rfl rfl rfl (.inl rfl) rfl (WPr.silx [] ⟨[(0, .S 0), (1, .c (.cl 60 [] [1])), (5, .I v8_3), (7, .I (s_.length : Int)), (8, .I v8_3), (16, .O x18)], [(1, .box [.I c0_] 3)], [(0, .sl rR8 s_)], 3⟩ htt 0 (by kernel_rfl) (WPr.nil (?_)))
    rcases oc h with ⟨hc, h⟩ | ⟨hc, h⟩
    · refine WP.condT hc rfl (WP.seq (WP.region (WPr.sil htt 2 rfl (WPr.nil (?_)))))
      cases h
      exact WP.ret htt Tryz.func59 [] rfl rfl rfl rfl
    exact WP.condF hc rfl (WP.skip (WP.inBlock (WP.region (WPr.sil htt 2 rfl (WPr.nil (WP.sub [] (ih3 (w64 (v8_3 + (1 : Int))) h) rfl rfl rfl rfl))))))
  exact WP.sub [] (ih N (0 : Int) h) rfl rfl rfl rfl
end Gx
end
