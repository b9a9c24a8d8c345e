/- Each function of the statement computes what its plain definition says, part 4. -/
import Derived.Test.YtenajajnbmfijaaGreatDoorGlobalTurnedWalk3
set_option linter.all false
section
set_option maxRecDepth 10000
set_option maxHeartbeats 4000000
open Go Go.Kx Go.Proofs
namespace Gx
theorem law18_GlobalTurned_ct (N : Nat) (g_ : T4) (by_ : Int) (order_ : Int) (r : Bool) (h : law18_GlobalTurned N g_ by_ order_ = some r) :
 Fn Tryz.prog 4 ⟨4, [.a (cC4 0 1 2 3 g_), .c (.i .u8 by_), .c (.i .u8 order_)], (vV4 0 1 2 3 g_ []), [], 4, .O r, [], []⟩ := by
 refine Fn.intro _ _ Tryz.func4 rfl (by kernel_rfl) rfl (fun E F w => ?_)
 unfold law18_GlobalTurned at h
 refine wq (wg (ws J 2 Q (wn (wq (wq (wg ?_))))))
 obtain ⟨x1, d, h⟩ := ob h
 refine wc (z12_ct N _ d) [] [] Q Q Q Q Q Q Q Q (.inl rfl) rfl (xw (rg 3 9) ⟨[(1, .c (.i .u8 by_)), (2, .c (.i .u8 order_)), (3, .B 4 0), (6, .O false), (16, .O (!x1))], [(4, .box (cC4 0 1 2 3 g_) 27)], (vV4 0 1 2 3 g_ []), 5⟩ J 2 ?_)
 rcases oc h with ⟨hc, h⟩ | ⟨hc, h⟩
 ·refine wy 16 hc Q (wx ⟨[(1, .c (.i .u8 by_)), (2, .c (.i .u8 order_)), (3, .B 4 0), (6, .O false), (25, .O true)], [(4, .box (cC4 0 1 2 3 g_) 27)], (vV4 0 1 2 3 g_ []), 5⟩ J 9 (wn (wt Q Q (wq (wg ?_)))))
  obtain ⟨x2, e, h⟩ := ob h
  refine wc (z12_ct N _ e) [] [] Q Q Q Q Q Q Q Q (.inl rfl) rfl (wx ⟨[(6, .O x2)], [], (vV4 0 1 2 3 g_ []), 5⟩ J 1 (wn ?_))
  cases h
  exact we J Tryz.func4 [] Q Q Q Q
 refine wy 16 hc Q (ws J 1 Q ?_)
 obtain ⟨x3, f, h⟩ := ob h
 refine wc (z13_ct N g_ _ f) [(0, .sl 0), (1, .sl 1), (2, .sl 2), (3, .sl 3)] [] Q Q Q Q Q Q Q Q (.inl rfl) rfl (xw [8, 9, 10, 11] ⟨[(1, .c (.i .u8 by_)), (2, .c (.i .u8 order_)), (3, .B 4 0), (6, .O false), (21, .O (!x3))], [(4, .box (cC4 0 1 2 3 g_) 27)], (vV4 0 1 2 3 g_ []), 5⟩ J 3 ?_)
 rcases oc h with ⟨hc, h⟩ | ⟨hc, h⟩
 ·refine wy 21 hc Q (wx ⟨[(1, .c (.i .u8 by_)), (2, .c (.i .u8 order_)), (3, .B 4 0), (6, .O false), (25, .O true)], [(4, .box (cC4 0 1 2 3 g_) 27)], (vV4 0 1 2 3 g_ []), 5⟩ J 4 (wn (wt Q Q (wq (wg ?_)))))
  obtain ⟨x4, g, h⟩ := ob h
  refine wc (z12_ct N _ g) [] [] Q Q Q Q Q Q Q Q (.inl rfl) rfl (wx ⟨[(6, .O x4)], [], (vV4 0 1 2 3 g_ []), 5⟩ J 1 (wn ?_))
  cases h
  exact we J Tryz.func4 [] Q Q Q Q
 refine wy 21 hc Q (ws J 1 Q ?_)
 obtain ⟨x5, j, h⟩ := ob h
 refine wc (z19_ct N g_ _ j) [(0, .sl 0), (1, .sl 1), (2, .sl 2), (3, .sl 3)] [] Q Q Q Q Q Q Q Q (.inl rfl) rfl (wx ⟨[(1, .c (.i .u8 by_)), (2, .c (.i .u8 order_)), (3, .B 4 0), (6, .O false), (25, .O (!x5))], [(4, .box (cC4 0 1 2 3 g_) 27)], (vV4 0 1 2 3 g_ []), 5⟩ J 2 (wn ?_))
 rcases oc h with ⟨hc, h⟩ | ⟨hc, h⟩
 ·refine wt hc Q (wq (wg ?_))
  obtain ⟨x6, k, h⟩ := ob h
  refine wc (z12_ct N _ k) [] [] Q Q Q Q Q Q Q Q (.inl rfl) rfl (wx ⟨[(6, .O x6)], [], (vV4 0 1 2 3 g_ []), 5⟩ J 1 (wn ?_))
  cases h
  exact we J Tryz.func4 [] Q Q Q Q
 refine wf hc Q (wi (wq (wg (xw [3, 4, 5] ⟨[(3, .B 4 0), (6, .O false), (27, .a (cC4 0 1 2 3 g_)), (28, .c (.i .u8 by_)), (29, .c (.i .u8 order_))], [(4, .box (cC4 0 1 2 3 g_) 27)], (vV4 0 1 2 3 g_ []), 5⟩ J 3 ?_))))
 obtain ⟨x7, l, h⟩ := ob h
 refine wc (z20_ct N g_ by_ order_ _ l) [(0, .sl 0), (1, .sl 1), (2, .sl 2), (3, .sl 3)] [] Q Q Q Q Q Q Q Q (.inl rfl) rfl (wx ⟨[(3, .B 4 0), (6, .O false), (7, .B 9 0)], [(4, .box (cC4 0 1 2 3 g_) 27), (9, .box (cC4 5 6 7 8 x7) 27)], (vV4 0 1 2 3 g_ (vV4 5 6 7 8 x7 [])), 10⟩ J 2 (wn (wq (wg (ws J 1 Q ?_)))))
 obtain ⟨x8, m, h⟩ := ob h
 refine wc (z21_ct N g_ _ m) [(0, .sl 0), (1, .sl 1), (2, .sl 2), (3, .sl 3)] [] Q Q Q Q Q Q Q Q (.inl rfl) rfl (wx ⟨[(3, .B 4 0), (6, .O false), (7, .B 9 0), (8, .B 14 0), (9, .I x8.2)], [(4, .box (cC4 0 1 2 3 g_) 27), (9, .box (cC4 5 6 7 8 x7) 27), (14, .box (cC4 10 11 12 13 x8.1) 27)], (vV4 0 1 2 3 g_ (vV4 5 6 7 8 x7 (vV4 10 11 12 13 x8.1 []))), 15⟩ J 6 (wn (wq (wg (ws J 1 Q ?_)))))
 obtain ⟨x9, o, h⟩ := ob h
 refine wc (z21_ct N x7 _ o) [(0, .sl 5), (1, .sl 6), (2, .sl 7), (3, .sl 8)] [] Q Q Q Q Q Q Q Q (.inl rfl) rfl (wx ⟨[(3, .B 4 0), (6, .O false), (7, .B 9 0), (8, .B 14 0), (9, .I x8.2), (10, .B 19 0), (11, .I x9.2)], [(4, .box (cC4 0 1 2 3 g_) 27), (9, .box (cC4 5 6 7 8 x7) 27), (14, .box (cC4 10 11 12 13 x8.1) 27), (19, .box (cC4 15 16 17 18 x9.1) 27)], (vV4 0 1 2 3 g_ (vV4 5 6 7 8 x7 (vV4 10 11 12 13 x8.1 (vV4 15 16 17 18 x9.1 [])))), 20⟩ J 6 (wn (wq (wg (ws J 1 Q ?_)))))
 obtain ⟨p, q, h⟩ := ob h
 refine wc (z21_ct N x8.1 _ q) [(0, .sl 10), (1, .sl 11), (2, .sl 12), (3, .sl 13)] [] Q Q Q Q Q Q Q Q (.inl rfl) rfl (wx ⟨[(3, .B 4 0), (6, .O false), (7, .B 9 0), (8, .B 14 0), (9, .I x8.2), (10, .B 19 0), (11, .I x9.2), (12, .B 24 0), (13, .I p.2)], [(4, .box (cC4 0 1 2 3 g_) 27), (9, .box (cC4 5 6 7 8 x7) 27), (14, .box (cC4 10 11 12 13 x8.1) 27), (19, .box (cC4 15 16 17 18 x9.1) 27), (24, .box (cC4 20 21 22 23 p.1) 27)], (vV4 0 1 2 3 g_ (vV4 5 6 7 8 x7 (vV4 10 11 12 13 x8.1 (vV4 15 16 17 18 x9.1 (vV4 20 21 22 23 p.1 []))))), 25⟩ J 6 (wn (wq (wQ (by kernel_rfl) (by kernel_rfl) (WPq.sil J 1 rfl ?_)))))
 obtain ⟨s, t, h⟩ := ob h
 refine qc (z22_ct N x7 _ t) [(0, .sl 5), (1, .sl 6), (2, .sl 7), (3, .sl 8)] [] Q Q Q Q Q Q Q Q Q Q Q Q (xq (rg 3 29) ⟨[(3, .B 4 0), (7, .B 9 0), (8, .B 14 0), (9, .I x8.2), (10, .B 19 0), (11, .I x9.2), (12, .B 24 0), (13, .I p.2), (48, .O s)], [(4, .box (cC4 0 1 2 3 g_) 27), (9, .box (cC4 5 6 7 8 x7) 27), (14, .box (cC4 10 11 12 13 x8.1) 27), (19, .box (cC4 15 16 17 18 x9.1) 27), (24, .box (cC4 20 21 22 23 p.1) 27)], (vV4 0 1 2 3 g_ (vV4 5 6 7 8 x7 (vV4 10 11 12 13 x8.1 (vV4 15 16 17 18 x9.1 (vV4 20 21 22 23 p.1 []))))), 25⟩ J 1 ?_)
 rcases oc' h with ⟨hc, h⟩ | ⟨hc, h⟩
 ·refine qy 48 hc Q (qx ⟨[(6, .O false)], [], (vV4 0 1 2 3 g_ []), 25⟩ J 29 (qn ?_))
  cases h
  exact we J Tryz.func4 [] Q Q Q Q
 refine qy 48 hc Q (xq (rg 7 25) ⟨[(3, .B 4 0), (7, .B 9 0), (8, .B 14 0), (10, .B 19 0), (11, .I x9.2), (12, .B 24 0), (13, .I p.2), (52, .O (x8.2 == 0))], [(4, .box (cC4 0 1 2 3 g_) 27), (9, .box (cC4 5 6 7 8 x7) 27), (14, .box (cC4 10 11 12 13 x8.1) 27), (19, .box (cC4 15 16 17 18 x9.1) 27), (24, .box (cC4 20 21 22 23 p.1) 27)], (vV4 0 1 2 3 g_ (vV4 5 6 7 8 x7 (vV4 10 11 12 13 x8.1 (vV4 15 16 17 18 x9.1 (vV4 20 21 22 23 p.1 []))))), 25⟩ J 4 ?_)
 rcases oc' h with ⟨hc, h⟩ | ⟨hc, h⟩
 ·refine qy 52 hc Q (qx ⟨[(6, .O false)], [], (vV4 0 1 2 3 g_ []), 25⟩ J 25 (qn ?_))
  cases h
  exact we J Tryz.func4 [] Q Q Q Q
 refine qy 52 hc Q (xq (rg 11 21) ⟨[(3, .B 4 0), (7, .B 9 0), (8, .B 14 0), (10, .B 19 0), (12, .B 24 0), (13, .I p.2), (56, .O (x9.2 == 0))], [(4, .box (cC4 0 1 2 3 g_) 27), (9, .box (cC4 5 6 7 8 x7) 27), (14, .box (cC4 10 11 12 13 x8.1) 27), (19, .box (cC4 15 16 17 18 x9.1) 27), (24, .box (cC4 20 21 22 23 p.1) 27)], (vV4 0 1 2 3 g_ (vV4 5 6 7 8 x7 (vV4 10 11 12 13 x8.1 (vV4 15 16 17 18 x9.1 (vV4 20 21 22 23 p.1 []))))), 25⟩ J 4 ?_)
 rcases oc' h with ⟨hc, h⟩ | ⟨hc, h⟩
 ·refine qy 56 hc Q (qx ⟨[(6, .O false)], [], (vV4 0 1 2 3 g_ []), 25⟩ J 21 (qn ?_))
  cases h
  exact we J Tryz.func4 [] Q Q Q Q
 refine qy 56 hc Q (xq (rg 15 17) ⟨[(3, .B 4 0), (7, .B 9 0), (8, .B 14 0), (10, .B 19 0), (12, .B 24 0), (60, .O (p.2 == 0))], [(4, .box (cC4 0 1 2 3 g_) 27), (9, .box (cC4 5 6 7 8 x7) 27), (14, .box (cC4 10 11 12 13 x8.1) 27), (19, .box (cC4 15 16 17 18 x9.1) 27), (24, .box (cC4 20 21 22 23 p.1) 27)], (vV4 0 1 2 3 g_ (vV4 5 6 7 8 x7 (vV4 10 11 12 13 x8.1 (vV4 15 16 17 18 x9.1 (vV4 20 21 22 23 p.1 []))))), 25⟩ J 4 ?_)
 rcases oc' h with ⟨hc, h⟩ | ⟨hc, h⟩
 ·refine qy 60 hc Q (qx ⟨[(6, .O false)], [], (vV4 0 1 2 3 g_ []), 25⟩ J 17 (qn ?_))
  cases h
  exact we J Tryz.func4 [] Q Q Q Q
 refine qy 60 hc Q (WPq.sil J 2 rfl ?_)
 obtain ⟨u, v, h⟩ := ob h
 refine qc (z23_ct N x8.1 x9.1 _ v) [(0, .sl 10), (1, .sl 11), (2, .sl 12), (3, .sl 13), (4, .sl 15), (5, .sl 16), (6, .sl 17), (7, .sl 18)] [] Q Q Q Q Q Q Q Q Q Q Q Q (xq (rg 20 12) ⟨[(3, .B 4 0), (7, .B 9 0), (8, .B 14 0), (12, .B 24 0), (65, .O u)], [(4, .box (cC4 0 1 2 3 g_) 27), (9, .box (cC4 5 6 7 8 x7) 27), (14, .box (cC4 10 11 12 13 x8.1) 27), (24, .box (cC4 20 21 22 23 p.1) 27)], (vV4 0 1 2 3 g_ (vV4 5 6 7 8 x7 (vV4 10 11 12 13 x8.1 (vV4 20 21 22 23 p.1 [])))), 25⟩ J 2 ?_)
 rcases oc' h with ⟨hc, h⟩ | ⟨hc, h⟩
 ·refine qy 65 hc Q (qx ⟨[(6, .O false)], [], (vV4 0 1 2 3 g_ []), 25⟩ J 12 (qn ?_))
  cases h
  exact we J Tryz.func4 [] Q Q Q Q
 refine qy 65 hc Q (WPq.sil J 2 rfl ?_)
 obtain ⟨x, y, h⟩ := ob h
 refine qc (z23_ct N p.1 x8.1 _ y) [(0, .sl 20), (1, .sl 21), (2, .sl 22), (3, .sl 23), (4, .sl 10), (5, .sl 11), (6, .sl 12), (7, .sl 13)] [] Q Q Q Q Q Q Q Q Q Q Q Q (xq (rg 25 7) ⟨[(3, .B 4 0), (7, .B 9 0), (70, .O x)], [(4, .box (cC4 0 1 2 3 g_) 27), (9, .box (cC4 5 6 7 8 x7) 27)], (vV4 0 1 2 3 g_ (vV4 5 6 7 8 x7 [])), 25⟩ J 2 ?_)
 rcases oc' h with ⟨hc, h⟩ | ⟨hc, h⟩
 ·refine qy 70 hc Q (qx ⟨[(6, .O false)], [], (vV4 0 1 2 3 g_ []), 25⟩ J 7 (qn ?_))
  cases h
  exact we J Tryz.func4 [] Q Q Q Q
 refine qy 70 hc Q (WPq.sil J 1 rfl ?_)
 obtain ⟨z, A, h⟩ := ob h
 refine qc (z24_ct N g_ _ A) [(0, .sl 0), (1, .sl 1), (2, .sl 2), (3, .sl 3)] [] Q Q Q Q Q Q Q Q Q Q Q Q (xq [28, 29, 30, 31] ⟨[(70, .O true), (72, .c (.i .u64 z)), (73, .a (cC4 5 6 7 8 x7))], [], (vV4 0 1 2 3 g_ (vV4 5 6 7 8 x7 [])), 25⟩ J 1 ?_)
 obtain ⟨C, D, h⟩ := ob h
 refine qc (z24_ct N x7 _ D) [(0, .sl 5), (1, .sl 6), (2, .sl 7), (3, .sl 8)] [] Q Q Q Q Q Q Q Q Q Q Q Q (qx ⟨[(6, .O (z == C))], [], (vV4 0 1 2 3 g_ []), 25⟩ J 3 (qn ?_))
 cases h
 exact we J Tryz.func4 [] Q Q Q Q
end Gx
end
