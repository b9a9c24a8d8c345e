/- Each function of the statement computes what its plain definition says, part 4. -/
import Derived.Test.YtenajajnbmfijaaGreatDoorGlobalValidWalk3
set_option linter.all false
section
set_option linter.unusedVariables false
set_option maxRecDepth 10000
set_option maxHeartbeats 4000000
open Go Go.Kx Go.Proofs
namespace Gx
theorem z27_ct (N : Nat) (a_ : (List Int)) (b_ : (List Int)) (r : Bool) (h : z27 N a_ b_ = some r) :
 Fn Tryz.prog 27 ⟨2, [.S 0, .S 1], [(0, .sl (rI .i64) a_), (1, .sl (rI .i64) b_)], [], 2, .O r, [], []⟩ := by
 refine Fn.intro _ _ Tryz.func27 rfl (by kernel_rfl) rfl (fun E F w => ?_)
 unfold z27 at h
 refine wq (wg (ws htt 1 rfl (wn (wq (wq (wg (wx [] ⟨[(0, .S 0), (1, .S 1), (4, .O false), (10, .O ((a_.length : Int) != (b_.length : Int)))], [], [(0, .sl (rI .i64) a_), (1, .sl (rI .i64) b_)], 2⟩ htt 5 (by kernel_rfl) (wn (?_)))))))))
 rcases oc h with ⟨hc, h⟩ | ⟨hc, h⟩
 ·refine wt hc rfl (wq (wg (ws htt 1 rfl (wn (?_)))))
  cases h
  exact we htt Tryz.func27 [] rfl rfl rfl rfl
 refine wf hc rfl (wi (wq (wq (wg (ws htt 1 rfl (wn (?_)))))))
 refine wC (σ := Unit) (fun st => ⟨[], [], [(0, .sl (rI .i64) a_), (1, .sl (rI .i64) b_)], 2⟩) (fun st => z27_k1 = some r) ?_ (fun j1 => ?_)
 ·intro _ h
  replace h : z27_k1 = some r := h
  unfold z27_k1 at h
  refine wq (wg (ws htt 1 rfl (wn (?_))))
  cases h
  exact we htt Tryz.func27 [] rfl rfl rfl rfl
 refine wo (?_)
 refine wI (σ := Int) (fun st => ⟨[(0, .S 0), (1, .S 1), (5, .I st)], [], [(0, .sl (rI .i64) a_), (1, .sl (rI .i64) b_)], 2⟩) (fun n st => z27_l2 a_ b_ n st) (r := r) (fun _ => rfl) ?_ (fun ih => ?_)
 ·intro n2 ih3
  intro c h
  replace h : z27_l2 a_ b_ (n2 + 1) c = some r := h
  unfold z27_l2 at h
  refine wq (wq (wg (wx [] ⟨[(0, .S 0), (1, .S 1), (5, .I c), (14, .O (decide (c < (a_.length : Int))))], [], [(0, .sl (rI .i64) a_), (1, .sl (rI .i64) b_)], 2⟩ htt 4 (by kernel_rfl) (wn (?_)))))
  rcases oc' h with ⟨hc, h⟩ | ⟨hc, h⟩
  ·exact wf hc rfl (wz rfl (wu [] (j1 () h) rfl rfl rfl rfl))
  refine wt hc rfl (wi (wq (wo (wq (wQ (by kernel_rfl) (by kernel_rfl) (WPq.sil htt 2 rfl (?_)))))))
  obtain ⟨d, e, h⟩ := ob h
  refine WPq.op rfl rfl (VN.vs (VN.ix (oI .i64) htt e rfl rfl rfl rfl rfl rfl rfl)) (qx [6, 7, 8] ⟨[(0, .S 0), (1, .S 1), (5, .I c), (20, .I d), (21, .S 1), (22, .I c)], [], [(0, .sl (rI .i64) a_), (1, .sl (rI .i64) b_)], 3⟩ htt 3 (by kernel_rfl) (?_))
  obtain ⟨f, g, h⟩ := ob h
  refine WPq.op rfl rfl (VN.vs (VN.ix (oI .i64) htt g rfl rfl rfl rfl rfl rfl rfl)) (qx [] ⟨[(0, .S 0), (1, .S 1), (5, .I c), (25, .O (d != f))], [], [(0, .sl (rI .i64) a_), (1, .sl (rI .i64) b_)], 4⟩ htt 2 (by kernel_rfl) (qn (?_)))
  rcases oc h with ⟨hc, h⟩ | ⟨hc, h⟩
  ·refine wt hc rfl (wq (wg (ws htt 1 rfl (wn (?_)))))
   cases h
   exact we htt Tryz.func27 [] rfl rfl rfl rfl
  exact wf hc rfl (wi (wb (wg (wx [] ⟨[(0, .S 0), (1, .S 1), (5, .I (w64 (c + 1)))], [], [(0, .sl (rI .i64) a_), (1, .sl (rI .i64) b_)], 4⟩ htt 3 (by kernel_rfl) (wn (wu [] (ih3 (w64 (c + 1)) h) rfl rfl rfl rfl))))))
 exact wu [] (ih N 0 h) rfl rfl rfl rfl
theorem z128_ct (N : Nat) (a_ : (List T1)) (b_ : (List T1)) (r : Bool) (h : z128 N a_ b_ = some r) :
 Fn Tryz.prog 128 ⟨2, [.S 0, .S 1], [(0, .sl rR1 a_), (1, .sl rR1 b_)], [], 2, .O r, [], []⟩ := by
 refine Fn.intro _ _ Tryz.func128 rfl (by kernel_rfl) rfl (fun E F w => ?_)
 unfold z128 at h
 refine wq (wg (ws htt 1 rfl (wn (wq (wq (wg (wx [] ⟨[(0, .S 0), (1, .S 1), (4, .O false), (10, .O ((a_.length : Int) != (b_.length : Int)))], [], [(0, .sl rR1 a_), (1, .sl rR1 b_)], 2⟩ htt 5 (by kernel_rfl) (wn (?_)))))))))
 rcases oc h with ⟨hc, h⟩ | ⟨hc, h⟩
 ·refine wt hc rfl (wq (wg (ws htt 1 rfl (wn (?_)))))
  cases h
  exact we htt Tryz.func128 [] rfl rfl rfl rfl
 refine wf hc rfl (wi (wq (wq (wg (ws htt 1 rfl (wn (?_)))))))
 refine wC (σ := Unit) (fun st => ⟨[], [], [(0, .sl rR1 a_), (1, .sl rR1 b_)], 2⟩) (fun st => z128_k1 = some r) ?_ (fun j1 => ?_)
 ·intro _ h
  replace h : z128_k1 = some r := h
  unfold z128_k1 at h
  refine wq (wg (ws htt 1 rfl (wn (?_))))
  cases h
  exact we htt Tryz.func128 [] rfl rfl rfl rfl
 refine wo (?_)
 refine wI (σ := Int) (fun st => ⟨[(0, .S 0), (1, .S 1), (5, .I st)], [], [(0, .sl rR1 a_), (1, .sl rR1 b_)], 2⟩) (fun n st => z128_l2 a_ b_ n st) (r := r) (fun _ => rfl) ?_ (fun ih => ?_)
 ·intro n2 ih3
  intro c h
  replace h : z128_l2 a_ b_ (n2 + 1) c = some r := h
  unfold z128_l2 at h
  refine wq (wq (wg (wx [] ⟨[(0, .S 0), (1, .S 1), (5, .I c), (14, .O (decide (c < (a_.length : Int))))], [], [(0, .sl rR1 a_), (1, .sl rR1 b_)], 2⟩ htt 4 (by kernel_rfl) (wn (?_)))))
  rcases oc' h with ⟨hc, h⟩ | ⟨hc, h⟩
  ·exact wf hc rfl (wz rfl (wu [] (j1 () h) rfl rfl rfl rfl))
  refine wt hc rfl (wi (wq (wo (wq (wQ (by kernel_rfl) (by kernel_rfl) (WPq.sil htt 2 rfl (?_)))))))
  obtain ⟨d, e, h⟩ := ob h
  refine WPq.op rfl rfl (VN.vs (VN.ix oO1 htt e rfl rfl rfl rfl rfl rfl rfl)) (qx [6, 7, 8] ⟨[(0, .S 0), (1, .S 1), (5, .I c), (20, .a (cC1 d)), (21, .S 1), (22, .I c)], [], [(0, .sl rR1 a_), (1, .sl rR1 b_)], 3⟩ htt 3 (by kernel_rfl) (?_))
  obtain ⟨f, g, h⟩ := ob h
  refine WPq.op rfl rfl (VN.vs (VN.ix oO1 htt g rfl rfl rfl rfl rfl rfl rfl)) (WPq.sil htt 1 rfl (WPq.op rfl rfl (VN.vs (VN.eqa (neg := true) (equal_run (b := ((d.X == f.X) && ((d.Y == f.Y) && ((d.C == f.C) && true)))) (by kernel_rfl) (by kernel_rfl)) (by kernel_rfl) rfl rfl rfl rfl rfl)) (qx [] ⟨[(0, .S 0), (1, .S 1), (5, .I c), (25, .O (!((d.X == f.X) && ((d.Y == f.Y) && ((d.C == f.C) && true)))))], [], [(0, .sl rR1 a_), (1, .sl rR1 b_)], 4⟩ htt 0 (by kernel_rfl) (qn (?_)))))
  rcases oc h with ⟨hc, h⟩ | ⟨hc, h⟩
  ·refine wt hc rfl (wq (wg (ws htt 1 rfl (wn (?_)))))
   cases h
   exact we htt Tryz.func128 [] rfl rfl rfl rfl
  exact wf hc rfl (wi (wb (wg (wx [] ⟨[(0, .S 0), (1, .S 1), (5, .I (w64 (c + 1)))], [], [(0, .sl rR1 a_), (1, .sl rR1 b_)], 4⟩ htt 3 (by kernel_rfl) (wn (wu [] (ih3 (w64 (c + 1)) h) rfl rfl rfl rfl))))))
 exact wu [] (ih N 0 h) rfl rfl rfl rfl
theorem z79_ct (N : Nat) (a_ : (List T0)) (b_ : (List T0)) (r : Bool) (h : z79 N a_ b_ = some r) :
 Fn Tryz.prog 79 ⟨2, [.S 0, .S 1], [(0, .sl rR0 a_), (1, .sl rR0 b_)], [], 2, .O r, [], []⟩ := by
 refine Fn.intro _ _ Tryz.func79 rfl (by kernel_rfl) rfl (fun E F w => ?_)
 unfold z79 at h
 refine wq (wg (ws htt 1 rfl (wn (wq (wq (wg (wx [] ⟨[(0, .S 0), (1, .S 1), (4, .O false), (14, .O ((a_.length : Int) != (b_.length : Int)))], [], [(0, .sl rR0 a_), (1, .sl rR0 b_)], 2⟩ htt 5 (by kernel_rfl) (wn (?_)))))))))
 rcases oc h with ⟨hc, h⟩ | ⟨hc, h⟩
 ·refine wt hc rfl (wq (wg (ws htt 1 rfl (wn (?_)))))
  cases h
  exact we htt Tryz.func79 [] rfl rfl rfl rfl
 refine wf hc rfl (wi (wq (wq (wg (ws htt 1 rfl (wn (?_)))))))
 refine wC (σ := Unit) (fun st => ⟨[], [], [(0, .sl rR0 a_), (1, .sl rR0 b_)], 2⟩) (fun st => z79_k1 = some r) ?_ (fun j1 => ?_)
 ·intro _ h
  replace h : z79_k1 = some r := h
  unfold z79_k1 at h
  refine wq (wg (ws htt 1 rfl (wn (?_))))
  cases h
  exact we htt Tryz.func79 [] rfl rfl rfl rfl
 refine wo (?_)
 refine wI (σ := Int) (fun st => ⟨[(0, .S 0), (1, .S 1), (5, .I st)], [], [(0, .sl rR0 a_), (1, .sl rR0 b_)], 2⟩) (fun n st => z79_l2 N a_ b_ n st) (r := r) (fun _ => rfl) ?_ (fun ih => ?_)
 ·intro n22 ih21
  intro c h
  replace h : z79_l2 N a_ b_ (n22 + 1) c = some r := h
  unfold z79_l2 at h
  refine wq (wq (wg (wx [] ⟨[(0, .S 0), (1, .S 1), (5, .I c), (18, .O (decide (c < (a_.length : Int))))], [], [(0, .sl rR0 a_), (1, .sl rR0 b_)], 2⟩ htt 4 (by kernel_rfl) (wn (?_)))))
  rcases oc' h with ⟨hc, h⟩ | ⟨hc, h⟩
  ·exact wf hc rfl (wz rfl (wu [] (j1 () h) rfl rfl rfl rfl))
  refine wt hc rfl (wi (wq (wo (wq (wN (fun A9 d e => ?_))))))
  have f : A9 0 ⟨[(0, .S 0)], [(0, .sl rR0 a_)], [], [], 2, [(21, .S 0)], [], [], 2⟩ := d _ _ (wl htt rfl rfl rfl rfl rfl rfl)
  have g : A9 1 ⟨[(5, .I c)], [], [], [], 2, [(22, .I c)], [], [], 2⟩ := d _ _ (wl htt rfl rfl rfl rfl rfl rfl)
  obtain ⟨i, j, h⟩ := ob h
  have l : A9 2 ⟨[(21, .S 0), (22, .I c)], [(0, .sl rR0 a_)], [], [], 2, [(23, .P 2 0)], ((2, .pl (cC0 3 4 5 i)) :: vV0 3 4 5 i []), [], 6⟩ := d _ _ (wO rfl rfl rfl (fun _ _ _ _ _ _ _ k => wj oO0 htt j rfl rfl rfl rfl rfl rfl rfl rfl rfl (k)) rfl)
  have m : A9 3 ⟨[(23, .P 2 0)], [(2, .pl (cC0 3 4 5 i))], [], [], 6, [(24, .a (cC0 3 4 5 i))], [], [], 6⟩ := d _ _ (wl htt rfl rfl rfl rfl rfl rfl)
  have o : A9 4 ⟨[(1, .S 1)], [(1, .sl rR0 b_)], [], [], 6, [(25, .S 1)], [], [], 6⟩ := d _ _ (wl htt rfl rfl rfl rfl rfl rfl)
  have p : A9 5 ⟨[(5, .I c)], [], [], [], 6, [(26, .I c)], [], [], 6⟩ := d _ _ (wl htt rfl rfl rfl rfl rfl rfl)
  obtain ⟨q, u, h⟩ := ob h
  have v : A9 6 ⟨[(25, .S 1), (26, .I c)], [(1, .sl rR0 b_)], [], [], 6, [(27, .P 6 0)], ((6, .pl (cC0 7 8 9 q)) :: vV0 7 8 9 q []), [], 10⟩ := d _ _ (wO rfl rfl rfl (fun _ _ _ _ _ _ _ k => wj oO0 htt u rfl rfl rfl rfl rfl rfl rfl rfl rfl (k)) rfl)
  have x : A9 7 ⟨[(27, .P 6 0)], [(6, .pl (cC0 7 8 9 q))], [], [], 10, [(28, .a (cC0 7 8 9 q))], [], [], 10⟩ := d _ _ (wl htt rfl rfl rfl rfl rfl rfl)
  have y : A9 8 ⟨[], [], [], [], 10, [(6, .B 10 0)], [], [(10, .box [.s (str []), .nil, .I 0, .nil, .nil] 94)], 11⟩ := d _ _ (wl htt rfl rfl rfl rfl rfl rfl)
  have z : A9 9 ⟨[], [], [], [], 11, [(7, .B 11 0)], [], [(11, .box [.s (str []), .nil, .I 0, .nil, .nil] 94)], 12⟩ := d _ _ (wl htt rfl rfl rfl rfl rfl rfl)
  have A : A9 10 ⟨[(6, .B 10 0), (24, .a (cC0 3 4 5 i))], (vV0 3 4 5 i []), [(10, .box [.s (str []), .nil, .I 0, .nil, .nil] 94)], [], 12, [], [], [(10, .box (cC0 3 4 5 i) 94)], 12⟩ := d _ _ (wl htt rfl rfl rfl rfl rfl rfl)
  have C : A9 11 ⟨[(7, .B 11 0), (28, .a (cC0 7 8 9 q))], (vV0 7 8 9 q []), [(11, .box [.s (str []), .nil, .I 0, .nil, .nil] 94)], [], 12, [], [], [(11, .box (cC0 7 8 9 q) 94)], 12⟩ := d _ _ (wl htt rfl rfl rfl rfl rfl rfl)
  refine wD (t := ⟨[(0, .S 0), (1, .S 1), (5, .I c), (6, .B 10 0), (7, .B 11 0)], [(10, .box (cC0 3 4 5 i) 94), (11, .box (cC0 7 8 9 q) 94)], ((0, .sl rR0 a_) :: (1, .sl rR0 b_) :: vV0 3 4 5 i (vV0 7 8 9 q [])), 12⟩) [0, 0, 3, 7, 0, 0, 48, 112, 0, 0, 783, 2047] (.cons (e _ _ f) (.cons (e _ _ g) (.cons (e _ _ l) (.cons (e _ _ m) (.cons (e _ _ o) (.cons (e _ _ p) (.cons (e _ _ v) (.cons (e _ _ x) (.cons (e _ _ y) (.cons (e _ _ z) (.cons (e _ _ A) (.cons (e _ _ C) .nil)))))))))))) (by kernel_rfl) (by kernel_rfl) (by kernel_rfl) (by kernel_rfl) (wq (wq (wg (wx (rg 6 36) ⟨[(0, .S 0), (1, .S 1), (5, .I c), (6, .B 10 0), (7, .B 11 0), (34, .O (!(i.Name.toList == q.Name.toList)))], [(10, .box (cC0 3 4 5 i) 94), (11, .box (cC0 7 8 9 q) 94)], ((0, .sl rR0 a_) :: (1, .sl rR0 b_) :: vV0 3 4 5 i (vV0 7 8 9 q [])), 12⟩ htt 6 (by kernel_rfl) (?_)))))
  rcases oc h with ⟨hc, h⟩ | ⟨hc, h⟩
  ·refine wy 34 hc rfl (wx [] ⟨[(0, .S 0), (1, .S 1), (5, .I c), (6, .B 10 0), (7, .B 11 0), (70, .O true)], [(10, .box (cC0 3 4 5 i) 94), (11, .box (cC0 7 8 9 q) 94)], ((0, .sl rR0 a_) :: (1, .sl rR0 b_) :: vV0 3 4 5 i (vV0 7 8 9 q [])), 12⟩ htt 36 (by kernel_rfl) (wn (wt rfl rfl (wq (wg (ws htt 1 rfl (wn (?_))))))))
   cases h
   exact we htt Tryz.func79 [] rfl rfl rfl rfl
  refine wy 34 hc rfl (wx (rg 13 29) ⟨[(0, .S 0), (1, .S 1), (5, .I c), (6, .B 10 0), (7, .B 11 0), (41, .O (i.First != q.First))], [(10, .box (cC0 3 4 5 i) 94), (11, .box (cC0 7 8 9 q) 94)], ((0, .sl rR0 a_) :: (1, .sl rR0 b_) :: vV0 3 4 5 i (vV0 7 8 9 q [])), 12⟩ htt 7 (by kernel_rfl) (?_))
  rcases oc h with ⟨hc, h⟩ | ⟨hc, h⟩
  ·refine wy 41 hc rfl (wx [] ⟨[(0, .S 0), (1, .S 1), (5, .I c), (6, .B 10 0), (7, .B 11 0), (70, .O true)], [(10, .box (cC0 3 4 5 i) 94), (11, .box (cC0 7 8 9 q) 94)], ((0, .sl rR0 a_) :: (1, .sl rR0 b_) :: vV0 3 4 5 i (vV0 7 8 9 q [])), 12⟩ htt 29 (by kernel_rfl) (wn (wt rfl rfl (wq (wg (ws htt 1 rfl (wn (?_))))))))
   cases h
   exact we htt Tryz.func79 [] rfl rfl rfl rfl
  refine wy 41 hc rfl (wx (rg 22 20) ⟨[(0, .S 0), (1, .S 1), (5, .I c), (6, .B 10 0), (7, .B 11 0), (50, .O ((i.Fields.length : Int) != (q.Fields.length : Int)))], [(10, .box (cC0 3 4 5 i) 94), (11, .box (cC0 7 8 9 q) 94)], ((0, .sl rR0 a_) :: (1, .sl rR0 b_) :: vV0 3 4 5 i (vV0 7 8 9 q [])), 12⟩ htt 9 (by kernel_rfl) (?_))
  rcases oc h with ⟨hc, h⟩ | ⟨hc, h⟩
  ·refine wy 50 hc rfl (wx [] ⟨[(0, .S 0), (1, .S 1), (5, .I c), (6, .B 10 0), (7, .B 11 0), (70, .O true)], [(10, .box (cC0 3 4 5 i) 94), (11, .box (cC0 7 8 9 q) 94)], ((0, .sl rR0 a_) :: (1, .sl rR0 b_) :: vV0 3 4 5 i (vV0 7 8 9 q [])), 12⟩ htt 20 (by kernel_rfl) (wn (wt rfl rfl (wq (wg (ws htt 1 rfl (wn (?_))))))))
   cases h
   exact we htt Tryz.func79 [] rfl rfl rfl rfl
  refine wy 50 hc rfl (wx (rg 28 14) ⟨[(0, .S 0), (1, .S 1), (5, .I c), (6, .B 10 0), (7, .B 11 0), (50, .O false), (53, .S 4), (56, .S 8)], [(10, .box (cC0 3 4 5 i) 94), (11, .box (cC0 7 8 9 q) 94)], ((0, .sl rR0 a_) :: (1, .sl rR0 b_) :: vV0 3 4 5 i (vV0 7 8 9 q [])), 12⟩ htt 6 (by kernel_rfl) (?_))
  obtain ⟨D, G, h⟩ := ob h
  refine wc (z128_ct N i.Guard.Diffs q.Guard.Diffs _ G) [(0, .sl 4), (1, .sl 8)] [] rfl rfl rfl rfl rfl rfl rfl rfl (.inl rfl) rfl (wx (rg 32 10) ⟨[(0, .S 0), (1, .S 1), (5, .I c), (6, .B 10 0), (7, .B 11 0), (60, .O (!D))], [(10, .box (cC0 3 4 5 i) 94), (11, .box (cC0 7 8 9 q) 94)], ((0, .sl rR0 a_) :: (1, .sl rR0 b_) :: vV0 3 4 5 i (vV0 7 8 9 q [])), 12⟩ htt 3 (by kernel_rfl) (?_))
  rcases oc h with ⟨hc, h⟩ | ⟨hc, h⟩
  ·refine wy 60 hc rfl (wx [] ⟨[(0, .S 0), (1, .S 1), (5, .I c), (6, .B 10 0), (7, .B 11 0), (70, .O true)], [(10, .box (cC0 3 4 5 i) 94), (11, .box (cC0 7 8 9 q) 94)], ((0, .sl rR0 a_) :: (1, .sl rR0 b_) :: vV0 3 4 5 i (vV0 7 8 9 q [])), 12⟩ htt 10 (by kernel_rfl) (wn (wt rfl rfl (wq (wg (ws htt 1 rfl (wn (?_))))))))
   cases h
   exact we htt Tryz.func79 [] rfl rfl rfl rfl
  refine wy 60 hc rfl (wx [] ⟨[(0, .S 0), (1, .S 1), (5, .I c), (6, .B 10 0), (7, .B 11 0), (70, .O ((i.Guard.Equals.length : Int) != (q.Guard.Equals.length : Int)))], [(10, .box (cC0 3 4 5 i) 94), (11, .box (cC0 7 8 9 q) 94)], ((0, .sl rR0 a_) :: (1, .sl rR0 b_) :: vV0 3 4 5 i (vV0 7 8 9 q [])), 12⟩ htt 10 (by kernel_rfl) (wn (?_)))
  rcases oc h with ⟨hc, h⟩ | ⟨hc, h⟩
  ·refine wt hc rfl (wq (wg (ws htt 1 rfl (wn (?_)))))
   cases h
   exact we htt Tryz.func79 [] rfl rfl rfl rfl
  refine wf hc rfl (wi (wq (wq (wg (ws htt 1 rfl (wn (?_)))))))
  refine wC (σ := Unit) (fun st => ⟨[(0, .S 0), (1, .S 1), (5, .I c), (6, .B 10 0), (7, .B 11 0)], [(10, .box (cC0 3 4 5 i) 94), (11, .box (cC0 7 8 9 q) 94)], ((0, .sl rR0 a_) :: (1, .sl rR0 b_) :: vV0 3 4 5 i (vV0 7 8 9 q [])), 12⟩) (fun st => z79_k5 N c (z79_l2 N a_ b_ n22) i q = some r) ?_ (fun j34 => ?_)
  ·intro _ h
   replace h : z79_k5 N c (z79_l2 N a_ b_ n22) i q = some r := h
   unfold z79_k5 at h
   refine wq (wg (ws htt 1 rfl (wn (?_))))
   refine wC (σ := Unit) (fun st => ⟨[(0, .S 0), (1, .S 1), (5, .I c)], [], [(0, .sl rR0 a_), (1, .sl rR0 b_)], 12⟩) (fun st => z79_k3 c (z79_l2 N a_ b_ n22) = some r) ?_ (fun j36 => ?_)
   ·intro _ h
    replace h : z79_k3 c (z79_l2 N a_ b_ n22) = some r := h
    unfold z79_k3 at h
    exact wb (wg (wx [] ⟨[(0, .S 0), (1, .S 1), (5, .I (w64 (c + 1)))], [], [(0, .sl rR0 a_), (1, .sl rR0 b_)], 12⟩ htt 3 (by kernel_rfl) (wn (wu [] (ih21 (w64 (c + 1)) h) rfl rfl rfl rfl))))
   refine wo (?_)
   refine wI (σ := Int) (fun st => ⟨[(0, .S 0), (1, .S 1), (5, .I c), (6, .B 10 0), (7, .B 11 0), (9, .I st)], [(10, .box (cC0 3 4 5 i) 94), (11, .box (cC0 7 8 9 q) 94)], ((0, .sl rR0 a_) :: (1, .sl rR0 b_) :: vV0 3 4 5 i (vV0 7 8 9 q [])), 12⟩) (fun n st => z79_l4 c (z79_l2 N a_ b_ n22) i q n st) (r := r) (fun _ => rfl) ?_ (fun ih => ?_)
   ·intro n25 ih38
    intro H h
    replace h : z79_l4 c (z79_l2 N a_ b_ n22) i q (n25 + 1) H = some r := h
    unfold z79_l4 at h
    refine wq (wq (wg (wx [] ⟨[(0, .S 0), (1, .S 1), (5, .I c), (6, .B 10 0), (7, .B 11 0), (9, .I H), (94, .O (decide (H < (i.Guard.Equals.length : Int))))], [(10, .box (cC0 3 4 5 i) 94), (11, .box (cC0 7 8 9 q) 94)], ((0, .sl rR0 a_) :: (1, .sl rR0 b_) :: vV0 3 4 5 i (vV0 7 8 9 q [])), 12⟩ htt 6 (by kernel_rfl) (wn (?_)))))
    rcases oc' h with ⟨hc, h⟩ | ⟨hc, h⟩
    ·exact wf hc rfl (wz rfl (wu [] (j36 () h) rfl rfl rfl rfl))
    refine wt hc rfl (wi (wq (wo (wq (wQ (by kernel_rfl) (by kernel_rfl) (qx (rg 4 9) ⟨[(0, .S 0), (1, .S 1), (5, .I c), (6, .B 10 0), (7, .B 11 0), (9, .I H), (99, .S 5), (100, .I H)], [(10, .box (cC0 3 4 5 i) 94), (11, .box (cC0 7 8 9 q) 94)], ((0, .sl rR0 a_) :: (1, .sl rR0 b_) :: vV0 3 4 5 i (vV0 7 8 9 q [])), 12⟩ htt 4 (by kernel_rfl) (?_)))))))
    obtain ⟨J, K, h⟩ := ob h
    refine WPq.op rfl rfl (VN.vs (VN.ix (oP (oI .i64) (oI .i64)) htt K rfl rfl rfl rfl rfl rfl rfl)) (qx [10, 11, 12] ⟨[(0, .S 0), (1, .S 1), (5, .I c), (6, .B 10 0), (7, .B 11 0), (9, .I H), (102, .a [.I J.1, .I J.2]), (105, .S 9), (106, .I H)], [(10, .box (cC0 3 4 5 i) 94), (11, .box (cC0 7 8 9 q) 94)], ((0, .sl rR0 a_) :: (1, .sl rR0 b_) :: vV0 3 4 5 i (vV0 7 8 9 q [])), 13⟩ htt 5 (by kernel_rfl) (?_))
    obtain ⟨Q, R, h⟩ := ob h
    refine WPq.op rfl rfl (VN.vs (VN.ix (oP (oI .i64) (oI .i64)) htt R rfl rfl rfl rfl rfl rfl rfl)) (WPq.sil htt 1 rfl (WPq.op rfl rfl (VN.vs (VN.eqa (neg := true) (equal_run (b := ((J.1 == Q.1) && ((J.2 == Q.2) && true))) (by kernel_rfl) (by kernel_rfl)) (by kernel_rfl) rfl rfl rfl rfl rfl)) (qx [] ⟨[(0, .S 0), (1, .S 1), (5, .I c), (6, .B 10 0), (7, .B 11 0), (9, .I H), (109, .O (!((J.1 == Q.1) && ((J.2 == Q.2) && true))))], [(10, .box (cC0 3 4 5 i) 94), (11, .box (cC0 7 8 9 q) 94)], ((0, .sl rR0 a_) :: (1, .sl rR0 b_) :: vV0 3 4 5 i (vV0 7 8 9 q [])), 14⟩ htt 0 (by kernel_rfl) (qn (?_)))))
    rcases oc h with ⟨hc, h⟩ | ⟨hc, h⟩
    ·refine wt hc rfl (wq (wg (ws htt 1 rfl (wn (?_)))))
     cases h
     exact we htt Tryz.func79 [] rfl rfl rfl rfl
    exact wf hc rfl (wi (wb (wg (wx [] ⟨[(0, .S 0), (1, .S 1), (5, .I c), (6, .B 10 0), (7, .B 11 0), (9, .I (w64 (H + 1)))], [(10, .box (cC0 3 4 5 i) 94), (11, .box (cC0 7 8 9 q) 94)], ((0, .sl rR0 a_) :: (1, .sl rR0 b_) :: vV0 3 4 5 i (vV0 7 8 9 q [])), 14⟩ htt 3 (by kernel_rfl) (wn (wu [] (ih38 (w64 (H + 1)) h) rfl rfl rfl rfl))))))
   exact wu [] (ih N 0 h) rfl rfl rfl rfl
  refine wo (?_)
  refine wI (σ := Int) (fun st => ⟨[(0, .S 0), (1, .S 1), (5, .I c), (6, .B 10 0), (7, .B 11 0), (8, .I st)], [(10, .box (cC0 3 4 5 i) 94), (11, .box (cC0 7 8 9 q) 94)], ((0, .sl rR0 a_) :: (1, .sl rR0 b_) :: vV0 3 4 5 i (vV0 7 8 9 q [])), 12⟩) (fun n st => z79_l6 N c (z79_l2 N a_ b_ n22) i q n st) (r := r) (fun _ => rfl) ?_ (fun ih => ?_)
  ·intro n26 ih39
   intro T h
   replace h : z79_l6 N c (z79_l2 N a_ b_ n22) i q (n26 + 1) T = some r := h
   unfold z79_l6 at h
   refine wq (wq (wg (wx [] ⟨[(0, .S 0), (1, .S 1), (5, .I c), (6, .B 10 0), (7, .B 11 0), (8, .I T), (75, .O (decide (T < (i.Fields.length : Int))))], [(10, .box (cC0 3 4 5 i) 94), (11, .box (cC0 7 8 9 q) 94)], ((0, .sl rR0 a_) :: (1, .sl rR0 b_) :: vV0 3 4 5 i (vV0 7 8 9 q [])), 12⟩ htt 5 (by kernel_rfl) (wn (?_)))))
   rcases oc' h with ⟨hc, h⟩ | ⟨hc, h⟩
   ·exact wf hc rfl (wz rfl (wu [] (j34 () h) rfl rfl rfl rfl))
   refine wt hc rfl (wi (wq (wo (wq (wQ (by kernel_rfl) (by kernel_rfl) (qx (rg 3 8) ⟨[(0, .S 0), (1, .S 1), (5, .I c), (6, .B 10 0), (7, .B 11 0), (8, .I T), (79, .S 3), (80, .I T)], [(10, .box (cC0 3 4 5 i) 94), (11, .box (cC0 7 8 9 q) 94)], ((0, .sl rR0 a_) :: (1, .sl rR0 b_) :: vV0 3 4 5 i (vV0 7 8 9 q [])), 12⟩ htt 3 (by kernel_rfl) (?_)))))))
   obtain ⟨U, X, h⟩ := ob h
   refine WPq.op rfl rfl (VN.vs (VN.ix oO3 htt X rfl rfl rfl rfl rfl rfl rfl)) (qx [8, 9, 10] ⟨[(0, .S 0), (1, .S 1), (5, .I c), (6, .B 10 0), (7, .B 11 0), (8, .I T), (82, .a (cC3 U)), (84, .S 7), (85, .I T)], [(10, .box (cC0 3 4 5 i) 94), (11, .box (cC0 7 8 9 q) 94)], ((0, .sl rR0 a_) :: (1, .sl rR0 b_) :: vV0 3 4 5 i (vV0 7 8 9 q [])), 13⟩ htt 4 (by kernel_rfl) (?_))
   obtain ⟨Y, Z, h⟩ := ob h
   refine WPq.op rfl rfl (VN.vs (VN.ix oO3 htt Z rfl rfl rfl rfl rfl rfl rfl)) (WPq.sil htt 1 rfl (WPq.op rfl rfl (VN.vs (VN.eqa (neg := true) (equal_run (b := ((U.Name.toList == Y.Name.toList) && (((U.Sort'.Kind == Y.Sort'.Kind) && ((U.Sort'.Lo == Y.Sort'.Lo) && ((U.Sort'.Hi == Y.Sort'.Hi) && true))) && true))) (by kernel_rfl) (by kernel_rfl)) (by kernel_rfl) rfl rfl rfl rfl rfl)) (qx [] ⟨[(0, .S 0), (1, .S 1), (5, .I c), (6, .B 10 0), (7, .B 11 0), (8, .I T), (88, .O (!((U.Name.toList == Y.Name.toList) && (((U.Sort'.Kind == Y.Sort'.Kind) && ((U.Sort'.Lo == Y.Sort'.Lo) && ((U.Sort'.Hi == Y.Sort'.Hi) && true))) && true))))], [(10, .box (cC0 3 4 5 i) 94), (11, .box (cC0 7 8 9 q) 94)], ((0, .sl rR0 a_) :: (1, .sl rR0 b_) :: vV0 3 4 5 i (vV0 7 8 9 q [])), 14⟩ htt 0 (by kernel_rfl) (qn (?_)))))
   rcases oc h with ⟨hc, h⟩ | ⟨hc, h⟩
   ·refine wt hc rfl (wq (wg (ws htt 1 rfl (wn (?_)))))
    cases h
    exact we htt Tryz.func79 [] rfl rfl rfl rfl
   exact wf hc rfl (wi (wb (wg (wx [] ⟨[(0, .S 0), (1, .S 1), (5, .I c), (6, .B 10 0), (7, .B 11 0), (8, .I (w64 (T + 1)))], [(10, .box (cC0 3 4 5 i) 94), (11, .box (cC0 7 8 9 q) 94)], ((0, .sl rR0 a_) :: (1, .sl rR0 b_) :: vV0 3 4 5 i (vV0 7 8 9 q [])), 14⟩ htt 3 (by kernel_rfl) (wn (wu [] (ih39 (w64 (T + 1)) h) rfl rfl rfl rfl))))))
  exact wu [] (ih N 0 h) rfl rfl rfl rfl
 exact wu [] (ih N 0 h) rfl rfl rfl rfl
theorem z33_ct (N : Nat) (a_ : T4) (b_ : T4) (r : Bool) (h : z33 N a_ b_ = some r) :
 Fn Tryz.prog 33 ⟨8, [.a (cC4 0 1 2 3 a_), .a (cC4 4 5 6 7 b_)], (vV4 0 1 2 3 a_ (vV4 4 5 6 7 b_ [])), [], 8, .O r, [], []⟩ := by
 refine Fn.intro _ _ Tryz.func33 rfl (by kernel_rfl) rfl (fun E F w => ?_)
 unfold z33 at h
 refine wq (wg (wx [] ⟨[(2, .B 8 0), (3, .B 9 0), (4, .O false)], [(8, .box (cC4 0 1 2 3 a_) 27), (9, .box (cC4 4 5 6 7 b_) 27)], (vV4 0 1 2 3 a_ (vV4 4 5 6 7 b_ [])), 10⟩ htt 3 (by kernel_rfl) (wn (wq (wq (wg (wx (rg 6 55) ⟨[(2, .B 8 0), (3, .B 9 0), (4, .O false), (13, .O (!(a_.Name.toList == b_.Name.toList)))], [(8, .box (cC4 0 1 2 3 a_) 27), (9, .box (cC4 4 5 6 7 b_) 27)], (vV4 0 1 2 3 a_ (vV4 4 5 6 7 b_ [])), 10⟩ htt 6 (by kernel_rfl) (?_))))))))
 rcases oc h with ⟨hc, h⟩ | ⟨hc, h⟩
 ·refine wy 13 hc rfl (wx [] ⟨[(2, .B 8 0), (3, .B 9 0), (4, .O false), (68, .O true)], [(8, .box (cC4 0 1 2 3 a_) 27), (9, .box (cC4 4 5 6 7 b_) 27)], (vV4 0 1 2 3 a_ (vV4 4 5 6 7 b_ [])), 10⟩ htt 55 (by kernel_rfl) (wn (wt rfl rfl (wq (wg (ws htt 1 rfl (wn (?_))))))))
  cases h
  exact we htt Tryz.func33 [] rfl rfl rfl rfl
 refine wy 13 hc rfl (wx (rg 15 46) ⟨[(2, .B 8 0), (3, .B 9 0), (4, .O false), (22, .O ((a_.Roles.length : Int) != (b_.Roles.length : Int)))], [(8, .box (cC4 0 1 2 3 a_) 27), (9, .box (cC4 4 5 6 7 b_) 27)], (vV4 0 1 2 3 a_ (vV4 4 5 6 7 b_ [])), 10⟩ htt 9 (by kernel_rfl) (?_))
 rcases oc h with ⟨hc, h⟩ | ⟨hc, h⟩
 ·refine wy 22 hc rfl (wx [] ⟨[(2, .B 8 0), (3, .B 9 0), (4, .O false), (68, .O true)], [(8, .box (cC4 0 1 2 3 a_) 27), (9, .box (cC4 4 5 6 7 b_) 27)], (vV4 0 1 2 3 a_ (vV4 4 5 6 7 b_ [])), 10⟩ htt 46 (by kernel_rfl) (wn (wt rfl rfl (wq (wg (ws htt 1 rfl (wn (?_))))))))
  cases h
  exact we htt Tryz.func33 [] rfl rfl rfl rfl
 refine wy 22 hc rfl (wx (rg 19 42) ⟨[(2, .B 8 0), (3, .B 9 0), (4, .O false), (22, .O false), (24, .S 1), (26, .S 5)], [(8, .box (cC4 0 1 2 3 a_) 27), (9, .box (cC4 4 5 6 7 b_) 27)], (vV4 0 1 2 3 a_ (vV4 4 5 6 7 b_ [])), 10⟩ htt 4 (by kernel_rfl) (?_))
 obtain ⟨x1, d, h⟩ := ob h
 refine wc (z79_ct N a_.Decls b_.Decls _ d) [(0, .sl 1), (1, .sl 5)] [] rfl rfl rfl rfl rfl rfl rfl rfl (.inl rfl) rfl (wx (rg 23 38) ⟨[(2, .B 8 0), (3, .B 9 0), (4, .O false), (30, .O (!x1))], [(8, .box (cC4 0 1 2 3 a_) 27), (9, .box (cC4 4 5 6 7 b_) 27)], (vV4 0 1 2 3 a_ (vV4 4 5 6 7 b_ [])), 10⟩ htt 3 (by kernel_rfl) (?_))
 rcases oc h with ⟨hc, h⟩ | ⟨hc, h⟩
 ·refine wy 30 hc rfl (wx [] ⟨[(2, .B 8 0), (3, .B 9 0), (4, .O false), (68, .O true)], [(8, .box (cC4 0 1 2 3 a_) 27), (9, .box (cC4 4 5 6 7 b_) 27)], (vV4 0 1 2 3 a_ (vV4 4 5 6 7 b_ [])), 10⟩ htt 38 (by kernel_rfl) (wn (wt rfl rfl (wq (wg (ws htt 1 rfl (wn (?_))))))))
  cases h
  exact we htt Tryz.func33 [] rfl rfl rfl rfl
 refine wy 30 hc rfl (wx (rg 30 31) ⟨[(2, .B 8 0), (3, .B 9 0), (4, .O false), (37, .O (a_.States != b_.States))], [(8, .box (cC4 0 1 2 3 a_) 27), (9, .box (cC4 4 5 6 7 b_) 27)], (vV4 0 1 2 3 a_ (vV4 4 5 6 7 b_ [])), 10⟩ htt 7 (by kernel_rfl) (?_))
 rcases oc h with ⟨hc, h⟩ | ⟨hc, h⟩
 ·refine wy 37 hc rfl (wx [] ⟨[(2, .B 8 0), (3, .B 9 0), (4, .O false), (68, .O true)], [(8, .box (cC4 0 1 2 3 a_) 27), (9, .box (cC4 4 5 6 7 b_) 27)], (vV4 0 1 2 3 a_ (vV4 4 5 6 7 b_ [])), 10⟩ htt 31 (by kernel_rfl) (wn (wt rfl rfl (wq (wg (ws htt 1 rfl (wn (?_))))))))
  cases h
  exact we htt Tryz.func33 [] rfl rfl rfl rfl
 refine wy 37 hc rfl (wx (rg 37 24) ⟨[(2, .B 8 0), (3, .B 9 0), (4, .O false), (44, .O (a_.Start != b_.Start))], [(8, .box (cC4 0 1 2 3 a_) 27), (9, .box (cC4 4 5 6 7 b_) 27)], (vV4 0 1 2 3 a_ (vV4 4 5 6 7 b_ [])), 10⟩ htt 7 (by kernel_rfl) (?_))
 rcases oc h with ⟨hc, h⟩ | ⟨hc, h⟩
 ·refine wy 44 hc rfl (wx [] ⟨[(2, .B 8 0), (3, .B 9 0), (4, .O false), (68, .O true)], [(8, .box (cC4 0 1 2 3 a_) 27), (9, .box (cC4 4 5 6 7 b_) 27)], (vV4 0 1 2 3 a_ (vV4 4 5 6 7 b_ [])), 10⟩ htt 24 (by kernel_rfl) (wn (wt rfl rfl (wq (wg (ws htt 1 rfl (wn (?_))))))))
  cases h
  exact we htt Tryz.func33 [] rfl rfl rfl rfl
 refine wy 44 hc rfl (wx (rg 44 17) ⟨[(2, .B 8 0), (3, .B 9 0), (4, .O false), (51, .O (a_.End != b_.End))], [(8, .box (cC4 0 1 2 3 a_) 27), (9, .box (cC4 4 5 6 7 b_) 27)], (vV4 0 1 2 3 a_ (vV4 4 5 6 7 b_ [])), 10⟩ htt 7 (by kernel_rfl) (?_))
 rcases oc h with ⟨hc, h⟩ | ⟨hc, h⟩
 ·refine wy 51 hc rfl (wx [] ⟨[(2, .B 8 0), (3, .B 9 0), (4, .O false), (68, .O true)], [(8, .box (cC4 0 1 2 3 a_) 27), (9, .box (cC4 4 5 6 7 b_) 27)], (vV4 0 1 2 3 a_ (vV4 4 5 6 7 b_ [])), 10⟩ htt 17 (by kernel_rfl) (wn (wt rfl rfl (wq (wg (ws htt 1 rfl (wn (?_))))))))
  cases h
  exact we htt Tryz.func33 [] rfl rfl rfl rfl
 refine wy 51 hc rfl (wx (rg 53 8) ⟨[(2, .B 8 0), (3, .B 9 0), (4, .O false), (60, .O ((a_.Edges.length : Int) != (b_.Edges.length : Int)))], [(8, .box (cC4 0 1 2 3 a_) 27), (9, .box (cC4 4 5 6 7 b_) 27)], (vV4 0 1 2 3 a_ (vV4 4 5 6 7 b_ [])), 10⟩ htt 9 (by kernel_rfl) (?_))
 rcases oc h with ⟨hc, h⟩ | ⟨hc, h⟩
 ·refine wy 60 hc rfl (wx [] ⟨[(2, .B 8 0), (3, .B 9 0), (4, .O false), (68, .O true)], [(8, .box (cC4 0 1 2 3 a_) 27), (9, .box (cC4 4 5 6 7 b_) 27)], (vV4 0 1 2 3 a_ (vV4 4 5 6 7 b_ [])), 10⟩ htt 8 (by kernel_rfl) (wn (wt rfl rfl (wq (wg (ws htt 1 rfl (wn (?_))))))))
  cases h
  exact we htt Tryz.func33 [] rfl rfl rfl rfl
 refine wy 60 hc rfl (wx [] ⟨[(2, .B 8 0), (3, .B 9 0), (4, .O false), (68, .O ((a_.Timeouts.length : Int) != (b_.Timeouts.length : Int)))], [(8, .box (cC4 0 1 2 3 a_) 27), (9, .box (cC4 4 5 6 7 b_) 27)], (vV4 0 1 2 3 a_ (vV4 4 5 6 7 b_ [])), 10⟩ htt 8 (by kernel_rfl) (wn (?_)))
 rcases oc h with ⟨hc, h⟩ | ⟨hc, h⟩
 ·refine wt hc rfl (wq (wg (ws htt 1 rfl (wn (?_)))))
  cases h
  exact we htt Tryz.func33 [] rfl rfl rfl rfl
 refine wf hc rfl (wi (wq (wq (wg (ws htt 1 rfl (wn (?_)))))))
 refine wC (σ := Unit) (fun st => ⟨[(2, .B 8 0), (3, .B 9 0)], [(8, .box (cC4 0 1 2 3 a_) 27), (9, .box (cC4 4 5 6 7 b_) 27)], (vV4 0 1 2 3 a_ (vV4 4 5 6 7 b_ [])), 10⟩) (fun st => z33_k5 N a_ b_ = some r) ?_ (fun j1 => ?_)
 ·intro _ h
  replace h : z33_k5 N a_ b_ = some r := h
  unfold z33_k5 at h
  refine wq (wq (wg (ws htt 1 rfl (wn (?_)))))
  refine wC (σ := Unit) (fun st => ⟨[(2, .B 8 0), (3, .B 9 0)], [(8, .box (cC4 0 1 2 3 a_) 27), (9, .box (cC4 4 5 6 7 b_) 27)], (vV4 0 1 2 3 a_ (vV4 4 5 6 7 b_ [])), 10⟩) (fun st => z33_k3 N a_ b_ = some r) ?_ (fun j3 => ?_)
  ·intro _ h
   replace h : z33_k3 N a_ b_ = some r := h
   unfold z33_k3 at h
   refine wq (wq (wg (ws htt 1 rfl (wn (?_)))))
   refine wC (σ := Unit) (fun st => ⟨[], [], (vV4 0 1 2 3 a_ (vV4 4 5 6 7 b_ [])), 10⟩) (fun st => z33_k1 = some r) ?_ (fun j5 => ?_)
   ·intro _ h
    replace h : z33_k1 = some r := h
    unfold z33_k1 at h
    refine wq (wg (ws htt 1 rfl (wn (?_))))
    cases h
    exact we htt Tryz.func33 [] rfl rfl rfl rfl
   refine wo (?_)
   refine wI (σ := Int) (fun st => ⟨[(2, .B 8 0), (3, .B 9 0), (7, .I st)], [(8, .box (cC4 0 1 2 3 a_) 27), (9, .box (cC4 4 5 6 7 b_) 27)], (vV4 0 1 2 3 a_ (vV4 4 5 6 7 b_ [])), 10⟩) (fun n st => z33_l2 a_ b_ n st) (r := r) (fun _ => rfl) ?_ (fun ih => ?_)
   ·intro n4 ih7
    intro e h
    replace h : z33_l2 a_ b_ (n4 + 1) e = some r := h
    unfold z33_l2 at h
    refine wq (wq (wg (wx [] ⟨[(2, .B 8 0), (3, .B 9 0), (7, .I e), (109, .O (decide (e < (a_.Timeouts.length : Int))))], [(8, .box (cC4 0 1 2 3 a_) 27), (9, .box (cC4 4 5 6 7 b_) 27)], (vV4 0 1 2 3 a_ (vV4 4 5 6 7 b_ [])), 10⟩ htt 5 (by kernel_rfl) (wn (?_)))))
    rcases oc' h with ⟨hc, h⟩ | ⟨hc, h⟩
    ·exact wf hc rfl (wz rfl (wu [] (j5 () h) rfl rfl rfl rfl))
    refine wt hc rfl (wi (wq (wo (wq (wQ (by kernel_rfl) (by kernel_rfl) (qx (rg 3 8) ⟨[(2, .B 8 0), (3, .B 9 0), (7, .I e), (113, .S 3), (114, .I e)], [(8, .box (cC4 0 1 2 3 a_) 27), (9, .box (cC4 4 5 6 7 b_) 27)], (vV4 0 1 2 3 a_ (vV4 4 5 6 7 b_ [])), 10⟩ htt 3 (by kernel_rfl) (?_)))))))
    obtain ⟨f, g, h⟩ := ob h
    refine WPq.op rfl rfl (VN.vs (VN.ix oO8 htt g rfl rfl rfl rfl rfl rfl rfl)) (qx [8, 9, 10] ⟨[(2, .B 8 0), (3, .B 9 0), (7, .I e), (116, .a (cC8 f)), (118, .S 7), (119, .I e)], [(8, .box (cC4 0 1 2 3 a_) 27), (9, .box (cC4 4 5 6 7 b_) 27)], (vV4 0 1 2 3 a_ (vV4 4 5 6 7 b_ [])), 11⟩ htt 4 (by kernel_rfl) (?_))
    obtain ⟨i, j, h⟩ := ob h
    refine WPq.op rfl rfl (VN.vs (VN.ix oO8 htt j rfl rfl rfl rfl rfl rfl rfl)) (WPq.sil htt 1 rfl (WPq.op rfl rfl (VN.vs (VN.eqa (neg := true) (equal_run (b := ((f.State == i.State) && ((f.Ticks == i.Ticks) && ((f.Else == i.Else) && true)))) (by kernel_rfl) (by kernel_rfl)) (by kernel_rfl) rfl rfl rfl rfl rfl)) (qx [] ⟨[(2, .B 8 0), (3, .B 9 0), (7, .I e), (122, .O (!((f.State == i.State) && ((f.Ticks == i.Ticks) && ((f.Else == i.Else) && true)))))], [(8, .box (cC4 0 1 2 3 a_) 27), (9, .box (cC4 4 5 6 7 b_) 27)], (vV4 0 1 2 3 a_ (vV4 4 5 6 7 b_ [])), 12⟩ htt 0 (by kernel_rfl) (qn (?_)))))
    rcases oc h with ⟨hc, h⟩ | ⟨hc, h⟩
    ·refine wt hc rfl (wq (wg (ws htt 1 rfl (wn (?_)))))
     cases h
     exact we htt Tryz.func33 [] rfl rfl rfl rfl
    exact wf hc rfl (wi (wb (wg (wx [] ⟨[(2, .B 8 0), (3, .B 9 0), (7, .I (w64 (e + 1)))], [(8, .box (cC4 0 1 2 3 a_) 27), (9, .box (cC4 4 5 6 7 b_) 27)], (vV4 0 1 2 3 a_ (vV4 4 5 6 7 b_ [])), 12⟩ htt 3 (by kernel_rfl) (wn (wu [] (ih7 (w64 (e + 1)) h) rfl rfl rfl rfl))))))
   exact wu [] (ih N 0 h) rfl rfl rfl rfl
  refine wo (?_)
  refine wI (σ := Int) (fun st => ⟨[(2, .B 8 0), (3, .B 9 0), (6, .I st)], [(8, .box (cC4 0 1 2 3 a_) 27), (9, .box (cC4 4 5 6 7 b_) 27)], (vV4 0 1 2 3 a_ (vV4 4 5 6 7 b_ [])), 10⟩) (fun n st => z33_l4 N a_ b_ n st) (r := r) (fun _ => rfl) ?_ (fun ih => ?_)
  ·intro n5 ih8
   intro k h
   replace h : z33_l4 N a_ b_ (n5 + 1) k = some r := h
   unfold z33_l4 at h
   refine wq (wq (wg (wx [] ⟨[(2, .B 8 0), (3, .B 9 0), (6, .I k), (91, .O (decide (k < (a_.Edges.length : Int))))], [(8, .box (cC4 0 1 2 3 a_) 27), (9, .box (cC4 4 5 6 7 b_) 27)], (vV4 0 1 2 3 a_ (vV4 4 5 6 7 b_ [])), 10⟩ htt 5 (by kernel_rfl) (wn (?_)))))
   rcases oc' h with ⟨hc, h⟩ | ⟨hc, h⟩
   ·exact wf hc rfl (wz rfl (wu [] (j3 () h) rfl rfl rfl rfl))
   refine wt hc rfl (wi (wq (wo (wq (wQ (by kernel_rfl) (by kernel_rfl) (qx (rg 3 8) ⟨[(2, .B 8 0), (3, .B 9 0), (6, .I k), (95, .S 2), (96, .I k)], [(8, .box (cC4 0 1 2 3 a_) 27), (9, .box (cC4 4 5 6 7 b_) 27)], (vV4 0 1 2 3 a_ (vV4 4 5 6 7 b_ [])), 10⟩ htt 3 (by kernel_rfl) (?_)))))))
   obtain ⟨l, m, h⟩ := ob h
   refine WPq.op rfl rfl (VN.vs (VN.ix oO2 htt m rfl rfl rfl rfl rfl rfl rfl)) (qx [8, 9, 10] ⟨[(2, .B 8 0), (3, .B 9 0), (6, .I k), (98, .a (cC2 l)), (100, .S 6), (101, .I k)], [(8, .box (cC4 0 1 2 3 a_) 27), (9, .box (cC4 4 5 6 7 b_) 27)], (vV4 0 1 2 3 a_ (vV4 4 5 6 7 b_ [])), 11⟩ htt 4 (by kernel_rfl) (?_))
   obtain ⟨o, p, h⟩ := ob h
   refine WPq.op rfl rfl (VN.vs (VN.ix oO2 htt p rfl rfl rfl rfl rfl rfl rfl)) (WPq.sil htt 1 rfl (WPq.op rfl rfl (VN.vs (VN.eqa (neg := true) (equal_run (b := ((l.From == o.From) && (((l.Act.From == o.Act.From) && ((l.Act.To == o.Act.To) && ((l.Act.Label == o.Act.Label) && true))) && ((l.To == o.To) && ((l.Again == o.Again) && true))))) (by kernel_rfl) (by kernel_rfl)) (by kernel_rfl) rfl rfl rfl rfl rfl)) (qx [] ⟨[(2, .B 8 0), (3, .B 9 0), (6, .I k), (104, .O (!((l.From == o.From) && (((l.Act.From == o.Act.From) && ((l.Act.To == o.Act.To) && ((l.Act.Label == o.Act.Label) && true))) && ((l.To == o.To) && ((l.Again == o.Again) && true))))))], [(8, .box (cC4 0 1 2 3 a_) 27), (9, .box (cC4 4 5 6 7 b_) 27)], (vV4 0 1 2 3 a_ (vV4 4 5 6 7 b_ [])), 12⟩ htt 0 (by kernel_rfl) (qn (?_)))))
   rcases oc h with ⟨hc, h⟩ | ⟨hc, h⟩
   ·refine wt hc rfl (wq (wg (ws htt 1 rfl (wn (?_)))))
    cases h
    exact we htt Tryz.func33 [] rfl rfl rfl rfl
   exact wf hc rfl (wi (wb (wg (wx [] ⟨[(2, .B 8 0), (3, .B 9 0), (6, .I (w64 (k + 1)))], [(8, .box (cC4 0 1 2 3 a_) 27), (9, .box (cC4 4 5 6 7 b_) 27)], (vV4 0 1 2 3 a_ (vV4 4 5 6 7 b_ [])), 12⟩ htt 3 (by kernel_rfl) (wn (wu [] (ih8 (w64 (k + 1)) h) rfl rfl rfl rfl))))))
  exact wu [] (ih N 0 h) rfl rfl rfl rfl
 refine wo (?_)
 refine wI (σ := Int) (fun st => ⟨[(2, .B 8 0), (3, .B 9 0), (5, .I st)], [(8, .box (cC4 0 1 2 3 a_) 27), (9, .box (cC4 4 5 6 7 b_) 27)], (vV4 0 1 2 3 a_ (vV4 4 5 6 7 b_ [])), 10⟩) (fun n st => z33_l6 N a_ b_ n st) (r := r) (fun _ => rfl) ?_ (fun ih => ?_)
 ·intro n6 ih9
  intro q h
  replace h : z33_l6 N a_ b_ (n6 + 1) q = some r := h
  unfold z33_l6 at h
  refine wq (wq (wg (wx [] ⟨[(2, .B 8 0), (3, .B 9 0), (5, .I q), (73, .O (decide (q < (a_.Roles.length : Int))))], [(8, .box (cC4 0 1 2 3 a_) 27), (9, .box (cC4 4 5 6 7 b_) 27)], (vV4 0 1 2 3 a_ (vV4 4 5 6 7 b_ [])), 10⟩ htt 5 (by kernel_rfl) (wn (?_)))))
  rcases oc' h with ⟨hc, h⟩ | ⟨hc, h⟩
  ·exact wf hc rfl (wz rfl (wu [] (j1 () h) rfl rfl rfl rfl))
  refine wt hc rfl (wi (wq (wo (wq (wQ (by kernel_rfl) (by kernel_rfl) (qx (rg 3 8) ⟨[(2, .B 8 0), (3, .B 9 0), (5, .I q), (77, .S 0), (78, .I q)], [(8, .box (cC4 0 1 2 3 a_) 27), (9, .box (cC4 4 5 6 7 b_) 27)], (vV4 0 1 2 3 a_ (vV4 4 5 6 7 b_ [])), 10⟩ htt 3 (by kernel_rfl) (?_)))))))
  obtain ⟨t, u, h⟩ := ob h
  refine WPq.op rfl rfl (VN.vs (VN.ix oS htt u rfl rfl rfl rfl rfl rfl rfl)) (qx [8, 9, 10] ⟨[(2, .B 8 0), (3, .B 9 0), (5, .I q), (80, .c (.s t)), (82, .S 4), (83, .I q)], [(8, .box (cC4 0 1 2 3 a_) 27), (9, .box (cC4 4 5 6 7 b_) 27)], (vV4 0 1 2 3 a_ (vV4 4 5 6 7 b_ [])), 11⟩ htt 4 (by kernel_rfl) (?_))
  obtain ⟨v, x, h⟩ := ob h
  refine WPq.op rfl rfl (VN.vs (VN.ix oS htt x rfl rfl rfl rfl rfl rfl rfl)) (qx [] ⟨[(2, .B 8 0), (3, .B 9 0), (5, .I q), (86, .O (!(t.toList == v.toList)))], [(8, .box (cC4 0 1 2 3 a_) 27), (9, .box (cC4 4 5 6 7 b_) 27)], (vV4 0 1 2 3 a_ (vV4 4 5 6 7 b_ [])), 12⟩ htt 2 (by kernel_rfl) (qn (?_)))
  rcases oc h with ⟨hc, h⟩ | ⟨hc, h⟩
  ·refine wt hc rfl (wq (wg (ws htt 1 rfl (wn (?_)))))
   cases h
   exact we htt Tryz.func33 [] rfl rfl rfl rfl
  exact wf hc rfl (wi (wb (wg (wx [] ⟨[(2, .B 8 0), (3, .B 9 0), (5, .I (w64 (q + 1)))], [(8, .box (cC4 0 1 2 3 a_) 27), (9, .box (cC4 4 5 6 7 b_) 27)], (vV4 0 1 2 3 a_ (vV4 4 5 6 7 b_ [])), 12⟩ htt 3 (by kernel_rfl) (wn (wu [] (ih9 (w64 (q + 1)) h) rfl rfl rfl rfl))))))
 exact wu [] (ih N 0 h) rfl rfl rfl rfl
theorem z80_ct (N : Nat) (l_ : (List Int)) (n_ : Int) (r : Int) (h : z80 N l_ n_ = some r) :
 Fn Tryz.prog 80 ⟨1, [.S 0, .I n_], [(0, .sl (rI .i64) l_)], [], 1, .I r, [], []⟩ := by
 refine Fn.intro _ _ Tryz.func80 rfl (by kernel_rfl) rfl (fun E F w => ?_)
 unfold z80 at h
 refine wq (wg (ws htt 1 rfl (wn (wq (wq (wg (ws htt 1 rfl (wn (?_)))))))))
 refine wC (σ := Unit) (fun st => ⟨[], [], [(0, .sl (rI .i64) l_)], 1⟩) (fun st => z80_k1 = some r) ?_ (fun j1 => ?_)
 ·intro _ h
  replace h : z80_k1 = some r := h
  unfold z80_k1 at h
  refine wq (wg (ws htt 1 rfl (wn (?_))))
  cases h
  exact we htt Tryz.func80 [] rfl rfl rfl rfl
 refine wo (?_)
 refine wI (σ := Int) (fun st => ⟨[(0, .S 0), (1, .I n_), (5, .I st)], [], [(0, .sl (rI .i64) l_)], 1⟩) (fun n st => z80_l2 l_ n_ n st) (r := r) (fun _ => rfl) ?_ (fun ih => ?_)
 ·intro n2 ih3
  intro c h
  replace h : z80_l2 l_ n_ (n2 + 1) c = some r := h
  unfold z80_l2 at h
  refine wq (wq (wg (wx [] ⟨[(0, .S 0), (1, .I n_), (5, .I c), (9, .O (decide (c < (l_.length : Int))))], [], [(0, .sl (rI .i64) l_)], 1⟩ htt 4 (by kernel_rfl) (wn (?_)))))
  rcases oc' h with ⟨hc, h⟩ | ⟨hc, h⟩
  ·exact wf hc rfl (wz rfl (wu [] (j1 () h) rfl rfl rfl rfl))
  refine wt hc rfl (wi (wq (wo (wq (wg (ws htt 2 rfl (?_)))))))
  obtain ⟨x9, d, h⟩ := ob h
  refine wj (oI .i64) htt d rfl rfl rfl rfl rfl rfl rfl rfl rfl (wx [] ⟨[(0, .S 0), (1, .I n_), (5, .I c), (17, .O (x9 == n_))], [], [(0, .sl (rI .i64) l_)], 2⟩ htt 3 (by kernel_rfl) (wn (?_)))
  rcases oc h with ⟨hc, h⟩ | ⟨hc, h⟩
  ·refine wt hc rfl (wq (wg (ws htt 2 rfl (wn (?_)))))
   cases h
   exact we htt Tryz.func80 [] rfl rfl rfl rfl
  exact wf hc rfl (wi (wb (wg (wx [] ⟨[(0, .S 0), (1, .I n_), (5, .I (w64 (c + 1)))], [], [(0, .sl (rI .i64) l_)], 2⟩ htt 3 (by kernel_rfl) (wn (wu [] (ih3 (w64 (c + 1)) h) rfl rfl rfl rfl))))))
 exact wu [] (ih N 0 h) rfl rfl rfl rfl
theorem z34_ct (N : Nat) (g_ : T4) (r : T4 × Int) (h : z34 N g_ = some r) :
 Fn Tryz.prog 34 ⟨4, [.a (cC4 0 1 2 3 g_)], (vV4 0 1 2 3 g_ []), [], 8, .t [.inr (cC4 4 5 6 7 r.1), .inl (.I r.2)], (vV4 4 5 6 7 r.1 []), []⟩ := by
 refine Fn.intro _ _ Tryz.func34 rfl (by kernel_rfl) rfl (fun E F w => ?_)
 unfold z34 at h
 refine wq (wg (wx [] ⟨[(1, .B 4 0), (2, .B 5 0), (3, .I 0)], [(4, .box (cC4 0 1 2 3 g_) 27), (5, .box [.s (str []), .nil, .nil, .I 0, .I 0, .I 0, .nil, .nil] 27)], (vV4 0 1 2 3 g_ []), 6⟩ htt 3 (by kernel_rfl) (wn (wq (wq (wg (ws htt 1 rfl (?_))))))))
 obtain ⟨x1, c, h⟩ := ob h
 refine wc (z19_ct N g_ _ c) [(0, .sl 0), (1, .sl 1), (2, .sl 2), (3, .sl 3)] [] rfl rfl rfl rfl rfl rfl rfl rfl (.inl rfl) rfl (wx [] ⟨[(1, .B 4 0), (2, .B 5 0), (3, .I 0), (13, .O (!x1))], [(4, .box (cC4 0 1 2 3 g_) 27), (5, .box [.s (str []), .nil, .nil, .I 0, .I 0, .I 0, .nil, .nil] 27)], (vV4 0 1 2 3 g_ []), 6⟩ htt 1 (by kernel_rfl) (wn (?_)))
 rcases oc h with ⟨hc, h⟩ | ⟨hc, h⟩
 ·refine wt hc rfl (wq (wg (wx [] ⟨[(2, .B 5 0), (3, .I 1)], [(5, .box [.s (str []), .nil, .nil, .I 0, .I 0, .I 0, .nil, .nil] 27)], (vV4 0 1 2 3 g_ []), 6⟩ htt 3 (by kernel_rfl) (wn (?_)))))
  cases h
  exact we htt Tryz.func34 [(4, .nil), (5, .nil), (6, .nil), (7, .nil)] rfl rfl rfl rfl
 refine wf hc rfl (wi (wq (wg (wx [] ⟨[(1, .B 4 0), (2, .B 5 0), (3, .I 0), (4, .B 6 0)], [(4, .box (cC4 0 1 2 3 g_) 27), (5, .box [.s (str []), .nil, .nil, .I 0, .I 0, .I 0, .nil, .nil] 27), (6, .box [.s g_.Name, .sl 0, .sl 1, .I g_.States, .I 0, .I 0, .nil, .nil] 27)], (vV4 0 1 2 3 g_ []), 7⟩ htt 11 (by kernel_rfl) (wn (wq (wg (ws htt 2 rfl (WPr.bs (cs := [.I g_.Start]) (oI .i64) htt ([g_.Start] : List Int) rfl rfl rfl rfl rfl rfl (by kernel_rfl) (by exact (an rfl rfl)) rfl (wx [] ⟨[(1, .B 4 0), (2, .B 5 0), (3, .I 0), (4, .B 6 0), (5, .S 7)], [(4, .box (cC4 0 1 2 3 g_) 27), (5, .box [.s (str []), .nil, .nil, .I 0, .I 0, .I 0, .nil, .nil] 27), (6, .box [.s g_.Name, .sl 0, .sl 1, .I g_.States, .I 0, .I 0, .nil, .nil] 27), (7, .own (rI .i64) ([g_.Start] : List Int) true)], (vV4 0 1 2 3 g_ []), 8⟩ htt 1 (by kernel_rfl) (wn (wq (wq (wg (ws htt 1 rfl (wn (?_)))))))))))))))))
 refine wC (σ := (List T2) × (List T8) × (List Int)) (fun st => ⟨[(1, .B 4 0), (2, .B 5 0), (4, .B 6 0), (5, .S 10)], [(4, .box (cC4 0 1 2 3 g_) 27), (5, .box [.s (str []), .nil, .nil, .I 0, .I 0, .I 0, .nil, .nil] 27), (6, .box [.s g_.Name, .sl 0, .sl 1, .I g_.States, .I 0, .I 0, .sl 8, .sl 9] 27), (8, .own rR2 st.1 true), (9, .own rR8 st.2.1 true), (10, .own (rI .i64) st.2.2 true)], (vV4 0 1 2 3 g_ []), 11⟩) (fun st => z34_k1 N g_ st.1 st.2.1 st.2.2 = some r) ?_ (fun j1 => ?_)
 ·rintro ⟨d, e, f⟩ h
  replace h : z34_k1 N g_ d e f = some r := h
  unfold z34_k1 at h
  refine wq (wg (wx [3, 4, 5] ⟨[(2, .B 5 0), (4, .B 6 0), (112, .S 10), (114, .I g_.End)], [(5, .box [.s (str []), .nil, .nil, .I 0, .I 0, .I 0, .nil, .nil] 27), (6, .box [.s g_.Name, .sl 0, .sl 1, .I g_.States, .I 0, .I 0, .sl 8, .sl 9] 27), (8, .own rR2 d true), (9, .own rR8 e true), (10, .own (rI .i64) f true)], (vV4 0 1 2 3 g_ []), 11⟩ htt 3 (by kernel_rfl) (?_)))
  obtain ⟨g, i, h⟩ := ob h
  refine wc (z80_ct N f g_.End _ i) [(0, .sl 10)] [10] rfl rfl rfl rfl rfl rfl rfl rfl (.inr ⟨rfl, trivial⟩) rfl (wx [] ⟨[(2, .B 5 0), (4, .B 6 0)], [(5, .box [.s (str []), .nil, .nil, .I 0, .I 0, .I 0, .nil, .nil] 27), (6, .box [.s g_.Name, .sl 0, .sl 1, .I g_.States, .I 0, .I g, .sl 8, .sl 9] 27), (8, .own rR2 d true), (9, .own rR8 e true)], (vV4 0 1 2 3 g_ []), 11⟩ htt 2 (by kernel_rfl) (wn (wq (wg (wx [] ⟨[(2, .B 5 0), (3, .I 0)], [(5, .box [.s g_.Name, .sl 0, .sl 1, .I g_.States, .I 0, .I g, .sl 8, .sl 9] 27), (8, .own rR2 d true), (9, .own rR8 e true)], (vV4 0 1 2 3 g_ []), 11⟩ htt 3 (by kernel_rfl) (wn (WP.frz 8 rfl (WP.frz 9 rfl (?_)))))))))
  cases h
  exact we htt Tryz.func34 [(4, .sl 0), (5, .sl 1), (6, .sl 8), (7, .sl 9)] rfl rfl rfl rfl
 refine wo (?_)
 refine wI (σ := (List T2) × (List T8) × (List Int) × Int) (fun st => ⟨[(1, .B 4 0), (2, .B 5 0), (4, .B 6 0), (5, .S 10), (6, .I st.2.2.2)], [(4, .box (cC4 0 1 2 3 g_) 27), (5, .box [.s (str []), .nil, .nil, .I 0, .I 0, .I 0, .nil, .nil] 27), (6, .box [.s g_.Name, .sl 0, .sl 1, .I g_.States, .I 0, .I 0, .sl 8, .sl 9] 27), (8, .own rR2 st.1 true), (9, .own rR8 st.2.1 true), (10, .own (rI .i64) st.2.2.1 true)], (vV4 0 1 2 3 g_ []), 11⟩) (fun n st => z34_l2 N g_ n st.1 st.2.1 st.2.2.1 st.2.2.2) (r := r) (fun _ => rfl) ?_ (fun ih => ?_)
 ·intro n72 ih84
  rintro ⟨j, l, m, o⟩ h
  replace h : z34_l2 N g_ (n72 + 1) j l m o = some r := h
  unfold z34_l2 at h
  refine wq (wq (wg (wx [] ⟨[(1, .B 4 0), (2, .B 5 0), (4, .B 6 0), (5, .S 10), (6, .I o), (30, .O (decide (o < (m.length : Int))))], [(4, .box (cC4 0 1 2 3 g_) 27), (5, .box [.s (str []), .nil, .nil, .I 0, .I 0, .I 0, .nil, .nil] 27), (6, .box [.s g_.Name, .sl 0, .sl 1, .I g_.States, .I 0, .I 0, .sl 8, .sl 9] 27), (8, .own rR2 j true), (9, .own rR8 l true), (10, .own (rI .i64) m true)], (vV4 0 1 2 3 g_ []), 11⟩ htt 4 (by kernel_rfl) (wn (?_)))))
  rcases oc' h with ⟨hc, h⟩ | ⟨hc, h⟩
  ·exact wf hc rfl (wz rfl (wu [] (j1 (j, l, m) h) rfl rfl rfl rfl))
  refine wt hc rfl (wi (wq (wo (wq (wN (fun p q u => ?_))))))
  have v : p 0 ⟨[(1, .B 4 0)], (vV4 0 1 2 3 g_ []), [], [(4, .box (cC4 0 1 2 3 g_) 27)], 11, [(33, .a (cC4 0 1 2 3 g_))], [], [], 11⟩ := q _ _ (wl htt rfl rfl rfl rfl rfl rfl)
  have x : p 1 ⟨[(5, .S 10)], [], [], [], 11, [(34, .S 10)], [], [], 11⟩ := q _ _ (wl htt rfl rfl rfl rfl rfl rfl)
  have y : p 2 ⟨[(6, .I o)], [], [], [], 11, [(35, .I o)], [], [], 11⟩ := q _ _ (wl htt rfl rfl rfl rfl rfl rfl)
  obtain ⟨z, A, h⟩ := ob h
  have C : p 3 ⟨[(34, .S 10), (35, .I o)], [], [], [(10, .own (rI .i64) m true)], 11, [(36, .P 11 0)], [(11, .el 10 ((o).toNat * ((rI .i64)).sz))], [], 12⟩ := q _ _ (wO rfl rfl rfl (fun _ _ _ _ _ _ _ k => wX htt A rfl rfl rfl rfl rfl rfl rfl rfl rfl (k)) rfl)
  have D : p 4 ⟨[(36, .P 11 0)], [(11, .el 10 ((o).toNat * ((rI .i64)).sz))], [], [(10, .own (rI .i64) m true)], 12, [(37, .I z)], [], [], 12⟩ := q _ _ (wO rfl rfl rfl (fun _ _ _ _ _ _ _ k => wL (oI .i64) htt A rfl rfl rfl rfl rfl rfl rfl rfl rfl rfl (k)) rfl)
  obtain ⟨G, H, h⟩ := ob h
  have J : p 5 ⟨[(33, .a (cC4 0 1 2 3 g_)), (37, .I z)], (vV4 0 1 2 3 g_ []), [], [], 12, [(38, .S 12)], [], [(12, .own (rI .i64) G true)], 13⟩ := q _ _ (wO rfl rfl rfl (fun _ _ _ _ _ _ _ k => wc (z28_ct N g_ z _ H) [(0, .sl 0), (1, .sl 1), (2, .sl 2), (3, .sl 3)] [] rfl rfl rfl rfl rfl rfl rfl rfl (.inl rfl) rfl (k)) rfl)
  have K : p 6 ⟨[(38, .S 12)], [], [], [], 13, [(7, .S 12)], [], [], 13⟩ := q _ _ (wl htt rfl rfl rfl rfl rfl rfl)
  refine wD (t := ⟨[(1, .B 4 0), (2, .B 5 0), (4, .B 6 0), (5, .S 10), (6, .I o), (7, .S 12)], [(4, .box (cC4 0 1 2 3 g_) 27), (5, .box [.s (str []), .nil, .nil, .I 0, .I 0, .I 0, .nil, .nil] 27), (6, .box [.s g_.Name, .sl 0, .sl 1, .I g_.States, .I 0, .I 0, .sl 8, .sl 9] 27), (8, .own rR2 j true), (9, .own rR8 l true), (10, .own (rI .i64) m true), (12, .own (rI .i64) G true)], (vV4 0 1 2 3 g_ []), 13⟩) [0, 0, 0, 6, 14, 31, 63] (.cons (u _ _ v) (.cons (u _ _ x) (.cons (u _ _ y) (.cons (u _ _ C) (.cons (u _ _ D) (.cons (u _ _ J) (.cons (u _ _ K) .nil))))))) (by kernel_rfl) (by kernel_rfl) (by kernel_rfl) (by kernel_rfl) (wq (wg (ws htt 1 rfl (wn (?_)))))
  refine wC (σ := (List T2) × (List T8) × (List Int)) (fun st => ⟨[(1, .B 4 0), (2, .B 5 0), (4, .B 6 0), (5, .S 15), (6, .I o)], [(4, .box (cC4 0 1 2 3 g_) 27), (5, .box [.s (str []), .nil, .nil, .I 0, .I 0, .I 0, .nil, .nil] 27), (6, .box [.s g_.Name, .sl 0, .sl 1, .I g_.States, .I 0, .I 0, .sl 13, .sl 14] 27), (13, .own rR2 st.1 true), (14, .own rR8 st.2.1 true), (15, .own (rI .i64) st.2.2 true)], (vV4 0 1 2 3 g_ []), 16⟩) (fun st => z34_k3 o (z34_l2 N g_ n72) st.1 st.2.1 st.2.2 = some r) ?_ (fun j139 => ?_)
  ·rintro ⟨Q, R, T⟩ h
   replace h : z34_k3 o (z34_l2 N g_ n72) Q R T = some r := h
   unfold z34_k3 at h
   exact wb (wg (wx [] ⟨[(1, .B 4 0), (2, .B 5 0), (4, .B 6 0), (5, .S 15), (6, .I (w64 (o + 1)))], [(4, .box (cC4 0 1 2 3 g_) 27), (5, .box [.s (str []), .nil, .nil, .I 0, .I 0, .I 0, .nil, .nil] 27), (6, .box [.s g_.Name, .sl 0, .sl 1, .I g_.States, .I 0, .I 0, .sl 13, .sl 14] 27), (13, .own rR2 Q true), (14, .own rR8 R true), (15, .own (rI .i64) T true)], (vV4 0 1 2 3 g_ []), 16⟩ htt 3 (by kernel_rfl) (wn (wu [(8, .sl 13), (9, .sl 14), (10, .sl 15)] (ih84 (Q, R, T, (w64 (o + 1))) h) rfl rfl rfl rfl))))
  refine wo (?_)
  refine wI (σ := (List T2) × (List T8) × (List Int) × Int) (fun st => ⟨[(1, .B 4 0), (2, .B 5 0), (4, .B 6 0), (5, .S 15), (6, .I o), (7, .S 12), (8, .I st.2.2.2)], [(4, .box (cC4 0 1 2 3 g_) 27), (5, .box [.s (str []), .nil, .nil, .I 0, .I 0, .I 0, .nil, .nil] 27), (6, .box [.s g_.Name, .sl 0, .sl 1, .I g_.States, .I 0, .I 0, .sl 13, .sl 14] 27), (12, .own (rI .i64) G true), (13, .own rR2 st.1 true), (14, .own rR8 st.2.1 true), (15, .own (rI .i64) st.2.2.1 true)], (vV4 0 1 2 3 g_ []), 16⟩) (fun n st => z34_l4 N g_ o (z34_l2 N g_ n72) G n st.1 st.2.1 st.2.2.1 st.2.2.2) (r := r) (fun _ => rfl) ?_ (fun ih => ?_)
  ·intro n84 ih153
   rintro ⟨U, X, Y, Z⟩ h
   replace h : z34_l4 N g_ o (z34_l2 N g_ n72) G (n84 + 1) U X Y Z = some r := h
   unfold z34_l4 at h
   refine wq (wq (wg (wx [] ⟨[(1, .B 4 0), (2, .B 5 0), (4, .B 6 0), (5, .S 15), (6, .I o), (7, .S 12), (8, .I Z), (42, .O (decide (Z < (G.length : Int))))], [(4, .box (cC4 0 1 2 3 g_) 27), (5, .box [.s (str []), .nil, .nil, .I 0, .I 0, .I 0, .nil, .nil] 27), (6, .box [.s g_.Name, .sl 0, .sl 1, .I g_.States, .I 0, .I 0, .sl 13, .sl 14] 27), (12, .own (rI .i64) G true), (13, .own rR2 U true), (14, .own rR8 X true), (15, .own (rI .i64) Y true)], (vV4 0 1 2 3 g_ []), 16⟩ htt 4 (by kernel_rfl) (wn (?_)))))
   rcases oc' h with ⟨hc, h⟩ | ⟨hc, h⟩
   ·exact wf hc rfl (wz rfl (wu [] (j139 (U, X, Y) h) rfl rfl rfl rfl))
   refine wt hc rfl (wi (wq (wo (wq (wN (fun a0 b0 c0 => ?_))))))
   have d0 : a0 0 ⟨[(1, .B 4 0)], [], [], [], 16, [(45, .B 4 6)], [], [], 16⟩ := b0 _ _ (wl htt rfl rfl rfl rfl rfl rfl)
   have e0 : a0 1 ⟨[(45, .B 4 6)], (vV4 0 1 2 3 g_ []), [], [(4, .box (cC4 0 1 2 3 g_) 27)], 16, [(46, .S 2)], [], [], 16⟩ := b0 _ _ (wl htt rfl rfl rfl rfl rfl rfl)
   have f0 : a0 2 ⟨[(7, .S 12)], [], [], [], 16, [(47, .S 12)], [], [], 16⟩ := b0 _ _ (wl htt rfl rfl rfl rfl rfl rfl)
   have g0 : a0 3 ⟨[(8, .I Z)], [], [], [], 16, [(48, .I Z)], [], [], 16⟩ := b0 _ _ (wl htt rfl rfl rfl rfl rfl rfl)
   obtain ⟨i0, j0, h⟩ := ob h
   have k0 : a0 4 ⟨[(47, .S 12), (48, .I Z)], [], [], [(12, .own (rI .i64) G true)], 16, [(49, .P 16 0)], [(16, .el 12 ((Z).toNat * ((rI .i64)).sz))], [], 17⟩ := b0 _ _ (wO rfl rfl rfl (fun _ _ _ _ _ _ _ k => wX htt j0 rfl rfl rfl rfl rfl rfl rfl rfl rfl (k)) rfl)
   have l0 : a0 5 ⟨[(49, .P 16 0)], [(16, .el 12 ((Z).toNat * ((rI .i64)).sz))], [], [(12, .own (rI .i64) G true)], 17, [(50, .I i0)], [], [], 17⟩ := b0 _ _ (wO rfl rfl rfl (fun _ _ _ _ _ _ _ k => wL (oI .i64) htt j0 rfl rfl rfl rfl rfl rfl rfl rfl rfl rfl (k)) rfl)
   obtain ⟨m0, o0, h⟩ := ob h
   have p0 : a0 6 ⟨[(46, .S 2), (50, .I i0)], [(2, .sl rR2 g_.Edges)], [], [], 17, [(51, .P 17 0)], [(17, .pl (cC2 m0))], [], 18⟩ := b0 _ _ (wO rfl rfl rfl (fun _ _ _ _ _ _ _ k => wj oO2 htt o0 rfl rfl rfl rfl rfl rfl rfl rfl rfl (k)) rfl)
   have q0 : a0 7 ⟨[(51, .P 17 0)], [(17, .pl (cC2 m0))], [], [], 18, [(52, .a (cC2 m0))], [], [], 18⟩ := b0 _ _ (wl htt rfl rfl rfl rfl rfl rfl)
   have s0 : a0 8 ⟨[], [], [], [], 18, [(9, .B 18 0)], [], [(18, .box [.I 0, .I 0, .I 0, .I 0, .I 0, .b false] 43)], 19⟩ := b0 _ _ (wl htt rfl rfl rfl rfl rfl rfl)
   have t0 : a0 9 ⟨[(9, .B 18 0), (52, .a (cC2 m0))], [], [(18, .box [.I 0, .I 0, .I 0, .I 0, .I 0, .b false] 43)], [], 19, [], [], [(18, .box (cC2 m0) 43)], 19⟩ := b0 _ _ (wl htt rfl rfl rfl rfl rfl rfl)
   refine wD (t := ⟨[(1, .B 4 0), (2, .B 5 0), (4, .B 6 0), (5, .S 15), (6, .I o), (7, .S 12), (8, .I Z), (9, .B 18 0)], [(4, .box (cC4 0 1 2 3 g_) 27), (5, .box [.s (str []), .nil, .nil, .I 0, .I 0, .I 0, .nil, .nil] 27), (6, .box [.s g_.Name, .sl 0, .sl 1, .I g_.States, .I 0, .I 0, .sl 13, .sl 14] 27), (12, .own (rI .i64) G true), (13, .own rR2 U true), (14, .own rR8 X true), (15, .own (rI .i64) Y true), (18, .box (cC2 m0) 43)], (vV4 0 1 2 3 g_ []), 19⟩) [0, 1, 0, 0, 12, 28, 63, 127, 0, 511] (.cons (c0 _ _ d0) (.cons (c0 _ _ e0) (.cons (c0 _ _ f0) (.cons (c0 _ _ g0) (.cons (c0 _ _ k0) (.cons (c0 _ _ l0) (.cons (c0 _ _ p0) (.cons (c0 _ _ q0) (.cons (c0 _ _ s0) (.cons (c0 _ _ t0) .nil)))))))))) (by kernel_rfl) (by kernel_rfl) (by kernel_rfl) (by kernel_rfl) (wq (wq (wg (wx [3, 4] ⟨[(1, .B 4 0), (2, .B 5 0), (4, .B 6 0), (5, .S 15), (6, .I o), (7, .S 12), (8, .I Z), (9, .B 18 0), (53, .S 15), (55, .I m0.To)], [(4, .box (cC4 0 1 2 3 g_) 27), (5, .box [.s (str []), .nil, .nil, .I 0, .I 0, .I 0, .nil, .nil] 27), (6, .box [.s g_.Name, .sl 0, .sl 1, .I g_.States, .I 0, .I 0, .sl 13, .sl 14] 27), (12, .own (rI .i64) G true), (13, .own rR2 U true), (14, .own rR8 X true), (15, .own (rI .i64) Y true), (18, .box (cC2 m0) 43)], (vV4 0 1 2 3 g_ []), 19⟩ htt 3 (by kernel_rfl) (?_)))))
   obtain ⟨u0, v0, h⟩ := ob h
   refine wc (z80_ct N Y m0.To _ v0) [(0, .sl 15)] [15] rfl rfl rfl rfl rfl rfl rfl rfl (.inr ⟨rfl, trivial⟩) rfl (wx [] ⟨[(1, .B 4 0), (2, .B 5 0), (4, .B 6 0), (5, .S 15), (6, .I o), (7, .S 12), (8, .I Z), (9, .B 18 0), (57, .O (decide (u0 < 0)))], [(4, .box (cC4 0 1 2 3 g_) 27), (5, .box [.s (str []), .nil, .nil, .I 0, .I 0, .I 0, .nil, .nil] 27), (6, .box [.s g_.Name, .sl 0, .sl 1, .I g_.States, .I 0, .I 0, .sl 13, .sl 14] 27), (12, .own (rI .i64) G true), (13, .own rR2 U true), (14, .own rR8 X true), (15, .own (rI .i64) Y true), (18, .box (cC2 m0) 43)], (vV4 0 1 2 3 g_ []), 19⟩ htt 1 (by kernel_rfl) (wn (?_)))
   refine wC (σ := (List Int)) (fun st => ⟨[(1, .B 4 0), (2, .B 5 0), (4, .B 6 0), (5, .S 19), (6, .I o), (7, .S 12), (8, .I Z), (9, .B 18 0)], [(4, .box (cC4 0 1 2 3 g_) 27), (5, .box [.s (str []), .nil, .nil, .I 0, .I 0, .I 0, .nil, .nil] 27), (6, .box [.s g_.Name, .sl 0, .sl 1, .I g_.States, .I 0, .I 0, .sl 13, .sl 14] 27), (12, .own (rI .i64) G true), (13, .own rR2 U true), (14, .own rR8 X true), (18, .box (cC2 m0) 43), (19, .own (rI .i64) st true)], (vV4 0 1 2 3 g_ []), 20⟩) (fun st => z34_k7 N g_ o G U X Z (z34_l4 N g_ o (z34_l2 N g_ n72) G n84) m0 st = some r) ?_ (fun j162 => ?_)
   ·intro x0 h
    replace h : z34_k7 N g_ o G U X Z (z34_l4 N g_ o (z34_l2 N g_ n72) G n84) m0 x0 = some r := h
    unfold z34_k7 at h
    refine wq (wq (wg (ws htt 1 rfl (wn (?_)))))
    refine wC (σ := (List T8)) (fun st => ⟨[(1, .B 4 0), (2, .B 5 0), (4, .B 6 0), (5, .S 19), (6, .I o), (7, .S 12), (8, .I Z), (9, .B 18 0)], [(4, .box (cC4 0 1 2 3 g_) 27), (5, .box [.s (str []), .nil, .nil, .I 0, .I 0, .I 0, .nil, .nil] 27), (6, .box [.s g_.Name, .sl 0, .sl 1, .I g_.States, .I 0, .I 0, .sl 13, .sl 20] 27), (12, .own (rI .i64) G true), (13, .own rR2 U true), (18, .box (cC2 m0) 43), (19, .own (rI .i64) x0 true), (20, .own rR8 st true)], (vV4 0 1 2 3 g_ []), 21⟩) (fun st => z34_k5 N o U Z (z34_l4 N g_ o (z34_l2 N g_ n72) G n84) m0 x0 st = some r) ?_ (fun j163 => ?_)
    ·intro y0 h
     replace h : z34_k5 N o U Z (z34_l4 N g_ o (z34_l2 N g_ n72) G n84) m0 x0 y0 = some r := h
     unfold z34_k5 at h
     refine wN (fun z0 A0 B0 => ?_)
     have C0 : z0 0 ⟨[(4, .B 6 0)], [], [], [], 21, [(97, .B 6 6)], [], [], 21⟩ := A0 _ _ (wl htt rfl rfl rfl rfl rfl rfl)
     have D0 : z0 1 ⟨[(97, .B 6 6)], [(0, .sl rS g_.Roles), (1, .sl rR0 g_.Decls)], [], [(6, .box [.s g_.Name, .sl 0, .sl 1, .I g_.States, .I 0, .I 0, .sl 13, .sl 20] 27)], 21, [(98, .S 13)], [], [], 21⟩ := A0 _ _ (wl htt rfl rfl rfl rfl rfl rfl)
     have G0 : z0 2 ⟨[(6, .I o)], [], [], [], 21, [(99, .I o)], [], [], 21⟩ := A0 _ _ (wl htt rfl rfl rfl rfl rfl rfl)
     have H0 : z0 3 ⟨[(9, .B 18 0)], [], [], [], 21, [(100, .B 18 1)], [], [], 21⟩ := A0 _ _ (wl htt rfl rfl rfl rfl rfl rfl)
     have I0 : z0 4 ⟨[(100, .B 18 1)], [], [], [(18, .box (cC2 m0) 43)], 21, [(101, .a (cC6 m0.Act))], [], [], 21⟩ := A0 _ _ (wl htt rfl rfl rfl rfl rfl rfl)
     have J0 : z0 5 ⟨[(5, .S 19)], [], [], [], 21, [(102, .S 19)], [], [], 21⟩ := A0 _ _ (wl htt rfl rfl rfl rfl rfl rfl)
     have K0 : z0 6 ⟨[(9, .B 18 0)], [], [], [], 21, [(103, .B 18 4)], [], [], 21⟩ := A0 _ _ (wl htt rfl rfl rfl rfl rfl rfl)
     have L0 : z0 7 ⟨[(103, .B 18 4)], [], [], [(18, .box (cC2 m0) 43)], 21, [(104, .I m0.To)], [], [], 21⟩ := A0 _ _ (wl htt rfl rfl rfl rfl rfl rfl)
     obtain ⟨M0, O0, h⟩ := ob h
     have Q0 : z0 8 ⟨[(102, .S 19), (104, .I m0.To)], [], [], [(19, .own (rI .i64) x0 true)], 21, [(105, .I M0)], [], [], 21⟩ := A0 _ _ (wO rfl rfl rfl (fun _ _ _ _ _ _ _ k => wc (z80_ct N x0 m0.To _ O0) [(0, .sl 19)] [19] rfl rfl rfl rfl rfl rfl rfl rfl (.inr ⟨rfl, trivial⟩) rfl (k)) rfl)
     have R0 : z0 9 ⟨[(9, .B 18 0)], [], [], [], 21, [(106, .B 18 5)], [], [], 21⟩ := A0 _ _ (wl htt rfl rfl rfl rfl rfl rfl)
     have S0 : z0 10 ⟨[(106, .B 18 5)], [], [], [(18, .box (cC2 m0) 43)], 21, [(107, .O m0.Again)], [], [], 21⟩ := A0 _ _ (wl htt rfl rfl rfl rfl rfl rfl)
     have T0 : z0 11 ⟨[(99, .I o), (101, .a (cC6 m0.Act)), (105, .I M0), (107, .O m0.Again)], [], [], [], 21, [(108, .a [.I o, .I m0.Act.From, .I m0.Act.To, .I m0.Act.Label, .I M0, .b m0.Again])], [], [], 21⟩ := A0 _ _ (wl htt rfl rfl rfl rfl rfl rfl)
     have U0 : z0 12 ⟨[(108, .a [.I o, .I m0.Act.From, .I m0.Act.To, .I m0.Act.Label, .I M0, .b m0.Again])], [], [], [], 21, [(109, .S 21)], [], [(21, .own rR2 ([(⟨o, m0.Act, M0, m0.Again⟩ : T2)] : List T2) true)], 22⟩ := A0 _ _ (wO rfl rfl rfl (fun _ _ _ _ _ _ _ k => WPr.bs (cs := [.I o, .I m0.Act.From, .I m0.Act.To, .I m0.Act.Label, .I M0, .b m0.Again]) oO2 htt ([(⟨o, m0.Act, M0, m0.Again⟩ : T2)] : List T2) rfl rfl rfl rfl rfl rfl (by kernel_rfl) (by exact (an (an rfl (an (an rfl (an rfl rfl)) (an rfl rfl))) rfl)) rfl (k)) rfl)
     obtain ⟨V0, X0, h⟩ := ob h
     have Y0 : z0 13 ⟨[(98, .S 13), (109, .S 21)], [], [(13, .own rR2 U true)], [(21, .own rR2 ([(⟨o, m0.Act, M0, m0.Again⟩ : T2)] : List T2) true)], 22, [(110, .S 22)], [], [(13, .gone), (22, .own rR2 V0 true)], 23⟩ := A0 _ _ (wO rfl rfl rfl (fun _ _ _ _ _ _ _ k => WPr.app htt X0 (by exact (srcO rfl)) rfl rfl rfl rfl rfl rfl rfl rfl rfl rfl (k)) rfl)
     have Z0 : z0 14 ⟨[(4, .B 6 0)], [], [], [], 23, [(111, .B 6 6)], [], [], 23⟩ := A0 _ _ (wl htt rfl rfl rfl rfl rfl rfl)
     have a1 : z0 15 ⟨[(110, .S 22), (111, .B 6 6)], [(0, .sl rS g_.Roles), (1, .sl rR0 g_.Decls)], [(6, .box [.s g_.Name, .sl 0, .sl 1, .I g_.States, .I 0, .I 0, .sl 13, .sl 20] 27)], [(22, .own rR2 V0 true)], 23, [], [], [(6, .box [.s g_.Name, .sl 0, .sl 1, .I g_.States, .I 0, .I 0, .sl 22, .sl 20] 27)], 23⟩ := A0 _ _ (wl htt rfl rfl rfl rfl rfl rfl)
     exact wD (t := ⟨[(1, .B 4 0), (2, .B 5 0), (4, .B 6 0), (5, .S 19), (6, .I o), (7, .S 12), (8, .I Z)], [(4, .box (cC4 0 1 2 3 g_) 27), (5, .box [.s (str []), .nil, .nil, .I 0, .I 0, .I 0, .nil, .nil] 27), (6, .box [.s g_.Name, .sl 0, .sl 1, .I g_.States, .I 0, .I 0, .sl 22, .sl 20] 27), (12, .own (rI .i64) G true), (19, .own (rI .i64) x0 true), (20, .own rR8 y0 true), (22, .own rR2 V0 true)], (vV4 0 1 2 3 g_ []), 23⟩) [0, 1, 0, 0, 8, 0, 0, 64, 224, 0, 512, 2044, 4092, 8191, 16383, 32767] (.cons (B0 _ _ C0) (.cons (B0 _ _ D0) (.cons (B0 _ _ G0) (.cons (B0 _ _ H0) (.cons (B0 _ _ I0) (.cons (B0 _ _ J0) (.cons (B0 _ _ K0) (.cons (B0 _ _ L0) (.cons (B0 _ _ Q0) (.cons (B0 _ _ R0) (.cons (B0 _ _ S0) (.cons (B0 _ _ T0) (.cons (B0 _ _ U0) (.cons (B0 _ _ Y0) (.cons (B0 _ _ Z0) (.cons (B0 _ _ a1) .nil)))))))))))))))) (by kernel_rfl) (by kernel_rfl) (by kernel_rfl) (by kernel_rfl) (wb (wg (wx [] ⟨[(1, .B 4 0), (2, .B 5 0), (4, .B 6 0), (5, .S 19), (6, .I o), (7, .S 12), (8, .I (w64 (Z + 1)))], [(4, .box (cC4 0 1 2 3 g_) 27), (5, .box [.s (str []), .nil, .nil, .I 0, .I 0, .I 0, .nil, .nil] 27), (6, .box [.s g_.Name, .sl 0, .sl 1, .I g_.States, .I 0, .I 0, .sl 22, .sl 20] 27), (12, .own (rI .i64) G true), (19, .own (rI .i64) x0 true), (20, .own rR8 y0 true), (22, .own rR2 V0 true)], (vV4 0 1 2 3 g_ []), 23⟩ htt 3 (by kernel_rfl) (wn (wu [(13, .sl 22), (14, .sl 20), (15, .sl 19)] (ih153 (V0, y0, x0, (w64 (Z + 1))) h) rfl rfl rfl rfl)))))
    refine wo (?_)
    refine wI (σ := (List T8) × Int) (fun st => ⟨[(1, .B 4 0), (2, .B 5 0), (4, .B 6 0), (5, .S 19), (6, .I o), (7, .S 12), (8, .I Z), (9, .B 18 0), (10, .I st.2)], [(4, .box (cC4 0 1 2 3 g_) 27), (5, .box [.s (str []), .nil, .nil, .I 0, .I 0, .I 0, .nil, .nil] 27), (6, .box [.s g_.Name, .sl 0, .sl 1, .I g_.States, .I 0, .I 0, .sl 13, .sl 20] 27), (12, .own (rI .i64) G true), (13, .own rR2 U true), (18, .box (cC2 m0) 43), (19, .own (rI .i64) x0 true), (20, .own rR8 st.1 true)], (vV4 0 1 2 3 g_ []), 21⟩) (fun n st => z34_l6 N g_ o G U Z (z34_l4 N g_ o (z34_l2 N g_ n72) G n84) m0 x0 n st.1 st.2) (r := r) (fun _ => rfl) ?_ (fun ih => ?_)
    ·intro n86 ih165
     rintro ⟨b1, c1⟩ h
     replace h : z34_l6 N g_ o G U Z (z34_l4 N g_ o (z34_l2 N g_ n72) G n84) m0 x0 (n86 + 1) b1 c1 = some r := h
     unfold z34_l6 at h
     refine wq (wq (wg (wx [] ⟨[(1, .B 4 0), (2, .B 5 0), (4, .B 6 0), (5, .S 19), (6, .I o), (7, .S 12), (8, .I Z), (9, .B 18 0), (10, .I c1), (67, .O (decide (c1 < (g_.Timeouts.length : Int))))], [(4, .box (cC4 0 1 2 3 g_) 27), (5, .box [.s (str []), .nil, .nil, .I 0, .I 0, .I 0, .nil, .nil] 27), (6, .box [.s g_.Name, .sl 0, .sl 1, .I g_.States, .I 0, .I 0, .sl 13, .sl 20] 27), (12, .own (rI .i64) G true), (13, .own rR2 U true), (18, .box (cC2 m0) 43), (19, .own (rI .i64) x0 true), (20, .own rR8 b1 true)], (vV4 0 1 2 3 g_ []), 21⟩ htt 5 (by kernel_rfl) (wn (?_)))))
     rcases oc' h with ⟨hc, h⟩ | ⟨hc, h⟩
     ·exact wf hc rfl (wz rfl (wu [] (j163 b1 h) rfl rfl rfl rfl))
     refine wt hc rfl (wi (wq (wo (wq (wN (fun d1 e1 f1 => ?_))))))
     have g1 : d1 0 ⟨[(1, .B 4 0)], [], [], [], 21, [(70, .B 4 7)], [], [], 21⟩ := e1 _ _ (wl htt rfl rfl rfl rfl rfl rfl)
     have i1 : d1 1 ⟨[(70, .B 4 7)], (vV4 0 1 2 3 g_ []), [], [(4, .box (cC4 0 1 2 3 g_) 27)], 21, [(71, .S 3)], [], [], 21⟩ := e1 _ _ (wl htt rfl rfl rfl rfl rfl rfl)
     have k1 : d1 2 ⟨[(10, .I c1)], [], [], [], 21, [(72, .I c1)], [], [], 21⟩ := e1 _ _ (wl htt rfl rfl rfl rfl rfl rfl)
     obtain ⟨l1, m1, h⟩ := ob h
     have o1 : d1 3 ⟨[(71, .S 3), (72, .I c1)], [(3, .sl rR8 g_.Timeouts)], [], [], 21, [(73, .P 21 0)], [(21, .pl (cC8 l1))], [], 22⟩ := e1 _ _ (wO rfl rfl rfl (fun _ _ _ _ _ _ _ k => wj oO8 htt m1 rfl rfl rfl rfl rfl rfl rfl rfl rfl (k)) rfl)
     have p1 : d1 4 ⟨[(73, .P 21 0)], [(21, .pl (cC8 l1))], [], [], 22, [(74, .P 21 2)], [], [], 22⟩ := e1 _ _ (wl htt rfl rfl rfl rfl rfl rfl)
     have q1 : d1 5 ⟨[(74, .P 21 2)], [(21, .pl (cC8 l1))], [], [], 22, [(75, .I l1.Else)], [], [], 22⟩ := e1 _ _ (wl htt rfl rfl rfl rfl rfl rfl)
     have s1 : d1 6 ⟨[(7, .S 12)], [], [], [], 22, [(76, .S 12)], [], [], 22⟩ := e1 _ _ (wl htt rfl rfl rfl rfl rfl rfl)
     have t1 : d1 7 ⟨[(8, .I Z)], [], [], [], 22, [(77, .I Z)], [], [], 22⟩ := e1 _ _ (wl htt rfl rfl rfl rfl rfl rfl)
     obtain ⟨u1, v1, h⟩ := ob h
     have y1 : d1 8 ⟨[(76, .S 12), (77, .I Z)], [], [], [(12, .own (rI .i64) G true)], 22, [(78, .P 22 0)], [(22, .el 12 ((Z).toNat * ((rI .i64)).sz))], [], 23⟩ := e1 _ _ (wO rfl rfl rfl (fun _ _ _ _ _ _ _ k => wX htt v1 rfl rfl rfl rfl rfl rfl rfl rfl rfl (k)) rfl)
     have z1 : d1 9 ⟨[(78, .P 22 0)], [(22, .el 12 ((Z).toNat * ((rI .i64)).sz))], [], [(12, .own (rI .i64) G true)], 23, [(79, .I u1)], [], [], 23⟩ := e1 _ _ (wO rfl rfl rfl (fun _ _ _ _ _ _ _ k => wL (oI .i64) htt v1 rfl rfl rfl rfl rfl rfl rfl rfl rfl rfl (k)) rfl)
     have A1 : d1 10 ⟨[(75, .I l1.Else), (79, .I u1)], [], [], [], 23, [(80, .O (l1.Else == u1))], [], [], 23⟩ := e1 _ _ (wl htt rfl rfl rfl rfl rfl rfl)
     refine wD (t := ⟨[(1, .B 4 0), (2, .B 5 0), (4, .B 6 0), (5, .S 19), (6, .I o), (7, .S 12), (8, .I Z), (9, .B 18 0), (10, .I c1), (80, .O (l1.Else == u1))], [(4, .box (cC4 0 1 2 3 g_) 27), (5, .box [.s (str []), .nil, .nil, .I 0, .I 0, .I 0, .nil, .nil] 27), (6, .box [.s g_.Name, .sl 0, .sl 1, .I g_.States, .I 0, .I 0, .sl 13, .sl 20] 27), (12, .own (rI .i64) G true), (13, .own rR2 U true), (18, .box (cC2 m0) 43), (19, .own (rI .i64) x0 true), (20, .own rR8 b1 true)], (vV4 0 1 2 3 g_ []), 23⟩) [0, 1, 0, 7, 15, 31, 0, 0, 192, 448, 1023] (.cons (f1 _ _ g1) (.cons (f1 _ _ i1) (.cons (f1 _ _ k1) (.cons (f1 _ _ o1) (.cons (f1 _ _ p1) (.cons (f1 _ _ q1) (.cons (f1 _ _ s1) (.cons (f1 _ _ t1) (.cons (f1 _ _ y1) (.cons (f1 _ _ z1) (.cons (f1 _ _ A1) .nil))))))))))) (by kernel_rfl) (by kernel_rfl) (by kernel_rfl) (by kernel_rfl) (?_)
     rcases oc' h with ⟨hc, h⟩ | ⟨hc, h⟩
     ·exact wf hc rfl (wi (wb (wg (wx [] ⟨[(1, .B 4 0), (2, .B 5 0), (4, .B 6 0), (5, .S 19), (6, .I o), (7, .S 12), (8, .I Z), (9, .B 18 0), (10, .I (w64 (c1 + 1)))], [(4, .box (cC4 0 1 2 3 g_) 27), (5, .box [.s (str []), .nil, .nil, .I 0, .I 0, .I 0, .nil, .nil] 27), (6, .box [.s g_.Name, .sl 0, .sl 1, .I g_.States, .I 0, .I 0, .sl 13, .sl 20] 27), (12, .own (rI .i64) G true), (13, .own rR2 U true), (18, .box (cC2 m0) 43), (19, .own (rI .i64) x0 true), (20, .own rR8 b1 true)], (vV4 0 1 2 3 g_ []), 23⟩ htt 3 (by kernel_rfl) (wn (wu [] (ih165 (b1, (w64 (c1 + 1))) h) rfl rfl rfl rfl))))))
     refine wt hc rfl (wN (fun B1 C1 D1 => ?_))
     have G1 : B1 0 ⟨[(4, .B 6 0)], [], [], [], 23, [(81, .B 6 7)], [], [], 23⟩ := C1 _ _ (wl htt rfl rfl rfl rfl rfl rfl)
     have H1 : B1 1 ⟨[(81, .B 6 7)], [(0, .sl rS g_.Roles), (1, .sl rR0 g_.Decls)], [], [(6, .box [.s g_.Name, .sl 0, .sl 1, .I g_.States, .I 0, .I 0, .sl 13, .sl 20] 27)], 23, [(82, .S 20)], [], [], 23⟩ := C1 _ _ (wl htt rfl rfl rfl rfl rfl rfl)
     have I1 : B1 2 ⟨[(6, .I o)], [], [], [], 23, [(83, .I o)], [], [], 23⟩ := C1 _ _ (wl htt rfl rfl rfl rfl rfl rfl)
     have J1 : B1 3 ⟨[(1, .B 4 0)], [], [], [], 23, [(84, .B 4 7)], [], [], 23⟩ := C1 _ _ (wl htt rfl rfl rfl rfl rfl rfl)
     have K1 : B1 4 ⟨[(84, .B 4 7)], (vV4 0 1 2 3 g_ []), [], [(4, .box (cC4 0 1 2 3 g_) 27)], 23, [(85, .S 3)], [], [], 23⟩ := C1 _ _ (wl htt rfl rfl rfl rfl rfl rfl)
     have L1 : B1 5 ⟨[(10, .I c1)], [], [], [], 23, [(86, .I c1)], [], [], 23⟩ := C1 _ _ (wl htt rfl rfl rfl rfl rfl rfl)
     obtain ⟨M1, O1, h⟩ := ob h
     have Q1 : B1 6 ⟨[(85, .S 3), (86, .I c1)], [(3, .sl rR8 g_.Timeouts)], [], [], 23, [(87, .P 23 0)], [(23, .pl (cC8 M1))], [], 24⟩ := C1 _ _ (wO rfl rfl rfl (fun _ _ _ _ _ _ _ k => wj oO8 htt O1 rfl rfl rfl rfl rfl rfl rfl rfl rfl (k)) rfl)
     have R1 : B1 7 ⟨[(87, .P 23 0)], [(23, .pl (cC8 M1))], [], [], 24, [(88, .P 23 1)], [], [], 24⟩ := C1 _ _ (wl htt rfl rfl rfl rfl rfl rfl)
     have S1 : B1 8 ⟨[(88, .P 23 1)], [(23, .pl (cC8 M1))], [], [], 24, [(89, .I M1.Ticks)], [], [], 24⟩ := C1 _ _ (wl htt rfl rfl rfl rfl rfl rfl)
     have T1 : B1 9 ⟨[(4, .B 6 0)], [], [], [], 24, [(90, .B 6 6)], [], [], 24⟩ := C1 _ _ (wl htt rfl rfl rfl rfl rfl rfl)
     have U1 : B1 10 ⟨[(90, .B 6 6)], [(0, .sl rS g_.Roles), (1, .sl rR0 g_.Decls)], [], [(6, .box [.s g_.Name, .sl 0, .sl 1, .I g_.States, .I 0, .I 0, .sl 13, .sl 20] 27)], 24, [(91, .S 13)], [], [], 24⟩ := C1 _ _ (wl htt rfl rfl rfl rfl rfl rfl)
     have V1 : B1 11 ⟨[(91, .S 13)], [], [], [(13, .own rR2 U true)], 24, [(92, .I (U.length : Int))], [], [], 24⟩ := C1 _ _ (wl htt rfl rfl rfl rfl rfl rfl)
     have X1 : B1 12 ⟨[(83, .I o), (89, .I M1.Ticks), (92, .I (U.length : Int))], [], [], [], 24, [(93, .a [.I o, .I M1.Ticks, .I (U.length : Int)])], [], [], 24⟩ := C1 _ _ (wl htt rfl rfl rfl rfl rfl rfl)
     have Y1 : B1 13 ⟨[(93, .a [.I o, .I M1.Ticks, .I (U.length : Int)])], [], [], [], 24, [(94, .S 24)], [], [(24, .own rR8 ([(⟨o, M1.Ticks, (U.length : Int)⟩ : T8)] : List T8) true)], 25⟩ := C1 _ _ (wO rfl rfl rfl (fun _ _ _ _ _ _ _ k => WPr.bs (cs := [.I o, .I M1.Ticks, .I (U.length : Int)]) oO8 htt ([(⟨o, M1.Ticks, (U.length : Int)⟩ : T8)] : List T8) rfl rfl rfl rfl rfl rfl (by kernel_rfl) (by exact (an (an rfl (an rfl rfl)) rfl)) rfl (k)) rfl)
     obtain ⟨Z1, a2, h⟩ := ob h
     have b2 : B1 14 ⟨[(82, .S 20), (94, .S 24)], [], [(20, .own rR8 b1 true)], [(24, .own rR8 ([(⟨o, M1.Ticks, (U.length : Int)⟩ : T8)] : List T8) true)], 25, [(95, .S 25)], [], [(20, .gone), (25, .own rR8 Z1 true)], 26⟩ := C1 _ _ (wO rfl rfl rfl (fun _ _ _ _ _ _ _ k => WPr.app htt a2 (by exact (srcO rfl)) rfl rfl rfl rfl rfl rfl rfl rfl rfl rfl (k)) rfl)
     have c2 : B1 15 ⟨[(4, .B 6 0)], [], [], [], 26, [(96, .B 6 7)], [], [], 26⟩ := C1 _ _ (wl htt rfl rfl rfl rfl rfl rfl)
     have d2 : B1 16 ⟨[(95, .S 25), (96, .B 6 7)], [(0, .sl rS g_.Roles), (1, .sl rR0 g_.Decls)], [(6, .box [.s g_.Name, .sl 0, .sl 1, .I g_.States, .I 0, .I 0, .sl 13, .sl 20] 27)], [(25, .own rR8 Z1 true)], 26, [], [], [(6, .box [.s g_.Name, .sl 0, .sl 1, .I g_.States, .I 0, .I 0, .sl 13, .sl 25] 27)], 26⟩ := C1 _ _ (wl htt rfl rfl rfl rfl rfl rfl)
     exact wD (t := ⟨[(1, .B 4 0), (2, .B 5 0), (4, .B 6 0), (5, .S 19), (6, .I o), (7, .S 12), (8, .I Z), (9, .B 18 0), (10, .I c1)], [(4, .box (cC4 0 1 2 3 g_) 27), (5, .box [.s (str []), .nil, .nil, .I 0, .I 0, .I 0, .nil, .nil] 27), (6, .box [.s g_.Name, .sl 0, .sl 1, .I g_.States, .I 0, .I 0, .sl 13, .sl 25] 27), (12, .own (rI .i64) G true), (13, .own rR2 U true), (18, .box (cC2 m0) 43), (19, .own (rI .i64) x0 true), (25, .own rR8 Z1 true)], (vV4 0 1 2 3 g_ []), 26⟩) [0, 1, 0, 0, 8, 0, 56, 120, 248, 0, 512, 1536, 4092, 8188, 16383, 32767, 65535] (.cons (D1 _ _ G1) (.cons (D1 _ _ H1) (.cons (D1 _ _ I1) (.cons (D1 _ _ J1) (.cons (D1 _ _ K1) (.cons (D1 _ _ L1) (.cons (D1 _ _ Q1) (.cons (D1 _ _ R1) (.cons (D1 _ _ S1) (.cons (D1 _ _ T1) (.cons (D1 _ _ U1) (.cons (D1 _ _ V1) (.cons (D1 _ _ X1) (.cons (D1 _ _ Y1) (.cons (D1 _ _ b2) (.cons (D1 _ _ c2) (.cons (D1 _ _ d2) .nil))))))))))))))))) (by kernel_rfl) (by kernel_rfl) (by kernel_rfl) (by kernel_rfl) (wb (wg (wx [] ⟨[(1, .B 4 0), (2, .B 5 0), (4, .B 6 0), (5, .S 19), (6, .I o), (7, .S 12), (8, .I Z), (9, .B 18 0), (10, .I (w64 (c1 + 1)))], [(4, .box (cC4 0 1 2 3 g_) 27), (5, .box [.s (str []), .nil, .nil, .I 0, .I 0, .I 0, .nil, .nil] 27), (6, .box [.s g_.Name, .sl 0, .sl 1, .I g_.States, .I 0, .I 0, .sl 13, .sl 25] 27), (12, .own (rI .i64) G true), (13, .own rR2 U true), (18, .box (cC2 m0) 43), (19, .own (rI .i64) x0 true), (25, .own rR8 Z1 true)], (vV4 0 1 2 3 g_ []), 26⟩ htt 3 (by kernel_rfl) (wn (wu [(20, .sl 25)] (ih165 (Z1, (w64 (c1 + 1))) h) rfl rfl rfl rfl)))))
    exact wu [(20, .sl 14)] (ih N (X, 0) h) rfl rfl rfl rfl
   rcases oc' h with ⟨hc, h⟩ | ⟨hc, h⟩
   ·exact wf hc rfl (wi (wu [(19, .sl 15)] (j162 Y h) rfl rfl rfl rfl))
   refine wt hc rfl (wg (wx [3, 4, 5] ⟨[(1, .B 4 0), (2, .B 5 0), (4, .B 6 0), (6, .I o), (7, .S 12), (8, .I Z), (9, .B 18 0), (58, .S 15), (60, .I m0.To)], [(4, .box (cC4 0 1 2 3 g_) 27), (5, .box [.s (str []), .nil, .nil, .I 0, .I 0, .I 0, .nil, .nil] 27), (6, .box [.s g_.Name, .sl 0, .sl 1, .I g_.States, .I 0, .I 0, .sl 13, .sl 14] 27), (12, .own (rI .i64) G true), (13, .own rR2 U true), (14, .own rR8 X true), (15, .own (rI .i64) Y true), (18, .box (cC2 m0) 43)], (vV4 0 1 2 3 g_ []), 19⟩ htt 3 (by kernel_rfl) (WPr.bs (cs := [.I m0.To]) (oI .i64) htt ([m0.To] : List Int) rfl rfl rfl rfl rfl rfl (by kernel_rfl) (by exact (an rfl rfl)) rfl (?_))))
   obtain ⟨e2, f2, h⟩ := ob h
   exact WPr.app htt f2 (by exact (srcO rfl)) rfl rfl rfl rfl rfl rfl rfl rfl rfl rfl (wx [] ⟨[(1, .B 4 0), (2, .B 5 0), (4, .B 6 0), (5, .S 20), (6, .I o), (7, .S 12), (8, .I Z), (9, .B 18 0)], [(4, .box (cC4 0 1 2 3 g_) 27), (5, .box [.s (str []), .nil, .nil, .I 0, .I 0, .I 0, .nil, .nil] 27), (6, .box [.s g_.Name, .sl 0, .sl 1, .I g_.States, .I 0, .I 0, .sl 13, .sl 14] 27), (12, .own (rI .i64) G true), (13, .own rR2 U true), (14, .own rR8 X true), (18, .box (cC2 m0) 43), (20, .own (rI .i64) e2 true)], (vV4 0 1 2 3 g_ []), 21⟩ htt 1 (by kernel_rfl) (wn (wu [(19, .sl 20)] (j162 e2 h) rfl rfl rfl rfl)))
  exact wu [(13, .sl 8), (14, .sl 9), (15, .sl 10)] (ih N (j, l, m, 0) h) rfl rfl rfl rfl
 exact wu [(8, .nil), (9, .nil), (10, .sl 7)] (ih N (([] : List T2), ([] : List T8), ([g_.Start] : List Int), 0) h) rfl rfl rfl rfl
theorem z35_ct (N : Nat) (g_ : T4) (r : (List Int) × Int) (h : z35 N g_ = some r) :
 Fn Tryz.prog 35 ⟨4, [.a (cC4 0 1 2 3 g_)], (vV4 0 1 2 3 g_ []), [], 5, .t [.inl (.sl 4), .inl (.I r.2)], [], [(4, .own (rI .i64) r.1 true)]⟩ := by
 refine Fn.intro _ _ Tryz.func35 rfl (by kernel_rfl) rfl (fun E F w => ?_)
 unfold z35 at h
 refine wq (wg (wx [] ⟨[(1, .B 4 0), (2, .c .nil), (3, .I 0)], [(4, .box (cC4 0 1 2 3 g_) 27)], (vV4 0 1 2 3 g_ []), 5⟩ htt 3 (by kernel_rfl) (wn (wq (wq (wg (ws htt 1 rfl (?_))))))))
 obtain ⟨x1, d, h⟩ := ob h
 refine wc (z22_ct N g_ _ d) [(0, .sl 0), (1, .sl 1), (2, .sl 2), (3, .sl 3)] [] rfl rfl rfl rfl rfl rfl rfl rfl (.inl rfl) rfl (wx [] ⟨[(1, .B 4 0), (2, .c .nil), (3, .I 0), (6, .O (!x1))], [(4, .box (cC4 0 1 2 3 g_) 27)], (vV4 0 1 2 3 g_ []), 5⟩ htt 1 (by kernel_rfl) (wn (?_)))
 rcases oc h with ⟨hc, h⟩ | ⟨hc, h⟩
 ·refine wt hc rfl (wq (wg (ws htt 2 rfl (wn (?_)))))
  cases h
  exact we htt Tryz.func35 [(4, .nil)] rfl rfl rfl rfl
 refine wf hc rfl (wi (wq (wg (wx [3, 4, 5] ⟨[(7, .a (cC4 0 1 2 3 g_)), (9, .I g_.End)], [], (vV4 0 1 2 3 g_ []), 5⟩ htt 3 (by kernel_rfl) (?_)))))
 obtain ⟨x2, e, h⟩ := ob h
 refine wc (z67_ct N g_ g_.End true _ e) [(0, .sl 0), (1, .sl 1), (2, .sl 2), (3, .sl 3)] [] rfl rfl rfl rfl rfl rfl rfl rfl (.inl rfl) rfl (wx [] ⟨[(2, .S 5), (3, .I 0)], [(5, .own (rI .i64) x2 true)], (vV4 0 1 2 3 g_ []), 6⟩ htt 2 (by kernel_rfl) (wn (?_)))
 cases h
 exact we htt Tryz.func35 [(4, .sl 5)] rfl rfl rfl rfl
theorem z36_ct (N : Nat) (g_ : T4) (r : (List Int) × Int) (h : z36 N g_ = some r) :
 Fn Tryz.prog 36 ⟨4, [.a (cC4 0 1 2 3 g_)], (vV4 0 1 2 3 g_ []), [], 5, .t [.inl (.sl 4), .inl (.I r.2)], [], [(4, .own (rI .i64) r.1 true)]⟩ := by
 refine Fn.intro _ _ Tryz.func36 rfl (by kernel_rfl) rfl (fun E F w => ?_)
 unfold z36 at h
 refine wq (wg (wx [] ⟨[(1, .B 4 0), (2, .c .nil), (3, .I 0)], [(4, .box (cC4 0 1 2 3 g_) 27)], (vV4 0 1 2 3 g_ []), 5⟩ htt 3 (by kernel_rfl) (wn (wq (wq (wg (ws htt 1 rfl (?_))))))))
 obtain ⟨x1, d, h⟩ := ob h
 refine wc (z19_ct N g_ _ d) [(0, .sl 0), (1, .sl 1), (2, .sl 2), (3, .sl 3)] [] rfl rfl rfl rfl rfl rfl rfl rfl (.inl rfl) rfl (wx [] ⟨[(1, .B 4 0), (2, .c .nil), (3, .I 0), (6, .O (!x1))], [(4, .box (cC4 0 1 2 3 g_) 27)], (vV4 0 1 2 3 g_ []), 5⟩ htt 1 (by kernel_rfl) (wn (?_)))
 rcases oc h with ⟨hc, h⟩ | ⟨hc, h⟩
 ·refine wt hc rfl (wq (wg (ws htt 2 rfl (wn (?_)))))
  cases h
  exact we htt Tryz.func36 [(4, .nil)] rfl rfl rfl rfl
 refine wf hc rfl (wi (wq (wg (ws htt 1 rfl (?_)))))
 obtain ⟨x2, e, h⟩ := ob h
 refine wc (z81_ct N g_ _ e) [(0, .sl 0), (1, .sl 1), (2, .sl 2), (3, .sl 3)] [] rfl rfl rfl rfl rfl rfl rfl rfl (.inl rfl) rfl (wx [] ⟨[(2, .S 5), (3, .I 0)], [(5, .own (rI .i64) x2 true)], (vV4 0 1 2 3 g_ []), 6⟩ htt 2 (by kernel_rfl) (wn (?_)))
 cases h
 exact we htt Tryz.func36 [(4, .sl 5)] rfl rfl rfl rfl
theorem law18_GlobalValid_ct (N : Nat) (g_ : T4) (r : Bool) (h : law18_GlobalValid N g_ = some r) :
 Fn Tryz.prog 7 ⟨4, [.a (cC4 0 1 2 3 g_)], (vV4 0 1 2 3 g_ []), [], 4, .O r, [], []⟩ := by
 refine Fn.intro _ _ Tryz.func7 rfl (by kernel_rfl) rfl (fun E F w => ?_)
 unfold law18_GlobalValid at h
 refine wq (wg (ws htt 2 rfl (wn (wq (wq (wg (?_)))))))
 obtain ⟨x1, c, h⟩ := ob h
 refine wc (z12_ct N _ c) [] [] rfl rfl rfl rfl rfl rfl rfl rfl (.inl rfl) rfl (wx [3, 4, 5, 6] ⟨[(1, .B 4 0), (2, .O false), (13, .O (!x1))], [(4, .box (cC4 0 1 2 3 g_) 27)], (vV4 0 1 2 3 g_ []), 5⟩ htt 2 (by kernel_rfl) (?_))
 rcases oc h with ⟨hc, h⟩ | ⟨hc, h⟩
 ·refine wy 13 hc rfl (wx [] ⟨[(1, .B 4 0), (2, .O false), (17, .O true)], [(4, .box (cC4 0 1 2 3 g_) 27)], (vV4 0 1 2 3 g_ []), 5⟩ htt 4 (by kernel_rfl) (wn (wt rfl rfl (wq (wg (?_))))))
  obtain ⟨x2, d, h⟩ := ob h
  refine wc (z12_ct N _ d) [] [] rfl rfl rfl rfl rfl rfl rfl rfl (.inl rfl) rfl (wx [] ⟨[(2, .O x2)], [], (vV4 0 1 2 3 g_ []), 5⟩ htt 1 (by kernel_rfl) (wn (?_)))
  cases h
  exact we htt Tryz.func7 [] rfl rfl rfl rfl
 refine wy 13 hc rfl (ws htt 1 rfl (?_))
 obtain ⟨x3, e, h⟩ := ob h
 refine wc (z13_ct N g_ _ e) [(0, .sl 0), (1, .sl 1), (2, .sl 2), (3, .sl 3)] [] rfl rfl rfl rfl rfl rfl rfl rfl (.inl rfl) rfl (wx [] ⟨[(1, .B 4 0), (2, .O false), (17, .O (!x3))], [(4, .box (cC4 0 1 2 3 g_) 27)], (vV4 0 1 2 3 g_ []), 5⟩ htt 2 (by kernel_rfl) (wn (?_)))
 rcases oc h with ⟨hc, h⟩ | ⟨hc, h⟩
 ·refine wt hc rfl (wq (wg (?_)))
  obtain ⟨x4, f, h⟩ := ob h
  refine wc (z12_ct N _ f) [] [] rfl rfl rfl rfl rfl rfl rfl rfl (.inl rfl) rfl (wx [] ⟨[(2, .O x4)], [], (vV4 0 1 2 3 g_ []), 5⟩ htt 1 (by kernel_rfl) (wn (?_)))
  cases h
  exact we htt Tryz.func7 [] rfl rfl rfl rfl
 refine wf hc rfl (wi (wq (wg (ws htt 1 rfl (?_)))))
 obtain ⟨x5, g, h⟩ := ob h
 refine wc (z21_ct N g_ _ g) [(0, .sl 0), (1, .sl 1), (2, .sl 2), (3, .sl 3)] [] rfl rfl rfl rfl rfl rfl rfl rfl (.inl rfl) rfl (wx [] ⟨[(1, .B 4 0), (2, .O false), (3, .B 9 0), (4, .I x5.2)], [(4, .box (cC4 0 1 2 3 g_) 27), (9, .box (cC4 5 6 7 8 x5.1) 27)], (vV4 0 1 2 3 g_ (vV4 5 6 7 8 x5.1 [])), 10⟩ htt 6 (by kernel_rfl) (wn (wq (wg (ws htt 1 rfl (?_))))))
 obtain ⟨x6, i, h⟩ := ob h
 refine wc (z34_ct N g_ _ i) [(0, .sl 0), (1, .sl 1), (2, .sl 2), (3, .sl 3)] [] rfl rfl rfl rfl rfl rfl rfl rfl (.inl rfl) rfl (wx [] ⟨[(1, .B 4 0), (2, .O false), (3, .B 9 0), (4, .I x5.2), (5, .B 14 0), (6, .I x6.2)], [(4, .box (cC4 0 1 2 3 g_) 27), (9, .box (cC4 5 6 7 8 x5.1) 27), (14, .box (cC4 10 11 12 13 x6.1) 27)], (vV4 0 1 2 3 g_ (vV4 5 6 7 8 x5.1 (vV4 10 11 12 13 x6.1 []))), 15⟩ htt 6 (by kernel_rfl) (wn (wq (wg (ws htt 1 rfl (?_))))))
 obtain ⟨x7, j, h⟩ := ob h
 refine wc (z35_ct N g_ _ j) [(0, .sl 0), (1, .sl 1), (2, .sl 2), (3, .sl 3)] [] rfl rfl rfl rfl rfl rfl rfl rfl (.inl rfl) rfl (wx [] ⟨[(1, .B 4 0), (2, .O false), (3, .B 9 0), (4, .I x5.2), (5, .B 14 0), (6, .I x6.2), (7, .S 15), (8, .I x7.2)], [(4, .box (cC4 0 1 2 3 g_) 27), (9, .box (cC4 5 6 7 8 x5.1) 27), (14, .box (cC4 10 11 12 13 x6.1) 27), (15, .own (rI .i64) x7.1 true)], (vV4 0 1 2 3 g_ (vV4 5 6 7 8 x5.1 (vV4 10 11 12 13 x6.1 []))), 16⟩ htt 5 (by kernel_rfl) (wn (wq (wg (ws htt 1 rfl (?_))))))
 obtain ⟨x8, k, h⟩ := ob h
 refine wc (z36_ct N g_ _ k) [(0, .sl 0), (1, .sl 1), (2, .sl 2), (3, .sl 3)] [] rfl rfl rfl rfl rfl rfl rfl rfl (.inl rfl) rfl (wx [] ⟨[(1, .B 4 0), (2, .O false), (3, .B 9 0), (4, .I x5.2), (5, .B 14 0), (6, .I x6.2), (7, .S 15), (8, .I x7.2), (9, .S 16), (10, .I x8.2)], [(4, .box (cC4 0 1 2 3 g_) 27), (9, .box (cC4 5 6 7 8 x5.1) 27), (14, .box (cC4 10 11 12 13 x6.1) 27), (15, .own (rI .i64) x7.1 true), (16, .own (rI .i64) x8.1 true)], (vV4 0 1 2 3 g_ (vV4 5 6 7 8 x5.1 (vV4 10 11 12 13 x6.1 []))), 17⟩ htt 5 (by kernel_rfl) (wn (wq (wQ (by kernel_rfl) (by kernel_rfl) (WPq.sil htt 1 rfl (?_))))))
 obtain ⟨l, m, h⟩ := ob h
 refine qc (z22_ct N g_ _ m) [(0, .sl 0), (1, .sl 1), (2, .sl 2), (3, .sl 3)] [] rfl rfl rfl rfl rfl rfl rfl rfl rfl rfl rfl rfl (qx (rg 3 23) ⟨[(3, .B 9 0), (4, .I x5.2), (5, .B 14 0), (6, .I x6.2), (7, .S 15), (8, .I x7.2), (9, .S 16), (10, .I x8.2), (40, .O l), (41, .a (cC4 0 1 2 3 g_))], [(9, .box (cC4 5 6 7 8 x5.1) 27), (14, .box (cC4 10 11 12 13 x6.1) 27), (15, .own (rI .i64) x7.1 true), (16, .own (rI .i64) x8.1 true)], (vV4 0 1 2 3 g_ (vV4 5 6 7 8 x5.1 (vV4 10 11 12 13 x6.1 []))), 17⟩ htt 1 (by kernel_rfl) (?_))
 obtain ⟨o, p, h⟩ := ob h
 refine qc (z19_ct N g_ _ p) [(0, .sl 0), (1, .sl 1), (2, .sl 2), (3, .sl 3)] [] rfl rfl rfl rfl rfl rfl rfl rfl rfl rfl rfl rfl (qx (rg 6 20) ⟨[(3, .B 9 0), (4, .I x5.2), (5, .B 14 0), (6, .I x6.2), (7, .S 15), (8, .I x7.2), (9, .S 16), (10, .I x8.2), (44, .O (l == o))], [(9, .box (cC4 5 6 7 8 x5.1) 27), (14, .box (cC4 10 11 12 13 x6.1) 27), (15, .own (rI .i64) x7.1 true), (16, .own (rI .i64) x8.1 true)], (vV4 0 1 2 3 g_ (vV4 5 6 7 8 x5.1 (vV4 10 11 12 13 x6.1 []))), 17⟩ htt 2 (by kernel_rfl) (?_))
 rcases oc' h with ⟨hc, h⟩ | ⟨hc, h⟩
 ·refine qy 44 hc rfl (qx [] ⟨[(2, .O false)], [], (vV4 0 1 2 3 g_ []), 17⟩ htt 20 (by kernel_rfl) (qn (?_)))
  cases h
  exact we htt Tryz.func7 [] rfl rfl rfl rfl
 refine qy 44 hc rfl (qx (rg 11 15) ⟨[(3, .B 9 0), (5, .B 14 0), (7, .S 15), (8, .I x7.2), (9, .S 16), (10, .I x8.2), (49, .O (x5.2 == x6.2))], [(9, .box (cC4 5 6 7 8 x5.1) 27), (14, .box (cC4 10 11 12 13 x6.1) 27), (15, .own (rI .i64) x7.1 true), (16, .own (rI .i64) x8.1 true)], (vV4 0 1 2 3 g_ (vV4 5 6 7 8 x5.1 (vV4 10 11 12 13 x6.1 []))), 17⟩ htt 5 (by kernel_rfl) (?_))
 rcases oc' h with ⟨hc, h⟩ | ⟨hc, h⟩
 ·refine qy 49 hc rfl (qx [] ⟨[(2, .O false)], [], (vV4 0 1 2 3 g_ []), 17⟩ htt 15 (by kernel_rfl) (qn (?_)))
  cases h
  exact we htt Tryz.func7 [] rfl rfl rfl rfl
 refine qy 49 hc rfl (WPq.sil htt 2 rfl (?_))
 obtain ⟨q, s, h⟩ := ob h
 refine qc (z33_ct N x5.1 x6.1 _ s) [(0, .sl 5), (1, .sl 6), (2, .sl 7), (3, .sl 8), (4, .sl 10), (5, .sl 11), (6, .sl 12), (7, .sl 13)] [] rfl rfl rfl rfl rfl rfl rfl rfl rfl rfl rfl rfl (qx (rg 16 10) ⟨[(7, .S 15), (8, .I x7.2), (9, .S 16), (10, .I x8.2), (54, .O q)], [(15, .own (rI .i64) x7.1 true), (16, .own (rI .i64) x8.1 true)], (vV4 0 1 2 3 g_ []), 17⟩ htt 2 (by kernel_rfl) (?_))
 rcases oc' h with ⟨hc, h⟩ | ⟨hc, h⟩
 ·refine qy 54 hc rfl (qx [] ⟨[(2, .O false)], [], (vV4 0 1 2 3 g_ []), 17⟩ htt 10 (by kernel_rfl) (qn (?_)))
  cases h
  exact we htt Tryz.func7 [] rfl rfl rfl rfl
 refine qy 54 hc rfl (qx [21, 22, 23, 24, 25] ⟨[(7, .S 15), (9, .S 16), (59, .O (x7.2 == x8.2))], [(15, .own (rI .i64) x7.1 true), (16, .own (rI .i64) x8.1 true)], (vV4 0 1 2 3 g_ []), 17⟩ htt 5 (by kernel_rfl) (?_))
 rcases oc' h with ⟨hc, h⟩ | ⟨hc, h⟩
 ·refine qy 59 hc rfl (qx [] ⟨[(2, .O false)], [], (vV4 0 1 2 3 g_ []), 17⟩ htt 5 (by kernel_rfl) (qn (?_)))
  cases h
  exact we htt Tryz.func7 [] rfl rfl rfl rfl
 refine qy 59 hc rfl (WPq.sil htt 2 rfl (?_))
 obtain ⟨t, u, h⟩ := ob h
 refine qc (z27_ct N x7.1 x8.1 _ u) [(0, .sl 15), (1, .sl 16)] [15, 16] rfl rfl rfl rfl rfl rfl rfl rfl rfl rfl rfl rfl (qx [] ⟨[(2, .O t)], [], (vV4 0 1 2 3 g_ []), 17⟩ htt 2 (by kernel_rfl) (qn (?_)))
 cases h
 exact we htt Tryz.func7 [] rfl rfl rfl rfl
end Gx
end
