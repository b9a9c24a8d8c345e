/- Each function of the statement computes what its plain definition says, part 2. -/
import Derived.Test.YtbaebccneokflaaGreatDoorGuardPartsWalk1
set_option linter.all false
section
set_option maxRecDepth 10000
set_option maxHeartbeats 4000000
open Go Go.Kx Go.Proofs Tryz
namespace Gx
theorem z145_ct (N : Nat) (r_ : Int) (r : Bool) (h : z145 N r_ = some r) :
  Fn Tryz.prog 145 ⟨0, [.c (.i .i32 r_)], [], [], 0, .c (.b r), [], []⟩ := by
  refine Fn.intro _ _ Tryz.func145 rfl (by kernel_rfl) rfl (fun E F w => ?_)
  unfold z145 at h
  refine WP.seq (WP.region (WPr.sil htt 1 rfl (WPr.nil (WP.seq (WP.region (WPr.silx [3, 4, 5, 6] ⟨[(0, .c (.i .i32 r_)), (5, .c (.b (decide (r_ < (32 : Int)))))], [], [], 0⟩ htt 3 (by kernel_rfl) (?_)))))))
  rcases oc h with ⟨hc, h⟩ | ⟨hc, h⟩
  · refine WPr.kb 5 hc rfl (WPr.silx [] ⟨[(2, .c (.b true))], [], [], 0⟩ htt 4 (by kernel_rfl) (WPr.nil (?_)))
    cases h
    exact WP.ret htt Tryz.func145 [] rfl rfl rfl rfl
  refine WPr.kb 5 hc rfl (WPr.silx [] ⟨[(2, .c (.b (decide (r_ > (126 : Int)))))], [], [], 0⟩ htt 4 (by kernel_rfl) (WPr.nil (?_)))
  cases h
  exact WP.ret htt Tryz.func145 [] rfl rfl rfl rfl
theorem z246_8_ct (N : Nat) (s_ : ByteArray) (truth_ : Bool) (r : Int) (h : z246_8 N s_ truth_ = some r) :
  Fn Tryz.prog 246 ⟨0, [.c (.s s_), .c (.cl 145 [] []), .c (.b truth_)], [], [], 0, .c (.i .i64 r), [], []⟩ := by
  refine Fn.intro _ _ Tryz.func246 rfl (by kernel_rfl) rfl (fun E F w => ?_)
  unfold z246_8 at h
  refine WP.seq (WP.region (WPr.sil htt 1 rfl (WPr.nil (WP.seq (WP.seq (WP.region (WPr.sil htt 1 rfl (WPr.rng htt rfl rfl rfl rfl rfl rfl rfl rfl (fun bk1 => WPr.silx [] ⟨[(1, .c (.cl 145 [] [])), (2, .c (.b truth_)), (6, .c (.i .i64 (0 : Int))), (10, .c (.v (.pointer (some ⟨bk1, 0, none⟩))))], [(0, .abs (itR bk1 s_ (0 : Nat)))], [], 1⟩ htt 0 (by kernel_rfl) (WPr.nil (?_)))))))))))
  refine WP.cut (σ := Nat) (fun st => ⟨[], [(0, .abs (itR bk1 s_ st))], [], 1⟩) (fun st => z246_8_k1 st = some r) ?_ (fun j1 => ?_)
  · intro vi0_1 h
    replace h : z246_8_k1 vi0_1 = some r := h
    unfold z246_8_k1 at h
    refine WP.seq (WP.region (WPr.sil htt 1 rfl (WPr.nil (?_))))
    cases h
    exact WP.ret htt Tryz.func246 [] rfl rfl rfl rfl
  refine WP.block (?_)
  refine WP.loopI (σ := Nat) (fun st => ⟨[(1, .c (.cl 145 [] [])), (2, .c (.b truth_)), (10, .c (.v (.pointer (some ⟨bk1, 0, none⟩))))], [(0, .abs (itR bk1 s_ st))], [], 1⟩) (fun n st => z246_8_l2 N s_ truth_ n st) (r := r) (fun _ => rfl) ?_ (fun ih => ?_)
  · intro n2 ih3
    intro vi0_3 h
    replace h : z246_8_l2 N s_ truth_ (n2 + 1) vi0_3 = some r := h
    unfold z246_8_l2 at h
    refine WP.seq (WP.region (?_))
    rcases oc' h with ⟨hc, h⟩ | ⟨hc, h⟩
    · exact WPr.nxtF 0 hc rfl rfl rfl rfl rfl rfl rfl (WPr.sil htt 1 rfl (WPr.nil (WP.seq (WP.condF rfl rfl (WP.exit rfl (WP.sub [] (j1 vi0_3 h) rfl rfl rfl rfl))))))
    refine WPr.nxtT 0 hc rfl rfl rfl rfl rfl rfl rfl (WPr.sil htt 1 rfl (WPr.nil (WP.seq (WP.condT rfl rfl (WP.skip (WP.block (WP.seq (WP.region (WPr.silx [] ⟨[(1, .c (.cl 145 [] [])), (2, .c (.b truth_)), (7, .c (.i .i64 ((vi0_3 : Nat) : Int))), (8, .c (.i .i32 ((Utf8.decode s_ vi0_3).1 : Int))), (10, .c (.v (.pointer (some ⟨bk1, 0, none⟩))))], [(0, .abs (itR bk1 s_ (vi0_3 + (Utf8.decode s_ vi0_3).2)))], [], 1⟩ htt 4 (by kernel_rfl) (WPr.nil (WP.seq (WP.region (WPr.sil htt 2 rfl (?_))))))))))))))
    obtain ⟨x10, hx10, h⟩ := ob h
    refine WPr.callc (z145_ct N ((Utf8.decode s_ vi0_3).1 : Int) _ hx10) [] [] rfl rfl rfl rfl rfl rfl rfl rfl rfl (.inl rfl) rfl (WPr.silx [] ⟨[(1, .c (.cl 145 [] [])), (2, .c (.b truth_)), (7, .c (.i .i64 ((vi0_3 : Nat) : Int))), (10, .c (.v (.pointer (some ⟨bk1, 0, none⟩)))), (19, .c (.b (x10 == truth_)))], [(0, .abs (itR bk1 s_ (vi0_3 + (Utf8.decode s_ vi0_3).2)))], [], 1⟩ htt 2 (by kernel_rfl) (WPr.nil (?_)))
    rcases oc h with ⟨hc, h⟩ | ⟨hc, h⟩
    · refine WP.condT hc rfl (WP.seq (WP.region (WPr.sil htt 2 rfl (WPr.nil (?_)))))
      cases h
      exact WP.ret htt Tryz.func246 [] rfl rfl rfl rfl
    exact WP.condF hc rfl (WP.skip (WP.inBlock (WP.sub [] (ih3 (vi0_3 + (Utf8.decode s_ vi0_3).2) h) rfl rfl rfl rfl)))
  exact WP.sub [] (ih N (0 : Nat) h) rfl rfl rfl rfl
theorem z213_9_ct (N : Nat) (s_ : ByteArray) (r : Int) (h : z213_9 N s_ = some r) :
  Fn Tryz.prog 213 ⟨0, [.c (.s s_), .c (.cl 145 [] [])], [], [], 0, .c (.i .i64 r), [], []⟩ := by
  refine Fn.intro _ _ Tryz.func213 rfl (by kernel_rfl) rfl (fun E F w => ?_)
  unfold z213_9 at h
  refine WP.seq (WP.region (WPr.sil htt 1 rfl (WPr.nil (WP.seq (WP.region (WPr.silx [2, 3] ⟨[(5, .c (.s s_)), (6, .c (.cl 145 [] []))], [], [], 0⟩ htt 2 (by kernel_rfl) (?_)))))))
  obtain ⟨x1, hx1, h⟩ := ob h
  refine WPr.call (z246_8_ct N s_ true _ hx1) [] [] rfl rfl rfl rfl rfl rfl rfl rfl (.inl rfl) rfl (WPr.silx [] ⟨[(4, .c (.i .i64 x1))], [], [], 0⟩ htt 1 (by kernel_rfl) (WPr.nil (?_)))
  cases h
  exact WP.ret htt Tryz.func213 [] rfl rfl rfl rfl
theorem z144_10_ct (N : Nat) (s_ : ByteArray) (r : Bool) (h : z144_10 N s_ = some r) :
  Fn Tryz.prog 144 ⟨0, [.c (.s s_), .c (.cl 145 [] [])], [], [], 0, .c (.b r), [], []⟩ := by
  refine Fn.intro _ _ Tryz.func144 rfl (by kernel_rfl) rfl (fun E F w => ?_)
  unfold z144_10 at h
  refine WP.seq (WP.region (WPr.sil htt 1 rfl (WPr.nil (WP.seq (WP.region (WPr.silx [2, 3, 4] ⟨[(5, .c (.s s_)), (6, .c (.cl 145 [] []))], [], [], 0⟩ htt 2 (by kernel_rfl) (?_)))))))
  obtain ⟨x1, hx1, h⟩ := ob h
  refine WPr.call (z213_9_ct N s_ _ hx1) [] [] rfl rfl rfl rfl rfl rfl rfl rfl (.inl rfl) rfl (WPr.silx [] ⟨[(4, .c (.b (decide (x1 ≥ (0 : Int)))))], [], [], 0⟩ htt 2 (by kernel_rfl) (WPr.nil (?_)))
  cases h
  exact WP.ret htt Tryz.func144 [] rfl rfl rfl rfl
theorem z80_ct (N : Nat) (s_ : T4) (v_ : T5) (r : Bool) (h : z80 N s_ v_ = some r) :
  Fn Tryz.prog 80 ⟨0, [.a [.i .i64 s_.Kind, .i .i64 s_.Lo, .i .i64 s_.Hi], .a [.i .i64 v_.Kind, .i .i64 v_.N, .s v_.S]], [], [], 0, .c (.b r), [], []⟩ := by
  refine Fn.intro _ _ Tryz.func80 rfl (by kernel_rfl) rfl (fun E F w => ?_)
  unfold z80 at h
  refine WP.seq (WP.region (WPr.silx [] ⟨[(2, .c (.bp 0 0)), (3, .c (.bp 1 0)), (4, .c (.b false))], [(0, .box [.i .i64 s_.Kind, .i .i64 s_.Lo, .i .i64 s_.Hi] 87), (1, .box [.i .i64 v_.Kind, .i .i64 v_.N, .s v_.S] 46)], [], 2⟩ htt 3 (by kernel_rfl) (WPr.nil (WP.seq (WP.seq (WP.regionQ (by kernel_rfl) (by kernel_rfl) (WPq.silx [6, 7, 8, 9, 10, 11, 12, 13, 14, 15, 16, 17, 18] ⟨[(2, .c (.bp 0 0)), (3, .c (.bp 1 0)), (4, .c (.b false)), (10, .c (.b (v_.Kind != s_.Kind)))], [(0, .box [.i .i64 s_.Kind, .i .i64 s_.Lo, .i .i64 s_.Hi] 87), (1, .box [.i .i64 v_.Kind, .i .i64 v_.N, .s v_.S] 46)], [], 2⟩ htt 6 (by kernel_rfl) (?_))))))))
  rcases oc h with ⟨hc, h⟩ | ⟨hc, h⟩
  · refine WPq.kb 10 hc rfl (WPq.silx [] ⟨[(3, .c (.bp 1 0)), (4, .c (.b false)), (23, .c (.b true))], [(1, .box [.i .i64 v_.Kind, .i .i64 v_.N, .s v_.S] 46)], [], 2⟩ htt 13 (by kernel_rfl) (WPq.nil (WP.condT rfl rfl (WP.seq (WP.region (WPr.sil htt 1 rfl (WPr.nil (?_))))))))
    cases h
    exact WP.ret htt Tryz.func80 [] rfl rfl rfl rfl
  refine WPq.kb 10 hc rfl (WPq.sil htt 1 rfl (?_))
  obtain ⟨x3, hx3, h⟩ := ob h
  refine WPq.call (z36_ct N v_ _ hx3) [] [] rfl rfl rfl rfl rfl rfl rfl rfl rfl rfl rfl rfl (WPq.silx [13, 14, 15, 16, 17, 18] ⟨[(2, .c (.bp 0 0)), (3, .c (.bp 1 0)), (4, .c (.b false)), (17, .c (.b (decide (x3 < s_.Lo))))], [(0, .box [.i .i64 s_.Kind, .i .i64 s_.Lo, .i .i64 s_.Hi] 87), (1, .box [.i .i64 v_.Kind, .i .i64 v_.N, .s v_.S] 46)], [], 2⟩ htt 5 (by kernel_rfl) (?_))
  rcases oc h with ⟨hc, h⟩ | ⟨hc, h⟩
  · refine WPq.kb 17 hc rfl (WPq.silx [] ⟨[(3, .c (.bp 1 0)), (4, .c (.b false)), (23, .c (.b true))], [(1, .box [.i .i64 v_.Kind, .i .i64 v_.N, .s v_.S] 46)], [], 2⟩ htt 6 (by kernel_rfl) (WPq.nil (WP.condT rfl rfl (WP.seq (WP.region (WPr.sil htt 1 rfl (WPr.nil (?_))))))))
    cases h
    exact WP.ret htt Tryz.func80 [] rfl rfl rfl rfl
  refine WPq.kb 17 hc rfl (WPq.sil htt 1 rfl (?_))
  obtain ⟨x4, hx4, h⟩ := ob h
  refine WPq.call (z36_ct N v_ _ hx4) [] [] rfl rfl rfl rfl rfl rfl rfl rfl rfl rfl rfl rfl (WPq.silx [] ⟨[(3, .c (.bp 1 0)), (4, .c (.b false)), (23, .c (.b (decide (x4 > s_.Hi))))], [(1, .box [.i .i64 v_.Kind, .i .i64 v_.N, .s v_.S] 46)], [], 2⟩ htt 4 (by kernel_rfl) (WPq.nil (?_)))
  rcases oc h with ⟨hc, h⟩ | ⟨hc, h⟩
  · refine WP.condT hc rfl (WP.seq (WP.region (WPr.sil htt 1 rfl (WPr.nil (?_)))))
    cases h
    exact WP.ret htt Tryz.func80 [] rfl rfl rfl rfl
  refine WP.condF hc rfl (WP.skip (WP.seq (WP.seq (WP.region (WPr.silx [] ⟨[(3, .c (.bp 1 0)), (4, .c (.b false)), (26, .c (.b (v_.Kind == (1 : Int))))], [(1, .box [.i .i64 v_.Kind, .i .i64 v_.N, .s v_.S] 46)], [], 2⟩ htt 3 (by kernel_rfl) (WPr.nil (?_)))))))
  rcases oc h with ⟨hc, h⟩ | ⟨hc, h⟩
  · refine WP.condT hc rfl (WP.seq (WP.region (WPr.silx [] ⟨[(4, .c (.b (v_.S.toList == (str []).toList)))], [], [], 2⟩ htt 4 (by kernel_rfl) (WPr.nil (?_)))))
    cases h
    exact WP.ret htt Tryz.func80 [] rfl rfl rfl rfl
  refine WP.condF hc rfl (WP.skip (WP.seq (WP.region (WPr.silx [4, 5, 6, 7, 8, 9] ⟨[(3, .c (.bp 1 0)), (33, .c (.b (v_.N == (0 : Int))))], [(1, .box [.i .i64 v_.Kind, .i .i64 v_.N, .s v_.S] 46)], [], 2⟩ htt 4 (by kernel_rfl) (?_)))))
  rcases oc' h with ⟨hc, h⟩ | ⟨hc, h⟩
  · refine WPr.kb 33 hc rfl (WPr.silx [] ⟨[(4, .c (.b false))], [], [], 2⟩ htt 6 (by kernel_rfl) (WPr.nil (?_)))
    cases h
    exact WP.ret htt Tryz.func80 [] rfl rfl rfl rfl
  refine WPr.kb 33 hc rfl (WPr.sil htt 2 rfl (?_))
  obtain ⟨x5, hx5, h⟩ := ob h
  refine WPr.call (z144_10_ct N v_.S _ hx5) [] [] rfl rfl rfl rfl rfl rfl rfl rfl (.inl rfl) rfl (WPr.silx [] ⟨[(4, .c (.b (!x5)))], [], [], 2⟩ htt 3 (by kernel_rfl) (WPr.nil (?_)))
  cases h
  exact WP.ret htt Tryz.func80 [] rfl rfl rfl rfl
theorem z33_ct (N : Nat) (l_ : (List T0)) (label_ : Int) (known_ : (List T5)) (r : Bool) (h : z33 N l_ label_ known_ = some r) :
  Fn Tryz.prog 33 ⟨2, [.c (.sl 0), .c (.i .i64 label_), .c (.sl 1)], [(0, .sl rR0 l_), (1, .sl rR5 known_)], [], 2, .c (.b r), [], []⟩ := by
  refine Fn.intro _ _ Tryz.func33 rfl (by kernel_rfl) rfl (fun E F w => ?_)
  unfold z33 at h
  refine WP.seq (WP.region (WPr.sil htt 1 rfl (WPr.nil (WP.seq (WP.seq (WP.region (WPr.silx [3, 4, 5, 6, 7, 8, 9, 10, 11, 12] ⟨[(0, .c (.sl 0)), (1, .c (.i .i64 label_)), (2, .c (.sl 1)), (6, .c (.b false)), (12, .c (.b (decide (label_ < (0 : Int)))))], [], [(0, .sl rR0 l_), (1, .sl rR5 known_)], 2⟩ htt 3 (by kernel_rfl) (?_))))))))
  rcases oc h with ⟨hc, h⟩ | ⟨hc, h⟩
  · refine WPr.kb 12 hc rfl (WPr.silx [] ⟨[(0, .c (.sl 0)), (2, .c (.sl 1)), (6, .c (.b false)), (22, .c (.b true))], [], [(0, .sl rR0 l_), (1, .sl rR5 known_)], 2⟩ htt 10 (by kernel_rfl) (WPr.nil (WP.condT rfl rfl (WP.seq (WP.region (WPr.sil htt 1 rfl (WPr.nil (?_))))))))
    cases h
    exact WP.ret htt Tryz.func33 [] rfl rfl rfl rfl
  refine WPr.kb 12 hc rfl (WPr.silx [9, 10, 11, 12] ⟨[(0, .c (.sl 0)), (2, .c (.sl 1)), (6, .c (.b false)), (18, .c (.b (decide (label_ ≥ (l_.length : Int)))))], [], [(0, .sl rR0 l_), (1, .sl rR5 known_)], 2⟩ htt 6 (by kernel_rfl) (?_))
  rcases oc h with ⟨hc, h⟩ | ⟨hc, h⟩
  · refine WPr.kb 18 hc rfl (WPr.silx [] ⟨[(0, .c (.sl 0)), (2, .c (.sl 1)), (6, .c (.b false)), (22, .c (.b true))], [], [(0, .sl rR0 l_), (1, .sl rR5 known_)], 2⟩ htt 4 (by kernel_rfl) (WPr.nil (WP.condT rfl rfl (WP.seq (WP.region (WPr.sil htt 1 rfl (WPr.nil (?_))))))))
    cases h
    exact WP.ret htt Tryz.func33 [] rfl rfl rfl rfl
  refine WPr.kb 18 hc rfl (WPr.sil htt 1 rfl (?_))
  obtain ⟨x1, hx1, h⟩ := ob h
  refine WPr.call (z74_ct N l_ _ hx1) [(0, .sl 0)] [] rfl rfl rfl rfl rfl rfl rfl rfl (.inl rfl) rfl (WPr.silx [] ⟨[(0, .c (.sl 0)), (2, .c (.sl 1)), (6, .c (.b false)), (22, .c (.b (!x1)))], [], [(0, .sl rR0 l_), (1, .sl rR5 known_)], 2⟩ htt 2 (by kernel_rfl) (WPr.nil (?_)))
  rcases oc h with ⟨hc, h⟩ | ⟨hc, h⟩
  · refine WP.condT hc rfl (WP.seq (WP.region (WPr.sil htt 1 rfl (WPr.nil (?_)))))
    cases h
    exact WP.ret htt Tryz.func33 [] rfl rfl rfl rfl
  refine WP.condF hc rfl (WP.skip (WP.seq (WP.region (WPr.sil htt 1 rfl (?_)))))
  obtain ⟨x2, hx2, h⟩ := ob h
  refine WPr.call (z79_ct N l_ _ hx2) [(0, .sl 0)] [] rfl rfl rfl rfl rfl rfl rfl rfl (.inl rfl) rfl (WPr.silx [] ⟨[(2, .c (.sl 1)), (6, .c (.b false)), (7, .c (.sl 2))], [(2, .own rR2 x2 true)], [(0, .sl rR0 l_), (1, .sl rR5 known_)], 3⟩ htt 1 (by kernel_rfl) (WPr.nil (WP.seq (WP.seq (WP.region (WPr.silx [] ⟨[(2, .c (.sl 1)), (6, .c (.b false)), (7, .c (.sl 2)), (29, .c (.b ((x2.length : Int) != (known_.length : Int))))], [(2, .own rR2 x2 true)], [(0, .sl rR0 l_), (1, .sl rR5 known_)], 3⟩ htt 5 (by kernel_rfl) (WPr.nil (?_))))))))
  rcases oc h with ⟨hc, h⟩ | ⟨hc, h⟩
  · refine WP.condT hc rfl (WP.seq (WP.region (WPr.sil htt 1 rfl (WPr.nil (?_)))))
    cases h
    exact WP.ret htt Tryz.func33 [] rfl rfl rfl rfl
  refine WP.condF hc rfl (WP.skip (WP.seq (WP.seq (WP.region (WPr.silx [] ⟨[(6, .c (.b false)), (7, .c (.sl 2)), (30, .c (.sl 1)), (31, .c (.i .i64 (known_.length : Int))), (32, .c (.i .i64 (0 : Int)))], [(2, .own rR2 x2 true)], [(0, .sl rR0 l_), (1, .sl rR5 known_)], 3⟩ htt 3 (by kernel_rfl) (WPr.nil (?_)))))))
  refine WP.cut (σ := Unit) (fun st => ⟨[], [], [(0, .sl rR0 l_), (1, .sl rR5 known_)], 3⟩) (fun st => z33_k1 = some r) ?_ (fun j1 => ?_)
  · intro _ h
    replace h : z33_k1 = some r := h
    unfold z33_k1 at h
    refine WP.seq (WP.region (WPr.sil htt 1 rfl (WPr.nil (?_))))
    cases h
    exact WP.ret htt Tryz.func33 [] rfl rfl rfl rfl
  refine WP.block (?_)
  refine WP.loopI (σ := Int) (fun st => ⟨[(7, .c (.sl 2)), (30, .c (.sl 1)), (31, .c (.i .i64 (known_.length : Int))), (32, .c (.i .i64 st))], [(2, .own rR2 x2 true)], [(0, .sl rR0 l_), (1, .sl rR5 known_)], 3⟩) (fun n st => z33_l2 N known_ x2 n st) (r := r) (fun _ => rfl) ?_ (fun ih => ?_)
  · intro n2 ih3
    intro v32_3 h
    replace h : z33_l2 N known_ x2 (n2 + 1) v32_3 = some r := h
    unfold z33_l2 at h
    refine WP.seq (WP.region (WPr.sil htt 1 rfl (WPr.nil (WP.seq (?_)))))
    rcases oc' h with ⟨hc, h⟩ | ⟨hc, h⟩
    · exact WP.condF hc rfl (WP.exit rfl (WP.sub [] (j1 () h) rfl rfl rfl rfl))
    refine WP.condT hc rfl (WP.skip (WP.seq (WP.block (WP.seq (WP.region (WPr.sil htt 1 rfl (?_)))))))
    obtain ⟨x227, hx227, h⟩ := ob h
    refine WPr.ix oO5 htt hx227 rfl rfl rfl rfl rfl rfl rfl rfl rfl (WPr.silx [] ⟨[(7, .c (.sl 2)), (8, .c (.i .i64 v32_3)), (9, .c (.bp 4 0)), (30, .c (.sl 1)), (31, .c (.i .i64 (known_.length : Int))), (32, .c (.i .i64 v32_3))], [(2, .own rR2 x2 true), (4, .box [.i .i64 x227.Kind, .i .i64 x227.N, .s x227.S] 46)], [(0, .sl rR0 l_), (1, .sl rR5 known_)], 5⟩ htt 4 (by kernel_rfl) (WPr.nil (WP.seq (WP.nm (fun A9 tA9 fA9 => ?_)))))
    have st229 : A9 0 ⟨[(9, .c (.bp 4 0))], [], [], [(4, .box [.i .i64 x227.Kind, .i .i64 x227.N, .s x227.S] 46)], 5, [(37, .a [.i .i64 x227.Kind, .i .i64 x227.N, .s x227.S])], [], [], 5⟩ := tA9 _ _ (LS.sil htt rfl rfl rfl rfl rfl rfl)
    have st230 : A9 1 ⟨[], [], [], [], 5, [(38, .a [.i .i64 (0 : Int), .i .i64 (0 : Int), .s (str [])])], [], [], 5⟩ := tA9 _ _ (LS.sil htt rfl rfl rfl rfl rfl rfl)
    have st231 : A9 2 ⟨[(37, .a [.i .i64 x227.Kind, .i .i64 x227.N, .s x227.S]), (38, .a [.i .i64 (0 : Int), .i .i64 (0 : Int), .s (str [])])], [], [], [], 5, [(39, .c (.b (!((x227.Kind == (0 : Int)) && ((x227.N == (0 : Int)) && ((x227.S.toList == (str []).toList) && true))))))], [], [], 5⟩ := tA9 _ _ (LS.of rfl rfl rfl (fun _ _ _ _ _ _ _ k => WPr.eqa (neg := true) (equal_run (b := ((x227.Kind == (0 : Int)) && ((x227.N == (0 : Int)) && ((x227.S.toList == (str []).toList) && true)))) (by kernel_rfl) (by kernel_rfl)) (by kernel_rfl) rfl rfl rfl rfl rfl rfl rfl (k)) rfl)
    have st232 : A9 3 ⟨[(39, .c (.b (!((x227.Kind == (0 : Int)) && ((x227.N == (0 : Int)) && ((x227.S.toList == (str []).toList) && true))))))], [], [], [], 5, [(40, .c (.b (!((x227.Kind == (0 : Int)) && ((x227.N == (0 : Int)) && ((x227.S.toList == (str []).toList) && true))))))], [], [], 5⟩ := tA9 _ _ (LS.sil htt rfl rfl rfl rfl rfl rfl)
    rcases oc' h with ⟨hc, h⟩ | ⟨hc, h⟩
    · have st245 := tA9 _ _ (LS.kb hc rfl (fA9 _ _ st232))
      have st246 : A9 4 ⟨[(40, .c (.b false))], [], [], [], 5, [(41, .u)], [], [], 5⟩ := tA9 _ _ (LS.skip rfl rfl rfl (.inr ⟨_, rfl, rfl⟩) rfl rfl)
      have st247 : A9 5 ⟨[(40, .c (.b false))], [], [], [], 5, [(42, .u)], [], [], 5⟩ := tA9 _ _ (LS.skip rfl rfl rfl (.inr ⟨_, rfl, rfl⟩) rfl rfl)
      have st248 : A9 6 ⟨[(40, .c (.b false))], [], [], [], 5, [(43, .u)], [], [], 5⟩ := tA9 _ _ (LS.skip rfl rfl rfl (.inr ⟨_, rfl, rfl⟩) rfl rfl)
      have st249 : A9 7 ⟨[(40, .c (.b false))], [], [], [], 5, [(44, .u)], [], [], 5⟩ := tA9 _ _ (LS.skip rfl rfl rfl (.inr ⟨_, rfl, rfl⟩) rfl rfl)
      have st250 : A9 8 ⟨[(40, .c (.b false))], [], [], [], 5, [(45, .u)], [], [], 5⟩ := tA9 _ _ (LS.skip rfl rfl rfl (.inr ⟨_, rfl, rfl⟩) rfl rfl)
      have st251 : A9 9 ⟨[(40, .c (.b false))], [], [], [], 5, [(46, .u)], [], [], 5⟩ := tA9 _ _ (LS.skip rfl rfl rfl (.inr ⟨_, rfl, rfl⟩) rfl rfl)
      have st252 : A9 10 ⟨[(40, .c (.b false))], [], [], [], 5, [(47, .u)], [], [], 5⟩ := tA9 _ _ (LS.skip rfl rfl rfl (.inr ⟨_, rfl, rfl⟩) rfl rfl)
      have st253 : A9 11 ⟨[(40, .c (.b false))], [], [], [], 5, [(48, .u)], [], [], 5⟩ := tA9 _ _ (LS.skip rfl rfl rfl (.inr ⟨_, rfl, rfl⟩) rfl rfl)
      have st254 : A9 12 ⟨[(40, .c (.b false)), (48, .u)], [], [], [], 5, [(49, .c (.b false))], [], [], 5⟩ := tA9 _ _ (LS.sil htt rfl rfl rfl rfl rfl rfl)
      exact WP.regionD (t := ⟨[(7, .c (.sl 2)), (30, .c (.sl 1)), (31, .c (.i .i64 (known_.length : Int))), (32, .c (.i .i64 v32_3)), (49, .c (.b false))], [(2, .own rR2 x2 true)], [(0, .sl rR0 l_), (1, .sl rR5 known_)], 5⟩) [0, 0, 3, 7, 15, 15, 63, 127, 255, 15, 1023, 2047, 4095] (.cons (fA9 _ _ st229) (.cons (fA9 _ _ st230) (.cons (fA9 _ _ st231) (.cons (fA9 _ _ st245) (.cons (fA9 _ _ st246) (.cons (fA9 _ _ st247) (.cons (fA9 _ _ st248) (.cons (fA9 _ _ st249) (.cons (fA9 _ _ st250) (.cons (fA9 _ _ st251) (.cons (fA9 _ _ st252) (.cons (fA9 _ _ st253) (.cons (fA9 _ _ st254) .nil))))))))))))) (by kernel_rfl) (by kernel_rfl) (by kernel_rfl) (by kernel_rfl) (WP.condF rfl rfl (WP.skip (WP.inBlock (WP.region (WPr.sil htt 2 rfl (WPr.nil (WP.sub [] (ih3 (w64 (v32_3 + (1 : Int))) h) rfl rfl rfl rfl)))))))
    have st233 := tA9 _ _ (LS.kb hc rfl (fA9 _ _ st232))
    have st234 : A9 4 ⟨[(7, .c (.sl 2)), (40, .c (.b true))], [], [], [], 5, [(41, .c (.sl 2))], [], [], 5⟩ := tA9 _ _ (LS.sil htt rfl rfl rfl rfl rfl rfl)
    have st235 : A9 5 ⟨[(8, .c (.i .i64 v32_3)), (40, .c (.b true))], [], [], [], 5, [(42, .c (.i .i64 v32_3))], [], [], 5⟩ := tA9 _ _ (LS.sil htt rfl rfl rfl rfl rfl rfl)
    obtain ⟨x236, hx236, h⟩ := ob h
    have st237 : A9 6 ⟨[(40, .c (.b true)), (41, .c (.sl 2)), (42, .c (.i .i64 v32_3))], [], [], [(2, .own rR2 x2 true)], 5, [(43, .c (.px 5 0))], [(5, .el 2 ((v32_3).toNat * (rR2).sz))], [], 6⟩ := tA9 _ _ (LS.of rfl rfl rfl (fun _ _ _ _ _ _ _ k => WPr.ixo htt hx236 rfl rfl rfl rfl rfl rfl rfl rfl rfl (k)) rfl)
    have st238 : A9 7 ⟨[(40, .c (.b true)), (43, .c (.px 5 0))], [(5, .el 2 ((v32_3).toNat * (rR2).sz))], [], [], 6, [(44, .c (.px 5 1))], [], [], 6⟩ := tA9 _ _ (LS.sil htt rfl rfl rfl rfl rfl rfl)
    have st239 : A9 8 ⟨[(40, .c (.b true)), (44, .c (.px 5 1))], [(5, .el 2 ((v32_3).toNat * (rR2).sz))], [], [(2, .own rR2 x2 true)], 6, [(45, .a [.i .i64 x236.Sort'.Kind, .i .i64 x236.Sort'.Lo, .i .i64 x236.Sort'.Hi])], [], [], 6⟩ := tA9 _ _ (LS.of rfl rfl rfl (fun _ _ _ _ _ _ _ k => WPr.ldo oO2 htt hx236 rfl rfl rfl rfl rfl rfl rfl rfl rfl rfl (k)) rfl)
    have st240 : A9 9 ⟨[(9, .c (.bp 4 0)), (40, .c (.b true))], [], [], [(4, .box [.i .i64 x227.Kind, .i .i64 x227.N, .s x227.S] 46)], 6, [(46, .a [.i .i64 x227.Kind, .i .i64 x227.N, .s x227.S])], [], [], 6⟩ := tA9 _ _ (LS.sil htt rfl rfl rfl rfl rfl rfl)
    obtain ⟨x241, hx241, h⟩ := ob h
    have st242 : A9 10 ⟨[(40, .c (.b true)), (45, .a [.i .i64 x236.Sort'.Kind, .i .i64 x236.Sort'.Lo, .i .i64 x236.Sort'.Hi]), (46, .a [.i .i64 x227.Kind, .i .i64 x227.N, .s x227.S])], [], [], [], 6, [(47, .c (.b x241))], [], [], 6⟩ := tA9 _ _ (LS.of rfl rfl rfl (fun _ _ _ _ _ _ _ k => WPr.call (z80_ct N x236.Sort' x227 _ hx241) [] [] rfl rfl rfl rfl rfl rfl rfl rfl (.inl rfl) rfl (k)) rfl)
    have st243 : A9 11 ⟨[(40, .c (.b true)), (47, .c (.b x241))], [], [], [], 6, [(48, .c (.b (!x241)))], [], [], 6⟩ := tA9 _ _ (LS.sil htt rfl rfl rfl rfl rfl rfl)
    have st244 : A9 12 ⟨[(40, .c (.b true)), (48, .c (.b (!x241)))], [], [], [], 6, [(49, .c (.b (!x241)))], [], [], 6⟩ := tA9 _ _ (LS.sil htt rfl rfl rfl rfl rfl rfl)
    refine WP.regionD (t := ⟨[(7, .c (.sl 2)), (30, .c (.sl 1)), (31, .c (.i .i64 (known_.length : Int))), (32, .c (.i .i64 v32_3)), (49, .c (.b (!x241)))], [(2, .own rR2 x2 true)], [(0, .sl rR0 l_), (1, .sl rR5 known_)], 6⟩) [0, 0, 3, 7, 15, 15, 63, 127, 255, 15, 1023, 2047, 4095] (.cons (fA9 _ _ st229) (.cons (fA9 _ _ st230) (.cons (fA9 _ _ st231) (.cons (fA9 _ _ st233) (.cons (fA9 _ _ st234) (.cons (fA9 _ _ st235) (.cons (fA9 _ _ st237) (.cons (fA9 _ _ st238) (.cons (fA9 _ _ st239) (.cons (fA9 _ _ st240) (.cons (fA9 _ _ st242) (.cons (fA9 _ _ st243) (.cons (fA9 _ _ st244) .nil))))))))))))) (by kernel_rfl) (by kernel_rfl) (by kernel_rfl) (by kernel_rfl) (?_)
    rcases oc h with ⟨hc, h⟩ | ⟨hc, h⟩
    · refine WP.condT hc rfl (WP.seq (WP.region (WPr.sil htt 1 rfl (WPr.nil (?_)))))
      cases h
      exact WP.ret htt Tryz.func33 [] rfl rfl rfl rfl
    exact WP.condF hc rfl (WP.skip (WP.inBlock (WP.region (WPr.sil htt 2 rfl (WPr.nil (WP.sub [] (ih3 (w64 (v32_3 + (1 : Int))) h) rfl rfl rfl rfl))))))
  exact WP.sub [] (ih N (0 : Int) h) rfl rfl rfl rfl
theorem z43_ct (N : Nat) (l_ : (List T2)) (values_ : (List T5)) (r : Bool) (h : z43 N l_ values_ = some r) :
  Fn Tryz.prog 43 ⟨2, [.c (.sl 0), .c (.sl 1)], [(0, .sl rR2 l_), (1, .sl rR5 values_)], [], 2, .c (.b r), [], []⟩ := by
  refine Fn.intro _ _ Tryz.func43 rfl (by kernel_rfl) rfl (fun E F w => ?_)
  unfold z43 at h
  refine WP.seq (WP.region (WPr.sil htt 1 rfl (WPr.nil (WP.seq (WP.seq (WP.region (WPr.silx [] ⟨[(0, .c (.sl 0)), (1, .c (.sl 1)), (4, .c (.b false)), (11, .c (.b ((l_.length : Int) != (values_.length : Int))))], [], [(0, .sl rR2 l_), (1, .sl rR5 values_)], 2⟩ htt 5 (by kernel_rfl) (WPr.nil (?_)))))))))
  rcases oc h with ⟨hc, h⟩ | ⟨hc, h⟩
  · refine WP.condT hc rfl (WP.seq (WP.region (WPr.sil htt 1 rfl (WPr.nil (?_)))))
    cases h
    exact WP.ret htt Tryz.func43 [] rfl rfl rfl rfl
  refine WP.condF hc rfl (WP.skip (WP.seq (WP.seq (WP.region (WPr.silx [] ⟨[(1, .c (.sl 1)), (4, .c (.b false)), (12, .c (.sl 0)), (13, .c (.i .i64 (l_.length : Int))), (14, .c (.i .i64 (0 : Int)))], [], [(0, .sl rR2 l_), (1, .sl rR5 values_)], 2⟩ htt 3 (by kernel_rfl) (WPr.nil (?_)))))))
  refine WP.cut (σ := Unit) (fun st => ⟨[], [], [(0, .sl rR2 l_), (1, .sl rR5 values_)], 2⟩) (fun st => z43_k1 = some r) ?_ (fun j1 => ?_)
  · intro _ h
    replace h : z43_k1 = some r := h
    unfold z43_k1 at h
    refine WP.seq (WP.region (WPr.sil htt 1 rfl (WPr.nil (?_))))
    cases h
    exact WP.ret htt Tryz.func43 [] rfl rfl rfl rfl
  refine WP.block (?_)
  refine WP.loopI (σ := Int) (fun st => ⟨[(1, .c (.sl 1)), (12, .c (.sl 0)), (13, .c (.i .i64 (l_.length : Int))), (14, .c (.i .i64 st))], [], [(0, .sl rR2 l_), (1, .sl rR5 values_)], 2⟩) (fun n st => z43_l2 N l_ values_ n st) (r := r) (fun _ => rfl) ?_ (fun ih => ?_)
  · intro n2 ih3
    intro v14_3 h
    replace h : z43_l2 N l_ values_ (n2 + 1) v14_3 = some r := h
    unfold z43_l2 at h
    refine WP.seq (WP.region (WPr.sil htt 1 rfl (WPr.nil (WP.seq (?_)))))
    rcases oc' h with ⟨hc, h⟩ | ⟨hc, h⟩
    · exact WP.condF hc rfl (WP.exit rfl (WP.sub [] (j1 () h) rfl rfl rfl rfl))
    refine WP.condT hc rfl (WP.skip (WP.seq (WP.block (WP.seq (WP.region (WPr.sil htt 1 rfl (?_)))))))
    obtain ⟨x41, hx41, h⟩ := ob h
    refine WPr.ix oO2 htt hx41 rfl rfl rfl rfl rfl rfl rfl rfl rfl (WPr.silx [] ⟨[(1, .c (.sl 1)), (5, .c (.i .i64 v14_3)), (6, .c (.bp 3 0)), (12, .c (.sl 0)), (13, .c (.i .i64 (l_.length : Int))), (14, .c (.i .i64 v14_3))], [(3, .box [.s x41.Name, .i .i64 x41.Sort'.Kind, .i .i64 x41.Sort'.Lo, .i .i64 x41.Sort'.Hi] 89)], [(0, .sl rR2 l_), (1, .sl rR5 values_)], 4⟩ htt 4 (by kernel_rfl) (WPr.nil (WP.seq (WP.regionQ (by kernel_rfl) (by kernel_rfl) (WPq.silx [4, 5, 6, 7] ⟨[(1, .c (.sl 1)), (12, .c (.sl 0)), (13, .c (.i .i64 (l_.length : Int))), (14, .c (.i .i64 v14_3)), (20, .a [.i .i64 x41.Sort'.Kind, .i .i64 x41.Sort'.Lo, .i .i64 x41.Sort'.Hi]), (21, .c (.sl 1)), (22, .c (.i .i64 v14_3))], [], [(0, .sl rR2 l_), (1, .sl rR5 values_)], 4⟩ htt 4 (by kernel_rfl) (?_))))))
    obtain ⟨x44, hx44, h⟩ := ob h
    refine WPq.op rfl rfl (VN.vs (VN.ix oO5 htt hx44 rfl rfl rfl rfl rfl rfl rfl)) (WPq.sil htt 1 rfl (?_))
    obtain ⟨x45, hx45, h⟩ := ob h
    refine WPq.call (z80_ct N x41.Sort' x44 _ hx45) [] [] rfl rfl rfl rfl rfl rfl rfl rfl rfl rfl rfl rfl (WPq.silx [] ⟨[(1, .c (.sl 1)), (12, .c (.sl 0)), (13, .c (.i .i64 (l_.length : Int))), (14, .c (.i .i64 v14_3)), (26, .c (.b (!x45)))], [], [(0, .sl rR2 l_), (1, .sl rR5 values_)], 5⟩ htt 1 (by kernel_rfl) (WPq.nil (?_)))
    rcases oc h with ⟨hc, h⟩ | ⟨hc, h⟩
    · refine WP.condT hc rfl (WP.seq (WP.region (WPr.sil htt 1 rfl (WPr.nil (?_)))))
      cases h
      exact WP.ret htt Tryz.func43 [] rfl rfl rfl rfl
    exact WP.condF hc rfl (WP.skip (WP.inBlock (WP.region (WPr.sil htt 2 rfl (WPr.nil (WP.sub [] (ih3 (w64 (v14_3 + (1 : Int))) h) rfl rfl rfl rfl))))))
  exact WP.sub [] (ih N (0 : Int) h) rfl rfl rfl rfl
theorem z93_ct (N : Nat) (s_ : (List T5)) (r : (List T5)) (h : z93 N s_ = some r) :
  Fn Tryz.prog 93 ⟨1, [.c (.sl 0)], [(0, .sl rR5 s_)], [], 2, .c (.sl 1), [], [(1, .own rR5 r true)]⟩ := by
  refine Fn.intro _ _ Tryz.func93 rfl (by kernel_rfl) rfl (fun E F w => ?_)
  unfold z93 at h
  refine WP.seq (WP.region (WPr.sil htt 1 rfl (WPr.nil (WP.seq (WP.seq (WP.region (WPr.sil htt 1 rfl (WPr.nilc (el := 46) false (Or.inl rfl) rfl rfl rfl rfl (by kernel_rfl) rfl rfl rfl (?_)))))))))
  intro nb hnb
  cases nb
  · refine WPr.silx [] ⟨[(0, .c (.sl 0)), (2, .c .nil), (4, .c (.b false))], [], [(0, .sl rR5 s_)], 1⟩ htt 0 (by kernel_rfl) (WPr.nil (WP.condF rfl rfl (WP.skip (WP.seq (WP.region (WPr.bs (cs := []) oO5 htt ([] : List T5) rfl rfl rfl rfl rfl rfl (by kernel_rfl) (by exact rfl) rfl (WPr.sil htt 1 rfl (?_))))))))
    obtain ⟨x1, hx1, h⟩ := ob h
    refine WPr.app htt hx1 (by exact (srcI rfl)) rfl rfl rfl rfl rfl rfl rfl rfl rfl rfl (WPr.silx [] ⟨[(2, .c (.sl 2))], [(2, .own rR5 x1 true)], [(0, .sl rR5 s_)], 3⟩ htt 1 (by kernel_rfl) (WPr.nil (?_)))
    cases h
    exact WP.ret htt Tryz.func93 [(1, .sl 2)] rfl rfl rfl rfl
  · obtain rfl := hnb rfl
    replace h : (some ([] : List T5) : Option (List T5)) = some r := h
    refine WPr.silx [] ⟨[(0, .c (.sl 0)), (2, .c .nil), (4, .c (.b true))], [], [(0, .sl rR5 ([] : List T5))], 1⟩ htt 0 (by kernel_rfl) (WPr.nil (WP.condT rfl rfl (WP.seq (WP.region (WPr.sil htt 1 rfl (WPr.nil (?_)))))))
    cases h
    exact WP.ret htt Tryz.func93 [(1, .nil)] rfl rfl rfl rfl
theorem z40_ct (N : Nat) (d_ : T0) (values_ : (List T5)) (known_ : (List T5)) (r : (List T5)) (h : z40 N d_ values_ known_ = some r) :
  Fn Tryz.prog 40 ⟨5, [.a [.s d_.Name, .sl 0, .i .i64 d_.First, .sl 1, .sl 2], .c (.sl 3), .c (.sl 4)], [(0, .sl rR2 d_.Fields), (1, .sl rR1 d_.Guard.Diffs), (2, .sl (rP (rI .i64) (rI .i64)) d_.Guard.Equals), (3, .sl rR5 values_), (4, .sl rR5 known_)], [], 6, .c (.sl 5), [], [(5, .own rR5 r true)]⟩ := by
  refine Fn.intro _ _ Tryz.func40 rfl (by kernel_rfl) rfl (fun E F w => ?_)
  unfold z40 at h
  refine WP.seq (WP.region (WPr.sil htt 2 rfl (WPr.nil (WP.seq (WP.region (WPr.silx [1, 2] ⟨[(1, .c (.sl 3)), (3, .c (.bp 5 0)), (6, .c .nil), (8, .c (.sl 4))], [(5, .box [.s d_.Name, .sl 0, .i .i64 d_.First, .sl 1, .sl 2] 44)], [(0, .sl rR2 d_.Fields), (1, .sl rR1 d_.Guard.Diffs), (2, .sl (rP (rI .i64) (rI .i64)) d_.Guard.Equals), (3, .sl rR5 values_), (4, .sl rR5 known_)], 6⟩ htt 1 (by kernel_rfl) (?_)))))))
  obtain ⟨x1, hx1, h⟩ := ob h
  refine WPr.call (z93_ct N known_ _ hx1) [(0, .sl 4)] [] rfl rfl rfl rfl rfl rfl rfl rfl (.inl rfl) rfl (WPr.silx [] ⟨[(1, .c (.sl 3)), (3, .c (.bp 5 0)), (6, .c .nil), (7, .c (.sl 6))], [(5, .box [.s d_.Name, .sl 0, .i .i64 d_.First, .sl 1, .sl 2] 44), (6, .own rR5 x1 true)], [(0, .sl rR2 d_.Fields), (1, .sl rR1 d_.Guard.Diffs), (2, .sl (rP (rI .i64) (rI .i64)) d_.Guard.Equals), (3, .sl rR5 values_), (4, .sl rR5 known_)], 7⟩ htt 1 (by kernel_rfl) (WPr.nil (WP.seq (WP.region (WPr.silx [3, 4, 5] ⟨[(1, .c (.sl 3)), (6, .c .nil), (7, .c (.sl 6)), (10, .c (.sl 6)), (12, .c (.i .i64 d_.First))], [(6, .own rR5 x1 true)], [(0, .sl rR2 d_.Fields), (1, .sl rR1 d_.Guard.Diffs), (2, .sl (rP (rI .i64) (rI .i64)) d_.Guard.Equals), (3, .sl rR5 values_), (4, .sl rR5 known_)], 7⟩ htt 3 (by kernel_rfl) (?_))))))
  obtain ⟨x2, hx2, h⟩ := ob h
  refine WPr.vw htt (l := some (.i64, d_.First)) (h := none) hx2 rfl rfl rfl rfl rfl rfl rfl rfl rfl rfl (WPr.sil htt 1 rfl (?_))
  obtain ⟨x3, hx3, h⟩ := ob h
  refine WPr.cp htt hx3 (by exact (srcI rfl)) rfl rfl rfl rfl rfl (Or.inl rfl) rfl rfl rfl rfl (WPr.silx [] ⟨[(6, .c .nil), (7, .c (.sl 6))], [(6, .own rR5 x3.1 true)], [(0, .sl rR2 d_.Fields), (1, .sl rR1 d_.Guard.Diffs), (2, .sl (rP (rI .i64) (rI .i64)) d_.Guard.Equals), (3, .sl rR5 values_), (4, .sl rR5 known_)], 8⟩ htt 0 (by kernel_rfl) (WPr.nil (WP.seq (WP.region (WPr.sil htt 2 rfl (WPr.nil (?_)))))))
  cases h
  exact WP.ret htt Tryz.func40 [(5, .sl 6)] rfl rfl rfl rfl
theorem z42_ct (N : Nat) (g_ : T3) (l_ : (List T5)) (r : Bool) (h : z42 N g_ l_ = some r) :
  Fn Tryz.prog 42 ⟨3, [.a [.sl 0, .sl 1], .c (.sl 2)], [(0, .sl rR1 g_.Diffs), (1, .sl (rP (rI .i64) (rI .i64)) g_.Equals), (2, .sl rR5 l_)], [], 3, .c (.b r), [], []⟩ := by
  refine Fn.intro _ _ Tryz.func42 rfl (by kernel_rfl) rfl (fun E F w => ?_)
  unfold z42 at h
  refine WP.seq (WP.region (WPr.sil htt 2 rfl (WPr.nil (WP.seq (WP.seq (WP.region (WPr.silx [] ⟨[(1, .c (.sl 2)), (2, .c (.bp 3 0)), (4, .c (.b false)), (13, .c (.sl 0)), (14, .c (.i .i64 (g_.Diffs.length : Int))), (15, .c (.i .i64 (0 : Int)))], [(3, .box [.sl 0, .sl 1] 42)], [(0, .sl rR1 g_.Diffs), (1, .sl (rP (rI .i64) (rI .i64)) g_.Equals), (2, .sl rR5 l_)], 4⟩ htt 4 (by kernel_rfl) (WPr.nil (?_)))))))))
  refine WP.cut (σ := Unit) (fun st => ⟨[(1, .c (.sl 2)), (2, .c (.bp 3 0))], [(3, .box [.sl 0, .sl 1] 42)], [(0, .sl rR1 g_.Diffs), (1, .sl (rP (rI .i64) (rI .i64)) g_.Equals), (2, .sl rR5 l_)], 4⟩) (fun st => z42_k3 N g_ l_ = some r) ?_ (fun j1 => ?_)
  · intro _ h
    replace h : z42_k3 N g_ l_ = some r := h
    unfold z42_k3 at h
    refine WP.seq (WP.seq (WP.region (WPr.silx [] ⟨[(1, .c (.sl 2)), (55, .c (.sl 1)), (56, .c (.i .i64 (g_.Equals.length : Int))), (57, .c (.i .i64 (0 : Int)))], [], [(0, .sl rR1 g_.Diffs), (1, .sl (rP (rI .i64) (rI .i64)) g_.Equals), (2, .sl rR5 l_)], 4⟩ htt 4 (by kernel_rfl) (WPr.nil (?_)))))
    refine WP.cut (σ := Unit) (fun st => ⟨[], [], [(0, .sl rR1 g_.Diffs), (1, .sl (rP (rI .i64) (rI .i64)) g_.Equals), (2, .sl rR5 l_)], 4⟩) (fun st => z42_k1 = some r) ?_ (fun j12 => ?_)
    · intro _ h
      replace h : z42_k1 = some r := h
      unfold z42_k1 at h
      refine WP.seq (WP.region (WPr.sil htt 1 rfl (WPr.nil (?_))))
      cases h
      exact WP.ret htt Tryz.func42 [] rfl rfl rfl rfl
    refine WP.block (?_)
    refine WP.loopI (σ := Int) (fun st => ⟨[(1, .c (.sl 2)), (55, .c (.sl 1)), (56, .c (.i .i64 (g_.Equals.length : Int))), (57, .c (.i .i64 st))], [], [(0, .sl rR1 g_.Diffs), (1, .sl (rP (rI .i64) (rI .i64)) g_.Equals), (2, .sl rR5 l_)], 4⟩) (fun n st => z42_l2 g_ l_ n st) (r := r) (fun _ => rfl) ?_ (fun ih => ?_)
    · intro n9 ih14
      intro v57_14 h
      replace h : z42_l2 g_ l_ (n9 + 1) v57_14 = some r := h
      unfold z42_l2 at h
      refine WP.seq (WP.region (WPr.sil htt 1 rfl (WPr.nil (WP.seq (?_)))))
      rcases oc' h with ⟨hc, h⟩ | ⟨hc, h⟩
      · exact WP.condF hc rfl (WP.exit rfl (WP.sub [] (j12 () h) rfl rfl rfl rfl))
      refine WP.condT hc rfl (WP.skip (WP.seq (WP.block (WP.seq (WP.region (?_))))))
      obtain ⟨x773, hx773, h⟩ := ob h
      refine WPr.ix (oP (oI .i64) (oI .i64)) htt hx773 rfl rfl rfl rfl rfl rfl rfl rfl rfl (WPr.silx [] ⟨[(1, .c (.sl 2)), (11, .c (.bp 5 0)), (55, .c (.sl 1)), (56, .c (.i .i64 (g_.Equals.length : Int))), (57, .c (.i .i64 v57_14))], [(5, .box [.i .i64 x773.1, .i .i64 x773.2] 49)], [(0, .sl rR1 g_.Diffs), (1, .sl (rP (rI .i64) (rI .i64)) g_.Equals), (2, .sl rR5 l_)], 6⟩ htt 3 (by kernel_rfl) (WPr.nil (WP.seq (WP.nm (fun A9 tA9 fA9 => ?_)))))
      have st774 : A9 0 ⟨[(1, .c (.sl 2))], [(2, .sl rR5 l_)], [], [], 6, [(61, .c (.sl 2))], [], [], 6⟩ := tA9 _ _ (LS.sil htt rfl rfl rfl rfl rfl rfl)
      have st775 : A9 1 ⟨[(11, .c (.bp 5 0))], [], [], [(5, .box [.i .i64 x773.1, .i .i64 x773.2] 49)], 6, [(62, .c (.bp 5 0))], [], [], 6⟩ := tA9 _ _ (LS.of rfl rfl rfl (fun _ _ _ _ _ _ _ k => WPr.axb (len := 2) (el := 3) (es := 1) 0 rfl rfl rfl rfl rfl (by kernel_rfl) (by kernel_rfl) rfl rfl rfl rfl (k)) rfl)
      have st776 : A9 2 ⟨[(62, .c (.bp 5 0))], [], [], [(5, .box [.i .i64 x773.1, .i .i64 x773.2] 49)], 6, [(63, .c (.i .i64 x773.1))], [], [], 6⟩ := tA9 _ _ (LS.sil htt rfl rfl rfl rfl rfl rfl)
      obtain ⟨x777, hx777, h⟩ := ob h
      have st778 : A9 3 ⟨[(61, .c (.sl 2)), (63, .c (.i .i64 x773.1))], [(2, .sl rR5 l_)], [], [], 6, [(64, .c (.px 6 0))], [(6, .pl [.i .i64 x777.Kind, .i .i64 x777.N, .s x777.S])], [], 7⟩ := tA9 _ _ (LS.of rfl rfl rfl (fun _ _ _ _ _ _ _ k => WPr.ix oO5 htt hx777 rfl rfl rfl rfl rfl rfl rfl rfl rfl (k)) rfl)
      have st779 : A9 4 ⟨[(64, .c (.px 6 0))], [(6, .pl [.i .i64 x777.Kind, .i .i64 x777.N, .s x777.S])], [], [], 7, [(65, .c (.px 6 0))], [], [], 7⟩ := tA9 _ _ (LS.sil htt rfl rfl rfl rfl rfl rfl)
      have st780 : A9 5 ⟨[(65, .c (.px 6 0))], [(6, .pl [.i .i64 x777.Kind, .i .i64 x777.N, .s x777.S])], [], [], 7, [(66, .c (.i .i64 x777.Kind))], [], [], 7⟩ := tA9 _ _ (LS.sil htt rfl rfl rfl rfl rfl rfl)
      have st781 : A9 6 ⟨[(66, .c (.i .i64 x777.Kind))], [], [], [], 7, [(67, .c (.b (x777.Kind == (0 : Int))))], [], [], 7⟩ := tA9 _ _ (LS.sil htt rfl rfl rfl rfl rfl rfl)
      have st782 : A9 7 ⟨[(67, .c (.b (x777.Kind == (0 : Int))))], [], [], [], 7, [(68, .c (.b (x777.Kind == (0 : Int))))], [], [], 7⟩ := tA9 _ _ (LS.sil htt rfl rfl rfl rfl rfl rfl)
      rcases oc h with ⟨hc, h⟩ | ⟨hc, h⟩
      · have st783 := tA9 _ _ (LS.kb hc rfl (fA9 _ _ st782))
        have st784 : A9 8 ⟨[(68, .c (.b true))], [], [], [], 7, [(69, .u)], [], [], 7⟩ := tA9 _ _ (LS.skip rfl rfl rfl (.inr ⟨_, rfl, rfl⟩) rfl rfl)
        have st785 : A9 9 ⟨[(68, .c (.b true))], [], [], [], 7, [(70, .u)], [], [], 7⟩ := tA9 _ _ (LS.skip rfl rfl rfl (.inr ⟨_, rfl, rfl⟩) rfl rfl)
        have st786 : A9 10 ⟨[(68, .c (.b true))], [], [], [], 7, [(71, .u)], [], [], 7⟩ := tA9 _ _ (LS.skip rfl rfl rfl (.inr ⟨_, rfl, rfl⟩) rfl rfl)
        have st787 : A9 11 ⟨[(68, .c (.b true))], [], [], [], 7, [(72, .u)], [], [], 7⟩ := tA9 _ _ (LS.skip rfl rfl rfl (.inr ⟨_, rfl, rfl⟩) rfl rfl)
        have st788 : A9 12 ⟨[(68, .c (.b true))], [], [], [], 7, [(73, .u)], [], [], 7⟩ := tA9 _ _ (LS.skip rfl rfl rfl (.inr ⟨_, rfl, rfl⟩) rfl rfl)
        have st789 : A9 13 ⟨[(68, .c (.b true))], [], [], [], 7, [(74, .u)], [], [], 7⟩ := tA9 _ _ (LS.skip rfl rfl rfl (.inr ⟨_, rfl, rfl⟩) rfl rfl)
        have st790 : A9 14 ⟨[(68, .c (.b true))], [], [], [], 7, [(75, .u)], [], [], 7⟩ := tA9 _ _ (LS.skip rfl rfl rfl (.inr ⟨_, rfl, rfl⟩) rfl rfl)
        have st791 : A9 15 ⟨[(68, .c (.b true)), (75, .u)], [], [], [], 7, [(76, .c (.b true))], [], [], 7⟩ := tA9 _ _ (LS.sil htt rfl rfl rfl rfl rfl rfl)
        have st792 : A9 16 ⟨[(76, .c (.b true))], [], [], [], 7, [(77, .c (.b true))], [], [], 7⟩ := tA9 _ _ (LS.sil htt rfl rfl rfl rfl rfl rfl)
        have st793 : A9 17 ⟨[(77, .c (.b true))], [], [], [], 7, [(78, .u)], [], [], 7⟩ := tA9 _ _ (LS.skip rfl rfl rfl (.inr ⟨_, rfl, rfl⟩) rfl rfl)
        have st794 : A9 18 ⟨[(77, .c (.b true))], [], [], [], 7, [(79, .u)], [], [], 7⟩ := tA9 _ _ (LS.skip rfl rfl rfl (.inr ⟨_, rfl, rfl⟩) rfl rfl)
        have st795 : A9 19 ⟨[(77, .c (.b true))], [], [], [], 7, [(80, .u)], [], [], 7⟩ := tA9 _ _ (LS.skip rfl rfl rfl (.inr ⟨_, rfl, rfl⟩) rfl rfl)
        have st796 : A9 20 ⟨[(77, .c (.b true))], [], [], [], 7, [(81, .u)], [], [], 7⟩ := tA9 _ _ (LS.skip rfl rfl rfl (.inr ⟨_, rfl, rfl⟩) rfl rfl)
        have st797 : A9 21 ⟨[(77, .c (.b true))], [], [], [], 7, [(82, .u)], [], [], 7⟩ := tA9 _ _ (LS.skip rfl rfl rfl (.inr ⟨_, rfl, rfl⟩) rfl rfl)
        have st798 : A9 22 ⟨[(77, .c (.b true))], [], [], [], 7, [(83, .u)], [], [], 7⟩ := tA9 _ _ (LS.skip rfl rfl rfl (.inr ⟨_, rfl, rfl⟩) rfl rfl)
        have st799 : A9 23 ⟨[(77, .c (.b true))], [], [], [], 7, [(84, .u)], [], [], 7⟩ := tA9 _ _ (LS.skip rfl rfl rfl (.inr ⟨_, rfl, rfl⟩) rfl rfl)
        have st800 : A9 24 ⟨[(77, .c (.b true))], [], [], [], 7, [(85, .u)], [], [], 7⟩ := tA9 _ _ (LS.skip rfl rfl rfl (.inr ⟨_, rfl, rfl⟩) rfl rfl)
        have st801 : A9 25 ⟨[(77, .c (.b true))], [], [], [], 7, [(86, .u)], [], [], 7⟩ := tA9 _ _ (LS.skip rfl rfl rfl (.inr ⟨_, rfl, rfl⟩) rfl rfl)
        have st802 : A9 26 ⟨[(77, .c (.b true))], [], [], [], 7, [(87, .u)], [], [], 7⟩ := tA9 _ _ (LS.skip rfl rfl rfl (.inr ⟨_, rfl, rfl⟩) rfl rfl)
        have st803 : A9 27 ⟨[(77, .c (.b true))], [], [], [], 7, [(88, .u)], [], [], 7⟩ := tA9 _ _ (LS.skip rfl rfl rfl (.inr ⟨_, rfl, rfl⟩) rfl rfl)
        have st804 : A9 28 ⟨[(77, .c (.b true))], [], [], [], 7, [(89, .u)], [], [], 7⟩ := tA9 _ _ (LS.skip rfl rfl rfl (.inr ⟨_, rfl, rfl⟩) rfl rfl)
        have st805 : A9 29 ⟨[(77, .c (.b true))], [], [], [], 7, [(90, .u)], [], [], 7⟩ := tA9 _ _ (LS.skip rfl rfl rfl (.inr ⟨_, rfl, rfl⟩) rfl rfl)
        have st806 : A9 30 ⟨[(77, .c (.b true)), (90, .u)], [], [], [], 7, [(91, .c (.b true))], [], [], 7⟩ := tA9 _ _ (LS.sil htt rfl rfl rfl rfl rfl rfl)
        refine WP.regionD (t := ⟨[(1, .c (.sl 2)), (55, .c (.sl 1)), (56, .c (.i .i64 (g_.Equals.length : Int))), (57, .c (.i .i64 v57_14)), (91, .c (.b true))], [], [(0, .sl rR1 g_.Diffs), (1, .sl (rP (rI .i64) (rI .i64)) g_.Equals), (2, .sl rR5 l_)], 7⟩) [0, 0, 2, 7, 15, 31, 63, 127, 255, 255, 767, 2047, 4095, 8191, 16383, 32767, 65535, 131071, 131071, 393215, 1048575, 2097151, 4194303, 131071, 131071, 16908287, 58851327, 125960191, 260177919, 536870911, 1073741823] (.cons (fA9 _ _ st774) (.cons (fA9 _ _ st775) (.cons (fA9 _ _ st776) (.cons (fA9 _ _ st778) (.cons (fA9 _ _ st779) (.cons (fA9 _ _ st780) (.cons (fA9 _ _ st781) (.cons (fA9 _ _ st783) (.cons (fA9 _ _ st784) (.cons (fA9 _ _ st785) (.cons (fA9 _ _ st786) (.cons (fA9 _ _ st787) (.cons (fA9 _ _ st788) (.cons (fA9 _ _ st789) (.cons (fA9 _ _ st790) (.cons (fA9 _ _ st791) (.cons (fA9 _ _ st792) (.cons (fA9 _ _ st793) (.cons (fA9 _ _ st794) (.cons (fA9 _ _ st795) (.cons (fA9 _ _ st796) (.cons (fA9 _ _ st797) (.cons (fA9 _ _ st798) (.cons (fA9 _ _ st799) (.cons (fA9 _ _ st800) (.cons (fA9 _ _ st801) (.cons (fA9 _ _ st802) (.cons (fA9 _ _ st803) (.cons (fA9 _ _ st804) (.cons (fA9 _ _ st805) (.cons (fA9 _ _ st806) .nil))))))))))))))))))))))))))))))) (by kernel_rfl) (by kernel_rfl) (by kernel_rfl) (by kernel_rfl) (WP.condT rfl rfl (WP.seq (WP.region (WPr.sil htt 1 rfl (WPr.nil (?_))))))
        cases h
        exact WP.ret htt Tryz.func42 [] rfl rfl rfl rfl
      have st807 := tA9 _ _ (LS.kb hc rfl (fA9 _ _ st782))
      have st808 : A9 8 ⟨[(1, .c (.sl 2)), (68, .c (.b false))], [(2, .sl rR5 l_)], [], [], 7, [(69, .c (.sl 2))], [], [], 7⟩ := tA9 _ _ (LS.sil htt rfl rfl rfl rfl rfl rfl)
      have st809 : A9 9 ⟨[(11, .c (.bp 5 0)), (68, .c (.b false))], [], [], [(5, .box [.i .i64 x773.1, .i .i64 x773.2] 49)], 7, [(70, .c (.bp 5 1))], [], [], 7⟩ := tA9 _ _ (LS.of rfl rfl rfl (fun _ _ _ _ _ _ _ k => WPr.axb (len := 2) (el := 3) (es := 1) 1 rfl rfl rfl rfl rfl (by kernel_rfl) (by kernel_rfl) rfl rfl rfl rfl (k)) rfl)
      have st810 : A9 10 ⟨[(68, .c (.b false)), (70, .c (.bp 5 1))], [], [], [(5, .box [.i .i64 x773.1, .i .i64 x773.2] 49)], 7, [(71, .c (.i .i64 x773.2))], [], [], 7⟩ := tA9 _ _ (LS.sil htt rfl rfl rfl rfl rfl rfl)
      obtain ⟨x811, hx811, h⟩ := ob h
      have st812 : A9 11 ⟨[(68, .c (.b false)), (69, .c (.sl 2)), (71, .c (.i .i64 x773.2))], [(2, .sl rR5 l_)], [], [], 7, [(72, .c (.px 7 0))], [(7, .pl [.i .i64 x811.Kind, .i .i64 x811.N, .s x811.S])], [], 8⟩ := tA9 _ _ (LS.of rfl rfl rfl (fun _ _ _ _ _ _ _ k => WPr.ix oO5 htt hx811 rfl rfl rfl rfl rfl rfl rfl rfl rfl (k)) rfl)
      have st813 : A9 12 ⟨[(68, .c (.b false)), (72, .c (.px 7 0))], [(7, .pl [.i .i64 x811.Kind, .i .i64 x811.N, .s x811.S])], [], [], 8, [(73, .c (.px 7 0))], [], [], 8⟩ := tA9 _ _ (LS.sil htt rfl rfl rfl rfl rfl rfl)
      have st814 : A9 13 ⟨[(68, .c (.b false)), (73, .c (.px 7 0))], [(7, .pl [.i .i64 x811.Kind, .i .i64 x811.N, .s x811.S])], [], [], 8, [(74, .c (.i .i64 x811.Kind))], [], [], 8⟩ := tA9 _ _ (LS.sil htt rfl rfl rfl rfl rfl rfl)
      have st815 : A9 14 ⟨[(68, .c (.b false)), (74, .c (.i .i64 x811.Kind))], [], [], [], 8, [(75, .c (.b (x811.Kind == (0 : Int))))], [], [], 8⟩ := tA9 _ _ (LS.sil htt rfl rfl rfl rfl rfl rfl)
      have st816 : A9 15 ⟨[(68, .c (.b false)), (75, .c (.b (x811.Kind == (0 : Int))))], [], [], [], 8, [(76, .c (.b (x811.Kind == (0 : Int))))], [], [], 8⟩ := tA9 _ _ (LS.sil htt rfl rfl rfl rfl rfl rfl)
      have st817 : A9 16 ⟨[(76, .c (.b (x811.Kind == (0 : Int))))], [], [], [], 8, [(77, .c (.b (x811.Kind == (0 : Int))))], [], [], 8⟩ := tA9 _ _ (LS.sil htt rfl rfl rfl rfl rfl rfl)
      rcases oc h with ⟨hc, h⟩ | ⟨hc, h⟩
      · have st818 := tA9 _ _ (LS.kb hc rfl (fA9 _ _ st817))
        have st819 : A9 17 ⟨[(77, .c (.b true))], [], [], [], 8, [(78, .u)], [], [], 8⟩ := tA9 _ _ (LS.skip rfl rfl rfl (.inr ⟨_, rfl, rfl⟩) rfl rfl)
        have st820 : A9 18 ⟨[(77, .c (.b true))], [], [], [], 8, [(79, .u)], [], [], 8⟩ := tA9 _ _ (LS.skip rfl rfl rfl (.inr ⟨_, rfl, rfl⟩) rfl rfl)
        have st821 : A9 19 ⟨[(77, .c (.b true))], [], [], [], 8, [(80, .u)], [], [], 8⟩ := tA9 _ _ (LS.skip rfl rfl rfl (.inr ⟨_, rfl, rfl⟩) rfl rfl)
        have st822 : A9 20 ⟨[(77, .c (.b true))], [], [], [], 8, [(81, .u)], [], [], 8⟩ := tA9 _ _ (LS.skip rfl rfl rfl (.inr ⟨_, rfl, rfl⟩) rfl rfl)
        have st823 : A9 21 ⟨[(77, .c (.b true))], [], [], [], 8, [(82, .u)], [], [], 8⟩ := tA9 _ _ (LS.skip rfl rfl rfl (.inr ⟨_, rfl, rfl⟩) rfl rfl)
        have st824 : A9 22 ⟨[(77, .c (.b true))], [], [], [], 8, [(83, .u)], [], [], 8⟩ := tA9 _ _ (LS.skip rfl rfl rfl (.inr ⟨_, rfl, rfl⟩) rfl rfl)
        have st825 : A9 23 ⟨[(77, .c (.b true))], [], [], [], 8, [(84, .u)], [], [], 8⟩ := tA9 _ _ (LS.skip rfl rfl rfl (.inr ⟨_, rfl, rfl⟩) rfl rfl)
        have st826 : A9 24 ⟨[(77, .c (.b true))], [], [], [], 8, [(85, .u)], [], [], 8⟩ := tA9 _ _ (LS.skip rfl rfl rfl (.inr ⟨_, rfl, rfl⟩) rfl rfl)
        have st827 : A9 25 ⟨[(77, .c (.b true))], [], [], [], 8, [(86, .u)], [], [], 8⟩ := tA9 _ _ (LS.skip rfl rfl rfl (.inr ⟨_, rfl, rfl⟩) rfl rfl)
        have st828 : A9 26 ⟨[(77, .c (.b true))], [], [], [], 8, [(87, .u)], [], [], 8⟩ := tA9 _ _ (LS.skip rfl rfl rfl (.inr ⟨_, rfl, rfl⟩) rfl rfl)
        have st829 : A9 27 ⟨[(77, .c (.b true))], [], [], [], 8, [(88, .u)], [], [], 8⟩ := tA9 _ _ (LS.skip rfl rfl rfl (.inr ⟨_, rfl, rfl⟩) rfl rfl)
        have st830 : A9 28 ⟨[(77, .c (.b true))], [], [], [], 8, [(89, .u)], [], [], 8⟩ := tA9 _ _ (LS.skip rfl rfl rfl (.inr ⟨_, rfl, rfl⟩) rfl rfl)
        have st831 : A9 29 ⟨[(77, .c (.b true))], [], [], [], 8, [(90, .u)], [], [], 8⟩ := tA9 _ _ (LS.skip rfl rfl rfl (.inr ⟨_, rfl, rfl⟩) rfl rfl)
        have st832 : A9 30 ⟨[(77, .c (.b true)), (90, .u)], [], [], [], 8, [(91, .c (.b true))], [], [], 8⟩ := tA9 _ _ (LS.sil htt rfl rfl rfl rfl rfl rfl)
        refine WP.regionD (t := ⟨[(1, .c (.sl 2)), (55, .c (.sl 1)), (56, .c (.i .i64 (g_.Equals.length : Int))), (57, .c (.i .i64 v57_14)), (91, .c (.b true))], [], [(0, .sl rR1 g_.Diffs), (1, .sl (rP (rI .i64) (rI .i64)) g_.Equals), (2, .sl rR5 l_)], 8⟩) [0, 0, 2, 7, 15, 31, 63, 127, 255, 255, 767, 2047, 4095, 8191, 16383, 32767, 65535, 131071, 131071, 393215, 1048575, 2097151, 4194303, 131071, 131071, 16908287, 58851327, 125960191, 260177919, 536870911, 1073741823] (.cons (fA9 _ _ st774) (.cons (fA9 _ _ st775) (.cons (fA9 _ _ st776) (.cons (fA9 _ _ st778) (.cons (fA9 _ _ st779) (.cons (fA9 _ _ st780) (.cons (fA9 _ _ st781) (.cons (fA9 _ _ st807) (.cons (fA9 _ _ st808) (.cons (fA9 _ _ st809) (.cons (fA9 _ _ st810) (.cons (fA9 _ _ st812) (.cons (fA9 _ _ st813) (.cons (fA9 _ _ st814) (.cons (fA9 _ _ st815) (.cons (fA9 _ _ st816) (.cons (fA9 _ _ st818) (.cons (fA9 _ _ st819) (.cons (fA9 _ _ st820) (.cons (fA9 _ _ st821) (.cons (fA9 _ _ st822) (.cons (fA9 _ _ st823) (.cons (fA9 _ _ st824) (.cons (fA9 _ _ st825) (.cons (fA9 _ _ st826) (.cons (fA9 _ _ st827) (.cons (fA9 _ _ st828) (.cons (fA9 _ _ st829) (.cons (fA9 _ _ st830) (.cons (fA9 _ _ st831) (.cons (fA9 _ _ st832) .nil))))))))))))))))))))))))))))))) (by kernel_rfl) (by kernel_rfl) (by kernel_rfl) (by kernel_rfl) (WP.condT rfl rfl (WP.seq (WP.region (WPr.sil htt 1 rfl (WPr.nil (?_))))))
        cases h
        exact WP.ret htt Tryz.func42 [] rfl rfl rfl rfl
      have st833 := tA9 _ _ (LS.kb hc rfl (fA9 _ _ st817))
      have st834 : A9 17 ⟨[(1, .c (.sl 2)), (77, .c (.b false))], [(2, .sl rR5 l_)], [], [], 8, [(78, .c (.sl 2))], [], [], 8⟩ := tA9 _ _ (LS.sil htt rfl rfl rfl rfl rfl rfl)
      have st835 : A9 18 ⟨[(11, .c (.bp 5 0)), (77, .c (.b false))], [], [], [(5, .box [.i .i64 x773.1, .i .i64 x773.2] 49)], 8, [(79, .c (.bp 5 0))], [], [], 8⟩ := tA9 _ _ (LS.of rfl rfl rfl (fun _ _ _ _ _ _ _ k => WPr.axb (len := 2) (el := 3) (es := 1) 0 rfl rfl rfl rfl rfl (by kernel_rfl) (by kernel_rfl) rfl rfl rfl rfl (k)) rfl)
      have st836 : A9 19 ⟨[(77, .c (.b false)), (79, .c (.bp 5 0))], [], [], [(5, .box [.i .i64 x773.1, .i .i64 x773.2] 49)], 8, [(80, .c (.i .i64 x773.1))], [], [], 8⟩ := tA9 _ _ (LS.sil htt rfl rfl rfl rfl rfl rfl)
      obtain ⟨x837, hx837, h⟩ := ob h
      have st838 : A9 20 ⟨[(77, .c (.b false)), (78, .c (.sl 2)), (80, .c (.i .i64 x773.1))], [(2, .sl rR5 l_)], [], [], 8, [(81, .c (.px 8 0))], [(8, .pl [.i .i64 x837.Kind, .i .i64 x837.N, .s x837.S])], [], 9⟩ := tA9 _ _ (LS.of rfl rfl rfl (fun _ _ _ _ _ _ _ k => WPr.ix oO5 htt hx837 rfl rfl rfl rfl rfl rfl rfl rfl rfl (k)) rfl)
      have st839 : A9 21 ⟨[(77, .c (.b false)), (81, .c (.px 8 0))], [(8, .pl [.i .i64 x837.Kind, .i .i64 x837.N, .s x837.S])], [], [], 9, [(82, .c (.px 8 2))], [], [], 9⟩ := tA9 _ _ (LS.sil htt rfl rfl rfl rfl rfl rfl)
      have st840 : A9 22 ⟨[(77, .c (.b false)), (82, .c (.px 8 2))], [(8, .pl [.i .i64 x837.Kind, .i .i64 x837.N, .s x837.S])], [], [], 9, [(83, .c (.s x837.S))], [], [], 9⟩ := tA9 _ _ (LS.sil htt rfl rfl rfl rfl rfl rfl)
      have st841 : A9 23 ⟨[(1, .c (.sl 2)), (77, .c (.b false))], [(2, .sl rR5 l_)], [], [], 9, [(84, .c (.sl 2))], [], [], 9⟩ := tA9 _ _ (LS.sil htt rfl rfl rfl rfl rfl rfl)
      have st842 : A9 24 ⟨[(11, .c (.bp 5 0)), (77, .c (.b false))], [], [], [(5, .box [.i .i64 x773.1, .i .i64 x773.2] 49)], 9, [(85, .c (.bp 5 1))], [], [], 9⟩ := tA9 _ _ (LS.of rfl rfl rfl (fun _ _ _ _ _ _ _ k => WPr.axb (len := 2) (el := 3) (es := 1) 1 rfl rfl rfl rfl rfl (by kernel_rfl) (by kernel_rfl) rfl rfl rfl rfl (k)) rfl)
      have st843 : A9 25 ⟨[(77, .c (.b false)), (85, .c (.bp 5 1))], [], [], [(5, .box [.i .i64 x773.1, .i .i64 x773.2] 49)], 9, [(86, .c (.i .i64 x773.2))], [], [], 9⟩ := tA9 _ _ (LS.sil htt rfl rfl rfl rfl rfl rfl)
      obtain ⟨x844, hx844, h⟩ := ob h
      have st845 : A9 26 ⟨[(77, .c (.b false)), (84, .c (.sl 2)), (86, .c (.i .i64 x773.2))], [(2, .sl rR5 l_)], [], [], 9, [(87, .c (.px 9 0))], [(9, .pl [.i .i64 x844.Kind, .i .i64 x844.N, .s x844.S])], [], 10⟩ := tA9 _ _ (LS.of rfl rfl rfl (fun _ _ _ _ _ _ _ k => WPr.ix oO5 htt hx844 rfl rfl rfl rfl rfl rfl rfl rfl rfl (k)) rfl)
      have st846 : A9 27 ⟨[(77, .c (.b false)), (87, .c (.px 9 0))], [(9, .pl [.i .i64 x844.Kind, .i .i64 x844.N, .s x844.S])], [], [], 10, [(88, .c (.px 9 2))], [], [], 10⟩ := tA9 _ _ (LS.sil htt rfl rfl rfl rfl rfl rfl)
      have st847 : A9 28 ⟨[(77, .c (.b false)), (88, .c (.px 9 2))], [(9, .pl [.i .i64 x844.Kind, .i .i64 x844.N, .s x844.S])], [], [], 10, [(89, .c (.s x844.S))], [], [], 10⟩ := tA9 _ _ (LS.sil htt rfl rfl rfl rfl rfl rfl)
      have st848 : A9 29 ⟨[(77, .c (.b false)), (83, .c (.s x837.S)), (89, .c (.s x844.S))], [], [], [], 10, [(90, .c (.b (!(x837.S.toList == x844.S.toList))))], [], [], 10⟩ := tA9 _ _ (LS.sil htt rfl rfl rfl rfl rfl rfl)
      have st849 : A9 30 ⟨[(77, .c (.b false)), (90, .c (.b (!(x837.S.toList == x844.S.toList))))], [], [], [], 10, [(91, .c (.b (!(x837.S.toList == x844.S.toList))))], [], [], 10⟩ := tA9 _ _ (LS.sil htt rfl rfl rfl rfl rfl rfl)
      refine WP.regionD (t := ⟨[(1, .c (.sl 2)), (55, .c (.sl 1)), (56, .c (.i .i64 (g_.Equals.length : Int))), (57, .c (.i .i64 v57_14)), (91, .c (.b (!(x837.S.toList == x844.S.toList))))], [], [(0, .sl rR1 g_.Diffs), (1, .sl (rP (rI .i64) (rI .i64)) g_.Equals), (2, .sl rR5 l_)], 10⟩) [0, 0, 2, 7, 15, 31, 63, 127, 255, 255, 767, 2047, 4095, 8191, 16383, 32767, 65535, 131071, 131071, 393215, 1048575, 2097151, 4194303, 131071, 131071, 16908287, 58851327, 125960191, 260177919, 536870911, 1073741823] (.cons (fA9 _ _ st774) (.cons (fA9 _ _ st775) (.cons (fA9 _ _ st776) (.cons (fA9 _ _ st778) (.cons (fA9 _ _ st779) (.cons (fA9 _ _ st780) (.cons (fA9 _ _ st781) (.cons (fA9 _ _ st807) (.cons (fA9 _ _ st808) (.cons (fA9 _ _ st809) (.cons (fA9 _ _ st810) (.cons (fA9 _ _ st812) (.cons (fA9 _ _ st813) (.cons (fA9 _ _ st814) (.cons (fA9 _ _ st815) (.cons (fA9 _ _ st816) (.cons (fA9 _ _ st833) (.cons (fA9 _ _ st834) (.cons (fA9 _ _ st835) (.cons (fA9 _ _ st836) (.cons (fA9 _ _ st838) (.cons (fA9 _ _ st839) (.cons (fA9 _ _ st840) (.cons (fA9 _ _ st841) (.cons (fA9 _ _ st842) (.cons (fA9 _ _ st843) (.cons (fA9 _ _ st845) (.cons (fA9 _ _ st846) (.cons (fA9 _ _ st847) (.cons (fA9 _ _ st848) (.cons (fA9 _ _ st849) .nil))))))))))))))))))))))))))))))) (by kernel_rfl) (by kernel_rfl) (by kernel_rfl) (by kernel_rfl) (?_)
      rcases oc h with ⟨hc, h⟩ | ⟨hc, h⟩
      · refine WP.condT hc rfl (WP.seq (WP.region (WPr.sil htt 1 rfl (WPr.nil (?_)))))
        cases h
        exact WP.ret htt Tryz.func42 [] rfl rfl rfl rfl
      exact WP.condF hc rfl (WP.skip (WP.inBlock (WP.region (WPr.sil htt 2 rfl (WPr.nil (WP.sub [] (ih14 (w64 (v57_14 + (1 : Int))) h) rfl rfl rfl rfl))))))
    exact WP.sub [] (ih N (0 : Int) h) rfl rfl rfl rfl
  refine WP.block (?_)
  refine WP.loopI (σ := Int) (fun st => ⟨[(1, .c (.sl 2)), (2, .c (.bp 3 0)), (13, .c (.sl 0)), (14, .c (.i .i64 (g_.Diffs.length : Int))), (15, .c (.i .i64 st))], [(3, .box [.sl 0, .sl 1] 42)], [(0, .sl rR1 g_.Diffs), (1, .sl (rP (rI .i64) (rI .i64)) g_.Equals), (2, .sl rR5 l_)], 4⟩) (fun n st => z42_l4 N g_ l_ n st) (r := r) (fun _ => rfl) ?_ (fun ih => ?_)
  · intro n14 ih15
    intro v15_15 h
    replace h : z42_l4 N g_ l_ (n14 + 1) v15_15 = some r := h
    unfold z42_l4 at h
    refine WP.seq (WP.region (WPr.sil htt 1 rfl (WPr.nil (WP.seq (?_)))))
    rcases oc' h with ⟨hc, h⟩ | ⟨hc, h⟩
    · exact WP.condF hc rfl (WP.exit rfl (WP.sub [] (j1 () h) rfl rfl rfl rfl))
    refine WP.condT hc rfl (WP.skip (WP.seq (WP.block (WP.seq (WP.region (?_))))))
    obtain ⟨x1010, hx1010, h⟩ := ob h
    refine WPr.ix oO1 htt hx1010 rfl rfl rfl rfl rfl rfl rfl rfl rfl (WPr.silx [] ⟨[(1, .c (.sl 2)), (2, .c (.bp 3 0)), (6, .c (.bp 5 0)), (13, .c (.sl 0)), (14, .c (.i .i64 (g_.Diffs.length : Int))), (15, .c (.i .i64 v15_15))], [(3, .box [.sl 0, .sl 1] 42), (5, .box [.i .i64 x1010.X, .i .i64 x1010.Y, .i .i64 x1010.C] 48)], [(0, .sl rR1 g_.Diffs), (1, .sl (rP (rI .i64) (rI .i64)) g_.Equals), (2, .sl rR5 l_)], 6⟩ htt 3 (by kernel_rfl) (WPr.nil (WP.seq (WP.region (WPr.silx [] ⟨[(1, .c (.sl 2)), (2, .c (.bp 3 0)), (6, .c (.bp 5 0)), (7, .c (.bp 6 0)), (13, .c (.sl 0)), (14, .c (.i .i64 (g_.Diffs.length : Int))), (15, .c (.i .i64 v15_15))], [(3, .box [.sl 0, .sl 1] 42), (5, .box [.i .i64 x1010.X, .i .i64 x1010.Y, .i .i64 x1010.C] 48), (6, .box [.i .i64 (0 : Int), .i .i64 (0 : Int)] 49)], [(0, .sl rR1 g_.Diffs), (1, .sl (rP (rI .i64) (rI .i64)) g_.Equals), (2, .sl rR5 l_)], 7⟩ htt 3 (by kernel_rfl) (WPr.nil (WP.seq (WP.seq (WP.region (WPr.silx [] ⟨[(1, .c (.sl 2)), (2, .c (.bp 3 0)), (6, .c (.bp 5 0)), (7, .c (.bp 6 0)), (13, .c (.sl 0)), (14, .c (.i .i64 (g_.Diffs.length : Int))), (15, .c (.i .i64 v15_15)), (24, .a [.i .i64 x1010.X, .i .i64 x1010.Y]), (25, .c (.i .i64 (0 : Int)))], [(3, .box [.sl 0, .sl 1] 42), (5, .box [.i .i64 x1010.X, .i .i64 x1010.Y, .i .i64 x1010.C] 48), (6, .box [.i .i64 (0 : Int), .i .i64 (0 : Int)] 49)], [(0, .sl rR1 g_.Diffs), (1, .sl (rP (rI .i64) (rI .i64)) g_.Equals), (2, .sl rR5 l_)], 7⟩ htt 6 (by kernel_rfl) (WPr.nil (?_))))))))))))
    refine WP.cut (σ := Int × Int) (fun st => ⟨[(1, .c (.sl 2)), (2, .c (.bp 3 0)), (6, .c (.bp 5 0)), (7, .c (.bp 6 0)), (13, .c (.sl 0)), (14, .c (.i .i64 (g_.Diffs.length : Int))), (15, .c (.i .i64 v15_15))], [(3, .box [.sl 0, .sl 1] 42), (5, .box [.i .i64 x1010.X, .i .i64 x1010.Y, .i .i64 x1010.C] 48), (6, .box [.i .i64 st.1, .i .i64 st.2] 49)], [(0, .sl rR1 g_.Diffs), (1, .sl (rP (rI .i64) (rI .i64)) g_.Equals), (2, .sl rR5 l_)], 7⟩) (fun st => z42_k5 v15_15 (z42_l4 N g_ l_ n14) x1010 st.1 st.2 = some r) ?_ (fun j22 => ?_)
    · rintro ⟨vb7_6_0_22, vb7_6_1_22⟩ h
      replace h : z42_k5 v15_15 (z42_l4 N g_ l_ n14) x1010 vb7_6_0_22 vb7_6_1_22 = some r := h
      unfold z42_k5 at h
      refine WP.seq (WP.region (WPr.axb (len := 2) (el := 3) (es := 1) 0 rfl rfl rfl rfl rfl (by kernel_rfl) (by kernel_rfl) rfl rfl rfl rfl (WPr.sil htt 1 rfl (WPr.axb (len := 2) (el := 3) (es := 1) 1 rfl rfl rfl rfl rfl (by kernel_rfl) (by kernel_rfl) rfl rfl rfl rfl (WPr.silx [] ⟨[(1, .c (.sl 2)), (2, .c (.bp 3 0)), (13, .c (.sl 0)), (14, .c (.i .i64 (g_.Diffs.length : Int))), (15, .c (.i .i64 v15_15)), (52, .c (.b (decide ((w64 (vb7_6_0_22 - vb7_6_1_22)) > x1010.C))))], [(3, .box [.sl 0, .sl 1] 42)], [(0, .sl rR1 g_.Diffs), (1, .sl (rP (rI .i64) (rI .i64)) g_.Equals), (2, .sl rR5 l_)], 7⟩ htt 5 (by kernel_rfl) (WPr.nil (?_)))))))
      rcases oc h with ⟨hc, h⟩ | ⟨hc, h⟩
      · refine WP.condT hc rfl (WP.seq (WP.region (WPr.sil htt 1 rfl (WPr.nil (?_)))))
        cases h
        exact WP.ret htt Tryz.func42 [] rfl rfl rfl rfl
      exact WP.condF hc rfl (WP.skip (WP.inBlock (WP.region (WPr.sil htt 2 rfl (WPr.nil (WP.sub [] (ih15 (w64 (v15_15 + (1 : Int))) h) rfl rfl rfl rfl))))))
    refine WP.block (?_)
    refine WP.loopI (σ := Int × Int × Int) (fun st => ⟨[(1, .c (.sl 2)), (2, .c (.bp 3 0)), (6, .c (.bp 5 0)), (7, .c (.bp 6 0)), (13, .c (.sl 0)), (14, .c (.i .i64 (g_.Diffs.length : Int))), (15, .c (.i .i64 v15_15)), (24, .a [.i .i64 x1010.X, .i .i64 x1010.Y]), (25, .c (.i .i64 st.2.2))], [(3, .box [.sl 0, .sl 1] 42), (5, .box [.i .i64 x1010.X, .i .i64 x1010.Y, .i .i64 x1010.C] 48), (6, .box [.i .i64 st.1, .i .i64 st.2.1] 49)], [(0, .sl rR1 g_.Diffs), (1, .sl (rP (rI .i64) (rI .i64)) g_.Equals), (2, .sl rR5 l_)], 7⟩) (fun n st => z42_l6 N l_ v15_15 (z42_l4 N g_ l_ n14) x1010 n st.1 st.2.1 st.2.2) (r := r) (fun _ => rfl) ?_ (fun ih => ?_)
    · intro n16 ih24
      rintro ⟨vb7_6_0_24, vb7_6_1_24, v25_24⟩ h
      replace h : z42_l6 N l_ v15_15 (z42_l4 N g_ l_ n14) x1010 (n16 + 1) vb7_6_0_24 vb7_6_1_24 v25_24 = some r := h
      unfold z42_l6 at h
      refine WP.seq (WP.region (WPr.sil htt 1 rfl (WPr.nil (WP.seq (?_)))))
      rcases oc' h with ⟨hc, h⟩ | ⟨hc, h⟩
      · exact WP.condF hc rfl (WP.exit rfl (WP.sub [] (j22 (vb7_6_0_24, vb7_6_1_24) h) rfl rfl rfl rfl))
      refine WP.condT hc rfl (WP.skip (WP.seq (WP.block (WP.seq (WP.region (WPr.sil htt 1 rfl (?_)))))))
      obtain ⟨x1049, hx1049, h⟩ := ob h
      refine WPr.ax (len := 2) (el := 3) (SC.i .i64) ([x1010.X, x1010.Y] : List Int) hx1049 rfl rfl rfl rfl (by kernel_rfl) (by kernel_rfl) (by kernel_rfl) (by kernel_rfl) rfl rfl rfl rfl (WPr.silx [] ⟨[(1, .c (.sl 2)), (2, .c (.bp 3 0)), (6, .c (.bp 5 0)), (7, .c (.bp 6 0)), (8, .c (.i .i64 v25_24)), (9, .c (.i .i64 x1049)), (13, .c (.sl 0)), (14, .c (.i .i64 (g_.Diffs.length : Int))), (15, .c (.i .i64 v15_15)), (24, .a [.i .i64 x1010.X, .i .i64 x1010.Y]), (25, .c (.i .i64 v25_24))], [(3, .box [.sl 0, .sl 1] 42), (5, .box [.i .i64 x1010.X, .i .i64 x1010.Y, .i .i64 x1010.C] 48), (6, .box [.i .i64 vb7_6_0_24, .i .i64 vb7_6_1_24] 49)], [(0, .sl rR1 g_.Diffs), (1, .sl (rP (rI .i64) (rI .i64)) g_.Equals), (2, .sl rR5 l_)], 7⟩ htt 2 (by kernel_rfl) (WPr.nil (WP.seq (WP.seq (WP.region (WPr.sil htt 2 rfl (WPr.nil (?_))))))))
      rcases oc h with ⟨hc, h⟩ | ⟨hc, h⟩
      · exact WP.condT hc rfl (WP.exit rfl (WP.region (WPr.silx [] ⟨[(1, .c (.sl 2)), (2, .c (.bp 3 0)), (6, .c (.bp 5 0)), (7, .c (.bp 6 0)), (13, .c (.sl 0)), (14, .c (.i .i64 (g_.Diffs.length : Int))), (15, .c (.i .i64 v15_15)), (24, .a [.i .i64 x1010.X, .i .i64 x1010.Y]), (25, .c (.i .i64 (w64 (v25_24 + (1 : Int)))))], [(3, .box [.sl 0, .sl 1] 42), (5, .box [.i .i64 x1010.X, .i .i64 x1010.Y, .i .i64 x1010.C] 48), (6, .box [.i .i64 vb7_6_0_24, .i .i64 vb7_6_1_24] 49)], [(0, .sl rR1 g_.Diffs), (1, .sl (rP (rI .i64) (rI .i64)) g_.Equals), (2, .sl rR5 l_)], 7⟩ htt 2 (by kernel_rfl) (WPr.nil (WP.sub [] (ih24 (vb7_6_0_24, vb7_6_1_24, (w64 (v25_24 + (1 : Int)))) h) rfl rfl rfl rfl)))))
      refine WP.condF hc rfl (WP.skip (WP.seq (WP.seq (WP.region (WPr.silx [2, 3, 4, 5] ⟨[(1, .c (.sl 2)), (2, .c (.bp 3 0)), (6, .c (.bp 5 0)), (7, .c (.bp 6 0)), (8, .c (.i .i64 v25_24)), (9, .c (.i .i64 x1049)), (13, .c (.sl 0)), (14, .c (.i .i64 (g_.Diffs.length : Int))), (15, .c (.i .i64 v15_15)), (24, .a [.i .i64 x1010.X, .i .i64 x1010.Y]), (25, .c (.i .i64 v25_24)), (31, .c (.sl 2)), (32, .c (.i .i64 x1049))], [(3, .box [.sl 0, .sl 1] 42), (5, .box [.i .i64 x1010.X, .i .i64 x1010.Y, .i .i64 x1010.C] 48), (6, .box [.i .i64 vb7_6_0_24, .i .i64 vb7_6_1_24] 49)], [(0, .sl rR1 g_.Diffs), (1, .sl (rP (rI .i64) (rI .i64)) g_.Equals), (2, .sl rR5 l_)], 7⟩ htt 2 (by kernel_rfl) (?_))))))
      obtain ⟨x1050, hx1050, h⟩ := ob h
      refine WPr.ix oO5 htt hx1050 rfl rfl rfl rfl rfl rfl rfl rfl rfl (WPr.silx [] ⟨[(1, .c (.sl 2)), (2, .c (.bp 3 0)), (6, .c (.bp 5 0)), (7, .c (.bp 6 0)), (8, .c (.i .i64 v25_24)), (9, .c (.i .i64 x1049)), (13, .c (.sl 0)), (14, .c (.i .i64 (g_.Diffs.length : Int))), (15, .c (.i .i64 v15_15)), (24, .a [.i .i64 x1010.X, .i .i64 x1010.Y]), (25, .c (.i .i64 v25_24)), (36, .c (.b (x1050.Kind == (0 : Int))))], [(3, .box [.sl 0, .sl 1] 42), (5, .box [.i .i64 x1010.X, .i .i64 x1010.Y, .i .i64 x1010.C] 48), (6, .box [.i .i64 vb7_6_0_24, .i .i64 vb7_6_1_24] 49)], [(0, .sl rR1 g_.Diffs), (1, .sl (rP (rI .i64) (rI .i64)) g_.Equals), (2, .sl rR5 l_)], 8⟩ htt 3 (by kernel_rfl) (WPr.nil (?_)))
      rcases oc h with ⟨hc, h⟩ | ⟨hc, h⟩
      · refine WP.condT hc rfl (WP.seq (WP.region (WPr.sil htt 1 rfl (WPr.nil (?_)))))
        cases h
        exact WP.ret htt Tryz.func42 [] rfl rfl rfl rfl
      refine WP.condF hc rfl (WP.skip (WP.region (WPr.silx [3, 4, 5, 6, 7] ⟨[(1, .c (.sl 2)), (2, .c (.bp 3 0)), (6, .c (.bp 5 0)), (7, .c (.bp 6 0)), (13, .c (.sl 0)), (14, .c (.i .i64 (g_.Diffs.length : Int))), (15, .c (.i .i64 v15_15)), (24, .a [.i .i64 x1010.X, .i .i64 x1010.Y]), (25, .c (.i .i64 v25_24)), (37, .c (.i .i64 v25_24)), (38, .c (.sl 2)), (39, .c (.i .i64 x1049))], [(3, .box [.sl 0, .sl 1] 42), (5, .box [.i .i64 x1010.X, .i .i64 x1010.Y, .i .i64 x1010.C] 48), (6, .box [.i .i64 vb7_6_0_24, .i .i64 vb7_6_1_24] 49)], [(0, .sl rR1 g_.Diffs), (1, .sl (rP (rI .i64) (rI .i64)) g_.Equals), (2, .sl rR5 l_)], 8⟩ htt 3 (by kernel_rfl) (?_))))
      obtain ⟨x1051, hx1051, h⟩ := ob h
      refine WPr.ix oO5 htt hx1051 rfl rfl rfl rfl rfl rfl rfl rfl rfl (WPr.sil htt 1 rfl (?_))
      obtain ⟨x1052, hx1052, h⟩ := ob h
      refine WPr.call (z36_ct N x1051 _ hx1052) [] [] rfl rfl rfl rfl rfl rfl rfl rfl (.inl rfl) rfl (WPr.silx [6, 7] ⟨[(1, .c (.sl 2)), (2, .c (.bp 3 0)), (6, .c (.bp 5 0)), (7, .c (.bp 6 0)), (13, .c (.sl 0)), (14, .c (.i .i64 (g_.Diffs.length : Int))), (15, .c (.i .i64 v15_15)), (24, .a [.i .i64 x1010.X, .i .i64 x1010.Y]), (25, .c (.i .i64 v25_24)), (37, .c (.i .i64 v25_24)), (42, .c (.i .i64 x1052))], [(3, .box [.sl 0, .sl 1] 42), (5, .box [.i .i64 x1010.X, .i .i64 x1010.Y, .i .i64 x1010.C] 48), (6, .box [.i .i64 vb7_6_0_24, .i .i64 vb7_6_1_24] 49)], [(0, .sl rR1 g_.Diffs), (1, .sl (rP (rI .i64) (rI .i64)) g_.Equals), (2, .sl rR5 l_)], 9⟩ htt 0 (by kernel_rfl) (?_))
      rcases oc h with ⟨hc, h⟩ | ⟨hc, h⟩
      · exact WPr.axb (len := 2) (el := 3) (es := 1) 0 (by exact eq_of_beq hc) rfl rfl rfl rfl (by kernel_rfl) (by kernel_rfl) rfl rfl rfl rfl (WPr.sil htt 1 rfl (WPr.nil (WP.inBlock (WP.region (WPr.silx [] ⟨[(1, .c (.sl 2)), (2, .c (.bp 3 0)), (6, .c (.bp 5 0)), (7, .c (.bp 6 0)), (13, .c (.sl 0)), (14, .c (.i .i64 (g_.Diffs.length : Int))), (15, .c (.i .i64 v15_15)), (24, .a [.i .i64 x1010.X, .i .i64 x1010.Y]), (25, .c (.i .i64 (w64 (v25_24 + (1 : Int)))))], [(3, .box [.sl 0, .sl 1] 42), (5, .box [.i .i64 x1010.X, .i .i64 x1010.Y, .i .i64 x1010.C] 48), (6, .box [.i .i64 x1052, .i .i64 vb7_6_1_24] 49)], [(0, .sl rR1 g_.Diffs), (1, .sl (rP (rI .i64) (rI .i64)) g_.Equals), (2, .sl rR5 l_)], 9⟩ htt 2 (by kernel_rfl) (WPr.nil (WP.sub [] (ih24 (x1052, vb7_6_1_24, (w64 (v25_24 + (1 : Int)))) h) rfl rfl rfl rfl)))))))
      rcases oc h with ⟨hc, h⟩ | ⟨hc, h⟩
      · exact WPr.axb (len := 2) (el := 3) (es := 1) 1 (by exact eq_of_beq hc) rfl rfl rfl rfl (by kernel_rfl) (by kernel_rfl) rfl rfl rfl rfl (WPr.sil htt 1 rfl (WPr.nil (WP.inBlock (WP.region (WPr.silx [] ⟨[(1, .c (.sl 2)), (2, .c (.bp 3 0)), (6, .c (.bp 5 0)), (7, .c (.bp 6 0)), (13, .c (.sl 0)), (14, .c (.i .i64 (g_.Diffs.length : Int))), (15, .c (.i .i64 v15_15)), (24, .a [.i .i64 x1010.X, .i .i64 x1010.Y]), (25, .c (.i .i64 (w64 (v25_24 + (1 : Int)))))], [(3, .box [.sl 0, .sl 1] 42), (5, .box [.i .i64 x1010.X, .i .i64 x1010.Y, .i .i64 x1010.C] 48), (6, .box [.i .i64 vb7_6_0_24, .i .i64 x1052] 49)], [(0, .sl rR1 g_.Diffs), (1, .sl (rP (rI .i64) (rI .i64)) g_.Equals), (2, .sl rR5 l_)], 9⟩ htt 2 (by kernel_rfl) (WPr.nil (WP.sub [] (ih24 (vb7_6_0_24, x1052, (w64 (v25_24 + (1 : Int)))) h) rfl rfl rfl rfl)))))))
      cases h
    exact WP.sub [] (ih N ((0 : Int), (0 : Int), (0 : Int)) h) rfl rfl rfl rfl
  exact WP.sub [] (ih N (0 : Int) h) rfl rfl rfl rfl
theorem z16_ct (N : Nat) (decls_ : (List T0)) (label_ : Int) (values_ : (List T5)) (known_ : (List T5)) (r : Bool) (h : z16 N decls_ label_ values_ known_ = some r) :
  Fn Tryz.prog 16 ⟨3, [.c (.sl 0), .c (.i .i64 label_), .c (.sl 1), .c (.sl 2)], [(0, .sl rR0 decls_), (1, .sl rR5 values_), (2, .sl rR5 known_)], [], 3, .c (.b r), [], []⟩ := by
  refine Fn.intro _ _ Tryz.func16 rfl (by kernel_rfl) rfl (fun E F w => ?_)
  unfold z16 at h
  refine WP.seq (WP.region (WPr.sil htt 1 rfl (WPr.nil (WP.seq (WP.seq (WP.region (WPr.silx [3, 4, 5, 6, 7, 8, 9, 10, 11, 12, 13, 14] ⟨[(0, .c (.sl 0)), (1, .c (.i .i64 label_)), (2, .c (.sl 1)), (3, .c (.sl 2)), (8, .c (.b false)), (10, .c (.sl 0)), (11, .c (.i .i64 label_)), (12, .c (.sl 2))], [], [(0, .sl rR0 decls_), (1, .sl rR5 values_), (2, .sl rR5 known_)], 3⟩ htt 3 (by kernel_rfl) (?_))))))))
  obtain ⟨x1, hx1, h⟩ := ob h
  refine WPr.call (z33_ct N decls_ label_ known_ _ hx1) [(0, .sl 0), (1, .sl 2)] [] rfl rfl rfl rfl rfl rfl rfl rfl (.inl rfl) rfl (WPr.silx [6, 7, 8, 9, 10, 11, 12, 13, 14] ⟨[(0, .c (.sl 0)), (1, .c (.i .i64 label_)), (2, .c (.sl 1)), (3, .c (.sl 2)), (8, .c (.b false)), (15, .c (.b (!x1)))], [], [(0, .sl rR0 decls_), (1, .sl rR5 values_), (2, .sl rR5 known_)], 3⟩ htt 2 (by kernel_rfl) (?_))
  rcases oc h with ⟨hc, h⟩ | ⟨hc, h⟩
  · refine WPr.kb 15 hc rfl (WPr.silx [] ⟨[(0, .c (.sl 0)), (1, .c (.i .i64 label_)), (2, .c (.sl 1)), (3, .c (.sl 2)), (8, .c (.b false)), (24, .c (.b true))], [], [(0, .sl rR0 decls_), (1, .sl rR5 values_), (2, .sl rR5 known_)], 3⟩ htt 9 (by kernel_rfl) (WPr.nil (WP.condT rfl rfl (WP.seq (WP.region (WPr.sil htt 1 rfl (WPr.nil (?_))))))))
    cases h
    exact WP.ret htt Tryz.func16 [] rfl rfl rfl rfl
  refine WPr.kb 15 hc rfl (WPr.sil htt 2 rfl (?_))
  obtain ⟨x2, hx2, h⟩ := ob h
  refine WPr.ix oO0 htt hx2 rfl rfl rfl rfl rfl rfl rfl rfl rfl (WPr.silx [12, 13, 14] ⟨[(0, .c (.sl 0)), (1, .c (.i .i64 label_)), (2, .c (.sl 1)), (3, .c (.sl 2)), (8, .c (.b false)), (15, .c (.b false)), (20, .c (.sl 4)), (21, .c (.sl 1))], [], [(0, .sl rR0 decls_), (1, .sl rR5 values_), (2, .sl rR5 known_), (4, .sl rR2 x2.Fields)], 7⟩ htt 3 (by kernel_rfl) (?_))
  obtain ⟨x3, hx3, h⟩ := ob h
  refine WPr.call (z43_ct N x2.Fields values_ _ hx3) [(0, .sl 4), (1, .sl 1)] [] rfl rfl rfl rfl rfl rfl rfl rfl (.inl rfl) rfl (WPr.silx [] ⟨[(0, .c (.sl 0)), (1, .c (.i .i64 label_)), (2, .c (.sl 1)), (3, .c (.sl 2)), (8, .c (.b false)), (24, .c (.b (!x3)))], [], [(0, .sl rR0 decls_), (1, .sl rR5 values_), (2, .sl rR5 known_)], 7⟩ htt 2 (by kernel_rfl) (WPr.nil (?_)))
  rcases oc h with ⟨hc, h⟩ | ⟨hc, h⟩
  · refine WP.condT hc rfl (WP.seq (WP.region (WPr.sil htt 1 rfl (WPr.nil (?_)))))
    cases h
    exact WP.ret htt Tryz.func16 [] rfl rfl rfl rfl
  refine WP.condF hc rfl (WP.skip (WP.seq (WP.region (WPr.sil htt 2 rfl (?_)))))
  obtain ⟨x4, hx4, h⟩ := ob h
  refine WPr.ix oO0 htt hx4 rfl rfl rfl rfl rfl rfl rfl rfl rfl (WPr.silx [] ⟨[(2, .c (.sl 1)), (3, .c (.sl 2)), (8, .c (.b false)), (9, .c (.bp 11 0))], [(11, .box [.s x4.Name, .sl 8, .i .i64 x4.First, .sl 9, .sl 10] 44)], [(0, .sl rR0 decls_), (1, .sl rR5 values_), (2, .sl rR5 known_), (8, .sl rR2 x4.Fields), (9, .sl rR1 x4.Guard.Diffs), (10, .sl (rP (rI .i64) (rI .i64)) x4.Guard.Equals)], 12⟩ htt 3 (by kernel_rfl) (WPr.nil (WP.seq (WP.nm (fun A1 tA1 fA1 => ?_)))))
  have st5 : A1 0 ⟨[(9, .c (.bp 11 0))], [], [], [], 12, [(29, .c (.bp 11 3))], [], [], 12⟩ := tA1 _ _ (LS.sil htt rfl rfl rfl rfl rfl rfl)
  have st6 : A1 1 ⟨[(29, .c (.bp 11 3))], [(8, .sl rR2 x4.Fields), (9, .sl rR1 x4.Guard.Diffs), (10, .sl (rP (rI .i64) (rI .i64)) x4.Guard.Equals)], [], [(11, .box [.s x4.Name, .sl 8, .i .i64 x4.First, .sl 9, .sl 10] 44)], 12, [(30, .a [.sl 9, .sl 10])], [], [], 12⟩ := tA1 _ _ (LS.sil htt rfl rfl rfl rfl rfl rfl)
  have st7 : A1 2 ⟨[(9, .c (.bp 11 0))], [(8, .sl rR2 x4.Fields), (9, .sl rR1 x4.Guard.Diffs), (10, .sl (rP (rI .i64) (rI .i64)) x4.Guard.Equals)], [], [(11, .box [.s x4.Name, .sl 8, .i .i64 x4.First, .sl 9, .sl 10] 44)], 12, [(31, .a [.s x4.Name, .sl 8, .i .i64 x4.First, .sl 9, .sl 10])], [], [], 12⟩ := tA1 _ _ (LS.sil htt rfl rfl rfl rfl rfl rfl)
  have st8 : A1 3 ⟨[(2, .c (.sl 1))], [(1, .sl rR5 values_)], [], [], 12, [(32, .c (.sl 1))], [], [], 12⟩ := tA1 _ _ (LS.sil htt rfl rfl rfl rfl rfl rfl)
  have st9 : A1 4 ⟨[(3, .c (.sl 2))], [(2, .sl rR5 known_)], [], [], 12, [(33, .c (.sl 2))], [], [], 12⟩ := tA1 _ _ (LS.sil htt rfl rfl rfl rfl rfl rfl)
  obtain ⟨x10, hx10, h⟩ := ob h
  have st11 : A1 5 ⟨[(31, .a [.s x4.Name, .sl 8, .i .i64 x4.First, .sl 9, .sl 10]), (32, .c (.sl 1)), (33, .c (.sl 2))], [(1, .sl rR5 values_), (2, .sl rR5 known_), (8, .sl rR2 x4.Fields), (9, .sl rR1 x4.Guard.Diffs), (10, .sl (rP (rI .i64) (rI .i64)) x4.Guard.Equals)], [], [], 12, [(34, .c (.sl 12))], [], [(12, .own rR5 x10 true)], 13⟩ := tA1 _ _ (LS.of rfl rfl rfl (fun _ _ _ _ _ _ _ k => WPr.call (z40_ct N x4 values_ known_ _ hx10) [(0, .sl 8), (1, .sl 9), (2, .sl 10), (3, .sl 1), (4, .sl 2)] [] rfl rfl rfl rfl rfl rfl rfl rfl (.inl rfl) rfl (k)) rfl)
  obtain ⟨x12, hx12, h⟩ := ob h
  have st13 : A1 6 ⟨[(30, .a [.sl 9, .sl 10]), (34, .c (.sl 12))], [(9, .sl rR1 x4.Guard.Diffs), (10, .sl (rP (rI .i64) (rI .i64)) x4.Guard.Equals)], [], [(12, .own rR5 x10 true)], 13, [(35, .c (.b x12))], [], [], 13⟩ := tA1 _ _ (LS.of rfl rfl rfl (fun _ _ _ _ _ _ _ k => WPr.call (z42_ct N x4.Guard x10 _ hx12) [(0, .sl 9), (1, .sl 10), (2, .sl 12)] [12] rfl rfl rfl rfl rfl rfl rfl rfl (.inr ⟨rfl, trivial⟩) rfl (k)) rfl)
  have st14 : A1 7 ⟨[(35, .c (.b x12))], [], [], [], 13, [(8, .c (.b x12))], [], [], 13⟩ := tA1 _ _ (LS.sil htt rfl rfl rfl rfl rfl rfl)
  refine WP.regionD (t := ⟨[(8, .c (.b x12))], [], [(0, .sl rR0 decls_), (1, .sl rR5 values_), (2, .sl rR5 known_)], 13⟩) [0, 1, 0, 0, 0, 28, 63, 127] (.cons (fA1 _ _ st5) (.cons (fA1 _ _ st6) (.cons (fA1 _ _ st7) (.cons (fA1 _ _ st8) (.cons (fA1 _ _ st9) (.cons (fA1 _ _ st11) (.cons (fA1 _ _ st13) (.cons (fA1 _ _ st14) .nil)))))))) (by kernel_rfl) (by kernel_rfl) (by kernel_rfl) (by kernel_rfl) (?_)
  cases h
  exact WP.ret htt Tryz.func16 [] rfl rfl rfl rfl
theorem law14_GuardParts_ct (N : Nat) (d_ : (List T0)) (label_ : Int) (c_ : T6) (r : Bool) (h : law14_GuardParts N d_ label_ c_ = some r) :
  Fn Tryz.prog 6 ⟨3, [.c (.sl 0), .c (.i .i64 label_), .a [.sl 1, .sl 2]], [(0, .sl rR0 d_), (1, .sl rR5 c_.Values), (2, .sl rR5 c_.Known)], [], 3, .c (.b r), [], []⟩ := by
  refine Fn.intro _ _ Tryz.func6 rfl (by kernel_rfl) rfl (fun E F w => ?_)
  unfold law14_GuardParts at h
  refine WP.seq (WP.region (WPr.sil htt 2 rfl (WPr.nil (WP.seq (WP.seq (WP.region (?_)))))))
  obtain ⟨x1, hx1, h⟩ := ob h
  refine WPr.call (z11_ct N _ hx1) [] [] rfl rfl rfl rfl rfl rfl rfl rfl (.inl rfl) rfl (WPr.silx [3, 4, 5, 6, 7, 8, 9, 10, 11, 12, 13, 14, 15, 16, 17, 18, 19, 20] ⟨[(0, .c (.sl 0)), (1, .c (.i .i64 label_)), (5, .c (.bp 3 0)), (6, .c (.b false)), (16, .c (.b (!x1)))], [(3, .box [.sl 1, .sl 2] 31)], [(0, .sl rR0 d_), (1, .sl rR5 c_.Values), (2, .sl rR5 c_.Known)], 4⟩ htt 2 (by kernel_rfl) (?_))
  rcases oc h with ⟨hc, h⟩ | ⟨hc, h⟩
  · refine WPr.kb 16 hc rfl (WPr.silx [] ⟨[(0, .c (.sl 0)), (1, .c (.i .i64 label_)), (5, .c (.bp 3 0)), (6, .c (.b false)), (34, .c (.b true))], [(3, .box [.sl 1, .sl 2] 31)], [(0, .sl rR0 d_), (1, .sl rR5 c_.Values), (2, .sl rR5 c_.Known)], 4⟩ htt 18 (by kernel_rfl) (WPr.nil (WP.condT rfl rfl (WP.seq (WP.region (?_))))))
    obtain ⟨x2, hx2, h⟩ := ob h
    refine WPr.call (z11_ct N _ hx2) [] [] rfl rfl rfl rfl rfl rfl rfl rfl (.inl rfl) rfl (WPr.silx [] ⟨[(6, .c (.b x2))], [], [(0, .sl rR0 d_), (1, .sl rR5 c_.Values), (2, .sl rR5 c_.Known)], 4⟩ htt 1 (by kernel_rfl) (WPr.nil (?_)))
    cases h
    exact WP.ret htt Tryz.func6 [] rfl rfl rfl rfl
  refine WPr.kb 16 hc rfl (WPr.silx [8, 9, 10, 11, 12, 13, 14, 15, 16, 17, 18, 19, 20] ⟨[(0, .c (.sl 0)), (1, .c (.i .i64 label_)), (5, .c (.bp 3 0)), (6, .c (.b false)), (16, .c (.b false)), (17, .c (.sl 0)), (19, .c (.sl 1)), (21, .c (.sl 2))], [(3, .box [.sl 1, .sl 2] 31)], [(0, .sl rR0 d_), (1, .sl rR5 c_.Values), (2, .sl rR5 c_.Known)], 4⟩ htt 5 (by kernel_rfl) (?_))
  obtain ⟨x3, hx3, h⟩ := ob h
  refine WPr.call (z12_ct N d_ c_.Values c_.Known _ hx3) [(0, .sl 0), (1, .sl 1), (2, .sl 2)] [] rfl rfl rfl rfl rfl rfl rfl rfl (.inl rfl) rfl (WPr.silx [12, 13, 14, 15, 16, 17, 18, 19, 20] ⟨[(0, .c (.sl 0)), (1, .c (.i .i64 label_)), (5, .c (.bp 3 0)), (6, .c (.b false)), (25, .c (.b (!x3)))], [(3, .box [.sl 1, .sl 2] 31)], [(0, .sl rR0 d_), (1, .sl rR5 c_.Values), (2, .sl rR5 c_.Known)], 4⟩ htt 3 (by kernel_rfl) (?_))
  rcases oc h with ⟨hc, h⟩ | ⟨hc, h⟩
  · refine WPr.kb 25 hc rfl (WPr.silx [] ⟨[(0, .c (.sl 0)), (1, .c (.i .i64 label_)), (5, .c (.bp 3 0)), (6, .c (.b false)), (34, .c (.b true))], [(3, .box [.sl 1, .sl 2] 31)], [(0, .sl rR0 d_), (1, .sl rR5 c_.Values), (2, .sl rR5 c_.Known)], 4⟩ htt 9 (by kernel_rfl) (WPr.nil (WP.condT rfl rfl (WP.seq (WP.region (?_))))))
    obtain ⟨x4, hx4, h⟩ := ob h
    refine WPr.call (z11_ct N _ hx4) [] [] rfl rfl rfl rfl rfl rfl rfl rfl (.inl rfl) rfl (WPr.silx [] ⟨[(6, .c (.b x4))], [], [(0, .sl rR0 d_), (1, .sl rR5 c_.Values), (2, .sl rR5 c_.Known)], 4⟩ htt 1 (by kernel_rfl) (WPr.nil (?_)))
    cases h
    exact WP.ret htt Tryz.func6 [] rfl rfl rfl rfl
  refine WPr.kb 25 hc rfl (WPr.silx [16, 17, 18, 19, 20] ⟨[(0, .c (.sl 0)), (1, .c (.i .i64 label_)), (5, .c (.bp 3 0)), (6, .c (.b false)), (29, .c (.b (decide (label_ < (0 : Int)))))], [(3, .box [.sl 1, .sl 2] 31)], [(0, .sl rR0 d_), (1, .sl rR5 c_.Values), (2, .sl rR5 c_.Known)], 4⟩ htt 4 (by kernel_rfl) (?_))
  rcases oc h with ⟨hc, h⟩ | ⟨hc, h⟩
  · refine WPr.kb 29 hc rfl (WPr.silx [] ⟨[(0, .c (.sl 0)), (1, .c (.i .i64 label_)), (5, .c (.bp 3 0)), (6, .c (.b false)), (34, .c (.b true))], [(3, .box [.sl 1, .sl 2] 31)], [(0, .sl rR0 d_), (1, .sl rR5 c_.Values), (2, .sl rR5 c_.Known)], 4⟩ htt 5 (by kernel_rfl) (WPr.nil (WP.condT rfl rfl (WP.seq (WP.region (?_))))))
    obtain ⟨x5, hx5, h⟩ := ob h
    refine WPr.call (z11_ct N _ hx5) [] [] rfl rfl rfl rfl rfl rfl rfl rfl (.inl rfl) rfl (WPr.silx [] ⟨[(6, .c (.b x5))], [], [(0, .sl rR0 d_), (1, .sl rR5 c_.Values), (2, .sl rR5 c_.Known)], 4⟩ htt 1 (by kernel_rfl) (WPr.nil (?_)))
    cases h
    exact WP.ret htt Tryz.func6 [] rfl rfl rfl rfl
  refine WPr.kb 29 hc rfl (WPr.silx [] ⟨[(0, .c (.sl 0)), (1, .c (.i .i64 label_)), (5, .c (.bp 3 0)), (6, .c (.b false)), (34, .c (.b (decide (label_ ≥ (d_.length : Int)))))], [(3, .box [.sl 1, .sl 2] 31)], [(0, .sl rR0 d_), (1, .sl rR5 c_.Values), (2, .sl rR5 c_.Known)], 4⟩ htt 5 (by kernel_rfl) (WPr.nil (?_)))
  rcases oc h with ⟨hc, h⟩ | ⟨hc, h⟩
  · refine WP.condT hc rfl (WP.seq (WP.region (?_)))
    obtain ⟨x6, hx6, h⟩ := ob h
    refine WPr.call (z11_ct N _ hx6) [] [] rfl rfl rfl rfl rfl rfl rfl rfl (.inl rfl) rfl (WPr.silx [] ⟨[(6, .c (.b x6))], [], [(0, .sl rR0 d_), (1, .sl rR5 c_.Values), (2, .sl rR5 c_.Known)], 4⟩ htt 1 (by kernel_rfl) (WPr.nil (?_)))
    cases h
    exact WP.ret htt Tryz.func6 [] rfl rfl rfl rfl
  refine WP.condF hc rfl (WP.skip (WP.seq (WP.seq (WP.region (WPr.sil htt 1 rfl (?_))))))
  obtain ⟨x7, hx7, h⟩ := ob h
  refine WPr.call (z18_ct N d_ _ hx7) [(0, .sl 0)] [] rfl rfl rfl rfl rfl rfl rfl rfl (.inl rfl) rfl (WPr.silx [] ⟨[(0, .c (.sl 0)), (1, .c (.i .i64 label_)), (5, .c (.bp 3 0)), (6, .c (.b false)), (38, .c (.b (!x7)))], [(3, .box [.sl 1, .sl 2] 31)], [(0, .sl rR0 d_), (1, .sl rR5 c_.Values), (2, .sl rR5 c_.Known)], 4⟩ htt 1 (by kernel_rfl) (WPr.nil (?_)))
  rcases oc h with ⟨hc, h⟩ | ⟨hc, h⟩
  · refine WP.condT hc rfl (WP.seq (WP.region (WPr.silx [6, 7, 8] ⟨[(39, .c (.sl 0)), (40, .c (.i .i64 label_)), (42, .c (.sl 1)), (44, .c (.sl 2))], [], [(0, .sl rR0 d_), (1, .sl rR5 c_.Values), (2, .sl rR5 c_.Known)], 4⟩ htt 6 (by kernel_rfl) (?_))))
    obtain ⟨x8, hx8, h⟩ := ob h
    refine WPr.call (z16_ct N d_ label_ c_.Values c_.Known _ hx8) [(0, .sl 0), (1, .sl 1), (2, .sl 2)] [] rfl rfl rfl rfl rfl rfl rfl rfl (.inl rfl) rfl (WPr.silx [] ⟨[(6, .c (.b (!x8)))], [], [(0, .sl rR0 d_), (1, .sl rR5 c_.Values), (2, .sl rR5 c_.Known)], 4⟩ htt 2 (by kernel_rfl) (WPr.nil (?_)))
    cases h
    exact WP.ret htt Tryz.func6 [] rfl rfl rfl rfl
  refine WP.condF hc rfl (WP.skip (WP.seq (WP.region (WPr.sil htt 2 rfl (?_)))))
  obtain ⟨x9, hx9, h⟩ := ob h
  refine WPr.ix oO0 htt hx9 rfl rfl rfl rfl rfl rfl rfl rfl rfl (WPr.silx [] ⟨[(0, .c (.sl 0)), (1, .c (.i .i64 label_)), (5, .c (.bp 3 0)), (6, .c (.b false)), (7, .c (.bp 8 0))], [(3, .box [.sl 1, .sl 2] 31), (8, .box [.sl 6, .sl 7] 42)], [(0, .sl rR0 d_), (1, .sl rR5 c_.Values), (2, .sl rR5 c_.Known), (6, .sl rR1 x9.Guard.Diffs), (7, .sl (rP (rI .i64) (rI .i64)) x9.Guard.Equals)], 9⟩ htt 4 (by kernel_rfl) (WPr.nil (WP.seq (WP.region (WPr.bs (cs := []) oO0 htt ([] : List T0) rfl rfl rfl rfl rfl rfl (by kernel_rfl) (by exact rfl) rfl (WPr.sil htt 1 rfl (?_)))))))
  obtain ⟨x10, hx10, h⟩ := ob h
  refine WPr.app htt hx10 (by exact (srcI rfl)) rfl rfl rfl rfl rfl rfl rfl rfl rfl rfl (WPr.silx [] ⟨[(0, .c (.sl 0)), (1, .c (.i .i64 label_)), (5, .c (.bp 3 0)), (6, .c (.b false)), (7, .c (.bp 8 0)), (8, .c (.sl 10))], [(3, .box [.sl 1, .sl 2] 31), (8, .box [.sl 6, .sl 7] 42), (10, .own rR0 x10 true)], [(0, .sl rR0 d_), (1, .sl rR5 c_.Values), (2, .sl rR5 c_.Known), (6, .sl rR1 x9.Guard.Diffs), (7, .sl (rP (rI .i64) (rI .i64)) x9.Guard.Equals)], 11⟩ htt 1 (by kernel_rfl) (WPr.nil (WP.seq (WP.region (WPr.silx [3, 4, 5] ⟨[(0, .c (.sl 0)), (1, .c (.i .i64 label_)), (5, .c (.bp 3 0)), (6, .c (.b false)), (7, .c (.bp 8 0)), (8, .c (.sl 10)), (55, .c (.sl 10)), (56, .c (.i .i64 label_)), (57, .a [.nil, .nil])], [(3, .box [.sl 1, .sl 2] 31), (8, .box [.sl 6, .sl 7] 42), (10, .own rR0 x10 true)], [(0, .sl rR0 d_), (1, .sl rR5 c_.Values), (2, .sl rR5 c_.Known), (6, .sl rR1 x9.Guard.Diffs), (7, .sl (rP (rI .i64) (rI .i64)) x9.Guard.Equals)], 11⟩ htt 3 (by kernel_rfl) (?_))))))
  obtain ⟨x11, hx11, h⟩ := ob h
  refine WPr.ixo htt hx11 rfl rfl rfl rfl rfl rfl rfl rfl rfl (WPr.sil htt 1 rfl (WPr.stp oO0 htt (⟨x11.Name, x11.Fields, x11.First, (⟨([] : List T1), ([] : List (Int × Int))⟩ : T3)⟩ : T0) hx11 rfl rfl rfl rfl rfl rfl rfl rfl rfl rfl (by exact (an rfl (an rfl (an rfl (an rfl rfl))))) rfl (WPr.silx [] ⟨[(0, .c (.sl 0)), (1, .c (.i .i64 label_)), (5, .c (.bp 3 0)), (6, .c (.b false)), (7, .c (.bp 8 0)), (8, .c (.sl 10))], [(3, .box [.sl 1, .sl 2] 31), (8, .box [.sl 6, .sl 7] 42), (10, .own rR0 (setL' x10 label_ (⟨x11.Name, x11.Fields, x11.First, (⟨([] : List T1), ([] : List (Int × Int))⟩ : T3)⟩ : T0)) true)], [(0, .sl rR0 d_), (1, .sl rR5 c_.Values), (2, .sl rR5 c_.Known), (6, .sl rR1 x9.Guard.Diffs), (7, .sl (rP (rI .i64) (rI .i64)) x9.Guard.Equals)], 15⟩ htt 0 (by kernel_rfl) (WPr.nil (WP.seq (WP.region (WPr.silx [6, 7] ⟨[(0, .c (.sl 0)), (1, .c (.i .i64 label_)), (5, .c (.bp 3 0)), (6, .c (.b false)), (7, .c (.bp 8 0)), (8, .c (.sl 10)), (60, .c (.sl 10)), (61, .c (.i .i64 label_)), (63, .c (.sl 1)), (65, .c (.sl 2))], [(3, .box [.sl 1, .sl 2] 31), (8, .box [.sl 6, .sl 7] 42), (10, .own rR0 (setL' x10 label_ (⟨x11.Name, x11.Fields, x11.First, (⟨([] : List T1), ([] : List (Int × Int))⟩ : T3)⟩ : T0)) true)], [(0, .sl rR0 d_), (1, .sl rR5 c_.Values), (2, .sl rR5 c_.Known), (6, .sl rR1 x9.Guard.Diffs), (7, .sl (rP (rI .i64) (rI .i64)) x9.Guard.Equals)], 15⟩ htt 6 (by kernel_rfl) (?_))))))))
  obtain ⟨x12, hx12, h⟩ := ob h
  refine WPr.call (z16_ct N (setL' x10 label_ (⟨x11.Name, x11.Fields, x11.First, (⟨([] : List T1), ([] : List (Int × Int))⟩ : T3)⟩ : T0)) label_ c_.Values c_.Known _ hx12) [(0, .sl 10), (1, .sl 1), (2, .sl 2)] [10] rfl rfl rfl rfl rfl rfl rfl rfl (.inr ⟨rfl, trivial⟩) rfl (WPr.silx [] ⟨[(0, .c (.sl 0)), (1, .c (.i .i64 label_)), (5, .c (.bp 3 0)), (6, .c (.b false)), (7, .c (.bp 8 0)), (8, .c (.sl 10)), (9, .c (.b x12))], [(3, .box [.sl 1, .sl 2] 31), (8, .box [.sl 6, .sl 7] 42), (10, .own rR0 (setL' x10 label_ (⟨x11.Name, x11.Fields, x11.First, (⟨([] : List T1), ([] : List (Int × Int))⟩ : T3)⟩ : T0)) true)], [(0, .sl rR0 d_), (1, .sl rR5 c_.Values), (2, .sl rR5 c_.Known), (6, .sl rR1 x9.Guard.Diffs), (7, .sl (rP (rI .i64) (rI .i64)) x9.Guard.Equals)], 15⟩ htt 1 (by kernel_rfl) (WPr.nil (WP.seq (WP.seq (WP.region (WPr.silx [] ⟨[(0, .c (.sl 0)), (1, .c (.i .i64 label_)), (5, .c (.bp 3 0)), (6, .c (.b false)), (7, .c (.bp 8 0)), (8, .c (.sl 10)), (9, .c (.b x12)), (68, .c (.sl 6)), (69, .c (.i .i64 (x9.Guard.Diffs.length : Int))), (70, .c (.i .i64 (0 : Int)))], [(3, .box [.sl 1, .sl 2] 31), (8, .box [.sl 6, .sl 7] 42), (10, .own rR0 (setL' x10 label_ (⟨x11.Name, x11.Fields, x11.First, (⟨([] : List T1), ([] : List (Int × Int))⟩ : T3)⟩ : T0)) true)], [(0, .sl rR0 d_), (1, .sl rR5 c_.Values), (2, .sl rR5 c_.Known), (6, .sl rR1 x9.Guard.Diffs), (7, .sl (rP (rI .i64) (rI .i64)) x9.Guard.Equals)], 15⟩ htt 4 (by kernel_rfl) (WPr.nil (?_))))))))
  refine WP.cut (σ := (List T0) × Bool) (fun st => ⟨[(0, .c (.sl 0)), (1, .c (.i .i64 label_)), (5, .c (.bp 3 0)), (7, .c (.bp 8 0)), (8, .c (.sl 10)), (9, .c (.b st.2))], [(3, .box [.sl 1, .sl 2] 31), (8, .box [.sl 6, .sl 7] 42), (10, .own rR0 st.1 true)], [(0, .sl rR0 d_), (1, .sl rR5 c_.Values), (2, .sl rR5 c_.Known), (6, .sl rR1 x9.Guard.Diffs), (7, .sl (rP (rI .i64) (rI .i64)) x9.Guard.Equals)], 15⟩) (fun st => law14_GuardParts_k3 N d_ label_ c_ x9 st.1 st.2 = some r) ?_ (fun j1 => ?_)
  · rintro ⟨v8_1, v9_1⟩ h
    replace h : law14_GuardParts_k3 N d_ label_ c_ x9 v8_1 v9_1 = some r := h
    unfold law14_GuardParts_k3 at h
    refine WP.seq (WP.seq (WP.region (WPr.silx [] ⟨[(0, .c (.sl 0)), (1, .c (.i .i64 label_)), (5, .c (.bp 3 0)), (8, .c (.sl 10)), (9, .c (.b v9_1)), (93, .c (.sl 7)), (94, .c (.i .i64 (x9.Guard.Equals.length : Int))), (95, .c (.i .i64 (0 : Int)))], [(3, .box [.sl 1, .sl 2] 31), (10, .own rR0 v8_1 true)], [(0, .sl rR0 d_), (1, .sl rR5 c_.Values), (2, .sl rR5 c_.Known), (7, .sl (rP (rI .i64) (rI .i64)) x9.Guard.Equals)], 15⟩ htt 4 (by kernel_rfl) (WPr.nil (?_)))))
    refine WP.cut (σ := Bool) (fun st => ⟨[(0, .c (.sl 0)), (1, .c (.i .i64 label_)), (5, .c (.bp 3 0)), (9, .c (.b st))], [(3, .box [.sl 1, .sl 2] 31)], [(0, .sl rR0 d_), (1, .sl rR5 c_.Values), (2, .sl rR5 c_.Known)], 15⟩) (fun st => law14_GuardParts_k1 N d_ label_ c_ st = some r) ?_ (fun j3 => ?_)
    · intro v9_3 h
      replace h : law14_GuardParts_k1 N d_ label_ c_ v9_3 = some r := h
      unfold law14_GuardParts_k1 at h
      refine WP.seq (WP.region (WPr.silx [6, 7, 8, 9] ⟨[(9, .c (.b v9_3)), (117, .c (.sl 0)), (118, .c (.i .i64 label_)), (120, .c (.sl 1)), (122, .c (.sl 2))], [], [(0, .sl rR0 d_), (1, .sl rR5 c_.Values), (2, .sl rR5 c_.Known)], 15⟩ htt 6 (by kernel_rfl) (?_)))
      obtain ⟨x37, hx37, h⟩ := ob h
      refine WPr.call (z16_ct N d_ label_ c_.Values c_.Known _ hx37) [(0, .sl 0), (1, .sl 1), (2, .sl 2)] [] rfl rfl rfl rfl rfl rfl rfl rfl (.inl rfl) rfl (WPr.silx [] ⟨[(6, .c (.b (x37 == v9_3)))], [], [(0, .sl rR0 d_), (1, .sl rR5 c_.Values), (2, .sl rR5 c_.Known)], 15⟩ htt 3 (by kernel_rfl) (WPr.nil (?_)))
      cases h
      exact WP.ret htt Tryz.func6 [] rfl rfl rfl rfl
    refine WP.block (?_)
    refine WP.loopI (σ := (List T0) × Bool × Int) (fun st => ⟨[(0, .c (.sl 0)), (1, .c (.i .i64 label_)), (5, .c (.bp 3 0)), (8, .c (.sl 10)), (9, .c (.b st.2.1)), (93, .c (.sl 7)), (94, .c (.i .i64 (x9.Guard.Equals.length : Int))), (95, .c (.i .i64 st.2.2))], [(3, .box [.sl 1, .sl 2] 31), (10, .own rR0 st.1 true)], [(0, .sl rR0 d_), (1, .sl rR5 c_.Values), (2, .sl rR5 c_.Known), (7, .sl (rP (rI .i64) (rI .i64)) x9.Guard.Equals)], 15⟩) (fun n st => law14_GuardParts_l2 N d_ label_ c_ x9 n st.1 st.2.1 st.2.2) (r := r) (fun _ => rfl) ?_ (fun ih => ?_)
    · intro n3 ih5
      rintro ⟨v8_5, v9_5, v95_5⟩ h
      replace h : law14_GuardParts_l2 N d_ label_ c_ x9 (n3 + 1) v8_5 v9_5 v95_5 = some r := h
      unfold law14_GuardParts_l2 at h
      refine WP.seq (WP.region (WPr.sil htt 1 rfl (WPr.nil (WP.seq (?_)))))
      rcases oc' h with ⟨hc, h⟩ | ⟨hc, h⟩
      · exact WP.condF hc rfl (WP.exit rfl (WP.sub [] (j3 v9_5 h) rfl rfl rfl rfl))
      refine WP.condT hc rfl (WP.skip (WP.seq (WP.block (WP.seq (WP.region (?_))))))
      obtain ⟨x50, hx50, h⟩ := ob h
      refine WPr.ix (oP (oI .i64) (oI .i64)) htt hx50 rfl rfl rfl rfl rfl rfl rfl rfl rfl (WPr.silx [] ⟨[(0, .c (.sl 0)), (1, .c (.i .i64 label_)), (5, .c (.bp 3 0)), (8, .c (.sl 10)), (9, .c (.b v9_5)), (13, .c (.bp 16 0)), (93, .c (.sl 7)), (94, .c (.i .i64 (x9.Guard.Equals.length : Int))), (95, .c (.i .i64 v95_5))], [(3, .box [.sl 1, .sl 2] 31), (10, .own rR0 v8_5 true), (16, .box [.i .i64 x50.1, .i .i64 x50.2] 49)], [(0, .sl rR0 d_), (1, .sl rR5 c_.Values), (2, .sl rR5 c_.Known), (7, .sl (rP (rI .i64) (rI .i64)) x9.Guard.Equals)], 17⟩ htt 3 (by kernel_rfl) (WPr.nil (WP.seq (WP.region (WPr.silx [3, 4, 5, 6, 7] ⟨[(0, .c (.sl 0)), (1, .c (.i .i64 label_)), (5, .c (.bp 3 0)), (8, .c (.sl 10)), (9, .c (.b v9_5)), (93, .c (.sl 7)), (94, .c (.i .i64 (x9.Guard.Equals.length : Int))), (95, .c (.i .i64 v95_5)), (99, .c (.sl 10)), (100, .c (.i .i64 label_)), (101, .a [.i .i64 x50.1, .i .i64 x50.2])], [(3, .box [.sl 1, .sl 2] 31), (10, .own rR0 v8_5 true)], [(0, .sl rR0 d_), (1, .sl rR5 c_.Values), (2, .sl rR5 c_.Known), (7, .sl (rP (rI .i64) (rI .i64)) x9.Guard.Equals)], 17⟩ htt 3 (by kernel_rfl) (WPr.bs (cs := [.i .i64 x50.1, .i .i64 x50.2]) (oP (oI .i64) (oI .i64)) htt ([(x50.1, x50.2)] : List (Int × Int)) rfl rfl rfl rfl rfl rfl (by kernel_rfl) (by exact (an (an rfl rfl) rfl)) rfl (WPr.sil htt 1 rfl (?_))))))))
      obtain ⟨x51, hx51, h⟩ := ob h
      refine WPr.ixo htt hx51 rfl rfl rfl rfl rfl rfl rfl rfl rfl (WPr.silx [7] ⟨[(0, .c (.sl 0)), (1, .c (.i .i64 label_)), (5, .c (.bp 3 0)), (8, .c (.sl 10)), (9, .c (.b v9_5)), (93, .c (.sl 7)), (94, .c (.i .i64 (x9.Guard.Equals.length : Int))), (95, .c (.i .i64 v95_5)), (103, .a [.nil, .sl 17]), (105, .c (.px 18 3))], [(3, .box [.sl 1, .sl 2] 31), (10, .own rR0 v8_5 true), (17, .own (rP (rI .i64) (rI .i64)) ([(x50.1, x50.2)] : List (Int × Int)) true)], [(0, .sl rR0 d_), (1, .sl rR5 c_.Values), (2, .sl rR5 c_.Known), (7, .sl (rP (rI .i64) (rI .i64)) x9.Guard.Equals), (18, .el 10 ((label_).toNat * (rR0).sz))], 19⟩ htt 1 (by kernel_rfl) (WPr.frz 17 rfl (WPr.stp oO0 htt (⟨x51.Name, x51.Fields, x51.First, (⟨([] : List T1), ([(x50.1, x50.2)] : List (Int × Int))⟩ : T3)⟩ : T0) hx51 rfl rfl rfl rfl rfl rfl rfl rfl rfl rfl (by exact (an rfl (an rfl (an rfl (an rfl rfl))))) rfl (WPr.nil (WP.region (WPr.silx [6, 7, 8, 9, 10] ⟨[(0, .c (.sl 0)), (1, .c (.i .i64 label_)), (5, .c (.bp 3 0)), (8, .c (.sl 10)), (9, .c (.b v9_5)), (93, .c (.sl 7)), (94, .c (.i .i64 (x9.Guard.Equals.length : Int))), (95, .c (.i .i64 v95_5)), (106, .c (.sl 10)), (107, .c (.i .i64 label_)), (109, .c (.sl 1)), (111, .c (.sl 2))], [(3, .box [.sl 1, .sl 2] 31), (10, .own rR0 (setL' v8_5 label_ (⟨x51.Name, x51.Fields, x51.First, (⟨([] : List T1), ([(x50.1, x50.2)] : List (Int × Int))⟩ : T3)⟩ : T0)) true)], [(0, .sl rR0 d_), (1, .sl rR5 c_.Values), (2, .sl rR5 c_.Known), (7, .sl (rP (rI .i64) (rI .i64)) x9.Guard.Equals)], 22⟩ htt 6 (by kernel_rfl) (?_)))))))
      obtain ⟨x52, hx52, h⟩ := ob h
      refine WPr.call (z16_ct N (setL' v8_5 label_ (⟨x51.Name, x51.Fields, x51.First, (⟨([] : List T1), ([(x50.1, x50.2)] : List (Int × Int))⟩ : T3)⟩ : T0)) label_ c_.Values c_.Known _ hx52) [(0, .sl 10), (1, .sl 1), (2, .sl 2)] [10] rfl rfl rfl rfl rfl rfl rfl rfl (.inr ⟨rfl, trivial⟩) rfl (WPr.silx [8, 9, 10] ⟨[(0, .c (.sl 0)), (1, .c (.i .i64 label_)), (5, .c (.bp 3 0)), (8, .c (.sl 10)), (9, .c (.b v9_5)), (93, .c (.sl 7)), (94, .c (.i .i64 (x9.Guard.Equals.length : Int))), (95, .c (.i .i64 v95_5)), (113, .c (.b x52))], [(3, .box [.sl 1, .sl 2] 31), (10, .own rR0 (setL' v8_5 label_ (⟨x51.Name, x51.Fields, x51.First, (⟨([] : List T1), ([(x50.1, x50.2)] : List (Int × Int))⟩ : T3)⟩ : T0)) true)], [(0, .sl rR0 d_), (1, .sl rR5 c_.Values), (2, .sl rR5 c_.Known), (7, .sl (rP (rI .i64) (rI .i64)) x9.Guard.Equals)], 22⟩ htt 1 (by kernel_rfl) (?_))
      rcases oc h with ⟨hc, h⟩ | ⟨hc, h⟩
      · exact WPr.kb 113 hc rfl (WPr.silx [] ⟨[(0, .c (.sl 0)), (1, .c (.i .i64 label_)), (5, .c (.bp 3 0)), (8, .c (.sl 10)), (9, .c (.b v9_5)), (93, .c (.sl 7)), (94, .c (.i .i64 (x9.Guard.Equals.length : Int))), (95, .c (.i .i64 v95_5))], [(3, .box [.sl 1, .sl 2] 31), (10, .own rR0 (setL' v8_5 label_ (⟨x51.Name, x51.Fields, x51.First, (⟨([] : List T1), ([(x50.1, x50.2)] : List (Int × Int))⟩ : T3)⟩ : T0)) true)], [(0, .sl rR0 d_), (1, .sl rR5 c_.Values), (2, .sl rR5 c_.Known), (7, .sl (rP (rI .i64) (rI .i64)) x9.Guard.Equals)], 22⟩ htt 3 (by kernel_rfl) (WPr.nil (WP.inBlock (WP.region (WPr.sil htt 2 rfl (WPr.nil (WP.sub [] (ih5 ((setL' v8_5 label_ (⟨x51.Name, x51.Fields, x51.First, (⟨([] : List T1), ([(x50.1, x50.2)] : List (Int × Int))⟩ : T3)⟩ : T0)), v9_5, (w64 (v95_5 + (1 : Int)))) h) rfl rfl rfl rfl)))))))
      exact WPr.kb 113 hc rfl (WPr.silx [] ⟨[(0, .c (.sl 0)), (1, .c (.i .i64 label_)), (5, .c (.bp 3 0)), (8, .c (.sl 10)), (9, .c (.b false)), (93, .c (.sl 7)), (94, .c (.i .i64 (x9.Guard.Equals.length : Int))), (95, .c (.i .i64 v95_5))], [(3, .box [.sl 1, .sl 2] 31), (10, .own rR0 (setL' v8_5 label_ (⟨x51.Name, x51.Fields, x51.First, (⟨([] : List T1), ([(x50.1, x50.2)] : List (Int × Int))⟩ : T3)⟩ : T0)) true)], [(0, .sl rR0 d_), (1, .sl rR5 c_.Values), (2, .sl rR5 c_.Known), (7, .sl (rP (rI .i64) (rI .i64)) x9.Guard.Equals)], 22⟩ htt 3 (by kernel_rfl) (WPr.nil (WP.inBlock (WP.region (WPr.sil htt 2 rfl (WPr.nil (WP.sub [] (ih5 ((setL' v8_5 label_ (⟨x51.Name, x51.Fields, x51.First, (⟨([] : List T1), ([(x50.1, x50.2)] : List (Int × Int))⟩ : T3)⟩ : T0)), false, (w64 (v95_5 + (1 : Int)))) h) rfl rfl rfl rfl)))))))
    exact WP.sub [] (ih N (v8_1, v9_1, (0 : Int)) h) rfl rfl rfl rfl
  refine WP.block (?_)
  refine WP.loopI (σ := (List T0) × Bool × Int) (fun st => ⟨[(0, .c (.sl 0)), (1, .c (.i .i64 label_)), (5, .c (.bp 3 0)), (7, .c (.bp 8 0)), (8, .c (.sl 10)), (9, .c (.b st.2.1)), (68, .c (.sl 6)), (69, .c (.i .i64 (x9.Guard.Diffs.length : Int))), (70, .c (.i .i64 st.2.2))], [(3, .box [.sl 1, .sl 2] 31), (8, .box [.sl 6, .sl 7] 42), (10, .own rR0 st.1 true)], [(0, .sl rR0 d_), (1, .sl rR5 c_.Values), (2, .sl rR5 c_.Known), (6, .sl rR1 x9.Guard.Diffs), (7, .sl (rP (rI .i64) (rI .i64)) x9.Guard.Equals)], 15⟩) (fun n st => law14_GuardParts_l4 N d_ label_ c_ x9 n st.1 st.2.1 st.2.2) (r := r) (fun _ => rfl) ?_ (fun ih => ?_)
  · intro n4 ih6
    rintro ⟨v8_6, v9_6, v70_6⟩ h
    replace h : law14_GuardParts_l4 N d_ label_ c_ x9 (n4 + 1) v8_6 v9_6 v70_6 = some r := h
    unfold law14_GuardParts_l4 at h
    refine WP.seq (WP.region (WPr.sil htt 1 rfl (WPr.nil (WP.seq (?_)))))
    rcases oc' h with ⟨hc, h⟩ | ⟨hc, h⟩
    · exact WP.condF hc rfl (WP.exit rfl (WP.sub [] (j1 (v8_6, v9_6) h) rfl rfl rfl rfl))
    refine WP.condT hc rfl (WP.skip (WP.seq (WP.block (WP.seq (WP.region (?_))))))
    obtain ⟨x65, hx65, h⟩ := ob h
    refine WPr.ix oO1 htt hx65 rfl rfl rfl rfl rfl rfl rfl rfl rfl (WPr.silx [] ⟨[(0, .c (.sl 0)), (1, .c (.i .i64 label_)), (5, .c (.bp 3 0)), (7, .c (.bp 8 0)), (8, .c (.sl 10)), (9, .c (.b v9_6)), (11, .c (.bp 16 0)), (68, .c (.sl 6)), (69, .c (.i .i64 (x9.Guard.Diffs.length : Int))), (70, .c (.i .i64 v70_6))], [(3, .box [.sl 1, .sl 2] 31), (8, .box [.sl 6, .sl 7] 42), (10, .own rR0 v8_6 true), (16, .box [.i .i64 x65.X, .i .i64 x65.Y, .i .i64 x65.C] 48)], [(0, .sl rR0 d_), (1, .sl rR5 c_.Values), (2, .sl rR5 c_.Known), (6, .sl rR1 x9.Guard.Diffs), (7, .sl (rP (rI .i64) (rI .i64)) x9.Guard.Equals)], 17⟩ htt 3 (by kernel_rfl) (WPr.nil (WP.seq (WP.region (WPr.silx [3, 4, 5, 6, 7] ⟨[(0, .c (.sl 0)), (1, .c (.i .i64 label_)), (5, .c (.bp 3 0)), (7, .c (.bp 8 0)), (8, .c (.sl 10)), (9, .c (.b v9_6)), (68, .c (.sl 6)), (69, .c (.i .i64 (x9.Guard.Diffs.length : Int))), (70, .c (.i .i64 v70_6)), (74, .c (.sl 10)), (75, .c (.i .i64 label_)), (76, .a [.i .i64 x65.X, .i .i64 x65.Y, .i .i64 x65.C])], [(3, .box [.sl 1, .sl 2] 31), (8, .box [.sl 6, .sl 7] 42), (10, .own rR0 v8_6 true)], [(0, .sl rR0 d_), (1, .sl rR5 c_.Values), (2, .sl rR5 c_.Known), (6, .sl rR1 x9.Guard.Diffs), (7, .sl (rP (rI .i64) (rI .i64)) x9.Guard.Equals)], 17⟩ htt 3 (by kernel_rfl) (WPr.bs (cs := [.i .i64 x65.X, .i .i64 x65.Y, .i .i64 x65.C]) oO1 htt ([x65] : List T1) rfl rfl rfl rfl rfl rfl (by kernel_rfl) (by exact (an (an rfl (an rfl rfl)) rfl)) rfl (WPr.sil htt 1 rfl (?_))))))))
    obtain ⟨x66, hx66, h⟩ := ob h
    refine WPr.ixo htt hx66 rfl rfl rfl rfl rfl rfl rfl rfl rfl (WPr.silx [7] ⟨[(0, .c (.sl 0)), (1, .c (.i .i64 label_)), (5, .c (.bp 3 0)), (7, .c (.bp 8 0)), (8, .c (.sl 10)), (9, .c (.b v9_6)), (68, .c (.sl 6)), (69, .c (.i .i64 (x9.Guard.Diffs.length : Int))), (70, .c (.i .i64 v70_6)), (78, .a [.sl 17, .nil]), (80, .c (.px 18 3))], [(3, .box [.sl 1, .sl 2] 31), (8, .box [.sl 6, .sl 7] 42), (10, .own rR0 v8_6 true), (17, .own rR1 ([x65] : List T1) true)], [(0, .sl rR0 d_), (1, .sl rR5 c_.Values), (2, .sl rR5 c_.Known), (6, .sl rR1 x9.Guard.Diffs), (7, .sl (rP (rI .i64) (rI .i64)) x9.Guard.Equals), (18, .el 10 ((label_).toNat * (rR0).sz))], 19⟩ htt 1 (by kernel_rfl) (WPr.frz 17 rfl (WPr.stp oO0 htt (⟨x66.Name, x66.Fields, x66.First, (⟨([x65] : List T1), ([] : List (Int × Int))⟩ : T3)⟩ : T0) hx66 rfl rfl rfl rfl rfl rfl rfl rfl rfl rfl (by exact (an rfl (an rfl (an rfl (an rfl rfl))))) rfl (WPr.nil (WP.region (WPr.silx [6, 7, 8, 9, 10] ⟨[(0, .c (.sl 0)), (1, .c (.i .i64 label_)), (5, .c (.bp 3 0)), (7, .c (.bp 8 0)), (8, .c (.sl 10)), (9, .c (.b v9_6)), (68, .c (.sl 6)), (69, .c (.i .i64 (x9.Guard.Diffs.length : Int))), (70, .c (.i .i64 v70_6)), (81, .c (.sl 10)), (82, .c (.i .i64 label_)), (84, .c (.sl 1)), (86, .c (.sl 2))], [(3, .box [.sl 1, .sl 2] 31), (8, .box [.sl 6, .sl 7] 42), (10, .own rR0 (setL' v8_6 label_ (⟨x66.Name, x66.Fields, x66.First, (⟨([x65] : List T1), ([] : List (Int × Int))⟩ : T3)⟩ : T0)) true)], [(0, .sl rR0 d_), (1, .sl rR5 c_.Values), (2, .sl rR5 c_.Known), (6, .sl rR1 x9.Guard.Diffs), (7, .sl (rP (rI .i64) (rI .i64)) x9.Guard.Equals)], 22⟩ htt 6 (by kernel_rfl) (?_)))))))
    obtain ⟨x67, hx67, h⟩ := ob h
    refine WPr.call (z16_ct N (setL' v8_6 label_ (⟨x66.Name, x66.Fields, x66.First, (⟨([x65] : List T1), ([] : List (Int × Int))⟩ : T3)⟩ : T0)) label_ c_.Values c_.Known _ hx67) [(0, .sl 10), (1, .sl 1), (2, .sl 2)] [10] rfl rfl rfl rfl rfl rfl rfl rfl (.inr ⟨rfl, trivial⟩) rfl (WPr.silx [8, 9, 10] ⟨[(0, .c (.sl 0)), (1, .c (.i .i64 label_)), (5, .c (.bp 3 0)), (7, .c (.bp 8 0)), (8, .c (.sl 10)), (9, .c (.b v9_6)), (68, .c (.sl 6)), (69, .c (.i .i64 (x9.Guard.Diffs.length : Int))), (70, .c (.i .i64 v70_6)), (88, .c (.b x67))], [(3, .box [.sl 1, .sl 2] 31), (8, .box [.sl 6, .sl 7] 42), (10, .own rR0 (setL' v8_6 label_ (⟨x66.Name, x66.Fields, x66.First, (⟨([x65] : List T1), ([] : List (Int × Int))⟩ : T3)⟩ : T0)) true)], [(0, .sl rR0 d_), (1, .sl rR5 c_.Values), (2, .sl rR5 c_.Known), (6, .sl rR1 x9.Guard.Diffs), (7, .sl (rP (rI .i64) (rI .i64)) x9.Guard.Equals)], 22⟩ htt 1 (by kernel_rfl) (?_))
    rcases oc h with ⟨hc, h⟩ | ⟨hc, h⟩
    · exact WPr.kb 88 hc rfl (WPr.silx [] ⟨[(0, .c (.sl 0)), (1, .c (.i .i64 label_)), (5, .c (.bp 3 0)), (7, .c (.bp 8 0)), (8, .c (.sl 10)), (9, .c (.b v9_6)), (68, .c (.sl 6)), (69, .c (.i .i64 (x9.Guard.Diffs.length : Int))), (70, .c (.i .i64 v70_6))], [(3, .box [.sl 1, .sl 2] 31), (8, .box [.sl 6, .sl 7] 42), (10, .own rR0 (setL' v8_6 label_ (⟨x66.Name, x66.Fields, x66.First, (⟨([x65] : List T1), ([] : List (Int × Int))⟩ : T3)⟩ : T0)) true)], [(0, .sl rR0 d_), (1, .sl rR5 c_.Values), (2, .sl rR5 c_.Known), (6, .sl rR1 x9.Guard.Diffs), (7, .sl (rP (rI .i64) (rI .i64)) x9.Guard.Equals)], 22⟩ htt 3 (by kernel_rfl) (WPr.nil (WP.inBlock (WP.region (WPr.sil htt 2 rfl (WPr.nil (WP.sub [] (ih6 ((setL' v8_6 label_ (⟨x66.Name, x66.Fields, x66.First, (⟨([x65] : List T1), ([] : List (Int × Int))⟩ : T3)⟩ : T0)), v9_6, (w64 (v70_6 + (1 : Int)))) h) rfl rfl rfl rfl)))))))
    exact WPr.kb 88 hc rfl (WPr.silx [] ⟨[(0, .c (.sl 0)), (1, .c (.i .i64 label_)), (5, .c (.bp 3 0)), (7, .c (.bp 8 0)), (8, .c (.sl 10)), (9, .c (.b false)), (68, .c (.sl 6)), (69, .c (.i .i64 (x9.Guard.Diffs.length : Int))), (70, .c (.i .i64 v70_6))], [(3, .box [.sl 1, .sl 2] 31), (8, .box [.sl 6, .sl 7] 42), (10, .own rR0 (setL' v8_6 label_ (⟨x66.Name, x66.Fields, x66.First, (⟨([x65] : List T1), ([] : List (Int × Int))⟩ : T3)⟩ : T0)) true)], [(0, .sl rR0 d_), (1, .sl rR5 c_.Values), (2, .sl rR5 c_.Known), (6, .sl rR1 x9.Guard.Diffs), (7, .sl (rP (rI .i64) (rI .i64)) x9.Guard.Equals)], 22⟩ htt 3 (by kernel_rfl) (WPr.nil (WP.inBlock (WP.region (WPr.sil htt 2 rfl (WPr.nil (WP.sub [] (ih6 ((setL' v8_6 label_ (⟨x66.Name, x66.Fields, x66.First, (⟨([x65] : List T1), ([] : List (Int × Int))⟩ : T3)⟩ : T0)), false, (w64 (v70_6 + (1 : Int)))) h) rfl rfl rfl rfl)))))))
  exact WP.sub [] (ih N ((setL' x10 label_ (⟨x11.Name, x11.Fields, x11.First, (⟨([] : List T1), ([] : List (Int × Int))⟩ : T3)⟩ : T0)), x12, (0 : Int)) h) rfl rfl rfl rfl
end Gx
end
