/- Each function of the statement computes what its plain definition says, part 3. -/
import Derived.Test.YtenajajnbmfijaaGreatDoorGlobalSearchWalk2
set_option linter.all false
section
set_option linter.unusedVariables false
set_option maxRecDepth 10000
set_option maxHeartbeats 4000000
open Go Go.Kx Go.Proofs
namespace Gx
theorem global_Label_1_al_ct (N : Nat) (d_ : T_api_Decl) (c0_ : ByteArray) (r : Bool) (h : global_Label_1_al N d_ c0_ = some r) :
  Fn Tryz.prog 78 ⟨4, [.a (c_api_Decl 0 1 2 d_), .B 3 0], (v_api_Decl 0 1 2 d_ []), [(3, .box [.s c0_] 9)], 4, .O r, [], [(3, .box [.s c0_] 9)]⟩ := by
  refine Fn.intro _ _ Tryz.func78 rfl (by kernel_rfl) rfl (fun E F w => ?_)
  unfold global_Label_1_al at h
  refine WP.seq (WP.region (WPr.sil htt 2 rfl (WPr.nil (WP.seq (WP.region (WPr.silx [] ⟨[(3, .O (d_.Name.toList == c0_.toList))], [(3, .box [.s c0_] 9)], (v_api_Decl 0 1 2 d_ []), 5⟩ htt 5 (by kernel_rfl) (WPr.nil (?_))))))))
  cases h
  exact WP.ret htt Tryz.func78 [] rfl rfl rfl rfl
theorem slices_IndexFunc_api_Decl_api_Decl_of_global_Label_1_ct (N : Nat) (s_ : (List T_api_Decl)) (c0_ : ByteArray) (r : Int) (h : slices_IndexFunc_api_Decl_api_Decl_of_global_Label_1 N s_ c0_ = some r) :
  Fn Tryz.prog 77 ⟨2, [.S 0, .c (.cl 78 [] [1])], [(0, .sl r_api_Decl s_)], [(1, .box [.s c0_] 9)], 2, .I r, [], [(1, .box [.s c0_] 9)]⟩ := by
  refine Fn.intro _ _ Tryz.func77 rfl (by kernel_rfl) rfl (fun E F w => ?_)
  unfold slices_IndexFunc_api_Decl_api_Decl_of_global_Label_1 at h
  refine WP.seq (WP.region (WPr.sil htt 1 rfl (WPr.nil (WP.seq (WP.seq (WP.region (WPr.silx [] ⟨[(0, .S 0), (1, .c (.cl 78 [] [1])), (4, .I (0 : Int)), (7, .I (s_.length : Int)), (8, .I (0 : Int))], [(1, .box [.s c0_] 9)], [(0, .sl r_api_Decl s_)], 2⟩ htt 3 (by kernel_rfl) (WPr.nil (?_)))))))))
  refine WP.cut (σ := Unit) (fun st => ⟨[], [(1, .box [.s c0_] 9)], [(0, .sl r_api_Decl s_)], 2⟩) (fun st => slices_IndexFunc_api_Decl_api_Decl_of_global_Label_1_k1 = some r) ?_ (fun j1 => ?_)
  · intro _ h
    replace h : slices_IndexFunc_api_Decl_api_Decl_of_global_Label_1_k1 = some r := h
    unfold slices_IndexFunc_api_Decl_api_Decl_of_global_Label_1_k1 at h
    refine WP.seq (WP.region (WPr.sil htt 1 rfl (WPr.nil (?_))))
    cases h
    exact WP.ret htt Tryz.func77 [] rfl rfl rfl rfl
  refine WP.block (?_)
  refine WP.loopI (σ := Int) (fun st => ⟨[(0, .S 0), (1, .c (.cl 78 [] [1])), (7, .I (s_.length : Int)), (8, .I st)], [(1, .box [.s c0_] 9)], [(0, .sl r_api_Decl s_)], 2⟩) (fun n st => slices_IndexFunc_api_Decl_api_Decl_of_global_Label_1_l2 N s_ c0_ n st) (r := r) (fun _ => rfl) ?_ (fun ih => ?_)
  · intro n2 ih3
    intro v8_3 h
    replace h : slices_IndexFunc_api_Decl_api_Decl_of_global_Label_1_l2 N s_ c0_ (n2 + 1) v8_3 = some r := h
    unfold slices_IndexFunc_api_Decl_api_Decl_of_global_Label_1_l2 at h
    refine WP.seq (WP.region (WPr.sil htt 1 rfl (WPr.nil (WP.seq (?_)))))
    rcases oc' h with ⟨hc, h⟩ | ⟨hc, h⟩
    · exact WP.condF hc rfl (WP.exit rfl (WP.sub [] (j1 () h) rfl rfl rfl rfl))
    refine WP.condT hc rfl (WP.skip (WP.seq (WP.block (WP.seq (WP.region (WPr.silx [] ⟨[(0, .S 0), (1, .c (.cl 78 [] [1])), (5, .I v8_3), (7, .I (s_.length : Int)), (8, .I v8_3)], [(1, .box [.s c0_] 9)], [(0, .sl r_api_Decl s_)], 2⟩ htt 2 (by kernel_rfl) (WPr.nil (WP.seq (WP.region (WPr.silx [3, 4, 5] ⟨[(0, .S 0), (1, .c (.cl 78 [] [1])), (5, .I v8_3), (7, .I (s_.length : Int)), (8, .I v8_3), (11, .c (.cl 78 [] [1])), (12, .S 0), (13, .I v8_3)], [(1, .box [.s c0_] 9)], [(0, .sl r_api_Decl s_)], 2⟩ htt 3 (by kernel_rfl) (?_)))))))))))
    obtain ⟨x17, hx17, h⟩ := ob h
    refine WPr.ix o_api_Decl htt hx17 rfl rfl rfl rfl rfl rfl rfl rfl rfl (WPr.sil htt 1 rfl (?_))
    obtain ⟨x18, hx18, h⟩ := ob h
    refine WPr.callc (global_Label_1_al_ct N x17 c0_ _ hx18) [(0, .sl 3), (1, .sl 4), (2, .sl 5), (3, .bp 1 0)] [] rfl rfl rfl rfl rfl rfl rfl rfl rfl (.inl rfl) rfl (WPr.silx [] ⟨[(0, .S 0), (1, .c (.cl 78 [] [1])), (5, .I v8_3), (7, .I (s_.length : Int)), (8, .I v8_3), (16, .O x18)], [(1, .box [.s c0_] 9)], [(0, .sl r_api_Decl s_)], 6⟩ htt 0 (by kernel_rfl) (WPr.nil (?_)))
    rcases oc h with ⟨hc, h⟩ | ⟨hc, h⟩
    · refine WP.condT hc rfl (WP.seq (WP.region (WPr.sil htt 2 rfl (WPr.nil (?_)))))
      cases h
      exact WP.ret htt Tryz.func77 [] rfl rfl rfl rfl
    exact WP.condF hc rfl (WP.skip (WP.inBlock (WP.region (WPr.sil htt 2 rfl (WPr.nil (WP.sub [] (ih3 (w64 (v8_3 + (1 : Int))) h) rfl rfl rfl rfl))))))
  exact WP.sub [] (ih N (0 : Int) h) rfl rfl rfl rfl
theorem global_Label_ct (N : Nat) (g_ : T_api_Global) (name_ : ByteArray) (r : Int) (h : global_Label N g_ name_ = some r) :
  Fn Tryz.prog 31 ⟨4, [.a (c_api_Global 0 1 2 3 g_), .c (.s name_)], (v_api_Global 0 1 2 3 g_ []), [], 4, .I r, [], []⟩ := by
  refine Fn.intro _ _ Tryz.func31 rfl (by kernel_rfl) rfl (fun E F w => ?_)
  unfold global_Label at h
  refine WP.seq (WP.region (WPr.silx [] ⟨[(2, .B 4 0), (3, .B 5 0), (4, .I (0 : Int))], [(4, .box (c_api_Global 0 1 2 3 g_) 27), (5, .box [.s name_] 9)], (v_api_Global 0 1 2 3 g_ []), 6⟩ htt 3 (by kernel_rfl) (WPr.nil (WP.seq (WP.region (WPr.silx [3, 4] ⟨[(6, .S 1), (7, .c (.cl 78 [] [5]))], [(5, .box [.s name_] 9)], (v_api_Global 0 1 2 3 g_ []), 6⟩ htt 3 (by kernel_rfl) (?_)))))))
  obtain ⟨x1, hx1, h⟩ := ob h
  refine WPr.call (slices_IndexFunc_api_Decl_api_Decl_of_global_Label_1_ct N g_.Decls name_ _ hx1) [(0, .sl 1), (1, .bp 5 0)] [] rfl rfl rfl rfl rfl rfl rfl rfl (.inl rfl) rfl (WPr.silx [] ⟨[(4, .I x1)], [], (v_api_Global 0 1 2 3 g_ []), 6⟩ htt 1 (by kernel_rfl) (WPr.nil (?_)))
  cases h
  exact WP.ret htt Tryz.func31 [] rfl rfl rfl rfl
theorem slices_Clone_string_string_ct (N : Nat) (s_ : (List ByteArray)) (r : (List ByteArray)) (h : slices_Clone_string_string N s_ = some r) :
  Fn Tryz.prog 115 ⟨1, [.S 0], [(0, .sl rS s_)], [], 2, .S 1, [], [(1, .own rS r true)]⟩ := by
  refine Fn.intro _ _ Tryz.func115 rfl (by kernel_rfl) rfl (fun E F w => ?_)
  unfold slices_Clone_string_string at h
  refine WP.seq (WP.region (WPr.sil htt 1 rfl (WPr.nil (WP.seq (WP.seq (WP.region (WPr.sil htt 1 rfl (WPr.nilc (el := 9) false (Or.inl rfl) rfl rfl rfl rfl (by kernel_rfl) rfl rfl rfl (?_)))))))))
  intro nb hnb
  cases nb
  · refine WPr.silx [] ⟨[(0, .S 0), (2, .c .nil), (4, .O false)], [], [(0, .sl rS s_)], 1⟩ htt 0 (by kernel_rfl) (WPr.nil (WP.condF rfl rfl (WP.skip (WP.seq (WP.region (WPr.bs (cs := []) oS htt ([] : List ByteArray) rfl rfl rfl rfl rfl rfl (by kernel_rfl) (by exact rfl) rfl (WPr.sil htt 1 rfl (?_))))))))
    obtain ⟨x1, hx1, h⟩ := ob h
    refine WPr.app htt hx1 (by exact (srcI rfl)) rfl rfl rfl rfl rfl rfl rfl rfl rfl rfl (WPr.silx [] ⟨[(2, .S 2)], [(2, .own rS x1 true)], [(0, .sl rS s_)], 3⟩ htt 1 (by kernel_rfl) (WPr.nil (?_)))
    cases h
    exact WP.ret htt Tryz.func115 [(1, .sl 2)] rfl rfl rfl rfl
  · obtain rfl := hnb rfl
    replace h : (some ([] : List ByteArray) : Option (List ByteArray)) = some r := h
    refine WPr.silx [] ⟨[(0, .S 0), (2, .c .nil), (4, .O true)], [], [(0, .sl rS ([] : List ByteArray))], 1⟩ htt 0 (by kernel_rfl) (WPr.nil (WP.condT rfl rfl (WP.seq (WP.region (WPr.sil htt 1 rfl (WPr.nil (?_)))))))
    cases h
    exact WP.ret htt Tryz.func115 [(1, .nil)] rfl rfl rfl rfl
theorem slices_Clone_api_Field_api_Field_ct (N : Nat) (s_ : (List T_api_Field)) (r : (List T_api_Field)) (h : slices_Clone_api_Field_api_Field N s_ = some r) :
  Fn Tryz.prog 116 ⟨1, [.S 0], [(0, .sl r_api_Field s_)], [], 2, .S 1, [], [(1, .own r_api_Field r true)]⟩ := by
  refine Fn.intro _ _ Tryz.func116 rfl (by kernel_rfl) rfl (fun E F w => ?_)
  unfold slices_Clone_api_Field_api_Field at h
  refine WP.seq (WP.region (WPr.sil htt 1 rfl (WPr.nil (WP.seq (WP.seq (WP.region (WPr.sil htt 1 rfl (WPr.nilc (el := 141) false (Or.inl rfl) rfl rfl rfl rfl (by kernel_rfl) rfl rfl rfl (?_)))))))))
  intro nb hnb
  cases nb
  · refine WPr.silx [] ⟨[(0, .S 0), (2, .c .nil), (4, .O false)], [], [(0, .sl r_api_Field s_)], 1⟩ htt 0 (by kernel_rfl) (WPr.nil (WP.condF rfl rfl (WP.skip (WP.seq (WP.region (WPr.bs (cs := []) o_api_Field htt ([] : List T_api_Field) rfl rfl rfl rfl rfl rfl (by kernel_rfl) (by exact rfl) rfl (WPr.sil htt 1 rfl (?_))))))))
    obtain ⟨x1, hx1, h⟩ := ob h
    refine WPr.app htt hx1 (by exact (srcI rfl)) rfl rfl rfl rfl rfl rfl rfl rfl rfl rfl (WPr.silx [] ⟨[(2, .S 2)], [(2, .own r_api_Field x1 true)], [(0, .sl r_api_Field s_)], 3⟩ htt 1 (by kernel_rfl) (WPr.nil (?_)))
    cases h
    exact WP.ret htt Tryz.func116 [(1, .sl 2)] rfl rfl rfl rfl
  · obtain rfl := hnb rfl
    replace h : (some ([] : List T_api_Field) : Option (List T_api_Field)) = some r := h
    refine WPr.silx [] ⟨[(0, .S 0), (2, .c .nil), (4, .O true)], [], [(0, .sl r_api_Field ([] : List T_api_Field))], 1⟩ htt 0 (by kernel_rfl) (WPr.nil (WP.condT rfl rfl (WP.seq (WP.region (WPr.sil htt 1 rfl (WPr.nil (?_)))))))
    cases h
    exact WP.ret htt Tryz.func116 [(1, .nil)] rfl rfl rfl rfl
theorem slices_Clone_api_Diff_api_Diff_ct (N : Nat) (s_ : (List T_api_Diff)) (r : (List T_api_Diff)) (h : slices_Clone_api_Diff_api_Diff N s_ = some r) :
  Fn Tryz.prog 117 ⟨1, [.S 0], [(0, .sl r_api_Diff s_)], [], 2, .S 1, [], [(1, .own r_api_Diff r true)]⟩ := by
  refine Fn.intro _ _ Tryz.func117 rfl (by kernel_rfl) rfl (fun E F w => ?_)
  unfold slices_Clone_api_Diff_api_Diff at h
  refine WP.seq (WP.region (WPr.sil htt 1 rfl (WPr.nil (WP.seq (WP.seq (WP.region (WPr.sil htt 1 rfl (WPr.nilc (el := 144) false (Or.inl rfl) rfl rfl rfl rfl (by kernel_rfl) rfl rfl rfl (?_)))))))))
  intro nb hnb
  cases nb
  · refine WPr.silx [] ⟨[(0, .S 0), (2, .c .nil), (4, .O false)], [], [(0, .sl r_api_Diff s_)], 1⟩ htt 0 (by kernel_rfl) (WPr.nil (WP.condF rfl rfl (WP.skip (WP.seq (WP.region (WPr.bs (cs := []) o_api_Diff htt ([] : List T_api_Diff) rfl rfl rfl rfl rfl rfl (by kernel_rfl) (by exact rfl) rfl (WPr.sil htt 1 rfl (?_))))))))
    obtain ⟨x1, hx1, h⟩ := ob h
    refine WPr.app htt hx1 (by exact (srcI rfl)) rfl rfl rfl rfl rfl rfl rfl rfl rfl rfl (WPr.silx [] ⟨[(2, .S 2)], [(2, .own r_api_Diff x1 true)], [(0, .sl r_api_Diff s_)], 3⟩ htt 1 (by kernel_rfl) (WPr.nil (?_)))
    cases h
    exact WP.ret htt Tryz.func117 [(1, .sl 2)] rfl rfl rfl rfl
  · obtain rfl := hnb rfl
    replace h : (some ([] : List T_api_Diff) : Option (List T_api_Diff)) = some r := h
    refine WPr.silx [] ⟨[(0, .S 0), (2, .c .nil), (4, .O true)], [], [(0, .sl r_api_Diff ([] : List T_api_Diff))], 1⟩ htt 0 (by kernel_rfl) (WPr.nil (WP.condT rfl rfl (WP.seq (WP.region (WPr.sil htt 1 rfl (WPr.nil (?_)))))))
    cases h
    exact WP.ret htt Tryz.func117 [(1, .nil)] rfl rfl rfl rfl
theorem slices_Clone_2_int_2_int_ct (N : Nat) (s_ : (List (Int × Int))) (r : (List (Int × Int))) (h : slices_Clone_2_int_2_int N s_ = some r) :
  Fn Tryz.prog 118 ⟨1, [.S 0], [(0, .sl (rP (rI .i64) (rI .i64)) s_)], [], 2, .S 1, [], [(1, .own (rP (rI .i64) (rI .i64)) r true)]⟩ := by
  refine Fn.intro _ _ Tryz.func118 rfl (by kernel_rfl) rfl (fun E F w => ?_)
  unfold slices_Clone_2_int_2_int at h
  refine WP.seq (WP.region (WPr.sil htt 1 rfl (WPr.nil (WP.seq (WP.seq (WP.region (WPr.sil htt 1 rfl (WPr.nilc (el := 146) false (Or.inl rfl) rfl rfl rfl rfl (by kernel_rfl) rfl rfl rfl (?_)))))))))
  intro nb hnb
  cases nb
  · refine WPr.silx [] ⟨[(0, .S 0), (2, .c .nil), (4, .O false)], [], [(0, .sl (rP (rI .i64) (rI .i64)) s_)], 1⟩ htt 0 (by kernel_rfl) (WPr.nil (WP.condF rfl rfl (WP.skip (WP.seq (WP.region (WPr.bs (cs := []) (oP (oI .i64) (oI .i64)) htt ([] : List (Int × Int)) rfl rfl rfl rfl rfl rfl (by kernel_rfl) (by exact rfl) rfl (WPr.sil htt 1 rfl (?_))))))))
    obtain ⟨x1, hx1, h⟩ := ob h
    refine WPr.app htt hx1 (by exact (srcI rfl)) rfl rfl rfl rfl rfl rfl rfl rfl rfl rfl (WPr.silx [] ⟨[(2, .S 2)], [(2, .own (rP (rI .i64) (rI .i64)) x1 true)], [(0, .sl (rP (rI .i64) (rI .i64)) s_)], 3⟩ htt 1 (by kernel_rfl) (WPr.nil (?_)))
    cases h
    exact WP.ret htt Tryz.func118 [(1, .sl 2)] rfl rfl rfl rfl
  · obtain rfl := hnb rfl
    replace h : (some ([] : List (Int × Int)) : Option (List (Int × Int))) = some r := h
    refine WPr.silx [] ⟨[(0, .S 0), (2, .c .nil), (4, .O true)], [], [(0, .sl (rP (rI .i64) (rI .i64)) ([] : List (Int × Int)))], 1⟩ htt 0 (by kernel_rfl) (WPr.nil (WP.condT rfl rfl (WP.seq (WP.region (WPr.sil htt 1 rfl (WPr.nil (?_)))))))
    cases h
    exact WP.ret htt Tryz.func118 [(1, .nil)] rfl rfl rfl rfl
theorem global_Canonical_1_al_ct (N : Nat) (t_ : T_api_Timeout) (c0_ : Int) (r : Bool) (h : global_Canonical_1_al N t_ c0_ = some r) :
  Fn Tryz.prog 60 ⟨1, [.a (c_api_Timeout t_), .B 0 0], [], [(0, .box [.I c0_] 3)], 1, .O r, [], [(0, .box [.I c0_] 3)]⟩ := by
  refine Fn.intro _ _ Tryz.func60 rfl (by kernel_rfl) rfl (fun E F w => ?_)
  unfold global_Canonical_1_al at h
  refine WP.seq (WP.region (WPr.sil htt 2 rfl (WPr.nil (WP.seq (WP.region (WPr.silx [] ⟨[(3, .O (t_.State == c0_))], [(0, .box [.I c0_] 3)], [], 2⟩ htt 5 (by kernel_rfl) (WPr.nil (?_))))))))
  cases h
  exact WP.ret htt Tryz.func60 [] rfl rfl rfl rfl
theorem slices_IndexFunc_api_Timeout_api_Timeout_of_global_Canonical_1_ct (N : Nat) (s_ : (List T_api_Timeout)) (c0_ : Int) (r : Int) (h : slices_IndexFunc_api_Timeout_api_Timeout_of_global_Canonical_1 N s_ c0_ = some r) :
  Fn Tryz.prog 59 ⟨2, [.S 0, .c (.cl 60 [] [1])], [(0, .sl r_api_Timeout s_)], [(1, .box [.I c0_] 3)], 2, .I r, [], [(1, .box [.I c0_] 3)]⟩ := by
  refine Fn.intro _ _ Tryz.func59 rfl (by kernel_rfl) rfl (fun E F w => ?_)
  unfold slices_IndexFunc_api_Timeout_api_Timeout_of_global_Canonical_1 at h
  refine WP.seq (WP.region (WPr.sil htt 1 rfl (WPr.nil (WP.seq (WP.seq (WP.region (WPr.silx [] ⟨[(0, .S 0), (1, .c (.cl 60 [] [1])), (4, .I (0 : Int)), (7, .I (s_.length : Int)), (8, .I (0 : Int))], [(1, .box [.I c0_] 3)], [(0, .sl r_api_Timeout s_)], 2⟩ htt 3 (by kernel_rfl) (WPr.nil (?_)))))))))
  refine WP.cut (σ := Unit) (fun st => ⟨[], [(1, .box [.I c0_] 3)], [(0, .sl r_api_Timeout s_)], 2⟩) (fun st => slices_IndexFunc_api_Timeout_api_Timeout_of_global_Canonical_1_k1 = some r) ?_ (fun j1 => ?_)
  · intro _ h
    replace h : slices_IndexFunc_api_Timeout_api_Timeout_of_global_Canonical_1_k1 = some r := h
    unfold slices_IndexFunc_api_Timeout_api_Timeout_of_global_Canonical_1_k1 at h
    refine WP.seq (WP.region (WPr.sil htt 1 rfl (WPr.nil (?_))))
    cases h
    exact WP.ret htt Tryz.func59 [] rfl rfl rfl rfl
  refine WP.block (?_)
  refine WP.loopI (σ := Int) (fun st => ⟨[(0, .S 0), (1, .c (.cl 60 [] [1])), (7, .I (s_.length : Int)), (8, .I st)], [(1, .box [.I c0_] 3)], [(0, .sl r_api_Timeout s_)], 2⟩) (fun n st => slices_IndexFunc_api_Timeout_api_Timeout_of_global_Canonical_1_l2 N s_ c0_ n st) (r := r) (fun _ => rfl) ?_ (fun ih => ?_)
  · intro n2 ih3
    intro v8_3 h
    replace h : slices_IndexFunc_api_Timeout_api_Timeout_of_global_Canonical_1_l2 N s_ c0_ (n2 + 1) v8_3 = some r := h
    unfold slices_IndexFunc_api_Timeout_api_Timeout_of_global_Canonical_1_l2 at h
    refine WP.seq (WP.region (WPr.sil htt 1 rfl (WPr.nil (WP.seq (?_)))))
    rcases oc' h with ⟨hc, h⟩ | ⟨hc, h⟩
    · exact WP.condF hc rfl (WP.exit rfl (WP.sub [] (j1 () h) rfl rfl rfl rfl))
    refine WP.condT hc rfl (WP.skip (WP.seq (WP.block (WP.seq (WP.region (WPr.silx [] ⟨[(0, .S 0), (1, .c (.cl 60 [] [1])), (5, .I v8_3), (7, .I (s_.length : Int)), (8, .I v8_3)], [(1, .box [.I c0_] 3)], [(0, .sl r_api_Timeout s_)], 2⟩ htt 2 (by kernel_rfl) (WPr.nil (WP.seq (WP.region (WPr.silx [3, 4, 5] ⟨[(0, .S 0), (1, .c (.cl 60 [] [1])), (5, .I v8_3), (7, .I (s_.length : Int)), (8, .I v8_3), (11, .c (.cl 60 [] [1])), (12, .S 0), (13, .I v8_3)], [(1, .box [.I c0_] 3)], [(0, .sl r_api_Timeout s_)], 2⟩ htt 3 (by kernel_rfl) (?_)))))))))))
    obtain ⟨x17, hx17, h⟩ := ob h
    refine WPr.ix o_api_Timeout htt hx17 rfl rfl rfl rfl rfl rfl rfl rfl rfl (WPr.sil htt 1 rfl (?_))
    obtain ⟨x18, hx18, h⟩ := ob h
    refine WPr.callc (global_Canonical_1_al_ct N x17 c0_ _ hx18) [(0, .bp 1 0)] [] rfl rfl rfl rfl rfl rfl rfl rfl rfl (.inl rfl) rfl (WPr.silx [] ⟨[(0, .S 0), (1, .c (.cl 60 [] [1])), (5, .I v8_3), (7, .I (s_.length : Int)), (8, .I v8_3), (16, .O x18)], [(1, .box [.I c0_] 3)], [(0, .sl r_api_Timeout s_)], 3⟩ htt 0 (by kernel_rfl) (WPr.nil (?_)))
    rcases oc h with ⟨hc, h⟩ | ⟨hc, h⟩
    · refine WP.condT hc rfl (WP.seq (WP.region (WPr.sil htt 2 rfl (WPr.nil (?_)))))
      cases h
      exact WP.ret htt Tryz.func59 [] rfl rfl rfl rfl
    exact WP.condF hc rfl (WP.skip (WP.inBlock (WP.region (WPr.sil htt 2 rfl (WPr.nil (WP.sub [] (ih3 (w64 (v8_3 + (1 : Int))) h) rfl rfl rfl rfl))))))
  exact WP.sub [] (ih N (0 : Int) h) rfl rfl rfl rfl
theorem global_copied_ct (N : Nat) (g_ : T_api_Global) (r : T_api_Global) (h : global_copied N g_ = some r) :
  Fn Tryz.prog 57 ⟨4, [.a (c_api_Global 0 1 2 3 g_)], (v_api_Global 0 1 2 3 g_ []), [], 8, .a (c_api_Global 4 5 6 7 r), [(4, .sl rS r.Roles), (5, .sl r_api_Decl r.Decls)], [(6, .own r_api_Edge r.Edges true), (7, .own r_api_Timeout r.Timeouts true)]⟩ := by
  refine Fn.intro _ _ Tryz.func57 rfl (by kernel_rfl) rfl (fun E F w => ?_)
  unfold global_copied at h
  refine WP.seq (WP.region (WPr.sil htt 2 rfl (WPr.nil (WP.seq (WP.nm (fun A1 tA1 fA1 => ?_))))))
  have st1 : A1 0 ⟨[(1, .B 4 0)], [], [], [], 6, [(6, .B 4 0)], [], [], 6⟩ := tA1 _ _ (LS.sil htt rfl rfl rfl rfl rfl rfl)
  have st2 : A1 1 ⟨[(6, .B 4 0)], (v_api_Global 0 1 2 3 g_ []), [], [(4, .box (c_api_Global 0 1 2 3 g_) 27)], 6, [(7, .c (.s g_.Name))], [], [], 6⟩ := tA1 _ _ (LS.sil htt rfl rfl rfl rfl rfl rfl)
  have st3 : A1 2 ⟨[(1, .B 4 0)], [], [], [], 6, [(8, .B 4 1)], [], [], 6⟩ := tA1 _ _ (LS.sil htt rfl rfl rfl rfl rfl rfl)
  have st4 : A1 3 ⟨[(8, .B 4 1)], (v_api_Global 0 1 2 3 g_ []), [], [(4, .box (c_api_Global 0 1 2 3 g_) 27)], 6, [(9, .S 0)], [], [], 6⟩ := tA1 _ _ (LS.sil htt rfl rfl rfl rfl rfl rfl)
  obtain ⟨x5, hx5, h⟩ := ob h
  have st6 : A1 4 ⟨[(9, .S 0)], [(0, .sl rS g_.Roles)], [], [], 6, [(10, .S 6)], [], [(6, .own rS x5 true)], 7⟩ := tA1 _ _ (LS.of rfl rfl rfl (fun _ _ _ _ _ _ _ k => WPr.call (slices_Clone_string_string_ct N g_.Roles _ hx5) [(0, .sl 0)] [] rfl rfl rfl rfl rfl rfl rfl rfl (.inl rfl) rfl (k)) rfl)
  have st7 : A1 5 ⟨[(7, .c (.s g_.Name)), (10, .S 6)], [], [], [], 7, [(11, .a [.s g_.Name, .sl 6, .nil, .I (0 : Int), .I (0 : Int), .I (0 : Int), .nil, .nil])], [], [], 7⟩ := tA1 _ _ (LS.sil htt rfl rfl rfl rfl rfl rfl)
  have st8 : A1 6 ⟨[], [], [], [], 7, [(3, .B 7 0)], [], [(7, .box [.s (str []), .nil, .nil, .I (0 : Int), .I (0 : Int), .I (0 : Int), .nil, .nil] 27)], 8⟩ := tA1 _ _ (LS.sil htt rfl rfl rfl rfl rfl rfl)
  have st9 : A1 7 ⟨[(3, .B 7 0), (11, .a [.s g_.Name, .sl 6, .nil, .I (0 : Int), .I (0 : Int), .I (0 : Int), .nil, .nil])], [], [(7, .box [.s (str []), .nil, .nil, .I (0 : Int), .I (0 : Int), .I (0 : Int), .nil, .nil] 27)], [(6, .own rS x5 true)], 8, [], [], [(7, .box [.s g_.Name, .sl 6, .nil, .I (0 : Int), .I (0 : Int), .I (0 : Int), .nil, .nil] 27)], 8⟩ := tA1 _ _ (LS.sil htt rfl rfl rfl rfl rfl rfl)
  refine WP.regionD (t := ⟨[(1, .B 4 0), (2, .B 5 0), (3, .B 7 0)], [(4, .box (c_api_Global 0 1 2 3 g_) 27), (5, .box [.s (str []), .nil, .nil, .I (0 : Int), .I (0 : Int), .I (0 : Int), .nil, .nil] 27), (6, .own rS x5 true), (7, .box [.s g_.Name, .sl 6, .nil, .I (0 : Int), .I (0 : Int), .I (0 : Int), .nil, .nil] 27)], (v_api_Global 0 1 2 3 g_ []), 8⟩) [0, 1, 0, 4, 12, 31, 0, 127] (.cons (fA1 _ _ st1) (.cons (fA1 _ _ st2) (.cons (fA1 _ _ st3) (.cons (fA1 _ _ st4) (.cons (fA1 _ _ st6) (.cons (fA1 _ _ st7) (.cons (fA1 _ _ st8) (.cons (fA1 _ _ st9) .nil)))))))) (by kernel_rfl) (by kernel_rfl) (by kernel_rfl) (by kernel_rfl) (WP.seq (WP.seq (WP.region (WPr.silx [] ⟨[(2, .B 5 0), (3, .B 7 0), (13, .S 1), (14, .I (g_.Decls.length : Int)), (15, .I (0 : Int))], [(5, .box [.s (str []), .nil, .nil, .I (0 : Int), .I (0 : Int), .I (0 : Int), .nil, .nil] 27), (6, .own rS x5 true), (7, .box [.s g_.Name, .sl 6, .nil, .I (0 : Int), .I (0 : Int), .I (0 : Int), .nil, .nil] 27)], (v_api_Global 0 1 2 3 g_ []), 8⟩ htt 4 (by kernel_rfl) (WPr.nil (?_))))))
  refine WP.cut (σ := (List T_api_Decl)) (fun st => ⟨[(2, .B 5 0), (3, .B 7 0)], [(5, .box [.s (str []), .nil, .nil, .I (0 : Int), .I (0 : Int), .I (0 : Int), .nil, .nil] 27), (6, .own rS x5 true), (7, .box [.s g_.Name, .sl 6, .sl 8, .I (0 : Int), .I (0 : Int), .I (0 : Int), .nil, .nil] 27), (8, .own r_api_Decl st true)], (v_api_Global 0 1 2 3 g_ []), 9⟩) (fun st => global_copied_k1 g_ x5 st = some r) ?_ (fun j1 => ?_)
  · intro vb3_7_2_1 h
    replace h : global_copied_k1 g_ x5 vb3_7_2_1 = some r := h
    unfold global_copied_k1 at h
    refine WP.seq (WP.region (WPr.sil htt 2 rfl (WPr.nil (WP.frz 6 rfl (WP.frz 8 rfl (?_))))))
    cases h
    exact WP.ret htt Tryz.func57 [(4, .sl 6), (5, .sl 8), (6, .nil), (7, .nil)] rfl rfl rfl rfl
  refine WP.block (?_)
  refine WP.loopI (σ := (List T_api_Decl) × Int) (fun st => ⟨[(2, .B 5 0), (3, .B 7 0), (13, .S 1), (14, .I (g_.Decls.length : Int)), (15, .I st.2)], [(5, .box [.s (str []), .nil, .nil, .I (0 : Int), .I (0 : Int), .I (0 : Int), .nil, .nil] 27), (6, .own rS x5 true), (7, .box [.s g_.Name, .sl 6, .sl 8, .I (0 : Int), .I (0 : Int), .I (0 : Int), .nil, .nil] 27), (8, .own r_api_Decl st.1 true)], (v_api_Global 0 1 2 3 g_ []), 9⟩) (fun n st => global_copied_l2 N g_ x5 n st.1 st.2) (r := r) (fun _ => rfl) ?_ (fun ih => ?_)
  · intro n2 ih3
    rintro ⟨vb3_7_2_3, v15_3⟩ h
    replace h : global_copied_l2 N g_ x5 (n2 + 1) vb3_7_2_3 v15_3 = some r := h
    unfold global_copied_l2 at h
    refine WP.seq (WP.region (WPr.sil htt 1 rfl (WPr.nil (WP.seq (?_)))))
    rcases oc' h with ⟨hc, h⟩ | ⟨hc, h⟩
    · exact WP.condF hc rfl (WP.exit rfl (WP.sub [] (j1 vb3_7_2_3 h) rfl rfl rfl rfl))
    refine WP.condT hc rfl (WP.skip (WP.seq (WP.block (WP.seq (WP.region (?_))))))
    obtain ⟨x138, hx138, h⟩ := ob h
    refine WPr.ix o_api_Decl htt hx138 rfl rfl rfl rfl rfl rfl rfl rfl rfl (WPr.silx [] ⟨[(2, .B 5 0), (3, .B 7 0), (5, .B 13 0), (13, .S 1), (14, .I (g_.Decls.length : Int)), (15, .I v15_3)], [(5, .box [.s (str []), .nil, .nil, .I (0 : Int), .I (0 : Int), .I (0 : Int), .nil, .nil] 27), (6, .own rS x5 true), (7, .box [.s g_.Name, .sl 6, .sl 8, .I (0 : Int), .I (0 : Int), .I (0 : Int), .nil, .nil] 27), (8, .own r_api_Decl vb3_7_2_3 true), (13, .box (c_api_Decl 10 11 12 x138) 94)], (v_api_Global 0 1 2 3 g_ (v_api_Decl 10 11 12 x138 [])), 14⟩ htt 3 (by kernel_rfl) (WPr.nil (WP.seq (WP.region (WPr.sil htt 2 rfl (?_))))))
    obtain ⟨x139, hx139, h⟩ := ob h
    refine WPr.call (slices_Clone_api_Field_api_Field_ct N x138.Fields _ hx139) [(0, .sl 10)] [] rfl rfl rfl rfl rfl rfl rfl rfl (.inl rfl) rfl (WPr.silx [] ⟨[(2, .B 5 0), (3, .B 7 0), (5, .B 13 0), (13, .S 1), (14, .I (g_.Decls.length : Int)), (15, .I v15_3)], [(5, .box [.s (str []), .nil, .nil, .I (0 : Int), .I (0 : Int), .I (0 : Int), .nil, .nil] 27), (6, .own rS x5 true), (7, .box [.s g_.Name, .sl 6, .sl 8, .I (0 : Int), .I (0 : Int), .I (0 : Int), .nil, .nil] 27), (8, .own r_api_Decl vb3_7_2_3 true), (13, .box (c_api_Decl 14 11 12 x138) 94), (14, .own r_api_Field x139 true)], (v_api_Global 0 1 2 3 g_ [(11, .sl r_api_Diff x138.Guard.Diffs), (12, .sl (rP (rI .i64) (rI .i64)) x138.Guard.Equals)]), 15⟩ htt 2 (by kernel_rfl) (WPr.nil (WP.seq (WP.nm (fun A10 tA10 fA10 => ?_)))))
    have st140 : A10 0 ⟨[(5, .B 13 0)], [], [], [], 15, [(23, .B 13 3)], [], [], 15⟩ := tA10 _ _ (LS.sil htt rfl rfl rfl rfl rfl rfl)
    have st141 : A10 1 ⟨[(23, .B 13 3)], [], [], [], 15, [(24, .B 13 3)], [], [], 15⟩ := tA10 _ _ (LS.sil htt rfl rfl rfl rfl rfl rfl)
    have st142 : A10 2 ⟨[(24, .B 13 3)], [(11, .sl r_api_Diff x138.Guard.Diffs), (12, .sl (rP (rI .i64) (rI .i64)) x138.Guard.Equals)], [], [(13, .box (c_api_Decl 14 11 12 x138) 94)], 15, [(25, .S 11)], [], [], 15⟩ := tA10 _ _ (LS.sil htt rfl rfl rfl rfl rfl rfl)
    obtain ⟨x143, hx143, h⟩ := ob h
    have st144 : A10 3 ⟨[(25, .S 11)], [(11, .sl r_api_Diff x138.Guard.Diffs)], [], [], 15, [(26, .S 15)], [], [(15, .own r_api_Diff x143 true)], 16⟩ := tA10 _ _ (LS.of rfl rfl rfl (fun _ _ _ _ _ _ _ k => WPr.call (slices_Clone_api_Diff_api_Diff_ct N x138.Guard.Diffs _ hx143) [(0, .sl 11)] [] rfl rfl rfl rfl rfl rfl rfl rfl (.inl rfl) rfl (k)) rfl)
    have st145 : A10 4 ⟨[(5, .B 13 0)], [], [], [], 16, [(27, .B 13 3)], [], [], 16⟩ := tA10 _ _ (LS.sil htt rfl rfl rfl rfl rfl rfl)
    have st146 : A10 5 ⟨[(27, .B 13 3)], [], [], [], 16, [(28, .B 13 4)], [], [], 16⟩ := tA10 _ _ (LS.sil htt rfl rfl rfl rfl rfl rfl)
    have st147 : A10 6 ⟨[(28, .B 13 4)], [(11, .sl r_api_Diff x138.Guard.Diffs), (12, .sl (rP (rI .i64) (rI .i64)) x138.Guard.Equals)], [], [(13, .box (c_api_Decl 14 11 12 x138) 94)], 16, [(29, .S 12)], [], [], 16⟩ := tA10 _ _ (LS.sil htt rfl rfl rfl rfl rfl rfl)
    obtain ⟨x148, hx148, h⟩ := ob h
    have st149 : A10 7 ⟨[(29, .S 12)], [(12, .sl (rP (rI .i64) (rI .i64)) x138.Guard.Equals)], [], [], 16, [(30, .S 16)], [], [(16, .own (rP (rI .i64) (rI .i64)) x148 true)], 17⟩ := tA10 _ _ (LS.of rfl rfl rfl (fun _ _ _ _ _ _ _ k => WPr.call (slices_Clone_2_int_2_int_ct N x138.Guard.Equals _ hx148) [(0, .sl 12)] [] rfl rfl rfl rfl rfl rfl rfl rfl (.inl rfl) rfl (k)) rfl)
    have st150 : A10 8 ⟨[(26, .S 15), (30, .S 16)], [], [], [], 17, [(31, .a [.sl 15, .sl 16])], [], [], 17⟩ := tA10 _ _ (LS.sil htt rfl rfl rfl rfl rfl rfl)
    have st151 : A10 9 ⟨[(5, .B 13 0)], [], [], [], 17, [(32, .B 13 3)], [], [], 17⟩ := tA10 _ _ (LS.sil htt rfl rfl rfl rfl rfl rfl)
    have st152 : A10 10 ⟨[(31, .a [.sl 15, .sl 16]), (32, .B 13 3)], [(11, .sl r_api_Diff x138.Guard.Diffs), (12, .sl (rP (rI .i64) (rI .i64)) x138.Guard.Equals)], [(13, .box (c_api_Decl 14 11 12 x138) 94)], [(15, .own r_api_Diff x143 true), (16, .own (rP (rI .i64) (rI .i64)) x148 true)], 17, [], [], [(13, .box (c_api_Decl 14 15 16 x138) 94)], 17⟩ := tA10 _ _ (LS.sil htt rfl rfl rfl rfl rfl rfl)
    refine WP.regionD (t := ⟨[(2, .B 5 0), (3, .B 7 0), (5, .B 13 0), (13, .S 1), (14, .I (g_.Decls.length : Int)), (15, .I v15_3)], [(5, .box [.s (str []), .nil, .nil, .I (0 : Int), .I (0 : Int), .I (0 : Int), .nil, .nil] 27), (6, .own rS x5 true), (7, .box [.s g_.Name, .sl 6, .sl 8, .I (0 : Int), .I (0 : Int), .I (0 : Int), .nil, .nil] 27), (8, .own r_api_Decl vb3_7_2_3 true), (13, .box (c_api_Decl 14 15 16 x138) 94), (14, .own r_api_Field x139 true), (15, .own r_api_Diff x143 true), (16, .own (rP (rI .i64) (rI .i64)) x148 true)], (v_api_Global 0 1 2 3 g_ []), 17⟩) [0, 1, 3, 7, 0, 16, 48, 127, 255, 511, 1023] (.cons (fA10 _ _ st140) (.cons (fA10 _ _ st141) (.cons (fA10 _ _ st142) (.cons (fA10 _ _ st144) (.cons (fA10 _ _ st145) (.cons (fA10 _ _ st146) (.cons (fA10 _ _ st147) (.cons (fA10 _ _ st149) (.cons (fA10 _ _ st150) (.cons (fA10 _ _ st151) (.cons (fA10 _ _ st152) .nil))))))))))) (by kernel_rfl) (by kernel_rfl) (by kernel_rfl) (by kernel_rfl) (WP.region (WPr.silx [3, 4, 5, 6] ⟨[(2, .B 5 0), (3, .B 7 0), (13, .S 1), (14, .I (g_.Decls.length : Int)), (15, .I v15_3), (34, .S 8), (35, .a (c_api_Decl 14 15 16 x138))], [(5, .box [.s (str []), .nil, .nil, .I (0 : Int), .I (0 : Int), .I (0 : Int), .nil, .nil] 27), (6, .own rS x5 true), (7, .box [.s g_.Name, .sl 6, .sl 8, .I (0 : Int), .I (0 : Int), .I (0 : Int), .nil, .nil] 27), (8, .own r_api_Decl vb3_7_2_3 true), (14, .own r_api_Field x139 true), (15, .own r_api_Diff x143 true), (16, .own (rP (rI .i64) (rI .i64)) x148 true)], (v_api_Global 0 1 2 3 g_ []), 17⟩ htt 3 (by kernel_rfl) (WPr.frz 14 rfl (WPr.frz 15 rfl (WPr.frz 16 rfl (WPr.bs (cs := (c_api_Decl 14 15 16 x138)) o_api_Decl htt ([(⟨x138.Name, x139, x138.First, (⟨x143, x148⟩ : T_api_Guard)⟩ : T_api_Decl)] : List T_api_Decl) rfl rfl rfl rfl rfl rfl (by kernel_rfl) (by exact (an (an rfl (an rfl (an rfl (an rfl rfl)))) rfl)) rfl (?_)))))))
    obtain ⟨x153, hx153, h⟩ := ob h
    exact WPr.app htt hx153 (by exact (srcO rfl)) rfl rfl rfl rfl rfl rfl rfl rfl rfl rfl (WPr.silx [] ⟨[(2, .B 5 0), (3, .B 7 0), (13, .S 1), (14, .I (g_.Decls.length : Int)), (15, .I v15_3)], [(5, .box [.s (str []), .nil, .nil, .I (0 : Int), .I (0 : Int), .I (0 : Int), .nil, .nil] 27), (6, .own rS x5 true), (7, .box [.s g_.Name, .sl 6, .sl 18, .I (0 : Int), .I (0 : Int), .I (0 : Int), .nil, .nil] 27), (18, .own r_api_Decl x153 true)], (v_api_Global 0 1 2 3 g_ []), 19⟩ htt 2 (by kernel_rfl) (WPr.nil (WP.inBlock (WP.region (WPr.sil htt 2 rfl (WPr.nil (WP.sub [(8, .sl 18)] (ih3 (x153, (w64 (v15_3 + (1 : Int)))) h) rfl rfl rfl rfl)))))))
  exact WP.sub [(8, .nil)] (ih N (([] : List T_api_Decl), (0 : Int)) h) rfl rfl rfl rfl
theorem global_Canonical_ct (N : Nat) (g_ : T_api_Global) (r : T_api_Global × Int) (h : global_Canonical N g_ = some r) :
  Fn Tryz.prog 21 ⟨4, [.a (c_api_Global 0 1 2 3 g_)], (v_api_Global 0 1 2 3 g_ []), [], 8, .t [.inr (c_api_Global 4 5 6 7 r.1), .inl (.I r.2)], (v_api_Global 4 5 6 7 r.1 []), []⟩ := by
  refine Fn.intro _ _ Tryz.func21 rfl (by kernel_rfl) rfl (fun E F w => ?_)
  unfold global_Canonical at h
  refine WP.seq (WP.region (WPr.silx [] ⟨[(1, .B 4 0), (2, .B 5 0), (3, .I (0 : Int))], [(4, .box (c_api_Global 0 1 2 3 g_) 27), (5, .box [.s (str []), .nil, .nil, .I (0 : Int), .I (0 : Int), .I (0 : Int), .nil, .nil] 27)], (v_api_Global 0 1 2 3 g_ []), 6⟩ htt 3 (by kernel_rfl) (WPr.nil (WP.seq (WP.seq (WP.region (WPr.sil htt 1 rfl (?_))))))))
  obtain ⟨x1, hx1, h⟩ := ob h
  refine WPr.call (global_Valid_ct N g_ _ hx1) [(0, .sl 0), (1, .sl 1), (2, .sl 2), (3, .sl 3)] [] rfl rfl rfl rfl rfl rfl rfl rfl (.inl rfl) rfl (WPr.silx [] ⟨[(1, .B 4 0), (2, .B 5 0), (3, .I (0 : Int)), (14, .O (!x1))], [(4, .box (c_api_Global 0 1 2 3 g_) 27), (5, .box [.s (str []), .nil, .nil, .I (0 : Int), .I (0 : Int), .I (0 : Int), .nil, .nil] 27)], (v_api_Global 0 1 2 3 g_ []), 6⟩ htt 1 (by kernel_rfl) (WPr.nil (?_)))
  rcases oc h with ⟨hc, h⟩ | ⟨hc, h⟩
  · refine WP.condT hc rfl (WP.seq (WP.region (WPr.silx [] ⟨[(2, .B 5 0), (3, .I (1 : Int))], [(5, .box [.s (str []), .nil, .nil, .I (0 : Int), .I (0 : Int), .I (0 : Int), .nil, .nil] 27)], (v_api_Global 0 1 2 3 g_ []), 6⟩ htt 3 (by kernel_rfl) (WPr.nil (?_)))))
    cases h
    exact WP.ret htt Tryz.func21 [(4, .nil), (5, .nil), (6, .nil), (7, .nil)] rfl rfl rfl rfl
  refine WP.condF hc rfl (WP.skip (WP.seq (WP.region (WPr.sil htt 1 rfl (?_)))))
  obtain ⟨x2, hx2, h⟩ := ob h
  refine WPr.call (global_copied_ct N g_ _ hx2) [(0, .sl 0), (1, .sl 1), (2, .sl 2), (3, .sl 3)] [] rfl rfl rfl rfl rfl rfl rfl rfl (.inl rfl) rfl (WPr.silx [] ⟨[(1, .B 4 0), (2, .B 5 0), (3, .I (0 : Int)), (4, .B 10 0)], [(4, .box (c_api_Global 0 1 2 3 g_) 27), (5, .box [.s (str []), .nil, .nil, .I (0 : Int), .I (0 : Int), .I (0 : Int), .nil, .nil] 27), (8, .own r_api_Edge x2.Edges true), (9, .own r_api_Timeout x2.Timeouts true), (10, .box (c_api_Global 6 7 8 9 x2) 27)], (v_api_Global 0 1 2 3 g_ [(6, .sl rS x2.Roles), (7, .sl r_api_Decl x2.Decls)]), 11⟩ htt 2 (by kernel_rfl) (WPr.nil (WP.seq (WP.region (WPr.bs (cs := [.I (-1 : Int)]) (oI .i64) htt ([(-1 : Int)] : List Int) rfl rfl rfl rfl rfl rfl (by kernel_rfl) (by exact (an rfl rfl)) rfl (WPr.silx [3, 4] ⟨[(1, .B 4 0), (2, .B 5 0), (3, .I (0 : Int)), (4, .B 10 0), (18, .S 11), (20, .I g_.States)], [(4, .box (c_api_Global 0 1 2 3 g_) 27), (5, .box [.s (str []), .nil, .nil, .I (0 : Int), .I (0 : Int), .I (0 : Int), .nil, .nil] 27), (8, .own r_api_Edge x2.Edges true), (9, .own r_api_Timeout x2.Timeouts true), (10, .box (c_api_Global 6 7 8 9 x2) 27), (11, .own (rI .i64) ([(-1 : Int)] : List Int) true)], (v_api_Global 0 1 2 3 g_ [(6, .sl rS x2.Roles), (7, .sl r_api_Decl x2.Decls)]), 12⟩ htt 2 (by kernel_rfl) (?_)))))))
  obtain ⟨x3, hx3, h⟩ := ob h
  refine WPr.call (slices_Repeat_int_int_ct N ([(-1 : Int)] : List Int) g_.States _ hx3) [(0, .sl 11)] [11] rfl rfl rfl rfl rfl rfl rfl rfl (.inr ⟨rfl, ⟨(rI_flat _), trivial⟩⟩) rfl (WPr.silx [] ⟨[(1, .B 4 0), (2, .B 5 0), (3, .I (0 : Int)), (4, .B 10 0), (5, .S 12)], [(4, .box (c_api_Global 0 1 2 3 g_) 27), (5, .box [.s (str []), .nil, .nil, .I (0 : Int), .I (0 : Int), .I (0 : Int), .nil, .nil] 27), (8, .own r_api_Edge x2.Edges true), (9, .own r_api_Timeout x2.Timeouts true), (10, .box (c_api_Global 6 7 8 9 x2) 27), (12, .own (rI .i64) x3 true)], (v_api_Global 0 1 2 3 g_ [(6, .sl rS x2.Roles), (7, .sl r_api_Decl x2.Decls)]), 13⟩ htt 1 (by kernel_rfl) (WPr.nil (WP.seq (WP.region (WPr.silx [3, 4] ⟨[(1, .B 4 0), (2, .B 5 0), (3, .I (0 : Int)), (4, .B 10 0), (5, .S 12), (22, .S 12), (24, .I g_.Start)], [(4, .box (c_api_Global 0 1 2 3 g_) 27), (5, .box [.s (str []), .nil, .nil, .I (0 : Int), .I (0 : Int), .I (0 : Int), .nil, .nil] 27), (8, .own r_api_Edge x2.Edges true), (9, .own r_api_Timeout x2.Timeouts true), (10, .box (c_api_Global 6 7 8 9 x2) 27), (12, .own (rI .i64) x3 true)], (v_api_Global 0 1 2 3 g_ [(6, .sl rS x2.Roles), (7, .sl r_api_Decl x2.Decls)]), 13⟩ htt 3 (by kernel_rfl) (?_))))))
  obtain ⟨x4, hx4, h⟩ := ob h
  refine WPr.ixo htt hx4 rfl rfl rfl rfl rfl rfl rfl rfl rfl (WPr.sto (oI .i64) htt (0 : Int) hx4 rfl rfl rfl rfl rfl rfl rfl rfl rfl rfl (by exact rfl) rfl (WPr.nil (WP.seq (WP.seq (WP.region (WPr.silx [2, 3] ⟨[(1, .B 4 0), (2, .B 5 0), (3, .I (0 : Int)), (4, .B 10 0), (5, .S 12), (27, .I g_.Start)], [(4, .box (c_api_Global 0 1 2 3 g_) 27), (5, .box [.s (str []), .nil, .nil, .I (0 : Int), .I (0 : Int), .I (0 : Int), .nil, .nil] 27), (8, .own r_api_Edge x2.Edges true), (9, .own r_api_Timeout x2.Timeouts true), (10, .box (c_api_Global 6 7 8 9 x2) 27), (12, .own (rI .i64) (setL' x3 g_.Start (0 : Int)) true)], (v_api_Global 0 1 2 3 g_ [(6, .sl rS x2.Roles), (7, .sl r_api_Decl x2.Decls)]), 14⟩ htt 2 (by kernel_rfl) (WPr.bs (cs := [.I g_.Start]) (oI .i64) htt ([g_.Start] : List Int) rfl rfl rfl rfl rfl rfl (by kernel_rfl) (by exact (an rfl rfl)) rfl (WPr.sil htt 1 rfl (WPr.nil (?_))))))))))
  refine WP.cut (σ := Int × (List T_api_Edge) × (List T_api_Timeout) × (List Int)) (fun st => ⟨[(1, .B 4 0), (2, .B 5 0), (4, .B 10 0), (5, .S 12)], [(4, .box (c_api_Global 0 1 2 3 g_) 27), (5, .box [.s (str []), .nil, .nil, .I (0 : Int), .I (0 : Int), .I (0 : Int), .nil, .nil] 27), (10, .box [.s x2.Name, .sl 6, .sl 7, .I st.1, .I x2.Start, .I x2.End, .sl 15, .sl 16] 27), (12, .own (rI .i64) st.2.2.2 true), (15, .own r_api_Edge st.2.1 true), (16, .own r_api_Timeout st.2.2.1 true)], (v_api_Global 0 1 2 3 g_ [(6, .sl rS x2.Roles), (7, .sl r_api_Decl x2.Decls)]), 17⟩) (fun st => global_Canonical_k1 g_ x2 st.1 st.2.1 st.2.2.1 st.2.2.2 = some r) ?_ (fun j1 => ?_)
  · rintro ⟨vb4_10_3_1, vb4_10_6_1, vb4_10_7_1, v5_1⟩ h
    replace h : global_Canonical_k1 g_ x2 vb4_10_3_1 vb4_10_6_1 vb4_10_7_1 v5_1 = some r := h
    unfold global_Canonical_k1 at h
    refine WP.seq (WP.region (WPr.silx [3, 4, 5, 6] ⟨[(2, .B 5 0), (4, .B 10 0), (124, .S 12), (126, .I g_.End)], [(5, .box [.s (str []), .nil, .nil, .I (0 : Int), .I (0 : Int), .I (0 : Int), .nil, .nil] 27), (10, .box [.s x2.Name, .sl 6, .sl 7, .I vb4_10_3_1, .I x2.Start, .I x2.End, .sl 15, .sl 16] 27), (12, .own (rI .i64) v5_1 true), (15, .own r_api_Edge vb4_10_6_1 true), (16, .own r_api_Timeout vb4_10_7_1 true)], (v_api_Global 0 1 2 3 g_ [(6, .sl rS x2.Roles), (7, .sl r_api_Decl x2.Decls)]), 17⟩ htt 3 (by kernel_rfl) (?_)))
    obtain ⟨x2225, hx2225, h⟩ := ob h
    refine WPr.ixo htt hx2225 rfl rfl rfl rfl rfl rfl rfl rfl rfl (WPr.ldo (oI .i64) htt hx2225 rfl rfl rfl rfl rfl rfl rfl rfl rfl rfl (WPr.silx [] ⟨[(2, .B 5 0), (4, .B 10 0)], [(5, .box [.s (str []), .nil, .nil, .I (0 : Int), .I (0 : Int), .I (0 : Int), .nil, .nil] 27), (10, .box [.s x2.Name, .sl 6, .sl 7, .I vb4_10_3_1, .I x2.Start, .I x2225, .sl 15, .sl 16] 27), (15, .own r_api_Edge vb4_10_6_1 true), (16, .own r_api_Timeout vb4_10_7_1 true)], (v_api_Global 0 1 2 3 g_ [(6, .sl rS x2.Roles), (7, .sl r_api_Decl x2.Decls)]), 18⟩ htt 2 (by kernel_rfl) (WPr.nil (WP.seq (WP.region (WPr.silx [] ⟨[(2, .B 5 0), (3, .I (0 : Int))], [(5, .box [.s x2.Name, .sl 6, .sl 7, .I vb4_10_3_1, .I x2.Start, .I x2225, .sl 15, .sl 16] 27), (15, .own r_api_Edge vb4_10_6_1 true), (16, .own r_api_Timeout vb4_10_7_1 true)], (v_api_Global 0 1 2 3 g_ [(6, .sl rS x2.Roles), (7, .sl r_api_Decl x2.Decls)]), 18⟩ htt 3 (by kernel_rfl) (WPr.nil (WP.frz 15 rfl (WP.frz 16 rfl (?_))))))))))
    cases h
    exact WP.ret htt Tryz.func21 [(4, .sl 6), (5, .sl 7), (6, .sl 15), (7, .sl 16)] rfl rfl rfl rfl
  refine WP.block (?_)
  refine WP.loopI (σ := Int × (List T_api_Edge) × (List T_api_Timeout) × (List Int) × (List Int)) (fun st => ⟨[(1, .B 4 0), (2, .B 5 0), (4, .B 10 0), (5, .S 12), (6, .S 17)], [(4, .box (c_api_Global 0 1 2 3 g_) 27), (5, .box [.s (str []), .nil, .nil, .I (0 : Int), .I (0 : Int), .I (0 : Int), .nil, .nil] 27), (10, .box [.s x2.Name, .sl 6, .sl 7, .I st.1, .I x2.Start, .I x2.End, .sl 15, .sl 16] 27), (12, .own (rI .i64) st.2.2.2.1 true), (15, .own r_api_Edge st.2.1 true), (16, .own r_api_Timeout st.2.2.1 true), (17, .own (rI .i64) st.2.2.2.2 true)], (v_api_Global 0 1 2 3 g_ [(6, .sl rS x2.Roles), (7, .sl r_api_Decl x2.Decls)]), 18⟩) (fun n st => global_Canonical_l2 N g_ x2 n st.1 st.2.1 st.2.2.1 st.2.2.2.1 st.2.2.2.2) (r := r) (fun _ => rfl) ?_ (fun ih => ?_)
  · intro n12 ih66
    rintro ⟨vb4_10_3_66, vb4_10_6_66, vb4_10_7_66, v5_66, v6_66⟩ h
    replace h : global_Canonical_l2 N g_ x2 (n12 + 1) vb4_10_3_66 vb4_10_6_66 vb4_10_7_66 v5_66 v6_66 = some r := h
    unfold global_Canonical_l2 at h
    refine WP.seq (WP.seq (WP.region (WPr.silx [] ⟨[(1, .B 4 0), (2, .B 5 0), (4, .B 10 0), (5, .S 12), (6, .S 17), (33, .O (decide (vb4_10_3_66 < (v6_66.length : Int))))], [(4, .box (c_api_Global 0 1 2 3 g_) 27), (5, .box [.s (str []), .nil, .nil, .I (0 : Int), .I (0 : Int), .I (0 : Int), .nil, .nil] 27), (10, .box [.s x2.Name, .sl 6, .sl 7, .I vb4_10_3_66, .I x2.Start, .I x2.End, .sl 15, .sl 16] 27), (12, .own (rI .i64) v5_66 true), (15, .own r_api_Edge vb4_10_6_66 true), (16, .own r_api_Timeout vb4_10_7_66 true), (17, .own (rI .i64) v6_66 true)], (v_api_Global 0 1 2 3 g_ [(6, .sl rS x2.Roles), (7, .sl r_api_Decl x2.Decls)]), 18⟩ htt 5 (by kernel_rfl) (WPr.nil (?_)))))
    rcases oc' h with ⟨hc, h⟩ | ⟨hc, h⟩
    · exact WP.condF hc rfl (WP.exit rfl (WP.sub [] (j1 (vb4_10_3_66, vb4_10_6_66, vb4_10_7_66, v5_66) h) rfl rfl rfl rfl))
    refine WP.condT hc rfl (WP.skip (WP.seq (WP.block (WP.seq (WP.region (WPr.silx [3, 4, 5, 6] ⟨[(1, .B 4 0), (2, .B 5 0), (4, .B 10 0), (5, .S 12), (6, .S 17), (38, .S 17), (40, .I vb4_10_3_66)], [(4, .box (c_api_Global 0 1 2 3 g_) 27), (5, .box [.s (str []), .nil, .nil, .I (0 : Int), .I (0 : Int), .I (0 : Int), .nil, .nil] 27), (10, .box [.s x2.Name, .sl 6, .sl 7, .I vb4_10_3_66, .I x2.Start, .I x2.End, .sl 15, .sl 16] 27), (12, .own (rI .i64) v5_66 true), (15, .own r_api_Edge vb4_10_6_66 true), (16, .own r_api_Timeout vb4_10_7_66 true), (17, .own (rI .i64) v6_66 true)], (v_api_Global 0 1 2 3 g_ [(6, .sl rS x2.Roles), (7, .sl r_api_Decl x2.Decls)]), 18⟩ htt 3 (by kernel_rfl) (?_)))))))
    obtain ⟨x4515, hx4515, h⟩ := ob h
    refine WPr.ixo htt hx4515 rfl rfl rfl rfl rfl rfl rfl rfl rfl (WPr.ldo (oI .i64) htt hx4515 rfl rfl rfl rfl rfl rfl rfl rfl rfl rfl (WPr.silx [] ⟨[(1, .B 4 0), (2, .B 5 0), (4, .B 10 0), (5, .S 12), (6, .S 17), (7, .B 19 0)], [(4, .box (c_api_Global 0 1 2 3 g_) 27), (5, .box [.s (str []), .nil, .nil, .I (0 : Int), .I (0 : Int), .I (0 : Int), .nil, .nil] 27), (10, .box [.s x2.Name, .sl 6, .sl 7, .I vb4_10_3_66, .I x2.Start, .I x2.End, .sl 15, .sl 16] 27), (12, .own (rI .i64) v5_66 true), (15, .own r_api_Edge vb4_10_6_66 true), (16, .own r_api_Timeout vb4_10_7_66 true), (17, .own (rI .i64) v6_66 true), (19, .box [.I x4515] 3)], (v_api_Global 0 1 2 3 g_ [(6, .sl rS x2.Roles), (7, .sl r_api_Decl x2.Decls)]), 20⟩ htt 2 (by kernel_rfl) (WPr.nil (WP.seq (WP.region (WPr.silx [3, 4] ⟨[(1, .B 4 0), (2, .B 5 0), (4, .B 10 0), (5, .S 12), (6, .S 17), (7, .B 19 0), (44, .S 3), (45, .c (.cl 60 [] [19]))], [(4, .box (c_api_Global 0 1 2 3 g_) 27), (5, .box [.s (str []), .nil, .nil, .I (0 : Int), .I (0 : Int), .I (0 : Int), .nil, .nil] 27), (10, .box [.s x2.Name, .sl 6, .sl 7, .I vb4_10_3_66, .I x2.Start, .I x2.End, .sl 15, .sl 16] 27), (12, .own (rI .i64) v5_66 true), (15, .own r_api_Edge vb4_10_6_66 true), (16, .own r_api_Timeout vb4_10_7_66 true), (17, .own (rI .i64) v6_66 true), (19, .box [.I x4515] 3)], (v_api_Global 0 1 2 3 g_ [(6, .sl rS x2.Roles), (7, .sl r_api_Decl x2.Decls)]), 20⟩ htt 3 (by kernel_rfl) (?_)))))))
    obtain ⟨x4516, hx4516, h⟩ := ob h
    refine WPr.call (slices_IndexFunc_api_Timeout_api_Timeout_of_global_Canonical_1_ct N g_.Timeouts x4515 _ hx4516) [(0, .sl 3), (1, .bp 19 0)] [] rfl rfl rfl rfl rfl rfl rfl rfl (.inl rfl) rfl (WPr.silx [] ⟨[(1, .B 4 0), (2, .B 5 0), (4, .B 10 0), (5, .S 12), (6, .S 17), (7, .B 19 0), (8, .I x4516)], [(4, .box (c_api_Global 0 1 2 3 g_) 27), (5, .box [.s (str []), .nil, .nil, .I (0 : Int), .I (0 : Int), .I (0 : Int), .nil, .nil] 27), (10, .box [.s x2.Name, .sl 6, .sl 7, .I vb4_10_3_66, .I x2.Start, .I x2.End, .sl 15, .sl 16] 27), (12, .own (rI .i64) v5_66 true), (15, .own r_api_Edge vb4_10_6_66 true), (16, .own r_api_Timeout vb4_10_7_66 true), (17, .own (rI .i64) v6_66 true), (19, .box [.I x4515] 3)], (v_api_Global 0 1 2 3 g_ [(6, .sl rS x2.Roles), (7, .sl r_api_Decl x2.Decls)]), 20⟩ htt 1 (by kernel_rfl) (WPr.nil (WP.seq (WP.region (WPr.sil htt 2 rfl (?_))))))
    obtain ⟨x4517, hx4517, h⟩ := ob h
    refine WPr.call (global_Edges_ct N g_ x4515 _ hx4517) [(0, .sl 0), (1, .sl 1), (2, .sl 2), (3, .sl 3)] [] rfl rfl rfl rfl rfl rfl rfl rfl (.inl rfl) rfl (WPr.silx [] ⟨[(1, .B 4 0), (2, .B 5 0), (4, .B 10 0), (5, .S 12), (6, .S 17), (8, .I x4516), (49, .S 20), (50, .I (x4517.length : Int)), (51, .I (0 : Int))], [(4, .box (c_api_Global 0 1 2 3 g_) 27), (5, .box [.s (str []), .nil, .nil, .I (0 : Int), .I (0 : Int), .I (0 : Int), .nil, .nil] 27), (10, .box [.s x2.Name, .sl 6, .sl 7, .I vb4_10_3_66, .I x2.Start, .I x2.End, .sl 15, .sl 16] 27), (12, .own (rI .i64) v5_66 true), (15, .own r_api_Edge vb4_10_6_66 true), (16, .own r_api_Timeout vb4_10_7_66 true), (17, .own (rI .i64) v6_66 true), (20, .own (rI .i64) x4517 true)], (v_api_Global 0 1 2 3 g_ [(6, .sl rS x2.Roles), (7, .sl r_api_Decl x2.Decls)]), 21⟩ htt 2 (by kernel_rfl) (WPr.nil (?_)))
    refine WP.cut (σ := (List T_api_Edge) × (List T_api_Timeout) × (List Int) × (List Int)) (fun st => ⟨[(1, .B 4 0), (2, .B 5 0), (4, .B 10 0), (5, .S 12), (6, .S 23)], [(4, .box (c_api_Global 0 1 2 3 g_) 27), (5, .box [.s (str []), .nil, .nil, .I (0 : Int), .I (0 : Int), .I (0 : Int), .nil, .nil] 27), (10, .box [.s x2.Name, .sl 6, .sl 7, .I vb4_10_3_66, .I x2.Start, .I x2.End, .sl 21, .sl 22] 27), (12, .own (rI .i64) st.2.2.1 true), (21, .own r_api_Edge st.1 true), (22, .own r_api_Timeout st.2.1 true), (23, .own (rI .i64) st.2.2.2 true)], (v_api_Global 0 1 2 3 g_ [(6, .sl rS x2.Roles), (7, .sl r_api_Decl x2.Decls)]), 24⟩) (fun st => global_Canonical_k3 vb4_10_3_66 (global_Canonical_l2 N g_ x2 n12) st.1 st.2.1 st.2.2.1 st.2.2.2 = some r) ?_ (fun j109 => ?_)
    · rintro ⟨vb4_10_6_109, vb4_10_7_109, v5_109, v6_109⟩ h
      replace h : global_Canonical_k3 vb4_10_3_66 (global_Canonical_l2 N g_ x2 n12) vb4_10_6_109 vb4_10_7_109 v5_109 v6_109 = some r := h
      unfold global_Canonical_k3 at h
      exact WP.inBlock (WP.region (WPr.silx [] ⟨[(1, .B 4 0), (2, .B 5 0), (4, .B 10 0), (5, .S 12), (6, .S 23)], [(4, .box (c_api_Global 0 1 2 3 g_) 27), (5, .box [.s (str []), .nil, .nil, .I (0 : Int), .I (0 : Int), .I (0 : Int), .nil, .nil] 27), (10, .box [.s x2.Name, .sl 6, .sl 7, .I (w64 (vb4_10_3_66 + (1 : Int))), .I x2.Start, .I x2.End, .sl 21, .sl 22] 27), (12, .own (rI .i64) v5_109 true), (21, .own r_api_Edge vb4_10_6_109 true), (22, .own r_api_Timeout vb4_10_7_109 true), (23, .own (rI .i64) v6_109 true)], (v_api_Global 0 1 2 3 g_ [(6, .sl rS x2.Roles), (7, .sl r_api_Decl x2.Decls)]), 24⟩ htt 5 (by kernel_rfl) (WPr.nil (WP.sub [(15, .sl 21), (16, .sl 22), (17, .sl 23)] (ih66 ((w64 (vb4_10_3_66 + (1 : Int))), vb4_10_6_109, vb4_10_7_109, v5_109, v6_109) h) rfl rfl rfl rfl))))
    refine WP.block (?_)
    refine WP.loopI (σ := (List T_api_Edge) × (List T_api_Timeout) × (List Int) × (List Int) × Int) (fun st => ⟨[(1, .B 4 0), (2, .B 5 0), (4, .B 10 0), (5, .S 12), (6, .S 23), (8, .I x4516), (49, .S 20), (50, .I (x4517.length : Int)), (51, .I st.2.2.2.2)], [(4, .box (c_api_Global 0 1 2 3 g_) 27), (5, .box [.s (str []), .nil, .nil, .I (0 : Int), .I (0 : Int), .I (0 : Int), .nil, .nil] 27), (10, .box [.s x2.Name, .sl 6, .sl 7, .I vb4_10_3_66, .I x2.Start, .I x2.End, .sl 21, .sl 22] 27), (12, .own (rI .i64) st.2.2.1 true), (20, .own (rI .i64) x4517 true), (21, .own r_api_Edge st.1 true), (22, .own r_api_Timeout st.2.1 true), (23, .own (rI .i64) st.2.2.2.1 true)], (v_api_Global 0 1 2 3 g_ [(6, .sl rS x2.Roles), (7, .sl r_api_Decl x2.Decls)]), 24⟩) (fun n st => global_Canonical_l4 g_ vb4_10_3_66 (global_Canonical_l2 N g_ x2 n12) x4516 x4517 n st.1 st.2.1 st.2.2.1 st.2.2.2.1 st.2.2.2.2) (r := r) (fun _ => rfl) ?_ (fun ih => ?_)
    · intro n14 ih120
      rintro ⟨vb4_10_6_120, vb4_10_7_120, v5_120, v6_120, v51_120⟩ h
      replace h : global_Canonical_l4 g_ vb4_10_3_66 (global_Canonical_l2 N g_ x2 n12) x4516 x4517 (n14 + 1) vb4_10_6_120 vb4_10_7_120 v5_120 v6_120 v51_120 = some r := h
      unfold global_Canonical_l4 at h
      refine WP.seq (WP.region (WPr.sil htt 1 rfl (WPr.nil (WP.seq (?_)))))
      rcases oc' h with ⟨hc, h⟩ | ⟨hc, h⟩
      · exact WP.condF hc rfl (WP.exit rfl (WP.sub [] (j109 (vb4_10_6_120, vb4_10_7_120, v5_120, v6_120) h) rfl rfl rfl rfl))
      refine WP.condT hc rfl (WP.skip (WP.seq (WP.block (WP.seq (WP.region (?_))))))
      obtain ⟨x5070, hx5070, h⟩ := ob h
      refine WPr.ixo htt hx5070 rfl rfl rfl rfl rfl rfl rfl rfl rfl (WPr.ldo (oI .i64) htt hx5070 rfl rfl rfl rfl rfl rfl rfl rfl rfl rfl (WPr.silx [] ⟨[(1, .B 4 0), (2, .B 5 0), (4, .B 10 0), (5, .S 12), (6, .S 23), (8, .I x4516), (10, .I x5070), (49, .S 20), (50, .I (x4517.length : Int)), (51, .I v51_120)], [(4, .box (c_api_Global 0 1 2 3 g_) 27), (5, .box [.s (str []), .nil, .nil, .I (0 : Int), .I (0 : Int), .I (0 : Int), .nil, .nil] 27), (10, .box [.s x2.Name, .sl 6, .sl 7, .I vb4_10_3_66, .I x2.Start, .I x2.End, .sl 21, .sl 22] 27), (12, .own (rI .i64) v5_120 true), (20, .own (rI .i64) x4517 true), (21, .own r_api_Edge vb4_10_6_120 true), (22, .own r_api_Timeout vb4_10_7_120 true), (23, .own (rI .i64) v6_120 true)], (v_api_Global 0 1 2 3 g_ [(6, .sl rS x2.Roles), (7, .sl r_api_Decl x2.Decls)]), 25⟩ htt 1 (by kernel_rfl) (WPr.nil (WP.seq (WP.region (WPr.silx [3, 4, 5, 6] ⟨[(1, .B 4 0), (2, .B 5 0), (4, .B 10 0), (5, .S 12), (6, .S 23), (8, .I x4516), (10, .I x5070), (49, .S 20), (50, .I (x4517.length : Int)), (51, .I v51_120), (56, .S 2), (57, .I x5070)], [(4, .box (c_api_Global 0 1 2 3 g_) 27), (5, .box [.s (str []), .nil, .nil, .I (0 : Int), .I (0 : Int), .I (0 : Int), .nil, .nil] 27), (10, .box [.s x2.Name, .sl 6, .sl 7, .I vb4_10_3_66, .I x2.Start, .I x2.End, .sl 21, .sl 22] 27), (12, .own (rI .i64) v5_120 true), (20, .own (rI .i64) x4517 true), (21, .own r_api_Edge vb4_10_6_120 true), (22, .own r_api_Timeout vb4_10_7_120 true), (23, .own (rI .i64) v6_120 true)], (v_api_Global 0 1 2 3 g_ [(6, .sl rS x2.Roles), (7, .sl r_api_Decl x2.Decls)]), 25⟩ htt 3 (by kernel_rfl) (?_)))))))
      obtain ⟨x5071, hx5071, h⟩ := ob h
      refine WPr.ix o_api_Edge htt hx5071 rfl rfl rfl rfl rfl rfl rfl rfl rfl (WPr.silx [] ⟨[(1, .B 4 0), (2, .B 5 0), (4, .B 10 0), (5, .S 12), (6, .S 23), (8, .I x4516), (10, .I x5070), (11, .B 26 0), (49, .S 20), (50, .I (x4517.length : Int)), (51, .I v51_120)], [(4, .box (c_api_Global 0 1 2 3 g_) 27), (5, .box [.s (str []), .nil, .nil, .I (0 : Int), .I (0 : Int), .I (0 : Int), .nil, .nil] 27), (10, .box [.s x2.Name, .sl 6, .sl 7, .I vb4_10_3_66, .I x2.Start, .I x2.End, .sl 21, .sl 22] 27), (12, .own (rI .i64) v5_120 true), (20, .own (rI .i64) x4517 true), (21, .own r_api_Edge vb4_10_6_120 true), (22, .own r_api_Timeout vb4_10_7_120 true), (23, .own (rI .i64) v6_120 true), (26, .box (c_api_Edge x5071) 43)], (v_api_Global 0 1 2 3 g_ [(6, .sl rS x2.Roles), (7, .sl r_api_Decl x2.Decls)]), 27⟩ htt 3 (by kernel_rfl) (WPr.nil (WP.seq (WP.seq (WP.region (WPr.silx [3, 4, 5] ⟨[(1, .B 4 0), (2, .B 5 0), (4, .B 10 0), (5, .S 12), (6, .S 23), (8, .I x4516), (10, .I x5070), (11, .B 26 0), (49, .S 20), (50, .I (x4517.length : Int)), (51, .I v51_120), (60, .S 12), (62, .I x5071.To)], [(4, .box (c_api_Global 0 1 2 3 g_) 27), (5, .box [.s (str []), .nil, .nil, .I (0 : Int), .I (0 : Int), .I (0 : Int), .nil, .nil] 27), (10, .box [.s x2.Name, .sl 6, .sl 7, .I vb4_10_3_66, .I x2.Start, .I x2.End, .sl 21, .sl 22] 27), (12, .own (rI .i64) v5_120 true), (20, .own (rI .i64) x4517 true), (21, .own r_api_Edge vb4_10_6_120 true), (22, .own r_api_Timeout vb4_10_7_120 true), (23, .own (rI .i64) v6_120 true), (26, .box (c_api_Edge x5071) 43)], (v_api_Global 0 1 2 3 g_ [(6, .sl rS x2.Roles), (7, .sl r_api_Decl x2.Decls)]), 27⟩ htt 3 (by kernel_rfl) (?_)))))))
      obtain ⟨x5072, hx5072, h⟩ := ob h
      refine WPr.ixo htt hx5072 rfl rfl rfl rfl rfl rfl rfl rfl rfl (WPr.ldo (oI .i64) htt hx5072 rfl rfl rfl rfl rfl rfl rfl rfl rfl rfl (WPr.silx [] ⟨[(1, .B 4 0), (2, .B 5 0), (4, .B 10 0), (5, .S 12), (6, .S 23), (8, .I x4516), (10, .I x5070), (11, .B 26 0), (49, .S 20), (50, .I (x4517.length : Int)), (51, .I v51_120), (65, .O (decide (x5072 < (0 : Int))))], [(4, .box (c_api_Global 0 1 2 3 g_) 27), (5, .box [.s (str []), .nil, .nil, .I (0 : Int), .I (0 : Int), .I (0 : Int), .nil, .nil] 27), (10, .box [.s x2.Name, .sl 6, .sl 7, .I vb4_10_3_66, .I x2.Start, .I x2.End, .sl 21, .sl 22] 27), (12, .own (rI .i64) v5_120 true), (20, .own (rI .i64) x4517 true), (21, .own r_api_Edge vb4_10_6_120 true), (22, .own r_api_Timeout vb4_10_7_120 true), (23, .own (rI .i64) v6_120 true), (26, .box (c_api_Edge x5071) 43)], (v_api_Global 0 1 2 3 g_ [(6, .sl rS x2.Roles), (7, .sl r_api_Decl x2.Decls)]), 28⟩ htt 1 (by kernel_rfl) (WPr.nil (?_))))
      refine WP.cut (σ := (List Int) × (List Int)) (fun st => ⟨[(1, .B 4 0), (2, .B 5 0), (4, .B 10 0), (5, .S 12), (6, .S 28), (8, .I x4516), (10, .I x5070), (11, .B 26 0), (49, .S 20), (50, .I (x4517.length : Int)), (51, .I v51_120)], [(4, .box (c_api_Global 0 1 2 3 g_) 27), (5, .box [.s (str []), .nil, .nil, .I (0 : Int), .I (0 : Int), .I (0 : Int), .nil, .nil] 27), (10, .box [.s x2.Name, .sl 6, .sl 7, .I vb4_10_3_66, .I x2.Start, .I x2.End, .sl 21, .sl 22] 27), (12, .own (rI .i64) st.1 true), (20, .own (rI .i64) x4517 true), (21, .own r_api_Edge vb4_10_6_120 true), (22, .own r_api_Timeout vb4_10_7_120 true), (26, .box (c_api_Edge x5071) 43), (28, .own (rI .i64) st.2 true)], (v_api_Global 0 1 2 3 g_ [(6, .sl rS x2.Roles), (7, .sl r_api_Decl x2.Decls)]), 29⟩) (fun st => global_Canonical_k7 g_ vb4_10_3_66 x4516 vb4_10_6_120 vb4_10_7_120 v51_120 (global_Canonical_l4 g_ vb4_10_3_66 (global_Canonical_l2 N g_ x2 n12) x4516 x4517 n14) x5070 x5071 st.1 st.2 = some r) ?_ (fun j127 => ?_)
      · rintro ⟨v5_127, v6_127⟩ h
        replace h : global_Canonical_k7 g_ vb4_10_3_66 x4516 vb4_10_6_120 vb4_10_7_120 v51_120 (global_Canonical_l4 g_ vb4_10_3_66 (global_Canonical_l2 N g_ x2 n12) x4516 x4517 n14) x5070 x5071 v5_127 v6_127 = some r := h
        unfold global_Canonical_k7 at h
        refine WP.seq (WP.seq (WP.region (WPr.silx (rg 3 9) ⟨[(1, .B 4 0), (2, .B 5 0), (4, .B 10 0), (5, .S 12), (6, .S 28), (8, .I x4516), (10, .I x5070), (11, .B 26 0), (49, .S 20), (50, .I (x4517.length : Int)), (51, .I v51_120), (79, .O (decide (x4516 ≥ (0 : Int))))], [(4, .box (c_api_Global 0 1 2 3 g_) 27), (5, .box [.s (str []), .nil, .nil, .I (0 : Int), .I (0 : Int), .I (0 : Int), .nil, .nil] 27), (10, .box [.s x2.Name, .sl 6, .sl 7, .I vb4_10_3_66, .I x2.Start, .I x2.End, .sl 21, .sl 22] 27), (12, .own (rI .i64) v5_127 true), (20, .own (rI .i64) x4517 true), (21, .own r_api_Edge vb4_10_6_120 true), (22, .own r_api_Timeout vb4_10_7_120 true), (26, .box (c_api_Edge x5071) 43), (28, .own (rI .i64) v6_127 true)], (v_api_Global 0 1 2 3 g_ [(6, .sl rS x2.Roles), (7, .sl r_api_Decl x2.Decls)]), 29⟩ htt 3 (by kernel_rfl) (?_))))
        refine WP.cutr (σ := Bool) (fun st => ⟨[(1, .B 4 0), (2, .B 5 0), (4, .B 10 0), (5, .S 12), (6, .S 28), (8, .I x4516), (11, .B 26 0), (49, .S 20), (50, .I (x4517.length : Int)), (51, .I v51_120), (88, .O st)], [(4, .box (c_api_Global 0 1 2 3 g_) 27), (5, .box [.s (str []), .nil, .nil, .I (0 : Int), .I (0 : Int), .I (0 : Int), .nil, .nil] 27), (10, .box [.s x2.Name, .sl 6, .sl 7, .I vb4_10_3_66, .I x2.Start, .I x2.End, .sl 21, .sl 22] 27), (12, .own (rI .i64) v5_127 true), (20, .own (rI .i64) x4517 true), (21, .own r_api_Edge vb4_10_6_120 true), (22, .own r_api_Timeout vb4_10_7_120 true), (26, .box (c_api_Edge x5071) 43), (28, .own (rI .i64) v6_127 true)], (v_api_Global 0 1 2 3 g_ [(6, .sl rS x2.Roles), (7, .sl r_api_Decl x2.Decls)]), 29⟩) (fun st => global_Canonical_k6 g_ vb4_10_3_66 x4516 vb4_10_6_120 vb4_10_7_120 v51_120 (global_Canonical_l4 g_ vb4_10_3_66 (global_Canonical_l2 N g_ x2 n12) x4516 x4517 n14) x5071 v5_127 v6_127 st = some r) ?_ (fun j128 => ?_)
        · intro v88_128 h
          replace h : global_Canonical_k6 g_ vb4_10_3_66 x4516 vb4_10_6_120 vb4_10_7_120 v51_120 (global_Canonical_l4 g_ vb4_10_3_66 (global_Canonical_l2 N g_ x2 n12) x4516 x4517 n14) x5071 v5_127 v6_127 v88_128 = some r := h
          unfold global_Canonical_k6 at h
          refine WP.cut (σ := (List T_api_Timeout)) (fun st => ⟨[(1, .B 4 0), (2, .B 5 0), (4, .B 10 0), (5, .S 12), (6, .S 28), (8, .I x4516), (11, .B 26 0), (49, .S 20), (50, .I (x4517.length : Int)), (51, .I v51_120)], [(4, .box (c_api_Global 0 1 2 3 g_) 27), (5, .box [.s (str []), .nil, .nil, .I (0 : Int), .I (0 : Int), .I (0 : Int), .nil, .nil] 27), (10, .box [.s x2.Name, .sl 6, .sl 7, .I vb4_10_3_66, .I x2.Start, .I x2.End, .sl 21, .sl 29] 27), (12, .own (rI .i64) v5_127 true), (20, .own (rI .i64) x4517 true), (21, .own r_api_Edge vb4_10_6_120 true), (26, .box (c_api_Edge x5071) 43), (28, .own (rI .i64) v6_127 true), (29, .own r_api_Timeout st true)], (v_api_Global 0 1 2 3 g_ [(6, .sl rS x2.Roles), (7, .sl r_api_Decl x2.Decls)]), 30⟩) (fun st => global_Canonical_k5 vb4_10_3_66 vb4_10_6_120 v51_120 (global_Canonical_l4 g_ vb4_10_3_66 (global_Canonical_l2 N g_ x2 n12) x4516 x4517 n14) x5071 v5_127 v6_127 st = some r) ?_ (fun j129 => ?_)
          · intro vb4_10_7_129 h
            replace h : global_Canonical_k5 vb4_10_3_66 vb4_10_6_120 v51_120 (global_Canonical_l4 g_ vb4_10_3_66 (global_Canonical_l2 N g_ x2 n12) x4516 x4517 n14) x5071 v5_127 v6_127 vb4_10_7_129 = some r := h
            unfold global_Canonical_k5 at h
            refine WP.nm (fun A221 tA221 fA221 => ?_)
            have st5096 : A221 0 ⟨[(4, .B 10 0)], [], [], [], 30, [(106, .B 10 6)], [], [], 30⟩ := tA221 _ _ (LS.sil htt rfl rfl rfl rfl rfl rfl)
            have st5097 : A221 1 ⟨[(106, .B 10 6)], [(6, .sl rS x2.Roles), (7, .sl r_api_Decl x2.Decls)], [], [(10, .box [.s x2.Name, .sl 6, .sl 7, .I vb4_10_3_66, .I x2.Start, .I x2.End, .sl 21, .sl 29] 27)], 30, [(107, .S 21)], [], [], 30⟩ := tA221 _ _ (LS.sil htt rfl rfl rfl rfl rfl rfl)
            have st5098 : A221 2 ⟨[(4, .B 10 0)], [], [], [], 30, [(108, .B 10 3)], [], [], 30⟩ := tA221 _ _ (LS.sil htt rfl rfl rfl rfl rfl rfl)
            have st5099 : A221 3 ⟨[(108, .B 10 3)], [(6, .sl rS x2.Roles), (7, .sl r_api_Decl x2.Decls)], [], [(10, .box [.s x2.Name, .sl 6, .sl 7, .I vb4_10_3_66, .I x2.Start, .I x2.End, .sl 21, .sl 29] 27)], 30, [(109, .I vb4_10_3_66)], [], [], 30⟩ := tA221 _ _ (LS.sil htt rfl rfl rfl rfl rfl rfl)
            have st5100 : A221 4 ⟨[(11, .B 26 0)], [], [], [], 30, [(110, .B 26 1)], [], [], 30⟩ := tA221 _ _ (LS.sil htt rfl rfl rfl rfl rfl rfl)
            have st5101 : A221 5 ⟨[(110, .B 26 1)], [], [], [(26, .box (c_api_Edge x5071) 43)], 30, [(111, .a (c_api_Interaction x5071.Act))], [], [], 30⟩ := tA221 _ _ (LS.sil htt rfl rfl rfl rfl rfl rfl)
            have st5102 : A221 6 ⟨[(5, .S 12)], [], [], [], 30, [(112, .S 12)], [], [], 30⟩ := tA221 _ _ (LS.sil htt rfl rfl rfl rfl rfl rfl)
            have st5103 : A221 7 ⟨[(11, .B 26 0)], [], [], [], 30, [(113, .B 26 4)], [], [], 30⟩ := tA221 _ _ (LS.sil htt rfl rfl rfl rfl rfl rfl)
            have st5104 : A221 8 ⟨[(113, .B 26 4)], [], [], [(26, .box (c_api_Edge x5071) 43)], 30, [(114, .I x5071.To)], [], [], 30⟩ := tA221 _ _ (LS.sil htt rfl rfl rfl rfl rfl rfl)
            obtain ⟨x5105, hx5105, h⟩ := ob h
            have st5106 : A221 9 ⟨[(112, .S 12), (114, .I x5071.To)], [], [], [(12, .own (rI .i64) v5_127 true)], 30, [(115, .P 30 0)], [(30, .el 12 ((x5071.To).toNat * ((rI .i64)).sz))], [], 31⟩ := tA221 _ _ (LS.of rfl rfl rfl (fun _ _ _ _ _ _ _ k => WPr.ixo htt hx5105 rfl rfl rfl rfl rfl rfl rfl rfl rfl (k)) rfl)
            have st5107 : A221 10 ⟨[(115, .P 30 0)], [(30, .el 12 ((x5071.To).toNat * ((rI .i64)).sz))], [], [(12, .own (rI .i64) v5_127 true)], 31, [(116, .I x5105)], [], [], 31⟩ := tA221 _ _ (LS.of rfl rfl rfl (fun _ _ _ _ _ _ _ k => WPr.ldo (oI .i64) htt hx5105 rfl rfl rfl rfl rfl rfl rfl rfl rfl rfl (k)) rfl)
            have st5108 : A221 11 ⟨[(11, .B 26 0)], [], [], [], 31, [(117, .B 26 5)], [], [], 31⟩ := tA221 _ _ (LS.sil htt rfl rfl rfl rfl rfl rfl)
            have st5109 : A221 12 ⟨[(117, .B 26 5)], [], [], [(26, .box (c_api_Edge x5071) 43)], 31, [(118, .O x5071.Again)], [], [], 31⟩ := tA221 _ _ (LS.sil htt rfl rfl rfl rfl rfl rfl)
            have st5110 : A221 13 ⟨[(109, .I vb4_10_3_66), (111, .a (c_api_Interaction x5071.Act)), (116, .I x5105), (118, .O x5071.Again)], [], [], [], 31, [(119, .a [.I vb4_10_3_66, .I x5071.Act.From, .I x5071.Act.To, .I x5071.Act.Label, .I x5105, .b x5071.Again])], [], [], 31⟩ := tA221 _ _ (LS.sil htt rfl rfl rfl rfl rfl rfl)
            have st5111 : A221 14 ⟨[(119, .a [.I vb4_10_3_66, .I x5071.Act.From, .I x5071.Act.To, .I x5071.Act.Label, .I x5105, .b x5071.Again])], [], [], [], 31, [(120, .S 31)], [], [(31, .own r_api_Edge ([(⟨vb4_10_3_66, x5071.Act, x5105, x5071.Again⟩ : T_api_Edge)] : List T_api_Edge) true)], 32⟩ := tA221 _ _ (LS.of rfl rfl rfl (fun _ _ _ _ _ _ _ k => WPr.bs (cs := [.I vb4_10_3_66, .I x5071.Act.From, .I x5071.Act.To, .I x5071.Act.Label, .I x5105, .b x5071.Again]) o_api_Edge htt ([(⟨vb4_10_3_66, x5071.Act, x5105, x5071.Again⟩ : T_api_Edge)] : List T_api_Edge) rfl rfl rfl rfl rfl rfl (by kernel_rfl) (by exact (an (an rfl (an (an rfl (an rfl rfl)) (an rfl rfl))) rfl)) rfl (k)) rfl)
            obtain ⟨x5112, hx5112, h⟩ := ob h
            have st5113 : A221 15 ⟨[(107, .S 21), (120, .S 31)], [], [(21, .own r_api_Edge vb4_10_6_120 true)], [(31, .own r_api_Edge ([(⟨vb4_10_3_66, x5071.Act, x5105, x5071.Again⟩ : T_api_Edge)] : List T_api_Edge) true)], 32, [(121, .S 32)], [], [(21, .gone), (32, .own r_api_Edge x5112 true)], 33⟩ := tA221 _ _ (LS.of rfl rfl rfl (fun _ _ _ _ _ _ _ k => WPr.app htt hx5112 (by exact (srcO rfl)) rfl rfl rfl rfl rfl rfl rfl rfl rfl rfl (k)) rfl)
            have st5114 : A221 16 ⟨[(4, .B 10 0)], [], [], [], 33, [(122, .B 10 6)], [], [], 33⟩ := tA221 _ _ (LS.sil htt rfl rfl rfl rfl rfl rfl)
            have st5115 : A221 17 ⟨[(121, .S 32), (122, .B 10 6)], [(6, .sl rS x2.Roles), (7, .sl r_api_Decl x2.Decls)], [(10, .box [.s x2.Name, .sl 6, .sl 7, .I vb4_10_3_66, .I x2.Start, .I x2.End, .sl 21, .sl 29] 27)], [(32, .own r_api_Edge x5112 true)], 33, [], [], [(10, .box [.s x2.Name, .sl 6, .sl 7, .I vb4_10_3_66, .I x2.Start, .I x2.End, .sl 32, .sl 29] 27)], 33⟩ := tA221 _ _ (LS.sil htt rfl rfl rfl rfl rfl rfl)
            exact WP.regionD (t := ⟨[(1, .B 4 0), (2, .B 5 0), (4, .B 10 0), (5, .S 12), (6, .S 28), (8, .I x4516), (49, .S 20), (50, .I (x4517.length : Int)), (51, .I v51_120)], [(4, .box (c_api_Global 0 1 2 3 g_) 27), (5, .box [.s (str []), .nil, .nil, .I (0 : Int), .I (0 : Int), .I (0 : Int), .nil, .nil] 27), (10, .box [.s x2.Name, .sl 6, .sl 7, .I vb4_10_3_66, .I x2.Start, .I x2.End, .sl 32, .sl 29] 27), (12, .own (rI .i64) v5_127 true), (20, .own (rI .i64) x4517 true), (28, .own (rI .i64) v6_127 true), (29, .own r_api_Timeout vb4_10_7_129 true), (32, .own r_api_Edge x5112 true)], (v_api_Global 0 1 2 3 g_ [(6, .sl rS x2.Roles), (7, .sl r_api_Decl x2.Decls)]), 33⟩) [0, 1, 0, 4, 0, 16, 0, 0, 128, 448, 960, 0, 2048, 8188, 16380, 32767, 65535, 131071] (.cons (fA221 _ _ st5096) (.cons (fA221 _ _ st5097) (.cons (fA221 _ _ st5098) (.cons (fA221 _ _ st5099) (.cons (fA221 _ _ st5100) (.cons (fA221 _ _ st5101) (.cons (fA221 _ _ st5102) (.cons (fA221 _ _ st5103) (.cons (fA221 _ _ st5104) (.cons (fA221 _ _ st5106) (.cons (fA221 _ _ st5107) (.cons (fA221 _ _ st5108) (.cons (fA221 _ _ st5109) (.cons (fA221 _ _ st5110) (.cons (fA221 _ _ st5111) (.cons (fA221 _ _ st5113) (.cons (fA221 _ _ st5114) (.cons (fA221 _ _ st5115) .nil)))))))))))))))))) (by kernel_rfl) (by kernel_rfl) (by kernel_rfl) (by kernel_rfl) (WP.inBlock (WP.region (WPr.sil htt 2 rfl (WPr.nil (WP.sub [(21, .sl 32), (22, .sl 29), (23, .sl 28)] (ih120 (x5112, vb4_10_7_129, v5_127, v6_127, (w64 (v51_120 + (1 : Int)))) h) rfl rfl rfl rfl)))))
          rcases oc' h with ⟨hc, h⟩ | ⟨hc, h⟩
          · exact WP.condF hc rfl (WP.skip (WP.sub [(29, .sl 22)] (j129 vb4_10_7_120 h) rfl rfl rfl rfl))
          refine WP.condT hc rfl (WP.nm (fun A222 tA222 fA222 => ?_))
          have st5116 : A222 0 ⟨[(4, .B 10 0)], [], [], [], 29, [(89, .B 10 7)], [], [], 29⟩ := tA222 _ _ (LS.sil htt rfl rfl rfl rfl rfl rfl)
          have st5117 : A222 1 ⟨[(89, .B 10 7)], [(6, .sl rS x2.Roles), (7, .sl r_api_Decl x2.Decls)], [], [(10, .box [.s x2.Name, .sl 6, .sl 7, .I vb4_10_3_66, .I x2.Start, .I x2.End, .sl 21, .sl 22] 27)], 29, [(90, .S 22)], [], [], 29⟩ := tA222 _ _ (LS.sil htt rfl rfl rfl rfl rfl rfl)
          have st5118 : A222 2 ⟨[(4, .B 10 0)], [], [], [], 29, [(91, .B 10 3)], [], [], 29⟩ := tA222 _ _ (LS.sil htt rfl rfl rfl rfl rfl rfl)
          have st5119 : A222 3 ⟨[(91, .B 10 3)], [(6, .sl rS x2.Roles), (7, .sl r_api_Decl x2.Decls)], [], [(10, .box [.s x2.Name, .sl 6, .sl 7, .I vb4_10_3_66, .I x2.Start, .I x2.End, .sl 21, .sl 22] 27)], 29, [(92, .I vb4_10_3_66)], [], [], 29⟩ := tA222 _ _ (LS.sil htt rfl rfl rfl rfl rfl rfl)
          have st5120 : A222 4 ⟨[(1, .B 4 0)], [], [], [], 29, [(93, .B 4 7)], [], [], 29⟩ := tA222 _ _ (LS.sil htt rfl rfl rfl rfl rfl rfl)
          have st5121 : A222 5 ⟨[(93, .B 4 7)], (v_api_Global 0 1 2 3 g_ []), [], [(4, .box (c_api_Global 0 1 2 3 g_) 27)], 29, [(94, .S 3)], [], [], 29⟩ := tA222 _ _ (LS.sil htt rfl rfl rfl rfl rfl rfl)
          have st5122 : A222 6 ⟨[(8, .I x4516)], [], [], [], 29, [(95, .I x4516)], [], [], 29⟩ := tA222 _ _ (LS.sil htt rfl rfl rfl rfl rfl rfl)
          obtain ⟨x5123, hx5123, h⟩ := ob h
          have st5124 : A222 7 ⟨[(94, .S 3), (95, .I x4516)], [(3, .sl r_api_Timeout g_.Timeouts)], [], [], 29, [(96, .P 29 0)], [(29, .pl (c_api_Timeout x5123))], [], 30⟩ := tA222 _ _ (LS.of rfl rfl rfl (fun _ _ _ _ _ _ _ k => WPr.ix o_api_Timeout htt hx5123 rfl rfl rfl rfl rfl rfl rfl rfl rfl (k)) rfl)
          have st5125 : A222 8 ⟨[(96, .P 29 0)], [(29, .pl (c_api_Timeout x5123))], [], [], 30, [(97, .P 29 1)], [], [], 30⟩ := tA222 _ _ (LS.sil htt rfl rfl rfl rfl rfl rfl)
          have st5126 : A222 9 ⟨[(97, .P 29 1)], [(29, .pl (c_api_Timeout x5123))], [], [], 30, [(98, .I x5123.Ticks)], [], [], 30⟩ := tA222 _ _ (LS.sil htt rfl rfl rfl rfl rfl rfl)
          have st5127 : A222 10 ⟨[(4, .B 10 0)], [], [], [], 30, [(99, .B 10 6)], [], [], 30⟩ := tA222 _ _ (LS.sil htt rfl rfl rfl rfl rfl rfl)
          have st5128 : A222 11 ⟨[(99, .B 10 6)], [(6, .sl rS x2.Roles), (7, .sl r_api_Decl x2.Decls)], [], [(10, .box [.s x2.Name, .sl 6, .sl 7, .I vb4_10_3_66, .I x2.Start, .I x2.End, .sl 21, .sl 22] 27)], 30, [(100, .S 21)], [], [], 30⟩ := tA222 _ _ (LS.sil htt rfl rfl rfl rfl rfl rfl)
          have st5129 : A222 12 ⟨[(100, .S 21)], [], [], [(21, .own r_api_Edge vb4_10_6_120 true)], 30, [(101, .I (vb4_10_6_120.length : Int))], [], [], 30⟩ := tA222 _ _ (LS.sil htt rfl rfl rfl rfl rfl rfl)
          have st5130 : A222 13 ⟨[(92, .I vb4_10_3_66), (98, .I x5123.Ticks), (101, .I (vb4_10_6_120.length : Int))], [], [], [], 30, [(102, .a [.I vb4_10_3_66, .I x5123.Ticks, .I (vb4_10_6_120.length : Int)])], [], [], 30⟩ := tA222 _ _ (LS.sil htt rfl rfl rfl rfl rfl rfl)
          have st5131 : A222 14 ⟨[(102, .a [.I vb4_10_3_66, .I x5123.Ticks, .I (vb4_10_6_120.length : Int)])], [], [], [], 30, [(103, .S 30)], [], [(30, .own r_api_Timeout ([(⟨vb4_10_3_66, x5123.Ticks, (vb4_10_6_120.length : Int)⟩ : T_api_Timeout)] : List T_api_Timeout) true)], 31⟩ := tA222 _ _ (LS.of rfl rfl rfl (fun _ _ _ _ _ _ _ k => WPr.bs (cs := [.I vb4_10_3_66, .I x5123.Ticks, .I (vb4_10_6_120.length : Int)]) o_api_Timeout htt ([(⟨vb4_10_3_66, x5123.Ticks, (vb4_10_6_120.length : Int)⟩ : T_api_Timeout)] : List T_api_Timeout) rfl rfl rfl rfl rfl rfl (by kernel_rfl) (by exact (an (an rfl (an rfl rfl)) rfl)) rfl (k)) rfl)
          obtain ⟨x5132, hx5132, h⟩ := ob h
          have st5133 : A222 15 ⟨[(90, .S 22), (103, .S 30)], [], [(22, .own r_api_Timeout vb4_10_7_120 true)], [(30, .own r_api_Timeout ([(⟨vb4_10_3_66, x5123.Ticks, (vb4_10_6_120.length : Int)⟩ : T_api_Timeout)] : List T_api_Timeout) true)], 31, [(104, .S 31)], [], [(22, .gone), (31, .own r_api_Timeout x5132 true)], 32⟩ := tA222 _ _ (LS.of rfl rfl rfl (fun _ _ _ _ _ _ _ k => WPr.app htt hx5132 (by exact (srcO rfl)) rfl rfl rfl rfl rfl rfl rfl rfl rfl rfl (k)) rfl)
          have st5134 : A222 16 ⟨[(4, .B 10 0)], [], [], [], 32, [(105, .B 10 7)], [], [], 32⟩ := tA222 _ _ (LS.sil htt rfl rfl rfl rfl rfl rfl)
          have st5135 : A222 17 ⟨[(104, .S 31), (105, .B 10 7)], [(6, .sl rS x2.Roles), (7, .sl r_api_Decl x2.Decls)], [(10, .box [.s x2.Name, .sl 6, .sl 7, .I vb4_10_3_66, .I x2.Start, .I x2.End, .sl 21, .sl 22] 27)], [(31, .own r_api_Timeout x5132 true)], 32, [], [], [(10, .box [.s x2.Name, .sl 6, .sl 7, .I vb4_10_3_66, .I x2.Start, .I x2.End, .sl 21, .sl 31] 27)], 32⟩ := tA222 _ _ (LS.sil htt rfl rfl rfl rfl rfl rfl)
          exact WP.regionD (t := ⟨[(1, .B 4 0), (2, .B 5 0), (4, .B 10 0), (5, .S 12), (6, .S 28), (8, .I x4516), (11, .B 26 0), (49, .S 20), (50, .I (x4517.length : Int)), (51, .I v51_120)], [(4, .box (c_api_Global 0 1 2 3 g_) 27), (5, .box [.s (str []), .nil, .nil, .I (0 : Int), .I (0 : Int), .I (0 : Int), .nil, .nil] 27), (10, .box [.s x2.Name, .sl 6, .sl 7, .I vb4_10_3_66, .I x2.Start, .I x2.End, .sl 21, .sl 31] 27), (12, .own (rI .i64) v5_127 true), (20, .own (rI .i64) x4517 true), (21, .own r_api_Edge vb4_10_6_120 true), (26, .box (c_api_Edge x5071) 43), (28, .own (rI .i64) v6_127 true), (31, .own r_api_Timeout x5132 true)], (v_api_Global 0 1 2 3 g_ [(6, .sl rS x2.Roles), (7, .sl r_api_Decl x2.Decls)]), 32⟩) [0, 1, 0, 4, 0, 16, 0, 112, 240, 496, 0, 1024, 3072, 8188, 16380, 32767, 65535, 131071] (.cons (fA222 _ _ st5116) (.cons (fA222 _ _ st5117) (.cons (fA222 _ _ st5118) (.cons (fA222 _ _ st5119) (.cons (fA222 _ _ st5120) (.cons (fA222 _ _ st5121) (.cons (fA222 _ _ st5122) (.cons (fA222 _ _ st5124) (.cons (fA222 _ _ st5125) (.cons (fA222 _ _ st5126) (.cons (fA222 _ _ st5127) (.cons (fA222 _ _ st5128) (.cons (fA222 _ _ st5129) (.cons (fA222 _ _ st5130) (.cons (fA222 _ _ st5131) (.cons (fA222 _ _ st5133) (.cons (fA222 _ _ st5134) (.cons (fA222 _ _ st5135) .nil)))))))))))))))))) (by kernel_rfl) (by kernel_rfl) (by kernel_rfl) (by kernel_rfl) (WP.sub [(29, .sl 31)] (j129 x5132 h) rfl rfl rfl rfl)
        rcases oc' h with ⟨hc, h⟩ | ⟨hc, h⟩
        · exact WPr.kb 79 hc rfl (WPr.silx [] ⟨[(1, .B 4 0), (2, .B 5 0), (4, .B 10 0), (5, .S 12), (6, .S 28), (8, .I x4516), (11, .B 26 0), (49, .S 20), (50, .I (x4517.length : Int)), (51, .I v51_120), (88, .O false)], [(4, .box (c_api_Global 0 1 2 3 g_) 27), (5, .box [.s (str []), .nil, .nil, .I (0 : Int), .I (0 : Int), .I (0 : Int), .nil, .nil] 27), (10, .box [.s x2.Name, .sl 6, .sl 7, .I vb4_10_3_66, .I x2.Start, .I x2.End, .sl 21, .sl 22] 27), (12, .own (rI .i64) v5_127 true), (20, .own (rI .i64) x4517 true), (21, .own r_api_Edge vb4_10_6_120 true), (22, .own r_api_Timeout vb4_10_7_120 true), (26, .box (c_api_Edge x5071) 43), (28, .own (rI .i64) v6_127 true)], (v_api_Global 0 1 2 3 g_ [(6, .sl rS x2.Roles), (7, .sl r_api_Decl x2.Decls)]), 29⟩ htt 9 (by kernel_rfl) (WPr.nil (WP.sub [] (j128 false h) rfl rfl rfl rfl)))
        refine WPr.kb 79 hc rfl (WPr.silx (rg 6 6) ⟨[(1, .B 4 0), (2, .B 5 0), (4, .B 10 0), (5, .S 12), (6, .S 28), (8, .I x4516), (10, .I x5070), (11, .B 26 0), (49, .S 20), (50, .I (x4517.length : Int)), (51, .I v51_120), (79, .O true), (81, .S 3), (82, .I x4516)], [(4, .box (c_api_Global 0 1 2 3 g_) 27), (5, .box [.s (str []), .nil, .nil, .I (0 : Int), .I (0 : Int), .I (0 : Int), .nil, .nil] 27), (10, .box [.s x2.Name, .sl 6, .sl 7, .I vb4_10_3_66, .I x2.Start, .I x2.End, .sl 21, .sl 22] 27), (12, .own (rI .i64) v5_127 true), (20, .own (rI .i64) x4517 true), (21, .own r_api_Edge vb4_10_6_120 true), (22, .own r_api_Timeout vb4_10_7_120 true), (26, .box (c_api_Edge x5071) 43), (28, .own (rI .i64) v6_127 true)], (v_api_Global 0 1 2 3 g_ [(6, .sl rS x2.Roles), (7, .sl r_api_Decl x2.Decls)]), 29⟩ htt 3 (by kernel_rfl) (?_))
        obtain ⟨x5136, hx5136, h⟩ := ob h
        exact WPr.ix o_api_Timeout htt hx5136 rfl rfl rfl rfl rfl rfl rfl rfl rfl (WPr.silx [] ⟨[(1, .B 4 0), (2, .B 5 0), (4, .B 10 0), (5, .S 12), (6, .S 28), (8, .I x4516), (11, .B 26 0), (49, .S 20), (50, .I (x4517.length : Int)), (51, .I v51_120), (88, .O (x5136.Else == x5070))], [(4, .box (c_api_Global 0 1 2 3 g_) 27), (5, .box [.s (str []), .nil, .nil, .I (0 : Int), .I (0 : Int), .I (0 : Int), .nil, .nil] 27), (10, .box [.s x2.Name, .sl 6, .sl 7, .I vb4_10_3_66, .I x2.Start, .I x2.End, .sl 21, .sl 22] 27), (12, .own (rI .i64) v5_127 true), (20, .own (rI .i64) x4517 true), (21, .own r_api_Edge vb4_10_6_120 true), (22, .own r_api_Timeout vb4_10_7_120 true), (26, .box (c_api_Edge x5071) 43), (28, .own (rI .i64) v6_127 true)], (v_api_Global 0 1 2 3 g_ [(6, .sl rS x2.Roles), (7, .sl r_api_Decl x2.Decls)]), 30⟩ htt 5 (by kernel_rfl) (WPr.nil (WP.sub [] (j128 (x5136.Else == x5070) h) rfl rfl rfl rfl)))
      rcases oc' h with ⟨hc, h⟩ | ⟨hc, h⟩
      · exact WP.condF hc rfl (WP.skip (WP.sub [(28, .sl 23)] (j127 (v5_120, v6_120) h) rfl rfl rfl rfl))
      refine WP.condT hc rfl (WP.seq (WP.region (WPr.silx [5, 6] ⟨[(1, .B 4 0), (2, .B 5 0), (4, .B 10 0), (5, .S 12), (6, .S 23), (8, .I x4516), (10, .I x5070), (11, .B 26 0), (49, .S 20), (50, .I (x4517.length : Int)), (51, .I v51_120), (66, .S 12), (68, .I x5071.To), (70, .I (v6_120.length : Int))], [(4, .box (c_api_Global 0 1 2 3 g_) 27), (5, .box [.s (str []), .nil, .nil, .I (0 : Int), .I (0 : Int), .I (0 : Int), .nil, .nil] 27), (10, .box [.s x2.Name, .sl 6, .sl 7, .I vb4_10_3_66, .I x2.Start, .I x2.End, .sl 21, .sl 22] 27), (12, .own (rI .i64) v5_120 true), (20, .own (rI .i64) x4517 true), (21, .own r_api_Edge vb4_10_6_120 true), (22, .own r_api_Timeout vb4_10_7_120 true), (23, .own (rI .i64) v6_120 true), (26, .box (c_api_Edge x5071) 43)], (v_api_Global 0 1 2 3 g_ [(6, .sl rS x2.Roles), (7, .sl r_api_Decl x2.Decls)]), 28⟩ htt 5 (by kernel_rfl) (?_))))
      obtain ⟨x5137, hx5137, h⟩ := ob h
      refine WPr.ixo htt hx5137 rfl rfl rfl rfl rfl rfl rfl rfl rfl (WPr.sto (oI .i64) htt (v6_120.length : Int) hx5137 rfl rfl rfl rfl rfl rfl rfl rfl rfl rfl (by exact rfl) rfl (WPr.nil (WP.region (WPr.silx [3, 4, 5] ⟨[(1, .B 4 0), (2, .B 5 0), (4, .B 10 0), (5, .S 12), (8, .I x4516), (10, .I x5070), (11, .B 26 0), (49, .S 20), (50, .I (x4517.length : Int)), (51, .I v51_120), (72, .S 23), (74, .I x5071.To)], [(4, .box (c_api_Global 0 1 2 3 g_) 27), (5, .box [.s (str []), .nil, .nil, .I (0 : Int), .I (0 : Int), .I (0 : Int), .nil, .nil] 27), (10, .box [.s x2.Name, .sl 6, .sl 7, .I vb4_10_3_66, .I x2.Start, .I x2.End, .sl 21, .sl 22] 27), (12, .own (rI .i64) (setL' v5_120 x5071.To (v6_120.length : Int)) true), (20, .own (rI .i64) x4517 true), (21, .own r_api_Edge vb4_10_6_120 true), (22, .own r_api_Timeout vb4_10_7_120 true), (23, .own (rI .i64) v6_120 true), (26, .box (c_api_Edge x5071) 43)], (v_api_Global 0 1 2 3 g_ [(6, .sl rS x2.Roles), (7, .sl r_api_Decl x2.Decls)]), 29⟩ htt 3 (by kernel_rfl) (WPr.bs (cs := [.I x5071.To]) (oI .i64) htt ([x5071.To] : List Int) rfl rfl rfl rfl rfl rfl (by kernel_rfl) (by exact (an rfl rfl)) rfl (?_))))))
      obtain ⟨x5138, hx5138, h⟩ := ob h
      exact WPr.app htt hx5138 (by exact (srcO rfl)) rfl rfl rfl rfl rfl rfl rfl rfl rfl rfl (WPr.silx [] ⟨[(1, .B 4 0), (2, .B 5 0), (4, .B 10 0), (5, .S 12), (6, .S 30), (8, .I x4516), (10, .I x5070), (11, .B 26 0), (49, .S 20), (50, .I (x4517.length : Int)), (51, .I v51_120)], [(4, .box (c_api_Global 0 1 2 3 g_) 27), (5, .box [.s (str []), .nil, .nil, .I (0 : Int), .I (0 : Int), .I (0 : Int), .nil, .nil] 27), (10, .box [.s x2.Name, .sl 6, .sl 7, .I vb4_10_3_66, .I x2.Start, .I x2.End, .sl 21, .sl 22] 27), (12, .own (rI .i64) (setL' v5_120 x5071.To (v6_120.length : Int)) true), (20, .own (rI .i64) x4517 true), (21, .own r_api_Edge vb4_10_6_120 true), (22, .own r_api_Timeout vb4_10_7_120 true), (26, .box (c_api_Edge x5071) 43), (30, .own (rI .i64) x5138 true)], (v_api_Global 0 1 2 3 g_ [(6, .sl rS x2.Roles), (7, .sl r_api_Decl x2.Decls)]), 31⟩ htt 1 (by kernel_rfl) (WPr.nil (WP.sub [(28, .sl 30)] (j127 ((setL' v5_120 x5071.To (v6_120.length : Int)), x5138) h) rfl rfl rfl rfl)))
    exact WP.sub [(21, .sl 15), (22, .sl 16), (23, .sl 17)] (ih N (vb4_10_6_66, vb4_10_7_66, v5_66, v6_66, (0 : Int)) h) rfl rfl rfl rfl
  exact WP.sub [(15, .sl 8), (16, .sl 9), (17, .sl 14)] (ih N (x2.States, x2.Edges, x2.Timeouts, (setL' x3 g_.Start (0 : Int)), ([g_.Start] : List Int)) h) rfl rfl rfl rfl
theorem wire_Int_ct (N : Nat) (b_ : (List Int)) (n_ : Int) (r : (List Int)) (h : wire_Int N b_ n_ = some r) :
  Fn Tryz.prog 82 ⟨1, [.S 0, .I n_], [], [(0, .own (rI .u8) b_ false)], 2, .S 1, [], [(1, .own (rI .u8) r false), (0, .gone)]⟩ := by
  refine Fn.intro _ _ Tryz.func82 rfl (by kernel_rfl) rfl (fun E F w => ?_)
  unfold wire_Int at h
  refine WP.seq (WP.region (WPr.sil htt 1 rfl (WPr.nil (WP.seq (WP.region (WPr.silx (rg 2 6) ⟨[(0, .S 0), (1, .I n_), (4, .c .nil), (7, .c (.i .u64 (wk .u64 (n_))))], [(0, .own (rI .u8) b_ false)], [], 1⟩ htt 2 (by kernel_rfl) (?_)))))))
  obtain ⟨x1, hx1, h⟩ := ob h
  refine WPr.bin hx1 rfl rfl rfl rfl rfl rfl rfl rfl (WPr.sil htt 1 rfl (?_))
  obtain ⟨x2, hx2, h⟩ := ob h
  refine WPr.bin hx2 rfl rfl rfl rfl rfl rfl rfl rfl (WPr.silx [6, 7] ⟨[(0, .S 0), (4, .c .nil), (8, .c (.i .u64 x1)), (11, .c (.i .u64 (wk .u64 (x2))))], [(0, .own (rI .u8) b_ false)], [], 1⟩ htt 1 (by kernel_rfl) (?_))
  obtain ⟨x3, hx3, h⟩ := ob h
  refine WPr.bin hx3 rfl rfl rfl rfl rfl rfl rfl rfl (WPr.sil htt 1 rfl (WPr.nil (WP.seq (?_))))
  refine WP.cut (σ := (List Int) × Int) (fun st => ⟨[(0, .S 1), (5, .c (.i .u64 st.2))], [(1, .own (rI .u8) st.1 false)], [], 2⟩) (fun st => wire_Int_k1 st.1 st.2 = some r) ?_ (fun j1 => ?_)
  · rintro ⟨v0_1, v5_1⟩ h
    replace h : wire_Int_k1 v0_1 v5_1 = some r := h
    unfold wire_Int_k1 at h
    refine WP.seq (WP.region (WPr.silx [3, 4, 5] ⟨[(23, .S 1), (25, .c (.i .u8 (wk .u8 (v5_1))))], [(1, .own (rI .u8) v0_1 false)], [], 2⟩ htt 3 (by kernel_rfl) (WPr.bs (cs := [.i .u8 (wk .u8 (v5_1))]) (oI .u8) htt ([(wk .u8 (v5_1))] : List Int) rfl rfl rfl rfl rfl rfl (by kernel_rfl) (by exact (an rfl rfl)) rfl (?_))))
    obtain ⟨x16, hx16, h⟩ := ob h
    refine WPr.app htt hx16 (by exact (srcO rfl)) rfl rfl rfl rfl rfl rfl rfl rfl rfl rfl (WPr.silx [] ⟨[(4, .S 3)], [(3, .own (rI .u8) x16 false)], [], 4⟩ htt 1 (by kernel_rfl) (WPr.nil (?_)))
    cases h
    exact WP.ret htt Tryz.func82 [(1, .sl 3)] rfl rfl rfl rfl
  refine WP.block (?_)
  refine WP.loopI (σ := (List Int) × Int) (fun st => ⟨[(0, .S 1), (5, .c (.i .u64 st.2))], [(1, .own (rI .u8) st.1 false)], [], 2⟩) (fun n st => wire_Int_l2 n st.1 st.2) (r := r) (fun _ => rfl) ?_ (fun ih => ?_)
  · intro n2 ih3
    rintro ⟨v0_3, v5_3⟩ h
    replace h : wire_Int_l2 (n2 + 1) v0_3 v5_3 = some r := h
    unfold wire_Int_l2 at h
    refine WP.seq (WP.seq (WP.region (WPr.sil htt 2 rfl (WPr.nil (?_)))))
    rcases oc' h with ⟨hc, h⟩ | ⟨hc, h⟩
    · exact WP.condF hc rfl (WP.exit rfl (WP.sub [] (j1 (v0_3, v5_3) h) rfl rfl rfl rfl))
    refine WP.condT hc rfl (WP.skip (WP.block (WP.seq (WP.region (WPr.silx [3, 4, 5, 6] ⟨[(5, .c (.i .u64 v5_3)), (15, .S 1), (17, .c (.i .u8 (wk .u8 (v5_3))))], [(1, .own (rI .u8) v0_3 false)], [], 2⟩ htt 3 (by kernel_rfl) (?_))))))
    obtain ⟨x29, hx29, h⟩ := ob h
    refine WPr.bin hx29 rfl rfl rfl rfl rfl rfl rfl rfl (WPr.bs (cs := [.i .u8 x29]) (oI .u8) htt ([x29] : List Int) rfl rfl rfl rfl rfl rfl (by kernel_rfl) (by exact (an rfl rfl)) rfl (?_))
    obtain ⟨x30, hx30, h⟩ := ob h
    refine WPr.app htt hx30 (by exact (srcO rfl)) rfl rfl rfl rfl rfl rfl rfl rfl rfl rfl (WPr.silx [] ⟨[(0, .S 3), (5, .c (.i .u64 v5_3))], [(3, .own (rI .u8) x30 false)], [], 4⟩ htt 1 (by kernel_rfl) (WPr.nil (WP.region (WPr.sil htt 1 rfl (?_)))))
    obtain ⟨x31, hx31, h⟩ := ob h
    exact WPr.bin hx31 rfl rfl rfl rfl rfl rfl rfl rfl (WPr.silx [] ⟨[(0, .S 3), (5, .c (.i .u64 x31))], [(3, .own (rI .u8) x30 false)], [], 4⟩ htt 1 (by kernel_rfl) (WPr.nil (WP.inBlock (WP.sub [(1, .sl 3)] (ih3 (x30, x31) h) rfl rfl rfl rfl))))
  exact WP.sub [(1, .sl 0)] (ih N (b_, x3) h) rfl rfl rfl rfl
theorem wire_Text_ct (N : Nat) (b_ : (List Int)) (s_ : ByteArray) (r : (List Int)) (h : wire_Text N b_ s_ = some r) :
  Fn Tryz.prog 83 ⟨1, [.S 0, .c (.s s_)], [], [(0, .own (rI .u8) b_ false)], 2, .S 1, [], [(1, .own (rI .u8) r false), (0, .gone)]⟩ := by
  refine Fn.intro _ _ Tryz.func83 rfl (by kernel_rfl) rfl (fun E F w => ?_)
  unfold wire_Text at h
  refine WP.seq (WP.region (WPr.sil htt 1 rfl (WPr.nil (WP.seq (WP.region (WPr.silx [3, 4, 5, 6] ⟨[(1, .c (.s s_)), (5, .S 0), (7, .I (s_.size : Int))], [(0, .own (rI .u8) b_ false)], [], 1⟩ htt 3 (by kernel_rfl) (?_)))))))
  obtain ⟨x1, hx1, h⟩ := ob h
  refine WPr.call (wire_Int_ct N b_ (s_.size : Int) _ hx1) [(0, .sl 0)] [] rfl rfl rfl rfl rfl rfl rfl rfl (.inl rfl) rfl (WPr.silx [5, 6] ⟨[(8, .S 1), (9, .c (.s s_))], [(1, .own (rI .u8) x1 false)], [], 2⟩ htt 1 (by kernel_rfl) (?_))
  obtain ⟨x2, hx2, h⟩ := ob h
  refine WPr.app htt hx2 (by exact srcS) rfl rfl rfl rfl rfl rfl rfl rfl rfl rfl (WPr.silx [] ⟨[(4, .S 2)], [(2, .own (rI .u8) x2 false)], [], 3⟩ htt 1 (by kernel_rfl) (WPr.nil (?_)))
  cases h
  exact WP.ret htt Tryz.func83 [(1, .sl 2)] rfl rfl rfl rfl
theorem global_ints_ct (N : Nat) (b_ : (List Int)) (l_ : (List Int)) (r : (List Int)) (h : global_ints N b_ l_ = some r) :
  Fn Tryz.prog 85 ⟨2, [.S 0, .S 1], [(1, .sl (rI .i64) l_)], [(0, .own (rI .u8) b_ false)], 3, .S 2, [], [(2, .own (rI .u8) r false), (0, .gone)]⟩ := by
  refine Fn.intro _ _ Tryz.func85 rfl (by kernel_rfl) rfl (fun E F w => ?_)
  unfold global_ints at h
  refine WP.seq (WP.region (WPr.sil htt 1 rfl (WPr.nil (WP.seq (WP.seq (WP.region (WPr.silx [] ⟨[(0, .S 0), (4, .c .nil), (7, .S 1), (8, .I (l_.length : Int)), (9, .I (0 : Int))], [(0, .own (rI .u8) b_ false)], [(1, .sl (rI .i64) l_)], 2⟩ htt 3 (by kernel_rfl) (WPr.nil (?_)))))))))
  refine WP.cut (σ := (List Int)) (fun st => ⟨[(0, .S 2)], [(2, .own (rI .u8) st false)], [(1, .sl (rI .i64) l_)], 3⟩) (fun st => global_ints_k1 st = some r) ?_ (fun j1 => ?_)
  · intro v0_1 h
    replace h : global_ints_k1 v0_1 = some r := h
    unfold global_ints_k1 at h
    refine WP.seq (WP.region (WPr.sil htt 2 rfl (WPr.nil (?_))))
    cases h
    exact WP.ret htt Tryz.func85 [(2, .sl 2)] rfl rfl rfl rfl
  refine WP.block (?_)
  refine WP.loopI (σ := (List Int) × Int) (fun st => ⟨[(0, .S 2), (7, .S 1), (8, .I (l_.length : Int)), (9, .I st.2)], [(2, .own (rI .u8) st.1 false)], [(1, .sl (rI .i64) l_)], 3⟩) (fun n st => global_ints_l2 N l_ n st.1 st.2) (r := r) (fun _ => rfl) ?_ (fun ih => ?_)
  · intro n2 ih3
    rintro ⟨v0_3, v9_3⟩ h
    replace h : global_ints_l2 N l_ (n2 + 1) v0_3 v9_3 = some r := h
    unfold global_ints_l2 at h
    refine WP.seq (WP.region (WPr.sil htt 1 rfl (WPr.nil (WP.seq (?_)))))
    rcases oc' h with ⟨hc, h⟩ | ⟨hc, h⟩
    · exact WP.condF hc rfl (WP.exit rfl (WP.sub [] (j1 v0_3 h) rfl rfl rfl rfl))
    refine WP.condT hc rfl (WP.skip (WP.seq (WP.block (WP.seq (WP.region (?_))))))
    obtain ⟨x17, hx17, h⟩ := ob h
    refine WPr.ix (oI .i64) htt hx17 rfl rfl rfl rfl rfl rfl rfl rfl rfl (WPr.silx [] ⟨[(0, .S 2), (6, .I x17), (7, .S 1), (8, .I (l_.length : Int)), (9, .I v9_3)], [(2, .own (rI .u8) v0_3 false)], [(1, .sl (rI .i64) l_)], 4⟩ htt 2 (by kernel_rfl) (WPr.nil (WP.region (WPr.sil htt 2 rfl (?_)))))
    obtain ⟨x18, hx18, h⟩ := ob h
    exact WPr.call (wire_Int_ct N v0_3 x17 _ hx18) [(0, .sl 2)] [] rfl rfl rfl rfl rfl rfl rfl rfl (.inl rfl) rfl (WPr.silx [] ⟨[(0, .S 4), (7, .S 1), (8, .I (l_.length : Int)), (9, .I v9_3)], [(4, .own (rI .u8) x18 false)], [(1, .sl (rI .i64) l_)], 5⟩ htt 1 (by kernel_rfl) (WPr.nil (WP.inBlock (WP.region (WPr.sil htt 2 rfl (WPr.nil (WP.sub [(2, .sl 4)] (ih3 (x18, (w64 (v9_3 + (1 : Int)))) h) rfl rfl rfl rfl)))))))
  exact WP.sub [(2, .sl 0)] (ih N (b_, (0 : Int)) h) rfl rfl rfl rfl
theorem global_decl_ct (N : Nat) (b_ : (List Int)) (d_ : T_api_Decl) (r : (List Int)) (h : global_decl N b_ d_ = some r) :
  Fn Tryz.prog 84 ⟨4, [.S 0, .a (c_api_Decl 1 2 3 d_)], (v_api_Decl 1 2 3 d_ []), [(0, .own (rI .u8) b_ false)], 5, .S 4, [], [(4, .own (rI .u8) r false), (0, .gone)]⟩ := by
  refine Fn.intro _ _ Tryz.func84 rfl (by kernel_rfl) rfl (fun E F w => ?_)
  unfold global_decl at h
  refine WP.seq (WP.region (WPr.sil htt 2 rfl (WPr.nil (WP.seq (WP.nm (fun A1 tA1 fA1 => ?_))))))
  have st1 : A1 0 ⟨[(0, .S 0)], [], [], [], 5, [(11, .S 0)], [], [], 5⟩ := tA1 _ _ (LS.sil htt rfl rfl rfl rfl rfl rfl)
  have st2 : A1 1 ⟨[(3, .B 4 0)], [], [], [], 5, [(12, .B 4 0)], [], [], 5⟩ := tA1 _ _ (LS.sil htt rfl rfl rfl rfl rfl rfl)
  have st3 : A1 2 ⟨[(12, .B 4 0)], (v_api_Decl 1 2 3 d_ []), [], [(4, .box (c_api_Decl 1 2 3 d_) 94)], 5, [(13, .c (.s d_.Name))], [], [], 5⟩ := tA1 _ _ (LS.sil htt rfl rfl rfl rfl rfl rfl)
  obtain ⟨x4, hx4, h⟩ := ob h
  have st5 : A1 3 ⟨[(11, .S 0), (13, .c (.s d_.Name))], [], [(0, .own (rI .u8) b_ false)], [], 5, [(14, .S 5)], [], [(0, .gone), (5, .own (rI .u8) x4 false)], 6⟩ := tA1 _ _ (LS.of rfl rfl rfl (fun _ _ _ _ _ _ _ k => WPr.call (wire_Text_ct N b_ d_.Name _ hx4) [(0, .sl 0)] [] rfl rfl rfl rfl rfl rfl rfl rfl (.inl rfl) rfl (k)) rfl)
  have st6 : A1 4 ⟨[(3, .B 4 0)], [], [], [], 6, [(15, .B 4 1)], [], [], 6⟩ := tA1 _ _ (LS.sil htt rfl rfl rfl rfl rfl rfl)
  have st7 : A1 5 ⟨[(15, .B 4 1)], (v_api_Decl 1 2 3 d_ []), [], [(4, .box (c_api_Decl 1 2 3 d_) 94)], 6, [(16, .S 1)], [], [], 6⟩ := tA1 _ _ (LS.sil htt rfl rfl rfl rfl rfl rfl)
  have st8 : A1 6 ⟨[(16, .S 1)], [(1, .sl r_api_Field d_.Fields)], [], [], 6, [(17, .I (d_.Fields.length : Int))], [], [], 6⟩ := tA1 _ _ (LS.sil htt rfl rfl rfl rfl rfl rfl)
  obtain ⟨x9, hx9, h⟩ := ob h
  have st10 : A1 7 ⟨[(14, .S 5), (17, .I (d_.Fields.length : Int))], [], [(5, .own (rI .u8) x4 false)], [], 6, [(18, .S 6)], [], [(5, .gone), (6, .own (rI .u8) x9 false)], 7⟩ := tA1 _ _ (LS.of rfl rfl rfl (fun _ _ _ _ _ _ _ k => WPr.call (wire_Int_ct N x4 (d_.Fields.length : Int) _ hx9) [(0, .sl 5)] [] rfl rfl rfl rfl rfl rfl rfl rfl (.inl rfl) rfl (k)) rfl)
  have st11 : A1 8 ⟨[(18, .S 6)], [], [], [], 7, [(0, .S 6)], [], [], 7⟩ := tA1 _ _ (LS.sil htt rfl rfl rfl rfl rfl rfl)
  refine WP.regionD (t := ⟨[(0, .S 6), (3, .B 4 0), (4, .c .nil)], [(4, .box (c_api_Decl 1 2 3 d_) 94), (6, .own (rI .u8) x9 false)], (v_api_Decl 1 2 3 d_ []), 7⟩) [0, 0, 2, 7, 0, 16, 48, 127, 255] (.cons (fA1 _ _ st1) (.cons (fA1 _ _ st2) (.cons (fA1 _ _ st3) (.cons (fA1 _ _ st5) (.cons (fA1 _ _ st6) (.cons (fA1 _ _ st7) (.cons (fA1 _ _ st8) (.cons (fA1 _ _ st10) (.cons (fA1 _ _ st11) .nil))))))))) (by kernel_rfl) (by kernel_rfl) (by kernel_rfl) (by kernel_rfl) (WP.seq (WP.seq (WP.region (WPr.silx [] ⟨[(0, .S 6), (3, .B 4 0), (4, .c .nil), (20, .S 1), (21, .I (d_.Fields.length : Int)), (22, .I (0 : Int))], [(4, .box (c_api_Decl 1 2 3 d_) 94), (6, .own (rI .u8) x9 false)], (v_api_Decl 1 2 3 d_ []), 7⟩ htt 4 (by kernel_rfl) (WPr.nil (?_))))))
  refine WP.cut (σ := (List Int)) (fun st => ⟨[(0, .S 7), (3, .B 4 0)], [(4, .box (c_api_Decl 1 2 3 d_) 94), (7, .own (rI .u8) st false)], (v_api_Decl 1 2 3 d_ []), 8⟩) (fun st => global_decl_k5 N d_ st = some r) ?_ (fun j1 => ?_)
  · intro v0_1 h
    replace h : global_decl_k5 N d_ v0_1 = some r := h
    unfold global_decl_k5 at h
    refine WP.seq (WP.region (WPr.silx [7, 8, 9] ⟨[(3, .B 4 0), (42, .S 7), (44, .I d_.First), (48, .I (d_.Guard.Diffs.length : Int))], [(4, .box (c_api_Decl 1 2 3 d_) 94), (7, .own (rI .u8) v0_1 false)], (v_api_Decl 1 2 3 d_ []), 8⟩ htt 7 (by kernel_rfl) (WPr.bs (cs := [.I d_.First, .I (d_.Guard.Diffs.length : Int)]) (oI .i64) htt ([d_.First, (d_.Guard.Diffs.length : Int)] : List Int) rfl rfl rfl rfl rfl rfl (by kernel_rfl) (by exact (an rfl (an rfl rfl))) rfl (?_))))
    obtain ⟨x88, hx88, h⟩ := ob h
    refine WPr.call (global_ints_ct N v0_1 ([d_.First, (d_.Guard.Diffs.length : Int)] : List Int) _ hx88) [(0, .sl 7), (1, .sl 8)] [8] rfl rfl rfl rfl rfl rfl rfl rfl (.inr ⟨rfl, ⟨(rI_flat _), trivial⟩⟩) rfl (WPr.silx [] ⟨[(0, .S 9), (3, .B 4 0)], [(4, .box (c_api_Decl 1 2 3 d_) 94), (9, .own (rI .u8) x88 false)], (v_api_Decl 1 2 3 d_ []), 10⟩ htt 1 (by kernel_rfl) (WPr.nil (WP.seq (WP.seq (WP.region (WPr.silx [] ⟨[(0, .S 9), (3, .B 4 0), (53, .S 2), (54, .I (d_.Guard.Diffs.length : Int)), (55, .I (0 : Int))], [(4, .box (c_api_Decl 1 2 3 d_) 94), (9, .own (rI .u8) x88 false)], (v_api_Decl 1 2 3 d_ []), 10⟩ htt 5 (by kernel_rfl) (WPr.nil (?_))))))))
    refine WP.cut (σ := (List Int)) (fun st => ⟨[(0, .S 10), (3, .B 4 0)], [(4, .box (c_api_Decl 1 2 3 d_) 94), (10, .own (rI .u8) st false)], (v_api_Decl 1 2 3 d_ []), 11⟩) (fun st => global_decl_k3 N d_ st = some r) ?_ (fun j3 => ?_)
    · intro v0_3 h
      replace h : global_decl_k3 N d_ v0_3 = some r := h
      unfold global_decl_k3 at h
      refine WP.seq (WP.region (WPr.silx [5, 6] ⟨[(3, .B 4 0), (69, .S 10), (73, .I (d_.Guard.Equals.length : Int))], [(4, .box (c_api_Decl 1 2 3 d_) 94), (10, .own (rI .u8) v0_3 false)], (v_api_Decl 1 2 3 d_ []), 11⟩ htt 5 (by kernel_rfl) (?_)))
      obtain ⟨x97, hx97, h⟩ := ob h
      refine WPr.call (wire_Int_ct N v0_3 (d_.Guard.Equals.length : Int) _ hx97) [(0, .sl 10)] [] rfl rfl rfl rfl rfl rfl rfl rfl (.inl rfl) rfl (WPr.silx [] ⟨[(0, .S 11), (3, .B 4 0)], [(4, .box (c_api_Decl 1 2 3 d_) 94), (11, .own (rI .u8) x97 false)], (v_api_Decl 1 2 3 d_ []), 12⟩ htt 1 (by kernel_rfl) (WPr.nil (WP.seq (WP.seq (WP.region (WPr.silx [] ⟨[(0, .S 11), (77, .S 3), (78, .I (d_.Guard.Equals.length : Int)), (79, .I (0 : Int))], [(11, .own (rI .u8) x97 false)], (v_api_Decl 1 2 3 d_ []), 12⟩ htt 5 (by kernel_rfl) (WPr.nil (?_))))))))
      refine WP.cut (σ := (List Int)) (fun st => ⟨[(0, .S 12)], [(12, .own (rI .u8) st false)], (v_api_Decl 1 2 3 d_ []), 13⟩) (fun st => global_decl_k1 st = some r) ?_ (fun j5 => ?_)
      · intro v0_5 h
        replace h : global_decl_k1 v0_5 = some r := h
        unfold global_decl_k1 at h
        refine WP.seq (WP.region (WPr.sil htt 2 rfl (WPr.nil (?_))))
        cases h
        exact WP.ret htt Tryz.func84 [(4, .sl 12)] rfl rfl rfl rfl
      refine WP.block (?_)
      refine WP.loopI (σ := (List Int) × Int) (fun st => ⟨[(0, .S 12), (77, .S 3), (78, .I (d_.Guard.Equals.length : Int)), (79, .I st.2)], [(12, .own (rI .u8) st.1 false)], (v_api_Decl 1 2 3 d_ []), 13⟩) (fun n st => global_decl_l2 N d_ n st.1 st.2) (r := r) (fun _ => rfl) ?_ (fun ih => ?_)
      · intro n4 ih7
        rintro ⟨v0_7, v79_7⟩ h
        replace h : global_decl_l2 N d_ (n4 + 1) v0_7 v79_7 = some r := h
        unfold global_decl_l2 at h
        refine WP.seq (WP.region (WPr.sil htt 1 rfl (WPr.nil (WP.seq (?_)))))
        rcases oc' h with ⟨hc, h⟩ | ⟨hc, h⟩
        · exact WP.condF hc rfl (WP.exit rfl (WP.sub [] (j5 v0_7 h) rfl rfl rfl rfl))
        refine WP.condT hc rfl (WP.skip (WP.seq (WP.block (WP.seq (WP.region (?_))))))
        obtain ⟨x114, hx114, h⟩ := ob h
        refine WPr.ix (oP (oI .i64) (oI .i64)) htt hx114 rfl rfl rfl rfl rfl rfl rfl rfl rfl (WPr.silx [] ⟨[(0, .S 12), (10, .B 14 0), (77, .S 3), (78, .I (d_.Guard.Equals.length : Int)), (79, .I v79_7)], [(12, .own (rI .u8) v0_7 false), (14, .box [.I x114.1, .I x114.2] 146)], (v_api_Decl 1 2 3 d_ []), 15⟩ htt 3 (by kernel_rfl) (WPr.nil (WP.region (WPr.sil htt 1 rfl (WPr.slb (len := 2) (el := 3) (oI .i64) ([x114.1, x114.2] : List Int) (by exact (an rfl (an rfl rfl))) rfl rfl rfl rfl (by kernel_rfl) (by kernel_rfl) rfl rfl rfl (?_))))))
        obtain ⟨x115, hx115, h⟩ := ob h
        exact WPr.call (global_ints_ct N v0_7 ([x114.1, x114.2] : List Int) _ hx115) [(0, .sl 12), (1, .sl 15)] [15] rfl rfl rfl rfl rfl rfl rfl rfl (.inr ⟨rfl, ⟨(rI_flat _), trivial⟩⟩) rfl (WPr.silx [] ⟨[(0, .S 16), (77, .S 3), (78, .I (d_.Guard.Equals.length : Int)), (79, .I v79_7)], [(16, .own (rI .u8) x115 false)], (v_api_Decl 1 2 3 d_ []), 17⟩ htt 1 (by kernel_rfl) (WPr.nil (WP.inBlock (WP.region (WPr.sil htt 2 rfl (WPr.nil (WP.sub [(12, .sl 16)] (ih7 (x115, (w64 (v79_7 + (1 : Int)))) h) rfl rfl rfl rfl)))))))
      exact WP.sub [(12, .sl 11)] (ih N (x97, (0 : Int)) h) rfl rfl rfl rfl
    refine WP.block (?_)
    refine WP.loopI (σ := (List Int) × Int) (fun st => ⟨[(0, .S 10), (3, .B 4 0), (53, .S 2), (54, .I (d_.Guard.Diffs.length : Int)), (55, .I st.2)], [(4, .box (c_api_Decl 1 2 3 d_) 94), (10, .own (rI .u8) st.1 false)], (v_api_Decl 1 2 3 d_ []), 11⟩) (fun n st => global_decl_l4 N d_ n st.1 st.2) (r := r) (fun _ => rfl) ?_ (fun ih => ?_)
    · intro n5 ih8
      rintro ⟨v0_8, v55_8⟩ h
      replace h : global_decl_l4 N d_ (n5 + 1) v0_8 v55_8 = some r := h
      unfold global_decl_l4 at h
      refine WP.seq (WP.region (WPr.sil htt 1 rfl (WPr.nil (WP.seq (?_)))))
      rcases oc' h with ⟨hc, h⟩ | ⟨hc, h⟩
      · exact WP.condF hc rfl (WP.exit rfl (WP.sub [] (j3 v0_8 h) rfl rfl rfl rfl))
      refine WP.condT hc rfl (WP.skip (WP.seq (WP.block (WP.seq (WP.region (?_))))))
      obtain ⟨x124, hx124, h⟩ := ob h
      refine WPr.ix o_api_Diff htt hx124 rfl rfl rfl rfl rfl rfl rfl rfl rfl (WPr.silx [] ⟨[(0, .S 10), (3, .B 4 0), (8, .B 12 0), (53, .S 2), (54, .I (d_.Guard.Diffs.length : Int)), (55, .I v55_8)], [(4, .box (c_api_Decl 1 2 3 d_) 94), (10, .own (rI .u8) v0_8 false), (12, .box (c_api_Diff x124) 144)], (v_api_Decl 1 2 3 d_ []), 13⟩ htt 3 (by kernel_rfl) (WPr.nil (WP.region (WPr.silx [7, 8, 9] ⟨[(3, .B 4 0), (53, .S 2), (54, .I (d_.Guard.Diffs.length : Int)), (55, .I v55_8), (59, .S 10), (61, .I x124.X), (63, .I x124.Y), (65, .I x124.C)], [(4, .box (c_api_Decl 1 2 3 d_) 94), (10, .own (rI .u8) v0_8 false)], (v_api_Decl 1 2 3 d_ []), 13⟩ htt 7 (by kernel_rfl) (WPr.bs (cs := (c_api_Diff x124)) (oI .i64) htt ([x124.X, x124.Y, x124.C] : List Int) rfl rfl rfl rfl rfl rfl (by kernel_rfl) (by exact (an rfl (an rfl (an rfl rfl)))) rfl (?_))))))
      obtain ⟨x125, hx125, h⟩ := ob h
      exact WPr.call (global_ints_ct N v0_8 ([x124.X, x124.Y, x124.C] : List Int) _ hx125) [(0, .sl 10), (1, .sl 13)] [13] rfl rfl rfl rfl rfl rfl rfl rfl (.inr ⟨rfl, ⟨(rI_flat _), trivial⟩⟩) rfl (WPr.silx [] ⟨[(0, .S 14), (3, .B 4 0), (53, .S 2), (54, .I (d_.Guard.Diffs.length : Int)), (55, .I v55_8)], [(4, .box (c_api_Decl 1 2 3 d_) 94), (14, .own (rI .u8) x125 false)], (v_api_Decl 1 2 3 d_ []), 15⟩ htt 1 (by kernel_rfl) (WPr.nil (WP.inBlock (WP.region (WPr.sil htt 2 rfl (WPr.nil (WP.sub [(10, .sl 14)] (ih8 (x125, (w64 (v55_8 + (1 : Int)))) h) rfl rfl rfl rfl)))))))
    exact WP.sub [(10, .sl 9)] (ih N (x88, (0 : Int)) h) rfl rfl rfl rfl
  refine WP.block (?_)
  refine WP.loopI (σ := (List Int) × Int) (fun st => ⟨[(0, .S 7), (3, .B 4 0), (20, .S 1), (21, .I (d_.Fields.length : Int)), (22, .I st.2)], [(4, .box (c_api_Decl 1 2 3 d_) 94), (7, .own (rI .u8) st.1 false)], (v_api_Decl 1 2 3 d_ []), 8⟩) (fun n st => global_decl_l6 N d_ n st.1 st.2) (r := r) (fun _ => rfl) ?_ (fun ih => ?_)
  · intro n6 ih9
    rintro ⟨v0_9, v22_9⟩ h
    replace h : global_decl_l6 N d_ (n6 + 1) v0_9 v22_9 = some r := h
    unfold global_decl_l6 at h
    refine WP.seq (WP.region (WPr.sil htt 1 rfl (WPr.nil (WP.seq (?_)))))
    rcases oc' h with ⟨hc, h⟩ | ⟨hc, h⟩
    · exact WP.condF hc rfl (WP.exit rfl (WP.sub [] (j1 v0_9 h) rfl rfl rfl rfl))
    refine WP.condT hc rfl (WP.skip (WP.seq (WP.block (WP.seq (WP.region (?_))))))
    obtain ⟨x202, hx202, h⟩ := ob h
    refine WPr.ix o_api_Field htt hx202 rfl rfl rfl rfl rfl rfl rfl rfl rfl (WPr.silx [] ⟨[(0, .S 7), (3, .B 4 0), (6, .B 9 0), (20, .S 1), (21, .I (d_.Fields.length : Int)), (22, .I v22_9)], [(4, .box (c_api_Decl 1 2 3 d_) 94), (7, .own (rI .u8) v0_9 false), (9, .box (c_api_Field x202) 141)], (v_api_Decl 1 2 3 d_ []), 10⟩ htt 3 (by kernel_rfl) (WPr.nil (WP.nm (fun A10 tA10 fA10 => ?_))))
    have st203 : A10 0 ⟨[(0, .S 7)], [], [], [], 10, [(26, .S 7)], [], [], 10⟩ := tA10 _ _ (LS.sil htt rfl rfl rfl rfl rfl rfl)
    have st204 : A10 1 ⟨[(6, .B 9 0)], [], [], [], 10, [(27, .B 9 0)], [], [], 10⟩ := tA10 _ _ (LS.sil htt rfl rfl rfl rfl rfl rfl)
    have st205 : A10 2 ⟨[(27, .B 9 0)], [], [], [(9, .box (c_api_Field x202) 141)], 10, [(28, .c (.s x202.Name))], [], [], 10⟩ := tA10 _ _ (LS.sil htt rfl rfl rfl rfl rfl rfl)
    obtain ⟨x206, hx206, h⟩ := ob h
    have st207 : A10 3 ⟨[(26, .S 7), (28, .c (.s x202.Name))], [], [(7, .own (rI .u8) v0_9 false)], [], 10, [(29, .S 10)], [], [(7, .gone), (10, .own (rI .u8) x206 false)], 11⟩ := tA10 _ _ (LS.of rfl rfl rfl (fun _ _ _ _ _ _ _ k => WPr.call (wire_Text_ct N v0_9 x202.Name _ hx206) [(0, .sl 7)] [] rfl rfl rfl rfl rfl rfl rfl rfl (.inl rfl) rfl (k)) rfl)
    have st208 : A10 4 ⟨[(6, .B 9 0)], [], [], [], 11, [(30, .B 9 1)], [], [], 11⟩ := tA10 _ _ (LS.sil htt rfl rfl rfl rfl rfl rfl)
    have st209 : A10 5 ⟨[(30, .B 9 1)], [], [], [], 11, [(31, .B 9 1)], [], [], 11⟩ := tA10 _ _ (LS.sil htt rfl rfl rfl rfl rfl rfl)
    have st210 : A10 6 ⟨[(31, .B 9 1)], [], [], [(9, .box (c_api_Field x202) 141)], 11, [(32, .I x202.Sort'.Kind)], [], [], 11⟩ := tA10 _ _ (LS.sil htt rfl rfl rfl rfl rfl rfl)
    have st211 : A10 7 ⟨[(6, .B 9 0)], [], [], [], 11, [(33, .B 9 1)], [], [], 11⟩ := tA10 _ _ (LS.sil htt rfl rfl rfl rfl rfl rfl)
    have st212 : A10 8 ⟨[(33, .B 9 1)], [], [], [], 11, [(34, .B 9 2)], [], [], 11⟩ := tA10 _ _ (LS.sil htt rfl rfl rfl rfl rfl rfl)
    have st213 : A10 9 ⟨[(34, .B 9 2)], [], [], [(9, .box (c_api_Field x202) 141)], 11, [(35, .I x202.Sort'.Lo)], [], [], 11⟩ := tA10 _ _ (LS.sil htt rfl rfl rfl rfl rfl rfl)
    have st214 : A10 10 ⟨[(6, .B 9 0)], [], [], [], 11, [(36, .B 9 1)], [], [], 11⟩ := tA10 _ _ (LS.sil htt rfl rfl rfl rfl rfl rfl)
    have st215 : A10 11 ⟨[(36, .B 9 1)], [], [], [], 11, [(37, .B 9 3)], [], [], 11⟩ := tA10 _ _ (LS.sil htt rfl rfl rfl rfl rfl rfl)
    have st216 : A10 12 ⟨[(37, .B 9 3)], [], [], [(9, .box (c_api_Field x202) 141)], 11, [(38, .I x202.Sort'.Hi)], [], [], 11⟩ := tA10 _ _ (LS.sil htt rfl rfl rfl rfl rfl rfl)
    have st217 : A10 13 ⟨[(32, .I x202.Sort'.Kind), (35, .I x202.Sort'.Lo), (38, .I x202.Sort'.Hi)], [], [], [], 11, [(39, .S 11)], [], [(11, .own (rI .i64) ([x202.Sort'.Kind, x202.Sort'.Lo, x202.Sort'.Hi] : List Int) true)], 12⟩ := tA10 _ _ (LS.of rfl rfl rfl (fun _ _ _ _ _ _ _ k => WPr.bs (cs := (c_api_Sort x202.Sort')) (oI .i64) htt ([x202.Sort'.Kind, x202.Sort'.Lo, x202.Sort'.Hi] : List Int) rfl rfl rfl rfl rfl rfl (by kernel_rfl) (by exact (an rfl (an rfl (an rfl rfl)))) rfl (k)) rfl)
    obtain ⟨x218, hx218, h⟩ := ob h
    have st219 : A10 14 ⟨[(29, .S 10), (39, .S 11)], [], [(10, .own (rI .u8) x206 false)], [(11, .own (rI .i64) ([x202.Sort'.Kind, x202.Sort'.Lo, x202.Sort'.Hi] : List Int) true)], 12, [(40, .S 12)], [], [(10, .gone), (12, .own (rI .u8) x218 false)], 13⟩ := tA10 _ _ (LS.of rfl rfl rfl (fun _ _ _ _ _ _ _ k => WPr.call (global_ints_ct N x206 ([x202.Sort'.Kind, x202.Sort'.Lo, x202.Sort'.Hi] : List Int) _ hx218) [(0, .sl 10), (1, .sl 11)] [11] rfl rfl rfl rfl rfl rfl rfl rfl (.inr ⟨rfl, ⟨(rI_flat _), trivial⟩⟩) rfl (k)) rfl)
    have st220 : A10 15 ⟨[(40, .S 12)], [], [], [], 13, [(0, .S 12)], [], [], 13⟩ := tA10 _ _ (LS.sil htt rfl rfl rfl rfl rfl rfl)
    exact WP.regionD (t := ⟨[(0, .S 12), (3, .B 4 0), (20, .S 1), (21, .I (d_.Fields.length : Int)), (22, .I v22_9)], [(4, .box (c_api_Decl 1 2 3 d_) 94), (12, .own (rI .u8) x218 false)], (v_api_Decl 1 2 3 d_ []), 13⟩) [0, 0, 2, 7, 0, 16, 48, 0, 128, 384, 0, 1024, 3072, 8176, 16383, 32767] (.cons (fA10 _ _ st203) (.cons (fA10 _ _ st204) (.cons (fA10 _ _ st205) (.cons (fA10 _ _ st207) (.cons (fA10 _ _ st208) (.cons (fA10 _ _ st209) (.cons (fA10 _ _ st210) (.cons (fA10 _ _ st211) (.cons (fA10 _ _ st212) (.cons (fA10 _ _ st213) (.cons (fA10 _ _ st214) (.cons (fA10 _ _ st215) (.cons (fA10 _ _ st216) (.cons (fA10 _ _ st217) (.cons (fA10 _ _ st219) (.cons (fA10 _ _ st220) .nil)))))))))))))))) (by kernel_rfl) (by kernel_rfl) (by kernel_rfl) (by kernel_rfl) (WP.inBlock (WP.region (WPr.sil htt 2 rfl (WPr.nil (WP.sub [(7, .sl 12)] (ih9 (x218, (w64 (v22_9 + (1 : Int)))) h) rfl rfl rfl rfl)))))
  exact WP.sub [(7, .sl 6)] (ih N (x9, (0 : Int)) h) rfl rfl rfl rfl
theorem wire_Bool_ct (N : Nat) (b_ : (List Int)) (v_ : Bool) (r : (List Int)) (h : wire_Bool N b_ v_ = some r) :
  Fn Tryz.prog 86 ⟨1, [.S 0, .O v_], [], [(0, .own (rI .u8) b_ false)], 2, .S 1, [], [(1, .own (rI .u8) r false), (0, .gone)]⟩ := by
  refine Fn.intro _ _ Tryz.func86 rfl (by kernel_rfl) rfl (fun E F w => ?_)
  unfold wire_Bool at h
  refine WP.seq (WP.region (WPr.sil htt 1 rfl (WPr.nil (WP.seq (WP.seq (WP.region (WPr.sil htt 1 rfl (WPr.nil (?_)))))))))
  rcases oc h with ⟨hc, h⟩ | ⟨hc, h⟩
  · refine WP.condT hc rfl (WP.seq (WP.region (WPr.silx [1, 2, 3] ⟨[(6, .S 0)], [(0, .own (rI .u8) b_ false)], [], 1⟩ htt 1 (by kernel_rfl) (WPr.bs (cs := [.i .u8 (1 : Int)]) (oI .u8) htt ([(1 : Int)] : List Int) rfl rfl rfl rfl rfl rfl (by kernel_rfl) (by exact (an rfl rfl)) rfl (?_)))))
    obtain ⟨x1, hx1, h⟩ := ob h
    refine WPr.app htt hx1 (by exact (srcO rfl)) rfl rfl rfl rfl rfl rfl rfl rfl rfl rfl (WPr.silx [] ⟨[(4, .S 2)], [(2, .own (rI .u8) x1 false)], [], 3⟩ htt 1 (by kernel_rfl) (WPr.nil (?_)))
    cases h
    exact WP.ret htt Tryz.func86 [(1, .sl 2)] rfl rfl rfl rfl
  refine WP.condF hc rfl (WP.skip (WP.seq (WP.region (WPr.silx [1, 2, 3] ⟨[(9, .S 0)], [(0, .own (rI .u8) b_ false)], [], 1⟩ htt 1 (by kernel_rfl) (WPr.bs (cs := [.i .u8 (0 : Int)]) (oI .u8) htt ([(0 : Int)] : List Int) rfl rfl rfl rfl rfl rfl (by kernel_rfl) (by exact (an rfl rfl)) rfl (?_))))))
  obtain ⟨x2, hx2, h⟩ := ob h
  refine WPr.app htt hx2 (by exact (srcO rfl)) rfl rfl rfl rfl rfl rfl rfl rfl rfl rfl (WPr.silx [] ⟨[(4, .S 2)], [(2, .own (rI .u8) x2 false)], [], 3⟩ htt 1 (by kernel_rfl) (WPr.nil (?_)))
  cases h
  exact WP.ret htt Tryz.func86 [(1, .sl 2)] rfl rfl rfl rfl
theorem global_Encode_ct (N : Nat) (g_ : T_api_Global) (r : (List Int)) (h : global_Encode N g_ = some r) :
  Fn Tryz.prog 37 ⟨4, [.a (c_api_Global 0 1 2 3 g_)], (v_api_Global 0 1 2 3 g_ []), [], 5, .S 4, [], [(4, .own (rI .u8) r true)]⟩ := by
  refine Fn.intro _ _ Tryz.func37 rfl (by kernel_rfl) rfl (fun E F w => ?_)
  unfold global_Encode at h
  refine WP.seq (WP.region (WPr.sil htt 2 rfl (WPr.nil (WP.seq (WP.seq (WP.region (WPr.silx [1, 2] ⟨[(1, .B 4 0), (2, .c .nil), (12, .a (c_api_Global 0 1 2 3 g_))], [(4, .box (c_api_Global 0 1 2 3 g_) 27)], (v_api_Global 0 1 2 3 g_ []), 5⟩ htt 1 (by kernel_rfl) (?_))))))))
  obtain ⟨x1, hx1, h⟩ := ob h
  refine WPr.call (global_Valid_ct N g_ _ hx1) [(0, .sl 0), (1, .sl 1), (2, .sl 2), (3, .sl 3)] [] rfl rfl rfl rfl rfl rfl rfl rfl (.inl rfl) rfl (WPr.silx [] ⟨[(1, .B 4 0), (2, .c .nil), (14, .O (!x1))], [(4, .box (c_api_Global 0 1 2 3 g_) 27)], (v_api_Global 0 1 2 3 g_ []), 5⟩ htt 1 (by kernel_rfl) (WPr.nil (?_)))
  rcases oc h with ⟨hc, h⟩ | ⟨hc, h⟩
  · refine WP.condT hc rfl (WP.seq (WP.region (WPr.sil htt 1 rfl (WPr.nil (?_)))))
    cases h
    exact WP.ret htt Tryz.func37 [(4, .nil)] rfl rfl rfl rfl
  refine WP.condF hc rfl (WP.skip (WP.seq (WP.nm (fun A1 tA1 fA1 => ?_))))
  have st2 : A1 0 ⟨[(1, .B 4 0)], [], [], [], 5, [(15, .B 4 0)], [], [], 5⟩ := tA1 _ _ (LS.sil htt rfl rfl rfl rfl rfl rfl)
  have st3 : A1 1 ⟨[(15, .B 4 0)], (v_api_Global 0 1 2 3 g_ []), [], [(4, .box (c_api_Global 0 1 2 3 g_) 27)], 5, [(16, .c (.s g_.Name))], [], [], 5⟩ := tA1 _ _ (LS.sil htt rfl rfl rfl rfl rfl rfl)
  obtain ⟨x4, hx4, h⟩ := ob h
  have st5 : A1 2 ⟨[(16, .c (.s g_.Name))], [], [], [], 5, [(17, .S 5)], [], [(5, .own (rI .u8) x4 true)], 6⟩ := tA1 _ _ (LS.of rfl rfl rfl (fun _ _ _ _ _ _ _ k => WPr.call (wire_Text_ct N ([] : List Int) g_.Name _ hx4) [(0, .nil)] [] rfl rfl rfl rfl rfl rfl rfl rfl (.inl rfl) rfl (k)) rfl)
  have st6 : A1 3 ⟨[(1, .B 4 0)], [], [], [], 6, [(18, .B 4 1)], [], [], 6⟩ := tA1 _ _ (LS.sil htt rfl rfl rfl rfl rfl rfl)
  have st7 : A1 4 ⟨[(18, .B 4 1)], (v_api_Global 0 1 2 3 g_ []), [], [(4, .box (c_api_Global 0 1 2 3 g_) 27)], 6, [(19, .S 0)], [], [], 6⟩ := tA1 _ _ (LS.sil htt rfl rfl rfl rfl rfl rfl)
  have st8 : A1 5 ⟨[(19, .S 0)], [(0, .sl rS g_.Roles)], [], [], 6, [(20, .I (g_.Roles.length : Int))], [], [], 6⟩ := tA1 _ _ (LS.sil htt rfl rfl rfl rfl rfl rfl)
  obtain ⟨x9, hx9, h⟩ := ob h
  have st10 : A1 6 ⟨[(17, .S 5), (20, .I (g_.Roles.length : Int))], [], [(5, .own (rI .u8) x4 true)], [], 6, [(21, .S 6)], [], [(5, .gone), (6, .own (rI .u8) x9 true)], 7⟩ := tA1 _ _ (LS.of rfl rfl rfl (fun _ _ _ _ _ _ _ k => WPr.call (wire_Int_ct N x4 (g_.Roles.length : Int) _ hx9) [(0, .sl 5)] [] rfl rfl rfl rfl rfl rfl rfl rfl (.inl rfl) rfl (k)) rfl)
  have st11 : A1 7 ⟨[(21, .S 6)], [], [], [], 7, [(3, .S 6)], [], [], 7⟩ := tA1 _ _ (LS.sil htt rfl rfl rfl rfl rfl rfl)
  refine WP.regionD (t := ⟨[(1, .B 4 0), (2, .c .nil), (3, .S 6)], [(4, .box (c_api_Global 0 1 2 3 g_) 27), (6, .own (rI .u8) x9 true)], (v_api_Global 0 1 2 3 g_ []), 7⟩) [0, 1, 3, 0, 8, 24, 63, 127] (.cons (fA1 _ _ st2) (.cons (fA1 _ _ st3) (.cons (fA1 _ _ st5) (.cons (fA1 _ _ st6) (.cons (fA1 _ _ st7) (.cons (fA1 _ _ st8) (.cons (fA1 _ _ st10) (.cons (fA1 _ _ st11) .nil)))))))) (by kernel_rfl) (by kernel_rfl) (by kernel_rfl) (by kernel_rfl) (WP.seq (WP.seq (WP.region (WPr.silx [] ⟨[(1, .B 4 0), (2, .c .nil), (3, .S 6), (23, .S 0), (24, .I (g_.Roles.length : Int)), (25, .I (0 : Int))], [(4, .box (c_api_Global 0 1 2 3 g_) 27), (6, .own (rI .u8) x9 true)], (v_api_Global 0 1 2 3 g_ []), 7⟩ htt 4 (by kernel_rfl) (WPr.nil (?_))))))
  refine WP.cut (σ := (List Int)) (fun st => ⟨[(1, .B 4 0), (3, .S 7)], [(4, .box (c_api_Global 0 1 2 3 g_) 27), (7, .own (rI .u8) st true)], (v_api_Global 0 1 2 3 g_ []), 8⟩) (fun st => global_Encode_k7 N g_ st = some r) ?_ (fun j1 => ?_)
  · intro v3_1 h
    replace h : global_Encode_k7 N g_ v3_1 = some r := h
    unfold global_Encode_k7 at h
    refine WP.seq (WP.region (WPr.silx [4, 5] ⟨[(1, .B 4 0), (33, .S 7), (36, .I (g_.Decls.length : Int))], [(4, .box (c_api_Global 0 1 2 3 g_) 27), (7, .own (rI .u8) v3_1 true)], (v_api_Global 0 1 2 3 g_ []), 8⟩ htt 4 (by kernel_rfl) (?_)))
    obtain ⟨x20, hx20, h⟩ := ob h
    refine WPr.call (wire_Int_ct N v3_1 (g_.Decls.length : Int) _ hx20) [(0, .sl 7)] [] rfl rfl rfl rfl rfl rfl rfl rfl (.inl rfl) rfl (WPr.silx [] ⟨[(1, .B 4 0), (3, .S 8)], [(4, .box (c_api_Global 0 1 2 3 g_) 27), (8, .own (rI .u8) x20 true)], (v_api_Global 0 1 2 3 g_ []), 9⟩ htt 1 (by kernel_rfl) (WPr.nil (WP.seq (WP.seq (WP.region (WPr.silx [] ⟨[(1, .B 4 0), (3, .S 8), (39, .S 1), (40, .I (g_.Decls.length : Int)), (41, .I (0 : Int))], [(4, .box (c_api_Global 0 1 2 3 g_) 27), (8, .own (rI .u8) x20 true)], (v_api_Global 0 1 2 3 g_ []), 9⟩ htt 4 (by kernel_rfl) (WPr.nil (?_))))))))
    refine WP.cut (σ := (List Int)) (fun st => ⟨[(1, .B 4 0), (3, .S 9)], [(4, .box (c_api_Global 0 1 2 3 g_) 27), (9, .own (rI .u8) st true)], (v_api_Global 0 1 2 3 g_ []), 10⟩) (fun st => global_Encode_k5 N g_ st = some r) ?_ (fun j3 => ?_)
    · intro v3_3 h
      replace h : global_Encode_k5 N g_ v3_3 = some r := h
      unfold global_Encode_k5 at h
      refine WP.seq (WP.region (WPr.silx [10, 11, 12] ⟨[(1, .B 4 0), (49, .S 9), (51, .I g_.States), (53, .I g_.Start), (55, .I g_.End), (58, .I (g_.Edges.length : Int))], [(4, .box (c_api_Global 0 1 2 3 g_) 27), (9, .own (rI .u8) v3_3 true)], (v_api_Global 0 1 2 3 g_ []), 10⟩ htt 10 (by kernel_rfl) (WPr.bs (cs := [.I g_.States, .I g_.Start, .I g_.End, .I (g_.Edges.length : Int)]) (oI .i64) htt ([g_.States, g_.Start, g_.End, (g_.Edges.length : Int)] : List Int) rfl rfl rfl rfl rfl rfl (by kernel_rfl) (by exact (an rfl (an rfl (an rfl (an rfl rfl))))) rfl (?_))))
      obtain ⟨x29, hx29, h⟩ := ob h
      refine WPr.call (global_ints_ct N v3_3 ([g_.States, g_.Start, g_.End, (g_.Edges.length : Int)] : List Int) _ hx29) [(0, .sl 9), (1, .sl 10)] [10] rfl rfl rfl rfl rfl rfl rfl rfl (.inr ⟨rfl, ⟨(rI_flat _), trivial⟩⟩) rfl (WPr.silx [] ⟨[(1, .B 4 0), (3, .S 11)], [(4, .box (c_api_Global 0 1 2 3 g_) 27), (11, .own (rI .u8) x29 true)], (v_api_Global 0 1 2 3 g_ []), 12⟩ htt 1 (by kernel_rfl) (WPr.nil (WP.seq (WP.seq (WP.region (WPr.silx [] ⟨[(1, .B 4 0), (3, .S 11), (62, .S 2), (63, .I (g_.Edges.length : Int)), (64, .I (0 : Int))], [(4, .box (c_api_Global 0 1 2 3 g_) 27), (11, .own (rI .u8) x29 true)], (v_api_Global 0 1 2 3 g_ []), 12⟩ htt 4 (by kernel_rfl) (WPr.nil (?_))))))))
      refine WP.cut (σ := (List Int)) (fun st => ⟨[(1, .B 4 0), (3, .S 12)], [(4, .box (c_api_Global 0 1 2 3 g_) 27), (12, .own (rI .u8) st true)], (v_api_Global 0 1 2 3 g_ []), 13⟩) (fun st => global_Encode_k3 N g_ st = some r) ?_ (fun j5 => ?_)
      · intro v3_5 h
        replace h : global_Encode_k3 N g_ v3_5 = some r := h
        unfold global_Encode_k3 at h
        refine WP.seq (WP.region (WPr.silx [4, 5] ⟨[(1, .B 4 0), (88, .S 12), (91, .I (g_.Timeouts.length : Int))], [(4, .box (c_api_Global 0 1 2 3 g_) 27), (12, .own (rI .u8) v3_5 true)], (v_api_Global 0 1 2 3 g_ []), 13⟩ htt 4 (by kernel_rfl) (?_)))
        obtain ⟨x122, hx122, h⟩ := ob h
        refine WPr.call (wire_Int_ct N v3_5 (g_.Timeouts.length : Int) _ hx122) [(0, .sl 12)] [] rfl rfl rfl rfl rfl rfl rfl rfl (.inl rfl) rfl (WPr.silx [] ⟨[(1, .B 4 0), (3, .S 13)], [(4, .box (c_api_Global 0 1 2 3 g_) 27), (13, .own (rI .u8) x122 true)], (v_api_Global 0 1 2 3 g_ []), 14⟩ htt 1 (by kernel_rfl) (WPr.nil (WP.seq (WP.seq (WP.region (WPr.silx [] ⟨[(3, .S 13), (94, .S 3), (95, .I (g_.Timeouts.length : Int)), (96, .I (0 : Int))], [(13, .own (rI .u8) x122 true)], (v_api_Global 0 1 2 3 g_ []), 14⟩ htt 4 (by kernel_rfl) (WPr.nil (?_))))))))
        refine WP.cut (σ := (List Int)) (fun st => ⟨[(3, .S 14)], [(14, .own (rI .u8) st true)], (v_api_Global 0 1 2 3 g_ []), 15⟩) (fun st => global_Encode_k1 st = some r) ?_ (fun j7 => ?_)
        · intro v3_7 h
          replace h : global_Encode_k1 v3_7 = some r := h
          unfold global_Encode_k1 at h
          refine WP.seq (WP.region (WPr.sil htt 2 rfl (WPr.nil (?_))))
          cases h
          exact WP.ret htt Tryz.func37 [(4, .sl 14)] rfl rfl rfl rfl
        refine WP.block (?_)
        refine WP.loopI (σ := (List Int) × Int) (fun st => ⟨[(3, .S 14), (94, .S 3), (95, .I (g_.Timeouts.length : Int)), (96, .I st.2)], [(14, .own (rI .u8) st.1 true)], (v_api_Global 0 1 2 3 g_ []), 15⟩) (fun n st => global_Encode_l2 N g_ n st.1 st.2) (r := r) (fun _ => rfl) ?_ (fun ih => ?_)
        · intro n5 ih9
          rintro ⟨v3_9, v96_9⟩ h
          replace h : global_Encode_l2 N g_ (n5 + 1) v3_9 v96_9 = some r := h
          unfold global_Encode_l2 at h
          refine WP.seq (WP.region (WPr.sil htt 1 rfl (WPr.nil (WP.seq (?_)))))
          rcases oc' h with ⟨hc, h⟩ | ⟨hc, h⟩
          · exact WP.condF hc rfl (WP.exit rfl (WP.sub [] (j7 v3_9 h) rfl rfl rfl rfl))
          refine WP.condT hc rfl (WP.skip (WP.seq (WP.block (WP.seq (WP.region (?_))))))
          obtain ⟨x139, hx139, h⟩ := ob h
          refine WPr.ix o_api_Timeout htt hx139 rfl rfl rfl rfl rfl rfl rfl rfl rfl (WPr.silx [] ⟨[(3, .S 14), (11, .B 16 0), (94, .S 3), (95, .I (g_.Timeouts.length : Int)), (96, .I v96_9)], [(14, .own (rI .u8) v3_9 true), (16, .box (c_api_Timeout x139) 79)], (v_api_Global 0 1 2 3 g_ []), 17⟩ htt 3 (by kernel_rfl) (WPr.nil (WP.region (WPr.silx [7, 8, 9] ⟨[(94, .S 3), (95, .I (g_.Timeouts.length : Int)), (96, .I v96_9), (100, .S 14), (102, .I x139.State), (104, .I x139.Ticks), (106, .I x139.Else)], [(14, .own (rI .u8) v3_9 true)], (v_api_Global 0 1 2 3 g_ []), 17⟩ htt 7 (by kernel_rfl) (WPr.bs (cs := (c_api_Timeout x139)) (oI .i64) htt ([x139.State, x139.Ticks, x139.Else] : List Int) rfl rfl rfl rfl rfl rfl (by kernel_rfl) (by exact (an rfl (an rfl (an rfl rfl)))) rfl (?_))))))
          obtain ⟨x140, hx140, h⟩ := ob h
          exact WPr.call (global_ints_ct N v3_9 ([x139.State, x139.Ticks, x139.Else] : List Int) _ hx140) [(0, .sl 14), (1, .sl 17)] [17] rfl rfl rfl rfl rfl rfl rfl rfl (.inr ⟨rfl, ⟨(rI_flat _), trivial⟩⟩) rfl (WPr.silx [] ⟨[(3, .S 18), (94, .S 3), (95, .I (g_.Timeouts.length : Int)), (96, .I v96_9)], [(18, .own (rI .u8) x140 true)], (v_api_Global 0 1 2 3 g_ []), 19⟩ htt 1 (by kernel_rfl) (WPr.nil (WP.inBlock (WP.region (WPr.sil htt 2 rfl (WPr.nil (WP.sub [(14, .sl 18)] (ih9 (x140, (w64 (v96_9 + (1 : Int)))) h) rfl rfl rfl rfl)))))))
        exact WP.sub [(14, .sl 13)] (ih N (x122, (0 : Int)) h) rfl rfl rfl rfl
      refine WP.block (?_)
      refine WP.loopI (σ := (List Int) × Int) (fun st => ⟨[(1, .B 4 0), (3, .S 12), (62, .S 2), (63, .I (g_.Edges.length : Int)), (64, .I st.2)], [(4, .box (c_api_Global 0 1 2 3 g_) 27), (12, .own (rI .u8) st.1 true)], (v_api_Global 0 1 2 3 g_ []), 13⟩) (fun n st => global_Encode_l4 N g_ n st.1 st.2) (r := r) (fun _ => rfl) ?_ (fun ih => ?_)
      · intro n6 ih10
        rintro ⟨v3_10, v64_10⟩ h
        replace h : global_Encode_l4 N g_ (n6 + 1) v3_10 v64_10 = some r := h
        unfold global_Encode_l4 at h
        refine WP.seq (WP.region (WPr.sil htt 1 rfl (WPr.nil (WP.seq (?_)))))
        rcases oc' h with ⟨hc, h⟩ | ⟨hc, h⟩
        · exact WP.condF hc rfl (WP.exit rfl (WP.sub [] (j5 v3_10 h) rfl rfl rfl rfl))
        refine WP.condT hc rfl (WP.skip (WP.seq (WP.block (WP.seq (WP.region (?_))))))
        obtain ⟨x233, hx233, h⟩ := ob h
        refine WPr.ix o_api_Edge htt hx233 rfl rfl rfl rfl rfl rfl rfl rfl rfl (WPr.silx [] ⟨[(1, .B 4 0), (3, .S 12), (9, .B 14 0), (62, .S 2), (63, .I (g_.Edges.length : Int)), (64, .I v64_10)], [(4, .box (c_api_Global 0 1 2 3 g_) 27), (12, .own (rI .u8) v3_10 true), (14, .box (c_api_Edge x233) 43)], (v_api_Global 0 1 2 3 g_ []), 15⟩ htt 3 (by kernel_rfl) (WPr.nil (WP.nm (fun A10 tA10 fA10 => ?_))))
        have st234 : A10 0 ⟨[(3, .S 12)], [], [], [], 15, [(68, .S 12)], [], [], 15⟩ := tA10 _ _ (LS.sil htt rfl rfl rfl rfl rfl rfl)
        have st235 : A10 1 ⟨[(9, .B 14 0)], [], [], [], 15, [(69, .B 14 0)], [], [], 15⟩ := tA10 _ _ (LS.sil htt rfl rfl rfl rfl rfl rfl)
        have st236 : A10 2 ⟨[(69, .B 14 0)], [], [], [(14, .box (c_api_Edge x233) 43)], 15, [(70, .I x233.From)], [], [], 15⟩ := tA10 _ _ (LS.sil htt rfl rfl rfl rfl rfl rfl)
        have st237 : A10 3 ⟨[(9, .B 14 0)], [], [], [], 15, [(71, .B 14 1)], [], [], 15⟩ := tA10 _ _ (LS.sil htt rfl rfl rfl rfl rfl rfl)
        have st238 : A10 4 ⟨[(71, .B 14 1)], [], [], [], 15, [(72, .B 14 1)], [], [], 15⟩ := tA10 _ _ (LS.sil htt rfl rfl rfl rfl rfl rfl)
        have st239 : A10 5 ⟨[(72, .B 14 1)], [], [], [(14, .box (c_api_Edge x233) 43)], 15, [(73, .I x233.Act.From)], [], [], 15⟩ := tA10 _ _ (LS.sil htt rfl rfl rfl rfl rfl rfl)
        have st240 : A10 6 ⟨[(9, .B 14 0)], [], [], [], 15, [(74, .B 14 1)], [], [], 15⟩ := tA10 _ _ (LS.sil htt rfl rfl rfl rfl rfl rfl)
        have st241 : A10 7 ⟨[(74, .B 14 1)], [], [], [], 15, [(75, .B 14 2)], [], [], 15⟩ := tA10 _ _ (LS.sil htt rfl rfl rfl rfl rfl rfl)
        have st242 : A10 8 ⟨[(75, .B 14 2)], [], [], [(14, .box (c_api_Edge x233) 43)], 15, [(76, .I x233.Act.To)], [], [], 15⟩ := tA10 _ _ (LS.sil htt rfl rfl rfl rfl rfl rfl)
        have st243 : A10 9 ⟨[(9, .B 14 0)], [], [], [], 15, [(77, .B 14 1)], [], [], 15⟩ := tA10 _ _ (LS.sil htt rfl rfl rfl rfl rfl rfl)
        have st244 : A10 10 ⟨[(77, .B 14 1)], [], [], [], 15, [(78, .B 14 3)], [], [], 15⟩ := tA10 _ _ (LS.sil htt rfl rfl rfl rfl rfl rfl)
        have st245 : A10 11 ⟨[(78, .B 14 3)], [], [], [(14, .box (c_api_Edge x233) 43)], 15, [(79, .I x233.Act.Label)], [], [], 15⟩ := tA10 _ _ (LS.sil htt rfl rfl rfl rfl rfl rfl)
        have st246 : A10 12 ⟨[(9, .B 14 0)], [], [], [], 15, [(80, .B 14 4)], [], [], 15⟩ := tA10 _ _ (LS.sil htt rfl rfl rfl rfl rfl rfl)
        have st247 : A10 13 ⟨[(80, .B 14 4)], [], [], [(14, .box (c_api_Edge x233) 43)], 15, [(81, .I x233.To)], [], [], 15⟩ := tA10 _ _ (LS.sil htt rfl rfl rfl rfl rfl rfl)
        have st248 : A10 14 ⟨[(70, .I x233.From), (73, .I x233.Act.From), (76, .I x233.Act.To), (79, .I x233.Act.Label), (81, .I x233.To)], [], [], [], 15, [(82, .S 15)], [], [(15, .own (rI .i64) ([x233.From, x233.Act.From, x233.Act.To, x233.Act.Label, x233.To] : List Int) true)], 16⟩ := tA10 _ _ (LS.of rfl rfl rfl (fun _ _ _ _ _ _ _ k => WPr.bs (cs := [.I x233.From, .I x233.Act.From, .I x233.Act.To, .I x233.Act.Label, .I x233.To]) (oI .i64) htt ([x233.From, x233.Act.From, x233.Act.To, x233.Act.Label, x233.To] : List Int) rfl rfl rfl rfl rfl rfl (by kernel_rfl) (by exact (an rfl (an rfl (an rfl (an rfl (an rfl rfl)))))) rfl (k)) rfl)
        obtain ⟨x249, hx249, h⟩ := ob h
        have st250 : A10 15 ⟨[(68, .S 12), (82, .S 15)], [], [(12, .own (rI .u8) v3_10 true)], [(15, .own (rI .i64) ([x233.From, x233.Act.From, x233.Act.To, x233.Act.Label, x233.To] : List Int) true)], 16, [(83, .S 16)], [], [(12, .gone), (16, .own (rI .u8) x249 true)], 17⟩ := tA10 _ _ (LS.of rfl rfl rfl (fun _ _ _ _ _ _ _ k => WPr.call (global_ints_ct N v3_10 ([x233.From, x233.Act.From, x233.Act.To, x233.Act.Label, x233.To] : List Int) _ hx249) [(0, .sl 12), (1, .sl 15)] [15] rfl rfl rfl rfl rfl rfl rfl rfl (.inr ⟨rfl, ⟨(rI_flat _), trivial⟩⟩) rfl (k)) rfl)
        have st251 : A10 16 ⟨[(9, .B 14 0)], [], [], [], 17, [(84, .B 14 5)], [], [], 17⟩ := tA10 _ _ (LS.sil htt rfl rfl rfl rfl rfl rfl)
        have st252 : A10 17 ⟨[(84, .B 14 5)], [], [], [(14, .box (c_api_Edge x233) 43)], 17, [(85, .O x233.Again)], [], [], 17⟩ := tA10 _ _ (LS.sil htt rfl rfl rfl rfl rfl rfl)
        obtain ⟨x253, hx253, h⟩ := ob h
        have st254 : A10 18 ⟨[(83, .S 16), (85, .O x233.Again)], [], [(16, .own (rI .u8) x249 true)], [], 17, [(86, .S 17)], [], [(16, .gone), (17, .own (rI .u8) x253 true)], 18⟩ := tA10 _ _ (LS.of rfl rfl rfl (fun _ _ _ _ _ _ _ k => WPr.call (wire_Bool_ct N x249 x233.Again _ hx253) [(0, .sl 16)] [] rfl rfl rfl rfl rfl rfl rfl rfl (.inl rfl) rfl (k)) rfl)
        have st255 : A10 19 ⟨[(86, .S 17)], [], [], [], 18, [(3, .S 17)], [], [], 18⟩ := tA10 _ _ (LS.sil htt rfl rfl rfl rfl rfl rfl)
        exact WP.regionD (t := ⟨[(1, .B 4 0), (3, .S 17), (62, .S 2), (63, .I (g_.Edges.length : Int)), (64, .I v64_10)], [(4, .box (c_api_Global 0 1 2 3 g_) 27), (17, .own (rI .u8) x253 true)], (v_api_Global 0 1 2 3 g_ []), 18⟩) [0, 0, 2, 0, 8, 24, 0, 64, 192, 0, 512, 1536, 0, 4096, 16382, 32767, 0, 65536, 262143, 524287] (.cons (fA10 _ _ st234) (.cons (fA10 _ _ st235) (.cons (fA10 _ _ st236) (.cons (fA10 _ _ st237) (.cons (fA10 _ _ st238) (.cons (fA10 _ _ st239) (.cons (fA10 _ _ st240) (.cons (fA10 _ _ st241) (.cons (fA10 _ _ st242) (.cons (fA10 _ _ st243) (.cons (fA10 _ _ st244) (.cons (fA10 _ _ st245) (.cons (fA10 _ _ st246) (.cons (fA10 _ _ st247) (.cons (fA10 _ _ st248) (.cons (fA10 _ _ st250) (.cons (fA10 _ _ st251) (.cons (fA10 _ _ st252) (.cons (fA10 _ _ st254) (.cons (fA10 _ _ st255) .nil)))))))))))))))))))) (by kernel_rfl) (by kernel_rfl) (by kernel_rfl) (by kernel_rfl) (WP.inBlock (WP.region (WPr.sil htt 2 rfl (WPr.nil (WP.sub [(12, .sl 17)] (ih10 (x253, (w64 (v64_10 + (1 : Int)))) h) rfl rfl rfl rfl)))))
      exact WP.sub [(12, .sl 11)] (ih N (x29, (0 : Int)) h) rfl rfl rfl rfl
    refine WP.block (?_)
    refine WP.loopI (σ := (List Int) × Int) (fun st => ⟨[(1, .B 4 0), (3, .S 9), (39, .S 1), (40, .I (g_.Decls.length : Int)), (41, .I st.2)], [(4, .box (c_api_Global 0 1 2 3 g_) 27), (9, .own (rI .u8) st.1 true)], (v_api_Global 0 1 2 3 g_ []), 10⟩) (fun n st => global_Encode_l6 N g_ n st.1 st.2) (r := r) (fun _ => rfl) ?_ (fun ih => ?_)
    · intro n7 ih11
      rintro ⟨v3_11, v41_11⟩ h
      replace h : global_Encode_l6 N g_ (n7 + 1) v3_11 v41_11 = some r := h
      unfold global_Encode_l6 at h
      refine WP.seq (WP.region (WPr.sil htt 1 rfl (WPr.nil (WP.seq (?_)))))
      rcases oc' h with ⟨hc, h⟩ | ⟨hc, h⟩
      · exact WP.condF hc rfl (WP.exit rfl (WP.sub [] (j3 v3_11 h) rfl rfl rfl rfl))
      refine WP.condT hc rfl (WP.skip (WP.seq (WP.block (WP.seq (WP.region (?_))))))
      obtain ⟨x264, hx264, h⟩ := ob h
      refine WPr.ix o_api_Decl htt hx264 rfl rfl rfl rfl rfl rfl rfl rfl rfl (WPr.silx [] ⟨[(1, .B 4 0), (3, .S 9), (7, .B 14 0), (39, .S 1), (40, .I (g_.Decls.length : Int)), (41, .I v41_11)], [(4, .box (c_api_Global 0 1 2 3 g_) 27), (9, .own (rI .u8) v3_11 true), (14, .box (c_api_Decl 11 12 13 x264) 94)], (v_api_Global 0 1 2 3 g_ (v_api_Decl 11 12 13 x264 [])), 15⟩ htt 3 (by kernel_rfl) (WPr.nil (WP.region (WPr.sil htt 2 rfl (?_)))))
      obtain ⟨x265, hx265, h⟩ := ob h
      exact WPr.call (global_decl_ct N v3_11 x264 _ hx265) [(0, .sl 9), (1, .sl 11), (2, .sl 12), (3, .sl 13)] [] rfl rfl rfl rfl rfl rfl rfl rfl (.inl rfl) rfl (WPr.silx [] ⟨[(1, .B 4 0), (3, .S 15), (39, .S 1), (40, .I (g_.Decls.length : Int)), (41, .I v41_11)], [(4, .box (c_api_Global 0 1 2 3 g_) 27), (15, .own (rI .u8) x265 true)], (v_api_Global 0 1 2 3 g_ []), 16⟩ htt 1 (by kernel_rfl) (WPr.nil (WP.inBlock (WP.region (WPr.sil htt 2 rfl (WPr.nil (WP.sub [(9, .sl 15)] (ih11 (x265, (w64 (v41_11 + (1 : Int)))) h) rfl rfl rfl rfl)))))))
    exact WP.sub [(9, .sl 8)] (ih N (x20, (0 : Int)) h) rfl rfl rfl rfl
  refine WP.block (?_)
  refine WP.loopI (σ := (List Int) × Int) (fun st => ⟨[(1, .B 4 0), (3, .S 7), (23, .S 0), (24, .I (g_.Roles.length : Int)), (25, .I st.2)], [(4, .box (c_api_Global 0 1 2 3 g_) 27), (7, .own (rI .u8) st.1 true)], (v_api_Global 0 1 2 3 g_ []), 8⟩) (fun n st => global_Encode_l8 N g_ n st.1 st.2) (r := r) (fun _ => rfl) ?_ (fun ih => ?_)
  · intro n8 ih12
    rintro ⟨v3_12, v25_12⟩ h
    replace h : global_Encode_l8 N g_ (n8 + 1) v3_12 v25_12 = some r := h
    unfold global_Encode_l8 at h
    refine WP.seq (WP.region (WPr.sil htt 1 rfl (WPr.nil (WP.seq (?_)))))
    rcases oc' h with ⟨hc, h⟩ | ⟨hc, h⟩
    · exact WP.condF hc rfl (WP.exit rfl (WP.sub [] (j1 v3_12 h) rfl rfl rfl rfl))
    refine WP.condT hc rfl (WP.skip (WP.seq (WP.block (WP.seq (WP.region (?_))))))
    obtain ⟨x274, hx274, h⟩ := ob h
    refine WPr.ix oS htt hx274 rfl rfl rfl rfl rfl rfl rfl rfl rfl (WPr.silx [] ⟨[(1, .B 4 0), (3, .S 7), (5, .c (.s x274)), (23, .S 0), (24, .I (g_.Roles.length : Int)), (25, .I v25_12)], [(4, .box (c_api_Global 0 1 2 3 g_) 27), (7, .own (rI .u8) v3_12 true)], (v_api_Global 0 1 2 3 g_ []), 9⟩ htt 2 (by kernel_rfl) (WPr.nil (WP.region (WPr.sil htt 2 rfl (?_)))))
    obtain ⟨x275, hx275, h⟩ := ob h
    exact WPr.call (wire_Text_ct N v3_12 x274 _ hx275) [(0, .sl 7)] [] rfl rfl rfl rfl rfl rfl rfl rfl (.inl rfl) rfl (WPr.silx [] ⟨[(1, .B 4 0), (3, .S 9), (23, .S 0), (24, .I (g_.Roles.length : Int)), (25, .I v25_12)], [(4, .box (c_api_Global 0 1 2 3 g_) 27), (9, .own (rI .u8) x275 true)], (v_api_Global 0 1 2 3 g_ []), 10⟩ htt 1 (by kernel_rfl) (WPr.nil (WP.inBlock (WP.region (WPr.sil htt 2 rfl (WPr.nil (WP.sub [(7, .sl 9)] (ih12 (x275, (w64 (v25_12 + (1 : Int)))) h) rfl rfl rfl rfl)))))))
  exact WP.sub [(7, .sl 6)] (ih N (x9, (0 : Int)) h) rfl rfl rfl rfl
theorem sum_From_ct (N : Nat) (seed_ : Int) (b_ : (List Int)) (r : Int) (h : sum_From N seed_ b_ = some r) :
  Fn Tryz.prog 127 ⟨1, [.c (.i .u64 seed_), .S 0], [(0, .sl (rI .u8) b_)], [], 1, .c (.i .u64 r), [], []⟩ := by
  refine Fn.intro _ _ Tryz.func127 rfl (by kernel_rfl) rfl (fun E F w => ?_)
  unfold sum_From at h
  refine WP.seq (WP.region (WPr.sil htt 1 rfl (WPr.nil (WP.seq (WP.seq (WP.region (WPr.silx [] ⟨[(0, .c (.i .u64 seed_)), (4, .c (.i .u64 (0 : Int))), (7, .S 0), (8, .I (b_.length : Int)), (9, .I (0 : Int))], [], [(0, .sl (rI .u8) b_)], 1⟩ htt 3 (by kernel_rfl) (WPr.nil (?_)))))))))
  refine WP.cut (σ := Int) (fun st => ⟨[(0, .c (.i .u64 st))], [], [(0, .sl (rI .u8) b_)], 1⟩) (fun st => sum_From_k1 st = some r) ?_ (fun j1 => ?_)
  · intro v0_1 h
    replace h : sum_From_k1 v0_1 = some r := h
    unfold sum_From_k1 at h
    refine WP.seq (WP.region (WPr.sil htt 2 rfl (WPr.nil (?_))))
    cases h
    exact WP.ret htt Tryz.func127 [] rfl rfl rfl rfl
  refine WP.block (?_)
  refine WP.loopI (σ := Int × Int) (fun st => ⟨[(0, .c (.i .u64 st.1)), (7, .S 0), (8, .I (b_.length : Int)), (9, .I st.2)], [], [(0, .sl (rI .u8) b_)], 1⟩) (fun n st => sum_From_l2 b_ n st.1 st.2) (r := r) (fun _ => rfl) ?_ (fun ih => ?_)
  · intro n2 ih3
    rintro ⟨v0_3, v9_3⟩ h
    replace h : sum_From_l2 b_ (n2 + 1) v0_3 v9_3 = some r := h
    unfold sum_From_l2 at h
    refine WP.seq (WP.region (WPr.sil htt 1 rfl (WPr.nil (WP.seq (?_)))))
    rcases oc' h with ⟨hc, h⟩ | ⟨hc, h⟩
    · exact WP.condF hc rfl (WP.exit rfl (WP.sub [] (j1 v0_3 h) rfl rfl rfl rfl))
    refine WP.condT hc rfl (WP.skip (WP.seq (WP.block (WP.seq (WP.region (?_))))))
    obtain ⟨x17, hx17, h⟩ := ob h
    refine WPr.ix (oI .u8) htt hx17 rfl rfl rfl rfl rfl rfl rfl rfl rfl (WPr.silx [] ⟨[(0, .c (.i .u64 v0_3)), (6, .c (.i .u8 x17)), (7, .S 0), (8, .I (b_.length : Int)), (9, .I v9_3)], [], [(0, .sl (rI .u8) b_)], 2⟩ htt 2 (by kernel_rfl) (WPr.nil (WP.region (WPr.silx [3, 4, 5] ⟨[(7, .S 0), (8, .I (b_.length : Int)), (9, .I v9_3), (13, .c (.i .u64 v0_3)), (15, .c (.i .u64 (wk .u64 (x17))))], [], [(0, .sl (rI .u8) b_)], 2⟩ htt 3 (by kernel_rfl) (?_)))))
    obtain ⟨x18, hx18, h⟩ := ob h
    exact WPr.bin hx18 rfl rfl rfl rfl rfl rfl rfl rfl (WPr.silx [] ⟨[(0, .c (.i .u64 (wk .u64 (x18 * (1099511628211 : Int))))), (7, .S 0), (8, .I (b_.length : Int)), (9, .I v9_3)], [], [(0, .sl (rI .u8) b_)], 2⟩ htt 2 (by kernel_rfl) (WPr.nil (WP.inBlock (WP.region (WPr.sil htt 2 rfl (WPr.nil (WP.sub [] (ih3 ((wk .u64 (x18 * (1099511628211 : Int))), (w64 (v9_3 + (1 : Int)))) h) rfl rfl rfl rfl)))))))
  exact WP.sub [] (ih N (seed_, (0 : Int)) h) rfl rfl rfl rfl
theorem sum_Of_ct (N : Nat) (b_ : (List Int)) (r : Int) (h : sum_Of N b_ = some r) :
  Fn Tryz.prog 73 ⟨1, [.S 0], [(0, .sl (rI .u8) b_)], [], 1, .c (.i .u64 r), [], []⟩ := by
  refine Fn.intro _ _ Tryz.func73 rfl (by kernel_rfl) rfl (fun E F w => ?_)
  unfold sum_Of at h
  refine WP.seq (WP.region (WPr.sil htt 1 rfl (WPr.nil (WP.seq (WP.region (WPr.sil htt 1 rfl (?_)))))))
  obtain ⟨x1, hx1, h⟩ := ob h
  refine WPr.call (sum_From_ct N (14695981039346656037 : Int) b_ _ hx1) [(0, .sl 0)] [] rfl rfl rfl rfl rfl rfl rfl rfl (.inl rfl) rfl (WPr.silx [] ⟨[(2, .c (.i .u64 x1))], [], [(0, .sl (rI .u8) b_)], 1⟩ htt 1 (by kernel_rfl) (WPr.nil (?_)))
  cases h
  exact WP.ret htt Tryz.func73 [] rfl rfl rfl rfl
theorem global_Digest_ct (N : Nat) (g_ : T_api_Global) (r : Int) (h : global_Digest N g_ = some r) :
  Fn Tryz.prog 24 ⟨4, [.a (c_api_Global 0 1 2 3 g_)], (v_api_Global 0 1 2 3 g_ []), [], 4, .c (.i .u64 r), [], []⟩ := by
  refine Fn.intro _ _ Tryz.func24 rfl (by kernel_rfl) rfl (fun E F w => ?_)
  unfold global_Digest at h
  refine WP.seq (WP.region (WPr.sil htt 2 rfl (WPr.nil (WP.seq (WP.region (WPr.silx (rg 1 7) ⟨[(2, .c (.i .u64 (0 : Int))), (6, .a (c_api_Global 0 1 2 3 g_))], [], (v_api_Global 0 1 2 3 g_ []), 5⟩ htt 1 (by kernel_rfl) (?_)))))))
  obtain ⟨x1, hx1, h⟩ := ob h
  refine WPr.call (global_Canonical_ct N g_ _ hx1) [(0, .sl 0), (1, .sl 1), (2, .sl 2), (3, .sl 3)] [] rfl rfl rfl rfl rfl rfl rfl rfl (.inl rfl) rfl (WPr.silx [] ⟨[(2, .c (.i .u64 (0 : Int))), (3, .B 9 0), (4, .I x1.2)], [(9, .box (c_api_Global 5 6 7 8 x1.1) 27)], (v_api_Global 0 1 2 3 g_ (v_api_Global 5 6 7 8 x1.1 [])), 10⟩ htt 6 (by kernel_rfl) (WPr.nil (WP.seq (WP.seq (WP.region (WPr.sil htt 2 rfl (WPr.nil (?_))))))))
  rcases oc h with ⟨hc, h⟩ | ⟨hc, h⟩
  · refine WP.condT hc rfl (WP.seq (WP.region (WPr.silx [] ⟨[(2, .c (.i .u64 (0 : Int)))], [], (v_api_Global 0 1 2 3 g_ []), 10⟩ htt 1 (by kernel_rfl) (WPr.nil (?_)))))
    cases h
    exact WP.ret htt Tryz.func24 [] rfl rfl rfl rfl
  refine WP.condF hc rfl (WP.skip (WP.seq (WP.region (WPr.silx [1, 2, 3] ⟨[(12, .a (c_api_Global 5 6 7 8 x1.1))], [], (v_api_Global 0 1 2 3 g_ (v_api_Global 5 6 7 8 x1.1 [])), 10⟩ htt 1 (by kernel_rfl) (?_)))))
  obtain ⟨x2, hx2, h⟩ := ob h
  refine WPr.call (global_Encode_ct N x1.1 _ hx2) [(0, .sl 5), (1, .sl 6), (2, .sl 7), (3, .sl 8)] [] rfl rfl rfl rfl rfl rfl rfl rfl (.inl rfl) rfl (WPr.silx [2, 3] ⟨[(13, .S 10)], [(10, .own (rI .u8) x2 true)], (v_api_Global 0 1 2 3 g_ []), 11⟩ htt 0 (by kernel_rfl) (?_))
  obtain ⟨x3, hx3, h⟩ := ob h
  refine WPr.call (sum_Of_ct N x2 _ hx3) [(0, .sl 10)] [10] rfl rfl rfl rfl rfl rfl rfl rfl (.inr ⟨rfl, trivial⟩) rfl (WPr.silx [] ⟨[(2, .c (.i .u64 x3))], [], (v_api_Global 0 1 2 3 g_ []), 11⟩ htt 1 (by kernel_rfl) (WPr.nil (?_)))
  cases h
  exact WP.ret htt Tryz.func24 [] rfl rfl rfl rfl
theorem law18_awake_ct (N : Nat) (r : Bool) (h : law18_awake N = some r) :
  Fn Tryz.prog 12 ⟨0, [], [], [], 0, .O r, [], []⟩ := by
  refine Fn.intro _ _ Tryz.func12 rfl (by kernel_rfl) rfl (fun E F w => ?_)
  unfold law18_awake at h
  refine WP.seq (WP.region (WPr.sil htt 1 rfl (WPr.nil (WP.seq (WP.region (?_))))))
  obtain ⟨x1, hx1, h⟩ := ob h
  refine WPr.call (law18_small_ct N _ hx1) [] [] rfl rfl rfl rfl rfl rfl rfl rfl (.inl rfl) rfl (WPr.silx [] ⟨[(0, .O false), (1, .B 4 0)], [(4, .box (c_api_Global 0 1 2 3 x1) 27)], (v_api_Global 0 1 2 3 x1 []), 5⟩ htt 2 (by kernel_rfl) (WPr.nil (WP.seq (WP.region (WPr.sil htt 1 rfl (?_))))))
  obtain ⟨x2, hx2, h⟩ := ob h
  refine WPr.call (global_Words_ct N x1 (3 : Int) _ hx2) [(0, .sl 0), (1, .sl 1), (2, .sl 2), (3, .sl 3)] [] rfl rfl rfl rfl rfl rfl rfl rfl (.inl rfl) rfl (WPr.silx [] ⟨[(0, .O false), (1, .B 4 0), (2, .S 5), (3, .I x2.2)], [(4, .box (c_api_Global 0 1 2 3 x1) 27), (5, .own (rSl r_api_Interaction) x2.1 true)], (v_api_Global 0 1 2 3 x1 []), 6⟩ htt 5 (by kernel_rfl) (WPr.nil (WP.seq (WP.region (WPr.sil htt 2 rfl (?_))))))
  obtain ⟨x3, hx3, h⟩ := ob h
  refine WPr.call (global_Next_ct N x1 (0 : Int) (⟨(0 : Int), (1 : Int), (0 : Int)⟩ : T_api_Interaction) _ hx3) [(0, .sl 0), (1, .sl 1), (2, .sl 2), (3, .sl 3)] [] rfl rfl rfl rfl rfl rfl rfl rfl (.inl rfl) rfl (WPr.silx [] ⟨[(0, .O false), (1, .B 4 0), (2, .S 5), (3, .I x2.2), (4, .I x3.1), (5, .O x3.2)], [(4, .box (c_api_Global 0 1 2 3 x1) 27), (5, .own (rSl r_api_Interaction) x2.1 true)], (v_api_Global 0 1 2 3 x1 []), 6⟩ htt 5 (by kernel_rfl) (WPr.nil (WP.seq (WP.region (WPr.sil htt 1 rfl (?_))))))
  obtain ⟨x4, hx4, h⟩ := ob h
  refine WPr.call (global_Valid_ct N x1 _ hx4) [(0, .sl 0), (1, .sl 1), (2, .sl 2), (3, .sl 3)] [] rfl rfl rfl rfl rfl rfl rfl rfl (.inl rfl) rfl (WPr.silx (rg 3 38) ⟨[(1, .B 4 0), (2, .S 5), (3, .I x2.2), (4, .I x3.1), (5, .O x3.2), (20, .O x4)], [(4, .box (c_api_Global 0 1 2 3 x1) 27), (5, .own (rSl r_api_Interaction) x2.1 true)], (v_api_Global 0 1 2 3 x1 []), 6⟩ htt 1 (by kernel_rfl) (?_))
  rcases oc' h with ⟨hc, h⟩ | ⟨hc, h⟩
  · refine WPr.kb 20 hc rfl (WPr.silx [] ⟨[(0, .O false)], [], [], 6⟩ htt 38 (by kernel_rfl) (WPr.nil (?_)))
    cases h
    exact WP.ret htt Tryz.func12 [] rfl rfl rfl rfl
  refine WPr.kb 20 hc rfl (WPr.silx (rg 7 34) ⟨[(1, .B 4 0), (2, .S 5), (4, .I x3.1), (5, .O x3.2), (24, .O (x2.2 == (0 : Int)))], [(4, .box (c_api_Global 0 1 2 3 x1) 27), (5, .own (rSl r_api_Interaction) x2.1 true)], (v_api_Global 0 1 2 3 x1 []), 6⟩ htt 4 (by kernel_rfl) (?_))
  rcases oc' h with ⟨hc, h⟩ | ⟨hc, h⟩
  · refine WPr.kb 24 hc rfl (WPr.silx [] ⟨[(0, .O false)], [], [], 6⟩ htt 34 (by kernel_rfl) (WPr.nil (?_)))
    cases h
    exact WP.ret htt Tryz.func12 [] rfl rfl rfl rfl
  refine WPr.kb 24 hc rfl (WPr.silx (rg 12 29) ⟨[(1, .B 4 0), (2, .S 5), (4, .I x3.1), (5, .O x3.2), (29, .O ((x2.1.length : Int) == (2 : Int)))], [(4, .box (c_api_Global 0 1 2 3 x1) 27), (5, .own (rSl r_api_Interaction) x2.1 true)], (v_api_Global 0 1 2 3 x1 []), 6⟩ htt 5 (by kernel_rfl) (?_))
  rcases oc' h with ⟨hc, h⟩ | ⟨hc, h⟩
  · refine WPr.kb 29 hc rfl (WPr.silx [] ⟨[(0, .O false)], [], [], 6⟩ htt 29 (by kernel_rfl) (WPr.nil (?_)))
    cases h
    exact WP.ret htt Tryz.func12 [] rfl rfl rfl rfl
  refine WPr.kb 29 hc rfl (WPr.sil htt 1 rfl (?_))
  obtain ⟨x5, hx5, h⟩ := ob h
  refine WPr.ixo htt hx5 rfl rfl rfl rfl rfl rfl rfl rfl rfl (WPr.ldo (oSl r_api_Interaction) htt hx5 rfl rfl rfl rfl rfl rfl rfl rfl rfl rfl (WPr.silx (rg 19 22) ⟨[(1, .B 4 0), (4, .I x3.1), (5, .O x3.2), (36, .O ((x5.length : Int) == (1 : Int)))], [(4, .box (c_api_Global 0 1 2 3 x1) 27)], (v_api_Global 0 1 2 3 x1 []), 8⟩ htt 4 (by kernel_rfl) (?_)))
  rcases oc' h with ⟨hc, h⟩ | ⟨hc, h⟩
  · refine WPr.kb 36 hc rfl (WPr.silx [] ⟨[(0, .O false)], [], [], 8⟩ htt 22 (by kernel_rfl) (WPr.nil (?_)))
    cases h
    exact WP.ret htt Tryz.func12 [] rfl rfl rfl rfl
  refine WPr.kb 36 hc rfl (WPr.silx (rg 22 19) ⟨[(1, .B 4 0), (4, .I x3.1), (39, .O x3.2)], [(4, .box (c_api_Global 0 1 2 3 x1) 27)], (v_api_Global 0 1 2 3 x1 []), 8⟩ htt 3 (by kernel_rfl) (?_))
  rcases oc' h with ⟨hc, h⟩ | ⟨hc, h⟩
  · refine WPr.kb 39 hc rfl (WPr.silx [] ⟨[(0, .O false)], [], [], 8⟩ htt 19 (by kernel_rfl) (WPr.nil (?_)))
    cases h
    exact WP.ret htt Tryz.func12 [] rfl rfl rfl rfl
  refine WPr.kb 39 hc rfl (WPr.silx (rg 26 15) ⟨[(1, .B 4 0), (43, .O (x3.1 == (1 : Int)))], [(4, .box (c_api_Global 0 1 2 3 x1) 27)], (v_api_Global 0 1 2 3 x1 []), 8⟩ htt 4 (by kernel_rfl) (?_))
  rcases oc' h with ⟨hc, h⟩ | ⟨hc, h⟩
  · refine WPr.kb 43 hc rfl (WPr.silx [] ⟨[(0, .O false)], [], [], 8⟩ htt 15 (by kernel_rfl) (WPr.nil (?_)))
    cases h
    exact WP.ret htt Tryz.func12 [] rfl rfl rfl rfl
  refine WPr.kb 43 hc rfl (WPr.sil htt 2 rfl (?_))
  obtain ⟨x6, hx6, h⟩ := ob h
  refine WPr.call (global_Equal_ct N x1 x1 _ hx6) [(0, .sl 0), (1, .sl 1), (2, .sl 2), (3, .sl 3), (4, .sl 0), (5, .sl 1), (6, .sl 2), (7, .sl 3)] [] rfl rfl rfl rfl rfl rfl rfl rfl (.inl rfl) rfl (WPr.silx (rg 31 10) ⟨[(1, .B 4 0), (48, .O x6)], [(4, .box (c_api_Global 0 1 2 3 x1) 27)], (v_api_Global 0 1 2 3 x1 []), 8⟩ htt 2 (by kernel_rfl) (?_))
  rcases oc' h with ⟨hc, h⟩ | ⟨hc, h⟩
  · refine WPr.kb 48 hc rfl (WPr.silx [] ⟨[(0, .O false)], [], [], 8⟩ htt 10 (by kernel_rfl) (WPr.nil (?_)))
    cases h
    exact WP.ret htt Tryz.func12 [] rfl rfl rfl rfl
  refine WPr.kb 48 hc rfl (WPr.sil htt 1 rfl (?_))
  obtain ⟨x7, hx7, h⟩ := ob h
  refine WPr.call (global_Label_ct N x1 (str [120]) _ hx7) [(0, .sl 0), (1, .sl 1), (2, .sl 2), (3, .sl 3)] [] rfl rfl rfl rfl rfl rfl rfl rfl (.inl rfl) rfl (WPr.silx [36, 37, 38, 39, 40] ⟨[(1, .B 4 0), (53, .O (x7 == (0 : Int)))], [(4, .box (c_api_Global 0 1 2 3 x1) 27)], (v_api_Global 0 1 2 3 x1 []), 8⟩ htt 3 (by kernel_rfl) (?_))
  rcases oc' h with ⟨hc, h⟩ | ⟨hc, h⟩
  · refine WPr.kb 53 hc rfl (WPr.silx [] ⟨[(0, .O false)], [], [], 8⟩ htt 5 (by kernel_rfl) (WPr.nil (?_)))
    cases h
    exact WP.ret htt Tryz.func12 [] rfl rfl rfl rfl
  refine WPr.kb 53 hc rfl (WPr.sil htt 1 rfl (?_))
  obtain ⟨x8, hx8, h⟩ := ob h
  refine WPr.call (global_Digest_ct N x1 _ hx8) [(0, .sl 0), (1, .sl 1), (2, .sl 2), (3, .sl 3)] [] rfl rfl rfl rfl rfl rfl rfl rfl (.inl rfl) rfl (WPr.silx [] ⟨[(0, .O (x8 != (0 : Int)))], [], [], 8⟩ htt 3 (by kernel_rfl) (WPr.nil (?_)))
  cases h
  exact WP.ret htt Tryz.func12 [] rfl rfl rfl rfl
theorem ref14_Few_ct (N : Nat) (l_ : (List T_api_Decl)) (r : Bool) (h : ref14_Few N l_ = some r) :
  Fn Tryz.prog 44 ⟨1, [.S 0], [(0, .sl r_api_Decl l_)], [], 1, .O r, [], []⟩ := by
  refine Fn.intro _ _ Tryz.func44 rfl (by kernel_rfl) rfl (fun E F w => ?_)
  unfold ref14_Few at h
  refine WP.seq (WP.region (WPr.sil htt 1 rfl (WPr.nil (WP.seq (WP.region (WPr.sil htt 1 rfl (WPr.nil (WP.seq (WP.seq (WP.region (WPr.silx [] ⟨[(0, .S 0), (2, .O false), (3, .I (0 : Int)), (4, .I (0 : Int))], [], [(0, .sl r_api_Decl l_)], 1⟩ htt 1 (by kernel_rfl) (WPr.nil (?_)))))))))))))
  refine WP.cut (σ := Int) (fun st => ⟨[(0, .S 0), (3, .I st)], [], [(0, .sl r_api_Decl l_)], 1⟩) (fun st => ref14_Few_k1 l_ st = some r) ?_ (fun j1 => ?_)
  · intro v3_1 h
    replace h : ref14_Few_k1 l_ v3_1 = some r := h
    unfold ref14_Few_k1 at h
    refine WP.seq (WP.region (WPr.silx [4, 5, 6, 7] ⟨[(3, .I v3_1), (38, .O (decide ((l_.length : Int) ≤ (60 : Int))))], [], [(0, .sl r_api_Decl l_)], 1⟩ htt 4 (by kernel_rfl) (?_)))
    rcases oc h with ⟨hc, h⟩ | ⟨hc, h⟩
    · refine WPr.kb 38 hc rfl (WPr.silx [] ⟨[(2, .O (decide (v3_1 ≤ (100 : Int))))], [], [(0, .sl r_api_Decl l_)], 1⟩ htt 4 (by kernel_rfl) (WPr.nil (?_)))
      cases h
      exact WP.ret htt Tryz.func44 [] rfl rfl rfl rfl
    refine WPr.kb 38 hc rfl (WPr.silx [] ⟨[(2, .O false)], [], [(0, .sl r_api_Decl l_)], 1⟩ htt 4 (by kernel_rfl) (WPr.nil (?_)))
    cases h
    exact WP.ret htt Tryz.func44 [] rfl rfl rfl rfl
  refine WP.block (?_)
  refine WP.loopI (σ := Int × Int) (fun st => ⟨[(0, .S 0), (3, .I st.1), (4, .I st.2)], [], [(0, .sl r_api_Decl l_)], 1⟩) (fun n st => ref14_Few_l2 l_ n st.1 st.2) (r := r) (fun _ => rfl) ?_ (fun ih => ?_)
  · intro n2 ih3
    rintro ⟨v3_3, v4_3⟩ h
    replace h : ref14_Few_l2 l_ (n2 + 1) v3_3 v4_3 = some r := h
    unfold ref14_Few_l2 at h
    refine WP.seq (WP.seq (WP.region (WPr.silx [] ⟨[(0, .S 0), (3, .I v3_3), (4, .I v4_3), (8, .O (decide (v4_3 < (l_.length : Int))))], [], [(0, .sl r_api_Decl l_)], 1⟩ htt 4 (by kernel_rfl) (WPr.nil (?_)))))
    rcases oc' h with ⟨hc, h⟩ | ⟨hc, h⟩
    · exact WP.condF hc rfl (WP.exit rfl (WP.sub [] (j1 v3_3 h) rfl rfl rfl rfl))
    refine WP.condT hc rfl (WP.skip (WP.seq (WP.block (WP.regionQ (by kernel_rfl) (by kernel_rfl) (WPq.silx (rg 3 22) ⟨[(0, .S 0), (4, .I v4_3), (11, .I v3_3), (12, .S 0), (13, .I v4_3)], [], [(0, .sl r_api_Decl l_)], 1⟩ htt 3 (by kernel_rfl) (?_))))))
    obtain ⟨x52, hx52, h⟩ := ob h
    refine WPq.op rfl rfl (VN.vs (VN.ix o_api_Decl htt hx52 rfl rfl rfl rfl rfl rfl rfl)) (WPq.silx (rg 9 16) ⟨[(0, .S 0), (4, .I v4_3), (11, .I v3_3), (17, .I (x52.Fields.length : Int)), (18, .S 0), (19, .I v4_3)], [], [(0, .sl r_api_Decl l_)], 5⟩ htt 5 (by kernel_rfl) (?_))
    obtain ⟨x53, hx53, h⟩ := ob h
    refine WPq.op rfl rfl (VN.vs (VN.ix o_api_Decl htt hx53 rfl rfl rfl rfl rfl rfl rfl)) (WPq.silx (rg 17 8) ⟨[(0, .S 0), (4, .I v4_3), (11, .I v3_3), (25, .I (w64 ((x52.Fields.length : Int) + (x53.Guard.Diffs.length : Int)))), (26, .S 0), (27, .I v4_3)], [], [(0, .sl r_api_Decl l_)], 9⟩ htt 7 (by kernel_rfl) (?_))
    obtain ⟨x54, hx54, h⟩ := ob h
    exact WPq.op rfl rfl (VN.vs (VN.ix o_api_Decl htt hx54 rfl rfl rfl rfl rfl rfl rfl)) (WPq.silx [] ⟨[(0, .S 0), (3, .I (w64 (v3_3 + (w64 ((w64 ((x52.Fields.length : Int) + (x53.Guard.Diffs.length : Int))) + (x54.Guard.Equals.length : Int)))))), (4, .I v4_3)], [], [(0, .sl r_api_Decl l_)], 13⟩ htt 7 (by kernel_rfl) (WPq.nil (WP.inBlock (WP.region (WPr.silx [] ⟨[(0, .S 0), (3, .I (w64 (v3_3 + (w64 ((w64 ((x52.Fields.length : Int) + (x53.Guard.Diffs.length : Int))) + (x54.Guard.Equals.length : Int)))))), (4, .I (w64 (v4_3 + (1 : Int))))], [], [(0, .sl r_api_Decl l_)], 13⟩ htt 3 (by kernel_rfl) (WPr.nil (WP.sub [] (ih3 ((w64 (v3_3 + (w64 ((w64 ((x52.Fields.length : Int) + (x53.Guard.Diffs.length : Int))) + (x54.Guard.Equals.length : Int))))), (w64 (v4_3 + (1 : Int)))) h) rfl rfl rfl rfl)))))))
  exact WP.sub [] (ih N ((0 : Int), (0 : Int)) h) rfl rfl rfl rfl
theorem ref18_Few_ct (N : Nat) (g_ : T_api_Global) (r : Bool) (h : ref18_Few N g_ = some r) :
  Fn Tryz.prog 13 ⟨4, [.a (c_api_Global 0 1 2 3 g_)], (v_api_Global 0 1 2 3 g_ []), [], 4, .O r, [], []⟩ := by
  refine Fn.intro _ _ Tryz.func13 rfl (by kernel_rfl) rfl (fun E F w => ?_)
  unfold ref18_Few at h
  refine WP.seq (WP.region (WPr.sil htt 2 rfl (WPr.nil (WP.seq (WP.region (WPr.silx (rg 4 23) ⟨[(1, .B 4 0), (6, .O (decide (g_.States ≤ (40 : Int))))], [(4, .box (c_api_Global 0 1 2 3 g_) 27)], (v_api_Global 0 1 2 3 g_ []), 5⟩ htt 4 (by kernel_rfl) (?_)))))))
  rcases oc' h with ⟨hc, h⟩ | ⟨hc, h⟩
  · refine WPr.kb 6 hc rfl (WPr.silx [] ⟨[(2, .O false)], [], (v_api_Global 0 1 2 3 g_ []), 5⟩ htt 23 (by kernel_rfl) (WPr.nil (?_)))
    cases h
    exact WP.ret htt Tryz.func13 [] rfl rfl rfl rfl
  refine WPr.kb 6 hc rfl (WPr.silx (rg 10 17) ⟨[(1, .B 4 0), (12, .O (decide ((g_.Edges.length : Int) ≤ (80 : Int))))], [(4, .box (c_api_Global 0 1 2 3 g_) 27)], (v_api_Global 0 1 2 3 g_ []), 5⟩ htt 6 (by kernel_rfl) (?_))
  rcases oc' h with ⟨hc, h⟩ | ⟨hc, h⟩
  · refine WPr.kb 12 hc rfl (WPr.silx [] ⟨[(2, .O false)], [], (v_api_Global 0 1 2 3 g_ []), 5⟩ htt 17 (by kernel_rfl) (WPr.nil (?_)))
    cases h
    exact WP.ret htt Tryz.func13 [] rfl rfl rfl rfl
  refine WPr.kb 12 hc rfl (WPr.silx (rg 16 11) ⟨[(1, .B 4 0), (18, .O (decide ((g_.Timeouts.length : Int) ≤ (40 : Int))))], [(4, .box (c_api_Global 0 1 2 3 g_) 27)], (v_api_Global 0 1 2 3 g_ []), 5⟩ htt 6 (by kernel_rfl) (?_))
  rcases oc' h with ⟨hc, h⟩ | ⟨hc, h⟩
  · refine WPr.kb 18 hc rfl (WPr.silx [] ⟨[(2, .O false)], [], (v_api_Global 0 1 2 3 g_ []), 5⟩ htt 11 (by kernel_rfl) (WPr.nil (?_)))
    cases h
    exact WP.ret htt Tryz.func13 [] rfl rfl rfl rfl
  refine WPr.kb 18 hc rfl (WPr.silx [22, 23, 24, 25, 26] ⟨[(1, .B 4 0), (24, .O (decide ((g_.Roles.length : Int) ≤ (10 : Int))))], [(4, .box (c_api_Global 0 1 2 3 g_) 27)], (v_api_Global 0 1 2 3 g_ []), 5⟩ htt 6 (by kernel_rfl) (?_))
  rcases oc' h with ⟨hc, h⟩ | ⟨hc, h⟩
  · refine WPr.kb 24 hc rfl (WPr.silx [] ⟨[(2, .O false)], [], (v_api_Global 0 1 2 3 g_ []), 5⟩ htt 5 (by kernel_rfl) (WPr.nil (?_)))
    cases h
    exact WP.ret htt Tryz.func13 [] rfl rfl rfl rfl
  refine WPr.kb 24 hc rfl (WPr.sil htt 2 rfl (?_))
  obtain ⟨x1, hx1, h⟩ := ob h
  refine WPr.call (ref14_Few_ct N g_.Decls _ hx1) [(0, .sl 1)] [] rfl rfl rfl rfl rfl rfl rfl rfl (.inl rfl) rfl (WPr.silx [] ⟨[(2, .O x1)], [], (v_api_Global 0 1 2 3 g_ []), 5⟩ htt 2 (by kernel_rfl) (WPr.nil (?_)))
  cases h
  exact WP.ret htt Tryz.func13 [] rfl rfl rfl rfl
theorem ref18_index_ct (N : Nat) (l_ : (List ByteArray)) (s_ : ByteArray) (r : Int) (h : ref18_index N l_ s_ = some r) :
  Fn Tryz.prog 76 ⟨1, [.S 0, .c (.s s_)], [(0, .sl rS l_)], [], 1, .I r, [], []⟩ := by
  refine Fn.intro _ _ Tryz.func76 rfl (by kernel_rfl) rfl (fun E F w => ?_)
  unfold ref18_index at h
  refine WP.seq (WP.region (WPr.sil htt 1 rfl (WPr.nil (WP.seq (WP.seq (WP.region (WPr.sil htt 1 rfl (WPr.nil (?_)))))))))
  refine WP.cut (σ := Unit) (fun st => ⟨[], [], [(0, .sl rS l_)], 1⟩) (fun st => ref18_index_k1 = some r) ?_ (fun j1 => ?_)
  · intro _ h
    replace h : ref18_index_k1 = some r := h
    unfold ref18_index_k1 at h
    refine WP.seq (WP.region (WPr.sil htt 1 rfl (WPr.nil (?_))))
    cases h
    exact WP.ret htt Tryz.func76 [] rfl rfl rfl rfl
  refine WP.block (?_)
  refine WP.loopI (σ := Int) (fun st => ⟨[(0, .S 0), (1, .c (.s s_)), (5, .I st)], [], [(0, .sl rS l_)], 1⟩) (fun n st => ref18_index_l2 l_ s_ n st) (r := r) (fun _ => rfl) ?_ (fun ih => ?_)
  · intro n2 ih3
    intro v5_3 h
    replace h : ref18_index_l2 l_ s_ (n2 + 1) v5_3 = some r := h
    unfold ref18_index_l2 at h
    refine WP.seq (WP.seq (WP.region (WPr.silx [] ⟨[(0, .S 0), (1, .c (.s s_)), (5, .I v5_3), (9, .O (decide (v5_3 < (l_.length : Int))))], [], [(0, .sl rS l_)], 1⟩ htt 4 (by kernel_rfl) (WPr.nil (?_)))))
    rcases oc' h with ⟨hc, h⟩ | ⟨hc, h⟩
    · exact WP.condF hc rfl (WP.exit rfl (WP.sub [] (j1 () h) rfl rfl rfl rfl))
    refine WP.condT hc rfl (WP.skip (WP.seq (WP.block (WP.seq (WP.region (WPr.sil htt 2 rfl (?_)))))))
    obtain ⟨x9, hx9, h⟩ := ob h
    refine WPr.ix oS htt hx9 rfl rfl rfl rfl rfl rfl rfl rfl rfl (WPr.silx [] ⟨[(0, .S 0), (1, .c (.s s_)), (5, .I v5_3), (17, .O (x9.toList == s_.toList))], [], [(0, .sl rS l_)], 2⟩ htt 3 (by kernel_rfl) (WPr.nil (?_)))
    rcases oc h with ⟨hc, h⟩ | ⟨hc, h⟩
    · refine WP.condT hc rfl (WP.seq (WP.region (WPr.sil htt 2 rfl (WPr.nil (?_)))))
      cases h
      exact WP.ret htt Tryz.func76 [] rfl rfl rfl rfl
    exact WP.condF hc rfl (WP.skip (WP.inBlock (WP.region (WPr.silx [] ⟨[(0, .S 0), (1, .c (.s s_)), (5, .I (w64 (v5_3 + (1 : Int))))], [], [(0, .sl rS l_)], 2⟩ htt 3 (by kernel_rfl) (WPr.nil (WP.sub [] (ih3 (w64 (v5_3 + (1 : Int))) h) rfl rfl rfl rfl))))))
  exact WP.sub [] (ih N (0 : Int) h) rfl rfl rfl rfl
theorem ref18_before_ct (N : Nat) (g_ : T_api_Global) (i_ : Int) (k_ : Int) (r : Bool) (h : ref18_before N g_ i_ k_ = some r) :
  Fn Tryz.prog 74 ⟨4, [.a (c_api_Global 0 1 2 3 g_), .I i_, .I k_], (v_api_Global 0 1 2 3 g_ []), [], 4, .O r, [], []⟩ := by
  refine Fn.intro _ _ Tryz.func74 rfl (by kernel_rfl) rfl (fun E F w => ?_)
  unfold ref18_before at h
  refine WP.seq (WP.region (WPr.sil htt 2 rfl (WPr.nil (WP.seq (WP.nm (fun A1 tA1 fA1 => ?_))))))
  have st1 : A1 0 ⟨[(3, .B 4 0)], [], [], [], 5, [(9, .B 4 6)], [], [], 5⟩ := tA1 _ _ (LS.sil htt rfl rfl rfl rfl rfl rfl)
  have st2 : A1 1 ⟨[(9, .B 4 6)], (v_api_Global 0 1 2 3 g_ []), [], [(4, .box (c_api_Global 0 1 2 3 g_) 27)], 5, [(10, .S 2)], [], [], 5⟩ := tA1 _ _ (LS.sil htt rfl rfl rfl rfl rfl rfl)
  have st3 : A1 2 ⟨[(1, .I i_)], [], [], [], 5, [(11, .I i_)], [], [], 5⟩ := tA1 _ _ (LS.sil htt rfl rfl rfl rfl rfl rfl)
  obtain ⟨x4, hx4, h⟩ := ob h
  have st5 : A1 3 ⟨[(10, .S 2), (11, .I i_)], [(2, .sl r_api_Edge g_.Edges)], [], [], 5, [(12, .P 5 0)], [(5, .pl (c_api_Edge x4))], [], 6⟩ := tA1 _ _ (LS.of rfl rfl rfl (fun _ _ _ _ _ _ _ k => WPr.ix o_api_Edge htt hx4 rfl rfl rfl rfl rfl rfl rfl rfl rfl (k)) rfl)
  have st6 : A1 4 ⟨[(12, .P 5 0)], [(5, .pl (c_api_Edge x4))], [], [], 6, [(13, .P 5 1)], [], [], 6⟩ := tA1 _ _ (LS.sil htt rfl rfl rfl rfl rfl rfl)
  have st7 : A1 5 ⟨[(13, .P 5 1)], [(5, .pl (c_api_Edge x4))], [], [], 6, [(14, .a (c_api_Interaction x4.Act))], [], [], 6⟩ := tA1 _ _ (LS.sil htt rfl rfl rfl rfl rfl rfl)
  have st8 : A1 6 ⟨[(3, .B 4 0)], [], [], [], 6, [(15, .B 4 6)], [], [], 6⟩ := tA1 _ _ (LS.sil htt rfl rfl rfl rfl rfl rfl)
  have st9 : A1 7 ⟨[(15, .B 4 6)], (v_api_Global 0 1 2 3 g_ []), [], [(4, .box (c_api_Global 0 1 2 3 g_) 27)], 6, [(16, .S 2)], [], [], 6⟩ := tA1 _ _ (LS.sil htt rfl rfl rfl rfl rfl rfl)
  have st10 : A1 8 ⟨[(2, .I k_)], [], [], [], 6, [(17, .I k_)], [], [], 6⟩ := tA1 _ _ (LS.sil htt rfl rfl rfl rfl rfl rfl)
  obtain ⟨x11, hx11, h⟩ := ob h
  have st12 : A1 9 ⟨[(16, .S 2), (17, .I k_)], [(2, .sl r_api_Edge g_.Edges)], [], [], 6, [(18, .P 6 0)], [(6, .pl (c_api_Edge x11))], [], 7⟩ := tA1 _ _ (LS.of rfl rfl rfl (fun _ _ _ _ _ _ _ k => WPr.ix o_api_Edge htt hx11 rfl rfl rfl rfl rfl rfl rfl rfl rfl (k)) rfl)
  have st13 : A1 10 ⟨[(18, .P 6 0)], [(6, .pl (c_api_Edge x11))], [], [], 7, [(19, .P 6 1)], [], [], 7⟩ := tA1 _ _ (LS.sil htt rfl rfl rfl rfl rfl rfl)
  have st14 : A1 11 ⟨[(19, .P 6 1)], [(6, .pl (c_api_Edge x11))], [], [], 7, [(20, .a (c_api_Interaction x11.Act))], [], [], 7⟩ := tA1 _ _ (LS.sil htt rfl rfl rfl rfl rfl rfl)
  have st15 : A1 12 ⟨[], [], [], [], 7, [(7, .B 7 0)], [], [(7, .box [.I (0 : Int), .I (0 : Int), .I (0 : Int)] 37)], 8⟩ := tA1 _ _ (LS.sil htt rfl rfl rfl rfl rfl rfl)
  have st16 : A1 13 ⟨[], [], [], [], 8, [(8, .B 8 0)], [], [(8, .box [.I (0 : Int), .I (0 : Int), .I (0 : Int)] 37)], 9⟩ := tA1 _ _ (LS.sil htt rfl rfl rfl rfl rfl rfl)
  have st17 : A1 14 ⟨[(7, .B 7 0), (14, .a (c_api_Interaction x4.Act))], [], [(7, .box [.I (0 : Int), .I (0 : Int), .I (0 : Int)] 37)], [], 9, [], [], [(7, .box (c_api_Interaction x4.Act) 37)], 9⟩ := tA1 _ _ (LS.sil htt rfl rfl rfl rfl rfl rfl)
  have st18 : A1 15 ⟨[(8, .B 8 0), (20, .a (c_api_Interaction x11.Act))], [], [(8, .box [.I (0 : Int), .I (0 : Int), .I (0 : Int)] 37)], [], 9, [], [], [(8, .box (c_api_Interaction x11.Act) 37)], 9⟩ := tA1 _ _ (LS.sil htt rfl rfl rfl rfl rfl rfl)
  refine WP.regionD (t := ⟨[(1, .I i_), (2, .I k_), (6, .O false), (7, .B 7 0), (8, .B 8 0)], [(7, .box (c_api_Interaction x4.Act) 37), (8, .box (c_api_Interaction x11.Act) 37)], (v_api_Global 0 1 2 3 g_ []), 9⟩) [0, 1, 0, 7, 15, 31, 0, 64, 0, 448, 960, 1984, 0, 0, 12351, 32767] (.cons (fA1 _ _ st1) (.cons (fA1 _ _ st2) (.cons (fA1 _ _ st3) (.cons (fA1 _ _ st5) (.cons (fA1 _ _ st6) (.cons (fA1 _ _ st7) (.cons (fA1 _ _ st8) (.cons (fA1 _ _ st9) (.cons (fA1 _ _ st10) (.cons (fA1 _ _ st12) (.cons (fA1 _ _ st13) (.cons (fA1 _ _ st14) (.cons (fA1 _ _ st15) (.cons (fA1 _ _ st16) (.cons (fA1 _ _ st17) (.cons (fA1 _ _ st18) .nil)))))))))))))))) (by kernel_rfl) (by kernel_rfl) (by kernel_rfl) (by kernel_rfl) (WP.seq (WP.seq (WP.region (WPr.silx [] ⟨[(1, .I i_), (2, .I k_), (6, .O false), (7, .B 7 0), (8, .B 8 0), (25, .O (x4.Act.To != x11.Act.To))], [(7, .box (c_api_Interaction x4.Act) 37), (8, .box (c_api_Interaction x11.Act) 37)], (v_api_Global 0 1 2 3 g_ []), 9⟩ htt 5 (by kernel_rfl) (WPr.nil (?_))))))
  rcases oc h with ⟨hc, h⟩ | ⟨hc, h⟩
  · refine WP.condT hc rfl (WP.seq (WP.region (WPr.silx [] ⟨[(6, .O (decide (x4.Act.To < x11.Act.To)))], [], (v_api_Global 0 1 2 3 g_ []), 9⟩ htt 6 (by kernel_rfl) (WPr.nil (?_)))))
    cases h
    exact WP.ret htt Tryz.func74 [] rfl rfl rfl rfl
  refine WP.condF hc rfl (WP.skip (WP.seq (WP.seq (WP.region (WPr.silx [] ⟨[(1, .I i_), (2, .I k_), (6, .O false), (7, .B 7 0), (8, .B 8 0), (35, .O (x4.Act.Label != x11.Act.Label))], [(7, .box (c_api_Interaction x4.Act) 37), (8, .box (c_api_Interaction x11.Act) 37)], (v_api_Global 0 1 2 3 g_ []), 9⟩ htt 5 (by kernel_rfl) (WPr.nil (?_)))))))
  rcases oc h with ⟨hc, h⟩ | ⟨hc, h⟩
  · refine WP.condT hc rfl (WP.seq (WP.region (WPr.silx [] ⟨[(6, .O (decide (x4.Act.Label < x11.Act.Label)))], [], (v_api_Global 0 1 2 3 g_ []), 9⟩ htt 6 (by kernel_rfl) (WPr.nil (?_)))))
    cases h
    exact WP.ret htt Tryz.func74 [] rfl rfl rfl rfl
  refine WP.condF hc rfl (WP.skip (WP.seq (WP.region (WPr.silx [] ⟨[(6, .O (decide (i_ < k_)))], [], (v_api_Global 0 1 2 3 g_ []), 9⟩ htt 4 (by kernel_rfl) (WPr.nil (?_))))))
  cases h
  exact WP.ret htt Tryz.func74 [] rfl rfl rfl rfl
theorem ref18_Edges_ct (N : Nat) (g_ : T_api_Global) (s_ : Int) (r : (List Int)) (h : ref18_Edges N g_ s_ = some r) :
  Fn Tryz.prog 28 ⟨4, [.a (c_api_Global 0 1 2 3 g_), .I s_], (v_api_Global 0 1 2 3 g_ []), [], 5, .S 4, [], [(4, .own (rI .i64) r true)]⟩ := by
  refine Fn.intro _ _ Tryz.func28 rfl (by kernel_rfl) rfl (fun E F w => ?_)
  unfold ref18_Edges at h
  refine WP.seq (WP.region (WPr.sil htt 2 rfl (WPr.nil (WP.seq (WP.region (WPr.silx [] ⟨[(1, .I s_), (2, .B 4 0), (4, .c .nil), (5, .c .nil)], [(4, .box (c_api_Global 0 1 2 3 g_) 27)], (v_api_Global 0 1 2 3 g_ []), 5⟩ htt 1 (by kernel_rfl) (WPr.nil (WP.seq (WP.seq (WP.region (WPr.sil htt 1 rfl (WPr.nil (?_)))))))))))))
  refine WP.cut (σ := (List Int)) (fun st => ⟨[(5, .S 5)], [(5, .own (rI .i64) st true)], (v_api_Global 0 1 2 3 g_ []), 6⟩) (fun st => ref18_Edges_k1 st = some r) ?_ (fun j1 => ?_)
  · intro v5_1 h
    replace h : ref18_Edges_k1 v5_1 = some r := h
    unfold ref18_Edges_k1 at h
    refine WP.seq (WP.region (WPr.sil htt 2 rfl (WPr.nil (?_))))
    cases h
    exact WP.ret htt Tryz.func28 [(4, .sl 5)] rfl rfl rfl rfl
  refine WP.block (?_)
  refine WP.loopI (σ := (List Int) × Int) (fun st => ⟨[(1, .I s_), (2, .B 4 0), (5, .S 5), (6, .I st.2)], [(4, .box (c_api_Global 0 1 2 3 g_) 27), (5, .own (rI .i64) st.1 true)], (v_api_Global 0 1 2 3 g_ []), 6⟩) (fun n st => ref18_Edges_l2 N g_ s_ n st.1 st.2) (r := r) (fun _ => rfl) ?_ (fun ih => ?_)
  · intro n12 ih12
    rintro ⟨v5_12, v6_12⟩ h
    replace h : ref18_Edges_l2 N g_ s_ (n12 + 1) v5_12 v6_12 = some r := h
    unfold ref18_Edges_l2 at h
    refine WP.seq (WP.seq (WP.region (WPr.silx [] ⟨[(1, .I s_), (2, .B 4 0), (5, .S 5), (6, .I v6_12), (12, .O (decide (v6_12 < (g_.Edges.length : Int))))], [(4, .box (c_api_Global 0 1 2 3 g_) 27), (5, .own (rI .i64) v5_12 true)], (v_api_Global 0 1 2 3 g_ []), 6⟩ htt 5 (by kernel_rfl) (WPr.nil (?_)))))
    rcases oc' h with ⟨hc, h⟩ | ⟨hc, h⟩
    · exact WP.condF hc rfl (WP.exit rfl (WP.sub [] (j1 v5_12 h) rfl rfl rfl rfl))
    refine WP.condT hc rfl (WP.skip (WP.seq (WP.block (WP.seq (WP.seq (WP.region (WPr.silx [3, 4, 5, 6, 7] ⟨[(1, .I s_), (2, .B 4 0), (5, .S 5), (6, .I v6_12), (16, .S 2), (17, .I v6_12)], [(4, .box (c_api_Global 0 1 2 3 g_) 27), (5, .own (rI .i64) v5_12 true)], (v_api_Global 0 1 2 3 g_ []), 6⟩ htt 3 (by kernel_rfl) (?_))))))))
    obtain ⟨x1619, hx1619, h⟩ := ob h
    refine WPr.ix o_api_Edge htt hx1619 rfl rfl rfl rfl rfl rfl rfl rfl rfl (WPr.silx [] ⟨[(1, .I s_), (2, .B 4 0), (5, .S 5), (6, .I v6_12), (22, .O (x1619.From != s_))], [(4, .box (c_api_Global 0 1 2 3 g_) 27), (5, .own (rI .i64) v5_12 true)], (v_api_Global 0 1 2 3 g_ []), 7⟩ htt 4 (by kernel_rfl) (WPr.nil (?_)))
    rcases oc h with ⟨hc, h⟩ | ⟨hc, h⟩
    · exact WP.condT hc rfl (WP.exit rfl (WP.region (WPr.silx [] ⟨[(1, .I s_), (2, .B 4 0), (5, .S 5), (6, .I (w64 (v6_12 + (1 : Int))))], [(4, .box (c_api_Global 0 1 2 3 g_) 27), (5, .own (rI .i64) v5_12 true)], (v_api_Global 0 1 2 3 g_ []), 7⟩ htt 3 (by kernel_rfl) (WPr.nil (WP.sub [] (ih12 (v5_12, (w64 (v6_12 + (1 : Int)))) h) rfl rfl rfl rfl)))))
    refine WP.condF hc rfl (WP.skip (WP.seq (WP.region (WPr.sil htt 1 rfl (WPr.nil (WP.seq (?_)))))))
    refine WP.cut (σ := Int) (fun st => ⟨[(1, .I s_), (2, .B 4 0), (5, .S 5), (6, .I v6_12), (7, .I st)], [(4, .box (c_api_Global 0 1 2 3 g_) 27), (5, .own (rI .i64) v5_12 true)], (v_api_Global 0 1 2 3 g_ []), 7⟩) (fun st => ref18_Edges_k3 v5_12 v6_12 (ref18_Edges_l2 N g_ s_ n12) st = some r) ?_ (fun j19 => ?_)
    · intro v7_19 h
      replace h : ref18_Edges_k3 v5_12 v6_12 (ref18_Edges_l2 N g_ s_ n12) v7_19 = some r := h
      unfold ref18_Edges_k3 at h
      refine WP.nm (fun A74 tA74 fA74 => ?_)
      have st1724 : A74 0 ⟨[(5, .S 5)], [], [], [], 7, [(38, .S 5)], [], [], 7⟩ := tA74 _ _ (LS.sil htt rfl rfl rfl rfl rfl rfl)
      have st1725 : A74 1 ⟨[(7, .I v7_19)], [], [], [], 7, [(39, .I v7_19)], [], [], 7⟩ := tA74 _ _ (LS.sil htt rfl rfl rfl rfl rfl rfl)
      obtain ⟨x1726, hx1726, h⟩ := ob h
      have st1727 : A74 2 ⟨[(38, .S 5), (39, .I v7_19)], [], [], [(5, .own (rI .i64) v5_12 true)], 7, [(40, .S 7)], [(7, .vw 5 none (some v7_19) ((rI .i64)).sz)], [], 8⟩ := tA74 _ _ (LS.of rfl rfl rfl (fun _ _ _ _ _ _ _ k => WPr.vw htt (l := none) (h := some (.i64, v7_19)) hx1726 rfl rfl rfl rfl rfl rfl rfl rfl rfl rfl (k)) rfl)
      have st1728 : A74 3 ⟨[(6, .I v6_12)], [], [], [], 8, [(41, .I v6_12)], [], [], 8⟩ := tA74 _ _ (LS.sil htt rfl rfl rfl rfl rfl rfl)
      have st1729 : A74 4 ⟨[(41, .I v6_12)], [], [], [], 8, [(42, .S 8)], [], [(8, .own (rI .i64) ([v6_12] : List Int) true)], 9⟩ := tA74 _ _ (LS.of rfl rfl rfl (fun _ _ _ _ _ _ _ k => WPr.bs (cs := [.I v6_12]) (oI .i64) htt ([v6_12] : List Int) rfl rfl rfl rfl rfl rfl (by kernel_rfl) (by exact (an rfl rfl)) rfl (k)) rfl)
      have st1730 : A74 5 ⟨[(5, .S 5)], [], [], [], 9, [(43, .S 5)], [], [], 9⟩ := tA74 _ _ (LS.sil htt rfl rfl rfl rfl rfl rfl)
      have st1731 : A74 6 ⟨[(7, .I v7_19)], [], [], [], 9, [(44, .I v7_19)], [], [], 9⟩ := tA74 _ _ (LS.sil htt rfl rfl rfl rfl rfl rfl)
      obtain ⟨x1732, hx1732, h⟩ := ob h
      have st1733 : A74 7 ⟨[(43, .S 5), (44, .I v7_19)], [], [], [(5, .own (rI .i64) v5_12 true)], 9, [(45, .S 9)], [(9, .vw 5 (some v7_19) none ((rI .i64)).sz)], [], 10⟩ := tA74 _ _ (LS.of rfl rfl rfl (fun _ _ _ _ _ _ _ k => WPr.vw htt (l := some (.i64, v7_19)) (h := none) hx1732 rfl rfl rfl rfl rfl rfl rfl rfl rfl rfl (k)) rfl)
      obtain ⟨x1734, hx1734, h⟩ := ob h
      have st1735 : A74 8 ⟨[(42, .S 8), (45, .S 9)], [(9, .vw 5 (some v7_19) none ((rI .i64)).sz)], [(8, .own (rI .i64) ([v6_12] : List Int) true)], [(5, .own (rI .i64) v5_12 true)], 10, [(46, .S 10)], [], [(8, .gone), (10, .own (rI .i64) x1734 true)], 11⟩ := tA74 _ _ (LS.of rfl rfl rfl (fun _ _ _ _ _ _ _ k => WPr.app htt hx1734 (by exact (srcV hx1732 rfl rfl)) rfl rfl rfl rfl rfl rfl rfl rfl rfl rfl (k)) rfl)
      obtain ⟨x1736, hx1736, h⟩ := ob h
      have st1737 : A74 9 ⟨[(40, .S 7), (46, .S 10)], [(7, .vw 5 none (some v7_19) ((rI .i64)).sz)], [(5, .own (rI .i64) v5_12 true)], [(10, .own (rI .i64) x1734 true)], 11, [(47, .S 11)], [], [(5, .gone), (7, .gone), (11, .own (rI .i64) x1736 true)], 12⟩ := tA74 _ _ (LS.of rfl rfl rfl (fun _ _ _ _ _ _ _ k => WPr.stl 7 hx1726 rfl rfl rfl (WPr.app htt hx1736 (by exact (srcO rfl)) rfl rfl rfl rfl rfl rfl rfl rfl rfl rfl (k))) rfl)
      have st1738 : A74 10 ⟨[(47, .S 11)], [], [], [], 12, [(5, .S 11)], [], [], 12⟩ := tA74 _ _ (LS.sil htt rfl rfl rfl rfl rfl rfl)
      exact WP.regionD (t := ⟨[(1, .I s_), (2, .B 4 0), (5, .S 11), (6, .I v6_12)], [(4, .box (c_api_Global 0 1 2 3 g_) 27), (11, .own (rI .i64) x1736 true)], (v_api_Global 0 1 2 3 g_ []), 12⟩) [0, 0, 3, 0, 8, 0, 0, 96, 248, 511, 1023] (.cons (fA74 _ _ st1724) (.cons (fA74 _ _ st1725) (.cons (fA74 _ _ st1727) (.cons (fA74 _ _ st1728) (.cons (fA74 _ _ st1729) (.cons (fA74 _ _ st1730) (.cons (fA74 _ _ st1731) (.cons (fA74 _ _ st1733) (.cons (fA74 _ _ st1735) (.cons (fA74 _ _ st1737) (.cons (fA74 _ _ st1738) .nil))))))))))) (by kernel_rfl) (by kernel_rfl) (by kernel_rfl) (by kernel_rfl) (WP.inBlock (WP.region (WPr.silx [] ⟨[(1, .I s_), (2, .B 4 0), (5, .S 11), (6, .I (w64 (v6_12 + (1 : Int))))], [(4, .box (c_api_Global 0 1 2 3 g_) 27), (11, .own (rI .i64) x1736 true)], (v_api_Global 0 1 2 3 g_ []), 12⟩ htt 3 (by kernel_rfl) (WPr.nil (WP.sub [(5, .sl 11)] (ih12 (x1736, (w64 (v6_12 + (1 : Int)))) h) rfl rfl rfl rfl)))))
    refine WP.block (?_)
    refine WP.loopI (σ := Int) (fun st => ⟨[(1, .I s_), (2, .B 4 0), (5, .S 5), (6, .I v6_12), (7, .I st)], [(4, .box (c_api_Global 0 1 2 3 g_) 27), (5, .own (rI .i64) v5_12 true)], (v_api_Global 0 1 2 3 g_ []), 7⟩) (fun n st => ref18_Edges_l4 N g_ v5_12 v6_12 (ref18_Edges_l2 N g_ s_ n12) n st) (r := r) (fun _ => rfl) ?_ (fun ih => ?_)
    · intro n14 ih21
      intro v7_21 h
      replace h : ref18_Edges_l4 N g_ v5_12 v6_12 (ref18_Edges_l2 N g_ s_ n12) (n14 + 1) v7_21 = some r := h
      unfold ref18_Edges_l4 at h
      refine WP.seq (WP.seq (WP.nm (fun A79 tA79 fA79 => ?_)))
      have st1844 : A79 0 ⟨[(7, .I v7_21)], [], [], [], 7, [(23, .I v7_21)], [], [], 7⟩ := tA79 _ _ (LS.sil htt rfl rfl rfl rfl rfl rfl)
      have st1845 : A79 1 ⟨[(5, .S 5)], [], [], [], 7, [(24, .S 5)], [], [], 7⟩ := tA79 _ _ (LS.sil htt rfl rfl rfl rfl rfl rfl)
      have st1846 : A79 2 ⟨[(24, .S 5)], [], [], [(5, .own (rI .i64) v5_12 true)], 7, [(25, .I (v5_12.length : Int))], [], [], 7⟩ := tA79 _ _ (LS.sil htt rfl rfl rfl rfl rfl rfl)
      have st1847 : A79 3 ⟨[(23, .I v7_21), (25, .I (v5_12.length : Int))], [], [], [], 7, [(26, .O (decide (v7_21 < (v5_12.length : Int))))], [], [], 7⟩ := tA79 _ _ (LS.sil htt rfl rfl rfl rfl rfl rfl)
      have st1848 : A79 4 ⟨[(26, .O (decide (v7_21 < (v5_12.length : Int))))], [], [], [], 7, [(27, .O (decide (v7_21 < (v5_12.length : Int))))], [], [], 7⟩ := tA79 _ _ (LS.sil htt rfl rfl rfl rfl rfl rfl)
      rcases oc' h with ⟨hc, h⟩ | ⟨hc, h⟩
      · have st1860 := tA79 _ _ (LS.kb hc rfl (fA79 _ _ st1848))
        have st1861 : A79 5 ⟨[(27, .O false)], [], [], [], 7, [(28, .u)], [], [], 7⟩ := tA79 _ _ (LS.skip rfl rfl rfl (.inr ⟨_, rfl, rfl⟩) rfl rfl)
        have st1862 : A79 6 ⟨[(27, .O false)], [], [], [], 7, [(29, .u)], [], [], 7⟩ := tA79 _ _ (LS.skip rfl rfl rfl (.inr ⟨_, rfl, rfl⟩) rfl rfl)
        have st1863 : A79 7 ⟨[(27, .O false)], [], [], [], 7, [(30, .u)], [], [], 7⟩ := tA79 _ _ (LS.skip rfl rfl rfl (.inr ⟨_, rfl, rfl⟩) rfl rfl)
        have st1864 : A79 8 ⟨[(27, .O false)], [], [], [], 7, [(31, .u)], [], [], 7⟩ := tA79 _ _ (LS.skip rfl rfl rfl (.inr ⟨_, rfl, rfl⟩) rfl rfl)
        have st1865 : A79 9 ⟨[(27, .O false)], [], [], [], 7, [(32, .u)], [], [], 7⟩ := tA79 _ _ (LS.skip rfl rfl rfl (.inr ⟨_, rfl, rfl⟩) rfl rfl)
        have st1866 : A79 10 ⟨[(27, .O false)], [], [], [], 7, [(33, .u)], [], [], 7⟩ := tA79 _ _ (LS.skip rfl rfl rfl (.inr ⟨_, rfl, rfl⟩) rfl rfl)
        have st1867 : A79 11 ⟨[(27, .O false)], [], [], [], 7, [(34, .u)], [], [], 7⟩ := tA79 _ _ (LS.skip rfl rfl rfl (.inr ⟨_, rfl, rfl⟩) rfl rfl)
        have st1868 : A79 12 ⟨[(27, .O false), (34, .u)], [], [], [], 7, [(35, .O false)], [], [], 7⟩ := tA79 _ _ (LS.sil htt rfl rfl rfl rfl rfl rfl)
        exact WP.regionD (t := ⟨[(1, .I s_), (2, .B 4 0), (5, .S 5), (6, .I v6_12), (7, .I v7_21), (35, .O false)], [(4, .box (c_api_Global 0 1 2 3 g_) 27), (5, .own (rI .i64) v5_12 true)], (v_api_Global 0 1 2 3 g_ []), 7⟩) [0, 0, 2, 7, 15, 31, 31, 31, 223, 479, 31, 2047, 4095] (.cons (fA79 _ _ st1844) (.cons (fA79 _ _ st1845) (.cons (fA79 _ _ st1846) (.cons (fA79 _ _ st1847) (.cons (fA79 _ _ st1860) (.cons (fA79 _ _ st1861) (.cons (fA79 _ _ st1862) (.cons (fA79 _ _ st1863) (.cons (fA79 _ _ st1864) (.cons (fA79 _ _ st1865) (.cons (fA79 _ _ st1866) (.cons (fA79 _ _ st1867) (.cons (fA79 _ _ st1868) .nil))))))))))))) (by kernel_rfl) (by kernel_rfl) (by kernel_rfl) (by kernel_rfl) (WP.condF rfl rfl (WP.exit rfl (WP.sub [] (j19 v7_21 h) rfl rfl rfl rfl)))
      have st1849 := tA79 _ _ (LS.kb hc rfl (fA79 _ _ st1848))
      have st1850 : A79 5 ⟨[(2, .B 4 0), (27, .O true)], (v_api_Global 0 1 2 3 g_ []), [], [(4, .box (c_api_Global 0 1 2 3 g_) 27)], 7, [(28, .a (c_api_Global 0 1 2 3 g_))], [], [], 7⟩ := tA79 _ _ (LS.sil htt rfl rfl rfl rfl rfl rfl)
      have st1851 : A79 6 ⟨[(5, .S 5), (27, .O true)], [], [], [], 7, [(29, .S 5)], [], [], 7⟩ := tA79 _ _ (LS.sil htt rfl rfl rfl rfl rfl rfl)
      have st1852 : A79 7 ⟨[(7, .I v7_21), (27, .O true)], [], [], [], 7, [(30, .I v7_21)], [], [], 7⟩ := tA79 _ _ (LS.sil htt rfl rfl rfl rfl rfl rfl)
      obtain ⟨x1853, hx1853, h⟩ := ob h
      have st1854 : A79 8 ⟨[(27, .O true), (29, .S 5), (30, .I v7_21)], [], [], [(5, .own (rI .i64) v5_12 true)], 7, [(31, .P 7 0)], [(7, .el 5 ((v7_21).toNat * ((rI .i64)).sz))], [], 8⟩ := tA79 _ _ (LS.of rfl rfl rfl (fun _ _ _ _ _ _ _ k => WPr.ixo htt hx1853 rfl rfl rfl rfl rfl rfl rfl rfl rfl (k)) rfl)
      have st1855 : A79 9 ⟨[(27, .O true), (31, .P 7 0)], [(7, .el 5 ((v7_21).toNat * ((rI .i64)).sz))], [], [(5, .own (rI .i64) v5_12 true)], 8, [(32, .I x1853)], [], [], 8⟩ := tA79 _ _ (LS.of rfl rfl rfl (fun _ _ _ _ _ _ _ k => WPr.ldo (oI .i64) htt hx1853 rfl rfl rfl rfl rfl rfl rfl rfl rfl rfl (k)) rfl)
      have st1856 : A79 10 ⟨[(6, .I v6_12), (27, .O true)], [], [], [], 8, [(33, .I v6_12)], [], [], 8⟩ := tA79 _ _ (LS.sil htt rfl rfl rfl rfl rfl rfl)
      obtain ⟨x1857, hx1857, h⟩ := ob h
      have st1858 : A79 11 ⟨[(27, .O true), (28, .a (c_api_Global 0 1 2 3 g_)), (32, .I x1853), (33, .I v6_12)], (v_api_Global 0 1 2 3 g_ []), [], [], 8, [(34, .O x1857)], [], [], 8⟩ := tA79 _ _ (LS.of rfl rfl rfl (fun _ _ _ _ _ _ _ k => WPr.call (ref18_before_ct N g_ x1853 v6_12 _ hx1857) [(0, .sl 0), (1, .sl 1), (2, .sl 2), (3, .sl 3)] [] rfl rfl rfl rfl rfl rfl rfl rfl (.inl rfl) rfl (k)) rfl)
      have st1859 : A79 12 ⟨[(27, .O true), (34, .O x1857)], [], [], [], 8, [(35, .O x1857)], [], [], 8⟩ := tA79 _ _ (LS.sil htt rfl rfl rfl rfl rfl rfl)
      refine WP.regionD (t := ⟨[(1, .I s_), (2, .B 4 0), (5, .S 5), (6, .I v6_12), (7, .I v7_21), (35, .O x1857)], [(4, .box (c_api_Global 0 1 2 3 g_) 27), (5, .own (rI .i64) v5_12 true)], (v_api_Global 0 1 2 3 g_ []), 8⟩) [0, 0, 2, 7, 15, 31, 31, 31, 223, 479, 31, 2047, 4095] (.cons (fA79 _ _ st1844) (.cons (fA79 _ _ st1845) (.cons (fA79 _ _ st1846) (.cons (fA79 _ _ st1847) (.cons (fA79 _ _ st1849) (.cons (fA79 _ _ st1850) (.cons (fA79 _ _ st1851) (.cons (fA79 _ _ st1852) (.cons (fA79 _ _ st1854) (.cons (fA79 _ _ st1855) (.cons (fA79 _ _ st1856) (.cons (fA79 _ _ st1858) (.cons (fA79 _ _ st1859) .nil))))))))))))) (by kernel_rfl) (by kernel_rfl) (by kernel_rfl) (by kernel_rfl) (?_)
      rcases oc h with ⟨hc, h⟩ | ⟨hc, h⟩
      · exact WP.condT hc rfl (WP.skip (WP.block (WP.region (WPr.silx [] ⟨[(1, .I s_), (2, .B 4 0), (5, .S 5), (6, .I v6_12), (7, .I (w64 (v7_21 + (1 : Int))))], [(4, .box (c_api_Global 0 1 2 3 g_) 27), (5, .own (rI .i64) v5_12 true)], (v_api_Global 0 1 2 3 g_ []), 8⟩ htt 3 (by kernel_rfl) (WPr.nil (WP.inBlock (WP.sub [] (ih21 (w64 (v7_21 + (1 : Int))) h) rfl rfl rfl rfl)))))))
      exact WP.condF hc rfl (WP.exit rfl (WP.sub [] (j19 v7_21 h) rfl rfl rfl rfl))
    exact WP.sub [] (ih N (0 : Int) h) rfl rfl rfl rfl
  exact WP.sub [(5, .nil)] (ih N (([] : List Int), (0 : Int)) h) rfl rfl rfl rfl
theorem ref18_Next_ct (N : Nat) (g_ : T_api_Global) (s_ : Int) (act_ : T_api_Interaction) (r : Int × Bool) (h : ref18_Next N g_ s_ act_ = some r) :
  Fn Tryz.prog 26 ⟨4, [.a (c_api_Global 0 1 2 3 g_), .I s_, .a (c_api_Interaction act_)], (v_api_Global 0 1 2 3 g_ []), [], 4, .t [.inl (.I r.1), .inl (.b r.2)], [], []⟩ := by
  refine Fn.intro _ _ Tryz.func26 rfl (by kernel_rfl) rfl (fun E F w => ?_)
  unfold ref18_Next at h
  refine WP.seq (WP.region (WPr.silx [] ⟨[(1, .I s_), (3, .B 4 0), (5, .B 5 0), (6, .I (0 : Int)), (7, .O false)], [(4, .box (c_api_Global 0 1 2 3 g_) 27), (5, .box (c_api_Interaction act_) 37)], (v_api_Global 0 1 2 3 g_ []), 6⟩ htt 4 (by kernel_rfl) (WPr.nil (WP.seq (WP.seq (WP.region (WPr.sil htt 1 rfl (WPr.nil (?_)))))))))
  refine WP.cut (σ := Unit) (fun st => ⟨[], [], (v_api_Global 0 1 2 3 g_ []), 6⟩) (fun st => ref18_Next_k1 = some r) ?_ (fun j1 => ?_)
  · intro _ h
    replace h : ref18_Next_k1 = some r := h
    unfold ref18_Next_k1 at h
    refine WP.seq (WP.region (WPr.sil htt 2 rfl (WPr.nil (?_))))
    cases h
    exact WP.ret htt Tryz.func26 [] rfl rfl rfl rfl
  refine WP.block (?_)
  refine WP.loopI (σ := Int) (fun st => ⟨[(1, .I s_), (3, .B 4 0), (5, .B 5 0), (8, .I st)], [(4, .box (c_api_Global 0 1 2 3 g_) 27), (5, .box (c_api_Interaction act_) 37)], (v_api_Global 0 1 2 3 g_ []), 6⟩) (fun n st => ref18_Next_l2 g_ s_ act_ n st) (r := r) (fun _ => rfl) ?_ (fun ih => ?_)
  · intro n2 ih3
    intro v8_3 h
    replace h : ref18_Next_l2 g_ s_ act_ (n2 + 1) v8_3 = some r := h
    unfold ref18_Next_l2 at h
    refine WP.seq (WP.seq (WP.region (WPr.silx [] ⟨[(1, .I s_), (3, .B 4 0), (5, .B 5 0), (8, .I v8_3), (13, .O (decide (v8_3 < (g_.Edges.length : Int))))], [(4, .box (c_api_Global 0 1 2 3 g_) 27), (5, .box (c_api_Interaction act_) 37)], (v_api_Global 0 1 2 3 g_ []), 6⟩ htt 5 (by kernel_rfl) (WPr.nil (?_)))))
    rcases oc' h with ⟨hc, h⟩ | ⟨hc, h⟩
    · exact WP.condF hc rfl (WP.exit rfl (WP.sub [] (j1 () h) rfl rfl rfl rfl))
    refine WP.condT hc rfl (WP.skip (WP.seq (WP.block (WP.seq (WP.regionQ (by kernel_rfl) (by kernel_rfl) (WPq.silx (rg 3 15) ⟨[(1, .I s_), (3, .B 4 0), (5, .B 5 0), (8, .I v8_3), (17, .S 2), (18, .I v8_3)], [(4, .box (c_api_Global 0 1 2 3 g_) 27), (5, .box (c_api_Interaction act_) 37)], (v_api_Global 0 1 2 3 g_ []), 6⟩ htt 3 (by kernel_rfl) (?_)))))))
    obtain ⟨x43, hx43, h⟩ := ob h
    refine WPq.op rfl rfl (VN.vs (VN.ix o_api_Edge htt hx43 rfl rfl rfl rfl rfl rfl rfl)) (WPq.silx (rg 9 9) ⟨[(1, .I s_), (3, .B 4 0), (5, .B 5 0), (8, .I v8_3), (24, .O (x43.From == s_))], [(4, .box (c_api_Global 0 1 2 3 g_) 27), (5, .box (c_api_Interaction act_) 37)], (v_api_Global 0 1 2 3 g_ []), 7⟩ htt 5 (by kernel_rfl) (?_))
    rcases oc' h with ⟨hc, h⟩ | ⟨hc, h⟩
    · exact WPq.kb 24 hc rfl (WPq.silx [] ⟨[(1, .I s_), (3, .B 4 0), (5, .B 5 0), (8, .I v8_3), (33, .O false)], [(4, .box (c_api_Global 0 1 2 3 g_) 27), (5, .box (c_api_Interaction act_) 37)], (v_api_Global 0 1 2 3 g_ []), 7⟩ htt 9 (by kernel_rfl) (WPq.nil (WP.condF rfl rfl (WP.skip (WP.inBlock (WP.region (WPr.silx [] ⟨[(1, .I s_), (3, .B 4 0), (5, .B 5 0), (8, .I (w64 (v8_3 + (1 : Int))))], [(4, .box (c_api_Global 0 1 2 3 g_) 27), (5, .box (c_api_Interaction act_) 37)], (v_api_Global 0 1 2 3 g_ []), 7⟩ htt 3 (by kernel_rfl) (WPr.nil (WP.sub [] (ih3 (w64 (v8_3 + (1 : Int))) h) rfl rfl rfl rfl)))))))))
    refine WPq.kb 24 hc rfl (WPq.silx (rg 12 6) ⟨[(1, .I s_), (3, .B 4 0), (5, .B 5 0), (8, .I v8_3), (24, .O true), (26, .S 2), (27, .I v8_3)], [(4, .box (c_api_Global 0 1 2 3 g_) 27), (5, .box (c_api_Interaction act_) 37)], (v_api_Global 0 1 2 3 g_ []), 7⟩ htt 3 (by kernel_rfl) (?_))
    obtain ⟨x44, hx44, h⟩ := ob h
    refine WPq.op rfl rfl (VN.vs (VN.ix o_api_Edge htt hx44 rfl rfl rfl rfl rfl rfl rfl)) (WPq.silx [16, 17] ⟨[(1, .I s_), (3, .B 4 0), (5, .B 5 0), (8, .I v8_3), (24, .O true), (30, .a (c_api_Interaction x44.Act)), (31, .a (c_api_Interaction act_))], [(4, .box (c_api_Global 0 1 2 3 g_) 27), (5, .box (c_api_Interaction act_) 37)], (v_api_Global 0 1 2 3 g_ []), 8⟩ htt 3 (by kernel_rfl) (WPq.op rfl rfl (VN.vs (VN.eqa (neg := false) (equal_run (b := ((x44.Act.From == act_.From) && ((x44.Act.To == act_.To) && ((x44.Act.Label == act_.Label) && true)))) (by kernel_rfl) (by kernel_rfl)) (by kernel_rfl) rfl rfl rfl rfl rfl)) (WPq.sil htt 1 rfl (WPq.nil (?_)))))
    rcases oc' h with ⟨hc, h⟩ | ⟨hc, h⟩
    · exact WP.condF hc rfl (WP.skip (WP.inBlock (WP.region (WPr.silx [] ⟨[(1, .I s_), (3, .B 4 0), (5, .B 5 0), (8, .I (w64 (v8_3 + (1 : Int))))], [(4, .box (c_api_Global 0 1 2 3 g_) 27), (5, .box (c_api_Interaction act_) 37)], (v_api_Global 0 1 2 3 g_ []), 8⟩ htt 3 (by kernel_rfl) (WPr.nil (WP.sub [] (ih3 (w64 (v8_3 + (1 : Int))) h) rfl rfl rfl rfl))))))
    refine WP.condT hc rfl (WP.seq (WP.region (WPr.silx [3, 4, 5, 6, 7] ⟨[(35, .S 2), (36, .I v8_3)], [], (v_api_Global 0 1 2 3 g_ []), 8⟩ htt 3 (by kernel_rfl) (?_))))
    obtain ⟨x45, hx45, h⟩ := ob h
    refine WPr.ix o_api_Edge htt hx45 rfl rfl rfl rfl rfl rfl rfl rfl rfl (WPr.silx [] ⟨[(6, .I x45.To), (7, .O true)], [], (v_api_Global 0 1 2 3 g_ []), 9⟩ htt 4 (by kernel_rfl) (WPr.nil (?_)))
    cases h
    exact WP.ret htt Tryz.func26 [] rfl rfl rfl rfl
  exact WP.sub [] (ih N (0 : Int) h) rfl rfl rfl rfl
theorem ref01_SameInts_ct (N : Nat) (a_ : (List Int)) (b_ : (List Int)) (r : Bool) (h : ref01_SameInts N a_ b_ = some r) :
  Fn Tryz.prog 27 ⟨2, [.S 0, .S 1], [(0, .sl (rI .i64) a_), (1, .sl (rI .i64) b_)], [], 2, .O r, [], []⟩ := by
  refine Fn.intro _ _ Tryz.func27 rfl (by kernel_rfl) rfl (fun E F w => ?_)
  unfold ref01_SameInts at h
  refine WP.seq (WP.region (WPr.sil htt 1 rfl (WPr.nil (WP.seq (WP.seq (WP.region (WPr.silx [] ⟨[(0, .S 0), (1, .S 1), (4, .O false), (10, .O ((a_.length : Int) != (b_.length : Int)))], [], [(0, .sl (rI .i64) a_), (1, .sl (rI .i64) b_)], 2⟩ htt 5 (by kernel_rfl) (WPr.nil (?_)))))))))
  rcases oc h with ⟨hc, h⟩ | ⟨hc, h⟩
  · refine WP.condT hc rfl (WP.seq (WP.region (WPr.sil htt 1 rfl (WPr.nil (?_)))))
    cases h
    exact WP.ret htt Tryz.func27 [] rfl rfl rfl rfl
  refine WP.condF hc rfl (WP.skip (WP.seq (WP.seq (WP.region (WPr.sil htt 1 rfl (WPr.nil (?_)))))))
  refine WP.cut (σ := Unit) (fun st => ⟨[], [], [(0, .sl (rI .i64) a_), (1, .sl (rI .i64) b_)], 2⟩) (fun st => ref01_SameInts_k1 = some r) ?_ (fun j1 => ?_)
  · intro _ h
    replace h : ref01_SameInts_k1 = some r := h
    unfold ref01_SameInts_k1 at h
    refine WP.seq (WP.region (WPr.sil htt 1 rfl (WPr.nil (?_))))
    cases h
    exact WP.ret htt Tryz.func27 [] rfl rfl rfl rfl
  refine WP.block (?_)
  refine WP.loopI (σ := Int) (fun st => ⟨[(0, .S 0), (1, .S 1), (5, .I st)], [], [(0, .sl (rI .i64) a_), (1, .sl (rI .i64) b_)], 2⟩) (fun n st => ref01_SameInts_l2 a_ b_ n st) (r := r) (fun _ => rfl) ?_ (fun ih => ?_)
  · intro n2 ih3
    intro v5_3 h
    replace h : ref01_SameInts_l2 a_ b_ (n2 + 1) v5_3 = some r := h
    unfold ref01_SameInts_l2 at h
    refine WP.seq (WP.seq (WP.region (WPr.silx [] ⟨[(0, .S 0), (1, .S 1), (5, .I v5_3), (14, .O (decide (v5_3 < (a_.length : Int))))], [], [(0, .sl (rI .i64) a_), (1, .sl (rI .i64) b_)], 2⟩ htt 4 (by kernel_rfl) (WPr.nil (?_)))))
    rcases oc' h with ⟨hc, h⟩ | ⟨hc, h⟩
    · exact WP.condF hc rfl (WP.exit rfl (WP.sub [] (j1 () h) rfl rfl rfl rfl))
    refine WP.condT hc rfl (WP.skip (WP.seq (WP.block (WP.seq (WP.regionQ (by kernel_rfl) (by kernel_rfl) (WPq.sil htt 2 rfl (?_)))))))
    obtain ⟨x35, hx35, h⟩ := ob h
    refine WPq.op rfl rfl (VN.vs (VN.ix (oI .i64) htt hx35 rfl rfl rfl rfl rfl rfl rfl)) (WPq.silx [6, 7, 8] ⟨[(0, .S 0), (1, .S 1), (5, .I v5_3), (20, .I x35), (21, .S 1), (22, .I v5_3)], [], [(0, .sl (rI .i64) a_), (1, .sl (rI .i64) b_)], 3⟩ htt 3 (by kernel_rfl) (?_))
    obtain ⟨x36, hx36, h⟩ := ob h
    refine WPq.op rfl rfl (VN.vs (VN.ix (oI .i64) htt hx36 rfl rfl rfl rfl rfl rfl rfl)) (WPq.silx [] ⟨[(0, .S 0), (1, .S 1), (5, .I v5_3), (25, .O (x35 != x36))], [], [(0, .sl (rI .i64) a_), (1, .sl (rI .i64) b_)], 4⟩ htt 2 (by kernel_rfl) (WPq.nil (?_)))
    rcases oc h with ⟨hc, h⟩ | ⟨hc, h⟩
    · refine WP.condT hc rfl (WP.seq (WP.region (WPr.sil htt 1 rfl (WPr.nil (?_)))))
      cases h
      exact WP.ret htt Tryz.func27 [] rfl rfl rfl rfl
    exact WP.condF hc rfl (WP.skip (WP.inBlock (WP.region (WPr.silx [] ⟨[(0, .S 0), (1, .S 1), (5, .I (w64 (v5_3 + (1 : Int))))], [], [(0, .sl (rI .i64) a_), (1, .sl (rI .i64) b_)], 4⟩ htt 3 (by kernel_rfl) (WPr.nil (WP.sub [] (ih3 (w64 (v5_3 + (1 : Int))) h) rfl rfl rfl rfl))))))
  exact WP.sub [] (ih N (0 : Int) h) rfl rfl rfl rfl
theorem global_Role_ct (N : Nat) (g_ : T_api_Global) (name_ : ByteArray) (r : Int) (h : global_Role N g_ name_ = some r) :
  Fn Tryz.prog 29 ⟨4, [.a (c_api_Global 0 1 2 3 g_), .c (.s name_)], (v_api_Global 0 1 2 3 g_ []), [], 4, .I r, [], []⟩ := by
  refine Fn.intro _ _ Tryz.func29 rfl (by kernel_rfl) rfl (fun E F w => ?_)
  unfold global_Role at h
  refine WP.seq (WP.region (WPr.sil htt 2 rfl (WPr.nil (WP.seq (WP.region (WPr.silx [3, 4] ⟨[(6, .S 0), (7, .c (.s name_))], [], (v_api_Global 0 1 2 3 g_ []), 5⟩ htt 3 (by kernel_rfl) (?_)))))))
  obtain ⟨x1, hx1, h⟩ := ob h
  refine WPr.call (slices_Index_string_string_ct N g_.Roles name_ _ hx1) [(0, .sl 0)] [] rfl rfl rfl rfl rfl rfl rfl rfl (.inl rfl) rfl (WPr.silx [] ⟨[(4, .I x1)], [], (v_api_Global 0 1 2 3 g_ []), 5⟩ htt 1 (by kernel_rfl) (WPr.nil (?_)))
  cases h
  exact WP.ret htt Tryz.func29 [] rfl rfl rfl rfl
theorem ref18_Role_ct (N : Nat) (g_ : T_api_Global) (name_ : ByteArray) (r : Int) (h : ref18_Role N g_ name_ = some r) :
  Fn Tryz.prog 30 ⟨4, [.a (c_api_Global 0 1 2 3 g_), .c (.s name_)], (v_api_Global 0 1 2 3 g_ []), [], 4, .I r, [], []⟩ := by
  refine Fn.intro _ _ Tryz.func30 rfl (by kernel_rfl) rfl (fun E F w => ?_)
  unfold ref18_Role at h
  refine WP.seq (WP.region (WPr.sil htt 2 rfl (WPr.nil (WP.seq (WP.region (WPr.silx [3, 4] ⟨[(6, .S 0), (7, .c (.s name_))], [], (v_api_Global 0 1 2 3 g_ []), 5⟩ htt 3 (by kernel_rfl) (?_)))))))
  obtain ⟨x1, hx1, h⟩ := ob h
  refine WPr.call (ref18_index_ct N g_.Roles name_ _ hx1) [(0, .sl 0)] [] rfl rfl rfl rfl rfl rfl rfl rfl (.inl rfl) rfl (WPr.silx [] ⟨[(4, .I x1)], [], (v_api_Global 0 1 2 3 g_ []), 5⟩ htt 1 (by kernel_rfl) (WPr.nil (?_)))
  cases h
  exact WP.ret htt Tryz.func30 [] rfl rfl rfl rfl
theorem ref18_Label_ct (N : Nat) (g_ : T_api_Global) (name_ : ByteArray) (r : Int) (h : ref18_Label N g_ name_ = some r) :
  Fn Tryz.prog 32 ⟨4, [.a (c_api_Global 0 1 2 3 g_), .c (.s name_)], (v_api_Global 0 1 2 3 g_ []), [], 4, .I r, [], []⟩ := by
  refine Fn.intro _ _ Tryz.func32 rfl (by kernel_rfl) rfl (fun E F w => ?_)
  unfold ref18_Label at h
  refine WP.seq (WP.region (WPr.sil htt 2 rfl (WPr.nil (WP.seq (WP.seq (WP.region (WPr.silx [] ⟨[(1, .c (.s name_)), (2, .B 4 0), (4, .I (0 : Int)), (5, .I (0 : Int))], [(4, .box (c_api_Global 0 1 2 3 g_) 27)], (v_api_Global 0 1 2 3 g_ []), 5⟩ htt 1 (by kernel_rfl) (WPr.nil (?_)))))))))
  refine WP.cut (σ := Unit) (fun st => ⟨[], [], (v_api_Global 0 1 2 3 g_ []), 5⟩) (fun st => ref18_Label_k1 = some r) ?_ (fun j1 => ?_)
  · intro _ h
    replace h : ref18_Label_k1 = some r := h
    unfold ref18_Label_k1 at h
    refine WP.seq (WP.region (WPr.sil htt 1 rfl (WPr.nil (?_))))
    cases h
    exact WP.ret htt Tryz.func32 [] rfl rfl rfl rfl
  refine WP.block (?_)
  refine WP.loopI (σ := Int) (fun st => ⟨[(1, .c (.s name_)), (2, .B 4 0), (5, .I st)], [(4, .box (c_api_Global 0 1 2 3 g_) 27)], (v_api_Global 0 1 2 3 g_ []), 5⟩) (fun n st => ref18_Label_l2 g_ name_ n st) (r := r) (fun _ => rfl) ?_ (fun ih => ?_)
  · intro n2 ih3
    intro v5_3 h
    replace h : ref18_Label_l2 g_ name_ (n2 + 1) v5_3 = some r := h
    unfold ref18_Label_l2 at h
    refine WP.seq (WP.seq (WP.region (WPr.silx [] ⟨[(1, .c (.s name_)), (2, .B 4 0), (5, .I v5_3), (10, .O (decide (v5_3 < (g_.Decls.length : Int))))], [(4, .box (c_api_Global 0 1 2 3 g_) 27)], (v_api_Global 0 1 2 3 g_ []), 5⟩ htt 5 (by kernel_rfl) (WPr.nil (?_)))))
    rcases oc' h with ⟨hc, h⟩ | ⟨hc, h⟩
    · exact WP.condF hc rfl (WP.exit rfl (WP.sub [] (j1 () h) rfl rfl rfl rfl))
    refine WP.condT hc rfl (WP.skip (WP.seq (WP.block (WP.seq (WP.region (WPr.silx [3, 4, 5, 6, 7] ⟨[(1, .c (.s name_)), (2, .B 4 0), (5, .I v5_3), (14, .S 1), (15, .I v5_3)], [(4, .box (c_api_Global 0 1 2 3 g_) 27)], (v_api_Global 0 1 2 3 g_ []), 5⟩ htt 3 (by kernel_rfl) (?_)))))))
    obtain ⟨x9, hx9, h⟩ := ob h
    refine WPr.ix o_api_Decl htt hx9 rfl rfl rfl rfl rfl rfl rfl rfl rfl (WPr.silx [] ⟨[(1, .c (.s name_)), (2, .B 4 0), (5, .I v5_3), (20, .O (x9.Name.toList == name_.toList))], [(4, .box (c_api_Global 0 1 2 3 g_) 27)], (v_api_Global 0 1 2 3 g_ []), 9⟩ htt 4 (by kernel_rfl) (WPr.nil (?_)))
    rcases oc h with ⟨hc, h⟩ | ⟨hc, h⟩
    · refine WP.condT hc rfl (WP.seq (WP.region (WPr.sil htt 2 rfl (WPr.nil (?_)))))
      cases h
      exact WP.ret htt Tryz.func32 [] rfl rfl rfl rfl
    exact WP.condF hc rfl (WP.skip (WP.inBlock (WP.region (WPr.silx [] ⟨[(1, .c (.s name_)), (2, .B 4 0), (5, .I (w64 (v5_3 + (1 : Int))))], [(4, .box (c_api_Global 0 1 2 3 g_) 27)], (v_api_Global 0 1 2 3 g_ []), 9⟩ htt 3 (by kernel_rfl) (WPr.nil (WP.sub [] (ih3 (w64 (v5_3 + (1 : Int))) h) rfl rfl rfl rfl))))))
  exact WP.sub [] (ih N (0 : Int) h) rfl rfl rfl rfl
theorem ref14_SameDiffs_ct (N : Nat) (a_ : (List T_api_Diff)) (b_ : (List T_api_Diff)) (r : Bool) (h : ref14_SameDiffs N a_ b_ = some r) :
  Fn Tryz.prog 128 ⟨2, [.S 0, .S 1], [(0, .sl r_api_Diff a_), (1, .sl r_api_Diff b_)], [], 2, .O r, [], []⟩ := by
  refine Fn.intro _ _ Tryz.func128 rfl (by kernel_rfl) rfl (fun E F w => ?_)
  unfold ref14_SameDiffs at h
  refine WP.seq (WP.region (WPr.sil htt 1 rfl (WPr.nil (WP.seq (WP.seq (WP.region (WPr.silx [] ⟨[(0, .S 0), (1, .S 1), (4, .O false), (10, .O ((a_.length : Int) != (b_.length : Int)))], [], [(0, .sl r_api_Diff a_), (1, .sl r_api_Diff b_)], 2⟩ htt 5 (by kernel_rfl) (WPr.nil (?_)))))))))
  rcases oc h with ⟨hc, h⟩ | ⟨hc, h⟩
  · refine WP.condT hc rfl (WP.seq (WP.region (WPr.sil htt 1 rfl (WPr.nil (?_)))))
    cases h
    exact WP.ret htt Tryz.func128 [] rfl rfl rfl rfl
  refine WP.condF hc rfl (WP.skip (WP.seq (WP.seq (WP.region (WPr.sil htt 1 rfl (WPr.nil (?_)))))))
  refine WP.cut (σ := Unit) (fun st => ⟨[], [], [(0, .sl r_api_Diff a_), (1, .sl r_api_Diff b_)], 2⟩) (fun st => ref14_SameDiffs_k1 = some r) ?_ (fun j1 => ?_)
  · intro _ h
    replace h : ref14_SameDiffs_k1 = some r := h
    unfold ref14_SameDiffs_k1 at h
    refine WP.seq (WP.region (WPr.sil htt 1 rfl (WPr.nil (?_))))
    cases h
    exact WP.ret htt Tryz.func128 [] rfl rfl rfl rfl
  refine WP.block (?_)
  refine WP.loopI (σ := Int) (fun st => ⟨[(0, .S 0), (1, .S 1), (5, .I st)], [], [(0, .sl r_api_Diff a_), (1, .sl r_api_Diff b_)], 2⟩) (fun n st => ref14_SameDiffs_l2 a_ b_ n st) (r := r) (fun _ => rfl) ?_ (fun ih => ?_)
  · intro n2 ih3
    intro v5_3 h
    replace h : ref14_SameDiffs_l2 a_ b_ (n2 + 1) v5_3 = some r := h
    unfold ref14_SameDiffs_l2 at h
    refine WP.seq (WP.seq (WP.region (WPr.silx [] ⟨[(0, .S 0), (1, .S 1), (5, .I v5_3), (14, .O (decide (v5_3 < (a_.length : Int))))], [], [(0, .sl r_api_Diff a_), (1, .sl r_api_Diff b_)], 2⟩ htt 4 (by kernel_rfl) (WPr.nil (?_)))))
    rcases oc' h with ⟨hc, h⟩ | ⟨hc, h⟩
    · exact WP.condF hc rfl (WP.exit rfl (WP.sub [] (j1 () h) rfl rfl rfl rfl))
    refine WP.condT hc rfl (WP.skip (WP.seq (WP.block (WP.seq (WP.regionQ (by kernel_rfl) (by kernel_rfl) (WPq.sil htt 2 rfl (?_)))))))
    obtain ⟨x35, hx35, h⟩ := ob h
    refine WPq.op rfl rfl (VN.vs (VN.ix o_api_Diff htt hx35 rfl rfl rfl rfl rfl rfl rfl)) (WPq.silx [6, 7, 8] ⟨[(0, .S 0), (1, .S 1), (5, .I v5_3), (20, .a (c_api_Diff x35)), (21, .S 1), (22, .I v5_3)], [], [(0, .sl r_api_Diff a_), (1, .sl r_api_Diff b_)], 3⟩ htt 3 (by kernel_rfl) (?_))
    obtain ⟨x36, hx36, h⟩ := ob h
    refine WPq.op rfl rfl (VN.vs (VN.ix o_api_Diff htt hx36 rfl rfl rfl rfl rfl rfl rfl)) (WPq.sil htt 1 rfl (WPq.op rfl rfl (VN.vs (VN.eqa (neg := true) (equal_run (b := ((x35.X == x36.X) && ((x35.Y == x36.Y) && ((x35.C == x36.C) && true)))) (by kernel_rfl) (by kernel_rfl)) (by kernel_rfl) rfl rfl rfl rfl rfl)) (WPq.silx [] ⟨[(0, .S 0), (1, .S 1), (5, .I v5_3), (25, .O (!((x35.X == x36.X) && ((x35.Y == x36.Y) && ((x35.C == x36.C) && true)))))], [], [(0, .sl r_api_Diff a_), (1, .sl r_api_Diff b_)], 4⟩ htt 0 (by kernel_rfl) (WPq.nil (?_)))))
    rcases oc h with ⟨hc, h⟩ | ⟨hc, h⟩
    · refine WP.condT hc rfl (WP.seq (WP.region (WPr.sil htt 1 rfl (WPr.nil (?_)))))
      cases h
      exact WP.ret htt Tryz.func128 [] rfl rfl rfl rfl
    exact WP.condF hc rfl (WP.skip (WP.inBlock (WP.region (WPr.silx [] ⟨[(0, .S 0), (1, .S 1), (5, .I (w64 (v5_3 + (1 : Int))))], [], [(0, .sl r_api_Diff a_), (1, .sl r_api_Diff b_)], 4⟩ htt 3 (by kernel_rfl) (WPr.nil (WP.sub [] (ih3 (w64 (v5_3 + (1 : Int))) h) rfl rfl rfl rfl))))))
  exact WP.sub [] (ih N (0 : Int) h) rfl rfl rfl rfl
end Gx
end
