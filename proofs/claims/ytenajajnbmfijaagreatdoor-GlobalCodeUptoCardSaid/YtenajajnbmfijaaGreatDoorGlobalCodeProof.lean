/- Proved: the law GlobalCode returns true and does not panic, for every argument within the stated size, and what the card of it ties. Conditions: none beside the statement. -/
import Derived.LaidLaws
import Derived.Test.YtenajajnbmfijaaGreatDoorCards
import Derived.Test.YtenajajnbmfijaaGreatDoorTie
import Derived.Test.YtenajajnbmfijaaGreatDoorGlobalCodeWalk4
import Derived.Test.YtenajajnbmfijaaGreatDoorGlobalCodePlain3
set_option linter.all false
section
open Go Go.Kx Go.Proofs Go.ChangeShapes Go.WideShapes Go.ChangeAt Go.RowKit Gx
namespace Go.Proofs.YtenajajnbmfijaaGreatDoor
theorem bulk_one {H : Type} (d : DataW H) : 1 ≤ Rows.uptoBulk d := by
  cases d with
  | lit l => cases l <;> simp [Rows.uptoBulk]
  | nil => simp [Rows.uptoBulk]
  | ptr d => simp [Rows.uptoBulk]
  | slice elems spare => simp [Rows.uptoBulk]
  | agg parts => simp [Rows.uptoBulk]
  | iface t d => simp [Rows.uptoBulk]
  | map entries => simp [Rows.uptoBulk]
  | held h => simp [Rows.uptoBulk]
def bk : Bulk := ⟨fun d => Rows.uptoBulk d, fun l => Rows.uptoBulkAll l, fun b => by simp [Rows.uptoBulk], fun e s => by simp [Rows.uptoBulk], fun l => by simp [Rows.uptoBulk], by simp [Rows.uptoBulkAll], fun d l => by simp [Rows.uptoBulkAll], bulk_one⟩
set_option maxRecDepth 20000 in
theorem rd_9 : Rdb Tryz.prog bk 9 rS (fun x => x.size ≤ bd) := by exact Rdb.str Tryz.underlying9 (by kernel_rfl)
set_option maxRecDepth 20000 in
theorem rd_22 : Rdb Tryz.prog bk 22 (rSl rS) (fun x => x.length ≤ bd ∧ ∀ y ∈ x, y.size ≤ bd) := by exact Rdb.slice Tryz.underlying22 (by kernel_rfl) rd_9
set_option maxRecDepth 20000 in
theorem rd_3 : Rdb Tryz.prog bk 3 (rI .i64) (fun x => (Lit.int .i64 x).wf = true) := by exact Rdb.int Tryz.underlying3 (by kernel_rfl)
set_option maxRecDepth 20000 in
theorem rd_139 : Rdb Tryz.prog bk 139 rR7 k_api_Sort := by exact Rdb.struct (α := T7) (f := fun x => (x.Kind, x.Lo, x.Hi)) (g := fun y => ⟨y.1, y.2.1, y.2.2⟩) Tryz.underlying139 (by kernel_rfl) (fun _ => rfl) (RdF.cons rd_3 (RdF.cons rd_3 (RdF.one rd_3) rfl) rfl)
set_option maxRecDepth 20000 in
theorem rd_141 : Rdb Tryz.prog bk 141 rR3 k_api_Field := by exact Rdb.struct (α := T3) (f := fun x => (x.Name, x.Sort')) (g := fun y => ⟨y.1, y.2⟩) Tryz.underlying141 (by kernel_rfl) (fun _ => rfl) (RdF.cons rd_9 (RdF.one rd_139) rfl)
set_option maxRecDepth 20000 in
theorem rd_88 : Rdb Tryz.prog bk 88 (rSl rR3) (fun x => x.length ≤ bd ∧ ∀ y ∈ x, k_api_Field y) := by exact Rdb.slice Tryz.underlying88 (by kernel_rfl) rd_141
set_option maxRecDepth 20000 in
theorem rd_144 : Rdb Tryz.prog bk 144 rR1 k_api_Diff := by exact Rdb.struct (α := T1) (f := fun x => (x.X, x.Y, x.C)) (g := fun y => ⟨y.1, y.2.1, y.2.2⟩) Tryz.underlying144 (by kernel_rfl) (fun _ => rfl) (RdF.cons rd_3 (RdF.cons rd_3 (RdF.one rd_3) rfl) rfl)
set_option maxRecDepth 20000 in
theorem rd_89 : Rdb Tryz.prog bk 89 (rSl rR1) (fun x => x.length ≤ bd ∧ ∀ y ∈ x, k_api_Diff y) := by exact Rdb.slice Tryz.underlying89 (by kernel_rfl) rd_144
set_option maxRecDepth 20000 in
theorem rd_146 : Rdb Tryz.prog bk 146 (rP (rI .i64) (rI .i64)) (fun x => ((Lit.int .i64 x.1).wf = true) ∧ ((Lit.int .i64 x.2).wf = true)) := by exact Rdb.array Tryz.underlying146 (by kernel_rfl) (RdA.cons rd_3 (RdA.one rd_3))
set_option maxRecDepth 20000 in
theorem rd_90 : Rdb Tryz.prog bk 90 (rSl (rP (rI .i64) (rI .i64))) (fun x => x.length ≤ bd ∧ ∀ y ∈ x, ((Lit.int .i64 y.1).wf = true) ∧ ((Lit.int .i64 y.2).wf = true)) := by exact Rdb.slice Tryz.underlying90 (by kernel_rfl) rd_146
set_option maxRecDepth 20000 in
theorem rd_92 : Rdb Tryz.prog bk 92 rR5 k_api_Guard := by exact Rdb.struct (α := T5) (f := fun x => (x.Diffs, x.Equals)) (g := fun y => ⟨y.1, y.2⟩) Tryz.underlying92 (by kernel_rfl) (fun _ => rfl) (RdF.cons rd_89 (RdF.one rd_90) rfl)
set_option maxRecDepth 20000 in
theorem rd_94 : Rdb Tryz.prog bk 94 rR0 k_api_Decl := by exact Rdb.struct (α := T0) (f := fun x => (x.Name, x.Fields, x.First, x.Guard)) (g := fun y => ⟨y.1, y.2.1, y.2.2.1, y.2.2.2⟩) Tryz.underlying94 (by kernel_rfl) (fun _ => rfl) (RdF.cons rd_9 (RdF.cons rd_88 (RdF.cons rd_3 (RdF.one rd_92) rfl) rfl) rfl)
set_option maxRecDepth 20000 in
theorem rd_23 : Rdb Tryz.prog bk 23 (rSl rR0) (fun x => x.length ≤ bd ∧ ∀ y ∈ x, k_api_Decl y) := by exact Rdb.slice Tryz.underlying23 (by kernel_rfl) rd_94
set_option maxRecDepth 20000 in
theorem rd_37 : Rdb Tryz.prog bk 37 rR6 k_api_Interaction := by exact Rdb.struct (α := T6) (f := fun x => (x.From, x.To, x.Label)) (g := fun y => ⟨y.1, y.2.1, y.2.2⟩) Tryz.underlying37 (by kernel_rfl) (fun _ => rfl) (RdF.cons rd_3 (RdF.cons rd_3 (RdF.one rd_3) rfl) rfl)
set_option maxRecDepth 20000 in
theorem rd_4 : Rdb Tryz.prog bk 4 rB (fun x => True) := by exact Rdb.bool Tryz.underlying4 (by kernel_rfl)
set_option maxRecDepth 20000 in
theorem rd_43 : Rdb Tryz.prog bk 43 rR2 k_api_Edge := by exact Rdb.struct (α := T2) (f := fun x => (x.From, x.Act, x.To, x.Again)) (g := fun y => ⟨y.1, y.2.1, y.2.2.1, y.2.2.2⟩) Tryz.underlying43 (by kernel_rfl) (fun _ => rfl) (RdF.cons rd_3 (RdF.cons rd_37 (RdF.cons rd_3 (RdF.one rd_4) rfl) rfl) rfl)
set_option maxRecDepth 20000 in
theorem rd_24 : Rdb Tryz.prog bk 24 (rSl rR2) (fun x => x.length ≤ bd ∧ ∀ y ∈ x, k_api_Edge y) := by exact Rdb.slice Tryz.underlying24 (by kernel_rfl) rd_43
set_option maxRecDepth 20000 in
theorem rd_79 : Rdb Tryz.prog bk 79 rR8 k_api_Timeout := by exact Rdb.struct (α := T8) (f := fun x => (x.State, x.Ticks, x.Else)) (g := fun y => ⟨y.1, y.2.1, y.2.2⟩) Tryz.underlying79 (by kernel_rfl) (fun _ => rfl) (RdF.cons rd_3 (RdF.cons rd_3 (RdF.one rd_3) rfl) rfl)
set_option maxRecDepth 20000 in
theorem rd_25 : Rdb Tryz.prog bk 25 (rSl rR8) (fun x => x.length ≤ bd ∧ ∀ y ∈ x, k_api_Timeout y) := by exact Rdb.slice Tryz.underlying25 (by kernel_rfl) rd_79
set_option maxRecDepth 20000 in
theorem rd_27 : Rdb Tryz.prog bk 27 rR4 k_api_Global := by exact Rdb.struct (α := T4) (f := fun x => (x.Name, x.Roles, x.Decls, x.States, x.Start, x.End, x.Edges, x.Timeouts)) (g := fun y => ⟨y.1, y.2.1, y.2.2.1, y.2.2.2.1, y.2.2.2.2.1, y.2.2.2.2.2.1, y.2.2.2.2.2.2.1, y.2.2.2.2.2.2.2⟩) Tryz.underlying27 (by kernel_rfl) (fun _ => rfl) (RdF.cons rd_9 (RdF.cons rd_22 (RdF.cons rd_23 (RdF.cons rd_3 (RdF.cons rd_3 (RdF.cons rd_3 (RdF.cons rd_24 (RdF.one rd_25) rfl) rfl) rfl) rfl) rfl) rfl) rfl)
set_option maxRecDepth 20000 in
theorem contract (hplain : ∀ (x0 : T4), k_api_Global x0 → ∃ N, law18_GlobalCode N x0 = some true) (H : Type) (enc : TypeId × Value → H) (W : World) (base : Nat) (args : Array Value) (ds gs : List (DataW H)) (before : List MemPlace)
    (hval : ∀ (j : Nat) t v, Tryz.f9.params[j]? = some t → args[j]? = some v → Value.okWide Tryz.prog W .any base t v)
    (hW : DataW.Whole enc Tryz.prog Tryz.f9.params.toList Rows.globalCodeSpec.vars false W args.toList ds gs before) (hk : Rows.uptoSmall H (ds ++ gs) = true) :
    Calls Tryz.prog 9 args W fun e W' => ∃ v, e = .returned v ∧ Rows.globalCodeSpec.post enc Tryz.prog Tryz.f9 false true false false W args v W' := by
  have hW0 := hW
  obtain ⟨p, q, hA0, hV, rfl, hz, hn⟩ := hW
  have hA : DataW.TrodAll enc Tryz.prog W 0 (fun _ => true) true [27] args.toList ds p := hA0
  obtain ⟨v0, vs0, d0, ds0, p0, q0, hargs, rfl, rfl, h0, r0⟩ := trodAll_cons hA
  obtain ⟨e1, rfl, rfl⟩ := trodAll_nil r0
  subst e1
  obtain rfl : args = #[v0] := by cases args; simpa using hargs
  obtain ⟨rfl, rfl⟩ := trodVars_none hV
  have hb : Rows.uptoBulkAll [d0] ≤ 1048576 := of_decide_eq_true hk
  simp only [Rows.uptoBulkAll] at hb
  obtain ⟨n0, hf0⟩ := h0
  obtain ⟨x0, hr0, ok0⟩ := rd_27.2 enc W n0 _ _ hf0 (by show Rows.uptoBulk d0 ≤ 1048576; omega)
  have o0 := Opened.start (Old W) W
  obtain ⟨E1, o1⟩ := o0.step oO4 hr0
  obtain ⟨N, hN⟩ := hplain x0 ok0
  have hc := law_calls (law18_GlobalCode_ct N x0 true hN) rfl rfl (E := E1) (w := W) o1.one (o1.V rfl)
  have a0 : ((oO4 : Opn _).cells 0 x0).map (den E1) = v0.cells.toList := (o1.args _ (List.mem_append.2 (.inr (List.mem_singleton.2 rfl)))).1
  obtain ⟨cs0, rfl⟩ := arg_agg (P := Tryz.prog) (t := 27) (by kernel_rfl) (hval 0 27 v0 rfl rfl)
  have b0 : Value.agg ((((oO4 : Opn _).cells 0 x0).map (den E1)).toArray) = .agg cs0 := by rw [a0]; rfl
  have hc : Calls Tryz.prog 9 #[Value.agg ((((oO4 : Opn _).cells 0 x0).map (den E1)).toArray)] W _ := hc
  rw [b0] at hc
  refine hc.mono fun e W' ⟨he, hx⟩ => ⟨_, he, ?_⟩
  exact law_post (tb := 4) (by kernel_rfl) (by kernel_rfl) rfl (by kernel_rfl) (by kernel_rfl) hW0 rfl hx
theorem own : ownKnob Tryz.prog.godebug = none := by kernel_rfl
/-- A world for the witness: the settled one, the listed variables holding what they are laid with. -/
noncomputable def laidWorld (os : Os) : World := { World.holding Tryz.prog os ⟨#[], #[], []⟩ with heap := (((World.holding Tryz.prog os ⟨#[], #[], []⟩).heap).modify 2 (fun o => match o with | .cells _ t frozen => .cells (laidFlat 9 Rows.laid_unicode_utf8_acceptRanges).toArray t frozen | o => o)).modify 1 (fun o => match o with | .cells _ t frozen => .cells (laidFlat 9 Rows.laid_unicode_utf8_first).toArray t frozen | o => o) }
theorem laid_met (os : Os) : laidMet Tryz.prog Rows.globalCodeUptoRow.laid ((laidWorld os).forCall (fun _ _ => 0) ⟨#[], #[(.agg #[.string .empty, .slice none 0 0, .slice none 0 0, .int .i64 (0), .int .i64 (0), .int .i64 (0), .slice none 0 0, .slice none 0 0] : Value)], []⟩).memory :=
  laidMet_of_run' 8 (by kernel_rfl) (by kernel_rfl)
theorem reads (os : Os) {H : Type} (enc : TypeId × Value → H) : ∃ places, DataW.whole enc Tryz.prog ((laidWorld os).forCall (fun _ _ => 0) ⟨#[], #[(.agg #[.string .empty, .slice none 0 0, .slice none 0 0, .int .i64 (0), .int .i64 (0), .int .i64 (0), .slice none 0 0, .slice none 0 0] : Value)], []⟩).memory Tryz.f9.params.toList Rows.globalCodeSpec.vars false (#[(.agg #[.string .empty, .slice none 0 0, .slice none 0 0, .int .i64 (0), .int .i64 (0), .int .i64 (0), .slice none 0 0, .slice none 0 0] : Value)] : Array Value).toList 12 = some ([.agg [.lit (.string []), .nil, .nil, .lit (.int .i64 0), .lit (.int .i64 0), .lit (.int .i64 0), .nil, .nil]], [], places) :=
  ⟨[], by kernel_rfl⟩
set_option maxRecDepth 100000 in
theorem lifted (hplain : ∀ (x0 : T4), k_api_Global x0 → ∃ N, law18_GlobalCode N x0 = some true) (os : Os) (started : os.Started) (H : Type) (enc : TypeId × Value → H) (F : Stop.Interp) :
    ReturnsInHanded {} Tryz.checked os 9 .any ((Rows.OpenSpec.upto Rows.globalCodeSpec).preRow enc Tryz.prog Tryz.f9 Rows.globalCodeUptoRow.domain false Rows.globalCodeUptoRow.laid) (((Rows.OpenSpec.upto Rows.globalCodeSpec).at F).post enc Tryz.prog Tryz.f9 false true false false) := by
  obtain ⟨places, hx⟩ := reads os enc
  refine returnsInHanded_of_row (C := Tryz.checked) (s := Rows.OpenSpec.upto Rows.globalCodeSpec) own started (by kernel_rfl) Tryz.func9
    (witness_row_at (enc := enc) (C := Tryz.checked) false (laidWorld os) #[(.agg #[.string .empty, .slice none 0 0, .slice none 0 0, .int .i64 (0), .int .i64 (0), .int .i64 (0), .slice none 0 0, .slice none 0 0] : Value)] rfl (by kernel_rfl) (by kernel_rfl) (by kernel_rfl)
      (OpenSpec.preRow_of_cond 12 hx (by kernel_rfl) (fun k hk => by cases hk; kernel_rfl) (by kernel_rfl) (laid_met os))) ?_
  intro W base args ds gs before hval hW _ hcond _ _ _ _
  exact contract hplain H enc W base args ds gs before hval hW (hcond _ rfl)
theorem said (hplain : ∀ (x0 : T4), k_api_Global x0 → ∃ N, law18_GlobalCode N x0 = some true) : Rows.GlobalCodeUptoSaid :=
  OpenClaim.holds_of_cond 9 Tryz.f9 rfl rfl rfl rfl rfl rfl rfl ⟨rfl, rfl, rfl, rfl, rfl⟩ rfl rfl rfl rfl rfl (by kernel_rfl) Tryz.func9 (by kernel_rfl)
    (of_decide_eq_true (by kernel_rfl)) (by unfold Func.isWrapper; first | (rw [if_pos (by decide +kernel)]; kernel_rfl) | (rw [if_neg (by decide +kernel)]; exact ⟨rfl, rfl⟩))
    (fun os started H enc _ F => by rw [OpenClaim.pre_eq_preRow]; exact lifted hplain os started H enc F)
theorem plainly (f : FuncId) (fn : Func) (hf : Tryz.pinned.checked.prog.funcNamed "farandole/farandolelaw18.GlobalCode" = some f) (hfn : Tryz.pinned.checked.prog.funcs[f]? = some fn) :
    false = Tryz.pinned.checked.prog.looks [] ∧ ∀ (j : Nat) t, fn.params[j]? = some t → Tryz.pinned.checked.prog.wantsStandIn t = false := by
  obtain rfl : f = 9 := Option.some.inj ((show Tryz.prog.funcNamed "farandole/farandolelaw18.GlobalCode" = some 9 by kernel_rfl).symm.trans hf) |>.symm
  obtain rfl : fn = Tryz.f9 := (Option.some.inj (Tryz.func9.symm.trans hfn)).symm
  refine ⟨by kernel_rfl, fun j t ht => ?_⟩
  have h : (Tryz.f9.params).all (fun t => !Tryz.pinned.checked.prog.wantsStandIn t) = true := by kernel_rfl
  have := Array.all_eq_true_iff_forall_mem.1 h t (Array.mem_of_getElem? ht)
  simpa using this
theorem card (hplain : ∀ (x0 : T4), k_api_Global x0 → ∃ N, law18_GlobalCode N x0 = some true) : Rows.GlobalCodeUptoCardSaid :=
  Claim7.holds_tied_plain_at .later [] _ _ _ _ (said hplain) (fun _ h => by cases h) (by kernel_rfl) (fun _ h => by cases h) globalCodeUpto_row_tie rfl ⟨rfl, rfl⟩ (by kernel_rfl) rfl plainly (by kernel_rfl)
theorem proved : Rows.GlobalCodeUptoCardSaid := card Gp.plain
end Go.Proofs.YtenajajnbmfijaaGreatDoor
end
