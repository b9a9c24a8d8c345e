/- Proved: the law GlobalDecode returns true and does not panic, for every argument within the stated size, and what the card of it ties. Conditions: none beside the statement. -/
import Derived.LaidLaws
import Derived.Test.YtenajajnbmfijaaGreatDoorCards
import Derived.Test.YtenajajnbmfijaaGreatDoorTie
import Derived.Test.YtenajajnbmfijaaGreatDoorGlobalDecodeWalk4
import Derived.Test.YtenajajnbmfijaaGreatDoorGlobalDecodePlain2
set_option linter.all false
section
open Go Go.Kx Go.Proofs Go.ChangeShapes Go.WideShapes Go.ChangeAt Go.RowKit Gx
namespace Go.Proofs.YtenajajnbmfijaaGreatDoor
theorem bulk_one {H : Type} (d : DataW H) : 1 ≤ Rows.uptoBulk d := by
  cases d with
  | lit l => cases l <;> simp [Rows.uptoBulk]
  | nil => simp [Rows.uptoBulk]
  | ptr d => simp [Rows.uptoBulk]
  | slice elems spare => simp [Rows.uptoBulk]
  | agg parts => simp [Rows.uptoBulk]
  | iface t d => simp [Rows.uptoBulk]
  | map entries => simp [Rows.uptoBulk]
  | held h => simp [Rows.uptoBulk]
def bk : Bulk := ⟨fun d => Rows.uptoBulk d, fun l => Rows.uptoBulkAll l, fun b => by simp [Rows.uptoBulk], fun e s => by simp [Rows.uptoBulk], fun l => by simp [Rows.uptoBulk], by simp [Rows.uptoBulkAll], fun d l => by simp [Rows.uptoBulkAll], bulk_one⟩
set_option maxRecDepth 20000 in
theorem rd_5 : Rdb Tryz.prog bk 5 (rI .u8) (fun x => (Lit.int .u8 x).wf = true) := by exact Rdb.int Tryz.underlying5 (by kernel_rfl)
set_option maxRecDepth 20000 in
theorem rd_61 : Rdb Tryz.prog bk 61 (rSl (rI .u8)) (fun x => x.length ≤ bd ∧ ∀ y ∈ x, (Lit.int .u8 y).wf = true) := by exact Rdb.slice Tryz.underlying61 (by kernel_rfl) rd_5
set_option maxRecDepth 20000 in
theorem contract (hplain : ∀ (x0 : (List Int)), (x0.length ≤ bd ∧ ∀ y ∈ x0, (Lit.int .u8 y).wf = true) → ∃ N, law18_GlobalDecode N x0 = some true) (H : Type) (enc : TypeId × Value → H) (W : World) (base : Nat) (args : Array Value) (ds gs : List (DataW H)) (before : List MemPlace)
    (hval : ∀ (j : Nat) t v, Tryz.f10.params[j]? = some t → args[j]? = some v → Value.okWide Tryz.prog W .any base t v)
    (hW : DataW.Whole enc Tryz.prog Tryz.f10.params.toList Rows.globalDecodeSpec.vars false W args.toList ds gs before) (hk : Rows.uptoSmall H (ds ++ gs) = true) :
    Calls Tryz.prog 10 args W fun e W' => ∃ v, e = .returned v ∧ Rows.globalDecodeSpec.post enc Tryz.prog Tryz.f10 false true false false W args v W' := by
  have hW0 := hW
  obtain ⟨p, q, hA0, hV, rfl, hz, hn⟩ := hW
  have hA : DataW.TrodAll enc Tryz.prog W 0 (fun _ => true) true [61] args.toList ds p := hA0
  obtain ⟨v0, vs0, d0, ds0, p0, q0, hargs, rfl, rfl, h0, r0⟩ := trodAll_cons hA
  obtain ⟨e1, rfl, rfl⟩ := trodAll_nil r0
  subst e1
  obtain rfl : args = #[v0] := by cases args; simpa using hargs
  obtain ⟨rfl, rfl⟩ := trodVars_none hV
  have hb : Rows.uptoBulkAll [d0] ≤ 1048576 := of_decide_eq_true hk
  simp only [Rows.uptoBulkAll] at hb
  obtain ⟨n0, hf0⟩ := h0
  obtain ⟨x0, hr0, ok0⟩ := rd_61.2 enc W n0 _ _ hf0 (by show Rows.uptoBulk d0 ≤ 1048576; omega)
  have o0 := Opened.start (Old W) W
  obtain ⟨E1, o1⟩ := o0.step (oSl (rI .u8)) hr0
  obtain ⟨N, hN⟩ := hplain x0 ok0
  have hc := law_calls (law18_GlobalDecode_ct N x0 true hN) rfl rfl (E := E1) (w := W) o1.one (o1.V rfl)
  have a0 : (((oSl (rI .u8)) : Opn _).cells 0 x0).map (den E1) = v0.cells.toList := (o1.args _ (List.mem_append.2 (.inr (List.mem_singleton.2 rfl)))).1
  have l0 := arg_leaf (P := Tryz.prog) (t := 61) (by kernel_rfl) (hval 0 61 v0 rfl rfl)
  rw [l0] at a0
  have b0 := (List.cons.inj a0).1
  have hc : Calls Tryz.prog 10 #[den E1 (.sl 0)] W _ := hc
  rw [b0] at hc
  refine hc.mono fun e W' ⟨he, hx⟩ => ⟨_, he, ?_⟩
  exact law_post (tb := 4) (by kernel_rfl) (by kernel_rfl) rfl (by kernel_rfl) (by kernel_rfl) hW0 rfl hx
theorem own : ownKnob Tryz.prog.godebug = none := by kernel_rfl
/-- A world for the witness: the settled one, the listed variables holding what they are laid with. -/
noncomputable def laidWorld (os : Os) : World := { World.holding Tryz.prog os ⟨#[], #[], []⟩ with heap := (((World.holding Tryz.prog os ⟨#[], #[], []⟩).heap).modify 2 (fun o => match o with | .cells _ t frozen => .cells (laidFlat 9 Rows.laid_unicode_utf8_acceptRanges).toArray t frozen | o => o)).modify 1 (fun o => match o with | .cells _ t frozen => .cells (laidFlat 9 Rows.laid_unicode_utf8_first).toArray t frozen | o => o) }
theorem laid_met (os : Os) : laidMet Tryz.prog Rows.globalDecodeUptoRow.laid ((laidWorld os).forCall (fun _ _ => 0) ⟨#[], #[(.slice none 0 0 : Value)], []⟩).memory :=
  laidMet_of_run' 8 (by kernel_rfl) (by kernel_rfl)
theorem reads (os : Os) {H : Type} (enc : TypeId × Value → H) : ∃ places, DataW.whole enc Tryz.prog ((laidWorld os).forCall (fun _ _ => 0) ⟨#[], #[(.slice none 0 0 : Value)], []⟩).memory Tryz.f10.params.toList Rows.globalDecodeSpec.vars false (#[(.slice none 0 0 : Value)] : Array Value).toList 12 = some ([.nil], [], places) :=
  ⟨[], by kernel_rfl⟩
set_option maxRecDepth 100000 in
theorem lifted (hplain : ∀ (x0 : (List Int)), (x0.length ≤ bd ∧ ∀ y ∈ x0, (Lit.int .u8 y).wf = true) → ∃ N, law18_GlobalDecode N x0 = some true) (os : Os) (started : os.Started) (H : Type) (enc : TypeId × Value → H) (F : Stop.Interp) :
    ReturnsInHanded {} Tryz.checked os 10 .any ((Rows.OpenSpec.upto Rows.globalDecodeSpec).preRow enc Tryz.prog Tryz.f10 Rows.globalDecodeUptoRow.domain false Rows.globalDecodeUptoRow.laid) (((Rows.OpenSpec.upto Rows.globalDecodeSpec).at F).post enc Tryz.prog Tryz.f10 false true false false) := by
  obtain ⟨places, hx⟩ := reads os enc
  refine returnsInHanded_of_row (C := Tryz.checked) (s := Rows.OpenSpec.upto Rows.globalDecodeSpec) own started (by kernel_rfl) Tryz.func10
    (witness_row_at (enc := enc) (C := Tryz.checked) false (laidWorld os) #[(.slice none 0 0 : Value)] rfl (by kernel_rfl) (by kernel_rfl) (by kernel_rfl)
      (OpenSpec.preRow_of_cond 12 hx (by kernel_rfl) (fun k hk => by cases hk; kernel_rfl) (by kernel_rfl) (laid_met os))) ?_
  intro W base args ds gs before hval hW _ hcond _ _ _ _
  exact contract hplain H enc W base args ds gs before hval hW (hcond _ rfl)
theorem said (hplain : ∀ (x0 : (List Int)), (x0.length ≤ bd ∧ ∀ y ∈ x0, (Lit.int .u8 y).wf = true) → ∃ N, law18_GlobalDecode N x0 = some true) : Rows.GlobalDecodeUptoSaid :=
  OpenClaim.holds_of_cond 10 Tryz.f10 rfl rfl rfl rfl rfl rfl rfl ⟨rfl, rfl, rfl, rfl, rfl⟩ rfl rfl rfl rfl rfl (by kernel_rfl) Tryz.func10 (by kernel_rfl)
    (of_decide_eq_true (by kernel_rfl)) (by unfold Func.isWrapper; first | (rw [if_pos (by decide +kernel)]; kernel_rfl) | (rw [if_neg (by decide +kernel)]; exact ⟨rfl, rfl⟩))
    (fun os started H enc _ F => by rw [OpenClaim.pre_eq_preRow]; exact lifted hplain os started H enc F)
theorem plainly (f : FuncId) (fn : Func) (hf : Tryz.pinned.checked.prog.funcNamed "farandole/farandolelaw18.GlobalDecode" = some f) (hfn : Tryz.pinned.checked.prog.funcs[f]? = some fn) :
    false = Tryz.pinned.checked.prog.looks [] ∧ ∀ (j : Nat) t, fn.params[j]? = some t → Tryz.pinned.checked.prog.wantsStandIn t = false := by
  obtain rfl : f = 10 := Option.some.inj ((show Tryz.prog.funcNamed "farandole/farandolelaw18.GlobalDecode" = some 10 by kernel_rfl).symm.trans hf) |>.symm
  obtain rfl : fn = Tryz.f10 := (Option.some.inj (Tryz.func10.symm.trans hfn)).symm
  refine ⟨by kernel_rfl, fun j t ht => ?_⟩
  have h : (Tryz.f10.params).all (fun t => !Tryz.pinned.checked.prog.wantsStandIn t) = true := by kernel_rfl
  have := Array.all_eq_true_iff_forall_mem.1 h t (Array.mem_of_getElem? ht)
  simpa using this
theorem card (hplain : ∀ (x0 : (List Int)), (x0.length ≤ bd ∧ ∀ y ∈ x0, (Lit.int .u8 y).wf = true) → ∃ N, law18_GlobalDecode N x0 = some true) : Rows.GlobalDecodeUptoCardSaid :=
  Claim7.holds_tied_plain_at .later [] _ _ _ _ (said hplain) (fun _ h => by cases h) (by kernel_rfl) (fun _ h => by cases h) globalDecodeUpto_row_tie rfl ⟨rfl, rfl⟩ (by kernel_rfl) rfl plainly (by kernel_rfl)
theorem proved : Rows.GlobalDecodeUptoCardSaid := card Gp.plain
end Go.Proofs.YtenajajnbmfijaaGreatDoor
end
