/- Proved: the law ExpandApart returns true and does not panic, for every argument within the stated size, and what the card of it ties. Conditions: none beside the statement. -/
import Derived.LaidLaws
import Derived.Test.YtnlleampnlmdlaaGreatDoorCards
import Derived.Test.YtnlleampnlmdlaaGreatDoorTie
import Derived.Test.YtnlleampnlmdlaaGreatDoorExpandApartFacts
import Derived.Test.YtnlleampnlmdlaaGreatDoorExpandApartTold
import Derived.Test.YtnlleampnlmdlaaGreatDoorExpandApartLift
import Derived.Test.YtnlleampnlmdlaaGreatDoorExpandApartPlain2
set_option linter.all false
section
open Go Go.Kx Go.Proofs Go.ChangeShapes Go.WideShapes Go.ChangeAt Go.RowKit Gx
namespace Go.Proofs.YtnlleampnlmdlaaGreatDoor
theorem said (hplain : ∀ (x0 : (List T12)) (x1 : T12) (x2 : Int), ((x0.length ≤ bd ∧ ∀ y ∈ x0, k_ref10_Protocol y) ∧ wsum w_ref10_Protocol x0 ≤ bd) → ((k_ref10_Protocol x1) ∧ w_ref10_Protocol x1 ≤ bd) → ((Lit.int .u8 x2).wf = true) → ∃ N, law12_ExpandApart N x0 x1 x2 = some true) : Rows.ExpandApartUptoSaid :=
  OpenClaim.holds_of_cond 6 Tryz.f6 rfl rfl rfl rfl rfl rfl rfl ⟨rfl, rfl, rfl, rfl, rfl⟩ rfl rfl rfl rfl rfl (by kernel_rfl) Tryz.func6 closed
    (of_decide_eq_true (by kernel_rfl)) (by unfold Func.isWrapper; first | (rw [if_pos (by decide +kernel)]; kernel_rfl) | (rw [if_neg (by decide +kernel)]; exact ⟨rfl, rfl⟩))
    (fun os started H enc _ F => by rw [OpenClaim.pre_eq_preRow]; exact lifted hplain os started H enc F)
theorem plainly (f : FuncId) (fn : Func) (hf : Tryz.pinned.checked.prog.funcNamed "farandole/farandolelaw12.ExpandApart" = some f) (hfn : Tryz.pinned.checked.prog.funcs[f]? = some fn) :
    false = Tryz.pinned.checked.prog.looks [] ∧ ∀ (j : Nat) t, fn.params[j]? = some t → Tryz.pinned.checked.prog.wantsStandIn t = false := by
  obtain rfl : f = 6 := Option.some.inj ((show Tryz.prog.funcNamed "farandole/farandolelaw12.ExpandApart" = some 6 by kernel_rfl).symm.trans hf) |>.symm
  obtain rfl : fn = Tryz.f6 := (Option.some.inj (Tryz.func6.symm.trans hfn)).symm
  refine ⟨jN, fun j t ht => ?_⟩
  have h : (Tryz.f6.params).all (fun t => !Tryz.pinned.checked.prog.wantsStandIn t) = true := by kernel_rfl
  have := Array.all_eq_true_iff_forall_mem.1 h t (Array.mem_of_getElem? ht)
  simpa using this
theorem card (hplain : ∀ (x0 : (List T12)) (x1 : T12) (x2 : Int), ((x0.length ≤ bd ∧ ∀ y ∈ x0, k_ref10_Protocol y) ∧ wsum w_ref10_Protocol x0 ≤ bd) → ((k_ref10_Protocol x1) ∧ w_ref10_Protocol x1 ≤ bd) → ((Lit.int .u8 x2).wf = true) → ∃ N, law12_ExpandApart N x0 x1 x2 = some true) : Rows.ExpandApartUptoCardSaid :=
  Claim7.holds_tied_plain_at .later [] _ _ _ _ (said hplain) (fun _ h => by cases h) jW (fun _ h => by cases h) expandApartUpto_row_tie rfl ⟨rfl, rfl⟩ jM rfl plainly jG
theorem proved : Rows.ExpandApartUptoCardSaid := card Gp.plain
end Go.Proofs.YtnlleampnlmdlaaGreatDoor
end
