/- Proved: the law SyntaxPrint returns true and does not panic, for every argument within the stated size, and what the card of it ties. Conditions: none beside the statement. -/
import Derived.LaidLaws
import Derived.Test.YteimgnlbpphmjaaGreatDoorCards
import Derived.Test.YteimgnlbpphmjaaGreatDoorTie
import Derived.Test.YteimgnlbpphmjaaGreatDoorSyntaxPrintFacts
import Derived.Test.YteimgnlbpphmjaaGreatDoorSyntaxPrintTold
import Derived.Test.YteimgnlbpphmjaaGreatDoorSyntaxPrintLift
import Derived.Test.YteimgnlbpphmjaaGreatDoorSyntaxPrintPlain3
set_option linter.all false
section
open Go Go.Kx Go.Proofs Go.ChangeShapes Go.WideShapes Go.ChangeAt Go.RowKit Gx
namespace Go.Proofs.YteimgnlbpphmjaaGreatDoor
theorem said (hplain : ∀ (x0 : (List T7)), ((x0.length ≤ bd ∧ ∀ y ∈ x0, k_ref10_Protocol y) ∧ wsum w_ref10_Protocol x0 ≤ bd) → ∃ N, law10_SyntaxPrint N x0 = some true) : Rows.SyntaxPrintUptoSaid :=
  OpenClaim.holds_of_cond 4 Tryz.f4 rfl rfl rfl rfl rfl rfl rfl ⟨rfl, rfl, rfl, rfl, rfl⟩ rfl rfl rfl rfl rfl (by kernel_rfl) Tryz.func4 closed
    (of_decide_eq_true (by kernel_rfl)) (by unfold Func.isWrapper; first | (rw [if_pos (by decide +kernel)]; kernel_rfl) | (rw [if_neg (by decide +kernel)]; exact ⟨rfl, rfl⟩))
    (fun os started H enc _ F => by rw [OpenClaim.pre_eq_preRow]; exact lifted hplain os started H enc F)
theorem plainly (f : FuncId) (fn : Func) (hf : Tryz.pinned.checked.prog.funcNamed "farandole/farandolelaw10.SyntaxPrint" = some f) (hfn : Tryz.pinned.checked.prog.funcs[f]? = some fn) :
    false = Tryz.pinned.checked.prog.looks [] ∧ ∀ (j : Nat) t, fn.params[j]? = some t → Tryz.pinned.checked.prog.wantsStandIn t = false := by
  obtain rfl : f = 4 := Option.some.inj ((show Tryz.prog.funcNamed "farandole/farandolelaw10.SyntaxPrint" = some 4 by kernel_rfl).symm.trans hf) |>.symm
  obtain rfl : fn = Tryz.f4 := (Option.some.inj (Tryz.func4.symm.trans hfn)).symm
  refine ⟨jN, fun j t ht => ?_⟩
  have h : (Tryz.f4.params).all (fun t => !Tryz.pinned.checked.prog.wantsStandIn t) = true := by kernel_rfl
  have := Array.all_eq_true_iff_forall_mem.1 h t (Array.mem_of_getElem? ht)
  simpa using this
theorem card (hplain : ∀ (x0 : (List T7)), ((x0.length ≤ bd ∧ ∀ y ∈ x0, k_ref10_Protocol y) ∧ wsum w_ref10_Protocol x0 ≤ bd) → ∃ N, law10_SyntaxPrint N x0 = some true) : Rows.SyntaxPrintUptoCardSaid :=
  Claim7.holds_tied_plain_at .later [] _ _ _ _ (said hplain) (fun _ h => by cases h) jW (fun _ h => by cases h) syntaxPrintUpto_row_tie rfl ⟨rfl, rfl⟩ jM rfl plainly jG
theorem proved : Rows.SyntaxPrintUptoCardSaid := card Gp.plain
end Go.Proofs.YteimgnlbpphmjaaGreatDoor
end
