/- Proved: the law ExplainParsed returns true and does not panic, for every argument within the stated size, and what the card of it ties. Conditions: none beside the statement. -/
import Derived.LaidLaws
import Derived.Test.YtopoacpklgcfnaaGreatDoorCards
import Derived.Test.YtopoacpklgcfnaaGreatDoorTie
import Derived.Test.YtopoacpklgcfnaaGreatDoorExplainParsedFacts
import Derived.Test.YtopoacpklgcfnaaGreatDoorExplainParsedTold
import Derived.Test.YtopoacpklgcfnaaGreatDoorExplainParsedLift
import Derived.Test.YtopoacpklgcfnaaGreatDoorExplainParsedPlain3
set_option linter.all false
section
open Go Go.Kx Go.Proofs Go.ChangeShapes Go.WideShapes Go.ChangeAt Go.RowKit Gx
namespace Go.Proofs.YtopoacpklgcfnaaGreatDoor
theorem said (hplain : ∀ (x0 : (List T0)) (x1 : Int), (x0.length ≤ bd ∧ ∀ y ∈ x0, k_api_Decl y) → ((Lit.int .i64 x1).wf = true) → ∃ N, law43_ExplainParsed N x0 x1 = some true) : Rows.ExplainParsedUptoSaid :=
  OpenClaim.holds_of_cond 3 Tryz.f3 rfl rfl rfl rfl rfl rfl rfl ⟨rfl, rfl, rfl, rfl, rfl⟩ rfl rfl rfl rfl rfl (by kernel_rfl) Tryz.func3 closed
    (of_decide_eq_true (by kernel_rfl)) (by unfold Func.isWrapper; first | (rw [if_pos (by decide +kernel)]; kernel_rfl) | (rw [if_neg (by decide +kernel)]; exact ⟨rfl, rfl⟩))
    (fun os started H enc _ F => by rw [OpenClaim.pre_eq_preRow]; exact lifted hplain os started H enc F)
theorem plainly (f : FuncId) (fn : Func) (hf : Tryz.pinned.checked.prog.funcNamed "farandole/farandolelaw43.ExplainParsed" = some f) (hfn : Tryz.pinned.checked.prog.funcs[f]? = some fn) :
    false = Tryz.pinned.checked.prog.looks [] ∧ ∀ (j : Nat) t, fn.params[j]? = some t → Tryz.pinned.checked.prog.wantsStandIn t = false := by
  obtain rfl : f = 3 := Option.some.inj ((show Tryz.prog.funcNamed "farandole/farandolelaw43.ExplainParsed" = some 3 by kernel_rfl).symm.trans hf) |>.symm
  obtain rfl : fn = Tryz.f3 := (Option.some.inj (Tryz.func3.symm.trans hfn)).symm
  refine ⟨jN, fun j t ht => ?_⟩
  have h : (Tryz.f3.params).all (fun t => !Tryz.pinned.checked.prog.wantsStandIn t) = true := by kernel_rfl
  have := Array.all_eq_true_iff_forall_mem.1 h t (Array.mem_of_getElem? ht)
  simpa using this
theorem card (hplain : ∀ (x0 : (List T0)) (x1 : Int), (x0.length ≤ bd ∧ ∀ y ∈ x0, k_api_Decl y) → ((Lit.int .i64 x1).wf = true) → ∃ N, law43_ExplainParsed N x0 x1 = some true) : Rows.ExplainParsedUptoCardSaid :=
  Claim7.holds_tied_plain_at .later [] _ _ _ _ (said hplain) (fun _ h => by cases h) jW (fun _ h => by cases h) explainParsedUpto_row_tie rfl ⟨rfl, rfl⟩ jM rfl plainly jG
theorem proved : Rows.ExplainParsedUptoCardSaid := card Gp.plain
end Go.Proofs.YtopoacpklgcfnaaGreatDoor
end
