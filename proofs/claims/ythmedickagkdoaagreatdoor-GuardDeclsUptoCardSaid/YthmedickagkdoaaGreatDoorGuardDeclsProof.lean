/- Proved: the law GuardDecls returns true and does not panic, for every argument within the stated size, and what the card of it ties. Conditions: none beside the statement. -/
import Derived.LaidLaws
import Derived.Test.YthmedickagkdoaaGreatDoorCards
import Derived.Test.YthmedickagkdoaaGreatDoorTie
import Derived.Test.YthmedickagkdoaaGreatDoorGuardDeclsFacts
import Derived.Test.YthmedickagkdoaaGreatDoorGuardDeclsTold
import Derived.Test.YthmedickagkdoaaGreatDoorGuardDeclsLift
import Derived.Test.YthmedickagkdoaaGreatDoorGuardDeclsPlain2
set_option linter.all false
section
open Go Go.Kx Go.Proofs Go.ChangeShapes Go.WideShapes Go.ChangeAt Go.RowKit Gx
namespace Go.Proofs.YthmedickagkdoaaGreatDoor
theorem said (hplain : ∀ (x0 : (List Yg)), (x0.length <= bd /\ ∀ y ∈ x0, SZ y) -> ∃ N, S3 N x0 = some true) : Rows.GuardDeclsUptoSaid :=
  OpenClaim.holds_of_cond 3 Tryz.f3 rfl rfl rfl rfl rfl rfl rfl ⟨rfl, rfl, rfl, rfl, rfl⟩ rfl rfl rfl rfl rfl (by kernel_rfl) Tryz.func3 closed
    (of_decide_eq_true (by kernel_rfl)) (by unfold Func.isWrapper; first | (rw [if_pos (by decide +kernel)]; kernel_rfl) | (rw [if_neg (by decide +kernel)]; exact ⟨rfl, rfl⟩))
    (fun os started H enc _ F => by rw [OpenClaim.pre_eq_preRow]; exact Zp1 hplain os started H enc F)
theorem Zrj (f : FuncId) (fn : Func) (hf : Tryz.pinned.checked.prog.funcNamed "farandole/farandolelaw14.GuardDecls" = some f) (hfn : Tryz.pinned.checked.prog.funcs[f]? = some fn) :
    false = Tryz.pinned.checked.prog.looks [] /\ ∀ (j : Nat) t, fn.params[j]? = some t -> Tryz.pinned.checked.prog.wantsStandIn t = false := by
  obtain rfl : f = 3 := Zk ((show Tryz.prog.funcNamed "farandole/farandolelaw14.GuardDecls" = some 3 by kernel_rfl).symm.trans hf) |>.symm
  obtain rfl : fn = Tryz.f3 := (Zk (Tryz.func3.symm.trans hfn)).symm
  refine ⟨jN, fun j t ht => ?_⟩
  have h : (Tryz.f3.params).all (fun t => !Tryz.pinned.checked.prog.wantsStandIn t) = true := by kernel_rfl
  have := Array.all_eq_true_iff_forall_mem.1 h t (Array.mem_of_getElem? ht)
  simpa using this
theorem card (hplain : ∀ (x0 : (List Yg)), (x0.length <= bd /\ ∀ y ∈ x0, SZ y) -> ∃ N, S3 N x0 = some true) : Rows.GuardDeclsUptoCardSaid :=
  Claim7.holds_tied_plain_at .later [] _ _ _ _ (said hplain) (fun _ h => by cases h) jW (fun _ h => by cases h) guardDeclsUpto_row_tie rfl ⟨rfl, rfl⟩ jM rfl Zrj jG
theorem proved : Rows.GuardDeclsUptoCardSaid := card Gp.plain
end Go.Proofs.YthmedickagkdoaaGreatDoor
end
