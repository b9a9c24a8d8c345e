/- Proved: the law MonitorActors returns true and does not panic, for every argument within the stated size, and what the card of it ties. Conditions: none beside the statement. -/
import Derived.LaidLaws
import Derived.Test.YtaahbojckmgghaaGreatDoorCards
import Derived.Test.YtaahbojckmgghaaGreatDoorTie
import Derived.Test.YtaahbojckmgghaaGreatDoorMonitorActorsFacts
import Derived.Test.YtaahbojckmgghaaGreatDoorMonitorActorsTold
import Derived.Test.YtaahbojckmgghaaGreatDoorMonitorActorsLift
import Derived.Test.YtaahbojckmgghaaGreatDoorMonitorActorsPlain3
set_option linter.all false
section
open Go Go.Kx Go.Proofs Go.ChangeShapes Go.WideShapes Go.ChangeAt Go.RowKit Gx
namespace Go.Proofs.YtaahbojckmgghaaGreatDoor
theorem said (hplain : ∀ (x0 : Z7) (x1 : (List XA)), LB x0 → (x1.length ≤ bd ∧ ∀ y ∈ x1, RL y) → ∃ N, SX N x0 x1 = some true) : Rows.MonitorActorsUptoSaid :=
  OpenClaim.holds_of_cond 4 Tryz.f4 rfl rfl rfl rfl rfl rfl rfl ⟨rfl, rfl, rfl, rfl, rfl⟩ rfl rfl rfl rfl rfl (by kernel_rfl) Tryz.func4 closed
    (of_decide_eq_true (by kernel_rfl)) (by unfold Func.isWrapper; first | (rw [if_pos (by decide +kernel)]; kernel_rfl) | (rw [if_neg (by decide +kernel)]; exact ⟨rfl, rfl⟩))
    (fun os started H enc _ F => by rw [OpenClaim.pre_eq_preRow]; exact ZtJ hplain os started H enc F)
theorem Zqg (f : FuncId) (fn : Func) (hf : Tryz.pinned.checked.prog.funcNamed "farandole/farandolelaw40.MonitorActors" = some f) (hfn : Tryz.pinned.checked.prog.funcs[f]? = some fn) :
    false = Tryz.pinned.checked.prog.looks [] ∧ ∀ (j : Nat) t, fn.params[j]? = some t → Tryz.pinned.checked.prog.wantsStandIn t = false := by
  obtain rfl : f = 4 := Option.some.inj ((show Tryz.prog.funcNamed "farandole/farandolelaw40.MonitorActors" = some 4 by kernel_rfl).symm.trans hf) |>.symm
  obtain rfl : fn = Tryz.f4 := (Option.some.inj (Tryz.func4.symm.trans hfn)).symm
  refine ⟨jN, fun j t ht => ?_⟩
  have h : (Tryz.f4.params).all (fun t => !Tryz.pinned.checked.prog.wantsStandIn t) = true := by kernel_rfl
  have := Array.all_eq_true_iff_forall_mem.1 h t (Array.mem_of_getElem? ht)
  simpa using this
theorem card (hplain : ∀ (x0 : Z7) (x1 : (List XA)), LB x0 → (x1.length ≤ bd ∧ ∀ y ∈ x1, RL y) → ∃ N, SX N x0 x1 = some true) : Rows.MonitorActorsUptoCardSaid :=
  Claim7.holds_tied_plain_at .later [] _ _ _ _ (said hplain) (fun _ h => by cases h) jW (fun _ h => by cases h) monitorActorsUpto_row_tie rfl ⟨rfl, rfl⟩ jM rfl Zqg jG
theorem proved : Rows.MonitorActorsUptoCardSaid := card Gp.plain
end Go.Proofs.YtaahbojckmgghaaGreatDoor
end
