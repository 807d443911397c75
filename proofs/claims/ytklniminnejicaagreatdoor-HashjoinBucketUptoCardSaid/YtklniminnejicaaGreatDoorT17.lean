/- HashjoinBucket: for all rows, key columns, numbers of parts and levels that hold together at most 1048576 values and letters, the law returns true. Condition: that bound (the Upto form). -/
import Derived.Test.YtklniminnejicaaGreatDoorCards
import Derived.Test.YtklniminnejicaaGreatDoorTie
import Derived.WalkKit
import Derived.ProofKit
import Derived.OpenShut
import Derived.Deep.DeepHandedRow
import Derived.Deep.DeepWitnessRowRef
import Derived.Lib.LaidTab
import Derived.LaidSub
import Derived.MakeChecks
import Derived.Lay
import Derived.Carry
import Derived.ChangeMaps5
import Derived.Test.YtklniminnejicaaGreatDoorT16
set_option linter.all false
set_option maxRecDepth 100000
set_option maxHeartbeats 4000000
namespace Go.Proofs.YtklniminnejicaaGreatDoor.hashjoinBucket
open Go.ChangeShapes Go.WideShapes Go.ChangeAt Go.RowKit Go.Ev
theorem ztC : Rows.HashjoinBucketUptoSaid :=
 OpenClaim.holds_of_cond 3 Tryz.f3 rfl rfl rfl rfl rfl rfl rfl ⟨rfl, rfl, rfl, rfl, rfl⟩ rfl rfl rfl rfl rfl (by as_aux_lemma => kernel_rfl) Tryz.func3 (by as_aux_lemma => kernel_rfl)
  (of_decide_eq_true (by as_aux_lemma => kernel_rfl)) (by unfold Func.isWrapper; first | (rw [if_pos (by decide +kernel)]; kernel_rfl) | (rw [if_neg (by decide +kernel)]; exact ⟨rfl, rfl⟩))
  (fun os started H enc _ F => by rw [OpenClaim.pre_eq_preRow]; exact zqw os started H enc F)
theorem zd6 (f : FuncId) (fn : Func) (hf : Tryz.pinned.checked.prog.funcNamed "lineage/lineagelaw43.HashjoinBucket" = some f) (hfn : Tryz.pinned.checked.prog.funcs[f]? = some fn) :
 true = Tryz.pinned.checked.prog.looks [] ∧ ∀ (j : Nat) t, fn.params[j]? = some t → Tryz.pinned.checked.prog.wantsStandIn t = false := by
 obtain rfl : f = 3 := Option.some.inj ((show Tryz.prog.funcNamed "lineage/lineagelaw43.HashjoinBucket" = some 3 by kernel_rfl).symm.trans hf) |>.symm
 obtain rfl : fn = Tryz.f3 := (Option.some.inj (Tryz.func3.symm.trans hfn)).symm
 refine ⟨by kernel_rfl, fun j t ht => ?_⟩
 rw [Tryz.params3] at ht
 match j with
 | 0 => obtain rfl := Option.some.inj ht; exact (show Tryz.prog.wantsStandIn 26 = false by kernel_rfl)
 | 1 => obtain rfl := Option.some.inj ht; exact (show Tryz.prog.wantsStandIn 26 = false by kernel_rfl)
 | 2 => obtain rfl := Option.some.inj ht; exact (show Tryz.prog.wantsStandIn 27 = false by kernel_rfl)
 | 3 => obtain rfl := Option.some.inj ht; exact (show Tryz.prog.wantsStandIn 3 = false by kernel_rfl)
 | 4 => obtain rfl := Option.some.inj ht; exact (show Tryz.prog.wantsStandIn 3 = false by kernel_rfl)
 | n + 5 => simp at ht
theorem cardUpto : Rows.HashjoinBucketUptoCardSaid :=
 Claim7.holds_tied_plain_at .later [] _ _ _ _ ztC (fun _ h => by cases h) (by as_aux_lemma => kernel_rfl) (fun _ h => by cases h) hashjoinBucketUpto_row_tie rfl ⟨rfl, rfl⟩ (by as_aux_lemma => kernel_rfl) rfl zd6 (by as_aux_lemma => kernel_rfl)
end Go.Proofs.YtklniminnejicaaGreatDoor.hashjoinBucket
