/- SpillDecoding: for all byte strings that hold, spare places included, at most 1048576 values the law returns true. Condition: that bound (the Upto form). -/
import Derived.Test.YtaadpbhondmahaaGreatDoorCards
import Derived.Test.YtaadpbhondmahaaGreatDoorTie
import Derived.WalkKit
import Derived.ProofKit
import Derived.OpenShut
import Derived.Deep.DeepHandedRow
import Derived.Deep.DeepWitnessRowRef
import Derived.Lib.LaidTab
import Derived.LaidSub
import Derived.MakeChecks
import Derived.Lay
import Derived.Carry
import Derived.ChangeMaps5
import Derived.Test.YtaadpbhondmahaaGreatDoorT20
set_option linter.all false
set_option maxRecDepth 100000
set_option maxHeartbeats 4000000
namespace Go.Proofs.YtaadpbhondmahaaGreatDoor.spillDecoding
open Go.ChangeShapes Go.WideShapes Go.ChangeAt Go.RowKit Go.Ev
theorem zEr : Rows.SpillDecodingUptoSaid :=
 OpenClaim.holds_of_cond 4 Tryz.f4 rfl rfl rfl rfl rfl rfl rfl ⟨rfl, rfl, rfl, rfl, rfl⟩ rfl rfl rfl rfl rfl (by as_aux_lemma => kernel_rfl) Tryz.func4 (by as_aux_lemma => kernel_rfl)
  (of_decide_eq_true (by as_aux_lemma => kernel_rfl)) (by unfold Func.isWrapper; first | (rw [if_pos (by decide +kernel)]; kernel_rfl) | (rw [if_neg (by decide +kernel)]; exact ⟨rfl, rfl⟩))
  (fun os started H enc _ F => by rw [OpenClaim.pre_eq_preRow]; exact zAT os started H enc F)
theorem zgs (f : FuncId) (fn : Func) (hf : Tryz.pinned.checked.prog.funcNamed "lineage/lineagelaw41.SpillDecoding" = some f) (hfn : Tryz.pinned.checked.prog.funcs[f]? = some fn) :
 true = Tryz.pinned.checked.prog.looks [] ∧ ∀ (j : Nat) t, fn.params[j]? = some t → Tryz.pinned.checked.prog.wantsStandIn t = false := by
 obtain rfl : f = 4 := Option.some.inj ((show Tryz.prog.funcNamed "lineage/lineagelaw41.SpillDecoding" = some 4 by kernel_rfl).symm.trans hf) |>.symm
 obtain rfl : fn = Tryz.f4 := (Option.some.inj (Tryz.func4.symm.trans hfn)).symm
 refine ⟨by kernel_rfl, fun j t ht => ?_⟩
 rw [Tryz.params4] at ht
 match j with
 | 0 => obtain rfl := Option.some.inj ht; exact (show Tryz.prog.wantsStandIn 27 = false by kernel_rfl)
 | n + 1 => simp at ht
theorem cardUpto : Rows.SpillDecodingUptoCardSaid :=
 Claim7.holds_tied_plain_at .later [] _ _ _ _ zEr (fun _ h => by cases h) (by as_aux_lemma => kernel_rfl) (fun _ h => by cases h) spillDecodingUpto_row_tie rfl ⟨rfl, rfl⟩ (by as_aux_lemma => kernel_rfl) rfl zgs (by as_aux_lemma => kernel_rfl)
end Go.Proofs.YtaadpbhondmahaaGreatDoor.spillDecoding
