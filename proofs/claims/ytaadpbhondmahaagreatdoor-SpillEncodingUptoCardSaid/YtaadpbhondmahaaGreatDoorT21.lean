/- SpillEncoding: for all rows and byte strings that hold together, spare places included, at most 1048576 values and letters, the law returns true. Condition: that bound (the Upto form). -/
import Derived.Test.YtaadpbhondmahaaGreatDoorCards
import Derived.Test.YtaadpbhondmahaaGreatDoorTie
import Derived.Test.YtaadpbhondmahaaGreatDoorT20
set_option linter.all false
set_option maxRecDepth 100000
set_option maxHeartbeats 4000000
namespace Go.Proofs.YtaadpbhondmahaaGreatDoor.spillEncoding
open Go.ChangeShapes Go.WideShapes Go.ChangeAt Go.RowKit Go.Ev
theorem zOz : Rows.SpillEncodingUptoSaid :=
 OpenClaim.holds_of_cond 3 Tryz.f3 rfl rfl rfl rfl rfl rfl rfl ⟨rfl, rfl, rfl, rfl, rfl⟩ rfl rfl rfl rfl rfl (by as_aux_lemma => kernel_rfl) Tryz.func3 (by as_aux_lemma => kernel_rfl)
  (YF (by as_aux_lemma => kernel_rfl)) (by unfold Func.isWrapper; first | (rw [if_pos (by decide +kernel)]; kernel_rfl) | (rw [if_neg (by decide +kernel)]; exact ⟨rfl, rfl⟩))
  (fun os started H enc _ F => by rw [OpenClaim.pre_eq_preRow]; exact zKk os started H enc F)
theorem zfo (f : FuncId) (fn : Func) (hf : Tryz.pinned.checked.prog.funcNamed "lineage/lineagelaw41.SpillEncoding" = some f) (hfn : Tryz.pinned.checked.prog.funcs[f]? = some fn) :
 true = Tryz.pinned.checked.prog.looks [] /\ ∀ (j : Nat) t, fn.params[j]? = some t -> Tryz.pinned.checked.prog.wantsStandIn t = false := by
 obtain rfl : f = 3 := yO ((show Tryz.prog.funcNamed "lineage/lineagelaw41.SpillEncoding" = some 3 by kernel_rfl).symm.trans hf) |>.symm
 obtain rfl : fn = Tryz.f3 := (yO (Tryz.func3.symm.trans hfn)).symm
 refine ⟨by kernel_rfl, fun j t ht => ?_⟩
 rw [Tryz.params3] at ht
 match j with
 | 0 => obtain rfl := yO ht; exact (show Tryz.prog.wantsStandIn 26 = false by kernel_rfl)
 | 1 => obtain rfl := yO ht; exact (show Tryz.prog.wantsStandIn 27 = false by kernel_rfl)
 | n + 2 => simp at ht
theorem cardUpto : Rows.SpillEncodingUptoCardSaid :=
 Claim7.holds_tied_plain_at .later [] _ _ _ _ zOz (fun _ h => by cases h) (by as_aux_lemma => kernel_rfl) (fun _ h => by cases h) spillEncodingUpto_row_tie rfl ⟨rfl, rfl⟩ (by as_aux_lemma => kernel_rfl) rfl zfo (by as_aux_lemma => kernel_rfl)
end Go.Proofs.YtaadpbhondmahaaGreatDoor.spillEncoding
