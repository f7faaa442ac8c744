/- Part 7 of 7 of the proof: the law BranchRoundsDown returns true for every input, and its arguments read as before; there is no condition. -/
import Derived.Test.YtniigfikpfinfaaGreatBEAMU
import Derived.Test.YtniigfikpfinfaaGreatBE6
set_option linter.unusedVariables false
set_option linter.unusedSimpArgs false
set_option maxRecDepth 100000
set_option maxHeartbeats 64000000
/- BranchRoundsDown: for every input the law returns true, and each argument reads afterwards as it read before. There is no condition. -/
namespace Go.Proofs.YtniigfikpfinfaaGreat
open Go.ChangeShapes Go.WideShapes Go.ChangeAt Go.RowKit

theorem branchRoundsDown_holds : Rows.BranchRoundsDownSaid :=
 OpenClaim.holds_of_wide 13 Tryz.f13 rfl rfl rfl rfl rfl rfl rfl ⟨rfl, rfl, rfl, rfl, rfl⟩ rfl rfl rfl rfl rfl (by as_aux_lemma => kernel_rfl) Tryz.func13 branchRoundsDown_joined
  (of_decide_eq_true (by kernel_rfl)) (by unfold Func.isWrapper; first | (rw [if_pos (by decide +kernel)]; kernel_rfl) | (rw [if_neg (by decide +kernel)]; exact ⟨rfl, rfl⟩))
  (fun os started H enc _ => branchRoundsDown_lifted os started H enc)
#print axioms branchRoundsDown_holds
end Go.Proofs.YtniigfikpfinfaaGreat
