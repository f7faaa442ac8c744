/- Part 6 of 6 of the proof: the law MasterSplits returns true for every input, and its arguments read as before; there is no condition. -/
import Derived.Test.YtabmjadcoepbeaaGreatMSAUJ
import Derived.Test.YtabmjadcoepbeaaGreatMS5
set_option linter.unusedVariables false
set_option linter.unusedSimpArgs false
set_option maxRecDepth 100000
set_option maxHeartbeats 64000000
/- MasterSplits: for every input the law returns true, and each argument reads afterwards as it read before. There is no condition. -/
namespace Go.Proofs.YtabmjadcoepbeaaGreat
open Go.ChangeShapes Go.WideShapes Go.ChangeAt Go.RowKit

theorem masterSplits_holds : Rows.MasterSplitsSaid :=
 OpenClaim.holds_of_wide 5 Tryz.f5 rfl rfl rfl rfl rfl rfl rfl ⟨rfl,rfl,rfl,rfl,rfl⟩ rfl rfl rfl rfl rfl (by as_aux_lemma => kernel_rfl) Tryz.func5 masterSplits_joined
  (of_decide_eq_true (by kernel_rfl)) (by unfold Func.isWrapper;first | (rw [if_pos (by decide +kernel)];kernel_rfl) | (rw [if_neg (by decide +kernel)];exact ⟨rfl,rfl⟩))
  (fun os started H enc _ => masterSplits_lifted os started H enc)
#print axioms masterSplits_holds
end Go.Proofs.YtabmjadcoepbeaaGreat
