/- A part of the proof that stands alone: what the program's tables say of the law BranchRoundsDown. -/
import Derived.Test.YtniigfikpfinfaaGreatRows
import Derived.WalkKit
import Derived.ProofKit
import Derived.OpenShut
set_option maxRecDepth 100000
set_option maxHeartbeats 64000000
/- What the program's tables say of BranchRoundsDown, each fact by itself (kernel memory). -/
namespace Go.Proofs.YtniigfikpfinfaaGreat
open Go.ChangeShapes Go.WideShapes Go.ChangeAt Go.RowKit

theorem branchRoundsDown_joined : joinedFacts Tryz.pinned.checked.prog 13 Tryz.f13 Rows.branchRoundsDownSpec Rows.branchRoundsDownRow = true := by
 unfold joinedFacts
 repeat' (with_reducible refine (Bool.and_eq_true_iff).mpr ⟨?_, ?_⟩)
 all_goals as_aux_lemma => kernel_rfl
end Go.Proofs.YtniigfikpfinfaaGreat
