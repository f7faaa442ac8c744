/- A part of the proof that stands alone: what the program's tables say of the law MasterSplits. -/
import Derived.Test.YtabmjadcoepbeaaGreatRows
import Derived.WalkKit
import Derived.ProofKit
import Derived.OpenShut
set_option maxRecDepth 100000
set_option maxHeartbeats 64000000
/- What the program's tables say of MasterSplits, each fact by itself (kernel memory). -/
namespace Go.Proofs.YtabmjadcoepbeaaGreat
open Go.ChangeShapes Go.WideShapes Go.ChangeAt Go.RowKit

theorem masterSplits_joined : joinedFacts Tryz.pinned.checked.prog 5 Tryz.f5 Rows.masterSplitsSpec Rows.masterSplitsRow = true := by
 unfold joinedFacts
 repeat' (with_reducible refine (Bool.and_eq_true_iff).mpr ⟨?_,?_⟩)
 all_goals as_aux_lemma => kernel_rfl
end Go.Proofs.YtabmjadcoepbeaaGreat
