/- What the program's tables say of ConsoleLimits, joined. -/
import Derived.Test.YtjianicbagcekaaGreatDoorAQW
import Derived.Test.YtjianicbagcekaaGreatDoorAQZ
import Derived.WalkKit
import Derived.ProofKit
import Derived.OpenShut
namespace Go.Proofs.YtjianicbagcekaaGreatDoor
open Go.ChangeShapes Go.WideShapes Go.ChangeAt Go.RowKit

set_option maxRecDepth 1000000 in
set_option maxHeartbeats 64000000 in
theorem consoleLimits_joined : joinedFacts Tryz.pinned.checked.prog 3 Tryz.f3 Rows.consoleLimitsSpec Rows.consoleLimitsRow = true := by
  unfold joinedFacts
  repeat' (with_reducible refine (Bool.and_eq_true_iff).mpr ⟨?_, ?_⟩)
  all_goals first
    | with_reducible exact qw_inPlace
    | with_reducible exact qw_unfollowed
    | with_reducible exact qw_recurses
    | with_reducible exact qw_named
    | with_reducible exact qz_laidOut
    | as_aux_lemma => kernel_rfl
end Go.Proofs.YtjianicbagcekaaGreatDoor
