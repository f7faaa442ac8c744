/-
  No cell of these rows narrows 'for every input' (looked for: loops, veiled, ifaces, maps, wideKeys, modest, calm, conditions, laid).
  DERIVED. THE GIVEN ROWS OF THIS SEAT. 12 by the template 'for every input the law returns true; each argument reads behind the call as it read before'; 0 by the template 'total and deterministic' (their statements: YtmhkmmmompediaaGreatTotals.lean).
  GIVEN WITH THE SEED: the statements are not yours to turn. If you find one false, say at which input.
  Laid BY PROGRAM, IN A SANDBOX (cutbox-rows.mjs): the forced cells as the released guide's own fill.sh prints them over the translation 5b66c1ce65f62ff3… (all of the seat's roots in one cut). By AI agents, Wed Nov 11 2026. No macro, syntax, notation, axiom, sorry.
-/
import Derived.Test.YtmhkmmmompediaaGreatChecked
import GoSem.Claim
import GoSem.ClaimJoined
import GoSem.ClaimMapViews
import Derived.JoinedTies
import Derived.KernelRfl
namespace Go.Proofs.YtmhkmmmompediaaGreat
/- THE CELL 'sum', in the pinned program and in every row, IS THE sha256 OF THE DUMP (.gsa) THAT YtmhkmmmompediaaGreatProg.lean LOADS. Nothing in Lean hashes anything: it is a label: what it is worth is what the hold of that sum in a sandbox is worth. -/
noncomputable def Tryz.pinned : Pinned := { name := "ytmhkmmmompediaagreat", sum := "5b66c1ce65f62ff3d7c409c5553c4873b1a8fc2aeec2c3e4462e514e23b92d11", checked := Tryz.checked }
namespace Rows
def none {H : Type} : Left H := { results := [], args := [] }

/-- 'pairinglaw28.LagrangeBounds': WHATEVER THE INPUT: true; the input reads as it did. -/
def lagrangeBoundsSpec : ChangeSpec := { name := "lagrangeBounds", fn := fun _ => fun
  | [d1, d2, d3] => { results := [.lit (.bool true)], args := [d1, d2, d3] }
  | _ => none }
def lagrangeBoundsRow : OpenClaim := { program := "ytmhkmmmompediaagreat", sum := "5b66c1ce65f62ff3d7c409c5553c4873b1a8fc2aeec2c3e4462e514e23b92d11", func := "pairing/pairinglaw28.LagrangeBounds", spec := "lagrangeBounds", unfollowed := true, recurses := true, plainKeys := false, apart := false }
def LagrangeBoundsSaid : Prop := lagrangeBoundsRow.holds Tryz.pinned (OpenSpec.ofChange lagrangeBoundsSpec)

/-- ITS FALSE NEIGHBOUR: 'it returns false'. Refute it at one input. -/
def lagrangeBoundsWrong : ChangeSpec := { name := "lagrangeBounds", fn := fun _ => fun
  | [d1, d2, d3] => { results := [.lit (.bool false)], args := [d1, d2, d3] }
  | _ => none }
def LagrangeBoundsWrongFalsely : Prop := lagrangeBoundsRow.holds Tryz.pinned (OpenSpec.ofChange lagrangeBoundsWrong)

/-- 'pairinglaw28.LagrangeSteps': WHATEVER THE INPUT: true; the input reads as it did. -/
def lagrangeStepsSpec : ChangeSpec := { name := "lagrangeSteps", fn := fun _ => fun
  | [d1, d2, d3, d4] => { results := [.lit (.bool true)], args := [d1, d2, d3, d4] }
  | _ => none }
def lagrangeStepsRow : OpenClaim := { program := "ytmhkmmmompediaagreat", sum := "5b66c1ce65f62ff3d7c409c5553c4873b1a8fc2aeec2c3e4462e514e23b92d11", func := "pairing/pairinglaw28.LagrangeSteps", spec := "lagrangeSteps", unfollowed := true, recurses := true, plainKeys := false, apart := false }
def LagrangeStepsSaid : Prop := lagrangeStepsRow.holds Tryz.pinned (OpenSpec.ofChange lagrangeStepsSpec)

/-- ITS FALSE NEIGHBOUR: 'it returns false'. Refute it at one input. -/
def lagrangeStepsWrong : ChangeSpec := { name := "lagrangeSteps", fn := fun _ => fun
  | [d1, d2, d3, d4] => { results := [.lit (.bool false)], args := [d1, d2, d3, d4] }
  | _ => none }
def LagrangeStepsWrongFalsely : Prop := lagrangeStepsRow.holds Tryz.pinned (OpenSpec.ofChange lagrangeStepsWrong)

/-- 'pairinglaw28.LagrangeMixes': WHATEVER THE INPUT: true; the input reads as it did. -/
def lagrangeMixesSpec : ChangeSpec := { name := "lagrangeMixes", fn := fun _ => fun
  | [d1, d2, d3, d4] => { results := [.lit (.bool true)], args := [d1, d2, d3, d4] }
  | _ => none }
def lagrangeMixesRow : OpenClaim := { program := "ytmhkmmmompediaagreat", sum := "5b66c1ce65f62ff3d7c409c5553c4873b1a8fc2aeec2c3e4462e514e23b92d11", func := "pairing/pairinglaw28.LagrangeMixes", spec := "lagrangeMixes", unfollowed := true, recurses := true, plainKeys := false, apart := false }
def LagrangeMixesSaid : Prop := lagrangeMixesRow.holds Tryz.pinned (OpenSpec.ofChange lagrangeMixesSpec)

/-- ITS FALSE NEIGHBOUR: 'it returns false'. Refute it at one input. -/
def lagrangeMixesWrong : ChangeSpec := { name := "lagrangeMixes", fn := fun _ => fun
  | [d1, d2, d3, d4] => { results := [.lit (.bool false)], args := [d1, d2, d3, d4] }
  | _ => none }
def LagrangeMixesWrongFalsely : Prop := lagrangeMixesRow.holds Tryz.pinned (OpenSpec.ofChange lagrangeMixesWrong)

/-- 'pairinglaw29.CutsValidate': WHATEVER THE INPUT: true; the input reads as it did. -/
def cutsValidateSpec : ChangeSpec := { name := "cutsValidate", fn := fun _ => fun
  | [d1, d2, d3] => { results := [.lit (.bool true)], args := [d1, d2, d3] }
  | _ => none }
def cutsValidateRow : OpenClaim := { program := "ytmhkmmmompediaagreat", sum := "5b66c1ce65f62ff3d7c409c5553c4873b1a8fc2aeec2c3e4462e514e23b92d11", func := "pairing/pairinglaw29.CutsValidate", spec := "cutsValidate", unfollowed := true, recurses := true, plainKeys := false, apart := false }
def CutsValidateSaid : Prop := cutsValidateRow.holds Tryz.pinned (OpenSpec.ofChange cutsValidateSpec)

/-- ITS FALSE NEIGHBOUR: 'it returns false'. Refute it at one input. -/
def cutsValidateWrong : ChangeSpec := { name := "cutsValidate", fn := fun _ => fun
  | [d1, d2, d3] => { results := [.lit (.bool false)], args := [d1, d2, d3] }
  | _ => none }
def CutsValidateWrongFalsely : Prop := cutsValidateRow.holds Tryz.pinned (OpenSpec.ofChange cutsValidateWrong)

/-- 'pairinglaw29.CutsViolation': WHATEVER THE INPUT: true; the input reads as it did. -/
def cutsViolationSpec : ChangeSpec := { name := "cutsViolation", fn := fun _ => fun
  | [d1, d2, d3] => { results := [.lit (.bool true)], args := [d1, d2, d3] }
  | _ => none }
def cutsViolationRow : OpenClaim := { program := "ytmhkmmmompediaagreat", sum := "5b66c1ce65f62ff3d7c409c5553c4873b1a8fc2aeec2c3e4462e514e23b92d11", func := "pairing/pairinglaw29.CutsViolation", spec := "cutsViolation", unfollowed := true, recurses := true, plainKeys := false, apart := false }
def CutsViolationSaid : Prop := cutsViolationRow.holds Tryz.pinned (OpenSpec.ofChange cutsViolationSpec)

/-- ITS FALSE NEIGHBOUR: 'it returns false'. Refute it at one input. -/
def cutsViolationWrong : ChangeSpec := { name := "cutsViolation", fn := fun _ => fun
  | [d1, d2, d3] => { results := [.lit (.bool false)], args := [d1, d2, d3] }
  | _ => none }
def CutsViolationWrongFalsely : Prop := cutsViolationRow.holds Tryz.pinned (OpenSpec.ofChange cutsViolationWrong)

/-- 'pairinglaw29.CutsSeparate': WHATEVER THE INPUT: true; the input reads as it did. -/
def cutsSeparateSpec : ChangeSpec := { name := "cutsSeparate", fn := fun _ => fun
  | [d1, d2, d3] => { results := [.lit (.bool true)], args := [d1, d2, d3] }
  | _ => none }
def cutsSeparateRow : OpenClaim := { program := "ytmhkmmmompediaagreat", sum := "5b66c1ce65f62ff3d7c409c5553c4873b1a8fc2aeec2c3e4462e514e23b92d11", func := "pairing/pairinglaw29.CutsSeparate", spec := "cutsSeparate", unfollowed := true, recurses := true, plainKeys := false, apart := false }
def CutsSeparateSaid : Prop := cutsSeparateRow.holds Tryz.pinned (OpenSpec.ofChange cutsSeparateSpec)

/-- ITS FALSE NEIGHBOUR: 'it returns false'. Refute it at one input. -/
def cutsSeparateWrong : ChangeSpec := { name := "cutsSeparate", fn := fun _ => fun
  | [d1, d2, d3] => { results := [.lit (.bool false)], args := [d1, d2, d3] }
  | _ => none }
def CutsSeparateWrongFalsely : Prop := cutsSeparateRow.holds Tryz.pinned (OpenSpec.ofChange cutsSeparateWrong)

/-- 'pairinglaw29.CutsClique': WHATEVER THE INPUT: true; the input reads as it did. -/
def cutsCliqueSpec : ChangeSpec := { name := "cutsClique", fn := fun _ => fun
  | [d1, d2] => { results := [.lit (.bool true)], args := [d1, d2] }
  | _ => none }
def cutsCliqueRow : OpenClaim := { program := "ytmhkmmmompediaagreat", sum := "5b66c1ce65f62ff3d7c409c5553c4873b1a8fc2aeec2c3e4462e514e23b92d11", func := "pairing/pairinglaw29.CutsClique", spec := "cutsClique", unfollowed := true, recurses := true, plainKeys := false, apart := false }
def CutsCliqueSaid : Prop := cutsCliqueRow.holds Tryz.pinned (OpenSpec.ofChange cutsCliqueSpec)

/-- ITS FALSE NEIGHBOUR: 'it returns false'. Refute it at one input. -/
def cutsCliqueWrong : ChangeSpec := { name := "cutsClique", fn := fun _ => fun
  | [d1, d2] => { results := [.lit (.bool false)], args := [d1, d2] }
  | _ => none }
def CutsCliqueWrongFalsely : Prop := cutsCliqueRow.holds Tryz.pinned (OpenSpec.ofChange cutsCliqueWrong)

/-- 'pairinglaw29.CutsPrefix': WHATEVER THE INPUT: true; the input reads as it did. -/
def cutsPrefixSpec : ChangeSpec := { name := "cutsPrefix", fn := fun _ => fun
  | [d1, d2, d3] => { results := [.lit (.bool true)], args := [d1, d2, d3] }
  | _ => none }
def cutsPrefixRow : OpenClaim := { program := "ytmhkmmmompediaagreat", sum := "5b66c1ce65f62ff3d7c409c5553c4873b1a8fc2aeec2c3e4462e514e23b92d11", func := "pairing/pairinglaw29.CutsPrefix", spec := "cutsPrefix", unfollowed := true, recurses := true, plainKeys := false, apart := false }
def CutsPrefixSaid : Prop := cutsPrefixRow.holds Tryz.pinned (OpenSpec.ofChange cutsPrefixSpec)

/-- ITS FALSE NEIGHBOUR: 'it returns false'. Refute it at one input. -/
def cutsPrefixWrong : ChangeSpec := { name := "cutsPrefix", fn := fun _ => fun
  | [d1, d2, d3] => { results := [.lit (.bool false)], args := [d1, d2, d3] }
  | _ => none }
def CutsPrefixWrongFalsely : Prop := cutsPrefixRow.holds Tryz.pinned (OpenSpec.ofChange cutsPrefixWrong)

/-- 'pairinglaw30.BranchFollows': WHATEVER THE INPUT: true; the input reads as it did. -/
def branchFollowsSpec : ChangeSpec := { name := "branchFollows", fn := fun _ => fun
  | [d1, d2, d3] => { results := [.lit (.bool true)], args := [d1, d2, d3] }
  | _ => none }
def branchFollowsRow : OpenClaim := { program := "ytmhkmmmompediaagreat", sum := "5b66c1ce65f62ff3d7c409c5553c4873b1a8fc2aeec2c3e4462e514e23b92d11", func := "pairing/pairinglaw30.BranchFollows", spec := "branchFollows", unfollowed := true, recurses := true, plainKeys := false, apart := false }
def BranchFollowsSaid : Prop := branchFollowsRow.holds Tryz.pinned (OpenSpec.ofChange branchFollowsSpec)

/-- ITS FALSE NEIGHBOUR: 'it returns false'. Refute it at one input. -/
def branchFollowsWrong : ChangeSpec := { name := "branchFollows", fn := fun _ => fun
  | [d1, d2, d3] => { results := [.lit (.bool false)], args := [d1, d2, d3] }
  | _ => none }
def BranchFollowsWrongFalsely : Prop := branchFollowsRow.holds Tryz.pinned (OpenSpec.ofChange branchFollowsWrong)

/-- 'pairinglaw29.CutsTight': WHATEVER THE INPUT: true; the input reads as it did. -/
def cutsTightSpec : ChangeSpec := { name := "cutsTight", fn := fun _ => fun
  | [d1, d2, d3] => { results := [.lit (.bool true)], args := [d1, d2, d3] }
  | _ => none }
def cutsTightRow : OpenClaim := { program := "ytmhkmmmompediaagreat", sum := "5b66c1ce65f62ff3d7c409c5553c4873b1a8fc2aeec2c3e4462e514e23b92d11", func := "pairing/pairinglaw29.CutsTight", spec := "cutsTight", unfollowed := true, recurses := true, plainKeys := false, apart := false }
def CutsTightSaid : Prop := cutsTightRow.holds Tryz.pinned (OpenSpec.ofChange cutsTightSpec)

/-- ITS FALSE NEIGHBOUR: 'it returns false'. Refute it at one input. -/
def cutsTightWrong : ChangeSpec := { name := "cutsTight", fn := fun _ => fun
  | [d1, d2, d3] => { results := [.lit (.bool false)], args := [d1, d2, d3] }
  | _ => none }
def CutsTightWrongFalsely : Prop := cutsTightRow.holds Tryz.pinned (OpenSpec.ofChange cutsTightWrong)

/-- 'pairinglaw30.BranchChildren': WHATEVER THE INPUT: true; the input reads as it did. -/
def branchChildrenSpec : ChangeSpec := { name := "branchChildren", fn := fun _ => fun
  | [d1, d2] => { results := [.lit (.bool true)], args := [d1, d2] }
  | _ => none }
def branchChildrenRow : OpenClaim := { program := "ytmhkmmmompediaagreat", sum := "5b66c1ce65f62ff3d7c409c5553c4873b1a8fc2aeec2c3e4462e514e23b92d11", func := "pairing/pairinglaw30.BranchChildren", spec := "branchChildren", unfollowed := true, recurses := true, plainKeys := false, apart := false }
def BranchChildrenSaid : Prop := branchChildrenRow.holds Tryz.pinned (OpenSpec.ofChange branchChildrenSpec)

/-- ITS FALSE NEIGHBOUR: 'it returns false'. Refute it at one input. -/
def branchChildrenWrong : ChangeSpec := { name := "branchChildren", fn := fun _ => fun
  | [d1, d2] => { results := [.lit (.bool false)], args := [d1, d2] }
  | _ => none }
def BranchChildrenWrongFalsely : Prop := branchChildrenRow.holds Tryz.pinned (OpenSpec.ofChange branchChildrenWrong)

/-- 'pairinglaw30.BranchFits': WHATEVER THE INPUT: true; the input reads as it did. -/
def branchFitsSpec : ChangeSpec := { name := "branchFits", fn := fun _ => fun
  | [d1, d2] => { results := [.lit (.bool true)], args := [d1, d2] }
  | _ => none }
def branchFitsRow : OpenClaim := { program := "ytmhkmmmompediaagreat", sum := "5b66c1ce65f62ff3d7c409c5553c4873b1a8fc2aeec2c3e4462e514e23b92d11", func := "pairing/pairinglaw30.BranchFits", spec := "branchFits", unfollowed := true, recurses := true, plainKeys := false, apart := false }
def BranchFitsSaid : Prop := branchFitsRow.holds Tryz.pinned (OpenSpec.ofChange branchFitsSpec)

/-- ITS FALSE NEIGHBOUR: 'it returns false'. Refute it at one input. -/
def branchFitsWrong : ChangeSpec := { name := "branchFits", fn := fun _ => fun
  | [d1, d2] => { results := [.lit (.bool false)], args := [d1, d2] }
  | _ => none }
def BranchFitsWrongFalsely : Prop := branchFitsRow.holds Tryz.pinned (OpenSpec.ofChange branchFitsWrong)

/- THE SECOND FORM. 'bulk': how many values and letters a reading holds, each counted each time it is reached (what is shared counts as often as it is met; a slice's spare places count too). A statement '..UptoSaid' is the law's where the arguments, and the package variables that the reading takes, are together of bulk at most 1048576: NARROWER than '..Said'. Prove '..Said' where nothing that the law and all that it calls make is longer than what came in: it says more and counts as full. Else prove '..UptoSaid'. A law counts once. -/
mutual
def uptoBulk {H : Type} : DataW H → Nat
  | .lit (.string bytes) => bytes.length + 1
  | .lit _ => 1
  | .nil => 1
  | .ptr d => uptoBulk d + 1
  | .slice elems spare => uptoBulkAll elems + uptoBulkAll spare + 1
  | .agg parts => uptoBulkAll parts + 1
  | .iface _ d => uptoBulk d + 1
  | .map entries => uptoBulkEntries entries + 1
  | .held _ => 1
def uptoBulkAll {H : Type} : List (DataW H) → Nat
  | [] => 0
  | d :: r => uptoBulk d + uptoBulkAll r
def uptoBulkEntries {H : Type} : List (Lit × DataW H) → Nat
  | [] => 0
  | x :: r => uptoBulkEntry x + uptoBulkEntries r
def uptoBulkEntry {H : Type} : Lit × DataW H → Nat
  | (.string bytes, d) => bytes.length + uptoBulk d + 1
  | (_, d) => uptoBulk d + 1
 end
def uptoSmall : (H : Type) → List (DataW H) → Bool := fun _ ds => decide (uptoBulkAll ds ≤ 1048576)
def OpenSpec.upto (s : _root_.Go.ChangeSpec) : _root_.Go.OpenSpec := { _root_.Go.OpenSpec.ofChange s with cond := some uptoSmall }

/-- 'pairinglaw28.LagrangeBounds', WHERE WHAT IT READS IS OF BULK AT MOST 1048576: true; the input reads as it did. -/
def lagrangeBoundsUptoRow : OpenClaim := { program := "ytmhkmmmompediaagreat", sum := "5b66c1ce65f62ff3d7c409c5553c4873b1a8fc2aeec2c3e4462e514e23b92d11", func := "pairing/pairinglaw28.LagrangeBounds", spec := "lagrangeBounds", unfollowed := true, recurses := true, plainKeys := false, apart := false, narrowed := true }
def LagrangeBoundsUptoSaid : Prop := lagrangeBoundsUptoRow.holds Tryz.pinned (OpenSpec.upto lagrangeBoundsSpec)

/-- 'pairinglaw28.LagrangeSteps', WHERE WHAT IT READS IS OF BULK AT MOST 1048576: true; the input reads as it did. -/
def lagrangeStepsUptoRow : OpenClaim := { program := "ytmhkmmmompediaagreat", sum := "5b66c1ce65f62ff3d7c409c5553c4873b1a8fc2aeec2c3e4462e514e23b92d11", func := "pairing/pairinglaw28.LagrangeSteps", spec := "lagrangeSteps", unfollowed := true, recurses := true, plainKeys := false, apart := false, narrowed := true }
def LagrangeStepsUptoSaid : Prop := lagrangeStepsUptoRow.holds Tryz.pinned (OpenSpec.upto lagrangeStepsSpec)

/-- 'pairinglaw28.LagrangeMixes', WHERE WHAT IT READS IS OF BULK AT MOST 1048576: true; the input reads as it did. -/
def lagrangeMixesUptoRow : OpenClaim := { program := "ytmhkmmmompediaagreat", sum := "5b66c1ce65f62ff3d7c409c5553c4873b1a8fc2aeec2c3e4462e514e23b92d11", func := "pairing/pairinglaw28.LagrangeMixes", spec := "lagrangeMixes", unfollowed := true, recurses := true, plainKeys := false, apart := false, narrowed := true }
def LagrangeMixesUptoSaid : Prop := lagrangeMixesUptoRow.holds Tryz.pinned (OpenSpec.upto lagrangeMixesSpec)

/-- 'pairinglaw29.CutsValidate', WHERE WHAT IT READS IS OF BULK AT MOST 1048576: true; the input reads as it did. -/
def cutsValidateUptoRow : OpenClaim := { program := "ytmhkmmmompediaagreat", sum := "5b66c1ce65f62ff3d7c409c5553c4873b1a8fc2aeec2c3e4462e514e23b92d11", func := "pairing/pairinglaw29.CutsValidate", spec := "cutsValidate", unfollowed := true, recurses := true, plainKeys := false, apart := false, narrowed := true }
def CutsValidateUptoSaid : Prop := cutsValidateUptoRow.holds Tryz.pinned (OpenSpec.upto cutsValidateSpec)

/-- 'pairinglaw29.CutsViolation', WHERE WHAT IT READS IS OF BULK AT MOST 1048576: true; the input reads as it did. -/
def cutsViolationUptoRow : OpenClaim := { program := "ytmhkmmmompediaagreat", sum := "5b66c1ce65f62ff3d7c409c5553c4873b1a8fc2aeec2c3e4462e514e23b92d11", func := "pairing/pairinglaw29.CutsViolation", spec := "cutsViolation", unfollowed := true, recurses := true, plainKeys := false, apart := false, narrowed := true }
def CutsViolationUptoSaid : Prop := cutsViolationUptoRow.holds Tryz.pinned (OpenSpec.upto cutsViolationSpec)

/-- 'pairinglaw29.CutsSeparate', WHERE WHAT IT READS IS OF BULK AT MOST 1048576: true; the input reads as it did. -/
def cutsSeparateUptoRow : OpenClaim := { program := "ytmhkmmmompediaagreat", sum := "5b66c1ce65f62ff3d7c409c5553c4873b1a8fc2aeec2c3e4462e514e23b92d11", func := "pairing/pairinglaw29.CutsSeparate", spec := "cutsSeparate", unfollowed := true, recurses := true, plainKeys := false, apart := false, narrowed := true }
def CutsSeparateUptoSaid : Prop := cutsSeparateUptoRow.holds Tryz.pinned (OpenSpec.upto cutsSeparateSpec)

/-- 'pairinglaw29.CutsClique', WHERE WHAT IT READS IS OF BULK AT MOST 1048576: true; the input reads as it did. -/
def cutsCliqueUptoRow : OpenClaim := { program := "ytmhkmmmompediaagreat", sum := "5b66c1ce65f62ff3d7c409c5553c4873b1a8fc2aeec2c3e4462e514e23b92d11", func := "pairing/pairinglaw29.CutsClique", spec := "cutsClique", unfollowed := true, recurses := true, plainKeys := false, apart := false, narrowed := true }
def CutsCliqueUptoSaid : Prop := cutsCliqueUptoRow.holds Tryz.pinned (OpenSpec.upto cutsCliqueSpec)

/-- 'pairinglaw29.CutsPrefix', WHERE WHAT IT READS IS OF BULK AT MOST 1048576: true; the input reads as it did. -/
def cutsPrefixUptoRow : OpenClaim := { program := "ytmhkmmmompediaagreat", sum := "5b66c1ce65f62ff3d7c409c5553c4873b1a8fc2aeec2c3e4462e514e23b92d11", func := "pairing/pairinglaw29.CutsPrefix", spec := "cutsPrefix", unfollowed := true, recurses := true, plainKeys := false, apart := false, narrowed := true }
def CutsPrefixUptoSaid : Prop := cutsPrefixUptoRow.holds Tryz.pinned (OpenSpec.upto cutsPrefixSpec)

/-- 'pairinglaw30.BranchFollows', WHERE WHAT IT READS IS OF BULK AT MOST 1048576: true; the input reads as it did. -/
def branchFollowsUptoRow : OpenClaim := { program := "ytmhkmmmompediaagreat", sum := "5b66c1ce65f62ff3d7c409c5553c4873b1a8fc2aeec2c3e4462e514e23b92d11", func := "pairing/pairinglaw30.BranchFollows", spec := "branchFollows", unfollowed := true, recurses := true, plainKeys := false, apart := false, narrowed := true }
def BranchFollowsUptoSaid : Prop := branchFollowsUptoRow.holds Tryz.pinned (OpenSpec.upto branchFollowsSpec)

/-- 'pairinglaw29.CutsTight', WHERE WHAT IT READS IS OF BULK AT MOST 1048576: true; the input reads as it did. -/
def cutsTightUptoRow : OpenClaim := { program := "ytmhkmmmompediaagreat", sum := "5b66c1ce65f62ff3d7c409c5553c4873b1a8fc2aeec2c3e4462e514e23b92d11", func := "pairing/pairinglaw29.CutsTight", spec := "cutsTight", unfollowed := true, recurses := true, plainKeys := false, apart := false, narrowed := true }
def CutsTightUptoSaid : Prop := cutsTightUptoRow.holds Tryz.pinned (OpenSpec.upto cutsTightSpec)

/-- 'pairinglaw30.BranchChildren', WHERE WHAT IT READS IS OF BULK AT MOST 1048576: true; the input reads as it did. -/
def branchChildrenUptoRow : OpenClaim := { program := "ytmhkmmmompediaagreat", sum := "5b66c1ce65f62ff3d7c409c5553c4873b1a8fc2aeec2c3e4462e514e23b92d11", func := "pairing/pairinglaw30.BranchChildren", spec := "branchChildren", unfollowed := true, recurses := true, plainKeys := false, apart := false, narrowed := true }
def BranchChildrenUptoSaid : Prop := branchChildrenUptoRow.holds Tryz.pinned (OpenSpec.upto branchChildrenSpec)

/-- 'pairinglaw30.BranchFits', WHERE WHAT IT READS IS OF BULK AT MOST 1048576: true; the input reads as it did. -/
def branchFitsUptoRow : OpenClaim := { program := "ytmhkmmmompediaagreat", sum := "5b66c1ce65f62ff3d7c409c5553c4873b1a8fc2aeec2c3e4462e514e23b92d11", func := "pairing/pairinglaw30.BranchFits", spec := "branchFits", unfollowed := true, recurses := true, plainKeys := false, apart := false, narrowed := true }
def BranchFitsUptoSaid : Prop := branchFitsUptoRow.holds Tryz.pinned (OpenSpec.upto branchFitsSpec)

end Rows
end Go.Proofs.YtmhkmmmompediaaGreat
