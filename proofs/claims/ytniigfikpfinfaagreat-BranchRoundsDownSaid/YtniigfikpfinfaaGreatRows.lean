/-
  No cell of these rows narrows 'for every input' (looked for: loops, veiled, ifaces, maps, wideKeys, modest, calm, conditions, laid).
  DERIVED. THE GIVEN ROWS OF THIS SEAT. 11 by the template 'for every input the law returns true; each argument reads behind the call as it read before'; 0 by the template 'total and deterministic' (their statements: YtniigfikpfinfaaGreatTotals.lean).
  GIVEN WITH THE SEED: the statements are not yours to turn. If you find one false, say at which input.
  Laid BY PROGRAM, IN A SANDBOX (cutbox-rows.mjs): the forced cells as the released guide's own fill.sh prints them over the translation 5913894416a280e2… (all of the seat's roots in one cut). By AI agents, Wed Nov 11 2026. No macro, syntax, notation, axiom, sorry.
-/
import Derived.Test.YtniigfikpfinfaaGreatChecked
import GoSem.Claim
import GoSem.ClaimJoined
import GoSem.ClaimMapViews
import Derived.JoinedTies
import Derived.KernelRfl
namespace Go.Proofs.YtniigfikpfinfaaGreat
/- THE CELL 'sum', in the pinned program and in every row, IS THE sha256 OF THE DUMP (.gsa) THAT YtniigfikpfinfaaGreatProg.lean LOADS. Nothing in Lean hashes anything: it is a label: what it is worth is what the hold of that sum in a sandbox is worth. -/
noncomputable def Tryz.pinned : Pinned := { name := "ytniigfikpfinfaagreat", sum := "5913894416a280e2d026796774727afe34d7d79eedcfb4c580aaf2887b113a83", checked := Tryz.checked }
namespace Rows
def none {H : Type} : Left H := { results := [], args := [] }

/-- 'pairinglaw28.LagrangeBounds': WHATEVER THE INPUT: true; the input reads as it did. -/
def lagrangeBoundsSpec : ChangeSpec := { name := "lagrangeBounds", fn := fun _ => fun
  | [d1, d2, d3] => { results := [.lit (.bool true)], args := [d1, d2, d3] }
  | _ => none }
def lagrangeBoundsRow : OpenClaim := { program := "ytniigfikpfinfaagreat", sum := "5913894416a280e2d026796774727afe34d7d79eedcfb4c580aaf2887b113a83", func := "pairing/pairinglaw28.LagrangeBounds", spec := "lagrangeBounds", unfollowed := true, recurses := true, plainKeys := false, apart := false }
def LagrangeBoundsSaid : Prop := lagrangeBoundsRow.holds Tryz.pinned (OpenSpec.ofChange lagrangeBoundsSpec)

/-- ITS FALSE NEIGHBOUR: 'it returns false'. Refute it at one input. -/
def lagrangeBoundsWrong : ChangeSpec := { name := "lagrangeBounds", fn := fun _ => fun
  | [d1, d2, d3] => { results := [.lit (.bool false)], args := [d1, d2, d3] }
  | _ => none }
def LagrangeBoundsWrongFalsely : Prop := lagrangeBoundsRow.holds Tryz.pinned (OpenSpec.ofChange lagrangeBoundsWrong)

/-- 'pairinglaw28.LagrangeBelow': WHATEVER THE INPUT: true; the input reads as it did. -/
def lagrangeBelowSpec : ChangeSpec := { name := "lagrangeBelow", fn := fun _ => fun
  | [d1, d2, d3] => { results := [.lit (.bool true)], args := [d1, d2, d3] }
  | _ => none }
def lagrangeBelowRow : OpenClaim := { program := "ytniigfikpfinfaagreat", sum := "5913894416a280e2d026796774727afe34d7d79eedcfb4c580aaf2887b113a83", func := "pairing/pairinglaw28.LagrangeBelow", spec := "lagrangeBelow", unfollowed := true, recurses := true, plainKeys := false, apart := false }
def LagrangeBelowSaid : Prop := lagrangeBelowRow.holds Tryz.pinned (OpenSpec.ofChange lagrangeBelowSpec)

/-- ITS FALSE NEIGHBOUR: 'it returns false'. Refute it at one input. -/
def lagrangeBelowWrong : ChangeSpec := { name := "lagrangeBelow", fn := fun _ => fun
  | [d1, d2, d3] => { results := [.lit (.bool false)], args := [d1, d2, d3] }
  | _ => none }
def LagrangeBelowWrongFalsely : Prop := lagrangeBelowRow.holds Tryz.pinned (OpenSpec.ofChange lagrangeBelowWrong)

/-- 'pairinglaw28.LagrangeSteps': WHATEVER THE INPUT: true; the input reads as it did. -/
def lagrangeStepsSpec : ChangeSpec := { name := "lagrangeSteps", fn := fun _ => fun
  | [d1, d2, d3, d4] => { results := [.lit (.bool true)], args := [d1, d2, d3, d4] }
  | _ => none }
def lagrangeStepsRow : OpenClaim := { program := "ytniigfikpfinfaagreat", sum := "5913894416a280e2d026796774727afe34d7d79eedcfb4c580aaf2887b113a83", func := "pairing/pairinglaw28.LagrangeSteps", spec := "lagrangeSteps", unfollowed := true, recurses := true, plainKeys := false, apart := false }
def LagrangeStepsSaid : Prop := lagrangeStepsRow.holds Tryz.pinned (OpenSpec.ofChange lagrangeStepsSpec)

/-- ITS FALSE NEIGHBOUR: 'it returns false'. Refute it at one input. -/
def lagrangeStepsWrong : ChangeSpec := { name := "lagrangeSteps", fn := fun _ => fun
  | [d1, d2, d3, d4] => { results := [.lit (.bool false)], args := [d1, d2, d3, d4] }
  | _ => none }
def LagrangeStepsWrongFalsely : Prop := lagrangeStepsRow.holds Tryz.pinned (OpenSpec.ofChange lagrangeStepsWrong)

/-- 'pairinglaw28.LagrangeMixes': WHATEVER THE INPUT: true; the input reads as it did. -/
def lagrangeMixesSpec : ChangeSpec := { name := "lagrangeMixes", fn := fun _ => fun
  | [d1, d2, d3, d4] => { results := [.lit (.bool true)], args := [d1, d2, d3, d4] }
  | _ => none }
def lagrangeMixesRow : OpenClaim := { program := "ytniigfikpfinfaagreat", sum := "5913894416a280e2d026796774727afe34d7d79eedcfb4c580aaf2887b113a83", func := "pairing/pairinglaw28.LagrangeMixes", spec := "lagrangeMixes", unfollowed := true, recurses := true, plainKeys := false, apart := false }
def LagrangeMixesSaid : Prop := lagrangeMixesRow.holds Tryz.pinned (OpenSpec.ofChange lagrangeMixesSpec)

/-- ITS FALSE NEIGHBOUR: 'it returns false'. Refute it at one input. -/
def lagrangeMixesWrong : ChangeSpec := { name := "lagrangeMixes", fn := fun _ => fun
  | [d1, d2, d3, d4] => { results := [.lit (.bool false)], args := [d1, d2, d3, d4] }
  | _ => none }
def LagrangeMixesWrongFalsely : Prop := lagrangeMixesRow.holds Tryz.pinned (OpenSpec.ofChange lagrangeMixesWrong)

/-- 'pairinglaw28.LagrangeConcave': WHATEVER THE INPUT: true; the input reads as it did. -/
def lagrangeConcaveSpec : ChangeSpec := { name := "lagrangeConcave", fn := fun _ => fun
  | [d1, d2, d3, d4] => { results := [.lit (.bool true)], args := [d1, d2, d3, d4] }
  | _ => none }
def lagrangeConcaveRow : OpenClaim := { program := "ytniigfikpfinfaagreat", sum := "5913894416a280e2d026796774727afe34d7d79eedcfb4c580aaf2887b113a83", func := "pairing/pairinglaw28.LagrangeConcave", spec := "lagrangeConcave", unfollowed := true, recurses := true, plainKeys := false, apart := false }
def LagrangeConcaveSaid : Prop := lagrangeConcaveRow.holds Tryz.pinned (OpenSpec.ofChange lagrangeConcaveSpec)

/-- ITS FALSE NEIGHBOUR: 'it returns false'. Refute it at one input. -/
def lagrangeConcaveWrong : ChangeSpec := { name := "lagrangeConcave", fn := fun _ => fun
  | [d1, d2, d3, d4] => { results := [.lit (.bool false)], args := [d1, d2, d3, d4] }
  | _ => none }
def LagrangeConcaveWrongFalsely : Prop := lagrangeConcaveRow.holds Tryz.pinned (OpenSpec.ofChange lagrangeConcaveWrong)

/-- 'pairinglaw30.BranchFollows': WHATEVER THE INPUT: true; the input reads as it did. -/
def branchFollowsSpec : ChangeSpec := { name := "branchFollows", fn := fun _ => fun
  | [d1, d2, d3] => { results := [.lit (.bool true)], args := [d1, d2, d3] }
  | _ => none }
def branchFollowsRow : OpenClaim := { program := "ytniigfikpfinfaagreat", sum := "5913894416a280e2d026796774727afe34d7d79eedcfb4c580aaf2887b113a83", func := "pairing/pairinglaw30.BranchFollows", spec := "branchFollows", unfollowed := true, recurses := true, plainKeys := false, apart := false }
def BranchFollowsSaid : Prop := branchFollowsRow.holds Tryz.pinned (OpenSpec.ofChange branchFollowsSpec)

/-- ITS FALSE NEIGHBOUR: 'it returns false'. Refute it at one input. -/
def branchFollowsWrong : ChangeSpec := { name := "branchFollows", fn := fun _ => fun
  | [d1, d2, d3] => { results := [.lit (.bool false)], args := [d1, d2, d3] }
  | _ => none }
def BranchFollowsWrongFalsely : Prop := branchFollowsRow.holds Tryz.pinned (OpenSpec.ofChange branchFollowsWrong)

/-- 'pairinglaw30.BranchChildren': WHATEVER THE INPUT: true; the input reads as it did. -/
def branchChildrenSpec : ChangeSpec := { name := "branchChildren", fn := fun _ => fun
  | [d1, d2] => { results := [.lit (.bool true)], args := [d1, d2] }
  | _ => none }
def branchChildrenRow : OpenClaim := { program := "ytniigfikpfinfaagreat", sum := "5913894416a280e2d026796774727afe34d7d79eedcfb4c580aaf2887b113a83", func := "pairing/pairinglaw30.BranchChildren", spec := "branchChildren", unfollowed := true, recurses := true, plainKeys := false, apart := false }
def BranchChildrenSaid : Prop := branchChildrenRow.holds Tryz.pinned (OpenSpec.ofChange branchChildrenSpec)

/-- ITS FALSE NEIGHBOUR: 'it returns false'. Refute it at one input. -/
def branchChildrenWrong : ChangeSpec := { name := "branchChildren", fn := fun _ => fun
  | [d1, d2] => { results := [.lit (.bool false)], args := [d1, d2] }
  | _ => none }
def BranchChildrenWrongFalsely : Prop := branchChildrenRow.holds Tryz.pinned (OpenSpec.ofChange branchChildrenWrong)

/-- 'pairinglaw30.BranchKeeps': WHATEVER THE INPUT: true; the input reads as it did. -/
def branchKeepsSpec : ChangeSpec := { name := "branchKeeps", fn := fun _ => fun
  | [d1, d2] => { results := [.lit (.bool true)], args := [d1, d2] }
  | _ => none }
def branchKeepsRow : OpenClaim := { program := "ytniigfikpfinfaagreat", sum := "5913894416a280e2d026796774727afe34d7d79eedcfb4c580aaf2887b113a83", func := "pairing/pairinglaw30.BranchKeeps", spec := "branchKeeps", unfollowed := true, recurses := true, plainKeys := false, apart := false }
def BranchKeepsSaid : Prop := branchKeepsRow.holds Tryz.pinned (OpenSpec.ofChange branchKeepsSpec)

/-- ITS FALSE NEIGHBOUR: 'it returns false'. Refute it at one input. -/
def branchKeepsWrong : ChangeSpec := { name := "branchKeeps", fn := fun _ => fun
  | [d1, d2] => { results := [.lit (.bool false)], args := [d1, d2] }
  | _ => none }
def BranchKeepsWrongFalsely : Prop := branchKeepsRow.holds Tryz.pinned (OpenSpec.ofChange branchKeepsWrong)

/-- 'pairinglaw30.BranchFits': WHATEVER THE INPUT: true; the input reads as it did. -/
def branchFitsSpec : ChangeSpec := { name := "branchFits", fn := fun _ => fun
  | [d1, d2] => { results := [.lit (.bool true)], args := [d1, d2] }
  | _ => none }
def branchFitsRow : OpenClaim := { program := "ytniigfikpfinfaagreat", sum := "5913894416a280e2d026796774727afe34d7d79eedcfb4c580aaf2887b113a83", func := "pairing/pairinglaw30.BranchFits", spec := "branchFits", unfollowed := true, recurses := true, plainKeys := false, apart := false }
def BranchFitsSaid : Prop := branchFitsRow.holds Tryz.pinned (OpenSpec.ofChange branchFitsSpec)

/-- ITS FALSE NEIGHBOUR: 'it returns false'. Refute it at one input. -/
def branchFitsWrong : ChangeSpec := { name := "branchFits", fn := fun _ => fun
  | [d1, d2] => { results := [.lit (.bool false)], args := [d1, d2] }
  | _ => none }
def BranchFitsWrongFalsely : Prop := branchFitsRow.holds Tryz.pinned (OpenSpec.ofChange branchFitsWrong)

/-- 'pairinglaw30.BranchRounds': WHATEVER THE INPUT: true; the input reads as it did. -/
def branchRoundsSpec : ChangeSpec := { name := "branchRounds", fn := fun _ => fun
  | [d1, d2, d3] => { results := [.lit (.bool true)], args := [d1, d2, d3] }
  | _ => none }
def branchRoundsRow : OpenClaim := { program := "ytniigfikpfinfaagreat", sum := "5913894416a280e2d026796774727afe34d7d79eedcfb4c580aaf2887b113a83", func := "pairing/pairinglaw30.BranchRounds", spec := "branchRounds", unfollowed := true, recurses := true, plainKeys := false, apart := false }
def BranchRoundsSaid : Prop := branchRoundsRow.holds Tryz.pinned (OpenSpec.ofChange branchRoundsSpec)

/-- ITS FALSE NEIGHBOUR: 'it returns false'. Refute it at one input. -/
def branchRoundsWrong : ChangeSpec := { name := "branchRounds", fn := fun _ => fun
  | [d1, d2, d3] => { results := [.lit (.bool false)], args := [d1, d2, d3] }
  | _ => none }
def BranchRoundsWrongFalsely : Prop := branchRoundsRow.holds Tryz.pinned (OpenSpec.ofChange branchRoundsWrong)

/-- 'pairinglaw30.BranchRoundsDown': WHATEVER THE INPUT: true; the input reads as it did. -/
def branchRoundsDownSpec : ChangeSpec := { name := "branchRoundsDown", fn := fun _ => fun
  | [d1, d2] => { results := [.lit (.bool true)], args := [d1, d2] }
  | _ => none }
def branchRoundsDownRow : OpenClaim := { program := "ytniigfikpfinfaagreat", sum := "5913894416a280e2d026796774727afe34d7d79eedcfb4c580aaf2887b113a83", func := "pairing/pairinglaw30.BranchRoundsDown", spec := "branchRoundsDown", unfollowed := true, recurses := true, plainKeys := false, apart := false }
def BranchRoundsDownSaid : Prop := branchRoundsDownRow.holds Tryz.pinned (OpenSpec.ofChange branchRoundsDownSpec)

/-- ITS FALSE NEIGHBOUR: 'it returns false'. Refute it at one input. -/
def branchRoundsDownWrong : ChangeSpec := { name := "branchRoundsDown", fn := fun _ => fun
  | [d1, d2] => { results := [.lit (.bool false)], args := [d1, d2] }
  | _ => none }
def BranchRoundsDownWrongFalsely : Prop := branchRoundsDownRow.holds Tryz.pinned (OpenSpec.ofChange branchRoundsDownWrong)

/- THE SECOND FORM. 'bulk': how many values and letters a reading holds, each counted each time it is reached (what is shared counts as often as it is met; a slice's spare places count too). A statement '..UptoSaid' is the law's where the arguments, and the package variables that the reading takes, are together of bulk at most 1048576: NARROWER than '..Said'. Prove '..Said' where nothing that the law and all that it calls make is longer than what came in: it says more and counts as full. Else prove '..UptoSaid'. A law counts once. -/
mutual
def uptoBulk {H : Type} : DataW H → Nat
  | .lit (.string bytes) => bytes.length + 1
  | .lit _ => 1
  | .nil => 1
  | .ptr d => uptoBulk d + 1
  | .slice elems spare => uptoBulkAll elems + uptoBulkAll spare + 1
  | .agg parts => uptoBulkAll parts + 1
  | .iface _ d => uptoBulk d + 1
  | .map entries => uptoBulkEntries entries + 1
  | .held _ => 1
def uptoBulkAll {H : Type} : List (DataW H) → Nat
  | [] => 0
  | d :: r => uptoBulk d + uptoBulkAll r
def uptoBulkEntries {H : Type} : List (Lit × DataW H) → Nat
  | [] => 0
  | x :: r => uptoBulkEntry x + uptoBulkEntries r
def uptoBulkEntry {H : Type} : Lit × DataW H → Nat
  | (.string bytes, d) => bytes.length + uptoBulk d + 1
  | (_, d) => uptoBulk d + 1
 end
def uptoSmall : (H : Type) → List (DataW H) → Bool := fun _ ds => decide (uptoBulkAll ds ≤ 1048576)
def OpenSpec.upto (s : _root_.Go.ChangeSpec) : _root_.Go.OpenSpec := { _root_.Go.OpenSpec.ofChange s with cond := some uptoSmall }

/-- 'pairinglaw28.LagrangeBounds', WHERE WHAT IT READS IS OF BULK AT MOST 1048576: true; the input reads as it did. -/
def lagrangeBoundsUptoRow : OpenClaim := { program := "ytniigfikpfinfaagreat", sum := "5913894416a280e2d026796774727afe34d7d79eedcfb4c580aaf2887b113a83", func := "pairing/pairinglaw28.LagrangeBounds", spec := "lagrangeBounds", unfollowed := true, recurses := true, plainKeys := false, apart := false, narrowed := true }
def LagrangeBoundsUptoSaid : Prop := lagrangeBoundsUptoRow.holds Tryz.pinned (OpenSpec.upto lagrangeBoundsSpec)

/-- 'pairinglaw28.LagrangeBelow', WHERE WHAT IT READS IS OF BULK AT MOST 1048576: true; the input reads as it did. -/
def lagrangeBelowUptoRow : OpenClaim := { program := "ytniigfikpfinfaagreat", sum := "5913894416a280e2d026796774727afe34d7d79eedcfb4c580aaf2887b113a83", func := "pairing/pairinglaw28.LagrangeBelow", spec := "lagrangeBelow", unfollowed := true, recurses := true, plainKeys := false, apart := false, narrowed := true }
def LagrangeBelowUptoSaid : Prop := lagrangeBelowUptoRow.holds Tryz.pinned (OpenSpec.upto lagrangeBelowSpec)

/-- 'pairinglaw28.LagrangeSteps', WHERE WHAT IT READS IS OF BULK AT MOST 1048576: true; the input reads as it did. -/
def lagrangeStepsUptoRow : OpenClaim := { program := "ytniigfikpfinfaagreat", sum := "5913894416a280e2d026796774727afe34d7d79eedcfb4c580aaf2887b113a83", func := "pairing/pairinglaw28.LagrangeSteps", spec := "lagrangeSteps", unfollowed := true, recurses := true, plainKeys := false, apart := false, narrowed := true }
def LagrangeStepsUptoSaid : Prop := lagrangeStepsUptoRow.holds Tryz.pinned (OpenSpec.upto lagrangeStepsSpec)

/-- 'pairinglaw28.LagrangeMixes', WHERE WHAT IT READS IS OF BULK AT MOST 1048576: true; the input reads as it did. -/
def lagrangeMixesUptoRow : OpenClaim := { program := "ytniigfikpfinfaagreat", sum := "5913894416a280e2d026796774727afe34d7d79eedcfb4c580aaf2887b113a83", func := "pairing/pairinglaw28.LagrangeMixes", spec := "lagrangeMixes", unfollowed := true, recurses := true, plainKeys := false, apart := false, narrowed := true }
def LagrangeMixesUptoSaid : Prop := lagrangeMixesUptoRow.holds Tryz.pinned (OpenSpec.upto lagrangeMixesSpec)

/-- 'pairinglaw28.LagrangeConcave', WHERE WHAT IT READS IS OF BULK AT MOST 1048576: true; the input reads as it did. -/
def lagrangeConcaveUptoRow : OpenClaim := { program := "ytniigfikpfinfaagreat", sum := "5913894416a280e2d026796774727afe34d7d79eedcfb4c580aaf2887b113a83", func := "pairing/pairinglaw28.LagrangeConcave", spec := "lagrangeConcave", unfollowed := true, recurses := true, plainKeys := false, apart := false, narrowed := true }
def LagrangeConcaveUptoSaid : Prop := lagrangeConcaveUptoRow.holds Tryz.pinned (OpenSpec.upto lagrangeConcaveSpec)

/-- 'pairinglaw30.BranchFollows', WHERE WHAT IT READS IS OF BULK AT MOST 1048576: true; the input reads as it did. -/
def branchFollowsUptoRow : OpenClaim := { program := "ytniigfikpfinfaagreat", sum := "5913894416a280e2d026796774727afe34d7d79eedcfb4c580aaf2887b113a83", func := "pairing/pairinglaw30.BranchFollows", spec := "branchFollows", unfollowed := true, recurses := true, plainKeys := false, apart := false, narrowed := true }
def BranchFollowsUptoSaid : Prop := branchFollowsUptoRow.holds Tryz.pinned (OpenSpec.upto branchFollowsSpec)

/-- 'pairinglaw30.BranchChildren', WHERE WHAT IT READS IS OF BULK AT MOST 1048576: true; the input reads as it did. -/
def branchChildrenUptoRow : OpenClaim := { program := "ytniigfikpfinfaagreat", sum := "5913894416a280e2d026796774727afe34d7d79eedcfb4c580aaf2887b113a83", func := "pairing/pairinglaw30.BranchChildren", spec := "branchChildren", unfollowed := true, recurses := true, plainKeys := false, apart := false, narrowed := true }
def BranchChildrenUptoSaid : Prop := branchChildrenUptoRow.holds Tryz.pinned (OpenSpec.upto branchChildrenSpec)

/-- 'pairinglaw30.BranchKeeps', WHERE WHAT IT READS IS OF BULK AT MOST 1048576: true; the input reads as it did. -/
def branchKeepsUptoRow : OpenClaim := { program := "ytniigfikpfinfaagreat", sum := "5913894416a280e2d026796774727afe34d7d79eedcfb4c580aaf2887b113a83", func := "pairing/pairinglaw30.BranchKeeps", spec := "branchKeeps", unfollowed := true, recurses := true, plainKeys := false, apart := false, narrowed := true }
def BranchKeepsUptoSaid : Prop := branchKeepsUptoRow.holds Tryz.pinned (OpenSpec.upto branchKeepsSpec)

/-- 'pairinglaw30.BranchFits', WHERE WHAT IT READS IS OF BULK AT MOST 1048576: true; the input reads as it did. -/
def branchFitsUptoRow : OpenClaim := { program := "ytniigfikpfinfaagreat", sum := "5913894416a280e2d026796774727afe34d7d79eedcfb4c580aaf2887b113a83", func := "pairing/pairinglaw30.BranchFits", spec := "branchFits", unfollowed := true, recurses := true, plainKeys := false, apart := false, narrowed := true }
def BranchFitsUptoSaid : Prop := branchFitsUptoRow.holds Tryz.pinned (OpenSpec.upto branchFitsSpec)

/-- 'pairinglaw30.BranchRounds', WHERE WHAT IT READS IS OF BULK AT MOST 1048576: true; the input reads as it did. -/
def branchRoundsUptoRow : OpenClaim := { program := "ytniigfikpfinfaagreat", sum := "5913894416a280e2d026796774727afe34d7d79eedcfb4c580aaf2887b113a83", func := "pairing/pairinglaw30.BranchRounds", spec := "branchRounds", unfollowed := true, recurses := true, plainKeys := false, apart := false, narrowed := true }
def BranchRoundsUptoSaid : Prop := branchRoundsUptoRow.holds Tryz.pinned (OpenSpec.upto branchRoundsSpec)

/-- 'pairinglaw30.BranchRoundsDown', WHERE WHAT IT READS IS OF BULK AT MOST 1048576: true; the input reads as it did. -/
def branchRoundsDownUptoRow : OpenClaim := { program := "ytniigfikpfinfaagreat", sum := "5913894416a280e2d026796774727afe34d7d79eedcfb4c580aaf2887b113a83", func := "pairing/pairinglaw30.BranchRoundsDown", spec := "branchRoundsDown", unfollowed := true, recurses := true, plainKeys := false, apart := false, narrowed := true }
def BranchRoundsDownUptoSaid : Prop := branchRoundsDownUptoRow.holds Tryz.pinned (OpenSpec.upto branchRoundsDownSpec)

end Rows
end Go.Proofs.YtniigfikpfinfaaGreat
