/-
  No cell of these rows narrows 'for every input' (looked for: loops, veiled, ifaces, maps, wideKeys, modest, calm, conditions, laid).
  DERIVED. THE GIVEN ROWS OF THIS SEAT. 3 by the template 'for every input the law returns true; each argument reads behind the call as it read before'; 0 by the template 'total and deterministic' (their statements: YtabmjadcoepbeaaGreatTotals.lean).
  GIVEN WITH THE SEED: the statements are not yours to turn. If you find one false, say at which input.
  Laid BY PROGRAM, IN A SANDBOX (cutbox-rows.mjs): the forced cells as the released guide's own fill.sh prints them over the translation d6adb94c80695530… (all of the seat's roots in one cut). By AI agents, Wed Nov 11 2026. No macro, syntax, notation, axiom, sorry.
-/
import Derived.Test.YtabmjadcoepbeaaGreatChecked
import GoSem.Claim
import GoSem.ClaimJoined
import GoSem.ClaimMapViews
import Derived.JoinedTies
import Derived.KernelRfl
namespace Go.Proofs.YtabmjadcoepbeaaGreat
/- THE CELL 'sum', in the pinned program and in every row, IS THE sha256 OF THE DUMP (.gsa) THAT YtabmjadcoepbeaaGreatProg.lean LOADS. Nothing in Lean hashes anything: it is a label: what it is worth is what the hold of that sum in a sandbox is worth. -/
noncomputable def Tryz.pinned : Pinned := { name := "ytabmjadcoepbeaagreat", sum := "d6adb94c806955301a2163aab6371c48cd0c348d5e0c81f8fad278f171c6f5a7", checked := Tryz.checked }
namespace Rows
def none {H : Type} : Left H := { results := [], args := [] }

/-- 'pairinglaw27.MasterProgram': WHATEVER THE INPUT: true; the input reads as it did. -/
def masterProgramSpec : ChangeSpec := { name := "masterProgram", fn := fun _ => fun
  | [d] => { results := [.lit (.bool true)], args := [d] }
  | _ => none }
def masterProgramRow : OpenClaim := { program := "ytabmjadcoepbeaagreat", sum := "d6adb94c806955301a2163aab6371c48cd0c348d5e0c81f8fad278f171c6f5a7", func := "pairing/pairinglaw27.MasterProgram", spec := "masterProgram", inPlace := ["internal/bytealg.IndexByteString", "internal/bytealg.IndexString"], unfollowed := true, recurses := true, named := ["internal/bytealg.MaxLen"], plainKeys := false, apart := false }
def MasterProgramSaid : Prop := masterProgramRow.holds Tryz.pinned (OpenSpec.ofChange masterProgramSpec)

/-- ITS FALSE NEIGHBOUR: 'it returns false'. Refute it at one input. -/
def masterProgramWrong : ChangeSpec := { name := "masterProgram", fn := fun _ => fun
  | [d] => { results := [.lit (.bool false)], args := [d] }
  | _ => none }
def MasterProgramWrongFalsely : Prop := masterProgramRow.holds Tryz.pinned (OpenSpec.ofChange masterProgramWrong)

/-- 'pairinglaw27.MasterValidates': WHATEVER THE INPUT: true; the input reads as it did. -/
def masterValidatesSpec : ChangeSpec := { name := "masterValidates", fn := fun _ => fun
  | [d1, d2] => { results := [.lit (.bool true)], args := [d1, d2] }
  | _ => none }
def masterValidatesRow : OpenClaim := { program := "ytabmjadcoepbeaagreat", sum := "d6adb94c806955301a2163aab6371c48cd0c348d5e0c81f8fad278f171c6f5a7", func := "pairing/pairinglaw27.MasterValidates", spec := "masterValidates", inPlace := ["internal/bytealg.IndexByteString", "internal/bytealg.IndexString"], unfollowed := true, recurses := true, named := ["internal/bytealg.MaxLen"], plainKeys := false, apart := false }
def MasterValidatesSaid : Prop := masterValidatesRow.holds Tryz.pinned (OpenSpec.ofChange masterValidatesSpec)

/-- ITS FALSE NEIGHBOUR: 'it returns false'. Refute it at one input. -/
def masterValidatesWrong : ChangeSpec := { name := "masterValidates", fn := fun _ => fun
  | [d1, d2] => { results := [.lit (.bool false)], args := [d1, d2] }
  | _ => none }
def MasterValidatesWrongFalsely : Prop := masterValidatesRow.holds Tryz.pinned (OpenSpec.ofChange masterValidatesWrong)

/-- 'pairinglaw27.MasterSplits': WHATEVER THE INPUT: true; the input reads as it did. -/
def masterSplitsSpec : ChangeSpec := { name := "masterSplits", fn := fun _ => fun
  | [d1, d2, d3] => { results := [.lit (.bool true)], args := [d1, d2, d3] }
  | _ => none }
def masterSplitsRow : OpenClaim := { program := "ytabmjadcoepbeaagreat", sum := "d6adb94c806955301a2163aab6371c48cd0c348d5e0c81f8fad278f171c6f5a7", func := "pairing/pairinglaw27.MasterSplits", spec := "masterSplits", inPlace := ["internal/bytealg.IndexByteString", "internal/bytealg.IndexString"], unfollowed := true, recurses := true, named := ["internal/bytealg.MaxLen"], plainKeys := false, apart := false }
def MasterSplitsSaid : Prop := masterSplitsRow.holds Tryz.pinned (OpenSpec.ofChange masterSplitsSpec)

/-- ITS FALSE NEIGHBOUR: 'it returns false'. Refute it at one input. -/
def masterSplitsWrong : ChangeSpec := { name := "masterSplits", fn := fun _ => fun
  | [d1, d2, d3] => { results := [.lit (.bool false)], args := [d1, d2, d3] }
  | _ => none }
def MasterSplitsWrongFalsely : Prop := masterSplitsRow.holds Tryz.pinned (OpenSpec.ofChange masterSplitsWrong)

/- THE SECOND FORM. 'bulk': how many values and letters a reading holds, each counted each time it is reached (what is shared counts as often as it is met; a slice's spare places count too). A statement '..UptoSaid' is the law's where the arguments, and the package variables that the reading takes, are together of bulk at most 1048576: NARROWER than '..Said'. Prove '..Said' where nothing that the law and all that it calls make is longer than what came in: it says more and counts as full. Else prove '..UptoSaid'. A law counts once. -/
mutual
def uptoBulk {H : Type} : DataW H → Nat
  | .lit (.string bytes) => bytes.length + 1
  | .lit _ => 1
  | .nil => 1
  | .ptr d => uptoBulk d + 1
  | .slice elems spare => uptoBulkAll elems + uptoBulkAll spare + 1
  | .agg parts => uptoBulkAll parts + 1
  | .iface _ d => uptoBulk d + 1
  | .map entries => uptoBulkEntries entries + 1
  | .held _ => 1
def uptoBulkAll {H : Type} : List (DataW H) → Nat
  | [] => 0
  | d :: r => uptoBulk d + uptoBulkAll r
def uptoBulkEntries {H : Type} : List (Lit × DataW H) → Nat
  | [] => 0
  | x :: r => uptoBulkEntry x + uptoBulkEntries r
def uptoBulkEntry {H : Type} : Lit × DataW H → Nat
  | (.string bytes, d) => bytes.length + uptoBulk d + 1
  | (_, d) => uptoBulk d + 1
 end
def uptoSmall : (H : Type) → List (DataW H) → Bool := fun _ ds => decide (uptoBulkAll ds ≤ 1048576)
def OpenSpec.upto (s : _root_.Go.ChangeSpec) : _root_.Go.OpenSpec := { _root_.Go.OpenSpec.ofChange s with cond := some uptoSmall }

/-- 'pairinglaw27.MasterProgram', WHERE WHAT IT READS IS OF BULK AT MOST 1048576: true; the input reads as it did. -/
def masterProgramUptoRow : OpenClaim := { program := "ytabmjadcoepbeaagreat", sum := "d6adb94c806955301a2163aab6371c48cd0c348d5e0c81f8fad278f171c6f5a7", func := "pairing/pairinglaw27.MasterProgram", spec := "masterProgram", inPlace := ["internal/bytealg.IndexByteString", "internal/bytealg.IndexString"], unfollowed := true, recurses := true, named := ["internal/bytealg.MaxLen"], plainKeys := false, apart := false, narrowed := true }
def MasterProgramUptoSaid : Prop := masterProgramUptoRow.holds Tryz.pinned (OpenSpec.upto masterProgramSpec)

/-- 'pairinglaw27.MasterValidates', WHERE WHAT IT READS IS OF BULK AT MOST 1048576: true; the input reads as it did. -/
def masterValidatesUptoRow : OpenClaim := { program := "ytabmjadcoepbeaagreat", sum := "d6adb94c806955301a2163aab6371c48cd0c348d5e0c81f8fad278f171c6f5a7", func := "pairing/pairinglaw27.MasterValidates", spec := "masterValidates", inPlace := ["internal/bytealg.IndexByteString", "internal/bytealg.IndexString"], unfollowed := true, recurses := true, named := ["internal/bytealg.MaxLen"], plainKeys := false, apart := false, narrowed := true }
def MasterValidatesUptoSaid : Prop := masterValidatesUptoRow.holds Tryz.pinned (OpenSpec.upto masterValidatesSpec)

/-- 'pairinglaw27.MasterSplits', WHERE WHAT IT READS IS OF BULK AT MOST 1048576: true; the input reads as it did. -/
def masterSplitsUptoRow : OpenClaim := { program := "ytabmjadcoepbeaagreat", sum := "d6adb94c806955301a2163aab6371c48cd0c348d5e0c81f8fad278f171c6f5a7", func := "pairing/pairinglaw27.MasterSplits", spec := "masterSplits", inPlace := ["internal/bytealg.IndexByteString", "internal/bytealg.IndexString"], unfollowed := true, recurses := true, named := ["internal/bytealg.MaxLen"], plainKeys := false, apart := false, narrowed := true }
def MasterSplitsUptoSaid : Prop := masterSplitsUptoRow.holds Tryz.pinned (OpenSpec.upto masterSplitsSpec)

end Rows
end Go.Proofs.YtabmjadcoepbeaaGreat
