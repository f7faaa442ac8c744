/- The check known of package pairinglaw27 returns true and touches no block that was there. -/
import Derived.Below
import Derived.Test.YtabmjadcoepbeaaGreatEV37
set_option linter.unusedVariables false
set_option linter.unusedSimpArgs false
namespace Go.Proofs.YtabmjadcoepbeaaGreat.Ev
open Go.RowKit
theorem known_ok (w : World) : Calls Tryz.prog 10 #[] w fun e u => e = .returned (.bool true) ∧ Below w.heap.size w u := by
 obtain ⟨_, h⟩ := okK
 have hS : Sim noPhi (asF orcK.pre) w := ⟨fun _ _ h => (by cases h), fun _ _ _ _ _ _ h => (by cases h)⟩
 obtain ⟨_, h2⟩ := h noPhi w hS (fun _ _ _ => rfl) (fun _ m => by cases m)
 refine Calls.mono h2 fun e u he => ?_
 obtain ⟨ψ, rfl, _, st⟩ := he
 exact ⟨rfl, st.os, st.tape, st.output, st.size, fun b hb => st.fr b hb (fun ⟨_, _, _, h, _⟩ => by cases h)⟩
end Go.Proofs.YtabmjadcoepbeaaGreat.Ev
