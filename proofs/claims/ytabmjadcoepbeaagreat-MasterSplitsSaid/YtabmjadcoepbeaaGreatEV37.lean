/- The check known of the law's package holds. -/
import Derived.Test.YtabmjadcoepbeaaGreatEV33
import Derived.Test.YtabmjadcoepbeaaGreatEV34
import Derived.Test.YtabmjadcoepbeaaGreatEV35
import Derived.Test.YtabmjadcoepbeaaGreatEV36
set_option linter.unusedVariables false
set_option linter.unusedSimpArgs false
namespace Go.Proofs.YtabmjadcoepbeaaGreat.Ev
def orcK : Orc := ⟨10, [], [], 0, .w (.c (.bool true)), [], 22622⟩
def orcsK : List Orc := [orcP, orcN0, orcN1, orcN2]
theorem orcsK_ok : ∀ o ∈ orcsK, OrcOk Tryz.prog o := by
 intro o m
 simp only [orcsK, List.mem_cons, List.not_mem_nil, or_false] at m
 rcases m with rfl | rfl | rfl | rfl
 ·exact okP
 ·exact okN0
 ·exact okN1
 ·exact okN2
theorem chkK : chkO (envA orcsK) 3000 orcK = true := by kernel_rfl
theorem okK : OrcOk Tryz.prog orcK := orcA_ok (n := 2999) orcsK_ok chkK
end Go.Proofs.YtabmjadcoepbeaaGreat.Ev
