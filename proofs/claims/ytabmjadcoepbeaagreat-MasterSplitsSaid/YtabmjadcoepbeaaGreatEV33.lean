/- The problem. -/
import Derived.Test.YtabmjadcoepbeaaGreatEV31
import Derived.Test.YtabmjadcoepbeaaGreatEV32
set_option linter.unusedVariables false
set_option linter.unusedSimpArgs false
namespace Go.Proofs.YtabmjadcoepbeaaGreat.Ev
def orcsL : List Orc := [orc0, orc1, orc2, orc3, orc4, orc5, orc6, orc7, orc8, orc9, orc10, orc11, orc12, orc13, orc14]
theorem orcs_ok : ∀ o ∈ orcsL, OrcOk Tryz.prog o := by
 intro o m
 simp only [orcsL, List.mem_cons, List.not_mem_nil, or_false] at m
 rcases m with rfl | rfl | rfl | rfl | rfl | rfl | rfl | rfl | rfl | rfl | rfl | rfl | rfl | rfl | rfl
 ·exact ok0
 ·exact ok1
 ·exact ok2
 ·exact ok3
 ·exact ok4
 ·exact ok5
 ·exact ok6
 ·exact ok7
 ·exact ok8
 ·exact ok9
 ·exact ok10
 ·exact ok11
 ·exact ok12
 ·exact ok13
 ·exact ok14
theorem chkP : chkO (envA orcsL) 3000 orcP = true := by kernel_rfl
theorem okP : OrcOk Tryz.prog orcP := orcA_ok (n := 2999) orcs_ok chkP
end Go.Proofs.YtabmjadcoepbeaaGreat.Ev
