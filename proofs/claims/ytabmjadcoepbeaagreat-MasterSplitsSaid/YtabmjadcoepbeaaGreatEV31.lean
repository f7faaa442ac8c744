/- Lines of the contract's text. -/
import Derived.Test.YtabmjadcoepbeaaGreatEV30
set_option linter.unusedVariables false
set_option linter.unusedSimpArgs false
namespace Go.Proofs.YtabmjadcoepbeaaGreat.Ev
theorem chk0 : chkO (envA []) 3000 orc0 = true := by kernel_rfl
theorem ok0 : OrcOk Tryz.prog orc0 := orcA_ok (n := 2999) (fun _ m => by cases m) chk0
theorem chk1 : chkO (envA []) 3000 orc1 = true := by kernel_rfl
theorem ok1 : OrcOk Tryz.prog orc1 := orcA_ok (n := 2999) (fun _ m => by cases m) chk1
theorem chk2 : chkO (envA []) 3000 orc2 = true := by kernel_rfl
theorem ok2 : OrcOk Tryz.prog orc2 := orcA_ok (n := 2999) (fun _ m => by cases m) chk2
theorem chk3 : chkO (envA []) 3000 orc3 = true := by kernel_rfl
theorem ok3 : OrcOk Tryz.prog orc3 := orcA_ok (n := 2999) (fun _ m => by cases m) chk3
theorem chk4 : chkO (envA []) 3000 orc4 = true := by kernel_rfl
theorem ok4 : OrcOk Tryz.prog orc4 := orcA_ok (n := 2999) (fun _ m => by cases m) chk4
theorem chk5 : chkO (envA []) 3000 orc5 = true := by kernel_rfl
theorem ok5 : OrcOk Tryz.prog orc5 := orcA_ok (n := 2999) (fun _ m => by cases m) chk5
theorem chk6 : chkO (envA []) 3000 orc6 = true := by kernel_rfl
theorem ok6 : OrcOk Tryz.prog orc6 := orcA_ok (n := 2999) (fun _ m => by cases m) chk6
end Go.Proofs.YtabmjadcoepbeaaGreat.Ev
