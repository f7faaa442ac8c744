/- Lines of the contract's text, second half. -/
import Derived.Test.YtabmjadcoepbeaaGreatEV30
set_option linter.unusedVariables false
set_option linter.unusedSimpArgs false
namespace Go.Proofs.YtabmjadcoepbeaaGreat.Ev
theorem chk7 : chkO (envA []) 3000 orc7 = true := by kernel_rfl
theorem ok7 : OrcOk Tryz.prog orc7 := orcA_ok (n := 2999) (fun _ m => by cases m) chk7
theorem chk8 : chkO (envA []) 3000 orc8 = true := by kernel_rfl
theorem ok8 : OrcOk Tryz.prog orc8 := orcA_ok (n := 2999) (fun _ m => by cases m) chk8
theorem chk9 : chkO (envA []) 3000 orc9 = true := by kernel_rfl
theorem ok9 : OrcOk Tryz.prog orc9 := orcA_ok (n := 2999) (fun _ m => by cases m) chk9
theorem chk10 : chkO (envA []) 3000 orc10 = true := by kernel_rfl
theorem ok10 : OrcOk Tryz.prog orc10 := orcA_ok (n := 2999) (fun _ m => by cases m) chk10
theorem chk11 : chkO (envA []) 3000 orc11 = true := by kernel_rfl
theorem ok11 : OrcOk Tryz.prog orc11 := orcA_ok (n := 2999) (fun _ m => by cases m) chk11
theorem chk12 : chkO (envA []) 3000 orc12 = true := by kernel_rfl
theorem ok12 : OrcOk Tryz.prog orc12 := orcA_ok (n := 2999) (fun _ m => by cases m) chk12
theorem chk13 : chkO (envA []) 3000 orc13 = true := by kernel_rfl
theorem ok13 : OrcOk Tryz.prog orc13 := orcA_ok (n := 2999) (fun _ m => by cases m) chk13
theorem chk14 : chkO (envA []) 3000 orc14 = true := by kernel_rfl
theorem ok14 : OrcOk Tryz.prog orc14 := orcA_ok (n := 2999) (fun _ m => by cases m) chk14
end Go.Proofs.YtabmjadcoepbeaaGreat.Ev
