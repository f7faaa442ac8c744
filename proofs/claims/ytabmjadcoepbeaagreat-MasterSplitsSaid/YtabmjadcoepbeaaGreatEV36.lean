/- A call of the check known. -/
import Derived.Test.YtabmjadcoepbeaaGreatEV30
set_option linter.unusedVariables false
set_option linter.unusedSimpArgs false
namespace Go.Proofs.YtabmjadcoepbeaaGreat.Ev
def orcN2 : Orc := ⟨7, [.w (.agg [.int .i64 2, .slice 18319 0 2 0, .int .i64 23, .nils, .slice 18320 0 0 0])], [(18319, .row 1 [.int .i64 0, .int .i64 1]), (18320, .row 2 [])], 18322, .tup [.agg [.slice 20588 0 2 0, .slice 21015 0 2 0, .slice 20097 0 2 0], .c (.int .i64 0)], [(18319, .row 1 [.int .i64 0, .int .i64 1]), (18320, .row 2 []), (18577, .row 1 [.int .u32 1]), (18714, .row 1 [.int .u32 1]), (19068, .row 1 [.int .u32 23]), (19205, .row 1 [.int .u32 1]), (19249, .row 5 [.int .i64 0, .bool false, .full 19495 0 1 1, .bool false, .full 19632 0 1 1]), (19495, .row 1 [.int .u32 1]), (19632, .row 1 [.int .u32 1]), (19922, .row 1 [.int .u32 1]), (20059, .row 1 [.int .u32 1]), (20097, .row 4 [.bool false, .full 18577 0 1 1, .bool false, .full 18714 0 1 1, .bool false, .full 19922 0 1 1, .bool false, .full 20059 0 1 1]), (20413, .row 1 [.int .u32 23]), (20550, .row 1 [.int .u32 1]), (20588, .row 4 [.bool false, .full 19068 0 1 1, .bool false, .full 19205 0 1 1, .bool false, .full 20413 0 1 1, .bool false, .full 20550 0 1 1]), (20594, .row 5 [.int .i64 1, .bool false, .full 20840 0 1 1, .bool false, .full 20977 0 1 1]), (20840, .row 1 [.int .u32 1]), (20977, .row 1 [.int .u32 1]), (21015, .row 1 [.slice 19249 0 1 0, .slice 20594 0 1 0])], 21016⟩
theorem chkN2 : chkO (envA []) 3000 orcN2 = true := by kernel_rfl
theorem okN2 : OrcOk Tryz.prog orcN2 := orcA_ok (n := 2999) (fun _ m => by cases m) chkN2
end Go.Proofs.YtabmjadcoepbeaaGreat.Ev
