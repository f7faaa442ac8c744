/- The tie of ConsoleLimits' row: the variables' text, run; the tie itself. -/
import Derived.Test.YtjianicbagcekaaGreatDoorAQT
namespace Go.Proofs.YtjianicbagcekaaGreatDoor
open Go
theorem qt_7 : ∀ os tape, varsDone Tryz.prog 400 (varsId Tryz.prog) os tape = true := fun _ _ => by kernel_rfl
theorem qt_8 : ∀ os tape, (DataW.laidRun Tryz.prog (varsWorld Tryz.prog 400 (varsId Tryz.prog) os tape).memory 8 (qt_laid.map (·.1))).map (·.1) = some qt_laid := fun _ _ => by kernel_rfl
theorem qt_9 : ∀ os tape, (DataW.laidRun Tryz.prog (varsWorld Tryz.prog 400 (varsId Tryz.prog) os tape).memory 8 (qt_laid.map (·.1))).map (fun x => decide x.2.Nodup && laidRowsB Tryz.prog (varsWorld Tryz.prog 400 (varsId Tryz.prog) os tape).memory x.2) = some true := fun _ _ => by kernel_rfl
theorem qt_tie : Tryz.prog.laidByTextLater qt_laid [.data, .data, .data, .data] true :=
  Program.laidByTextLater_by_run 400 8 qt_1 qt_2 qt_3 qt_4 qt_5 qt_6 qt_7 qt_8 qt_9
theorem qt_row : Rows.consoleLimitsRow.laidByTextAt .later Tryz.pinned [.pinned, .data, .data, .data, .data] true :=
  OpenClaim.laidByTextAt_pinned rfl rfl qt_tie rfl rfl rfl rfl (fun y hy _e => by
    simp only [Rows.consoleLimitsRow, List.zip_cons_cons, List.zip_nil_right, List.mem_cons, List.mem_nil_iff, or_false] at hy
    rcases hy with rfl | rfl | rfl | rfl | rfl
    · exact ⟨qt_pin, by kernel_rfl⟩
    · cases _e
    · cases _e
    · cases _e
    · cases _e) qt_fits
end Go.Proofs.YtjianicbagcekaaGreatDoor
