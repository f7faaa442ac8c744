/- ConsoleLimits: each type of the program is laid out finely, part 2, by program (genAQZ.py). -/
import Derived.Test.YtjianicbagcekaaGreatDoorRows
import GoSem.ClaimDataLaid
import Derived.KernelRfl
namespace Go.Proofs.YtjianicbagcekaaGreatDoor
open Go
set_option maxRecDepth 1000000 in
theorem qz_8 : (List.range' 320 40).all (rowFine Tryz.prog) = true := by kernel_rfl
set_option maxRecDepth 1000000 in
theorem qz_9 : (List.range' 360 40).all (rowFine Tryz.prog) = true := by kernel_rfl
set_option maxRecDepth 1000000 in
theorem qz_10 : (List.range' 400 40).all (rowFine Tryz.prog) = true := by kernel_rfl
set_option maxRecDepth 1000000 in
theorem qz_11 : (List.range' 440 40).all (rowFine Tryz.prog) = true := by kernel_rfl
set_option maxRecDepth 1000000 in
theorem qz_12 : (List.range' 480 40).all (rowFine Tryz.prog) = true := by kernel_rfl
set_option maxRecDepth 1000000 in
theorem qz_13 : (List.range' 520 40).all (rowFine Tryz.prog) = true := by kernel_rfl
set_option maxRecDepth 1000000 in
theorem qz_14 : (List.range' 560 40).all (rowFine Tryz.prog) = true := by kernel_rfl
set_option maxRecDepth 1000000 in
theorem qz_15 : (List.range' 600 40).all (rowFine Tryz.prog) = true := by kernel_rfl
end Go.Proofs.YtjianicbagcekaaGreatDoor
