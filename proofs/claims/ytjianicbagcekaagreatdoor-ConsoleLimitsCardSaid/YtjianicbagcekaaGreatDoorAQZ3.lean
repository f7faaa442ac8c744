/- ConsoleLimits: each type of the program is laid out finely, part 3, by program (genAQZ.py). -/
import Derived.Test.YtjianicbagcekaaGreatDoorRows
import GoSem.ClaimDataLaid
import Derived.KernelRfl
namespace Go.Proofs.YtjianicbagcekaaGreatDoor
open Go
set_option maxRecDepth 1000000 in
theorem qz_16 : (List.range' 640 40).all (rowFine Tryz.prog) = true := by kernel_rfl
set_option maxRecDepth 1000000 in
theorem qz_17 : (List.range' 680 40).all (rowFine Tryz.prog) = true := by kernel_rfl
set_option maxRecDepth 1000000 in
theorem qz_18 : (List.range' 720 40).all (rowFine Tryz.prog) = true := by kernel_rfl
set_option maxRecDepth 1000000 in
theorem qz_19 : (List.range' 760 40).all (rowFine Tryz.prog) = true := by kernel_rfl
set_option maxRecDepth 1000000 in
theorem qz_20 : (List.range' 800 40).all (rowFine Tryz.prog) = true := by kernel_rfl
set_option maxRecDepth 1000000 in
theorem qz_21 : (List.range' 840 40).all (rowFine Tryz.prog) = true := by kernel_rfl
set_option maxRecDepth 1000000 in
theorem qz_22 : (List.range' 880 40).all (rowFine Tryz.prog) = true := by kernel_rfl
set_option maxRecDepth 1000000 in
theorem qz_23 : (List.range' 920 17).all (rowFine Tryz.prog) = true := by kernel_rfl
end Go.Proofs.YtjianicbagcekaaGreatDoor
