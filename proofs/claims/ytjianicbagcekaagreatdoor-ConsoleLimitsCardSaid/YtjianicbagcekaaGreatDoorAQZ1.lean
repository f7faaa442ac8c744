/- ConsoleLimits: each type of the program is laid out finely, part 1, by program (genAQZ.py). -/
import Derived.Test.YtjianicbagcekaaGreatDoorRows
import GoSem.ClaimDataLaid
import Derived.KernelRfl
namespace Go.Proofs.YtjianicbagcekaaGreatDoor
open Go
set_option maxRecDepth 1000000 in
theorem qz_0 : (List.range' 0 40).all (rowFine Tryz.prog) = true := by kernel_rfl
set_option maxRecDepth 1000000 in
theorem qz_1 : (List.range' 40 40).all (rowFine Tryz.prog) = true := by kernel_rfl
set_option maxRecDepth 1000000 in
theorem qz_2 : (List.range' 80 40).all (rowFine Tryz.prog) = true := by kernel_rfl
set_option maxRecDepth 1000000 in
theorem qz_3 : (List.range' 120 40).all (rowFine Tryz.prog) = true := by kernel_rfl
set_option maxRecDepth 1000000 in
theorem qz_4 : (List.range' 160 40).all (rowFine Tryz.prog) = true := by kernel_rfl
set_option maxRecDepth 1000000 in
theorem qz_5 : (List.range' 200 40).all (rowFine Tryz.prog) = true := by kernel_rfl
set_option maxRecDepth 1000000 in
theorem qz_6 : (List.range' 240 40).all (rowFine Tryz.prog) = true := by kernel_rfl
set_option maxRecDepth 1000000 in
theorem qz_7 : (List.range' 280 40).all (rowFine Tryz.prog) = true := by kernel_rfl
end Go.Proofs.YtjianicbagcekaaGreatDoor
