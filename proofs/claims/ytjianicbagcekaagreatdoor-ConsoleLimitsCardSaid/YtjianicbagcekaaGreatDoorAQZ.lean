/- ConsoleLimits: the program's types and variables are laid out, joined, by program (genAQZ.py). -/
import Derived.Test.YtjianicbagcekaaGreatDoorAQZ1
import Derived.Test.YtjianicbagcekaaGreatDoorAQZ2
import Derived.Test.YtjianicbagcekaaGreatDoorAQZ3
namespace Go.Proofs.YtjianicbagcekaaGreatDoor
open Go
theorem all_range' {p : Nat → Bool} {a n : Nat} (h : (List.range' a n).all p = true) {i : Nat} (h1 : a ≤ i) (h2 : i < a + n) : p i = true :=
  List.all_eq_true.1 h i (List.mem_range'_1.2 ⟨h1, h2⟩)
theorem qz_size : Tryz.prog.types.size = 937 := by kernel_rfl
set_option maxRecDepth 1000000 in
theorem qz_types : (List.range Tryz.prog.types.size).all (rowFine Tryz.prog) = true := by
  rw [qz_size, List.all_eq_true]
  intro i hi
  rw [List.mem_range] at hi
  rcases Nat.lt_or_ge i 40 with h | h0
  · exact all_range' qz_0 (by omega) (by omega)
  rcases Nat.lt_or_ge i 80 with h | h1
  · exact all_range' qz_1 (by omega) (by omega)
  rcases Nat.lt_or_ge i 120 with h | h2
  · exact all_range' qz_2 (by omega) (by omega)
  rcases Nat.lt_or_ge i 160 with h | h3
  · exact all_range' qz_3 (by omega) (by omega)
  rcases Nat.lt_or_ge i 200 with h | h4
  · exact all_range' qz_4 (by omega) (by omega)
  rcases Nat.lt_or_ge i 240 with h | h5
  · exact all_range' qz_5 (by omega) (by omega)
  rcases Nat.lt_or_ge i 280 with h | h6
  · exact all_range' qz_6 (by omega) (by omega)
  rcases Nat.lt_or_ge i 320 with h | h7
  · exact all_range' qz_7 (by omega) (by omega)
  rcases Nat.lt_or_ge i 360 with h | h8
  · exact all_range' qz_8 (by omega) (by omega)
  rcases Nat.lt_or_ge i 400 with h | h9
  · exact all_range' qz_9 (by omega) (by omega)
  rcases Nat.lt_or_ge i 440 with h | h10
  · exact all_range' qz_10 (by omega) (by omega)
  rcases Nat.lt_or_ge i 480 with h | h11
  · exact all_range' qz_11 (by omega) (by omega)
  rcases Nat.lt_or_ge i 520 with h | h12
  · exact all_range' qz_12 (by omega) (by omega)
  rcases Nat.lt_or_ge i 560 with h | h13
  · exact all_range' qz_13 (by omega) (by omega)
  rcases Nat.lt_or_ge i 600 with h | h14
  · exact all_range' qz_14 (by omega) (by omega)
  rcases Nat.lt_or_ge i 640 with h | h15
  · exact all_range' qz_15 (by omega) (by omega)
  rcases Nat.lt_or_ge i 680 with h | h16
  · exact all_range' qz_16 (by omega) (by omega)
  rcases Nat.lt_or_ge i 720 with h | h17
  · exact all_range' qz_17 (by omega) (by omega)
  rcases Nat.lt_or_ge i 760 with h | h18
  · exact all_range' qz_18 (by omega) (by omega)
  rcases Nat.lt_or_ge i 800 with h | h19
  · exact all_range' qz_19 (by omega) (by omega)
  rcases Nat.lt_or_ge i 840 with h | h20
  · exact all_range' qz_20 (by omega) (by omega)
  rcases Nat.lt_or_ge i 880 with h | h21
  · exact all_range' qz_21 (by omega) (by omega)
  rcases Nat.lt_or_ge i 920 with h | h22
  · exact all_range' qz_22 (by omega) (by omega)
  rcases Nat.lt_or_ge i 937 with h | h23
  · exact all_range' qz_23 (by omega) (by omega)
  omega
set_option maxRecDepth 1000000 in
theorem qz_globals : Tryz.prog.globals.all (fun g => decide (g.type < Tryz.prog.types.size)) = true := by rw [qz_size]; kernel_rfl
set_option maxRecDepth 1000000 in
theorem qz_funcs : Tryz.prog.funcs.all (fun f => f.params.all fun t => decide (t < Tryz.prog.types.size)) = true := by rw [qz_size]; kernel_rfl
theorem qz_laidOut : laidOutB Tryz.pinned.checked.prog = true := by
  show laidOutB Tryz.prog = true
  unfold laidOutB
  rw [qz_types, qz_globals, qz_funcs]; rfl
end Go.Proofs.YtjianicbagcekaaGreatDoor
