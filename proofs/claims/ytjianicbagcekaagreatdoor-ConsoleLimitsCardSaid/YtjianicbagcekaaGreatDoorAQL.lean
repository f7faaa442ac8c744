/- ConsoleLimits, the card: the law returns true; the variables that its row lists are tied to the program's text. There is no argument and no condition. -/
import Derived.Test.YtjianicbagcekaaGreatDoorCards
import Derived.Test.YtjianicbagcekaaGreatDoorAQV
import Derived.Test.YtjianicbagcekaaGreatDoorW3
import Derived.Test.YtjianicbagcekaaGreatDoorAQ9
import Derived.SevenTiedAt
namespace Go.Proofs.YtjianicbagcekaaGreatDoor
open Go Go.ChangeShapes Go.WideShapes Go.ChangeAt Go.RowKit

theorem consoleLimits_named : Tryz.prog.funcNamed "pairing/pairinglaw43.ConsoleLimits" = some 3 := by kernel_rfl
theorem consoleLimits_found : Tryz.pinned.checked.prog.funcNamed Rows.consoleLimitsRow.func = some 3 := consoleLimits_named
theorem consoleLimits_holds : Rows.ConsoleLimitsSaid :=
  OpenClaim.holds_of_wide 3 Tryz.f3 rfl rfl rfl rfl rfl rfl rfl ⟨rfl, rfl, rfl, rfl, rfl⟩ rfl rfl rfl rfl rfl consoleLimits_found Tryz.func3 consoleLimits_joined
    (of_decide_eq_true (by kernel_rfl)) (by unfold Func.isWrapper; first | (rw [if_pos (by decide +kernel)]; kernel_rfl) | (rw [if_neg (by decide +kernel)]; exact ⟨rfl, rfl⟩))
    (fun os started H enc _ => consoleLimits_lifted os started H enc)

set_option maxRecDepth 1000000 in
theorem card_main : Tryz.pinned.checked.prog.mainIs = some (true, "e3866fd08e92a8cbcd812e1a0c669cb12a40fb3852ef0e0c4c36090888b0d9b3".toList) := by kernel_rfl
set_option maxRecDepth 1000000 in
theorem card_wf : Rows.consoleLimitsRow.wfByText (OpenSpec.ofChange Rows.consoleLimitsSpec) = true := by kernel_rfl
theorem card_looks : ∀ f fn, Tryz.pinned.checked.prog.funcNamed Rows.consoleLimitsRow.func = some f → Tryz.pinned.checked.prog.funcs[f]? = some fn →
    false = Tryz.pinned.checked.prog.looks [] ∧ ∀ (j : Nat) t, fn.params[j]? = some t → Tryz.pinned.checked.prog.wantsStandIn t = false := fun f fn hf hfn => by
  obtain rfl : f = 3 := Option.some.inj (consoleLimits_named.symm.trans hf) |>.symm
  obtain rfl : fn = Tryz.f3 := (Option.some.inj (Tryz.func3.symm.trans hfn)).symm
  exact ⟨(Reach.looks_none qw_looks []).symm, fun j t ht => by
    rw [Tryz.params3] at ht
    simp at ht⟩
theorem card_goes : false = Rows.consoleLimitsRow.goesBy Tryz.pinned.checked.prog := (Reach.goesBy_none qw_goes Rows.consoleLimitsRow rfl).symm
theorem consoleLimits_tied : Claim7.holds Tryz.pinned (.plain (OpenSpec.ofChange Rows.consoleLimitsSpec)) { stood := { row := Rows.consoleLimitsRow, standIns := [], harness := (true, "e3866fd08e92a8cbcd812e1a0c669cb12a40fb3852ef0e0c4c36090888b0d9b3"), looks := false }, kinds := [], alts := [], laidByText := true, laidKinds := [.pinned, .data, .data, .data, .data], laidTests := true, laidLooks := .later } :=
  Claim7.holds_tied_plain_at .later [] [.pinned, .data, .data, .data, .data] true (true, "e3866fd08e92a8cbcd812e1a0c669cb12a40fb3852ef0e0c4c36090888b0d9b3") false consoleLimits_holds (fun _ h => by cases h) card_wf (fun _ h => by cases h) qt_row rfl ⟨rfl, rfl⟩ card_main rfl card_looks card_goes
theorem consoleLimits_card : Rows.ConsoleLimitsCardSaid := consoleLimits_tied
#print axioms consoleLimits_card
end Go.Proofs.YtjianicbagcekaaGreatDoor
