/- Part 2 of 3 of the proof: the law ConsoleLimits returns true for every input, and its arguments read as before; there is no condition. -/
import Derived.Test.YtjianicbagcekaaGreatDoorW1
set_option linter.unusedVariables false
set_option linter.unusedSimpArgs false
set_option maxRecDepth 100000
set_option maxHeartbeats 64000000
/- ConsoleLimits: known and the law itself (printed by genAQ4.py). -/
namespace Go.Proofs.YtjianicbagcekaaGreatDoor
open Go.RowKit

def scL : List UInt8 := Lib.repeatL [112, 108, 97, 110, 10] 200
def scB : ByteArray := ⟨scL.toArray⟩
def erL : List UInt8 := Lib.repeatL [101, 114, 114, 111, 114, 10] 200
def erB : ByteArray := ⟨erL.toArray⟩
theorem data_inj {a b : ByteArray} (h : a.data.toList = b.data.toList) : a = b := by
 cases a; cases b
 exact congrArg ByteArray.mk (Array.toList_inj.1 h)
theorem map_data : ∀ {a b : List ByteArray}, a.map (·.data.toList) = b.map (·.data.toList) → a = b
 | [], [], _ => rfl
 | [], _ :: _, h => by cases h
 | _ :: _, [], h => by cases h
 | x :: a, y :: b, h => by
  simp only [List.map_cons, List.cons.injEq] at h
  rw [data_inj h.1, map_data h.2]
theorem lines_of {s : ByteArray} {t : List UInt8} {L : List ByteArray} (ht : s.data.toList = t) (h : L.map (·.data.toList) = Lib.splitK [10] 0 (Lib.count (Lib.trimSuffix t [10]) [10]) (Lib.trimSuffix t [10])) : LinesOf s L := by
 subst ht
 refine map_data ?_
 rw [h, Lib.splitB_data]
 rfl
theorem scB_data : scB.data.toList = scL := rfl
theorem scB_size : scB.size = 1000 := by rw [Lib.size_eq, scB_data]; kernel_rfl
theorem sc_lines : LinesOf scB (List.replicate 200 ⟨#[112, 108, 97, 110]⟩) := lines_of scB_data (by kernel_rfl)
theorem sc2_data : (scB ++ ⟨#[112, 108, 97, 110]⟩).data.toList = scL ++ [112, 108, 97, 110] := by rw [ByteArray.data_append, Array.toList_append]; rfl
theorem sc2_lines : LinesOf (scB ++ ⟨#[112, 108, 97, 110]⟩) (List.replicate 201 ⟨#[112, 108, 97, 110]⟩) := lines_of sc2_data (by kernel_rfl)
theorem sc2_size : (scB ++ ⟨#[112, 108, 97, 110]⟩).size = 1004 := by rw [ByteArray.size_append, scB_size]; rfl
theorem sc_ok : scB.data.toList.all okb = true := by rw [scB_data]; kernel_rfl
theorem sc2_ok : (scB ++ ⟨#[112, 108, 97, 110]⟩).data.toList.all okb = true := by rw [sc2_data]; kernel_rfl
theorem sc_run : (runL (List.replicate 200 ⟨#[112, 108, 97, 110]⟩)).2.toArray = erB.data := congrArg List.toArray (by kernel_rfl : (runL (List.replicate 200 ⟨#[112, 108, 97, 110]⟩)).2 = erL)
abbrev MxF (w : World) (mx : Int) : Prop := w.cell? ⟨0, 0, none⟩ = some (.int .i64 mx)
abbrev LnC (s : ByteArray) (L : List ByteArray) (mx : Int) : Prop := ∀ w m, Vw m w → MxF w mx → Calls Tryz.prog 13 #[.string s] w (RetV w m fun m' r => LnR L m' r)
theorem lnC {s : ByteArray} {L : List ByteArray} {mx : Int} (hs : s.size ≤ 20000) (h0 : 0 < s.size) (hok : s.data.toList.all okb = true) (hl : LinesOf s L) (hn : L.length ≤ 1000) : LnC s L mx := fun w m hV hm => t_Lines s L mx w m hV hs h0 (ok_of hok) hm hl hn
theorem lnE (mx : Int) : LnC ⟨#[]⟩ [] mx := by
 intro w m hV hm
 have hL := Loc.start hV
 clear hV hm
 go_enter Tryz.func13, Tryz.ntmps13
 go_wp2_with (first | go_skip | refine tP ?_)
 go_loopw [11] (fun i wr => i = .int .i64 0 ∧ ∃ mm, Loc w m wr mm []) (fun _ _ => 1)
 case atStart => exact ⟨rfl, _, hL⟩
 case round =>
  clear hL
  obtain ⟨rfl, mm, hL⟩ := hrel
  go_wp2_with (first | go_skip | refine tP ?_)
  go_ret2
  exact RetV.mk hL ⟨none, 0, rfl, ListV.nil⟩
theorem c_RunBad (w m : World) (hV : Vw m w) : Calls Tryz.prog 5 #[.string ⟨#[112, 108, 97, 110, 10, 112, 108, 97, 110, 9, 10]⟩] w (RetV w m fun _ r => r = .string ⟨#[101, 114, 114, 111, 114, 10]⟩) := by
 have hL := Loc.start hV
 clear hV
 go_enter Tryz.func5, Tryz.ntmps5
 go_wp2_with (first | go_skip | refine tP ?_ | (refine tB ?_; clear hL; intro _ _ hL _))
 refine (t_LinesBad _ _ _ hL.vw (by decide) ⟨9, by decide, by decide⟩).mono ?_
 rintro e Wc1 ⟨_, mc1, rfl, hE, hMc1, hV, rfl⟩
 replace hL := hL.call hE (by assumption) hV; clear hE hV
 go_wp2_with (first | go_skip | refine tP ?_ | (refine tB ?_; clear hL; intro _ _ hL _))
 go_ret
 exact RetV.mk hL rfl
theorem c_RunMany (s : ByteArray) (L : List ByteArray) (n : Nat) (mx : Int) (w m : World) (hV : Vw m w) (hm : Hid (MxF w mx)) (hln : Hid (LnC s L mx)) (hn : Hid (L.length = n)) (hn2 : 200 < n) :
  Calls Tryz.prog 5 #[.string s] w (RetV w m fun _ r => r = .string ⟨#[101, 114, 114, 111, 114, 10]⟩) := by
 have hL := Loc.start hV
 clear hV
 go_enter Tryz.func5, Tryz.ntmps5
 go_wp2_with (first | go_skip | refine tP ?_ | (refine tB ?_; clear hL; intro _ _ hL _))
 refine (hln.out _ _ hL.vw (cell_keep hL.ext hm.out)).mono ?_
 rintro e Wc1 ⟨v1, mc1, rfl, hE, hMc1, hV, A1, c1, rfl, h1⟩
 replace hL := hL.call hE (by assumption) hV; clear hE hV
 rw [hn.out]
 clear h1
 have hn3 : ((n : Int) > 200) = True := by simp; omega
 go_wp2_with (first | go_skip | refine tP ?_ | (refine tB ?_; clear hL; intro _ _ hL _))
 go_ret
 exact RetV.mk hL rfl
theorem t_Rep (s : ByteArray) (x : ByteArray) (hx : (⟨(Lib.repeatL s.data.toList 200).toArray⟩ : ByteArray) = x) (hs : s.size ≤ 100) (w m : World) (hV : Vw m w) : Calls Tryz.prog 4 #[.string s, .int .i64 200] w (RetV w m fun _ r => r = .string x) := by
 refine (sl_strings_Repeat s 200 w (by decide) (by omega)).mono ?_
 rintro e w' ⟨rfl, hBel⟩
 rw [hx]
 exact RetV.below (Loc.start hV) (Nat.le_refl _) hBel (fun _ => rfl)
theorem hck6 : ∀ k, ([⟨#[122, 111, 110, 101, 32, 117, 116, 99]⟩, ⟨#[99, 104, 101, 99, 107]⟩] : List ByteArray)[k]? = some ⟨#[99, 104, 101, 99, 107]⟩ → (runL (([⟨#[122, 111, 110, 101, 32, 117, 116, 99]⟩, ⟨#[99, 104, 101, 99, 107]⟩] : List ByteArray).take k)).1 = ⟨#[122, 111, 110, 101, 32, 117, 116, 99, 10]⟩
 | 0, h => absurd (congrArg (fun x : Option ByteArray => x.map fun y => y.data.toList) h) (by decide)
 | 1, _ => by kernel_rfl
 | k + 2, h => by cases h
theorem in_of {L : List ByteArray} (h : (L.all fun x => [⟨#[112, 108, 97, 110]⟩, ⟨#[115, 111, 108, 118, 101, 32, 53]⟩, ⟨#[122, 111, 110, 101, 32, 117, 116, 99]⟩, ⟨#[99, 104, 101, 99, 107]⟩, ⟨#[]⟩, ⟨#[35, 32, 110, 111, 116, 104, 105, 110, 103]⟩].any fun y : ByteArray => x.data.toList == y.data.toList) = true) : ∀ x ∈ L, x ∈ ([⟨#[112, 108, 97, 110]⟩, ⟨#[115, 111, 108, 118, 101, 32, 53]⟩, ⟨#[122, 111, 110, 101, 32, 117, 116, 99]⟩, ⟨#[99, 104, 101, 99, 107]⟩, ⟨#[]⟩, ⟨#[35, 32, 110, 111, 116, 104, 105, 110, 103]⟩] : List ByteArray) := by
 intro x hx
 obtain ⟨y, hy, e⟩ := List.any_eq_true.1 (List.all_eq_true.1 h x hx)
 rw [data_inj (beq_iff_eq.1 e)]
 exact hy
theorem hck_of {L : List ByteArray} (h : (L.all fun x => !(x.data.toList == [99, 104, 101, 99, 107])) = true) : ∀ k, L[k]? = some ⟨#[99, 104, 101, 99, 107]⟩ → (runL (L.take k)).1 = ⟨#[122, 111, 110, 101, 32, 117, 116, 99, 10]⟩ := by
 intro k hk
 have h1 := List.all_eq_true.1 h _ (List.mem_of_getElem? hk)
 exact absurd h1 (by decide)
theorem rep1 : (⟨(Lib.repeatL (⟨#[112, 108, 97, 110, 10]⟩ : ByteArray).data.toList 200).toArray⟩ : ByteArray) = scB := by kernel_rfl
theorem rep2 : (⟨(Lib.repeatL (⟨#[101, 114, 114, 111, 114, 10]⟩ : ByteArray).data.toList 200).toArray⟩ : ByteArray) = erB := by kernel_rfl
theorem sc_in : ∀ x ∈ List.replicate 200 (⟨#[112, 108, 97, 110]⟩ : ByteArray), x ∈ ([⟨#[112, 108, 97, 110]⟩, ⟨#[115, 111, 108, 118, 101, 32, 53]⟩, ⟨#[122, 111, 110, 101, 32, 117, 116, 99]⟩, ⟨#[99, 104, 101, 99, 107]⟩, ⟨#[]⟩, ⟨#[35, 32, 110, 111, 116, 104, 105, 110, 103]⟩] : List ByteArray) := in_of (by kernel_rfl)
theorem sc_ck : ∀ k : Nat, (List.replicate 200 (⟨#[112, 108, 97, 110]⟩ : ByteArray))[k]? = some ⟨#[99, 104, 101, 99, 107]⟩ → (runL ((List.replicate 200 (⟨#[112, 108, 97, 110]⟩ : ByteArray)).take k)).1 = ⟨#[122, 111, 110, 101, 32, 117, 116, 99, 10]⟩ := hck_of (by kernel_rfl)
theorem known43 (mx : Int) (w m : World) (hV : Vw m w) (hm : Hid (MxF w mx)) : Calls Tryz.prog 6 #[] w (RetV w m fun _ r => r = .bool true) := by
 have hL := Loc.start hV
 clear hV
 go_enter Tryz.func6, Tryz.ntmps6
 go_wp2_with (first | go_skip | refine tP ?_)
 refine (c_Run ⟨#[115, 111, 108, 118, 101, 32, 53, 10, 10, 35, 32, 110, 111, 116, 104, 105, 110, 103, 10, 112, 108, 97, 110, 10]⟩ [⟨#[115, 111, 108, 118, 101, 32, 53]⟩, ⟨#[]⟩, ⟨#[35, 32, 110, 111, 116, 104, 105, 110, 103]⟩, ⟨#[112, 108, 97, 110]⟩] 4 mx _ _ hL.vw (cell_keep hL.ext hm.out) (lnC (by decide) (by decide) (by decide) (by unfold LinesOf; kernel_rfl) (by decide)) rfl (by decide) (in_of (by decide)) (hck_of (by decide)) ⟨#[101, 114, 114, 111, 114, 10, 101, 114, 114, 111, 114, 10]⟩ (by show _ = _; kernel_rfl)).mono ?_
 rintro e Wc1 ⟨_, mc1, rfl, hE, hMc1, hV, rfl⟩
 replace hL := hL.call hE (by assumption) hV; clear hE hV
 go_wp2_with (first | go_skip | refine tP ?_)
 refine (c_Run ⟨#[]⟩ [] 0 mx _ _ hL.vw (cell_keep hL.ext hm.out) (lnE mx) rfl (by decide) (in_of rfl) (hck_of rfl) ⟨#[]⟩ (by show _ = _; kernel_rfl)).mono ?_
 rintro e Wc2 ⟨_, mc2, rfl, hE, hMc2, hV, rfl⟩
 replace hL := hL.call hE (by assumption) hV; clear hE hV
 go_wp2_with (first | go_skip | refine tP ?_)
 refine (c_Run ⟨#[122, 111, 110, 101, 32, 117, 116, 99, 10, 99, 104, 101, 99, 107]⟩ [⟨#[122, 111, 110, 101, 32, 117, 116, 99]⟩, ⟨#[99, 104, 101, 99, 107]⟩] 2 mx _ _ hL.vw (cell_keep hL.ext hm.out) (lnC (by decide) (by decide) (by decide) (by unfold LinesOf; kernel_rfl) (by decide)) rfl (by decide) (in_of (by decide)) hck6 ⟨#[116, 105, 109, 101, 116, 97, 98, 108, 101, 32, 49, 32, 49, 10]⟩ (by show _ = _; kernel_rfl)).mono ?_
 rintro e Wc3 ⟨_, mc3, rfl, hE, hMc3, hV, rfl⟩
 replace hL := hL.call hE (by assumption) hV; clear hE hV
 go_wp2_with (first | go_skip | refine tP ?_)
 refine (sl_strings_HasPrefix ⟨#[116, 105, 109, 101, 116, 97, 98, 108, 101, 32, 49, 32, 49, 10]⟩ ⟨#[116, 105, 109, 101, 116, 97, 98, 108, 101, 32]⟩ _).mono ?_
 rintro e w' ⟨rfl, rfl⟩
 have hpf : Lib.hasPrefix (ByteArray.mk #[116, 105, 109, 101, 116, 97, 98, 108, 101, 32, 49, 32, 49, 10]).data.toList (ByteArray.mk #[116, 105, 109, 101, 116, 97, 98, 108, 101, 32]).data.toList = true := by decide
 rw [hpf]
 go_wp2_with (first | go_skip | refine tP ?_)
 go_ret
 exact RetV.mk hL rfl
theorem sc2_z1 : (scB ++ ⟨#[112, 108, 97, 110]⟩).size ≤ 20000 := by rw [sc2_size]; decide
theorem sc2_z2 : 0 < (scB ++ ⟨#[112, 108, 97, 110]⟩).size := by rw [sc2_size]; decide
theorem sc2_z3 : (List.replicate 201 (⟨#[112, 108, 97, 110]⟩ : ByteArray)).length ≤ 1000 := by rw [List.length_replicate]; decide
theorem sc2_z4 : (List.replicate 201 (⟨#[112, 108, 97, 110]⟩ : ByteArray)).length = 201 := List.length_replicate
theorem ln2 (mx : Int) : LnC (scB ++ ⟨#[112, 108, 97, 110]⟩) (List.replicate 201 ⟨#[112, 108, 97, 110]⟩) mx := by
 have h1 := sc2_z1
 have h2 := sc2_z2
 have h3 := sc2_ok
 have h4 := sc2_lines
 have h5 := sc2_z3
 generalize scB ++ ⟨#[112, 108, 97, 110]⟩ = s at *
 generalize List.replicate 201 (⟨#[112, 108, 97, 110]⟩ : ByteArray) = L at *
 exact lnC h1 h2 h3 h4 h5
theorem c_RunS2 (mx : Int) (w m : World) (hV : Vw m w) (hm : Hid (MxF w mx)) : Calls Tryz.prog 5 #[.string (scB ++ ⟨#[112, 108, 97, 110]⟩)] w (RetV w m fun _ r => r = .string ⟨#[101, 114, 114, 111, 114, 10]⟩) := by
 have h1 := ln2 mx
 have h2 := sc2_z4
 generalize scB ++ ⟨#[112, 108, 97, 110]⟩ = s at *
 generalize List.replicate 201 (⟨#[112, 108, 97, 110]⟩ : ByteArray) = L at *
 exact c_RunMany s L 201 mx w m hV hm h1 h2 (by decide)
theorem law_ConsoleLimits (mx : Int) (w m : World) (hV : Vw m w) (hm : Hid (MxF w mx)) : Calls Tryz.prog 3 #[] w (RetV w m fun _ r => r = .bool true) := by
 have hL := Loc.start hV
 clear hV
 have hz : scB.size = 1000 := scB_size
 go_enter Tryz.func3, Tryz.ntmps3
 go_wp2_with (first | go_skip | refine tP ?_)
 refine (t_Rep ⟨#[112, 108, 97, 110, 10]⟩ scB rep1 (by decide) _ _ hL.vw).mono ?_
 rintro e Wc1 ⟨_, mc1, rfl, hE, hMc1, hV, rfl⟩
 replace hL := hL.call hE (by assumption) hV; clear hE hV
 go_wp2_with (first | go_skip | refine tP ?_)
 refine (c_Run scB (List.replicate 200 ⟨#[112, 108, 97, 110]⟩) 200 mx _ _ hL.vw (cell_keep hL.ext hm.out) (lnC (by rw [scB_size]; decide) (by rw [scB_size]; decide) sc_ok sc_lines (by rw [List.length_replicate]; decide)) List.length_replicate (by decide) sc_in sc_ck erB sc_run).mono ?_
 rintro e Wc2 ⟨_, mc2, rfl, hE, hMc2, hV, rfl⟩
 replace hL := hL.call hE (by assumption) hV; clear hE hV
 go_wp2_with (first | go_skip | refine tP ?_)
 refine (t_Rep ⟨#[101, 114, 114, 111, 114, 10]⟩ erB rep2 (by decide) _ _ hL.vw).mono ?_
 rintro e Wc3 ⟨_, mc3, rfl, hE, hMc3, hV, rfl⟩
 replace hL := hL.call hE (by assumption) hV; clear hE hV
 go_wp2_with (first | go_skip | refine tP ?_)
 refine (c_RunS2 mx _ _ hL.vw (cell_keep hL.ext hm.out)).mono ?_
 rintro e Wc4 ⟨_, mc4, rfl, hE, hMc4, hV, rfl⟩
 replace hL := hL.call hE (by assumption) hV; clear hE hV
 go_wp2_with (first | go_skip | refine tP ?_)
 refine (c_RunBad _ _ hL.vw).mono ?_
 rintro e Wc5 ⟨_, mc5, rfl, hE, hMc5, hV, rfl⟩
 replace hL := hL.call hE (by assumption) hV; clear hE hV
 go_wp2_with (first | go_skip | refine tP ?_)
 refine (known43 mx _ _ hL.vw (cell_keep hL.ext hm.out)).mono ?_
 rintro e Wc6 ⟨_, mc6, rfl, hE, hMc6, hV, rfl⟩
 replace hL := hL.call hE (by assumption) hV; clear hE hV
 go_wp2_with (first | go_skip | refine tP ?_)
 go_ret
 exact RetV.mk hL rfl
end Go.Proofs.YtjianicbagcekaaGreatDoor
