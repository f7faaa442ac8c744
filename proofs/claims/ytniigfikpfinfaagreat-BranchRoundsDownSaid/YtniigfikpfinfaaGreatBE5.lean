/- Part 5 of 7 of the proof: the law BranchRoundsDown returns true for every input, and its arguments read as before; there is no condition. -/
import Derived.Test.YtniigfikpfinfaaGreatBE4
set_option linter.unusedVariables false
set_option linter.unusedSimpArgs false
set_option maxRecDepth 100000
set_option maxHeartbeats 64000000
/- Searching, striking and sorting a row of numbers, step by step. No program. -/
namespace Go.Proofs.YtniigfikpfinfaaGreat

theorem find_true {P : Nat → Bool} {xs : List Nat} {k x : Nat} (hk : xs[k]? = some x) (h : k ≤ xs.findIdx P) (hp : P x = true) : xs.findIdx P = k := by
 obtain ⟨hlt, rfl⟩ := List.getElem?_eq_some_iff.1 hk
 rcases Nat.lt_or_ge k (xs.findIdx P) with h1 | h1
 ·have := List.not_of_lt_findIdx h1
  rw [hp] at this; simp at this
 ·omega
theorem find_false {P : Nat → Bool} {xs : List Nat} {k x : Nat} (hk : xs[k]? = some x) (h : k ≤ xs.findIdx P) (hp : P x = false) : k + 1 ≤ xs.findIdx P := by
 obtain ⟨hlt, rfl⟩ := List.getElem?_eq_some_iff.1 hk
 rcases Nat.lt_or_ge k (xs.findIdx P) with h1 | h1
 ·exact h1
 ·have e : xs.findIdx P = k := by omega
  have hl : xs.findIdx P < xs.length := by omega
  have h2 := List.findIdx_getElem (w := hl)
  simp only [e] at h2
  rw [hp] at h2; cases h2
def idxZ (P : Nat → Bool) (xs : List Nat) : Int := if xs.findIdx P < xs.length then (xs.findIdx P : Int) else -1
theorem find_le (P : Nat → Bool) (xs : List Nat) : xs.findIdx P ≤ xs.length := List.findIdx_le_length
theorem find_at {P : Nat → Bool} {xs : List Nat} (h : xs.findIdx P < xs.length) : P xs[xs.findIdx P] = true := List.findIdx_getElem (w := h)

structure DelI (P : Nat → Bool) (xs ys : List Nat) (i j : Nat) : Prop where
 len : ys.length = xs.length
 lt : i < j
 le : j ≤ xs.length
 tk : ys.take i = (xs.take j).filter fun x => !P x
 dr : ∀ k, j ≤ k → ys[k]? = xs[k]?
theorem DelI.start {P : Nat → Bool} {xs : List Nat} (h : xs.findIdx P < xs.length) : DelI P xs xs (xs.findIdx P) (xs.findIdx P + 1) := by
 refine ⟨rfl, by omega, h, ?_, fun _ _ => rfl⟩
 have h1 := find_at h
 have h2 : ∀ x ∈ xs.take (xs.findIdx P), P x = false := fun x hx => by
  obtain ⟨k, hk, rfl⟩ := List.getElem_of_mem hx
  rw [List.length_take] at hk
  rw [List.getElem_take]
  have := List.not_of_lt_findIdx (p := P) (xs := xs) (i := k) (by omega)
  simpa using this
 rw [List.take_add_one, List.getElem?_eq_getElem h, Option.toList_some, List.filter_append, List.filter_eq_self.2 fun x hx => by rw [h2 x hx]; rfl]
 simp [h1]
theorem DelI.skip {P : Nat → Bool} {xs ys : List Nat} {i j x : Nat} (h : DelI P xs ys i j) (hx : xs[j]? = some x) (hp : P x = true) : DelI P xs ys i (j + 1) := by
 obtain ⟨a, b, c, d, e⟩ := h
 have hlt := (List.getElem?_eq_some_iff.1 hx).1
 refine ⟨a, by omega, hlt, ?_, fun k hk => e k (by omega)⟩
 rw [d, List.take_add_one, hx, Option.toList_some, List.filter_append]
 simp [hp]
theorem DelI.keep {P : Nat → Bool} {xs ys : List Nat} {i j x : Nat} (h : DelI P xs ys i j) (hx : xs[j]? = some x) (hp : P x = false) : DelI P xs (ys.set i x) (i + 1) (j + 1) := by
 obtain ⟨a, b, c, d, e⟩ := h
 have hlt := (List.getElem?_eq_some_iff.1 hx).1
 refine ⟨by simpa using a, by omega, hlt, ?_, fun k hk => ?_⟩
 ·have hi : i < (ys.set i x).length := by rw [List.length_set]; omega
  rw [List.take_add_one, List.getElem?_eq_getElem hi, List.getElem_set_self, List.take_set_of_le (Nat.le_refl i), d, List.take_add_one, hx, Option.toList_some, List.filter_append]
  simp [hp]
 ·rw [List.getElem?_set_ne (by omega), e k (by omega)]
theorem DelI.at_ {P : Nat → Bool} {xs ys : List Nat} {i j x : Nat} (h : DelI P xs ys i j) (hx : xs[j]? = some x) : ys[j]? = some x := (h.dr j (Nat.le_refl _)).trans hx
theorem DelI.done {P : Nat → Bool} {xs ys : List Nat} {i : Nat} (h : DelI P xs ys i xs.length) : ys.take i = xs.filter fun x => !P x := by rw [h.tk, List.take_length]
theorem del_none {P : Nat → Bool} {xs : List Nat} (h : xs.findIdx P = xs.length) : (xs.filter fun x => !P x) = xs := by
 refine List.filter_eq_self.2 fun x hx => ?_
 obtain ⟨k, hk, rfl⟩ := List.getElem_of_mem hx
 have := List.not_of_lt_findIdx (p := P) (xs := xs) (i := k) (by omega)
 simpa using this

def SortI (ys : List Nat) (i : Nat) : Prop := ∀ p q, p < q → q < i → ys.getD p 0 ≤ ys.getD q 0
def MidI (ys : List Nat) (i j : Nat) : Prop := ∀ p q, p < q → q ≤ i → q ≠ j → ys.getD p 0 ≤ ys.getD q 0
theorem SortI.one (ys : List Nat) : SortI ys 1 := fun p q h1 h2 => by omega
theorem MidI.start {ys : List Nat} {i : Nat} (h : SortI ys i) : MidI ys i i := fun p q hp hq hne => h p q hp (by omega)
theorem MidI.stop0 {ys : List Nat} {i : Nat} (h : MidI ys i 0) : SortI ys (i + 1) := fun p q hp hq => h p q hp (by omega) (by omega)
theorem getD_at {ys : List Nat} {k a : Nat} (h : ys[k]? = some a) : ys.getD k 0 = a := by rw [List.getD_eq_getElem?_getD, h]; rfl
theorem MidI.stop {ys : List Nat} {i j a b : Nat} (h : MidI ys i (j + 1)) (ha : ys[j + 1]? = some a) (hb : ys[j]? = some b) (hle : ¬ a < b) : SortI ys (i + 1) := by
 intro p q hp hq
 by_cases hqj : q = j + 1
 ·subst hqj
  rw [getD_at ha]
  by_cases hpj : p = j
  ·subst hpj; rw [getD_at hb]; omega
  ·have := h p j (by omega) (by omega) (by omega)
   rw [getD_at hb] at this
   omega
 ·exact h p q hp (by omega) hqj
theorem swap_getD {ys : List Nat} {j a b : Nat} (ha : ys[j + 1]? = some a) (p : Nat) : ((ys.set (j + 1) b).set j a).getD p 0 = if p = j then a else if p = j + 1 then b else ys.getD p 0 := by
 have hlt := (List.getElem?_eq_some_iff.1 ha).1
 simp only [List.getD_eq_getElem?_getD, List.getElem?_set, List.length_set]
 by_cases h1 : p = j
 ·subst h1
  have : p < ys.length := by omega
  simp [this]
 ·rw [if_neg (by omega), if_neg h1]
  by_cases h2 : p = j + 1
  ·subst h2; simp [hlt]
  ·rw [if_neg (by omega), if_neg h2]
theorem MidI.go {ys : List Nat} {i j a b : Nat} (h : MidI ys i (j + 1)) (ha : ys[j + 1]? = some a) (hb : ys[j]? = some b) (hlt : a < b) (hi : j + 1 ≤ i) : MidI ((ys.set (j + 1) b).set j a) i j := by
 intro p q hp hq hne
 rw [swap_getD ha, swap_getD ha, if_neg hne]
 have eb := getD_at hb
 have ea := getD_at ha
 by_cases hq1 : q = j + 1
 ·rw [if_pos hq1]
  by_cases hp1 : p = j
  ·rw [if_pos hp1]; omega
  ·rw [if_neg hp1, if_neg (by omega)]
   have := h p j (by omega) (by omega) (by omega)
   omega
 ·rw [if_neg hq1]
  by_cases hp1 : p = j
  ·rw [if_pos hp1]
   have := h (j + 1) q (by omega) hq hq1
   omega
  ·rw [if_neg hp1]
   by_cases hp2 : p = j + 1
   ·rw [if_pos hp2]
    have := h j q (by omega) hq hq1
    omega
   ·rw [if_neg hp2]
    exact h p q hp hq hq1
theorem swap_perm {ys : List Nat} {i j a b : Nat} (ha : ys[i]? = some a) (hb : ys[j]? = some b) : ((ys.set i b).set j a).Perm ys := by
 obtain ⟨hi, rfl⟩ := List.getElem?_eq_some_iff.1 ha
 obtain ⟨hj, rfl⟩ := List.getElem?_eq_some_iff.1 hb
 have h := Array.swap_perm (xs := ys.toArray) (i := i) (j := j) (by simpa using hi) (by simpa using hj)
 have h2 := Array.perm_iff_toList_perm.1 h
 simpa [Array.swap_def] using h2
theorem SortI.all {ys : List Nat} (h : SortI ys ys.length) (hn : ys.Nodup) : ys.Pairwise (· < ·) := by
 rw [List.pairwise_iff_getElem]
 intro p q hp hq hpq
 have h1 := h p q hpq hq
 rw [List.getD_eq_getElem?_getD, List.getD_eq_getElem?_getD, List.getElem?_eq_getElem hp, List.getElem?_eq_getElem hq] at h1
 have h2 := List.pairwise_iff_getElem.1 hn p q hp hq hpq
 simp only [Option.getD_some] at h1
 omega
end Go.Proofs.YtniigfikpfinfaaGreat

/- Lists of numbers compared, whichever they are: slices.Equal, pairingref27.SameInts. -/
namespace Go.Proofs.YtniigfikpfinfaaGreat
open Go.RowKit

theorem eq_of_first {xs ys : List Int} {n : Nat} (h1 : xs.length = n) (h2 : ys.length = n) (h : ∀ (j : Nat) (x y : Int), j < n → xs[j]? = some x → ys[j]? = some y → x = y) : xs = ys := by
 refine List.ext_getElem? fun j => ?_
 by_cases hj : j < n
 ·have e1 := List.getElem?_eq_getElem (l := xs) (i := j) (by omega)
  have e2 := List.getElem?_eq_getElem (l := ys) (i := j) (by omega)
  rw [e1, e2, h j _ _ hj e1 e2]
 ·rw [List.getElem?_eq_none (by omega), List.getElem?_eq_none (by omega)]

theorem s_EqualB (a b : Value) (xs ys : List Int) (w m : World) (hV : Vw m w) (ha : IntL m a xs) (hb : IntL m b ys) (hl : xs.length ≤ 1000000) :
  Calls Tryz.prog 147 #[a, b] w (RetV w m fun _ r => r = .bool (decide (xs = ys))) := by
 obtain ⟨A, c, rfl, hc, ha⟩ := ha.lit
 obtain ⟨B, d, rfl, hd, hb⟩ := hb.lit
 have hL := Loc.start hV
 clear hV
 obtain ⟨ez, hez⟩ : ∃ ez : Bool, ez = decide (xs = ys) := ⟨_, rfl⟩
 rw [← hez]
 have HEZ := Lib.hid hez
 clear hez
 generalize hn : xs.length = n at *
 have HN := Lib.hid hn
 clear hn
 generalize hn2 : ys.length = n2 at *
 have HN2 := Lib.hid hn2
 clear hn2
 by_cases hnn : n = n2
 ·subst hnn
  have hnn : ((n : Int) != (n : Int)) = false := by simp
  go_enter Tryz.func147, Tryz.ntmps147
  go_wp2_with (first | go_skip | refine tP ?_)
  go_loopw [13] (fun i wr => ∃ (k : Nat) (mm : World), k ≤ n ∧ i = .int .i64 k ∧ Loc w m wr mm [] ∧ Hid (∀ (j : Nat) (x y : Int), j < k → xs[j]? = some x → ys[j]? = some y → x = y)) (fun i _ => n - (intOf i).toNat)
  case atStart => exact ⟨0, m, Nat.zero_le _, rfl, hL, (fun _ _ _ h => absurd h (Nat.not_lt_zero _))⟩
  case round =>
   clear hL
   obtain ⟨k, mm, hk, rfl, hL, HJ⟩ := hrel
   have hM := hL.mext
   by_cases hlt : k < n
   ·obtain ⟨x, hx⟩ := at_some HN hlt
    obtain ⟨y, hy⟩ := at_some HN2 hlt
    obtain ⟨b1, o1, rfl, hc1⟩ := IntL.at_ ha hx
    obtain ⟨b2, o2, rfl, hc2⟩ := IntL.at_ hb hy
    have HX := Lib.hid hx
    have HY := Lib.hid hy
    clear hx hy
    by_cases hxy : x = y
    ·subst hxy
     have hxx : (x != x) = false := by simp
     have HJ2 : Hid (∀ (j : Nat) (x y : Int), j < k + 1 → xs[j]? = some x → ys[j]? = some y → x = y) := by
      show ∀ j x y, _
      intro j x' y' hj hx' hy'
      rcases Nat.lt_succ_iff_lt_or_eq.1 hj with h' | rfl
      ·exact HJ.out j x' y' h' hx' hy'
      ·rw [HX.out] at hx'; rw [HY.out] at hy'; cases hx'; cases hy'; rfl
     go_upto_region 6 with ((first | go_skip | refine tP ?_))
     (try simp only [eq_self] at *)
     refine wp_region_by2 9 [false, false, false, false, false, false, false, false, false] [false, false, false, false, false, false, false, false, false] [(fun v _ _ => v = ?c6_0a), (fun v _ _ => v = ?c6_1a), (fun v _ _ => v = ?c6_2a), (fun v _ _ => v = ?c6_3a), (fun v _ _ => v = ?c6_4a), (fun v _ _ => v = ?c6_5a), (fun v _ _ => v = ?c6_6a), (fun v _ _ => v = ?c6_7a), (fun v _ _ => v = ?c6_8a)] hL.vw mixed [16, 17, 18, 19, 20, 21, 22, 23, 24] _ (by kernel_rfl) (fun vs => by simp only [lay, Act.put, zq1, zq2, zq3]; rfl) (by kernel_rfl) (by decide) (by decide) ?s6a ?l6a ?r6a
     case s6a =>
      refine ⟨?_, ?_, ?_, ?_, ?_, ?_, ?_, ?_, ?_, trivial⟩
      ·intro vs W1 m1 hE hM hV hD; clear hD
       exact sPw
      ·intro vs W1 m1 hE hM hV hD; clear hD
       exact sPw
      ·intro vs W1 m1 hE hM hV hD; obtain ⟨⟨_, _, -, -, f16⟩, ⟨_, _, -, -, f17⟩, -⟩ := hD
       rw [(f16 : vs 16 = _), (f17 : vs 17 = _)]; clear f16 f17; exact sIy
      ·intro vs W1 m1 hE hM hV hD; obtain ⟨⟨_, _, -, -, f18⟩, -⟩ := hD
       rw [(f18 : vs 18 = _)]; clear f18; exact sLe
      ·intro vs W1 m1 hE hM hV hD; clear hD
       exact sPw
      ·intro vs W1 m1 hE hM hV hD; clear hD
       exact sPw
      ·intro vs W1 m1 hE hM hV hD; obtain ⟨⟨_, _, -, -, f20⟩, ⟨_, _, -, -, f21⟩, -⟩ := hD
       rw [(f20 : vs 20 = _), (f21 : vs 21 = _)]; clear f20 f21; exact sIy
      ·intro vs W1 m1 hE hM hV hD; obtain ⟨⟨_, _, -, -, f22⟩, -⟩ := hD
       rw [(f22 : vs 22 = _)]; clear f22; exact sLe
      ·intro vs W1 m1 hE hM hV hD; obtain ⟨⟨_, _, -, -, f19⟩, ⟨_, _, -, -, f23⟩, -⟩ := hD
       rw [(f19 : vs 19 = _), (f23 : vs 23 = _)]; clear f19 f23; exact sPw
     case l6a =>
      refine ⟨nF, nF, nF, nF, nF, nF, nF, nF, nF, trivial⟩
     intro vs W1 m1 hE hM hV hF hD
     clear hD
     obtain ⟨⟨_, _, -, -, f16⟩, ⟨_, _, -, -, f17⟩, ⟨_, _, -, -, f18⟩, ⟨_, _, -, -, f19⟩, ⟨_, _, -, -, f20⟩, ⟨_, _, -, -, f21⟩, ⟨_, _, -, -, f22⟩, ⟨_, _, -, -, f23⟩, ⟨_, _, -, -, f24⟩, -⟩ := hF
     replace hL := hL.call hE hM hV
     have f16 : vs 16 = _ := f16
     generalize vs 16 = x16 at f16 ⊢
     subst x16
     have f17 : vs 17 = _ := f17
     generalize vs 17 = x17 at f17 ⊢
     subst x17
     have f18 : vs 18 = _ := f18
     generalize vs 18 = x18 at f18 ⊢
     subst x18
     have f19 : vs 19 = _ := f19
     generalize vs 19 = x19 at f19 ⊢
     subst x19
     have f20 : vs 20 = _ := f20
     generalize vs 20 = x20 at f20 ⊢
     subst x20
     have f21 : vs 21 = _ := f21
     generalize vs 21 = x21 at f21 ⊢
     subst x21
     have f22 : vs 22 = _ := f22
     generalize vs 22 = x22 at f22 ⊢
     subst x22
     have f23 : vs 23 = _ := f23
     generalize vs 23 = x23 at f23 ⊢
     subst x23
     have f24 : vs 24 = _ := f24
     generalize vs 24 = x24 at f24 ⊢
     subst x24
     clear hE hV
     simp only [List.drop_succ_cons, List.drop_zero]
     go_wp2_with (first | go_skip | refine tP ?_)
     refine QN.mk ?_
     go_wp2_with (first | go_skip | refine tP ?_)
     go_roundw
     case rel => exact ⟨k + 1, _, by omega, by go_num, hL, HJ2.out⟩
     case measure => simp [intOf] <;> omega
    ·have hxx : (x != y) = true := by simpa using hxy
     have HF : Hid (ez = false) := by
      show _ = _
      rw [HEZ.out]
      refine decide_eq_false fun e => hxy ?_
      have h1 := HX.out
      rw [e, HY.out] at h1
      cases h1; rfl
     clear hxy
     go_upto_region 6 with ((first | go_skip | refine tP ?_))
     (try simp only [eq_self] at *)
     refine wp_region_by2 9 [false, false, false, false, false, false, false, false, false] [false, false, false, false, false, false, false, false, false] [(fun v _ _ => v = ?c6_0b), (fun v _ _ => v = ?c6_1b), (fun v _ _ => v = ?c6_2b), (fun v _ _ => v = ?c6_3b), (fun v _ _ => v = ?c6_4b), (fun v _ _ => v = ?c6_5b), (fun v _ _ => v = ?c6_6b), (fun v _ _ => v = ?c6_7b), (fun v _ _ => v = ?c6_8b)] hL.vw mixed [16, 17, 18, 19, 20, 21, 22, 23, 24] _ (by kernel_rfl) (fun vs => by simp only [lay, Act.put, zq1, zq2, zq3]; rfl) (by kernel_rfl) (by decide) (by decide) ?s6b ?l6b ?r6b
     case s6b =>
      refine ⟨?_, ?_, ?_, ?_, ?_, ?_, ?_, ?_, ?_, trivial⟩
      ·intro vs W1 m1 hE hM hV hD; clear hD
       exact sPw
      ·intro vs W1 m1 hE hM hV hD; clear hD
       exact sPw
      ·intro vs W1 m1 hE hM hV hD; obtain ⟨⟨_, _, -, -, f16⟩, ⟨_, _, -, -, f17⟩, -⟩ := hD
       rw [(f16 : vs 16 = _), (f17 : vs 17 = _)]; clear f16 f17; exact sIy
      ·intro vs W1 m1 hE hM hV hD; obtain ⟨⟨_, _, -, -, f18⟩, -⟩ := hD
       rw [(f18 : vs 18 = _)]; clear f18; exact sLe
      ·intro vs W1 m1 hE hM hV hD; clear hD
       exact sPw
      ·intro vs W1 m1 hE hM hV hD; clear hD
       exact sPw
      ·intro vs W1 m1 hE hM hV hD; obtain ⟨⟨_, _, -, -, f20⟩, ⟨_, _, -, -, f21⟩, -⟩ := hD
       rw [(f20 : vs 20 = _), (f21 : vs 21 = _)]; clear f20 f21; exact sIy
      ·intro vs W1 m1 hE hM hV hD; obtain ⟨⟨_, _, -, -, f22⟩, -⟩ := hD
       rw [(f22 : vs 22 = _)]; clear f22; exact sLe
      ·intro vs W1 m1 hE hM hV hD; obtain ⟨⟨_, _, -, -, f19⟩, ⟨_, _, -, -, f23⟩, -⟩ := hD
       rw [(f19 : vs 19 = _), (f23 : vs 23 = _)]; clear f19 f23; exact sPw
     case l6b =>
      refine ⟨nF, nF, nF, nF, nF, nF, nF, nF, nF, trivial⟩
     intro vs W1 m1 hE hM hV hF hD
     clear hD
     obtain ⟨⟨_, _, -, -, f16⟩, ⟨_, _, -, -, f17⟩, ⟨_, _, -, -, f18⟩, ⟨_, _, -, -, f19⟩, ⟨_, _, -, -, f20⟩, ⟨_, _, -, -, f21⟩, ⟨_, _, -, -, f22⟩, ⟨_, _, -, -, f23⟩, ⟨_, _, -, -, f24⟩, -⟩ := hF
     replace hL := hL.call hE hM hV
     have f16 : vs 16 = _ := f16
     generalize vs 16 = x16 at f16 ⊢
     subst x16
     have f17 : vs 17 = _ := f17
     generalize vs 17 = x17 at f17 ⊢
     subst x17
     have f18 : vs 18 = _ := f18
     generalize vs 18 = x18 at f18 ⊢
     subst x18
     have f19 : vs 19 = _ := f19
     generalize vs 19 = x19 at f19 ⊢
     subst x19
     have f20 : vs 20 = _ := f20
     generalize vs 20 = x20 at f20 ⊢
     subst x20
     have f21 : vs 21 = _ := f21
     generalize vs 21 = x21 at f21 ⊢
     subst x21
     have f22 : vs 22 = _ := f22
     generalize vs 22 = x22 at f22 ⊢
     subst x22
     have f23 : vs 23 = _ := f23
     generalize vs 23 = x23 at f23 ⊢
     subst x23
     have f24 : vs 24 = _ := f24
     generalize vs 24 = x24 at f24 ⊢
     subst x24
     clear hE hV
     simp only [List.drop_succ_cons, List.drop_zero]
     go_wp2_with (first | go_skip | refine tP ?_)
     refine QN.mk ?_
     go_wp2_with (first | go_skip | refine tP ?_)
     go_ret
     exact RetV.mk hL (by rw [HF.out]; rfl)
   ·have hkn : k = n := by omega
    subst hkn
    have HT : Hid (ez = true) := by
     show _ = _
     rw [HEZ.out]
     exact decide_eq_true (eq_of_first HN.out HN2.out HJ.out)
    have h9 : (k : Int) ≤ (k : Int) := Int.le_refl _
    go_wp2_with (first | go_skip | refine tP ?_)
    go_ret
    exact RetV.mk hL (by rw [HT.out]; rfl)
 ·have h2 : ((n : Int) != (n2 : Int)) = true := by simp; omega
  have HF : Hid (ez = false) := by
   show _ = _
   rw [HEZ.out]
   refine decide_eq_false fun e => hnn ?_
   rw [← HN.out, ← HN2.out, e]
  clear hnn
  go_enter Tryz.func147, Tryz.ntmps147
  go_wp2_with (first | go_skip | refine tP ?_)
  go_ret
  exact RetV.mk hL (by rw [HF.out]; rfl)

theorem same_end {xs ys : List Int} {k : Nat} (hl : xs.length = ys.length) (hk : xs.length ≤ k) (h : ∀ t, t < k → xs[t]? = ys[t]?) : xs = ys := by
 apply List.ext_getElem?
 intro t
 by_cases ht : t < k
 ·exact h t ht
 ·rw [List.getElem?_eq_none (by omega), List.getElem?_eq_none (by omega)]

theorem r_SameIntsB (a b : Value) (xs ys : List Int) (w m : World) (hV : Vw m w) (ha : IntL m a xs) (hb : IntL m b ys) (hl : xs.length ≤ 1000000) :
  Calls Tryz.prog 56 #[a, b] w (RetV w m fun _ r => r = .bool (decide (xs = ys))) := by
 obtain ⟨A, c, rfl, hc, ha⟩ := ha.lit
 obtain ⟨B, d, rfl, hd, hb⟩ := hb.lit
 have hL := Loc.start hV
 clear hV
 by_cases hne : xs.length = ys.length
 ·have HNE := Lib.hid hne
  rw [← hne] at hb hd ⊢
  clear hne
  generalize hn : xs.length = n at *
  have HN := Lib.hid hn
  clear hn
  have HNY : Hid (ys.length = n) := HNE.out.symm
  have hnn : ((n : Int) != (n : Int)) = false := by simp
  go_enter Tryz.func56, Tryz.ntmps56
  go_wp2_with (first | go_skip | refine tP ?_)
  go_loopw [5] (fun i wr => ∃ (k : Nat) (mm : World), k ≤ n ∧ i = .int .i64 k ∧ Loc w m wr mm [] ∧ Ext m mm ∧ Hid (∀ t, t < k → xs[t]? = ys[t]?)) (fun i _ => n - (intOf i).toNat)
  case atStart => exact ⟨0, m, Nat.zero_le _, rfl, hL, Ext.refl _, fun t h => absurd h (by omega)⟩
  case round =>
   clear hL
   obtain ⟨k, mm, hk, rfl, hL, hM, HP⟩ := hrel
   by_cases hlt : k < n
   ·have hlt' : (k : Int) < (n : Int) := by omega
    obtain ⟨x, hx⟩ := at_some HN hlt
    obtain ⟨y, hy⟩ := at_some HNY hlt
    obtain ⟨b1, o1, rfl, hc1⟩ := IntL.at_ ha hx
    obtain ⟨b2, o2, rfl, hc2⟩ := IntL.at_ hb hy
    have HX := Lib.hid hx
    have HY := Lib.hid hy
    clear hx hy
    go_upto_region 6 with ((first | go_skip | refine tP ?_))
    (try simp only [eq_self] at *)
    refine wp_region_by2 9 [false, false, false, false, false, false, false, false, false] [false, false, false, false, false, false, false, false, false] [(fun v _ _ => v = ?c6_0), (fun v _ _ => v = ?c6_1), (fun v _ _ => v = ?c6_2), (fun v _ _ => v = ?c6_3), (fun v _ _ => v = ?c6_4), (fun v _ _ => v = ?c6_5), (fun v _ _ => v = ?c6_6), (fun v _ _ => v = ?c6_7), (fun v _ _ => v = ?c6_8)] hL.vw mixed [17, 18, 19, 20, 21, 22, 23, 24, 25] _ (by kernel_rfl) (fun vs => by simp only [lay, Act.put, zq1, zq2, zq3]; rfl) (by kernel_rfl) (by decide) (by decide) ?s6 ?l6 ?r6
    case s6 =>
     refine ⟨?_, ?_, ?_, ?_, ?_, ?_, ?_, ?_, ?_, trivial⟩
     ·intro vs W1 m1 hE hM hV hD; clear hD
      exact sPw
     ·intro vs W1 m1 hE hM hV hD; clear hD
      exact sPw
     ·intro vs W1 m1 hE hM hV hD; obtain ⟨⟨_, _, -, -, f17⟩, ⟨_, _, -, -, f18⟩, -⟩ := hD
      rw [(f17 : vs 17 = _), (f18 : vs 18 = _)]; clear f17 f18; exact sIy
     ·intro vs W1 m1 hE hM hV hD; obtain ⟨⟨_, _, -, -, f19⟩, -⟩ := hD
      rw [(f19 : vs 19 = _)]; clear f19; exact sLe
     ·intro vs W1 m1 hE hM hV hD; clear hD
      exact sPw
     ·intro vs W1 m1 hE hM hV hD; clear hD
      exact sPw
     ·intro vs W1 m1 hE hM hV hD; obtain ⟨⟨_, _, -, -, f21⟩, ⟨_, _, -, -, f22⟩, -⟩ := hD
      rw [(f21 : vs 21 = _), (f22 : vs 22 = _)]; clear f21 f22; exact sIy
     ·intro vs W1 m1 hE hM hV hD; obtain ⟨⟨_, _, -, -, f23⟩, -⟩ := hD
      rw [(f23 : vs 23 = _)]; clear f23; exact sLe
     ·intro vs W1 m1 hE hM hV hD; obtain ⟨⟨_, _, -, -, f20⟩, ⟨_, _, -, -, f24⟩, -⟩ := hD
      rw [(f20 : vs 20 = _), (f24 : vs 24 = _)]; clear f20 f24; exact sPw
    case l6 =>
     refine ⟨nF, nF, nF, nF, nF, nF, nF, nF, nF, trivial⟩
    intro vs W1 m1 hE hM hV hF hD
    clear hD
    obtain ⟨⟨_, _, -, -, f17⟩, ⟨_, _, -, -, f18⟩, ⟨_, _, -, -, f19⟩, ⟨_, _, -, -, f20⟩, ⟨_, _, -, -, f21⟩, ⟨_, _, -, -, f22⟩, ⟨_, _, -, -, f23⟩, ⟨_, _, -, -, f24⟩, ⟨_, _, -, -, f25⟩, -⟩ := hF
    replace hL := hL.call hE hM hV
    have f17 : vs 17 = _ := f17
    generalize vs 17 = x17 at f17 ⊢
    subst x17
    have f18 : vs 18 = _ := f18
    generalize vs 18 = x18 at f18 ⊢
    subst x18
    have f19 : vs 19 = _ := f19
    generalize vs 19 = x19 at f19 ⊢
    subst x19
    have f20 : vs 20 = _ := f20
    generalize vs 20 = x20 at f20 ⊢
    subst x20
    have f21 : vs 21 = _ := f21
    generalize vs 21 = x21 at f21 ⊢
    subst x21
    have f22 : vs 22 = _ := f22
    generalize vs 22 = x22 at f22 ⊢
    subst x22
    have f23 : vs 23 = _ := f23
    generalize vs 23 = x23 at f23 ⊢
    subst x23
    have f24 : vs 24 = _ := f24
    generalize vs 24 = x24 at f24 ⊢
    subst x24
    have f25 : vs 25 = _ := f25
    generalize vs 25 = x25 at f25 ⊢
    subst x25
    clear hE hV
    simp only [List.drop_succ_cons, List.drop_zero]
    go_wp2_with (first | go_skip | refine tP ?_)
    refine QN.mk ?_
    by_cases hxy : x = y
    ·have hxx : ((x : Int) != (y : Int)) = false := by simp [hxy]
     have HP2 : Hid (∀ t, t < k + 1 → xs[t]? = ys[t]?) := by
      show ∀ t, _
      intro t ht
      by_cases e : t = k
      ·rw [e, HX.out, HY.out, hxy]
      ·exact HP.out t (by omega)
     clear hxy
     go_wp2_with (first | go_skip | refine tP ?_)
     go_roundw
     case rel => exact ⟨k + 1, _, by omega, by go_num, hL, hL.mext, HP2.out⟩
     case measure => simp [intOf] <;> omega
    ·have hxx : ((x : Int) != (y : Int)) = true := by simp [hxy]
     have HD : Hid (decide (xs = ys) = false) := by
      show _ = _
      refine decide_eq_false fun e => hxy ?_
      have h1 := HX.out
      rw [e, HY.out] at h1
      exact (Option.some.inj h1).symm
     clear hxy
     go_wp2_with (first | go_skip | refine tP ?_)
     go_ret
     exact RetV.mk hL (congrArg Value.bool HD.out.symm)
   ·have hkn : n = k := by omega
    have HE : Hid (decide (xs = ys) = true) := decide_eq_true (same_end (by rw [HN.out, HNY.out]) (by rw [HN.out]; omega) HP.out)
    subst hkn
    have h9 : (n : Int) ≤ (n : Int) := Int.le_refl _
    go_wp2_with (first | go_skip | refine tP ?_)
    go_ret
    exact RetV.mk hL (congrArg Value.bool HE.out.symm)
 ·have HD : Hid (decide (xs = ys) = false) := decide_eq_false fun e => hne (by rw [e])
  have hnn : ((xs.length : Int) != (ys.length : Int)) = true := by simp; omega
  clear hne
  generalize xs.length = n1 at *
  generalize ys.length = n2 at *
  go_enter Tryz.func56, Tryz.ntmps56
  go_wp2_with (first | go_skip | refine tP ?_)
  go_ret
  exact RetV.mk hL (congrArg Value.bool HD.out.symm)
end Go.Proofs.YtniigfikpfinfaaGreat

/- Maps from flights to fractions: what the block of such a map holds. -/
namespace Go.Proofs.YtniigfikpfinfaaGreat
open Go.RowKit Go.Maps Go.WideShapes

structure IMap (D : DataW Value) (m : World) (S : List IQ) : Prop where
 mp : IsMap D
 some : ∀ e ∈ S, ∃ v, (∀ z, D.atKey (.int .i64 e.1) z = .held v) ∧ FracC m v (sumI S e.1)
 none : ∀ a, (∀ e ∈ S, e.1 ≠ a) → ∀ z, D.atKey (.int .i64 a) z = z
theorem IMap.le {D : DataW Value} {m m' : World} {S : List IQ} (h : IMap D m S) (hl : Le m m') : IMap D m' S :=
 ⟨h.mp, fun e he => by obtain ⟨v, h1, h2⟩ := h.some e he; exact ⟨v, h1, h2.le hl⟩, h.none⟩
theorem IMap.made (m : World) : IMap (.map []) m [] := ⟨⟨[], rfl⟩, (fun _ h => by cases h), (fun _ _ _ => rfl)⟩
theorem litI_inj {a b : Int} (h : Lit.int .i64 a = Lit.int .i64 b) : a = b := by cases h; rfl
theorem IMap.put {D : DataW Value} {m : World} {S : List IQ} (h : IMap D m S) {a : Int} {x : Rat} {v : Value} (hv : FracC m v (sumI S a + x)) : IMap (D.put (.int .i64 a) (.held v)) m (S ++ [(a, x)]) := by
 have hk := isKey_int a
 refine ⟨h.mp.put _ _, fun e he => ?_, fun a' hn z => ?_⟩
 ·by_cases hp : e.1 = a
  ·refine ⟨v, fun z => ?_, ?_⟩
   ·rw [hp]; exact atKey_put_same h.mp hk _ _
   ·rw [hp, sumI_same]; exact hv
  ·rcases List.mem_append.1 he with he | he
   ·obtain ⟨u, h1, h2⟩ := h.some e he
    refine ⟨u, fun z => ?_, ?_⟩
    ·rw [atKey_put_other (fun hh => hp (litI_inj hh))]
     exact h1 z
    ·rw [sumI_other _ _ (fun hh => hp hh.symm)]; exact h2
   ·rcases List.mem_singleton.1 he with rfl
    exact absurd rfl hp
 ·have hne : a ≠ a' := hn (a, x) (by simp)
  rw [atKey_put_other (fun hh => hne (litI_inj hh).symm)]
  exact h.none a' (fun e he => hn e (List.mem_append_left _ he)) z
def GMap (W m : World) (b : Nat) (S : List IQ) : Prop := ∃ n D, n ≤ S.length ∧ W.ownsMap (H := Value) Tryz.prog 3 RV b n D ∧ IMap D m S
theorem GMap.made (W m : World) : GMap (W.alloc (.map #[] 0)) m W.heap.size [] := ⟨0, _, Nat.le_refl _, World.ownsMap_made _ _ _ _, IMap.made m⟩
theorem GMap.le {W m m' : World} {b : Nat} {S : List IQ} (h : GMap W m b S) (hl : Le m m') : GMap W m' b S := by
 obtain ⟨n, D, hn, h1, h2⟩ := h
 exact ⟨n, D, hn, h1, h2.le hl⟩
theorem ownsMapI_ext {W W' : World} {b n : Nat} {D : DataW Value} (h : W.ownsMap (H := Value) Tryz.prog 3 RV b n D) (hE : Ext W W') : W'.ownsMap (H := Value) Tryz.prog 3 RV b n D := by
 obtain ⟨es, clock, hb, h⟩ := h
 have hlt : b < W.heap.size := (Array.getElem?_eq_some_iff.1 hb).1
 exact ⟨es, clock, (hE.block b hlt).trans hb, h⟩
theorem GMap.ext {W W' m : World} {b : Nat} {S : List IQ} (h : GMap W m b S) (hE : Ext W W') : GMap W' m b S := by
 obtain ⟨n, D, hn, h1, h2⟩ := h
 exact ⟨n, D, hn, ownsMapI_ext h1 hE, h2⟩
theorem GMap.notCells {W m : World} {b : Nat} {S : List IQ} (h : GMap W m b S) : ∀ cs t fr, W.heap[b]? ≠ some (.cells cs t fr) := by
 obtain ⟨n, D, hn, ⟨es, clock, hb, _⟩, -⟩ := h
 intro cs t fr e
 rw [hb] at e
 cases e
theorem GMap.look {W m : World} {b : Nat} {S : List IQ} (h : GMap W m b S) {a : Int} (wa : Wf a) :
  ∃ v, SumV m v (sumI S a) ∧ ∀ W', Ext W W' → (Instr.lookup 153 (.map (some b)) (.int .i64 a) false).run Tryz.prog W' = .ok v W' := by
 obtain ⟨n, D, hn, h1, h2⟩ := h
 have key : ∀ W', Ext W W' → ∃ v, (Instr.lookup 153 (.map (some b)) (.int .i64 a) false).run Tryz.prog W' = .ok v W' ∧ DataW.held v = D.atKey (.int .i64 a) (.held (.agg #[.bool false, .slice none 0 0, .bool false, .slice none 0 0])) := by
  intro W' hE
  obtain ⟨v, ps, hrun, hv⟩ := (ownsMapI_ext h1 hE).lookup keyI Tryz.underlying153 (zeroF W') (zd := .held (.agg #[.bool false, .slice none 0 0, .bool false, .slice none 0 0])) (zp := []) rfl (keyOf_int_mk Tryz.underlying3 wa)
  exact ⟨v, hrun, (Prod.mk.inj (Option.some.inj hv)).1⟩
 obtain ⟨v, -, hv⟩ := key W (Ext.refl _)
 refine ⟨v, ?_, fun W' hE => ?_⟩
 ·by_cases he : ∃ e ∈ S, e.1 = a
  ·obtain ⟨e, he, hp⟩ := he
   obtain ⟨u, h3, h4⟩ := h2.some e he
   rw [hp] at h3 h4
   rw [h3] at hv
   cases hv
   exact .inl h4
  ·have hn' : ∀ e ∈ S, e.1 ≠ a := fun e h h' => he ⟨e, h, h'⟩
   rw [h2.none a hn'] at hv
   cases hv
   exact .inr ⟨rfl, sumI_none hn'⟩
 ·obtain ⟨u, hr, hu⟩ := key W' hE
  rw [← hu] at hv
  cases hv
  exact hr
theorem GMap.up {W m : World} {b : Nat} {S : List IQ} (h : GMap W m b S) (hl : S.length ≤ 1000000) {a : Int} {x : Rat} {v : Value} (wa : Wf a) (hv : FracC m v (sumI S a + x)) :
  ∃ W', (Instr.mapUpdate 153 (.map (some b)) (.int .i64 a) v).run Tryz.prog W = .ok () W' ∧ GMap W' m b (S ++ [(a, x)]) ∧ W.grownBy W' (some b) := by
 obtain ⟨n, D, hn, h1, h2⟩ := h
 obtain ⟨W', e1, e2, e3⟩ := h1.update keyI Tryz.underlying153 (by unfold maxLen; omega) (keyOf_int_mk Tryz.underlying3 wa) (val := v) (d := .held v) (ps := []) rfl
 exact ⟨W', e1, ⟨n + 1, _, by simp; omega, e2, h2.put hv⟩, e3⟩
end Go.Proofs.YtniigfikpfinfaaGreat

/- The closures of branch.cheapest; slices.IndexFunc of numbers. -/
namespace Go.Proofs.YtniigfikpfinfaaGreat
open Go.RowKit

theorem b_same (bo bm : Nat) (O B : Option Addr) (no co nc cb : Nat) (os : List Int) (cols : List Col) (rws : List Int) (j : Nat) (x : Col) (w m : World) (hV : Vw m w) (h1 : m.cell? ⟨bo, 0, none⟩ = some (.slice O no co)) (h2 : IntL m (.slice O no co) os) (hno : os.length ≤ 1000000)
  (h3 : m.cell? ⟨bm, 3, none⟩ = some (.slice B nc cb)) (h4 : ColL m (.slice B nc cb) cols) (hn : cols.length = nc) (hx : cols[j]? = some x) (hok : ColOk rws x) :
  Calls Tryz.prog 170 #[.int .i64 (j : Int), .pointer (some ⟨bo, 0, none⟩), .pointer (some ⟨bm, 0, none⟩)] w (RetV w m fun _ r => r = .bool (decide (os = opF x.2.1))) := by
 obtain ⟨s, ds, cost⟩ := x
 have hlt : j < nc := by rw [← hn]; exact (List.getElem?_eq_some_iff.1 hx).1
 obtain ⟨b1, o1, D, cd, rfl, hds, hr1⟩ := ColL.at_ h4 hx
 simp only at hds hr1
 have hr3 := range_two hr1
 have H3 : Hid (ds.length ≤ 100) := hok.nd
 have H4 : Hid (∀ d ∈ ds, d.length ≤ 100) := hok.nt
 have HD := Lib.hid hds
 obtain ⟨ez, hez⟩ : ∃ ez, ez = decide (os = opF ds) := ⟨_, rfl⟩
 have KE : Hid (∀ v w m', Vw m' w → Le m m' → IntL m' v (opF ds) → Calls Tryz.prog 147 #[.slice O no co, v] w (RetV w m' fun _ r => r = .bool ez)) := by
  show ∀ v w m', _
  intro v w m' hV hle h
  rw [hez]
  exact s_EqualB _ v os (opF ds) w m' hV (IntL.le h2 hle) h hno
 simp only
 rw [← hez]
 have hL := Loc.start hV
 clear hV hok hds hx hn h4 hez h2 hno hr1
 generalize hnd : ds.length = nd at *
 have HND := Lib.hid hnd
 clear hnd
 go_enter Tryz.func170, Tryz.ntmps170
 go_upto_region 1 with ((first | go_skip | refine tP ?_))
 (try simp only [eq_self] at *)
 refine wp_region_by2 9 [false, false, false, false, false, false, false, false, false] [false, false, false, false, false, false, false, false, false] [(fun v _ _ => v = ?c1_0), (fun v _ _ => v = ?c1_1), (fun v _ _ => v = ?c1_2), (fun v _ _ => v = ?c1_3), (fun v _ _ => v = ?c1_4), (fun v _ _ => v = ?c1_5), (fun v _ _ => v = ?c1_6), Of (fun um v => IntL um v (opF ds)), Is (.bool ez)] hL.vw mixed [5, 6, 7, 8, 9, 10, 11, 12, 13] _ (by kernel_rfl) (fun vs => by simp only [lay, Act.put, zq1, zq2, zq3]; rfl) (by kernel_rfl) (by decide) (by decide) ?s1 ?l1 ?r1
 case s1 =>
  refine ⟨?_, ?_, ?_, ?_, ?_, ?_, ?_, ?_, ?_, trivial⟩
  ·intro vs W1 m1 hE hM hV hD; clear hD
   exact sLe
  ·intro vs W1 m1 hE hM hV hD; clear hD
   exact sFe
  ·intro vs W1 m1 hE hM hV hD; obtain ⟨⟨_, _, -, -, f6⟩, -⟩ := hD
   rw [(f6 : vs 6 = _)]; clear f6; exact sLe
  ·intro vs W1 m1 hE hM hV hD; clear hD
   exact sPw
  ·intro vs W1 m1 hE hM hV hD; obtain ⟨⟨_, _, -, -, f7⟩, ⟨_, _, -, -, f8⟩, -⟩ := hD
   rw [(f7 : vs 7 = _), (f8 : vs 8 = _)]; clear f7 f8; exact sIy
  ·intro vs W1 m1 hE hM hV hD; obtain ⟨⟨_, _, -, -, f9⟩, -⟩ := hD
   rw [(f9 : vs 9 = _)]; clear f9; exact sFe
  ·intro vs W1 m1 hE hM hV hD; obtain ⟨⟨_, _, -, -, f10⟩, -⟩ := hD
   rw [(f10 : vs 10 = _)]; clear f10; exact sLe
  ·intro vs W1 m1 hE hM hV hD; obtain ⟨⟨_, _, -, -, f11⟩, -⟩ := hD
   rw [(f11 : vs 11 = _)]
   clear f11
   go_wp2_with fail
   refine (e_Operated s _ ds _ _ hV (DutsL.le HD.out leX) (by rw [HND.out]; exact H3.out) H4.out).mono ?_
   rintro e W2 ⟨v, m2, rfl, hE2, hM2, hV2, h⟩
   go_wp2_with fail
   refine One2.call hE2 hM2 hV2 ?_; first | exact h | exact rfl
  ·intro vs W1 m1 hE hM hV hD; obtain ⟨⟨_, _, -, -, f5⟩, ⟨_, _, -, i12, f12⟩, -, -⟩ := hD
   rw [(f5 : vs 5 = _)]
   clear f5
   have f12 : IntL _ (vs 12) (opF ds) := f12
   replace f12 := f12.le i12.le
   clear i12
   go_wp2_with fail
   refine (KE.out _ _ _ hV leX f12).mono ?_
   rintro e W2 ⟨v, m2, rfl, hE2, hM2, hV2, h⟩
   go_wp2_with fail
   refine One2.call hE2 hM2 hV2 ?_; first | exact h | exact rfl
 case l1 =>
  refine ⟨nF, nF, nF, nF, nF, nF, nF, nF, nF, trivial⟩
 intro vs W1 m1 hE hM hV hF hD
 clear hD
 obtain ⟨-, -, -, -, -, -, -, ⟨_, _, -, i12, f12⟩, ⟨_, _, -, -, f13⟩, -⟩ := hF
 replace hL := hL.call hE hM hV
 replace f12 : IntL _ (vs 12) (opF ds) := f12
 replace f12 := f12.le i12.le
 clear i12
 have f13 : vs 13 = _ := f13
 generalize vs 13 = x13 at f13 ⊢
 subst x13
 clear hE hV
 simp only [List.drop_succ_cons, List.drop_zero]
 go_wp2_with (first | go_skip | refine tP ?_)
 refine QN.mk ?_
 go_wp2_with (first | go_skip | refine tP ?_)
 go_ret
 exact RetV.mk hL rfl

theorem b_bad (bm : Nat) (B : Option Addr) (nc cb : Nat) (pen : Int) (cols : List Col) (rws : List Int) (j : Nat) (x : Col) (w m : World) (hV : Vw m w) (h5 : m.cell? ⟨bm, 2, none⟩ = some (.int .i64 pen))
  (h3 : m.cell? ⟨bm, 3, none⟩ = some (.slice B nc cb)) (h4 : ColL m (.slice B nc cb) cols) (hn : cols.length = nc) (hx : cols[j]? = some x) (hok : ColOk rws x) :
  Calls Tryz.prog 173 #[.int .i64 (j : Int), .pointer (some ⟨bm, 0, none⟩)] w (RetV w m fun _ r => r = .bool (decide ((opF x.2.1).length = 1) && decide (pen ≤ x.2.2))) := by
 obtain ⟨s, ds, cost⟩ := x
 have hlt : j < nc := by rw [← hn]; exact (List.getElem?_eq_some_iff.1 hx).1
 obtain ⟨b1, o1, D, cd, rfl, hds, hr1⟩ := ColL.at_ h4 hx
 simp only at hds hr1
 have H3 : Hid (ds.length ≤ 100) := hok.nd
 have H4 : Hid (∀ d ∈ ds, d.length ≤ 100) := hok.nt
 have HD := Lib.hid hds
 simp only
 obtain ⟨rb, hrb⟩ : ∃ rb, rb = (decide ((opF ds).length = 1) && decide (pen ≤ cost)) := ⟨_, rfl⟩
 rw [← hrb]
 have HRB := Lib.hid hrb
 clear hrb
 have KO : Hid (∀ w m', Vw m' w → Le m m' → Calls Tryz.prog 114 #[.agg #[.string s, .slice D ds.length cd]] w (RetV w m' fun m'' r => IntL m'' r (opF ds))) := by
  show ∀ w m', _
  exact fun w m' hV hle => e_Operated s _ ds w m' hV (DutsL.le HD.out hle) H3.out H4.out
 have hL := Loc.start hV
 clear hV hok hds hx hn h4 HD H3 H4
 generalize ds.length = nd at *
 go_enter Tryz.func173, Tryz.ntmps173
 go_wp2_with (first | go_skip | refine tP ?_ | (refine tS ?_; clear hL; intro _ hL) | (refine tB ?_; clear hL; intro _ _ hL _))
 refine (KO.out _ _ hL.vw leX).mono ?_
 rintro e Wc1 ⟨vc1, mc1, rfl, hE, hMc1, hV, hc1⟩
 replace hL := hL.call hE (by assumption) hV; clear hE hV
 obtain ⟨O, co, rfl, -, -⟩ := hc1.lit
 clear KO hc1
 generalize (opF ds).length = no at *
 by_cases h1 : no = 1
 ·subst h1
  by_cases h2 : pen ≤ cost
  ·have h2' : cost ≥ pen := h2
   have HB : Hid (rb = true) := by show _ = _; rw [HRB.out, decide_eq_true h2]; rfl
   go_wp2_with (first | go_skip | refine tP ?_ | (refine tS ?_; clear hL; intro _ hL) | (refine tB ?_; clear hL; intro _ _ hL _))
   go_ret
   exact RetV.mk hL (congrArg Value.bool HB.out.symm)
  ·have h2' : ¬ cost ≥ pen := h2
   have HB : Hid (decide (pen ≤ cost) = rb) := by show _ = _; rw [HRB.out, decide_eq_false h2]; rfl
   go_wp2_with (first | go_skip | refine tP ?_ | (refine tS ?_; clear hL; intro _ hL) | (refine tB ?_; clear hL; intro _ _ hL _))
   go_ret
   exact RetV.mk hL (congrArg Value.bool HB.out)
 ·have h1' : ((no : Int) == 1) = false := by simp; omega
  have HB : Hid (rb = false) := by show _ = _; rw [HRB.out, decide_eq_false h1]; rfl
  clear h1
  go_wp2_with (first | go_skip | refine tP ?_ | (refine tS ?_; clear hL; intro _ hL) | (refine tB ?_; clear hL; intro _ _ hL _))
  go_ret
  exact RetV.mk hL (congrArg Value.bool HB.out.symm)

theorem s_IndexS (v : Value) (xs : List Nat) (p q : Value) (P : Nat → Bool) (w m : World) (hV : Vw m w) (h : IntL m v (natL xs)) (hl : xs.length ≤ 1000)
  (hf : ∀ j, j ∈ xs → ∀ w m', Vw m' w → Le m m' → Calls Tryz.prog 170 #[.int .i64 (j : Int), p, q] w (RetV w m' fun _ r => r = .bool (P j))) :
  Calls Tryz.prog 171 #[v, .func (.func 170) #[] #[p, q]] w (RetV w m fun _ r => r = .int .i64 (idxZ P xs)) := by
 obtain ⟨A, c, rfl, hc, h⟩ := h.lit
 have HF := Lib.hid hf
 rw [natL_len] at h hc ⊢
 obtain ⟨z, hz⟩ : ∃ z, z = idxZ P xs := ⟨_, rfl⟩
 rw [← hz]
 have HZ := Lib.hid hz
 have hL := Loc.start hV
 clear hV hf hz
 generalize hn : xs.length = n at *
 have HN := Lib.hid hn
 clear hn
 go_enter Tryz.func171, Tryz.ntmps171
 go_wp2_with (first | go_skip | refine tP ?_)
 go_loopw [8] (fun i wr => ∃ (k : Nat) (mm : World), k ≤ n ∧ i = .int .i64 k ∧ Loc w m wr mm [] ∧ Hid (k ≤ xs.findIdx P)) (fun i _ => n - (intOf i).toNat)
 case atStart => exact ⟨0, m, Nat.zero_le _, rfl, hL, Nat.zero_le _⟩
 case round =>
  clear hL
  obtain ⟨k, mm, hk, rfl, hL, HJ⟩ := hrel
  have hM := hL.mext
  by_cases hlt : k < n
  ·have hlt' : (k : Int) < (n : Int) := by omega
   obtain ⟨x, hx⟩ := at_some HN hlt
   obtain ⟨b1, o1, rfl, hc1⟩ := IntL.at_ h (natL_at hx)
   have HX := Lib.hid hx
   have KG : Hid (∀ w m', Vw m' w → Le m m' → Calls Tryz.prog 170 #[.int .i64 (x : Int), p, q] w (RetV w m' fun _ r => r = .bool (P x))) := HF.out x (List.mem_of_getElem? hx)
   clear hx
   go_wp2_with (first | go_skip | refine tP ?_)
   refine (KG.out _ _ hL.vw leX).mono ?_
   rintro e Wc2 ⟨_, mc2, rfl, hE, hMc2, hV, rfl⟩
   replace hL := hL.call hE (by assumption) hV; clear hE hV
   by_cases h0 : P x = true
   ·have HE : Hid (z = (k : Int)) := by
     show _ = _
     have h1 := find_true HX.out HJ.out h0
     rw [HZ.out]
     unfold idxZ
     rw [h1, if_pos (by rw [HN.out]; exact hlt)]
    rw [h0]
    clear h0
    go_wp2_with (first | go_skip | refine tP ?_)
    go_ret
    exact RetV.mk hL (congrArg (Value.int .i64) HE.out.symm)
   ·have h0' : P x = false := by simpa using h0
    have HJ2 : Hid (k + 1 ≤ xs.findIdx P) := find_false HX.out HJ.out h0'
    rw [h0']
    clear h0 h0'
    go_wp2_with (first | go_skip | refine tP ?_)
    go_roundw
    case rel => exact ⟨k + 1, _, by omega, by go_num, hL, HJ2.out⟩
    case measure => simp [intOf] <;> omega
  ·have hkn : k = n := by omega
   subst hkn
   have HE : Hid (z = -1) := by
    show _ = _
    rw [HZ.out]
    unfold idxZ
    rw [if_neg]
    have := HJ.out
    have := HN.out
    omega
   have h9 : (k : Int) ≤ (k : Int) := Int.le_refl _
   go_wp2_with (first | go_skip | refine tP ?_)
   go_ret
   exact RetV.mk hL (congrArg (Value.int .i64) HE.out.symm)
theorem s_IndexB (v : Value) (xs : List Nat) (p : Value) (P : Nat → Bool) (w m : World) (hV : Vw m w) (h : IntL m v (natL xs)) (hl : xs.length ≤ 1000)
  (hf : ∀ j, j ∈ xs → ∀ w m', Vw m' w → Le m m' → Calls Tryz.prog 173 #[.int .i64 (j : Int), p] w (RetV w m' fun _ r => r = .bool (P j))) :
  Calls Tryz.prog 171 #[v, .func (.func 173) #[] #[p]] w (RetV w m fun _ r => r = .int .i64 (idxZ P xs)) := by
 obtain ⟨A, c, rfl, hc, h⟩ := h.lit
 have HF := Lib.hid hf
 rw [natL_len] at h hc ⊢
 obtain ⟨z, hz⟩ : ∃ z, z = idxZ P xs := ⟨_, rfl⟩
 rw [← hz]
 have HZ := Lib.hid hz
 have hL := Loc.start hV
 clear hV hf hz
 generalize hn : xs.length = n at *
 have HN := Lib.hid hn
 clear hn
 go_enter Tryz.func171, Tryz.ntmps171
 go_wp2_with (first | go_skip | refine tP ?_)
 go_loopw [8] (fun i wr => ∃ (k : Nat) (mm : World), k ≤ n ∧ i = .int .i64 k ∧ Loc w m wr mm [] ∧ Hid (k ≤ xs.findIdx P)) (fun i _ => n - (intOf i).toNat)
 case atStart => exact ⟨0, m, Nat.zero_le _, rfl, hL, Nat.zero_le _⟩
 case round =>
  clear hL
  obtain ⟨k, mm, hk, rfl, hL, HJ⟩ := hrel
  have hM := hL.mext
  by_cases hlt : k < n
  ·have hlt' : (k : Int) < (n : Int) := by omega
   obtain ⟨x, hx⟩ := at_some HN hlt
   obtain ⟨b1, o1, rfl, hc1⟩ := IntL.at_ h (natL_at hx)
   have HX := Lib.hid hx
   have KG : Hid (∀ w m', Vw m' w → Le m m' → Calls Tryz.prog 173 #[.int .i64 (x : Int), p] w (RetV w m' fun _ r => r = .bool (P x))) := HF.out x (List.mem_of_getElem? hx)
   clear hx
   go_wp2_with (first | go_skip | refine tP ?_)
   refine (KG.out _ _ hL.vw leX).mono ?_
   rintro e Wc2 ⟨_, mc2, rfl, hE, hMc2, hV, rfl⟩
   replace hL := hL.call hE (by assumption) hV; clear hE hV
   by_cases h0 : P x = true
   ·have HE : Hid (z = (k : Int)) := by
     show _ = _
     have h1 := find_true HX.out HJ.out h0
     rw [HZ.out]
     unfold idxZ
     rw [h1, if_pos (by rw [HN.out]; exact hlt)]
    rw [h0]
    clear h0
    go_wp2_with (first | go_skip | refine tP ?_)
    go_ret
    exact RetV.mk hL (congrArg (Value.int .i64) HE.out.symm)
   ·have h0' : P x = false := by simpa using h0
    have HJ2 : Hid (k + 1 ≤ xs.findIdx P) := find_false HX.out HJ.out h0'
    rw [h0']
    clear h0 h0'
    go_wp2_with (first | go_skip | refine tP ?_)
    go_roundw
    case rel => exact ⟨k + 1, _, by omega, by go_num, hL, HJ2.out⟩
    case measure => simp [intOf] <;> omega
  ·have hkn : k = n := by omega
   subst hkn
   have HE : Hid (z = -1) := by
    show _ = _
    rw [HZ.out]
    unfold idxZ
    rw [if_neg]
    have := HJ.out
    have := HN.out
    omega
   have h9 : (k : Int) ≤ (k : Int) := Int.le_refl _
   go_wp2_with (first | go_skip | refine tP ?_)
   go_ret
   exact RetV.mk hL (congrArg (Value.int .i64) HE.out.symm)
end Go.Proofs.YtniigfikpfinfaaGreat

/- slices.DeleteFunc of numbers, over a row that lies hidden among the caller's blocks. -/
namespace Go.Proofs.YtniigfikpfinfaaGreat
open Go.RowKit

theorem s_DeleteNil (p : Value) (w m : World) (hV : Vw m w) : Calls Tryz.prog 172 #[.slice none 0 0, .func (.func 173) #[] #[p]] w (RetV w m fun _ r => r = .slice none 0 0) := by
 have hL := Loc.start hV
 clear hV
 have KI : Hid (∀ w m', Vw m' w → Calls Tryz.prog 171 #[.slice none 0 0, .func (.func 173) #[] #[p]] w (RetV w m' fun _ r => r = .int .i64 (-1))) := by
  show ∀ w m', _
  exact fun w m' hV => s_IndexB (.slice none 0 0) [] p (fun _ => false) w m' hV ListV.nil (Nat.zero_le _) (fun _ h => by cases h)
 go_enter Tryz.func172, Tryz.ntmps172
 go_wp2_with (first | go_skip | refine tP ?_ | (refine tS ?_; clear hL; intro _ hL))
 refine (KI.out _ _ hL.vw).mono ?_
 rintro e Wc1 ⟨_, mc1, rfl, hE, hMc1, hV, rfl⟩
 replace hL := hL.call hE (by assumption) hV; clear hE hV
 go_wp2_with (first | go_skip | refine tP ?_ | (refine tS ?_; clear hL; intro _ hL))
 go_ret
 exact RetV.mk hL rfl

theorem s_DeleteI {w0 m0 W m : World} {A : List Lo} {g n cap : Nat} {cur : Array Value} {xs : List Nat} (hL : Loc w0 m0 W m ((g, 3, cur) :: A)) (row : RowA 3 1 IsI m (.slice (some ⟨g, 0, none⟩) n cap) n (natL xs) [(g, 3, cur)]) (hn : n ≤ 1000) (p : Value) (P : Nat → Bool)
  (hf : ∀ j, j ∈ xs → ∀ w m', Vw m' w → Le m m' → Calls Tryz.prog 173 #[.int .i64 (j : Int), p] w (RetV w m' fun _ r => r = .bool (P j))) :
  Calls Tryz.prog 172 #[.slice (some ⟨g, 0, none⟩) n cap, .func (.func 173) #[] #[p]] W (fun e W' => ∃ (m' : World) (n' : Nat) (cur' : Array Value), e = .returned (.slice (some ⟨g, 0, none⟩) n' cap) ∧ Loc w0 m0 W' m' ((g, 3, cur') :: A) ∧ Ext m m' ∧
   RowA 3 1 IsI m' (.slice (some ⟨g, 0, none⟩) n' cap) n' (natL (xs.filter fun x => !P x)) [(g, 3, cur')]) := by
 have hlen : xs.length = n := by have := row.len; rw [natL_len] at this; exact this.symm
 have ROW := Lib.hid row
 have HF := Lib.hid hf
 have hL9 := hL.perm (List.perm_append_comm (l₁ := [(g, 3, cur)]) (l₂ := A))
 obtain ⟨m8, hL8, hle8, hl8, -⟩ := RowA.show (A := A) isI_mono hL9 row
 have KI : Hid (Calls Tryz.prog 171 #[.slice (some ⟨g, 0, none⟩) n cap, .func (.func 173) #[] #[p]] W (RetV W m8 fun _ r => r = .int .i64 (idxZ P xs))) := by
  show Calls _ _ _ _ _
  exact s_IndexB _ xs p P W m8 hL8.vw hl8 (by omega) (fun j hj w m' hV hle => HF.out j hj w m' hV (hle8.trans hle))
 have HN := Lib.hid hlen
 clear row hf hlen hL9 hL8 hle8 hl8
 go_enter Tryz.func172, Tryz.ntmps172
 go_wp2_with (first | go_skip | refine tP ?_ | (refine tS ?_; clear hL; intro _ hL))
 refine KI.out.mono ?_
 rintro e W1 ⟨_, m9, rfl, hE, -, -, rfl⟩
 have hX1 : Ext m (hidTo m W1.heap.size) := hL.again_ext hE
 have hL1 := hL.again hE
 clear hL KI hE
 have hL := hL1
 clear hL1
 obtain ⟨m1, hm1⟩ : ∃ m1, m1 = hidTo m W1.heap.size := ⟨_, rfl⟩
 rw [← hm1] at hL hX1
 have ROW1 : Hid (RowA 3 1 IsI m1 (.slice (some ⟨g, 0, none⟩) n cap) n (natL xs) [(g, 3, cur)]) := RowA.le isI_mono ROW.out hX1.le
 clear hm1 m9 m8
 by_cases hi : xs.findIdx P < xs.length
 ·have hz : idxZ P xs = (xs.findIdx P : Int) := if_pos hi
  have HFI := Lib.hid (DelI.start hi)
  rw [hz]
  have hi0 : xs.findIdx P < n := by rw [← HN.out]; exact hi
  clear hz hi
  generalize xs.findIdx P = i0 at *
  have hne : ((i0 : Int) == -1) = false := by simp
  clear ROW
  go_wp2_with (first | go_skip | refine tP ?_ | (refine tS ?_; clear hL; intro _ hL))
  go_loopw [5, 6] (fun ii kk wr => ∃ (i k : Nat) (mm : World) (ys : List Nat) (cur' : Array Value), ii = .int .i64 i ∧ kk = .int .i64 k ∧ k ≤ n ∧ Loc w0 m0 wr mm ((g, 3, cur') :: A) ∧ Ext m mm ∧ Hid (RowA 3 1 IsI mm (.slice (some ⟨g, 0, none⟩) n cap) n (natL ys) [(g, 3, cur')]) ∧ Hid (DelI P xs ys i k)) (fun _ kk _ => n - (intOf kk).toNat)
  case atStart => exact ⟨i0, i0 + 1, _, xs, cur, rfl, by go_num, by omega, hL, hX1, ROW1.out, HFI.out⟩
  case round =>
   clear hL hX1 ROW1 HFI hne
   obtain ⟨i, k, mm, ys, cur', rfl, rfl, hk, hL, hX, ROW, HD⟩ := hrel
   have hik := HD.out.lt
   by_cases hlt : k < n
   ·have hlt' : (k : Int) < (n : Int) := by omega
    obtain ⟨x, hx⟩ := at_some HN hlt
    have hcell := row_int ROW.out (natL_at (HD.out.at_ hx))
    have hfit : 0 + i < cur'.size := by have h1 := ROW.out.fit; omega
    have hin : i < n := by omega
    have KG : Hid (∀ w m', Vw m' w → Le mm m' → Calls Tryz.prog 173 #[.int .i64 (x : Int), p] w (RetV w m' fun _ r => r = .bool (P x))) := by
     show ∀ w m', _
     exact fun w m' hV hle => HF.out x (List.mem_of_getElem? hx) w m' hV (hX.le.trans hle)
    have HX := Lib.hid hx
    clear hx
    go_wp2_with (first | (refine wl_load1 hL (wanted_none rfl) rfl rfl lb_int (n := 0) rfl hcell ?_; simp only [Act.put, zq1, zq2, zq3]) | (first | go_skip | refine tP ?_ | (refine tS ?_; clear hL; intro _ hL)))
    refine (KG.out _ _ hL.vw leX).mono ?_
    rintro e Wc2 ⟨_, mc2, rfl, hE, hMc2, hV, rfl⟩
    replace hL := hL.call hE (by assumption) hV; clear hE hV
    by_cases h0 : P x = true
    ·have HD2 := Lib.hid (HD.out.skip HX.out h0)
     rw [h0]
     clear h0
     go_wp2_with (first | go_skip | refine tP ?_ | (refine tS ?_; clear hL; intro _ hL))
     go_roundw
     case rel => exact ⟨i, k + 1, _, ys, cur', rfl, by go_num, by omega, hL, hX.trans exX, RowA.le isI_mono ROW.out leX, HD2.out⟩
     case measure => simp [intOf] <;> omega
    ·have h0' : P x = false := by simpa using h0
     have HD2 := Lib.hid (HD.out.keep HX.out h0')
     rw [h0']
     clear h0 h0'
     go_wp2_with (first | (with_reducible refine stS ?_) | (first | go_skip | refine tP ?_ | (refine tS ?_; clear hL; intro _ hL)))
     refine goA ?_
     refine wl_store1 hL (wanted_none rfl) (v := .int .i64 (x : Int)) (off := 0 + i) rfl rfl rfl lb_int (n := 0) rfl hfit rfl rfl ?_
     have ra := RowA.putI (k := i) (x := (x : Int)) (RowA.le isI_mono ROW.out (leX : Le mm mc2))
     rw [natL_set] at ra
     clear hL
     intro W6 hL
     simp only [List.set_cons_zero] at hL
     have RA := Lib.hid ra
     clear ra hcell hfit ROW
     simp only [Act.put, zq1, zq2, zq3]
     go_wp2_with (first | go_skip | refine tP ?_ | (refine tS ?_; clear hL; intro _ hL))
     go_roundw
     case rel => exact ⟨i + 1, k + 1, _, _, _, by go_num, by go_num, by omega, hL, hX.trans exX, RA.out, HD2.out⟩
     case measure => simp [intOf] <;> omega
   ·have hkn : k = n := by omega
    subst hkn
    have h9 : (k : Int) ≤ (k : Int) := Int.le_refl _
    obtain ⟨hcap, hcsz⟩ := ROW.out.capd
    have hic : i ≠ cap := by omega
    have hbk := hL.at_ (n := 0) rfl
    have hsz : i + (k - i) * 1 ≤ cur'.size := by rw [hcsz]; omega
    have hcl : ∀ ty, (Builtin.clear_ #[22] ty #[.slice (some ⟨g, i, none⟩) (k - i) (cap - i)]).run Tryz.prog wr = .ok (.tuple #[]) (wr.setCells g i (Builtin.zeroCells #[.int .i64 0] (k - i)).toList) := run_clearB hbk (by omega) Tryz.underlying22 zc_I rfl hsz
    have hL9 := hL.store (n := 0) rfl i (Builtin.zeroCells #[.int .i64 0] (k - i)).toList
    simp only [List.set_cons_zero] at hL9
    have HR : Hid (RowA 3 1 IsI mm (.slice (some ⟨g, 0, none⟩) i cap) i (natL (xs.filter fun x => !P x)) [(g, 3, splice cur' i (Builtin.zeroCells #[.int .i64 0] (k - i)).toList)]) := by
     have h1 := RowA.cut (i := i) (cur2 := splice cur' i (Builtin.zeroCells #[.int .i64 0] (k - i)).toList) ROW.out (by omega) (by rw [splice_size]) (fun j hj => by
      rw [splice_at _ _ _ (by rw [zero_len]; exact hsz), if_neg (by omega)])
     have h2 := HD.out
     rw [← HN.out] at h2
     have h3 := h2.done
     unfold natL at h1 ⊢
     rw [← List.map_take, h3] at h1
     exact h1
    have HL9 := Lib.hid hL9
    generalize wr.setCells g i (Builtin.zeroCells #[.int .i64 0] (k - i)).toList = W9 at *
    generalize splice cur' i (Builtin.zeroCells #[.int .i64 0] (k - i)).toList = cur9 at *
    clear hbk hsz hL9 ROW HD
    go_wp2_with (first | go_skip | refine tP ?_ | (refine tS ?_; clear hL; intro _ hL))
    go_ret
    exact ⟨mm, i, cur9, rfl, HL9.out, hX, HR.out⟩
 ·have hz : idxZ P xs = -1 := if_neg hi
  have HE : Hid ((xs.filter fun x => !P x) = xs) := del_none (by have := find_le P xs; omega)
  rw [hz]
  clear hz hi
  go_wp2_with (first | go_skip | refine tP ?_ | (refine tS ?_; clear hL; intro _ hL))
  go_ret
  exact ⟨_, n, cur, rfl, hL, hX1, by rw [HE.out]; exact ROW1.out⟩
end Go.Proofs.YtniigfikpfinfaaGreat

/- slices.Sort of at most six numbers, over a row that lies hidden among the caller's blocks. -/
namespace Go.Proofs.YtniigfikpfinfaaGreat
open Go.RowKit

theorem less_w (x y : Int) (w m : World) (hV : Vw m w) : Calls Tryz.prog 176 #[.int .i64 x, .int .i64 y] w (RetV w m fun _ r => r = .bool (decide (x < y))) := by
 have h1 := nan_w x w
 have h2 := nan_w y w
 generalize hz : decide (x < y) = z
 go_enter Tryz.func176, Tryz.ntmps176
 go_wp2_with (go_at_call 191; first | (refine h1.mono ?_; rintro e w' ⟨rfl, rfl⟩) | (refine h2.mono ?_; rintro e w' ⟨rfl, rfl⟩))
 go_ret
 exact ⟨_, m, rfl, Ext.refl _, Ext.refl _, hV, rfl⟩
theorem bits_w (k : Nat) (hk : k ≤ 6) (w m : World) (hV : Vw m w) : Calls Tryz.prog 190 #[.int .u64 (k : Int)] w (RetV w m fun _ r => ∃ z, r = .int .i64 z) := by
 have hL := Loc.start hV
 clear hV
 have K : Hid (∀ k : Nat, k ≤ 6 → ∀ w m, Vw m w → Calls Tryz.prog 227 #[.int .u64 (k : Int)] w (RetV w m fun _ r => ∃ z, r = .int .i64 z)) := by
  show ∀ k, _
  intro k hk w m hV
  have hL := Loc.start hV
  obtain rfl | rfl | rfl | rfl | rfl | rfl | rfl : k = 0 ∨ k = 1 ∨ k = 2 ∨ k = 3 ∨ k = 4 ∨ k = 5 ∨ k = 6 := by omega
  all_goals
   go_enter Tryz.func227, Tryz.ntmps227
   go_wp2
   go_ret
   exact RetV.mk hL ⟨_, rfl⟩
 go_enter Tryz.func190, Tryz.ntmps190
 go_wp2_with (first | go_skip | refine tP ?_)
 refine (K.out k hk _ _ hL.vw).mono ?_
 rintro e W1 ⟨_, m1, rfl, hE, hM1, hV, z, rfl⟩
 replace hL := hL.call hE (by assumption) hV; clear hE hV
 go_wp2_with (first | go_skip | refine tP ?_)
 go_ret
 exact RetV.mk hL ⟨_, rfl⟩

theorem s_InsI {w0 m0 W m : World} {A : List Lo} {g n cap : Nat} {cur : Array Value} {xs : List Nat} (hL : Loc w0 m0 W m ((g, 3, cur) :: A)) (row : RowA 3 1 IsI m (.slice (some ⟨g, 0, none⟩) n cap) n (natL xs) [(g, 3, cur)]) (hn1 : 1 ≤ n) (hn : n ≤ 1000) :
  Calls Tryz.prog 253 #[.slice (some ⟨g, 0, none⟩) n cap, .int .i64 0, .int .i64 n] W (fun e W' => ∃ (m' : World) (cur' : Array Value) (ys : List Nat), (∃ v, e = .returned v) ∧ Loc w0 m0 W' m' ((g, 3, cur') :: A) ∧ Ext m m' ∧
   RowA 3 1 IsI m' (.slice (some ⟨g, 0, none⟩) n cap) n (natL ys) [(g, 3, cur')] ∧ ys.Perm xs ∧ SortI ys n) := by
 have hlen : xs.length = n := by have := row.len; rw [natL_len] at this; exact this.symm
 have HN := Lib.hid hlen
 have ROW := Lib.hid row
 have hX0 : Ext m m := Ext.refl _
 have KL : Hid (∀ a b w m, Vw m w → Calls Tryz.prog 176 #[.int .i64 a, .int .i64 b] w (RetV w m fun _ r => r = .bool (decide (a < b)))) := less_w
 clear row hlen
 go_enter Tryz.func253, Tryz.ntmps253
 go_wp2_with (first | go_skip | refine tP ?_ | (refine tS ?_; clear hL; intro _ hL))
 go_loopw [6] (fun iv wr => ∃ (i : Nat) (mm : World) (cur' : Array Value) (ys : List Nat), 1 ≤ i ∧ i ≤ n ∧ iv = .int .i64 i ∧ Loc w0 m0 wr mm ((g, 3, cur') :: A) ∧ Ext m mm ∧ Hid (RowA 3 1 IsI mm (.slice (some ⟨g, 0, none⟩) n cap) n (natL ys) [(g, 3, cur')]) ∧ Hid (ys.Perm xs) ∧ Hid (SortI ys i)) (fun iv _ => n - (intOf iv).toNat)
 case atStart => exact ⟨1, m, cur, xs, by omega, hn1, by go_num, hL, hX0, ROW.out, List.Perm.refl _, SortI.one _⟩
 case round =>
  clear hL hX0 ROW
  obtain ⟨i, mm, cur1, ys0, hi1, hi, rfl, hL, hX, ROW1, HP0, HS0⟩ := hrel
  by_cases hlt : i < n
  ·have hlt' : (i : Int) < (n : Int) := by omega
   have HM0 : Hid (MidI ys0 i i) := MidI.start HS0.out
   clear HS0
   go_wp2_with (first | go_skip | refine tP ?_ | (refine tS ?_; clear hL; intro _ hL))
   go_loopw [7] (fun jv wr => ∃ (j : Nat) (m2 : World) (ys : List Nat) (cur2 : Array Value), j ≤ i ∧ jv = .int .i64 j ∧ Loc w0 m0 wr m2 ((g, 3, cur2) :: A) ∧ Hid (Ext m m2) ∧ Hid (RowA 3 1 IsI m2 (.slice (some ⟨g, 0, none⟩) n cap) n (natL ys) [(g, 3, cur2)]) ∧ Hid (ys.Perm xs) ∧ Hid (MidI ys i j)) (fun jv _ => (intOf jv).toNat)
   case atStart => exact ⟨i, _, ys0, cur1, Nat.le_refl _, rfl, hL, hX, ROW1.out, HP0.out, HM0.out⟩
   case round =>
    clear hL ROW1 HP0 HM0 hX
    obtain ⟨j, m2, ys, cur2, hj, rfl, hL, HX2, ROW2, HP, HM⟩ := hrel
    have hX := HX2.out
    by_cases hj0 : j = 0
    ·subst hj0
     have HS2 : Hid (SortI ys (i + 1)) := HM.out.stop0
     clear HM
     go_upto_region 4 with ((first | go_skip | refine tP ?_ | (refine tS ?_; clear hL; intro _ hL)))
     (try simp only [eq_self] at *)
     refine wp_region_by2 15 [false, false, false, false, false, false, false, false, false, false, false, false, false, false, false] [false, false, false, false, false, false, false, false, false, false, false, false, false, false, false] [(fun v _ _ => v = ?c4_0a), (fun v _ _ => v = ?c4_1a), (fun v _ _ => v = ?c4_2a), (fun v _ _ => v = ?c4_3a), (fun v _ _ => v = ?c4_4a), (fun v _ _ => v = ?c4_5a), (fun v _ _ => v = ?c4_6a), (fun v _ _ => v = ?c4_7a), (fun v _ _ => v = ?c4_8a), (fun v _ _ => v = ?c4_9a), (fun v _ _ => v = ?c4_10a), (fun v _ _ => v = ?c4_11a), (fun v _ _ => v = ?c4_12a), (fun v _ _ => v = ?c4_13a), (fun v _ _ => v = ?c4_14a)] hL.vw mixed [16, 17, 18, 19, 20, 21, 22, 23, 24, 25, 26, 27, 28, 29, 30] _ (by kernel_rfl) (fun vs => by simp only [lay, Act.put, zq1, zq2, zq3]; rfl) (by kernel_rfl) (by decide) (by decide) ?s4a ?l4a ?r4a
     case s4a =>
      refine ⟨?_, ?_, ?_, ?_, ?_, ?_, ?_, ?_, ?_, ?_, ?_, ?_, ?_, ?_, ?_, trivial⟩
      ·intro vs W1 m1 hE hM hV hD; clear hD
       exact sPw
      ·intro vs W1 m1 hE hM hV hD; clear hD
       exact sPw
      ·intro vs W1 m1 hE hM hV hD; obtain ⟨⟨_, _, -, -, f16⟩, ⟨_, _, -, -, f17⟩, -⟩ := hD
       rw [(f16 : vs 16 = _), (f17 : vs 17 = _)]; clear f16 f17; exact sPw
      ·intro vs W1 m1 hE hM hV hD; obtain ⟨⟨_, _, -, -, f18⟩, -⟩ := hD
       rw [(f18 : vs 18 = _)]; clear f18; exact sPw
      ·intro vs W1 m1 hE hM hV hD; obtain ⟨⟨_, _, -, -, f19⟩, -⟩ := hD
       rw [(f19 : vs 19 = _)]; clear f19; exact sPw
      ·intro vs W1 m1 hE hM hV hD; obtain ⟨⟨_, _, -, -, f19⟩, -⟩ := hD
       rw [(f19 : vs 19 = _)]; clear f19; exact sPw
      ·intro vs W1 m1 hE hM hV hD; obtain ⟨⟨_, _, -, -, f20⟩, ⟨_, _, -, -, f21⟩, ⟨_, _, -, -, f19⟩, -⟩ := hD
       rw [(f20 : vs 20 = _), (f21 : vs 21 = _), (f19 : vs 19 = _)]; clear f20 f21 f19; exact sPw
      ·intro vs W1 m1 hE hM hV hD; obtain ⟨⟨_, _, -, -, f22⟩, ⟨_, _, -, -, f19⟩, -⟩ := hD
       rw [(f22 : vs 22 = _), (f19 : vs 19 = _)]; clear f22 f19; exact sPw
      ·intro vs W1 m1 hE hM hV hD; obtain ⟨⟨_, _, -, -, f19⟩, -⟩ := hD
       rw [(f19 : vs 19 = _)]; clear f19; exact sPw
      ·intro vs W1 m1 hE hM hV hD; obtain ⟨⟨_, _, -, -, f19⟩, -⟩ := hD
       rw [(f19 : vs 19 = _)]; clear f19; exact sPw
      ·intro vs W1 m1 hE hM hV hD; obtain ⟨⟨_, _, -, -, f25⟩, ⟨_, _, -, -, f19⟩, -⟩ := hD
       rw [(f25 : vs 25 = _), (f19 : vs 19 = _)]; clear f25 f19; exact sPw
      ·intro vs W1 m1 hE hM hV hD; obtain ⟨⟨_, _, -, -, f24⟩, ⟨_, _, -, -, f26⟩, ⟨_, _, -, -, f19⟩, -⟩ := hD
       rw [(f24 : vs 24 = _), (f26 : vs 26 = _), (f19 : vs 19 = _)]; clear f24 f26 f19; exact sPw
      ·intro vs W1 m1 hE hM hV hD; obtain ⟨⟨_, _, -, -, f27⟩, ⟨_, _, -, -, f19⟩, -⟩ := hD
       rw [(f27 : vs 27 = _), (f19 : vs 19 = _)]; clear f27 f19; exact sPw
      ·intro vs W1 m1 hE hM hV hD; obtain ⟨⟨_, _, -, -, f23⟩, ⟨_, _, -, -, f28⟩, ⟨_, _, -, -, f19⟩, -, -⟩ := hD
       rw [(f23 : vs 23 = _), (f28 : vs 28 = _), (f19 : vs 19 = _)]; clear f23 f28 f19; exact sPw
      ·intro vs W1 m1 hE hM hV hD; obtain ⟨⟨_, _, -, -, f19⟩, ⟨_, _, -, -, f29⟩, -⟩ := hD
       rw [(f19 : vs 19 = _), (f29 : vs 29 = _)]; clear f19 f29; exact sPw
     case l4a =>
      refine ⟨nF, nF, nF, nF, nF, nF, nF, nF, nF, nF, nF, nF, nF, nF, nF, trivial⟩
     intro vs W1 m1 hE hM hV hF hD
     clear hD
     obtain ⟨⟨_, _, -, -, f16⟩, ⟨_, _, -, -, f17⟩, ⟨_, _, -, -, f18⟩, ⟨_, _, -, -, f19⟩, ⟨_, _, -, -, f20⟩, ⟨_, _, -, -, f21⟩, ⟨_, _, -, -, f22⟩, ⟨_, _, -, -, f23⟩, ⟨_, _, -, -, f24⟩, ⟨_, _, -, -, f25⟩, ⟨_, _, -, -, f26⟩, ⟨_, _, -, -, f27⟩, ⟨_, _, -, -, f28⟩, ⟨_, _, -, -, f29⟩, ⟨_, _, -, -, f30⟩, -⟩ := hF
     replace hL := hL.call hE hM hV
     have f16 : vs 16 = _ := f16
     generalize vs 16 = x16 at f16 ⊢
     subst x16
     have f17 : vs 17 = _ := f17
     generalize vs 17 = x17 at f17 ⊢
     subst x17
     have f18 : vs 18 = _ := f18
     generalize vs 18 = x18 at f18 ⊢
     subst x18
     have f19 : vs 19 = _ := f19
     generalize vs 19 = x19 at f19 ⊢
     subst x19
     have f20 : vs 20 = _ := f20
     generalize vs 20 = x20 at f20 ⊢
     subst x20
     have f21 : vs 21 = _ := f21
     generalize vs 21 = x21 at f21 ⊢
     subst x21
     have f22 : vs 22 = _ := f22
     generalize vs 22 = x22 at f22 ⊢
     subst x22
     have f23 : vs 23 = _ := f23
     generalize vs 23 = x23 at f23 ⊢
     subst x23
     have f24 : vs 24 = _ := f24
     generalize vs 24 = x24 at f24 ⊢
     subst x24
     have f25 : vs 25 = _ := f25
     generalize vs 25 = x25 at f25 ⊢
     subst x25
     have f26 : vs 26 = _ := f26
     generalize vs 26 = x26 at f26 ⊢
     subst x26
     have f27 : vs 27 = _ := f27
     generalize vs 27 = x27 at f27 ⊢
     subst x27
     have f28 : vs 28 = _ := f28
     generalize vs 28 = x28 at f28 ⊢
     subst x28
     have f29 : vs 29 = _ := f29
     generalize vs 29 = x29 at f29 ⊢
     subst x29
     have f30 : vs 30 = _ := f30
     generalize vs 30 = x30 at f30 ⊢
     subst x30
     clear hE hV
     simp only [List.drop_succ_cons, List.drop_zero]
     go_wp2_with (first | go_skip | refine tP ?_ | (refine tS ?_; clear hL; intro _ hL))
     refine QN.mk ?_
     go_wp2_with (first | go_skip | refine tP ?_ | (refine tS ?_; clear hL; intro _ hL))
     go_roundw
     case rel => exact ⟨i + 1, _, _, ys, by omega, by omega, by go_num, hL, exX, RowA.le isI_mono ROW2.out leX, HP.out, HS2.out⟩
     case measure => simp [intOf] <;> omega
    ·obtain ⟨j1, hj1⟩ : ∃ j1, j1 + 1 = j := ⟨j - 1, by omega⟩
     have HYN : Hid (ys.length = n) := HP.out.length_eq.trans HN.out
     have hjn : j < n := by omega
     have hjn1 : j1 < n := by omega
     obtain ⟨xa, hxa⟩ := at_some HYN hjn
     obtain ⟨xb, hxb⟩ := at_some HYN hjn1
     have hca := row_int ROW2.out (natL_at hxa)
     have hcb := row_int ROW2.out (natL_at hxb)
     have hjd : decide (0 < j) = true := decide_eq_true (by omega)
     have hjp : decide ((0 : Int) < (j : Int)) = true := decide_eq_true (by omega)
     have hw1 : wrap64 ((j : Int) - 1) = (j1 : Int) := by unfold wrap64; omega
     have hw2 : (j : Int) - 1 = (j1 : Int) := by omega
     have hw3 : IntKind.i64.wrap ((j : Int) - 1) = (j1 : Int) := by rw [IntKind.wrap_i64]; omega
     have HJ := Lib.hid hj1
     have HXA := Lib.hid hxa
     have HXB := Lib.hid hxb
     have HST : Hid (¬ xa < xb → SortI ys (i + 1)) := by
      show _ → _
      intro h
      have hm := HM.out
      rw [← hj1] at hm hxa
      exact hm.stop hxa hxb h
     have HGO : Hid (xa < xb → MidI ((ys.set j xb).set j1 xa) i j1) := by
      show _ → _
      intro h
      have hm := HM.out
      have hx := hxa
      rw [← hj1] at hm hx ⊢
      exact hm.go hx hxb h (by omega)
     have HPP : Hid (((ys.set j xb).set j1 xa).Perm xs) := (swap_perm hxa hxb).trans HP.out
     obtain ⟨bl, hbl⟩ : ∃ bl, bl = decide ((xa : Int) < (xb : Int)) := ⟨_, rfl⟩
     have KC : Hid (∀ w m', Vw m' w → Calls Tryz.prog 176 #[.int .i64 (xa : Int), .int .i64 (xb : Int)] w (RetV w m' fun _ r => r = .bool bl)) := by
      show ∀ w m', _
      intro w m' hV
      rw [hbl]
      exact KL.out _ _ w m' hV
     have hfj : j < cur2.size := by have h1 := ROW2.out.fit; omega
     have hfj1 : j1 < cur2.size := by have h1 := ROW2.out.fit; omega
     clear hxa hxb hj1 hj0 HM HP
     by_cases hc : xa < xb
     ·have HMG := Lib.hid (HGO.out hc)
      obtain rfl : bl = true := hbl.trans (decide_eq_true (by omega))
      clear hbl hc HST HGO
      have HFJ := Lib.hid hfj
      have HFJ1 := Lib.hid hfj1
      clear hfj hfj1
      go_upto_region 4 with ((first | go_skip | refine tP ?_ | (refine tS ?_; clear hL; intro _ hL)))
      (try simp only [eq_self] at *)
      refine wp_region_by2 15 [false, false, false, false, false, false, false, false, false, false, false, false, false, false, false] [false, false, false, false, false, false, false, false, false, false, false, false, false, false, false] [(fun v _ _ => v = ?c4_0b), (fun v _ _ => v = ?c4_1b), (fun v _ _ => v = ?c4_2b), (fun v _ _ => v = ?c4_3b), (fun v _ _ => v = ?c4_4b), (fun v _ _ => v = ?c4_5b), (fun v _ _ => v = ?c4_6b), Is (.int .i64 (xa : Int)), (fun v _ _ => v = ?c4_8b), (fun v _ _ => v = ?c4_9b), (fun v _ _ => v = ?c4_10b), (fun v _ _ => v = ?c4_11b), Is (.int .i64 (xb : Int)), Is (.bool true), (fun v _ _ => v = ?c4_14b)] hL.vw mixed [16, 17, 18, 19, 20, 21, 22, 23, 24, 25, 26, 27, 28, 29, 30] _ (by kernel_rfl) (fun vs => by simp only [lay, Act.put, zq1, zq2, zq3]; rfl) (by kernel_rfl) (by decide) (by decide) ?s4b ?l4b ?r4b
      case s4b =>
       refine ⟨?_, ?_, ?_, ?_, ?_, ?_, ?_, ?_, ?_, ?_, ?_, ?_, ?_, ?_, ?_, trivial⟩
       ·intro vs W1 m1 hE hM hV hD; clear hD
        exact sPw
       ·intro vs W1 m1 hE hM hV hD; clear hD
        exact sPw
       ·intro vs W1 m1 hE hM hV hD; obtain ⟨⟨_, _, -, -, f16⟩, ⟨_, _, -, -, f17⟩, -⟩ := hD
        rw [(f16 : vs 16 = _), (f17 : vs 17 = _)]; clear f16 f17; exact sPw
       ·intro vs W1 m1 hE hM hV hD; obtain ⟨⟨_, _, -, -, f18⟩, -⟩ := hD
        rw [(f18 : vs 18 = _)]; clear f18; exact sPw
       ·intro vs W1 m1 hE hM hV hD; obtain ⟨⟨_, _, -, -, f19⟩, -⟩ := hD
        rw [(f19 : vs 19 = _)]; clear f19; exact sPw
       ·intro vs W1 m1 hE hM hV hD; obtain ⟨⟨_, _, -, -, f19⟩, -⟩ := hD
        rw [(f19 : vs 19 = _)]; clear f19; exact sPw
       ·intro vs W1 m1 hE hM hV hD; obtain ⟨⟨_, _, -, -, f20⟩, ⟨_, _, -, -, f21⟩, ⟨_, _, -, -, f19⟩, -⟩ := hD
        rw [(f20 : vs 20 = _), (f21 : vs 21 = _), (f19 : vs 19 = _)]; clear f20 f21 f19; exact sIy
       ·intro vs W1 m1 hE hM hV hD; obtain ⟨⟨_, _, -, -, f22⟩, ⟨_, _, -, -, f19⟩, -⟩ := hD
        rw [(f22 : vs 22 = _), (f19 : vs 19 = _)]
        clear f22 f19
        (replace hL := hL.call hE hM hV; refine wl_load1 hL (by first | exact wanted_none rfl | exact wanted_some rfl rfl rfl rfl) rfl rfl lb_int (n := 0) rfl hca ?_; simp only [Act.put, zq1, zq2, zq3]; refine One2.still hV ?_; exact rfl)
       ·intro vs W1 m1 hE hM hV hD; obtain ⟨⟨_, _, -, -, f19⟩, -⟩ := hD
        rw [(f19 : vs 19 = _)]; clear f19; exact sPw
       ·intro vs W1 m1 hE hM hV hD; obtain ⟨⟨_, _, -, -, f19⟩, -⟩ := hD
        rw [(f19 : vs 19 = _)]; clear f19; exact sPw
       ·intro vs W1 m1 hE hM hV hD; obtain ⟨⟨_, _, -, -, f25⟩, ⟨_, _, -, -, f19⟩, -⟩ := hD
        rw [(f25 : vs 25 = _), (f19 : vs 19 = _)]; clear f25 f19; exact sPw
       ·intro vs W1 m1 hE hM hV hD; obtain ⟨⟨_, _, -, -, f24⟩, ⟨_, _, -, -, f26⟩, ⟨_, _, -, -, f19⟩, -⟩ := hD
        rw [(f24 : vs 24 = _), (f26 : vs 26 = _), (f19 : vs 19 = _)]; clear f24 f26 f19; exact sIy
       ·intro vs W1 m1 hE hM hV hD; obtain ⟨⟨_, _, -, -, f27⟩, ⟨_, _, -, -, f19⟩, -⟩ := hD
        rw [(f27 : vs 27 = _), (f19 : vs 19 = _)]
        clear f27 f19
        (replace hL := hL.call hE hM hV; refine wl_load1 hL (by first | exact wanted_none rfl | exact wanted_some rfl rfl rfl rfl) rfl rfl lb_int (n := 0) rfl hcb ?_; simp only [Act.put, zq1, zq2, zq3]; refine One2.still hV ?_; exact rfl)
       ·intro vs W1 m1 hE hM hV hD; obtain ⟨⟨_, _, -, -, f23⟩, ⟨_, _, -, -, f28⟩, ⟨_, _, -, -, f19⟩, -, -⟩ := hD
        rw [(f23 : vs 23 = _), (f28 : vs 28 = _), (f19 : vs 19 = _)]
        clear f23 f28 f19
        go_wp2_with fail
        refine (KC.out _ _ hV).mono ?_
        rintro e W2 ⟨v, m2, rfl, hE2, hM2, hV2, h⟩
        go_wp2_with fail
        refine One2.call hE2 hM2 hV2 ?_; first | exact h | exact rfl
       ·intro vs W1 m1 hE hM hV hD; obtain ⟨⟨_, _, -, -, f19⟩, ⟨_, _, -, -, f29⟩, -⟩ := hD
        rw [(f19 : vs 19 = _), (f29 : vs 29 = _)]; clear f19 f29; exact sPw
      case l4b =>
       refine ⟨nF, nF, nF, nF, nF, nF, nF, nF, nF, nF, nF, nF, nF, nF, nF, trivial⟩
      intro vs W1 m1 hE hM hV hF hD
      clear hD
      obtain ⟨⟨_, _, -, -, f16⟩, ⟨_, _, -, -, f17⟩, ⟨_, _, -, -, f18⟩, ⟨_, _, -, -, f19⟩, ⟨_, _, -, -, f20⟩, ⟨_, _, -, -, f21⟩, ⟨_, _, -, -, f22⟩, ⟨_, _, -, -, f23⟩, ⟨_, _, -, -, f24⟩, ⟨_, _, -, -, f25⟩, ⟨_, _, -, -, f26⟩, ⟨_, _, -, -, f27⟩, ⟨_, _, -, -, f28⟩, ⟨_, _, -, -, f29⟩, ⟨_, _, -, -, f30⟩, -⟩ := hF
      replace hL := hL.call hE hM hV
      have f16 : vs 16 = _ := f16
      generalize vs 16 = x16 at f16 ⊢
      subst x16
      have f17 : vs 17 = _ := f17
      generalize vs 17 = x17 at f17 ⊢
      subst x17
      have f18 : vs 18 = _ := f18
      generalize vs 18 = x18 at f18 ⊢
      subst x18
      have f19 : vs 19 = _ := f19
      generalize vs 19 = x19 at f19 ⊢
      subst x19
      have f20 : vs 20 = _ := f20
      generalize vs 20 = x20 at f20 ⊢
      subst x20
      have f21 : vs 21 = _ := f21
      generalize vs 21 = x21 at f21 ⊢
      subst x21
      have f22 : vs 22 = _ := f22
      generalize vs 22 = x22 at f22 ⊢
      subst x22
      have f23 : vs 23 = _ := f23
      generalize vs 23 = x23 at f23 ⊢
      subst x23
      have f24 : vs 24 = _ := f24
      generalize vs 24 = x24 at f24 ⊢
      subst x24
      have f25 : vs 25 = _ := f25
      generalize vs 25 = x25 at f25 ⊢
      subst x25
      have f26 : vs 26 = _ := f26
      generalize vs 26 = x26 at f26 ⊢
      subst x26
      have f27 : vs 27 = _ := f27
      generalize vs 27 = x27 at f27 ⊢
      subst x27
      have f28 : vs 28 = _ := f28
      generalize vs 28 = x28 at f28 ⊢
      subst x28
      have f29 : vs 29 = _ := f29
      generalize vs 29 = x29 at f29 ⊢
      subst x29
      have f30 : vs 30 = _ := f30
      generalize vs 30 = x30 at f30 ⊢
      subst x30
      clear hE hV
      simp only [List.drop_succ_cons, List.drop_zero]
      go_wp2_with (first | go_skip | refine tP ?_ | (refine tS ?_; clear hL; intro _ hL))
      refine QN.mk ?_
      have HM1 : Hid (Ext m2 m1) := exX
      have HXB1 := Lib.hid hX
      clear hX
      go_upto_region 6 with ((first | go_skip | refine tP ?_ | (refine tS ?_; clear hL; intro _ hL)))
      (try simp only [eq_self] at *)
      refine wp_region_by2 14 [false, false, false, false, false, false, false, false, false, false, false, false, false, false] [false, false, true, true, true, false, false, false, false, false, false, false, false, false] [(fun v _ _ => v = ?c6_0b), (fun v _ _ => v = ?c6_1b), (fun v _ _ => v = ?c6_2b), (fun v _ _ => v = ?c6_3b), (fun v _ _ => v = ?c6_4b), (fun v _ _ => v = ?c6_5b), (fun v _ _ => v = ?c6_6b), (fun v _ _ => v = ?c6_7b), (fun v _ _ => v = ?c6_8b), Is (.int .i64 (xb : Int)), (fun v _ _ => v = ?c6_10b), (fun v _ _ => v = ?c6_11b), (fun v _ _ => v = ?c6_12b), Is (.int .i64 (xa : Int))] hL.vw mixed [33, 34, 35, 36, 37, 38, 39, 40, 41, 42, 43, 44, 45, 46] _ (by kernel_rfl) (fun vs => by simp only [lay, Act.put, zq1, zq2, zq3]; rfl) (by kernel_rfl) (by decide) (by decide) ?s6b ?l6b ?r6b
      case s6b =>
       refine ⟨?_, ?_, ?_, ?_, ?_, ?_, ?_, ?_, ?_, ?_, ?_, ?_, ?_, ?_, trivial⟩
       ·intro vs W1 m1 hE hM hV hD; clear hD
        exact sPw
       ·intro vs W1 m1 hE hM hV hD; clear hD
        exact sPw
       ·intro vs W1 m1 hE hM hV hD; clear hD
        exact sPw
       ·intro vs W1 m1 hE hM hV hD; clear hD
        exact sPw
       ·intro vs W1 m1 hE hM hV hD; obtain ⟨⟨_, _, -, -, f36⟩, -, -⟩ := hD
        rw [(f36 : vs 36 = _)]; clear f36; exact sPw
       ·intro vs W1 m1 hE hM hV hD; clear hD
        exact sPw
       ·intro vs W1 m1 hE hM hV hD; clear hD
        exact sPw
       ·intro vs W1 m1 hE hM hV hD; obtain ⟨⟨_, _, -, -, f39⟩, -⟩ := hD
        rw [(f39 : vs 39 = _)]; clear f39; exact sPw
       ·intro vs W1 m1 hE hM hV hD; obtain ⟨⟨_, _, -, -, f38⟩, ⟨_, _, -, -, f40⟩, -⟩ := hD
        rw [(f38 : vs 38 = _), (f40 : vs 40 = _)]; clear f38 f40; exact sIy
       ·intro vs W1 m1 hE hM hV hD; obtain ⟨⟨_, _, -, -, f41⟩, -⟩ := hD
        rw [(f41 : vs 41 = _)]
        clear f41
        (replace hL := hL.call hE hM hV; refine wl_load1 hL (by first | exact wanted_none rfl | exact wanted_some rfl rfl rfl rfl) rfl rfl lb_int (n := 0) rfl hcb ?_; simp only [Act.put, zq1, zq2, zq3]; refine One2.still hV ?_; exact rfl)
       ·intro vs W1 m1 hE hM hV hD; clear hD
        exact sPw
       ·intro vs W1 m1 hE hM hV hD; clear hD
        exact sPw
       ·intro vs W1 m1 hE hM hV hD; obtain ⟨⟨_, _, -, -, f43⟩, ⟨_, _, -, -, f44⟩, -⟩ := hD
        rw [(f43 : vs 43 = _), (f44 : vs 44 = _)]; clear f43 f44; exact sIy
       ·intro vs W1 m1 hE hM hV hD; obtain ⟨⟨_, _, -, -, f45⟩, -⟩ := hD
        rw [(f45 : vs 45 = _)]
        clear f45
        (replace hL := hL.call hE hM hV; refine wl_load1 hL (by first | exact wanted_none rfl | exact wanted_some rfl rfl rfl rfl) rfl rfl lb_int (n := 0) rfl hca ?_; simp only [Act.put, zq1, zq2, zq3]; refine One2.still hV ?_; exact rfl)
      case l6b =>
       refine ⟨nF, nF, fun _ => ?_, fun _ => ?_, fun _ => ?_, nF, nF, nF, nF, nF, nF, nF, nF, nF, trivial⟩
       ·intro vs W1 m1 hE hM hV hD; clear hD
        exact ⟨_, Or.inl ⟨(by rfl), fun w => (by rfl)⟩, (by first | exact rfl | exact congrArg (Value.int .i64) hw3)⟩
       ·intro vs W1 m1 hE hM hV hD; clear hD
        exact ⟨_, Or.inl ⟨(by rfl), fun w => (by rfl)⟩, (by first | exact rfl | exact congrArg (Value.int .i64) hw3)⟩
       ·intro vs W1 m1 hE hM hV hD; obtain ⟨⟨_, _, -, -, f36⟩, -, -⟩ := hD
        rw [(f36 : vs 36 = _)]
        clear f36
        exact ⟨_, Or.inl ⟨(by rfl), fun w => (by rfl)⟩, (by first | exact rfl | exact congrArg (Value.int .i64) hw3)⟩
      intro vs W1 m1 hE hM hV hF hD
      clear hD
      obtain ⟨⟨_, _, -, -, f33⟩, ⟨_, _, -, -, f34⟩, ⟨_, _, -, -, f35⟩, -, ⟨_, _, -, -, f37⟩, -, -, -, -, ⟨_, _, -, -, f42⟩, -, -, -, ⟨_, _, -, -, f46⟩, -⟩ := hF
      replace hL := hL.call hE hM hV
      have f33 : vs 33 = _ := f33
      generalize vs 33 = x33 at f33 ⊢
      subst x33
      have f34 : vs 34 = _ := f34
      generalize vs 34 = x34 at f34 ⊢
      subst x34
      have f35 : vs 35 = _ := f35
      generalize vs 35 = x35 at f35 ⊢
      subst x35
      have f37 : vs 37 = _ := f37
      generalize vs 37 = x37 at f37 ⊢
      subst x37
      have f42 : vs 42 = _ := f42
      generalize vs 42 = x42 at f42 ⊢
      subst x42
      have f46 : vs 46 = _ := f46
      generalize vs 46 = x46 at f46 ⊢
      subst x46
      clear hE hV
      simp only [List.drop_succ_cons, List.drop_zero]
      go_wp2_with (first | (with_reducible refine stS ?_) | (first | go_skip | refine tP ?_ | (refine tS ?_; clear hL; intro _ hL)))
      refine goA ?_
      refine wl_store1 hL (wanted_none rfl) (v := .int .i64 (xb : Int)) (off := j) rfl rfl rfl lb_int (n := 0) rfl HFJ.out rfl rfl ?_
      have hra1 := RowA.putI (k := j) (x := (xb : Int)) ROW2.out
      rw [natL_set] at hra1
      simp only [Nat.zero_add] at hra1
      clear hL
      intro W7 hL
      simp only [List.set_cons_zero] at hL
      simp only [Act.put, zq1, zq2, zq3]
      go_wp2_with (first | (with_reducible refine stS ?_) | (first | go_skip | refine tP ?_ | (refine tS ?_; clear hL; intro _ hL)))
      refine goA ?_
      refine wl_store1 hL (wanted_none rfl) (v := .int .i64 (xa : Int)) (off := 0 + j1) rfl rfl rfl lb_int (n := 0) rfl (by rw [splice_size, Nat.zero_add]; exact HFJ1.out) rfl rfl ?_
      have hra2 := RowA.putI (k := j1) (x := (xa : Int)) hra1
      rw [natL_set] at hra2
      clear hL hra1
      intro W8 hL
      simp only [List.set_cons_zero] at hL
      have RA2 := Lib.hid hra2
      clear hra2
      simp only [Act.put, zq1, zq2, zq3]
      go_wp2_with (first | go_skip | refine tP ?_ | (refine tS ?_; clear hL; intro _ hL))
      refine QN.mk ?_
      go_wp2_with (first | go_skip | refine tP ?_ | (refine tS ?_; clear hL; intro _ hL))
      go_roundw
      case rel => exact ⟨j1, _, _, _, by have := HJ.out; omega, by have := HJ.out; go_num, hL, HXB1.out.trans exX, RowA.le isI_mono RA2.out leX, HPP.out, HMG.out⟩
      case measure => have := HJ.out; simp [intOf] <;> omega
     ·have HS2 := Lib.hid (HST.out hc)
      obtain rfl : bl = false := hbl.trans (decide_eq_false (by omega))
      clear hbl hc HST HGO hfj hfj1
      have HPO : Hid (ys.Perm xs) := by
       show _
       have := HPP.out
       exact (swap_perm HXA.out HXB.out).symm.trans this
      go_upto_region 4 with ((first | go_skip | refine tP ?_ | (refine tS ?_; clear hL; intro _ hL)))
      (try simp only [eq_self] at *)
      refine wp_region_by2 15 [false, false, false, false, false, false, false, false, false, false, false, false, false, false, false] [false, false, false, false, false, false, false, false, false, false, false, false, false, false, false] [(fun v _ _ => v = ?c4_0c), (fun v _ _ => v = ?c4_1c), (fun v _ _ => v = ?c4_2c), (fun v _ _ => v = ?c4_3c), (fun v _ _ => v = ?c4_4c), (fun v _ _ => v = ?c4_5c), (fun v _ _ => v = ?c4_6c), Is (.int .i64 (xa : Int)), (fun v _ _ => v = ?c4_8c), (fun v _ _ => v = ?c4_9c), (fun v _ _ => v = ?c4_10c), (fun v _ _ => v = ?c4_11c), Is (.int .i64 (xb : Int)), Is (.bool false), (fun v _ _ => v = ?c4_14c)] hL.vw mixed [16, 17, 18, 19, 20, 21, 22, 23, 24, 25, 26, 27, 28, 29, 30] _ (by kernel_rfl) (fun vs => by simp only [lay, Act.put, zq1, zq2, zq3]; rfl) (by kernel_rfl) (by decide) (by decide) ?s4c ?l4c ?r4c
      case s4c =>
       refine ⟨?_, ?_, ?_, ?_, ?_, ?_, ?_, ?_, ?_, ?_, ?_, ?_, ?_, ?_, ?_, trivial⟩
       ·intro vs W1 m1 hE hM hV hD; clear hD
        exact sPw
       ·intro vs W1 m1 hE hM hV hD; clear hD
        exact sPw
       ·intro vs W1 m1 hE hM hV hD; obtain ⟨⟨_, _, -, -, f16⟩, ⟨_, _, -, -, f17⟩, -⟩ := hD
        rw [(f16 : vs 16 = _), (f17 : vs 17 = _)]; clear f16 f17; exact sPw
       ·intro vs W1 m1 hE hM hV hD; obtain ⟨⟨_, _, -, -, f18⟩, -⟩ := hD
        rw [(f18 : vs 18 = _)]; clear f18; exact sPw
       ·intro vs W1 m1 hE hM hV hD; obtain ⟨⟨_, _, -, -, f19⟩, -⟩ := hD
        rw [(f19 : vs 19 = _)]; clear f19; exact sPw
       ·intro vs W1 m1 hE hM hV hD; obtain ⟨⟨_, _, -, -, f19⟩, -⟩ := hD
        rw [(f19 : vs 19 = _)]; clear f19; exact sPw
       ·intro vs W1 m1 hE hM hV hD; obtain ⟨⟨_, _, -, -, f20⟩, ⟨_, _, -, -, f21⟩, ⟨_, _, -, -, f19⟩, -⟩ := hD
        rw [(f20 : vs 20 = _), (f21 : vs 21 = _), (f19 : vs 19 = _)]; clear f20 f21 f19; exact sIy
       ·intro vs W1 m1 hE hM hV hD; obtain ⟨⟨_, _, -, -, f22⟩, ⟨_, _, -, -, f19⟩, -⟩ := hD
        rw [(f22 : vs 22 = _), (f19 : vs 19 = _)]
        clear f22 f19
        (replace hL := hL.call hE hM hV; refine wl_load1 hL (by first | exact wanted_none rfl | exact wanted_some rfl rfl rfl rfl) rfl rfl lb_int (n := 0) rfl hca ?_; simp only [Act.put, zq1, zq2, zq3]; refine One2.still hV ?_; exact rfl)
       ·intro vs W1 m1 hE hM hV hD; obtain ⟨⟨_, _, -, -, f19⟩, -⟩ := hD
        rw [(f19 : vs 19 = _)]; clear f19; exact sPw
       ·intro vs W1 m1 hE hM hV hD; obtain ⟨⟨_, _, -, -, f19⟩, -⟩ := hD
        rw [(f19 : vs 19 = _)]; clear f19; exact sPw
       ·intro vs W1 m1 hE hM hV hD; obtain ⟨⟨_, _, -, -, f25⟩, ⟨_, _, -, -, f19⟩, -⟩ := hD
        rw [(f25 : vs 25 = _), (f19 : vs 19 = _)]; clear f25 f19; exact sPw
       ·intro vs W1 m1 hE hM hV hD; obtain ⟨⟨_, _, -, -, f24⟩, ⟨_, _, -, -, f26⟩, ⟨_, _, -, -, f19⟩, -⟩ := hD
        rw [(f24 : vs 24 = _), (f26 : vs 26 = _), (f19 : vs 19 = _)]; clear f24 f26 f19; exact sIy
       ·intro vs W1 m1 hE hM hV hD; obtain ⟨⟨_, _, -, -, f27⟩, ⟨_, _, -, -, f19⟩, -⟩ := hD
        rw [(f27 : vs 27 = _), (f19 : vs 19 = _)]
        clear f27 f19
        (replace hL := hL.call hE hM hV; refine wl_load1 hL (by first | exact wanted_none rfl | exact wanted_some rfl rfl rfl rfl) rfl rfl lb_int (n := 0) rfl hcb ?_; simp only [Act.put, zq1, zq2, zq3]; refine One2.still hV ?_; exact rfl)
       ·intro vs W1 m1 hE hM hV hD; obtain ⟨⟨_, _, -, -, f23⟩, ⟨_, _, -, -, f28⟩, ⟨_, _, -, -, f19⟩, -, -⟩ := hD
        rw [(f23 : vs 23 = _), (f28 : vs 28 = _), (f19 : vs 19 = _)]
        clear f23 f28 f19
        go_wp2_with fail
        refine (KC.out _ _ hV).mono ?_
        rintro e W2 ⟨v, m2, rfl, hE2, hM2, hV2, h⟩
        go_wp2_with fail
        refine One2.call hE2 hM2 hV2 ?_; first | exact h | exact rfl
       ·intro vs W1 m1 hE hM hV hD; obtain ⟨⟨_, _, -, -, f19⟩, ⟨_, _, -, -, f29⟩, -⟩ := hD
        rw [(f19 : vs 19 = _), (f29 : vs 29 = _)]; clear f19 f29; exact sPw
      case l4c =>
       refine ⟨nF, nF, nF, nF, nF, nF, nF, nF, nF, nF, nF, nF, nF, nF, nF, trivial⟩
      intro vs W1 m1 hE hM hV hF hD
      clear hD
      obtain ⟨⟨_, _, -, -, f16⟩, ⟨_, _, -, -, f17⟩, ⟨_, _, -, -, f18⟩, ⟨_, _, -, -, f19⟩, ⟨_, _, -, -, f20⟩, ⟨_, _, -, -, f21⟩, ⟨_, _, -, -, f22⟩, ⟨_, _, -, -, f23⟩, ⟨_, _, -, -, f24⟩, ⟨_, _, -, -, f25⟩, ⟨_, _, -, -, f26⟩, ⟨_, _, -, -, f27⟩, ⟨_, _, -, -, f28⟩, ⟨_, _, -, -, f29⟩, ⟨_, _, -, -, f30⟩, -⟩ := hF
      replace hL := hL.call hE hM hV
      have f16 : vs 16 = _ := f16
      generalize vs 16 = x16 at f16 ⊢
      subst x16
      have f17 : vs 17 = _ := f17
      generalize vs 17 = x17 at f17 ⊢
      subst x17
      have f18 : vs 18 = _ := f18
      generalize vs 18 = x18 at f18 ⊢
      subst x18
      have f19 : vs 19 = _ := f19
      generalize vs 19 = x19 at f19 ⊢
      subst x19
      have f20 : vs 20 = _ := f20
      generalize vs 20 = x20 at f20 ⊢
      subst x20
      have f21 : vs 21 = _ := f21
      generalize vs 21 = x21 at f21 ⊢
      subst x21
      have f22 : vs 22 = _ := f22
      generalize vs 22 = x22 at f22 ⊢
      subst x22
      have f23 : vs 23 = _ := f23
      generalize vs 23 = x23 at f23 ⊢
      subst x23
      have f24 : vs 24 = _ := f24
      generalize vs 24 = x24 at f24 ⊢
      subst x24
      have f25 : vs 25 = _ := f25
      generalize vs 25 = x25 at f25 ⊢
      subst x25
      have f26 : vs 26 = _ := f26
      generalize vs 26 = x26 at f26 ⊢
      subst x26
      have f27 : vs 27 = _ := f27
      generalize vs 27 = x27 at f27 ⊢
      subst x27
      have f28 : vs 28 = _ := f28
      generalize vs 28 = x28 at f28 ⊢
      subst x28
      have f29 : vs 29 = _ := f29
      generalize vs 29 = x29 at f29 ⊢
      subst x29
      have f30 : vs 30 = _ := f30
      generalize vs 30 = x30 at f30 ⊢
      subst x30
      clear hE hV
      simp only [List.drop_succ_cons, List.drop_zero]
      go_wp2_with (first | go_skip | refine tP ?_ | (refine tS ?_; clear hL; intro _ hL))
      refine QN.mk ?_
      go_wp2_with (first | go_skip | refine tP ?_ | (refine tS ?_; clear hL; intro _ hL))
      go_roundw
      case rel => exact ⟨i + 1, _, _, ys, by omega, by omega, by go_num, hL, exX, RowA.le isI_mono ROW2.out leX, HPO.out, HS2.out⟩
      case measure => simp [intOf] <;> omega
  ·have hin : i = n := by omega
   subst hin
   have h9 : (i : Int) ≤ (i : Int) := Int.le_refl _
   go_wp2_with (first | go_skip | refine tP ?_ | (refine tS ?_; clear hL; intro _ hL))
   refine bodyPost_end (results_none rfl _ _ _) rfl ?_
   exact ⟨_, cur1, ys0, ⟨_, rfl⟩, hL, hX, ROW1.out, HP0.out, HS0.out⟩

theorem s_PdqI {w0 m0 W m : World} {A : List Lo} {g n cap : Nat} {cur : Array Value} {xs : List Nat} (hL : Loc w0 m0 W m ((g, 3, cur) :: A)) (row : RowA 3 1 IsI m (.slice (some ⟨g, 0, none⟩) n cap) n (natL xs) [(g, 3, cur)]) (hn1 : 1 ≤ n) (hn : n ≤ 6) (z : Int) :
  Calls Tryz.prog 210 #[.slice (some ⟨g, 0, none⟩) n cap, .int .i64 0, .int .i64 n, .int .i64 z] W (fun e W' => ∃ (m' : World) (cur' : Array Value) (ys : List Nat), (∃ v, e = .returned v) ∧ Loc w0 m0 W' m' ((g, 3, cur') :: A) ∧ Ext m m' ∧
   RowA 3 1 IsI m' (.slice (some ⟨g, 0, none⟩) n cap) n (natL ys) [(g, 3, cur')] ∧ ys.Perm xs ∧ SortI ys n) := by
 have ROW := Lib.hid row
 have h12 : (n : Int) ≤ 12 := by omega
 have h0 : wrap64 ((n : Int) - 0) = (n : Int) := by unfold wrap64; omega
 clear row
 go_enter Tryz.func210, Tryz.ntmps210
 go_wp2_with (first | go_skip | refine tP ?_)
 refine wp_loop_once ?_
 go_wp2_with (first | go_skip | refine tP ?_)
 refine (s_InsI hL ROW.out hn1 (by omega)).mono ?_
 rintro e W1 ⟨m1, cur1, ys, ⟨v, rfl⟩, hL1, hX1, row1, hp, hs⟩
 go_wp2_with (first | go_skip | refine tP ?_)
 first | refine bodyPost_end (results_none rfl _ _ _) rfl ?_ | refine bodyPost_ret (results_none rfl _ _ _) rfl ?_
 exact ⟨_, cur1, ys, ⟨_, rfl⟩, hL1, hX1, row1, hp, hs⟩

theorem s_SortI {w0 m0 W m : World} {A : List Lo} {g n cap : Nat} {cur : Array Value} {xs : List Nat} (hL : Loc w0 m0 W m ((g, 3, cur) :: A)) (row : RowA 3 1 IsI m (.slice (some ⟨g, 0, none⟩) n cap) n (natL xs) [(g, 3, cur)]) (hn1 : 1 ≤ n) (hn : n ≤ 6) :
  Calls Tryz.prog 174 #[.slice (some ⟨g, 0, none⟩) n cap] W (fun e W' => ∃ (m' : World) (cur' : Array Value) (ys : List Nat), (∃ v, e = .returned v) ∧ Loc w0 m0 W' m' ((g, 3, cur') :: A) ∧ Ext m m' ∧
   RowA 3 1 IsI m' (.slice (some ⟨g, 0, none⟩) n cap) n (natL ys) [(g, 3, cur')] ∧ ys.Perm xs ∧ SortI ys n) := by
 have ROW := Lib.hid row
 have hX0 : Ext m m := Ext.refl _
 clear row
 go_enter Tryz.func174, Tryz.ntmps174
 go_wp2_with (first | go_skip | refine tP ?_)
 refine (bits_w n hn _ _ hL.vw).mono ?_
 rintro e W1 ⟨_, m1, rfl, hE, hM1, hV, z, rfl⟩
 replace hL := hL.call hE (by assumption) hV; clear hE hV
 have ROW1 := Lib.hid (RowA.le isI_mono ROW.out hM1.le)
 clear ROW
 go_wp2_with (first | go_skip | refine tP ?_)
 refine (s_PdqI hL ROW1.out hn1 hn z).mono ?_
 rintro e W2 ⟨m2, cur2, ys, ⟨v, rfl⟩, hL2, hX2, row2, hp, hs⟩
 go_wp2_with (first | go_skip | refine tP ?_)
 first | refine bodyPost_end (results_none rfl _ _ _) rfl ?_ | refine bodyPost_ret (results_none rfl _ _ _) rfl ?_
 exact ⟨_, cur2, ys, ⟨_, rfl⟩, hL2, hM1.trans hX2, row2, hp, hs⟩
theorem s_SortNil (A : Option Addr) (c : Nat) (w m : World) (hV : Vw m w) : Calls Tryz.prog 174 #[.slice A 0 c] w (RetV w m fun _ _ => True) := by
 have hL := Loc.start hV
 clear hV
 have KI : Hid (∀ w m', Vw m' w → Calls Tryz.prog 253 #[.slice A 0 c, .int .i64 0, .int .i64 0] w (RetV w m' fun _ _ => True)) := by
  show ∀ w m', _
  intro w m' hV
  have hL := Loc.start hV
  clear hV
  go_enter Tryz.func253, Tryz.ntmps253
  go_wp2_with (first | go_skip | refine tP ?_ | (refine tS ?_; clear hL; intro _ hL))
  refine wp_loop_once ?_
  go_wp2_with (first | go_skip | refine tP ?_ | (refine tS ?_; clear hL; intro _ hL))
  refine bodyPost_end (results_none rfl _ _ _) rfl ?_
  exact RetV.mk hL trivial
 have KP : Hid (∀ z w m', Vw m' w → Calls Tryz.prog 210 #[.slice A 0 c, .int .i64 0, .int .i64 0, .int .i64 z] w (RetV w m' fun _ _ => True)) := by
  show ∀ z w m', _
  intro z w m' hV
  have hL := Loc.start hV
  clear hV
  go_enter Tryz.func210, Tryz.ntmps210
  go_wp2_with (first | go_skip | refine tP ?_)
  refine wp_loop_once ?_
  go_wp2_with (first | go_skip | refine tP ?_)
  refine (KI.out _ _ hL.vw).mono ?_
  rintro e W1 ⟨_, m1, rfl, hE, hM1, hV, -⟩
  replace hL := hL.call hE (by assumption) hV; clear hE hV
  go_wp2_with (first | go_skip | refine tP ?_)
  first | refine bodyPost_end (results_none rfl _ _ _) rfl ?_ | refine bodyPost_ret (results_none rfl _ _ _) rfl ?_
  exact RetV.mk hL trivial
 have KB : Hid (∀ w m', Vw m' w → Calls Tryz.prog 190 #[.int .u64 0] w (RetV w m' fun _ r => ∃ z, r = .int .i64 z)) := fun w m' hV => bits_w 0 (by decide) w m' hV
 go_enter Tryz.func174, Tryz.ntmps174
 go_wp2_with (first | go_skip | refine tP ?_)
 refine (KB.out _ _ hL.vw).mono ?_
 rintro e W1 ⟨_, m1, rfl, hE, hM1, hV, z, rfl⟩
 replace hL := hL.call hE (by assumption) hV; clear hE hV
 go_wp2_with (first | go_skip | refine tP ?_)
 refine (KP.out z _ _ hL.vw).mono ?_
 rintro e W2 ⟨_, m2, rfl, hE, hM2, hV, -⟩
 replace hL := hL.call hE (by assumption) hV; clear hE hV
 go_wp2_with (first | go_skip | refine tP ?_)
 first | refine bodyPost_end (results_none rfl _ _ _) rfl ?_ | refine bodyPost_ret (results_none rfl _ _ _) rfl ?_
 exact RetV.mk hL trivial
end Go.Proofs.YtniigfikpfinfaaGreat

/- Contract of branch.cheapest. -/
namespace Go.Proofs.YtniigfikpfinfaaGreat
open Go.RowKit

theorem zc_ints : zc Tryz.prog 22 = some #[.slice none 0 0] := by kernel_rfl
instance iAM12_1 : ZcC Tryz.prog 22 #[.slice none 0 0] := ⟨zc_ints⟩
theorem Sl.cellAt {m : World} {g k : Nat} {l : List Value} {v : Value} (h : Sl m (some ⟨g, 0, none⟩) l) (hk : l[k]? = some v) : m.cell? ⟨g, k, none⟩ = some v := by
 obtain ⟨b, off, e, -, hc⟩ := h (by have := (List.getElem?_eq_some_iff.1 hk).1; omega)
 cases e
 have := hc k v hk
 rwa [Nat.zero_add] at this
theorem Loc.showBox {w0 m0 W m : World} {A : List Lo} {g : Nat} {t : TypeId} {cs : List Value} (hL : Loc w0 m0 W m ((g, t, cs.toArray) :: A)) :
  ∃ m', Loc w0 m0 W m' A ∧ Le m m' ∧ ∀ k v, cs[k]? = some v → m'.cell? ⟨g, k, none⟩ = some v := by
 obtain ⟨m', h1, h2, h3⟩ := Loc.show1 (A := A) (hL.perm (List.perm_append_comm (l₁ := [(g, t, cs.toArray)]))) cs.length
 rw [List.take_length] at h3
 exact ⟨m', h1, h2, fun k v hk => h3.cellAt hk⟩
section
variable {ms : Ms} {us : List Rat} {k : Nat}
theorem pck_skip (h : posJ us k = false) : pckT ms us (k + 1) = pckT ms us k := by
 unfold pckT; rw [picF_step]; unfold picT; rw [h]; rfl
theorem pck_new (h : posJ us k = true) (hi : ¬ (pckT ms us k).findIdx (fun j => decide (opJ ms k = opJ ms j)) < (pckT ms us k).length) : pckT ms us (k + 1) = pckT ms us k ++ [k] := by
 unfold pckT at *; rw [picF_step]; unfold picT; rw [if_pos h, if_pos]
 have := List.findIdx_le_length (p := fun j => decide (opJ ms k = opJ ms j)) (xs := picF (opJ ms) (coJ ms) (posJ us) k)
 omega
theorem pck_old (h : posJ us k = true) {i j : Nat} (hi : (pckT ms us k).findIdx (fun j => decide (opJ ms k = opJ ms j)) = i) (hj : (pckT ms us k)[i]? = some j) :
  pckT ms us (k + 1) = if coJ ms k < coJ ms j then (pckT ms us k).set i k else pckT ms us k := by
 have hlt := (List.getElem?_eq_some_iff.1 hj).1
 unfold pckT at *; rw [picF_step]; unfold picT; rw [if_pos h, hi, if_neg (by omega), List.getD_eq_getElem?_getD, hj]; rfl
theorem pck_lt {j : Nat} (h : j ∈ pckT ms us k) : j < k := ((picF_ok (opJ ms) (coJ ms) (posJ us) k).low j h).1
theorem pck_len : (pckT ms us k).length ≤ k := picF_len _ _ _ k
theorem natL_snoc (xs : List Nat) (k : Nat) : natL xs ++ [(k : Int)] = natL (xs ++ [k]) := by simp [natL]
theorem posJ_at {q : Rat} (h : us[k]? = some q) : posJ us k = decide (0 < q) := by unfold posJ; rw [h]
theorem opJ_at {x : Col} (h : ms.cols[k]? = some x) : opJ ms k = opF x.2.1 := by unfold opJ; rw [h]
theorem coJ_at {x : Col} (h : ms.cols[k]? = some x) : coJ ms k = x.2.2 := by unfold coJ; rw [h]
end
theorem b_sameJ (bo bm : Nat) (O B : Option Addr) (no co nc cb : Nat) (os : List Int) (ms : Ms) (cols : List Col) (rws : List Int) (j : Nat) (w m : World) (hV : Vw m w) (h1 : m.cell? ⟨bo, 0, none⟩ = some (.slice O no co)) (h2 : IntL m (.slice O no co) os) (hno : os.length ≤ 1000000)
  (h3 : m.cell? ⟨bm, 3, none⟩ = some (.slice B nc cb)) (h4 : ColL m (.slice B nc cb) cols) (hn : cols.length = nc) (hm : ms.cols = cols) (hj : j < nc) (hok : ∀ c ∈ cols, ColOk rws c) :
  Calls Tryz.prog 170 #[.int .i64 (j : Int), .pointer (some ⟨bo, 0, none⟩), .pointer (some ⟨bm, 0, none⟩)] w (RetV w m fun _ r => r = .bool (decide (os = opJ ms j))) := by
 obtain ⟨y, hy⟩ : ∃ y, cols[j]? = some y := ⟨_, List.getElem?_eq_getElem (by omega)⟩
 rw [opJ_at (ms := ms) (by rw [hm]; exact hy)]
 exact b_same bo bm O B no co nc cb os cols rws j y w m hV h1 h2 hno h3 h4 hn hy (hok y (List.mem_of_getElem? hy))
theorem b_badJ (bm : Nat) (B : Option Addr) (nc cb : Nat) (pen : Int) (ms : Ms) (cols : List Col) (rws : List Int) (j : Nat) (w m : World) (hV : Vw m w) (h5 : m.cell? ⟨bm, 2, none⟩ = some (.int .i64 pen))
  (h3 : m.cell? ⟨bm, 3, none⟩ = some (.slice B nc cb)) (h4 : ColL m (.slice B nc cb) cols) (hn : cols.length = nc) (hm : ms.cols = cols) (hp : ms.pen = pen) (hj : j < nc) (hok : ∀ c ∈ cols, ColOk rws c) :
  Calls Tryz.prog 173 #[.int .i64 (j : Int), .pointer (some ⟨bm, 0, none⟩)] w (RetV w m fun _ r => r = .bool (!keepJ ms j)) := by
 obtain ⟨y, hy⟩ : ∃ y, cols[j]? = some y := ⟨_, List.getElem?_eq_getElem (by omega)⟩
 have e : (!keepJ ms j) = (decide ((opF y.2.1).length = 1) && decide (pen ≤ y.2.2)) := by
  unfold keepJ
  rw [Bool.not_not, opJ_at (ms := ms) (by rw [hm]; exact hy), coJ_at (ms := ms) (by rw [hm]; exact hy), hp]
 rw [e]
 exact b_bad bm B nc cb pen cols rws j y w m hV h5 h3 h4 hn hy (hok y (List.mem_of_getElem? hy))
theorem num_pos' {q : Rat} : 0 < q ↔ 0 < q.num := by rw [Rat.lt_iff]; simp
theorem num_neg' {q : Rat} : q < 0 ↔ q.num < 0 := by rw [Rat.lt_iff]; simp
theorem icq_pos {q : Rat} (h : 0 < q) : ¬ icmp q.num 0 ≤ 0 := by
 have : 0 < q.num := num_pos'.1 h
 unfold icmp
 rw [if_neg (by omega), if_neg (by omega)]; omega
theorem icq_npos {q : Rat} (h : ¬ 0 < q) : icmp q.num 0 ≤ 0 := by
 have : ¬ 0 < q.num := fun h' => h (num_pos'.2 h')
 unfold icmp
 split <;> (try split) <;> omega

theorem b_cheapest (xv vv : Value) (x : Ms) (us : List Rat) (w m : World) (hV : Vw m w) (hx : MasterR m xv x) (hvv : FracL m vv us) (ok : VOk x us) (h6 : x.cols.length ≤ 6) :
  Calls Tryz.prog 116 #[xv, vv] w (RetV w m fun m' r => IntL m' r (natL (rndL x us))) := by
 obtain ⟨ms, hms⟩ : ∃ ms, ms = x := ⟨_, rfl⟩
 rw [← hms]
 have OK : Hid (VOk ms us) := by rw [hms]; exact ok
 obtain ⟨xnf, rws, pen, cols, cuts⟩ := x
 obtain ⟨va, vb, vc, rfl, ha, hb, hc⟩ := hx
 simp only at ha hb hc
 obtain ⟨A, ca, rfl, hca, ha⟩ := ha.lit
 obtain ⟨B, cb, rfl, hcb, hb⟩ := hb.lit
 obtain ⟨C, cc, rfl, hcc, hc⟩ := hc.lit
 obtain ⟨V, cv, rfl, hcv, hvv⟩ := hvv.lit
 have HMC : Hid (ms.cols = cols) := by show _ = _; rw [hms]
 have HMP : Hid (ms.pen = pen) := by show _ = _; rw [hms]
 have HCO := Lib.hid hb
 have HVA := Lib.hid hvv
 have HC : Hid (∀ c ∈ cols, ColOk rws c) := ok.ms.cols
 have HT : Hid (∀ v ∈ us, Tw 18 v) := ok.tw
 have HLN : Hid (∀ c ∈ cols, (opF c.2.1).length ≤ 32) := by
  show ∀ c ∈ cols, _
  exact fun c hc => ok.col_len hc
 have hlen : us.length = cols.length := ok.len
 simp only at h6
 have hL := Loc.start hV
 clear hV ok ha hb hc hvv hms
 rw [hlen] at HVA hcv ⊢
 have HNV := Lib.hid hlen
 clear hlen
 simp only
 generalize hn1 : cols.length = nc at *
 have HN1 := Lib.hid hn1
 clear hn1
 generalize rws.length = nr at *
 generalize cuts.length = nk at *
 go_enter Tryz.func116, Tryz.ntmps116
 go_upto_region 0 with (fail)
 refine wp_region_lit ?_
 refine t_box hL rfl rfl ?_; clear hL; intro Wh2 mh2 hL eh2; simp only [Act.put, zq1, zq2, zq3]
 obtain ⟨m2, hL2, hle2, hbx⟩ := Loc.showBox (cs := [.int .i64 xnf, .slice A nr ca, .int .i64 pen, .slice B nc cb, .slice C nk cc]) hL
 have H3 := Lib.hid (hbx 3 _ rfl)
 have H2 := Lib.hid (hbx 2 _ rfl)
 have HCO2 : Hid (ColL m2 (.slice B nc cb) cols) := ColL.le HCO.out (Le.trans leX hle2)
 have HVA2 : Hid (FracL m2 (.slice V nc cv) us) := FracL.le HVA.out (Le.trans leX hle2)
 clear hL hle2 hbx HCO HVA
 have hL := hL2
 clear hL2
 have hb3 := H3.out
 go_wp2_with (first | go_skip | refine tP ?_ | (refine tS ?_; clear hL; intro _ hL) | (refine tB ?_; clear hL; intro _ _ hL _) | (refine tC ?_; clear hL; intro _ _ hL _ hBs))
 clear hb3
 go_loopw [5, 14] (fun out i wr => ∃ (k : Nat) (mm : World) (n : Nat) (Rr : List Lo), k ≤ nc ∧ i = .int .i64 k ∧ Loc w m wr mm Rr ∧ Hid (Le m2 mm) ∧ Hid (RowA 3 1 IsI mm out n (natL (pckT ms us k)) Rr)) (fun _ i _ => nc - (intOf i).toNat)
 case atStart => exact ⟨0, _, 0, [], Nat.zero_le _, rfl, hL, Le.refl _, RowA.nil⟩
 case round =>
  clear hL
  obtain ⟨k, mm, n, Rr, hk, rfl, hL, HLE, row⟩ := hrel
  obtain ⟨A5, c5, rfl, row1⟩ := row.out.lit
  have hn : n ≤ 6 := by
   have h1 := row1.len
   have h2 := pck_len (ms := ms) (us := us) (k := k)
   rw [natL_len] at h1
   omega
  have ROW := Lib.hid row1
  clear row row1
  by_cases hlt : k < nc
  ·have hlt' : (k : Int) < (nc : Int) := by omega
   obtain ⟨⟨s, ds, cost⟩, hx⟩ := at_some HN1 hlt
   obtain ⟨q, hq⟩ := at_some HNV hlt
   have HCO := Lib.hid (ColL.le HCO2.out HLE.out)
   have HVA := Lib.hid (FracL.le HVA2.out HLE.out)
   have h3 := HLE.out.cell _ _ H3.out
   have hco := HCO.out
   have hva := HVA.out
   obtain ⟨b1, o1, D, cd, rfl, hds, hr1⟩ := ColL.at_ hco hx
   obtain ⟨b2, o2, g2, A2, n2, c2, h2, B2, k2, d2, rfl, hp2, hr2⟩ := FracL.at_ hva hq
   obtain ⟨i1, i2, i3, i4, i5, i6, i7⟩ := HC.out _ (List.mem_of_getElem? hx)
   simp only at hds hr1 i1 i2 i3 i4 i5 i6 i7
   have HD := Lib.hid hds
   have HD3 := Lib.hid i3
   have HD4 := Lib.hid i4
   have HP2 := Lib.hid hp2
   have HFQ : Hid (Fit 200 q) := (HT.out q (List.mem_of_getElem? hq)).fit (by decide)
   have HL32 : Hid ((opF ds).length ≤ 1000000) := Nat.le_trans (HLN.out _ (List.mem_of_getElem? hx)) (by decide)
   have HPO := Lib.hid (posJ_at hq)
   have HOP : Hid (opJ ms k = opF ds) := by
    show _ = _
    exact opJ_at (by rw [HMC.out]; exact hx)
   have HCJ : Hid (coJ ms k = cost) := by
    show _ = _
    exact coJ_at (by rw [HMC.out]; exact hx)
   clear hx hq hds hp2 i1 i2 i3 i4 i5 i6 i7 hco hva
   generalize hnd : ds.length = nd at *
   have HND := Lib.hid hnd
   clear hnd
   go_wp2_with (first | go_skip | refine tP ?_ | (refine tS ?_; clear hL; intro _ hL) | (refine tB ?_; clear hL; intro _ _ hL _) | (refine tC ?_; clear hL; intro _ _ hL _ hBs))
   refine (q_Sign _ q _ _ hL.vw (HP2.out.le leX) HFQ.out).mono ?_
   rintro e Wc1 ⟨_, mc1, rfl, hE, hMc1, hV, rfl⟩
   replace hL := hL.call hE (by assumption) hV; clear hE hV
   by_cases hpos : 0 < q
   ·have HPT : Hid (posJ us k = true) := HPO.out.trans (decide_eq_true hpos)
    have hsg := icq_pos hpos
    have hsg2 : decide (icmp q.num 0 ≤ 0) = false := decide_eq_false hsg
    clear hpos HPO hsg
    generalize icmp q.num 0 = sg at *
    go_wp2_with (first | go_skip | refine tP ?_ | (refine tS ?_; clear hL; intro _ hL) | (refine tB ?_; clear hL; intro _ _ hL _) | (refine tC ?_; clear hL; intro _ _ hL _ hBs))
    refine (e_Operated s _ ds _ _ hL.vw (DutsL.le HD.out leX) (by rw [HND.out]; exact HD3.out) HD4.out).mono ?_
    rintro e Wo1 ⟨vo1, mo1, rfl, hE, hMo1, hV, ho1⟩
    replace hL := hL.call hE (by assumption) hV; clear hE hV
    obtain ⟨O, co, rfl, hco, ho1⟩ := ho1.lit
    rw [← HOP.out] at ho1 HL32 ⊢
    have HOL := Lib.hid ho1
    clear ho1 hco hsg2 HOP
    generalize hno : (opJ ms k).length = no at *
    have HNO := Lib.hid hno
    clear hno
    by_cases hf : (pckT ms us k).findIdx (fun j => decide (opJ ms k = opJ ms j)) < (pckT ms us k).length
    ·obtain ⟨i0, hi0⟩ : ∃ i0, (pckT ms us k).findIdx (fun j => decide (opJ ms k = opJ ms j)) = i0 := ⟨_, rfl⟩
     have hz : idxZ (fun j => decide (opJ ms k = opJ ms j)) (pckT ms us k) = (i0 : Int) := by rw [← hi0]; exact if_pos hf
     obtain ⟨j0, hj0⟩ : ∃ j0, (pckT ms us k)[i0]? = some j0 := ⟨_, List.getElem?_eq_getElem (by rw [← hi0]; exact hf)⟩
     have hjk : j0 < k := pck_lt (List.mem_of_getElem? hj0)
     have hin : i0 < n := by
      have h1 := ROW.out.len
      rw [natL_len] at h1
      omega
     have HE := Lib.hid (pck_old HPT.out hi0 hj0)
     rw [HCJ.out] at HE
     obtain ⟨g, cap, cur, e5, rfl, hcap, hcsz⟩ := ROW.out.block (by omega)
     injection e5 with e51 e52 e53
     subst e51 e53
     obtain ⟨⟨s0, ds0, cost0⟩, hx0⟩ := at_some HN1 (show j0 < nc by omega)
     have HC0 : Hid (coJ ms j0 = cost0) := by
      show _ = _
      exact coJ_at (by rw [HMC.out]; exact hx0)
     rw [HC0.out] at HE
     have HJ0 := Lib.hid hj0
     have HX0 := Lib.hid hx0
     have HZ := Lib.hid hz
     clear hf hi0 hj0 hx0 e52 HC0 HCJ HPT hz hcap hcsz
     go_upto_region 8 with ((first | go_skip | refine tP ?_ | (refine tS ?_; clear hL; intro _ hL) | (refine tB ?_; clear hL; intro _ _ hL _) | (refine tC ?_; clear hL; intro _ _ hL _ hBs)))
     obtain ⟨m8, hL8, hle8, hb8⟩ := Loc.showBox (cs := [.slice O no co]) hL
     have hc8 := hb8 0 _ rfl
     have hme : Le mm m8 := Le.trans leX hle8
     have HLE8 : Hid (Le m2 m8) := HLE.out.trans hme
     have HCO8 := Lib.hid (ColL.le HCO.out hme)
     have h38 := hme.cell _ _ h3
     have HOL8 := Lib.hid (IntL.le HOL.out (Le.trans leX hle8))
     have ROW8 := Lib.hid (RowA.le isI_mono ROW.out hme)
     obtain ⟨m9, hL9, hle9, hl9, -⟩ := RowA.show (A := [_]) isI_mono hL8 ROW8.out
     have HL9 := Lib.hid hl9
     have HF9 := Lib.hid (fun (j : Nat) (hj : j ∈ pckT ms us k) (u : World) (m' : World) (hV : Vw m' u) (hle : Le m9 m') =>
      b_sameJ _ w.heap.size O _ no co nc cb (opJ ms k) ms cols rws j u m' hV ((hle9.trans hle).cell _ _ hc8) (IntL.le HOL8.out (hle9.trans hle)) (by rw [HNO.out]; exact HL32.out) ((hle9.trans hle).cell _ _ h38) (ColL.le HCO8.out (hle9.trans hle)) HN1.out HMC.out (by have := pck_lt hj; omega) HC.out)
     have HCO9 := Lib.hid (ColL.le HCO8.out hle9)
     have h39 := hle9.cell _ _ h38
     have HL8 := Lib.hid hL8
     clear hL hle8 hb8 hc8 h38 HOL8 HCO8 hl9 hL8
     have hL := hL9
     clear hL9 HOL ROW h3
     go_wp2_with (first | go_skip | refine tP ?_ | (refine tS ?_; clear hL; intro _ hL) | (refine tB ?_; clear hL; intro _ _ hL _) | (refine tC ?_; clear hL; intro _ _ hL _ hBs))
     refine (s_IndexS _ (pckT ms us k) _ _ (fun j => decide (opJ ms k = opJ ms j)) _ _ hL.vw HL9.out (by have := pck_len (ms := ms) (us := us) (k := k); omega) HF9.out).mono ?_
     rintro e Wi ⟨_, mi, rfl, hE, hMi, hV, rfl⟩
     have HEI := Lib.hid hE
     replace hL := hL.call hE (by assumption) hV; clear hE hV
     rw [HZ.out]
     clear HF9 HZ
     obtain ⟨b5, o5, e5, hc5⟩ := IntL.at_ (IntL.le HL9.out hMi.le) (natL_at HJ0.out)
     cases e5
     obtain ⟨b6, o6, D0, cd0, e6, hds0, hr0⟩ := ColL.at_ (ColL.le HCO9.out hMi.le) HX0.out
     cases e6
     have hcost := hr0 2 _ rfl
     have hge : ¬ (i0 : Int) < 0 := by omega
     have hgd : decide ((i0 : Int) < 0) = false := decide_eq_false hge
     have hjn : j0 < nc := by omega
     have h3i := hMi.le.cell _ _ h39
     clear hds0 hr0 h39 hge HL9 HCO9
     by_cases hcc : cost < cost0
     ·rw [if_pos hcc] at HE
      have hcd : decide (cost < cost0) = true := decide_eq_true hcc
      clear hcc
      go_upto_region 11 with ((first | go_skip | refine tP ?_ | (refine tS ?_; clear hL; intro _ hL) | (refine tB ?_; clear hL; intro _ _ hL _) | (refine tC ?_; clear hL; intro _ _ hL _ hBs)))
      (try simp only [eq_self] at *)
      refine wp_region_by2 12 [false, false, false, false, false, false, false, false, false, false, false, false] [false, false, false, false, false, false, false, false, false, false, false, false] [(fun v _ _ => v = ?c11_0a), (fun v _ _ => v = ?c11_1a), (fun v _ _ => v = ?c11_2a), (fun v _ _ => v = ?c11_3a), (fun v _ _ => v = ?c11_4a), (fun v _ _ => v = ?c11_5a), (fun v _ _ => v = ?c11_6a), (fun v _ _ => v = ?c11_7a), (fun v _ _ => v = ?c11_8a), (fun v _ _ => v = ?c11_9a), (fun v _ _ => v = ?c11_10a), (fun v _ _ => v = ?c11_11a)] hL.vw mixed [40, 41, 42, 43, 44, 45, 46, 47, 48, 49, 50, 51] _ (by kernel_rfl) (fun vs => by simp only [lay, Act.put, zq1, zq2, zq3]; rfl) (by kernel_rfl) (by decide) (by decide) ?s11a ?l11a ?r11a
      case s11a =>
       refine ⟨?_, ?_, ?_, ?_, ?_, ?_, ?_, ?_, ?_, ?_, ?_, ?_, trivial⟩
       ·intro vs W1 m1 hE hM hV hD; clear hD
        exact sFe
       ·intro vs W1 m1 hE hM hV hD; obtain ⟨⟨_, _, -, -, f40⟩, -⟩ := hD
        rw [(f40 : vs 40 = _)]; clear f40; exact sLe
       ·intro vs W1 m1 hE hM hV hD; clear hD
        exact sFe
       ·intro vs W1 m1 hE hM hV hD; obtain ⟨⟨_, _, -, -, f42⟩, -⟩ := hD
        rw [(f42 : vs 42 = _)]; clear f42; exact sLe
       ·intro vs W1 m1 hE hM hV hD; clear hD
        exact sPw
       ·intro vs W1 m1 hE hM hV hD; clear hD
        exact sPw
       ·intro vs W1 m1 hE hM hV hD; obtain ⟨⟨_, _, -, -, f44⟩, ⟨_, _, -, -, f45⟩, -⟩ := hD
        rw [(f44 : vs 44 = _), (f45 : vs 45 = _)]; clear f44 f45; exact sIy
       ·intro vs W1 m1 hE hM hV hD; obtain ⟨⟨_, _, -, -, f46⟩, -⟩ := hD
        rw [(f46 : vs 46 = _)]; clear f46; exact sLe
       ·intro vs W1 m1 hE hM hV hD; obtain ⟨⟨_, _, -, -, f43⟩, ⟨_, _, -, -, f47⟩, -⟩ := hD
        rw [(f43 : vs 43 = _), (f47 : vs 47 = _)]; clear f43 f47; exact sIy
       ·intro vs W1 m1 hE hM hV hD; obtain ⟨⟨_, _, -, -, f48⟩, -⟩ := hD
        rw [(f48 : vs 48 = _)]; clear f48; exact sFe
       ·intro vs W1 m1 hE hM hV hD; obtain ⟨⟨_, _, -, -, f49⟩, -⟩ := hD
        rw [(f49 : vs 49 = _)]; clear f49; exact sLe
       ·intro vs W1 m1 hE hM hV hD; obtain ⟨⟨_, _, -, -, f41⟩, ⟨_, _, -, -, f50⟩, -⟩ := hD
        rw [(f41 : vs 41 = _), (f50 : vs 50 = _)]; clear f41 f50; exact sPw
      case l11a =>
       refine ⟨nF, nF, nF, nF, nF, nF, nF, nF, nF, nF, nF, nF, trivial⟩
      intro vs W1 m1 hE hM hV hF hD
      clear hD
      obtain ⟨-, -, -, -, -, -, -, -, -, -, -, ⟨_, _, -, -, f51⟩, -⟩ := hF
      replace hL := hL.call hE hM hV
      have f51 : vs 51 = _ := f51
      generalize vs 51 = x51 at f51 ⊢
      subst x51
      have HEX := Lib.hid hE
      clear hE hV
      simp only [List.drop_succ_cons, List.drop_zero]
      go_wp2_with (first | go_skip | refine tP ?_ | (refine tS ?_; clear hL; intro _ hL) | (refine tB ?_; clear hL; intro _ _ hL _) | (refine tC ?_; clear hL; intro _ _ hL _ hBs))
      refine QN.mk ?_
      have hLc := HL8.out.again (HEI.out.trans HEX.out)
      have hXc := HL8.out.again_ext (HEI.out.trans HEX.out)
      have ra := RowA.putI (k := i0) (x := (k : Int)) (RowA.le isI_mono ROW8.out hXc.le)
      rw [natL_set, ← HE.out] at ra
      have RA := Lib.hid ra
      have hfit : 0 + i0 < cur.size := by have h1 := ROW8.out.fit; omega
      have HLM := Lib.hid (HLE8.out.trans hXc.le)
      clear hL ra HL8 HEI HEX ROW8 hXc
      have hL := hLc
      clear hLc
      go_wp2_with (first | (with_reducible refine stS ?_) | (first | go_skip | refine tP ?_ | (refine tS ?_; clear hL; intro _ hL) | (refine tB ?_; clear hL; intro _ _ hL _) | (refine tC ?_; clear hL; intro _ _ hL _ hBs)))
      refine goA ?_
      refine wl_store1 hL (wanted_none rfl) (v := .int .i64 (k : Int)) (off := 0 + i0) rfl rfl rfl lb_int (n := 1) rfl hfit rfl rfl ?_
      clear hL
      intro W6 hL
      (try simp only [List.cons_append, List.nil_append, List.set_cons_zero, List.set_cons_succ] at hL)
      simp only [Act.put, zq1, zq2, zq3]
      go_wp2_with (first | go_skip | refine tP ?_ | (refine tS ?_; clear hL; intro _ hL) | (refine tB ?_; clear hL; intro _ _ hL _) | (refine tC ?_; clear hL; intro _ _ hL _ hBs))
      go_roundw
      case rel => exact ⟨k + 1, _, n, _, by omega, by go_num, hL.tail, HLM.out, RA.out⟩
      case measure => simp [intOf] <;> omega
     ·rw [if_neg hcc] at HE
      have hcd : decide (cost < cost0) = false := decide_eq_false hcc
      clear hcc
      go_upto_region 11 with ((first | go_skip | refine tP ?_ | (refine tS ?_; clear hL; intro _ hL) | (refine tB ?_; clear hL; intro _ _ hL _) | (refine tC ?_; clear hL; intro _ _ hL _ hBs)))
      (try simp only [eq_self] at *)
      refine wp_region_by2 12 [false, false, false, false, false, false, false, false, false, false, false, false] [false, false, false, false, false, false, false, false, false, false, false, false] [(fun v _ _ => v = ?c11_0b), (fun v _ _ => v = ?c11_1b), (fun v _ _ => v = ?c11_2b), (fun v _ _ => v = ?c11_3b), (fun v _ _ => v = ?c11_4b), (fun v _ _ => v = ?c11_5b), (fun v _ _ => v = ?c11_6b), (fun v _ _ => v = ?c11_7b), (fun v _ _ => v = ?c11_8b), (fun v _ _ => v = ?c11_9b), (fun v _ _ => v = ?c11_10b), (fun v _ _ => v = ?c11_11b)] hL.vw mixed [40, 41, 42, 43, 44, 45, 46, 47, 48, 49, 50, 51] _ (by kernel_rfl) (fun vs => by simp only [lay, Act.put, zq1, zq2, zq3]; rfl) (by kernel_rfl) (by decide) (by decide) ?s11b ?l11b ?r11b
      case s11b =>
       refine ⟨?_, ?_, ?_, ?_, ?_, ?_, ?_, ?_, ?_, ?_, ?_, ?_, trivial⟩
       ·intro vs W1 m1 hE hM hV hD; clear hD
        exact sFe
       ·intro vs W1 m1 hE hM hV hD; obtain ⟨⟨_, _, -, -, f40⟩, -⟩ := hD
        rw [(f40 : vs 40 = _)]; clear f40; exact sLe
       ·intro vs W1 m1 hE hM hV hD; clear hD
        exact sFe
       ·intro vs W1 m1 hE hM hV hD; obtain ⟨⟨_, _, -, -, f42⟩, -⟩ := hD
        rw [(f42 : vs 42 = _)]; clear f42; exact sLe
       ·intro vs W1 m1 hE hM hV hD; clear hD
        exact sPw
       ·intro vs W1 m1 hE hM hV hD; clear hD
        exact sPw
       ·intro vs W1 m1 hE hM hV hD; obtain ⟨⟨_, _, -, -, f44⟩, ⟨_, _, -, -, f45⟩, -⟩ := hD
        rw [(f44 : vs 44 = _), (f45 : vs 45 = _)]; clear f44 f45; exact sIy
       ·intro vs W1 m1 hE hM hV hD; obtain ⟨⟨_, _, -, -, f46⟩, -⟩ := hD
        rw [(f46 : vs 46 = _)]; clear f46; exact sLe
       ·intro vs W1 m1 hE hM hV hD; obtain ⟨⟨_, _, -, -, f43⟩, ⟨_, _, -, -, f47⟩, -⟩ := hD
        rw [(f43 : vs 43 = _), (f47 : vs 47 = _)]; clear f43 f47; exact sIy
       ·intro vs W1 m1 hE hM hV hD; obtain ⟨⟨_, _, -, -, f48⟩, -⟩ := hD
        rw [(f48 : vs 48 = _)]; clear f48; exact sFe
       ·intro vs W1 m1 hE hM hV hD; obtain ⟨⟨_, _, -, -, f49⟩, -⟩ := hD
        rw [(f49 : vs 49 = _)]; clear f49; exact sLe
       ·intro vs W1 m1 hE hM hV hD; obtain ⟨⟨_, _, -, -, f41⟩, ⟨_, _, -, -, f50⟩, -⟩ := hD
        rw [(f41 : vs 41 = _), (f50 : vs 50 = _)]; clear f41 f50; exact sPw
      case l11b =>
       refine ⟨nF, nF, nF, nF, nF, nF, nF, nF, nF, nF, nF, nF, trivial⟩
      intro vs W1 m1 hE hM hV hF hD
      clear hD
      obtain ⟨-, -, -, -, -, -, -, -, -, -, -, ⟨_, _, -, -, f51⟩, -⟩ := hF
      replace hL := hL.call hE hM hV
      have f51 : vs 51 = _ := f51
      generalize vs 51 = x51 at f51 ⊢
      subst x51
      have HEX := Lib.hid hE
      clear hE hV
      simp only [List.drop_succ_cons, List.drop_zero]
      go_wp2_with (first | go_skip | refine tP ?_ | (refine tS ?_; clear hL; intro _ hL) | (refine tB ?_; clear hL; intro _ _ hL _) | (refine tC ?_; clear hL; intro _ _ hL _ hBs))
      refine QN.mk ?_
      have hLc := HL8.out.again (HEI.out.trans HEX.out)
      have hXc := HL8.out.again_ext (HEI.out.trans HEX.out)
      have RA := Lib.hid (RowA.le isI_mono ROW8.out hXc.le)
      have HLM := Lib.hid (HLE8.out.trans hXc.le)
      clear hL HL8 HEI HEX ROW8 hXc
      have hL := hLc
      clear hLc
      (try simp only [List.cons_append, List.nil_append] at hL)
      go_wp2_with (first | go_skip | refine tP ?_ | (refine tS ?_; clear hL; intro _ hL) | (refine tB ?_; clear hL; intro _ _ hL _) | (refine tC ?_; clear hL; intro _ _ hL _ hBs))
      go_roundw
      case rel => exact ⟨k + 1, _, n, _, by omega, by go_num, hL.tail, HLM.out, by rw [HE.out]; exact RA.out⟩
      case measure => simp [intOf] <;> omega
    ·have hz : idxZ (fun j => decide (opJ ms k = opJ ms j)) (pckT ms us k) = -1 := if_neg hf
     have HE := Lib.hid (pck_new HPT.out hf)
     have HZ := Lib.hid hz
     clear hf HCJ HPT hz
     go_upto_region 8 with ((first | go_skip | refine tP ?_ | (refine tS ?_; clear hL; intro _ hL) | (refine tB ?_; clear hL; intro _ _ hL _) | (refine tC ?_; clear hL; intro _ _ hL _ hBs)))
     obtain ⟨m8, hL8, hle8, hb8⟩ := Loc.showBox (cs := [.slice O no co]) hL
     have hc8 := hb8 0 _ rfl
     have hme : Le mm m8 := Le.trans leX hle8
     have HLE8 : Hid (Le m2 m8) := HLE.out.trans hme
     have HCO8 := Lib.hid (ColL.le HCO.out hme)
     have h38 := hme.cell _ _ h3
     have HOL8 := Lib.hid (IntL.le HOL.out (Le.trans leX hle8))
     have ROW8 := Lib.hid (RowA.le isI_mono ROW.out hme)
     obtain ⟨m9, hL9, hle9, hl9, -⟩ := RowA.show (A := [_]) isI_mono hL8 ROW8.out
     have HL9 := Lib.hid hl9
     have HF9 := Lib.hid (fun (j : Nat) (hj : j ∈ pckT ms us k) (u : World) (m' : World) (hV : Vw m' u) (hle : Le m9 m') =>
      b_sameJ _ w.heap.size O _ no co nc cb (opJ ms k) ms cols rws j u m' hV ((hle9.trans hle).cell _ _ hc8) (IntL.le HOL8.out (hle9.trans hle)) (by rw [HNO.out]; exact HL32.out) ((hle9.trans hle).cell _ _ h38) (ColL.le HCO8.out (hle9.trans hle)) HN1.out HMC.out (by have := pck_lt hj; omega) HC.out)
     have HL8 := Lib.hid hL8
     clear hL hle8 hb8 hc8 h38 HOL8 HCO8 hl9 hL8
     have hL := hL9
     clear hL9 HOL ROW h3
     go_wp2_with (first | go_skip | refine tP ?_ | (refine tS ?_; clear hL; intro _ hL) | (refine tB ?_; clear hL; intro _ _ hL _) | (refine tC ?_; clear hL; intro _ _ hL _ hBs))
     refine (s_IndexS _ (pckT ms us k) _ _ (fun j => decide (opJ ms k = opJ ms j)) _ _ hL.vw HL9.out (by have := pck_len (ms := ms) (us := us) (k := k); omega) HF9.out).mono ?_
     rintro e Wi ⟨_, mi, rfl, hE, -, -, rfl⟩
     have hLc := HL8.out.again hE
     have hXc := HL8.out.again_ext hE
     have ROWC := Lib.hid (RowA.le isI_mono ROW8.out hXc.le)
     have HLM := Lib.hid (HLE8.out.trans hXc.le)
     rw [HZ.out]
     clear hL HL8 hE ROW8 hXc HF9 HZ HL9 mi
     have hL := hLc
     clear hLc
     (try simp only [List.cons_append, List.nil_append] at hL)
     go_wp2_with (first | go_skip | refine tP ?_ | (refine tS ?_; clear hL; intro _ hL) | (refine tB ?_; clear hL; intro _ _ hL _) | (refine tC ?_; clear hL; intro _ _ hL _ hBs))
     refine goA ?_
     obtain ⟨vs7, r7, z7, y7, l7⟩ := ROWC.out
     refine wl_append (A := [_]) hL r7 (wanted_none rfl) rfl ap_ints (by omega) rfl rfl (news := [.int .i64 (k : Int)]) rfl ((Blk.sl hBs (n := 1) rfl).le hL.vw.le) rfl (by omega) (by omega) ?_
     clear hL
     intro v1 W5 m5 R5 hL r8 e8
     obtain ⟨A9, c9, rfl, -⟩ := r8.lit
     (try simp only [List.cons_append, List.nil_append] at hL)
     have rd2 := RowA.snocV (R := IsI) (m := m5) (x := (k : Int)) r8 z7 (y7.mono fun _ _ hv => hv) l7 rfl rfl rfl
     rw [natL_snoc, ← HE.out] at rd2
     simp only [Act.put, zq1, zq2, zq3]
     go_wp2_with (first | go_skip | refine tP ?_ | (refine tS ?_; clear hL; intro _ hL) | (refine tB ?_; clear hL; intro _ _ hL _) | (refine tC ?_; clear hL; intro _ _ hL _ hBs))
     go_roundw
     case rel => exact ⟨k + 1, m5, n + 1, R5, by omega, by go_num, hL.tail, HLM.out.trans leX, rd2⟩
     case measure => simp [intOf] <;> omega
   ·have HPF : Hid (posJ us k = false) := HPO.out.trans (decide_eq_false hpos)
    have hsg := icq_npos hpos
    have HE := Lib.hid (pck_skip (ms := ms) HPF.out)
    clear hpos HPO
    generalize icmp q.num 0 = sg at *
    go_wp2_with (first | go_skip | refine tP ?_ | (refine tS ?_; clear hL; intro _ hL) | (refine tB ?_; clear hL; intro _ _ hL _) | (refine tC ?_; clear hL; intro _ _ hL _ hBs))
    go_roundw
    case rel => exact ⟨k + 1, _, n, Rr, by omega, by go_num, hL.tail, HLE.out.trans leX, by rw [HE.out]; exact RowA.le isI_mono ROW.out leX⟩
    case measure => simp [intOf] <;> omega
  ·have hkn : k = nc := by omega
   subst hkn
   have h9 : (k : Int) ≤ (k : Int) := Int.le_refl _
   have HNC : Hid (ms.cols.length = k) := by show _ = _; rw [HMC.out]; exact HN1.out
   have HFB := Lib.hid (fun (j : Nat) (hj : j ∈ pckT ms us k) (u : World) (m' : World) (hV : Vw m' u) (hle : Le mm m') =>
    b_badJ w.heap.size B k cb pen ms cols rws j u m' hV ((HLE.out.trans hle).cell _ _ H2.out) ((HLE.out.trans hle).cell _ _ H3.out) (ColL.le HCO2.out (HLE.out.trans hle)) HN1.out HMC.out HMP.out (pck_lt hj) HC.out)
   have HND : Hid (((pckT ms us k).filter (keepJ ms)).Nodup) := (picF_nodup (opJ ms) (coJ ms) (posJ us) k).filter _
   have HRN : Hid (∀ zs : List Nat, zs.Pairwise (· < ·) → zs.Perm ((pckT ms us k).filter (keepJ ms)) → zs = rndL ms us) := by
    show ∀ zs, _
    intro zs h1 h2
    rw [← HNC.out] at h2
    exact pck_list ms us h1 h2
   have HLEN : Hid ((pckT ms us k).length ≤ 6) := by
    show _ ≤ _
    have := pck_len (ms := ms) (us := us) (k := k)
    omega
   generalize pckT ms us k = ps at *
   have row := ROW.out
   obtain ⟨vs7, ⟨h71, h72⟩, z7, y7, l7⟩ := row
   rcases h72 with ⟨e1, e2, rfl⟩ | ⟨g, cap, cur, e5, rfl, hcap, -, hcsz, -⟩
   ·injection e1 with e51 e52 e53
    subst e51 e52 e53
    have hps : ps = [] := by
     have h1 := ROW.out.len
     rw [natL_len] at h1
     exact List.length_eq_zero_iff.1 h1.symm
    have HR : Hid ([] = rndL ms us) := by
     show _ = _
     refine HRN.out [] List.Pairwise.nil ?_
     rw [hps]; exact List.Perm.nil
    clear h71 y7 z7 l7 hps ROW HFB HRN HND HLEN
    go_wp2_with (first | go_skip | refine tP ?_ | (refine tS ?_; clear hL; intro _ hL) | (refine tB ?_; clear hL; intro _ _ hL _) | (refine tC ?_; clear hL; intro _ _ hL _ hBs))
    refine (s_DeleteNil _ _ _ hL.vw).mono ?_
    rintro e W1 ⟨_, m1', rfl, hE, hM1, hV, rfl⟩
    replace hL := hL.call hE (by assumption) hV; clear hE hV
    go_wp2_with (first | go_skip | refine tP ?_ | (refine tS ?_; clear hL; intro _ hL) | (refine tB ?_; clear hL; intro _ _ hL _) | (refine tC ?_; clear hL; intro _ _ hL _ hBs))
    refine (s_SortNil _ _ _ _ hL.vw).mono ?_
    rintro e W2 ⟨v2, m2', rfl, hE, hM2, hV, -⟩
    replace hL := hL.call hE (by assumption) hV; clear hE hV
    go_wp2_with (first | go_skip | refine tP ?_ | (refine tS ?_; clear hL; intro _ hL) | (refine tB ?_; clear hL; intro _ _ hL _) | (refine tC ?_; clear hL; intro _ _ hL _ hBs))
    go_ret
    rw [← HR.out]
    exact RetV.mk hL ListV.nil
   ·injection e5 with e51 e52 e53
    subst e51 e53
    clear e52 h71 y7 z7 l7
    go_wp2_with (first | go_skip | refine tP ?_ | (refine tS ?_; clear hL; intro _ hL) | (refine tB ?_; clear hL; intro _ _ hL _) | (refine tC ?_; clear hL; intro _ _ hL _ hBs))
    refine (s_DeleteI (A := []) hL ROW.out (by omega) _ (fun j => !keepJ ms j) HFB.out).mono ?_
    rintro e W1 ⟨m1, n1, cur1, rfl, hL1, hX1, row1⟩
    clear hL
    have hL := hL1
    clear hL1
    simp only [Bool.not_not] at row1
    have hn1 : n1 ≤ 6 := by
     have h1 := row1.len
     rw [natL_len] at h1
     have := List.length_filter_le (fun x => keepJ ms x) ps
     have := HLEN.out
     omega
    have ROW1 := Lib.hid row1
    clear row1 ROW HFB
    by_cases h1 : n1 = 0
    ·have HR : Hid ([] = rndL ms us) := by
      show _ = _
      refine HRN.out [] List.Pairwise.nil ?_
      have h2 := ROW1.out.len
      rw [natL_len] at h2
      rw [List.length_eq_zero_iff.1 (h2.symm.trans h1)]
     subst h1
     go_wp2_with (first | go_skip | refine tP ?_ | (refine tS ?_; clear hL; intro _ hL) | (refine tB ?_; clear hL; intro _ _ hL _) | (refine tC ?_; clear hL; intro _ _ hL _ hBs))
     refine (s_SortNil _ _ _ _ hL.vw).mono ?_
     rintro e W2 ⟨v2, m2', rfl, hE, hM2, hV, -⟩
     replace hL := hL.call hE (by assumption) hV; clear hE hV
     go_wp2_with (first | go_skip | refine tP ?_ | (refine tS ?_; clear hL; intro _ hL) | (refine tB ?_; clear hL; intro _ _ hL _) | (refine tC ?_; clear hL; intro _ _ hL _ hBs))
     go_ret
     rw [← HR.out]
     exact RetV.mk hL ListV.nil
    ·go_wp2_with (first | go_skip | refine tP ?_ | (refine tS ?_; clear hL; intro _ hL) | (refine tB ?_; clear hL; intro _ _ hL _) | (refine tC ?_; clear hL; intro _ _ hL _ hBs))
     refine (s_SortI (A := []) hL ROW1.out (by omega) hn1).mono ?_
     rintro e W2 ⟨m3, cur2, ys, ⟨v, rfl⟩, hL2, hX2, row2, hp, hs⟩
     clear hL
     have hL := hL2
     clear hL2
     have HR : Hid (ys = rndL ms us) := by
      show _ = _
      have h2 := row2.len
      rw [natL_len] at h2
      rw [h2] at hs
      exact HRN.out ys (hs.all (hp.nodup_iff.2 HND.out)) hp
     rw [HR.out] at row2
     obtain ⟨m9, hL9, hle9, hl9, -⟩ := RowA.show (A := []) isI_mono hL row2
     go_wp2_with (first | go_skip | refine tP ?_ | (refine tS ?_; clear hL; intro _ hL) | (refine tB ?_; clear hL; intro _ _ hL _) | (refine tC ?_; clear hL; intro _ _ hL _ hBs))
     go_ret
     exact RetV.mk hL9 hl9
end Go.Proofs.YtniigfikpfinfaaGreat

/- What Round's loops hold, in plain words; a denominator's digits. -/
namespace Go.Proofs.YtniigfikpfinfaaGreat
open Go.RowKit

def rndO (ms : Ms) (us : List Rat) : List Int := if rndE ms us = 0 then natL (rndL ms us) else []
theorem rnd_neg {ms : Ms} {us : List Rat} (h : ∃ u ∈ us, u < 0) : rndE ms us = 5 ∧ rndO ms us = [] := by
 have e : rndE ms us = 5 := by unfold rndE; rw [if_pos h]
 exact ⟨e, by unfold rndO; rw [e]; rfl⟩
theorem rnd_big {ms : Ms} {us : List Rat} (h0 : ¬ ∃ u ∈ us, u < 0) (h : ∃ r ∈ ms.rows, ((1 : Int) : Rat) < sumR ms.cols us r ms.cols.length) : rndE ms us = 5 ∧ rndO ms us = [] := by
 have e : rndE ms us = 5 := by unfold rndE; rw [if_neg h0, if_pos h]
 exact ⟨e, by unfold rndO; rw [e]; rfl⟩
theorem rnd_frac {ms : Ms} {us : List Rat} (h0 : ¬ ∃ u ∈ us, u < 0) (h1 : ¬ ∃ r ∈ ms.rows, ((1 : Int) : Rat) < sumR ms.cols us r ms.cols.length) (h : ∃ y ∈ flY (entS ms.cols us ms.cols.length) ms.rows ms.rows, y.2.den ≠ 1) : rndE ms us = 16 ∧ rndO ms us = [] := by
 have e : rndE ms us = 16 := by unfold rndE; rw [if_neg h0, if_neg h1, if_pos h]
 exact ⟨e, by unfold rndO; rw [e]; rfl⟩
theorem rnd_ok {ms : Ms} {us : List Rat} (h0 : ¬ ∃ u ∈ us, u < 0) (h1 : ¬ ∃ r ∈ ms.rows, ((1 : Int) : Rat) < sumR ms.cols us r ms.cols.length) (h : ¬ ∃ y ∈ flY (entS ms.cols us ms.cols.length) ms.rows ms.rows, y.2.den ≠ 1) : rndE ms us = 0 ∧ rndO ms us = natL (rndL ms us) := by
 have e : rndE ms us = 0 := by unfold rndE; rw [if_neg h0, if_neg h1, if_neg h]
 exact ⟨e, by unfold rndO; rw [e]; rfl⟩
def colI (l : List Int) (x : Rat) (j : Nat) : List IQ := (l.take j).map fun f => (f, x)
theorem colI_step {l : List Int} {x : Rat} {j : Nat} {a : Int} (h : l[j]? = some a) : colI l x j ++ [(a, x)] = colI l x (j + 1) := by
 unfold colI; rw [← take_snoc h, List.map_append]; rfl
theorem colI_end {l : List Int} {x : Rat} {j : Nat} (h : l.length ≤ j) : colI l x j = l.map fun f => (f, x) := by unfold colI; rw [List.take_of_length_le h]
theorem colI_len (l : List Int) (x : Rat) (j : Nat) : (colI l x j).length ≤ l.length := by unfold colI; simp; omega
theorem VOk.entI_mem {x : Ms} {us : List Rat} (ok : VOk x us) {k : Nat} {e : IQ} (h : e ∈ entI x.cols us k) : Tw 18 e.2 ∧ e.1 ∈ x.rows := by
 obtain ⟨p, hp, he⟩ := List.mem_flatMap.1 h
 obtain ⟨h1, h2⟩ := ok.ent_mem hp
 obtain ⟨f, hf, rfl⟩ := List.mem_map.1 he
 exact ⟨ok.tw _ h2, (ok.ms.cols _ h1).sub f hf⟩
theorem VOk.entI_len {x : Ms} {us : List Rat} (ok : VOk x us) (k : Nat) : (entI x.cols us k).length ≤ 3200 := by
 have h1 := flatMap_len (B := 32) (l := (x.cols.zip us).take k) (f := fun e => (opF e.1.2.1).map fun f => (f, e.2)) fun e he => by
  rw [List.length_map]; exact ok.col_len (ok.ent_mem he).1
 have h2 : ((x.cols.zip us).take k).length ≤ 100 := by
  rw [List.length_take, List.length_zip]
  have := ok.few
  omega
 have h3 : 32 * ((x.cols.zip us).take k).length ≤ 32 * 100 := Nat.mul_le_mul_left _ h2
 exact Nat.le_trans h1 h3
theorem foldl_twI {B : Nat} : ∀ {l : List IQ} {s : Rat}, Tw B s → (∀ e ∈ l, Tw 18 e.2) → Tw (B + 18 * l.length) (l.foldl (fun s e => s + e.2) s)
 | [], s, h, _ => by simpa using h
 | e :: l, s, h, hl => by
  have h1 := foldl_twI (l := l) (h.add (hl e List.mem_cons_self)) fun y hy => hl y (List.mem_cons_of_mem _ hy)
  refine Tw.mono h1 ?_
  simp only [List.length_cons]; omega
theorem sumI_tw {S : List IQ} (h : ∀ e ∈ S, Tw 18 e.2) (hl : S.length ≤ 6500) (p : Int) : Tw 117000 (sumI S p) := by
 unfold sumI
 have h1 := foldl_twI tw0 (l := S.filter fun e => decide (e.1 = p)) fun e he => h e (List.mem_filter.1 he).1
 have h2 := List.length_filter_le (fun e : IQ => decide (e.1 = p)) S
 exact h1.mono (by omega)
theorem q_CompareSum (a b : Value) (p q : Rat) (w m : World) (hV : Vw m w) (ha : SumV m a p) (hb : FracC m b q) (hs : Sm p.num p.den) (hs' : Sm q.num q.den) :
  Calls Tryz.prog 83 #[a, b] w (RetV w m fun _ r => r = .int .i64 (rs (p - q))) := by
 rcases ha with ha | ⟨rfl, rfl⟩
 ·exact q_CompareC a b p q w m hV ha hb hs hs'
 ·have h := q_Compare _ b 0 0 q.num q.den w m hV (frac0 m) (hb.toS hs') ⟨by decide, by decide⟩ hs'
  rw [← rs_cmp, Rat.num_divInt_den] at h
  have e : Rat.divInt 0 0 - q = ((0 : Int) : Rat) - q := by simp
  rwa [e] at h
theorem den_dig {m : World} {g f : Bool} {A B : Option Addr} {n c p d : Nat} {q : Rat} (h : FracC m (.agg #[.bool g, .slice A n c, .bool f, .slice B p d]) q) :
  (q.den ≠ 1 ∧ p ≠ 1) ∨ (p = 1 ∧ ∃ b o e, B = some ⟨b, o, none⟩ ∧ m.cell? ⟨b, o, none⟩ = some (.int .u32 ((e : Nat) : Int)) ∧ (q.den = 1 ↔ e = 1)) := by
 obtain ⟨_, _, _, _, e, -, A', c', e2, -, hs⟩ := h
 have hq : 0 < q.den := q.den_pos
 have e3 : p = (digs q.den).length ∧ B = A' := by
  injection e with e
  simp at e
  obtain ⟨-, -, e4, e5⟩ := e
  rw [← e4, ← e5] at e2
  injection e2 with e2
  simp at e2
  exact ⟨e2.2.2.1, e2.2.1⟩
 obtain ⟨e3, rfl⟩ := e3
 rw [Int.natAbs_natCast] at hs
 have hd := digs_pos (n := q.den) (by omega)
 by_cases h0 : q.den / 4294967296 = 0
 ·rw [h0, digs_zero] at hd
  have h1 : q.den % 4294967296 = q.den := by omega
  rw [h1] at hd
  rw [hd] at e3 hs
  refine .inr ⟨e3, ?_⟩
  obtain ⟨b, o, e4, -, hc⟩ := hs (by simp)
  refine ⟨b, o, q.den, e4, ?_, Iff.rfl⟩
  have := hc 0 _ rfl
  rwa [Nat.add_zero] at this
 ·refine .inl ⟨fun e => by rw [e] at h0; exact h0 rfl, ?_⟩
  have := digs_len_pos h0
  rw [e3, hd, List.length_cons]
  omega
end Go.Proofs.YtniigfikpfinfaaGreat

/- Contract of branch.Round. -/
namespace Go.Proofs.YtniigfikpfinfaaGreat
open Go.RowKit

theorem b_whole (z : Int) (w m : World) (hV : Vw m w) (h1 : z.natAbs < 1073741824) :
  Calls Tryz.prog 115 #[.int .i64 z] w (RetV w m fun m' r => FracC m' r (z : Rat)) := by
 have hq : Hid (Rat.divInt z 1 = (z : Rat)) := by show _ = _; rw [← Rat.num_divInt_den (z : Rat)]; simp
 have K : Hid (∀ w m, Vw m w → Calls Tryz.prog 94 #[.int .i64 z, .int .i64 1] w (RetV w m fun m' v => ∃ r, v = .tuple #[r, .int .i64 0] ∧ FracC m' r (Rat.divInt z 1))) := by
  show ∀ w m, _
  exact fun w m hV => q_FromInts z 1 w m hV (by omega) (by decide) (by omega)
 have hL := Loc.start hV
 clear hV h1
 go_enter Tryz.func115, Tryz.ntmps115
 go_wp2_with (first | go_skip | refine tP ?_ | (refine tS ?_; clear hL; intro _ hL) | (refine tB ?_; clear hL; intro _ _ hL _))
 refine (K.out _ _ hL.vw).mono ?_
 rintro e W11 ⟨_, m11, rfl, hE, hM11, hV, va, rfl, h1⟩
 replace hL := hL.call hE (by assumption) hV; clear hE hV
 obtain ⟨g, A, n, c, g', B', n', c', rfl, h1⟩ := h1.lit
 go_wp2_with (first | go_skip | refine tP ?_ | (refine tS ?_; clear hL; intro _ hL) | (refine tB ?_; clear hL; intro _ _ hL _))
 refine fin_agg hL Tryz.results115 rfl rfl loX AgC.h (by exact rfl) ?_
 rw [← hq.out]; exact h1.le leX

theorem b_Round (xv vv : Value) (x : Ms) (us : List Rat) (w m : World) (hV : Vw m w) (hx : MasterR m xv x) (hvv : FracL m vv us) (ok : VOk x us) (h6 : x.cols.length ≤ 6) :
  Calls Tryz.prog 54 #[xv, vv] w (RetV w m fun m' r => ∃ v, r = .tuple #[v, .int .i64 (rndE x us)] ∧ IntL m' v (rndO x us)) := by
 have HX := Lib.hid hx
 have HVV := Lib.hid hvv
 have OK := Lib.hid ok
 obtain ⟨ms, hms⟩ : ∃ ms, ms = x := ⟨_, rfl⟩
 have HMS := Lib.hid hms
 rw [← hms]
 obtain ⟨nf, rws, pen, cols, cuts⟩ := x
 obtain ⟨va, vb, vc, rfl, ha, hb, hc⟩ := hx
 simp only at ha hb hc
 obtain ⟨A, ca, rfl, hca, ha⟩ := ha.lit
 obtain ⟨B, cb, rfl, hcb, hb⟩ := hb.lit
 obtain ⟨C, cc, rfl, hcc, hc⟩ := hc.lit
 obtain ⟨V, cv, rfl, hcv, hvv⟩ := hvv.lit
 have HRO := Lib.hid ha
 have HCO := Lib.hid hb
 have HVA := Lib.hid hvv
 have KV : Hid (∀ w m', Vw m' w → Le m m' → Calls Tryz.prog 96 #[.agg #[.int .i64 nf, .slice A rws.length ca, .int .i64 pen, .slice B cols.length cb, .slice C cuts.length cc], .slice V us.length cv] w (RetV w m' fun _ r => r = .int .i64 0)) := by
  show ∀ w m', _
  exact fun w m' hV hle => b_check _ _ V us.length cv 0 w m' hV (HX.out.le hle) ok.ms (by rw [if_pos ok.len])
 have KF : Hid (∀ w m', Vw m' w → Le m m' → Calls Tryz.prog 97 #[.agg #[.int .i64 nf, .slice A rws.length ca, .int .i64 pen, .slice B cols.length cb, .slice C cuts.length cc], .slice V us.length cv] w (RetV w m' fun m' r => ∃ ys, IsFol (entS cols us cols.length) ys ∧ FolL m' r ys)) := by
  show ∀ w m', _
  exact fun w m' hV hle => b_follows _ _ _ us w m' hV (HX.out.le hle) (FracL.le HVV.out hle) ok
 have KC : Hid (∀ w m', Vw m' w → Le m m' → Calls Tryz.prog 116 #[.agg #[.int .i64 nf, .slice A rws.length ca, .int .i64 pen, .slice B cols.length cb, .slice C cuts.length cc], .slice V us.length cv] w (RetV w m' fun m' r => IntL m' r (natL (rndL ms us)))) := by
  show ∀ w m', _
  rw [hms]
  exact fun w m' hV hle => b_cheapest _ _ _ us w m' hV (HX.out.le hle) (FracL.le HVV.out hle) ok h6
 have HC : Hid (∀ c ∈ cols, ColOk rws c) := ok.ms.cols
 have HT : Hid (∀ v ∈ us, Tw 18 v) := ok.tw
 have HE : Hid (∀ k, (entI cols us k).length ≤ 3200 ∧ ∀ e ∈ entI cols us k, Tw 18 e.2) := by
  show ∀ k, _
  exact fun k => ⟨ok.entI_len k, fun e he => (ok.entI_mem he).1⟩
 have HLW : Hid (∀ r ∈ rws, Wf r) := by
  show ∀ r ∈ rws, _
  intro r hr
  have h1 := ok.ms.low r hr
  have h2 := ok.ms.f1
  simp only at h1 h2
  exact wf_small (by omega) (by omega)
 have HLN : Hid (∀ c ∈ cols, (opF c.2.1).length ≤ 32) := by
  show ∀ c ∈ cols, _
  exact fun c hc => ok.col_len hc
 have HSU : Hid (∀ r, sumI (entI cols us cols.length) r = sumR cols us r cols.length) := by
  show ∀ r, _
  exact fun r => sum_one cols us r (fun c hc => (ok.ms.cols c hc).nodup) _
 have HMR : Hid (ms.rows = rws ∧ ms.cols = cols) := by show _ ∧ _; rw [hms]; exact ⟨rfl, rfl⟩
 have HFL : Hid (IsFol (entS cols us cols.length) (flY (entS cols us cols.length) rws rws)) := fl_is ok
 have hlen : us.length = cols.length := ok.len
 have hfew : cols.length ≤ 6 := h6
 have hr32 : rws.length ≤ 32 := ok.ms.r1
 have HFLL : Hid ((flY (entS cols us cols.length) rws rws).length ≤ 1024) := Nat.le_trans (flY_len _ _ _) (Nat.mul_le_mul hr32 hr32)
 have hL := Loc.start hV
 clear hV ok ha hb hc hvv HX HVV hms OK h6 HMS
 rw [hlen] at HVA hcv KV KF KC ⊢
 have HNV := Lib.hid hlen
 clear hlen
 simp only
 generalize hn1 : cols.length = nc at *
 have HN1 := Lib.hid hn1
 clear hn1
 generalize hn2 : rws.length = nr at *
 have HN2 := Lib.hid hn2
 clear hn2
 generalize cuts.length = nk at *
 go_enter Tryz.func54, Tryz.ntmps54
 go_upto_region 0 with (fail)
 refine wp_region_lit ?_
 refine t_box hL rfl rfl ?_; clear hL; intro Wh2 mh2 hL eh2; simp only [Act.put, zq1, zq2, zq3]
 obtain ⟨m2, hL2, hle2, hbx⟩ := Loc.showBox (cs := [.int .i64 nf, .slice A nr ca, .int .i64 pen, .slice B nc cb, .slice C nk cc]) hL
 have hM2 := hL2.mext
 have hb0 : m2.rangeAt w.heap.size 0 [.int .i64 nf, .slice A nr ca, .int .i64 pen, .slice B nc cb, .slice C nk cc] := fun j v hv => by rw [Nat.zero_add]; exact hbx j v hv
 have hb1 := hbx 1 _ rfl
 have hb3 := hbx 3 _ rfl
 clear hL hle2 hbx eh2
 have hL := hL2
 clear hL2
 go_wp2_with (first | go_skip | refine tP ?_ | (refine tS ?_; clear hL; intro _ hL) | (refine tB ?_; clear hL; intro _ _ hL _))
 refine (KV.out _ _ hL.vw leX).mono ?_
 rintro e Wc1 ⟨_, mc1, rfl, hE, hMc1, hV, rfl⟩
 replace hL := hL.call hE (by assumption) hV; clear hE hV
 clear KV
 have hmm := @run_makeMap Tryz.prog
 go_upto_region 5 with ((first | go_skip | refine tP ?_ | (refine tS ?_; clear hL; intro _ hL) | (refine tB ?_; clear hL; intro _ _ hL _)))
 clear hmm
 have hlow : w.heap.size ≤ Wc1.heap.size := hL.ext.size
 have hX1 : Ext m2 (hidTo mc1 (Wc1.alloc (.map #[] 0)).heap.size) := Ext.trans (exX : Ext m2 mc1) (hidTo_ext (by rw [hL.vw.size]; simp))
 have hL9 := hL.allocM (.map #[] 0)
 clear hL
 have hL := hL9
 clear hL9
 refine wp_region_lit ?_
 go_wp2_with (first | go_skip | refine tP ?_ | (refine tS ?_; clear hL; intro _ hL) | (refine tB ?_; clear hL; intro _ _ hL _))
 go_loopw [27] (fun i wr => ∃ (k : Nat) (mm : World), k ≤ nc ∧ i = .int .i64 k ∧ Loc w m wr mm [] ∧ Hid (Ext m2 mm) ∧ Hid (GMap wr mm Wc1.heap.size (entI cols us k)) ∧ Hid (∀ (j : Nat) (u : Rat), j < k → us[j]? = some u → ¬ u < 0)) (fun i _ => nc - (intOf i).toNat)
 case atStart => exact ⟨0, _, Nat.zero_le _, rfl, hL, hX1, GMap.made _ _, fun j u h => absurd h (Nat.not_lt_zero _)⟩
 case round =>
  clear hL hX1 hMc1
  obtain ⟨k, mm, hk, rfl, hL0, HXM, FM, HNG⟩ := hrel
  obtain ⟨wq, rfl⟩ := hL0.world
  have hXM := HXM.out
  by_cases hlt : k < nc
  ·have hL := Loc.start hL0.vw
   obtain ⟨⟨s, ds, cost⟩, hx⟩ := at_some HN1 hlt
   obtain ⟨q, hq⟩ := at_some HNV hlt
   have hco := HCO.out
   have hva := HVA.out
   obtain ⟨b1, o1, D, cd, rfl, hds, hr1⟩ := ColL.at_ hco hx
   obtain ⟨b2, o2, g2, A2, n2, c2, h2, B2, k2, d2, rfl, hp2, hr2⟩ := FracL.at_ hva hq
   obtain ⟨i1, i2, i3, i4, i5, i6, i7⟩ := HC.out _ (List.mem_of_getElem? hx)
   simp only at hds hr1 i1 i2 i3 i4 i5 i6 i7
   have HD := Lib.hid hds
   have HD3 := Lib.hid i3
   have HD4 := Lib.hid i4
   have HD6 := Lib.hid i6
   have HP2 := Lib.hid hp2
   have HTQ : Hid (Tw 18 q) := HT.out q (List.mem_of_getElem? hq)
   have HFQ : Hid (Fit 200 q) := HTQ.out.fit (by decide)
   have HSQ : Hid (Sm q.num q.den) := HTQ.out.sm (by decide)
   have hn32 : (opF ds).length ≤ 32 := HLN.out _ (List.mem_of_getElem? hx)
   have HST := Lib.hid (entI_step hx hq)
   have HQ := Lib.hid hq
   simp only at HST
   clear hx hq hds hp2 i1 i2 i3 i4 i6 i7 hco hva
   generalize hnd : ds.length = nd at *
   have HND := Lib.hid hnd
   clear hnd
   go_wp2_with (first | go_skip | refine tP ?_ | (refine tS ?_; clear hL; intro _ hL) | (refine tB ?_; clear hL; intro _ _ hL _))
   refine (q_Sign _ q _ _ hL.vw (HP2.out.le leX) HFQ.out).mono ?_
   rintro e Wc2 ⟨_, mc2, rfl, hE, hMc2, hV, rfl⟩
   replace hL := hL.call hE (by assumption) hV; clear hE hV
   by_cases hneg : q < 0
   ·have HR := Lib.hid (rnd_neg (ms := ms) ⟨q, List.mem_of_getElem? HQ.out, hneg⟩)
    have hsg : icmp q.num 0 < 0 := by
     have : q.num < 0 := num_neg'.1 hneg
     unfold icmp
     rw [if_pos (by omega)]; omega
    clear hneg
    generalize icmp q.num 0 = sg at *
    go_wp2_with (first | go_skip | refine tP ?_ | (refine tS ?_; clear hL; intro _ hL) | (refine tB ?_; clear hL; intro _ _ hL _))
    go_ret2
    rw [HR.out.1, HR.out.2]
    exact RetV.mk (hL0.join hL) ⟨_, rfl, ListV.nil⟩
   ·have hsg : 0 ≤ icmp q.num 0 := by
     have : ¬ q.num < 0 := fun h => hneg (num_neg'.2 h)
     unfold icmp
     rw [if_neg (by omega)]; split <;> omega
    have HNG2 : Hid (∀ (j : Nat) (u : Rat), j < k + 1 → us[j]? = some u → ¬ u < 0) := by
     show ∀ j u, _
     intro j u hj hu
     rcases Nat.lt_succ_iff_lt_or_eq.1 hj with h' | rfl
     ·exact HNG.out j u h' hu
     ·rw [HQ.out] at hu; cases hu; exact hneg
    have hsd : decide (icmp q.num 0 < 0) = false := decide_eq_false (by omega)
    clear hneg HNG
    generalize icmp q.num 0 = sg at *
    go_wp2_with (first | go_skip | refine tP ?_ | (refine tS ?_; clear hL; intro _ hL) | (refine tB ?_; clear hL; intro _ _ hL _))
    refine (e_Operated s _ ds _ _ hL.vw (DutsL.le HD.out leX) (by rw [HND.out]; exact HD3.out) HD4.out).mono ?_
    rintro e Wo1 ⟨vo1, mo1, rfl, hE, hMo1, hV, ho1⟩
    replace hL := hL.call hE (by assumption) hV; clear hE hV
    obtain ⟨Ao, co, rfl, hco, ho1⟩ := ho1.lit
    have HOP := Lib.hid ho1
    have FM1 : Hid (GMap Wo1 mo1 Wc1.heap.size (entI cols us k)) := (FM.out.ext hL.ext).le hL.mext.le
    have hM1 := hL.mext
    have hL1 := (hL0.join hL).sub (List.nil_sublist _)
    clear ho1 hr1 FM hL hL0 hsd hsg
    have hL := hL1
    clear hL1
    generalize hno : (opF ds).length = no at *
    have HNO := Lib.hid hno
    clear hno
    go_wp2_with (first | go_skip | refine tP ?_ | (refine tS ?_; clear hL; intro _ hL) | (refine tB ?_; clear hL; intro _ _ hL _))
    go_loopw [42] (fun i wr => ∃ (j : Nat) (m4 : World), j ≤ no ∧ i = .int .i64 (j : Int) ∧ Loc w m wr m4 [] ∧ Hid (Ext mo1 m4) ∧ Hid (GMap wr m4 Wc1.heap.size (entI cols us k ++ colI (opF ds) q j))) (fun i _ => no - (intOf i).toNat)
    case atStart =>
     refine ⟨0, mo1, by omega, rfl, hL, Ext.refl _, ?_⟩
     rw [show colI (opF ds) q 0 = [] from rfl, List.append_nil]
     exact FM1.out
    case round =>
     clear hL FM1
     obtain ⟨j, m4, hj, rfl, hL0, HX, FM⟩ := hrel
     have hX2 := HX.out
     have hL := Loc.start hL0.vw
     by_cases hlt2 : j < no
     ·have hlt2' : (j : Int) < (no : Int) := by omega
      obtain ⟨a, ha⟩ := at_some HNO hlt2
      obtain ⟨b3, o3, rfl, hc3⟩ := IntL.at_ HOP.out ha
      replace hc3 := hX2.le.cell _ _ hc3
      have wa : Wf a := HLW.out _ (HD6.out a (List.mem_of_getElem? ha))
      have HWA := Lib.hid wa
      have HCE : Hid (colI (opF ds) q j ++ [(a, q)] = colI (opF ds) q (j + 1)) := colI_step ha
      obtain ⟨v0, hs0, hlk⟩ := FM.out.look wa
      obtain ⟨g0, A0, n0, c0, f0, B0, p0, q0, rfl⟩ := hs0.lit
      have HS0 := Lib.hid hs0
      have HLK := Lib.hid hlk
      have HTS : Hid (∀ e ∈ entI cols us k ++ colI (opF ds) q j, Tw 18 e.2) := by
       show ∀ e ∈ _, _
       intro e he
       rcases List.mem_append.1 he with h | h
       ·exact (HE.out k).2 e h
       ·obtain ⟨p, _, rfl⟩ := List.mem_map.1 h
        exact HTQ.out
      have HLS : Hid ((entI cols us k ++ colI (opF ds) q j).length ≤ 6400) := by
       show _ ≤ _
       rw [List.length_append]
       have h1 := (HE.out k).1
       have h2 := colI_len (opF ds) q j
       have h3 := HNO.out
       omega
      have HS1 : Hid (Sm (sumI (entI cols us k ++ colI (opF ds) q j) a).num (sumI (entI cols us k ++ colI (opF ds) q j) a).den) :=
       (sumI_tw HTS.out (Nat.le_trans HLS.out (by decide)) _).sm (by decide)
      clear ha wa hs0 hlk
      generalize hSS : entI cols us k ++ colI (opF ds) q j = SS at *
      have HSS := Lib.hid hSS
      clear hSS
      go_upto_region 13 with ((first | go_skip | refine tP ?_ | (refine tS ?_; clear hL; intro _ hL) | (refine tB ?_; clear hL; intro _ _ hL _)))
      (try simp only [eq_self] at *)
      refine wp_region_by2 10 [false, false, false, false, false, false, false, false, false, false] [false, false, false, false, false, false, false, false, false, false] [(fun v _ _ => v = ?c13_0), (fun v _ _ => v = ?c13_1), (fun v _ _ => v = ?c13_2), (fun v _ _ => v = ?c13_3), Is (.agg #[.bool g0, .slice A0 n0 c0, .bool f0, .slice B0 p0 q0]), (fun v _ _ => v = ?c13_5), (fun v _ _ => v = ?c13_6), (fun v _ _ => v = ?c13_7), (fun v _ _ => v = ?c13_8), Of (fun um v => FracC um v (sumI SS a + q))] hL.vw mixed [46, 47, 48, 49, 50, 51, 52, 53, 54, 55] _ (by kernel_rfl) (fun vs => by simp only [lay, Act.put, zq1, zq2, zq3]; rfl) (by kernel_rfl) (by decide) (by decide) ?s13 ?l13 ?r13
      case s13 =>
       refine ⟨?_, ?_, ?_, ?_, ?_, ?_, ?_, ?_, ?_, ?_, trivial⟩
       ·intro vs W1 m1 hE hM hV hD; clear hD
        exact sPw
       ·intro vs W1 m1 hE hM hV hD; clear hD
        exact sPw
       ·intro vs W1 m1 hE hM hV hD; clear hD
        exact sPw
       ·intro vs W1 m1 hE hM hV hD; clear hD
        exact sPw
       ·intro vs W1 m1 hE hM hV hD; obtain ⟨⟨_, _, -, -, f48⟩, ⟨_, _, -, -, f49⟩, -⟩ := hD
        rw [(f48 : vs 48 = _), (f49 : vs 49 = _)]
        clear f48 f49
        have hr := HLK.out _ (hL.ext.trans hE); go_wp2_with fail; refine One2.still hV ?_; exact rfl
       ·intro vs W1 m1 hE hM hV hD; clear hD
        exact sPw
       ·intro vs W1 m1 hE hM hV hD; clear hD
        exact sPw
       ·intro vs W1 m1 hE hM hV hD; obtain ⟨⟨_, _, -, -, f51⟩, ⟨_, _, -, -, f52⟩, -⟩ := hD
        rw [(f51 : vs 51 = _), (f52 : vs 52 = _)]; clear f51 f52; exact sIy
       ·intro vs W1 m1 hE hM hV hD; obtain ⟨⟨_, _, -, -, f53⟩, -⟩ := hD
        rw [(f53 : vs 53 = _)]; clear f53; exact sLe
       ·intro vs W1 m1 hE hM hV hD; obtain ⟨⟨_, _, -, -, f50⟩, ⟨_, _, -, -, f54⟩, -⟩ := hD
        rw [(f50 : vs 50 = _), (f54 : vs 54 = _)]
        clear f50 f54
        go_wp2_with fail
        refine (q_AddSum _ _ _ _ _ _ hV (HS0.out.le leX) (HP2.out.le leX) HS1.out HSQ.out).mono ?_
        rintro e W2 ⟨v, m2, rfl, hE2, hM2, hV2, h⟩
        go_wp2_with fail
        refine One2.call hE2 hM2 hV2 ?_; first | exact h | exact rfl
      case l13 =>
       refine ⟨nF, nF, nF, nF, nF, nF, nF, nF, nF, nF, trivial⟩
      intro vs W1 m1 hE hM hV hF hD
      clear hD
      obtain ⟨⟨_, _, -, -, f46⟩, ⟨_, _, -, -, f47⟩, -, -, -, -, -, -, -, ⟨_, _, -, i55, f55⟩, -⟩ := hF
      replace hL := hL.call hE hM hV
      have f46 : vs 46 = _ := f46
      generalize vs 46 = x46 at f46 ⊢
      subst x46
      have f47 : vs 47 = _ := f47
      generalize vs 47 = x47 at f47 ⊢
      subst x47
      replace f55 : FracC _ (vs 55) (sumI SS a + q) := f55
      replace f55 := f55.le i55.le
      clear i55
      obtain ⟨g55, A55, n55, c55, h55, B55, k55, d55, e55, f55⟩ := f55.lit
      generalize vs 55 = x55 at e55 ⊢
      subst x55
      clear hE hV
      simp only [List.drop_succ_cons, List.drop_zero]
      have hfm := (FM.out.ext hL.ext).le hL.mext.le
      obtain ⟨W9, hup, hf9, hg9⟩ := hfm.up (Nat.le_trans HLS.out (by decide)) HWA.out f55
      have HF9 := Lib.hid hf9
      have HG9 := Lib.hid hg9
      have HNC := Lib.hid hfm.notCells
      have hM9 := hL.mext
      have hsz9 := hL.vw.size
      have hL9 := (hL0.join hL).sub (List.nil_sublist _)
      clear hL hL0 hfm hf9 hg9 FM f55
      have hL := hL9
      clear hL9
      go_wp2_with (first | go_skip | refine tP ?_ | (refine tS ?_; clear hL; intro _ hL) | (refine tB ?_; clear hL; intro _ _ hL _))
      refine QN.mk ?_
      go_wp2_with (first | go_skip | refine tP ?_ | (refine tS ?_; clear hL; intro _ hL) | (refine tB ?_; clear hL; intro _ _ hL _))
      go_roundw
      case rel =>
       have hx9 : Ext _ (hidTo _ W9.heap.size) := hidTo_ext (by rw [hsz9]; exact HG9.out.size)
       refine ⟨j + 1, _, by omega, by go_num, hL.mapTurn HG9.out hlow HNC.out, hX2.trans (hM9.trans hx9), ?_⟩
       rw [← HCE.out, ← List.append_assoc, HSS.out]
       exact HF9.out.le hx9.le
      case measure => simp [intOf] <;> omega
     ·have HCE : Hid (colI (opF ds) q j = (opF ds).map fun f => (f, q)) := colI_end (by rw [HNO.out]; omega)
      clear hL
      have hL := hL0
      go_wp2_with (first | go_skip | refine tP ?_ | (refine tS ?_; clear hL; intro _ hL) | (refine tB ?_; clear hL; intro _ _ hL _))
      go_roundw
      case rel => exact ⟨k + 1, m4, by omega, by go_num, hL, (hXM.trans hM1).trans hX2, by rw [← HST.out, ← HCE.out]; exact FM.out, HNG2.out⟩
      case measure => simp [intOf] <;> omega
  ·have hkn : k = nc := by omega
   subst hkn
   have h9 : (k : Int) ≤ (k : Int) := Int.le_refl _
   have HN0 : Hid (¬ ∃ u ∈ us, u < 0) := by
    rintro ⟨u, hu, h0⟩
    obtain ⟨j, hj⟩ := List.mem_iff_getElem?.1 hu
    have h1 := (List.getElem?_eq_some_iff.1 hj).1
    have h2 := HNV.out
    exact HNG.out j u (by omega) hj h0
   have HTS : Hid (∀ r, Sm (sumR cols us r k).num (sumR cols us r k).den) := by
    show ∀ r, _
    intro r
    rw [← HSU.out]
    exact (sumI_tw (HE.out k).2 (Nat.le_trans (HE.out k).1 (by decide)) _).sm (by decide)
   clear HNG HTS
   have HTS : Hid (∀ r, Sm (sumI (entI cols us k) r).num (sumI (entI cols us k) r).den) := by
    show ∀ r, _
    intro r
    exact (sumI_tw (HE.out k).2 (Nat.le_trans (HE.out k).1 (by decide)) _).sm (by decide)
   have HS1 : Hid (Sm ((1 : Int) : Rat).num ((1 : Int) : Rat).den) := ⟨by decide, by decide⟩
   have hL := Loc.start hL0.vw
   go_wp2_with (first | go_skip | refine tP ?_ | (refine tS ?_; clear hL; intro _ hL) | (refine tB ?_; clear hL; intro _ _ hL _))
   refine (b_whole 1 _ _ hL.vw (by decide)).mono ?_
   rintro e Ww1 ⟨vw1, mw1, rfl, hE, hMw1, hV, hw1⟩
   replace hL := hL.call hE (by assumption) hV; clear hE hV
   obtain ⟨gw1', Aw1', nw1', cw1', hw1', Bw1', kw1', dw1', rfl, hw1⟩ := hw1.lit
   have HW1 := Lib.hid hw1
   clear hw1
   go_upto_region 17 with ((first | go_skip | refine tP ?_ | (refine tS ?_; clear hL; intro _ hL) | (refine tB ?_; clear hL; intro _ _ hL _)))
   obtain ⟨m7, hL7, hle7, hb7⟩ := Loc.showBox (cs := [.bool gw1', .slice Aw1' nw1' cw1', .bool hw1', .slice Bw1' kw1' dw1']) hL
   have hXw : Ext mm m7 := hL7.mext
   have HW7 := Lib.hid (HW1.out.le (Le.trans leX hle7))
   have FM7 : Hid (GMap _ m7 Wc1.heap.size (entI cols us k)) := (FM.out.ext hL7.ext).le hXw.le
   have hXw2 := hXM.trans hXw
   have hL9 := hL0.join hL7
   have hr7 : m7.rangeAt _ 0 [.bool gw1', .slice Aw1' nw1' cw1', .bool hw1', .slice Bw1' kw1' dw1'] := fun j v hv => by rw [Nat.zero_add]; exact hb7 j v hv
   have HR7 := Lib.hid hr7
   clear hL hL0 hL7 hle7 hb7 HW1 FM hXw hXM HXM hMw1 hr7
   have hL := hL9
   clear hL9
   simp only [List.append_nil] at hL
   go_wp2_with (first | go_skip | refine tP ?_ | (refine tS ?_; clear hL; intro _ hL) | (refine tB ?_; clear hL; intro _ _ hL _))
   go_loopw [62] (fun i wr => ∃ (t : Nat) (mm2 : World), t ≤ nr ∧ i = .int .i64 (t : Int) ∧ Loc w m wr mm2 [] ∧ Hid (Ext m7 mm2) ∧ Hid (GMap wr mm2 Wc1.heap.size (entI cols us k)) ∧ Hid (∀ (j : Nat) (r : Int), j < t → rws[j]? = some r → ¬ ((1 : Int) : Rat) < sumI (entI cols us k) r)) (fun i _ => nr - (intOf i).toNat)
   case atStart => exact ⟨0, _, Nat.zero_le _, rfl, hL, Ext.refl _, FM7.out, fun j u h => absurd h (Nat.not_lt_zero _)⟩
   case round =>
    clear hL FM7
    obtain ⟨t, mm2, ht, rfl, hL0, HX7, FM, HNB⟩ := hrel
    obtain ⟨wq2, rfl⟩ := hL0.world
    have hX7 := HX7.out
    have hL := Loc.start hL0.vw
    by_cases hlt3 : t < nr
    ·have hlt3' : (t : Int) < (nr : Int) := by omega
     obtain ⟨r, hr⟩ := at_some HN2 hlt3
     obtain ⟨b3, o3, rfl, hc3⟩ := IntL.at_ HRO.out hr
     have wa : Wf r := HLW.out _ (List.mem_of_getElem? hr)
     obtain ⟨v0, hs0, hlk⟩ := FM.out.look wa
     obtain ⟨g0, A0, n0, c0, f0, B0, p0, q0, rfl⟩ := hs0.lit
     have HS0 := Lib.hid hs0
     have hlk0 := hlk _ (Ext.refl _)
     have HSR := HTS.out r
     have HR0 := Lib.hid hr
     have hr7 := HR7.out
     clear hr wa hs0 hlk
     go_wp2_with (first | go_skip | refine tP ?_ | (refine tS ?_; clear hL; intro _ hL) | (refine tB ?_; clear hL; intro _ _ hL _))
     refine (q_CompareSum _ _ (sumI (entI cols us k) r) ((1 : Int) : Rat) _ _ hL.vw (HS0.out.le leX) (HW7.out.le leX) HSR HS1.out).mono ?_
     rintro e Wc3 ⟨_, mc3, rfl, hE, hMc3, hV, rfl⟩
     replace hL := hL.call hE (by assumption) hV; clear hE hV
     by_cases hbig : ((1 : Int) : Rat) < sumI (entI cols us k) r
     ·have HR := Lib.hid (rnd_big (ms := ms) HN0.out ⟨r, by rw [HMR.out.1]; exact List.mem_of_getElem? HR0.out, by rw [HMR.out.2, HN1.out, ← HSU.out]; exact hbig⟩)
      have hsg : rs (sumI (entI cols us k) r - ((1 : Int) : Rat)) > 0 := by
       have := icq_pos (((Rat.lt_iff_sub_pos _ _).1 hbig))
       unfold rs; omega
      clear hbig
      generalize rs (sumI (entI cols us k) r - ((1 : Int) : Rat)) = sg at *
      go_wp2_with (first | go_skip | refine tP ?_ | (refine tS ?_; clear hL; intro _ hL) | (refine tB ?_; clear hL; intro _ _ hL _))
      go_ret2
      rw [HR.out.1, HR.out.2]
      exact RetV.mk (hL0.join hL) ⟨_, rfl, ListV.nil⟩
     ·have hsg : rs (sumI (entI cols us k) r - ((1 : Int) : Rat)) ≤ 0 := icq_npos fun h => hbig ((Rat.lt_iff_sub_pos _ _).2 h)
      have HNB2 : Hid (∀ (j : Nat) (u : Int), j < t + 1 → rws[j]? = some u → ¬ ((1 : Int) : Rat) < sumI (entI cols us k) u) := by
       show ∀ j u, _
       intro j u hj hu
       rcases Nat.lt_succ_iff_lt_or_eq.1 hj with h' | rfl
       ·exact HNB.out j u h' hu
       ·rw [HR0.out] at hu; cases hu; exact hbig
      have hsd : decide (rs (sumI (entI cols us k) r - ((1 : Int) : Rat)) > 0) = false := decide_eq_false (by omega)
      clear hbig
      generalize rs (sumI (entI cols us k) r - ((1 : Int) : Rat)) = sg at *
      go_wp2_with (first | go_skip | refine tP ?_ | (refine tS ?_; clear hL; intro _ hL) | (refine tB ?_; clear hL; intro _ _ hL _))
      go_roundw
      case rel => exact ⟨t + 1, _, by omega, by go_num, hL0.join hL, hX7.trans exX, (FM.out.ext hL.ext).le leX, HNB2.out⟩
      case measure => simp [intOf] <;> omega
    ·have htn : t = nr := by omega
     subst htn
     have h8 : (t : Int) ≤ (t : Int) := Int.le_refl _
     have HN1b : Hid (¬ ∃ r ∈ ms.rows, ((1 : Int) : Rat) < sumR ms.cols us r ms.cols.length) := by
      rw [HMR.out.1, HMR.out.2, HN1.out]
      rintro ⟨r, hr, h0⟩
      rw [← HSU.out] at h0
      obtain ⟨j, hj⟩ := List.mem_iff_getElem?.1 hr
      have h1 := (List.getElem?_eq_some_iff.1 hj).1
      have h2 := HN2.out
      exact HNB.out j r (by omega) hj h0
     have hX72 := hXw2.trans hX7
     clear HNB HTS hX7 HX7 FM HW7 HR7 hXw2 hL
     have hL := hL0
     clear hL0
     go_wp2_with (first | go_skip | refine tP ?_ | (refine tS ?_; clear hL; intro _ hL) | (refine tB ?_; clear hL; intro _ _ hL _))
     refine (KF.out _ _ hL.vw leX).mono ?_
     rintro e Wf ⟨vf, mf, rfl, hE, hMf, hV, ys, hf, hyl⟩
     replace hL := hL.call hE (by assumption) hV; clear hE hV
     obtain ⟨Y, cy, rfl, hcy, hyl⟩ := hyl.lit
     have HYL := Lib.hid hyl
     have HYS : Hid (ys = flY (entS cols us k) rws rws) := hf.unique HFL.out
     clear hf hyl hcy
     have hny0 : ys.length ≤ 1024 := by rw [HYS.out]; exact HFLL.out
     generalize hny : ys.length = ny at *
     have HNY := Lib.hid hny
     clear hny
     go_wp2_with (first | go_skip | refine tP ?_ | (refine tS ?_; clear hL; intro _ hL) | (refine tB ?_; clear hL; intro _ _ hL _))
     go_loopw [77] (fun i wr => ∃ (s : Nat) (mm3 : World), s ≤ ny ∧ i = .int .i64 (s : Int) ∧ Loc w m wr mm3 [] ∧ Hid (Ext mf mm3) ∧ Hid (∀ (j : Nat) (y : PQ), j < s → ys[j]? = some y → y.2.den = 1)) (fun i _ => ny - (intOf i).toNat)
     case atStart => exact ⟨0, _, Nat.zero_le _, rfl, hL, Ext.refl _, fun j u h => absurd h (Nat.not_lt_zero _)⟩
     case round =>
      clear hL
      obtain ⟨s, mm3, hs, rfl, hL, HXF, HDN⟩ := hrel
      have hXF := HXF.out
      by_cases hlt4 : s < ny
      ·have hlt4' : (s : Int) < (ny : Int) := by omega
       obtain ⟨y, hy⟩ := at_some HNY hlt4
       obtain ⟨b5, o5, g5, A5, n5, c5, f5, B5, p5, q5, rfl, hq5, hr5⟩ := FolL.at_ (FolL.le HYL.out hXF.le) hy
       have HY := Lib.hid hy
       clear hy
       have KBAD : Hid (y.2.den ≠ 1 → rndE ms us = 16 ∧ rndO ms us = []) := fun hd =>
        rnd_frac HN0.out HN1b.out ⟨y, by rw [HMR.out.1, HMR.out.2, HN1.out, ← HYS.out]; exact List.mem_of_getElem? HY.out, hd⟩
       have HDN2 : Hid (y.2.den = 1 → ∀ (j : Nat) (u : PQ), j < s + 1 → ys[j]? = some u → u.2.den = 1) := by
        show _ → ∀ j u, _
        intro hd j u hj hu
        rcases Nat.lt_succ_iff_lt_or_eq.1 hj with h' | rfl
        ·exact HDN.out j u h' hu
        ·rw [HY.out] at hu; cases hu; exact hd
       rcases den_dig hq5 with ⟨hd, hp⟩ | ⟨rfl, b6, o6, e6, rfl, hc6, hiff⟩
       ·have HR := Lib.hid (KBAD.out hd)
        have hpd : ((p5 : Int) != 1) = true := by simp; omega
        have hpe : ((p5 : Int) == 1) = false := by simp; omega
        have hpf : ¬ (p5 : Int) = 1 := by omega
        clear hd hp hq5
        go_upto_region 26 with ((first | go_skip | refine tP ?_ | (refine tS ?_; clear hL; intro _ hL) | (refine tB ?_; clear hL; intro _ _ hL _)))
        refine wp_region_lit ?_
        repeat (first | (refine tFd ?_; simp only [Act.put, zq1, zq2, zq3]) | (refine tLd ?_; simp only [Act.put, zq1, zq2, zq3]))
        go_wp2_with fail
        go_ret2
        rw [HR.out.1, HR.out.2]
        exact RetV.mk hL ⟨_, rfl, ListV.nil⟩
       ·by_cases he : e6 = 1
        ·subst he
         have HD3 := Lib.hid (HDN2.out (hiff.2 rfl))
         clear hiff hq5
         go_wp2_with (first | (refine t_ix0 rfl rfl rfl ?_; simp only [Act.put, zq1, zq2, zq3]) | (first | go_skip | refine tP ?_ | (refine tS ?_; clear hL; intro _ hL) | (refine tB ?_; clear hL; intro _ _ hL _)))
         go_roundw
         case rel => exact ⟨s + 1, _, by omega, by go_num, hL.tail, hXF.trans exX, HD3.out⟩
         case measure => simp [intOf] <;> omega
        ·have HR := Lib.hid (KBAD.out fun h => he (hiff.1 h))
         have hpd : (((e6 : Nat) : Int) != 1) = true := by simp; omega
         clear he hiff hq5
         go_wp2_with (first | (refine t_ix0 rfl rfl rfl ?_; simp only [Act.put, zq1, zq2, zq3]) | (first | go_skip | refine tP ?_ | (refine tS ?_; clear hL; intro _ hL) | (refine tB ?_; clear hL; intro _ _ hL _)))
         go_ret2
         rw [HR.out.1, HR.out.2]
         exact RetV.mk hL ⟨_, rfl, ListV.nil⟩
      ·have hsn : s = ny := by omega
       subst hsn
       have h7 : (s : Int) ≤ (s : Int) := Int.le_refl _
       have HR : Hid (rndE ms us = 0 ∧ rndO ms us = natL (rndL ms us)) := by
        refine rnd_ok HN0.out HN1b.out ?_
        rw [HMR.out.1, HMR.out.2, HN1.out, ← HYS.out]
        rintro ⟨y, hy, hd⟩
        obtain ⟨j, hj⟩ := List.mem_iff_getElem?.1 hy
        have h1 := (List.getElem?_eq_some_iff.1 hj).1
        have h2 := HNY.out
        exact hd (HDN.out j y (by omega) hj)
       clear HDN HYL HYS
       go_wp2_with (first | go_skip | refine tP ?_ | (refine tS ?_; clear hL; intro _ hL) | (refine tB ?_; clear hL; intro _ _ hL _))
       refine (KC.out _ _ hL.vw leX).mono ?_
       rintro e Wz ⟨vz, mz, rfl, hE, hMz, hV, hvz⟩
       replace hL := hL.call hE (by assumption) hV; clear hE hV
       obtain ⟨Z, cz, rfl, hcz, hvz⟩ := hvz.lit
       go_wp2_with (first | go_skip | refine tP ?_ | (refine tS ?_; clear hL; intro _ hL) | (refine tB ?_; clear hL; intro _ _ hL _))
       go_ret2
       rw [HR.out.1, HR.out.2]
       exact RetV.mk hL ⟨_, rfl, hvz⟩
end Go.Proofs.YtniigfikpfinfaaGreat

/- pairingdata.Master, its row of columns staying the caller's own (printed by genAM17.py out of XC3). -/
namespace Go.Proofs.YtniigfikpfinfaaGreat
open Go.RowKit

def MasPost (w m : World) (x : Ms) (e : Ending) (w' : World) : Prop :=
 ∃ (m' : World) (A : Option Addr) (nr ca : Nat) (B : Option Addr) (cb : Nat) (C : Option Addr) (nk cc : Nat) (R : List Lo), e = .returned (.agg #[.int .i64 x.nf, .slice A nr ca, .int .i64 x.pen, .slice B x.cols.length cb, .slice C nk cc]) ∧ Loc w m w' m' R ∧
  RowA 101 3 ColR m' (.slice B x.cols.length cb) x.cols.length x.cols R ∧ IntL m' (.slice A nr ca) x.rows ∧ CutL m' (.slice C nk cc) x.cuts

theorem d_MasterR (A : Option Addr) (c : Nat) (l : List Int) (w m : World) (hV : Vw m w) (h : Sl m A (l.map I64)) (hl : True) :
  Calls Tryz.prog 14 #[.slice A l.length c] w (MasPost w m (masF l)) := by
 have HL := Lib.hid hl
 clear hl
 generalize hN : l.length = N
 have HN := Lib.hid hN
 clear hN
 obtain ⟨a0, E0, p0, p0'⟩ := atX l 0 (by omega)
 obtain ⟨a1, E1, p1, p1'⟩ := atX l 1 (by omega)
 obtain ⟨a2, E2, p2, p2'⟩ := atX l 2 (by omega)
 obtain ⟨a3, E3, p3, p3'⟩ := atX l 3 (by omega)
 have hL := Loc.start hV
 clear hV
 go_enter Tryz.func14, Tryz.ntmps14
 go_upto_region 0 with (fail)
 refine wp_region_lit ?_
 refine t_alloc hL rfl ?_; clear hL; intro Wh2 mh2 hL eh2; simp only [Act.put, zq1, zq2, zq3]
 go_wp2_with (first | go_skip | refine tP ?_ | (refine tS ?_; clear hL; intro _ hL) | (refine tB ?_; clear hL; intro _ _ hL _) | (refine tC ?_; clear hL; intro _ _ hL _ hBs))
 refine (d_AtE _ _ _ l _ 0 a0 _ _ hL.vw (h.le leX) HN HL E0 rfl (by omega)).mono ?_
 rintro e Wc0 ⟨_, mc0, rfl, hE, hMc0, hV, rfl⟩
 replace hL := hL.call hE (by assumption) hV; clear hE hV
 go_upto_region 2 with ((first | go_skip | refine tP ?_ | (refine tS ?_; clear hL; intro _ hL) | (refine tB ?_; clear hL; intro _ _ hL _) | (refine tC ?_; clear hL; intro _ _ hL _ hBs)))
 refine wp_region_lit ?_
 rename_i W0 _ _
 refine wl_bslice hL (wanted_none rfl) rfl (n := 3) (cs := #[.int .i64 0, .int .i64 1, .int .i64 2]) (e := 3) (fun w => by go_simp) ?_
 clear hL
 intro Wa ma hL ea hab
 simp only [Act.put, zq1, zq2, zq3]
 refine wl_bslice hL (wanted_none rfl) rfl (n := 3) (cs := #[.int .i64 1, .int .i64 2, .int .i64 4]) (e := 3) (fun w => by go_simp) ?_
 clear hL
 intro Wb mb hL eb hbb
 simp only [Act.put, zq1, zq2, zq3]
 refine wl_bslice hL (wanted_none rfl) rfl (n := 4) (cs := #[.int .i64 0, .int .i64 1, .int .i64 2, .int .i64 3]) (e := 3) (fun w => by go_simp) ?_
 clear hL
 intro Wc mc hL ec hcb
 simp only [Act.put, zq1, zq2, zq3]
 refine wl_bslice hL (wanted_none rfl) rfl (n := 4) (cs := #[.int .i64 0, .int .i64 2, .int .i64 3, .int .i64 5]) (e := 3) (fun w => by go_simp) ?_
 clear hL
 intro Wd md hL ed hdb
 simp only [Act.put, zq1, zq2, zq3]
 refine wl_bslice hL (wanted_none rfl) rfl (n := 5) (cs := #[.int .i64 0, .int .i64 1, .int .i64 2, .int .i64 3, .int .i64 4]) (e := 3) (fun w => by go_simp) ?_
 clear hL
 intro We me hL ee heb
 simp only [Act.put, zq1, zq2, zq3]
 refine wl_bslice hL (wanted_none rfl) rfl (n := 5) (cs := #[.int .i64 1, .int .i64 2, .int .i64 3, .int .i64 4, .int .i64 5]) (e := 3) (fun w => by go_simp) ?_
 clear hL
 intro Wf mf hL ef hfb
 simp only [Act.put, zq1, zq2, zq3]
 refine wl_bslice hL (wanted_none rfl) rfl (n := 6) (cs := #[.slice (some ⟨W0.heap.size, 0, none⟩) 3 3, .slice (some ⟨Wa.heap.size, 0, none⟩) 3 3, .slice (some ⟨Wb.heap.size, 0, none⟩) 4 4, .slice (some ⟨Wc.heap.size, 0, none⟩) 4 4, .slice (some ⟨Wd.heap.size, 0, none⟩) 5 5, .slice (some ⟨We.heap.size, 0, none⟩) 5 5]) (e := 22) (fun w => by go_simp) ?_
 clear hL
 intro Wg mg hL eg hgb
 simp only [Act.put, zq1, zq2, zq3]
 have hrows : IntLL mg (.slice (some ⟨Wf.heap.size, 0, none⟩) 6 6) rowsT := ListV.mk (vs := [.slice (some ⟨W0.heap.size, 0, none⟩) 3 3, .slice (some ⟨Wa.heap.size, 0, none⟩) 3 3, .slice (some ⟨Wb.heap.size, 0, none⟩) 4 4, .slice (some ⟨Wc.heap.size, 0, none⟩) 4 4, .slice (some ⟨Wd.heap.size, 0, none⟩) 5 5, .slice (some ⟨We.heap.size, 0, none⟩) 5 5]) (by omega) rfl (fun u hu => by simp at hu; rcases hu with rfl | rfl | rfl | rfl | rfl | rfl <;> rfl) (Blk.sl hgb (n := 6) rfl)
  ⟨IntL.le (IntL.ofBlk [0, 1, 2] hab) leX, IntL.le (IntL.ofBlk [1, 2, 4] hbb) leX, IntL.le (IntL.ofBlk [0, 1, 2, 3] hcb) leX, IntL.le (IntL.ofBlk [0, 2, 3, 5] hdb) leX, IntL.le (IntL.ofBlk [0, 1, 2, 3, 4] heb) leX, IntL.le (IntL.ofBlk [1, 2, 3, 4, 5] hfb) leX, trivial⟩
 clear hab hbb hcb hdb heb hfb hgb
 go_wp2_with (first | go_skip | refine tP ?_ | (refine tS ?_; clear hL; intro _ hL) | (refine tB ?_; clear hL; intro _ _ hL _) | (refine tC ?_; clear hL; intro _ _ hL _ hBs))
 refine (d_AtE _ _ _ l _ 1 a1 _ _ hL.vw (h.le leX) HN HL E1 rfl (by omega)).mono ?_
 rintro e Wc1 ⟨_, mc1, rfl, hE, hMc1, hV, rfl⟩
 replace hL := hL.call hE (by assumption) hV; clear hE hV
 have hi1 : (a1 % 6).toNat < 6 := by omega
 have e6 : a1 % 6 = ((a1 % 6).toNat : Int) := by omega
 have HR : Hid (rowsF l = rowsT.getD (a1 % 6).toNat []) := by show _ = _; unfold rowsF; rw [E1.out]
 obtain ⟨h3, h5⟩ := rowsT_len ⟨_, hi1⟩
 have HC : Hid (∀ s : Nat, s < (rowsT.getD (a1 % 6).toNat []).length → 2 < (cutT (rowsT.getD (a1 % 6).toNat []) s (rowsT.getD (a1 % 6).toNat []).length).length) := by
  show ∀ s : Nat, _
  intro s hs
  exact cutT_long ⟨_, hi1⟩ ⟨s, by simp only at h5; omega⟩ hs
 obtain ⟨b6, o6, A4, c4, e, hrs, hc6⟩ := IntLL.at_ hrows (rowsT_get _ hi1)
 injection e with e
 injection e with e e'
 subst e e'
 simp only at h3 h5
 simp only [Nat.zero_add] at hc6
 generalize rowsT.getD (a1 % 6).toNat [] = rs at *
 generalize (a1 % 6).toNat = i1 at *
 generalize hq : rs.length = q at *
 have HQ := Lib.hid hq
 clear hq hrows
 go_wp2_with (first | go_skip | refine tP ?_ | (refine tS ?_; clear hL; intro _ hL) | (refine tB ?_; clear hL; intro _ _ hL _) | (refine tC ?_; clear hL; intro _ _ hL _ hBs))
 refine goA ?_
 refine wl_append (A := [_, _]) hL (Row.nil _ _) (wanted_none rfl) rfl ap_ints (by omega) rfl rfl (news := rs.map I64) (by simp [HQ.out]) ((IntL.sl (IntL.le hrs leX)).le hL.vw.le) (ints_one rs) (by omega) (by omega) ?_
 clear hL
 intro v1 W4 m4 R4 hL r4 e4
 obtain ⟨m5, A5, c5, hL5, hle5, rfl, hc5, hs5, -⟩ := Loc.show (A := [_, _]) hL r4
 simp only [Nat.zero_add, List.nil_append] at hc5 hs5
 have hrw : IntL m5 (.slice A5 q c5) rs := IntL.ofSl hs5 HQ.out hc5
 have hrs5 : IntL m5 (.slice A4 q c4) rs := IntL.le hrs (Le.trans leX hle5)
 clear hL hs5 hrs hc6
 have hL := hL5
 clear hL5 hle5
 have e7 : a2 % 7 = ((a2 % 7).toNat : Int) := by omega
 have E2' : Hid ((atF l 2 % 7).toNat = (a2 % 7).toNat) := by show _ = _; rw [E2.out]
 have hJ : (a2 % 7).toNat ≤ 6 := by omega
 generalize (a2 % 7).toNat = J at *
 have e3' : a3 % 3 = ((a3 % 3).toNat : Int) := by omega
 have E3' : Hid ((atF l 3 % 3).toNat = (a3 % 3).toNat) := by show _ = _; rw [E3.out]
 have hK : (a3 % 3).toNat ≤ 2 := by omega
 generalize (a3 % 3).toNat = K at *
 clear e6 hi1
 simp only [Act.put, zq1, zq2, zq3, Nat.zero_add]
 go_wp2_with (first | go_skip | refine tP ?_ | (refine tS ?_; clear hL; intro _ hL) | (refine tB ?_; clear hL; intro _ _ hL _) | (refine tC ?_; clear hL; intro _ _ hL _ hBs))
 go_loopw [5] (fun i wr => ∃ (j : Nat) (mm : World) (A7 : Option Addr) (c7 : Nat) (Rr : List Lo), j ≤ J ∧ i = .int .i64 j ∧ Loc w m wr mm ((Wc0.heap.size, 26, #[.int .i64 6, .slice A5 q c5, .int .i64 (a0 % 30), .slice A7 j c7, .slice none 0 0]) :: (w.heap.size, 26, #[.int .i64 0, .slice none 0 0, .int .i64 0, .slice none 0 0, .slice none 0 0]) :: Rr) ∧ Hid (RowA 101 3 ColR mm (.slice A7 j c7) j (colsG rs l j) Rr) ∧ Ext m5 mm) (fun i _ => J - (intOf i).toNat)
 case atStart => exact ⟨0, m5, none, 0, [], Nat.zero_le _, rfl, hL, RowA.nil, Ext.refl _⟩
 case round =>
  clear hL
  obtain ⟨j, mm, A7, c7, Rc, hj, rfl, hL, rr, hX⟩ := hrel
  have hM := hL.mext
  have hA := h.le hM.le
  have hrs6 := IntL.le hrs5 hX.le
  have hrw6 := IntL.le hrw hX.le
  have HX := Lib.hid hX
  clear hX hM
  go_wp2_with (first | go_skip | refine tP ?_ | (refine tS ?_; clear hL; intro _ hL) | (refine tB ?_; clear hL; intro _ _ hL _) | (refine tC ?_; clear hL; intro _ _ hL _ hBs))
  refine (d_AtE _ _ _ l _ 2 a2 _ _ hL.vw (hA.le leX) HN HL E2 rfl (by omega)).mono ?_
  rintro e Wc2 ⟨_, mc2, rfl, hE, hMc2, hV, rfl⟩
  replace hL := hL.call hE (by assumption) hV; clear hE hV
  by_cases hlt : j < J
  ·obtain ⟨a5, E5, p5, p5'⟩ := atX l (5 + 2 * j) (by omega)
   obtain ⟨a6, E6, p6, p6'⟩ := atX l (6 + 2 * j) (by omega)
   go_upto_region 7 with ((first | go_skip | refine tP ?_ | (refine tS ?_; clear hL; intro _ hL) | (refine tB ?_; clear hL; intro _ _ hL _) | (refine tC ?_; clear hL; intro _ _ hL _ hBs)))
   clear e7 e3'
   (try simp only [eq_self] at *)
   refine wp_region_by2 15 [false, false, false, false, false, false, false, false, false, false, false, false, false, false, false] [false, false, false, false, false, false, false, false, false, false, false, false, false, false, false] [(fun v _ _ => v = ?c7_0), (fun v _ _ => v = ?c7_1), (fun v _ _ => v = ?c7_2), (fun v _ _ => v = ?c7_3), (fun v _ _ => v = ?c7_4), (fun v _ _ => v = ?c7_5), (fun v _ _ => v = ?c7_6), Is (.int .i64 a5), (fun v _ _ => v = ?c7_8), (fun v _ _ => v = ?c7_9), (fun v _ _ => v = ?c7_10), (fun v _ _ => v = ?c7_11), Is (.int .i64 a6), Of (fun um v => ColR um v (colF rs a5 a6)), (NewS1 101 (fun um v => ColR um v (colF rs a5 a6)))] hL.vw mixed [38, 39, 40, 41, 42, 43, 44, 45, 46, 47, 48, 49, 50, 51, 52] _ (by kernel_rfl) (fun vs => by simp only [lay, Act.put, zq1, zq2, zq3]; rfl) (by kernel_rfl) (by decide) (by decide) ?s7 ?l7 ?r7
   case s7 =>
    refine ⟨?_, ?_, ?_, ?_, ?_, ?_, ?_, ?_, ?_, ?_, ?_, ?_, ?_, ?_, ?_, trivial⟩
    ·intro vs W1 m1 hE hM hV hD; clear hD
     exact sFe
    ·intro vs W1 m1 hE hM hV hD; obtain ⟨⟨_, _, -, -, f38⟩, -⟩ := hD
     rw [(f38 : vs 38 = _)]; clear f38; exact sLe
    ·intro vs W1 m1 hE hM hV hD; clear hD
     exact sPw
    ·intro vs W1 m1 hE hM hV hD; clear hD
     exact sPw
    ·intro vs W1 m1 hE hM hV hD; clear hD
     exact sPw
    ·intro vs W1 m1 hE hM hV hD; obtain ⟨⟨_, _, -, -, f42⟩, -⟩ := hD
     rw [(f42 : vs 42 = _)]; clear f42; exact sPw
    ·intro vs W1 m1 hE hM hV hD; obtain ⟨⟨_, _, -, -, f43⟩, -⟩ := hD
     rw [(f43 : vs 43 = _)]; clear f43; exact sPw
    ·intro vs W1 m1 hE hM hV hD; obtain ⟨⟨_, _, -, -, f41⟩, ⟨_, _, -, -, f44⟩, -⟩ := hD
     rw [(f41 : vs 41 = _), (f44 : vs 44 = _)]
     clear f41 f44
     go_wp2_with fail
     refine (d_AtE _ _ _ l _ (5 + 2 * j) a5 _ _ hV (hA.le leX) HN HL E5 (by omega) (by omega)).mono ?_
     rintro e W2 ⟨v, m2, rfl, hE2, hM2, hV2, h⟩
     go_wp2_with fail
     refine One2.call hE2 hM2 hV2 ?_; first | exact h | exact rfl
    ·intro vs W1 m1 hE hM hV hD; clear hD
     exact sPw
    ·intro vs W1 m1 hE hM hV hD; clear hD
     exact sPw
    ·intro vs W1 m1 hE hM hV hD; obtain ⟨⟨_, _, -, -, f47⟩, -⟩ := hD
     rw [(f47 : vs 47 = _)]; clear f47; exact sPw
    ·intro vs W1 m1 hE hM hV hD; obtain ⟨⟨_, _, -, -, f48⟩, -⟩ := hD
     rw [(f48 : vs 48 = _)]; clear f48; exact sPw
    ·intro vs W1 m1 hE hM hV hD; obtain ⟨⟨_, _, -, -, f46⟩, ⟨_, _, -, -, f49⟩, -, -⟩ := hD
     rw [(f46 : vs 46 = _), (f49 : vs 49 = _)]
     clear f46 f49
     go_wp2_with fail
     refine (d_AtE _ _ _ l _ (6 + 2 * j) a6 _ _ hV (hA.le leX) HN HL E6 (by omega) (by omega)).mono ?_
     rintro e W2 ⟨v, m2, rfl, hE2, hM2, hV2, h⟩
     go_wp2_with fail
     refine One2.call hE2 hM2 hV2 ?_; first | exact h | exact rfl
    ·intro vs W1 m1 hE hM hV hD; obtain ⟨⟨_, _, -, -, f40⟩, ⟨_, _, -, -, f45⟩, ⟨_, _, -, -, f50⟩, -, -⟩ := hD
     rw [(f40 : vs 40 = _), (f45 : vs 45 = _), (f50 : vs 50 = _)]
     clear f40 f45 f50
     go_wp2_with fail
     refine (d_ColumnE _ _ q rs a5 a6 _ _ hV (IntL.le hrs6 leX) HQ (by omega) (by omega) p5 (by omega) p6 (by omega)).mono ?_
     rintro e W2 ⟨v, m2, rfl, hE2, hM2, hV2, h⟩
     go_wp2_with fail
     refine One2.call hE2 hM2 hV2 ?_; first | exact h | exact rfl
    ·intro vs W1 m1 hE hM hV hD; obtain ⟨⟨_, _, -, i51, f51⟩, -⟩ := hD; have f51 : ColR _ (vs 51) (colF rs a5 a6) := f51; replace f51 := f51.le i51.le; clear i51
     (obtain ⟨b9, A9, n9, c9, z9, e9, f9⟩ := f51.lit; generalize vs 51 = x9 at e9 ⊢; subst x9; go_wp2_with fail; exact one2_s1 hV fun m' h => f9.le h.le)
   case l7 =>
    refine ⟨nF, nF, nF, nF, nF, nF, nF, nF, nF, nF, nF, nF, nF, nF, nF, trivial⟩
   intro vs W1 m1 hE hM hV hF hD
   clear hD
   obtain ⟨-, ⟨_, _, -, -, f39⟩, -, -, -, -, -, -, -, -, -, -, -, ⟨_, _, -, i51, f51⟩, ⟨_, _, j52, i52, f52⟩, -⟩ := hF
   replace hL := hL.call hE hM hV
   have f39 : vs 39 = _ := f39
   generalize vs 39 = x39 at f39 ⊢
   subst x39
   replace f51 : ColR _ (vs 51) (colF rs a5 a6) := f51
   replace f51 := f51.le i51.le
   clear i51
   clear hE hV
   obtain ⟨g15, cs15, e15, q15, f15⟩ := f52
   generalize vs 52 = x15 at e15 ⊢
   subst x15
   replace q15 := q15.ext j52
   have f16 : ColR _ (.agg cs15) (colF rs a5 a6) := f15
   replace f16 := f16.le i52.le
   clear f15 i52 j52
   obtain ⟨b9, A9, n9, c9, z9, e9, f16⟩ := f16.lit
   injection e9 with e9
   subst e9
   simp only [List.drop_succ_cons, List.drop_zero]
   obtain ⟨vs7, r7, z7, y7, l7⟩ := rr.out
   refine wl_append (A := [_, _]) hL r7 (wanted_none rfl) rfl ap_Cols (by omega) rfl rfl (news := [.string b9, .slice A9 n9 c9, .int .i64 z9]) rfl (Blk.sl q15 (n := 3) rfl) rfl (by omega) (by omega) ?_
   clear hL
   intro v1 W2 m2 R2 hL r8 e8
   obtain ⟨A8, c8, rfl, -⟩ := r8.lit
   simp only [List.cons_append, List.nil_append] at hL
   simp only [Act.put, zq1, zq2, zq3]
   go_wp2_with (first | go_skip | refine tP ?_ | (refine tS ?_; clear hL; intro _ hL) | (refine tB ?_; clear hL; intro _ _ hL _) | (refine tC ?_; clear hL; intro _ _ hL _ hBs))
   refine QN.mk ?_
   go_wp2_with (first | go_skip | refine tP ?_ | (refine tS ?_; clear hL; intro _ hL) | (refine tB ?_; clear hL; intro _ _ hL _) | (refine tC ?_; clear hL; intro _ _ hL _ hBs))
   go_roundw
   case rel =>
    refine ⟨j + 1, _, _, _, _, by omega, by go_num, hL, ?_, ?_⟩
    ·have hq := RowA.snoc (R := ColR) r8 z7 (y7.mono fun v x hv => hv.le (leX : Le mm m2)) l7 rfl (f16.le e8.le)
     rwa [colsG_snoc rs l j E5 E6] at hq
    ·exact HX.out.trans (exX : Ext mm m2)
   case measure => simp [intOf] <;> omega
  ·obtain rfl : j = J := by omega
   have rr2 : Hid (RowA 101 3 ColR mc2 (.slice A7 j c7) j (colsG rs l j) Rc) := RowA.le ColR.mono rr.out leX
   have hrs7 := IntL.le hrs6 (leX : Le mm mc2)
   have hrw7 := IntL.le hrw6 (leX : Le mm mc2)
   clear rr hrs6 hrw6 hA hrs5 hrw
   go_wp2_with (first | go_skip | refine tP ?_ | (refine tS ?_; clear hL; intro _ hL) | (refine tB ?_; clear hL; intro _ _ hL _) | (refine tC ?_; clear hL; intro _ _ hL _ hBs))
   clear hlt hj
   have hL6 := hL
   have hcl := rr2.out
   clear hL rr2 e7
   go_loopw [6] (fun i wr => ∃ (k : Nat) (mm : World) (A8 : Option Addr) (c8 : Nat) (Rr : List Lo), k ≤ K ∧ i = .int .i64 k ∧ Loc w m wr mm ((Wc0.heap.size, 26, #[.int .i64 6, .slice A5 q c5, .int .i64 (a0 % 30), .slice A7 j c7, .slice A8 k c8]) :: (w.heap.size, 26, #[.int .i64 0, .slice none 0 0, .int .i64 0, .slice none 0 0, .slice none 0 0]) :: (Rc ++ Rr)) ∧ Hid (RowA 34 2 CutR mm (.slice A8 k c8) k (cutsG rs l k) Rr) ∧ Hid (RowA 101 3 ColR mm (.slice A7 j c7) j (colsG rs l j) Rc) ∧ Hid (IntL mm (.slice A5 q c5) rs) ∧ Hid (IntL mm (.slice A4 q c4) rs)) (fun i _ => K - (intOf i).toNat)
   case atStart => exact ⟨0, mc2, none, 0, [], Nat.zero_le _, rfl, by rw [List.append_nil]; exact hL6, RowA.nil, hcl, hrw7, hrs7⟩
   case round =>
    clear hL6 hcl hrs7 hrw7
    obtain ⟨k, mm, A8, c8, Rr, hk, rfl, hL, RC, hcl, hrw, hrs⟩ := hrel
    have hM := hL.mext
    have hA := h.le hM.le
    clear hM
    go_wp2_with (first | go_skip | refine tP ?_ | (refine tS ?_; clear hL; intro _ hL) | (refine tB ?_; clear hL; intro _ _ hL _) | (refine tC ?_; clear hL; intro _ _ hL _ hBs))
    refine (d_AtE _ _ _ l _ 3 a3 _ _ hL.vw (hA.le leX) HN HL E3 rfl (by omega)).mono ?_
    rintro e Wc3 ⟨_, mc3, rfl, hE, hMc3, hV, rfl⟩
    replace hL := hL.call hE (by assumption) hV; clear hE hV
    by_cases hlt : k < K
    ·obtain ⟨a20, E20, p20, p20'⟩ := atX l (20 + k) (by omega)
     obtain ⟨a24, E24, p24, p24'⟩ := atX l (24 + k) (by omega)
     have e20 : a20 % (q : Int) = ((a20 % q).toNat : Int) := by have := Int.emod_nonneg a20 (b := q) (by omega); omega
     have hsk : (a20 % q).toNat < q := by have := Int.emod_lt_of_pos a20 (b := q) (by omega); omega
     generalize (a20 % q).toNat = sk at *
     have HS20 : Hid ((sk : Int) = a20 % q) := e20.symm
     have hlong : 2 < (cutT rs sk q).length := HC.out sk hsk
     go_wp2_with (first | go_skip | refine tP ?_ | (refine tS ?_; clear hL; intro _ hL) | (refine tB ?_; clear hL; intro _ _ hL _) | (refine tC ?_; clear hL; intro _ _ hL _ hBs))
     refine (d_AtE _ _ _ l _ (20 + k) a20 _ _ hL.vw (hA.le leX) HN HL E20 (by omega) (by omega)).mono ?_
     rintro e Wc4 ⟨_, mc4, rfl, hE, hMc4, hV, rfl⟩
     replace hL := hL.call hE (by assumption) hV; clear hE hV
     have hrs4 := IntL.le hrs.out (leX : Le mm mc4)
     have RC4 : Hid (RowA 34 2 CutR mc4 (.slice A8 k c8) k (cutsG rs l k) Rr) := RowA.le CutR.mono' RC.out leX
     have hcl4 : Hid (RowA 101 3 ColR mc4 (.slice A7 j c7) j (colsG rs l j) Rc) := RowA.le ColR.mono hcl.out leX
     have hrw4 : Hid (IntL mc4 (.slice A5 q c5) rs) := IntL.le hrw.out leX
     clear RC hcl hrw hrs
     go_wp2_with (first | go_skip | refine tP ?_ | (refine tS ?_; clear hL; intro _ hL) | (refine tB ?_; clear hL; intro _ _ hL _) | (refine tC ?_; clear hL; intro _ _ hL _ hBs))
     go_loopw [9] (fun i wr => ∃ (i9 : Nat) (m3 : World) (A9 : Option Addr) (n9 c9 : Nat) (Rx : List Lo), i9 ≤ q ∧ i = .int .i64 i9 ∧ Loc w m wr m3 ((Wc3.heap.size, 34, #[.slice A9 n9 c9, .int .i64 2]) :: (Wc0.heap.size, 26, #[.int .i64 6, .slice A5 q c5, .int .i64 (a0 % 30), .slice A7 j c7, .slice A8 k c8]) :: (w.heap.size, 26, #[.int .i64 0, .slice none 0 0, .int .i64 0, .slice none 0 0, .slice none 0 0]) :: ((Rc ++ Rr) ++ Rx)) ∧ Hid (RowA 3 1 IsI m3 (.slice A9 n9 c9) n9 (cutT rs sk i9) Rx) ∧ Ext mc4 m3) (fun i _ => q - (intOf i).toNat)
     case atStart => exact ⟨0, mc4, none, 0, 0, [], Nat.zero_le _, rfl, by rw [List.append_nil]; exact hL, RowA.nil, Ext.refl _⟩
     case round =>
      clear hL
      obtain ⟨i9, m3, A9, n9, c9, Rx, hi9, rfl, hL, rx, hX⟩ := hrel
      have hrs3 := IntL.le hrs4 hX.le
      have HX9 := Lib.hid hX
      have hn9 : n9 ≤ i9 := by have := rx.out.len; have := cutT_len rs sk i9; omega
      clear hX
      by_cases hlt3 : i9 < q
      ·obtain ⟨f, hf⟩ := at_some HQ hlt3
       obtain ⟨b1, o1, rfl, hc1⟩ := IntL.at_ hrs3 hf
       by_cases hs : i9 = sk
       ·have bs : ((i9 : Int) != (sk : Int)) = false := by simp [hs]
        by_cases hq3 : q = 3
        ·have bq : ((q : Int) == 3) = true := by simp [hq3]
         have HT : Hid (cutT rs sk (i9 + 1) = cutT rs sk i9 ++ [f]) := by show _ = _; exact cutT_in hf (.inr (by rw [HQ.out]; exact hq3))
         clear hs hq3 hf
         go_upto_region 17 with ((first | go_skip | refine tP ?_ | (refine tS ?_; clear hL; intro _ hL) | (refine tB ?_; clear hL; intro _ _ hL _) | (refine tC ?_; clear hL; intro _ _ hL _ hBs)))
         clear e3' e20
         (try simp only [eq_self] at *)
         refine wp_region_by2 7 [false, false, false, false, false, false, false] [false, false, false, false, false, false, false] [(fun v _ _ => v = ?c17_0a), (fun v _ _ => v = ?c17_1a), (fun v _ _ => v = ?c17_2a), (fun v _ _ => v = ?c17_3a), (fun v _ _ => v = ?c17_4a), (fun v _ _ => v = ?c17_5a), (NewS1 3 (fun _ v => v = .agg #[.int .i64 f]))] hL.vw mixed [84, 85, 86, 87, 88, 89, 90] _ (by kernel_rfl) (fun vs => by simp only [lay, Act.put, zq1, zq2, zq3]; rfl) (by kernel_rfl) (by decide) (by decide) ?s17a ?l17a ?r17a
         case s17a =>
          refine ⟨?_, ?_, ?_, ?_, ?_, ?_, ?_, trivial⟩
          ·intro vs W1 m1 hE hM hV hD; clear hD
           exact sFe
          ·intro vs W1 m1 hE hM hV hD; obtain ⟨⟨_, _, -, -, f84⟩, -⟩ := hD
           rw [(f84 : vs 84 = _)]; clear f84; exact sLe
          ·intro vs W1 m1 hE hM hV hD; clear hD
           exact sPw
          ·intro vs W1 m1 hE hM hV hD; clear hD
           exact sPw
          ·intro vs W1 m1 hE hM hV hD; obtain ⟨⟨_, _, -, -, f86⟩, ⟨_, _, -, -, f87⟩, -⟩ := hD
           rw [(f86 : vs 86 = _), (f87 : vs 87 = _)]; clear f86 f87; exact sIy
          ·intro vs W1 m1 hE hM hV hD; obtain ⟨⟨_, _, -, -, f88⟩, -⟩ := hD
           rw [(f88 : vs 88 = _)]; clear f88; exact sLe
          ·intro vs W1 m1 hE hM hV hD; obtain ⟨⟨_, _, -, -, f89⟩, -⟩ := hD
           rw [(f89 : vs 89 = _)]
           clear f89
           (go_wp2_with fail; exact one2_s1 hV fun _ _ => rfl)
         case l17a =>
          refine ⟨nF, nF, nF, nF, nF, nF, nF, trivial⟩
         intro vs W1 m1 hE hM hV hF hD
         clear hD
         obtain ⟨-, ⟨_, _, -, -, f85⟩, -, -, -, -, ⟨_, _, j90, i90, f90⟩, -⟩ := hF
         replace hL := hL.call hE hM hV
         have f85 : vs 85 = _ := f85
         generalize vs 85 = x85 at f85 ⊢
         subst x85
         clear hE hV
         obtain ⟨g15, cs15, e15, q15, f15⟩ := f90
         generalize vs 90 = x15 at e15 ⊢
         subst x15
         replace q15 := q15.ext j90
         have f16 : Value.agg cs15 = .agg #[.int .i64 f] := f15
         injection f16 with f16
         subst f16
         clear f15 i90 j90
         simp only [List.drop_succ_cons, List.drop_zero]
         obtain ⟨vs7, r7, z7, y7, l7⟩ := rx.out
         refine wl_append (A := _ :: _ :: _ :: (Rc ++ Rr)) hL r7 (wanted_none rfl) rfl ap_ints (by omega) rfl rfl (news := [.int .i64 f]) rfl (Blk.sl q15 (n := 1) rfl) rfl (by omega) (by omega) ?_
         clear hL
         intro v1 W2 m2 R2 hL r8 e8
         obtain ⟨A11, c11, rfl, -⟩ := r8.lit
         simp only [List.cons_append] at hL
         have rx2 := RowA.snocV (R := IsI) (m := m2) (x := f) r8 z7 (y7.mono fun _ _ h => h) l7 rfl rfl rfl
         rw [← HT.out] at rx2
         have RX2 := Lib.hid rx2
         clear rx2 r7 z7 y7 l7 r8
         simp only [Act.put, zq1, zq2, zq3]
         go_wp2_with (first | go_skip | refine tP ?_ | (refine tS ?_; clear hL; intro _ hL) | (refine tB ?_; clear hL; intro _ _ hL _) | (refine tC ?_; clear hL; intro _ _ hL _ hBs))
         refine QN.mk ?_
         go_wp2_with (first | go_skip | refine tP ?_ | (refine tS ?_; clear hL; intro _ hL) | (refine tB ?_; clear hL; intro _ _ hL _) | (refine tC ?_; clear hL; intro _ _ hL _ hBs))
         go_roundw
         case rel => exact ⟨i9 + 1, m2, A11, n9 + 1, c11, R2, by omega, by go_num, hL, RX2.out, HX9.out.trans (exX : Ext m3 m2)⟩
         case measure => simp [intOf] <;> omega
        ·have bq : ((q : Int) == 3) = false := by simp; omega
         have HT : Hid (cutT rs sk (i9 + 1) = cutT rs sk i9) := by show _ = _; exact cutT_out (by rw [HQ.out]; omega)
         clear hs hq3 hf
         go_wp2_with (first | go_skip | refine tP ?_ | (refine tS ?_; clear hL; intro _ hL) | (refine tB ?_; clear hL; intro _ _ hL _) | (refine tC ?_; clear hL; intro _ _ hL _ hBs))
         go_roundw
         case rel => exact ⟨i9 + 1, m3, A9, n9, c9, Rx, by omega, by go_num, hL, by rw [HT.out]; exact rx.out, HX9.out⟩
         case measure => simp [intOf] <;> omega
       ·have bs : ((i9 : Int) != (sk : Int)) = true := by simp; omega
        have HT : Hid (cutT rs sk (i9 + 1) = cutT rs sk i9 ++ [f]) := by show _ = _; exact cutT_in hf (.inl hs)
        clear hs hf
        go_upto_region 17 with ((first | go_skip | refine tP ?_ | (refine tS ?_; clear hL; intro _ hL) | (refine tB ?_; clear hL; intro _ _ hL _) | (refine tC ?_; clear hL; intro _ _ hL _ hBs)))
        clear e3' e20
        (try simp only [eq_self] at *)
        refine wp_region_by2 7 [false, false, false, false, false, false, false] [false, false, false, false, false, false, false] [(fun v _ _ => v = ?c17_0b), (fun v _ _ => v = ?c17_1b), (fun v _ _ => v = ?c17_2b), (fun v _ _ => v = ?c17_3b), (fun v _ _ => v = ?c17_4b), (fun v _ _ => v = ?c17_5b), (NewS1 3 (fun _ v => v = .agg #[.int .i64 f]))] hL.vw mixed [84, 85, 86, 87, 88, 89, 90] _ (by kernel_rfl) (fun vs => by simp only [lay, Act.put, zq1, zq2, zq3]; rfl) (by kernel_rfl) (by decide) (by decide) ?s17b ?l17b ?r17b
        case s17b =>
         refine ⟨?_, ?_, ?_, ?_, ?_, ?_, ?_, trivial⟩
         ·intro vs W1 m1 hE hM hV hD; clear hD
          exact sFe
         ·intro vs W1 m1 hE hM hV hD; obtain ⟨⟨_, _, -, -, f84⟩, -⟩ := hD
          rw [(f84 : vs 84 = _)]; clear f84; exact sLe
         ·intro vs W1 m1 hE hM hV hD; clear hD
          exact sPw
         ·intro vs W1 m1 hE hM hV hD; clear hD
          exact sPw
         ·intro vs W1 m1 hE hM hV hD; obtain ⟨⟨_, _, -, -, f86⟩, ⟨_, _, -, -, f87⟩, -⟩ := hD
          rw [(f86 : vs 86 = _), (f87 : vs 87 = _)]; clear f86 f87; exact sIy
         ·intro vs W1 m1 hE hM hV hD; obtain ⟨⟨_, _, -, -, f88⟩, -⟩ := hD
          rw [(f88 : vs 88 = _)]; clear f88; exact sLe
         ·intro vs W1 m1 hE hM hV hD; obtain ⟨⟨_, _, -, -, f89⟩, -⟩ := hD
          rw [(f89 : vs 89 = _)]
          clear f89
          (go_wp2_with fail; exact one2_s1 hV fun _ _ => rfl)
        case l17b =>
         refine ⟨nF, nF, nF, nF, nF, nF, nF, trivial⟩
        intro vs W1 m1 hE hM hV hF hD
        clear hD
        obtain ⟨-, ⟨_, _, -, -, f85⟩, -, -, -, -, ⟨_, _, j90, i90, f90⟩, -⟩ := hF
        replace hL := hL.call hE hM hV
        have f85 : vs 85 = _ := f85
        generalize vs 85 = x85 at f85 ⊢
        subst x85
        clear hE hV
        obtain ⟨g15, cs15, e15, q15, f15⟩ := f90
        generalize vs 90 = x15 at e15 ⊢
        subst x15
        replace q15 := q15.ext j90
        have f16 : Value.agg cs15 = .agg #[.int .i64 f] := f15
        injection f16 with f16
        subst f16
        clear f15 i90 j90
        simp only [List.drop_succ_cons, List.drop_zero]
        obtain ⟨vs7, r7, z7, y7, l7⟩ := rx.out
        refine wl_append (A := _ :: _ :: _ :: (Rc ++ Rr)) hL r7 (wanted_none rfl) rfl ap_ints (by omega) rfl rfl (news := [.int .i64 f]) rfl (Blk.sl q15 (n := 1) rfl) rfl (by omega) (by omega) ?_
        clear hL
        intro v1 W2 m2 R2 hL r8 e8
        obtain ⟨A11, c11, rfl, -⟩ := r8.lit
        simp only [List.cons_append] at hL
        have rx2 := RowA.snocV (R := IsI) (m := m2) (x := f) r8 z7 (y7.mono fun _ _ h => h) l7 rfl rfl rfl
        rw [← HT.out] at rx2
        have RX2 := Lib.hid rx2
        clear rx2 r7 z7 y7 l7 r8
        simp only [Act.put, zq1, zq2, zq3]
        go_wp2_with (first | go_skip | refine tP ?_ | (refine tS ?_; clear hL; intro _ hL) | (refine tB ?_; clear hL; intro _ _ hL _) | (refine tC ?_; clear hL; intro _ _ hL _ hBs))
        refine QN.mk ?_
        go_wp2_with (first | go_skip | refine tP ?_ | (refine tS ?_; clear hL; intro _ hL) | (refine tB ?_; clear hL; intro _ _ hL _) | (refine tC ?_; clear hL; intro _ _ hL _ hBs))
        go_roundw
        case rel => exact ⟨i9 + 1, m2, A11, n9 + 1, c11, R2, by omega, by go_num, hL, RX2.out, HX9.out.trans (exX : Ext m3 m2)⟩
        case measure => simp [intOf] <;> omega
      ·obtain rfl : q = i9 := by omega
       obtain ⟨m7, hL7, hle7, hil, -⟩ := RowA.show (A := _ :: _ :: _ :: (Rc ++ Rr)) IsI.mono hL rx.out
       have hle47 : Le mc4 m7 := Le.trans HX9.out.le hle7
       have hn2 : 2 < n9 := by rw [rx.out.len]; exact hlong
       clear hL hlt3
       have hL := hL7
       clear hL7
       have hA7 := h.le hL.mext.le
       clear hA
       by_cases ha : a24 % 2 = 1
       ·have bA := bt ha
        have HD : Hid ((3 : Int) = if a24 % 2 = 1 then 3 else 2) := by show _ = _; rw [if_pos ha]
        clear ha
        go_wp2_with (first | go_skip | refine tP ?_ | (refine tS ?_; clear hL; intro _ hL) | (refine tB ?_; clear hL; intro _ _ hL _) | (refine tC ?_; clear hL; intro _ _ hL _ hBs))
        refine (d_AtE _ _ _ l _ (24 + k) a24 _ _ hL.vw (hA7.le leX) HN HL E24 (by omega) (by omega)).mono ?_
        rintro e Wc5 ⟨_, mc5, rfl, hE, hMc5, hV, rfl⟩
        replace hL := hL.call hE (by assumption) hV; clear hE hV
        have RC5 : Hid (RowA 34 2 CutR mc5 (.slice A8 k c8) k (cutsG rs l k) Rr) := RowA.le CutR.mono' RC4.out (Le.trans hle47 leX)
        have hcl5 := RowA.le ColR.mono hcl4.out (Le.trans hle47 (leX : Le m7 mc5))
        have hrw5 := IntL.le hrw4.out (Le.trans hle47 (leX : Le m7 mc5))
        have hrs5 := IntL.le hrs4 (Le.trans hle47 (leX : Le m7 mc5))
        have hil5 := IntL.le hil (leX : Le m7 mc5)
        clear RC4 hcl4 hrw4 hrs4 hil hrs3 rx
        go_wp2_with (first | go_skip | refine tP ?_ | (refine tS ?_; clear hL; intro _ hL) | (refine tB ?_; clear hL; intro _ _ hL _) | (refine tC ?_; clear hL; intro _ _ hL _ hBs))
        refine goA ?_
        obtain ⟨vs8, r8, z8, y8, l8⟩ := RC5.out
        refine wl_append (A := _ :: _ :: _ :: Rc) hL r8 (wanted_none rfl) rfl ap_Cuts (by omega) rfl rfl (news := [.slice A9 n9 c9, .int .i64 3]) rfl ((Blk.sl hBs (n := 2) rfl).le hL.vw.le) rfl (by omega) (by omega) ?_
        clear hL
        intro v9 W9 m9 R9 hL r9 e9
        obtain ⟨A10, c10, rfl, -⟩ := r9.lit
        simp only [List.cons_append, List.nil_append] at hL
        have hle9 : Le mc5 m9 := leX
        have rc9 := RowA.snoc (R := CutR) (m := m9) (x := (cutT rs sk q, 3)) r9 z8 (y8.mono fun v x hv => CutR.le hv hle9) l8 rfl ⟨_, rfl, IntL.le hil5 hle9, Nat.le_trans (cutT_len rs sk q) (by omega)⟩
        rw [cutsG_snoc rs l k sk q HQ E20 E24 HS20.out _ HD.out] at rc9
        have RC9 := Lib.hid rc9
        have HC9 := Lib.hid (RowA.le ColR.mono hcl5 hle9)
        have HW9 := Lib.hid (IntL.le hrw5 hle9)
        have HR9 := Lib.hid (IntL.le hrs5 hle9)
        clear rc9 r8 z8 y8 l8 r9 hcl5 hrw5 hrs5 hil5 RC5
        simp only [Act.put, zq1, zq2, zq3]
        go_wp2_with (first | go_skip | refine tP ?_ | (refine tS ?_; clear hL; intro _ hL) | (refine tB ?_; clear hL; intro _ _ hL _) | (refine tC ?_; clear hL; intro _ _ hL _ hBs))
        go_roundw
        case rel => exact ⟨k + 1, m9, A10, c10, R9, by omega, by go_num, hL.tail, RC9.out, HC9.out, HW9.out, HR9.out⟩
        case measure => simp [intOf] <;> omega
       ·have bA := bf ha
        have HD : Hid ((2 : Int) = if a24 % 2 = 1 then 3 else 2) := by show _ = _; rw [if_neg ha]
        clear ha
        go_wp2_with (first | go_skip | refine tP ?_ | (refine tS ?_; clear hL; intro _ hL) | (refine tB ?_; clear hL; intro _ _ hL _) | (refine tC ?_; clear hL; intro _ _ hL _ hBs))
        refine (d_AtE _ _ _ l _ (24 + k) a24 _ _ hL.vw (hA7.le leX) HN HL E24 (by omega) (by omega)).mono ?_
        rintro e Wc5 ⟨_, mc5, rfl, hE, hMc5, hV, rfl⟩
        replace hL := hL.call hE (by assumption) hV; clear hE hV
        have RC5 : Hid (RowA 34 2 CutR mc5 (.slice A8 k c8) k (cutsG rs l k) Rr) := RowA.le CutR.mono' RC4.out (Le.trans hle47 leX)
        have hcl5 := RowA.le ColR.mono hcl4.out (Le.trans hle47 (leX : Le m7 mc5))
        have hrw5 := IntL.le hrw4.out (Le.trans hle47 (leX : Le m7 mc5))
        have hrs5 := IntL.le hrs4 (Le.trans hle47 (leX : Le m7 mc5))
        have hil5 := IntL.le hil (leX : Le m7 mc5)
        clear RC4 hcl4 hrw4 hrs4 hil hrs3 rx
        go_wp2_with (first | go_skip | refine tP ?_ | (refine tS ?_; clear hL; intro _ hL) | (refine tB ?_; clear hL; intro _ _ hL _) | (refine tC ?_; clear hL; intro _ _ hL _ hBs))
        refine goA ?_
        obtain ⟨vs8, r8, z8, y8, l8⟩ := RC5.out
        refine wl_append (A := _ :: _ :: _ :: Rc) hL r8 (wanted_none rfl) rfl ap_Cuts (by omega) rfl rfl (news := [.slice A9 n9 c9, .int .i64 2]) rfl ((Blk.sl hBs (n := 2) rfl).le hL.vw.le) rfl (by omega) (by omega) ?_
        clear hL
        intro v9 W9 m9 R9 hL r9 e9
        obtain ⟨A10, c10, rfl, -⟩ := r9.lit
        simp only [List.cons_append, List.nil_append] at hL
        have hle9 : Le mc5 m9 := leX
        have rc9 := RowA.snoc (R := CutR) (m := m9) (x := (cutT rs sk q, 2)) r9 z8 (y8.mono fun v x hv => CutR.le hv hle9) l8 rfl ⟨_, rfl, IntL.le hil5 hle9, Nat.le_trans (cutT_len rs sk q) (by omega)⟩
        rw [cutsG_snoc rs l k sk q HQ E20 E24 HS20.out _ HD.out] at rc9
        have RC9 := Lib.hid rc9
        have HC9 := Lib.hid (RowA.le ColR.mono hcl5 hle9)
        have HW9 := Lib.hid (IntL.le hrw5 hle9)
        have HR9 := Lib.hid (IntL.le hrs5 hle9)
        clear rc9 r8 z8 y8 l8 r9 hcl5 hrw5 hrs5 hil5 RC5
        simp only [Act.put, zq1, zq2, zq3]
        go_wp2_with (first | go_skip | refine tP ?_ | (refine tS ?_; clear hL; intro _ hL) | (refine tB ?_; clear hL; intro _ _ hL _) | (refine tC ?_; clear hL; intro _ _ hL _ hBs))
        go_roundw
        case rel => exact ⟨k + 1, m9, A10, c10, R9, by omega, by go_num, hL.tail, RC9.out, HC9.out, HW9.out, HR9.out⟩
        case measure => simp [intOf] <;> omega
    ·obtain rfl : k = K := by omega
     have RC3 : Hid (RowA 34 2 CutR mc3 (.slice A8 k c8) k (cutsG rs l k) Rr) := RowA.le CutR.mono' RC.out leX
     have hcl3 := Lib.hid (RowA.le ColR.mono hcl.out (leX : Le mm mc3))
     have hrw3 := Lib.hid (IntL.le hrw.out (leX : Le mm mc3))
     clear RC hcl hrw hrs
     go_wp2_with (first | go_skip | refine tP ?_ | (refine tS ?_; clear hL; intro _ hL) | (refine tB ?_; clear hL; intro _ _ hL _) | (refine tC ?_; clear hL; intro _ _ hL _ hBs))
     obtain ⟨m8, hL8, hle8, hcu, -⟩ := RowA.show (A := _ :: _ :: Rc) CutR.mono' hL RC3.out
     have hcl8 := RowA.le ColR.mono hcl3.out hle8
     have hcl9 := hcl8.len
     refine fin_aggP hL Tryz.results14 rfl rfl loX ag_Master (by exact rfl) ?_
     unfold masF MasPost
     rw [HR.out, E0.out, E2'.out, E3'.out]
     refine ⟨m8, A5, q, c5, A7, c7, A8, k, c8, Rc, ?_, hL8.tail.tail, ?_, IntL.le hrw3.out hle8, hcu⟩
     ·rw [← hcl9]
     ·rw [← hcl9]; exact hcl8
end Go.Proofs.YtniigfikpfinfaaGreat

/- Weights of classes of columns: what is listed costs no more than the weights. Plain sums, no program. -/
namespace Go.Proofs.YtniigfikpfinfaaGreat

def smN (h : Nat → Int) : Nat → Int
 | 0 => 0
 | n + 1 => smN h n + h n
theorem smN_congr {h g : Nat → Int} : ∀ {n : Nat}, (∀ k, k < n → h k = g k) → smN h n = smN g n
 | 0, _ => rfl
 | n + 1, e => by
  show smN h n + h n = smN g n + g n
  rw [smN_congr fun k hk => e k (by omega), e n (by omega)]
theorem smN_zero {h : Nat → Int} : ∀ {n : Nat}, (∀ k, k < n → h k = 0) → smN h n = 0
 | 0, _ => rfl
 | n + 1, e => by
  show smN h n + h n = 0
  rw [smN_zero fun k hk => e k (by omega), e n (by omega)]; rfl
theorem smN_le {h g : Nat → Int} : ∀ {n : Nat}, (∀ k, k < n → h k ≤ g k) → smN h n ≤ smN g n
 | 0, _ => Int.le_refl _
 | n + 1, e => Int.add_le_add (smN_le fun k hk => e k (by omega)) (e n (by omega))
theorem smN_add (h g : Nat → Int) : ∀ n, smN (fun k => h k + g k) n = smN h n + smN g n
 | 0 => rfl
 | n + 1 => by
  show smN (fun k => h k + g k) n + (h n + g n) = (smN h n + h n) + (smN g n + g n)
  rw [smN_add h g n]; omega
theorem smN_mul (h : Nat → Int) (c : Int) : ∀ n, smN (fun k => h k * c) n = smN h n * c
 | 0 => by simp [smN]
 | n + 1 => by
  show smN (fun k => h k * c) n + h n * c = (smN h n + h n) * c
  rw [smN_mul h c n, Int.add_mul]
theorem smN_one (c : Int) (b : Nat) : ∀ n, smN (fun k => if k = b then c else 0) n = if b < n then c else 0
 | 0 => by rw [if_neg (by omega)]; rfl
 | n + 1 => by
  show smN (fun k => if k = b then c else 0) n + (if n = b then c else 0) = _
  rw [smN_one c b n]
  by_cases h1 : b < n
  ·rw [if_pos h1, if_neg (by omega), if_pos (by omega)]; omega
  ·by_cases h2 : n = b
   ·rw [if_neg h1, if_pos h2, if_pos (by omega)]; omega
   ·rw [if_neg h1, if_neg h2, if_neg (by omega)]; rfl
def smT (T : List Nat) (h : Nat → Int) : Int := (T.map h).foldr (· + ·) 0
theorem smT_cons (t : Nat) (T : List Nat) (h : Nat → Int) : smT (t :: T) h = h t + smT T h := rfl
theorem smT_nonneg {h : Nat → Int} : ∀ {T : List Nat}, (∀ t ∈ T, 0 ≤ h t) → 0 ≤ smT T h
 | [], _ => Int.le_refl _
 | t :: T, e => by
  rw [smT_cons]
  have := e t List.mem_cons_self
  have := smT_nonneg (T := T) fun x hx => e x (List.mem_cons_of_mem _ hx)
  omega
theorem smT_zero {h : Nat → Int} : ∀ {T : List Nat}, (∀ t ∈ T, h t = 0) → smT T h = 0
 | [], _ => rfl
 | t :: T, e => by
  rw [smT_cons, e t List.mem_cons_self, smT_zero fun x hx => e x (List.mem_cons_of_mem _ hx)]; rfl
theorem smT_add (h g : Nat → Int) : ∀ T, smT T (fun t => h t + g t) = smT T h + smT T g
 | [] => rfl
 | t :: T => by rw [smT_cons, smT_cons, smT_cons, smT_add h g T]; omega
section
variable (op : Nat → List Int) (z : Nat → Int)
def clS (h : Nat → Int) (n t : Nat) : Int := smN (fun k => if op k = op t then h k else 0) n
theorem smT_one {x : Int} {k : Nat} : ∀ {T : List Nat}, T.Pairwise (fun a b => op a ≠ op b) → (∃ t ∈ T, op k = op t) → smT T (fun t => if op k = op t then x else 0) = x
 | [], _, ⟨_, h, _⟩ => by cases h
 | t :: T, hp, he => by
  obtain ⟨h1, h2⟩ := List.pairwise_cons.1 hp
  rw [smT_cons]
  by_cases hk : op k = op t
  ·rw [if_pos hk, smT_zero fun u hu => if_neg fun e => h1 u hu (hk.symm.trans e)]; omega
  ·rw [if_neg hk, smT_one h2 ?_]
   ·omega
   ·obtain ⟨u, hu, e⟩ := he
    rcases List.mem_cons.1 hu with rfl | hu
    ·exact absurd e hk
    ·exact ⟨u, hu, e⟩
theorem part_all {h : Nat → Int} {T : List Nat} (hp : T.Pairwise (fun a b => op a ≠ op b)) : ∀ {n : Nat}, (∀ k, k < n → h k ≠ 0 → ∃ t ∈ T, op k = op t) → smN h n = smT T (clS op h n)
 | 0, _ => (smT_zero fun _ _ => rfl).symm
 | n + 1, e => by
  show smN h n + h n = smT T (fun t => clS op h n t + if op n = op t then h n else 0)
  rw [smT_add, ← part_all hp fun k hk => e k (by omega)]
  by_cases h0 : h n = 0
  ·rw [h0, smT_zero fun t _ => by split <;> rfl]
  ·rw [smT_one op hp (e n (by omega) h0)]
structure WOk (n : Nat) (T : List Nat) : Prop where
 nn : ∀ k, k < n → 0 ≤ z k
 cov : ∀ k, k < n → 0 < z k → ∃ t ∈ T, op k = op t
 cap : ∀ t ∈ T, clS op z n t ≤ 9
 full : ∀ t ∈ T, 2 ≤ (op t).length → clS op z n t = 9
 ne : ∀ t ∈ T, op t ≠ []
 dis : T.Pairwise fun a b => ∀ r, r ∈ op a → r ∉ op b
variable {op z}
theorem WOk.same {n : Nat} {T : List Nat} (h : WOk op z n T) {a b : Nat} (ha : a ∈ T) (hb : b ∈ T) {r : Int} (h1 : r ∈ op a) (h2 : r ∈ op b) : op a = op b := by
 by_cases e : a = b
 ·rw [e]
 ·obtain ⟨i, hi, rfl⟩ := List.getElem_of_mem ha
  obtain ⟨j, hj, rfl⟩ := List.getElem_of_mem hb
  have hp := List.pairwise_iff_getElem.1 h.dis
  rcases Nat.lt_trichotomy i j with hij | hij | hij
  ·exact absurd h2 (hp i j hi hj hij r h1)
  ·subst hij; exact absurd rfl e
  ·exact absurd h1 (hp j i hj hi hij r h2)
theorem WOk.diff {n : Nat} {T : List Nat} (h : WOk op z n T) : T.Pairwise fun a b => op a ≠ op b := by
 refine List.pairwise_iff_getElem.2 fun i j hi hj hij e => ?_
 have hp := List.pairwise_iff_getElem.1 h.dis i j hi hj hij
 have hne := h.ne _ (List.getElem_mem hi)
 cases ho : op T[i] with
 | nil => exact hne ho
 | cons r l =>
  refine hp r (by rw [ho]; exact List.mem_cons_self) ?_
  rw [← e, ho]; exact List.mem_cons_self
theorem WOk.pick {n : Nat} {T : List Nat} (h : WOk op z n T) (F : List Int → Prop) [DecidablePred F] {r : Int} (hF : ∀ l, F l → r ∈ l) :
  (∃ t ∈ T, F (op t) ∧ smN (fun k => if F (op k) then z k else 0) n = clS op z n t) ∨ smN (fun k => if F (op k) then z k else 0) n = 0 := by
 by_cases he : ∃ t ∈ T, F (op t)
 ·obtain ⟨t, ht, hf⟩ := he
  refine .inl ⟨t, ht, hf, smN_congr fun k hk => ?_⟩
  by_cases h0 : z k = 0
  ·rw [h0]; split <;> split <;> rfl
  ·have hp := h.nn k hk
   obtain ⟨u, hu, e⟩ := h.cov k hk (by omega)
   by_cases hk2 : F (op k)
   ·rw [if_pos hk2, if_pos]
    rw [e, h.same hu ht (hF _ (e ▸ hk2)) (hF _ hf)]
   ·rw [if_neg hk2, if_neg fun e2 : op k = op t => hk2 (by rw [e2]; exact hf)]
 ·refine .inr (smN_zero fun k hk => ?_)
  by_cases h0 : z k = 0
  ·rw [h0]; split <;> rfl
  ·have hp := h.nn k hk
   obtain ⟨u, hu, e⟩ := h.cov k hk (by omega)
   exact if_neg fun hf => he ⟨u, hu, e ▸ hf⟩
variable {co : Nat → Int} {pen : Int} {X : Nat → Bool}
theorem WOk.one {n : Nat} {T : List Nat} (h : WOk op z n T) {t : Nat} (ht : t ∈ T)
  (hX : ∀ k, X k = true → 0 < z k)
  (hB : (∃ k, k < n ∧ op k = op t ∧ 0 < z k) → ∃ b, b < n ∧ op b = op t ∧ 0 < z b ∧ (∀ k, k < n → op k = op t → 0 < z k → co b ≤ co k ∧ (X k = true → k = b)) ∧ X b = !(decide ((op b).length = 1) && decide (pen ≤ co b))) :
  0 ≤ clS op (fun k => z k * (co k - pen * (op k).length) + if X k = true then -(9 * (co k - pen * (op k).length)) else 0) n t := by
 by_cases he : ∃ k, k < n ∧ op k = op t ∧ 0 < z k
 ·obtain ⟨b, hb, eb, pb, hlow, hxb⟩ := hB he
  have key : smN (fun k => (if op k = op t then z k else 0) * (co b - pen * (op b).length) + if k = b then (if X b = true then -(9 * (co b - pen * (op b).length)) else 0) else 0) n ≤
    clS op (fun k => z k * (co k - pen * (op k).length) + if X k = true then -(9 * (co k - pen * (op k).length)) else 0) n t := by
   refine smN_le fun k hk => ?_
   by_cases ek : op k = op t
   ·rw [if_pos ek, if_pos ek]
    by_cases h0 : z k = 0
    ·have hkb : k ≠ b := fun e => by rw [e] at h0; omega
     have hxk : ¬ X k = true := fun e => by have := hX k e; omega
     (try simp only)
     rw [h0, if_neg hkb, if_neg hxk]; simp
    ·have hp := h.nn k hk
     obtain ⟨h1, h2⟩ := hlow k hk ek (by omega)
     have hl : (op k).length = (op b).length := by rw [ek, eb]
     have hm : z k * (co b - pen * (op b).length) ≤ z k * (co k - pen * (op k).length) := Int.mul_le_mul_of_nonneg_left (by rw [hl]; omega) hp
     (try simp only)
     by_cases hkb : k = b
     ·subst hkb; rw [if_pos rfl]; exact Int.add_le_add_right hm _
     ·rw [if_neg hkb, if_neg fun e => hkb (h2 e)]; omega
   ·have hkb : k ≠ b := fun e => ek (e ▸ eb)
    rw [if_neg ek, if_neg ek, if_neg hkb]; simp
  refine Int.le_trans ?_ key
  rw [smN_add, smN_mul, smN_one, if_pos hb]
  show 0 ≤ clS op z n t * _ + _
  have hcap := h.cap t ht
  have h0 : 0 ≤ clS op z n t := by
   have : smN (fun _ => 0) n ≤ clS op z n t := smN_le fun k hk => by
    have := h.nn k hk
    split <;> omega
   rwa [smN_zero fun _ _ => rfl] at this
  have hfull := h.full t ht
  rw [← eb] at hfull
  generalize hg : co b - pen * ((op b).length : Int) = g at *
  generalize clS op z n t = S at *
  have hne : op b ≠ [] := by rw [eb]; exact h.ne t ht
  have hlen : 0 < (op b).length := List.length_pos_iff.2 hne
  by_cases h1 : (op b).length = 1
  ·rw [h1] at hg
   by_cases hc : pen ≤ co b
   ·rw [h1, decide_eq_true rfl, decide_eq_true hc] at hxb
    rw [if_neg (by rw [hxb]; simp)]
    have := Int.mul_nonneg h0 (show 0 ≤ g by omega)
    omega
   ·rw [decide_eq_false hc, Bool.and_false] at hxb
    rw [if_pos (by rw [hxb]; rfl)]
    have := Int.mul_nonneg (show 0 ≤ 9 - S by omega) (show 0 ≤ -g by omega)
    rw [Int.mul_neg, Int.sub_mul] at this
    omega
  ·have hs := hfull (by omega)
   subst hs
   rw [decide_eq_false h1, Bool.false_and] at hxb
   rw [if_pos (by rw [hxb]; rfl)]
   omega
 ·have : clS op (fun k => z k * (co k - pen * (op k).length) + if X k = true then -(9 * (co k - pen * (op k).length)) else 0) n t = 0 := smN_zero fun k hk => by
   by_cases ek : op k = op t
   ·have h0 := h.nn k hk
    have hz : z k = 0 := by
     by_cases hz : z k = 0
     ·exact hz
     ·exact absurd ⟨k, hk, ek, by omega⟩ he
    rw [if_pos ek]; (try simp only)
    rw [hz, if_neg fun e => by have := hX k e; omega]; simp
   ·rw [if_neg ek]
  omega
theorem WOk.cost {n : Nat} {T : List Nat} (h : WOk op z n T) (hX : ∀ k, X k = true → 0 < z k)
  (hB : ∀ t ∈ T, (∃ k, k < n ∧ op k = op t ∧ 0 < z k) → ∃ b, b < n ∧ op b = op t ∧ 0 < z b ∧ (∀ k, k < n → op k = op t → 0 < z k → co b ≤ co k ∧ (X k = true → k = b)) ∧ X b = !(decide ((op b).length = 1) && decide (pen ≤ co b))) :
  smN (fun k => if X k = true then 9 * (co k - pen * (op k).length) else 0) n ≤ smN (fun k => z k * (co k - pen * (op k).length)) n := by
 have h1 : 0 ≤ smN (fun k => z k * (co k - pen * (op k).length) + if X k = true then -(9 * (co k - pen * (op k).length)) else 0) n := by
  rw [part_all op h.diff fun k hk hz => ?_]
  ·exact smT_nonneg fun t ht => h.one ht hX (hB t ht)
  ·refine h.cov k hk ?_
   have h0 := h.nn k hk
   by_cases e : z k = 0
   ·refine absurd ?_ hz
    rw [e, if_neg fun e => by have := hX k e; omega]; simp
   ·omega
 rw [smN_add] at h1
 have h2 : smN (fun k => if X k = true then -(9 * (co k - pen * (op k).length)) else 0) n = -smN (fun k => if X k = true then 9 * (co k - pen * (op k).length) else 0) n := by
  have := smN_add (fun k => if X k = true then -(9 * (co k - pen * (op k).length)) else 0) (fun k => if X k = true then 9 * (co k - pen * (op k).length) else 0) n
  rw [smN_zero fun k hk => by split <;> omega] at this
  omega
 omega
end
end Go.Proofs.YtniigfikpfinfaaGreat

/- Weights of classes: one class more; sums in ninths; the rounded selection costs no more. No program. -/
namespace Go.Proofs.YtniigfikpfinfaaGreat

theorem WOk.nil {op : Nat → List Int} {n : Nat} : WOk op (fun _ => 0) n [] :=
 ⟨fun _ _ => Int.le_refl _, fun _ _ h => absurd h (by decide), (fun _ h => by cases h), (fun _ h => by cases h), (fun _ h => by cases h), List.Pairwise.nil⟩
theorem WOk.more {op : Nat → List Int} {z z' : Nat → Int} {n : Nat} {T : List Nat} (h : WOk op z n T) {i j : Nat} (hj : j < n) (hne : op j ≠ []) (hd : ∀ t ∈ T, ∀ r, r ∈ op t → r ∉ op j)
  (hi : i = j ∨ (i ≠ j ∧ i < n ∧ op i = op j)) (hz : ∀ k, k ≠ j → k ≠ i → z' k = z k) (hj0 : 0 ≤ z' j) (hi0 : 0 ≤ z' i) {s : Int} (hs : s = if i = j then z' j else z' j + z' i) (hs9 : s ≤ 9) (hs2 : 2 ≤ (op j).length → s = 9) : WOk op z' n (T ++ [j]) := by
 have hij : op i = op j := by rcases hi with rfl | ⟨_, _, e⟩; rfl; exact e
 have hin : i < n := by rcases hi with rfl | ⟨_, e, _⟩; exact hj; exact e
 have hno : ∀ t ∈ T, op t ≠ op j := fun t ht e => by
  cases ho : op j with
  | nil => exact hne ho
  | cons r l =>
   have hr : r ∈ op j := by rw [ho]; exact List.mem_cons_self
   exact hd t ht r (by rw [e]; exact hr) hr
 have h0 : ∀ k, k < n → op k = op j → z k = 0 := fun k hk e => by
  by_cases hz0 : z k = 0
  ·exact hz0
  ·have := h.nn k hk
   obtain ⟨t, ht, e2⟩ := h.cov k hk (by omega)
   exact absurd (e2.symm.trans e) (hno t ht)
 have hcj : clS op z' n j = s := by
  have e1 : clS op z' n j = smN (fun k => (if k = j then z' j else 0) + (if k = i then (if i = j then 0 else z' i) else 0)) n := smN_congr fun k hk => by
   by_cases hkj : k = j
   ·subst hkj
    rw [if_pos rfl, if_pos rfl]
    by_cases hki : k = i
    ·rw [if_pos hki, if_pos hki.symm]; omega
    ·rw [if_neg hki]; omega
   ·rw [if_neg hkj]
    by_cases hki : k = i
    ·subst hki
     rw [if_pos hij, if_pos rfl, if_neg hkj]; omega
    ·rw [if_neg hki]
     by_cases ek : op k = op j
     ·rw [if_pos ek, hz k hkj hki, h0 k hk ek]; rfl
     ·rw [if_neg ek]; rfl
  rw [e1, smN_add, smN_one, smN_one, if_pos hj, if_pos hin, hs]
  split <;> omega
 have hct : ∀ t ∈ T, clS op z' n t = clS op z n t := fun t ht => smN_congr fun k hk => by
  by_cases ek : op k = op t
  ·rw [if_pos ek, if_pos ek]
   refine hz k (fun e => ?_) (fun e => ?_)
   ·subst e; exact hno t ht ek.symm
   ·subst e; exact hno t ht (ek.symm.trans hij)
  ·rw [if_neg ek, if_neg ek]
 refine ⟨fun k hk => ?_, fun k hk hp => ?_, fun t ht => ?_, fun t ht hl => ?_, fun t ht => ?_, ?_⟩
 ·by_cases hkj : k = j
  ·rw [hkj]; exact hj0
  ·by_cases hki : k = i
   ·rw [hki]; exact hi0
   ·rw [hz k hkj hki]; exact h.nn k hk
 ·by_cases hkj : k = j
  ·exact ⟨j, by simp, by rw [hkj]⟩
  ·by_cases hki : k = i
   ·exact ⟨j, by simp, by rw [hki, hij]⟩
   ·rw [hz k hkj hki] at hp
    obtain ⟨t, ht, e⟩ := h.cov k hk hp
    exact ⟨t, List.mem_append_left _ ht, e⟩
 ·rcases List.mem_append.1 ht with ht | ht
  ·rw [hct t ht]; exact h.cap t ht
  ·obtain rfl := List.mem_singleton.1 ht
   rw [hcj]; exact hs9
 ·rcases List.mem_append.1 ht with ht | ht
  ·rw [hct t ht]; exact h.full t ht hl
  ·obtain rfl := List.mem_singleton.1 ht
   rw [hcj]; exact hs2 hl
 ·rcases List.mem_append.1 ht with ht | ht
  ·exact h.ne t ht
  ·obtain rfl := List.mem_singleton.1 ht
   exact hne
 ·rw [List.pairwise_append]
  refine ⟨h.dis, List.pairwise_singleton _ _, fun a ha b hb => ?_⟩
  obtain rfl := List.mem_singleton.1 hb
  exact hd a ha
def upZ (z : Nat → Int) (j : Nat) (x : Int) (k : Nat) : Int := if k = j then x else z k
theorem upZ_at (z : Nat → Int) (j : Nat) (x : Int) : upZ z j x j = x := if_pos rfl
theorem upZ_ne (z : Nat → Int) {j k : Nat} (x : Int) (h : k ≠ j) : upZ z j x k = z k := if_neg h
def ninL (z : Nat → Int) (n : Nat) : List Rat := (List.range n).map fun k => Rat.divInt (z k) 9
theorem ninL_len (z : Nat → Int) (n : Nat) : (ninL z n).length = n := by simp [ninL]
theorem ninL_at {z : Nat → Int} {n k : Nat} (h : k < n) : (ninL z n)[k]? = some (Rat.divInt (z k) 9) := by
 unfold ninL; rw [List.getElem?_map, List.getElem?_range h]; rfl
theorem ninL_set (z : Nat → Int) (n j : Nat) (x : Int) : (ninL z n).set j (Rat.divInt x 9) = ninL (upZ z j x) n := by
 refine List.ext_getElem? fun k => ?_
 rw [List.getElem?_set]
 by_cases hk : k < n
 ·rw [ninL_at hk]
  by_cases e : j = k
  ·subst e; rw [if_pos rfl, if_pos (by rw [ninL_len]; exact hk), ninL_at hk, upZ_at]
  ·rw [if_neg e, ninL_at hk, upZ_ne _ _ (Ne.symm e)]
 ·have h1 : (ninL (upZ z j x) n)[k]? = none := List.getElem?_eq_none (by rw [ninL_len]; omega)
  have h2 : (ninL z n)[k]? = none := List.getElem?_eq_none (by rw [ninL_len]; omega)
  rw [h1]
  by_cases e : j = k
  ·subst e; rw [if_pos rfl, if_neg (by rw [ninL_len]; exact hk)]
  ·rw [if_neg e, h2]
theorem nin_zero : ((0 : Int) : Rat) = Rat.divInt 0 9 := by simp
theorem sumR_nin (ms : Ms) (z : Nat → Int) (r : Int) : ∀ k, k ≤ ms.cols.length → sumR ms.cols (ninL z ms.cols.length) r k = Rat.divInt (smN (fun j => if r ∈ opJ ms j then z j else 0) k) 9
 | 0, _ => nin_zero
 | k + 1, hk => by
  have hc := List.getElem?_eq_getElem (l := ms.cols) (i := k) (by omega)
  have ho : opJ ms k = opF ms.cols[k].2.1 := by unfold opJ; rw [hc]
  rw [sumR_step hc (ninL_at (z := z) (by omega : k < ms.cols.length)), sumR_nin ms z r k (by omega)]
  show _ = Rat.divInt (smN _ k + if r ∈ opJ ms k then z k else 0) 9
  rw [ho]
  by_cases h : r ∈ opF ms.cols[k].2.1
  ·rw [if_pos h, if_pos h, add_same (by decide)]
  ·rw [if_neg h, if_neg h, Int.add_zero]
theorem sumA_nin (ms : Ms) (hn : ∀ c ∈ ms.cols, (opF c.2.1).Nodup) (z : Nat → Int) (p : Int × Int) : ∀ k, k ≤ ms.cols.length → sumAt (entS ms.cols (ninL z ms.cols.length) k) p = Rat.divInt (smN (fun j => if p ∈ pairsOf (opJ ms j) then z j else 0) k) 9
 | 0, _ => by rw [sum_zero]; exact nin_zero
 | k + 1, hk => by
  have hc := List.getElem?_eq_getElem (l := ms.cols) (i := k) (by omega)
  have ho : opJ ms k = opF ms.cols[k].2.1 := by unfold opJ; rw [hc]
  rw [sum_step hc (ninL_at (z := z) (by omega : k < ms.cols.length)) (hn _ (List.getElem_mem _)), sumA_nin ms hn z p k (by omega)]
  show _ = Rat.divInt (smN _ k + if p ∈ pairsOf (opJ ms k) then z k else 0) 9
  rw [ho]
  by_cases h : p ∈ pairsOf (opF ms.cols[k].2.1)
  ·rw [if_pos h, if_pos h, add_same (by decide)]
  ·rw [if_neg h, if_neg h, Int.add_zero]
theorem pairs_mem {l : List Int} {p : Int × Int} (h : p ∈ pairsOf l) : p.1 ∈ l ∧ 2 ≤ l.length := by
 obtain ⟨j, hj⟩ := List.mem_iff_getElem?.1 h
 obtain ⟨h1, h2⟩ := List.getElem?_zip_eq_some.1 hj
 refine ⟨List.mem_of_getElem? h1, ?_⟩
 have := (List.getElem?_eq_some_iff.1 h2).1
 rw [List.length_tail] at this
 omega
theorem nin_lt {a b : Int} : Rat.divInt a 9 < Rat.divInt b 9 ↔ a < b := by
 rw [← Rat.not_le, Rat.le_iff_sub_nonneg, Rat.sub_eq_add_neg, Rat.neg_divInt, ← add_same (by decide), Rat.divInt_nonneg_iff_of_pos_right (by decide)]
 omega
theorem mem_flY {S : List PQ} {bs cs : List Int} {y : PQ} (h : y ∈ flY S bs cs) : y.2 = sumAt S y.1 := by
 obtain ⟨a, -, h⟩ := List.mem_flatMap.1 h
 obtain ⟨c, -, rfl, -⟩ := mem_rowY.1 h
 rfl
theorem rndE_nin {ms : Ms} {z : Nat → Int} {T : List Nat} (ok : MsOk ms) (h : WOk (opJ ms) z ms.cols.length T) : rndE ms (ninL z ms.cols.length) = 0 := by
 unfold rndE
 rw [if_neg, if_neg, if_neg]
 ·rintro ⟨y, hy, hd⟩
  refine hd ?_
  rw [mem_flY hy, sumA_nin ms (fun c hc => (ok.cols c hc).nodup) z y.1 _ (Nat.le_refl _)]
  rcases h.pick (fun l => y.1 ∈ pairsOf l) (r := y.1.1) (fun l hl => (pairs_mem hl).1) with ⟨t, ht, hf, e⟩ | e
  ·rw [e, h.full t ht (pairs_mem hf).2]; rfl
  ·rw [e]; rfl
 ·rintro ⟨r, -, hr⟩
  rw [sumR_nin ms z r _ (Nat.le_refl _), show ((1 : Int) : Rat) = Rat.divInt 9 9 by rfl, nin_lt] at hr
  rcases h.pick (fun l => r ∈ l) (r := r) (fun l hl => hl) with ⟨t, ht, -, e⟩ | e
  ·rw [e] at hr
   have := h.cap t ht
   omega
  ·omega
 ·rintro ⟨u, hu, h0⟩
  obtain ⟨k, hk, rfl⟩ := List.mem_map.1 hu
  rw [show (0 : Rat) = Rat.divInt 0 9 by simp, nin_lt] at h0
  have := h.nn k (List.mem_range.1 hk)
  omega
def gJ (ms : Ms) (j : Nat) : Int := coJ ms j - ms.pen * (opJ ms j).length
def cstL (ms : Ms) (l : List Nat) : Int := l.foldl (fun s j => s + gJ ms j) (ms.pen * ms.rows.length)
theorem foldl_addI (g : Nat → Int) (l : List Nat) : ∀ s : Int, l.foldl (fun s j => s + g j) s = s + l.foldl (fun s j => s + g j) 0 := by
 induction l with
 | nil => intro s; simp
 | cons a l ih => intro s; rw [List.foldl_cons, List.foldl_cons, ih, ih (0 + g a)]; omega
theorem filt_sum (g : Nat → Int) (X : Nat → Bool) : ∀ n, ((List.range n).filter X).foldl (fun s j => s + g j) 0 = smN (fun k => if X k = true then g k else 0) n
 | 0 => rfl
 | n + 1 => by
  rw [List.range_succ, List.filter_append, List.foldl_append, filt_sum g X n]
  show _ = smN _ n + if X n = true then g n else 0
  by_cases h : X n = true
  ·rw [if_pos h]; simp [List.filter_cons, h]
  ·rw [if_neg h]; simp [List.filter_cons, h]
def bndT (ms : Ms) (us : List Rat) (k : Nat) : Rat := ((List.range k).map fun j => us.getD j 0 * ((gJ ms j : Int) : Rat)).foldl (· + ·) ((ms.pen * ms.rows.length : Int) : Rat)
theorem bndT_step {ms : Ms} {us : List Rat} {k : Nat} {x : Rat} (h : us[k]? = some x) : bndT ms us (k + 1) = bndT ms us k + x * ((gJ ms k : Int) : Rat) := by
 unfold bndT
 rw [List.range_succ, List.map_append, List.foldl_append, List.map_cons, List.map_nil, List.foldl_cons, List.foldl_nil, List.getD_eq_getElem?_getD, h]; rfl
theorem bndT_nin (ms : Ms) (z : Nat → Int) (n : Nat) : ∀ k, k ≤ n → bndT ms (ninL z n) k = Rat.divInt (9 * (ms.pen * ms.rows.length) + smN (fun j => z j * gJ ms j) k) 9
 | 0, _ => by
  show ((ms.pen * ms.rows.length : Int) : Rat) = Rat.divInt (9 * (ms.pen * ms.rows.length) + 0) 9
  rw [Int.add_zero, ← rat_one, ← Rat.divInt_mul_left (n := ms.pen * ms.rows.length) (d := 1) (a := 9) (by decide)]; rfl
 | k + 1, hk => by
  rw [bndT_step (ninL_at (z := z) (by omega)), bndT_nin ms z n k (by omega)]
  show _ = Rat.divInt (9 * (ms.pen * ms.rows.length) + (smN _ k + z k * gJ ms k)) 9
  rw [← rat_one (gJ ms k), Rat.divInt_mul_divInt, show (9 : Int) * 1 = 9 from rfl, ← add_same (by decide), Int.add_assoc]
theorem cst_le {ms : Ms} {z : Nat → Int} {T : List Nat} (h : WOk (opJ ms) z ms.cols.length T) : rs (((cstL ms (rndL ms (ninL z ms.cols.length)) : Int) : Rat) - bndT ms (ninL z ms.cols.length) ms.cols.length) ≤ 0 := by
 obtain ⟨n, hn⟩ : ∃ n, n = ms.cols.length := ⟨_, rfl⟩
 rw [← hn] at h ⊢
 have hpos : ∀ k, k < n → (posJ (ninL z n) k = true ↔ 0 < z k) := fun k hk => by
  unfold posJ
  rw [ninL_at hk]
  simp only [decide_eq_true_eq]
  rw [show (0 : Rat) = Rat.divInt 0 9 by simp, nin_lt]
 obtain ⟨X, hX⟩ : ∃ X : Nat → Bool, X = fun j => decide (j < n) && (posJ (ninL z n) j && decide (∀ k, k < n → posJ (ninL z n) k = true → opJ ms k = opJ ms j → ¬ betC (coJ ms) k j) && keepJ ms j) := ⟨_, rfl⟩
 have hL : rndL ms (ninL z n) = (List.range n).filter X := by
  unfold rndL
  rw [← hn, hX]
  refine List.filter_congr fun x hx => ?_
  rw [decide_eq_true (List.mem_range.1 hx), Bool.true_and]
 have hX1 : ∀ k, X k = true → k < n ∧ 0 < z k ∧ (∀ i, i < n → 0 < z i → opJ ms i = opJ ms k → ¬ betC (coJ ms) i k) := fun k hk => by
  rw [hX] at hk
  simp only [Bool.and_eq_true, decide_eq_true_eq] at hk
  obtain ⟨h1, ⟨h2, h3⟩, -⟩ := hk
  exact ⟨h1, (hpos k h1).1 h2, fun i hi hz => h3 i hi ((hpos i hi).2 hz)⟩
 have key := h.cost (co := coJ ms) (pen := ms.pen) (X := X) (fun k hk => (hX1 k hk).2.1) (fun t ht ⟨k, hk, ek, pk⟩ => by
  obtain ⟨b, hb, eb⟩ := (picF_ok (opJ ms) (coJ ms) (posJ (ninL z n)) n).all k hk ((hpos k hk).2 pk)
  obtain ⟨b1, b2, b3⟩ := (picF_ok (opJ ms) (coJ ms) (posJ (ninL z n)) n).low b hb
  have ebt : opJ ms b = opJ ms t := eb.trans ek
  refine ⟨b, b1, ebt, (hpos b b1).1 b2, fun i hi ei pi => ?_, ?_⟩
  ·have h1 := b3 i hi ((hpos i hi).2 pi) (ei.trans ebt.symm)
   refine ⟨by unfold betC at h1; omega, fun hx => ?_⟩
   have h2 := (hX1 i hx).2.2 b b1 ((hpos b b1).1 b2) (ebt.trans ei.symm)
   exact betC_tri (coJ ms) h1 h2
  ·rw [hX]
   show (decide (b < n) && (posJ (ninL z n) b && decide _ && keepJ ms b)) = _
   rw [decide_eq_true b1, b2, decide_eq_true fun i hi hp e => b3 i hi hp e]
   rfl)
 have e1 : smN (fun k => if X k = true then 9 * (coJ ms k - ms.pen * (opJ ms k).length) else 0) n = smN (fun k => if X k = true then gJ ms k else 0) n * 9 := by
  rw [← smN_mul]
  refine smN_congr fun k hk => ?_
  unfold gJ
  split <;> omega
 rw [e1] at key
 have e2 : smN (fun k => z k * (coJ ms k - ms.pen * (opJ ms k).length)) n = smN (fun j => z j * gJ ms j) n := rfl
 rw [e2] at key
 rw [hL, bndT_nin ms z n n (Nat.le_refl _)]
 unfold cstL
 rw [foldl_addI, filt_sum]
 generalize smN (fun k => if X k = true then gJ ms k else 0) n = a at *
 generalize smN (fun j => z j * gJ ms j) n = b at *
 generalize ms.pen * (ms.rows.length : Int) = c at *
 have e3 : ((c + a : Int) : Rat) = Rat.divInt (9 * (c + a)) 9 := by
  rw [← rat_one, ← Rat.divInt_mul_left (n := c + a) (d := 1) (a := 9) (by decide)]; rfl
 rw [e3, Rat.sub_eq_add_neg, Rat.neg_divInt, ← add_same (by decide), rs_div (by decide)]
 unfold icmp
 split
 ·decide
 ·split <;> omega
end Go.Proofs.YtniigfikpfinfaaGreat

/- Contract of pairingref27.Cost for a selection of disjoint columns. -/
namespace Go.Proofs.YtniigfikpfinfaaGreat
open Go.RowKit

def usdF (ms : Ms) (xs : List Nat) (i : Nat) : List Int := (xs.take i).flatMap (opJ ms)
theorem usdF_step {ms : Ms} {xs : List Nat} {i j : Nat} (h : xs[i]? = some j) : usdF ms xs (i + 1) = usdF ms xs i ++ opJ ms j := by
 unfold usdF; rw [← take_snoc h, List.flatMap_append]; simp
def totF (ms : Ms) (xs : List Nat) (i : Nat) : Int := (xs.take i).foldl (fun s j => s + gJ ms j) (ms.pen * ms.rows.length)
theorem totF_step {ms : Ms} {xs : List Nat} {i j : Nat} (h : xs[i]? = some j) : totF ms xs (i + 1) = totF ms xs i + gJ ms j := by
 unfold totF; rw [← take_snoc h, List.foldl_append]; rfl
theorem totF_all {ms : Ms} {xs : List Nat} {i : Nat} (h : xs.length ≤ i) : totF ms xs i = cstL ms xs := by
 unfold totF cstL; rw [List.take_of_length_le h]
structure SelOk (ms : Ms) (xs : List Nat) : Prop where
 lt : ∀ j ∈ xs, j < ms.cols.length
 asc : xs.Pairwise (· < ·)
 dis : xs.Pairwise fun a b => ∀ r, r ∈ opJ ms a → r ∉ opJ ms b
theorem SelOk.new {ms : Ms} {xs : List Nat} (h : SelOk ms xs) (hn : ∀ c ∈ ms.cols, (opF c.2.1).Nodup) {i j : Nat} (hj : xs[i]? = some j) {k : Nat} {r : Int} (hr : (opJ ms j)[k]? = some r) : r ∉ usdF ms xs i ++ (opJ ms j).take k := by
 intro hm
 rcases List.mem_append.1 hm with hm | hm
 ·obtain ⟨a, ha, hra⟩ := List.mem_flatMap.1 hm
  obtain ⟨p, hp⟩ := List.mem_iff_getElem?.1 ha
  rw [List.getElem?_take] at hp
  by_cases hpi : p < i
  ·rw [if_pos hpi] at hp
   obtain ⟨h1, e1⟩ := List.getElem?_eq_some_iff.1 hp
   obtain ⟨h2, e2⟩ := List.getElem?_eq_some_iff.1 hj
   have := List.pairwise_iff_getElem.1 h.dis p i h1 h2 hpi r (by rw [e1]; exact hra)
   rw [e2] at this
   exact this (List.mem_of_getElem? hr)
  ·rw [if_neg hpi] at hp; cases hp
 ·have hlt := h.lt j (List.mem_of_getElem? hj)
  have hc := List.getElem?_eq_getElem hlt
  have hnd : (opJ ms j).Nodup := by rw [opJ_at hc]; exact hn _ (List.getElem_mem hlt)
  have := nodup_new hnd hr
  rw [decide_eq_false_iff_not] at this
  exact this hm
theorem natL_asc {xs : List Nat} (h : xs.Pairwise (· < ·)) : AscP (natL xs) := by
 intro j x y hx hy
 unfold natL at hx hy
 rw [List.getElem?_map] at hx hy
 obtain ⟨a, ha, rfl⟩ := Option.map_eq_some_iff.1 hx
 obtain ⟨b, hb, rfl⟩ := Option.map_eq_some_iff.1 hy
 obtain ⟨h1, e1⟩ := List.getElem?_eq_some_iff.1 ha
 obtain ⟨h2, e2⟩ := List.getElem?_eq_some_iff.1 hb
 have := List.pairwise_iff_getElem.1 h j (j + 1) h1 h2 (by omega)
 rw [e1, e2] at this
 omega
structure SmOk (ms : Ms) : Prop where
 p0 : 0 ≤ ms.pen
 p1 : ms.pen ≤ 1000
 c0 : ∀ c ∈ ms.cols, -1000 ≤ c.2.2
 c1 : ∀ c ∈ ms.cols, c.2.2 ≤ 1000
 few : ms.cols.length ≤ 6
theorem SmOk.g {ms : Ms} (h : SmOk ms) (ok : MsOk ms) (hl : ∀ c ∈ ms.cols, (opF c.2.1).length ≤ 32) {j : Nat} (hj : j < ms.cols.length) : -33000 ≤ gJ ms j ∧ gJ ms j ≤ 1000 := by
 have hc := List.getElem?_eq_getElem hj
 have hm := List.getElem_mem hj
 unfold gJ
 rw [opJ_at hc, coJ_at hc]
 have h1 := h.c0 _ hm
 have h2 := h.c1 _ hm
 have h3 := hl _ hm
 have h4 : ms.pen * ((opF ms.cols[j].2.1).length : Int) ≤ 1000 * 32 := Int.mul_le_mul h.p1 (by omega) (by omega) (by omega)
 have h5 : 0 ≤ ms.pen * ((opF ms.cols[j].2.1).length : Int) := Int.mul_nonneg h.p0 (by omega)
 omega
theorem SmOk.tot {ms : Ms} (h : SmOk ms) (ok : MsOk ms) (hl : ∀ c ∈ ms.cols, (opF c.2.1).length ≤ 32) {xs : List Nat} (hx : ∀ j ∈ xs, j < ms.cols.length) : ∀ i, i ≤ xs.length → -33000 * (i : Int) ≤ totF ms xs i ∧ totF ms xs i ≤ 32000 + 1000 * (i : Int)
 | 0, _ => by
  have h4 : ms.pen * (ms.rows.length : Int) ≤ 1000 * 32 := Int.mul_le_mul h.p1 (by have := ok.r1; omega) (by omega) (by omega)
  have h5 : 0 ≤ ms.pen * (ms.rows.length : Int) := Int.mul_nonneg h.p0 (by omega)
  show _ ≤ ms.pen * (ms.rows.length : Int) ∧ ms.pen * (ms.rows.length : Int) ≤ _
  omega
 | i + 1, hi => by
  have hj := List.getElem?_eq_getElem (l := xs) (i := i) (by omega)
  rw [totF_step hj]
  have h1 := h.tot ok hl hx i (by omega)
  have h2 := h.g ok hl (hx _ (List.getElem_mem (by omega : i < xs.length)))
  omega
end Go.Proofs.YtniigfikpfinfaaGreat
