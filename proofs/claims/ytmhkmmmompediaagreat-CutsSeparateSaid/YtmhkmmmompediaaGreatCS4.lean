/- Part 4 of 8 of the proof: the law CutsSeparate returns true for every input, and its arguments read as before; there is no condition. -/
import Derived.Maps.Own
import Derived.Maps.Views
import Derived.DeepKeys4
import Derived.Maps.RangeWalk
import Derived.Shelf.SlSortCmp.NoneTotal
import Derived.Test.YtmhkmmmompediaaGreatCS3
set_option linter.unusedVariables false
set_option linter.unusedSimpArgs false
set_option maxRecDepth 100000
set_option maxHeartbeats 64000000
/- Regions that draw their order and store, late, into cells that they load before: the loads are taken first under a condition that holds till the first store. No program. -/
namespace Go.Proofs.YtmhkmmmompediaaGreat
open Go.RowKit
section
variable {P : Program} {ops : Array Oper} {Q : Exit → Act → World → Prop} {S : World → Prop}

def wpL (P : Program) (ops : Array Oper) (Q : Exit → Act → World → Prop) (S : World → Prop) (s : Nat) : Nat → Array Bool → Act → World → Prop
 | 0, listed, a, w => Region.ready .any ops listed = [] ∧ Q .normal a w
 | fuel + 1, listed, a, w =>
  (Region.ready .any ops listed = [] → Q .normal a w) ∧
  ∀ i ∈ Region.ready .any ops listed, wpOp P ops Q i (fun a' w' => ((listed.setIfInBounds i true).getD s false = false → S w') ∧ wpL P ops Q S s fuel (listed.setIfInBounds i true) a' w') a w
theorem wpAny_of_L {s : Nat} : ∀ (fuel : Nat) (listed : Array Bool) (a : Act) (w : World), wpL P ops Q S s fuel listed a w → wpAny P .any ops Q fuel listed a w
 | 0, _, _, _, h => h
 | fuel + 1, _, _, _, h => ⟨h.1, fun i hi => wpOp_mono (fun a' w' h' => wpAny_of_L fuel _ a' w' h'.2) (h.2 i hi)⟩
theorem wpL_first {s i k : Nat} {oi os : Oper} {v : Value} (hi : ops[i]? = some oi) (hos : ops[s]? = some os) (hw : ∃ e ∈ os.after, Region.binds .any e = true ∧ e.on = k) (hk : k = i ∨ ∃ ok, ops[k]? = some ok ∧ ∃ e ∈ ok.after, Region.binds .any e = true ∧ e.on = i) (hsi : s ≠ i)
  (hsel : ∀ (j : Nat) (o : Oper) cs b, ops[j]? = some o → o.op ≠ .select cs b) (hQ : ∀ c a w, Q (.panic c) (a.put oi.dst v) w → Q (.panic c) a w) :
  ∀ (fuel : Nat) (listed : Array Bool) (a : Act) (w : World),
   (∀ j oj, ops[j]? = some oj → j ≠ i → listed.getD j true = false → (∀ e ∈ oj.after, Region.binds .any e = true → e.on ≠ i) → oi.apart ops oj = true) →
   i ∈ Region.ready .any ops listed → listed.getD s false = false → listed.getD k false = false → YieldsIf P ops S oi v a → S w →
   wpL P ops Q S s fuel (listed.setIfInBounds i true) (a.put oi.dst v) w → wpL P ops Q S s (fuel + 1) listed a w := by
 intro fuel
 induction fuel with
 | zero =>
  intro listed a w _ hr _ _ hy hS H
  refine ⟨fun h => (by rw [h] at hr; cases hr), fun j hj => ?_⟩
  by_cases hji : j = i
  ·subst hji; exact hy.wpOp hi hS ⟨fun _ => hS, H⟩
  ·have := ready_mono hj hji
   rw [H.1] at this
   cases this
 | succ fuel ih =>
  intro listed a w hfree hr hsl hkl hy hS H
  refine ⟨fun h => (by rw [h] at hr; cases hr), fun j hj => ?_⟩
  by_cases hji : j = i
  ·subst hji; exact hy.wpOp hi hS ⟨fun _ => hS, H⟩
  ·have h1 := H.2 j (ready_mono hj hji)
   obtain ⟨hjun, oj, hoj, hall⟩ := mem_ready.1 hj
   have hnot : ∀ e ∈ oj.after, Region.binds .any e = true → e.on ≠ i := fun e he hb heq => by
    have h1 := hall e he hb
    have h0 := (mem_ready.1 hr).1
    rw [heq] at h1
    rcases Nat.lt_or_ge i listed.size with h' | h'
    ·simp [h'] at h0 h1; rw [h0] at h1; cases h1
    ·simp [Array.getElem?_eq_none h'] at h1
   have hjs : j ≠ s := by
    rintro rfl
    rw [hos] at hoj
    obtain rfl := Option.some.inj hoj
    obtain ⟨e, he, hb, heq⟩ := hw
    have h9 := hall e he hb
    rw [heq, hkl] at h9
    cases h9
   have hjk : j ≠ k := by
    rintro rfl
    rcases hk with hk | ⟨ok, hok, e, he, hb, heq⟩
    ·exact hji hk
    ·rw [hok] at hoj
     obtain rfl := Option.some.inj hoj
     exact hnot e he hb heq
   have hkl' : (listed.setIfInBounds j true).getD k false = false := by rw [Go.getD_set_ne false hjk]; exact hkl
   have hsl' : (listed.setIfInBounds j true).getD s false = false := by rw [Go.getD_set_ne false hjs]; exact hsl
   have hsl2 : ((listed.setIfInBounds i true).setIfInBounds j true).getD s false = false := by rw [Go.getD_set_ne false hjs, Go.getD_set_ne false (Ne.symm hsi)]; exact hsl
   have h2 := wpOp_putIf hoj (hfree j oj hoj hji hjun hnot) (fun cs b => hsel i oi cs b hi) (fun cs b => hsel j oj cs b hoj) hQ hy h1
   have hfree' : ∀ k ok, ops[k]? = some ok → k ≠ i → (listed.setIfInBounds j true).getD k true = false →
     (∀ e ∈ ok.after, Region.binds .any e = true → e.on ≠ i) → oi.apart ops ok = true := fun k ok hk hki hun hno => by
    refine hfree k ok hk hki ?_ hno
    by_cases hjk : j = k
    ·subst hjk; exact hjun
    ·rw [Go.getD_set_ne true hjk] at hun; exact hun
   refine wpOp_mono (fun a' w' h3 => ⟨fun _ => h3.2.1 hsl2, ih (listed.setIfInBounds j true) a' w' hfree' (ready_mono hr (Ne.symm hji)) hsl' hkl' h3.1 (h3.2.1 hsl2) ?_⟩) h2
   rw [Array.setIfInBounds_comm _ _ hji]
   exact h3.2.2
def waits (ops : Array Oper) (s i : Nat) : Bool := match ops[s]? with
 | some o => o.after.any fun e => Region.binds .any e && e.on == i
 | none => false
theorem waits_spec {s i : Nat} (h : waits ops s i = true) : ∃ os, ops[s]? = some os ∧ ∃ e ∈ os.after, Region.binds .any e = true ∧ e.on = i := by
 unfold waits at h
 cases ho : ops[s]? with
 | none => rw [ho] at h; cases h
 | some os =>
  rw [ho] at h
  obtain ⟨k, hk, he⟩ := Array.any_eq_true.1 h
  simp only [Bool.and_eq_true, beq_iff_eq] at he
  exact ⟨os, rfl, _, Array.getElem_mem hk, he.1, he.2⟩
theorem wpL_take {s : Nat} (i k : Nat) {oi : Oper} {v : Value} {fuel : Nat} {listed : Array Bool} {a : Act} {w : World} (hi : ops[i]? = some oi)
  (hc : (Region.noSelect ops && Region.free .any ops listed i && (Region.ready .any ops listed).contains i && waits ops s k && (k == i || waits ops k i) && !listed.getD k false && !listed.getD s false && s != i) = true)
  (hQ : ∀ c a w, Q (.panic c) (a.put oi.dst v) w → Q (.panic c) a w) (hS : S w) (hw : Region.wanted oi (yielded ops a.tmps) = true) (hy : ∀ w, S w → (execOp a.eval oi).run P w = .ok (.value v) w)
  (h : wpL P ops Q S s fuel (listed.setIfInBounds i true) (a.put oi.dst v) w) : wpL P ops Q S s (fuel + 1) listed a w := by
 simp only [Bool.and_eq_true, Bool.or_eq_true, beq_iff_eq, Bool.not_eq_true', bne_iff_ne] at hc
 obtain ⟨⟨⟨⟨⟨⟨⟨h1, h2⟩, h3⟩, h4⟩, h7⟩, h8⟩, h5⟩, h6⟩ := hc
 obtain ⟨os, hos, hwt⟩ := waits_spec h4
 exact wpL_first hi hos hwt (h7.imp id waits_spec) h6 (Region.noSelect_spec h1) hQ fuel listed a w (Region.free_spec hi h2) (by simpa using h3) h5 h8 (.inl ⟨hw, hy⟩) hS h
def AllL (P : Program) (ops : Array Oper) (Q : Exit → Act → World → Prop) (S : World → Prop) (s fuel : Nat) (listed : Array Bool) (a : Act) (w : World) (rs : List Nat) : Prop :=
 ∀ i ∈ rs, wpOp P ops Q i (fun a' w' => ((listed.setIfInBounds i true).getD s false = false → S w') ∧ wpL P ops Q S s fuel (listed.setIfInBounds i true) a' w') a w
theorem AllL.nil {s fuel : Nat} {listed : Array Bool} {a : Act} {w : World} : AllL P ops Q S s fuel listed a w [] := fun _ h => by cases h
theorem AllL.cons {s fuel : Nat} {listed : Array Bool} {a : Act} {w : World} {i : Nat} {o : Oper} {rs : List Nat} (ho : ops[i]? = some o)
  (h : ∀ K' : Act → World → Prop, Shut (∀ a w, S w → (S w → wpL P ops Q S s fuel (listed.setIfInBounds i true) a w) → K' a w) → if Region.wanted o (yielded ops a.tmps) = true then Oper.wp P o a w K' Q else K' (a.put o.dst undef) w)
  (hs : AllL P ops Q S s fuel listed a w rs) : AllL P ops Q S s fuel listed a w (i :: rs) := fun j hj => by
 rcases List.mem_cons.1 hj with rfl | hj
 ·exact wpOp_step ho (fun K' hK => h K' (fun a w hS hW => hK a w ⟨fun _ => hS, hW hS⟩))
 ·exact hs j hj
theorem wpL_ready {s : Nat} (rs : List Nat) {fuel : Nat} {listed : Array Bool} {a : Act} {w : World} (hr : Region.ready .any ops listed = rs) (hne : rs ≠ [])
  (h : AllL P ops Q S s fuel listed a w rs) : wpL P ops Q S s (fuel + 1) listed a w := ⟨fun h0 => absurd (hr ▸ h0) hne, hr ▸ h⟩
theorem wpL_done {s : Nat} {listed : Array Bool} {a : Act} {w : World} (hr : Region.ready .any ops listed = []) (h : Q .normal a w) : ∀ fuel, wpL P ops Q S s fuel listed a w
 | 0 => ⟨hr, h⟩
 | _ + 1 => ⟨fun _ => h, by rw [hr]; simp⟩
theorem wp_region_L {id : Nat} {a : Act} {w : World} (s : Nat) (S : World → Prop) (hm : P.follows .mixedOrders = true) (h : wpL P ops (NoPanic Q) S s ops.size (Array.replicate ops.size false) a w.drew) : (Code.region id ops true).wp P Q a w :=
 wp_region_noPanic (wp_region_any hm (wpAny_of_L _ _ _ _ h))
end
end Go.Proofs.YtmhkmmmompediaaGreat

/- Contract of pairingdata.Wild where a digit is appended. -/
namespace Go.Proofs.YtmhkmmmompediaaGreat
open Go.RowKit

theorem Blk.grown {w w' : World} {g : Nat} {t : TypeId} {cs : Array Value} {row : Option Nat} (h : Blk w g t cs) (hg : w.grownBy w' row) (hne : some g ≠ row) : Blk w' g t cs := (hg.block g h.lt hne).trans h
end Go.Proofs.YtmhkmmmompediaaGreat

/- Contracts of pairingdata.Wild whole, lagrange.copyPrices as a value, and lagrange.Step. -/
namespace Go.Proofs.YtmhkmmmompediaaGreat
open Go.RowKit

theorem FrG.lit {m : World} {v : Value} {x y : Int} (h : FrG m v x y) : ∃ g A n c f B k d, v = .agg #[.bool g, .slice A n c, .bool f, .slice B k d] ∧ FrG m (.agg #[.bool g, .slice A n c, .bool f, .slice B k d]) x y := by
 have h' := h
 obtain ⟨⟨g, A, n, c, f, B, k, d, rfl, -, -⟩, -⟩ := h
 exact ⟨_, _, _, _, _, _, _, _, rfl, h'⟩

end Go.Proofs.YtmhkmmmompediaaGreat

/- The walk through the law LagrangeSteps. -/
namespace Go.Proofs.YtmhkmmmompediaaGreat
open Go.RowKit

structure WF (x y : Int) : Prop where
 bx : x.natAbs ≤ 20
 by_ : y.natAbs ≤ 20
 q : Tn 10 (Rat.divInt x y)
theorem WF.sm {x y : Int} (h : WF x y) : Sm x y := ⟨by have := h.bx; omega, by have := h.by_; omega⟩
theorem FrG.toV {m : World} {v : Value} {x y : Int} (h : FrG m v x y) : FracV m v (Rat.divInt x y) := by
 obtain ⟨⟨g, A, n, c, f, B, k, d, rfl, h1, h2⟩, -⟩ := h
 exact ⟨x, y, _, _, _, _, rfl, h1, h2, rfl⟩
end Go.Proofs.YtmhkmmmompediaaGreat

/- Contracts on lists of numbers: pairingref27.Has, count, within, ascending; slices.Index, Contains, BinarySearch; cmp.Less. -/
namespace Go.Proofs.YtmhkmmmompediaaGreat
open Go.RowKit

theorem has_step {xs : List Int} {t x : Int} {k : Nat} (h : ∀ j, j < k → xs[j]? ≠ some t) (hx : xs[k]? = some x) (he : ¬ x = t) : ∀ j, j < k + 1 → xs[j]? ≠ some t := by
 intro j hj
 rcases Nat.lt_or_ge j k with h1 | h1
 ·exact h j h1
 ·obtain rfl : j = k := by omega
  rw [hx]
  exact fun e => he (Option.some.inj e)
theorem has_end {xs : List Int} {t : Int} {k n : Nat} (hn : xs.length = n) (hk : ¬ k < n) (h : ∀ j, j < k → xs[j]? ≠ some t) : decide (t ∈ xs) = false := by
 refine decide_eq_false fun hm => ?_
 obtain ⟨j, hj⟩ := List.mem_iff_getElem?.1 hm
 have := (List.getElem?_eq_some_iff.1 hj).1
 exact h j (by omega) hj

theorem r_Has (a : Value) (xs : List Int) (t : Int) (w m : World) (hV : Vw m w) (ha : IntL m a xs) (hl : xs.length ≤ 1000000) :
  Calls Tryz.prog 44 #[a, .int .i64 t] w (RetV w m fun _ r => r = .bool (decide (t ∈ xs))) := by
 obtain ⟨A, c, rfl, hc, ha⟩ := ha.lit
 have hL := Loc.start hV
 clear hV
 generalize hn : xs.length = n at *
 have HN := Lib.hid hn
 clear hn
 go_enter Tryz.func44, Tryz.ntmps44
 go_wp2_with (first | go_skip | refine tP ?_)
 go_loopw [5] (fun i wr => ∃ (k : Nat) (mm : World), k ≤ n ∧ i = .int .i64 k ∧ Loc w m wr mm [] ∧ Hid (∀ j, j < k → xs[j]? ≠ some t)) (fun i _ => n - (intOf i).toNat)
 case atStart => exact ⟨0, m, Nat.zero_le _, rfl, hL, fun j hj => by omega⟩
 case round =>
  clear hL
  obtain ⟨k, mm, hk, rfl, hL, HJ⟩ := hrel
  have hM := hL.mext
  by_cases hlt : k < n
  ·obtain ⟨x, hx⟩ := at_some HN hlt
   obtain ⟨b1, o1, rfl, hc1⟩ := IntL.at_ ha hx
   by_cases he : x = t
   ·have E : Hid (decide (t ∈ xs) = true) := decide_eq_true (he ▸ List.mem_of_getElem? hx)
    have bb : (x == t) = true := by simp [he]
    clear hx he
    go_wp2_with (first | go_skip | refine tP ?_)
    go_ret
    exact RetV.mk hL (congrArg Value.bool E.out.symm)
   ·have bb : (x == t) = false := by simp [he]
    have HS := Lib.hid (has_step HJ.out hx he)
    clear hx he
    go_wp2_with (first | go_skip | refine tP ?_)
    go_roundw
    case rel => exact ⟨k + 1, _, by omega, by go_num, hL, HS.out⟩
    case measure => simp [intOf] <;> omega
  ·have E := Lib.hid (has_end HN.out hlt HJ.out)
   go_wp2_with (first | go_skip | refine tP ?_)
   go_ret
   exact RetV.mk hL (congrArg Value.bool E.out.symm)

theorem count_step {xs : List Int} {t x : Int} {k : Nat} (hx : xs[k]? = some x) : (xs.take (k + 1)).count t = (xs.take k).count t + (if x = t then 1 else 0) := by
 rw [List.take_add_one, hx, List.count_append]
 by_cases h : x = t
 ·subst h; simp
 ·simp [h]
theorem r_count (a : Value) (xs : List Int) (t : Int) (w m : World) (hV : Vw m w) (ha : IntL m a xs) (hl : xs.length ≤ 1000000) :
  Calls Tryz.prog 122 #[a, .int .i64 t] w (RetV w m fun _ r => r = .int .i64 ((xs.count t : Nat) : Int)) := by
 obtain ⟨A, c, rfl, hc, ha⟩ := ha.lit
 have hL := Loc.start hV
 clear hV
 generalize hn : xs.length = n at *
 have HN := Lib.hid hn
 clear hn
 go_enter Tryz.func122, Tryz.ntmps122
 go_wp2_with (first | go_skip | refine tP ?_)
 go_loopw [5, 6] (fun cc i wr => ∃ (k q : Nat) (mm : World), k ≤ n ∧ q ≤ k ∧ i = .int .i64 k ∧ cc = .int .i64 q ∧ Loc w m wr mm [] ∧ Hid (q = (xs.take k).count t)) (fun _ i _ => n - (intOf i).toNat)
 case atStart => exact ⟨0, 0, m, Nat.zero_le _, Nat.zero_le _, rfl, rfl, hL, rfl⟩
 case round =>
  clear hL
  obtain ⟨k, q, mm, hk, hq, rfl, rfl, hL, HJ⟩ := hrel
  have hM := hL.mext
  by_cases hlt : k < n
  ·obtain ⟨x, hx⟩ := at_some HN hlt
   obtain ⟨b1, o1, rfl, hc1⟩ := IntL.at_ ha hx
   have HS := Lib.hid (count_step (t := t) hx)
   by_cases he : x = t
   ·have bb : (x == t) = true := by simp [he]
    have HE : Hid (q + 1 = (xs.take (k + 1)).count t) := by show _ = _; rw [HS.out, if_pos he, HJ.out]
    clear hx he
    go_wp2_with (first | go_skip | refine tP ?_)
    go_roundw
    case rel => exact ⟨k + 1, q + 1, _, by omega, by omega, by go_num, by go_num, hL, HE.out⟩
    case measure => simp [intOf] <;> omega
   ·have bb : (x == t) = false := by simp [he]
    have HE : Hid (q = (xs.take (k + 1)).count t) := by show _ = _; rw [HS.out, if_neg he, HJ.out]; rfl
    clear hx he
    go_wp2_with (first | go_skip | refine tP ?_)
    go_roundw
    case rel => exact ⟨k + 1, q, _, by omega, by omega, by go_num, rfl, hL, HE.out⟩
    case measure => simp [intOf] <;> omega
  ·have E : Hid (q = xs.count t) := by
    show _ = _
    have := HJ.out
    rwa [List.take_of_length_le (by rw [HN.out]; omega)] at this
   go_wp2_with (first | go_skip | refine tP ?_)
   go_ret
   exact RetV.mk hL (congrArg (fun z : Nat => Value.int .i64 (z : Int)) E.out)

theorem within_step {xs ys : List Int} {x : Int} {k : Nat} (h : ∀ j y, j < k → xs[j]? = some y → y ∈ ys) (hx : xs[k]? = some x) (he : x ∈ ys) : ∀ j y, j < k + 1 → xs[j]? = some y → y ∈ ys := by
 intro j y hj hy
 rcases Nat.lt_or_ge j k with h1 | h1
 ·exact h j y h1 hy
 ·obtain rfl : j = k := by omega
  rw [hx] at hy
  exact Option.some.inj hy ▸ he
theorem within_end {xs ys : List Int} {k n : Nat} (hn : xs.length = n) (hk : ¬ k < n) (h : ∀ j y, j < k → xs[j]? = some y → y ∈ ys) : decide (∀ x ∈ xs, x ∈ ys) = true := by
 refine decide_eq_true fun x hm => ?_
 obtain ⟨j, hj⟩ := List.mem_iff_getElem?.1 hm
 have := (List.getElem?_eq_some_iff.1 hj).1
 exact h j x (by omega) hj

theorem r_within (a b : Value) (xs ys : List Int) (w m : World) (hV : Vw m w) (ha : IntL m a xs) (hb : IntL m b ys) (hl : xs.length ≤ 1000000) (hl' : ys.length ≤ 1000000) :
  Calls Tryz.prog 78 #[a, b] w (RetV w m fun _ r => r = .bool (decide (∀ x ∈ xs, x ∈ ys))) := by
 obtain ⟨A, c, rfl, hc, ha⟩ := ha.lit
 obtain ⟨B, d, rfl, hd, hb⟩ := hb.lit
 have HB := Lib.hid hb
 have HL' := Lib.hid hl'
 have hL := Loc.start hV
 clear hV hb
 generalize hn2 : ys.length = n2 at *
 have HN2 := Lib.hid hn2
 clear hn2
 generalize hn : xs.length = n at *
 have HN := Lib.hid hn
 clear hn
 go_enter Tryz.func78, Tryz.ntmps78
 go_wp2_with (first | go_skip | refine tP ?_)
 go_loopw [5] (fun i wr => ∃ (k : Nat) (mm : World), k ≤ n ∧ i = .int .i64 k ∧ Loc w m wr mm [] ∧ Hid (∀ j y, j < k → xs[j]? = some y → y ∈ ys)) (fun i _ => n - (intOf i).toNat)
 case atStart => exact ⟨0, m, Nat.zero_le _, rfl, hL, fun j _ hj => by omega⟩
 case round =>
  clear hL
  obtain ⟨k, mm, hk, rfl, hL, HJ⟩ := hrel
  have hM := hL.mext
  by_cases hlt : k < n
  ·obtain ⟨x, hx⟩ := at_some HN hlt
   obtain ⟨b1, o1, rfl, hc1⟩ := IntL.at_ ha hx
   have HX := Lib.hid hx
   clear hx
   go_wp2_with (first | go_skip | refine tP ?_)
   refine (r_Has _ ys x _ _ hL.vw (IntL.le HB.out leX) (by rw [HN2.out]; exact HL'.out)).mono ?_
   rintro e Wh1 ⟨_, mh1, rfl, hE, hMh1, hV, rfl⟩
   replace hL := hL.call hE (by assumption) hV; clear hE hV
   by_cases he : x ∈ ys
   ·have HS := Lib.hid (within_step HJ.out HX.out he)
    rw [decide_eq_true he]
    clear he
    go_wp2_with (first | go_skip | refine tP ?_)
    go_roundw
    case rel => exact ⟨k + 1, _, by omega, by go_num, hL, HS.out⟩
    case measure => simp [intOf] <;> omega
   ·have E : Hid (decide (∀ x ∈ xs, x ∈ ys) = false) := decide_eq_false fun h => he (h x (List.mem_of_getElem? HX.out))
    rw [decide_eq_false he]
    clear he
    go_wp2_with (first | go_skip | refine tP ?_)
    go_ret
    exact RetV.mk hL (congrArg Value.bool E.out.symm)
  ·have E := Lib.hid (within_end HN.out hlt HJ.out)
   go_wp2_with (first | go_skip | refine tP ?_)
   go_ret
   exact RetV.mk hL (congrArg Value.bool E.out.symm)

def AscP (xs : List Int) : Prop := ∀ (j : Nat) (x y : Int), xs[j]? = some x → xs[j + 1]? = some y → x < y
theorem AscP.lt {xs : List Int} (h : AscP xs) : ∀ (d j : Nat) (x y : Int), xs[j]? = some x → xs[j + d + 1]? = some y → x < y := by
 intro d
 induction d with
 | zero => intro j x y hx hy; exact h j x y hx hy
 | succ d ih =>
  intro j x y hx hy
  have hl := (List.getElem?_eq_some_iff.1 hy).1
  obtain ⟨z, hz⟩ : ∃ z, xs[j + d + 1]? = some z := ⟨_, List.getElem?_eq_getElem (by omega)⟩
  have h1 := ih j x z hx hz
  have h2 := h (j + d + 1) z y hz (by rw [show j + d + 1 + 1 = j + (d + 1) + 1 by omega]; exact hy)
  omega

theorem r_ascT (a : Value) (xs : List Int) (w m : World) (hV : Vw m w) (ha : IntL m a xs) (hl : xs.length ≤ 1000000) (hasc : AscP xs) :
  Calls Tryz.prog 140 #[a] w (RetV w m fun _ r => r = .bool true) := by
 obtain ⟨A, c, rfl, hc, ha⟩ := ha.lit
 have HA := Lib.hid hasc
 have hL := Loc.start hV
 clear hV hasc
 generalize hn : xs.length = n at *
 have HN := Lib.hid hn
 clear hn
 go_enter Tryz.func140, Tryz.ntmps140
 go_wp2_with (first | go_skip | refine tP ?_)
 go_loopw [3] (fun i wr => ∃ (k : Nat) (mm : World), k ≤ n ∧ i = .int .i64 ((k : Int) + 1) ∧ Loc w m wr mm []) (fun i _ => n + 1 - (intOf i).toNat)
 case atStart => exact ⟨0, m, Nat.zero_le _, rfl, hL⟩
 case round =>
  clear hL
  obtain ⟨k, mm, hk, rfl, hL⟩ := hrel
  have hM := hL.mext
  by_cases hlt : k + 1 < n
  ·obtain ⟨x, hx⟩ := at_some HN (show k < n by omega)
   obtain ⟨y, hy⟩ := at_some HN hlt
   obtain ⟨b1, o1, rfl, hc1⟩ := IntL.at_ ha hx
   obtain ⟨b2, o2, e2, hc2⟩ := IntL.at_ ha hy
   obtain ⟨rfl, rfl⟩ : b1 = b2 ∧ o1 = o2 := by simpa using e2
   have hxy : x < y := HA.out k x y hx hy
   have hkn : k < n := by omega
   have e3 : ((k : Int) + 1) = ((k + 1 : Nat) : Int) := by omega
   rw [e3]
   clear hx hy e2 e3 hk
   obtain ⟨k1, hk1⟩ : ∃ k1, k1 = k + 1 := ⟨_, rfl⟩
   rw [← hk1] at hc2 hlt ⊢
   have e1 : (k1 : Int) - 1 = (k : Int) := by omega
   have e4 : wrap64 ((k1 : Int) - 1) = (k : Int) := by unfold wrap64; omega
   have HK := Lib.hid hk1
   have HXY := Lib.hid hxy
   clear hk1 hxy
   go_upto_region 4 with ((first | go_skip | refine tP ?_))
   (try simp only [eq_self] at *)
   refine wp_region_by2 10 [false, false, false, false, false, false, false, false, false, false] [false, false, false, false, false, false, false, false, false, false] [(fun v _ _ => v = ?c4_0), (fun v _ _ => v = ?c4_1), (fun v _ _ => v = ?c4_2), (fun v _ _ => v = ?c4_3), (fun v _ _ => v = ?c4_4), (fun v _ _ => v = ?c4_5), (fun v _ _ => v = ?c4_6), (fun v _ _ => v = ?c4_7), (fun v _ _ => v = ?c4_8), (fun v _ _ => v = ?c4_9)] hL.vw mixed [10, 11, 12, 13, 14, 15, 16, 17, 18, 19] _ (by kernel_rfl) (fun vs => by simp only [lay, Act.put, zq1, zq2, zq3]; rfl) (by kernel_rfl) (by decide) (by decide) ?s4 ?l4 ?r4
   case s4 =>
    refine ⟨?_, ?_, ?_, ?_, ?_, ?_, ?_, ?_, ?_, ?_, trivial⟩
    ·intro vs W1 m1 hE hM hV hD; clear hD
     exact sPw
    ·intro vs W1 m1 hE hM hV hD; clear hD
     exact sPw
    ·intro vs W1 m1 hE hM hV hD; obtain ⟨⟨_, _, -, -, f10⟩, ⟨_, _, -, -, f11⟩, -⟩ := hD
     rw [(f10 : vs 10 = _), (f11 : vs 11 = _)]; clear f10 f11; exact sIy
    ·intro vs W1 m1 hE hM hV hD; obtain ⟨⟨_, _, -, -, f12⟩, -⟩ := hD
     rw [(f12 : vs 12 = _)]; clear f12; exact sLe
    ·intro vs W1 m1 hE hM hV hD; clear hD
     exact sPw
    ·intro vs W1 m1 hE hM hV hD; clear hD
     exact sPw
    ·intro vs W1 m1 hE hM hV hD; obtain ⟨⟨_, _, -, -, f15⟩, -⟩ := hD
     rw [(f15 : vs 15 = _)]; clear f15; exact sPw
    ·intro vs W1 m1 hE hM hV hD; obtain ⟨⟨_, _, -, -, f14⟩, ⟨_, _, -, -, f16⟩, -⟩ := hD
     rw [(f14 : vs 14 = _), (f16 : vs 16 = _)]; clear f14 f16; exact sIy
    ·intro vs W1 m1 hE hM hV hD; obtain ⟨⟨_, _, -, -, f17⟩, -⟩ := hD
     rw [(f17 : vs 17 = _)]; clear f17; exact sLe
    ·intro vs W1 m1 hE hM hV hD; obtain ⟨⟨_, _, -, -, f13⟩, ⟨_, _, -, -, f18⟩, -⟩ := hD
     rw [(f13 : vs 13 = _), (f18 : vs 18 = _)]; clear f13 f18; exact sPw
   case l4 =>
    refine ⟨nF, nF, nF, nF, nF, nF, nF, nF, nF, nF, trivial⟩
   intro vs W1 m1 hE hM hV hF hD
   clear hD
   obtain ⟨⟨_, _, -, -, f10⟩, ⟨_, _, -, -, f11⟩, ⟨_, _, -, -, f12⟩, ⟨_, _, -, -, f13⟩, ⟨_, _, -, -, f14⟩, ⟨_, _, -, -, f15⟩, ⟨_, _, -, -, f16⟩, ⟨_, _, -, -, f17⟩, ⟨_, _, -, -, f18⟩, ⟨_, _, -, -, f19⟩, -⟩ := hF
   replace hL := hL.call hE hM hV
   have f10 : vs 10 = _ := f10
   generalize vs 10 = x10 at f10 ⊢
   subst x10
   have f11 : vs 11 = _ := f11
   generalize vs 11 = x11 at f11 ⊢
   subst x11
   have f12 : vs 12 = _ := f12
   generalize vs 12 = x12 at f12 ⊢
   subst x12
   have f13 : vs 13 = _ := f13
   generalize vs 13 = x13 at f13 ⊢
   subst x13
   have f14 : vs 14 = _ := f14
   generalize vs 14 = x14 at f14 ⊢
   subst x14
   have f15 : vs 15 = _ := f15
   generalize vs 15 = x15 at f15 ⊢
   subst x15
   have f16 : vs 16 = _ := f16
   generalize vs 16 = x16 at f16 ⊢
   subst x16
   have f17 : vs 17 = _ := f17
   generalize vs 17 = x17 at f17 ⊢
   subst x17
   have f18 : vs 18 = _ := f18
   generalize vs 18 = x18 at f18 ⊢
   subst x18
   have f19 : vs 19 = _ := f19
   generalize vs 19 = x19 at f19 ⊢
   subst x19
   clear hE hV
   simp only [List.drop_succ_cons, List.drop_zero]
   go_wp2_with (first | go_skip | refine tP ?_)
   refine QN.mk ?_
   have hxy : ¬ y ≤ x := by have := HXY.out; omega
   go_wp2_with (first | go_skip | refine tP ?_)
   go_roundw
   case rel => exact ⟨k1, _, by omega, by go_num, hL⟩
   case measure => have := HK.out; simp [intOf] <;> omega
  ·have h0 : ¬ (k : Int) + 1 < (n : Int) := by omega
   go_wp2_with (first | go_skip | refine tP ?_)
   go_ret
   exact RetV.mk hL rfl
end Go.Proofs.YtmhkmmmompediaaGreat

/- Contracts of slices.Index, Contains, BinarySearch and cmp.Less for int. -/
namespace Go.Proofs.YtmhkmmmompediaaGreat
open Go.RowKit

theorem s_Index (a : Value) (xs : List Int) (t : Int) (w m : World) (hV : Vw m w) (ha : IntL m a xs) (hl : xs.length ≤ 1000000) :
  Calls Tryz.prog 132 #[a, .int .i64 t] w (RetV w m fun _ r => ∃ z : Int, r = .int .i64 z ∧ decide (z ≥ 0) = decide (t ∈ xs)) := by
 obtain ⟨A, c, rfl, hc, ha⟩ := ha.lit
 have hL := Loc.start hV
 clear hV
 generalize hn : xs.length = n at *
 have HN := Lib.hid hn
 clear hn
 go_enter Tryz.func132, Tryz.ntmps132
 go_wp2_with (first | go_skip | refine tP ?_)
 go_loopw [8] (fun i wr => ∃ (k : Nat) (mm : World), k ≤ n ∧ i = .int .i64 k ∧ Loc w m wr mm [] ∧ Hid (∀ j, j < k → xs[j]? ≠ some t)) (fun i _ => n - (intOf i).toNat)
 case atStart => exact ⟨0, m, Nat.zero_le _, rfl, hL, fun j hj => by omega⟩
 case round =>
  clear hL
  obtain ⟨k, mm, hk, rfl, hL, HJ⟩ := hrel
  have hM := hL.mext
  by_cases hlt : k < n
  ·obtain ⟨x, hx⟩ := at_some HN hlt
   obtain ⟨b1, o1, rfl, hc1⟩ := IntL.at_ ha hx
   by_cases he : x = t
   ·have E : Hid (decide (((k : Int)) ≥ 0) = decide (t ∈ xs)) := by
     show _ = _
     rw [decide_eq_true (show (k : Int) ≥ 0 by omega), decide_eq_true (he ▸ List.mem_of_getElem? hx)]
    have bb : (t == x) = true := by simp [he]
    clear hx he
    go_wp2_with (first | go_skip | refine tP ?_)
    go_ret
    exact RetV.mk hL ⟨_, rfl, E.out⟩
   ·have bb : (t == x) = false := by simp; exact fun h => he h.symm
    have HS := Lib.hid (has_step HJ.out hx he)
    clear hx he
    go_wp2_with (first | go_skip | refine tP ?_)
    go_roundw
    case rel => exact ⟨k + 1, _, by omega, by go_num, hL, HS.out⟩
    case measure => simp [intOf] <;> omega
  ·have E : Hid (decide ((-1 : Int) ≥ 0) = decide (t ∈ xs)) := by
    show _ = _
    rw [has_end HN.out hlt HJ.out]; rfl
   go_wp2_with (first | go_skip | refine tP ?_)
   go_ret
   exact RetV.mk hL ⟨_, rfl, E.out⟩

theorem s_Contains (a : Value) (xs : List Int) (t : Int) (w m : World) (hV : Vw m w) (ha : IntL m a xs) (hl : xs.length ≤ 1000000) :
  Calls Tryz.prog 70 #[a, .int .i64 t] w (RetV w m fun _ r => r = .bool (decide (t ∈ xs))) := by
 obtain ⟨A, c, rfl, hc, ha⟩ := ha.lit
 have HA := Lib.hid ha
 have HL := Lib.hid hl
 have hL := Loc.start hV
 clear hV ha hl
 generalize hn : xs.length = n at *
 have HN := Lib.hid hn
 clear hn
 go_enter Tryz.func70, Tryz.ntmps70
 go_wp2_with (first | go_skip | refine tP ?_)
 refine (s_Index _ xs t _ _ hL.vw (IntL.le HA.out leX) (by rw [HN.out]; exact HL.out)).mono ?_
 rintro e W1 ⟨_, m1, rfl, hE, hM1, hV, z, rfl, hz⟩
 replace hL := hL.call hE (by assumption) hV; clear hE hV
 have HZ := Lib.hid hz
 clear hz
 go_wp2_with (first | go_skip | refine tP ?_)
 go_ret
 exact RetV.mk hL (congrArg Value.bool HZ.out)

theorem s_isNaNc (x : Int) (w m : World) (hV : Vw m w) : Calls Tryz.prog 198 #[.int .i64 x] w (RetV w m fun _ r => r = .bool false) := by
 have hL := Loc.start hV
 clear hV
 have bb : (x != x) = false := by simp
 go_enter Tryz.func198, Tryz.ntmps198
 go_wp2_with (first | go_skip | refine tP ?_)
 go_ret
 exact RetV.mk hL rfl
theorem s_isNaN (x : Int) (w m : World) (hV : Vw m w) : Calls Tryz.prog 176 #[.int .i64 x] w (RetV w m fun _ r => r = .bool false) := by
 have hL := Loc.start hV
 clear hV
 have bb : (x != x) = false := by simp
 go_enter Tryz.func176, Tryz.ntmps176
 go_wp2_with (first | go_skip | refine tP ?_)
 go_ret
 exact RetV.mk hL rfl
theorem s_Less (x y : Int) (w m : World) (hV : Vw m w) : Calls Tryz.prog 175 #[.int .i64 x, .int .i64 y] w (RetV w m fun _ r => r = .bool (decide (x < y))) := by
 have hL := Loc.start hV
 clear hV
 go_enter Tryz.func175, Tryz.ntmps175
 go_wp2_with (first | go_skip | refine tP ?_)
 refine (s_isNaNc x _ _ hL.vw).mono ?_
 rintro e Wc1 ⟨_, mc1, rfl, hE, hMc1, hV, rfl⟩
 replace hL := hL.call hE (by assumption) hV; clear hE hV
 go_wp2_with (first | go_skip | refine tP ?_)
 go_ret
 exact RetV.mk hL rfl

def Bs (xs : List Int) (t : Int) (i j : Nat) : Prop := (∀ p x, p < i → xs[p]? = some x → x < t) ∧ (∀ p x, j ≤ p → xs[p]? = some x → t ≤ x)
theorem Bs.start (xs : List Int) (t : Int) : Bs xs t 0 xs.length := ⟨fun p _ hp => by omega, fun p x hp hx => by have := (List.getElem?_eq_some_iff.1 hx).1; omega⟩
theorem Bs.up {xs : List Int} {t x : Int} {i j h : Nat} (ha : AscP xs) (hb : Bs xs t i j) (hx : xs[h]? = some x) (hl : x < t) : Bs xs t (h + 1) j := by
 refine ⟨fun p y hp hy => ?_, hb.2⟩
 rcases Nat.lt_or_ge p h with h1 | h1
 ·have := ha.lt (h - p - 1) p y x hy (by rw [show p + (h - p - 1) + 1 = h by omega]; exact hx)
  omega
 ·obtain rfl : p = h := by omega
  rw [hx] at hy
  have := Option.some.inj hy
  omega
theorem Bs.down {xs : List Int} {t x : Int} {i j h : Nat} (ha : AscP xs) (hb : Bs xs t i j) (hx : xs[h]? = some x) (hl : ¬ x < t) : Bs xs t i h := by
 refine ⟨hb.1, fun p y hp hy => ?_⟩
 rcases Nat.lt_or_ge h p with h1 | h1
 ·have := ha.lt (p - h - 1) h x y hx (by rw [show h + (p - h - 1) + 1 = p by omega]; exact hy)
  omega
 ·obtain rfl : p = h := by omega
  rw [hx] at hy
  have := Option.some.inj hy
  omega
theorem Bs.found {xs : List Int} {t x : Int} {i : Nat} (ha : AscP xs) (hb : Bs xs t i i) (hx : xs[i]? = some x) : decide (t ∈ xs) = decide (x = t) := by
 by_cases he : x = t
 ·rw [decide_eq_true he, decide_eq_true (he ▸ List.mem_of_getElem? hx)]
 ·rw [decide_eq_false he]
  refine decide_eq_false fun hm => ?_
  obtain ⟨p, hp⟩ := List.mem_iff_getElem?.1 hm
  rcases Nat.lt_trichotomy p i with h | h | h
  ·have := hb.1 p t h hp; omega
  ·subst h; rw [hx] at hp; exact he (Option.some.inj hp)
  ·have h1 := hb.2 i x (Nat.le_refl _) hx
   have h2 := ha.lt (p - i - 1) i x t hx (by rw [show i + (p - i - 1) + 1 = p by omega]; exact hp)
   omega
theorem Bs.none {xs : List Int} {t : Int} {i n : Nat} (hb : Bs xs t i i) (hn : xs.length = n) (hi : ¬ i < n) : decide (t ∈ xs) = false := by
 refine decide_eq_false fun hm => ?_
 obtain ⟨p, hp⟩ := List.mem_iff_getElem?.1 hm
 have := (List.getElem?_eq_some_iff.1 hp).1
 have := hb.1 p t (by omega) hp
 omega
theorem s_BinarySearch (a : Value) (xs : List Int) (t : Int) (w m : World) (hV : Vw m w) (ha : IntL m a xs) (hl : xs.length ≤ 1000000) (hasc : AscP xs) :
  Calls Tryz.prog 130 #[a, .int .i64 t] w (RetV w m fun _ r => ∃ i : Nat, r = .tuple #[.int .i64 i, .bool (decide (t ∈ xs))] ∧ (t ∈ xs → xs[i]? = some t)) := by
 obtain ⟨A, c, rfl, hc, ha⟩ := ha.lit
 have HA := Lib.hid hasc
 have HS := Lib.hid (Bs.start xs t)
 have hL := Loc.start hV
 clear hV hasc
 generalize hn : xs.length = n at *
 have HN := Lib.hid hn
 clear hn
 go_enter Tryz.func130, Tryz.ntmps130
 go_wp2_with (first | go_skip | refine tP ?_)
 go_loopw [7, 8] (fun si sj wr => ∃ (i j : Nat) (mm : World), i ≤ j ∧ j ≤ n ∧ si = .int .i64 i ∧ sj = .int .i64 j ∧ Loc w m wr mm [] ∧ Hid (Bs xs t i j)) (fun si sj _ => (intOf sj).toNat - (intOf si).toNat)
 case atStart => exact ⟨0, n, m, Nat.zero_le _, Nat.le_refl _, rfl, rfl, hL, HS⟩
 case round =>
  clear hL HS
  obtain ⟨i, j, mm, hij, hj, rfl, rfl, hL, HB⟩ := hrel
  have hM := hL.mext
  by_cases hlt : i < j
  ·have h1 : i ≤ (i + j) / 2 := by omega
   have h2 : (i + j) / 2 < j := by omega
   obtain ⟨x, hx⟩ := at_some HN (show (i + j) / 2 < n by omega)
   obtain ⟨b1, o1, rfl, hc1⟩ := IntL.at_ ha hx
   have HX := Lib.hid hx
   clear hx
   go_wp2_with (first | go_skip | refine tP ?_)
   refine (s_Less x t _ _ hL.vw).mono ?_
   rintro e Wc1 ⟨_, mc1, rfl, hE, hMc1, hV, rfl⟩
   replace hL := hL.call hE (by assumption) hV; clear hE hV
   by_cases hc : x < t
   ·have HU := Lib.hid (HB.out.up HA.out HX.out hc)
    rw [decide_eq_true hc]
    clear hc
    go_wp2_with (first | go_skip | refine tP ?_)
    go_roundw
    case rel => exact ⟨(i + j) / 2 + 1, j, _, by omega, hj, by go_num, rfl, hL, HU⟩
    case measure => simp [intOf] <;> omega
   ·have HU := Lib.hid (HB.out.down HA.out HX.out hc)
    rw [decide_eq_false hc]
    clear hc
    go_wp2_with (first | go_skip | refine tP ?_)
    go_roundw
    case rel => exact ⟨i, (i + j) / 2, _, by omega, by omega, rfl, by go_num, hL, HU⟩
    case measure => simp [intOf] <;> omega
  ·obtain rfl : i = j := by omega
   by_cases hin : i < n
   ·obtain ⟨x, hx⟩ := at_some HN hin
    obtain ⟨b1, o1, rfl, hc1⟩ := IntL.at_ ha hx
    have HF := Lib.hid (HB.out.found HA.out hx)
    by_cases he : x = t
    ·have bb : (x == t) = true := by simp [he]
     have E : Hid (decide (t ∈ xs) = true ∧ (t ∈ xs → xs[i]? = some t)) := ⟨by rw [HF.out, decide_eq_true he], fun _ => by rw [hx, he]⟩
     clear hx he HF
     go_wp2_with (first | go_skip | refine tP ?_)
     go_ret2
     exact RetV.mk hL ⟨i, by rw [E.out.1]; rfl, E.out.2⟩
    ·have bb : (x == t) = false := by simp [he]
     have E : Hid (decide (t ∈ xs) = false) := by show _ = _; rw [HF.out, decide_eq_false he]
     clear hx he HF
     go_wp2_with (first | go_skip | refine tP ?_)
     refine (s_isNaN x _ _ hL.vw).mono ?_
     rintro e Wc2 ⟨_, mc2, rfl, hE, hMc2, hV, rfl⟩
     replace hL := hL.call hE (by assumption) hV; clear hE hV
     go_wp2_with (first | go_skip | refine tP ?_)
     go_ret2
     exact RetV.mk hL ⟨i, by rw [E.out]; rfl, fun h => by rw [decide_eq_true h] at E; cases E.out⟩
   ·have E := Lib.hid (HB.out.none HN.out hin)
    go_wp2_with (first | go_skip | refine tP ?_)
    go_ret2
    exact RetV.mk hL ⟨i, by rw [E.out]; rfl, fun h => by have := E.out; rw [decide_eq_true h] at this; cases this⟩
end Go.Proofs.YtmhkmmmompediaaGreat

/- Contracts of enumerate.Operated and pairingref27.Operated. -/
namespace Go.Proofs.YtmhkmmmompediaaGreat
open Go.RowKit

theorem zc_Task : zc Tryz.prog 111 = some #[.int .i64 0, .bool false] := by kernel_rfl
instance iAB3_1 : ZcC Tryz.prog 111 #[.int .i64 0, .bool false] := ⟨zc_Task⟩
theorem fd_Task0 : fdS Tryz.prog 111 0 = some 0 := by kernel_rfl
instance iAB3_2 : FdC Tryz.prog 111 0 0 := ⟨fd_Task0⟩
theorem fd_Task1 : fdS Tryz.prog 111 1 = some 1 := by kernel_rfl
instance iAB3_3 : FdC Tryz.prog 111 1 1 := ⟨fd_Task1⟩
theorem fd_Pair1 : fdS Tryz.prog 70 1 = some 1 := by kernel_rfl
instance iAB3_4 : FdC Tryz.prog 70 1 1 := ⟨fd_Pair1⟩
theorem lf_Duties : lfB Tryz.prog 68 = true := by kernel_rfl
instance iAB3_5 : LfC Tryz.prog 68 := ⟨lf_Duties⟩
theorem lf_Duty : lfB Tryz.prog 113 = true := by kernel_rfl
instance iAB3_6 : LfC Tryz.prog 113 := ⟨lf_Duty⟩
theorem ag_Pair : agS Tryz.prog 70 = some 2 := by kernel_rfl
instance iAB3_7 : AgC Tryz.prog 70 2 := ⟨ag_Pair⟩
theorem fd_Col0 : fdS Tryz.prog 72 0 = some 0 := by kernel_rfl
instance iAB3_8 : FdC Tryz.prog 72 0 0 := ⟨fd_Col0⟩
theorem fd_Col1 : fdS Tryz.prog 72 1 = some 2 := by kernel_rfl
instance iAB3_9 : FdC Tryz.prog 72 1 2 := ⟨fd_Col1⟩

def opT (ts : List Task) : List Int := ts.filterMap fun t => if t.2 then none else some t.1
def opF (ds : List (List Task)) : List Int := ds.flatMap opT
theorem opT_len (ts : List Task) : (opT ts).length ≤ ts.length := List.length_filterMap_le _ _
theorem opT_in {ts : List Task} {j : Nat} {x : Int} (h : ts[j]? = some (x, false)) : opT (ts.take (j + 1)) = opT (ts.take j) ++ [x] := by
 rw [← take_snoc h]; simp [opT, List.filterMap_append]
theorem opT_out {ts : List Task} {j : Nat} {x : Int} (h : ts[j]? = some (x, true)) : opT (ts.take (j + 1)) = opT (ts.take j) := by
 rw [← take_snoc h]; simp [opT, List.filterMap_append]
theorem opF_next {ds : List (List Task)} {k : Nat} {d : List Task} (h : ds[k]? = some d) : opF (ds.take (k + 1)) = opF (ds.take k) ++ opT d := by
 rw [← take_snoc h]; simp [opF, List.flatMap_append]
theorem opF_len {ds : List (List Task)} (h : ∀ d ∈ ds, d.length ≤ 100) : (opF ds).length ≤ 100 * ds.length := by
 induction ds with
 | nil => simp [opF]
 | cons d ds ih =>
  have h1 := ih fun x hx => h x (List.mem_cons_of_mem _ hx)
  have h2 := opT_len d
  have h3 := h d (by simp)
  simp only [opF, List.flatMap_cons, List.length_append, List.length_cons] at *
  omega
theorem opF_take {ds : List (List Task)} (h : ∀ d ∈ ds, d.length ≤ 100) (k : Nat) (hk : k ≤ 100) : (opF (ds.take k)).length ≤ 10000 := by
 have h1 := opF_len (ds := ds.take k) fun d hd => h d (List.mem_of_mem_take hd)
 have h2 : (ds.take k).length ≤ k := by simp; omega
 omega
theorem DutsL.at_ {m : World} {A : Option Addr} {n c : Nat} {ds : List (List Task)} (h : DutsL m (.slice A n c) ds) {k : Nat} {d : List Task} (hk : ds[k]? = some d) :
  ∃ b off A' c', A = some ⟨b, off, none⟩ ∧ DutL m (.slice A' d.length c') d ∧ m.cell? ⟨b, off + k, none⟩ = some (.slice A' d.length c') := by
 obtain ⟨b, off, v, e, hv, _, hr⟩ := ListV.at_ h (by omega) hk
 obtain ⟨A', c', rfl, _, hv⟩ := hv.lit
 exact ⟨b, off, A', c', e, hv, by simpa using hr 0 _ rfl⟩
theorem DutL.at_ {m : World} {A : Option Addr} {n c : Nat} {ts : List Task} (h : DutL m (.slice A n c) ts) {k : Nat} {x : Int} {g : Bool} (hk : ts[k]? = some (x, g)) :
  ∃ b off, A = some ⟨b, off, none⟩ ∧ m.rangeAt b (off + k * 2) [.int .i64 x, .bool g] := by
 obtain ⟨b, off, v, e, rfl, _, hr⟩ := ListV.at_ h (by omega) hk
 exact ⟨b, off, e, hr⟩
theorem isI_mono (m m' : World) (v : Value) (x : Int) (h : IsI m v x) (_ : Le m m') : IsI m' v x := h

theorem e_Operated (s : ByteArray) (v : Value) (ds : List (List Task)) (w m : World) (hV : Vw m w) (h : DutsL m v ds) (h1 : ds.length ≤ 100) (h2 : ∀ d ∈ ds, d.length ≤ 100) :
  Calls Tryz.prog 129 #[.agg #[.string s, v]] w (RetV w m fun m' r => IntL m' r (opF ds)) := by
 obtain ⟨D, cd, rfl, hcd, h⟩ := h.lit
 have H2 := Lib.hid h2
 have hL := Loc.start hV
 clear hV h2
 generalize hq : ds.length = nd at *
 have HQ := Lib.hid hq
 clear hq
 go_enter Tryz.func129, Tryz.ntmps129
 go_upto_region 0 with (fail)
 refine wp_region_lit ?_
 refine t_box hL rfl rfl ?_; clear hL; intro Wh1 mh1 hL eh1; simp only [Act.put, zq1, zq2, zq3]
 go_wp2_with (first | go_skip | refine tP ?_ | (refine tS ?_; clear hL; intro _ hL) | (refine tB ?_; clear hL; intro _ _ hL _) | (refine tC ?_; clear hL; intro _ _ hL _ hBs))
 go_loopw [3, 11] (fun out i wr => ∃ (k : Nat) (mm : World) (n3 : Nat) (R3 : List Lo), k ≤ nd ∧ i = .int .i64 k ∧ Loc w m wr mm ((w.heap.size, 70, #[.string s, .slice D nd cd]) :: R3) ∧ Hid (RowA 3 1 IsI mm out n3 (opF (ds.take k)) R3)) (fun _ i _ => nd - (intOf i).toNat)
 case atStart => exact ⟨0, _, 0, [], Nat.zero_le _, rfl, hL, RowA.nil⟩
 case round =>
  clear hL
  obtain ⟨k, mm, n3, R3, hk, rfl, hL, row⟩ := hrel
  have hM := hL.mext
  obtain ⟨A3, c3, rfl, row1⟩ := row.out.lit
  have ROW := Lib.hid row1
  clear row row1
  by_cases hlt : k < nd
  ·obtain ⟨d, hd⟩ := at_some HQ hlt
   obtain ⟨b1, o1, A4, c4, rfl, hdu, hc1⟩ := DutsL.at_ h hd
   have HD := Lib.hid (opF_next hd)
   have hdl : d.length ≤ 100 := H2.out d (List.mem_of_getElem? hd)
   have HT := Lib.hid (opF_take H2.out k (by omega))
   clear hd
   generalize hq2 : d.length = nt at *
   have HQ2 := Lib.hid hq2
   clear hq2
   go_wp2_with (first | go_skip | refine tP ?_ | (refine tS ?_; clear hL; intro _ hL) | (refine tB ?_; clear hL; intro _ _ hL _) | (refine tC ?_; clear hL; intro _ _ hL _ hBs))
   go_loopw [3, 17] (fun out i wr => ∃ (j : Nat) (m2 : World) (n4 : Nat) (R4 : List Lo), j ≤ nt ∧ i = .int .i64 j ∧ Loc w m wr m2 ((w.heap.size, 70, #[.string s, .slice (some ⟨b1, o1, none⟩) nd cd]) :: R4) ∧ Hid (RowA 3 1 IsI m2 out n4 (opF (ds.take k) ++ opT (d.take j)) R4)) (fun _ i _ => nt - (intOf i).toNat)
   case atStart => exact ⟨0, mm, n3, R3, Nat.zero_le _, rfl, hL, by show RowA _ _ _ _ _ _ _ _; simpa [opT] using ROW.out⟩
   case round =>
    clear hL ROW hM
    obtain ⟨j, m2, n4, R4, hj, rfl, hL, row⟩ := hrel
    have hM := hL.mext
    obtain ⟨A5, c5, rfl, row1⟩ := row.out.lit
    have hn4 : n4 ≤ 10100 := by
     have e := row1.len
     rw [List.length_append] at e
     have := HT.out
     have := opT_len (d.take j)
     have : (d.take j).length ≤ j := by simp; omega
     omega
    have ROW := Lib.hid row1
    clear row row1
    by_cases hlt2 : j < nt
    ·obtain ⟨⟨x, g⟩, hx⟩ := at_some HQ2 hlt2
     obtain ⟨b2, o2, rfl, hr2⟩ := DutL.at_ hdu hx
     cases g
     ·have HS := Lib.hid (opT_in hx)
      clear hx
      go_wp2_with (first | go_skip | refine tP ?_ | (refine tS ?_; clear hL; intro _ hL) | (refine tB ?_; clear hL; intro _ _ hL _) | (refine tC ?_; clear hL; intro _ _ hL _ hBs))
      refine goA ?_
      obtain ⟨vs7, r7, z7, y7, l7⟩ := ROW.out
      refine wl_append (A := [_, _]) hL r7 (wanted_none rfl) rfl ap_ints (by omega) rfl rfl (news := [.int .i64 x]) rfl ((Blk.sl hBs (n := 1) rfl).le hL.vw.le) rfl (by omega) (by omega) ?_
      clear hL
      intro v1 W5 m5 R5 hL r8 e8
      obtain ⟨A9, c9, rfl, -⟩ := r8.lit
      simp only [List.cons_append, List.nil_append] at hL
      have rd2 := RowA.snocV (R := IsI) (m := m5) (x := x) r8 z7 (y7.mono fun _ _ hv => hv) l7 rfl rfl rfl
      simp only [Act.put, zq1, zq2, zq3]
      go_wp2_with (first | go_skip | refine tP ?_ | (refine tS ?_; clear hL; intro _ hL) | (refine tB ?_; clear hL; intro _ _ hL _) | (refine tC ?_; clear hL; intro _ _ hL _ hBs))
      go_roundw
      case rel => exact ⟨j + 1, m5, n4 + 1, R5, by omega, by go_num, hL.tail, by rw [HS.out, ← List.append_assoc]; exact rd2⟩
      case measure => simp [intOf] <;> omega
     ·have HS := Lib.hid (opT_out hx)
      clear hx
      go_wp2_with (first | go_skip | refine tP ?_ | (refine tS ?_; clear hL; intro _ hL) | (refine tB ?_; clear hL; intro _ _ hL _) | (refine tC ?_; clear hL; intro _ _ hL _ hBs))
      go_roundw
      case rel => exact ⟨j + 1, _, n4, R4, by omega, by go_num, hL.tail, by rw [HS.out]; exact RowA.le isI_mono ROW.out leX⟩
      case measure => simp [intOf] <;> omega
    ·have E : Hid (opF (ds.take k) ++ opT (d.take j) = opF (ds.take (k + 1))) := by
      show _ = _
      rw [HD.out, List.take_of_length_le (l := d) (by rw [HQ2.out]; omega)]
     go_wp2_with (first | go_skip | refine tP ?_ | (refine tS ?_; clear hL; intro _ hL) | (refine tB ?_; clear hL; intro _ _ hL _) | (refine tC ?_; clear hL; intro _ _ hL _ hBs))
     go_roundw
     case rel => exact ⟨k + 1, m2, n4, R4, by omega, by go_num, hL, by rw [← E.out]; exact ROW.out⟩
     case measure => simp [intOf] <;> omega
  ·have E : Hid (opF (ds.take k) = opF ds) := by show _ = _; rw [List.take_of_length_le (by rw [HQ.out]; omega)]
   go_wp2_with (first | go_skip | refine tP ?_ | (refine tS ?_; clear hL; intro _ hL) | (refine tB ?_; clear hL; intro _ _ hL _) | (refine tC ?_; clear hL; intro _ _ hL _ hBs))
   have row2 := ROW.out
   rw [E.out] at row2
   obtain ⟨m9, hL9, hle9, hl9, -⟩ := RowA.show (A := [_]) isI_mono hL row2
   go_ret
   exact RetV.mk hL9 hl9

theorem r_Operated (s : ByteArray) (v : Value) (ds : List (List Task)) (w m : World) (hV : Vw m w) (h : DutsL m v ds) (h1 : ds.length ≤ 100) (h2 : ∀ d ∈ ds, d.length ≤ 100) :
  Calls Tryz.prog 43 #[.agg #[.string s, v]] w (RetV w m fun m' r => IntL m' r (opF ds)) := by
 obtain ⟨D, cd, rfl, hcd, h⟩ := h.lit
 have H2 := Lib.hid h2
 have hL := Loc.start hV
 clear hV h2
 generalize hq : ds.length = nd at *
 have HQ := Lib.hid hq
 clear hq
 go_enter Tryz.func43, Tryz.ntmps43
 go_upto_region 0 with (fail)
 refine wp_region_lit ?_
 refine t_box hL rfl rfl ?_; clear hL; intro Wh1 mh1 hL eh1; simp only [Act.put, zq1, zq2, zq3]
 go_wp2_with (first | go_skip | refine tP ?_ | (refine tB ?_; clear hL; intro _ _ hL _) | (refine tC ?_; clear hL; intro _ _ hL _ hBs))
 go_loopw [3, 4] (fun out i wr => ∃ (k : Nat) (mm : World) (n3 : Nat) (R3 : List Lo), k ≤ nd ∧ i = .int .i64 k ∧ Loc w m wr mm ((w.heap.size, 70, #[.string s, .slice D nd cd]) :: R3) ∧ Hid (RowA 3 1 IsI mm out n3 (opF (ds.take k)) R3)) (fun _ i _ => nd - (intOf i).toNat)
 case atStart => exact ⟨0, _, 0, [], Nat.zero_le _, rfl, hL, RowA.nil⟩
 case round =>
  clear hL
  obtain ⟨k, mm, n3, R3, hk, rfl, hL, row⟩ := hrel
  have hM := hL.mext
  obtain ⟨A3, c3, rfl, row1⟩ := row.out.lit
  have ROW := Lib.hid row1
  clear row row1
  by_cases hlt : k < nd
  ·obtain ⟨d, hd⟩ := at_some HQ hlt
   obtain ⟨b1, o1, A4, c4, rfl, hdu, hc1⟩ := DutsL.at_ h hd
   have HD := Lib.hid (opF_next hd)
   have hdl : d.length ≤ 100 := H2.out d (List.mem_of_getElem? hd)
   have HT := Lib.hid (opF_take H2.out k (by omega))
   clear hd
   generalize hq2 : d.length = nt at *
   have HQ2 := Lib.hid hq2
   clear hq2
   go_wp2_with (first | go_skip | refine tP ?_ | (refine tB ?_; clear hL; intro _ _ hL _) | (refine tC ?_; clear hL; intro _ _ hL _ hBs))
   go_loopw [3, 5] (fun out i wr => ∃ (j : Nat) (m2 : World) (n4 : Nat) (R4 : List Lo), j ≤ nt ∧ i = .int .i64 j ∧ Loc w m wr m2 ((w.heap.size, 70, #[.string s, .slice (some ⟨b1, o1, none⟩) nd cd]) :: R4) ∧ Hid (RowA 3 1 IsI m2 out n4 (opF (ds.take k) ++ opT (d.take j)) R4)) (fun _ i _ => nt - (intOf i).toNat)
   case atStart => exact ⟨0, mm, n3, R3, Nat.zero_le _, rfl, hL, by show RowA _ _ _ _ _ _ _ _; simpa [opT] using ROW.out⟩
   case round =>
    clear hL ROW hM
    obtain ⟨j, m2, n4, R4, hj, rfl, hL, row⟩ := hrel
    have hM := hL.mext
    obtain ⟨A5, c5, rfl, row1⟩ := row.out.lit
    have hn4 : n4 ≤ 10100 := by
     have e := row1.len
     rw [List.length_append] at e
     have := HT.out
     have := opT_len (d.take j)
     have : (d.take j).length ≤ j := by simp; omega
     omega
    have ROW := Lib.hid row1
    clear row row1
    by_cases hlt2 : j < nt
    ·obtain ⟨⟨x, g⟩, hx⟩ := at_some HQ2 hlt2
     obtain ⟨b2, o2, rfl, hr2⟩ := DutL.at_ hdu hx
     have hx0 := hr2 0 _ rfl
     have hx1 := hr2 1 _ rfl
     rw [Nat.add_zero] at hx0
     cases g
     ·have HS := Lib.hid (opT_in hx)
      clear hx hr2
      go_wp2_with (first | go_skip | refine tP ?_ | (refine tB ?_; clear hL; intro _ _ hL _) | (refine tC ?_; clear hL; intro _ _ hL _ hBs))
      refine goA ?_
      obtain ⟨vs7, r7, z7, y7, l7⟩ := ROW.out
      refine wl_append (A := [_]) hL r7 (wanted_none rfl) rfl ap_ints (by omega) rfl rfl (news := [.int .i64 x]) rfl ((Blk.sl hBs (n := 1) rfl).le hL.vw.le) rfl (by omega) (by omega) ?_
      clear hL
      intro v1 W5 m5 R5 hL r8 e8
      obtain ⟨A9, c9, rfl, -⟩ := r8.lit
      simp only [List.cons_append, List.nil_append] at hL
      have rd2 := RowA.snocV (R := IsI) (m := m5) (x := x) r8 z7 (y7.mono fun _ _ hv => hv) l7 rfl rfl rfl
      simp only [Act.put, zq1, zq2, zq3]
      go_wp2_with (first | go_skip | refine tP ?_ | (refine tB ?_; clear hL; intro _ _ hL _) | (refine tC ?_; clear hL; intro _ _ hL _ hBs))
      go_roundw
      case rel => exact ⟨j + 1, m5, n4 + 1, R5, by omega, by go_num, hL, by rw [HS.out, ← List.append_assoc]; exact rd2⟩
      case measure => simp [intOf] <;> omega
     ·have HS := Lib.hid (opT_out hx)
      clear hx hr2
      go_wp2_with (first | go_skip | refine tP ?_ | (refine tB ?_; clear hL; intro _ _ hL _) | (refine tC ?_; clear hL; intro _ _ hL _ hBs))
      go_roundw
      case rel => exact ⟨j + 1, _, n4, R4, by omega, by go_num, hL, by rw [HS.out]; exact ROW.out⟩
      case measure => simp [intOf] <;> omega
    ·have E : Hid (opF (ds.take k) ++ opT (d.take j) = opF (ds.take (k + 1))) := by
      show _ = _
      rw [HD.out, List.take_of_length_le (l := d) (by rw [HQ2.out]; omega)]
     go_wp2_with (first | go_skip | refine tP ?_ | (refine tB ?_; clear hL; intro _ _ hL _) | (refine tC ?_; clear hL; intro _ _ hL _ hBs))
     go_roundw
     case rel => exact ⟨k + 1, m2, n4, R4, by omega, by go_num, hL, by rw [← E.out]; exact ROW.out⟩
     case measure => simp [intOf] <;> omega
  ·have E : Hid (opF (ds.take k) = opF ds) := by show _ = _; rw [List.take_of_length_le (by rw [HQ.out]; omega)]
   go_wp2_with (first | go_skip | refine tP ?_ | (refine tB ?_; clear hL; intro _ _ hL _) | (refine tC ?_; clear hL; intro _ _ hL _ hBs))
   have row2 := ROW.out
   rw [E.out] at row2
   obtain ⟨m9, hL9, hle9, hl9, -⟩ := RowA.show (A := [_]) isI_mono hL row2
   go_ret
   exact RetV.mk hL9 hl9
end Go.Proofs.YtmhkmmmompediaaGreat

/- Sets of numbers as maps to bool, beside the view; contracts of master.validCut and pairingref27.ValidCut for valid cuts. -/
namespace Go.Proofs.YtmhkmmmompediaaGreat
open Go.RowKit Go.Maps

theorem Loc.allocM {w0 m0 W m : World} {Ls : List Lo} (h : Loc w0 m0 W m Ls) (o : Obj) : Loc w0 m0 (W.alloc o) (hidTo m (W.alloc o).heap.size) Ls := by
 have hs : m.heap.size ≤ (W.alloc o).heap.size := by rw [h.vw.size]; simp
 refine ⟨h.size0, h.ext.alloc _, h.mext.trans (hidTo_ext hs), ⟨h.vw.os, h.vw.tape, h.vw.output, hidTo_size hs, fun a u hu => ?_⟩, h.low, fun x hx => (h.blk x hx).alloc _, fun x hx a ha => ?_, h.apart⟩
 ·rcases Nat.lt_or_ge a.block m.heap.size with hb | hb
  ·rw [cell_of_heap (hidTo_old hb)] at hu
   exact cell_alloc_old (h.vw.cell _ _ hu)
  ·rw [hidTo_new hb] at hu; cases hu
 ·have hb : a.block < m.heap.size := by rw [ha, h.vw.size]; exact (h.blk x hx).lt
  rw [cell_of_heap (hidTo_old hb)]
  exact h.hid x hx a ha
theorem Loc.mapTurn {w0 m0 W m W' : World} {Ls : List Lo} (h : Loc w0 m0 W m Ls) {b : Nat} (hg : W.grownBy W' (some b)) (hb : w0.heap.size ≤ b) (hm : ∀ cs t fr, W.heap[b]? ≠ some (.cells cs t fr)) : Loc w0 m0 W' (hidTo m W'.heap.size) Ls := by
 have hs : m.heap.size ≤ W'.heap.size := by rw [h.vw.size]; exact hg.size
 refine ⟨h.size0, h.ext.grown hg (fun k hk => by cases hk; exact hb), h.mext.trans (hidTo_ext hs), ⟨h.vw.os.trans hg.os.symm, h.vw.tape.trans hg.tape.symm, h.vw.output.trans hg.output.symm, hidTo_size hs, fun a u hu => ?_⟩, h.low, fun x hx => ?_, fun x hx a ha => ?_, h.apart⟩
 ·rcases Nat.lt_or_ge a.block m.heap.size with hlt | hlt
  ·rw [cell_of_heap (hidTo_old hlt)] at hu
   have hc := h.vw.cell _ _ hu
   have hne : some a.block ≠ some b := by
    intro e
    have e' := Option.some.inj e
    unfold World.cell? at hc
    cases ho : W.heap[a.block]? with
    | none => rw [ho] at hc; cases hc
    | some ob =>
     rw [ho] at hc
     cases ob with
     | cells cs t fr => exact hm cs t fr (by rw [← e', ho])
     | _ => cases hc
   rw [World.cell?_of_block (hg.block _ (by rw [← h.vw.size]; exact hlt) hne)]
   exact hc
  ·rw [hidTo_new hlt] at hu; cases hu
 ·have hbk := h.blk x hx
  refine (hg.block _ hbk.lt fun e => ?_).trans hbk
  exact hm _ _ _ (by rw [← Option.some.inj e]; exact hbk)
 ·have hlt : a.block < m.heap.size := by rw [ha, h.vw.size]; exact (h.blk x hx).lt
  rw [cell_of_heap (hidTo_old hlt)]
  exact h.hid x hx a ha

theorem keyI : Keyed Tryz.prog 3 := int_keyed Tryz.underlying3
def BSet (W : World) (b : Nat) (xs : List Int) : Prop := ∃ n, n ≤ xs.length ∧ W.ownsMap (H := Unit) Tryz.prog 3 (plainElem Tryz.prog 4) b n (setOf (.lit (.bool true)) (xs.map (Lit.int .i64)))
theorem BSet.made (W : World) : BSet (W.alloc (.map #[] 0)) W.heap.size [] := ⟨0, Nat.le_refl _, World.ownsMap_made _ _ _ _⟩
theorem BSet.ext {W W' : World} {b : Nat} {xs : List Int} (h : BSet W b xs) (hE : Ext W W') : BSet W' b xs := by
 obtain ⟨n, hn, es, clock, hb, h⟩ := h
 have hlt : b < W.heap.size := (Array.getElem?_eq_some_iff.1 hb).1
 exact ⟨n, hn, es, clock, (hE.block b hlt).trans hb, h⟩
theorem BSet.notCells {W : World} {b : Nat} {xs : List Int} (h : BSet W b xs) : ∀ cs t fr, W.heap[b]? ≠ some (.cells cs t fr) := by
 obtain ⟨n, hn, es, clock, hb, h⟩ := h
 intro cs t fr e
 rw [hb] at e
 cases e
theorem setOf_at (u z : DataW Unit) (k : Lit) (hk : WideAt.IsKeyLit k) : ∀ (acc : List Lit), (∀ x ∈ acc, WideAt.IsKeyLit x) → (k ∈ acc → (setOf u acc.reverse).atKey k z = u) ∧ (k ∉ acc → (setOf u acc.reverse).atKey k z = z)
 | [], _ => ⟨fun h => absurd h List.not_mem_nil, fun _ => rfl⟩
 | x :: acc, h => by
  rw [List.reverse_cons, setOf_snoc]
  have ih := setOf_at u z k hk acc fun y hy => h y (List.mem_cons_of_mem _ hy)
  have hm : IsMap (setOf u acc.reverse) := (tidy_setOf u acc.reverse fun y hy => h y (List.mem_cons_of_mem _ (List.mem_reverse.1 hy))).isMap
  by_cases e : k = x
  ·subst e
   rw [atKey_put_same hm hk]
   exact ⟨fun _ => rfl, fun hn => absurd (List.mem_cons_self) hn⟩
  ·rw [atKey_put_other e]
   refine ⟨fun hx => ih.1 ?_, fun hn => ih.2 fun hx => hn (List.mem_cons_of_mem _ hx)⟩
   rcases List.mem_cons.1 hx with h1 | h1
   ·exact absurd h1 e
   ·exact h1
theorem isKey_int (x : Int) : WideAt.IsKeyLit (.int .i64 x) := trivial
theorem setOf_atI (xs : List Int) (x : Int) : (setOf (H := Unit) (.lit (.bool true)) (xs.map (Lit.int .i64))).atKey (.int .i64 x) (.lit (.bool false)) = .lit (.bool (decide (x ∈ xs))) := by
 have h := setOf_at (.lit (.bool true)) (.lit (.bool false)) (.int .i64 x) (isKey_int x) ((xs.map (Lit.int .i64)).reverse) (fun y hy => by
  simp only [List.mem_reverse, List.mem_map] at hy
  obtain ⟨z, _, rfl⟩ := hy
  exact isKey_int z)
 rw [List.reverse_reverse] at h
 by_cases hx : x ∈ xs
 ·rw [h.1 (List.mem_reverse.2 (List.mem_map.2 ⟨x, hx, rfl⟩)), decide_eq_true hx]
 ·rw [h.2 fun hm => ?_, decide_eq_false hx]
  obtain ⟨y, hy, e⟩ := List.mem_map.1 (List.mem_reverse.1 hm)
  cases e
  exact hx hy
theorem zeroB (w : World) : (zeroValue 4).run Tryz.prog w = .ok (.bool false) w := by kernel_rfl
theorem plainElem_bool_inv {v : Value} {z : DataW Unit × List MemPlace} (h : plainElem Tryz.prog 4 v = some z) : ∃ x, v = .bool x ∧ z = (.lit (.bool x), []) := by
 unfold plainElem at h
 rw [Tryz.underlying4] at h
 cases v <;> simp at h
 exact ⟨_, rfl, h.symm⟩
theorem BSet.look {W : World} {b : Nat} {xs : List Int} (h : BSet W b xs) {x : Int} (hw : (Lit.int .i64 x).wf = true) : (Instr.lookup 149 (.map (some b)) (.int .i64 x) false).run Tryz.prog W = .ok (.bool (decide (x ∈ xs))) W := by
 obtain ⟨n, hn, h⟩ := h
 obtain ⟨v, ps, hrun, hv⟩ := h.lookup keyI Tryz.underlying149 (zeroB W) (plainElem_bool Tryz.underlying4 false) (keyOf_int_mk Tryz.underlying3 hw)
 rw [setOf_atI] at hv
 obtain ⟨c, rfl, hc⟩ := plainElem_bool_inv hv
 simp only [Prod.mk.injEq, DataW.lit.injEq, Lit.bool.injEq] at hc
 rw [hrun, ← hc.1]
theorem BSet.up {W : World} {b : Nat} {xs : List Int} (h : BSet W b xs) (hl : xs.length ≤ 1000000) {x : Int} (hw : (Lit.int .i64 x).wf = true) :
  ∃ W', (Instr.mapUpdate 149 (.map (some b)) (.int .i64 x) (.bool true)).run Tryz.prog W = .ok () W' ∧ BSet W' b (xs ++ [x]) ∧ W.grownBy W' (some b) := by
 obtain ⟨n, hn, h⟩ := h
 obtain ⟨W', h1, h2, h3⟩ := h.update keyI Tryz.underlying149 (by unfold maxLen; omega) (keyOf_int_mk Tryz.underlying3 hw) (plainElem_bool Tryz.underlying4 true)
 refine ⟨W', h1, ⟨n + 1, by simp; omega, ?_⟩, h3⟩
 rw [List.map_append, List.map_cons, List.map_nil, setOf_snoc]
 exact h2
theorem wf_small {x : Int} (h1 : -1000000 ≤ x) (h2 : x ≤ 1000000) : (Lit.int .i64 x).wf = true := WalkArith.wf_i64 (by omega)

theorem Loc.world {w0 m0 W m : World} {Ls : List Lo} (_ : Loc w0 m0 W m Ls) : ∃ x, x = W := ⟨W, rfl⟩
structure CutOk (rs : List Int) (x : Cut) : Prop where
 asc : AscP x.1
 sub : ∀ r ∈ x.1, r ∈ rs
 two : 2 ≤ x.2
 le : x.2 ≤ (x.1.length : Int)
 len : x.1.length ≤ 1000000
end Go.Proofs.YtmhkmmmompediaaGreat

/- Contracts of master.validCut and pairingref27.ValidCut for valid cuts. -/
namespace Go.Proofs.YtmhkmmmompediaaGreat
open Go.RowKit

theorem asc_prev {xs : List Int} (h : AscP xs) {j : Nat} {x y : Int} (hy : xs[j]? = some y) (hx : xs[j + 1]? = some x) : ¬ x ≤ y := by
 have := h j y x hy hx; omega

theorem m_validCut (rv v : Value) (rs : List Int) (x : Cut) (w m : World) (hV : Vw m w) (hr : IntL m rv rs) (hv : CutR m v x) (hrl : rs.length ≤ 1000000) (hra : AscP rs) (ok : CutOk rs x) :
  Calls Tryz.prog 131 #[rv, v] w (RetV w m fun _ r => r = .bool true) := by
 obtain ⟨xs, dv⟩ := x
 obtain ⟨sv, rfl, hs, -⟩ := hv
 simp only at hs
 obtain ⟨B, d, rfl, hd, hr⟩ := hr.lit
 obtain ⟨A, c, rfl, hc, ha⟩ := hs.lit
 obtain ⟨o1, o2, o3, o4, o5⟩ := ok
 simp only at o1 o2 o3 o4 o5
 have HR := Lib.hid hr
 have HRL := Lib.hid hrl
 have HRA := Lib.hid hra
 have HA := Lib.hid o1
 have HS := Lib.hid o2
 have hL := Loc.start hV
 clear hV hr hra o1 o2 hrl
 generalize hn2 : rs.length = n2 at *
 have HN2 := Lib.hid hn2
 clear hn2
 generalize hn : xs.length = n at *
 have HN := Lib.hid hn
 clear hn
 have d1 : dv ≥ 2 := by omega
 have d2 : dv ≤ (n : Int) := o4
 go_enter Tryz.func131, Tryz.ntmps131
 go_upto_region 0 with (fail)
 refine wp_region_lit ?_
 refine t_box hL rfl rfl ?_; clear hL; intro Wh3 mh3 hL eh3; simp only [Act.put, zq1, zq2, zq3]
 go_wp2_with (first | go_skip | refine tP ?_ | (refine tB ?_; clear hL; intro _ _ hL _))
 go_loopw [12] (fun i wr => ∃ (k : Nat) (mm : World), k ≤ n ∧ i = .int .i64 k ∧ Loc w m wr mm [(w.heap.size, 34, #[.slice A n c, .int .i64 dv])]) (fun i _ => n - (intOf i).toNat)
 case atStart => exact ⟨0, _, Nat.zero_le _, rfl, hL⟩
 case round =>
  clear hL
  obtain ⟨k, mm, hk, rfl, hL⟩ := hrel
  have hM := hL.mext
  by_cases hlt : k < n
  ·obtain ⟨x, hx⟩ := at_some HN hlt
   obtain ⟨b1, o1, rfl, hc1⟩ := IntL.at_ ha hx
   have hin : x ∈ rs := HS.out x (List.mem_of_getElem? hx)
   have HIN := Lib.hid hin
   by_cases h0 : k = 0
   ·subst h0
    clear hx hin
    go_wp2_with (first | go_skip | refine tP ?_ | (refine tB ?_; clear hL; intro _ _ hL _))
    refine (s_BinarySearch _ rs x _ _ hL.vw (IntL.le HR.out leX) (by rw [HN2.out]; exact HRL.out) HRA.out).mono ?_
    rintro e W2 ⟨_, m2, rfl, hE, hM2, hV, i, rfl, -⟩
    replace hL := hL.call hE (by assumption) hV; clear hE hV
    rw [decide_eq_true HIN.out]
    go_wp2_with (first | go_skip | refine tP ?_ | (refine tB ?_; clear hL; intro _ _ hL _))
    go_roundw
    case rel => exact ⟨1, _, by omega, by go_num, hL⟩
    case measure => simp [intOf] <;> omega
   ·obtain ⟨j, rfl⟩ : ∃ j, k = j + 1 := ⟨k - 1, by omega⟩
    obtain ⟨y, hy⟩ := at_some HN (show j < n by omega)
    obtain ⟨b2, o2, e2, hc2⟩ := IntL.at_ ha hy
    obtain ⟨rfl, rfl⟩ : b1 = b2 ∧ o1 = o2 := by simpa using e2
    have hk0 : ((j + 1 : Nat) : Int) > 0 := by omega
    have hyx := asc_prev HA.out hy hx
    have hj3 : (j : Int) + 1 - 1 = (j : Int) := by omega
    have hjn : j < n := by omega
    clear hx hy hin e2 h0
    go_wp2_with (first | go_skip | refine tP ?_ | (refine tB ?_; clear hL; intro _ _ hL _))
    refine (s_BinarySearch _ rs x _ _ hL.vw (IntL.le HR.out leX) (by rw [HN2.out]; exact HRL.out) HRA.out).mono ?_
    rintro e W2 ⟨_, m2, rfl, hE, hM2, hV, i, rfl, -⟩
    replace hL := hL.call hE (by assumption) hV; clear hE hV
    rw [decide_eq_true HIN.out]
    go_wp2_with (first | go_skip | refine tP ?_ | (refine tB ?_; clear hL; intro _ _ hL _))
    go_roundw
    case rel => exact ⟨j + 1 + 1, _, by omega, by go_num, hL⟩
    case measure => simp [intOf] <;> omega
  ·go_wp2_with (first | go_skip | refine tP ?_ | (refine tB ?_; clear hL; intro _ _ hL _))
   go_ret
   exact RetV.mk hL rfl

theorem r_ValidCut (rv v : Value) (rs : List Int) (x : Cut) (w m : World) (hV : Vw m w) (hr : IntL m rv rs) (hv : CutR m v x) (hrl : rs.length ≤ 1000000) (ok : CutOk rs x) :
  Calls Tryz.prog 96 #[rv, v] w (RetV w m fun _ r => r = .bool true) := by
 obtain ⟨xs, dv⟩ := x
 obtain ⟨sv, rfl, hs, -⟩ := hv
 simp only at hs
 obtain ⟨B, d, rfl, hd, hr⟩ := hr.lit
 obtain ⟨A, c, rfl, hc, ha⟩ := hs.lit
 obtain ⟨o1, o2, o3, o4, o5⟩ := ok
 simp only at o1 o2 o3 o4 o5
 have HR := Lib.hid hr
 have HRL := Lib.hid hrl
 have HA := Lib.hid o1
 have HX := Lib.hid ha
 have H5 := Lib.hid o5
 have HS : Hid (decide (∀ r ∈ xs, r ∈ rs) = true) := decide_eq_true o2
 have hL := Loc.start hV
 clear hV hr o1 o2 hrl ha
 generalize hn2 : rs.length = n2 at *
 have HN2 := Lib.hid hn2
 clear hn2
 generalize hn : xs.length = n at *
 have HN := Lib.hid hn
 clear hn
 have d1 : dv ≥ 2 := by omega
 have d2 : dv ≤ (n : Int) := o4
 go_enter Tryz.func96, Tryz.ntmps96
 go_upto_region 0 with (fail)
 refine wp_region_lit ?_
 refine t_box hL rfl rfl ?_; clear hL; intro Wh3 mh3 hL eh3; simp only [Act.put, zq1, zq2, zq3]
 go_wp2_with (first | go_skip | refine tP ?_ | (refine tB ?_; clear hL; intro _ _ hL _))
 refine (r_ascT _ xs _ _ hL.vw (IntL.le HX.out leX) (by rw [HN.out]; exact H5.out) HA.out).mono ?_
 rintro e Wc1 ⟨_, mc1, rfl, hE, hMc1, hV, rfl⟩
 replace hL := hL.call hE (by assumption) hV; clear hE hV
 go_wp2_with (first | go_skip | refine tP ?_ | (refine tB ?_; clear hL; intro _ _ hL _))
 refine (r_within _ _ xs rs _ _ hL.vw (IntL.le HX.out leX) (IntL.le HR.out leX) (by rw [HN.out]; exact H5.out) (by rw [HN2.out]; exact HRL.out)).mono ?_
 rintro e Wc2 ⟨_, mc2, rfl, hE, hMc2, hV, rfl⟩
 replace hL := hL.call hE (by assumption) hV; clear hE hV
 rw [HS.out]
 go_wp2_with (first | go_skip | refine tP ?_ | (refine tB ?_; clear hL; intro _ _ hL _))
 go_ret
 exact RetV.mk hL rfl
end Go.Proofs.YtmhkmmmompediaaGreat

/- Contract of master.ValidateMaster for valid master problems. -/
namespace Go.Proofs.YtmhkmmmompediaaGreat
open Go.RowKit

structure ColOk (rs : List Int) (x : Col) : Prop where
 c1 : -1125899906842624 ≤ x.2.2
 c2 : x.2.2 ≤ 1125899906842624
 nd : x.2.1.length ≤ 100
 nt : ∀ d ∈ x.2.1, d.length ≤ 100
 pos : 0 < (opF x.2.1).length
 sub : ∀ f ∈ opF x.2.1, f ∈ rs
 nodup : (opF x.2.1).Nodup
structure MsOk (x : Ms) : Prop where
 f0 : 0 ≤ x.nf
 f1 : x.nf ≤ 200
 p0 : 0 ≤ x.pen
 p1 : x.pen ≤ 4294967296
 r0 : 1 ≤ x.rows.length
 r1 : x.rows.length ≤ 32
 asc : AscP x.rows
 low : ∀ r ∈ x.rows, 0 ≤ r ∧ r < x.nf
 k1 : x.cols.length ≤ 1000
 cols : ∀ c ∈ x.cols, ColOk x.rows c
 k2 : x.cuts.length ≤ 32
 cuts : ∀ c ∈ x.cuts, CutOk x.rows c
theorem ColL.at_ {m : World} {A : Option Addr} {n c : Nat} {cs : List Col} (h : ColL m (.slice A n c) cs) {k : Nat} {x : Col} (hk : cs[k]? = some x) :
  ∃ b off D cd, A = some ⟨b, off, none⟩ ∧ DutsL m (.slice D x.2.1.length cd) x.2.1 ∧ m.rangeAt b (off + k * 3) [.string x.1, .slice D x.2.1.length cd, .int .i64 x.2.2] := by
 obtain ⟨b, off, v, e, ⟨s, rfl, hs⟩, _, hr⟩ := ListV.at_ h (by omega) hk
 obtain ⟨D, cd, rfl, _, hs⟩ := hs.lit
 exact ⟨b, off, D, cd, e, hs, hr⟩
theorem CutL.at_' {m : World} {A : Option Addr} {n c : Nat} {cs : List Cut} (h : CutL m (.slice A n c) cs) {k : Nat} {x : Cut} (hk : cs[k]? = some x) :
  ∃ b off D cd, A = some ⟨b, off, none⟩ ∧ CutR m (.agg #[.slice D x.1.length cd, .int .i64 x.2]) x ∧ m.rangeAt b (off + k * 2) [.slice D x.1.length cd, .int .i64 x.2] := by
 obtain ⟨b, off, v, e, hc, _, hr⟩ := ListV.at_ h (by omega) hk
 have hc' := hc
 obtain ⟨s, rfl, hs, hl⟩ := hc
 obtain ⟨D, cd, rfl, _, hs⟩ := hs.lit
 exact ⟨b, off, D, cd, e, hc', hr⟩
theorem nodup_new {xs : List Int} (h : xs.Nodup) {j : Nat} {x : Int} (hx : xs[j]? = some x) : decide (x ∈ xs.take j) = false := by
 refine decide_eq_false fun hm => ?_
 obtain ⟨p, hp⟩ := List.mem_iff_getElem?.1 hm
 rw [List.getElem?_take] at hp
 by_cases hpj : p < j
 ·rw [if_pos hpj] at hp
  obtain ⟨h1, e1⟩ := List.getElem?_eq_some_iff.1 hp
  obtain ⟨h2, e2⟩ := List.getElem?_eq_some_iff.1 hx
  exact List.pairwise_iff_getElem.1 h p j h1 h2 hpj (e1.trans e2.symm)
 ·rw [if_neg hpj] at hp; cases hp

theorem m_ValidateMaster (v : Value) (x : Ms) (w m : World) (hV : Vw m w) (hv : MasterR m v x) (ok : MsOk x) :
  Calls Tryz.prog 68 #[v] w (RetV w m fun _ r => r = .int .i64 0) := by
 obtain ⟨nf, rs, pen, cols, cuts⟩ := x
 obtain ⟨va, vb, vc, rfl, ha, hb, hc⟩ := hv
 simp only at ha hb hc
 obtain ⟨A, ca, rfl, hca, ha⟩ := ha.lit
 obtain ⟨B, cb, rfl, hcb, hb⟩ := hb.lit
 obtain ⟨C, cc, rfl, hcc, hc⟩ := hc.lit
 obtain ⟨f0, f1, p0, p1, r0, r1, o1, o2, k1, o3, k2, o4⟩ := ok
 simp only at f0 f1 p0 p1 r0 r1 o1 o2 k1 o3 k2 o4
 have HR := Lib.hid ha
 have HA := Lib.hid o1
 have HO := Lib.hid o2
 have HC := Lib.hid o3
 have HK := Lib.hid o4
 have HCO := Lib.hid hb
 have HCU := Lib.hid hc
 have HRL : Hid (rs.length ≤ 1000000) := by show _ ≤ _; omega
 have hL := Loc.start hV
 clear hV o1 o2 o3 o4 hb hc
 generalize hn : rs.length = n at *
 have HN := Lib.hid hn
 clear hn
 generalize hn1 : cols.length = nc at *
 have HN1 := Lib.hid hn1
 clear hn1
 generalize hn2 : cuts.length = nk at *
 have HN2 := Lib.hid hn2
 clear hn2
 have q1 : ¬ nf > 200 := by omega
 have q2 : ¬ nf < 0 := by omega
 have q3 : ¬ (n : Int) < 1 := by omega
 have q4 : ¬ (n : Int) > 32 := by omega
 have q5 : ¬ pen < 0 := by omega
 have q6 : ¬ pen > 4294967296 := by omega
 have q7 : ¬ (nc : Int) > 1000 := by omega
 have q8 : ¬ (nk : Int) > 32 := by omega
 go_enter Tryz.func68, Tryz.ntmps68
 go_wp2_with (first | go_skip | refine tP ?_ | (refine tS ?_; clear hL; intro _ hL) | (refine tB ?_; clear hL; intro _ _ hL _))
 go_loopw [58] (fun i wr => ∃ (k : Nat) (mm : World), k ≤ n ∧ i = .int .i64 k ∧ Loc w m wr mm [(w.heap.size, 26, #[.int .i64 nf, .slice A n ca, .int .i64 pen, .slice B nc cb, .slice C nk cc])]) (fun i _ => n - (intOf i).toNat)
 case atStart => exact ⟨0, _, Nat.zero_le _, rfl, hL⟩
 case round =>
  clear hL
  obtain ⟨k, mm, hk, rfl, hL⟩ := hrel
  have hM := hL.mext
  by_cases hlt : k < n
  ·obtain ⟨x, hx⟩ := at_some HN hlt
   obtain ⟨b1, o1, hA, hc1⟩ := IntL.at_ ha hx
   replace hA := Lib.hid hA
   obtain ⟨x1, x2⟩ := HO.out x (List.mem_of_getElem? hx)
   have x1' : ¬ x < 0 := by omega
   have x2' : ¬ x ≥ nf := by omega
   by_cases h0 : k = 0
   ·subst h0
    clear hx x1 x2
    go_wp2_with (first | go_skip | refine tP ?_ | (refine tS ?_; clear hL; intro _ hL) | (refine tB ?_; clear hL; intro _ _ hL _))
    go_roundw
    case rel => exact ⟨1, _, by omega, by go_num, hL⟩
    case measure => simp [intOf] <;> omega
   ·obtain ⟨j, rfl⟩ : ∃ j, k = j + 1 := ⟨k - 1, by omega⟩
    have hk0 : ((j + 1 : Nat) : Int) > 0 := by omega
    have hjn : j < n := by omega
    obtain ⟨y, hy⟩ := at_some HN hjn
    obtain ⟨b2, o2, hA2, hc2⟩ := IntL.at_ ha hy
    have hyx := asc_prev HA.out hy hx
    have e12 : b2 = b1 ∧ o2 = o1 := by
     have := hA.out
     rw [hA2] at this
     simp only [Option.some.injEq, Addr.mk.injEq, and_true] at this
     exact this
    obtain ⟨rfl, rfl⟩ := e12
    have hj1 : ((j + 1 : Nat) : Int) - 1 = (j : Int) := by omega
    have hj2 : wrap64 (((j + 1 : Nat) : Int) - 1) = (j : Int) := by unfold wrap64; omega
    have hj3 : (j : Int) + 1 - 1 = (j : Int) := by omega
    clear hx hy x1 x2 hA2 h0
    go_wp2_with (first | go_skip | refine tP ?_ | (refine tS ?_; clear hL; intro _ hL) | (refine tB ?_; clear hL; intro _ _ hL _))
    go_roundw
    case rel => exact ⟨j + 1 + 1, _, by omega, by go_num, hL⟩
    case measure => simp [intOf] <;> omega
  ·have hmm := @run_makeMap Tryz.prog
   have HMM := Lib.hid hmm
   clear hmm
   go_wp2_with (first | go_skip | refine tP ?_ | (refine tS ?_; clear hL; intro _ hL) | (refine tB ?_; clear hL; intro _ _ hL _))
   clear hlt hk
   go_loopw [89] (fun i wr => ∃ (k : Nat) (mm : World), k ≤ nc ∧ i = .int .i64 k ∧ Loc w m wr mm [(w.heap.size, 26, #[.int .i64 nf, .slice A n ca, .int .i64 pen, .slice B nc cb, .slice C nk cc])]) (fun i _ => nc - (intOf i).toNat)
   case atStart => exact ⟨0, _, Nat.zero_le _, rfl, hL⟩
   case round =>
    clear hL hM
    obtain ⟨k, mm, hk, rfl, hL⟩ := hrel
    obtain ⟨wq, rfl⟩ := hL.world
    have hM := hL.mext
    by_cases hlt : k < nc
    ·obtain ⟨⟨s, ds, cost⟩, hx⟩ := at_some HN1 hlt
     have hco := HCO.out
     obtain ⟨b1, o1, D, cd, rfl, hds, hr1⟩ := ColL.at_ hco hx
     obtain ⟨i1, i2, i3, i4, i5, i6, i7⟩ := HC.out _ (List.mem_of_getElem? hx)
     simp only at hds hr1 i1 i2 i3 i4 i5 i6 i7
     have c1 : ¬ cost < -1125899906842624 := by omega
     have c2 : ¬ cost > 1125899906842624 := by omega
     have HD := Lib.hid hds
     have H3 := Lib.hid i3
     have H4 := Lib.hid i4
     have H6 := Lib.hid i6
     have H7 := Lib.hid i7
     have H5 := Lib.hid i5
     have H8 := Lib.hid (opF_len i4)
     clear hx hds i1 i2 i3 i4 i5 i6 i7 hco
     generalize hnd : ds.length = nd at *
     have HND := Lib.hid hnd
     clear hnd
     go_wp2_with (first | go_skip | refine tP ?_ | (refine tS ?_; clear hL; intro _ hL) | (refine tB ?_; clear hL; intro _ _ hL _))
     refine (e_Operated s _ ds _ _ hL.vw (DutsL.le HD.out leX) (by rw [HND.out]; exact H3.out) H4.out).mono ?_
     rintro e Wo1 ⟨vo1, mo1, rfl, hE, hMo1, hV, ho1⟩
     replace hL := hL.call hE (by assumption) hV; clear hE hV
     obtain ⟨Ao, co, rfl, hco, ho1⟩ := ho1.lit
     have HOP := Lib.hid ho1
     have h5 := H5.out
     have h8 : (opF ds).length ≤ 100000 := by have := H8.out; have := H3.out; omega
     clear ho1 hr1
     generalize hno : (opF ds).length = no at *
     have HNO := Lib.hid hno
     clear hno
     have q9 : ¬ (no : Int) < 1 := by omega
     have hmb := hL.ext.size
     have hmm := HMM.out
     go_wp2_with (first | go_skip | refine tP ?_ | (refine tS ?_; clear hL; intro _ hL) | (refine tB ?_; clear hL; intro _ _ hL _))
     go_loopw [110] (fun i wr => ∃ (j : Nat) (m2 : World), j ≤ no ∧ i = .int .i64 j ∧ Loc w m wr m2 [(wq.heap.size, 72, #[.string s, .slice D nd cd, .int .i64 cost]), (w.heap.size, 26, #[.int .i64 nf, .slice A n ca, .int .i64 pen, .slice (some ⟨b1, o1, none⟩) nc cb, .slice C nk cc])] ∧ Hid (BSet wr Wo1.heap.size ((opF ds).take j)) ∧ Hid (Ext mo1 m2)) (fun i _ => no - (intOf i).toNat)
     case atStart => exact ⟨0, _, Nat.zero_le _, rfl, hL.allocM _, BSet.made _, hidTo_ext (by rw [hL.vw.size]; simp)⟩
     case round =>
      clear hL hM hmm
      obtain ⟨j, m2, hj, rfl, hL, HB, HX⟩ := hrel
      have hM := hL.mext
      by_cases hlt2 : j < no
      ·obtain ⟨f, hf⟩ := at_some HNO hlt2
       obtain ⟨b3, o3, rfl, hc3⟩ := IntL.at_ HOP.out hf
       replace hc3 := HX.out.le.cell _ _ hc3
       have hin : f ∈ rs := H6.out f (List.mem_of_getElem? hf)
       have HIN := Lib.hid hin
       have HNW := Lib.hid (nodup_new H7.out hf)
       obtain ⟨lo, hi⟩ := HO.out f hin
       have HWF : Hid ((Lit.int .i64 f).wf = true) := wf_small (by omega) (by omega)
       have HT : Hid ((opF ds).take j ++ [f] = (opF ds).take (j + 1)) := take_snoc hf
       have HLN : Hid (((opF ds).take j).length ≤ 1000000) := by show _ ≤ _; simp; omega
       clear hf hin lo hi
       go_wp2_with (first | go_skip | refine tP ?_ | (refine tS ?_; clear hL; intro _ hL) | (refine tB ?_; clear hL; intro _ _ hL _))
       refine (s_BinarySearch _ rs f _ _ hL.vw (IntL.le HR.out leX) (by rw [HN.out]; exact HRL.out) HA.out).mono ?_
       rintro e W2 ⟨_, m3, rfl, hE, hM3, hV, i, rfl, -⟩
       have HB2 := HB.out.ext hE
       have HX3 : Hid (Ext mo1 m3) := HX.out.trans hM3
       replace hL := hL.call hE (by assumption) hV; clear hE hV
       rw [decide_eq_true HIN.out]
       have hlk := HB2.look HWF.out
       rw [HNW.out] at hlk
       obtain ⟨W9, hup, hb9, hg9⟩ := HB2.up HLN.out HWF.out
       have HB9 := Lib.hid hb9
       have HG9 := Lib.hid hg9
       have HNC := Lib.hid HB2.notCells
       clear hb9 hg9 HB2
       go_wp2_with (first | go_skip | refine tP ?_ | (refine tS ?_; clear hL; intro _ hL) | (refine tB ?_; clear hL; intro _ _ hL _))
       go_roundw
       case rel => exact ⟨j + 1, _, by omega, by go_num, hL.mapTurn HG9.out hmb HNC.out, by rw [← HT.out]; exact HB9.out, HX3.out.trans (hidTo_ext (by rw [hL.vw.size]; exact HG9.out.size))⟩
       case measure => simp [intOf] <;> omega
      ·go_wp2_with (first | go_skip | refine tP ?_ | (refine tS ?_; clear hL; intro _ hL) | (refine tB ?_; clear hL; intro _ _ hL _))
       go_roundw
       case rel => exact ⟨k + 1, _, by omega, by go_num, hL.tail⟩
       case measure => simp [intOf] <;> omega
    ·go_wp2_with (first | go_skip | refine tP ?_ | (refine tS ?_; clear hL; intro _ hL) | (refine tB ?_; clear hL; intro _ _ hL _))
     clear hlt hk
     go_loopw [135] (fun i wr => ∃ (k : Nat) (mm : World), k ≤ nk ∧ i = .int .i64 k ∧ Loc w m wr mm [(w.heap.size, 26, #[.int .i64 nf, .slice A n ca, .int .i64 pen, .slice B nc cb, .slice C nk cc])]) (fun i _ => nk - (intOf i).toNat)
     case atStart => exact ⟨0, _, Nat.zero_le _, rfl, hL⟩
     case round =>
      clear hL hM
      obtain ⟨k, mm, hk, rfl, hL⟩ := hrel
      have hM := hL.mext
      by_cases hlt : k < nk
      ·obtain ⟨⟨xs, dv⟩, hx⟩ := at_some HN2 hlt
       have hcu := HCU.out
       obtain ⟨b1, o1, D, cd, rfl, hcr, hr1⟩ := CutL.at_' hcu hx
       have HOK := Lib.hid (HK.out _ (List.mem_of_getElem? hx))
       have HCR := Lib.hid hcr
       clear hx hcu hcr
       simp only at hr1
       go_wp2_with (first | go_skip | refine tP ?_ | (refine tS ?_; clear hL; intro _ hL) | (refine tB ?_; clear hL; intro _ _ hL _))
       refine (m_validCut _ _ rs (xs, dv) _ _ hL.vw (IntL.le HR.out leX) (HCR.out.le leX) (by rw [HN.out]; exact HRL.out) HA.out HOK.out).mono ?_
       rintro e Wv1 ⟨_, mv1, rfl, hE, hMv1, hV, rfl⟩
       replace hL := hL.call hE (by assumption) hV; clear hE hV
       go_wp2_with (first | go_skip | refine tP ?_ | (refine tS ?_; clear hL; intro _ hL) | (refine tB ?_; clear hL; intro _ _ hL _))
       go_roundw
       case rel => exact ⟨k + 1, _, by omega, by go_num, hL.tail⟩
       case measure => simp [intOf] <;> omega
      ·go_wp2_with (first | go_skip | refine tP ?_ | (refine tS ?_; clear hL; intro _ hL) | (refine tB ?_; clear hL; intro _ _ hL _))
       go_ret
       exact RetV.mk hL rfl
end Go.Proofs.YtmhkmmmompediaaGreat

/- Contract of pairingref27.ValidateMaster for valid master problems. -/
namespace Go.Proofs.YtmhkmmmompediaaGreat
open Go.RowKit

theorem count_one {xs : List Int} (h : xs.Nodup) {j : Nat} {x : Int} (hx : xs[j]? = some x) : xs.count x = 1 := by
 have h1 := List.nodup_iff_count.1 h x
 have h2 : 0 < xs.count x := List.count_pos_iff.2 (List.mem_of_getElem? hx)
 omega
theorem r_ValidateMaster (v : Value) (x : Ms) (w m : World) (hV : Vw m w) (hv : MasterR m v x) (ok : MsOk x) :
  Calls Tryz.prog 76 #[v] w (RetV w m fun _ r => r = .int .i64 0) := by
 obtain ⟨nf, rs, pen, cols, cuts⟩ := x
 obtain ⟨va, vb, vc, rfl, ha, hb, hc⟩ := hv
 simp only at ha hb hc
 obtain ⟨A, ca, rfl, hca, ha⟩ := ha.lit
 obtain ⟨B, cb, rfl, hcb, hb⟩ := hb.lit
 obtain ⟨C, cc, rfl, hcc, hc⟩ := hc.lit
 obtain ⟨f0, f1, p0, p1, r0, r1, o1, o2, k1, o3, k2, o4⟩ := ok
 simp only at f0 f1 p0 p1 r0 r1 o1 o2 k1 o3 k2 o4
 have HR := Lib.hid ha
 have HA := Lib.hid o1
 have HO := Lib.hid o2
 have HC := Lib.hid o3
 have HK := Lib.hid o4
 have HCO := Lib.hid hb
 have HCU := Lib.hid hc
 have HRL : Hid (rs.length ≤ 1000000) := by show _ ≤ _; omega
 have hL := Loc.start hV
 clear hV o1 o2 o3 o4 hb hc
 generalize hn : rs.length = n at *
 have HN := Lib.hid hn
 clear hn
 generalize hn1 : cols.length = nc at *
 have HN1 := Lib.hid hn1
 clear hn1
 generalize hn2 : cuts.length = nk at *
 have HN2 := Lib.hid hn2
 clear hn2
 obtain ⟨n', hn'⟩ : ∃ n', n = n' + 1 := ⟨n - 1, by omega⟩
 obtain ⟨y0, hy0⟩ := at_some HN (show 0 < n by omega)
 obtain ⟨y1, hy1⟩ := at_some HN (show n' < n by omega)
 obtain ⟨b0, of, rfl, hc0⟩ := IntL.at_ ha hy0
 obtain ⟨b0', of', e0, hc1⟩ := IntL.at_ ha hy1
 obtain ⟨rfl, rfl⟩ : b0 = b0' ∧ of = of' := by simpa using e0
 rw [Nat.add_zero] at hc0
 have l0 := (HO.out y0 (List.mem_of_getElem? hy0)).1
 have l1 := (HO.out y1 (List.mem_of_getElem? hy1)).2
 have q1 : ¬ nf > 200 := by omega
 have q2 : ¬ nf < 0 := by omega
 have q3 : ((n : Int) == 0) = false := by simp; omega
 have q4 : ¬ (n : Int) > 32 := by omega
 have q5 : ¬ pen < 0 := by omega
 have q6 : ¬ pen > 4294967296 := by omega
 have q7 : ¬ (nc : Int) > 1000 := by omega
 have q8 : ¬ (nk : Int) > 32 := by omega
 have Q9 : Hid (decide (y0 < 0) = false) := decide_eq_false (by omega)
 have Q10 : Hid (decide (y1 ≥ nf) = false) := decide_eq_false (by omega)
 have q11 : (n : Int) - 1 = (n' : Int) := by omega
 have q12 : 0 < n := by omega
 have q13 : n' < n := by omega
 clear hy0 hy1 e0 l0 l1 ha hn'
 go_enter Tryz.func76, Tryz.ntmps76
 go_upto_region 0 with (fail)
 refine wp_region_lit ?_
 refine t_box hL rfl rfl ?_; clear hL; intro Wh1 mh1 hL eh1; simp only [Act.put, zq1, zq2, zq3]
 go_upto_region 5 with ((first | go_skip | refine tP ?_ | (refine tB ?_; clear hL; intro _ _ hL _)))
 clear q1 q2 q4 q5 q6 q7 q8
 have hr := HR.out
 have q9 := Q9.out
 have q10 := Q10.out
 refine wp_region_by2 24 [false, false, false, false, false, false, false, false, false, false, false, false, false, false, false, false, false, false, false, false, false, false, false, false] [false, false, false, false, false, false, false, false, false, false, false, false, false, false, false, false, false, false, false, false, false, false, false, false] [(fun v _ _ => v = ?c5_0), (fun v _ _ => v = ?c5_1), Is (.bool true), (fun v _ _ => v = ?c5_3), (fun v _ _ => v = ?c5_4), (fun v _ _ => v = ?c5_5), (fun v _ _ => v = ?c5_6), (fun v _ _ => v = ?c5_7), (fun v _ _ => v = ?c5_8), (fun v _ _ => v = ?c5_9), (fun v _ _ => v = ?c5_10), (fun v _ _ => v = ?c5_11), (fun v _ _ => v = ?c5_12), (fun v _ _ => v = ?c5_13), (fun v _ _ => v = ?c5_14), (fun v _ _ => v = ?c5_15), (fun v _ _ => v = ?c5_16), (fun v _ _ => v = ?c5_17), (fun v _ _ => v = ?c5_18), (fun v _ _ => v = ?c5_19), (fun v _ _ => v = ?c5_20), (fun v _ _ => v = ?c5_21), (fun v _ _ => v = ?c5_22), (fun v _ _ => v = ?c5_23)] hL.vw mixed [47, 48, 49, 50, 51, 52, 53, 54, 55, 56, 57, 58, 59, 60, 61, 62, 63, 64, 65, 66, 67, 68, 69, 70] _ (by kernel_rfl) (fun vs => by simp only [lay, Act.put, zq1, zq2, zq3]; rfl) (by kernel_rfl) (by decide) (by decide) ?s5 ?l5 ?r5
 case s5 =>
  refine ⟨?_, ?_, ?_, ?_, ?_, ?_, ?_, ?_, ?_, ?_, ?_, ?_, ?_, ?_, ?_, ?_, ?_, ?_, ?_, ?_, ?_, ?_, ?_, ?_, trivial⟩
  ·intro vs W1 m1 hE hM hV hD; clear hD
   exact sFe
  ·intro vs W1 m1 hE hM hV hD; obtain ⟨⟨_, _, -, -, f47⟩, -⟩ := hD
   rw [(f47 : vs 47 = _)]; clear f47; exact sLe
  ·intro vs W1 m1 hE hM hV hD; obtain ⟨⟨_, _, -, -, f48⟩, -⟩ := hD
   rw [(f48 : vs 48 = _)]
   clear f48
   go_wp2_with fail
   refine (r_ascT _ rs _ _ hV (IntL.le hr leX) (by rw [HN.out]; exact HRL.out) HA.out).mono ?_
   rintro e W2 ⟨v, m2, rfl, hE2, hM2, hV2, h⟩
   go_wp2_with fail
   refine One2.call hE2 hM2 hV2 ?_; first | exact h | exact rfl
  ·intro vs W1 m1 hE hM hV hD; obtain ⟨⟨_, _, -, -, f49⟩, -⟩ := hD
   rw [(f49 : vs 49 = _)]; clear f49; exact sPw
  ·intro vs W1 m1 hE hM hV hD; obtain ⟨⟨_, _, -, -, f50⟩, -, -⟩ := hD
   rw [(f50 : vs 50 = _)]; clear f50; exact sPw
  ·intro vs W1 m1 hE hM hV hD; obtain ⟨⟨_, _, -, -, f51⟩, -⟩ := hD
   rw [(f51 : vs 51 = _)]; clear f51; exact sFe
  ·intro vs W1 m1 hE hM hV hD; obtain ⟨⟨_, _, -, -, f52⟩, ⟨_, _, -, -, f51⟩, -⟩ := hD
   rw [(f52 : vs 52 = _), (f51 : vs 51 = _)]; clear f52 f51; exact sLe
  ·intro vs W1 m1 hE hM hV hD; obtain ⟨⟨_, _, -, -, f53⟩, ⟨_, _, -, -, f51⟩, -⟩ := hD
   rw [(f53 : vs 53 = _), (f51 : vs 51 = _)]
   clear f53 f51
   replace hL := hL.call hE hM hV
   exact sIz
  ·intro vs W1 m1 hE hM hV hD; obtain ⟨⟨_, _, -, -, f54⟩, ⟨_, _, -, -, f51⟩, -⟩ := hD
   rw [(f54 : vs 54 = _), (f51 : vs 51 = _)]; clear f54 f51; exact sLe
  ·intro vs W1 m1 hE hM hV hD; obtain ⟨⟨_, _, -, -, f55⟩, ⟨_, _, -, -, f51⟩, -⟩ := hD
   rw [(f55 : vs 55 = _), (f51 : vs 51 = _)]; clear f55 f51; exact sPw
  ·intro vs W1 m1 hE hM hV hD; obtain ⟨⟨_, _, -, -, f51⟩, ⟨_, _, -, -, f56⟩, -⟩ := hD
   rw [(f51 : vs 51 = _), (f56 : vs 56 = _)]; clear f51 f56; exact sPw
  ·intro vs W1 m1 hE hM hV hD; obtain ⟨⟨_, _, -, -, f57⟩, -, -⟩ := hD
   rw [(f57 : vs 57 = _)]; clear f57; exact sPw
  ·intro vs W1 m1 hE hM hV hD; obtain ⟨⟨_, _, -, -, f58⟩, -⟩ := hD
   rw [(f58 : vs 58 = _)]; clear f58; exact sFe
  ·intro vs W1 m1 hE hM hV hD; obtain ⟨⟨_, _, -, -, f59⟩, ⟨_, _, -, -, f58⟩, -⟩ := hD
   rw [(f59 : vs 59 = _), (f58 : vs 58 = _)]; clear f59 f58; exact sLe
  ·intro vs W1 m1 hE hM hV hD; obtain ⟨⟨_, _, -, -, f58⟩, -⟩ := hD
   rw [(f58 : vs 58 = _)]; clear f58; exact sFe
  ·intro vs W1 m1 hE hM hV hD; obtain ⟨⟨_, _, -, -, f61⟩, ⟨_, _, -, -, f58⟩, -⟩ := hD
   rw [(f61 : vs 61 = _), (f58 : vs 58 = _)]; clear f61 f58; exact sLe
  ·intro vs W1 m1 hE hM hV hD; obtain ⟨⟨_, _, -, -, f62⟩, ⟨_, _, -, -, f58⟩, -⟩ := hD
   rw [(f62 : vs 62 = _), (f58 : vs 58 = _)]
   clear f62 f58
   replace hL := hL.call hE hM hV
   go_wp2_with (first | go_skip | refine tP ?_ | (refine tB ?_; clear hL; intro _ _ hL _))
   refine One2.still hV ?_; exact rfl
  ·intro vs W1 m1 hE hM hV hD; obtain ⟨⟨_, _, -, -, f63⟩, ⟨_, _, -, -, f58⟩, -⟩ := hD
   rw [(f63 : vs 63 = _), (f58 : vs 58 = _)]; clear f63 f58; exact sPw
  ·intro vs W1 m1 hE hM hV hD; obtain ⟨⟨_, _, -, -, f60⟩, ⟨_, _, -, -, f64⟩, ⟨_, _, -, -, f58⟩, -⟩ := hD
   rw [(f60 : vs 60 = _), (f64 : vs 64 = _), (f58 : vs 58 = _)]; clear f60 f64 f58; exact sIy
  ·intro vs W1 m1 hE hM hV hD; obtain ⟨⟨_, _, -, -, f65⟩, ⟨_, _, -, -, f58⟩, -⟩ := hD
   rw [(f65 : vs 65 = _), (f58 : vs 58 = _)]; clear f65 f58; exact sLe
  ·intro vs W1 m1 hE hM hV hD; obtain ⟨⟨_, _, -, -, f58⟩, -⟩ := hD
   rw [(f58 : vs 58 = _)]; clear f58; exact sFe
  ·intro vs W1 m1 hE hM hV hD; obtain ⟨⟨_, _, -, -, f67⟩, ⟨_, _, -, -, f58⟩, -⟩ := hD
   rw [(f67 : vs 67 = _), (f58 : vs 58 = _)]; clear f67 f58; exact sLe
  ·intro vs W1 m1 hE hM hV hD; obtain ⟨⟨_, _, -, -, f66⟩, ⟨_, _, -, -, f68⟩, ⟨_, _, -, -, f58⟩, -⟩ := hD
   rw [(f66 : vs 66 = _), (f68 : vs 68 = _), (f58 : vs 58 = _)]; clear f66 f68 f58; exact sPw
  ·intro vs W1 m1 hE hM hV hD; obtain ⟨⟨_, _, -, -, f58⟩, ⟨_, _, -, -, f69⟩, -⟩ := hD
   rw [(f58 : vs 58 = _), (f69 : vs 69 = _)]; clear f58 f69; exact sPw
 case l5 =>
  refine ⟨nF, nF, nF, nF, nF, nF, nF, nF, nF, nF, nF, nF, nF, nF, nF, nF, nF, nF, nF, nF, nF, nF, nF, nF, trivial⟩
 intro vs W1 m1 hE hM hV hF hD
 clear hD
 obtain ⟨⟨_, _, -, -, f47⟩, ⟨_, _, -, -, f48⟩, ⟨_, _, -, -, f49⟩, ⟨_, _, -, -, f50⟩, ⟨_, _, -, -, f51⟩, ⟨_, _, -, -, f52⟩, ⟨_, _, -, -, f53⟩, ⟨_, _, -, -, f54⟩, ⟨_, _, -, -, f55⟩, ⟨_, _, -, -, f56⟩, ⟨_, _, -, -, f57⟩, ⟨_, _, -, -, f58⟩, ⟨_, _, -, -, f59⟩, ⟨_, _, -, -, f60⟩, ⟨_, _, -, -, f61⟩, ⟨_, _, -, -, f62⟩, ⟨_, _, -, -, f63⟩, ⟨_, _, -, -, f64⟩, ⟨_, _, -, -, f65⟩, ⟨_, _, -, -, f66⟩, ⟨_, _, -, -, f67⟩, ⟨_, _, -, -, f68⟩, ⟨_, _, -, -, f69⟩, ⟨_, _, -, -, f70⟩, -⟩ := hF
 replace hL := hL.call hE hM hV
 have f47 : vs 47 = _ := f47
 generalize vs 47 = x47 at f47 ⊢
 subst x47
 have f48 : vs 48 = _ := f48
 generalize vs 48 = x48 at f48 ⊢
 subst x48
 have f49 : vs 49 = _ := f49
 generalize vs 49 = x49 at f49 ⊢
 subst x49
 have f50 : vs 50 = _ := f50
 generalize vs 50 = x50 at f50 ⊢
 subst x50
 have f51 : vs 51 = _ := f51
 generalize vs 51 = x51 at f51 ⊢
 subst x51
 have f52 : vs 52 = _ := f52
 generalize vs 52 = x52 at f52 ⊢
 subst x52
 have f53 : vs 53 = _ := f53
 generalize vs 53 = x53 at f53 ⊢
 subst x53
 have f54 : vs 54 = _ := f54
 generalize vs 54 = x54 at f54 ⊢
 subst x54
 have f55 : vs 55 = _ := f55
 generalize vs 55 = x55 at f55 ⊢
 subst x55
 have f56 : vs 56 = _ := f56
 generalize vs 56 = x56 at f56 ⊢
 subst x56
 have f57 : vs 57 = _ := f57
 generalize vs 57 = x57 at f57 ⊢
 subst x57
 have f58 : vs 58 = _ := f58
 generalize vs 58 = x58 at f58 ⊢
 subst x58
 have f59 : vs 59 = _ := f59
 generalize vs 59 = x59 at f59 ⊢
 subst x59
 have f60 : vs 60 = _ := f60
 generalize vs 60 = x60 at f60 ⊢
 subst x60
 have f61 : vs 61 = _ := f61
 generalize vs 61 = x61 at f61 ⊢
 subst x61
 have f62 : vs 62 = _ := f62
 generalize vs 62 = x62 at f62 ⊢
 subst x62
 have f63 : vs 63 = _ := f63
 generalize vs 63 = x63 at f63 ⊢
 subst x63
 have f64 : vs 64 = _ := f64
 generalize vs 64 = x64 at f64 ⊢
 subst x64
 have f65 : vs 65 = _ := f65
 generalize vs 65 = x65 at f65 ⊢
 subst x65
 have f66 : vs 66 = _ := f66
 generalize vs 66 = x66 at f66 ⊢
 subst x66
 have f67 : vs 67 = _ := f67
 generalize vs 67 = x67 at f67 ⊢
 subst x67
 have f68 : vs 68 = _ := f68
 generalize vs 68 = x68 at f68 ⊢
 subst x68
 have f69 : vs 69 = _ := f69
 generalize vs 69 = x69 at f69 ⊢
 subst x69
 have f70 : vs 70 = _ := f70
 generalize vs 70 = x70 at f70 ⊢
 subst x70
 clear hE hV
 simp only [List.drop_succ_cons, List.drop_zero]
 go_wp2_with (first | go_skip | refine tP ?_ | (refine tB ?_; clear hL; intro _ _ hL _))
 refine QN.mk ?_
 clear hr hc0 hc1
 go_wp2_with (first | go_skip | refine tP ?_ | (refine tB ?_; clear hL; intro _ _ hL _))
 go_loopw [3] (fun i wr => ∃ (k : Nat) (mm : World), k ≤ nc ∧ i = .int .i64 k ∧ Loc w m wr mm [(w.heap.size, 26, #[.int .i64 nf, .slice (some ⟨b0, of, none⟩) n ca, .int .i64 pen, .slice B nc cb, .slice C nk cc])]) (fun i _ => nc - (intOf i).toNat)
 case atStart => exact ⟨0, _, Nat.zero_le _, rfl, hL⟩
 case round =>
  clear hL
  obtain ⟨k, mm, hk, rfl, hL⟩ := hrel
  have hM := hL.mext
  by_cases hlt : k < nc
  ·obtain ⟨⟨s, ds, cost⟩, hx⟩ := at_some HN1 hlt
   obtain ⟨b1, o1, D, cd, rfl, hds, hr1⟩ := ColL.at_ HCO.out hx
   obtain ⟨i1, i2, i3, i4, i5, i6, i7⟩ := HC.out _ (List.mem_of_getElem? hx)
   simp only at hds hr1 i1 i2 i3 i4 i5 i6 i7
   have c1 : ¬ cost < -1125899906842624 := by omega
   have c2 : ¬ cost > 1125899906842624 := by omega
   have HD := Lib.hid hds
   have H3 := Lib.hid i3
   have H4 := Lib.hid i4
   have H6 : Hid (decide (∀ f ∈ opF ds, f ∈ rs) = true) := decide_eq_true i6
   have H7 := Lib.hid i7
   have H5 := Lib.hid i5
   have H8 := Lib.hid (opF_len i4)
   have hx2 := hr1 2 _ rfl
   have hr2 : m.rangeAt b1 (o1 + k * 3) [.string s, .slice D ds.length cd] := fun j u hu => hr1 j u (by
    match j, hu with
    | 0, hu => exact hu
    | 1, hu => exact hu)
   clear hx hds i1 i2 i3 i4 i5 i6 i7 hr1
   generalize hnd : ds.length = nd at *
   have HND := Lib.hid hnd
   clear hnd
   go_wp2_with (first | go_skip | refine tP ?_ | (refine tB ?_; clear hL; intro _ _ hL _))
   refine (r_Operated s _ ds _ _ hL.vw (DutsL.le HD.out leX) (by rw [HND.out]; exact H3.out) H4.out).mono ?_
   rintro e Wo1 ⟨vo1, mo1, rfl, hE, hMo1, hV, ho1⟩
   replace hL := hL.call hE (by assumption) hV; clear hE hV
   obtain ⟨Ao, co, rfl, hco, ho1⟩ := ho1.lit
   have HOP := Lib.hid ho1
   have h5 := H5.out
   have h8 : (opF ds).length ≤ 100000 := by have := H8.out; have := H3.out; omega
   clear ho1 hr2 hx2
   generalize hno : (opF ds).length = no at *
   have HNO := Lib.hid hno
   clear hno
   have q14 : ((no : Int) == 0) = false := by simp; omega
   go_wp2_with (first | go_skip | refine tP ?_ | (refine tB ?_; clear hL; intro _ _ hL _))
   refine (r_within _ _ (opF ds) rs _ _ hL.vw (IntL.le HOP.out leX) (IntL.le HR.out leX) (by rw [HNO.out]; omega) (by rw [HN.out]; exact HRL.out)).mono ?_
   rintro e Wo2 ⟨_, mo2, rfl, hE, hMo2, hV, rfl⟩
   replace hL := hL.call hE (by assumption) hV; clear hE hV
   rw [H6.out]
   go_wp2_with (first | go_skip | refine tP ?_ | (refine tB ?_; clear hL; intro _ _ hL _))
   go_loopw [5] (fun i wr => ∃ (j : Nat) (m2 : World), j ≤ no ∧ i = .int .i64 j ∧ Loc w m wr m2 [(w.heap.size, 26, #[.int .i64 nf, .slice (some ⟨b0, of, none⟩) n ca, .int .i64 pen, .slice (some ⟨b1, o1, none⟩) nc cb, .slice C nk cc])] ∧ Hid (Ext mo1 m2)) (fun i _ => no - (intOf i).toNat)
   case atStart => exact ⟨0, _, Nat.zero_le _, rfl, hL, exX⟩
   case round =>
    clear hL hM
    obtain ⟨j, m2, hj, rfl, hL, HX⟩ := hrel
    have hM := hL.mext
    by_cases hlt2 : j < no
    ·obtain ⟨f, hf⟩ := at_some HNO hlt2
     obtain ⟨b3, o3, rfl, hc3⟩ := IntL.at_ HOP.out hf
     replace hc3 := HX.out.le.cell _ _ hc3
     have HC1 := Lib.hid (count_one H7.out hf)
     have HO2 : Hid (IntL m2 (.slice (some ⟨b3, o3, none⟩) no co) (opF ds)) := IntL.le HOP.out HX.out.le
     clear hf
     go_wp2_with (first | go_skip | refine tP ?_ | (refine tB ?_; clear hL; intro _ _ hL _))
     refine (r_count _ (opF ds) f _ _ hL.vw (IntL.le HO2.out leX) (by rw [HNO.out]; omega)).mono ?_
     rintro e Wn1 ⟨_, mn1, rfl, hE, hMn1, hV, rfl⟩
     replace hL := hL.call hE (by assumption) hV; clear hE hV
     have HX3 : Hid (Ext mo1 mn1) := HX.out.trans hMn1
     rw [HC1.out]
     go_wp2_with (first | go_skip | refine tP ?_ | (refine tB ?_; clear hL; intro _ _ hL _))
     go_roundw
     case rel => exact ⟨j + 1, _, by omega, by go_num, hL, HX3.out⟩
     case measure => simp [intOf] <;> omega
    ·go_wp2_with (first | go_skip | refine tP ?_ | (refine tB ?_; clear hL; intro _ _ hL _))
     go_roundw
     case rel => exact ⟨k + 1, _, by omega, by go_num, hL⟩
     case measure => simp [intOf] <;> omega
  ·go_wp2_with (first | go_skip | refine tP ?_ | (refine tB ?_; clear hL; intro _ _ hL _))
   clear hlt hk
   go_loopw [6] (fun i wr => ∃ (k : Nat) (mm : World), k ≤ nk ∧ i = .int .i64 k ∧ Loc w m wr mm [(w.heap.size, 26, #[.int .i64 nf, .slice (some ⟨b0, of, none⟩) n ca, .int .i64 pen, .slice B nc cb, .slice C nk cc])]) (fun i _ => nk - (intOf i).toNat)
   case atStart => exact ⟨0, _, Nat.zero_le _, rfl, hL⟩
   case round =>
    clear hL hM
    obtain ⟨k, mm, hk, rfl, hL⟩ := hrel
    have hM := hL.mext
    by_cases hlt : k < nk
    ·obtain ⟨⟨xs, dv⟩, hx⟩ := at_some HN2 hlt
     obtain ⟨b1, o1, D, cd, rfl, hcr, hr1⟩ := CutL.at_' HCU.out hx
     have HOK := Lib.hid (HK.out _ (List.mem_of_getElem? hx))
     simp only at hr1
     have hra := HR.out
     clear hx
     go_upto_region 23 with ((first | go_skip | refine tP ?_ | (refine tB ?_; clear hL; intro _ _ hL _)))
     (try simp only [eq_self] at *)
     refine wp_region_by2 9 [false, false, false, false, false, false, false, false, false] [false, false, false, false, false, false, false, false, false] [(fun v _ _ => v = ?c23_0), (fun v _ _ => v = ?c23_1), (fun v _ _ => v = ?c23_2), (fun v _ _ => v = ?c23_3), (fun v _ _ => v = ?c23_4), (fun v _ _ => v = ?c23_5), (fun v _ _ => v = ?c23_6), Is (.bool true), (fun v _ _ => v = ?c23_8)] hL.vw mixed [131, 132, 133, 134, 135, 136, 137, 138, 139] _ (by kernel_rfl) (fun vs => by simp only [lay, Act.put, zq1, zq2, zq3]; rfl) (by kernel_rfl) (by decide) (by decide) ?s23 ?l23 ?r23
     case s23 =>
      refine ⟨?_, ?_, ?_, ?_, ?_, ?_, ?_, ?_, ?_, trivial⟩
      ·intro vs W1 m1 hE hM hV hD; clear hD
       exact sFe
      ·intro vs W1 m1 hE hM hV hD; obtain ⟨⟨_, _, -, -, f131⟩, -⟩ := hD
       rw [(f131 : vs 131 = _)]; clear f131; exact sLe
      ·intro vs W1 m1 hE hM hV hD; clear hD
       exact sFe
      ·intro vs W1 m1 hE hM hV hD; obtain ⟨⟨_, _, -, -, f133⟩, -⟩ := hD
       rw [(f133 : vs 133 = _)]; clear f133; exact sLe
      ·intro vs W1 m1 hE hM hV hD; clear hD
       exact sPw
      ·intro vs W1 m1 hE hM hV hD; obtain ⟨⟨_, _, -, -, f134⟩, ⟨_, _, -, -, f135⟩, -⟩ := hD
       rw [(f134 : vs 134 = _), (f135 : vs 135 = _)]; clear f134 f135; exact sIy
      ·intro vs W1 m1 hE hM hV hD; obtain ⟨⟨_, _, -, -, f136⟩, -⟩ := hD
       rw [(f136 : vs 136 = _)]; clear f136; exact sLe
      ·intro vs W1 m1 hE hM hV hD; obtain ⟨⟨_, _, -, -, f132⟩, ⟨_, _, -, -, f137⟩, -⟩ := hD
       rw [(f132 : vs 132 = _), (f137 : vs 137 = _)]
       clear f132 f137
       go_wp2_with fail
       refine (r_ValidCut _ _ rs (xs, dv) _ _ hV (IntL.le hra leX) (hcr.le leX) (by rw [HN.out]; exact HRL.out) HOK.out).mono ?_
       rintro e W2 ⟨v, m2, rfl, hE2, hM2, hV2, h⟩
       go_wp2_with fail
       refine One2.call hE2 hM2 hV2 ?_; first | exact h | exact rfl
      ·intro vs W1 m1 hE hM hV hD; obtain ⟨⟨_, _, -, -, f138⟩, -⟩ := hD
       rw [(f138 : vs 138 = _)]; clear f138; exact sPw
     case l23 =>
      refine ⟨nF, nF, nF, nF, nF, nF, nF, nF, nF, trivial⟩
     intro vs W1 m1 hE hM hV hF hD
     clear hD
     obtain ⟨⟨_, _, -, -, f131⟩, ⟨_, _, -, -, f132⟩, ⟨_, _, -, -, f133⟩, ⟨_, _, -, -, f134⟩, ⟨_, _, -, -, f135⟩, ⟨_, _, -, -, f136⟩, ⟨_, _, -, -, f137⟩, ⟨_, _, -, -, f138⟩, ⟨_, _, -, -, f139⟩, -⟩ := hF
     replace hL := hL.call hE hM hV
     have f131 : vs 131 = _ := f131
     generalize vs 131 = x131 at f131 ⊢
     subst x131
     have f132 : vs 132 = _ := f132
     generalize vs 132 = x132 at f132 ⊢
     subst x132
     have f133 : vs 133 = _ := f133
     generalize vs 133 = x133 at f133 ⊢
     subst x133
     have f134 : vs 134 = _ := f134
     generalize vs 134 = x134 at f134 ⊢
     subst x134
     have f135 : vs 135 = _ := f135
     generalize vs 135 = x135 at f135 ⊢
     subst x135
     have f136 : vs 136 = _ := f136
     generalize vs 136 = x136 at f136 ⊢
     subst x136
     have f137 : vs 137 = _ := f137
     generalize vs 137 = x137 at f137 ⊢
     subst x137
     have f138 : vs 138 = _ := f138
     generalize vs 138 = x138 at f138 ⊢
     subst x138
     have f139 : vs 139 = _ := f139
     generalize vs 139 = x139 at f139 ⊢
     subst x139
     clear hE hV
     simp only [List.drop_succ_cons, List.drop_zero]
     go_wp2_with (first | go_skip | refine tP ?_ | (refine tB ?_; clear hL; intro _ _ hL _))
     refine QN.mk ?_
     go_wp2_with (first | go_skip | refine tP ?_ | (refine tB ?_; clear hL; intro _ _ hL _))
     go_roundw
     case rel => exact ⟨k + 1, _, by omega, by go_num, hL⟩
     case measure => simp [intOf] <;> omega
    ·go_wp2_with (first | go_skip | refine tP ?_ | (refine tB ?_; clear hL; intro _ _ hL _))
     go_ret
     exact RetV.mk hL rfl
end Go.Proofs.YtmhkmmmompediaaGreat

/- Contracts of rational.Sign, and of rational.Mul and lagrange.smaller for fractions of any form. -/
namespace Go.Proofs.YtmhkmmmompediaaGreat
open Go.RowKit

theorem icmp_den (q : Rat) : icmp (q.den : Int) 0 = 1 := by
 have := q.den_pos
 unfold icmp
 rw [if_neg (by omega), if_neg (by omega)]

theorem q_Sign (v : Value) (q : Rat) (w m : World) (hV : Vw m w) (h : FracC m v q) (k : Fit 200 q) :
  Calls Tryz.prog 103 #[v] w (RetV w m fun _ r => r = .int .i64 (icmp q.num 0)) := by
 obtain ⟨_, _, _, _, rfl, h1, h2⟩ := h
 have i1 := h1.toV (k.num (by decide))
 have i2 := h2.toV (k.den (by decide))
 obtain ⟨g1, A1, n1, c1, rfl, rfl⟩ := h1.parts'
 obtain ⟨g2, A2, n2, c2, rfl, rfl⟩ := h2.parts'
 have K2 : Hid (∀ w m', Vw m' w → Le m m' → Calls Tryz.prog 162 #[.agg #[.bool g2, .slice A2 n2 c2]] w (RetV w m' fun _ r => r = .int .i64 1)) := by
  show ∀ w m', _
  intro w m' hV hle
  rw [← icmp_den q]
  exact i_Sign _ _ w m' hV (i2.le hle)
 have K1 : Hid (∀ w m', Vw m' w → Le m m' → Calls Tryz.prog 162 #[.agg #[.bool g1, .slice A1 n1 c1]] w (RetV w m' fun _ r => r = .int .i64 (icmp q.num 0))) := by
  show ∀ w m', _
  intro w m' hV hle
  exact i_Sign _ _ w m' hV (i1.le hle)
 have hs : -1 ≤ icmp q.num 0 ∧ icmp q.num 0 ≤ 1 := by unfold icmp; split <;> (try split) <;> omega
 have hL := Loc.start hV
 clear hV h1 h2 i1 i2 k
 generalize icmp q.num 0 = s at *
 obtain ⟨s1, s2⟩ := hs
 go_enter Tryz.func103, Tryz.ntmps103
 go_upto_region 1 with ((first | go_skip | refine tP ?_ | (refine tB ?_; clear hL; intro _ _ hL _)))
 refine wp_region_by2 7 [false, false, false, false, false, false, false] [false, false, false, false, false, false, false] [(fun v _ _ => v = ?c1_0), (fun v _ _ => v = ?c1_1), Is (.int .i64 s), (fun v _ _ => v = ?c1_3), (fun v _ _ => v = ?c1_4), Is (.int .i64 1), (fun v _ _ => v = ?c1_6)] hL.vw mixed [3, 4, 5, 6, 7, 8, 9] _ (by kernel_rfl) (fun vs => by simp only [lay, Act.put, zq1, zq2, zq3]; rfl) (by kernel_rfl) (by decide) (by decide) ?s1 ?l1 ?r1
 case s1 =>
  refine ⟨?_, ?_, ?_, ?_, ?_, ?_, ?_, trivial⟩
  ·intro vs W1 m1 hE hM hV hD; clear hD
   exact sFe
  ·intro vs W1 m1 hE hM hV hD; obtain ⟨⟨_, _, -, -, f3⟩, -⟩ := hD
   rw [(f3 : vs 3 = _)]; clear f3; exact sLe
  ·intro vs W1 m1 hE hM hV hD; obtain ⟨⟨_, _, -, -, f4⟩, -⟩ := hD
   rw [(f4 : vs 4 = _)]
   clear f4
   go_wp2_with fail
   refine (K1.out _ _ hV leX).mono ?_
   rintro e W2 ⟨v, m2, rfl, hE2, hM2, hV2, h⟩
   go_wp2_with fail
   refine One2.call hE2 hM2 hV2 ?_; first | exact h | exact rfl
  ·intro vs W1 m1 hE hM hV hD; clear hD
   exact sFe
  ·intro vs W1 m1 hE hM hV hD; obtain ⟨⟨_, _, -, -, f6⟩, -⟩ := hD
   rw [(f6 : vs 6 = _)]; clear f6; exact sLe
  ·intro vs W1 m1 hE hM hV hD; obtain ⟨⟨_, _, -, -, f7⟩, -, -⟩ := hD
   rw [(f7 : vs 7 = _)]
   clear f7
   go_wp2_with fail
   refine (K2.out _ _ hV leX).mono ?_
   rintro e W2 ⟨v, m2, rfl, hE2, hM2, hV2, h⟩
   go_wp2_with fail
   refine One2.call hE2 hM2 hV2 ?_; first | exact h | exact rfl
  ·intro vs W1 m1 hE hM hV hD; obtain ⟨⟨_, _, -, -, f5⟩, ⟨_, _, -, -, f8⟩, -⟩ := hD
   rw [(f5 : vs 5 = _), (f8 : vs 8 = _)]; clear f5 f8; exact sPw
 case l1 =>
  refine ⟨nF, nF, nF, nF, nF, nF, nF, trivial⟩
 intro vs W1 m1 hE hM hV hF hD
 clear hD
 obtain ⟨-, -, -, -, -, -, ⟨_, _, -, -, f9⟩, -⟩ := hF
 replace hL := hL.call hE hM hV
 have f9 : vs 9 = _ := f9
 generalize vs 9 = x9 at f9 ⊢
 subst x9
 clear hE hV
 simp only [List.drop_succ_cons, List.drop_zero]
 go_wp2_with (first | go_skip | refine tP ?_ | (refine tB ?_; clear hL; intro _ _ hL _))
 refine QN.mk ?_
 go_wp2_with (first | go_skip | refine tP ?_ | (refine tB ?_; clear hL; intro _ _ hL _))
 go_ret
 exact RetV.mk hL (by go_num)

end Go.Proofs.YtmhkmmmompediaaGreat

/- Contracts of enumerate.ValidatePrices and pairingref27.ValidatePrices for valid prices, and where the number of prices is another one. -/
namespace Go.Proofs.YtmhkmmmompediaaGreat
open Go.RowKit

structure PcOk (nf : Nat) (x : Cut) : Prop where
 low : ∀ r ∈ x.1, 0 ≤ r ∧ r < nf
 asc : AscP x.1
 two : 2 ≤ x.2
 le : x.2 ≤ (x.1.length : Int)
structure PrOk (nf : Nat) (p : Pr) : Prop where
 fl : p.fl.length = nf
 f1 : nf ≤ 1000
 cd : p.cd.length = p.cu.length
 k1 : p.cu.length ≤ 32
 k2 : p.de.length ≤ 32
 cuts : ∀ c ∈ p.cu, PcOk nf c
 neg : ∀ q ∈ p.cd, Fit 200 q ∧ rs q ≤ 0
 des : ∀ d ∈ p.de, 0 ≤ d.1 ∧ d.1 < nf ∧ 0 ≤ d.2.1 ∧ d.2.1 < nf ∧ d.1 ≠ d.2.1

end Go.Proofs.YtmhkmmmompediaaGreat

/- The bound of prices, in plain numbers: sums of fractions whose denominators divide 12. -/
namespace Go.Proofs.YtmhkmmmompediaaGreat
open Go.RowKit

def Tw (B : Nat) (q : Rat) : Prop := ∃ z : Int, q = Rat.divInt z 12 ∧ z.natAbs ≤ B
theorem Tw.mono {B C : Nat} {q : Rat} (h : Tw B q) (hb : B ≤ C) : Tw C q := by
 obtain ⟨z, e, hz⟩ := h
 exact ⟨z, e, by omega⟩
theorem Tw.add {B C : Nat} {p q : Rat} (h : Tw B p) (h' : Tw C q) : Tw (B + C) (p + q) := by
 obtain ⟨z, rfl, hz⟩ := h
 obtain ⟨y, rfl, hy⟩ := h'
 exact ⟨z + y, (add_same (by decide)).symm, by omega⟩
theorem Tw.mulI {B K : Nat} {q : Rat} {k : Int} (h : Tw B q) (hk : k.natAbs ≤ K) : Tw (B * K) (q * (k : Rat)) := by
 obtain ⟨z, rfl, hz⟩ := h
 refine ⟨z * k, ?_, ?_⟩
 ·rw [← rat_one k, Rat.divInt_mul_divInt]; rfl
 ·rw [Int.natAbs_mul]; exact Nat.mul_le_mul hz hk
theorem Tw.int {K : Nat} {k : Int} (hk : k.natAbs ≤ K) : Tw (K * 12) (k : Rat) := by
 refine ⟨k * 12, ?_, by rw [Int.natAbs_mul]; exact Nat.mul_le_mul_right _ hk⟩
 rw [← rat_one k, ← Rat.divInt_mul_right (n := k) (d := 1) (a := 12) (by decide)]; rfl
theorem Tw.tn {B k : Nat} {q : Rat} (h : Tw B q) (h1 : B ≤ k) (h2 : 12 ≤ k) : Tn k q := by
 obtain ⟨z, rfl, hz⟩ := h
 exact Tn.divInt (by decide) (by omega) (by omega)
theorem Tw.min {B : Nat} {p q : Rat} (h : Tw B p) (h' : Tw B q) : Tw B (rmin p q) := by
 unfold rmin; split
 ·exact h
 ·exact h'
theorem Tw.neg {B : Nat} {q : Rat} (h : Tw B q) : Tw B (-q) := by
 obtain ⟨z, rfl, hz⟩ := h
 exact ⟨-z, by rw [Rat.neg_divInt], by omega⟩
end Go.Proofs.YtmhkmmmompediaaGreat

/- What lagrange.Bound and pairingref27.Bound answer (plain). -/
namespace Go.Proofs.YtmhkmmmompediaaGreat
open Go.RowKit

structure BQ (nf : Nat) (x : Ms) (p : Pr) (l : SF) : Prop where
 nfe : x.nf = nf
 ms : MsOk x
 pr : PrOk nf p
 pen : x.pen ≤ 1000
 fl : ∀ q ∈ p.fl, Tw 1000 q
 cd : ∀ q ∈ p.cd, Tw 1000 q
 cu : ∀ c ∈ p.cu, c.1.length ≤ 1000
 lo : Tw 1000 (vS l)
 sl : Sm l.1 l.2
theorem Tw.sm {B : Nat} {q : Rat} (h : Tw B q) (hb : B ≤ 100000000) : Sm q.num q.den := (h.tn hb (by decide)).sm (by decide)
theorem Tw.fit {B : Nat} {q : Rat} (h : Tw B q) (hb : B ≤ 100000000) : Fit 200 q := (h.tn hb (by decide)).fit (by decide)
end Go.Proofs.YtmhkmmmompediaaGreat

/- Contract of pairingref27.Bound for valid master problems and prices. -/
namespace Go.Proofs.YtmhkmmmompediaaGreat
open Go.RowKit

theorem Tw.sub {B C : Nat} {p q : Rat} (h : Tw B p) (h' : Tw C q) : Tw (B + C) (p - q) := by
 rw [Rat.sub_eq_add_neg]; exact h.add h'.neg

end Go.Proofs.YtmhkmmmompediaaGreat

/- The master problems and prices of the laws are valid (plain). -/
namespace Go.Proofs.YtmhkmmmompediaaGreat
open Go.RowKit

theorem ascP_of {xs : List Int} (h : xs.Pairwise (· < ·)) : AscP xs := by
 intro j x y hx hy
 obtain ⟨h1, e1⟩ := List.getElem?_eq_some_iff.1 hx
 obtain ⟨h2, e2⟩ := List.getElem?_eq_some_iff.1 hy
 have := List.pairwise_iff_getElem.1 h j (j + 1) h1 h2 (by omega)
 rw [e1, e2] at this
 exact this
def selF (rs : List Int) (n k : Int) (i : Nat) : List Int := (List.range i).filterMap fun j => if csBit n j then some (csF rs k j) else none
theorem opT_app (a b : List Task) : opT (a ++ b) = opT a ++ opT b := by simp [opT, List.filterMap_append]
theorem opF_app (a b : List (List Task)) : opF (a ++ b) = opF a ++ opF b := by simp [opF, List.flatMap_append]
theorem opF_one (a : List Task) : opF [a] = opT a := by simp [opF]
theorem opT_one (f : Int) : opT [(f, false)] = [f] := rfl
theorem opT_nil : opT [] = [] := rfl
theorem selF_in {rs : List Int} {n k : Int} {i : Nat} (h : csBit n i = true) : selF rs n k (i + 1) = selF rs n k i ++ [csF rs k i] := by
 unfold selF
 rw [List.range_succ, List.filterMap_append]
 simp [h]
theorem selF_out {rs : List Int} {n k : Int} {i : Nat} (h : csBit n i = false) : selF rs n k (i + 1) = selF rs n k i := by
 unfold selF
 rw [List.range_succ, List.filterMap_append]
 simp [h]
theorem cs_sel (rs : List Int) (n k : Int) : ∀ i, opF (csAt rs n k i).l ++ opT (csAt rs n k i).d = selF rs n k i ∧ ((csAt rs n k i).s = false → selF rs n k i = []) ∧ ((csAt rs n k i).s = true → selF rs n k i ≠ [])
 | 0 => by
  refine ⟨?_, fun _ => rfl, fun h => by simp [csAt] at h⟩
  show opF [] ++ opT (if k % 2 = 1 then [(0, true)] else []) = []
  split <;> rfl
 | i + 1 => by
  obtain ⟨h1, h2, h3⟩ := cs_sel rs n k i
  by_cases hb : csBit n i = true
  ·rw [selF_in hb, ← h1]
   simp only [csAt, csStep, hb, if_true]
   split
   ·simp [opF_app, opF_one, opT_app, opT_one, opT_nil]
   ·simp [opT_app, opT_one]
  ·have hb' : csBit n i = false := by simpa using hb
   rw [selF_out hb']
   simp only [csAt, csStep, hb', Bool.false_eq_true, if_false]
   exact ⟨h1, h2, h3⟩
theorem cs_short (rs : List Int) (n k : Int) : ∀ i, ∀ d ∈ (csAt rs n k i).l, d.length ≤ i + 1
 | 0 => by intro d hd; simp [csAt] at hd
 | i + 1 => by
  intro d hd
  have ih := cs_short rs n k i
  have hl := (csAt_len rs n k i).1
  simp only [csAt, csStep] at hd
  split at hd
  ·split at hd
   ·rcases List.mem_append.1 hd with h | h
    ·have := ih d h; omega
    ·rcases List.mem_singleton.1 h with rfl
     simp; omega
   ·have := ih d hd; omega
  ·have := ih d hd; omega
theorem opF_csL (rs : List Int) (n k : Int) : opF (csL rs n k) = if (csAt rs n k rs.length).s then selF rs n k rs.length else [rs.getD (n / 64 % rs.length).toNat 0] := by
 obtain ⟨h1, h2, -⟩ := cs_sel rs n k rs.length
 have hD : opF (csL rs n k) = opF (csAt rs n k rs.length).l ++ opT (csD rs n k) := by
  unfold csL
  split
  ·rw [opF_app, opF_one]
  ·have : csD rs n k = [] := List.length_eq_zero_iff.1 (by omega)
   rw [this, opT_nil, List.append_nil]
 rw [hD]
 unfold csD
 by_cases hs : (csAt rs n k rs.length).s = true
 ·rw [if_pos hs, if_pos hs, h1]
 ·rw [if_neg hs, if_neg hs, opT_app, opT_one, ← List.append_assoc, h1, h2 (by simpa using hs)]
  rfl
theorem csF_get {rs : List Int} {k : Int} {j : Nat} (hj : j < rs.length) : ∃ i, i < rs.length ∧ csF rs k j = rs.getD i 0 ∧ (i = j ∨ i = rs.length - 1 - j) ∧ (i = if k / 2 % 8 = 7 then rs.length - 1 - j else j) := by
 unfold csF
 split
 ·exact ⟨rs.length - 1 - j, by omega, rfl, .inr rfl, rfl⟩
 ·exact ⟨j, hj, rfl, .inl rfl, rfl⟩
theorem getD_mem {rs : List Int} {i : Nat} (h : i < rs.length) : rs.getD i 0 ∈ rs := by
 rw [List.getD_eq_getElem?_getD, List.getElem?_eq_getElem h]
 exact List.getElem_mem h
theorem getD_inj {rs : List Int} (hn : rs.Nodup) {i j : Nat} (hi : i < rs.length) (hj : j < rs.length) (e : rs.getD i 0 = rs.getD j 0) : i = j := by
 rw [List.getD_eq_getElem?_getD, List.getElem?_eq_getElem hi, List.getD_eq_getElem?_getD, List.getElem?_eq_getElem hj] at e
 exact (List.getElem_inj hn).1 e
theorem csF_inj {rs : List Int} {k : Int} (hn : rs.Nodup) {i j : Nat} (hi : i < rs.length) (hj : j < rs.length) (e : csF rs k i = csF rs k j) : i = j := by
 unfold csF at e
 split at e
 ·have := getD_inj hn (by omega) (by omega) e
  omega
 ·exact getD_inj hn hi hj e
theorem selF_mem {rs : List Int} {n k f : Int} {i : Nat} (h : f ∈ selF rs n k i) : ∃ j, j < i ∧ f = csF rs k j := by
 unfold selF at h
 obtain ⟨j, hj, e⟩ := List.mem_filterMap.1 h
 split at e
 ·exact ⟨j, List.mem_range.1 hj, (Option.some.inj e).symm⟩
 ·cases e
theorem selF_nodup {rs : List Int} {n k : Int} (hn : rs.Nodup) : ∀ i, i ≤ rs.length → (selF rs n k i).Nodup
 | 0, _ => List.Pairwise.nil
 | i + 1, hi => by
  have ih := selF_nodup (n := n) (k := k) hn i (by omega)
  by_cases hb : csBit n i = true
  ·rw [selF_in hb]
   refine List.nodup_append.2 ⟨ih, List.pairwise_singleton _ _, fun a ha b hb' e => ?_⟩
   rcases List.mem_singleton.1 hb' with rfl
   obtain ⟨j, hj, e'⟩ := selF_mem ha
   have := csF_inj (k := k) hn (by omega) (by omega) (e'.symm.trans e)
   omega
  ·rw [selF_out (by simpa using hb)]
   exact ih
theorem colF_ok {rs : List Int} {n k : Int} (hn : rs.Nodup) (h1 : 1 ≤ rs.length) (h6 : rs.length ≤ 6) (n0 : 0 ≤ n) : ColOk rs (colF rs n k) := by
 have hl := csAt_len rs n k rs.length
 have hsh := cs_short rs n k rs.length
 have hD : (csD rs n k).length ≤ 8 := by
  unfold csD; split
  ·omega
  ·simp; omega
 have hop := opF_csL rs n k
 obtain ⟨-, -, h3⟩ := cs_sel rs n k rs.length
 refine ⟨?_, ?_, ?_, ?_, ?_, ?_, ?_⟩
 ·show _ ≤ n / 32 % 41 - 5; omega
 ·show n / 32 % 41 - 5 ≤ _; omega
 ·show (csL rs n k).length ≤ 100
  unfold csL; split
  ·simp; omega
  ·omega
 ·show ∀ d ∈ csL rs n k, d.length ≤ 100
  intro d hd
  unfold csL at hd
  split at hd
  ·rcases List.mem_append.1 hd with h | h
   ·have := hsh d h; omega
   ·rcases List.mem_singleton.1 h with rfl; omega
  ·have := hsh d hd; omega
 ·show 0 < (opF (csL rs n k)).length
  rw [hop]; split
  ·exact List.length_pos_iff.2 (h3 (by assumption))
  ·simp
 ·show ∀ f ∈ opF (csL rs n k), f ∈ rs
  intro f hf
  rw [hop] at hf
  split at hf
  ·obtain ⟨j, hj, rfl⟩ := selF_mem hf
   obtain ⟨i, hi, e, -, -⟩ := csF_get (rs := rs) (k := k) hj
   rw [e]; exact getD_mem hi
  ·rcases List.mem_singleton.1 hf with rfl
   have : n / 64 % (rs.length : Int) < rs.length := Int.emod_lt_of_pos _ (by omega)
   exact getD_mem (by omega)
 ·show (opF (csL rs n k)).Nodup
  rw [hop]; split
  ·exact selF_nodup hn _ (Nat.le_refl _)
  ·exact List.pairwise_singleton _ _
theorem rowsT_ok : ∀ i : Fin 6, (rowsT.getD i.1 []).Pairwise (· < ·) ∧ (∀ r ∈ rowsT.getD i.1 [], 0 ≤ r ∧ r < 6) ∧ (rowsT.getD i.1 []).Nodup := by decide
theorem cutT_ok : ∀ i : Fin 6, ∀ s : Fin 5, s.1 < (rowsT.getD i.1 []).length → (cutT (rowsT.getD i.1 []) s.1 (rowsT.getD i.1 []).length).Pairwise (· < ·) ∧ ∀ r ∈ cutT (rowsT.getD i.1 []) s.1 (rowsT.getD i.1 []).length, r ∈ rowsT.getD i.1 [] := by decide
structure RowsOk (rs : List Int) : Prop where
 asc : AscP rs
 low : ∀ r ∈ rs, 0 ≤ r ∧ r < 6
 nd : rs.Nodup
 l3 : 3 ≤ rs.length
 l5 : rs.length ≤ 5
theorem rowsF_ok (l : List Int) : RowsOk (rowsF l) := by
 have h0 := atF_bd l 1 (by omega)
 have h1 : (atF l 1 % 6).toNat < 6 := by omega
 obtain ⟨a, b, c⟩ := rowsT_ok ⟨_, h1⟩
 obtain ⟨d, e⟩ := rowsT_len ⟨_, h1⟩
 exact ⟨ascP_of a, b, c, d, e⟩
structure CutM (rs : List Int) (c : Cut) : Prop where
 asc : AscP c.1
 sub : ∀ r ∈ c.1, r ∈ rs
 two : 2 ≤ c.2
 le : c.2 ≤ (c.1.length : Int)
 l5 : c.1.length ≤ 5
theorem masF_cutM (l : List Int) : ∀ c ∈ (masF l).cuts, CutM (rowsF l) c := by
 intro c hc
 obtain ⟨k, hk, rfl⟩ := List.mem_map.1 hc
 have h0 := atF_bd l 1 (by omega)
 have h3 := atF_bd l 3 (by omega)
 have hk' := List.mem_range.1 hk
 have h20 := atF_bd l (20 + k) (by omega)
 have h1 : (atF l 1 % 6).toNat < 6 := by omega
 have hr := rowsF_ok l
 have hl5 := hr.l5
 have hl3 := hr.l3
 have hs : atF l (20 + k) % ((rowsF l).length : Int) < (rowsF l).length := Int.emod_lt_of_pos _ (by omega)
 have hs0 : 0 ≤ atF l (20 + k) % ((rowsF l).length : Int) := Int.emod_nonneg _ (by omega)
 have hs1 : (atF l (20 + k) % ((rowsF l).length : Int)).toNat < (rowsF l).length := by omega
 have hs5 : (atF l (20 + k) % ((rowsF l).length : Int)).toNat < 5 := by omega
 obtain ⟨a, b⟩ := cutT_ok ⟨_, h1⟩ ⟨_, hs5⟩ hs1
 have c := cutT_long ⟨_, h1⟩ ⟨_, hs5⟩ hs1
 refine ⟨ascP_of a, b, ?_, ?_, Nat.le_trans (cutT_len _ _ _) hl5⟩
 ·show 2 ≤ (if atF l (24 + k) % 2 = 1 then (3 : Int) else 2); split <;> decide
 ·have c' : 2 < (cutF (rowsF l) l k).1.length := c
  show (if atF l (24 + k) % 2 = 1 then (3 : Int) else 2) ≤ _
  split <;> omega
theorem masF_ok (l : List Int) : MsOk (masF l) := by
 have hr := rowsF_ok l
 have h0 := atF_bd l 0 (by omega)
 have h2 := atF_bd l 2 (by omega)
 have hl5 := hr.l5
 have hl3 := hr.l3
 have hc := masF_cuts l
 refine ⟨by show (0 : Int) ≤ 6; decide, by show (6 : Int) ≤ 200; decide, by show 0 ≤ atF l 0 % 30; omega, by show atF l 0 % 30 ≤ _; omega, by show 1 ≤ (rowsF l).length; omega, by show (rowsF l).length ≤ 32; omega, hr.asc, hr.low, ?_, ?_, by omega, ?_⟩
 ·show ((List.range _).map _).length ≤ 1000
  simp only [List.length_map, List.length_range]
  omega
 ·intro c hc
  obtain ⟨j, hj, rfl⟩ := List.mem_map.1 hc
  have hj' := List.mem_range.1 hj
  exact colF_ok (rs := rowsF l) hr.nd (by omega) (by omega) (atF_bd l (5 + 2 * j) (by omega)).1
 ·intro c hc
  have h := masF_cutM l c hc
  exact ⟨h.asc, h.sub, h.two, h.le, by have := h.l5; omega⟩
end Go.Proofs.YtmhkmmmompediaaGreat

/- Both bounds alike: the errors, and what the law compares. -/
namespace Go.Proofs.YtmhkmmmompediaaGreat
open Go.RowKit

def FracP (m : World) (v : Value) (x y : Int) : Prop := ∃ g A n c g' B k d, v = .agg #[.bool g, .slice A n c, .bool g', .slice B k d] ∧ IntC m (.agg #[.bool g, .slice A n c]) x ∧ IntC m (.agg #[.bool g', .slice B k d]) y
theorem FracP.le {m m' : World} {v : Value} {x y : Int} (h : FracP m v x y) (hb : Le m m') : FracP m' v x y := by
 obtain ⟨g, A, n, c, g', B, k, d, e, h1, h2⟩ := h
 exact ⟨g, A, n, c, g', B, k, d, e, h1.le hb, h2.le hb⟩
theorem FracP.lit {m : World} {v : Value} {x y : Int} (h : FracP m v x y) : ∃ g A n c g' B k d, v = .agg #[.bool g, .slice A n c, .bool g', .slice B k d] ∧ FracP m (.agg #[.bool g, .slice A n c, .bool g', .slice B k d]) x y := by
 have h' := h
 obtain ⟨g, A, n, c, g', B, k, d, rfl, -, -⟩ := h
 exact ⟨_, _, _, _, _, _, _, _, rfl, h'⟩
theorem FracP.zero (m : World) : FracP m (.agg #[.bool false, .slice none 0 0, .bool false, .slice none 0 0]) 0 0 := ⟨_, _, _, _, _, _, _, _, rfl, IntC.nil, IntC.nil⟩
theorem FracC.toP {m : World} {v : Value} {q : Rat} (h : FracC m v q) : FracP m v q.num q.den := by
 obtain ⟨g1, A1, n1, c1, h1, B1, k1, d1, rfl, ha⟩ := h.lit
 obtain ⟨a1, a2⟩ := ha.open_
 exact ⟨_, _, _, _, _, _, _, _, rfl, a1, a2⟩

theorem r_SameP (a b : Value) (x y : Int) (w m : World) (hV : Vw m w) (ha : FracP m a x y) (hb : FracP m b x y) (l1 : (digs x.natAbs).length ≤ 1000) (l2 : (digs y.natAbs).length ≤ 1000) :
  Calls Tryz.prog 21 #[a, b] w (RetV w m fun _ r => r = .bool true) := by
 obtain ⟨g1, A1, n1, c1, h1, B1, k1, d1, rfl, a1, a2⟩ := ha
 obtain ⟨g2, A2, n2, c2, h2, B2, k2, d2, rfl, b1, b2⟩ := hb
 have hL := Loc.start hV
 clear hV
 go_enter Tryz.func21, Tryz.ntmps21
 go_wp2_with (first | go_skip | refine tP ?_ | (refine tB ?_; clear hL; intro _ _ hL _))
 refine (c_SameInt _ _ x _ _ hL.vw (a1.le leX) (b1.le leX) l1).mono ?_
 rintro e W1 ⟨_, m1, rfl, hE, hM1, hV, rfl⟩
 replace hL := hL.call hE (by assumption) hV; clear hE hV
 go_wp2_with (first | go_skip | refine tP ?_ | (refine tB ?_; clear hL; intro _ _ hL _))
 refine (c_SameInt _ _ y _ _ hL.vw (a2.le leX) (b2.le leX) l2).mono ?_
 rintro e W2 ⟨_, m2, rfl, hE, hM2, hV, rfl⟩
 replace hL := hL.call hE (by assumption) hV; clear hE hV
 go_wp2_with (first | go_skip | refine tP ?_ | (refine tB ?_; clear hL; intro _ _ hL _))
 go_ret
 exact RetV.mk hL rfl

def BvR (m : World) (r : Value) (x y e : Int) : Prop := ∃ v, r = .tuple #[v, .int .i64 e] ∧ FracP m v x y
theorem BvR.le {m m' : World} {r : Value} {x y e : Int} (h : BvR m r x y e) (hb : Le m m') : BvR m' r x y e := by
 obtain ⟨v, h1, h2⟩ := h
 exact ⟨v, h1, h2.le hb⟩
theorem z_len : (digs (0 : Int).natAbs).length ≤ 1000 := by simp [digs_zero]
theorem RetV.imp {w m : World} {R R' : World → Value → Prop} {e : Ending} {w' : World} (h : RetV w m R e w') (hi : ∀ m' r, R m' r → R' m' r) : RetV w m R' e w' := by
 obtain ⟨v, m', h1, h2, h3, h4, h5⟩ := h
 exact ⟨v, m', h1, h2, h3, h4, hi _ _ h5⟩
end Go.Proofs.YtmhkmmmompediaaGreat

/- One operation of a region that draws its order, walked by the laws over a list of known blocks. No program. -/
namespace Go.Proofs.YtmhkmmmompediaaGreat
open Go.RowKit
section
variable {P : Program} {ops : Array Oper} {Q : Exit → Act → World → Prop} {S : World → Prop}
def StepL (P : Program) (ops : Array Oper) (Q : Exit → Act → World → Prop) (S : World → Prop) (s fuel : Nat) (listed : Array Bool) (i : Nat) (e : Exit) (a : Act) (w : World) : Prop :=
 e = .normal ∧ ((listed.setIfInBounds i true).getD s false = false → S w) ∧ wpL P ops Q S s fuel (listed.setIfInBounds i true) a w
theorem StepL.mk {s fuel i : Nat} {listed : Array Bool} {a : Act} {w : World} (hS : S w) (h : wpL P ops Q S s fuel (listed.setIfInBounds i true) a w) : StepL P ops Q S s fuel listed i .normal a w := ⟨rfl, fun _ => hS, h⟩
theorem StepL.mkL {s fuel i : Nat} {listed : Array Bool} {a : Act} {w : World} (hs : (listed.setIfInBounds i true).getD s false = true) (h : wpL P ops Q S s fuel (listed.setIfInBounds i true) a w) : StepL P ops Q S s fuel listed i .normal a w :=
 ⟨rfl, (fun h0 => by rw [hs] at h0; cases h0), h⟩
theorem AllL.one {s fuel : Nat} {listed : Array Bool} {a : Act} {w : World} {i : Nat} {o : Oper} {rs : List Nat} (ho : ops.toList[i]? = some o)
  (h : wpList P ops (StepL P ops Q S s fuel listed i) [o] a w) (hs : AllL P ops Q S s fuel listed a w rs) : AllL P ops Q S s fuel listed a w (i :: rs) := fun j hj => by
 rcases List.mem_cons.1 hj with rfl | hj
 ·exact wpOp_of_one (by rw [← Array.getElem?_toList]; exact ho) (fun _ _ _ h => h.1) (fun _ _ h => h.2) h
 ·exact hs j hj
theorem wpL_one {s : Nat} (i : Nat) {o : Oper} {fuel : Nat} {listed : Array Bool} {a : Act} {w : World} (hr : Region.ready .any ops listed = [i]) (ho : ops.toList[i]? = some o)
  (h : wpList P ops (StepL P ops Q S s fuel listed i) [o] a w) : wpL P ops Q S s (fuel + 1) listed a w := wpL_ready [i] hr (by simp) (AllL.one ho h AllL.nil)
theorem wpL_two {s : Nat} (i j : Nat) {o p : Oper} {fuel : Nat} {listed : Array Bool} {a : Act} {w : World} (hr : Region.ready .any ops listed = [i, j]) (ho : ops.toList[i]? = some o) (hp : ops.toList[j]? = some p)
  (h : wpList P ops (StepL P ops Q S s fuel listed i) [o] a w) (h' : wpList P ops (StepL P ops Q S s fuel listed j) [p] a w) : wpL P ops Q S s (fuel + 1) listed a w := wpL_ready [i, j] hr (by simp) (AllL.one ho h (AllL.one hp h' AllL.nil))
end
end Go.Proofs.YtmhkmmmompediaaGreat

/- Maps from pairs of flights to fractions: what the block of such a map holds. -/
namespace Go.Proofs.YtmhkmmmompediaaGreat
open Go.RowKit Go.Maps Go.WideShapes

def pv (a c : Int) : Value := .agg #[.int .i64 a, .int .i64 c]
def Wf (a : Int) : Prop := (Lit.int .i64 a).wf = true
def klP (a c : Int) : Lit := .string (keyBytes [.int .i64 a, .int .i64 c])
theorem ktA_pair : Tryz.prog.keyTypeAt 5 180 = true := by kernel_rfl
theorem kt_pair : Tryz.prog.keyType 180 = true := by kernel_rfl
theorem cells_pair : Tryz.prog.cellsOf 180 = 2 := by kernel_rfl
theorem size_types : ∃ n, Tryz.prog.types.size = n + 1 := Nat.exists_eq_succ_of_ne_zero (Nat.pos_iff_ne_zero.1 (of_decide_eq_true (by kernel_rfl)))
theorem keyP : Keyed Tryz.prog 180 := Keyed.of_law (deep_law_laid laidO (m := 5) (by decide) (of_decide_eq_true (by kernel_rfl)) ktA_pair (by kernel_rfl))
theorem keyLits_int (d : Nat) (v : Value) (l : List Lit) : Tryz.prog.keyLits (d + 1) 3 [v] = some l ↔ ∃ a, v = .int .i64 a ∧ Wf a ∧ l = [.int .i64 a] := by
 unfold Program.keyLits
 rw [Tryz.underlying3]
 constructor
 ·intro h
  cases v <;> simp at h
  obtain ⟨⟨rfl, h1⟩, rfl⟩ := h
  exact ⟨_, rfl, h1, rfl⟩
 ·rintro ⟨a, rfl, h, rfl⟩
  unfold Wf at h
  simp [h]
theorem keyLits_pair (d : Nat) (x y : Value) (l : List Lit) : Tryz.prog.keyLits (d + 2) 180 [x, y] = some l ↔ ∃ a c, x = .int .i64 a ∧ y = .int .i64 c ∧ Wf a ∧ Wf c ∧ l = [.int .i64 a, .int .i64 c] := by
 have e1 : Tryz.prog.keyLits (d + 2) 180 [x, y] = (Tryz.prog.keyLits (d + 1) 3 [x]).bind fun p => (Tryz.prog.keyLits (d + 1) 3 [y]).bind fun q => some (p ++ q) := by
  rw [show d + 2 = (d + 1) + 1 from rfl]
  conv => lhs; unfold Program.keyLits
  rw [Tryz.underlying180]
  have hc : Tryz.prog.cellsOf 3 = 1 := by kernel_rfl
  cases h1 : Tryz.prog.keyLits (d + 1) 3 [x] <;> cases h2 : Tryz.prog.keyLits (d + 1) 3 [y] <;> simp [h1, h2, hc, cells_pair]
 rw [e1]
 constructor
 ·intro h
  cases h1 : Tryz.prog.keyLits (d + 1) 3 [x] with
  | none => rw [h1] at h; cases h
  | some p =>
   cases h2 : Tryz.prog.keyLits (d + 1) 3 [y] with
   | none => rw [h1, h2] at h; cases h
   | some q =>
    rw [h1, h2] at h
    obtain ⟨a, rfl, wa, rfl⟩ := (keyLits_int d x p).1 h1
    obtain ⟨c, rfl, wc, rfl⟩ := (keyLits_int d y q).1 h2
    exact ⟨a, c, rfl, rfl, wa, wc, (Option.some.inj h).symm⟩
 ·rintro ⟨a, c, rfl, rfl, wa, wc, rfl⟩
  rw [(keyLits_int d _ _).2 ⟨a, rfl, wa, rfl⟩, (keyLits_int d _ _).2 ⟨c, rfl, wc, rfl⟩]
  rfl
theorem keyOf_pair (v : Value) (l : Lit) : keyOf Tryz.prog 180 v = some l ↔ ∃ a c, v = pv a c ∧ Wf a ∧ Wf c ∧ l = klP a c := by
 obtain ⟨n, hn⟩ := size_types
 unfold keyOf
 rw [Tryz.underlying180]
 simp only [kt_pair, Bool.true_and, hn]
 constructor
 ·intro h
  cases v with
  | agg cs =>
   unfold Value.formed at h
   rw [Tryz.underlying180] at h
   simp only [cells_pair] at h
   by_cases hs : cs.size = 2
   ·obtain ⟨x, y, rfl⟩ : ∃ x y, cs = #[x, y] := by
     obtain ⟨l⟩ := cs
     match l, hs with
     | [x, y], _ => exact ⟨x, y, rfl⟩
    rw [if_pos (by simp)] at h
    cases hk : Tryz.prog.keyLits (n + 1 + 1) 180 (Value.agg #[x, y]).cells.toList with
    | none => rw [hk] at h; cases h
    | some ls =>
     rw [hk] at h
     obtain ⟨a, c, rfl, rfl, wa, wc, rfl⟩ := (keyLits_pair n x y ls).1 hk
     exact ⟨a, c, rfl, wa, wc, (Option.some.inj h).symm⟩
   ·rw [if_neg (by simpa using hs)] at h; cases h
  | _ =>
   unfold Value.formed at h
   rw [Tryz.underlying180] at h
   simp at h
 ·rintro ⟨a, c, rfl, wa, wc, rfl⟩
  have hf : Value.formed Tryz.prog 180 (pv a c) = true := by
   unfold Value.formed pv
   rw [Tryz.underlying180]
   simp [cells_pair]
  rw [if_pos hf]
  have hk := (keyLits_pair n (.int .i64 a) (.int .i64 c) _).2 ⟨a, c, rfl, rfl, wa, wc, rfl⟩
  show Option.map _ (Tryz.prog.keyLits (n + 1 + 1) 180 [.int .i64 a, .int .i64 c]) = _
  rw [hk]; rfl
theorem keyOf_mk {a c : Int} (wa : Wf a) (wc : Wf c) : keyOf Tryz.prog 180 (pv a c) = some (klP a c) := (keyOf_pair _ _).2 ⟨a, c, rfl, wa, wc, rfl⟩
theorem klP_inj {a c a' c' : Int} (wa : Wf a) (wc : Wf c) (wa' : Wf a') (wc' : Wf c') (h : klP a c = klP a' c') : a = a' ∧ c = c' := by
 have h1 := keyOf_mk wa wc
 rw [h] at h1
 have := keyP.inj h1 (keyOf_mk wa' wc')
 unfold pv at this
 simpa using this
theorem klP_key (a c : Int) : WideAt.IsKeyLit (klP a c) := trivial

def RV (v : Value) : Option (DataW Value × List MemPlace) := some (.held v, [])
abbrev PQ := (Int × Int) × Rat
def sumAt (S : List PQ) (p : Int × Int) : Rat := (S.filter fun e => decide (e.1 = p)).foldl (fun s e => s + e.2) ((0 : Int) : Rat)
theorem sumAt_same (S : List PQ) (p : Int × Int) (x : Rat) : sumAt (S ++ [(p, x)]) p = sumAt S p + x := by
 unfold sumAt; rw [List.filter_append, List.foldl_append]; simp
theorem sumAt_other (S : List PQ) {p q : Int × Int} (x : Rat) (h : q ≠ p) : sumAt (S ++ [(q, x)]) p = sumAt S p := by
 unfold sumAt; rw [List.filter_append, List.foldl_append]; simp [h]
theorem sumAt_none {S : List PQ} {p : Int × Int} (h : ∀ e ∈ S, e.1 ≠ p) : sumAt S p = ((0 : Int) : Rat) := by
 unfold sumAt; rw [List.filter_eq_nil_iff.2 (by simpa using h)]; rfl
structure PMap (D : DataW Value) (m : World) (S : List PQ) : Prop where
 mp : IsMap D
 some : ∀ e ∈ S, ∃ v, (∀ z, D.atKey (klP e.1.1 e.1.2) z = .held v) ∧ FracC m v (sumAt S e.1)
 none : ∀ a c, Wf a → Wf c → (∀ e ∈ S, e.1 ≠ (a, c)) → ∀ z, D.atKey (klP a c) z = z
 wf : ∀ e ∈ S, Wf e.1.1 ∧ Wf e.1.2
 keys : ∀ kl, has D kl = true → ∃ e ∈ S, kl = klP e.1.1 e.1.2
theorem PMap.le {D : DataW Value} {m m' : World} {S : List PQ} (h : PMap D m S) (hl : Le m m') : PMap D m' S :=
 ⟨h.mp, fun e he => by obtain ⟨v, h1, h2⟩ := h.some e he; exact ⟨v, h1, h2.le hl⟩, h.none, h.wf, h.keys⟩
theorem PMap.made (m : World) : PMap (.map []) m [] :=
 ⟨⟨[], rfl⟩, (fun _ h => by cases h), (fun _ _ _ _ _ _ => rfl), (fun _ h => by cases h), (fun kl h => by simp [has] at h)⟩
theorem PMap.put {D : DataW Value} {m : World} {S : List PQ} (h : PMap D m S) {a c : Int} {x : Rat} {v : Value} (wa : Wf a) (wc : Wf c) (hv : FracC m v (sumAt S (a, c) + x)) : PMap (D.put (klP a c) (.held v)) m (S ++ [((a, c), x)]) := by
 have hk := klP_key a c
 refine ⟨h.mp.put _ _, fun e he => ?_, fun a' c' wa' wc' hn z => ?_, fun e he => ?_, fun kl hkl => ?_⟩
 ·by_cases hp : e.1 = (a, c)
  ·refine ⟨v, fun z => ?_, ?_⟩
   ·rw [hp]; exact atKey_put_same h.mp hk _ _
   ·rw [hp, sumAt_same]; exact hv
  ·rcases List.mem_append.1 he with he | he
   ·obtain ⟨u, h1, h2⟩ := h.some e he
    refine ⟨u, fun z => ?_, ?_⟩
    ·rw [atKey_put_other (fun hh => hp ?_)]
     ·exact h1 z
     ·obtain ⟨e1, e2⟩ := klP_inj (h.wf e he).1 (h.wf e he).2 wa wc hh
      exact Prod.ext e1 e2
    ·rw [sumAt_other _ _ (fun hh => hp hh.symm)]; exact h2
   ·rcases List.mem_singleton.1 he with rfl
    exact absurd rfl hp
 ·have hne : (a, c) ≠ (a', c') := hn ((a, c), x) (by simp)
  rw [atKey_put_other (fun hh => hne ?_)]
  ·exact h.none a' c' wa' wc' (fun e he => hn e (List.mem_append_left _ he)) z
  ·obtain ⟨e1, e2⟩ := klP_inj wa' wc' wa wc hh
   rw [e1, e2]
 ·rcases List.mem_append.1 he with he | he
  ·exact h.wf e he
  ·rcases List.mem_singleton.1 he with rfl
   exact ⟨wa, wc⟩
 ·by_cases hh : kl = klP a c
  ·exact ⟨((a, c), x), by simp, hh⟩
  ·rw [has_put_other hh] at hkl
   obtain ⟨e, he, h1⟩ := h.keys kl hkl
   exact ⟨e, List.mem_append_left _ he, h1⟩
theorem zeroF (w : World) : (zeroValue 39).run Tryz.prog w = .ok (.agg #[.bool false, .slice none 0 0, .bool false, .slice none 0 0]) w := by kernel_rfl
def SumV (m : World) (v : Value) (q : Rat) : Prop := FracC m v q ∨ (v = .agg #[.bool false, .slice none 0 0, .bool false, .slice none 0 0] ∧ q = ((0 : Int) : Rat))
theorem SumV.le {m m' : World} {v : Value} {q : Rat} (h : SumV m v q) (hl : Le m m') : SumV m' v q := h.imp (fun h => h.le hl) id
theorem SumV.lit {m : World} {v : Value} {q : Rat} (h : SumV m v q) : ∃ g A n c f B k d, v = .agg #[.bool g, .slice A n c, .bool f, .slice B k d] := by
 rcases h with h | ⟨rfl, -⟩
 ·obtain ⟨g, A, n, c, f, B, k, d, e, _⟩ := h.lit
  exact ⟨_, _, _, _, _, _, _, _, e⟩
 ·exact ⟨_, _, _, _, _, _, _, _, rfl⟩
theorem q_AddSum (a b : Value) (p q : Rat) (w m : World) (hV : Vw m w) (ha : SumV m a p) (hb : FracC m b q) (hs : Sm p.num p.den) (hs' : Sm q.num q.den) :
  Calls Tryz.prog 72 #[a, b] w (RetV w m fun m' r => FracC m' r (p + q)) := by
 rcases ha with ha | ⟨rfl, rfl⟩
 ·exact q_AddC a b p q w m hV ha hb hs hs'
 ·have h := q_Add _ b 0 0 q.num q.den w m hV (frac0 m) (hb.toS hs') ⟨by decide, by decide⟩ hs'
  rw [Rat.num_divInt_den] at h
  have e : Rat.divInt 0 0 + q = ((0 : Int) : Rat) + q := by simp
  rwa [e] at h
def FMap (W m : World) (b : Nat) (S : List PQ) : Prop := ∃ n D, n ≤ S.length ∧ W.ownsMap (H := Value) Tryz.prog 180 RV b n D ∧ PMap D m S
theorem FMap.made (W m : World) : FMap (W.alloc (.map #[] 0)) m W.heap.size [] := ⟨0, _, Nat.le_refl _, World.ownsMap_made _ _ _ _, PMap.made m⟩
theorem FMap.le {W m m' : World} {b : Nat} {S : List PQ} (h : FMap W m b S) (hl : Le m m') : FMap W m' b S := by
 obtain ⟨n, D, hn, h1, h2⟩ := h
 exact ⟨n, D, hn, h1, h2.le hl⟩
theorem ownsMap_ext {W W' : World} {b n : Nat} {D : DataW Value} (h : W.ownsMap (H := Value) Tryz.prog 180 RV b n D) (hE : Ext W W') : W'.ownsMap (H := Value) Tryz.prog 180 RV b n D := by
 obtain ⟨es, clock, hb, h⟩ := h
 have hlt : b < W.heap.size := (Array.getElem?_eq_some_iff.1 hb).1
 exact ⟨es, clock, (hE.block b hlt).trans hb, h⟩
theorem FMap.ext {W W' m : World} {b : Nat} {S : List PQ} (h : FMap W m b S) (hE : Ext W W') : FMap W' m b S := by
 obtain ⟨n, D, hn, h1, h2⟩ := h
 exact ⟨n, D, hn, ownsMap_ext h1 hE, h2⟩
theorem FMap.notCells {W m : World} {b : Nat} {S : List PQ} (h : FMap W m b S) : ∀ cs t fr, W.heap[b]? ≠ some (.cells cs t fr) := by
 obtain ⟨n, D, hn, ⟨es, clock, hb, _⟩, -⟩ := h
 intro cs t fr e
 rw [hb] at e
 cases e
theorem FMap.look {W m : World} {b : Nat} {S : List PQ} (h : FMap W m b S) {a c : Int} (wa : Wf a) (wc : Wf c) :
  ∃ v, SumV m v (sumAt S (a, c)) ∧ ∀ W', Ext W W' → (Instr.lookup 178 (.map (some b)) (pv a c) false).run Tryz.prog W' = .ok v W' := by
 obtain ⟨n, D, hn, h1, h2⟩ := h
 have key : ∀ W', Ext W W' → ∃ v, (Instr.lookup 178 (.map (some b)) (pv a c) false).run Tryz.prog W' = .ok v W' ∧ DataW.held v = D.atKey (klP a c) (.held (.agg #[.bool false, .slice none 0 0, .bool false, .slice none 0 0])) := by
  intro W' hE
  obtain ⟨v, ps, hrun, hv⟩ := (ownsMap_ext h1 hE).lookup keyP Tryz.underlying178 (zeroF W') (zd := .held (.agg #[.bool false, .slice none 0 0, .bool false, .slice none 0 0])) (zp := []) rfl (keyOf_mk wa wc)
  exact ⟨v, hrun, (Prod.mk.inj (Option.some.inj hv)).1⟩
 obtain ⟨v, -, hv⟩ := key W (Ext.refl _)
 refine ⟨v, ?_, fun W' hE => ?_⟩
 ·by_cases he : ∃ e ∈ S, e.1 = (a, c)
  ·obtain ⟨e, he, hp⟩ := he
   obtain ⟨u, h3, h4⟩ := h2.some e he
   rw [hp] at h3 h4
   rw [h3] at hv
   cases hv
   exact .inl h4
  ·have hn' : ∀ e ∈ S, e.1 ≠ (a, c) := fun e h h' => he ⟨e, h, h'⟩
   rw [h2.none a c wa wc hn'] at hv
   cases hv
   exact .inr ⟨rfl, sumAt_none hn'⟩
 ·obtain ⟨u, hr, hu⟩ := key W' hE
  rw [← hu] at hv
  cases hv
  exact hr
theorem FMap.up {W m : World} {b : Nat} {S : List PQ} (h : FMap W m b S) (hl : S.length ≤ 1000000) {a c : Int} {x : Rat} {v : Value} (wa : Wf a) (wc : Wf c) (hv : FracC m v (sumAt S (a, c) + x)) :
  ∃ W', (Instr.mapUpdate 178 (.map (some b)) (pv a c) v).run Tryz.prog W = .ok () W' ∧ FMap W' m b (S ++ [((a, c), x)]) ∧ W.grownBy W' (some b) := by
 obtain ⟨n, D, hn, h1, h2⟩ := h
 obtain ⟨W', e1, e2, e3⟩ := h1.update keyP Tryz.underlying178 (by unfold maxLen; omega) (keyOf_mk wa wc) (val := v) (d := .held v) (ps := []) rfl
 exact ⟨W', e1, ⟨n + 1, _, by simp; omega, e2, h2.put wa wc hv⟩, e3⟩
end Go.Proofs.YtmhkmmmompediaaGreat

/- slices.SortFunc over a row of follow-ons: the row, the comparison, and what is sorted. -/
namespace Go.Proofs.YtmhkmmmompediaaGreat
open Go.RowKit Go.Sort

structure Fol where
 a : Int
 c : Int
 g : Bool
 A : Option Addr
 n : Nat
 k : Nat
 f : Bool
 B : Option Addr
 p : Nat
 q : Nat
instance iFol : Inhabited Fol := ⟨⟨0, 0, false, none, 0, 0, false, none, 0, 0⟩⟩
def encF (x : Fol) : List Value := [.int .i64 x.a, .int .i64 x.c, .bool x.g, .slice x.A x.n x.k, .bool x.f, .slice x.B x.p x.q]
def encV (x : Fol) : Value := .agg (encF x).toArray
def FolR (m : World) (v : Value) (x : PQ) : Prop := ∃ f : Fol, v = encV f ∧ f.a = x.1.1 ∧ f.c = x.1.2 ∧ FracC m (.agg #[.bool f.g, .slice f.A f.n f.k, .bool f.f, .slice f.B f.p f.q]) x.2
theorem FolR.mono (m m' : World) (v : Value) (x : PQ) (h : FolR m v x) (hl : Le m m') : FolR m' v x := by
 obtain ⟨f, h1, h2, h3, h4⟩ := h
 exact ⟨f, h1, h2, h3, h4.le hl⟩
abbrev FolL := ListV (α := PQ) 6 FolR
theorem FolL.le {m m' : World} {v : Value} {xs : List PQ} (h : FolL m v xs) (hl : Le m m') : FolL m' v xs := ListV.le FolR.mono h hl
def ltP (x y : PQ) : Prop := x.1.1 < y.1.1 ∨ (x.1.1 = y.1.1 ∧ x.1.2 < y.1.2)
end Go.Proofs.YtmhkmmmompediaaGreat

/- Blocks that are no rows (maps, iterators) beside the list of known blocks: what leaves them; ranging over a map. No program but for the last law's types. -/
namespace Go.Proofs.YtmhkmmmompediaaGreat
open Go.RowKit Go.Maps

def Still (W W' : World) : Prop := ∀ (b : Nat) (o : Obj), W.heap[b]? = some o → (∀ cs t fr, o ≠ Obj.cells cs t fr) → W'.heap[b]? = some o
theorem Still.refl (W : World) : Still W W := fun _ _ h _ => h
theorem Still.trans {W W' W2 : World} (h : Still W W') (k : Still W' W2) : Still W W2 := fun b o hb hn => k b o (h b o hb hn) hn
theorem Ext.still {W W' : World} (h : Ext W W') : Still W W' := fun b o hb _ => (h.block b (Array.getElem?_eq_some_iff.1 hb).1).trans hb
theorem ownsMap_still {W W' : World} {b n : Nat} {D : DataW Value} (h : W.ownsMap (H := Value) Tryz.prog 180 RV b n D) (hE : Still W W') : W'.ownsMap (H := Value) Tryz.prog 180 RV b n D := by
 obtain ⟨es, clock, hb, h⟩ := h
 exact ⟨es, clock, hE b _ hb (fun _ _ _ e => by cases e), h⟩
theorem FMap.still {W W' m : World} {b : Nat} {S : List PQ} (h : FMap W m b S) (hE : Still W W') : FMap W' m b S := by
 obtain ⟨n, D, hn, h1, h2⟩ := h
 exact ⟨n, D, hn, ownsMap_still h1 hE, h2⟩
abbrev RngF (W : World) (b r n : Nat) (D : DataW Value) (left : Lit → Bool) (cnt : Nat) : Prop := W.ranges (H := Value) Tryz.prog 180 RV b r n D left cnt
theorem RngF.still {W W' : World} {b r n cnt : Nat} {D : DataW Value} {left : Lit → Bool} (h : RngF W b r n D left cnt) (hE : Still W W') : RngF W' b r n D left cnt := by
 obtain ⟨es, clock, since, seen, c0, hb, F, hs, hD, hr, rest⟩ := h
 exact ⟨es, clock, since, seen, c0, hE b _ hb (fun _ _ _ e => by cases e), F, hs, hD, hE r _ hr (fun _ _ _ e => by cases e), rest⟩
theorem Loc.join {w0 m0 W m W2 m2 : World} {A B : List Lo} (hL : Loc w0 m0 W m A) (h2 : Loc W m W2 m2 B) : Loc w0 m0 W2 m2 (B ++ A) := by
 refine ⟨hL.size0, hL.ext.trans h2.ext, hL.mext.trans h2.mext, h2.vw, fun x hx => ?_, fun x hx => ?_, fun x hx a ha => ?_, ?_⟩
 ·rcases List.mem_append.1 hx with hx | hx
  ·exact Nat.le_trans hL.ext.size (h2.low x hx)
  ·exact hL.low x hx
 ·rcases List.mem_append.1 hx with hx | hx
  ·exact h2.blk x hx
  ·exact (hL.blk x hx).ext h2.ext
 ·rcases List.mem_append.1 hx with hx | hx
  ·exact h2.hid x hx a ha
  ·have hlt : a.block < m.heap.size := by rw [ha, hL.vw.size]; exact (hL.blk x hx).lt
   rw [h2.mext.cell (p := a) hlt]
   exact hL.hid x hx a ha
 ·rw [List.pairwise_append]
  refine ⟨h2.apart, hL.apart, fun x hx y hy => ?_⟩
  have h1 := h2.low x hx
  have h3 := (hL.blk y hy).lt
  omega
theorem Loc.grow0 {w0 m0 W m W' : World} {Ls : List Lo} (h : Loc w0 m0 W m Ls) (hg : W.grownBy W' none) : Loc w0 m0 W' (hidTo m W'.heap.size) Ls := by
 have hs : m.heap.size ≤ W'.heap.size := by rw [h.vw.size]; exact hg.size
 refine ⟨h.size0, h.ext.grown hg (fun k hk => by cases hk), h.mext.trans (hidTo_ext hs), ⟨h.vw.os.trans hg.os.symm, h.vw.tape.trans hg.tape.symm, h.vw.output.trans hg.output.symm, hidTo_size hs, fun a u hu => ?_⟩, h.low, fun x hx => ?_, fun x hx a ha => ?_, h.apart⟩
 ·rcases Nat.lt_or_ge a.block m.heap.size with hlt | hlt
  ·rw [cell_of_heap (hidTo_old hlt)] at hu
   rw [World.cell?_of_block (hg.block _ (by rw [← h.vw.size]; exact hlt) (by simp))]
   exact h.vw.cell _ _ hu
  ·rw [hidTo_new hlt] at hu; cases hu
 ·exact (hg.block _ (h.blk x hx).lt (by simp)).trans (h.blk x hx)
 ·have hlt : a.block < m.heap.size := by rw [ha, h.vw.size]; exact (h.blk x hx).lt
  rw [cell_of_heap (hidTo_old hlt)]
  exact h.hid x hx a ha
section
variable {P : Program} {ops : Array Oper} {Q : Exit → Act → World → Prop} {rest : List Oper} {o : Oper} {a : Act} {w0 m0 W m : World}
theorem wl_appendS {A R : List Lo} (hL : Loc w0 m0 W m (A ++ R)) {e : TypeId} {size : Nat} {v : Value} {n : Nat} {xs : List Value} (hR : Row e size v n xs R)
  (hw : Region.wanted o (yielded ops a.tmps) = true) {s x : Operand} {t : TypeId} (ho : o.op = .call { callee := .builtin .append, args := #[s, x], argTypes := #[t, t] })
  {bytes : Nat} (hap : apS P t = some (e, size, bytes, size)) (hsz : 0 < size) (hs : a.eval s = v) {B : Option Addr} {k c : Nat} (hx : a.eval x = .slice B k c) {news : List Value}
  (hl : news.length = k * size) (hr : Sl W B news) (h1 : news.all (·.oneCell') = true) (hn : n + k ≤ 1000000) (hb : bytes ≤ 1000000)
  (h : ∀ v' W' m' R', Loc w0 m0 W' m' (A ++ R') → Row e size v' (n + k) (xs ++ news) R' → Ext m m' → Still W W' → wpList P ops Q rest (a.put o.dst v') W') : wpList P ops Q (o :: rest) a W := by
 obtain ⟨i, z, ht, hi, hz, hs1, hb1, hz1⟩ := ap_desc hap
 refine wpList_wanted hw fun K hK => ?_
 have hbb : (n + k) * bytes ≤ 140737488355328 := Nat.le_trans (Nat.mul_le_mul hn hb) (by decide)
 refine wp_append_any W s x t ho w0.heap.size e i z size bytes ht hi hz hs1 hb1 hz1 hsz v n xs hs (hL.own hR) B k c news hx hl hr (fun u hu => List.all_eq_true.1 h1 u hu) (Nat.le_trans hn (by decide)) hbb hL.ext.size ?_
 intro v' W' ho' hg hob
 refine hK _ _ ?_
 have hrow : ∀ j, v.ownBlock = some j → ∃ x ∈ R, x.1 = j := by
  intro j hj
  obtain ⟨_, ⟨rfl, _, _⟩ | ⟨g, cap, cur, rfl, rfl, _⟩⟩ := hR
  ·simp [Value.ownBlock] at hj
  ·simp [Value.ownBlock] at hj
   exact ⟨_, List.mem_singleton.2 rfl, hj⟩
 have hst : Still W W' := fun b ob hbo hnc => by
  refine (hg.block b (Array.getElem?_eq_some_iff.1 hbo).1 fun hbe => ?_).trans hbo
  obtain ⟨x, hx, hxe⟩ := hrow b hbe.symm
  have hbl := hL.blk x (List.mem_append_right _ hx)
  unfold Blk at hbl
  rw [hxe, hbo] at hbl
  exact hnc _ _ _ (Option.some.inj hbl)
 have hE : Ext m (hidTo m W'.heap.size) := hidTo_ext (by rw [hL.vw.size]; exact hg.size)
 obtain ⟨hlen, ⟨rfl, h0⟩ | ⟨g, cap, cur, rfl, hge, hh, hnc, hcm, hcs, htk⟩⟩ := ho'
 ·exact h _ W' _ [] (hL.grown hg hrow (fun x hx => by cases hx) (by simp)) ⟨hlen, .inl ⟨rfl, h0, rfl⟩⟩ hE hst
 ·refine h _ W' _ [(g, e, cur)] (hL.grown hg hrow (fun x hx => ?_) (by simp)) ⟨hlen, .inr ⟨g, cap, cur, rfl, rfl, hnc, hcm, hcs, htk⟩⟩ hE hst
  rcases List.mem_singleton.1 hx with rfl
  refine ⟨hh, ?_⟩
  rcases hob with hob | hob
  ·left
   obtain ⟨x, hx, hxe⟩ := hrow g (by rw [← hob]; rfl)
   exact ⟨x, hx, hxe⟩
  ·right
   simpa [Value.ownBlock] using hob
end
section
variable {ops : Array Oper} {Q : Exit → Act → World → Prop} {rest : List Oper} {o : Oper} {a : Act} {w0 m0 W m : World} {Ls : List Lo}
end
end Go.Proofs.YtmhkmmmompediaaGreat

/- Follow-ons in plain numbers: the entries that the columns give, their sums, and the one ascending list of those that are not 0. -/
namespace Go.Proofs.YtmhkmmmompediaaGreat
open Go.RowKit

structure VOk (x : Ms) (vs : List Rat) : Prop where
 ms : MsOk x
 len : vs.length = x.cols.length
 tw : ∀ v ∈ vs, Tw 18 v
 few : x.cols.length ≤ 100
theorem nodup_length : ∀ {xs ys : List Int}, xs.Nodup → (∀ x ∈ xs, x ∈ ys) → xs.length ≤ ys.length
 | [], _, _, _ => Nat.zero_le _
 | x :: xs, ys, hn, hs => by
  obtain ⟨h1, h2⟩ := List.nodup_cons.1 hn
  have hx := hs x List.mem_cons_self
  have ih := nodup_length (ys := ys.erase x) h2 fun y hy => (List.mem_erase_of_ne (fun e => h1 (by rw [← e]; exact hy))).2 (hs y (List.mem_cons_of_mem _ hy))
  rw [List.length_erase_of_mem hx] at ih
  have := List.length_pos_of_mem hx
  simp only [List.length_cons]; omega
theorem nodup_lengthP : ∀ {xs ys : List (Int × Int)}, xs.Nodup → (∀ x ∈ xs, x ∈ ys) → xs.length ≤ ys.length
 | [], _, _, _ => Nat.zero_le _
 | x :: xs, ys, hn, hs => by
  obtain ⟨h1, h2⟩ := List.nodup_cons.1 hn
  have hx := hs x List.mem_cons_self
  have ih := nodup_lengthP (ys := ys.erase x) h2 fun y hy => (List.mem_erase_of_ne (fun e => h1 (by rw [← e]; exact hy))).2 (hs y (List.mem_cons_of_mem _ hy))
  rw [List.length_erase_of_mem hx] at ih
  have := List.length_pos_of_mem hx
  simp only [List.length_cons]; omega
theorem VOk.col_len {x : Ms} {vs : List Rat} (h : VOk x vs) {c : Col} (hc : c ∈ x.cols) : (opF c.2.1).length ≤ 32 := by
 have h1 := h.ms.cols c hc
 exact Nat.le_trans (nodup_length h1.nodup h1.sub) h.ms.r1
def IsFol (S ys : List PQ) : Prop := ys.Pairwise ltP ∧ ∀ y, y ∈ ys ↔ (y.2 = sumAt S y.1 ∧ y.2 ≠ 0)
end Go.Proofs.YtmhkmmmompediaaGreat

/- Contract of branch.follows. -/
namespace Go.Proofs.YtmhkmmmompediaaGreat
open Go.RowKit Go.Maps

theorem zc_Pair2 : zc Tryz.prog 180 = some #[.int .i64 0, .int .i64 0] := by kernel_rfl
instance iAC5_1 : ZcC Tryz.prog 180 #[.int .i64 0, .int .i64 0] := ⟨zc_Pair2⟩
theorem ag_Pair2 : agS Tryz.prog 180 = some 2 := by kernel_rfl
instance iAC5_2 : AgC Tryz.prog 180 2 := ⟨ag_Pair2⟩
theorem fd_Pair20 : fdS Tryz.prog 180 0 = some 0 := by kernel_rfl
instance iAC5_3 : FdC Tryz.prog 180 0 0 := ⟨fd_Pair20⟩
theorem fd_Pair21 : fdS Tryz.prog 180 1 = some 1 := by kernel_rfl
instance iAC5_4 : FdC Tryz.prog 180 1 1 := ⟨fd_Pair21⟩
theorem ag_Fol : agS Tryz.prog 139 = some 6 := by kernel_rfl
instance iAC5_5 : AgC Tryz.prog 139 6 := ⟨ag_Fol⟩
theorem ap_Fols : apS Tryz.prog 76 = some (139, 6, 80, 6) := by kernel_rfl
instance iAC5_6 : ApC Tryz.prog 76 139 6 80 := ⟨ap_Fols⟩

structure Got (S : List PQ) (left : Lit → Bool) (xs : List PQ) : Prop where
 nd : (xs.map Prod.fst).Nodup
 sound : ∀ y ∈ xs, y.2 = sumAt S y.1 ∧ y.2 ≠ 0 ∧ left (klP y.1.1 y.1.2) = false ∧ ∃ e ∈ S, e.1 = y.1
 whole : ∀ e ∈ S, left (klP e.1.1 e.1.2) = false → sumAt S e.1 ≠ 0 → (e.1, sumAt S e.1) ∈ xs
theorem Got.start {D : DataW Value} {m : World} {S : List PQ} (h : PMap D m S) : Got S (has D) [] :=
 ⟨List.Pairwise.nil, (fun _ h => by cases h), fun e he hl _ => by
  obtain ⟨v, h1, -⟩ := h.some e he
  rw [has_true_of_atKey h1] at hl; cases hl⟩
theorem Got.done {S : List PQ} {left : Lit → Bool} {xs ys : List PQ} (h : Got S left xs) (hl : ∀ kl, left kl = false) (hp : ys.Perm xs) (hs : ys.Pairwise ltP) : IsFol S ys := by
 refine ⟨hs, fun y => ?_⟩
 rw [hp.mem_iff]
 constructor
 ·intro hy
  obtain ⟨h1, h2, -⟩ := h.sound y hy
  exact ⟨h1, h2⟩
 ·rintro ⟨h1, h2⟩
  by_cases he : ∃ e ∈ S, e.1 = y.1
  ·obtain ⟨e, he, e1⟩ := he
   have := h.whole e he (hl _) (by rw [e1, ← h1]; exact h2)
   rw [e1, ← h1] at this
   exact this
  ·exact absurd (h1.trans (sumAt_none fun e h h' => he ⟨e, h, h'⟩)) h2
theorem Got.len {S : List PQ} {left : Lit → Bool} {xs : List PQ} (h : Got S left xs) : xs.length ≤ S.length := by
 have h2 := nodup_lengthP h.nd (ys := S.map Prod.fst) fun p hp => by
  obtain ⟨y, hy, rfl⟩ := List.mem_map.1 hp
  obtain ⟨e, he, e1⟩ := (h.sound y hy).2.2.2
  exact List.mem_map.2 ⟨e, he, e1⟩
 simpa using h2
theorem PMap.out {D : DataW Value} {m : World} {S : List PQ} {a c : Int} {v : Value} (h : PMap D m S) (wa : Wf a) (wc : Wf c) (hk : has D (klP a c) = true) (hv : ∀ z, D.atKey (klP a c) z = .held v) : (∃ e ∈ S, e.1 = (a, c)) ∧ FracC m v (sumAt S (a, c)) := by
 obtain ⟨e, he, e1⟩ := h.keys _ hk
 obtain ⟨e2, e3⟩ := klP_inj wa wc (h.wf e he).1 (h.wf e he).2 e1
 have hp : e.1 = (a, c) := Prod.ext e2.symm e3.symm
 obtain ⟨u, h1, h2⟩ := h.some e he
 rw [hp] at h1 h2
 have := (hv .nil).symm.trans (h1 .nil)
 cases this
 exact ⟨⟨e, he, hp⟩, h2⟩
theorem icmp_ne {q : Rat} (h : ¬ q = 0) : ¬ icmp q.num 0 = 0 := by
 have : q.num ≠ 0 := fun e => h (Rat.num_eq_zero.1 e)
 unfold icmp
 split <;> (try split) <;> omega
end Go.Proofs.YtmhkmmmompediaaGreat

/- Contracts of branch.check, pairingref27.valued and branch.Follows. -/
namespace Go.Proofs.YtmhkmmmompediaaGreat
open Go.RowKit

theorem master_nc {m : World} {nf pen : Int} {A B C : Option Addr} {nr ca nc cb nk cc : Nat} {x : Ms} (h : MasterR m (.agg #[.int .i64 nf, .slice A nr ca, .int .i64 pen, .slice B nc cb, .slice C nk cc]) x) : nc = x.cols.length := by
 obtain ⟨va, vb, vc, e, ha, hb, hc⟩ := h
 obtain ⟨B', cb', rfl, -, -⟩ := hb.lit
 simp at e
 omega
theorem r_valued (xv : Value) (x : Ms) (V : Option Addr) (n c : Nat) (e : Int) (w m : World) (hV : Vw m w) (hx : MasterR m xv x) (ok : MsOk x) (he : e = if n = x.cols.length then 0 else 12) :
  Calls Tryz.prog 107 #[xv, .slice V n c] w (RetV w m fun _ r => r = .int .i64 e) := by
 have HX := Lib.hid hx
 obtain ⟨A, nr, ca, B, nc, cb, C, nk, cc, rfl, hx1⟩ := hx.lit
 have hnc := master_nc hx1
 have KV : Hid (∀ w m', Vw m' w → Le m m' → Calls Tryz.prog 76 #[.agg #[.int .i64 x.nf, .slice A nr ca, .int .i64 x.pen, .slice B nc cb, .slice C nk cc]] w (RetV w m' fun _ r => r = .int .i64 0)) := by
  show ∀ w m', _
  exact fun w m' hV hle => r_ValidateMaster _ x w m' hV (HX.out.le hle) ok
 rw [← hnc] at he
 have hL := Loc.start hV
 clear hV hx1 HX hnc ok
 generalize x.nf = nf at *
 generalize x.pen = pen at *
 by_cases h : n = nc
 ·subst h
  rw [if_pos rfl] at he
  subst he
  go_enter Tryz.func107, Tryz.ntmps107
  go_upto_region 0 with (fail)
  refine wp_region_lit ?_
  refine t_box hL rfl rfl ?_; clear hL; intro Wh2 mh2 hL eh2; simp only [Act.put, zq1, zq2, zq3]
  go_wp2_with (first | go_skip | refine tP ?_ | (refine tB ?_; clear hL; intro _ _ hL _))
  refine (KV.out _ _ hL.vw leX).mono ?_
  rintro e Wc1 ⟨_, mc1, rfl, hE, hMc1, hV, rfl⟩
  replace hL := hL.call hE (by assumption) hV; clear hE hV
  go_wp2_with (first | go_skip | refine tP ?_ | (refine tB ?_; clear hL; intro _ _ hL _))
  go_ret
  exact RetV.mk hL rfl
 ·rw [if_neg h] at he
  subst he
  have h' : ¬ (n : Int) = (nc : Int) := by omega
  have h2 : ((n : Int) != (nc : Int)) = true := by simpa using h'
  go_enter Tryz.func107, Tryz.ntmps107
  go_upto_region 0 with (fail)
  refine wp_region_lit ?_
  refine t_box hL rfl rfl ?_; clear hL; intro Wh2 mh2 hL eh2; simp only [Act.put, zq1, zq2, zq3]
  go_wp2_with (first | go_skip | refine tP ?_ | (refine tB ?_; clear hL; intro _ _ hL _))
  refine (KV.out _ _ hL.vw leX).mono ?_
  rintro e Wc1 ⟨_, mc1, rfl, hE, hMc1, hV, rfl⟩
  replace hL := hL.call hE (by assumption) hV; clear hE hV
  go_wp2_with (first | go_skip | refine tP ?_ | (refine tB ?_; clear hL; intro _ _ hL _))
  go_ret
  exact RetV.mk hL rfl

end Go.Proofs.YtmhkmmmompediaaGreat

/- Contracts of rational.Sub, FromInt, Floor and Abs for small canonical fractions. -/
namespace Go.Proofs.YtmhkmmmompediaaGreat
open Go.RowKit

theorem q_FromInt (v : Value) (z : Int) (w m : World) (hV : Vw m w) (h : IntC m v z) (hz : z.natAbs < 18446744073709551616) :
  Calls Tryz.prog 116 #[v] w (RetV w m fun m' r => FracC m' r (z : Rat)) := by
 obtain ⟨g, A, n, c, rfl, h⟩ := h.lit
 have lz : (digs z.natAbs).length ≤ 1000 := Nat.le_trans (len2 hz) (by omega)
 have HZ := Lib.hid hz
 have hL := Loc.start hV
 clear hV hz
 go_enter Tryz.func116, Tryz.ntmps116
 go_wp2_with (first | go_skip | refine tP ?_ | (refine tS ?_; clear hL; intro _ hL) | (refine tB ?_; clear hL; intro _ _ hL _))
 refine (i_Add _ _ z 0 _ _ hL.vw ((h.toV lz).le leX) (IntC.nil.toV (by simp [digs_zero])) HZ.out (by decide)).mono ?_
 rintro e W1 ⟨v1, m1, rfl, hE, hM1, hV, h1⟩
 replace hL := hL.call hE (by assumption) hV; clear hE hV
 obtain ⟨g1', A1', n1', c1', rfl, h1⟩ := h1.lit
 go_wp2_with (first | go_skip | refine tP ?_ | (refine tS ?_; clear hL; intro _ hL) | (refine tB ?_; clear hL; intro _ _ hL _))
 refine (i_FromInt64 1 _ _ hL.vw (by decide) (by decide)).mono ?_
 rintro e W2 ⟨v2, m2, rfl, hE, hM2, hV, h2⟩
 replace hL := hL.call hE (by assumption) hV; clear hE hV
 obtain ⟨g2', A2', n2', c2', rfl, h2⟩ := h2.lit
 go_wp2_with (first | go_skip | refine tP ?_ | (refine tS ?_; clear hL; intro _ hL) | (refine tB ?_; clear hL; intro _ _ hL _))
 refine fin_agg hL Tryz.results116 rfl rfl loX AgC.h (by exact rfl) ?_
 refine ⟨_, _, _, _, rfl, ?_, ?_⟩
 ·rw [Rat.num_intCast]
  have := h1.le (leX : Le m1 m2)
  rwa [Int.add_zero] at this
 ·rw [Rat.den_intCast]
  exact h2

theorem q_Floor (v : Value) (q : Rat) (w m : World) (hV : Vw m w) (h : FracC m v q) (hx : q.num.natAbs < 18446744073709551616) (hy : q.den < 18446744073709551616) :
  Calls Tryz.prog 117 #[v] w (RetV w m fun m' r => IntC m' r (flr q)) := by
 obtain ⟨g, A, n, c, g', B', n', c', rfl, h⟩ := h.lit
 have lx : (digs q.num.natAbs).length ≤ 1000 := Nat.le_trans (len2 hx) (by omega)
 have ly : (digs (q.den : Int).natAbs).length ≤ 1000 := Nat.le_trans (len2 (by simpa using hy)) (by omega)
 have HX : Hid (q.num.natAbs < 18446744073709551616) := hx
 have HY : Hid ((q.den : Int).natAbs < 18446744073709551616) := by show _ < _; simpa using hy
 have HP : Hid ((0 : Int) < q.den) := by show _ < _; have := q.den_pos; omega
 clear hx hy
 have hL := Loc.start hV
 clear hV
 go_enter Tryz.func117, Tryz.ntmps117
 go_wp2_with (first | go_skip | refine tP ?_ | (refine tS ?_; clear hL; intro _ hL) | (refine tB ?_; clear hL; intro _ _ hL _))
 refine (q_parts _ q _ _ hL.vw (h.le leX) ly).mono ?_
 rintro e W11 ⟨_, m11, rfl, hE, hM11, hV, va, vb, rfl, h1, h2⟩
 replace hL := hL.call hE (by assumption) hV; clear hE hV
 obtain ⟨g1, A1, n1, c1, rfl, h1⟩ := h1.lit
 obtain ⟨g2, A2, n2, c2, rfl, h2⟩ := h2.lit
 go_wp2_with (first | go_skip | refine tP ?_ | (refine tS ?_; clear hL; intro _ hL) | (refine tB ?_; clear hL; intro _ _ hL _))
 refine (i_DivModA _ _ q.num q.den _ _ hL.vw ((h1.toV lx).le leX) ((h2.toV ly).le leX) HX.out HY.out HP.out).mono ?_
 rintro e W6 ⟨_, m6, rfl, hE, hM6, hV, q6, r6, rfl, h6, k6⟩
 replace hL := hL.call hE (by assumption) hV; clear hE hV
 obtain ⟨g6, A6, n6, c6, rfl, h6⟩ := h6.lit
 obtain ⟨g7, A7, n7, c7, rfl, k6⟩ := k6.lit
 go_wp2_with (first | go_skip | refine tP ?_ | (refine tS ?_; clear hL; intro _ hL) | (refine tB ?_; clear hL; intro _ _ hL _))
 refine fin_agg hL Tryz.results117 rfl rfl loX AgC.h (by exact rfl) ?_
 exact h6.le leX

theorem sgn_false (n : Nat) : sgn false n = (n : Int) := rfl
theorem i_Abs (v : Value) (z : Int) (w m : World) (hV : Vw m w) (h : IntV m v z) : Calls Tryz.prog 159 #[v] w (RetV w m fun m' r => IntC m' r (z.natAbs : Int)) := by
 obtain ⟨g, A, l, c, rfl⟩ := h.lit
 obtain ⟨hd, hg⟩ := h.digA
 have lz := h.length
 have hL := Loc.start hV
 clear hV hg
 go_enter Tryz.func159, Tryz.ntmps159
 go_wp2_with (first | go_skip | refine tP ?_ | (refine tS ?_; clear hL; intro _ hL) | (refine tB ?_; clear hL; intro _ _ hL _))
 refine (i_trim _ z.natAbs _ _ hL.vw (hd.le leX)).mono ?_
 rintro e W2 ⟨v2, m2, rfl, hE, hM2, hV, h2⟩
 replace hL := hL.call hE (by assumption) hV; clear hE hV
 go_wp2_with (first | go_skip | refine tP ?_ | (refine tS ?_; clear hL; intro _ hL) | (refine tB ?_; clear hL; intro _ _ hL _))
 refine (i_Clone _ z.natAbs _ _ hL.vw h2 lz).mono ?_
 rintro e W3 ⟨v3, m3, rfl, hE, hM3, hV, h3⟩
 replace hL := hL.call hE (by assumption) hV; clear hE hV
 go_wp2_with (first | go_skip | refine tP ?_ | (refine tS ?_; clear hL; intro _ hL) | (refine tB ?_; clear hL; intro _ _ hL _))
 refine (i_wrap false _ z.natAbs _ _ hL.vw (h3.toA lz)).mono ?_
 rintro e W4 ⟨v4, m4, rfl, hE, hM4, hV, h4⟩
 replace hL := hL.call hE (by assumption) hV; clear hE hV
 obtain ⟨g4', A4', n4', c4', rfl, h4⟩ := h4.lit
 go_wp2_with (first | go_skip | refine tP ?_ | (refine tS ?_; clear hL; intro _ hL) | (refine tB ?_; clear hL; intro _ _ hL _))
 refine fin_agg hL Tryz.results159 rfl rfl loX AgC.h (by exact rfl) ?_
 rw [← sgn_false]; exact h4
end Go.Proofs.YtmhkmmmompediaaGreat

/- Contract of branch.Choose. -/
namespace Go.Proofs.YtmhkmmmompediaaGreat
open Go.RowKit

theorem zc_Fol : zc Tryz.prog 139 = some #[.int .i64 0, .int .i64 0, .bool false, .slice none 0 0, .bool false, .slice none 0 0] := by kernel_rfl
instance iAC10_1 : ZcC Tryz.prog 139 #[.int .i64 0, .int .i64 0, .bool false, .slice none 0 0, .bool false, .slice none 0 0] := ⟨zc_Fol⟩
theorem fd_Fol0 : fdS Tryz.prog 139 0 = some 0 := by kernel_rfl
instance iAC10_2 : FdC Tryz.prog 139 0 0 := ⟨fd_Fol0⟩
theorem fd_Fol1 : fdS Tryz.prog 139 1 = some 1 := by kernel_rfl
instance iAC10_3 : FdC Tryz.prog 139 1 1 := ⟨fd_Fol1⟩
theorem fd_Fol2 : fdS Tryz.prog 139 2 = some 2 := by kernel_rfl
instance iAC10_4 : FdC Tryz.prog 139 2 2 := ⟨fd_Fol2⟩
def partR (q : Rat) : Rat := q - (flr q : Rat)
def halfR : Rat := Rat.divInt 1 2
structure Pk where
 f : Int
 n : Int
 s : Bool
 b : Rat
theorem half_tw : Tw 6 halfR := ⟨6, by unfold halfR; rw [← Rat.divInt_mul_right (n := 1) (d := 2) (a := 6) (by decide)]; rfl, by decide⟩
theorem flr_le (q : Rat) : (flr q).natAbs ≤ q.num.natAbs := Int.natAbs_ediv_le_natAbs _ _
theorem Tw.num_le {B : Nat} {q : Rat} (h : Tw B q) : q.num.natAbs ≤ B := by
 obtain ⟨z, rfl, hz⟩ := h
 rw [(frac_pos (by decide)).1]
 exact Nat.le_trans (Int.natAbs_ediv_le_natAbs _ _) hz
theorem Tw.part {B : Nat} {q : Rat} (h : Tw B q) : Tw (B + B * 12) (partR q) := h.sub (Tw.int (Nat.le_trans (flr_le q) h.num_le))
theorem q_CompareC (a b : Value) (p q : Rat) (w m : World) (hV : Vw m w) (ha : FracC m a p) (hb : FracC m b q) (hs : Sm p.num p.den) (hs' : Sm q.num q.den) :
  Calls Tryz.prog 83 #[a, b] w (RetV w m fun _ r => r = .int .i64 (rs (p - q))) := by
 have h := q_Compare a b p.num p.den q.num q.den w m hV (ha.toS hs) (hb.toS hs') hs hs'
 rw [← rs_cmp, Rat.num_divInt_den, Rat.num_divInt_den] at h
 exact h
theorem FolL.at_ {m : World} {A : Option Addr} {n c : Nat} {ys : List PQ} (h : FolL m (.slice A n c) ys) {k : Nat} {y : PQ} (hk : ys[k]? = some y) :
  ∃ b off g A' n' c' f B p q, A = some ⟨b, off, none⟩ ∧ FracC m (.agg #[.bool g, .slice A' n' c', .bool f, .slice B p q]) y.2 ∧ m.rangeAt b (off + k * 6) [.int .i64 y.1.1, .int .i64 y.1.2, .bool g, .slice A' n' c', .bool f, .slice B p q] := by
 obtain ⟨b, off, v, e, ⟨f, rfl, e1, e2, hf⟩, _, hr⟩ := ListV.at_ h (by omega) hk
 refine ⟨b, off, _, _, _, _, _, _, _, _, e, hf, ?_⟩
 rw [← e1, ← e2]
 exact hr
end Go.Proofs.YtmhkmmmompediaaGreat

/- Contract of pairinglaw30.known. -/
namespace Go.Proofs.YtmhkmmmompediaaGreat
open Go.RowKit

theorem stB {P : Program} {ops : Array Oper} {Q : Exit → Act → World → Prop} {rest : List Oper} {a : Act} {W : World} {d : Option Tmp} {ty t : TypeId} {pos : String} {af : Array Edge} {gd : Option (Nat × Bool)} {p q : Nat × Operand}
  (h : Hid (wpList P ops Q (⟨d, .buildSlice t 2 #[p, q], ty, pos, af, gd⟩ :: rest) a W)) : wpList P ops Q (⟨d, .buildSlice t 2 #[p, q], ty, pos, af, gd⟩ :: rest) a W := h

end Go.Proofs.YtmhkmmmompediaaGreat

/- Contract of branch.Fits, and what the law BranchFits compares. -/
namespace Go.Proofs.YtmhkmmmompediaaGreat
open Go.RowKit

theorem ap_Pairs : apS Tryz.prog 91 = some (70, 2, 40, 2) := by kernel_rfl
instance iAC17_1 : ApC Tryz.prog 91 70 2 40 := ⟨ap_Pairs⟩
theorem zc_Pairing : zc Tryz.prog 70 = some #[.string ⟨#[]⟩, .slice none 0 0] := by kernel_rfl
instance iAC17_2 : ZcC Tryz.prog 70 #[.string ⟨#[]⟩, .slice none 0 0] := ⟨zc_Pairing⟩
abbrev Pg := ByteArray × List (List Task)
def PairR (m : World) (v : Value) (x : Pg) : Prop := ∃ s, v = .agg #[.string x.1, s] ∧ DutsL m s x.2
theorem PairR.mono (m m' : World) (v : Value) (x : Pg) (h : PairR m v x) (hb : Le m m') : PairR m' v x := by
 obtain ⟨s, e, h⟩ := h
 exact ⟨s, e, DutsL.le h hb⟩
abbrev PairL := ListV (α := Pg) 2 PairR
theorem PairL.le {m m' : World} {v : Value} {xs : List Pg} (h : PairL m v xs) (hb : Le m m') : PairL m' v xs := ListV.le PairR.mono h hb
theorem PairL.at_ {m : World} {A : Option Addr} {n c : Nat} {xs : List Pg} (h : PairL m (.slice A n c) xs) {k : Nat} {x : Pg} (hk : xs[k]? = some x) :
  ∃ b off D cd, A = some ⟨b, off, none⟩ ∧ DutsL m (.slice D x.2.length cd) x.2 ∧ m.rangeAt b (off + k * 2) [.string x.1, .slice D x.2.length cd] := by
 obtain ⟨b, off, v, e, ⟨s, rfl, hs⟩, _, hr⟩ := ListV.at_ h (by omega) hk
 obtain ⟨D, cd, rfl, _, hs⟩ := hs.lit
 exact ⟨b, off, D, cd, e, hs, hr⟩
theorem range_two {m : World} {b off : Nat} {x y : Value} {r : List Value} (h : m.rangeAt b off (x :: y :: r)) : m.rangeAt b off [x, y] := fun j v hv => h j v (by
 match j, hv with
 | 0, hv => exact hv
 | 1, hv => exact hv)
end Go.Proofs.YtmhkmmmompediaaGreat

/- The list of follow-ons in the reference's order: its form, and that it is the ascending list of the sums that are not 0. -/
namespace Go.Proofs.YtmhkmmmompediaaGreat
open Go.RowKit

theorem asc_pw : ∀ {xs : List Int}, AscP xs → xs.Pairwise (· < ·)
 | [], _ => List.Pairwise.nil
 | [x], _ => List.pairwise_singleton _ _
 | x :: y :: xs, h => by
  have ih := asc_pw (xs := y :: xs) fun j a b ha hb => h (j + 1) a b (by simpa using ha) (by simpa using hb)
  have hxy := h 0 x y rfl rfl
  refine List.pairwise_cons.2 ⟨fun z hz => ?_, ih⟩
  rcases List.mem_cons.1 hz with rfl | hz
  ·exact hxy
  ·exact Int.lt_trans hxy ((List.pairwise_cons.1 ih).1 z hz)
end Go.Proofs.YtmhkmmmompediaaGreat

/- Contract of pairingdata.Values. -/
namespace Go.Proofs.YtmhkmmmompediaaGreat
open Go.RowKit

def valT (a : Int) : Rat := if a % 29 = 28 then Rat.divInt (-1) 3 else Rat.divInt (a % 4) (2 + a / 4 % 2)
def valsF (l : List Int) (n : Nat) : List Rat := (List.range n).map fun i => valT (atF l i)
theorem valsF_snoc (l : List Int) (j : Nat) {a : Int} (h : Hid (atF l j = a)) : valsF l j ++ [valT a] = valsF l (j + 1) := by
 unfold valsF; rw [List.range_succ, List.map_append, ← h.out]; rfl
theorem valsF_len (l : List Int) (n : Nat) : (valsF l n).length = n := by simp [valsF]
theorem valT_tw (a : Int) : Tw 18 (valT a) := by
 unfold valT
 split
 ·exact ⟨-4, by rw [← Rat.divInt_mul_right (n := -1) (d := 3) (a := 4) (by decide)]; rfl, by decide⟩
 ·rcases (by omega : a / 4 % 2 = 0 ∨ a / 4 % 2 = 1) with e | e
  ·rw [e]
   exact ⟨a % 4 * 6, by rw [← Rat.divInt_mul_right (n := a % 4) (d := 2 + 0) (a := 6) (by decide)]; rfl, by omega⟩
  ·rw [e]
   exact ⟨a % 4 * 4, by rw [← Rat.divInt_mul_right (n := a % 4) (d := 2 + 1) (a := 4) (by decide)]; rfl, by omega⟩
theorem valsF_tw (l : List Int) (n : Nat) : ∀ v ∈ valsF l n, Tw 18 v := by
 intro v hv
 obtain ⟨i, -, rfl⟩ := List.mem_map.1 hv
 exact valT_tw _

theorem d_Values (A : Option Addr) (c : Nat) (l : List Int) (n : Nat) (z : Int) (w m : World) (hV : Vw m w) (h : Sl m A (l.map I64)) (hz : z = n) (hn : n ≤ 1000) :
  Calls Tryz.prog 36 #[.slice A l.length c, .int .i64 z] w (RetV w m fun m' r => FracL m' r (valsF l n)) := by
 subst hz
 have HL : Hid True := trivial
 generalize hN : l.length = N
 have HN := Lib.hid hN
 clear hN
 have hL := Loc.start hV
 clear hV
 go_enter Tryz.func36, Tryz.ntmps36
 go_wp2_with (first | go_skip | refine tP ?_ | (refine tS ?_; clear hL; intro _ hL) | (refine tB ?_; clear hL; intro _ _ hL _) | (refine tC ?_; clear hL; intro _ _ hL _ hBs))
 go_loopw [5, 6] (fun ov i wr => ∃ (j : Nat) (mm : World) (Rr : List Lo), j ≤ n ∧ i = .int .i64 j ∧ Loc w m wr mm Rr ∧ Hid (RowA 39 4 FracC mm ov j (valsF l j) Rr)) (fun _ i _ => n - (intOf i).toNat)
 case atStart => exact ⟨0, _, [], Nat.zero_le _, rfl, hL, RowA.nil⟩
 case round =>
  clear hL
  obtain ⟨j, mm, Rr, hj, rfl, hL, row⟩ := hrel
  have hM := hL.mext
  have hA := h.le hM.le
  obtain ⟨A7, c7, rfl, row1⟩ := row.out.lit
  have ROW := Lib.hid row1
  clear row row1 hM
  by_cases hlt : j < n
  ·obtain ⟨a, Ea, pa, pa'⟩ := atX l j (by omega)
   have hlt' : (j : Int) < (n : Int) := by omega
   have e1 := i64_and1 (a / 4)
   have VT := Lib.hid (valsF_snoc l j Ea)
   have F0 : Hid (Fit 200 ((a % 4 : Int) : Rat)) := (Tn.int (k := 1000) (by omega) (by decide)).fit (by decide)
   have F1 : Hid (Fit 200 ((2 + a / 4 % 2 : Int) : Rat)) := (Tn.int (k := 1000) (by omega) (by decide)).fit (by decide)
   have F2 : Hid (Fit 200 ((-1 : Int) : Rat)) := (Tn.int (k := 1000) (by decide) (by decide)).fit (by decide)
   have F3 : Hid (Fit 200 ((3 : Int) : Rat)) := (Tn.int (k := 1000) (by decide) (by decide)).fit (by decide)
   go_wp2_with (first | go_skip | refine tP ?_ | (refine tS ?_; clear hL; intro _ hL) | (refine tB ?_; clear hL; intro _ _ hL _) | (refine tC ?_; clear hL; intro _ _ hL _ hBs))
   refine (d_AtE _ _ _ l _ j a _ _ hL.vw (hA.le leX) HN HL Ea rfl (by omega)).mono ?_
   rintro e Wc1 ⟨_, mc1, rfl, hE, hMc1, hV, rfl⟩
   replace hL := hL.call hE (by assumption) hV; clear hE hV
   go_wp2_with (first | go_skip | refine tP ?_ | (refine tS ?_; clear hL; intro _ hL) | (refine tB ?_; clear hL; intro _ _ hL _) | (refine tC ?_; clear hL; intro _ _ hL _ hBs))
   refine (r_Int (a % 4) _ _ hL.vw (by omega) (by omega)).mono ?_
   rintro e Wc2 ⟨vc2, mc2, rfl, hE, hMc2, hV, hc2⟩
   replace hL := hL.call hE (by assumption) hV; clear hE hV
   obtain ⟨gc2', Ac2', nc2', cc2', hc2', Bc2', kc2', dc2', rfl, hc2⟩ := hc2.lit
   go_wp2_with (first | go_skip | refine tP ?_ | (refine tS ?_; clear hL; intro _ hL) | (refine tB ?_; clear hL; intro _ _ hL _) | (refine tC ?_; clear hL; intro _ _ hL _ hBs))
   refine (r_Int (2 + a / 4 % 2) _ _ hL.vw (by omega) (by omega)).mono ?_
   rintro e Wc3 ⟨vc3, mc3, rfl, hE, hMc3, hV, hc3⟩
   replace hL := hL.call hE (by assumption) hV; clear hE hV
   obtain ⟨gc3', Ac3', nc3', cc3', hc3', Bc3', kc3', dc3', rfl, hc3⟩ := hc3.lit
   go_wp2_with (first | go_skip | refine tP ?_ | (refine tS ?_; clear hL; intro _ hL) | (refine tB ?_; clear hL; intro _ _ hL _) | (refine tC ?_; clear hL; intro _ _ hL _ hBs))
   refine (r_DivC _ _ _ _ _ _ hL.vw (hc2.le leX) hc3 F0.out F1.out).mono ?_
   rintro e Wc4 ⟨vc4, mc4, rfl, hE, hMc4, hV, hc4⟩
   replace hL := hL.call hE (by assumption) hV; clear hE hV
   obtain ⟨gc4', Ac4', nc4', cc4', hc4', Bc4', kc4', dc4', rfl, hc4⟩ := hc4.lit
   rw [div_mix] at hc4
   clear hc2 hc3
   by_cases h29 : a % 29 = 28
   ·have b1 := bt h29
    have HW : Hid (valT a = Rat.divInt (-1) 3) := by show _ = _; unfold valT; rw [if_pos h29]
    clear h29 hc4
    go_wp2_with (first | go_skip | refine tP ?_ | (refine tS ?_; clear hL; intro _ hL) | (refine tB ?_; clear hL; intro _ _ hL _) | (refine tC ?_; clear hL; intro _ _ hL _ hBs))
    refine (r_Int (-1) _ _ hL.vw (by decide) (by decide)).mono ?_
    rintro e Wc5 ⟨vc5, mc5, rfl, hE, hMc5, hV, hc5⟩
    replace hL := hL.call hE (by assumption) hV; clear hE hV
    obtain ⟨gc5', Ac5', nc5', cc5', hc5', Bc5', kc5', dc5', rfl, hc5⟩ := hc5.lit
    go_wp2_with (first | go_skip | refine tP ?_ | (refine tS ?_; clear hL; intro _ hL) | (refine tB ?_; clear hL; intro _ _ hL _) | (refine tC ?_; clear hL; intro _ _ hL _ hBs))
    refine (r_Int 3 _ _ hL.vw (by decide) (by decide)).mono ?_
    rintro e Wc6 ⟨vc6, mc6, rfl, hE, hMc6, hV, hc6⟩
    replace hL := hL.call hE (by assumption) hV; clear hE hV
    obtain ⟨gc6', Ac6', nc6', cc6', hc6', Bc6', kc6', dc6', rfl, hc6⟩ := hc6.lit
    go_wp2_with (first | go_skip | refine tP ?_ | (refine tS ?_; clear hL; intro _ hL) | (refine tB ?_; clear hL; intro _ _ hL _) | (refine tC ?_; clear hL; intro _ _ hL _ hBs))
    refine (r_DivC _ _ _ _ _ _ hL.vw (hc5.le leX) hc6 F2.out F3.out).mono ?_
    rintro e Wc4 ⟨vc4, mc4, rfl, hE, hMc4, hV, hc4⟩
    replace hL := hL.call hE (by assumption) hV; clear hE hV
    obtain ⟨gc4', Ac4', nc4', cc4', hc4', Bc4', kc4', dc4', rfl, hc4⟩ := hc4.lit
    rw [div_mix] at hc4
    have HC4 : Hid (FracC mc4 (.agg #[.bool gc4', .slice Ac4' nc4' cc4', .bool hc4', .slice Bc4' kc4' dc4']) (valT a)) := by rw [HW.out]; exact hc4
    clear hc5 hc6 hc4
    go_wp2_with (first | go_skip | refine tP ?_ | (refine tS ?_; clear hL; intro _ hL) | (refine tB ?_; clear hL; intro _ _ hL _) | (refine tC ?_; clear hL; intro _ _ hL _ hBs))
    refine goA ?_
    obtain ⟨vs7, r7, z7, y7, l7⟩ := ROW.out
    refine wl_append (A := [_]) hL r7 (wanted_none rfl) rfl ap_Fracs (by omega) rfl rfl (news := [.bool gc4', .slice Ac4' nc4' cc4', .bool hc4', .slice Bc4' kc4' dc4']) rfl ((Blk.sl hBs (n := 4) rfl).le hL.vw.le) rfl (by omega) (by omega) ?_
    clear hL
    intro v1 W5 m5 R5 hL r8 e8
    obtain ⟨A9, c9, rfl, -⟩ := r8.lit
    simp only [List.cons_append, List.nil_append] at hL
    have rd := RowA.snoc (R := FracC) (m := m5) (x := valT a) r8 z7 (y7.mono fun v x hv => hv.le (leX : Le mm m5)) l7 rfl (HC4.out.le leX)
    rw [VT.out] at rd
    have RD := Lib.hid rd
    clear rd r8 r7 z7 y7 l7
    simp only [Act.put, zq1, zq2, zq3]
    go_wp2_with (first | go_skip | refine tP ?_ | (refine tS ?_; clear hL; intro _ hL) | (refine tB ?_; clear hL; intro _ _ hL _) | (refine tC ?_; clear hL; intro _ _ hL _ hBs))
    go_roundw
    case rel => exact ⟨j + 1, m5, R5, by omega, by go_num, hL.tail, RD.out⟩
    case measure => simp [intOf] <;> omega
   ·have b1 := bf h29
    have HW : Hid (valT a = Rat.divInt (a % 4) (2 + a / 4 % 2)) := by show _ = _; unfold valT; rw [if_neg h29]
    have HC4 : Hid (FracC mc4 (.agg #[.bool gc4', .slice Ac4' nc4' cc4', .bool hc4', .slice Bc4' kc4' dc4']) (valT a)) := by rw [HW.out]; exact hc4
    clear h29 hc4
    go_wp2_with (first | go_skip | refine tP ?_ | (refine tS ?_; clear hL; intro _ hL) | (refine tB ?_; clear hL; intro _ _ hL _) | (refine tC ?_; clear hL; intro _ _ hL _ hBs))
    refine goA ?_
    obtain ⟨vs7, r7, z7, y7, l7⟩ := ROW.out
    refine wl_append (A := [_]) hL r7 (wanted_none rfl) rfl ap_Fracs (by omega) rfl rfl (news := [.bool gc4', .slice Ac4' nc4' cc4', .bool hc4', .slice Bc4' kc4' dc4']) rfl ((Blk.sl hBs (n := 4) rfl).le hL.vw.le) rfl (by omega) (by omega) ?_
    clear hL
    intro v1 W5 m5 R5 hL r8 e8
    obtain ⟨A9, c9, rfl, -⟩ := r8.lit
    simp only [List.cons_append, List.nil_append] at hL
    have rd := RowA.snoc (R := FracC) (m := m5) (x := valT a) r8 z7 (y7.mono fun v x hv => hv.le (leX : Le mm m5)) l7 rfl (HC4.out.le leX)
    rw [VT.out] at rd
    have RD := Lib.hid rd
    clear rd r8 r7 z7 y7 l7
    simp only [Act.put, zq1, zq2, zq3]
    go_wp2_with (first | go_skip | refine tP ?_ | (refine tS ?_; clear hL; intro _ hL) | (refine tB ?_; clear hL; intro _ _ hL _) | (refine tC ?_; clear hL; intro _ _ hL _ hBs))
    go_roundw
    case rel => exact ⟨j + 1, m5, R5, by omega, by go_num, hL.tail, RD.out⟩
    case measure => simp [intOf] <;> omega
  ·have hjn : j = n := by omega
   subst hjn
   go_wp2_with (first | go_skip | refine tP ?_ | (refine tS ?_; clear hL; intro _ hL) | (refine tB ?_; clear hL; intro _ _ hL _) | (refine tC ?_; clear hL; intro _ _ hL _ hBs))
   obtain ⟨m5, hL5, hle5, hfl, -⟩ := RowA.show (A := []) FracC.mono hL ROW.out
   go_ret
   exact RetV.mk hL5 hfl
end Go.Proofs.YtmhkmmmompediaaGreat

/- Coefficients of cuts: contracts of enumerate.coefficient, enumerate.Coefficient and pairingref27.Coefficient. -/
namespace Go.Proofs.YtmhkmmmompediaaGreat
open Go.RowKit

def coefN (rs l : List Int) : Nat := (l.filter fun f => decide (f ∈ rs)).length
def coefF (c : Cut) (l : List Int) : Int := (coefN c.1 l : Int) / c.2
theorem coefN_step {rs l : List Int} {j : Nat} {f : Int} (h : l[j]? = some f) : coefN rs (l.take (j + 1)) = if f ∈ rs then coefN rs (l.take j) + 1 else coefN rs (l.take j) := by
 unfold coefN
 rw [← take_snoc h, List.filter_append, List.length_append]
 by_cases hf : f ∈ rs
 ·rw [if_pos hf]; simp [hf]
 ·rw [if_neg hf]; simp [hf]
theorem coefN_end {rs l : List Int} {j : Nat} (h : l.length ≤ j) : coefN rs (l.take j) = coefN rs l := by rw [List.take_of_length_le h]
theorem coefN_le (rs l : List Int) : coefN rs l ≤ l.length := List.length_filter_le _ _
theorem quoE {n : Nat} {d : Int} (hd : 1 ≤ d) (hn : n ≤ 1000000) : wrap64 ((n : Int).tdiv d) = (n : Int) / d ∧ wrap64 ((n : Int) / d) = (n : Int) / d ∧ (n : Int).tdiv d = (n : Int) / d := by
 have e : (n : Int).tdiv d = (n : Int) / d := Int.tdiv_eq_ediv_of_nonneg (by omega)
 have h1 : ((n : Int) / d).natAbs ≤ n := by have := Int.natAbs_ediv_le_natAbs (n : Int) d; simpa using this
 have h2 : wrap64 ((n : Int) / d) = (n : Int) / d := by unfold wrap64; omega
 exact ⟨by rw [e]; exact h2, h2, e⟩
theorem run_makeMapH (n : Int) (w : World) : (Instr.makeMap 149 (some (.int .i64 n))).run Tryz.prog w = .ok (.map (some w.heap.size)) (w.alloc (.map #[] 0)) := by
 simp [Instr.makeMap, Sem.run_bind, run_underlying Tryz.underlying149 w, asInt, asIntOf, run_newObj_alloc, Result.andThen]

theorem e_coefficient (xv v : Value) (x : Cut) (l : List Int) (w m : World) (hV : Vw m w) (hx : CutR m xv x) (h : IntL m v l) (h1 : x.1.length ≤ 1000000) (h2 : l.length ≤ 1000000) (hd : 1 ≤ x.2)
  (hw1 : ∀ r ∈ x.1, (Lit.int .i64 r).wf = true) (hw2 : ∀ f ∈ l, (Lit.int .i64 f).wf = true) :
  Calls Tryz.prog 190 #[xv, v] w (RetV w m fun _ r => r = .int .i64 (coefF x l)) := by
 obtain ⟨rs, d⟩ := x
 obtain ⟨s, rfl, hs, hsl⟩ := hx
 simp only at hs h1 hd hw1
 obtain ⟨A, ca, rfl, hca, hs⟩ := hs.lit
 obtain ⟨B, cb, rfl, hcb, h⟩ := h.lit
 have HS := Lib.hid hs
 have HB := Lib.hid h
 have HW1 := Lib.hid hw1
 have HW2 := Lib.hid hw2
 have HNB : Hid (coefN rs l ≤ 1000000) := Nat.le_trans (coefN_le rs l) h2
 have hL := Loc.start hV
 clear hV hs h hsl hw1 hw2
 simp only
 generalize hn : rs.length = n at *
 have HN := Lib.hid hn
 clear hn
 generalize hk : l.length = k at *
 have HK := Lib.hid hk
 clear hk
 have hmm := run_makeMapH
 go_enter Tryz.func190, Tryz.ntmps190
 go_upto_region 0 with (fail)
 refine wp_region_lit ?_
 refine t_box hL rfl rfl ?_; clear hL; intro Wh2 mh2 hL eh2; simp only [Act.put, zq1, zq2, zq3]
 go_upto_region 2 with ((first | go_skip | refine tP ?_ | (refine tB ?_; clear hL; intro _ _ hL _)))
 clear hmm
 have hlow : w.heap.size ≤ Wh2.heap.size := hL.ext.size
 have hsz := hL.vw.size
 have hL9 := hL.allocM (.map #[] 0)
 clear hL
 have hL := hL9
 clear hL9
 refine wp_region_lit ?_
 go_wp2_with (first | go_skip | refine tP ?_ | (refine tB ?_; clear hL; intro _ _ hL _))
 go_loopw [18] (fun i wr => ∃ (j : Nat) (mm : World), j ≤ n ∧ i = .int .i64 j ∧ Loc w m wr mm [(w.heap.size, 34, #[.slice A n ca, .int .i64 d])] ∧ Hid (BSet wr Wh2.heap.size (rs.take j))) (fun i _ => n - (intOf i).toNat)
 case atStart => exact ⟨0, _, Nat.zero_le _, rfl, hL, BSet.made _⟩
 case round =>
  clear hL
  obtain ⟨j, mm, hj, rfl, hL, HBS⟩ := hrel
  have hM := hL.mext
  by_cases hlt : j < n
  ·obtain ⟨f, hf⟩ := at_some HN hlt
   obtain ⟨b3, o3, rfl, hc3⟩ := IntL.at_ HS.out hf
   have HT : Hid (rs.take j ++ [f] = rs.take (j + 1)) := take_snoc hf
   have HLN : Hid ((rs.take j).length ≤ 1000000) := by show _ ≤ _; simp; omega
   have hlt' : (j : Int) < (n : Int) := by omega
   obtain ⟨W9, hup, hb9, hg9⟩ := HBS.out.up HLN.out (HW1.out f (List.mem_of_getElem? hf))
   have HB9 := Lib.hid hb9
   have HG9 := Lib.hid hg9
   have HNC := Lib.hid HBS.out.notCells
   clear hf hb9 hg9
   go_wp2_with (first | go_skip | refine tP ?_ | (refine tB ?_; clear hL; intro _ _ hL _))
   go_roundw
   case rel => exact ⟨j + 1, _, by omega, by go_num, hL.mapTurn HG9.out hlow HNC.out, by rw [← HT.out]; exact HB9.out⟩
   case measure => simp [intOf] <;> omega
  ·have HBR : Hid (BSet wr Wh2.heap.size rs) := by
    show BSet _ _ _
    have := HBS.out
    rwa [List.take_of_length_le (by rw [HN.out]; omega)] at this
   have h9 : (n : Int) ≤ (j : Int) := by omega
   clear HBS
   go_wp2_with (first | go_skip | refine tP ?_ | (refine tB ?_; clear hL; intro _ _ hL _))
   clear h9 hlt hj
   go_loopw [8, 27] (fun nn i w2 => ∃ (j : Nat) (mm : World), j ≤ k ∧ i = .int .i64 j ∧ nn = .int .i64 (coefN rs (l.take j) : Nat) ∧ Loc w m w2 mm [(w.heap.size, 34, #[.slice A n ca, .int .i64 d])] ∧ Hid (BSet w2 Wh2.heap.size rs)) (fun _ i _ => k - (intOf i).toNat)
   case atStart => exact ⟨0, _, Nat.zero_le _, rfl, rfl, hL, HBR.out⟩
   case round =>
    clear hL hM HBR
    obtain ⟨j, mm, hj, rfl, rfl, hL, HBS⟩ := hrel
    have hM := hL.mext
    by_cases hlt : j < k
    ·obtain ⟨f, hf⟩ := at_some HK hlt
     obtain ⟨b4, o4, rfl, hc4⟩ := IntL.at_ HB.out hf
     have HST := Lib.hid (coefN_step (rs := rs) hf)
     have hlt' : (j : Int) < (k : Int) := by omega
     have hlk := HBS.out.look (HW2.out f (List.mem_of_getElem? hf))
     have HCL : coefN rs (l.take j) ≤ 1000000 := by
      have h1 := coefN_le rs (l.take j)
      have h2 : (l.take j).length ≤ j := by simp; omega
      omega
     clear hf
     generalize hcn : coefN rs (l.take j) = cn at *
     have HCN := Lib.hid hcn
     clear hcn
     by_cases hin : f ∈ rs
     ·rw [decide_eq_true hin] at hlk
      rw [if_pos hin] at HST
      clear hin
      go_wp2_with (first | go_skip | refine tP ?_ | (refine tB ?_; clear hL; intro _ _ hL _))
      go_roundw
      case rel => exact ⟨j + 1, _, by omega, by go_num, by rw [HST.out]; go_num, hL, HBS.out⟩
      case measure => simp [intOf] <;> omega
     ·rw [decide_eq_false hin] at hlk
      rw [if_neg hin] at HST
      clear hin
      go_wp2_with (first | go_skip | refine tP ?_ | (refine tB ?_; clear hL; intro _ _ hL _))
      go_roundw
      case rel => exact ⟨j + 1, _, by omega, by go_num, by rw [HST.out], hL, HBS.out⟩
      case measure => simp [intOf] <;> omega
    ·have HE : Hid (coefN rs (l.take j) = coefN rs l) := coefN_end (by rw [HK.out]; omega)
     rw [HE.out]
     have h9 : (k : Int) ≤ (j : Int) := by omega
     have HQ := Lib.hid (quoE hd HNB.out)
     have hd0 : d ≠ 0 := by omega
     have HCF : Hid (coefF (rs, d) l = ((coefN rs l : Nat) : Int) / d) := rfl
     generalize coefN rs l = cn at *
     go_wp2_with (first | go_skip | refine tP ?_ | (refine tB ?_; clear hL; intro _ _ hL _))
     go_ret
     exact RetV.mk hL (by rw [HCF.out]; exact congrArg (Value.int .i64) HQ.out.2.1)

theorem r_Coefficient (xv v : Value) (x : Cut) (l : List Int) (w m : World) (hV : Vw m w) (hx : CutR m xv x) (h : IntL m v l) (h1 : x.1.length ≤ 1000000) (h2 : l.length ≤ 1000000) (hd : 1 ≤ x.2) :
  Calls Tryz.prog 46 #[xv, v] w (RetV w m fun _ r => r = .int .i64 (coefF x l)) := by
 obtain ⟨rs, d⟩ := x
 obtain ⟨s, rfl, hs, hsl⟩ := hx
 simp only at hs h1 hd
 obtain ⟨A, ca, rfl, hca, hs⟩ := hs.lit
 obtain ⟨B, cb, rfl, hcb, h⟩ := h.lit
 have HS := Lib.hid hs
 have HB := Lib.hid h
 have HNB : Hid (coefN rs l ≤ 1000000) := Nat.le_trans (coefN_le rs l) h2
 have H1 := Lib.hid h1
 have hL := Loc.start hV
 clear hV hs h hsl
 simp only
 generalize hn : rs.length = n at *
 generalize hk : l.length = k at *
 have HK := Lib.hid hk
 clear hk
 have HN := Lib.hid hn
 clear hn
 go_enter Tryz.func46, Tryz.ntmps46
 go_upto_region 0 with (fail)
 refine wp_region_lit ?_
 refine t_box hL rfl rfl ?_; clear hL; intro Wh2 mh2 hL eh2; simp only [Act.put, zq1, zq2, zq3]
 go_wp2_with (first | go_skip | refine tP ?_ | (refine tB ?_; clear hL; intro _ _ hL _))
 go_loopw [5, 6] (fun nn i w2 => ∃ (j : Nat) (mm : World), j ≤ k ∧ i = .int .i64 j ∧ nn = .int .i64 (coefN rs (l.take j) : Nat) ∧ Loc w m w2 mm [(w.heap.size, 34, #[.slice A n ca, .int .i64 d])]) (fun _ i _ => k - (intOf i).toNat)
 case atStart => exact ⟨0, _, Nat.zero_le _, rfl, rfl, hL⟩
 case round =>
  clear hL
  obtain ⟨j, mm, hj, rfl, rfl, hL⟩ := hrel
  have hM := hL.mext
  by_cases hlt : j < k
  ·obtain ⟨f, hf⟩ := at_some HK hlt
   obtain ⟨b4, o4, rfl, hc4⟩ := IntL.at_ HB.out hf
   have HST := Lib.hid (coefN_step (rs := rs) hf)
   have hlt' : (j : Int) < (k : Int) := by omega
   have HCL : coefN rs (l.take j) ≤ 1000000 := by
    have h1 := coefN_le rs (l.take j)
    have h2 : (l.take j).length ≤ j := by simp; omega
    omega
   clear hf
   generalize hcn : coefN rs (l.take j) = cn at *
   have HCN := Lib.hid hcn
   clear hcn
   by_cases hin : f ∈ rs
   ·rw [if_pos hin] at HST
    have HIN : Hid (decide (f ∈ rs) = true) := decide_eq_true hin
    clear hin
    go_upto_region 5 with ((first | go_skip | refine tP ?_ | (refine tB ?_; clear hL; intro _ _ hL _)))
    (try simp only [eq_self] at *)
    refine wp_region_by2 7 [false, false, false, false, false, false, false] [false, false, false, false, false, false, false] [(fun v _ _ => v = ?c5_0a), (fun v _ _ => v = ?c5_1a), (fun v _ _ => v = ?c5_2a), (fun v _ _ => v = ?c5_3a), (fun v _ _ => v = ?c5_4a), (fun v _ _ => v = ?c5_5a), Is (.bool (decide (f ∈ rs)))] hL.vw mixed [13, 14, 15, 16, 17, 18, 19] _ (by kernel_rfl) (fun vs => by simp only [lay, Act.put, zq1, zq2, zq3]; rfl) (by kernel_rfl) (by decide) (by decide) ?s5a ?l5a ?r5a
    case s5a =>
     refine ⟨?_, ?_, ?_, ?_, ?_, ?_, ?_, trivial⟩
     ·intro vs W1 m1 hE hM hV hD; clear hD
      exact sFe
     ·intro vs W1 m1 hE hM hV hD; obtain ⟨⟨_, _, -, -, f13⟩, -⟩ := hD
      rw [(f13 : vs 13 = _)]; clear f13; exact sLe
     ·intro vs W1 m1 hE hM hV hD; clear hD
      exact sPw
     ·intro vs W1 m1 hE hM hV hD; clear hD
      exact sPw
     ·intro vs W1 m1 hE hM hV hD; obtain ⟨⟨_, _, -, -, f15⟩, ⟨_, _, -, -, f16⟩, -⟩ := hD
      rw [(f15 : vs 15 = _), (f16 : vs 16 = _)]; clear f15 f16; exact sIy
     ·intro vs W1 m1 hE hM hV hD; obtain ⟨⟨_, _, -, -, f17⟩, -⟩ := hD
      rw [(f17 : vs 17 = _)]; clear f17; exact sLe
     ·intro vs W1 m1 hE hM hV hD; obtain ⟨⟨_, _, -, -, f14⟩, ⟨_, _, -, -, f18⟩, -⟩ := hD
      rw [(f14 : vs 14 = _), (f18 : vs 18 = _)]
      clear f14 f18
      go_wp2_with fail
      refine (r_Has _ rs f _ _ hV (IntL.le HS.out leX) (by rw [HN.out]; exact H1.out)).mono ?_
      rintro e W2 ⟨v, m2, rfl, hE2, hM2, hV2, h⟩
      go_wp2_with fail
      refine One2.call hE2 hM2 hV2 ?_; first | exact h | exact rfl
    case l5a =>
     refine ⟨nF, nF, nF, nF, nF, nF, nF, trivial⟩
    intro vs W1 m1 hE hM hV hF hD
    clear hD
    obtain ⟨⟨_, _, -, -, f13⟩, ⟨_, _, -, -, f14⟩, ⟨_, _, -, -, f15⟩, ⟨_, _, -, -, f16⟩, ⟨_, _, -, -, f17⟩, ⟨_, _, -, -, f18⟩, ⟨_, _, -, -, f19⟩, -⟩ := hF
    replace hL := hL.call hE hM hV
    have f13 : vs 13 = _ := f13
    generalize vs 13 = x13 at f13 ⊢
    subst x13
    have f14 : vs 14 = _ := f14
    generalize vs 14 = x14 at f14 ⊢
    subst x14
    have f15 : vs 15 = _ := f15
    generalize vs 15 = x15 at f15 ⊢
    subst x15
    have f16 : vs 16 = _ := f16
    generalize vs 16 = x16 at f16 ⊢
    subst x16
    have f17 : vs 17 = _ := f17
    generalize vs 17 = x17 at f17 ⊢
    subst x17
    have f18 : vs 18 = _ := f18
    generalize vs 18 = x18 at f18 ⊢
    subst x18
    have f19 : vs 19 = _ := f19
    generalize vs 19 = x19 at f19 ⊢
    subst x19
    clear hE hV
    simp only [List.drop_succ_cons, List.drop_zero]
    go_wp2_with (first | go_skip | refine tP ?_ | (refine tB ?_; clear hL; intro _ _ hL _))
    refine QN.mk ?_
    rw [HIN.out]
    go_wp2_with (first | go_skip | refine tP ?_ | (refine tB ?_; clear hL; intro _ _ hL _))
    go_roundw
    case rel => exact ⟨j + 1, _, by omega, by go_num, by rw [HST.out]; go_num, hL⟩
    case measure => simp [intOf] <;> omega
   ·rw [if_neg hin] at HST
    have HIN : Hid (decide (f ∈ rs) = false) := decide_eq_false hin
    clear hin
    go_upto_region 5 with ((first | go_skip | refine tP ?_ | (refine tB ?_; clear hL; intro _ _ hL _)))
    (try simp only [eq_self] at *)
    refine wp_region_by2 7 [false, false, false, false, false, false, false] [false, false, false, false, false, false, false] [(fun v _ _ => v = ?c5_0b), (fun v _ _ => v = ?c5_1b), (fun v _ _ => v = ?c5_2b), (fun v _ _ => v = ?c5_3b), (fun v _ _ => v = ?c5_4b), (fun v _ _ => v = ?c5_5b), Is (.bool (decide (f ∈ rs)))] hL.vw mixed [13, 14, 15, 16, 17, 18, 19] _ (by kernel_rfl) (fun vs => by simp only [lay, Act.put, zq1, zq2, zq3]; rfl) (by kernel_rfl) (by decide) (by decide) ?s5b ?l5b ?r5b
    case s5b =>
     refine ⟨?_, ?_, ?_, ?_, ?_, ?_, ?_, trivial⟩
     ·intro vs W1 m1 hE hM hV hD; clear hD
      exact sFe
     ·intro vs W1 m1 hE hM hV hD; obtain ⟨⟨_, _, -, -, f13⟩, -⟩ := hD
      rw [(f13 : vs 13 = _)]; clear f13; exact sLe
     ·intro vs W1 m1 hE hM hV hD; clear hD
      exact sPw
     ·intro vs W1 m1 hE hM hV hD; clear hD
      exact sPw
     ·intro vs W1 m1 hE hM hV hD; obtain ⟨⟨_, _, -, -, f15⟩, ⟨_, _, -, -, f16⟩, -⟩ := hD
      rw [(f15 : vs 15 = _), (f16 : vs 16 = _)]; clear f15 f16; exact sIy
     ·intro vs W1 m1 hE hM hV hD; obtain ⟨⟨_, _, -, -, f17⟩, -⟩ := hD
      rw [(f17 : vs 17 = _)]; clear f17; exact sLe
     ·intro vs W1 m1 hE hM hV hD; obtain ⟨⟨_, _, -, -, f14⟩, ⟨_, _, -, -, f18⟩, -⟩ := hD
      rw [(f14 : vs 14 = _), (f18 : vs 18 = _)]
      clear f14 f18
      go_wp2_with fail
      refine (r_Has _ rs f _ _ hV (IntL.le HS.out leX) (by rw [HN.out]; exact H1.out)).mono ?_
      rintro e W2 ⟨v, m2, rfl, hE2, hM2, hV2, h⟩
      go_wp2_with fail
      refine One2.call hE2 hM2 hV2 ?_; first | exact h | exact rfl
    case l5b =>
     refine ⟨nF, nF, nF, nF, nF, nF, nF, trivial⟩
    intro vs W1 m1 hE hM hV hF hD
    clear hD
    obtain ⟨⟨_, _, -, -, f13⟩, ⟨_, _, -, -, f14⟩, ⟨_, _, -, -, f15⟩, ⟨_, _, -, -, f16⟩, ⟨_, _, -, -, f17⟩, ⟨_, _, -, -, f18⟩, ⟨_, _, -, -, f19⟩, -⟩ := hF
    replace hL := hL.call hE hM hV
    have f13 : vs 13 = _ := f13
    generalize vs 13 = x13 at f13 ⊢
    subst x13
    have f14 : vs 14 = _ := f14
    generalize vs 14 = x14 at f14 ⊢
    subst x14
    have f15 : vs 15 = _ := f15
    generalize vs 15 = x15 at f15 ⊢
    subst x15
    have f16 : vs 16 = _ := f16
    generalize vs 16 = x16 at f16 ⊢
    subst x16
    have f17 : vs 17 = _ := f17
    generalize vs 17 = x17 at f17 ⊢
    subst x17
    have f18 : vs 18 = _ := f18
    generalize vs 18 = x18 at f18 ⊢
    subst x18
    have f19 : vs 19 = _ := f19
    generalize vs 19 = x19 at f19 ⊢
    subst x19
    clear hE hV
    simp only [List.drop_succ_cons, List.drop_zero]
    go_wp2_with (first | go_skip | refine tP ?_ | (refine tB ?_; clear hL; intro _ _ hL _))
    refine QN.mk ?_
    rw [HIN.out]
    go_wp2_with (first | go_skip | refine tP ?_ | (refine tB ?_; clear hL; intro _ _ hL _))
    go_roundw
    case rel => exact ⟨j + 1, _, by omega, by go_num, by rw [HST.out], hL⟩
    case measure => simp [intOf] <;> omega
  ·have HE : Hid (coefN rs (l.take j) = coefN rs l) := coefN_end (by rw [HK.out]; omega)
   rw [HE.out]
   have h9 : (k : Int) ≤ (j : Int) := by omega
   have HQ := Lib.hid (quoE hd HNB.out)
   have hd0 : d ≠ 0 := by omega
   have HCF : Hid (coefF (rs, d) l = ((coefN rs l : Nat) : Int) / d) := rfl
   generalize coefN rs l = cn at *
   go_wp2_with (first | go_skip | refine tP ?_ | (refine tB ?_; clear hL; intro _ _ hL _))
   go_ret
   exact RetV.mk hL (by rw [HCF.out]; exact congrArg (Value.int .i64) HQ.out.2.1)

theorem e_Coefficient (xv v : Value) (x : Cut) (s : ByteArray) (ds : List (List Task)) (w m : World) (hV : Vw m w) (hx : CutR m xv x) (h : DutsL m v ds) (h1 : x.1.length ≤ 1000000) (h2 : ds.length ≤ 100) (h3 : ∀ d ∈ ds, d.length ≤ 100) (h4 : (opF ds).length ≤ 1000000) (hd : 2 ≤ x.2)
  (hw1 : ∀ r ∈ x.1, (Lit.int .i64 r).wf = true) (hw2 : ∀ f ∈ opF ds, (Lit.int .i64 f).wf = true) :
  Calls Tryz.prog 155 #[xv, .agg #[.string s, v]] w (RetV w m fun _ r => r = .tuple #[.int .i64 (coefF x (opF ds)), .int .i64 0]) := by
 have HX := Lib.hid hx
 obtain ⟨rs, d⟩ := x
 obtain ⟨s', rfl, hs, hsl⟩ := hx
 simp only at hs h1 hd hw1
 obtain ⟨A, ca, rfl, hca, hs⟩ := hs.lit
 obtain ⟨D, cd, rfl, hcd, h⟩ := h.lit
 have HD := Lib.hid h
 have H2 := Lib.hid h2
 have H3 := Lib.hid h3
 have H4 := Lib.hid h4
 have HK : Hid (∀ v w m', Vw m' w → Le m m' → IntL m' v (opF ds) → Calls Tryz.prog 190 #[.agg #[.slice A rs.length ca, .int .i64 d], v] w (RetV w m' fun _ r => r = .int .i64 (coefF (rs, d) (opF ds)))) := by
  show ∀ v w m', _
  exact fun v w m' hV hle hl => e_coefficient _ v (rs, d) (opF ds) w m' hV (HX.out.le hle) hl h1 H4.out (by show 1 ≤ d; omega) hw1 hw2
 have hL := Loc.start hV
 clear hV hs h hsl h1 h2 h3 h4 hw1 hw2 HX
 generalize coefF (rs, d) (opF ds) = z at *
 generalize rs.length = n at *
 generalize hnd : ds.length = nd at *
 have HND := Lib.hid hnd
 clear hnd
 go_enter Tryz.func155, Tryz.ntmps155
 go_upto_region 0 with (fail)
 refine wp_region_lit ?_
 refine t_box hL rfl rfl ?_; clear hL; intro Wh2 mh2 hL eh2; simp only [Act.put, zq1, zq2, zq3]
 refine t_box hL rfl rfl ?_; clear hL; intro Wh3 mh3 hL eh3; simp only [Act.put, zq1, zq2, zq3]
 go_upto_region 3 with ((first | go_skip | refine tP ?_ | (refine tB ?_; clear hL; intro _ _ hL _)))
 refine wp_region_by2 6 [false, false, false, false, false, false] [false, false, false, false, false, false] [(fun v _ _ => v = ?c3_0), (fun v _ _ => v = ?c3_1), Of (fun um v => IntL um v (opF ds)), Is (.int .i64 z), (fun v _ _ => v = ?c3_4), (fun v _ _ => v = ?c3_5)] hL.vw mixed [9, 10, 11, 12, 4, 5] _ (by kernel_rfl) (fun vs => by simp only [lay, Act.put, zq1, zq2, zq3]; rfl) (by kernel_rfl) (by decide) (by decide) ?s3 ?l3 ?r3
 case s3 =>
  refine ⟨?_, ?_, ?_, ?_, ?_, ?_, trivial⟩
  ·intro vs W1 m1 hE hM hV hD; clear hD
   exact sLe
  ·intro vs W1 m1 hE hM hV hD; clear hD
   exact sLe
  ·intro vs W1 m1 hE hM hV hD; obtain ⟨⟨_, _, -, -, f10⟩, -⟩ := hD
   rw [(f10 : vs 10 = _)]
   clear f10
   go_wp2_with fail
   refine (e_Operated s _ ds _ _ hV (DutsL.le HD.out leX) (by rw [HND.out]; exact H2.out) H3.out).mono ?_
   rintro e W2 ⟨v, m2, rfl, hE2, hM2, hV2, h⟩
   go_wp2_with fail
   refine One2.call hE2 hM2 hV2 ?_; first | exact h | exact rfl
  ·intro vs W1 m1 hE hM hV hD; obtain ⟨⟨_, _, -, -, f9⟩, ⟨_, _, -, i11, f11⟩, -, -⟩ := hD
   rw [(f9 : vs 9 = _)]
   clear f9
   have f11 : IntL _ (vs 11) (opF ds) := f11
   replace f11 := f11.le i11.le
   clear i11
   go_wp2_with fail
   refine (HK.out _ _ _ hV leX f11).mono ?_
   rintro e W2 ⟨v, m2, rfl, hE2, hM2, hV2, h⟩
   go_wp2_with fail
   refine One2.call hE2 hM2 hV2 ?_; first | exact h | exact rfl
  ·intro vs W1 m1 hE hM hV hD; obtain ⟨⟨_, _, -, -, f12⟩, -, -, -, -, -, -⟩ := hD
   rw [(f12 : vs 12 = _)]
   clear f12
   replace hL := hL.call hE hM hV
   go_wp2_with (first | go_skip | refine tP ?_ | (refine tB ?_; clear hL; intro _ _ hL _))
   refine One2.still hV ?_; exact rfl
  ·intro vs W1 m1 hE hM hV hD; clear hD; replace hL := hL.call hE hM hV
   go_wp2_with (first | go_skip | refine tP ?_ | (refine tB ?_; clear hL; intro _ _ hL _))
   refine One2.still hV ?_; exact rfl
 case l3 =>
  refine ⟨nF, nF, nF, nF, nF, nF, trivial⟩
 intro vs W1 m1 hE hM hV hF hD
 clear hD
 obtain ⟨⟨_, _, -, -, f9⟩, ⟨_, _, -, -, f10⟩, ⟨_, _, -, i11, f11⟩, ⟨_, _, -, -, f12⟩, ⟨_, _, -, -, f4⟩, ⟨_, _, -, -, f5⟩, -⟩ := hF
 replace hL := hL.call hE hM hV
 have f9 : vs 9 = _ := f9
 generalize vs 9 = x9 at f9 ⊢
 subst x9
 have f10 : vs 10 = _ := f10
 generalize vs 10 = x10 at f10 ⊢
 subst x10
 replace f11 : IntL _ (vs 11) (opF ds) := f11
 replace f11 := f11.le i11.le
 clear i11
 have f12 : vs 12 = _ := f12
 generalize vs 12 = x12 at f12 ⊢
 subst x12
 have f4 : vs 4 = _ := f4
 generalize vs 4 = x4 at f4 ⊢
 subst x4
 have f5 : vs 5 = _ := f5
 generalize vs 5 = x5 at f5 ⊢
 subst x5
 clear hE hV
 simp only [List.drop_succ_cons, List.drop_zero]
 go_wp2_with (first | go_skip | refine tP ?_ | (refine tB ?_; clear hL; intro _ _ hL _))
 refine QN.mk ?_
 go_wp2_with (first | go_skip | refine tP ?_ | (refine tB ?_; clear hL; intro _ _ hL _))
 go_ret2
 exact RetV.mk hL rfl
end Go.Proofs.YtmhkmmmompediaaGreat

/- Violations of cuts: contracts of cuts.whole, cuts.RightSide, cuts.violation and pairingref27.violation. -/
namespace Go.Proofs.YtmhkmmmompediaaGreat
open Go.RowKit

def vioT (x : Cut) (cols : List Col) (us : List Rat) (k : Nat) : Rat := ((cols.zip us).take k).foldl (fun s e => s + ((coefF x (opF e.1.2.1) : Int) : Rat) * e.2) ((-((x.1.length : Int) / x.2) : Int) : Rat)
def vioF (x : Cut) (cols : List Col) (us : List Rat) : Rat := vioT x cols us cols.length
theorem vioT_step {x : Cut} {cols : List Col} {us : List Rat} {k : Nat} {c : Col} {q : Rat} (hc : cols[k]? = some c) (hq : us[k]? = some q) : vioT x cols us (k + 1) = vioT x cols us k + ((coefF x (opF c.2.1) : Int) : Rat) * q := by
 unfold vioT
 have h : (cols.zip us)[k]? = some (c, q) := List.getElem?_zip_eq_some.2 ⟨hc, hq⟩
 rw [← take_snoc h, List.foldl_append]; rfl
theorem coefF_le (x : Cut) (l : List Int) : (coefF x l).natAbs ≤ l.length := by
 have h1 : (coefF x l).natAbs ≤ coefN x.1 l := by have := Int.natAbs_ediv_le_natAbs (coefN x.1 l : Int) x.2; simpa [coefF] using this
 exact Nat.le_trans h1 (coefN_le _ _)
theorem right_le {x : Cut} (h : x.1.length ≤ 32) : ((-((x.1.length : Int) / x.2) : Int)).natAbs ≤ 32 := by
 have h1 := Int.natAbs_ediv_le_natAbs (x.1.length : Int) x.2
 rw [Int.natAbs_neg]
 simp at h1
 omega
theorem vioT_tw {x : Cut} {cols : List Col} {us : List Rat} (h : x.1.length ≤ 32) (hc : ∀ c ∈ cols, (opF c.2.1).length ≤ 32) (hu : ∀ v ∈ us, Tw 18 v) : ∀ k, Tw (384 + 576 * k) (vioT x cols us k) := by
 intro k
 induction k with
 | zero => exact (Tw.int (K := 32) (right_le h)).mono (by decide)
 | succ k ih =>
  cases hk : (cols.zip us)[k]? with
  | none =>
   have h1 := List.getElem?_eq_none_iff.1 hk
   have e : vioT x cols us (k + 1) = vioT x cols us k := by
    unfold vioT
    rw [List.take_of_length_le (by omega), List.take_of_length_le (by omega)]
   rw [e]; exact ih.mono (by omega)
  | some e =>
   obtain ⟨c, q⟩ := e
   obtain ⟨h1, h2⟩ := List.getElem?_zip_eq_some.1 hk
   rw [vioT_step h1 h2, Rat.mul_comm]
   have h3 := (hu q (List.mem_of_getElem? h2)).mulI (K := 32) (Nat.le_trans (coefF_le x (opF c.2.1)) (hc c (List.mem_of_getElem? h1)))
   exact (ih.add h3).mono (by omega)
theorem vioT_tw' {x : Cut} {cols : List Col} {us : List Rat} (h : x.1.length ≤ 32) (hc : ∀ c ∈ cols, (opF c.2.1).length ≤ 32) (hu : ∀ v ∈ us, Tw 18 v) (hl : cols.length ≤ 100) (k : Nat) (hk : k ≤ cols.length) : Tw 60000 (vioT x cols us k) := (vioT_tw h hc hu k).mono (by omega)
theorem CutOk.len32 {rs : List Int} {x : Cut} (h : CutOk rs x) (hr : rs.length ≤ 32) : x.1.length ≤ 32 :=
 Nat.le_trans (nodup_length ((asc_pw h.asc).imp (fun hab e => by omega)) h.sub) hr
theorem VOk.wf {x : Ms} {us : List Rat} (ok : VOk x us) {r : Int} (h : r ∈ x.rows) : (Lit.int .i64 r).wf = true := by
 have h1 := ok.ms.low r h
 have h2 := ok.ms.f1
 exact wf_small (by omega) (by omega)

theorem u_whole (z : Int) (w m : World) (hV : Vw m w) (h1 : z.natAbs < 1073741824) :
  Calls Tryz.prog 154 #[.int .i64 z] w (RetV w m fun m' r => FracC m' r (z : Rat)) := by
 have hq : Hid (Rat.divInt z 1 = (z : Rat)) := by show _ = _; rw [← Rat.num_divInt_den (z : Rat)]; simp
 have K : Hid (∀ w m, Vw m w → Calls Tryz.prog 94 #[.int .i64 z, .int .i64 1] w (RetV w m fun m' v => ∃ r, v = .tuple #[r, .int .i64 0] ∧ FracC m' r (Rat.divInt z 1))) := by
  show ∀ w m, _
  exact fun w m hV => q_FromInts z 1 w m hV (by omega) (by decide) (by omega)
 have hL := Loc.start hV
 clear hV h1
 go_enter Tryz.func154, Tryz.ntmps154
 go_wp2_with (first | go_skip | refine tP ?_ | (refine tS ?_; clear hL; intro _ hL) | (refine tB ?_; clear hL; intro _ _ hL _))
 refine (K.out _ _ hL.vw).mono ?_
 rintro e W11 ⟨_, m11, rfl, hE, hM11, hV, va, rfl, h1⟩
 replace hL := hL.call hE (by assumption) hV; clear hE hV
 obtain ⟨g, A, n, c, g', B', n', c', rfl, h1⟩ := h1.lit
 go_wp2_with (first | go_skip | refine tP ?_ | (refine tS ?_; clear hL; intro _ hL) | (refine tB ?_; clear hL; intro _ _ hL _))
 refine fin_agg hL Tryz.results154 rfl rfl loX AgC.h (by exact rfl) ?_
 rw [← hq.out]; exact h1.le leX

theorem u_RightSide (xv : Value) (x : Cut) (w m : World) (hV : Vw m w) (hx : CutR m xv x) (hl : x.1.length ≤ 1000000) :
  Calls Tryz.prog 35 #[xv] w (RetV w m fun _ r => r = .int .i64 (if x.2 < 1 then 0 else (x.1.length : Int) / x.2)) := by
 obtain ⟨rs, d⟩ := x
 obtain ⟨s, rfl, hs, hsl⟩ := hx
 simp only at hs hl
 obtain ⟨A, ca, rfl, hca, hs⟩ := hs.lit
 have hL := Loc.start hV
 clear hV hs hsl
 simp only
 generalize rs.length = n at *
 by_cases hd : d < 1
 ·rw [if_pos hd]
  go_enter Tryz.func35, Tryz.ntmps35
  go_upto_region 0 with (fail)
  refine wp_region_lit ?_
  refine t_box hL rfl rfl ?_; clear hL; intro Wh1 mh1 hL eh1; simp only [Act.put, zq1, zq2, zq3]
  go_wp2_with (first | go_skip | refine tP ?_ | (refine tB ?_; clear hL; intro _ _ hL _))
  go_ret
  exact RetV.mk hL rfl
 ·rw [if_neg hd]
  have HQ := Lib.hid (quoE (by omega : 1 ≤ d) hl)
  have hd0 : d ≠ 0 := by omega
  have hd1 : 1 ≤ d := by omega
  go_enter Tryz.func35, Tryz.ntmps35
  go_upto_region 0 with (fail)
  refine wp_region_lit ?_
  refine t_box hL rfl rfl ?_; clear hL; intro Wh1 mh1 hL eh1; simp only [Act.put, zq1, zq2, zq3]
  go_wp2_with (first | go_skip | refine tP ?_ | (refine tB ?_; clear hL; intro _ _ hL _))
  go_ret
  exact RetV.mk hL (congrArg (Value.int .i64) HQ.out.2.1)

theorem u_violation (mv xv vv : Value) (ms : Ms) (x : Cut) (us : List Rat) (w m : World) (hV : Vw m w) (hm : MasterR m mv ms) (hx : CutR m xv x) (hvv : FracL m vv us) (ok : VOk ms us) (hc : CutOk ms.rows x) :
  Calls Tryz.prog 97 #[mv, xv, vv] w (RetV w m fun m' r => FracC m' r (vioF x ms.cols us)) := by
 have HX := Lib.hid hx
 obtain ⟨nf, rws, pen, cols, cuts⟩ := ms
 obtain ⟨va, vb, vc, rfl, ha, hb, hcu⟩ := hm
 simp only at ha hb hcu
 obtain ⟨A, ca, rfl, hca, ha⟩ := ha.lit
 obtain ⟨B, cb, rfl, hcb, hb⟩ := hb.lit
 obtain ⟨C, cc, rfl, hcc, hcu⟩ := hcu.lit
 obtain ⟨V, cv, rfl, hcv, hvv⟩ := hvv.lit
 obtain ⟨xr, xd⟩ := x
 obtain ⟨s, rfl, hs, hsl⟩ := hx
 simp only at hs hsl
 obtain ⟨X, cx, rfl, hcx, hs⟩ := hs.lit
 have HCO := Lib.hid hb
 have HVA := Lib.hid hvv
 have h32 : xr.length ≤ 32 := hc.len32 ok.ms.r1
 have h2 : 2 ≤ xd := hc.two
 have HC : Hid (∀ c ∈ cols, ColOk rws c) := ok.ms.cols
 have HT : Hid (∀ v ∈ us, Tw 18 v) := ok.tw
 have HLN : Hid (∀ c ∈ cols, (opF c.2.1).length ≤ 32) := by
  show ∀ c ∈ cols, _
  exact fun c hc => ok.col_len hc
 have hfew : cols.length ≤ 100 := ok.few
 have hlen : us.length = cols.length := ok.len
 have HTW : Hid (∀ k, k ≤ cols.length → Tw 60000 (vioT (xr, xd) cols us k)) := by
  show ∀ k, _
  exact fun k hk => vioT_tw' h32 HLN.out HT.out hfew k hk
 have KC : Hid (∀ (s : ByteArray) v ds w m', Vw m' w → Le m m' → DutsL m' v ds → ds.length ≤ 100 → (∀ d ∈ ds, d.length ≤ 100) → (opF ds).length ≤ 32 → (∀ f ∈ opF ds, f ∈ rws) → Calls Tryz.prog 155 #[.agg #[.slice X xr.length cx, .int .i64 xd], .agg #[.string s, v]] w (RetV w m' fun _ r => r = .tuple #[.int .i64 (coefF (xr, xd) (opF ds)), .int .i64 0])) := by
  show ∀ s v ds w m', _
  exact fun s v ds w m' hV hle h h3 h4 h5 h6 => e_Coefficient _ v (xr, xd) s ds w m' hV (HX.out.le hle) h (by show xr.length ≤ 1000000; omega) h3 h4 (by omega) h2 (fun r hr => ok.wf (hc.sub r hr)) (fun f hf => ok.wf (h6 f hf))
 have KR : Hid (∀ w m', Vw m' w → Le m m' → Calls Tryz.prog 35 #[.agg #[.slice X xr.length cx, .int .i64 xd]] w (RetV w m' fun _ r => r = .int .i64 ((xr.length : Int) / xd))) := by
  show ∀ w m', _
  intro w m' hV hle
  have h := u_RightSide _ (xr, xd) w m' hV (HX.out.le hle) (by show xr.length ≤ 1000000; omega)
  rwa [if_neg (by show ¬ xd < 1; omega)] at h
 have hz := right_le (x := (xr, xd)) h32
 have HZ : Hid (vioT (xr, xd) cols us 0 = ((-((xr.length : Int) / xd) : Int) : Rat)) := rfl
 simp only at hz
 have hL := Loc.start hV
 clear hV ok ha hb hcu hvv hs hsl HX hc h2
 unfold vioF
 rw [hlen] at HVA hcv
 have HNV := Lib.hid hlen
 rw [hlen]
 clear hlen
 simp only
 generalize (xr.length : Int) / xd = z0 at *
 generalize hxx : ((xr, xd) : Cut) = x at *
 clear hxx
 generalize hn1 : cols.length = nc at *
 have HN1 := Lib.hid hn1
 clear hn1
 generalize rws.length = nr at *
 generalize cuts.length = nk at *
 generalize xr.length = nx at *
 have hng : wrap64 (-z0) = -z0 := by unfold wrap64; omega
 go_enter Tryz.func97, Tryz.ntmps97
 go_upto_region 0 with (fail)
 refine wp_region_lit ?_
 refine t_box hL rfl rfl ?_; clear hL; intro Wh3 mh3 hL eh3; simp only [Act.put, zq1, zq2, zq3]
 refine t_box hL rfl rfl ?_; clear hL; intro Wh4 mh4 hL eh4; simp only [Act.put, zq1, zq2, zq3]
 refine t_alloc hL rfl ?_; clear hL; intro Wh6 mh6 hL eh6; simp only [Act.put, zq1, zq2, zq3]
 go_wp2_with (first | go_skip | refine tP ?_ | (refine tS ?_; clear hL; intro _ hL) | (refine tB ?_; clear hL; intro _ _ hL _))
 refine (KR.out _ _ hL.vw leX).mono ?_
 rintro e Wc1 ⟨_, mc1, rfl, hE, hMc1, hV, rfl⟩
 replace hL := hL.call hE (by assumption) hV; clear hE hV
 go_wp2_with (first | go_skip | refine tP ?_ | (refine tS ?_; clear hL; intro _ hL) | (refine tB ?_; clear hL; intro _ _ hL _))
 refine (u_whole (-z0) _ _ hL.vw (by omega)).mono ?_
 rintro e Wc2 ⟨vc2, mc2, rfl, hE, hMc2, hV, hc2⟩
 replace hL := hL.call hE (by assumption) hV; clear hE hV
 obtain ⟨gc2', Ac2', nc2', cc2', hc2', Bc2', kc2', dc2', rfl, hc2⟩ := hc2.lit
 clear hng
 go_wp2_with (first | go_skip | refine tP ?_ | (refine tS ?_; clear hL; intro _ hL) | (refine tB ?_; clear hL; intro _ _ hL _))
 go_loopw [19] (fun i wr => ∃ (k : Nat) (mm : World) (gs fs : Bool) (As Bs : Option Addr) (ns cs ps qs : Nat), k ≤ nc ∧ i = .int .i64 k ∧ Loc w m wr mm [(Wc2.heap.size, 39, #[.bool gs, .slice As ns cs, .bool fs, .slice Bs ps qs]), (Wh4.heap.size, 39, #[.bool false, .slice none 0 0, .bool false, .slice none 0 0]), (Wh3.heap.size, 34, #[.slice X nx cx, .int .i64 xd]), (w.heap.size, 26, #[.int .i64 nf, .slice A nr ca, .int .i64 pen, .slice B nc cb, .slice C nk cc])] ∧ Hid (FracC mm (.agg #[.bool gs, .slice As ns cs, .bool fs, .slice Bs ps qs]) (vioT x cols us k))) (fun i _ => nc - (intOf i).toNat)
 case atStart => exact ⟨0, _, _, _, _, _, _, _, _, _, Nat.zero_le _, rfl, hL, by rw [HZ.out]; exact hc2.le leX⟩
 case round =>
  clear hL hc2
  obtain ⟨k, mm, gs, fs, As, Bs, ns, cs, ps, qs, hk, rfl, hL, HS⟩ := hrel
  have hM := hL.mext
  by_cases hlt : k < nc
  ·have hlt' : (k : Int) < (nc : Int) := by omega
   obtain ⟨⟨s, ds, cost⟩, hx⟩ := at_some HN1 hlt
   obtain ⟨q, hq⟩ := at_some HNV hlt
   have hco := HCO.out
   have hva := HVA.out
   obtain ⟨b1, o1, D, cd, rfl, hds, hr1⟩ := ColL.at_ hco hx
   obtain ⟨b2, o2, g2, A2, n2, c2, h2, B2, k2, d2, rfl, hp2, hr2⟩ := FracL.at_ hva hq
   obtain ⟨i1, i2, i3, i4, i5, i6, i7⟩ := HC.out _ (List.mem_of_getElem? hx)
   simp only at hds hr1 i1 i2 i3 i4 i5 i6 i7
   have HD := Lib.hid hds
   have H3 := Lib.hid i3
   have H4 := Lib.hid i4
   have H6 := Lib.hid i6
   have HP2 := Lib.hid hp2
   have HTQ : Hid (Tw 18 q) := HT.out q (List.mem_of_getElem? hq)
   have H32 : Hid ((opF ds).length ≤ 32) := HLN.out _ (List.mem_of_getElem? hx)
   have HST := Lib.hid (vioT_step (x := x) hx hq)
   simp only at HST
   clear hx hq hds hp2 i1 i2 i3 i4 i5 i6 i7 hco hva
   generalize hnd : ds.length = nd at *
   have HND := Lib.hid hnd
   clear hnd
   have hcb := Nat.le_trans (coefF_le x (opF ds)) H32.out
   have HTS : Hid (Tw 60000 (vioT x cols us k)) := HTW.out k hk
   go_wp2_with (first | go_skip | refine tP ?_ | (refine tS ?_; clear hL; intro _ hL) | (refine tB ?_; clear hL; intro _ _ hL _))
   refine (KC.out s _ ds _ _ hL.vw leX (DutsL.le HD.out leX) (by rw [HND.out]; exact H3.out) H4.out H32.out H6.out).mono ?_
   rintro e Wc3 ⟨_, mc3, rfl, hE, hMc3, hV, rfl⟩
   replace hL := hL.call hE (by assumption) hV; clear hE hV
   have HTM : Hid (Tw 576 (((coefF x (opF ds) : Int) : Rat) * q)) := by
    show Tw _ _
    rw [Rat.mul_comm]
    exact HTQ.out.mulI (K := 32) hcb
   generalize coefF x (opF ds) = z at *
   by_cases h0 : z = 0
   ·subst h0
    have HE : Hid (vioT x cols us (k + 1) = vioT x cols us k) := by
     show _ = _
     rw [HST.out]
     simp
     exact Rat.add_zero _
    clear HST hcb HTM
    go_wp2_with (first | go_skip | refine tP ?_ | (refine tS ?_; clear hL; intro _ hL) | (refine tB ?_; clear hL; intro _ _ hL _))
    go_roundw
    case rel => exact ⟨k + 1, _, gs, fs, As, Bs, ns, cs, ps, qs, by omega, by go_num, hL.tail, by rw [HE.out]; exact HS.out.le leX⟩
    case measure => simp [intOf] <;> omega
   ·have hz2 : (z != 0) = true := by simpa using h0
    have SZ : Hid (Sm ((z : Int) : Rat).num ((z : Int) : Rat).den) := (Tw.int (K := 32) hcb).sm (by decide)
    have SQ : Hid (Sm q.num q.den) := HTQ.out.sm (by decide)
    have SM : Hid (Sm (((z : Int) : Rat) * q).num (((z : Int) : Rat) * q).den) := HTM.out.sm (by decide)
    have SS : Hid (Sm (vioT x cols us k).num (vioT x cols us k).den) := HTS.out.sm (by decide)
    have hz3 : z.natAbs < 1073741824 := by omega
    clear h0 hcb
    go_upto_region 7 with ((first | go_skip | refine tP ?_ | (refine tS ?_; clear hL; intro _ hL) | (refine tB ?_; clear hL; intro _ _ hL _)))
    clear hz2
    (try simp only [eq_self] at *)
    refine wp_region_by2 9 [false, false, false, false, false, false, false, false, false] [false, false, false, false, false, false, false, false, false] [(fun v _ _ => v = ?c7_0), (fun v _ _ => v = ?c7_1), Of (fun um v => FracC um v ((z : Int) : Rat)), (fun v _ _ => v = ?c7_3), (fun v _ _ => v = ?c7_4), (fun v _ _ => v = ?c7_5), (fun v _ _ => v = ?c7_6), Of (fun um v => FracC um v (((z : Int) : Rat) * q)), Of (fun um v => FracC um v (vioT x cols us k + ((z : Int) : Rat) * q))] hL.vw mixed [33, 34, 35, 36, 37, 38, 39, 40, 41] _ (by kernel_rfl) (fun vs => by simp only [lay, Act.put, zq1, zq2, zq3]; rfl) (by kernel_rfl) (by decide) (by decide) ?s7 ?l7 ?r7
    case s7 =>
     refine ⟨?_, ?_, ?_, ?_, ?_, ?_, ?_, ?_, ?_, trivial⟩
     ·intro vs W1 m1 hE hM hV hD; clear hD
      exact sLe
     ·intro vs W1 m1 hE hM hV hD; clear hD
      exact sPw
     ·intro vs W1 m1 hE hM hV hD; obtain ⟨⟨_, _, -, -, f34⟩, -⟩ := hD
      rw [(f34 : vs 34 = _)]
      clear f34
      go_wp2_with fail
      refine (u_whole z _ _ hV hz3).mono ?_
      rintro e W2 ⟨v, m2, rfl, hE2, hM2, hV2, h⟩
      go_wp2_with fail
      refine One2.call hE2 hM2 hV2 ?_; first | exact h | exact rfl
     ·intro vs W1 m1 hE hM hV hD; clear hD
      exact sPw
     ·intro vs W1 m1 hE hM hV hD; clear hD
      exact sPw
     ·intro vs W1 m1 hE hM hV hD; obtain ⟨⟨_, _, -, -, f36⟩, ⟨_, _, -, -, f37⟩, -⟩ := hD
      rw [(f36 : vs 36 = _), (f37 : vs 37 = _)]; clear f36 f37; exact sIy
     ·intro vs W1 m1 hE hM hV hD; obtain ⟨⟨_, _, -, -, f38⟩, -⟩ := hD
      rw [(f38 : vs 38 = _)]; clear f38; exact sLe
     ·intro vs W1 m1 hE hM hV hD; obtain ⟨⟨_, _, -, i35, f35⟩, ⟨_, _, -, -, f39⟩, -, -⟩ := hD
      rw [(f39 : vs 39 = _)]
      clear f39
      have f35 : FracC _ (vs 35) ((z : Int) : Rat) := f35
      replace f35 := f35.le i35.le
      clear i35
      go_wp2_with fail
      refine (q_MulC _ _ _ _ _ _ hV f35 (HP2.out.le leX) SZ.out SQ.out).mono ?_
      rintro e W2 ⟨v, m2, rfl, hE2, hM2, hV2, h⟩
      go_wp2_with fail
      refine One2.call hE2 hM2 hV2 ?_; first | exact h | exact rfl
     ·intro vs W1 m1 hE hM hV hD; obtain ⟨⟨_, _, -, -, f33⟩, ⟨_, _, -, i40, f40⟩, -, -⟩ := hD
      rw [(f33 : vs 33 = _)]
      clear f33
      have f40 : FracC _ (vs 40) (((z : Int) : Rat) * q) := f40
      replace f40 := f40.le i40.le
      clear i40
      go_wp2_with fail
      refine (q_AddC _ _ _ _ _ _ hV (HS.out.le leX) f40 SS.out SM.out).mono ?_
      rintro e W2 ⟨v, m2, rfl, hE2, hM2, hV2, h⟩
      go_wp2_with fail
      refine One2.call hE2 hM2 hV2 ?_; first | exact h | exact rfl
    case l7 =>
     refine ⟨nF, nF, nF, nF, nF, nF, nF, nF, nF, trivial⟩
    intro vs W1 m1 hE hM hV hF hD
    clear hD
    obtain ⟨-, -, ⟨_, _, -, i35, f35⟩, -, -, -, -, ⟨_, _, -, i40, f40⟩, ⟨_, _, -, i41, f41⟩, -⟩ := hF
    replace hL := hL.call hE hM hV
    replace f35 : FracC _ (vs 35) ((z : Int) : Rat) := f35
    replace f35 := f35.le i35.le
    clear i35
    replace f40 : FracC _ (vs 40) (((z : Int) : Rat) * q) := f40
    replace f40 := f40.le i40.le
    clear i40
    replace f41 : FracC _ (vs 41) (vioT x cols us k + ((z : Int) : Rat) * q) := f41
    replace f41 := f41.le i41.le
    clear i41
    obtain ⟨g41, A41, n41, c41, h41, B41, k41, d41, e41, f41⟩ := f41.lit
    generalize vs 41 = x41 at e41 ⊢
    subst x41
    clear hE hV
    simp only [List.drop_succ_cons, List.drop_zero]
    go_wp2_with (first | go_skip | refine tP ?_ | (refine tS ?_; clear hL; intro _ hL) | (refine tB ?_; clear hL; intro _ _ hL _))
    refine QN.mk ?_
    go_wp2_with (first | go_skip | refine tP ?_ | (refine tS ?_; clear hL; intro _ hL) | (refine tB ?_; clear hL; intro _ _ hL _))
    go_roundw
    case rel => exact ⟨k + 1, _, _, _, _, _, _, _, _, _, by omega, by go_num, hL.tail, by rw [HST.out]; exact f41.le leX⟩
    case measure => simp [intOf] <;> omega
  ·have hkn : k = nc := by omega
   subst hkn
   have h9 : (k : Int) ≤ (k : Int) := Int.le_refl _
   go_wp2_with (first | go_skip | refine tP ?_ | (refine tS ?_; clear hL; intro _ hL) | (refine tB ?_; clear hL; intro _ _ hL _))
   refine fin_agg hL Tryz.results97 rfl rfl loX AgC.h (by exact rfl) ?_
   exact HS.out.le leX
end Go.Proofs.YtmhkmmmompediaaGreat

/- Contract of pairingref27.violation. -/
namespace Go.Proofs.YtmhkmmmompediaaGreat
open Go.RowKit

theorem r_violation (mv xv vv : Value) (ms : Ms) (x : Cut) (us : List Rat) (w m : World) (hV : Vw m w) (hm : MasterR m mv ms) (hx : CutR m xv x) (hvv : FracL m vv us) (ok : VOk ms us) (hc : CutOk ms.rows x) :
  Calls Tryz.prog 98 #[mv, xv, vv] w (RetV w m fun m' r => FracC m' r (vioF x ms.cols us)) := by
 have HX := Lib.hid hx
 obtain ⟨nf, rws, pen, cols, cuts⟩ := ms
 obtain ⟨va, vb, vc, rfl, ha, hb, hcu⟩ := hm
 simp only at ha hb hcu
 obtain ⟨A, ca, rfl, hca, ha⟩ := ha.lit
 obtain ⟨B, cb, rfl, hcb, hb⟩ := hb.lit
 obtain ⟨C, cc, rfl, hcc, hcu⟩ := hcu.lit
 obtain ⟨V, cv, rfl, hcv, hvv⟩ := hvv.lit
 obtain ⟨xr, xd⟩ := x
 obtain ⟨s, rfl, hs, hsl⟩ := hx
 simp only at hs hsl
 obtain ⟨X, cx, rfl, hcx, hs⟩ := hs.lit
 have HCO := Lib.hid hb
 have HVA := Lib.hid hvv
 have h32 : xr.length ≤ 32 := hc.len32 ok.ms.r1
 have h2 : 2 ≤ xd := hc.two
 have HC : Hid (∀ c ∈ cols, ColOk rws c) := ok.ms.cols
 have HT : Hid (∀ v ∈ us, Tw 18 v) := ok.tw
 have HLN : Hid (∀ c ∈ cols, (opF c.2.1).length ≤ 32) := by
  show ∀ c ∈ cols, _
  exact fun c hc => ok.col_len hc
 have hfew : cols.length ≤ 100 := ok.few
 have hlen : us.length = cols.length := ok.len
 have HTW : Hid (∀ k, k ≤ cols.length → Tw 60000 (vioT (xr, xd) cols us k)) := by
  show ∀ k, _
  exact fun k hk => vioT_tw' h32 HLN.out HT.out hfew k hk
 have KC : Hid (∀ v l w m', Vw m' w → Le m m' → IntL m' v l → l.length ≤ 1000000 → Calls Tryz.prog 46 #[.agg #[.slice X xr.length cx, .int .i64 xd], v] w (RetV w m' fun _ r => r = .int .i64 (coefF (xr, xd) l))) := by
  show ∀ v l w m', _
  exact fun v l w m' hV hle h h5 => r_Coefficient _ v (xr, xd) l w m' hV (HX.out.le hle) h (by show xr.length ≤ 1000000; omega) h5 (by show 1 ≤ xd; omega)
 have HQ := Lib.hid (quoE (by omega : 1 ≤ xd) (by omega : xr.length ≤ 1000000))
 have KI : Hid (∀ z w m', Vw m' w → (z = wrap64 (-wrap64 ((xr.length : Int).tdiv xd)) ∨ z = wrap64 (-((xr.length : Int).tdiv xd)) ∨ z = wrap64 (-((xr.length : Int) / xd)) ∨ z = -((xr.length : Int) / xd) ∨ z = wrap64 (-wrap64 ((xr.length : Int) / xd)) ∨ z = -((xr.length : Int).tdiv xd)) → Calls Tryz.prog 17 #[.int .i64 z] w (RetV w m' fun m' r => FracC m' r ((-((xr.length : Int) / xd) : Int) : Rat))) := by
  show ∀ z w m', _
  intro z w m' hV hz
  have hz0 := right_le (x := (xr, xd)) h32
  simp only at hz0
  have e : z = -((xr.length : Int) / xd) := by
   obtain ⟨q1, q2, q3⟩ := HQ.out
   rw [q1, q2, q3] at hz
   generalize (xr.length : Int) / xd = y at *
   have : wrap64 (-y) = -y := by unfold wrap64; omega
   rw [this] at hz
   omega
  rw [e]
  exact r_Int _ w m' hV (by omega) (by omega)
 have hz := right_le (x := (xr, xd)) h32
 have HZ : Hid (vioT (xr, xd) cols us 0 = ((-((xr.length : Int) / xd) : Int) : Rat)) := rfl
 simp only at hz
 have hL := Loc.start hV
 clear hV ok ha hb hcu hvv hs hsl HX hc
 unfold vioF
 rw [hlen] at HVA hcv
 have HNV := Lib.hid hlen
 rw [hlen]
 clear hlen
 simp only
 generalize hxx : ((xr, xd) : Cut) = x at *
 clear hxx
 generalize hn1 : cols.length = nc at *
 have HN1 := Lib.hid hn1
 clear hn1
 generalize rws.length = nr at *
 generalize cuts.length = nk at *
 have hd0 : xd ≠ 0 := by omega
 have hd1 : 1 ≤ xd := by omega
 clear hz h32
 generalize xr.length = nx at *
 go_enter Tryz.func98, Tryz.ntmps98
 go_upto_region 0 with (fail)
 refine wp_region_lit ?_
 refine t_box hL rfl rfl ?_; clear hL; intro Wh3 mh3 hL eh3; simp only [Act.put, zq1, zq2, zq3]
 refine t_box hL rfl rfl ?_; clear hL; intro Wh4 mh4 hL eh4; simp only [Act.put, zq1, zq2, zq3]
 refine t_alloc hL rfl ?_; clear hL; intro Wh6 mh6 hL eh6; simp only [Act.put, zq1, zq2, zq3]
 go_wp2_with (first | go_skip | refine tP ?_ | (refine tS ?_; clear hL; intro _ hL) | (refine tB ?_; clear hL; intro _ _ hL _))
 refine (KI.out _ _ _ hL.vw (by first | exact .inl rfl | exact .inr (.inl rfl) | exact .inr (.inr (.inl rfl)) | exact .inr (.inr (.inr (.inl rfl))) | exact .inr (.inr (.inr (.inr (.inl rfl)))) | exact .inr (.inr (.inr (.inr (.inr rfl)))))).mono ?_
 rintro e Wc2 ⟨_, mc2, rfl, hE, hMc2, hV, hc2⟩
 replace hL := hL.call hE (by assumption) hV; clear hE hV
 obtain ⟨gc2', Ac2', nc2', cc2', hc2', Bc2', kc2', dc2', rfl, hc2⟩ := hc2.lit
 clear HQ KI hd0 hd1
 go_wp2_with (first | go_skip | refine tP ?_ | (refine tS ?_; clear hL; intro _ hL) | (refine tB ?_; clear hL; intro _ _ hL _))
 go_loopw [8] (fun i wr => ∃ (k : Nat) (mm : World) (gs fs : Bool) (As Bs : Option Addr) (ns cs ps qs : Nat), k ≤ nc ∧ i = .int .i64 k ∧ Loc w m wr mm [(Wc2.heap.size, 39, #[.bool gs, .slice As ns cs, .bool fs, .slice Bs ps qs]), (Wh4.heap.size, 39, #[.bool false, .slice none 0 0, .bool false, .slice none 0 0]), (Wh3.heap.size, 34, #[.slice X nx cx, .int .i64 xd]), (w.heap.size, 26, #[.int .i64 nf, .slice A nr ca, .int .i64 pen, .slice B nc cb, .slice C nk cc])] ∧ Hid (FracC mm (.agg #[.bool gs, .slice As ns cs, .bool fs, .slice Bs ps qs]) (vioT x cols us k))) (fun i _ => nc - (intOf i).toNat)
 case atStart => exact ⟨0, _, _, _, _, _, _, _, _, _, Nat.zero_le _, rfl, hL, by rw [HZ.out]; exact hc2.le leX⟩
 case round =>
  clear hL hc2
  obtain ⟨k, mm, gs, fs, As, Bs, ns, cs, ps, qs, hk, rfl, hL, HS⟩ := hrel
  have hM := hL.mext
  by_cases hlt : k < nc
  ·have hlt' : (k : Int) < (nc : Int) := by omega
   obtain ⟨⟨s, ds, cost⟩, hx⟩ := at_some HN1 hlt
   obtain ⟨q, hq⟩ := at_some HNV hlt
   have hco := HCO.out
   have hva := HVA.out
   obtain ⟨b1, o1, D, cd, rfl, hds, hr1⟩ := ColL.at_ hco hx
   obtain ⟨b2, o2, g2, A2, n2, c2, h2, B2, k2, d2, rfl, hp2, hr2⟩ := FracL.at_ hva hq
   obtain ⟨i1, i2, i3, i4, i5, i6, i7⟩ := HC.out _ (List.mem_of_getElem? hx)
   simp only at hds hr1 i1 i2 i3 i4 i5 i6 i7
   have hr3 := range_two hr1
   have HD := Lib.hid hds
   have H3 := Lib.hid i3
   have H4 := Lib.hid i4
   have H6 := Lib.hid i6
   have HP2 := Lib.hid hp2
   have HTQ : Hid (Tw 18 q) := HT.out q (List.mem_of_getElem? hq)
   have H32 : Hid ((opF ds).length ≤ 32) := HLN.out _ (List.mem_of_getElem? hx)
   have HST := Lib.hid (vioT_step (x := x) hx hq)
   simp only at HST
   clear hx hq hds hp2 i1 i2 i3 i4 i5 i6 i7 hco hva hr1
   generalize hnd : ds.length = nd at *
   have HND := Lib.hid hnd
   clear hnd
   have hcb := Nat.le_trans (coefF_le x (opF ds)) H32.out
   have HTS : Hid (Tw 60000 (vioT x cols us k)) := HTW.out k hk
   have HTM : Hid (Tw 576 (((coefF x (opF ds) : Int) : Rat) * q)) := by
    show Tw _ _
    rw [Rat.mul_comm]
    exact HTQ.out.mulI (K := 32) hcb
   have SZ : Hid (Fit 200 ((coefF x (opF ds) : Int) : Rat)) := (Tw.int (K := 32) hcb).fit (by decide)
   have SQ : Hid (Fit 200 q) := HTQ.out.fit (by decide)
   have SM : Hid (Fit 200 (((coefF x (opF ds) : Int) : Rat) * q)) := HTM.out.fit (by decide)
   have SS : Hid (Fit 200 (vioT x cols us k)) := HTS.out.fit (by decide)
   have HCB := Lib.hid hcb
   have HB1 : Hid (-9223372036854775808 ≤ coefF x (opF ds) ∧ coefF x (opF ds) ≤ 9223372036854775807) := by show _ ∧ _; omega
   clear hcb
   go_upto_region 5 with ((first | go_skip | refine tP ?_ | (refine tS ?_; clear hL; intro _ hL) | (refine tB ?_; clear hL; intro _ _ hL _)))
   (try simp only [eq_self] at *)
   refine wp_region_by2 17 [false, false, false, false, false, false, false, false, false, false, false, false, false, false, false, false, false] [false, false, false, false, false, false, false, false, false, false, false, false, false, false, false, false, false] [(fun v _ _ => v = ?c5_0), (fun v _ _ => v = ?c5_1), (fun v _ _ => v = ?c5_2), (fun v _ _ => v = ?c5_3), (fun v _ _ => v = ?c5_4), (fun v _ _ => v = ?c5_5), (fun v _ _ => v = ?c5_6), (fun v _ _ => v = ?c5_7), Of (fun um v => IntL um v (opF ds)), Is (.int .i64 (coefF x (opF ds))), Of (fun um v => FracC um v ((coefF x (opF ds) : Int) : Rat)), (fun v _ _ => v = ?c5_11), (fun v _ _ => v = ?c5_12), (fun v _ _ => v = ?c5_13), (fun v _ _ => v = ?c5_14), Of (fun um v => FracC um v (((coefF x (opF ds) : Int) : Rat) * q)), Of (fun um v => FracC um v (vioT x cols us k + ((coefF x (opF ds) : Int) : Rat) * q))] hL.vw mixed [23, 24, 25, 26, 27, 28, 29, 30, 31, 32, 33, 34, 35, 36, 37, 38, 39] _ (by kernel_rfl) (fun vs => by simp only [lay, Act.put, zq1, zq2, zq3]; rfl) (by kernel_rfl) (by decide) (by decide) ?s5 ?l5 ?r5
   case s5 =>
    refine ⟨?_, ?_, ?_, ?_, ?_, ?_, ?_, ?_, ?_, ?_, ?_, ?_, ?_, ?_, ?_, ?_, ?_, trivial⟩
    ·intro vs W1 m1 hE hM hV hD; clear hD
     exact sLe
    ·intro vs W1 m1 hE hM hV hD; clear hD
     exact sLe
    ·intro vs W1 m1 hE hM hV hD; clear hD
     exact sFe
    ·intro vs W1 m1 hE hM hV hD; obtain ⟨⟨_, _, -, -, f25⟩, -⟩ := hD
     rw [(f25 : vs 25 = _)]; clear f25; exact sLe
    ·intro vs W1 m1 hE hM hV hD; clear hD
     exact sPw
    ·intro vs W1 m1 hE hM hV hD; obtain ⟨⟨_, _, -, -, f26⟩, ⟨_, _, -, -, f27⟩, -⟩ := hD
     rw [(f26 : vs 26 = _), (f27 : vs 27 = _)]; clear f26 f27; exact sIy
    ·intro vs W1 m1 hE hM hV hD; obtain ⟨⟨_, _, -, -, f28⟩, -⟩ := hD
     rw [(f28 : vs 28 = _)]; clear f28; exact sFe
    ·intro vs W1 m1 hE hM hV hD; obtain ⟨⟨_, _, -, -, f29⟩, -⟩ := hD
     rw [(f29 : vs 29 = _)]; clear f29; exact sLe
    ·intro vs W1 m1 hE hM hV hD; obtain ⟨⟨_, _, -, -, f30⟩, -⟩ := hD
     rw [(f30 : vs 30 = _)]
     clear f30
     go_wp2_with fail
     refine (r_Operated s _ ds _ _ hV (DutsL.le HD.out leX) (by rw [HND.out]; exact H3.out) H4.out).mono ?_
     rintro e W2 ⟨v, m2, rfl, hE2, hM2, hV2, h⟩
     go_wp2_with fail
     refine One2.call hE2 hM2 hV2 ?_; first | exact h | exact rfl
    ·intro vs W1 m1 hE hM hV hD; obtain ⟨⟨_, _, -, -, f24⟩, ⟨_, _, -, i31, f31⟩, -, -⟩ := hD
     rw [(f24 : vs 24 = _)]
     clear f24
     have f31 : IntL _ (vs 31) (opF ds) := f31
     replace f31 := f31.le i31.le
     clear i31
     go_wp2_with fail
     refine (KC.out _ _ _ _ hV leX f31 (Nat.le_trans H32.out (by decide))).mono ?_
     rintro e W2 ⟨v, m2, rfl, hE2, hM2, hV2, h⟩
     go_wp2_with fail
     refine One2.call hE2 hM2 hV2 ?_; first | exact h | exact rfl
    ·intro vs W1 m1 hE hM hV hD; obtain ⟨⟨_, _, -, -, f32⟩, -, -⟩ := hD
     rw [(f32 : vs 32 = _)]
     clear f32
     go_wp2_with fail
     refine (r_Int (coefF x (opF ds)) _ _ hV HB1.out.1 HB1.out.2).mono ?_
     rintro e W2 ⟨v, m2, rfl, hE2, hM2, hV2, h⟩
     go_wp2_with fail
     refine One2.call hE2 hM2 hV2 ?_; first | exact h | exact rfl
    ·intro vs W1 m1 hE hM hV hD; clear hD
     exact sPw
    ·intro vs W1 m1 hE hM hV hD; clear hD
     exact sPw
    ·intro vs W1 m1 hE hM hV hD; obtain ⟨⟨_, _, -, -, f34⟩, ⟨_, _, -, -, f35⟩, -⟩ := hD
     rw [(f34 : vs 34 = _), (f35 : vs 35 = _)]; clear f34 f35; exact sIy
    ·intro vs W1 m1 hE hM hV hD; obtain ⟨⟨_, _, -, -, f36⟩, -⟩ := hD
     rw [(f36 : vs 36 = _)]; clear f36; exact sLe
    ·intro vs W1 m1 hE hM hV hD; obtain ⟨⟨_, _, -, i33, f33⟩, ⟨_, _, -, -, f37⟩, -, -⟩ := hD
     rw [(f37 : vs 37 = _)]
     clear f37
     have f33 : FracC _ (vs 33) ((coefF x (opF ds) : Int) : Rat) := f33
     replace f33 := f33.le i33.le
     clear i33
     go_wp2_with fail
     refine (r_MulC _ _ _ _ _ _ hV f33 (HP2.out.le leX) SZ.out SQ.out).mono ?_
     rintro e W2 ⟨v, m2, rfl, hE2, hM2, hV2, h⟩
     go_wp2_with fail
     refine One2.call hE2 hM2 hV2 ?_; first | exact h | exact rfl
    ·intro vs W1 m1 hE hM hV hD; obtain ⟨⟨_, _, -, -, f23⟩, ⟨_, _, -, i38, f38⟩, -, -⟩ := hD
     rw [(f23 : vs 23 = _)]
     clear f23
     have f38 : FracC _ (vs 38) (((coefF x (opF ds) : Int) : Rat) * q) := f38
     replace f38 := f38.le i38.le
     clear i38
     go_wp2_with fail
     refine (r_AddC _ _ _ _ _ _ hV (HS.out.le leX) f38 SS.out SM.out).mono ?_
     rintro e W2 ⟨v, m2, rfl, hE2, hM2, hV2, h⟩
     go_wp2_with fail
     refine One2.call hE2 hM2 hV2 ?_; first | exact h | exact rfl
   case l5 =>
    refine ⟨nF, nF, nF, nF, nF, nF, nF, nF, nF, nF, nF, nF, nF, nF, nF, nF, nF, trivial⟩
   intro vs W1 m1 hE hM hV hF hD
   clear hD
   obtain ⟨-, -, -, -, -, -, -, -, ⟨_, _, -, i31, f31⟩, -, ⟨_, _, -, i33, f33⟩, -, -, -, -, ⟨_, _, -, i38, f38⟩, ⟨_, _, -, i39, f39⟩, -⟩ := hF
   replace hL := hL.call hE hM hV
   replace f31 : IntL _ (vs 31) (opF ds) := f31
   replace f31 := f31.le i31.le
   clear i31
   replace f33 : FracC _ (vs 33) ((coefF x (opF ds) : Int) : Rat) := f33
   replace f33 := f33.le i33.le
   clear i33
   replace f38 : FracC _ (vs 38) (((coefF x (opF ds) : Int) : Rat) * q) := f38
   replace f38 := f38.le i38.le
   clear i38
   replace f39 : FracC _ (vs 39) (vioT x cols us k + ((coefF x (opF ds) : Int) : Rat) * q) := f39
   replace f39 := f39.le i39.le
   clear i39
   obtain ⟨g39, A39, n39, c39, h39, B39, k39, d39, e39, f39⟩ := f39.lit
   generalize vs 39 = x39 at e39 ⊢
   subst x39
   clear hE hV
   simp only [List.drop_succ_cons, List.drop_zero]
   go_wp2_with (first | go_skip | refine tP ?_ | (refine tS ?_; clear hL; intro _ hL) | (refine tB ?_; clear hL; intro _ _ hL _))
   refine QN.mk ?_
   go_wp2_with (first | go_skip | refine tP ?_ | (refine tS ?_; clear hL; intro _ hL) | (refine tB ?_; clear hL; intro _ _ hL _))
   go_roundw
   case rel => exact ⟨k + 1, _, _, _, _, _, _, _, _, _, by omega, by go_num, hL, by rw [HST.out]; exact f39.le leX⟩
   case measure => simp [intOf] <;> omega
  ·have hkn : k = nc := by omega
   subst hkn
   have h9 : (k : Int) ≤ (k : Int) := Int.le_refl _
   go_wp2_with (first | go_skip | refine tP ?_ | (refine tS ?_; clear hL; intro _ hL) | (refine tB ?_; clear hL; intro _ _ hL _))
   refine fin_agg hL Tryz.results98 rfl rfl loX AgC.h (by exact rfl) ?_
   exact HS.out.le leX
end Go.Proofs.YtmhkmmmompediaaGreat

/- Validity of cuts of any form: contracts of pairingref27.ascending, ValidCut and ValidateCut, and of cuts.Validate. -/
namespace Go.Proofs.YtmhkmmmompediaaGreat
open Go.RowKit

def cutB (rws : List Int) (x : Cut) : Bool := decide (x.1.Pairwise (· < ·)) && decide (∀ r ∈ x.1, r ∈ rws) && decide (2 ≤ x.2) && decide (x.2 ≤ (x.1.length : Int))
theorem pw_step {xs : List Int} {k : Nat} {x y : Int} (h : ∀ (j : Nat) (x y : Int), j < k → xs[j]? = some x → xs[j + 1]? = some y → x < y) (hx : xs[k]? = some x) (hy : xs[k + 1]? = some y) (hxy : x < y) :
  ∀ (j : Nat) (x y : Int), j < k + 1 → xs[j]? = some x → xs[j + 1]? = some y → x < y := by
 intro j x' y' hj hx' hy'
 rcases Nat.lt_succ_iff_lt_or_eq.1 hj with h' | rfl
 ·exact h j x' y' h' hx' hy'
 ·rw [hx] at hx'; rw [hy] at hy'; cases hx'; cases hy'; exact hxy
theorem pw_end {xs : List Int} {k n : Nat} (hn : xs.length = n) (hk : n ≤ k + 1) (h : ∀ (j : Nat) (x y : Int), j < k → xs[j]? = some x → xs[j + 1]? = some y → x < y) : xs.Pairwise (· < ·) := by
 refine asc_pw fun j x y hx hy => h j x y ?_ hx hy
 have := (List.getElem?_eq_some_iff.1 hy).1
 omega
theorem pw_not {xs : List Int} {k : Nat} {x y : Int} (hx : xs[k]? = some x) (hy : xs[k + 1]? = some y) (hyx : y ≤ x) : ¬ xs.Pairwise (· < ·) := fun h => by
 have := ascP_of h k x y hx hy; omega

end Go.Proofs.YtmhkmmmompediaaGreat

/- Contract of cuts.Validate for cuts of any form. -/
namespace Go.Proofs.YtmhkmmmompediaaGreat
open Go.RowKit

theorem cutB_no1 {rws : List Int} {x : Cut} {r : Int} (h : r ∈ x.1) (h' : r ∉ rws) : cutB rws x = false := by
 unfold cutB
 rw [decide_eq_false (fun hh : ∀ r ∈ x.1, r ∈ rws => h' (hh r h))]
 simp
theorem cutB_no2 {rws : List Int} {x : Cut} (h : ¬ x.1.Pairwise (· < ·)) : cutB rws x = false := by
 unfold cutB
 rw [decide_eq_false h]
 simp
theorem cutB_end {rws : List Int} {x : Cut} (h : x.1.Pairwise (· < ·)) (h' : ∀ r ∈ x.1, r ∈ rws) : cutB rws x = (decide (2 ≤ x.2) && decide (x.2 ≤ (x.1.length : Int))) := by
 unfold cutB
 rw [decide_eq_true h, decide_eq_true h']
 simp
theorem allR_step {rws xs : List Int} {k : Nat} {r : Int} (h : ∀ (j : Nat) (r : Int), j < k → xs[j]? = some r → r ∈ rws) (hx : xs[k]? = some r) (hr : r ∈ rws) : ∀ (j : Nat) (r : Int), j < k + 1 → xs[j]? = some r → r ∈ rws := by
 intro j r' hj hr'
 rcases Nat.lt_succ_iff_lt_or_eq.1 hj with h' | rfl
 ·exact h j r' h' hr'
 ·rw [hx] at hr'; cases hr'; exact hr
theorem allR_end {rws xs : List Int} {k : Nat} (hk : xs.length ≤ k) (h : ∀ (j : Nat) (r : Int), j < k → xs[j]? = some r → r ∈ rws) : ∀ r ∈ xs, r ∈ rws := by
 intro r hr
 obtain ⟨j, hj⟩ := List.mem_iff_getElem?.1 hr
 exact h j r (by have := (List.getElem?_eq_some_iff.1 hj).1; omega) hj

theorem u_Validate (mv xv : Value) (ms : Ms) (x : Cut) (w m : World) (hV : Vw m w) (hm : MasterR m mv ms) (hx : CutR m xv x) (ok : MsOk ms) :
  Calls Tryz.prog 33 #[mv, xv] w (RetV w m fun _ r => r = .int .i64 (if cutB ms.rows x then 0 else 5)) := by
 have HM := Lib.hid hm
 have OK := Lib.hid ok
 obtain ⟨A, nr, ca, B, nc, cb, C, nk, cc, rfl, hm1⟩ := hm.lit
 obtain ⟨xs, dv⟩ := x
 obtain ⟨sv, rfl, hs, o5⟩ := hx
 simp only at hs o5
 obtain ⟨X, c, rfl, hc, hs⟩ := hs.lit
 obtain ⟨va, vb, vc, e, ha, -, -⟩ := hm1
 simp only [Value.agg.injEq, Array.mk.injEq, List.cons.injEq, and_true, true_and] at e
 obtain ⟨rfl, rfl, rfl⟩ := e
 have KV : Hid (∀ w m', Vw m' w → Le m m' → Calls Tryz.prog 68 #[.agg #[.int .i64 ms.nf, .slice A nr ca, .int .i64 ms.pen, .slice B nc cb, .slice C nk cc]] w (RetV w m' fun _ r => r = .int .i64 0)) := by
  show ∀ w m', _
  exact fun w m' hV hle => m_ValidateMaster _ ms w m' hV (HM.out.le hle) OK.out
 have hr32 : ms.rows.length ≤ 32 := ok.r1
 have KC : Hid (∀ (t : Int) w m', Vw m' w → Le m m' → Calls Tryz.prog 70 #[.slice A nr ca, .int .i64 t] w (RetV w m' fun _ r => r = .bool (decide (t ∈ ms.rows)))) := by
  show ∀ t w m', _
  exact fun t w m' hV hle => s_Contains _ ms.rows t w m' hV (IntL.le ha hle) (by omega)
 have HS := Lib.hid hs
 have hL := Loc.start hV
 clear hV ha hs ok hr32 HM OK
 generalize ms.nf = nf at *
 generalize ms.pen = pen at *
 generalize ms.rows = rws at *
 have HE := Lib.hid (@cutB_end rws (xs, dv))
 obtain ⟨ez, hez⟩ : ∃ ez : Int, ez = (if cutB rws (xs, dv) then 0 else 5) := ⟨_, rfl⟩
 rw [← hez]
 have HEZ := Lib.hid hez
 clear hez
 simp only at HE
 generalize hn : xs.length = n at *
 have HN := Lib.hid hn
 clear hn
 go_enter Tryz.func33, Tryz.ntmps33
 go_upto_region 0 with (fail)
 refine wp_region_lit ?_
 refine t_box hL rfl rfl ?_; clear hL; intro Wh2 mh2 hL eh2; simp only [Act.put, zq1, zq2, zq3]
 refine t_box hL rfl rfl ?_; clear hL; intro Wh3 mh3 hL eh3; simp only [Act.put, zq1, zq2, zq3]
 go_wp2_with (first | go_skip | refine tP ?_ | (refine tB ?_; clear hL; intro _ _ hL _))
 refine (KV.out _ _ hL.vw leX).mono ?_
 rintro e Wc1 ⟨_, mc1, rfl, hE, hMc1, hV, rfl⟩
 replace hL := hL.call hE (by assumption) hV; clear hE hV
 go_wp2_with (first | go_skip | refine tP ?_ | (refine tB ?_; clear hL; intro _ _ hL _))
 go_loopw [16] (fun i wr => ∃ (k : Nat) (mm : World), k ≤ n ∧ i = .int .i64 k ∧ Loc w m wr mm [(Wh2.heap.size, 34, #[.slice X n c, .int .i64 dv]), (w.heap.size, 26, #[.int .i64 nf, .slice A nr ca, .int .i64 pen, .slice B nc cb, .slice C nk cc])] ∧ Hid (∀ (j : Nat) (r : Int), j < k → xs[j]? = some r → r ∈ rws) ∧ Hid (∀ (j : Nat) (x y : Int), j < k - 1 → xs[j]? = some x → xs[j + 1]? = some y → x < y)) (fun i _ => n - (intOf i).toNat)
 case atStart => exact ⟨0, _, Nat.zero_le _, rfl, hL, (fun _ _ h => absurd h (Nat.not_lt_zero _)), (fun _ _ _ h => absurd h (Nat.not_lt_zero _))⟩
 case round =>
  clear hL
  obtain ⟨k, mm, hk, rfl, hL, HJ, HP⟩ := hrel
  have hM := hL.mext
  by_cases hlt : k < n
  ·obtain ⟨r, hr⟩ := at_some HN hlt
   obtain ⟨b1, o1, rfl, hc1⟩ := IntL.at_ HS.out hr
   have hlt' : (k : Int) < (n : Int) := by omega
   have HR := Lib.hid hr
   by_cases hin : r ∈ rws
   ·have HJ2 := Lib.hid (allR_step HJ.out hr hin)
    have HIN : Hid (decide (r ∈ rws) = true) := decide_eq_true hin
    clear hr hin
    by_cases h0 : k = 0
    ·subst h0
     go_wp2_with (first | go_skip | refine tP ?_ | (refine tB ?_; clear hL; intro _ _ hL _))
     refine (KC.out r _ _ hL.vw leX).mono ?_
     rintro e Wc2 ⟨_, mc2, rfl, hE, hMc2, hV, rfl⟩
     replace hL := hL.call hE (by assumption) hV; clear hE hV
     rw [HIN.out]
     go_wp2_with (first | go_skip | refine tP ?_ | (refine tB ?_; clear hL; intro _ _ hL _))
     go_roundw
     case rel => exact ⟨1, _, by omega, by go_num, hL, HJ2.out, (fun _ _ _ h => absurd h (Nat.not_lt_zero _))⟩
     case measure => simp [intOf] <;> omega
    ·obtain ⟨j, rfl⟩ : ∃ j, k = j + 1 := ⟨k - 1, by omega⟩
     have hk0 : ((j + 1 : Nat) : Int) > 0 := by omega
     have hjn : j < n := by omega
     obtain ⟨y, hy⟩ := at_some HN hjn
     obtain ⟨b2, o2, e2, hc2⟩ := IntL.at_ HS.out hy
     obtain ⟨rfl, rfl⟩ : b1 = b2 ∧ o1 = o2 := by simpa using e2
     have hj1 : ((j + 1 : Nat) : Int) - 1 = (j : Int) := by omega
     have hj2 : wrap64 (((j + 1 : Nat) : Int) - 1) = (j : Int) := by unfold wrap64; omega
     have hj3 : (j : Int) + 1 - 1 = (j : Int) := by omega
     have HY := Lib.hid hy
     clear hy e2 h0
     by_cases hry : r ≤ y
     ·have HF : Hid (cutB rws (xs, dv) = false) := cutB_no2 (pw_not HY.out HR.out hry)
      go_wp2_with (first | go_skip | refine tP ?_ | (refine tB ?_; clear hL; intro _ _ hL _))
      refine (KC.out r _ _ hL.vw leX).mono ?_
      rintro e Wc2 ⟨_, mc2, rfl, hE, hMc2, hV, rfl⟩
      replace hL := hL.call hE (by assumption) hV; clear hE hV
      rw [HIN.out]
      go_wp2_with (first | go_skip | refine tP ?_ | (refine tB ?_; clear hL; intro _ _ hL _))
      go_ret
      exact RetV.mk hL (by rw [HEZ.out, HF.out]; rfl)
     ·have HP2 := Lib.hid (pw_step (k := j) (by have h := HP.out; simpa using h) HY.out HR.out (by omega))
      have hry' : y < r := by omega
      clear hry
      go_wp2_with (first | go_skip | refine tP ?_ | (refine tB ?_; clear hL; intro _ _ hL _))
      refine (KC.out r _ _ hL.vw leX).mono ?_
      rintro e Wc2 ⟨_, mc2, rfl, hE, hMc2, hV, rfl⟩
      replace hL := hL.call hE (by assumption) hV; clear hE hV
      rw [HIN.out]
      go_wp2_with (first | go_skip | refine tP ?_ | (refine tB ?_; clear hL; intro _ _ hL _))
      go_roundw
      case rel => exact ⟨j + 1 + 1, _, by omega, by go_num, hL, HJ2.out, HP2.out⟩
      case measure => simp [intOf] <;> omega
   ·have HF : Hid (cutB rws (xs, dv) = false) := cutB_no1 (List.mem_of_getElem? hr) hin
    have HIN : Hid (decide (r ∈ rws) = false) := decide_eq_false hin
    clear hr hin
    go_wp2_with (first | go_skip | refine tP ?_ | (refine tB ?_; clear hL; intro _ _ hL _))
    refine (KC.out r _ _ hL.vw leX).mono ?_
    rintro e Wc2 ⟨_, mc2, rfl, hE, hMc2, hV, rfl⟩
    replace hL := hL.call hE (by assumption) hV; clear hE hV
    rw [HIN.out]
    go_wp2_with (first | go_skip | refine tP ?_ | (refine tB ?_; clear hL; intro _ _ hL _))
    go_ret
    exact RetV.mk hL (by rw [HEZ.out, HF.out]; rfl)
  ·have hkn : k = n := by omega
   subst hkn
   have HC := Lib.hid (HE.out (pw_end HN.out (by omega) HP.out) (allR_end (by rw [HN.out]; omega) HJ.out))
   have h9 : (k : Int) ≤ (k : Int) := Int.le_refl _
   clear HJ HP HE
   by_cases d1 : 2 ≤ dv
   ·have b1 : decide (dv < 2) = false := decide_eq_false (by omega)
    by_cases d2 : dv ≤ (k : Int)
    ·rw [decide_eq_true d1, decide_eq_true d2] at HC
     have b2 : decide (dv > (k : Int)) = false := decide_eq_false (by omega)
     go_wp2_with (first | go_skip | refine tP ?_ | (refine tB ?_; clear hL; intro _ _ hL _))
     go_ret
     exact RetV.mk hL (by rw [HEZ.out, HC.out]; rfl)
    ·rw [decide_eq_true d1, decide_eq_false d2] at HC
     have d2' : dv > (k : Int) := by omega
     have b2 : decide (dv > (k : Int)) = true := decide_eq_true d2'
     clear d2
     go_wp2_with (first | go_skip | refine tP ?_ | (refine tB ?_; clear hL; intro _ _ hL _))
     go_ret
     exact RetV.mk hL (by rw [HEZ.out, HC.out]; rfl)
   ·rw [decide_eq_false d1] at HC
    have d1' : dv < 2 := by omega
    have b1 : decide (dv < 2) = true := decide_eq_true d1'
    clear d1
    go_wp2_with (first | go_skip | refine tP ?_ | (refine tB ?_; clear hL; intro _ _ hL _))
    go_ret
    exact RetV.mk hL (by rw [HEZ.out, HC.out]; rfl)
end Go.Proofs.YtmhkmmmompediaaGreat

/- Contracts of cuts.Violation and pairingref27.Violation. -/
namespace Go.Proofs.YtmhkmmmompediaaGreat
open Go.RowKit

theorem cutB_ok {rws : List Int} {x : Cut} (h : cutB rws x = true) (hl : x.1.length ≤ 1000000) : CutOk rws x := by
 unfold cutB at h
 simp only [Bool.and_eq_true, decide_eq_true_eq] at h
 exact ⟨ascP_of h.1.1.1, h.1.1.2, h.1.2, h.2, hl⟩

theorem u_Violation_ok (mv xv : Value) (ms : Ms) (x : Cut) (vv : Value) (us : List Rat) (w m : World) (hV : Vw m w) (hm : MasterR m mv ms) (hx : CutR m xv x) (hvv : FracL m vv us) (ok : VOk ms us) (hc : cutB ms.rows x = true) :
  Calls Tryz.prog 37 #[mv, xv, vv] w (RetV w m fun m' r => BvR m' r (vioF x ms.cols us).num (vioF x ms.cols us).den 0) := by
 have HM := Lib.hid hm
 have HX := Lib.hid hx
 obtain ⟨A, nr, ca, B, nc, cb, C, nk, cc, rfl, hm1⟩ := hm.lit
 have hnc := master_nc hm1
 obtain ⟨xs, dv⟩ := x
 obtain ⟨sv, rfl, hs, o5⟩ := hx
 simp only at hs o5
 obtain ⟨X, c9, rfl, hc9, hs⟩ := hs.lit
 have HVV := Lib.hid hvv
 obtain ⟨V, cv, rfl, hcv, hvv⟩ := hvv.lit
 have hcl := cutB_ok hc o5
 have KV : Hid (∀ w m', Vw m' w → Le m m' → Calls Tryz.prog 33 #[.agg #[.int .i64 ms.nf, .slice A nr ca, .int .i64 ms.pen, .slice B nc cb, .slice C nk cc], .agg #[.slice X xs.length c9, .int .i64 dv]] w (RetV w m' fun _ r => r = .int .i64 0)) := by
  show ∀ w m', _
  intro w m' hV hle
  have h := u_Validate _ _ ms (xs, dv) w m' hV (HM.out.le hle) (HX.out.le hle) ok.ms
  rw [if_pos hc] at h
  exact h
 have KW : Hid (∀ w m', Vw m' w → Le m m' → Calls Tryz.prog 97 #[.agg #[.int .i64 ms.nf, .slice A nr ca, .int .i64 ms.pen, .slice B nc cb, .slice C nk cc], .agg #[.slice X xs.length c9, .int .i64 dv], .slice V us.length cv] w (RetV w m' fun m' r => FracC m' r (vioF (xs, dv) ms.cols us))) := by
  show ∀ w m', _
  exact fun w m' hV hle => u_violation _ _ _ ms (xs, dv) us w m' hV (HM.out.le hle) (HX.out.le hle) (FracL.le HVV.out hle) ok hcl
 have hul : us.length = nc := ok.len.trans hnc.symm
 rw [hul] at KW hcv ⊢
 have hL := Loc.start hV
 clear hV hs hm1 HM HX hc o5 ok hvv hcl HVV hul hnc
 generalize ms.nf = nf at *
 generalize ms.pen = pen at *
 generalize xs.length = nx at *
 generalize vioF (xs, dv) ms.cols us = q at *
 go_enter Tryz.func37, Tryz.ntmps37
 go_upto_region 0 with (fail)
 refine wp_region_lit ?_
 refine t_box hL rfl rfl ?_; clear hL; intro Wh3 mh3 hL eh3; simp only [Act.put, zq1, zq2, zq3]
 refine t_box hL rfl rfl ?_; clear hL; intro Wh4 mh4 hL eh4; simp only [Act.put, zq1, zq2, zq3]
 refine t_alloc hL rfl ?_; clear hL; intro Wh6 mh6 hL eh6; simp only [Act.put, zq1, zq2, zq3]
 go_wp2_with (first | go_skip | refine tP ?_ | (refine tS ?_; clear hL; intro _ hL) | (refine tB ?_; clear hL; intro _ _ hL _))
 refine (KV.out _ _ hL.vw leX).mono ?_
 rintro e Wc1 ⟨_, mc1, rfl, hE, hMc1, hV, rfl⟩
 replace hL := hL.call hE (by assumption) hV; clear hE hV
 go_wp2_with (first | go_skip | refine tP ?_ | (refine tS ?_; clear hL; intro _ hL) | (refine tB ?_; clear hL; intro _ _ hL _))
 refine (KW.out _ _ hL.vw leX).mono ?_
 rintro e Wc2 ⟨vc2, mc2, rfl, hE, hMc2, hV, hc2⟩
 replace hL := hL.call hE (by assumption) hV; clear hE hV
 obtain ⟨gc2', Ac2', nc2', cc2', hc2', Bc2', kc2', dc2', rfl, hc2⟩ := hc2.lit
 go_wp2_with (first | go_skip | refine tP ?_ | (refine tS ?_; clear hL; intro _ hL) | (refine tB ?_; clear hL; intro _ _ hL _))
 refine fin_aggT hL Tryz.results37 rfl rfl loX ag_Frac (by exact rfl) rfl (hL.sub (List.nil_sublist _)) ?_
 exact ⟨_, rfl, (hc2.le leX).toP⟩

end Go.Proofs.YtmhkmmmompediaaGreat

/- Contracts of cuts.Tight and pairingref27.Tight. -/
namespace Go.Proofs.YtmhkmmmompediaaGreat
open Go.RowKit

theorem VOk.vio {x : Ms} {us : List Rat} (ok : VOk x us) {c : Cut} (hc : CutOk x.rows c) : Tw 60000 (vioF c x.cols us) :=
 vioT_tw' (hc.len32 ok.ms.r1) (fun _ h => ok.col_len h) ok.tw ok.few _ (Nat.le_refl _)

end Go.Proofs.YtmhkmmmompediaaGreat
