/- Part 6 of 7 of the proof: the laws BranchChildren and BranchFits return true for every input, and its arguments read as before; there is no condition. -/
import Derived.Test.YtmhkmmmompediaaGreatRows
import Derived.Test.YtmhkmmmompediaaGreatBR5
set_option linter.unusedVariables false
set_option linter.unusedSimpArgs false
/- Contracts of enumerate.allows, AllowedFlights and Allowed. -/
namespace Go.Proofs.YtmhkmmmompediaaGreat
open Go.RowKit

def folN (l : List Int) (p q : Int) (k : Nat) : Nat := ((pairsOf l).take k).count (p, q)
def alw (x : Dec) (l : List Int) : Bool :=
  if x.2.2 then (l.count x.1 == 0 && l.count x.2.1 == 0) || (l.count x.1 == 1 && (l.count x.2.1 == 1 && folN l x.1 x.2.1 l.length == 1)) else folN l x.1 x.2.1 l.length == 0
theorem folN_step {l : List Int} {p q a b : Int} {j : Nat} (ha : l[j]? = some a) (hb : l[j + 1]? = some b) : folN l p q (j + 1) = folN l p q j + (if a = p ∧ b = q then 1 else 0) := by
  unfold folN
  rw [List.take_add_one, pairs_at ha hb, List.count_append]
  simp only [Option.toList, List.count_singleton]
  by_cases h : a = p ∧ b = q
  · rw [if_pos h, h.1, h.2]; simp
  · rw [if_neg h]
    have : ((a, b) == (p, q)) = false := by
      simp only [beq_eq_false_iff_ne, ne_eq, Prod.mk.injEq]; exact h
    rw [this]; rfl
theorem folN_end {l : List Int} {p q : Int} {k : Nat} (h : l.length ≤ k + 1) : folN l p q k = folN l p q l.length := by
  unfold folN
  rw [List.take_of_length_le (by rw [pairs_len]; omega), List.take_of_length_le (by rw [pairs_len]; omega)]
theorem folN_le {l : List Int} {p q : Int} {k : Nat} : folN l p q k ≤ k := Nat.le_trans List.count_le_length (by simp; omega)
theorem cnt_step {l : List Int} {t x : Int} {k : Nat} (hx : l[k]? = some x) : (((l.take (k + 1)).count t : Nat) : Int) = ((l.take k).count t : Int) + (if x = t then 1 else 0) := by
  rw [count_step hx]; split <;> simp

theorem nat_beq (a b : Nat) : (a == b) = ((a : Int) == (b : Int)) := by
  by_cases h : a = b
  · simp [h]
  · have h' : ¬ (a : Int) = (b : Int) := by omega
    rw [beq_eq_false_iff_ne.2 h, beq_eq_false_iff_ne.2 h']
set_option maxRecDepth 100000 in
set_option maxHeartbeats 64000000 in
theorem e_allows (x : Dec) (v : Value) (l : List Int) (w m : World) (hV : Vw m w) (h : IntL m v l) (hl : l.length ≤ 1000000) :
    Calls Tryz.prog 199 #[.agg #[.int .i64 x.1, .int .i64 x.2.1, .bool x.2.2], v] w (RetV w m fun _ r => r = .bool (alw x l)) := by
  obtain ⟨p, q, tg⟩ := x
  obtain ⟨A, c, rfl, hc, h⟩ := h.lit
  have hL := Loc.start hV
  clear hV
  generalize hn : l.length = n at *
  have HN := Lib.hid hn
  clear hn
  simp only
  go_enter Tryz.func199, Tryz.ntmps199
  go_upto_region 0 with (fail)
  refine wp_region_lit ?_
  refine t_box hL rfl rfl ?_; clear hL; intro Wh2 mh2 hL eh2; simp only [Act.put, zq1, zq2, zq3]
  go_wp2_with (first | ((with_reducible refine kAny ?_); go_skip) | (with_reducible refine stA ?_) | ((first | refine tIx ?_ | refine tFd ?_ | refine tLd ?_ | (refine tBx ?_; clear hL; intro _ _ hL _)); simp only [Act.put, zq1, zq2, zq3]))
  go_loopw [12, 5, 6, 7] (fun i f1 f2 f3 wr => ∃ (k : Nat) (mm : World) (z1 z2 z3 : Int), k ≤ n ∧ i = .int .i64 k ∧ f1 = .int .i64 z1 ∧ f2 = .int .i64 z2 ∧ f3 = .int .i64 z3 ∧ Hid (z1 = ((l.take k).count p : Int) ∧ z2 = ((l.take k).count q : Int) ∧ z3 = (folN l p q (k - 1) : Int)) ∧ Loc w m wr mm [(w.heap.size, 87, #[.int .i64 p, .int .i64 q, .bool tg])]) (fun i _ _ _ _ => n - (intOf i).toNat)
  case atStart => exact ⟨0, _, 0, 0, 0, Nat.zero_le _, rfl, rfl, rfl, rfl, ⟨rfl, rfl, rfl⟩, hL⟩
  case round =>
    clear hL
    obtain ⟨k, mm, z1, z2, z3, hk, rfl, rfl, rfl, rfl, HZ, hL⟩ := hrel
    have hM := hL.mext
    have hzb : 0 ≤ z1 ∧ z1 ≤ 1000000 ∧ 0 ≤ z2 ∧ z2 ≤ 1000000 ∧ 0 ≤ z3 ∧ z3 ≤ 1000000 := by
      obtain ⟨a1, a2, a3⟩ := HZ.out
      have b1 := count_le (xs := l) (t := p) (k := k)
      have b2 := count_le (xs := l) (t := q) (k := k)
      have b3 := folN_le (l := l) (p := p) (q := q) (k := k - 1)
      omega
    have w1 : wrap64 (z1 + 1) = z1 + 1 := by unfold wrap64; omega
    have w2 : wrap64 (z2 + 1) = z2 + 1 := by unfold wrap64; omega
    have w3 : wrap64 (z3 + 1) = z3 + 1 := by unfold wrap64; omega
    clear hzb
    by_cases hlt : k < n
    · obtain ⟨f, hf⟩ := at_some HN hlt
      obtain ⟨b1, o1, rfl, hc1⟩ := IntL.at_ h hf
      have HF := Lib.hid hf
      clear hf
      by_cases hk0 : k = 0
      · subst hk0
        by_cases ha : f = p
        · by_cases hb : f = q
          · have HW : Hid (z1 + 1 = ((l.take (0 + 1)).count p : Int) ∧ z2 + 1 = ((l.take (0 + 1)).count q : Int) ∧ z3 = (folN l p q (0 + 1 - 1) : Int)) := by
              obtain ⟨a1, a2, a3⟩ := HZ.out
              refine ⟨?_, ?_, ?_⟩
              · rw [cnt_step HF.out, if_pos ha, a1]
              · rw [cnt_step HF.out, if_pos hb, a2]
              · rw [a3]
            clear HZ
            subst ha
            subst hb
            go_upto_region 9 with ((first | ((with_reducible refine kAny ?_); go_skip) | (with_reducible refine stA ?_) | ((first | refine tIx ?_ | refine tFd ?_ | refine tLd ?_ | (refine tBx ?_; clear hL; intro _ _ hL _)); simp only [Act.put, zq1, zq2, zq3])))
            (try simp only [eq_self] at *)
            refine wp_region_by2 18 [false, false, false, false, false, false, false, false, false, false, false, false, false, false, false, false, false, false] [false, false, false, false, false, false, false, false, false, false, false, false, false, false, false, false, false, false] [(fun v _ _ => v = ?c9_0a), (fun v _ _ => v = ?c9_1a), (fun v _ _ => v = ?c9_2a), (fun v _ _ => v = ?c9_3a), (fun v _ _ => v = ?c9_4a), (fun v _ _ => v = ?c9_5a), (fun v _ _ => v = ?c9_6a), (fun v _ _ => v = ?c9_7a), (fun v _ _ => v = ?c9_8a), (fun v _ _ => v = ?c9_9a), (fun v _ _ => v = ?c9_10a), (fun v _ _ => v = ?c9_11a), (fun v _ _ => v = ?c9_12a), (fun v _ _ => v = ?c9_13a), (fun v _ _ => v = ?c9_14a), (fun v _ _ => v = ?c9_15a), (fun v _ _ => v = ?c9_16a), (fun v _ _ => v = ?c9_17a)] hL.vw mixed [29, 30, 31, 32, 33, 34, 35, 36, 37, 38, 39, 40, 41, 42, 43, 44, 45, 46] _ (by kernel_rfl) (fun vs => by simp only [lay, Act.put, zq1, zq2, zq3]; rfl) (by kernel_rfl) (by decide) (by decide) ?s9a ?l9a ?r9a
            case s9a =>
              refine ⟨?_, ?_, ?_, ?_, ?_, ?_, ?_, ?_, ?_, ?_, ?_, ?_, ?_, ?_, ?_, ?_, ?_, ?_, trivial⟩
              · intro vs W1 m1 hE hM hV hD; clear hD; replace hL := hL.call hE hM hV
                exact sPu
              · intro vs W1 m1 hE hM hV hD; obtain ⟨⟨_, _, -, -, f29⟩, -⟩ := hD; have f29 : vs 29 = _ := f29; generalize vs 29 = x29 at f29 ⊢; subst x29; replace hL := hL.call hE hM hV
                exact sPu
              · intro vs W1 m1 hE hM hV hD; obtain ⟨⟨_, _, -, -, f30⟩, -⟩ := hD; have f30 : vs 30 = _ := f30; generalize vs 30 = x30 at f30 ⊢; subst x30; replace hL := hL.call hE hM hV
                exact sPu
              · intro vs W1 m1 hE hM hV hD; obtain ⟨⟨_, _, -, -, f31⟩, -⟩ := hD; have f31 : vs 31 = _ := f31; generalize vs 31 = x31 at f31 ⊢; subst x31; replace hL := hL.call hE hM hV
                exact sPu
              · intro vs W1 m1 hE hM hV hD; obtain ⟨⟨_, _, -, -, f31⟩, -⟩ := hD; have f31 : vs 31 = _ := f31; generalize vs 31 = x31 at f31 ⊢; subst x31; replace hL := hL.call hE hM hV
                exact sPu
              · intro vs W1 m1 hE hM hV hD; obtain ⟨⟨_, _, -, -, f33⟩, ⟨_, _, -, -, f31⟩, -⟩ := hD; have f33 : vs 33 = _ := f33; generalize vs 33 = x33 at f33 ⊢; subst x33; have f31 : vs 31 = _ := f31; generalize vs 31 = x31 at f31 ⊢; subst x31; replace hL := hL.call hE hM hV
                exact sPu
              · intro vs W1 m1 hE hM hV hD; obtain ⟨⟨_, _, -, -, f32⟩, ⟨_, _, -, -, f34⟩, ⟨_, _, -, -, f31⟩, -⟩ := hD; have f32 : vs 32 = _ := f32; generalize vs 32 = x32 at f32 ⊢; subst x32; have f34 : vs 34 = _ := f34; generalize vs 34 = x34 at f34 ⊢; subst x34; have f31 : vs 31 = _ := f31; generalize vs 31 = x31 at f31 ⊢; subst x31; replace hL := hL.call hE hM hV
                exact sPu
              · intro vs W1 m1 hE hM hV hD; obtain ⟨⟨_, _, -, -, f31⟩, ⟨_, _, -, -, f35⟩, -⟩ := hD; have f31 : vs 31 = _ := f31; generalize vs 31 = x31 at f31 ⊢; subst x31; have f35 : vs 35 = _ := f35; generalize vs 35 = x35 at f35 ⊢; subst x35; replace hL := hL.call hE hM hV
                exact sPu
              · intro vs W1 m1 hE hM hV hD; obtain ⟨⟨_, _, -, -, f36⟩, -, -⟩ := hD; have f36 : vs 36 = _ := f36; generalize vs 36 = x36 at f36 ⊢; subst x36; replace hL := hL.call hE hM hV
                exact sPu
              · intro vs W1 m1 hE hM hV hD; obtain ⟨⟨_, _, -, -, f37⟩, -⟩ := hD; have f37 : vs 37 = _ := f37; generalize vs 37 = x37 at f37 ⊢; subst x37; replace hL := hL.call hE hM hV
                exact sPu
              · intro vs W1 m1 hE hM hV hD; obtain ⟨⟨_, _, -, -, f37⟩, -⟩ := hD; have f37 : vs 37 = _ := f37; generalize vs 37 = x37 at f37 ⊢; subst x37; replace hL := hL.call hE hM hV
                exact sPu
              · intro vs W1 m1 hE hM hV hD; obtain ⟨⟨_, _, -, -, f39⟩, ⟨_, _, -, -, f37⟩, -⟩ := hD; have f39 : vs 39 = _ := f39; generalize vs 39 = x39 at f39 ⊢; subst x39; have f37 : vs 37 = _ := f37; generalize vs 37 = x37 at f37 ⊢; subst x37; replace hL := hL.call hE hM hV
                exact sPu
              · intro vs W1 m1 hE hM hV hD; obtain ⟨⟨_, _, -, -, f38⟩, ⟨_, _, -, -, f40⟩, ⟨_, _, -, -, f37⟩, -⟩ := hD; have f38 : vs 38 = _ := f38; generalize vs 38 = x38 at f38 ⊢; subst x38; have f40 : vs 40 = _ := f40; generalize vs 40 = x40 at f40 ⊢; subst x40; have f37 : vs 37 = _ := f37; generalize vs 37 = x37 at f37 ⊢; subst x37; replace hL := hL.call hE hM hV
                exact sPu
              · intro vs W1 m1 hE hM hV hD; obtain ⟨⟨_, _, -, -, f41⟩, ⟨_, _, -, -, f37⟩, -⟩ := hD; have f41 : vs 41 = _ := f41; generalize vs 41 = x41 at f41 ⊢; subst x41; have f37 : vs 37 = _ := f37; generalize vs 37 = x37 at f37 ⊢; subst x37; replace hL := hL.call hE hM hV
                exact sPu
              · intro vs W1 m1 hE hM hV hD; obtain ⟨⟨_, _, -, -, f37⟩, -⟩ := hD; have f37 : vs 37 = _ := f37; generalize vs 37 = x37 at f37 ⊢; subst x37; replace hL := hL.call hE hM hV
                exact sPu
              · intro vs W1 m1 hE hM hV hD; obtain ⟨⟨_, _, -, -, f43⟩, ⟨_, _, -, -, f37⟩, -⟩ := hD; have f43 : vs 43 = _ := f43; generalize vs 43 = x43 at f43 ⊢; subst x43; have f37 : vs 37 = _ := f37; generalize vs 37 = x37 at f37 ⊢; subst x37; replace hL := hL.call hE hM hV
                exact sPu
              · intro vs W1 m1 hE hM hV hD; obtain ⟨⟨_, _, -, -, f42⟩, ⟨_, _, -, -, f44⟩, ⟨_, _, -, -, f37⟩, -⟩ := hD; have f42 : vs 42 = _ := f42; generalize vs 42 = x42 at f42 ⊢; subst x42; have f44 : vs 44 = _ := f44; generalize vs 44 = x44 at f44 ⊢; subst x44; have f37 : vs 37 = _ := f37; generalize vs 37 = x37 at f37 ⊢; subst x37; replace hL := hL.call hE hM hV
                exact sPu
              · intro vs W1 m1 hE hM hV hD; obtain ⟨⟨_, _, -, -, f37⟩, ⟨_, _, -, -, f45⟩, -⟩ := hD; have f37 : vs 37 = _ := f37; generalize vs 37 = x37 at f37 ⊢; subst x37; have f45 : vs 45 = _ := f45; generalize vs 45 = x45 at f45 ⊢; subst x45; replace hL := hL.call hE hM hV
                exact sPu
            case l9a =>
              refine ⟨fun h => (by cases h), fun h => (by cases h), fun h => (by cases h), fun h => (by cases h), fun h => (by cases h), fun h => (by cases h), fun h => (by cases h), fun h => (by cases h), fun h => (by cases h), fun h => (by cases h), fun h => (by cases h), fun h => (by cases h), fun h => (by cases h), fun h => (by cases h), fun h => (by cases h), fun h => (by cases h), fun h => (by cases h), fun h => (by cases h), trivial⟩
            intro vs W1 m1 hE hM hV hF hD
            clear hD
            obtain ⟨⟨_, _, -, -, f29⟩, ⟨_, _, -, -, f30⟩, ⟨_, _, -, -, f31⟩, ⟨_, _, -, -, f32⟩, ⟨_, _, -, -, f33⟩, ⟨_, _, -, -, f34⟩, ⟨_, _, -, -, f35⟩, ⟨_, _, -, -, f36⟩, ⟨_, _, -, -, f37⟩, ⟨_, _, -, -, f38⟩, ⟨_, _, -, -, f39⟩, ⟨_, _, -, -, f40⟩, ⟨_, _, -, -, f41⟩, ⟨_, _, -, -, f42⟩, ⟨_, _, -, -, f43⟩, ⟨_, _, -, -, f44⟩, ⟨_, _, -, -, f45⟩, ⟨_, _, -, -, f46⟩, -⟩ := hF
            replace hL := hL.call hE hM hV
            have f29 : vs 29 = _ := f29
            generalize vs 29 = x29 at f29 ⊢
            subst x29
            have f30 : vs 30 = _ := f30
            generalize vs 30 = x30 at f30 ⊢
            subst x30
            have f31 : vs 31 = _ := f31
            generalize vs 31 = x31 at f31 ⊢
            subst x31
            have f32 : vs 32 = _ := f32
            generalize vs 32 = x32 at f32 ⊢
            subst x32
            have f33 : vs 33 = _ := f33
            generalize vs 33 = x33 at f33 ⊢
            subst x33
            have f34 : vs 34 = _ := f34
            generalize vs 34 = x34 at f34 ⊢
            subst x34
            have f35 : vs 35 = _ := f35
            generalize vs 35 = x35 at f35 ⊢
            subst x35
            have f36 : vs 36 = _ := f36
            generalize vs 36 = x36 at f36 ⊢
            subst x36
            have f37 : vs 37 = _ := f37
            generalize vs 37 = x37 at f37 ⊢
            subst x37
            have f38 : vs 38 = _ := f38
            generalize vs 38 = x38 at f38 ⊢
            subst x38
            have f39 : vs 39 = _ := f39
            generalize vs 39 = x39 at f39 ⊢
            subst x39
            have f40 : vs 40 = _ := f40
            generalize vs 40 = x40 at f40 ⊢
            subst x40
            have f41 : vs 41 = _ := f41
            generalize vs 41 = x41 at f41 ⊢
            subst x41
            have f42 : vs 42 = _ := f42
            generalize vs 42 = x42 at f42 ⊢
            subst x42
            have f43 : vs 43 = _ := f43
            generalize vs 43 = x43 at f43 ⊢
            subst x43
            have f44 : vs 44 = _ := f44
            generalize vs 44 = x44 at f44 ⊢
            subst x44
            have f45 : vs 45 = _ := f45
            generalize vs 45 = x45 at f45 ⊢
            subst x45
            have f46 : vs 46 = _ := f46
            generalize vs 46 = x46 at f46 ⊢
            subst x46
            clear hE hV
            simp only [List.drop_succ_cons, List.drop_zero]
            go_wp2_with (first | ((with_reducible refine kAny ?_); go_skip) | (with_reducible refine stA ?_) | ((first | refine tIx ?_ | refine tFd ?_ | refine tLd ?_ | (refine tBx ?_; clear hL; intro _ _ hL _)); simp only [Act.put, zq1, zq2, zq3]))
            refine QN.mk ?_
            go_wp2_with (first | ((with_reducible refine kAny ?_); go_skip) | (with_reducible refine stA ?_) | ((first | refine tIx ?_ | refine tFd ?_ | refine tLd ?_ | (refine tBx ?_; clear hL; intro _ _ hL _)); simp only [Act.put, zq1, zq2, zq3]))
            go_roundw
            case rel => exact ⟨1, _, z1 + 1, z2 + 1, z3, by omega, by go_num, by go_num, by go_num, by go_num, HW.out, hL⟩
            case measure => simp [intOf] <;> omega
          · have HW : Hid (z1 + 1 = ((l.take (0 + 1)).count p : Int) ∧ z2 = ((l.take (0 + 1)).count q : Int) ∧ z3 = (folN l p q (0 + 1 - 1) : Int)) := by
              obtain ⟨a1, a2, a3⟩ := HZ.out
              refine ⟨?_, ?_, ?_⟩
              · rw [cnt_step HF.out, if_pos ha, a1]
              · rw [cnt_step HF.out, if_neg hb, a2]; omega
              · rw [a3]
            clear HZ
            subst ha
            go_upto_region 9 with ((first | ((with_reducible refine kAny ?_); go_skip) | (with_reducible refine stA ?_) | ((first | refine tIx ?_ | refine tFd ?_ | refine tLd ?_ | (refine tBx ?_; clear hL; intro _ _ hL _)); simp only [Act.put, zq1, zq2, zq3])))
            (try simp only [eq_self] at *)
            refine wp_region_by2 18 [false, false, false, false, false, false, false, false, false, false, false, false, false, false, false, false, false, false] [false, false, false, false, false, false, false, false, false, false, false, false, false, false, false, false, false, false] [(fun v _ _ => v = ?c9_0b), (fun v _ _ => v = ?c9_1b), (fun v _ _ => v = ?c9_2b), (fun v _ _ => v = ?c9_3b), (fun v _ _ => v = ?c9_4b), (fun v _ _ => v = ?c9_5b), (fun v _ _ => v = ?c9_6b), (fun v _ _ => v = ?c9_7b), (fun v _ _ => v = ?c9_8b), (fun v _ _ => v = ?c9_9b), (fun v _ _ => v = ?c9_10b), (fun v _ _ => v = ?c9_11b), (fun v _ _ => v = ?c9_12b), (fun v _ _ => v = ?c9_13b), (fun v _ _ => v = ?c9_14b), (fun v _ _ => v = ?c9_15b), (fun v _ _ => v = ?c9_16b), (fun v _ _ => v = ?c9_17b)] hL.vw mixed [29, 30, 31, 32, 33, 34, 35, 36, 37, 38, 39, 40, 41, 42, 43, 44, 45, 46] _ (by kernel_rfl) (fun vs => by simp only [lay, Act.put, zq1, zq2, zq3]; rfl) (by kernel_rfl) (by decide) (by decide) ?s9b ?l9b ?r9b
            case s9b =>
              refine ⟨?_, ?_, ?_, ?_, ?_, ?_, ?_, ?_, ?_, ?_, ?_, ?_, ?_, ?_, ?_, ?_, ?_, ?_, trivial⟩
              · intro vs W1 m1 hE hM hV hD; clear hD; replace hL := hL.call hE hM hV
                exact sPu
              · intro vs W1 m1 hE hM hV hD; obtain ⟨⟨_, _, -, -, f29⟩, -⟩ := hD; have f29 : vs 29 = _ := f29; generalize vs 29 = x29 at f29 ⊢; subst x29; replace hL := hL.call hE hM hV
                exact sPu
              · intro vs W1 m1 hE hM hV hD; obtain ⟨⟨_, _, -, -, f30⟩, -⟩ := hD; have f30 : vs 30 = _ := f30; generalize vs 30 = x30 at f30 ⊢; subst x30; replace hL := hL.call hE hM hV
                exact sPu
              · intro vs W1 m1 hE hM hV hD; obtain ⟨⟨_, _, -, -, f31⟩, -⟩ := hD; have f31 : vs 31 = _ := f31; generalize vs 31 = x31 at f31 ⊢; subst x31; replace hL := hL.call hE hM hV
                exact sPu
              · intro vs W1 m1 hE hM hV hD; obtain ⟨⟨_, _, -, -, f31⟩, -⟩ := hD; have f31 : vs 31 = _ := f31; generalize vs 31 = x31 at f31 ⊢; subst x31; replace hL := hL.call hE hM hV
                exact sPu
              · intro vs W1 m1 hE hM hV hD; obtain ⟨⟨_, _, -, -, f33⟩, ⟨_, _, -, -, f31⟩, -⟩ := hD; have f33 : vs 33 = _ := f33; generalize vs 33 = x33 at f33 ⊢; subst x33; have f31 : vs 31 = _ := f31; generalize vs 31 = x31 at f31 ⊢; subst x31; replace hL := hL.call hE hM hV
                exact sPu
              · intro vs W1 m1 hE hM hV hD; obtain ⟨⟨_, _, -, -, f32⟩, ⟨_, _, -, -, f34⟩, ⟨_, _, -, -, f31⟩, -⟩ := hD; have f32 : vs 32 = _ := f32; generalize vs 32 = x32 at f32 ⊢; subst x32; have f34 : vs 34 = _ := f34; generalize vs 34 = x34 at f34 ⊢; subst x34; have f31 : vs 31 = _ := f31; generalize vs 31 = x31 at f31 ⊢; subst x31; replace hL := hL.call hE hM hV
                exact sPu
              · intro vs W1 m1 hE hM hV hD; obtain ⟨⟨_, _, -, -, f31⟩, ⟨_, _, -, -, f35⟩, -⟩ := hD; have f31 : vs 31 = _ := f31; generalize vs 31 = x31 at f31 ⊢; subst x31; have f35 : vs 35 = _ := f35; generalize vs 35 = x35 at f35 ⊢; subst x35; replace hL := hL.call hE hM hV
                exact sPu
              · intro vs W1 m1 hE hM hV hD; obtain ⟨⟨_, _, -, -, f36⟩, -, -⟩ := hD; have f36 : vs 36 = _ := f36; generalize vs 36 = x36 at f36 ⊢; subst x36; replace hL := hL.call hE hM hV
                exact sPu
              · intro vs W1 m1 hE hM hV hD; obtain ⟨⟨_, _, -, -, f37⟩, -⟩ := hD; have f37 : vs 37 = _ := f37; generalize vs 37 = x37 at f37 ⊢; subst x37; replace hL := hL.call hE hM hV
                exact sPu
              · intro vs W1 m1 hE hM hV hD; obtain ⟨⟨_, _, -, -, f37⟩, -⟩ := hD; have f37 : vs 37 = _ := f37; generalize vs 37 = x37 at f37 ⊢; subst x37; replace hL := hL.call hE hM hV
                exact sPu
              · intro vs W1 m1 hE hM hV hD; obtain ⟨⟨_, _, -, -, f39⟩, ⟨_, _, -, -, f37⟩, -⟩ := hD; have f39 : vs 39 = _ := f39; generalize vs 39 = x39 at f39 ⊢; subst x39; have f37 : vs 37 = _ := f37; generalize vs 37 = x37 at f37 ⊢; subst x37; replace hL := hL.call hE hM hV
                exact sPu
              · intro vs W1 m1 hE hM hV hD; obtain ⟨⟨_, _, -, -, f38⟩, ⟨_, _, -, -, f40⟩, ⟨_, _, -, -, f37⟩, -⟩ := hD; have f38 : vs 38 = _ := f38; generalize vs 38 = x38 at f38 ⊢; subst x38; have f40 : vs 40 = _ := f40; generalize vs 40 = x40 at f40 ⊢; subst x40; have f37 : vs 37 = _ := f37; generalize vs 37 = x37 at f37 ⊢; subst x37; replace hL := hL.call hE hM hV
                exact sPu
              · intro vs W1 m1 hE hM hV hD; obtain ⟨⟨_, _, -, -, f41⟩, ⟨_, _, -, -, f37⟩, -⟩ := hD; have f41 : vs 41 = _ := f41; generalize vs 41 = x41 at f41 ⊢; subst x41; have f37 : vs 37 = _ := f37; generalize vs 37 = x37 at f37 ⊢; subst x37; replace hL := hL.call hE hM hV
                exact sPu
              · intro vs W1 m1 hE hM hV hD; obtain ⟨⟨_, _, -, -, f37⟩, -⟩ := hD; have f37 : vs 37 = _ := f37; generalize vs 37 = x37 at f37 ⊢; subst x37; replace hL := hL.call hE hM hV
                exact sPu
              · intro vs W1 m1 hE hM hV hD; obtain ⟨⟨_, _, -, -, f43⟩, ⟨_, _, -, -, f37⟩, -⟩ := hD; have f43 : vs 43 = _ := f43; generalize vs 43 = x43 at f43 ⊢; subst x43; have f37 : vs 37 = _ := f37; generalize vs 37 = x37 at f37 ⊢; subst x37; replace hL := hL.call hE hM hV
                exact sPu
              · intro vs W1 m1 hE hM hV hD; obtain ⟨⟨_, _, -, -, f42⟩, ⟨_, _, -, -, f44⟩, ⟨_, _, -, -, f37⟩, -⟩ := hD; have f42 : vs 42 = _ := f42; generalize vs 42 = x42 at f42 ⊢; subst x42; have f44 : vs 44 = _ := f44; generalize vs 44 = x44 at f44 ⊢; subst x44; have f37 : vs 37 = _ := f37; generalize vs 37 = x37 at f37 ⊢; subst x37; replace hL := hL.call hE hM hV
                exact sPu
              · intro vs W1 m1 hE hM hV hD; obtain ⟨⟨_, _, -, -, f37⟩, ⟨_, _, -, -, f45⟩, -⟩ := hD; have f37 : vs 37 = _ := f37; generalize vs 37 = x37 at f37 ⊢; subst x37; have f45 : vs 45 = _ := f45; generalize vs 45 = x45 at f45 ⊢; subst x45; replace hL := hL.call hE hM hV
                exact sPu
            case l9b =>
              refine ⟨fun h => (by cases h), fun h => (by cases h), fun h => (by cases h), fun h => (by cases h), fun h => (by cases h), fun h => (by cases h), fun h => (by cases h), fun h => (by cases h), fun h => (by cases h), fun h => (by cases h), fun h => (by cases h), fun h => (by cases h), fun h => (by cases h), fun h => (by cases h), fun h => (by cases h), fun h => (by cases h), fun h => (by cases h), fun h => (by cases h), trivial⟩
            intro vs W1 m1 hE hM hV hF hD
            clear hD
            obtain ⟨⟨_, _, -, -, f29⟩, ⟨_, _, -, -, f30⟩, ⟨_, _, -, -, f31⟩, ⟨_, _, -, -, f32⟩, ⟨_, _, -, -, f33⟩, ⟨_, _, -, -, f34⟩, ⟨_, _, -, -, f35⟩, ⟨_, _, -, -, f36⟩, ⟨_, _, -, -, f37⟩, ⟨_, _, -, -, f38⟩, ⟨_, _, -, -, f39⟩, ⟨_, _, -, -, f40⟩, ⟨_, _, -, -, f41⟩, ⟨_, _, -, -, f42⟩, ⟨_, _, -, -, f43⟩, ⟨_, _, -, -, f44⟩, ⟨_, _, -, -, f45⟩, ⟨_, _, -, -, f46⟩, -⟩ := hF
            replace hL := hL.call hE hM hV
            have f29 : vs 29 = _ := f29
            generalize vs 29 = x29 at f29 ⊢
            subst x29
            have f30 : vs 30 = _ := f30
            generalize vs 30 = x30 at f30 ⊢
            subst x30
            have f31 : vs 31 = _ := f31
            generalize vs 31 = x31 at f31 ⊢
            subst x31
            have f32 : vs 32 = _ := f32
            generalize vs 32 = x32 at f32 ⊢
            subst x32
            have f33 : vs 33 = _ := f33
            generalize vs 33 = x33 at f33 ⊢
            subst x33
            have f34 : vs 34 = _ := f34
            generalize vs 34 = x34 at f34 ⊢
            subst x34
            have f35 : vs 35 = _ := f35
            generalize vs 35 = x35 at f35 ⊢
            subst x35
            have f36 : vs 36 = _ := f36
            generalize vs 36 = x36 at f36 ⊢
            subst x36
            have f37 : vs 37 = _ := f37
            generalize vs 37 = x37 at f37 ⊢
            subst x37
            have f38 : vs 38 = _ := f38
            generalize vs 38 = x38 at f38 ⊢
            subst x38
            have f39 : vs 39 = _ := f39
            generalize vs 39 = x39 at f39 ⊢
            subst x39
            have f40 : vs 40 = _ := f40
            generalize vs 40 = x40 at f40 ⊢
            subst x40
            have f41 : vs 41 = _ := f41
            generalize vs 41 = x41 at f41 ⊢
            subst x41
            have f42 : vs 42 = _ := f42
            generalize vs 42 = x42 at f42 ⊢
            subst x42
            have f43 : vs 43 = _ := f43
            generalize vs 43 = x43 at f43 ⊢
            subst x43
            have f44 : vs 44 = _ := f44
            generalize vs 44 = x44 at f44 ⊢
            subst x44
            have f45 : vs 45 = _ := f45
            generalize vs 45 = x45 at f45 ⊢
            subst x45
            have f46 : vs 46 = _ := f46
            generalize vs 46 = x46 at f46 ⊢
            subst x46
            clear hE hV
            simp only [List.drop_succ_cons, List.drop_zero]
            go_wp2_with (first | ((with_reducible refine kAny ?_); go_skip) | (with_reducible refine stA ?_) | ((first | refine tIx ?_ | refine tFd ?_ | refine tLd ?_ | (refine tBx ?_; clear hL; intro _ _ hL _)); simp only [Act.put, zq1, zq2, zq3]))
            refine QN.mk ?_
            go_wp2_with (first | ((with_reducible refine kAny ?_); go_skip) | (with_reducible refine stA ?_) | ((first | refine tIx ?_ | refine tFd ?_ | refine tLd ?_ | (refine tBx ?_; clear hL; intro _ _ hL _)); simp only [Act.put, zq1, zq2, zq3]))
            go_roundw
            case rel => exact ⟨1, _, z1 + 1, z2, z3, by omega, by go_num, by go_num, by go_num, by go_num, HW.out, hL⟩
            case measure => simp [intOf] <;> omega
        · by_cases hb : f = q
          · have HW : Hid (z1 = ((l.take (0 + 1)).count p : Int) ∧ z2 + 1 = ((l.take (0 + 1)).count q : Int) ∧ z3 = (folN l p q (0 + 1 - 1) : Int)) := by
              obtain ⟨a1, a2, a3⟩ := HZ.out
              refine ⟨?_, ?_, ?_⟩
              · rw [cnt_step HF.out, if_neg ha, a1]; omega
              · rw [cnt_step HF.out, if_pos hb, a2]
              · rw [a3]
            clear HZ
            subst hb
            go_upto_region 9 with ((first | ((with_reducible refine kAny ?_); go_skip) | (with_reducible refine stA ?_) | ((first | refine tIx ?_ | refine tFd ?_ | refine tLd ?_ | (refine tBx ?_; clear hL; intro _ _ hL _)); simp only [Act.put, zq1, zq2, zq3])))
            (try simp only [eq_self] at *)
            refine wp_region_by2 18 [false, false, false, false, false, false, false, false, false, false, false, false, false, false, false, false, false, false] [false, false, false, false, false, false, false, false, false, false, false, false, false, false, false, false, false, false] [(fun v _ _ => v = ?c9_0c), (fun v _ _ => v = ?c9_1c), (fun v _ _ => v = ?c9_2c), (fun v _ _ => v = ?c9_3c), (fun v _ _ => v = ?c9_4c), (fun v _ _ => v = ?c9_5c), (fun v _ _ => v = ?c9_6c), (fun v _ _ => v = ?c9_7c), (fun v _ _ => v = ?c9_8c), (fun v _ _ => v = ?c9_9c), (fun v _ _ => v = ?c9_10c), (fun v _ _ => v = ?c9_11c), (fun v _ _ => v = ?c9_12c), (fun v _ _ => v = ?c9_13c), (fun v _ _ => v = ?c9_14c), (fun v _ _ => v = ?c9_15c), (fun v _ _ => v = ?c9_16c), (fun v _ _ => v = ?c9_17c)] hL.vw mixed [29, 30, 31, 32, 33, 34, 35, 36, 37, 38, 39, 40, 41, 42, 43, 44, 45, 46] _ (by kernel_rfl) (fun vs => by simp only [lay, Act.put, zq1, zq2, zq3]; rfl) (by kernel_rfl) (by decide) (by decide) ?s9c ?l9c ?r9c
            case s9c =>
              refine ⟨?_, ?_, ?_, ?_, ?_, ?_, ?_, ?_, ?_, ?_, ?_, ?_, ?_, ?_, ?_, ?_, ?_, ?_, trivial⟩
              · intro vs W1 m1 hE hM hV hD; clear hD; replace hL := hL.call hE hM hV
                exact sPu
              · intro vs W1 m1 hE hM hV hD; obtain ⟨⟨_, _, -, -, f29⟩, -⟩ := hD; have f29 : vs 29 = _ := f29; generalize vs 29 = x29 at f29 ⊢; subst x29; replace hL := hL.call hE hM hV
                exact sPu
              · intro vs W1 m1 hE hM hV hD; obtain ⟨⟨_, _, -, -, f30⟩, -⟩ := hD; have f30 : vs 30 = _ := f30; generalize vs 30 = x30 at f30 ⊢; subst x30; replace hL := hL.call hE hM hV
                exact sPu
              · intro vs W1 m1 hE hM hV hD; obtain ⟨⟨_, _, -, -, f31⟩, -⟩ := hD; have f31 : vs 31 = _ := f31; generalize vs 31 = x31 at f31 ⊢; subst x31; replace hL := hL.call hE hM hV
                exact sPu
              · intro vs W1 m1 hE hM hV hD; obtain ⟨⟨_, _, -, -, f31⟩, -⟩ := hD; have f31 : vs 31 = _ := f31; generalize vs 31 = x31 at f31 ⊢; subst x31; replace hL := hL.call hE hM hV
                exact sPu
              · intro vs W1 m1 hE hM hV hD; obtain ⟨⟨_, _, -, -, f33⟩, ⟨_, _, -, -, f31⟩, -⟩ := hD; have f33 : vs 33 = _ := f33; generalize vs 33 = x33 at f33 ⊢; subst x33; have f31 : vs 31 = _ := f31; generalize vs 31 = x31 at f31 ⊢; subst x31; replace hL := hL.call hE hM hV
                exact sPu
              · intro vs W1 m1 hE hM hV hD; obtain ⟨⟨_, _, -, -, f32⟩, ⟨_, _, -, -, f34⟩, ⟨_, _, -, -, f31⟩, -⟩ := hD; have f32 : vs 32 = _ := f32; generalize vs 32 = x32 at f32 ⊢; subst x32; have f34 : vs 34 = _ := f34; generalize vs 34 = x34 at f34 ⊢; subst x34; have f31 : vs 31 = _ := f31; generalize vs 31 = x31 at f31 ⊢; subst x31; replace hL := hL.call hE hM hV
                exact sPu
              · intro vs W1 m1 hE hM hV hD; obtain ⟨⟨_, _, -, -, f31⟩, ⟨_, _, -, -, f35⟩, -⟩ := hD; have f31 : vs 31 = _ := f31; generalize vs 31 = x31 at f31 ⊢; subst x31; have f35 : vs 35 = _ := f35; generalize vs 35 = x35 at f35 ⊢; subst x35; replace hL := hL.call hE hM hV
                exact sPu
              · intro vs W1 m1 hE hM hV hD; obtain ⟨⟨_, _, -, -, f36⟩, -, -⟩ := hD; have f36 : vs 36 = _ := f36; generalize vs 36 = x36 at f36 ⊢; subst x36; replace hL := hL.call hE hM hV
                exact sPu
              · intro vs W1 m1 hE hM hV hD; obtain ⟨⟨_, _, -, -, f37⟩, -⟩ := hD; have f37 : vs 37 = _ := f37; generalize vs 37 = x37 at f37 ⊢; subst x37; replace hL := hL.call hE hM hV
                exact sPu
              · intro vs W1 m1 hE hM hV hD; obtain ⟨⟨_, _, -, -, f37⟩, -⟩ := hD; have f37 : vs 37 = _ := f37; generalize vs 37 = x37 at f37 ⊢; subst x37; replace hL := hL.call hE hM hV
                exact sPu
              · intro vs W1 m1 hE hM hV hD; obtain ⟨⟨_, _, -, -, f39⟩, ⟨_, _, -, -, f37⟩, -⟩ := hD; have f39 : vs 39 = _ := f39; generalize vs 39 = x39 at f39 ⊢; subst x39; have f37 : vs 37 = _ := f37; generalize vs 37 = x37 at f37 ⊢; subst x37; replace hL := hL.call hE hM hV
                exact sPu
              · intro vs W1 m1 hE hM hV hD; obtain ⟨⟨_, _, -, -, f38⟩, ⟨_, _, -, -, f40⟩, ⟨_, _, -, -, f37⟩, -⟩ := hD; have f38 : vs 38 = _ := f38; generalize vs 38 = x38 at f38 ⊢; subst x38; have f40 : vs 40 = _ := f40; generalize vs 40 = x40 at f40 ⊢; subst x40; have f37 : vs 37 = _ := f37; generalize vs 37 = x37 at f37 ⊢; subst x37; replace hL := hL.call hE hM hV
                exact sPu
              · intro vs W1 m1 hE hM hV hD; obtain ⟨⟨_, _, -, -, f41⟩, ⟨_, _, -, -, f37⟩, -⟩ := hD; have f41 : vs 41 = _ := f41; generalize vs 41 = x41 at f41 ⊢; subst x41; have f37 : vs 37 = _ := f37; generalize vs 37 = x37 at f37 ⊢; subst x37; replace hL := hL.call hE hM hV
                exact sPu
              · intro vs W1 m1 hE hM hV hD; obtain ⟨⟨_, _, -, -, f37⟩, -⟩ := hD; have f37 : vs 37 = _ := f37; generalize vs 37 = x37 at f37 ⊢; subst x37; replace hL := hL.call hE hM hV
                exact sPu
              · intro vs W1 m1 hE hM hV hD; obtain ⟨⟨_, _, -, -, f43⟩, ⟨_, _, -, -, f37⟩, -⟩ := hD; have f43 : vs 43 = _ := f43; generalize vs 43 = x43 at f43 ⊢; subst x43; have f37 : vs 37 = _ := f37; generalize vs 37 = x37 at f37 ⊢; subst x37; replace hL := hL.call hE hM hV
                exact sPu
              · intro vs W1 m1 hE hM hV hD; obtain ⟨⟨_, _, -, -, f42⟩, ⟨_, _, -, -, f44⟩, ⟨_, _, -, -, f37⟩, -⟩ := hD; have f42 : vs 42 = _ := f42; generalize vs 42 = x42 at f42 ⊢; subst x42; have f44 : vs 44 = _ := f44; generalize vs 44 = x44 at f44 ⊢; subst x44; have f37 : vs 37 = _ := f37; generalize vs 37 = x37 at f37 ⊢; subst x37; replace hL := hL.call hE hM hV
                exact sPu
              · intro vs W1 m1 hE hM hV hD; obtain ⟨⟨_, _, -, -, f37⟩, ⟨_, _, -, -, f45⟩, -⟩ := hD; have f37 : vs 37 = _ := f37; generalize vs 37 = x37 at f37 ⊢; subst x37; have f45 : vs 45 = _ := f45; generalize vs 45 = x45 at f45 ⊢; subst x45; replace hL := hL.call hE hM hV
                exact sPu
            case l9c =>
              refine ⟨fun h => (by cases h), fun h => (by cases h), fun h => (by cases h), fun h => (by cases h), fun h => (by cases h), fun h => (by cases h), fun h => (by cases h), fun h => (by cases h), fun h => (by cases h), fun h => (by cases h), fun h => (by cases h), fun h => (by cases h), fun h => (by cases h), fun h => (by cases h), fun h => (by cases h), fun h => (by cases h), fun h => (by cases h), fun h => (by cases h), trivial⟩
            intro vs W1 m1 hE hM hV hF hD
            clear hD
            obtain ⟨⟨_, _, -, -, f29⟩, ⟨_, _, -, -, f30⟩, ⟨_, _, -, -, f31⟩, ⟨_, _, -, -, f32⟩, ⟨_, _, -, -, f33⟩, ⟨_, _, -, -, f34⟩, ⟨_, _, -, -, f35⟩, ⟨_, _, -, -, f36⟩, ⟨_, _, -, -, f37⟩, ⟨_, _, -, -, f38⟩, ⟨_, _, -, -, f39⟩, ⟨_, _, -, -, f40⟩, ⟨_, _, -, -, f41⟩, ⟨_, _, -, -, f42⟩, ⟨_, _, -, -, f43⟩, ⟨_, _, -, -, f44⟩, ⟨_, _, -, -, f45⟩, ⟨_, _, -, -, f46⟩, -⟩ := hF
            replace hL := hL.call hE hM hV
            have f29 : vs 29 = _ := f29
            generalize vs 29 = x29 at f29 ⊢
            subst x29
            have f30 : vs 30 = _ := f30
            generalize vs 30 = x30 at f30 ⊢
            subst x30
            have f31 : vs 31 = _ := f31
            generalize vs 31 = x31 at f31 ⊢
            subst x31
            have f32 : vs 32 = _ := f32
            generalize vs 32 = x32 at f32 ⊢
            subst x32
            have f33 : vs 33 = _ := f33
            generalize vs 33 = x33 at f33 ⊢
            subst x33
            have f34 : vs 34 = _ := f34
            generalize vs 34 = x34 at f34 ⊢
            subst x34
            have f35 : vs 35 = _ := f35
            generalize vs 35 = x35 at f35 ⊢
            subst x35
            have f36 : vs 36 = _ := f36
            generalize vs 36 = x36 at f36 ⊢
            subst x36
            have f37 : vs 37 = _ := f37
            generalize vs 37 = x37 at f37 ⊢
            subst x37
            have f38 : vs 38 = _ := f38
            generalize vs 38 = x38 at f38 ⊢
            subst x38
            have f39 : vs 39 = _ := f39
            generalize vs 39 = x39 at f39 ⊢
            subst x39
            have f40 : vs 40 = _ := f40
            generalize vs 40 = x40 at f40 ⊢
            subst x40
            have f41 : vs 41 = _ := f41
            generalize vs 41 = x41 at f41 ⊢
            subst x41
            have f42 : vs 42 = _ := f42
            generalize vs 42 = x42 at f42 ⊢
            subst x42
            have f43 : vs 43 = _ := f43
            generalize vs 43 = x43 at f43 ⊢
            subst x43
            have f44 : vs 44 = _ := f44
            generalize vs 44 = x44 at f44 ⊢
            subst x44
            have f45 : vs 45 = _ := f45
            generalize vs 45 = x45 at f45 ⊢
            subst x45
            have f46 : vs 46 = _ := f46
            generalize vs 46 = x46 at f46 ⊢
            subst x46
            clear hE hV
            simp only [List.drop_succ_cons, List.drop_zero]
            go_wp2_with (first | ((with_reducible refine kAny ?_); go_skip) | (with_reducible refine stA ?_) | ((first | refine tIx ?_ | refine tFd ?_ | refine tLd ?_ | (refine tBx ?_; clear hL; intro _ _ hL _)); simp only [Act.put, zq1, zq2, zq3]))
            refine QN.mk ?_
            go_wp2_with (first | ((with_reducible refine kAny ?_); go_skip) | (with_reducible refine stA ?_) | ((first | refine tIx ?_ | refine tFd ?_ | refine tLd ?_ | (refine tBx ?_; clear hL; intro _ _ hL _)); simp only [Act.put, zq1, zq2, zq3]))
            go_roundw
            case rel => exact ⟨1, _, z1, z2 + 1, z3, by omega, by go_num, by go_num, by go_num, by go_num, HW.out, hL⟩
            case measure => simp [intOf] <;> omega
          · have HW : Hid (z1 = ((l.take (0 + 1)).count p : Int) ∧ z2 = ((l.take (0 + 1)).count q : Int) ∧ z3 = (folN l p q (0 + 1 - 1) : Int)) := by
              obtain ⟨a1, a2, a3⟩ := HZ.out
              refine ⟨?_, ?_, ?_⟩
              · rw [cnt_step HF.out, if_neg ha, a1]; omega
              · rw [cnt_step HF.out, if_neg hb, a2]; omega
              · rw [a3]
            clear HZ
            go_upto_region 9 with ((first | ((with_reducible refine kAny ?_); go_skip) | (with_reducible refine stA ?_) | ((first | refine tIx ?_ | refine tFd ?_ | refine tLd ?_ | (refine tBx ?_; clear hL; intro _ _ hL _)); simp only [Act.put, zq1, zq2, zq3])))
            (try simp only [eq_self] at *)
            refine wp_region_by2 18 [false, false, false, false, false, false, false, false, false, false, false, false, false, false, false, false, false, false] [false, false, false, false, false, false, false, false, false, false, false, false, false, false, false, false, false, false] [(fun v _ _ => v = ?c9_0d), (fun v _ _ => v = ?c9_1d), (fun v _ _ => v = ?c9_2d), (fun v _ _ => v = ?c9_3d), (fun v _ _ => v = ?c9_4d), (fun v _ _ => v = ?c9_5d), (fun v _ _ => v = ?c9_6d), (fun v _ _ => v = ?c9_7d), (fun v _ _ => v = ?c9_8d), (fun v _ _ => v = ?c9_9d), (fun v _ _ => v = ?c9_10d), (fun v _ _ => v = ?c9_11d), (fun v _ _ => v = ?c9_12d), (fun v _ _ => v = ?c9_13d), (fun v _ _ => v = ?c9_14d), (fun v _ _ => v = ?c9_15d), (fun v _ _ => v = ?c9_16d), (fun v _ _ => v = ?c9_17d)] hL.vw mixed [29, 30, 31, 32, 33, 34, 35, 36, 37, 38, 39, 40, 41, 42, 43, 44, 45, 46] _ (by kernel_rfl) (fun vs => by simp only [lay, Act.put, zq1, zq2, zq3]; rfl) (by kernel_rfl) (by decide) (by decide) ?s9d ?l9d ?r9d
            case s9d =>
              refine ⟨?_, ?_, ?_, ?_, ?_, ?_, ?_, ?_, ?_, ?_, ?_, ?_, ?_, ?_, ?_, ?_, ?_, ?_, trivial⟩
              · intro vs W1 m1 hE hM hV hD; clear hD; replace hL := hL.call hE hM hV
                exact sPu
              · intro vs W1 m1 hE hM hV hD; obtain ⟨⟨_, _, -, -, f29⟩, -⟩ := hD; have f29 : vs 29 = _ := f29; generalize vs 29 = x29 at f29 ⊢; subst x29; replace hL := hL.call hE hM hV
                exact sPu
              · intro vs W1 m1 hE hM hV hD; obtain ⟨⟨_, _, -, -, f30⟩, -⟩ := hD; have f30 : vs 30 = _ := f30; generalize vs 30 = x30 at f30 ⊢; subst x30; replace hL := hL.call hE hM hV
                exact sPu
              · intro vs W1 m1 hE hM hV hD; obtain ⟨⟨_, _, -, -, f31⟩, -⟩ := hD; have f31 : vs 31 = _ := f31; generalize vs 31 = x31 at f31 ⊢; subst x31; replace hL := hL.call hE hM hV
                exact sPu
              · intro vs W1 m1 hE hM hV hD; obtain ⟨⟨_, _, -, -, f31⟩, -⟩ := hD; have f31 : vs 31 = _ := f31; generalize vs 31 = x31 at f31 ⊢; subst x31; replace hL := hL.call hE hM hV
                exact sPu
              · intro vs W1 m1 hE hM hV hD; obtain ⟨⟨_, _, -, -, f33⟩, ⟨_, _, -, -, f31⟩, -⟩ := hD; have f33 : vs 33 = _ := f33; generalize vs 33 = x33 at f33 ⊢; subst x33; have f31 : vs 31 = _ := f31; generalize vs 31 = x31 at f31 ⊢; subst x31; replace hL := hL.call hE hM hV
                exact sPu
              · intro vs W1 m1 hE hM hV hD; obtain ⟨⟨_, _, -, -, f32⟩, ⟨_, _, -, -, f34⟩, ⟨_, _, -, -, f31⟩, -⟩ := hD; have f32 : vs 32 = _ := f32; generalize vs 32 = x32 at f32 ⊢; subst x32; have f34 : vs 34 = _ := f34; generalize vs 34 = x34 at f34 ⊢; subst x34; have f31 : vs 31 = _ := f31; generalize vs 31 = x31 at f31 ⊢; subst x31; replace hL := hL.call hE hM hV
                exact sPu
              · intro vs W1 m1 hE hM hV hD; obtain ⟨⟨_, _, -, -, f31⟩, ⟨_, _, -, -, f35⟩, -⟩ := hD; have f31 : vs 31 = _ := f31; generalize vs 31 = x31 at f31 ⊢; subst x31; have f35 : vs 35 = _ := f35; generalize vs 35 = x35 at f35 ⊢; subst x35; replace hL := hL.call hE hM hV
                exact sPu
              · intro vs W1 m1 hE hM hV hD; obtain ⟨⟨_, _, -, -, f36⟩, -, -⟩ := hD; have f36 : vs 36 = _ := f36; generalize vs 36 = x36 at f36 ⊢; subst x36; replace hL := hL.call hE hM hV
                exact sPu
              · intro vs W1 m1 hE hM hV hD; obtain ⟨⟨_, _, -, -, f37⟩, -⟩ := hD; have f37 : vs 37 = _ := f37; generalize vs 37 = x37 at f37 ⊢; subst x37; replace hL := hL.call hE hM hV
                exact sPu
              · intro vs W1 m1 hE hM hV hD; obtain ⟨⟨_, _, -, -, f37⟩, -⟩ := hD; have f37 : vs 37 = _ := f37; generalize vs 37 = x37 at f37 ⊢; subst x37; replace hL := hL.call hE hM hV
                exact sPu
              · intro vs W1 m1 hE hM hV hD; obtain ⟨⟨_, _, -, -, f39⟩, ⟨_, _, -, -, f37⟩, -⟩ := hD; have f39 : vs 39 = _ := f39; generalize vs 39 = x39 at f39 ⊢; subst x39; have f37 : vs 37 = _ := f37; generalize vs 37 = x37 at f37 ⊢; subst x37; replace hL := hL.call hE hM hV
                exact sPu
              · intro vs W1 m1 hE hM hV hD; obtain ⟨⟨_, _, -, -, f38⟩, ⟨_, _, -, -, f40⟩, ⟨_, _, -, -, f37⟩, -⟩ := hD; have f38 : vs 38 = _ := f38; generalize vs 38 = x38 at f38 ⊢; subst x38; have f40 : vs 40 = _ := f40; generalize vs 40 = x40 at f40 ⊢; subst x40; have f37 : vs 37 = _ := f37; generalize vs 37 = x37 at f37 ⊢; subst x37; replace hL := hL.call hE hM hV
                exact sPu
              · intro vs W1 m1 hE hM hV hD; obtain ⟨⟨_, _, -, -, f41⟩, ⟨_, _, -, -, f37⟩, -⟩ := hD; have f41 : vs 41 = _ := f41; generalize vs 41 = x41 at f41 ⊢; subst x41; have f37 : vs 37 = _ := f37; generalize vs 37 = x37 at f37 ⊢; subst x37; replace hL := hL.call hE hM hV
                exact sPu
              · intro vs W1 m1 hE hM hV hD; obtain ⟨⟨_, _, -, -, f37⟩, -⟩ := hD; have f37 : vs 37 = _ := f37; generalize vs 37 = x37 at f37 ⊢; subst x37; replace hL := hL.call hE hM hV
                exact sPu
              · intro vs W1 m1 hE hM hV hD; obtain ⟨⟨_, _, -, -, f43⟩, ⟨_, _, -, -, f37⟩, -⟩ := hD; have f43 : vs 43 = _ := f43; generalize vs 43 = x43 at f43 ⊢; subst x43; have f37 : vs 37 = _ := f37; generalize vs 37 = x37 at f37 ⊢; subst x37; replace hL := hL.call hE hM hV
                exact sPu
              · intro vs W1 m1 hE hM hV hD; obtain ⟨⟨_, _, -, -, f42⟩, ⟨_, _, -, -, f44⟩, ⟨_, _, -, -, f37⟩, -⟩ := hD; have f42 : vs 42 = _ := f42; generalize vs 42 = x42 at f42 ⊢; subst x42; have f44 : vs 44 = _ := f44; generalize vs 44 = x44 at f44 ⊢; subst x44; have f37 : vs 37 = _ := f37; generalize vs 37 = x37 at f37 ⊢; subst x37; replace hL := hL.call hE hM hV
                exact sPu
              · intro vs W1 m1 hE hM hV hD; obtain ⟨⟨_, _, -, -, f37⟩, ⟨_, _, -, -, f45⟩, -⟩ := hD; have f37 : vs 37 = _ := f37; generalize vs 37 = x37 at f37 ⊢; subst x37; have f45 : vs 45 = _ := f45; generalize vs 45 = x45 at f45 ⊢; subst x45; replace hL := hL.call hE hM hV
                exact sPu
            case l9d =>
              refine ⟨fun h => (by cases h), fun h => (by cases h), fun h => (by cases h), fun h => (by cases h), fun h => (by cases h), fun h => (by cases h), fun h => (by cases h), fun h => (by cases h), fun h => (by cases h), fun h => (by cases h), fun h => (by cases h), fun h => (by cases h), fun h => (by cases h), fun h => (by cases h), fun h => (by cases h), fun h => (by cases h), fun h => (by cases h), fun h => (by cases h), trivial⟩
            intro vs W1 m1 hE hM hV hF hD
            clear hD
            obtain ⟨⟨_, _, -, -, f29⟩, ⟨_, _, -, -, f30⟩, ⟨_, _, -, -, f31⟩, ⟨_, _, -, -, f32⟩, ⟨_, _, -, -, f33⟩, ⟨_, _, -, -, f34⟩, ⟨_, _, -, -, f35⟩, ⟨_, _, -, -, f36⟩, ⟨_, _, -, -, f37⟩, ⟨_, _, -, -, f38⟩, ⟨_, _, -, -, f39⟩, ⟨_, _, -, -, f40⟩, ⟨_, _, -, -, f41⟩, ⟨_, _, -, -, f42⟩, ⟨_, _, -, -, f43⟩, ⟨_, _, -, -, f44⟩, ⟨_, _, -, -, f45⟩, ⟨_, _, -, -, f46⟩, -⟩ := hF
            replace hL := hL.call hE hM hV
            have f29 : vs 29 = _ := f29
            generalize vs 29 = x29 at f29 ⊢
            subst x29
            have f30 : vs 30 = _ := f30
            generalize vs 30 = x30 at f30 ⊢
            subst x30
            have f31 : vs 31 = _ := f31
            generalize vs 31 = x31 at f31 ⊢
            subst x31
            have f32 : vs 32 = _ := f32
            generalize vs 32 = x32 at f32 ⊢
            subst x32
            have f33 : vs 33 = _ := f33
            generalize vs 33 = x33 at f33 ⊢
            subst x33
            have f34 : vs 34 = _ := f34
            generalize vs 34 = x34 at f34 ⊢
            subst x34
            have f35 : vs 35 = _ := f35
            generalize vs 35 = x35 at f35 ⊢
            subst x35
            have f36 : vs 36 = _ := f36
            generalize vs 36 = x36 at f36 ⊢
            subst x36
            have f37 : vs 37 = _ := f37
            generalize vs 37 = x37 at f37 ⊢
            subst x37
            have f38 : vs 38 = _ := f38
            generalize vs 38 = x38 at f38 ⊢
            subst x38
            have f39 : vs 39 = _ := f39
            generalize vs 39 = x39 at f39 ⊢
            subst x39
            have f40 : vs 40 = _ := f40
            generalize vs 40 = x40 at f40 ⊢
            subst x40
            have f41 : vs 41 = _ := f41
            generalize vs 41 = x41 at f41 ⊢
            subst x41
            have f42 : vs 42 = _ := f42
            generalize vs 42 = x42 at f42 ⊢
            subst x42
            have f43 : vs 43 = _ := f43
            generalize vs 43 = x43 at f43 ⊢
            subst x43
            have f44 : vs 44 = _ := f44
            generalize vs 44 = x44 at f44 ⊢
            subst x44
            have f45 : vs 45 = _ := f45
            generalize vs 45 = x45 at f45 ⊢
            subst x45
            have f46 : vs 46 = _ := f46
            generalize vs 46 = x46 at f46 ⊢
            subst x46
            clear hE hV
            simp only [List.drop_succ_cons, List.drop_zero]
            go_wp2_with (first | ((with_reducible refine kAny ?_); go_skip) | (with_reducible refine stA ?_) | ((first | refine tIx ?_ | refine tFd ?_ | refine tLd ?_ | (refine tBx ?_; clear hL; intro _ _ hL _)); simp only [Act.put, zq1, zq2, zq3]))
            refine QN.mk ?_
            go_wp2_with (first | ((with_reducible refine kAny ?_); go_skip) | (with_reducible refine stA ?_) | ((first | refine tIx ?_ | refine tFd ?_ | refine tLd ?_ | (refine tBx ?_; clear hL; intro _ _ hL _)); simp only [Act.put, zq1, zq2, zq3]))
            go_roundw
            case rel => exact ⟨1, _, z1, z2, z3, by omega, by go_num, by go_num, by go_num, by go_num, HW.out, hL⟩
            case measure => simp [intOf] <;> omega
      · obtain ⟨j, rfl⟩ : ∃ j, k = j + 1 := ⟨k - 1, by omega⟩
        obtain ⟨g, hg0⟩ := at_some HN (show j < n by omega)
        obtain ⟨b2, o2, e2, hc2⟩ := IntL.at_ h hg0
        obtain ⟨rfl, rfl⟩ : b1 = b2 ∧ o1 = o2 := by simpa using e2
        have HG := Lib.hid hg0
        have hjn : j < n := by omega
        clear hg0 e2 hk0 hk
        by_cases ha : f = p
        · by_cases hb : f = q
          · by_cases hg : g = p
            · have HW : Hid (z1 + 1 = ((l.take ((j + 1) + 1)).count p : Int) ∧ z2 + 1 = ((l.take ((j + 1) + 1)).count q : Int) ∧ z3 + 1 = (folN l p q ((j + 1) + 1 - 1) : Int)) := by
                obtain ⟨a1, a2, a3⟩ := HZ.out
                refine ⟨?_, ?_, ?_⟩
                · rw [cnt_step HF.out, if_pos ha, a1]
                · rw [cnt_step HF.out, if_pos hb, a2]
                · rw [Nat.add_sub_cancel, folN_step HG.out HF.out, if_pos (by exact ⟨hg, hb⟩), a3]; simp
              obtain ⟨k1, hk1⟩ : ∃ k1, k1 = j + 1 := ⟨_, rfl⟩
              rw [← hk1] at hc1 hlt ⊢
              have e1 : (k1 : Int) - 1 = (j : Int) := by omega
              have e5 : wrap64 ((k1 : Int) - 1) = (j : Int) := by unfold wrap64; omega
              have e6 : 0 < k1 := by omega
              rw [← hk1] at HW
              have HK := Lib.hid hk1
              clear hk1 HZ HF HG
              subst ha
              subst hb
              subst hg
              go_upto_region 9 with ((first | ((with_reducible refine kAny ?_); go_skip) | (with_reducible refine stA ?_) | ((first | refine tIx ?_ | refine tFd ?_ | refine tLd ?_ | (refine tBx ?_; clear hL; intro _ _ hL _)); simp only [Act.put, zq1, zq2, zq3])))
              (try simp only [eq_self] at *)
              refine wp_region_by2 18 [false, false, false, false, false, false, false, false, false, false, false, false, false, false, false, false, false, false] [false, false, false, false, false, false, false, false, false, false, false, false, false, false, false, false, false, false] [(fun v _ _ => v = ?c9_0e), (fun v _ _ => v = ?c9_1e), (fun v _ _ => v = ?c9_2e), (fun v _ _ => v = ?c9_3e), (fun v _ _ => v = ?c9_4e), (fun v _ _ => v = ?c9_5e), (fun v _ _ => v = ?c9_6e), (fun v _ _ => v = ?c9_7e), (fun v _ _ => v = ?c9_8e), (fun v _ _ => v = ?c9_9e), (fun v _ _ => v = ?c9_10e), (fun v _ _ => v = ?c9_11e), (fun v _ _ => v = ?c9_12e), (fun v _ _ => v = ?c9_13e), (fun v _ _ => v = ?c9_14e), (fun v _ _ => v = ?c9_15e), (fun v _ _ => v = ?c9_16e), (fun v _ _ => v = ?c9_17e)] hL.vw mixed [29, 30, 31, 32, 33, 34, 35, 36, 37, 38, 39, 40, 41, 42, 43, 44, 45, 46] _ (by kernel_rfl) (fun vs => by simp only [lay, Act.put, zq1, zq2, zq3]; rfl) (by kernel_rfl) (by decide) (by decide) ?s9e ?l9e ?r9e
              case s9e =>
                refine ⟨?_, ?_, ?_, ?_, ?_, ?_, ?_, ?_, ?_, ?_, ?_, ?_, ?_, ?_, ?_, ?_, ?_, ?_, trivial⟩
                · intro vs W1 m1 hE hM hV hD; clear hD; replace hL := hL.call hE hM hV
                  exact sPu
                · intro vs W1 m1 hE hM hV hD; obtain ⟨⟨_, _, -, -, f29⟩, -⟩ := hD; have f29 : vs 29 = _ := f29; generalize vs 29 = x29 at f29 ⊢; subst x29; replace hL := hL.call hE hM hV
                  exact sPu
                · intro vs W1 m1 hE hM hV hD; obtain ⟨⟨_, _, -, -, f30⟩, -⟩ := hD; have f30 : vs 30 = _ := f30; generalize vs 30 = x30 at f30 ⊢; subst x30; replace hL := hL.call hE hM hV
                  exact sPu
                · intro vs W1 m1 hE hM hV hD; obtain ⟨⟨_, _, -, -, f31⟩, -⟩ := hD; have f31 : vs 31 = _ := f31; generalize vs 31 = x31 at f31 ⊢; subst x31; replace hL := hL.call hE hM hV
                  exact sPu
                · intro vs W1 m1 hE hM hV hD; obtain ⟨⟨_, _, -, -, f31⟩, -⟩ := hD; have f31 : vs 31 = _ := f31; generalize vs 31 = x31 at f31 ⊢; subst x31; replace hL := hL.call hE hM hV
                  exact sFd
                · intro vs W1 m1 hE hM hV hD; obtain ⟨⟨_, _, -, -, f33⟩, ⟨_, _, -, -, f31⟩, -⟩ := hD; have f33 : vs 33 = _ := f33; generalize vs 33 = x33 at f33 ⊢; subst x33; have f31 : vs 31 = _ := f31; generalize vs 31 = x31 at f31 ⊢; subst x31; replace hL := hL.call hE hM hV
                  exact sLd
                · intro vs W1 m1 hE hM hV hD; obtain ⟨⟨_, _, -, -, f32⟩, ⟨_, _, -, -, f34⟩, ⟨_, _, -, -, f31⟩, -⟩ := hD; have f32 : vs 32 = _ := f32; generalize vs 32 = x32 at f32 ⊢; subst x32; have f34 : vs 34 = _ := f34; generalize vs 34 = x34 at f34 ⊢; subst x34; have f31 : vs 31 = _ := f31; generalize vs 31 = x31 at f31 ⊢; subst x31; replace hL := hL.call hE hM hV
                  exact sPu
                · intro vs W1 m1 hE hM hV hD; obtain ⟨⟨_, _, -, -, f31⟩, ⟨_, _, -, -, f35⟩, -⟩ := hD; have f31 : vs 31 = _ := f31; generalize vs 31 = x31 at f31 ⊢; subst x31; have f35 : vs 35 = _ := f35; generalize vs 35 = x35 at f35 ⊢; subst x35; replace hL := hL.call hE hM hV
                  exact sPu
                · intro vs W1 m1 hE hM hV hD; obtain ⟨⟨_, _, -, -, f36⟩, -, -⟩ := hD; have f36 : vs 36 = _ := f36; generalize vs 36 = x36 at f36 ⊢; subst x36; replace hL := hL.call hE hM hV
                  exact sPu
                · intro vs W1 m1 hE hM hV hD; obtain ⟨⟨_, _, -, -, f37⟩, -⟩ := hD; have f37 : vs 37 = _ := f37; generalize vs 37 = x37 at f37 ⊢; subst x37; replace hL := hL.call hE hM hV
                  exact sPu
                · intro vs W1 m1 hE hM hV hD; obtain ⟨⟨_, _, -, -, f37⟩, -⟩ := hD; have f37 : vs 37 = _ := f37; generalize vs 37 = x37 at f37 ⊢; subst x37; replace hL := hL.call hE hM hV
                  exact sPu
                · intro vs W1 m1 hE hM hV hD; obtain ⟨⟨_, _, -, -, f39⟩, ⟨_, _, -, -, f37⟩, -⟩ := hD; have f39 : vs 39 = _ := f39; generalize vs 39 = x39 at f39 ⊢; subst x39; have f37 : vs 37 = _ := f37; generalize vs 37 = x37 at f37 ⊢; subst x37; replace hL := hL.call hE hM hV
                  exact sPu
                · intro vs W1 m1 hE hM hV hD; obtain ⟨⟨_, _, -, -, f38⟩, ⟨_, _, -, -, f40⟩, ⟨_, _, -, -, f37⟩, -⟩ := hD; have f38 : vs 38 = _ := f38; generalize vs 38 = x38 at f38 ⊢; subst x38; have f40 : vs 40 = _ := f40; generalize vs 40 = x40 at f40 ⊢; subst x40; have f37 : vs 37 = _ := f37; generalize vs 37 = x37 at f37 ⊢; subst x37; replace hL := hL.call hE hM hV
                  exact sIx
                · intro vs W1 m1 hE hM hV hD; obtain ⟨⟨_, _, -, -, f41⟩, ⟨_, _, -, -, f37⟩, -⟩ := hD; have f41 : vs 41 = _ := f41; generalize vs 41 = x41 at f41 ⊢; subst x41; have f37 : vs 37 = _ := f37; generalize vs 37 = x37 at f37 ⊢; subst x37; replace hL := hL.call hE hM hV
                  exact sLd
                · intro vs W1 m1 hE hM hV hD; obtain ⟨⟨_, _, -, -, f37⟩, -⟩ := hD; have f37 : vs 37 = _ := f37; generalize vs 37 = x37 at f37 ⊢; subst x37; replace hL := hL.call hE hM hV
                  exact sFd
                · intro vs W1 m1 hE hM hV hD; obtain ⟨⟨_, _, -, -, f43⟩, ⟨_, _, -, -, f37⟩, -⟩ := hD; have f43 : vs 43 = _ := f43; generalize vs 43 = x43 at f43 ⊢; subst x43; have f37 : vs 37 = _ := f37; generalize vs 37 = x37 at f37 ⊢; subst x37; replace hL := hL.call hE hM hV
                  exact sLd
                · intro vs W1 m1 hE hM hV hD; obtain ⟨⟨_, _, -, -, f42⟩, ⟨_, _, -, -, f44⟩, ⟨_, _, -, -, f37⟩, -⟩ := hD; have f42 : vs 42 = _ := f42; generalize vs 42 = x42 at f42 ⊢; subst x42; have f44 : vs 44 = _ := f44; generalize vs 44 = x44 at f44 ⊢; subst x44; have f37 : vs 37 = _ := f37; generalize vs 37 = x37 at f37 ⊢; subst x37; replace hL := hL.call hE hM hV
                  exact sPu
                · intro vs W1 m1 hE hM hV hD; obtain ⟨⟨_, _, -, -, f37⟩, ⟨_, _, -, -, f45⟩, -⟩ := hD; have f37 : vs 37 = _ := f37; generalize vs 37 = x37 at f37 ⊢; subst x37; have f45 : vs 45 = _ := f45; generalize vs 45 = x45 at f45 ⊢; subst x45; replace hL := hL.call hE hM hV
                  exact sPu
              case l9e =>
                refine ⟨fun h => (by cases h), fun h => (by cases h), fun h => (by cases h), fun h => (by cases h), fun h => (by cases h), fun h => (by cases h), fun h => (by cases h), fun h => (by cases h), fun h => (by cases h), fun h => (by cases h), fun h => (by cases h), fun h => (by cases h), fun h => (by cases h), fun h => (by cases h), fun h => (by cases h), fun h => (by cases h), fun h => (by cases h), fun h => (by cases h), trivial⟩
              intro vs W1 m1 hE hM hV hF hD
              clear hD
              obtain ⟨⟨_, _, -, -, f29⟩, ⟨_, _, -, -, f30⟩, ⟨_, _, -, -, f31⟩, ⟨_, _, -, -, f32⟩, ⟨_, _, -, -, f33⟩, ⟨_, _, -, -, f34⟩, ⟨_, _, -, -, f35⟩, ⟨_, _, -, -, f36⟩, ⟨_, _, -, -, f37⟩, ⟨_, _, -, -, f38⟩, ⟨_, _, -, -, f39⟩, ⟨_, _, -, -, f40⟩, ⟨_, _, -, -, f41⟩, ⟨_, _, -, -, f42⟩, ⟨_, _, -, -, f43⟩, ⟨_, _, -, -, f44⟩, ⟨_, _, -, -, f45⟩, ⟨_, _, -, -, f46⟩, -⟩ := hF
              replace hL := hL.call hE hM hV
              have f29 : vs 29 = _ := f29
              generalize vs 29 = x29 at f29 ⊢
              subst x29
              have f30 : vs 30 = _ := f30
              generalize vs 30 = x30 at f30 ⊢
              subst x30
              have f31 : vs 31 = _ := f31
              generalize vs 31 = x31 at f31 ⊢
              subst x31
              have f32 : vs 32 = _ := f32
              generalize vs 32 = x32 at f32 ⊢
              subst x32
              have f33 : vs 33 = _ := f33
              generalize vs 33 = x33 at f33 ⊢
              subst x33
              have f34 : vs 34 = _ := f34
              generalize vs 34 = x34 at f34 ⊢
              subst x34
              have f35 : vs 35 = _ := f35
              generalize vs 35 = x35 at f35 ⊢
              subst x35
              have f36 : vs 36 = _ := f36
              generalize vs 36 = x36 at f36 ⊢
              subst x36
              have f37 : vs 37 = _ := f37
              generalize vs 37 = x37 at f37 ⊢
              subst x37
              have f38 : vs 38 = _ := f38
              generalize vs 38 = x38 at f38 ⊢
              subst x38
              have f39 : vs 39 = _ := f39
              generalize vs 39 = x39 at f39 ⊢
              subst x39
              have f40 : vs 40 = _ := f40
              generalize vs 40 = x40 at f40 ⊢
              subst x40
              have f41 : vs 41 = _ := f41
              generalize vs 41 = x41 at f41 ⊢
              subst x41
              have f42 : vs 42 = _ := f42
              generalize vs 42 = x42 at f42 ⊢
              subst x42
              have f43 : vs 43 = _ := f43
              generalize vs 43 = x43 at f43 ⊢
              subst x43
              have f44 : vs 44 = _ := f44
              generalize vs 44 = x44 at f44 ⊢
              subst x44
              have f45 : vs 45 = _ := f45
              generalize vs 45 = x45 at f45 ⊢
              subst x45
              have f46 : vs 46 = _ := f46
              generalize vs 46 = x46 at f46 ⊢
              subst x46
              clear hE hV
              simp only [List.drop_succ_cons, List.drop_zero]
              go_wp2_with (first | ((with_reducible refine kAny ?_); go_skip) | (with_reducible refine stA ?_) | ((first | refine tIx ?_ | refine tFd ?_ | refine tLd ?_ | (refine tBx ?_; clear hL; intro _ _ hL _)); simp only [Act.put, zq1, zq2, zq3]))
              refine QN.mk ?_
              go_wp2_with (first | ((with_reducible refine kAny ?_); go_skip) | (with_reducible refine stA ?_) | ((first | refine tIx ?_ | refine tFd ?_ | refine tLd ?_ | (refine tBx ?_; clear hL; intro _ _ hL _)); simp only [Act.put, zq1, zq2, zq3]))
              go_roundw
              case rel => exact ⟨k1 + 1, _, z1 + 1, z2 + 1, z3 + 1, by omega, by go_num, by go_num, by go_num, by go_num, HW.out, hL⟩
              case measure => have := HK.out; simp [intOf] <;> omega
            · have HW : Hid (z1 + 1 = ((l.take ((j + 1) + 1)).count p : Int) ∧ z2 + 1 = ((l.take ((j + 1) + 1)).count q : Int) ∧ z3 = (folN l p q ((j + 1) + 1 - 1) : Int)) := by
                obtain ⟨a1, a2, a3⟩ := HZ.out
                refine ⟨?_, ?_, ?_⟩
                · rw [cnt_step HF.out, if_pos ha, a1]
                · rw [cnt_step HF.out, if_pos hb, a2]
                · rw [Nat.add_sub_cancel, folN_step HG.out HF.out, if_neg (by rintro ⟨e1, e2⟩; exact hg e1), a3]; simp
              obtain ⟨k1, hk1⟩ : ∃ k1, k1 = j + 1 := ⟨_, rfl⟩
              rw [← hk1] at hc1 hlt ⊢
              have e1 : (k1 : Int) - 1 = (j : Int) := by omega
              have e5 : wrap64 ((k1 : Int) - 1) = (j : Int) := by unfold wrap64; omega
              have e6 : 0 < k1 := by omega
              rw [← hk1] at HW
              have HK := Lib.hid hk1
              clear hk1 HZ HF HG
              subst ha
              subst hb
              go_upto_region 9 with ((first | ((with_reducible refine kAny ?_); go_skip) | (with_reducible refine stA ?_) | ((first | refine tIx ?_ | refine tFd ?_ | refine tLd ?_ | (refine tBx ?_; clear hL; intro _ _ hL _)); simp only [Act.put, zq1, zq2, zq3])))
              (try simp only [eq_self] at *)
              refine wp_region_by2 18 [false, false, false, false, false, false, false, false, false, false, false, false, false, false, false, false, false, false] [false, false, false, false, false, false, false, false, false, false, false, false, false, false, false, false, false, false] [(fun v _ _ => v = ?c9_0f), (fun v _ _ => v = ?c9_1f), (fun v _ _ => v = ?c9_2f), (fun v _ _ => v = ?c9_3f), (fun v _ _ => v = ?c9_4f), (fun v _ _ => v = ?c9_5f), (fun v _ _ => v = ?c9_6f), (fun v _ _ => v = ?c9_7f), (fun v _ _ => v = ?c9_8f), (fun v _ _ => v = ?c9_9f), (fun v _ _ => v = ?c9_10f), (fun v _ _ => v = ?c9_11f), (fun v _ _ => v = ?c9_12f), (fun v _ _ => v = ?c9_13f), (fun v _ _ => v = ?c9_14f), (fun v _ _ => v = ?c9_15f), (fun v _ _ => v = ?c9_16f), (fun v _ _ => v = ?c9_17f)] hL.vw mixed [29, 30, 31, 32, 33, 34, 35, 36, 37, 38, 39, 40, 41, 42, 43, 44, 45, 46] _ (by kernel_rfl) (fun vs => by simp only [lay, Act.put, zq1, zq2, zq3]; rfl) (by kernel_rfl) (by decide) (by decide) ?s9f ?l9f ?r9f
              case s9f =>
                refine ⟨?_, ?_, ?_, ?_, ?_, ?_, ?_, ?_, ?_, ?_, ?_, ?_, ?_, ?_, ?_, ?_, ?_, ?_, trivial⟩
                · intro vs W1 m1 hE hM hV hD; clear hD; replace hL := hL.call hE hM hV
                  exact sPu
                · intro vs W1 m1 hE hM hV hD; obtain ⟨⟨_, _, -, -, f29⟩, -⟩ := hD; have f29 : vs 29 = _ := f29; generalize vs 29 = x29 at f29 ⊢; subst x29; replace hL := hL.call hE hM hV
                  exact sPu
                · intro vs W1 m1 hE hM hV hD; obtain ⟨⟨_, _, -, -, f30⟩, -⟩ := hD; have f30 : vs 30 = _ := f30; generalize vs 30 = x30 at f30 ⊢; subst x30; replace hL := hL.call hE hM hV
                  exact sPu
                · intro vs W1 m1 hE hM hV hD; obtain ⟨⟨_, _, -, -, f31⟩, -⟩ := hD; have f31 : vs 31 = _ := f31; generalize vs 31 = x31 at f31 ⊢; subst x31; replace hL := hL.call hE hM hV
                  exact sPu
                · intro vs W1 m1 hE hM hV hD; obtain ⟨⟨_, _, -, -, f31⟩, -⟩ := hD; have f31 : vs 31 = _ := f31; generalize vs 31 = x31 at f31 ⊢; subst x31; replace hL := hL.call hE hM hV
                  exact sFd
                · intro vs W1 m1 hE hM hV hD; obtain ⟨⟨_, _, -, -, f33⟩, ⟨_, _, -, -, f31⟩, -⟩ := hD; have f33 : vs 33 = _ := f33; generalize vs 33 = x33 at f33 ⊢; subst x33; have f31 : vs 31 = _ := f31; generalize vs 31 = x31 at f31 ⊢; subst x31; replace hL := hL.call hE hM hV
                  exact sLd
                · intro vs W1 m1 hE hM hV hD; obtain ⟨⟨_, _, -, -, f32⟩, ⟨_, _, -, -, f34⟩, ⟨_, _, -, -, f31⟩, -⟩ := hD; have f32 : vs 32 = _ := f32; generalize vs 32 = x32 at f32 ⊢; subst x32; have f34 : vs 34 = _ := f34; generalize vs 34 = x34 at f34 ⊢; subst x34; have f31 : vs 31 = _ := f31; generalize vs 31 = x31 at f31 ⊢; subst x31; replace hL := hL.call hE hM hV
                  exact sPu
                · intro vs W1 m1 hE hM hV hD; obtain ⟨⟨_, _, -, -, f31⟩, ⟨_, _, -, -, f35⟩, -⟩ := hD; have f31 : vs 31 = _ := f31; generalize vs 31 = x31 at f31 ⊢; subst x31; have f35 : vs 35 = _ := f35; generalize vs 35 = x35 at f35 ⊢; subst x35; replace hL := hL.call hE hM hV
                  exact sPu
                · intro vs W1 m1 hE hM hV hD; obtain ⟨⟨_, _, -, -, f36⟩, -, -⟩ := hD; have f36 : vs 36 = _ := f36; generalize vs 36 = x36 at f36 ⊢; subst x36; replace hL := hL.call hE hM hV
                  exact sPu
                · intro vs W1 m1 hE hM hV hD; obtain ⟨⟨_, _, -, -, f37⟩, -⟩ := hD; have f37 : vs 37 = _ := f37; generalize vs 37 = x37 at f37 ⊢; subst x37; replace hL := hL.call hE hM hV
                  exact sPu
                · intro vs W1 m1 hE hM hV hD; obtain ⟨⟨_, _, -, -, f37⟩, -⟩ := hD; have f37 : vs 37 = _ := f37; generalize vs 37 = x37 at f37 ⊢; subst x37; replace hL := hL.call hE hM hV
                  exact sPu
                · intro vs W1 m1 hE hM hV hD; obtain ⟨⟨_, _, -, -, f39⟩, ⟨_, _, -, -, f37⟩, -⟩ := hD; have f39 : vs 39 = _ := f39; generalize vs 39 = x39 at f39 ⊢; subst x39; have f37 : vs 37 = _ := f37; generalize vs 37 = x37 at f37 ⊢; subst x37; replace hL := hL.call hE hM hV
                  exact sPu
                · intro vs W1 m1 hE hM hV hD; obtain ⟨⟨_, _, -, -, f38⟩, ⟨_, _, -, -, f40⟩, ⟨_, _, -, -, f37⟩, -⟩ := hD; have f38 : vs 38 = _ := f38; generalize vs 38 = x38 at f38 ⊢; subst x38; have f40 : vs 40 = _ := f40; generalize vs 40 = x40 at f40 ⊢; subst x40; have f37 : vs 37 = _ := f37; generalize vs 37 = x37 at f37 ⊢; subst x37; replace hL := hL.call hE hM hV
                  exact sIx
                · intro vs W1 m1 hE hM hV hD; obtain ⟨⟨_, _, -, -, f41⟩, ⟨_, _, -, -, f37⟩, -⟩ := hD; have f41 : vs 41 = _ := f41; generalize vs 41 = x41 at f41 ⊢; subst x41; have f37 : vs 37 = _ := f37; generalize vs 37 = x37 at f37 ⊢; subst x37; replace hL := hL.call hE hM hV
                  exact sLd
                · intro vs W1 m1 hE hM hV hD; obtain ⟨⟨_, _, -, -, f37⟩, -⟩ := hD; have f37 : vs 37 = _ := f37; generalize vs 37 = x37 at f37 ⊢; subst x37; replace hL := hL.call hE hM hV
                  exact sFd
                · intro vs W1 m1 hE hM hV hD; obtain ⟨⟨_, _, -, -, f43⟩, ⟨_, _, -, -, f37⟩, -⟩ := hD; have f43 : vs 43 = _ := f43; generalize vs 43 = x43 at f43 ⊢; subst x43; have f37 : vs 37 = _ := f37; generalize vs 37 = x37 at f37 ⊢; subst x37; replace hL := hL.call hE hM hV
                  exact sLd
                · intro vs W1 m1 hE hM hV hD; obtain ⟨⟨_, _, -, -, f42⟩, ⟨_, _, -, -, f44⟩, ⟨_, _, -, -, f37⟩, -⟩ := hD; have f42 : vs 42 = _ := f42; generalize vs 42 = x42 at f42 ⊢; subst x42; have f44 : vs 44 = _ := f44; generalize vs 44 = x44 at f44 ⊢; subst x44; have f37 : vs 37 = _ := f37; generalize vs 37 = x37 at f37 ⊢; subst x37; replace hL := hL.call hE hM hV
                  exact sPu
                · intro vs W1 m1 hE hM hV hD; obtain ⟨⟨_, _, -, -, f37⟩, ⟨_, _, -, -, f45⟩, -⟩ := hD; have f37 : vs 37 = _ := f37; generalize vs 37 = x37 at f37 ⊢; subst x37; have f45 : vs 45 = _ := f45; generalize vs 45 = x45 at f45 ⊢; subst x45; replace hL := hL.call hE hM hV
                  exact sPu
              case l9f =>
                refine ⟨fun h => (by cases h), fun h => (by cases h), fun h => (by cases h), fun h => (by cases h), fun h => (by cases h), fun h => (by cases h), fun h => (by cases h), fun h => (by cases h), fun h => (by cases h), fun h => (by cases h), fun h => (by cases h), fun h => (by cases h), fun h => (by cases h), fun h => (by cases h), fun h => (by cases h), fun h => (by cases h), fun h => (by cases h), fun h => (by cases h), trivial⟩
              intro vs W1 m1 hE hM hV hF hD
              clear hD
              obtain ⟨⟨_, _, -, -, f29⟩, ⟨_, _, -, -, f30⟩, ⟨_, _, -, -, f31⟩, ⟨_, _, -, -, f32⟩, ⟨_, _, -, -, f33⟩, ⟨_, _, -, -, f34⟩, ⟨_, _, -, -, f35⟩, ⟨_, _, -, -, f36⟩, ⟨_, _, -, -, f37⟩, ⟨_, _, -, -, f38⟩, ⟨_, _, -, -, f39⟩, ⟨_, _, -, -, f40⟩, ⟨_, _, -, -, f41⟩, ⟨_, _, -, -, f42⟩, ⟨_, _, -, -, f43⟩, ⟨_, _, -, -, f44⟩, ⟨_, _, -, -, f45⟩, ⟨_, _, -, -, f46⟩, -⟩ := hF
              replace hL := hL.call hE hM hV
              have f29 : vs 29 = _ := f29
              generalize vs 29 = x29 at f29 ⊢
              subst x29
              have f30 : vs 30 = _ := f30
              generalize vs 30 = x30 at f30 ⊢
              subst x30
              have f31 : vs 31 = _ := f31
              generalize vs 31 = x31 at f31 ⊢
              subst x31
              have f32 : vs 32 = _ := f32
              generalize vs 32 = x32 at f32 ⊢
              subst x32
              have f33 : vs 33 = _ := f33
              generalize vs 33 = x33 at f33 ⊢
              subst x33
              have f34 : vs 34 = _ := f34
              generalize vs 34 = x34 at f34 ⊢
              subst x34
              have f35 : vs 35 = _ := f35
              generalize vs 35 = x35 at f35 ⊢
              subst x35
              have f36 : vs 36 = _ := f36
              generalize vs 36 = x36 at f36 ⊢
              subst x36
              have f37 : vs 37 = _ := f37
              generalize vs 37 = x37 at f37 ⊢
              subst x37
              have f38 : vs 38 = _ := f38
              generalize vs 38 = x38 at f38 ⊢
              subst x38
              have f39 : vs 39 = _ := f39
              generalize vs 39 = x39 at f39 ⊢
              subst x39
              have f40 : vs 40 = _ := f40
              generalize vs 40 = x40 at f40 ⊢
              subst x40
              have f41 : vs 41 = _ := f41
              generalize vs 41 = x41 at f41 ⊢
              subst x41
              have f42 : vs 42 = _ := f42
              generalize vs 42 = x42 at f42 ⊢
              subst x42
              have f43 : vs 43 = _ := f43
              generalize vs 43 = x43 at f43 ⊢
              subst x43
              have f44 : vs 44 = _ := f44
              generalize vs 44 = x44 at f44 ⊢
              subst x44
              have f45 : vs 45 = _ := f45
              generalize vs 45 = x45 at f45 ⊢
              subst x45
              have f46 : vs 46 = _ := f46
              generalize vs 46 = x46 at f46 ⊢
              subst x46
              clear hE hV
              simp only [List.drop_succ_cons, List.drop_zero]
              go_wp2_with (first | ((with_reducible refine kAny ?_); go_skip) | (with_reducible refine stA ?_) | ((first | refine tIx ?_ | refine tFd ?_ | refine tLd ?_ | (refine tBx ?_; clear hL; intro _ _ hL _)); simp only [Act.put, zq1, zq2, zq3]))
              refine QN.mk ?_
              go_wp2_with (first | ((with_reducible refine kAny ?_); go_skip) | (with_reducible refine stA ?_) | ((first | refine tIx ?_ | refine tFd ?_ | refine tLd ?_ | (refine tBx ?_; clear hL; intro _ _ hL _)); simp only [Act.put, zq1, zq2, zq3]))
              go_roundw
              case rel => exact ⟨k1 + 1, _, z1 + 1, z2 + 1, z3, by omega, by go_num, by go_num, by go_num, by go_num, HW.out, hL⟩
              case measure => have := HK.out; simp [intOf] <;> omega
          · have HW : Hid (z1 + 1 = ((l.take ((j + 1) + 1)).count p : Int) ∧ z2 = ((l.take ((j + 1) + 1)).count q : Int) ∧ z3 = (folN l p q ((j + 1) + 1 - 1) : Int)) := by
              obtain ⟨a1, a2, a3⟩ := HZ.out
              refine ⟨?_, ?_, ?_⟩
              · rw [cnt_step HF.out, if_pos ha, a1]
              · rw [cnt_step HF.out, if_neg hb, a2]; omega
              · rw [Nat.add_sub_cancel, folN_step HG.out HF.out, if_neg (by rintro ⟨e1, e2⟩; exact hb e2), a3]; simp
            obtain ⟨k1, hk1⟩ : ∃ k1, k1 = j + 1 := ⟨_, rfl⟩
            rw [← hk1] at hc1 hlt ⊢
            have e1 : (k1 : Int) - 1 = (j : Int) := by omega
            have e5 : wrap64 ((k1 : Int) - 1) = (j : Int) := by unfold wrap64; omega
            have e6 : 0 < k1 := by omega
            rw [← hk1] at HW
            have HK := Lib.hid hk1
            clear hk1 HZ HF HG
            subst ha
            go_upto_region 9 with ((first | ((with_reducible refine kAny ?_); go_skip) | (with_reducible refine stA ?_) | ((first | refine tIx ?_ | refine tFd ?_ | refine tLd ?_ | (refine tBx ?_; clear hL; intro _ _ hL _)); simp only [Act.put, zq1, zq2, zq3])))
            (try simp only [eq_self] at *)
            refine wp_region_by2 18 [false, false, false, false, false, false, false, false, false, false, false, false, false, false, false, false, false, false] [false, false, false, false, false, false, false, false, false, false, false, false, false, false, false, false, false, false] [(fun v _ _ => v = ?c9_0g), (fun v _ _ => v = ?c9_1g), (fun v _ _ => v = ?c9_2g), (fun v _ _ => v = ?c9_3g), (fun v _ _ => v = ?c9_4g), (fun v _ _ => v = ?c9_5g), (fun v _ _ => v = ?c9_6g), (fun v _ _ => v = ?c9_7g), (fun v _ _ => v = ?c9_8g), (fun v _ _ => v = ?c9_9g), (fun v _ _ => v = ?c9_10g), (fun v _ _ => v = ?c9_11g), (fun v _ _ => v = ?c9_12g), (fun v _ _ => v = ?c9_13g), (fun v _ _ => v = ?c9_14g), (fun v _ _ => v = ?c9_15g), (fun v _ _ => v = ?c9_16g), (fun v _ _ => v = ?c9_17g)] hL.vw mixed [29, 30, 31, 32, 33, 34, 35, 36, 37, 38, 39, 40, 41, 42, 43, 44, 45, 46] _ (by kernel_rfl) (fun vs => by simp only [lay, Act.put, zq1, zq2, zq3]; rfl) (by kernel_rfl) (by decide) (by decide) ?s9g ?l9g ?r9g
            case s9g =>
              refine ⟨?_, ?_, ?_, ?_, ?_, ?_, ?_, ?_, ?_, ?_, ?_, ?_, ?_, ?_, ?_, ?_, ?_, ?_, trivial⟩
              · intro vs W1 m1 hE hM hV hD; clear hD; replace hL := hL.call hE hM hV
                exact sPu
              · intro vs W1 m1 hE hM hV hD; obtain ⟨⟨_, _, -, -, f29⟩, -⟩ := hD; have f29 : vs 29 = _ := f29; generalize vs 29 = x29 at f29 ⊢; subst x29; replace hL := hL.call hE hM hV
                exact sPu
              · intro vs W1 m1 hE hM hV hD; obtain ⟨⟨_, _, -, -, f30⟩, -⟩ := hD; have f30 : vs 30 = _ := f30; generalize vs 30 = x30 at f30 ⊢; subst x30; replace hL := hL.call hE hM hV
                exact sPu
              · intro vs W1 m1 hE hM hV hD; obtain ⟨⟨_, _, -, -, f31⟩, -⟩ := hD; have f31 : vs 31 = _ := f31; generalize vs 31 = x31 at f31 ⊢; subst x31; replace hL := hL.call hE hM hV
                exact sPu
              · intro vs W1 m1 hE hM hV hD; obtain ⟨⟨_, _, -, -, f31⟩, -⟩ := hD; have f31 : vs 31 = _ := f31; generalize vs 31 = x31 at f31 ⊢; subst x31; replace hL := hL.call hE hM hV
                exact sFd
              · intro vs W1 m1 hE hM hV hD; obtain ⟨⟨_, _, -, -, f33⟩, ⟨_, _, -, -, f31⟩, -⟩ := hD; have f33 : vs 33 = _ := f33; generalize vs 33 = x33 at f33 ⊢; subst x33; have f31 : vs 31 = _ := f31; generalize vs 31 = x31 at f31 ⊢; subst x31; replace hL := hL.call hE hM hV
                exact sLd
              · intro vs W1 m1 hE hM hV hD; obtain ⟨⟨_, _, -, -, f32⟩, ⟨_, _, -, -, f34⟩, ⟨_, _, -, -, f31⟩, -⟩ := hD; have f32 : vs 32 = _ := f32; generalize vs 32 = x32 at f32 ⊢; subst x32; have f34 : vs 34 = _ := f34; generalize vs 34 = x34 at f34 ⊢; subst x34; have f31 : vs 31 = _ := f31; generalize vs 31 = x31 at f31 ⊢; subst x31; replace hL := hL.call hE hM hV
                exact sPu
              · intro vs W1 m1 hE hM hV hD; obtain ⟨⟨_, _, -, -, f31⟩, ⟨_, _, -, -, f35⟩, -⟩ := hD; have f31 : vs 31 = _ := f31; generalize vs 31 = x31 at f31 ⊢; subst x31; have f35 : vs 35 = _ := f35; generalize vs 35 = x35 at f35 ⊢; subst x35; replace hL := hL.call hE hM hV
                exact sPu
              · intro vs W1 m1 hE hM hV hD; obtain ⟨⟨_, _, -, -, f36⟩, -, -⟩ := hD; have f36 : vs 36 = _ := f36; generalize vs 36 = x36 at f36 ⊢; subst x36; replace hL := hL.call hE hM hV
                exact sPu
              · intro vs W1 m1 hE hM hV hD; obtain ⟨⟨_, _, -, -, f37⟩, -⟩ := hD; have f37 : vs 37 = _ := f37; generalize vs 37 = x37 at f37 ⊢; subst x37; replace hL := hL.call hE hM hV
                exact sPu
              · intro vs W1 m1 hE hM hV hD; obtain ⟨⟨_, _, -, -, f37⟩, -⟩ := hD; have f37 : vs 37 = _ := f37; generalize vs 37 = x37 at f37 ⊢; subst x37; replace hL := hL.call hE hM hV
                exact sPu
              · intro vs W1 m1 hE hM hV hD; obtain ⟨⟨_, _, -, -, f39⟩, ⟨_, _, -, -, f37⟩, -⟩ := hD; have f39 : vs 39 = _ := f39; generalize vs 39 = x39 at f39 ⊢; subst x39; have f37 : vs 37 = _ := f37; generalize vs 37 = x37 at f37 ⊢; subst x37; replace hL := hL.call hE hM hV
                exact sPu
              · intro vs W1 m1 hE hM hV hD; obtain ⟨⟨_, _, -, -, f38⟩, ⟨_, _, -, -, f40⟩, ⟨_, _, -, -, f37⟩, -⟩ := hD; have f38 : vs 38 = _ := f38; generalize vs 38 = x38 at f38 ⊢; subst x38; have f40 : vs 40 = _ := f40; generalize vs 40 = x40 at f40 ⊢; subst x40; have f37 : vs 37 = _ := f37; generalize vs 37 = x37 at f37 ⊢; subst x37; replace hL := hL.call hE hM hV
                exact sPu
              · intro vs W1 m1 hE hM hV hD; obtain ⟨⟨_, _, -, -, f41⟩, ⟨_, _, -, -, f37⟩, -⟩ := hD; have f41 : vs 41 = _ := f41; generalize vs 41 = x41 at f41 ⊢; subst x41; have f37 : vs 37 = _ := f37; generalize vs 37 = x37 at f37 ⊢; subst x37; replace hL := hL.call hE hM hV
                exact sPu
              · intro vs W1 m1 hE hM hV hD; obtain ⟨⟨_, _, -, -, f37⟩, -⟩ := hD; have f37 : vs 37 = _ := f37; generalize vs 37 = x37 at f37 ⊢; subst x37; replace hL := hL.call hE hM hV
                exact sPu
              · intro vs W1 m1 hE hM hV hD; obtain ⟨⟨_, _, -, -, f43⟩, ⟨_, _, -, -, f37⟩, -⟩ := hD; have f43 : vs 43 = _ := f43; generalize vs 43 = x43 at f43 ⊢; subst x43; have f37 : vs 37 = _ := f37; generalize vs 37 = x37 at f37 ⊢; subst x37; replace hL := hL.call hE hM hV
                exact sPu
              · intro vs W1 m1 hE hM hV hD; obtain ⟨⟨_, _, -, -, f42⟩, ⟨_, _, -, -, f44⟩, ⟨_, _, -, -, f37⟩, -⟩ := hD; have f42 : vs 42 = _ := f42; generalize vs 42 = x42 at f42 ⊢; subst x42; have f44 : vs 44 = _ := f44; generalize vs 44 = x44 at f44 ⊢; subst x44; have f37 : vs 37 = _ := f37; generalize vs 37 = x37 at f37 ⊢; subst x37; replace hL := hL.call hE hM hV
                exact sPu
              · intro vs W1 m1 hE hM hV hD; obtain ⟨⟨_, _, -, -, f37⟩, ⟨_, _, -, -, f45⟩, -⟩ := hD; have f37 : vs 37 = _ := f37; generalize vs 37 = x37 at f37 ⊢; subst x37; have f45 : vs 45 = _ := f45; generalize vs 45 = x45 at f45 ⊢; subst x45; replace hL := hL.call hE hM hV
                exact sPu
            case l9g =>
              refine ⟨fun h => (by cases h), fun h => (by cases h), fun h => (by cases h), fun h => (by cases h), fun h => (by cases h), fun h => (by cases h), fun h => (by cases h), fun h => (by cases h), fun h => (by cases h), fun h => (by cases h), fun h => (by cases h), fun h => (by cases h), fun h => (by cases h), fun h => (by cases h), fun h => (by cases h), fun h => (by cases h), fun h => (by cases h), fun h => (by cases h), trivial⟩
            intro vs W1 m1 hE hM hV hF hD
            clear hD
            obtain ⟨⟨_, _, -, -, f29⟩, ⟨_, _, -, -, f30⟩, ⟨_, _, -, -, f31⟩, ⟨_, _, -, -, f32⟩, ⟨_, _, -, -, f33⟩, ⟨_, _, -, -, f34⟩, ⟨_, _, -, -, f35⟩, ⟨_, _, -, -, f36⟩, ⟨_, _, -, -, f37⟩, ⟨_, _, -, -, f38⟩, ⟨_, _, -, -, f39⟩, ⟨_, _, -, -, f40⟩, ⟨_, _, -, -, f41⟩, ⟨_, _, -, -, f42⟩, ⟨_, _, -, -, f43⟩, ⟨_, _, -, -, f44⟩, ⟨_, _, -, -, f45⟩, ⟨_, _, -, -, f46⟩, -⟩ := hF
            replace hL := hL.call hE hM hV
            have f29 : vs 29 = _ := f29
            generalize vs 29 = x29 at f29 ⊢
            subst x29
            have f30 : vs 30 = _ := f30
            generalize vs 30 = x30 at f30 ⊢
            subst x30
            have f31 : vs 31 = _ := f31
            generalize vs 31 = x31 at f31 ⊢
            subst x31
            have f32 : vs 32 = _ := f32
            generalize vs 32 = x32 at f32 ⊢
            subst x32
            have f33 : vs 33 = _ := f33
            generalize vs 33 = x33 at f33 ⊢
            subst x33
            have f34 : vs 34 = _ := f34
            generalize vs 34 = x34 at f34 ⊢
            subst x34
            have f35 : vs 35 = _ := f35
            generalize vs 35 = x35 at f35 ⊢
            subst x35
            have f36 : vs 36 = _ := f36
            generalize vs 36 = x36 at f36 ⊢
            subst x36
            have f37 : vs 37 = _ := f37
            generalize vs 37 = x37 at f37 ⊢
            subst x37
            have f38 : vs 38 = _ := f38
            generalize vs 38 = x38 at f38 ⊢
            subst x38
            have f39 : vs 39 = _ := f39
            generalize vs 39 = x39 at f39 ⊢
            subst x39
            have f40 : vs 40 = _ := f40
            generalize vs 40 = x40 at f40 ⊢
            subst x40
            have f41 : vs 41 = _ := f41
            generalize vs 41 = x41 at f41 ⊢
            subst x41
            have f42 : vs 42 = _ := f42
            generalize vs 42 = x42 at f42 ⊢
            subst x42
            have f43 : vs 43 = _ := f43
            generalize vs 43 = x43 at f43 ⊢
            subst x43
            have f44 : vs 44 = _ := f44
            generalize vs 44 = x44 at f44 ⊢
            subst x44
            have f45 : vs 45 = _ := f45
            generalize vs 45 = x45 at f45 ⊢
            subst x45
            have f46 : vs 46 = _ := f46
            generalize vs 46 = x46 at f46 ⊢
            subst x46
            clear hE hV
            simp only [List.drop_succ_cons, List.drop_zero]
            go_wp2_with (first | ((with_reducible refine kAny ?_); go_skip) | (with_reducible refine stA ?_) | ((first | refine tIx ?_ | refine tFd ?_ | refine tLd ?_ | (refine tBx ?_; clear hL; intro _ _ hL _)); simp only [Act.put, zq1, zq2, zq3]))
            refine QN.mk ?_
            go_wp2_with (first | ((with_reducible refine kAny ?_); go_skip) | (with_reducible refine stA ?_) | ((first | refine tIx ?_ | refine tFd ?_ | refine tLd ?_ | (refine tBx ?_; clear hL; intro _ _ hL _)); simp only [Act.put, zq1, zq2, zq3]))
            go_roundw
            case rel => exact ⟨k1 + 1, _, z1 + 1, z2, z3, by omega, by go_num, by go_num, by go_num, by go_num, HW.out, hL⟩
            case measure => have := HK.out; simp [intOf] <;> omega
        · by_cases hb : f = q
          · by_cases hg : g = p
            · have HW : Hid (z1 = ((l.take ((j + 1) + 1)).count p : Int) ∧ z2 + 1 = ((l.take ((j + 1) + 1)).count q : Int) ∧ z3 + 1 = (folN l p q ((j + 1) + 1 - 1) : Int)) := by
                obtain ⟨a1, a2, a3⟩ := HZ.out
                refine ⟨?_, ?_, ?_⟩
                · rw [cnt_step HF.out, if_neg ha, a1]; omega
                · rw [cnt_step HF.out, if_pos hb, a2]
                · rw [Nat.add_sub_cancel, folN_step HG.out HF.out, if_pos (by exact ⟨hg, hb⟩), a3]; simp
              obtain ⟨k1, hk1⟩ : ∃ k1, k1 = j + 1 := ⟨_, rfl⟩
              rw [← hk1] at hc1 hlt ⊢
              have e1 : (k1 : Int) - 1 = (j : Int) := by omega
              have e5 : wrap64 ((k1 : Int) - 1) = (j : Int) := by unfold wrap64; omega
              have e6 : 0 < k1 := by omega
              rw [← hk1] at HW
              have HK := Lib.hid hk1
              clear hk1 HZ HF HG
              subst hb
              subst hg
              go_upto_region 9 with ((first | ((with_reducible refine kAny ?_); go_skip) | (with_reducible refine stA ?_) | ((first | refine tIx ?_ | refine tFd ?_ | refine tLd ?_ | (refine tBx ?_; clear hL; intro _ _ hL _)); simp only [Act.put, zq1, zq2, zq3])))
              (try simp only [eq_self] at *)
              refine wp_region_by2 18 [false, false, false, false, false, false, false, false, false, false, false, false, false, false, false, false, false, false] [false, false, false, false, false, false, false, false, false, false, false, false, false, false, false, false, false, false] [(fun v _ _ => v = ?c9_0h), (fun v _ _ => v = ?c9_1h), (fun v _ _ => v = ?c9_2h), (fun v _ _ => v = ?c9_3h), (fun v _ _ => v = ?c9_4h), (fun v _ _ => v = ?c9_5h), (fun v _ _ => v = ?c9_6h), (fun v _ _ => v = ?c9_7h), (fun v _ _ => v = ?c9_8h), (fun v _ _ => v = ?c9_9h), (fun v _ _ => v = ?c9_10h), (fun v _ _ => v = ?c9_11h), (fun v _ _ => v = ?c9_12h), (fun v _ _ => v = ?c9_13h), (fun v _ _ => v = ?c9_14h), (fun v _ _ => v = ?c9_15h), (fun v _ _ => v = ?c9_16h), (fun v _ _ => v = ?c9_17h)] hL.vw mixed [29, 30, 31, 32, 33, 34, 35, 36, 37, 38, 39, 40, 41, 42, 43, 44, 45, 46] _ (by kernel_rfl) (fun vs => by simp only [lay, Act.put, zq1, zq2, zq3]; rfl) (by kernel_rfl) (by decide) (by decide) ?s9h ?l9h ?r9h
              case s9h =>
                refine ⟨?_, ?_, ?_, ?_, ?_, ?_, ?_, ?_, ?_, ?_, ?_, ?_, ?_, ?_, ?_, ?_, ?_, ?_, trivial⟩
                · intro vs W1 m1 hE hM hV hD; clear hD; replace hL := hL.call hE hM hV
                  exact sPu
                · intro vs W1 m1 hE hM hV hD; obtain ⟨⟨_, _, -, -, f29⟩, -⟩ := hD; have f29 : vs 29 = _ := f29; generalize vs 29 = x29 at f29 ⊢; subst x29; replace hL := hL.call hE hM hV
                  exact sPu
                · intro vs W1 m1 hE hM hV hD; obtain ⟨⟨_, _, -, -, f30⟩, -⟩ := hD; have f30 : vs 30 = _ := f30; generalize vs 30 = x30 at f30 ⊢; subst x30; replace hL := hL.call hE hM hV
                  exact sPu
                · intro vs W1 m1 hE hM hV hD; obtain ⟨⟨_, _, -, -, f31⟩, -⟩ := hD; have f31 : vs 31 = _ := f31; generalize vs 31 = x31 at f31 ⊢; subst x31; replace hL := hL.call hE hM hV
                  exact sPu
                · intro vs W1 m1 hE hM hV hD; obtain ⟨⟨_, _, -, -, f31⟩, -⟩ := hD; have f31 : vs 31 = _ := f31; generalize vs 31 = x31 at f31 ⊢; subst x31; replace hL := hL.call hE hM hV
                  exact sFd
                · intro vs W1 m1 hE hM hV hD; obtain ⟨⟨_, _, -, -, f33⟩, ⟨_, _, -, -, f31⟩, -⟩ := hD; have f33 : vs 33 = _ := f33; generalize vs 33 = x33 at f33 ⊢; subst x33; have f31 : vs 31 = _ := f31; generalize vs 31 = x31 at f31 ⊢; subst x31; replace hL := hL.call hE hM hV
                  exact sLd
                · intro vs W1 m1 hE hM hV hD; obtain ⟨⟨_, _, -, -, f32⟩, ⟨_, _, -, -, f34⟩, ⟨_, _, -, -, f31⟩, -⟩ := hD; have f32 : vs 32 = _ := f32; generalize vs 32 = x32 at f32 ⊢; subst x32; have f34 : vs 34 = _ := f34; generalize vs 34 = x34 at f34 ⊢; subst x34; have f31 : vs 31 = _ := f31; generalize vs 31 = x31 at f31 ⊢; subst x31; replace hL := hL.call hE hM hV
                  exact sPu
                · intro vs W1 m1 hE hM hV hD; obtain ⟨⟨_, _, -, -, f31⟩, ⟨_, _, -, -, f35⟩, -⟩ := hD; have f31 : vs 31 = _ := f31; generalize vs 31 = x31 at f31 ⊢; subst x31; have f35 : vs 35 = _ := f35; generalize vs 35 = x35 at f35 ⊢; subst x35; replace hL := hL.call hE hM hV
                  exact sPu
                · intro vs W1 m1 hE hM hV hD; obtain ⟨⟨_, _, -, -, f36⟩, -, -⟩ := hD; have f36 : vs 36 = _ := f36; generalize vs 36 = x36 at f36 ⊢; subst x36; replace hL := hL.call hE hM hV
                  exact sPu
                · intro vs W1 m1 hE hM hV hD; obtain ⟨⟨_, _, -, -, f37⟩, -⟩ := hD; have f37 : vs 37 = _ := f37; generalize vs 37 = x37 at f37 ⊢; subst x37; replace hL := hL.call hE hM hV
                  exact sPu
                · intro vs W1 m1 hE hM hV hD; obtain ⟨⟨_, _, -, -, f37⟩, -⟩ := hD; have f37 : vs 37 = _ := f37; generalize vs 37 = x37 at f37 ⊢; subst x37; replace hL := hL.call hE hM hV
                  exact sPu
                · intro vs W1 m1 hE hM hV hD; obtain ⟨⟨_, _, -, -, f39⟩, ⟨_, _, -, -, f37⟩, -⟩ := hD; have f39 : vs 39 = _ := f39; generalize vs 39 = x39 at f39 ⊢; subst x39; have f37 : vs 37 = _ := f37; generalize vs 37 = x37 at f37 ⊢; subst x37; replace hL := hL.call hE hM hV
                  exact sPu
                · intro vs W1 m1 hE hM hV hD; obtain ⟨⟨_, _, -, -, f38⟩, ⟨_, _, -, -, f40⟩, ⟨_, _, -, -, f37⟩, -⟩ := hD; have f38 : vs 38 = _ := f38; generalize vs 38 = x38 at f38 ⊢; subst x38; have f40 : vs 40 = _ := f40; generalize vs 40 = x40 at f40 ⊢; subst x40; have f37 : vs 37 = _ := f37; generalize vs 37 = x37 at f37 ⊢; subst x37; replace hL := hL.call hE hM hV
                  exact sIx
                · intro vs W1 m1 hE hM hV hD; obtain ⟨⟨_, _, -, -, f41⟩, ⟨_, _, -, -, f37⟩, -⟩ := hD; have f41 : vs 41 = _ := f41; generalize vs 41 = x41 at f41 ⊢; subst x41; have f37 : vs 37 = _ := f37; generalize vs 37 = x37 at f37 ⊢; subst x37; replace hL := hL.call hE hM hV
                  exact sLd
                · intro vs W1 m1 hE hM hV hD; obtain ⟨⟨_, _, -, -, f37⟩, -⟩ := hD; have f37 : vs 37 = _ := f37; generalize vs 37 = x37 at f37 ⊢; subst x37; replace hL := hL.call hE hM hV
                  exact sFd
                · intro vs W1 m1 hE hM hV hD; obtain ⟨⟨_, _, -, -, f43⟩, ⟨_, _, -, -, f37⟩, -⟩ := hD; have f43 : vs 43 = _ := f43; generalize vs 43 = x43 at f43 ⊢; subst x43; have f37 : vs 37 = _ := f37; generalize vs 37 = x37 at f37 ⊢; subst x37; replace hL := hL.call hE hM hV
                  exact sLd
                · intro vs W1 m1 hE hM hV hD; obtain ⟨⟨_, _, -, -, f42⟩, ⟨_, _, -, -, f44⟩, ⟨_, _, -, -, f37⟩, -⟩ := hD; have f42 : vs 42 = _ := f42; generalize vs 42 = x42 at f42 ⊢; subst x42; have f44 : vs 44 = _ := f44; generalize vs 44 = x44 at f44 ⊢; subst x44; have f37 : vs 37 = _ := f37; generalize vs 37 = x37 at f37 ⊢; subst x37; replace hL := hL.call hE hM hV
                  exact sPu
                · intro vs W1 m1 hE hM hV hD; obtain ⟨⟨_, _, -, -, f37⟩, ⟨_, _, -, -, f45⟩, -⟩ := hD; have f37 : vs 37 = _ := f37; generalize vs 37 = x37 at f37 ⊢; subst x37; have f45 : vs 45 = _ := f45; generalize vs 45 = x45 at f45 ⊢; subst x45; replace hL := hL.call hE hM hV
                  exact sPu
              case l9h =>
                refine ⟨fun h => (by cases h), fun h => (by cases h), fun h => (by cases h), fun h => (by cases h), fun h => (by cases h), fun h => (by cases h), fun h => (by cases h), fun h => (by cases h), fun h => (by cases h), fun h => (by cases h), fun h => (by cases h), fun h => (by cases h), fun h => (by cases h), fun h => (by cases h), fun h => (by cases h), fun h => (by cases h), fun h => (by cases h), fun h => (by cases h), trivial⟩
              intro vs W1 m1 hE hM hV hF hD
              clear hD
              obtain ⟨⟨_, _, -, -, f29⟩, ⟨_, _, -, -, f30⟩, ⟨_, _, -, -, f31⟩, ⟨_, _, -, -, f32⟩, ⟨_, _, -, -, f33⟩, ⟨_, _, -, -, f34⟩, ⟨_, _, -, -, f35⟩, ⟨_, _, -, -, f36⟩, ⟨_, _, -, -, f37⟩, ⟨_, _, -, -, f38⟩, ⟨_, _, -, -, f39⟩, ⟨_, _, -, -, f40⟩, ⟨_, _, -, -, f41⟩, ⟨_, _, -, -, f42⟩, ⟨_, _, -, -, f43⟩, ⟨_, _, -, -, f44⟩, ⟨_, _, -, -, f45⟩, ⟨_, _, -, -, f46⟩, -⟩ := hF
              replace hL := hL.call hE hM hV
              have f29 : vs 29 = _ := f29
              generalize vs 29 = x29 at f29 ⊢
              subst x29
              have f30 : vs 30 = _ := f30
              generalize vs 30 = x30 at f30 ⊢
              subst x30
              have f31 : vs 31 = _ := f31
              generalize vs 31 = x31 at f31 ⊢
              subst x31
              have f32 : vs 32 = _ := f32
              generalize vs 32 = x32 at f32 ⊢
              subst x32
              have f33 : vs 33 = _ := f33
              generalize vs 33 = x33 at f33 ⊢
              subst x33
              have f34 : vs 34 = _ := f34
              generalize vs 34 = x34 at f34 ⊢
              subst x34
              have f35 : vs 35 = _ := f35
              generalize vs 35 = x35 at f35 ⊢
              subst x35
              have f36 : vs 36 = _ := f36
              generalize vs 36 = x36 at f36 ⊢
              subst x36
              have f37 : vs 37 = _ := f37
              generalize vs 37 = x37 at f37 ⊢
              subst x37
              have f38 : vs 38 = _ := f38
              generalize vs 38 = x38 at f38 ⊢
              subst x38
              have f39 : vs 39 = _ := f39
              generalize vs 39 = x39 at f39 ⊢
              subst x39
              have f40 : vs 40 = _ := f40
              generalize vs 40 = x40 at f40 ⊢
              subst x40
              have f41 : vs 41 = _ := f41
              generalize vs 41 = x41 at f41 ⊢
              subst x41
              have f42 : vs 42 = _ := f42
              generalize vs 42 = x42 at f42 ⊢
              subst x42
              have f43 : vs 43 = _ := f43
              generalize vs 43 = x43 at f43 ⊢
              subst x43
              have f44 : vs 44 = _ := f44
              generalize vs 44 = x44 at f44 ⊢
              subst x44
              have f45 : vs 45 = _ := f45
              generalize vs 45 = x45 at f45 ⊢
              subst x45
              have f46 : vs 46 = _ := f46
              generalize vs 46 = x46 at f46 ⊢
              subst x46
              clear hE hV
              simp only [List.drop_succ_cons, List.drop_zero]
              go_wp2_with (first | ((with_reducible refine kAny ?_); go_skip) | (with_reducible refine stA ?_) | ((first | refine tIx ?_ | refine tFd ?_ | refine tLd ?_ | (refine tBx ?_; clear hL; intro _ _ hL _)); simp only [Act.put, zq1, zq2, zq3]))
              refine QN.mk ?_
              go_wp2_with (first | ((with_reducible refine kAny ?_); go_skip) | (with_reducible refine stA ?_) | ((first | refine tIx ?_ | refine tFd ?_ | refine tLd ?_ | (refine tBx ?_; clear hL; intro _ _ hL _)); simp only [Act.put, zq1, zq2, zq3]))
              go_roundw
              case rel => exact ⟨k1 + 1, _, z1, z2 + 1, z3 + 1, by omega, by go_num, by go_num, by go_num, by go_num, HW.out, hL⟩
              case measure => have := HK.out; simp [intOf] <;> omega
            · have HW : Hid (z1 = ((l.take ((j + 1) + 1)).count p : Int) ∧ z2 + 1 = ((l.take ((j + 1) + 1)).count q : Int) ∧ z3 = (folN l p q ((j + 1) + 1 - 1) : Int)) := by
                obtain ⟨a1, a2, a3⟩ := HZ.out
                refine ⟨?_, ?_, ?_⟩
                · rw [cnt_step HF.out, if_neg ha, a1]; omega
                · rw [cnt_step HF.out, if_pos hb, a2]
                · rw [Nat.add_sub_cancel, folN_step HG.out HF.out, if_neg (by rintro ⟨e1, e2⟩; exact hg e1), a3]; simp
              obtain ⟨k1, hk1⟩ : ∃ k1, k1 = j + 1 := ⟨_, rfl⟩
              rw [← hk1] at hc1 hlt ⊢
              have e1 : (k1 : Int) - 1 = (j : Int) := by omega
              have e5 : wrap64 ((k1 : Int) - 1) = (j : Int) := by unfold wrap64; omega
              have e6 : 0 < k1 := by omega
              rw [← hk1] at HW
              have HK := Lib.hid hk1
              clear hk1 HZ HF HG
              subst hb
              go_upto_region 9 with ((first | ((with_reducible refine kAny ?_); go_skip) | (with_reducible refine stA ?_) | ((first | refine tIx ?_ | refine tFd ?_ | refine tLd ?_ | (refine tBx ?_; clear hL; intro _ _ hL _)); simp only [Act.put, zq1, zq2, zq3])))
              (try simp only [eq_self] at *)
              refine wp_region_by2 18 [false, false, false, false, false, false, false, false, false, false, false, false, false, false, false, false, false, false] [false, false, false, false, false, false, false, false, false, false, false, false, false, false, false, false, false, false] [(fun v _ _ => v = ?c9_0i), (fun v _ _ => v = ?c9_1i), (fun v _ _ => v = ?c9_2i), (fun v _ _ => v = ?c9_3i), (fun v _ _ => v = ?c9_4i), (fun v _ _ => v = ?c9_5i), (fun v _ _ => v = ?c9_6i), (fun v _ _ => v = ?c9_7i), (fun v _ _ => v = ?c9_8i), (fun v _ _ => v = ?c9_9i), (fun v _ _ => v = ?c9_10i), (fun v _ _ => v = ?c9_11i), (fun v _ _ => v = ?c9_12i), (fun v _ _ => v = ?c9_13i), (fun v _ _ => v = ?c9_14i), (fun v _ _ => v = ?c9_15i), (fun v _ _ => v = ?c9_16i), (fun v _ _ => v = ?c9_17i)] hL.vw mixed [29, 30, 31, 32, 33, 34, 35, 36, 37, 38, 39, 40, 41, 42, 43, 44, 45, 46] _ (by kernel_rfl) (fun vs => by simp only [lay, Act.put, zq1, zq2, zq3]; rfl) (by kernel_rfl) (by decide) (by decide) ?s9i ?l9i ?r9i
              case s9i =>
                refine ⟨?_, ?_, ?_, ?_, ?_, ?_, ?_, ?_, ?_, ?_, ?_, ?_, ?_, ?_, ?_, ?_, ?_, ?_, trivial⟩
                · intro vs W1 m1 hE hM hV hD; clear hD; replace hL := hL.call hE hM hV
                  exact sPu
                · intro vs W1 m1 hE hM hV hD; obtain ⟨⟨_, _, -, -, f29⟩, -⟩ := hD; have f29 : vs 29 = _ := f29; generalize vs 29 = x29 at f29 ⊢; subst x29; replace hL := hL.call hE hM hV
                  exact sPu
                · intro vs W1 m1 hE hM hV hD; obtain ⟨⟨_, _, -, -, f30⟩, -⟩ := hD; have f30 : vs 30 = _ := f30; generalize vs 30 = x30 at f30 ⊢; subst x30; replace hL := hL.call hE hM hV
                  exact sPu
                · intro vs W1 m1 hE hM hV hD; obtain ⟨⟨_, _, -, -, f31⟩, -⟩ := hD; have f31 : vs 31 = _ := f31; generalize vs 31 = x31 at f31 ⊢; subst x31; replace hL := hL.call hE hM hV
                  exact sPu
                · intro vs W1 m1 hE hM hV hD; obtain ⟨⟨_, _, -, -, f31⟩, -⟩ := hD; have f31 : vs 31 = _ := f31; generalize vs 31 = x31 at f31 ⊢; subst x31; replace hL := hL.call hE hM hV
                  exact sFd
                · intro vs W1 m1 hE hM hV hD; obtain ⟨⟨_, _, -, -, f33⟩, ⟨_, _, -, -, f31⟩, -⟩ := hD; have f33 : vs 33 = _ := f33; generalize vs 33 = x33 at f33 ⊢; subst x33; have f31 : vs 31 = _ := f31; generalize vs 31 = x31 at f31 ⊢; subst x31; replace hL := hL.call hE hM hV
                  exact sLd
                · intro vs W1 m1 hE hM hV hD; obtain ⟨⟨_, _, -, -, f32⟩, ⟨_, _, -, -, f34⟩, ⟨_, _, -, -, f31⟩, -⟩ := hD; have f32 : vs 32 = _ := f32; generalize vs 32 = x32 at f32 ⊢; subst x32; have f34 : vs 34 = _ := f34; generalize vs 34 = x34 at f34 ⊢; subst x34; have f31 : vs 31 = _ := f31; generalize vs 31 = x31 at f31 ⊢; subst x31; replace hL := hL.call hE hM hV
                  exact sPu
                · intro vs W1 m1 hE hM hV hD; obtain ⟨⟨_, _, -, -, f31⟩, ⟨_, _, -, -, f35⟩, -⟩ := hD; have f31 : vs 31 = _ := f31; generalize vs 31 = x31 at f31 ⊢; subst x31; have f35 : vs 35 = _ := f35; generalize vs 35 = x35 at f35 ⊢; subst x35; replace hL := hL.call hE hM hV
                  exact sPu
                · intro vs W1 m1 hE hM hV hD; obtain ⟨⟨_, _, -, -, f36⟩, -, -⟩ := hD; have f36 : vs 36 = _ := f36; generalize vs 36 = x36 at f36 ⊢; subst x36; replace hL := hL.call hE hM hV
                  exact sPu
                · intro vs W1 m1 hE hM hV hD; obtain ⟨⟨_, _, -, -, f37⟩, -⟩ := hD; have f37 : vs 37 = _ := f37; generalize vs 37 = x37 at f37 ⊢; subst x37; replace hL := hL.call hE hM hV
                  exact sPu
                · intro vs W1 m1 hE hM hV hD; obtain ⟨⟨_, _, -, -, f37⟩, -⟩ := hD; have f37 : vs 37 = _ := f37; generalize vs 37 = x37 at f37 ⊢; subst x37; replace hL := hL.call hE hM hV
                  exact sPu
                · intro vs W1 m1 hE hM hV hD; obtain ⟨⟨_, _, -, -, f39⟩, ⟨_, _, -, -, f37⟩, -⟩ := hD; have f39 : vs 39 = _ := f39; generalize vs 39 = x39 at f39 ⊢; subst x39; have f37 : vs 37 = _ := f37; generalize vs 37 = x37 at f37 ⊢; subst x37; replace hL := hL.call hE hM hV
                  exact sPu
                · intro vs W1 m1 hE hM hV hD; obtain ⟨⟨_, _, -, -, f38⟩, ⟨_, _, -, -, f40⟩, ⟨_, _, -, -, f37⟩, -⟩ := hD; have f38 : vs 38 = _ := f38; generalize vs 38 = x38 at f38 ⊢; subst x38; have f40 : vs 40 = _ := f40; generalize vs 40 = x40 at f40 ⊢; subst x40; have f37 : vs 37 = _ := f37; generalize vs 37 = x37 at f37 ⊢; subst x37; replace hL := hL.call hE hM hV
                  exact sIx
                · intro vs W1 m1 hE hM hV hD; obtain ⟨⟨_, _, -, -, f41⟩, ⟨_, _, -, -, f37⟩, -⟩ := hD; have f41 : vs 41 = _ := f41; generalize vs 41 = x41 at f41 ⊢; subst x41; have f37 : vs 37 = _ := f37; generalize vs 37 = x37 at f37 ⊢; subst x37; replace hL := hL.call hE hM hV
                  exact sLd
                · intro vs W1 m1 hE hM hV hD; obtain ⟨⟨_, _, -, -, f37⟩, -⟩ := hD; have f37 : vs 37 = _ := f37; generalize vs 37 = x37 at f37 ⊢; subst x37; replace hL := hL.call hE hM hV
                  exact sFd
                · intro vs W1 m1 hE hM hV hD; obtain ⟨⟨_, _, -, -, f43⟩, ⟨_, _, -, -, f37⟩, -⟩ := hD; have f43 : vs 43 = _ := f43; generalize vs 43 = x43 at f43 ⊢; subst x43; have f37 : vs 37 = _ := f37; generalize vs 37 = x37 at f37 ⊢; subst x37; replace hL := hL.call hE hM hV
                  exact sLd
                · intro vs W1 m1 hE hM hV hD; obtain ⟨⟨_, _, -, -, f42⟩, ⟨_, _, -, -, f44⟩, ⟨_, _, -, -, f37⟩, -⟩ := hD; have f42 : vs 42 = _ := f42; generalize vs 42 = x42 at f42 ⊢; subst x42; have f44 : vs 44 = _ := f44; generalize vs 44 = x44 at f44 ⊢; subst x44; have f37 : vs 37 = _ := f37; generalize vs 37 = x37 at f37 ⊢; subst x37; replace hL := hL.call hE hM hV
                  exact sPu
                · intro vs W1 m1 hE hM hV hD; obtain ⟨⟨_, _, -, -, f37⟩, ⟨_, _, -, -, f45⟩, -⟩ := hD; have f37 : vs 37 = _ := f37; generalize vs 37 = x37 at f37 ⊢; subst x37; have f45 : vs 45 = _ := f45; generalize vs 45 = x45 at f45 ⊢; subst x45; replace hL := hL.call hE hM hV
                  exact sPu
              case l9i =>
                refine ⟨fun h => (by cases h), fun h => (by cases h), fun h => (by cases h), fun h => (by cases h), fun h => (by cases h), fun h => (by cases h), fun h => (by cases h), fun h => (by cases h), fun h => (by cases h), fun h => (by cases h), fun h => (by cases h), fun h => (by cases h), fun h => (by cases h), fun h => (by cases h), fun h => (by cases h), fun h => (by cases h), fun h => (by cases h), fun h => (by cases h), trivial⟩
              intro vs W1 m1 hE hM hV hF hD
              clear hD
              obtain ⟨⟨_, _, -, -, f29⟩, ⟨_, _, -, -, f30⟩, ⟨_, _, -, -, f31⟩, ⟨_, _, -, -, f32⟩, ⟨_, _, -, -, f33⟩, ⟨_, _, -, -, f34⟩, ⟨_, _, -, -, f35⟩, ⟨_, _, -, -, f36⟩, ⟨_, _, -, -, f37⟩, ⟨_, _, -, -, f38⟩, ⟨_, _, -, -, f39⟩, ⟨_, _, -, -, f40⟩, ⟨_, _, -, -, f41⟩, ⟨_, _, -, -, f42⟩, ⟨_, _, -, -, f43⟩, ⟨_, _, -, -, f44⟩, ⟨_, _, -, -, f45⟩, ⟨_, _, -, -, f46⟩, -⟩ := hF
              replace hL := hL.call hE hM hV
              have f29 : vs 29 = _ := f29
              generalize vs 29 = x29 at f29 ⊢
              subst x29
              have f30 : vs 30 = _ := f30
              generalize vs 30 = x30 at f30 ⊢
              subst x30
              have f31 : vs 31 = _ := f31
              generalize vs 31 = x31 at f31 ⊢
              subst x31
              have f32 : vs 32 = _ := f32
              generalize vs 32 = x32 at f32 ⊢
              subst x32
              have f33 : vs 33 = _ := f33
              generalize vs 33 = x33 at f33 ⊢
              subst x33
              have f34 : vs 34 = _ := f34
              generalize vs 34 = x34 at f34 ⊢
              subst x34
              have f35 : vs 35 = _ := f35
              generalize vs 35 = x35 at f35 ⊢
              subst x35
              have f36 : vs 36 = _ := f36
              generalize vs 36 = x36 at f36 ⊢
              subst x36
              have f37 : vs 37 = _ := f37
              generalize vs 37 = x37 at f37 ⊢
              subst x37
              have f38 : vs 38 = _ := f38
              generalize vs 38 = x38 at f38 ⊢
              subst x38
              have f39 : vs 39 = _ := f39
              generalize vs 39 = x39 at f39 ⊢
              subst x39
              have f40 : vs 40 = _ := f40
              generalize vs 40 = x40 at f40 ⊢
              subst x40
              have f41 : vs 41 = _ := f41
              generalize vs 41 = x41 at f41 ⊢
              subst x41
              have f42 : vs 42 = _ := f42
              generalize vs 42 = x42 at f42 ⊢
              subst x42
              have f43 : vs 43 = _ := f43
              generalize vs 43 = x43 at f43 ⊢
              subst x43
              have f44 : vs 44 = _ := f44
              generalize vs 44 = x44 at f44 ⊢
              subst x44
              have f45 : vs 45 = _ := f45
              generalize vs 45 = x45 at f45 ⊢
              subst x45
              have f46 : vs 46 = _ := f46
              generalize vs 46 = x46 at f46 ⊢
              subst x46
              clear hE hV
              simp only [List.drop_succ_cons, List.drop_zero]
              go_wp2_with (first | ((with_reducible refine kAny ?_); go_skip) | (with_reducible refine stA ?_) | ((first | refine tIx ?_ | refine tFd ?_ | refine tLd ?_ | (refine tBx ?_; clear hL; intro _ _ hL _)); simp only [Act.put, zq1, zq2, zq3]))
              refine QN.mk ?_
              go_wp2_with (first | ((with_reducible refine kAny ?_); go_skip) | (with_reducible refine stA ?_) | ((first | refine tIx ?_ | refine tFd ?_ | refine tLd ?_ | (refine tBx ?_; clear hL; intro _ _ hL _)); simp only [Act.put, zq1, zq2, zq3]))
              go_roundw
              case rel => exact ⟨k1 + 1, _, z1, z2 + 1, z3, by omega, by go_num, by go_num, by go_num, by go_num, HW.out, hL⟩
              case measure => have := HK.out; simp [intOf] <;> omega
          · have HW : Hid (z1 = ((l.take ((j + 1) + 1)).count p : Int) ∧ z2 = ((l.take ((j + 1) + 1)).count q : Int) ∧ z3 = (folN l p q ((j + 1) + 1 - 1) : Int)) := by
              obtain ⟨a1, a2, a3⟩ := HZ.out
              refine ⟨?_, ?_, ?_⟩
              · rw [cnt_step HF.out, if_neg ha, a1]; omega
              · rw [cnt_step HF.out, if_neg hb, a2]; omega
              · rw [Nat.add_sub_cancel, folN_step HG.out HF.out, if_neg (by rintro ⟨e1, e2⟩; exact hb e2), a3]; simp
            obtain ⟨k1, hk1⟩ : ∃ k1, k1 = j + 1 := ⟨_, rfl⟩
            rw [← hk1] at hc1 hlt ⊢
            have e1 : (k1 : Int) - 1 = (j : Int) := by omega
            have e5 : wrap64 ((k1 : Int) - 1) = (j : Int) := by unfold wrap64; omega
            have e6 : 0 < k1 := by omega
            rw [← hk1] at HW
            have HK := Lib.hid hk1
            clear hk1 HZ HF HG
            go_upto_region 9 with ((first | ((with_reducible refine kAny ?_); go_skip) | (with_reducible refine stA ?_) | ((first | refine tIx ?_ | refine tFd ?_ | refine tLd ?_ | (refine tBx ?_; clear hL; intro _ _ hL _)); simp only [Act.put, zq1, zq2, zq3])))
            (try simp only [eq_self] at *)
            refine wp_region_by2 18 [false, false, false, false, false, false, false, false, false, false, false, false, false, false, false, false, false, false] [false, false, false, false, false, false, false, false, false, false, false, false, false, false, false, false, false, false] [(fun v _ _ => v = ?c9_0j), (fun v _ _ => v = ?c9_1j), (fun v _ _ => v = ?c9_2j), (fun v _ _ => v = ?c9_3j), (fun v _ _ => v = ?c9_4j), (fun v _ _ => v = ?c9_5j), (fun v _ _ => v = ?c9_6j), (fun v _ _ => v = ?c9_7j), (fun v _ _ => v = ?c9_8j), (fun v _ _ => v = ?c9_9j), (fun v _ _ => v = ?c9_10j), (fun v _ _ => v = ?c9_11j), (fun v _ _ => v = ?c9_12j), (fun v _ _ => v = ?c9_13j), (fun v _ _ => v = ?c9_14j), (fun v _ _ => v = ?c9_15j), (fun v _ _ => v = ?c9_16j), (fun v _ _ => v = ?c9_17j)] hL.vw mixed [29, 30, 31, 32, 33, 34, 35, 36, 37, 38, 39, 40, 41, 42, 43, 44, 45, 46] _ (by kernel_rfl) (fun vs => by simp only [lay, Act.put, zq1, zq2, zq3]; rfl) (by kernel_rfl) (by decide) (by decide) ?s9j ?l9j ?r9j
            case s9j =>
              refine ⟨?_, ?_, ?_, ?_, ?_, ?_, ?_, ?_, ?_, ?_, ?_, ?_, ?_, ?_, ?_, ?_, ?_, ?_, trivial⟩
              · intro vs W1 m1 hE hM hV hD; clear hD; replace hL := hL.call hE hM hV
                exact sPu
              · intro vs W1 m1 hE hM hV hD; obtain ⟨⟨_, _, -, -, f29⟩, -⟩ := hD; have f29 : vs 29 = _ := f29; generalize vs 29 = x29 at f29 ⊢; subst x29; replace hL := hL.call hE hM hV
                exact sPu
              · intro vs W1 m1 hE hM hV hD; obtain ⟨⟨_, _, -, -, f30⟩, -⟩ := hD; have f30 : vs 30 = _ := f30; generalize vs 30 = x30 at f30 ⊢; subst x30; replace hL := hL.call hE hM hV
                exact sPu
              · intro vs W1 m1 hE hM hV hD; obtain ⟨⟨_, _, -, -, f31⟩, -⟩ := hD; have f31 : vs 31 = _ := f31; generalize vs 31 = x31 at f31 ⊢; subst x31; replace hL := hL.call hE hM hV
                exact sPu
              · intro vs W1 m1 hE hM hV hD; obtain ⟨⟨_, _, -, -, f31⟩, -⟩ := hD; have f31 : vs 31 = _ := f31; generalize vs 31 = x31 at f31 ⊢; subst x31; replace hL := hL.call hE hM hV
                exact sFd
              · intro vs W1 m1 hE hM hV hD; obtain ⟨⟨_, _, -, -, f33⟩, ⟨_, _, -, -, f31⟩, -⟩ := hD; have f33 : vs 33 = _ := f33; generalize vs 33 = x33 at f33 ⊢; subst x33; have f31 : vs 31 = _ := f31; generalize vs 31 = x31 at f31 ⊢; subst x31; replace hL := hL.call hE hM hV
                exact sLd
              · intro vs W1 m1 hE hM hV hD; obtain ⟨⟨_, _, -, -, f32⟩, ⟨_, _, -, -, f34⟩, ⟨_, _, -, -, f31⟩, -⟩ := hD; have f32 : vs 32 = _ := f32; generalize vs 32 = x32 at f32 ⊢; subst x32; have f34 : vs 34 = _ := f34; generalize vs 34 = x34 at f34 ⊢; subst x34; have f31 : vs 31 = _ := f31; generalize vs 31 = x31 at f31 ⊢; subst x31; replace hL := hL.call hE hM hV
                exact sPu
              · intro vs W1 m1 hE hM hV hD; obtain ⟨⟨_, _, -, -, f31⟩, ⟨_, _, -, -, f35⟩, -⟩ := hD; have f31 : vs 31 = _ := f31; generalize vs 31 = x31 at f31 ⊢; subst x31; have f35 : vs 35 = _ := f35; generalize vs 35 = x35 at f35 ⊢; subst x35; replace hL := hL.call hE hM hV
                exact sPu
              · intro vs W1 m1 hE hM hV hD; obtain ⟨⟨_, _, -, -, f36⟩, -, -⟩ := hD; have f36 : vs 36 = _ := f36; generalize vs 36 = x36 at f36 ⊢; subst x36; replace hL := hL.call hE hM hV
                exact sPu
              · intro vs W1 m1 hE hM hV hD; obtain ⟨⟨_, _, -, -, f37⟩, -⟩ := hD; have f37 : vs 37 = _ := f37; generalize vs 37 = x37 at f37 ⊢; subst x37; replace hL := hL.call hE hM hV
                exact sPu
              · intro vs W1 m1 hE hM hV hD; obtain ⟨⟨_, _, -, -, f37⟩, -⟩ := hD; have f37 : vs 37 = _ := f37; generalize vs 37 = x37 at f37 ⊢; subst x37; replace hL := hL.call hE hM hV
                exact sPu
              · intro vs W1 m1 hE hM hV hD; obtain ⟨⟨_, _, -, -, f39⟩, ⟨_, _, -, -, f37⟩, -⟩ := hD; have f39 : vs 39 = _ := f39; generalize vs 39 = x39 at f39 ⊢; subst x39; have f37 : vs 37 = _ := f37; generalize vs 37 = x37 at f37 ⊢; subst x37; replace hL := hL.call hE hM hV
                exact sPu
              · intro vs W1 m1 hE hM hV hD; obtain ⟨⟨_, _, -, -, f38⟩, ⟨_, _, -, -, f40⟩, ⟨_, _, -, -, f37⟩, -⟩ := hD; have f38 : vs 38 = _ := f38; generalize vs 38 = x38 at f38 ⊢; subst x38; have f40 : vs 40 = _ := f40; generalize vs 40 = x40 at f40 ⊢; subst x40; have f37 : vs 37 = _ := f37; generalize vs 37 = x37 at f37 ⊢; subst x37; replace hL := hL.call hE hM hV
                exact sPu
              · intro vs W1 m1 hE hM hV hD; obtain ⟨⟨_, _, -, -, f41⟩, ⟨_, _, -, -, f37⟩, -⟩ := hD; have f41 : vs 41 = _ := f41; generalize vs 41 = x41 at f41 ⊢; subst x41; have f37 : vs 37 = _ := f37; generalize vs 37 = x37 at f37 ⊢; subst x37; replace hL := hL.call hE hM hV
                exact sPu
              · intro vs W1 m1 hE hM hV hD; obtain ⟨⟨_, _, -, -, f37⟩, -⟩ := hD; have f37 : vs 37 = _ := f37; generalize vs 37 = x37 at f37 ⊢; subst x37; replace hL := hL.call hE hM hV
                exact sPu
              · intro vs W1 m1 hE hM hV hD; obtain ⟨⟨_, _, -, -, f43⟩, ⟨_, _, -, -, f37⟩, -⟩ := hD; have f43 : vs 43 = _ := f43; generalize vs 43 = x43 at f43 ⊢; subst x43; have f37 : vs 37 = _ := f37; generalize vs 37 = x37 at f37 ⊢; subst x37; replace hL := hL.call hE hM hV
                exact sPu
              · intro vs W1 m1 hE hM hV hD; obtain ⟨⟨_, _, -, -, f42⟩, ⟨_, _, -, -, f44⟩, ⟨_, _, -, -, f37⟩, -⟩ := hD; have f42 : vs 42 = _ := f42; generalize vs 42 = x42 at f42 ⊢; subst x42; have f44 : vs 44 = _ := f44; generalize vs 44 = x44 at f44 ⊢; subst x44; have f37 : vs 37 = _ := f37; generalize vs 37 = x37 at f37 ⊢; subst x37; replace hL := hL.call hE hM hV
                exact sPu
              · intro vs W1 m1 hE hM hV hD; obtain ⟨⟨_, _, -, -, f37⟩, ⟨_, _, -, -, f45⟩, -⟩ := hD; have f37 : vs 37 = _ := f37; generalize vs 37 = x37 at f37 ⊢; subst x37; have f45 : vs 45 = _ := f45; generalize vs 45 = x45 at f45 ⊢; subst x45; replace hL := hL.call hE hM hV
                exact sPu
            case l9j =>
              refine ⟨fun h => (by cases h), fun h => (by cases h), fun h => (by cases h), fun h => (by cases h), fun h => (by cases h), fun h => (by cases h), fun h => (by cases h), fun h => (by cases h), fun h => (by cases h), fun h => (by cases h), fun h => (by cases h), fun h => (by cases h), fun h => (by cases h), fun h => (by cases h), fun h => (by cases h), fun h => (by cases h), fun h => (by cases h), fun h => (by cases h), trivial⟩
            intro vs W1 m1 hE hM hV hF hD
            clear hD
            obtain ⟨⟨_, _, -, -, f29⟩, ⟨_, _, -, -, f30⟩, ⟨_, _, -, -, f31⟩, ⟨_, _, -, -, f32⟩, ⟨_, _, -, -, f33⟩, ⟨_, _, -, -, f34⟩, ⟨_, _, -, -, f35⟩, ⟨_, _, -, -, f36⟩, ⟨_, _, -, -, f37⟩, ⟨_, _, -, -, f38⟩, ⟨_, _, -, -, f39⟩, ⟨_, _, -, -, f40⟩, ⟨_, _, -, -, f41⟩, ⟨_, _, -, -, f42⟩, ⟨_, _, -, -, f43⟩, ⟨_, _, -, -, f44⟩, ⟨_, _, -, -, f45⟩, ⟨_, _, -, -, f46⟩, -⟩ := hF
            replace hL := hL.call hE hM hV
            have f29 : vs 29 = _ := f29
            generalize vs 29 = x29 at f29 ⊢
            subst x29
            have f30 : vs 30 = _ := f30
            generalize vs 30 = x30 at f30 ⊢
            subst x30
            have f31 : vs 31 = _ := f31
            generalize vs 31 = x31 at f31 ⊢
            subst x31
            have f32 : vs 32 = _ := f32
            generalize vs 32 = x32 at f32 ⊢
            subst x32
            have f33 : vs 33 = _ := f33
            generalize vs 33 = x33 at f33 ⊢
            subst x33
            have f34 : vs 34 = _ := f34
            generalize vs 34 = x34 at f34 ⊢
            subst x34
            have f35 : vs 35 = _ := f35
            generalize vs 35 = x35 at f35 ⊢
            subst x35
            have f36 : vs 36 = _ := f36
            generalize vs 36 = x36 at f36 ⊢
            subst x36
            have f37 : vs 37 = _ := f37
            generalize vs 37 = x37 at f37 ⊢
            subst x37
            have f38 : vs 38 = _ := f38
            generalize vs 38 = x38 at f38 ⊢
            subst x38
            have f39 : vs 39 = _ := f39
            generalize vs 39 = x39 at f39 ⊢
            subst x39
            have f40 : vs 40 = _ := f40
            generalize vs 40 = x40 at f40 ⊢
            subst x40
            have f41 : vs 41 = _ := f41
            generalize vs 41 = x41 at f41 ⊢
            subst x41
            have f42 : vs 42 = _ := f42
            generalize vs 42 = x42 at f42 ⊢
            subst x42
            have f43 : vs 43 = _ := f43
            generalize vs 43 = x43 at f43 ⊢
            subst x43
            have f44 : vs 44 = _ := f44
            generalize vs 44 = x44 at f44 ⊢
            subst x44
            have f45 : vs 45 = _ := f45
            generalize vs 45 = x45 at f45 ⊢
            subst x45
            have f46 : vs 46 = _ := f46
            generalize vs 46 = x46 at f46 ⊢
            subst x46
            clear hE hV
            simp only [List.drop_succ_cons, List.drop_zero]
            go_wp2_with (first | ((with_reducible refine kAny ?_); go_skip) | (with_reducible refine stA ?_) | ((first | refine tIx ?_ | refine tFd ?_ | refine tLd ?_ | (refine tBx ?_; clear hL; intro _ _ hL _)); simp only [Act.put, zq1, zq2, zq3]))
            refine QN.mk ?_
            go_wp2_with (first | ((with_reducible refine kAny ?_); go_skip) | (with_reducible refine stA ?_) | ((first | refine tIx ?_ | refine tFd ?_ | refine tLd ?_ | (refine tBx ?_; clear hL; intro _ _ hL _)); simp only [Act.put, zq1, zq2, zq3]))
            go_roundw
            case rel => exact ⟨k1 + 1, _, z1, z2, z3, by omega, by go_num, by go_num, by go_num, by go_num, HW.out, hL⟩
            case measure => have := HK.out; simp [intOf] <;> omega
    · have hkn : k = n := by omega
      subst hkn
      have HE : Hid (z1 = (l.count p : Int) ∧ z2 = (l.count q : Int) ∧ z3 = (folN l p q l.length : Int)) := by
        obtain ⟨a1, a2, a3⟩ := HZ.out
        rw [List.take_of_length_le (by rw [HN.out]; omega)] at a1 a2
        exact ⟨a1, a2, by rw [a3, folN_end (by rw [HN.out]; omega)]⟩
      clear HZ w1 w2 w3
      cases tg with
      | false =>
        have HR : Hid (alw (p, q, false) l = (z3 == 0)) := by
          obtain ⟨-, -, a3⟩ := HE.out
          show _ = _
          unfold alw
          rw [if_neg (by simp), a3]
          exact nat_beq _ 0
        go_wp2_with (first | ((with_reducible refine kAny ?_); go_skip) | (with_reducible refine stA ?_) | ((first | refine tIx ?_ | refine tFd ?_ | refine tLd ?_ | (refine tBx ?_; clear hL; intro _ _ hL _)); simp only [Act.put, zq1, zq2, zq3]))
        go_ret
        exact RetV.mk hL (by rw [HR.out]; rfl)
      | true =>
        have HR : Hid (alw (p, q, true) l = ((z1 == 0 && z2 == 0) || (z1 == 1 && (z2 == 1 && z3 == 1)))) := by
          obtain ⟨a1, a2, a3⟩ := HE.out
          show _ = _
          unfold alw
          rw [if_pos rfl, a1, a2, a3]
          simp only [nat_beq]
          rfl
        by_cases h1 : z1 = 0
        · subst h1
          by_cases h2 : z2 = 0
          · subst h2
            go_wp2_with (first | ((with_reducible refine kAny ?_); go_skip) | (with_reducible refine stA ?_) | ((first | refine tIx ?_ | refine tFd ?_ | refine tLd ?_ | (refine tBx ?_; clear hL; intro _ _ hL _)); simp only [Act.put, zq1, zq2, zq3]))
            go_ret
            exact RetV.mk hL (by rw [HR.out]; rfl)
          · have h2' : (z2 == 0) = false := by simpa using h2
            go_wp2_with (first | ((with_reducible refine kAny ?_); go_skip) | (with_reducible refine stA ?_) | ((first | refine tIx ?_ | refine tFd ?_ | refine tLd ?_ | (refine tBx ?_; clear hL; intro _ _ hL _)); simp only [Act.put, zq1, zq2, zq3]))
            go_ret
            exact RetV.mk hL (by rw [HR.out]; simp [h2])
        · have h1' : (z1 == 0) = false := by simpa using h1
          by_cases h3 : z1 = 1
          · subst h3
            by_cases h4 : z2 = 1
            · subst h4
              go_wp2_with (first | ((with_reducible refine kAny ?_); go_skip) | (with_reducible refine stA ?_) | ((first | refine tIx ?_ | refine tFd ?_ | refine tLd ?_ | (refine tBx ?_; clear hL; intro _ _ hL _)); simp only [Act.put, zq1, zq2, zq3]))
              go_ret
              exact RetV.mk hL (by rw [HR.out]; simp)
            · have h4' : (z2 == 1) = false := by simpa using h4
              go_wp2_with (first | ((with_reducible refine kAny ?_); go_skip) | (with_reducible refine stA ?_) | ((first | refine tIx ?_ | refine tFd ?_ | refine tLd ?_ | (refine tBx ?_; clear hL; intro _ _ hL _)); simp only [Act.put, zq1, zq2, zq3]))
              go_ret
              exact RetV.mk hL (by rw [HR.out]; simp [h4])
          · have h3' : (z1 == 1) = false := by simpa using h3
            go_wp2_with (first | ((with_reducible refine kAny ?_); go_skip) | (with_reducible refine stA ?_) | ((first | refine tIx ?_ | refine tFd ?_ | refine tLd ?_ | (refine tBx ?_; clear hL; intro _ _ hL _)); simp only [Act.put, zq1, zq2, zq3]))
            go_ret
            exact RetV.mk hL (by rw [HR.out]; simp [h1, h3])

def alwL (ds : List Dec) (l : List Int) : Bool := ds.all fun d => alw d l
set_option maxRecDepth 100000 in
set_option maxHeartbeats 16000000 in
theorem e_AllowedFlights (dv v : Value) (ds : List Dec) (l : List Int) (w m : World) (hV : Vw m w) (hd : DecL m dv ds) (h : IntL m v l) (hdl : ds.length ≤ 1000000) (hl : l.length ≤ 1000000) :
    Calls Tryz.prog 172 #[dv, v] w (RetV w m fun _ r => r = .bool (alwL ds l)) := by
  obtain ⟨A, c, rfl, hc, hd⟩ := hd.lit
  obtain ⟨B, c', rfl, hc', h⟩ := h.lit
  have HI := Lib.hid h
  have HL0 := Lib.hid hl
  have hL := Loc.start hV
  clear hV h hl
  generalize hn : ds.length = n at *
  have HN := Lib.hid hn
  clear hn
  generalize hn2 : l.length = n2 at *
  have HN2 := Lib.hid hn2
  clear hn2
  go_enter Tryz.func172, Tryz.ntmps172
  go_wp2_with (first | ((with_reducible refine kAny ?_); go_skip) | (with_reducible refine stA ?_) | ((first | refine tIx ?_ | refine tLd ?_ | ((first | refine tSr ?_ | refine tSt ?_); clear hL; intro _ hL; simp only [splice, zq1, zq2, zq3] at hL) | (refine tAl ?_; clear hL; intro _ _ hL _)); simp only [Act.put, zq1, zq2, zq3]))
  go_loopw [9] (fun i wr => ∃ (k : Nat) (mm : World), k ≤ n ∧ i = .int .i64 k ∧ Loc w m wr mm [] ∧ Hid (∀ j d, j < k → ds[j]? = some d → alw d l = true)) (fun i _ => n - (intOf i).toNat)
  case atStart => exact ⟨0, m, Nat.zero_le _, rfl, hL, fun _ _ h => absurd h (Nat.not_lt_zero _)⟩
  case round =>
    clear hL
    obtain ⟨k, mm, hk, rfl, hL, HJ⟩ := hrel
    have hM := hL.mext
    by_cases hlt : k < n
    · obtain ⟨⟨a, b, g⟩, hx⟩ := at_some HN hlt
      obtain ⟨b1, o1, rfl, hr1⟩ := DecL.at_ hd hx
      simp only at hr1
      have HX := Lib.hid hx
      clear hx
      go_wp2_with (first | ((with_reducible refine kAny ?_); go_skip) | (with_reducible refine stA ?_) | ((first | refine tIx ?_ | refine tLd ?_ | ((first | refine tSr ?_ | refine tSt ?_); clear hL; intro _ hL; simp only [splice, zq1, zq2, zq3] at hL) | (refine tAl ?_; clear hL; intro _ _ hL _)); simp only [Act.put, zq1, zq2, zq3]))
      refine (e_allows (a, b, g) _ l _ _ hL.vw (by rw [HN2.out] at *; exact IntL.le HI.out leX) (by rw [HN2.out]; exact HL0.out)).mono ?_
      rintro e Wc1 ⟨_, mc1, rfl, hE, hMc1, hV, rfl⟩
      replace hL := hL.call hE (by assumption) hV; clear hE hV
      by_cases ha : alw (a, b, g) l = true
      · have HJ2 : Hid (∀ j d, j < k + 1 → ds[j]? = some d → alw d l = true) := by
          show ∀ j d, _
          intro j d hj hd'
          rcases Nat.lt_succ_iff_lt_or_eq.1 hj with h' | rfl
          · exact HJ.out j d h' hd'
          · rw [HX.out] at hd'; cases hd'; exact ha
        rw [ha]
        clear ha HJ HX
        go_wp2_with (first | ((with_reducible refine kAny ?_); go_skip) | (with_reducible refine stA ?_) | ((first | refine tIx ?_ | refine tLd ?_ | ((first | refine tSr ?_ | refine tSt ?_); clear hL; intro _ hL; simp only [splice, zq1, zq2, zq3] at hL) | (refine tAl ?_; clear hL; intro _ _ hL _)); simp only [Act.put, zq1, zq2, zq3]))
        go_roundw
        case rel => exact ⟨k + 1, _, by omega, by go_num, hL.tail, HJ2.out⟩
        case measure => simp [intOf] <;> omega
      · have hf : alw (a, b, g) l = false := by simpa using ha
        have HR : Hid (alwL ds l = false) := by
          show _ = _
          unfold alwL
          rw [List.all_eq_false]
          exact ⟨_, List.mem_of_getElem? HX.out, by rw [hf]; simp⟩
        rw [hf]
        clear ha hf HJ HX
        go_wp2_with (first | ((with_reducible refine kAny ?_); go_skip) | (with_reducible refine stA ?_) | ((first | refine tIx ?_ | refine tLd ?_ | ((first | refine tSr ?_ | refine tSt ?_); clear hL; intro _ hL; simp only [splice, zq1, zq2, zq3] at hL) | (refine tAl ?_; clear hL; intro _ _ hL _)); simp only [Act.put, zq1, zq2, zq3]))
        go_ret
        exact RetV.mk hL (by rw [HR.out]; rfl)
    · have HR : Hid (alwL ds l = true) := by
        show _ = _
        unfold alwL
        rw [List.all_eq_true]
        intro d hd'
        obtain ⟨j, hj⟩ := List.mem_iff_getElem?.1 hd'
        have h1 := (List.getElem?_eq_some_iff.1 hj).1
        have h2 := HN.out
        exact HJ.out j d (by omega) hj
      go_wp2_with (first | ((with_reducible refine kAny ?_); go_skip) | (with_reducible refine stA ?_) | ((first | refine tIx ?_ | refine tLd ?_ | ((first | refine tSr ?_ | refine tSt ?_); clear hL; intro _ hL; simp only [splice, zq1, zq2, zq3] at hL) | (refine tAl ?_; clear hL; intro _ _ hL _)); simp only [Act.put, zq1, zq2, zq3]))
      go_ret
      exact RetV.mk hL (by rw [HR.out]; rfl)

set_option maxRecDepth 100000 in
set_option maxHeartbeats 16000000 in
theorem e_Allowed (dv pv' : Value) (s : ByteArray) (ds : List Dec) (ts : List (List Task)) (w m : World) (hV : Vw m w) (hd : DecL m dv ds) (hp : DutsL m pv' ts) (hdl : ds.length ≤ 1000000) (h1 : ts.length ≤ 100) (h2 : ∀ d ∈ ts, d.length ≤ 100) :
    Calls Tryz.prog 123 #[dv, .agg #[.string s, pv']] w (RetV w m fun _ r => r = .bool (alwL ds (opF ts))) := by
  obtain ⟨A, c, rfl, hc, hd⟩ := hd.lit
  obtain ⟨B, c', rfl, hc', hp⟩ := hp.lit
  have HD := Lib.hid hd
  have HP := Lib.hid hp
  have HL0 := Lib.hid hdl
  have H1 := Lib.hid h1
  have H2 := Lib.hid h2
  have H3 : Hid ((opF ts).length ≤ 1000000) := by show _ ≤ _; have := opF_len h2; omega
  have hL := Loc.start hV
  clear hV hd hp hdl h1 h2
  generalize hn : ds.length = n at *
  have HN := Lib.hid hn
  clear hn
  generalize hn2 : ts.length = n2 at *
  have HN2 := Lib.hid hn2
  clear hn2
  go_enter Tryz.func123, Tryz.ntmps123
  go_upto_region 0 with (fail)
  refine wp_region_lit ?_
  refine t_box hL rfl rfl ?_; clear hL; intro Wh3 mh3 hL eh3; simp only [Act.put, zq1, zq2, zq3]
  go_wp2_with (first | ((with_reducible refine kAny ?_); go_skip) | (with_reducible refine stA ?_) | ((first | refine tLd ?_ | (refine tBx ?_; clear hL; intro _ _ hL _)); simp only [Act.put, zq1, zq2, zq3]))
  refine (e_Operated s _ ts _ _ hL.vw (DutsL.le HP.out leX) (by rw [HN2.out]; exact H1.out) H2.out).mono ?_
  rintro e Wc1 ⟨vc1, mc1, rfl, hE, hMc1, hV, hc1⟩
  replace hL := hL.call hE (by assumption) hV; clear hE hV
  obtain ⟨C, c3, rfl, hc3, ho⟩ := hc1.lit
  have HO := Lib.hid ho
  clear ho hc1
  go_wp2_with (first | ((with_reducible refine kAny ?_); go_skip) | (with_reducible refine stA ?_) | ((first | refine tLd ?_ | (refine tBx ?_; clear hL; intro _ _ hL _)); simp only [Act.put, zq1, zq2, zq3]))
  refine (e_AllowedFlights _ _ ds (opF ts) _ _ hL.vw (DecL.le HD.out leX) (IntL.le HO.out leX) (by rw [HN.out]; exact HL0.out) H3.out).mono ?_
  rintro e Wc2 ⟨_, mc2, rfl, hE, hMc2, hV, rfl⟩
  replace hL := hL.call hE (by assumption) hV; clear hE hV
  go_wp2_with (first | ((with_reducible refine kAny ?_); go_skip) | (with_reducible refine stA ?_) | ((first | refine tLd ?_ | (refine tBx ?_; clear hL; intro _ _ hL _)); simp only [Act.put, zq1, zq2, zq3]))
  go_ret
  exact RetV.mk hL rfl
end Go.Proofs.YtmhkmmmompediaaGreat

/- Contracts of pairingref27.Follows and Allowed, and of branch.Fits. -/
namespace Go.Proofs.YtmhkmmmompediaaGreat
open Go.RowKit

theorem fol_end {l : List Int} {p q : Int} {k n : Nat} (hn : l.length = n) (hk : ¬ k + 1 < n) (h : ∀ j, j < k → (pairsOf l)[j]? ≠ some (p, q)) : decide ((p, q) ∈ pairsOf l) = false := by
  refine decide_eq_false fun hm => ?_
  obtain ⟨j, hj⟩ := List.mem_iff_getElem?.1 hm
  have h1 := (List.getElem?_eq_some_iff.1 hj).1
  rw [pairs_len] at h1
  exact h j (by omega) hj
theorem fol_step {l : List Int} {p q a b : Int} {k : Nat} (h : ∀ j, j < k → (pairsOf l)[j]? ≠ some (p, q)) (ha : l[k]? = some a) (hb : l[k + 1]? = some b) (hn : ¬ (a = p ∧ b = q)) : ∀ j, j < k + 1 → (pairsOf l)[j]? ≠ some (p, q) := by
  intro j hj
  rcases Nat.lt_succ_iff_lt_or_eq.1 hj with h' | rfl
  · exact h j h'
  · rw [pairs_at ha hb]
    intro e
    simp only [Option.some.injEq, Prod.mk.injEq] at e
    exact hn e

set_option maxRecDepth 100000 in
set_option maxHeartbeats 16000000 in
theorem r_FollowsB (v : Value) (l : List Int) (p q : Int) (w m : World) (hV : Vw m w) (h : IntL m v l) (hl : l.length ≤ 1000000) :
    Calls Tryz.prog 114 #[v, .int .i64 p, .int .i64 q] w (RetV w m fun _ r => r = .bool (decide ((p, q) ∈ pairsOf l))) := by
  obtain ⟨A, c, rfl, hc, h⟩ := h.lit
  have hL := Loc.start hV
  clear hV
  generalize hn : l.length = n at *
  have HN := Lib.hid hn
  clear hn
  go_enter Tryz.func114, Tryz.ntmps114
  go_wp2_with (first | ((with_reducible refine kAny ?_); go_skip) | (with_reducible refine stA ?_) | ((first | refine tIx ?_ | refine tLd ?_); simp only [Act.put, zq1, zq2, zq3]))
  go_loopw [7] (fun i wr => ∃ (k : Nat) (mm : World), k ≤ n ∧ i = .int .i64 k ∧ Loc w m wr mm [] ∧ Hid (∀ j, j < k → (pairsOf l)[j]? ≠ some (p, q))) (fun i _ => n - (intOf i).toNat)
  case atStart => exact ⟨0, m, Nat.zero_le _, rfl, hL, fun _ h => absurd h (Nat.not_lt_zero _)⟩
  case round =>
    clear hL
    obtain ⟨k, mm, hk, rfl, hL, HJ⟩ := hrel
    have hM := hL.mext
    have w1 : wrap64 ((k : Int) + 1) = ((k + 1 : Nat) : Int) := by unfold wrap64; omega
    have w2 : (k : Int) + 1 = ((k + 1 : Nat) : Int) := by omega
    obtain ⟨k1, hk1⟩ : ∃ k1, k1 = k + 1 := ⟨_, rfl⟩
    rw [← hk1] at w1 w2
    have HK := Lib.hid hk1
    by_cases hlt : k1 < n
    · obtain ⟨a, ha⟩ := at_some HN (show k < n by omega)
      obtain ⟨b, hb⟩ := at_some HN hlt
      obtain ⟨b1, o1, rfl, hc1⟩ := IntL.at_ h ha
      obtain ⟨b2, o2, e2, hc2⟩ := IntL.at_ h hb
      obtain ⟨rfl, rfl⟩ : b1 = b2 ∧ o1 = o2 := by simpa using e2
      have hkn : k < n := by omega
      have HA := Lib.hid ha
      have HB : Hid (l[k + 1]? = some b) := by show _ = _; rw [← hk1]; exact hb
      clear ha hb e2 hk1
      by_cases e1 : a = p
      · by_cases e2 : b = q
        · have HR : Hid (decide ((p, q) ∈ pairsOf l) = true) := by
            refine decide_eq_true ?_
            have := pairs_at HA.out HB.out
            rw [e1, e2] at this
            exact List.mem_of_getElem? this
          subst e1 e2
          go_wp2_with (first | ((with_reducible refine kAny ?_); go_skip) | (with_reducible refine stA ?_) | ((first | refine tIx ?_ | refine tLd ?_); simp only [Act.put, zq1, zq2, zq3]))
          go_ret
          exact RetV.mk hL (by rw [HR.out]; rfl)
        · have HJ2 := Lib.hid (fol_step HJ.out HA.out HB.out (fun h => e2 h.2))
          subst e1
          clear HJ
          go_wp2_with (first | ((with_reducible refine kAny ?_); go_skip) | (with_reducible refine stA ?_) | ((first | refine tIx ?_ | refine tLd ?_); simp only [Act.put, zq1, zq2, zq3]))
          go_roundw
          case rel => exact ⟨k1, _, by omega, by go_num, hL, by rw [HK.out]; exact HJ2.out⟩
          case measure => have := HK.out; simp [intOf] <;> omega
      · have HJ2 := Lib.hid (fol_step HJ.out HA.out HB.out (fun h => e1 h.1))
        clear HJ
        go_wp2_with (first | ((with_reducible refine kAny ?_); go_skip) | (with_reducible refine stA ?_) | ((first | refine tIx ?_ | refine tLd ?_); simp only [Act.put, zq1, zq2, zq3]))
        go_roundw
        case rel => exact ⟨k1, _, by omega, by go_num, hL, by rw [HK.out]; exact HJ2.out⟩
        case measure => have := HK.out; simp [intOf] <;> omega
    · have HR := Lib.hid (fol_end HN.out (by rw [← hk1]; exact hlt) HJ.out)
      clear hk1
      go_wp2_with (first | ((with_reducible refine kAny ?_); go_skip) | (with_reducible refine stA ?_) | ((first | refine tIx ?_ | refine tLd ?_); simp only [Act.put, zq1, zq2, zq3]))
      go_ret
      exact RetV.mk hL (by rw [HR.out]; rfl)

theorem range_cell {m : World} {b off : Nat} {vs : List Value} (h : m.rangeAt b off vs) (j : Nat) : ∀ v, vs[j]? = some v → m.cell? ⟨b, off + j, none⟩ = some v := fun v hv => h j v hv
def alwR (x : Dec) (l : List Int) : Bool :=
  !(x.2.2 && (decide ((l.count x.1 : Int) + (l.count x.2.1 : Int) > 0) && !((l.count x.1 : Int) == 1 && ((l.count x.2.1 : Int) == 1 && decide ((x.1, x.2.1) ∈ pairsOf l))))) && !(!x.2.2 && decide ((x.1, x.2.1) ∈ pairsOf l))
theorem zip_fst_prefix : ∀ (l r : List Int), (l.zip r).map Prod.fst <+: l
  | [], _ => by simp
  | _ :: _, [] => by simp
  | x :: l, y :: r => by simpa using zip_fst_prefix l r
theorem pairs_fst (l : List Int) : (pairsOf l).map Prod.fst <+: l := zip_fst_prefix l l.tail
theorem fol_count_le (l : List Int) (p q : Int) : (pairsOf l).count (p, q) ≤ l.count p := by
  have h1 : (pairsOf l).count (p, q) ≤ ((pairsOf l).map Prod.fst).count p := by
    have := List.count_le_count_map (l := pairsOf l) (f := Prod.fst) (x := (p, q))
    exact this
  exact Nat.le_trans h1 ((pairs_fst l).sublist.count_le p)
theorem alw_eq (x : Dec) (l : List Int) : alw x l = alwR x l := by
  obtain ⟨p, q, tg⟩ := x
  have h1 := fol_count_le l p q
  have h2 : folN l p q l.length = (pairsOf l).count (p, q) := by unfold folN; rw [List.take_of_length_le (by rw [pairs_len]; omega)]
  have h3 : ((p, q) ∈ pairsOf l) ↔ 0 < (pairsOf l).count (p, q) := List.count_pos_iff.symm
  unfold alw alwR
  simp only [h2]
  generalize (pairsOf l).count (p, q) = f at *
  generalize l.count p = a at *
  generalize l.count q = b at *
  rw [show decide ((p, q) ∈ pairsOf l) = decide (0 < f) from decide_eq_decide.2 h3]
  cases tg with
  | false =>
    by_cases hf : f = 0
    · subst hf; simp
    · have : 0 < f := by omega
      simp [hf, this]
  | true =>
    rw [Bool.eq_iff_iff]
    simp
    omega

def alwLR (ds : List Dec) (l : List Int) : Bool := ds.all fun d => alwR d l
theorem alwL_eq (ds : List Dec) (l : List Int) : alwL ds l = alwLR ds l := by
  unfold alwL alwLR
  congr 1
  funext d
  exact alw_eq d l
theorem all_step {ds : List Dec} {l : List Int} {k : Nat} {x : Dec} (h : ∀ j d, j < k → ds[j]? = some d → alwR d l = true) (hx : ds[k]? = some x) (hn : alwR x l = true) : ∀ j d, j < k + 1 → ds[j]? = some d → alwR d l = true := by
  intro j d hj hd
  rcases Nat.lt_succ_iff_lt_or_eq.1 hj with h' | rfl
  · exact h j d h' hd
  · rw [hx] at hd; cases hd; exact hn
theorem all_false {ds : List Dec} {l : List Int} {k : Nat} {x : Dec} (hx : ds[k]? = some x) (hn : alwR x l = false) : alwLR ds l = false := by
  unfold alwLR
  rw [List.all_eq_false]
  exact ⟨_, List.mem_of_getElem? hx, by rw [hn]; simp⟩

set_option maxRecDepth 100000 in
set_option maxHeartbeats 32000000 in
theorem r_Allowed (dv v : Value) (ds : List Dec) (l : List Int) (w m : World) (hV : Vw m w) (hd : DecL m dv ds) (h : IntL m v l) (hdl : ds.length ≤ 1000000) (hl : l.length ≤ 1000000) :
    Calls Tryz.prog 60 #[dv, v] w (RetV w m fun _ r => r = .bool (alwLR ds l)) := by
  obtain ⟨A, c, rfl, hc, hd⟩ := hd.lit
  obtain ⟨B, c', rfl, hc', h⟩ := h.lit
  have HI := Lib.hid h
  have HL0 := Lib.hid hl
  have hL := Loc.start hV
  clear hV h hl
  generalize hn : ds.length = n at *
  have HN := Lib.hid hn
  clear hn
  generalize hn2 : l.length = n2 at *
  have HN2 := Lib.hid hn2
  clear hn2
  go_enter Tryz.func60, Tryz.ntmps60
  go_wp2_with (first | ((with_reducible refine kAny ?_); go_skip) | (with_reducible refine stA ?_) | ((first | refine tIx ?_ | refine tFd ?_ | refine tLd ?_); simp only [Act.put, zq1, zq2, zq3]))
  go_loopw [5] (fun i wr => ∃ (k : Nat) (mm : World), k ≤ n ∧ i = .int .i64 k ∧ Loc w m wr mm [] ∧ Hid (∀ j d, j < k → ds[j]? = some d → alwR d l = true)) (fun i _ => n - (intOf i).toNat)
  case atStart => exact ⟨0, m, Nat.zero_le _, rfl, hL, fun _ _ h => absurd h (Nat.not_lt_zero _)⟩
  case round =>
    clear hL
    obtain ⟨k, mm, hk, rfl, hL, HJ⟩ := hrel
    have hM := hL.mext
    by_cases hlt : k < n
    · obtain ⟨⟨p, q, tg⟩, hx⟩ := at_some HN hlt
      obtain ⟨b1, o1, rfl, hr1⟩ := DecL.at_ hd hx
      simp only at hr1
      have HX := Lib.hid hx
      have hb0 : (0 : Int) ≤ (l.count p : Nat) := Int.natCast_nonneg _
      have hb1 : (0 : Int) ≤ (l.count q : Nat) := Int.natCast_nonneg _
      have hb2 : ((l.count p : Nat) : Int) ≤ 1000000 := by have := List.count_le_length (a := p) (l := l); have := HL0.out; have := HN2.out; omega
      have hb3 : ((l.count q : Nat) : Int) ≤ 1000000 := by have := List.count_le_length (a := q) (l := l); have := HL0.out; have := HN2.out; omega
      have c0 := range_cell hr1 0
      have c1 := range_cell hr1 1
      have c2 := range_cell hr1 2
      simp only [List.getElem?_cons_zero, List.getElem?_cons_succ, Option.some.injEq, forall_eq', Nat.add_zero] at c0 c1 c2
      clear hx
      go_upto_region 4 with ((first | ((with_reducible refine kAny ?_); go_skip) | (with_reducible refine stA ?_) | ((first | refine tIx ?_ | refine tFd ?_ | refine tLd ?_); simp only [Act.put, zq1, zq2, zq3])))
      (try simp only [eq_self] at *)
      refine wp_region_by2 14 [false, false, false, false, false, false, false, false, false, false, false, false, false, false] [false, false, false, false, false, false, false, false, false, false, false, false, false, false] [(fun v _ _ => v = ?c4_0), (fun v _ _ => v = ?c4_1), (fun v _ _ => v = ?c4_2), (fun v _ _ => v = ?c4_3), (fun v _ _ => v = ?c4_4), (fun v _ _ => v = ?c4_5), Is (.int .i64 ((l.count p : Nat) : Int)), (fun v _ _ => v = ?c4_7), (fun v _ _ => v = ?c4_8), (fun v _ _ => v = ?c4_9), (fun v _ _ => v = ?c4_10), (fun v _ _ => v = ?c4_11), (fun v _ _ => v = ?c4_12), Is (.int .i64 ((l.count q : Nat) : Int))] hL.vw mixed [15, 16, 17, 18, 19, 20, 21, 22, 23, 24, 25, 26, 27, 28] _ (by kernel_rfl) (fun vs => by simp only [lay, Act.put, zq1, zq2, zq3]; rfl) (by kernel_rfl) (by decide) (by decide) ?s4 ?l4 ?r4
      case s4 =>
        refine ⟨?_, ?_, ?_, ?_, ?_, ?_, ?_, ?_, ?_, ?_, ?_, ?_, ?_, ?_, trivial⟩
        · intro vs W1 m1 hE hM hV hD; clear hD; replace hL := hL.call hE hM hV
          exact sPu
        · intro vs W1 m1 hE hM hV hD; clear hD; replace hL := hL.call hE hM hV
          exact sPu
        · intro vs W1 m1 hE hM hV hD; clear hD; replace hL := hL.call hE hM hV
          exact sPu
        · intro vs W1 m1 hE hM hV hD; obtain ⟨⟨_, _, -, -, f16⟩, ⟨_, _, -, -, f17⟩, -⟩ := hD; have f16 : vs 16 = _ := f16; generalize vs 16 = x16 at f16 ⊢; subst x16; have f17 : vs 17 = _ := f17; generalize vs 17 = x17 at f17 ⊢; subst x17; replace hL := hL.call hE hM hV
          exact sIx
        · intro vs W1 m1 hE hM hV hD; obtain ⟨⟨_, _, -, -, f18⟩, -⟩ := hD; have f18 : vs 18 = _ := f18; generalize vs 18 = x18 at f18 ⊢; subst x18; replace hL := hL.call hE hM hV
          exact sFd
        · intro vs W1 m1 hE hM hV hD; obtain ⟨⟨_, _, -, -, f19⟩, -⟩ := hD; have f19 : vs 19 = _ := f19; generalize vs 19 = x19 at f19 ⊢; subst x19; replace hL := hL.call hE hM hV
          exact sLd
        · intro vs W1 m1 hE hM hV hD; obtain ⟨⟨_, _, -, -, f15⟩, ⟨_, _, -, -, f20⟩, -⟩ := hD; have f15 : vs 15 = _ := f15; generalize vs 15 = x15 at f15 ⊢; subst x15; have f20 : vs 20 = _ := f20; generalize vs 20 = x20 at f20 ⊢; subst x20
          go_wp2_with fail
          refine (r_count _ l p _ _ hV (IntL.le HI.out leX) (by rw [HN2.out]; exact HL0.out)).mono ?_
          rintro e W2 ⟨v, m2, rfl, hE2, hM2, hV2, h⟩
          go_wp2_with fail
          refine One2.call hE2 hM2 hV2 ?_; first | exact h | exact rfl
        · intro vs W1 m1 hE hM hV hD; clear hD; replace hL := hL.call hE hM hV
          exact sPu
        · intro vs W1 m1 hE hM hV hD; clear hD; replace hL := hL.call hE hM hV
          exact sPu
        · intro vs W1 m1 hE hM hV hD; clear hD; replace hL := hL.call hE hM hV
          exact sPu
        · intro vs W1 m1 hE hM hV hD; obtain ⟨⟨_, _, -, -, f23⟩, ⟨_, _, -, -, f24⟩, -⟩ := hD; have f23 : vs 23 = _ := f23; generalize vs 23 = x23 at f23 ⊢; subst x23; have f24 : vs 24 = _ := f24; generalize vs 24 = x24 at f24 ⊢; subst x24; replace hL := hL.call hE hM hV
          exact sIx
        · intro vs W1 m1 hE hM hV hD; obtain ⟨⟨_, _, -, -, f25⟩, -⟩ := hD; have f25 : vs 25 = _ := f25; generalize vs 25 = x25 at f25 ⊢; subst x25; replace hL := hL.call hE hM hV
          exact sFd
        · intro vs W1 m1 hE hM hV hD; obtain ⟨⟨_, _, -, -, f26⟩, -⟩ := hD; have f26 : vs 26 = _ := f26; generalize vs 26 = x26 at f26 ⊢; subst x26; replace hL := hL.call hE hM hV
          exact sLd
        · intro vs W1 m1 hE hM hV hD; obtain ⟨⟨_, _, -, -, f22⟩, ⟨_, _, -, -, f27⟩, -, -⟩ := hD; have f22 : vs 22 = _ := f22; generalize vs 22 = x22 at f22 ⊢; subst x22; have f27 : vs 27 = _ := f27; generalize vs 27 = x27 at f27 ⊢; subst x27
          go_wp2_with fail
          refine (r_count _ l q _ _ hV (IntL.le HI.out leX) (by rw [HN2.out]; exact HL0.out)).mono ?_
          rintro e W2 ⟨v, m2, rfl, hE2, hM2, hV2, h⟩
          go_wp2_with fail
          refine One2.call hE2 hM2 hV2 ?_; first | exact h | exact rfl
      case l4 =>
        refine ⟨fun h => (by cases h), fun h => (by cases h), fun h => (by cases h), fun h => (by cases h), fun h => (by cases h), fun h => (by cases h), fun h => (by cases h), fun h => (by cases h), fun h => (by cases h), fun h => (by cases h), fun h => (by cases h), fun h => (by cases h), fun h => (by cases h), fun h => (by cases h), trivial⟩
      intro vs W1 m1 hE hM hV hF hD
      clear hD
      obtain ⟨-, -, -, -, -, -, ⟨_, _, -, -, f21⟩, -, -, -, -, -, -, ⟨_, _, -, -, f28⟩, -⟩ := hF
      replace hL := hL.call hE hM hV
      have f21 : vs 21 = _ := f21
      generalize vs 21 = x21 at f21 ⊢
      subst x21
      have f28 : vs 28 = _ := f28
      generalize vs 28 = x28 at f28 ⊢
      subst x28
      clear hE hV
      simp only [List.drop_succ_cons, List.drop_zero]
      go_wp2_with (first | ((with_reducible refine kAny ?_); go_skip) | (with_reducible refine stA ?_) | ((first | refine tIx ?_ | refine tFd ?_ | refine tLd ?_); simp only [Act.put, zq1, zq2, zq3]))
      refine QN.mk ?_
      go_upto_region 5 with ((first | ((with_reducible refine kAny ?_); go_skip) | (with_reducible refine stA ?_) | ((first | refine tIx ?_ | refine tFd ?_ | refine tLd ?_); simp only [Act.put, zq1, zq2, zq3])))
      (try simp only [eq_self] at *)
      refine wp_region_by2 12 [false, false, false, false, false, false, false, false, false, false, false, false] [false, false, false, false, false, false, false, false, false, false, false, false] [(fun v _ _ => v = ?c5_0), (fun v _ _ => v = ?c5_1), (fun v _ _ => v = ?c5_2), (fun v _ _ => v = ?c5_3), (fun v _ _ => v = ?c5_4), (fun v _ _ => v = ?c5_5), (fun v _ _ => v = ?c5_6), (fun v _ _ => v = ?c5_7), (fun v _ _ => v = ?c5_8), (fun v _ _ => v = ?c5_9), (fun v _ _ => v = ?c5_10), Is (.bool (decide ((p, q) ∈ pairsOf l)))] hL.vw mixed [29, 30, 31, 32, 33, 34, 35, 36, 37, 38, 39, 40] _ (by kernel_rfl) (fun vs => by simp only [lay, Act.put, zq1, zq2, zq3]; rfl) (by kernel_rfl) (by decide) (by decide) ?s5 ?l5 ?r5
      case s5 =>
        refine ⟨?_, ?_, ?_, ?_, ?_, ?_, ?_, ?_, ?_, ?_, ?_, ?_, trivial⟩
        · intro vs W1 m1 hE hM hV hD; clear hD; replace hL := hL.call hE hM hV
          exact sPu
        · intro vs W1 m1 hE hM hV hD; clear hD; replace hL := hL.call hE hM hV
          exact sPu
        · intro vs W1 m1 hE hM hV hD; clear hD; replace hL := hL.call hE hM hV
          exact sPu
        · intro vs W1 m1 hE hM hV hD; obtain ⟨⟨_, _, -, -, f30⟩, ⟨_, _, -, -, f31⟩, -⟩ := hD; have f30 : vs 30 = _ := f30; generalize vs 30 = x30 at f30 ⊢; subst x30; have f31 : vs 31 = _ := f31; generalize vs 31 = x31 at f31 ⊢; subst x31; replace hL := hL.call hE hM hV
          exact sIx
        · intro vs W1 m1 hE hM hV hD; obtain ⟨⟨_, _, -, -, f32⟩, -⟩ := hD; have f32 : vs 32 = _ := f32; generalize vs 32 = x32 at f32 ⊢; subst x32; replace hL := hL.call hE hM hV
          exact sFd
        · intro vs W1 m1 hE hM hV hD; obtain ⟨⟨_, _, -, -, f33⟩, -⟩ := hD; have f33 : vs 33 = _ := f33; generalize vs 33 = x33 at f33 ⊢; subst x33; replace hL := hL.call hE hM hV
          exact sLd
        · intro vs W1 m1 hE hM hV hD; clear hD; replace hL := hL.call hE hM hV
          exact sPu
        · intro vs W1 m1 hE hM hV hD; clear hD; replace hL := hL.call hE hM hV
          exact sPu
        · intro vs W1 m1 hE hM hV hD; obtain ⟨⟨_, _, -, -, f35⟩, ⟨_, _, -, -, f36⟩, -⟩ := hD; have f35 : vs 35 = _ := f35; generalize vs 35 = x35 at f35 ⊢; subst x35; have f36 : vs 36 = _ := f36; generalize vs 36 = x36 at f36 ⊢; subst x36; replace hL := hL.call hE hM hV
          exact sIx
        · intro vs W1 m1 hE hM hV hD; obtain ⟨⟨_, _, -, -, f37⟩, -⟩ := hD; have f37 : vs 37 = _ := f37; generalize vs 37 = x37 at f37 ⊢; subst x37; replace hL := hL.call hE hM hV
          exact sFd
        · intro vs W1 m1 hE hM hV hD; obtain ⟨⟨_, _, -, -, f38⟩, -⟩ := hD; have f38 : vs 38 = _ := f38; generalize vs 38 = x38 at f38 ⊢; subst x38; replace hL := hL.call hE hM hV
          exact sLd
        · intro vs W1 m1 hE hM hV hD; obtain ⟨⟨_, _, -, -, f29⟩, ⟨_, _, -, -, f34⟩, ⟨_, _, -, -, f39⟩, -⟩ := hD; have f29 : vs 29 = _ := f29; generalize vs 29 = x29 at f29 ⊢; subst x29; have f34 : vs 34 = _ := f34; generalize vs 34 = x34 at f34 ⊢; subst x34; have f39 : vs 39 = _ := f39; generalize vs 39 = x39 at f39 ⊢; subst x39
          go_wp2_with fail
          refine (r_FollowsB _ l p q _ _ hV (IntL.le HI.out leX) (by rw [HN2.out]; exact HL0.out)).mono ?_
          rintro e W2 ⟨v, m2, rfl, hE2, hM2, hV2, h⟩
          go_wp2_with fail
          refine One2.call hE2 hM2 hV2 ?_; first | exact h | exact rfl
      case l5 =>
        refine ⟨fun h => (by cases h), fun h => (by cases h), fun h => (by cases h), fun h => (by cases h), fun h => (by cases h), fun h => (by cases h), fun h => (by cases h), fun h => (by cases h), fun h => (by cases h), fun h => (by cases h), fun h => (by cases h), fun h => (by cases h), trivial⟩
      intro vs W1 m1 hE hM hV hF hD
      clear hD
      obtain ⟨-, -, -, -, -, -, -, -, -, -, -, ⟨_, _, -, -, f40⟩, -⟩ := hF
      replace hL := hL.call hE hM hV
      have f40 : vs 40 = _ := f40
      generalize vs 40 = x40 at f40 ⊢
      subst x40
      clear hE hV
      simp only [List.drop_succ_cons, List.drop_zero]
      go_wp2_with (first | ((with_reducible refine kAny ?_); go_skip) | (with_reducible refine stA ?_) | ((first | refine tIx ?_ | refine tFd ?_ | refine tLd ?_); simp only [Act.put, zq1, zq2, zq3]))
      refine QN.mk ?_
      have HA : Hid (((l.count p : Nat) : Int) = ((l.count p : Nat) : Int)) := rfl
      have HB : Hid (((l.count q : Nat) : Int) = ((l.count q : Nat) : Int)) := rfl
      have HC : Hid (decide ((p, q) ∈ pairsOf l) = decide ((p, q) ∈ pairsOf l)) := rfl
      obtain ⟨za, hza⟩ : ∃ z, ((l.count p : Nat) : Int) = z := ⟨_, rfl⟩
      obtain ⟨zb, hzb⟩ : ∃ z, ((l.count q : Nat) : Int) = z := ⟨_, rfl⟩
      obtain ⟨zc, hzc⟩ : ∃ z, decide ((p, q) ∈ pairsOf l) = z := ⟨_, rfl⟩
      rw [hza, hzb, hzc]
      rw [hza] at hb0 hb2
      rw [hzb] at hb1 hb3
      have HZA := Lib.hid hza
      have HZB := Lib.hid hzb
      have HZC := Lib.hid hzc
      clear hza hzb hzc HA HB HC
      have w1 : wrap64 (za + zb) = za + zb := by unfold wrap64; omega
      cases tg with
      | false =>
        cases zc with
        | false =>
          have HJ2 : Hid (∀ j d, j < k + 1 → ds[j]? = some d → alwR d l = true) := all_step HJ.out HX.out (by unfold alwR; simp only [HZA.out, HZB.out, HZC.out]; simp)
          clear HJ HX HZA HZB HZC hb0 hb1 hb2 hb3
          go_wp2_with (first | ((with_reducible refine kAny ?_); go_skip) | (with_reducible refine stA ?_) | ((first | refine tIx ?_ | refine tFd ?_ | refine tLd ?_); simp only [Act.put, zq1, zq2, zq3]))
          go_roundw
          case rel => exact ⟨k + 1, _, by omega, by go_num, hL, HJ2.out⟩
          case measure => simp [intOf] <;> omega
        | true =>
          have HRF : Hid (alwLR ds l = false) := all_false HX.out (by unfold alwR; simp only [HZA.out, HZB.out, HZC.out]; simp)
          clear HJ HX HZA HZB HZC hb0 hb1 hb2 hb3
          go_wp2_with (first | ((with_reducible refine kAny ?_); go_skip) | (with_reducible refine stA ?_) | ((first | refine tIx ?_ | refine tFd ?_ | refine tLd ?_); simp only [Act.put, zq1, zq2, zq3]))
          go_ret
          exact RetV.mk hL (by rw [HRF.out]; rfl)
      | true =>
        by_cases h0 : za + zb > 0
        · have h0' : ¬ za + zb ≤ 0 := by omega
          by_cases ha : za = 1
          · by_cases hb : zb = 1
            · cases zc with
              | false =>
                have HRF : Hid (alwLR ds l = false) := all_false HX.out (by unfold alwR; simp only [HZA.out, HZB.out, HZC.out]; simp [h0])
                subst ha hb
                clear HJ HX HZA HZB HZC hb0 hb1 hb2 hb3
                go_wp2_with (first | ((with_reducible refine kAny ?_); go_skip) | (with_reducible refine stA ?_) | ((first | refine tIx ?_ | refine tFd ?_ | refine tLd ?_); simp only [Act.put, zq1, zq2, zq3]))
                go_ret
                exact RetV.mk hL (by rw [HRF.out]; rfl)
              | true =>
                have HJ2 : Hid (∀ j d, j < k + 1 → ds[j]? = some d → alwR d l = true) := all_step HJ.out HX.out (by unfold alwR; simp only [HZA.out, HZB.out, HZC.out]; simp [ha, hb])
                subst ha hb
                clear HJ HX HZA HZB HZC hb0 hb1 hb2 hb3
                go_wp2_with (first | ((with_reducible refine kAny ?_); go_skip) | (with_reducible refine stA ?_) | ((first | refine tIx ?_ | refine tFd ?_ | refine tLd ?_); simp only [Act.put, zq1, zq2, zq3]))
                go_roundw
                case rel => exact ⟨k + 1, _, by omega, by go_num, hL, HJ2.out⟩
                case measure => simp [intOf] <;> omega
            · have hb' : (zb == 1) = false := by simpa using hb
              have HRF : Hid (alwLR ds l = false) := all_false HX.out (by unfold alwR; simp only [HZA.out, HZB.out, HZC.out]; simp [hb', h0])
              subst ha
              clear HJ HX HZA HZB HZC hb0 hb1 hb2 hb3 hb
              go_wp2_with (first | ((with_reducible refine kAny ?_); go_skip) | (with_reducible refine stA ?_) | ((first | refine tIx ?_ | refine tFd ?_ | refine tLd ?_); simp only [Act.put, zq1, zq2, zq3]))
              go_ret
              exact RetV.mk hL (by rw [HRF.out]; rfl)
          · have ha' : (za == 1) = false := by simpa using ha
            have HRF : Hid (alwLR ds l = false) := all_false HX.out (by unfold alwR; simp only [HZA.out, HZB.out, HZC.out]; simp [ha', h0])
            clear HJ HX HZA HZB HZC hb0 hb1 hb2 hb3 ha
            go_wp2_with (first | ((with_reducible refine kAny ?_); go_skip) | (with_reducible refine stA ?_) | ((first | refine tIx ?_ | refine tFd ?_ | refine tLd ?_); simp only [Act.put, zq1, zq2, zq3]))
            go_ret
            exact RetV.mk hL (by rw [HRF.out]; rfl)
        · have h0' : za + zb ≤ 0 := by omega
          have HJ2 : Hid (∀ j d, j < k + 1 → ds[j]? = some d → alwR d l = true) := all_step HJ.out HX.out (by unfold alwR; simp only [HZA.out, HZB.out, HZC.out]; simp [h0])
          clear HJ HX HZA HZB HZC hb0 hb1 hb2 hb3
          go_wp2_with (first | ((with_reducible refine kAny ?_); go_skip) | (with_reducible refine stA ?_) | ((first | refine tIx ?_ | refine tFd ?_ | refine tLd ?_); simp only [Act.put, zq1, zq2, zq3]))
          go_roundw
          case rel => exact ⟨k + 1, _, by omega, by go_num, hL, HJ2.out⟩
          case measure => simp [intOf] <;> omega
    · have HR : Hid (alwLR ds l = true) := by
        show _ = _
        unfold alwLR
        rw [List.all_eq_true]
        intro d hd'
        obtain ⟨j, hj⟩ := List.mem_iff_getElem?.1 hd'
        have h1 := (List.getElem?_eq_some_iff.1 hj).1
        have h2 := HN.out
        exact HJ.out j d (by omega) hj
      go_wp2_with (first | ((with_reducible refine kAny ?_); go_skip) | (with_reducible refine stA ?_) | ((first | refine tIx ?_ | refine tFd ?_ | refine tLd ?_); simp only [Act.put, zq1, zq2, zq3]))
      go_ret
      exact RetV.mk hL (by rw [HR.out]; rfl)
end Go.Proofs.YtmhkmmmompediaaGreat

/- The walk through the law BranchChildren. -/
namespace Go.Proofs.YtmhkmmmompediaaGreat
open Go.RowKit

def decM (l : List Int) (k : Nat) : List Dec := decF l ++ (List.range k).map fun (i : Nat) => ((5 : Int) + (i : Int), (4 : Int), false)
theorem decM_step (l : List Int) (k : Nat) : decM l k ++ [((5 : Int) + k, (4 : Int), false)] = decM l (k + 1) := by
  unfold decM; rw [range_snoc, List.append_assoc]
theorem decM_zero (l : List Int) : decM l 0 = decF l := by simp [decM]
theorem decM_len (l : List Int) (k : Nat) : (decM l k).length = (decF l).length + k := by simp [decM]
theorem chF_len {ds : List Dec} {f n : Int} (h : ds.length ≤ 100) : (chF ds f n).1.length ≤ 1000000 ∧ (chF ds f n).2.1.length ≤ 1000000 := by
  unfold chF
  split
  · simp
  · split
    · simp
    · split
      · simp
      · simp; omega

set_option maxRecDepth 100000 in
set_option maxHeartbeats 32000000 in
theorem law_BranchChildren (Al : Option Addr) (cl : Nat) (l : List Int) (n : Int) (w m : World) (hV : Vw m w) (hl : Sl m Al (l.map I64)) (n1 : -9223372036854775808 ≤ n) (n2 : n ≤ 9223372036854775807) :
    Calls Tryz.prog 13 #[.slice Al l.length cl, .int .i64 n] w (RetV w m fun _ r => r = .bool true) := by
  have HL0 := Lib.hid hl
  have HFL := Lib.hid (decF_len l)
  have e1 := i64_and4 (n / 4096)
  have e2 := i64_and3 n
  have e3 := i64_and3 (n / 8)
  have p1 : 0 ≤ n % 8 ∧ n % 8 < 8 := by omega
  have p2 : 0 ≤ n / 8 % 8 ∧ n / 8 % 8 < 8 := by omega
  have e4 : wrap64 (n % 8 - 1) = n % 8 - 1 := by unfold wrap64; omega
  have e5 : wrap64 (n / 8 % 8 - 1) = n / 8 % 8 - 1 := by unfold wrap64; omega
  generalize n / 4096 % 16 = s at *
  generalize n % 8 = f8 at *
  generalize n / 8 % 8 = n8 at *
  obtain ⟨f9, hf9⟩ : ∃ f9, f8 - 1 = f9 := ⟨_, rfl⟩
  obtain ⟨n9, hn9⟩ : ∃ n9, n8 - 1 = n9 := ⟨_, rfl⟩
  rw [hf9] at e4
  rw [hn9] at e5
  have hL := Loc.start hV
  clear hV hl n1 n2 p1 p2
  go_enter Tryz.func13, Tryz.ntmps13
  go_wp2_with (first | ((with_reducible refine kAny ?_); go_skip) | (with_reducible refine stA ?_) | ((first | (refine tBs ?_; clear hL; intro _ _ hL _ hBs)); simp only [Act.put, zq1, zq2, zq3]))
  refine (d_decisions Al cl l _ _ hL.vw (HL0.out.le leX)).mono ?_
  rintro e W2 ⟨v2, m2, R2, rfl, hL2, row2⟩
  have hLj := hL.join hL2
  simp only [List.append_nil] at hLj
  clear hL hL2
  have hL := hLj
  clear hLj
  obtain ⟨A2, c2, rfl, row2⟩ := row2.lit
  generalize hq : (decF l).length = q at *
  have HQ := Lib.hid hq
  clear hq
  by_cases hs : s = 15
  · have b1 : (s == 15) = true := by simp [hs]
    have ROW0 := Lib.hid row2
    have E4 := Lib.hid e4
    have E5 := Lib.hid e5
    clear hs row2 e4 e5
    go_wp2_with (first | ((with_reducible refine kAny ?_); go_skip) | (with_reducible refine stA ?_) | ((first | (refine tBs ?_; clear hL; intro _ _ hL _ hBs)); simp only [Act.put, zq1, zq2, zq3]))
    go_loopw [5, 6] (fun dv i wr => ∃ (k : Nat) (mm : World) (R3 : List Lo), k ≤ 32 ∧ i = .int .i64 k ∧ Loc w m wr mm R3 ∧ Hid (RowA 87 3 DecR mm dv (q + k) (decM l k) R3)) (fun _ i _ => 32 - (intOf i).toNat)
    case atStart => exact ⟨0, _, R2, by omega, rfl, hL, by rw [decM_zero]; exact ROW0.out⟩
    case round =>
      clear hL ROW0
      obtain ⟨k, mm, R3, hk, rfl, hL, row⟩ := hrel
      have hM := hL.mext
      obtain ⟨A3, c3, rfl, row1⟩ := row.out.lit
      have ROW := Lib.hid row1
      clear row row1
      by_cases hlt : k < 32
      · have hlt' : (k : Int) < 32 := by omega
        have HST := Lib.hid (decM_step l k)
        have hq4 : q ≤ 4 := HFL.out
        have w5 : wrap64 (5 + (k : Int)) = 5 + (k : Int) := by unfold wrap64; omega
        go_wp2_with (first | ((with_reducible refine kAny ?_); go_skip) | (with_reducible refine stA ?_) | ((first | (refine tBs ?_; clear hL; intro _ _ hL _ hBs)); simp only [Act.put, zq1, zq2, zq3]))
        refine goA ?_
        clear w5
        obtain ⟨vs7, r7, z7, y7, l7⟩ := ROW.out
        refine wl_append (A := []) hL r7 (wanted_none rfl) rfl ap_Decs (by omega) rfl rfl (news := [.int .i64 (5 + (k : Int)), .int .i64 4, .bool false]) rfl ((Blk.sl hBs (n := 3) rfl).le hL.vw.le) rfl (by omega) (by omega) ?_
        clear hL
        intro v1 W5 m5 R5 hL r8 e8
        obtain ⟨A9, c9, rfl, -⟩ := r8.lit
        simp only [List.nil_append] at hL
        have rd := RowA.snoc (R := DecR) (m := m5) (x := ((5 : Int) + k, (4 : Int), false)) r8 z7 (y7.mono fun _ _ h => h) l7 rfl rfl
        rw [HST.out] at rd
        have RD := Lib.hid rd
        clear rd r8 r7 z7 y7 l7
        simp only [Act.put, zq1, zq2, zq3]
        go_wp2_with (first | ((with_reducible refine kAny ?_); go_skip) | (with_reducible refine stA ?_) | ((first | (refine tBs ?_; clear hL; intro _ _ hL _ hBs)); simp only [Act.put, zq1, zq2, zq3]))
        go_roundw
        case rel => exact ⟨k + 1, m5, R5, by omega, by go_num, hL, RD.out⟩
        case measure => simp [intOf] <;> omega
      · have hk32 : k = 32 := by omega
        subst hk32
        have e4 := E4.out
        have e5 := E5.out
        have HDL : Hid ((decM l 32).length ≤ 100) := by show _ ≤ _; rw [decM_len, HQ.out]; have := HFL.out; omega
        obtain ⟨m3, hL3, hle3, hd3, -⟩ := RowA.show (A := []) DecR.mono hL ROW.out
        clear hL ROW
        have hL := hL3
        clear hL3
        have HDX := Lib.hid hd3
        clear hd3
        go_wp2_with (first | ((with_reducible refine kAny ?_); go_skip) | (with_reducible refine stA ?_) | ((first | (refine tBs ?_; clear hL; intro _ _ hL _ hBs)); simp only [Act.put, zq1, zq2, zq3]))
        refine (b_Children _ (decM l 32) f9 n9 _ _ hL.vw (DecL.le HDX.out leX) (Nat.le_trans HDL.out (by decide))).mono ?_
        rintro e Wc1 ⟨vc1, mc1, rfl, hE, hMc1, hV, hc1⟩
        replace hL := hL.call hE (by assumption) hV; clear hE hV
        obtain ⟨a1, b1, rfl, ha1, hb1⟩ := hc1
        go_wp2_with (first | ((with_reducible refine kAny ?_); go_skip) | (with_reducible refine stA ?_) | ((first | (refine tBs ?_; clear hL; intro _ _ hL _ hBs)); simp only [Act.put, zq1, zq2, zq3]))
        refine (r_Children _ (decM l 32) f9 n9 _ _ hL.vw (DecL.le HDX.out leX) (Nat.le_trans HDL.out (by decide))).mono ?_
        rintro e Wc2 ⟨vc2, mc2, rfl, hE, hMc2, hV, hc2⟩
        replace hL := hL.call hE (by assumption) hV; clear hE hV
        obtain ⟨a2, b2, rfl, ha2, hb2⟩ := hc2
        have HA1 := Lib.hid ha1
        have HB1 := Lib.hid hb1
        have HLT := Lib.hid (chF_len HDL.out : (chF (decM l 32) f9 n9).1.length ≤ 1000000 ∧ (chF (decM l 32) f9 n9).2.1.length ≤ 1000000)
        clear ha1 hb1
        generalize (chF (decM l 32) f9 n9).1 = t1 at *
        generalize (chF (decM l 32) f9 n9).2.1 = t2 at *
        generalize (chF (decM l 32) f9 n9).2.2 = t3 at *
        have bee : ((t3 : Int) == t3) = true := by simp
        go_wp2_with (first | ((with_reducible refine kAny ?_); go_skip) | (with_reducible refine stA ?_) | ((first | (refine tBs ?_; clear hL; intro _ _ hL _ hBs)); simp only [Act.put, zq1, zq2, zq3]))
        refine (r_SameDecisions _ _ t1 t1 _ _ hL.vw (DecL.le HA1.out leX) (DecL.le ha2 leX) HLT.out.1 HLT.out.1).mono ?_
        rintro e Wc3 ⟨_, mc3, rfl, hE, hMc3, hV, rfl⟩
        replace hL := hL.call hE (by assumption) hV; clear hE hV
        rw [decide_eq_true rfl]
        go_wp2_with (first | ((with_reducible refine kAny ?_); go_skip) | (with_reducible refine stA ?_) | ((first | (refine tBs ?_; clear hL; intro _ _ hL _ hBs)); simp only [Act.put, zq1, zq2, zq3]))
        refine (r_SameDecisions _ _ t2 t2 _ _ hL.vw (DecL.le HB1.out leX) (DecL.le hb2 leX) HLT.out.2 HLT.out.2).mono ?_
        rintro e Wc4 ⟨_, mc4, rfl, hE, hMc4, hV, rfl⟩
        replace hL := hL.call hE (by assumption) hV; clear hE hV
        rw [decide_eq_true rfl]
        go_wp2_with (first | ((with_reducible refine kAny ?_); go_skip) | (with_reducible refine stA ?_) | ((first | (refine tBs ?_; clear hL; intro _ _ hL _ hBs)); simp only [Act.put, zq1, zq2, zq3]))
        refine (kb_known _ _ hL.vw).mono ?_
        rintro e Wc5 ⟨_, mc5, rfl, hE, hMc5, hV, rfl⟩
        replace hL := hL.call hE (by assumption) hV; clear hE hV
        go_wp2_with (first | ((with_reducible refine kAny ?_); go_skip) | (with_reducible refine stA ?_) | ((first | (refine tBs ?_; clear hL; intro _ _ hL _ hBs)); simp only [Act.put, zq1, zq2, zq3]))
        go_ret
        exact RetV.mk hL rfl
  · have b1 : (s == 15) = false := by simp [hs]
    have ROW := Lib.hid row2
    have HDL : Hid ((decF l).length ≤ 100) := by show _ ≤ _; rw [HQ.out]; have := HFL.out; omega
    clear hs row2
    obtain ⟨m3, hL3, hle3, hd3, -⟩ := RowA.show (A := []) DecR.mono hL ROW.out
    clear hL ROW
    have hL := hL3
    clear hL3
    have HDX := Lib.hid hd3
    clear hd3
    go_wp2_with (first | ((with_reducible refine kAny ?_); go_skip) | (with_reducible refine stA ?_) | ((first | (refine tBs ?_; clear hL; intro _ _ hL _ hBs)); simp only [Act.put, zq1, zq2, zq3]))
    refine (b_Children _ (decF l) f9 n9 _ _ hL.vw (DecL.le HDX.out leX) (Nat.le_trans HDL.out (by decide))).mono ?_
    rintro e Wc1 ⟨vc1, mc1, rfl, hE, hMc1, hV, hc1⟩
    replace hL := hL.call hE (by assumption) hV; clear hE hV
    obtain ⟨a1, b1, rfl, ha1, hb1⟩ := hc1
    go_wp2_with (first | ((with_reducible refine kAny ?_); go_skip) | (with_reducible refine stA ?_) | ((first | (refine tBs ?_; clear hL; intro _ _ hL _ hBs)); simp only [Act.put, zq1, zq2, zq3]))
    refine (r_Children _ (decF l) f9 n9 _ _ hL.vw (DecL.le HDX.out leX) (Nat.le_trans HDL.out (by decide))).mono ?_
    rintro e Wc2 ⟨vc2, mc2, rfl, hE, hMc2, hV, hc2⟩
    replace hL := hL.call hE (by assumption) hV; clear hE hV
    obtain ⟨a2, b2, rfl, ha2, hb2⟩ := hc2
    have HA1 := Lib.hid ha1
    have HB1 := Lib.hid hb1
    have HLT := Lib.hid (chF_len HDL.out : (chF (decF l) f9 n9).1.length ≤ 1000000 ∧ (chF (decF l) f9 n9).2.1.length ≤ 1000000)
    clear ha1 hb1
    generalize (chF (decF l) f9 n9).1 = t1 at *
    generalize (chF (decF l) f9 n9).2.1 = t2 at *
    generalize (chF (decF l) f9 n9).2.2 = t3 at *
    have bee : ((t3 : Int) == t3) = true := by simp
    go_wp2_with (first | ((with_reducible refine kAny ?_); go_skip) | (with_reducible refine stA ?_) | ((first | (refine tBs ?_; clear hL; intro _ _ hL _ hBs)); simp only [Act.put, zq1, zq2, zq3]))
    refine (r_SameDecisions _ _ t1 t1 _ _ hL.vw (DecL.le HA1.out leX) (DecL.le ha2 leX) HLT.out.1 HLT.out.1).mono ?_
    rintro e Wc3 ⟨_, mc3, rfl, hE, hMc3, hV, rfl⟩
    replace hL := hL.call hE (by assumption) hV; clear hE hV
    rw [decide_eq_true rfl]
    go_wp2_with (first | ((with_reducible refine kAny ?_); go_skip) | (with_reducible refine stA ?_) | ((first | (refine tBs ?_; clear hL; intro _ _ hL _ hBs)); simp only [Act.put, zq1, zq2, zq3]))
    refine (r_SameDecisions _ _ t2 t2 _ _ hL.vw (DecL.le HB1.out leX) (DecL.le hb2 leX) HLT.out.2 HLT.out.2).mono ?_
    rintro e Wc4 ⟨_, mc4, rfl, hE, hMc4, hV, rfl⟩
    replace hL := hL.call hE (by assumption) hV; clear hE hV
    rw [decide_eq_true rfl]
    go_wp2_with (first | ((with_reducible refine kAny ?_); go_skip) | (with_reducible refine stA ?_) | ((first | (refine tBs ?_; clear hL; intro _ _ hL _ hBs)); simp only [Act.put, zq1, zq2, zq3]))
    refine (kb_known _ _ hL.vw).mono ?_
    rintro e Wc5 ⟨_, mc5, rfl, hE, hMc5, hV, rfl⟩
    replace hL := hL.call hE (by assumption) hV; clear hE hV
    go_wp2_with (first | ((with_reducible refine kAny ?_); go_skip) | (with_reducible refine stA ?_) | ((first | (refine tBs ?_; clear hL; intro _ _ hL _ hBs)); simp only [Act.put, zq1, zq2, zq3]))
    go_ret
    exact RetV.mk hL rfl
end Go.Proofs.YtmhkmmmompediaaGreat

/- Contract of branch.Fits, and what the law BranchFits compares. -/
namespace Go.Proofs.YtmhkmmmompediaaGreat
open Go.RowKit

theorem ap_Pairs : apS Tryz.prog 91 = some (70, 2, 40, 2) := by kernel_rfl
instance iAC17_1 : ApC Tryz.prog 91 70 2 40 := ⟨ap_Pairs⟩
theorem zc_Pairing : zc Tryz.prog 70 = some #[.string ⟨#[]⟩, .slice none 0 0] := by kernel_rfl
instance iAC17_2 : ZcC Tryz.prog 70 #[.string ⟨#[]⟩, .slice none 0 0] := ⟨zc_Pairing⟩
abbrev Pg := ByteArray × List (List Task)
def PairR (m : World) (v : Value) (x : Pg) : Prop := ∃ s, v = .agg #[.string x.1, s] ∧ DutsL m s x.2
theorem PairR.mono (m m' : World) (v : Value) (x : Pg) (h : PairR m v x) (hb : Le m m') : PairR m' v x := by
  obtain ⟨s, e, h⟩ := h
  exact ⟨s, e, DutsL.le h hb⟩
abbrev PairL := ListV (α := Pg) 2 PairR
theorem PairL.le {m m' : World} {v : Value} {xs : List Pg} (h : PairL m v xs) (hb : Le m m') : PairL m' v xs := ListV.le PairR.mono h hb
theorem PairL.at_ {m : World} {A : Option Addr} {n c : Nat} {xs : List Pg} (h : PairL m (.slice A n c) xs) {k : Nat} {x : Pg} (hk : xs[k]? = some x) :
    ∃ b off D cd, A = some ⟨b, off, none⟩ ∧ DutsL m (.slice D x.2.length cd) x.2 ∧ m.rangeAt b (off + k * 2) [.string x.1, .slice D x.2.length cd] := by
  obtain ⟨b, off, v, e, ⟨s, rfl, hs⟩, _, hr⟩ := ListV.at_ h (by omega) hk
  obtain ⟨D, cd, rfl, _, hs⟩ := hs.lit
  exact ⟨b, off, D, cd, e, hs, hr⟩
def fitsF (ds : List Dec) (ps : List Pg) : Bool := ps.all fun p => alwL ds (opF p.2)

theorem range_two {m : World} {b off : Nat} {x y : Value} {r : List Value} (h : m.rangeAt b off (x :: y :: r)) : m.rangeAt b off [x, y] := fun j v hv => h j v (by
  match j, hv with
  | 0, hv => exact hv
  | 1, hv => exact hv)
set_option maxRecDepth 100000 in
set_option maxHeartbeats 16000000 in
theorem b_Fits (dv v : Value) (ds : List Dec) (ps : List Pg) (w m : World) (hV : Vw m w) (hd : DecL m dv ds) (h : PairL m v ps) (hdl : ds.length ≤ 1000000) (hl : ps.length ≤ 1000000) (hok : ∀ p ∈ ps, p.2.length ≤ 100 ∧ ∀ d ∈ p.2, d.length ≤ 100) :
    Calls Tryz.prog 61 #[dv, v] w (RetV w m fun _ r => r = .bool (fitsF ds ps)) := by
  obtain ⟨A, c, rfl, hc, hd⟩ := hd.lit
  obtain ⟨B, c', rfl, hc', h⟩ := h.lit
  have HD := Lib.hid hd
  have HD0 := Lib.hid hdl
  have HK := Lib.hid hok
  have hL := Loc.start hV
  clear hV hd hdl hok
  generalize hn : ps.length = n at *
  have HN := Lib.hid hn
  clear hn
  generalize hn2 : ds.length = n2 at *
  have HN2 := Lib.hid hn2
  clear hn2
  go_enter Tryz.func61, Tryz.ntmps61
  go_wp2_with (first | ((with_reducible refine kAny ?_); go_skip) | (with_reducible refine stA ?_) | ((first | refine tIx ?_ | refine tLd ?_ | ((first | refine tSr ?_ | refine tSt ?_); clear hL; intro _ hL; simp only [splice, zq1, zq2, zq3] at hL) | (refine tAl ?_; clear hL; intro _ _ hL _)); simp only [Act.put, zq1, zq2, zq3]))
  go_loopw [9] (fun i wr => ∃ (k : Nat) (mm : World), k ≤ n ∧ i = .int .i64 k ∧ Loc w m wr mm [] ∧ Hid (∀ j p, j < k → ps[j]? = some p → alwL ds (opF p.2) = true)) (fun i _ => n - (intOf i).toNat)
  case atStart => exact ⟨0, m, Nat.zero_le _, rfl, hL, fun _ _ h => absurd h (Nat.not_lt_zero _)⟩
  case round =>
    clear hL
    obtain ⟨k, mm, hk, rfl, hL, HJ⟩ := hrel
    have hM := hL.mext
    by_cases hlt : k < n
    · obtain ⟨⟨s, ts⟩, hx⟩ := at_some HN hlt
      obtain ⟨b1, o1, D, cd, rfl, hdu, hr1⟩ := PairL.at_ h hx
      simp only at hdu hr1
      obtain ⟨k1, k2⟩ := HK.out _ (List.mem_of_getElem? hx)
      simp only at k1 k2
      have HX := Lib.hid hx
      have HDU := Lib.hid hdu
      have K1 := Lib.hid k1
      have K2 := Lib.hid k2
      clear hx hdu k1 k2
      generalize hn3 : ts.length = n3 at *
      have HN3 := Lib.hid hn3
      clear hn3
      go_wp2_with (first | ((with_reducible refine kAny ?_); go_skip) | (with_reducible refine stA ?_) | ((first | refine tIx ?_ | refine tLd ?_ | ((first | refine tSr ?_ | refine tSt ?_); clear hL; intro _ hL; simp only [splice, zq1, zq2, zq3] at hL) | (refine tAl ?_; clear hL; intro _ _ hL _)); simp only [Act.put, zq1, zq2, zq3]))
      refine (e_Allowed _ _ s ds ts _ _ hL.vw (DecL.le HD.out leX) (DutsL.le HDU.out leX) (by rw [HN2.out]; exact HD0.out) (by rw [HN3.out]; exact K1.out) K2.out).mono ?_
      rintro e Wc1 ⟨_, mc1, rfl, hE, hMc1, hV, rfl⟩
      replace hL := hL.call hE (by assumption) hV; clear hE hV
      by_cases ha : alwL ds (opF ts) = true
      · have HJ2 : Hid (∀ j p, j < k + 1 → ps[j]? = some p → alwL ds (opF p.2) = true) := by
          show ∀ j p, _
          intro j p hj hp
          rcases Nat.lt_succ_iff_lt_or_eq.1 hj with h' | rfl
          · exact HJ.out j p h' hp
          · rw [HX.out] at hp; cases hp; exact ha
        rw [ha]
        clear ha HJ HX
        go_wp2_with (first | ((with_reducible refine kAny ?_); go_skip) | (with_reducible refine stA ?_) | ((first | refine tIx ?_ | refine tLd ?_ | ((first | refine tSr ?_ | refine tSt ?_); clear hL; intro _ hL; simp only [splice, zq1, zq2, zq3] at hL) | (refine tAl ?_; clear hL; intro _ _ hL _)); simp only [Act.put, zq1, zq2, zq3]))
        go_roundw
        case rel => exact ⟨k + 1, _, by omega, by go_num, hL.tail, HJ2.out⟩
        case measure => simp [intOf] <;> omega
      · have hf : alwL ds (opF ts) = false := by simpa using ha
        have HR : Hid (fitsF ds ps = false) := by
          show _ = _
          unfold fitsF
          rw [List.all_eq_false]
          exact ⟨_, List.mem_of_getElem? HX.out, by rw [hf]; simp⟩
        rw [hf]
        clear ha hf HJ HX
        go_wp2_with (first | ((with_reducible refine kAny ?_); go_skip) | (with_reducible refine stA ?_) | ((first | refine tIx ?_ | refine tLd ?_ | ((first | refine tSr ?_ | refine tSt ?_); clear hL; intro _ hL; simp only [splice, zq1, zq2, zq3] at hL) | (refine tAl ?_; clear hL; intro _ _ hL _)); simp only [Act.put, zq1, zq2, zq3]))
        go_ret
        exact RetV.mk hL (by rw [HR.out]; rfl)
    · have HR : Hid (fitsF ds ps = true) := by
        show _ = _
        unfold fitsF
        rw [List.all_eq_true]
        intro p hp
        obtain ⟨j, hj⟩ := List.mem_iff_getElem?.1 hp
        have h1 := (List.getElem?_eq_some_iff.1 hj).1
        have h2 := HN.out
        exact HJ.out j p (by omega) hj
      go_wp2_with (first | ((with_reducible refine kAny ?_); go_skip) | (with_reducible refine stA ?_) | ((first | refine tIx ?_ | refine tLd ?_ | ((first | refine tSr ?_ | refine tSt ?_); clear hL; intro _ hL; simp only [splice, zq1, zq2, zq3] at hL) | (refine tAl ?_; clear hL; intro _ _ hL _)); simp only [Act.put, zq1, zq2, zq3]))
      go_ret
      exact RetV.mk hL (by rw [HR.out]; rfl)

def pgT (cols : List Col) (k : Nat) : List Pg := (cols.take k).map fun c => (c.1, c.2.1)
def allT (ds : List Dec) (cols : List Col) (k : Nat) : Bool := (cols.take k).all fun c => alwLR ds (opF c.2.1)
theorem pgT_step {cols : List Col} {k : Nat} {c : Col} (h : cols[k]? = some c) : pgT cols k ++ [(c.1, c.2.1)] = pgT cols (k + 1) := by
  unfold pgT; rw [← take_snoc h]; simp
theorem allT_step {ds : List Dec} {cols : List Col} {k : Nat} {c : Col} (h : cols[k]? = some c) : allT ds cols (k + 1) = (allT ds cols k && alwLR ds (opF c.2.1)) := by
  unfold allT; rw [← take_snoc h]; simp
theorem fits_all (ds : List Dec) (cols : List Col) (k : Nat) : fitsF ds (pgT cols k) = allT ds cols k := by
  unfold fitsF pgT allT
  rw [List.all_map]
  congr 1
  funext c
  exact alwL_eq ds _
theorem fits_nil (ds : List Dec) : fitsF ds [] = true := rfl
theorem fits_none (ps : List Pg) : fitsF [] ps = true := by unfold fitsF; rw [List.all_eq_true]; intro p _; rfl
theorem DecL.nil' {m : World} : DecL m (.slice none 0 0) [] := ListV.nil
theorem PairL.nil' {m : World} : PairL m (.slice none 0 0) [] := ListV.nil

end Go.Proofs.YtmhkmmmompediaaGreat

/- The walk through the law BranchFits. -/
namespace Go.Proofs.YtmhkmmmompediaaGreat
open Go.RowKit

set_option maxRecDepth 100000 in
set_option maxHeartbeats 32000000 in
theorem law_BranchFits (Al Ad : Option Addr) (cl cd : Nat) (l d : List Int) (w m : World) (hV : Vw m w) (hl : Sl m Al (l.map I64)) (hd : Sl m Ad (d.map I64)) :
    Calls Tryz.prog 14 #[.slice Al l.length cl, .slice Ad d.length cd] w (RetV w m fun _ r => r = .bool true) := by
  have KM : Hid (∀ w m', Vw m' w → Le m m' → Calls Tryz.prog 15 #[.slice Al l.length cl] w (RetV w m' fun m'' r => MasterR m'' r (masF l))) := by
    show ∀ w m', _
    exact fun w m' hV hle => d_Master Al cl l w m' hV (hl.le hle) trivial
  have KD : Hid (∀ w m', Vw m' w → Le m m' → Calls Tryz.prog 56 #[.slice Ad d.length cd] w (DecPost w m' (decF d))) := by
    show ∀ w m', _
    exact fun w m' hV hle => d_decisions Ad cd d w m' hV (hd.le hle)
  have HOK : Hid (∀ c ∈ (masF l).cols, c.2.1.length ≤ 100 ∧ ∀ x ∈ c.2.1, x.length ≤ 100) := by
    show ∀ c ∈ _, _
    exact fun c hc => ⟨((masF_ok l).cols c hc).nd, ((masF_ok l).cols c hc).nt⟩
  have HDL := Lib.hid (decF_len d)
  have hL := Loc.start hV
  clear hV hl hd
  generalize l.length = N1 at *
  generalize d.length = N2 at *
  generalize masF l = ms at *
  generalize decF d = ds at *
  go_enter Tryz.func14, Tryz.ntmps14
  go_wp2_with (first | ((with_reducible refine kAny ?_); go_skip) | (with_reducible refine stA ?_) | ((first | refine tIx ?_ | refine tFd ?_ | refine tLd ?_ | ((first | refine tSr ?_ | refine tSt ?_); clear hL; intro _ hL; simp only [splice, zq1, zq2, zq3] at hL) | (refine tAl ?_; clear hL; intro _ _ hL _) | (refine tBs ?_; clear hL; intro _ _ hL _ hBs)); simp only [Act.put, zq1, zq2, zq3]))
  refine (KM.out _ _ hL.vw leX).mono ?_
  rintro e Wc1 ⟨vc1, mc1, rfl, hE, hMc1, hV, hc1⟩
  replace hL := hL.call hE (by assumption) hV; clear hE hV
  obtain ⟨va, vb, vc, rfl, ha, hb, hc⟩ := hc1
  obtain ⟨M1, d1, rfl, -, -⟩ := ha.lit
  obtain ⟨M2, d2, rfl, -, hb⟩ := hb.lit
  obtain ⟨M3, d3, rfl, -, -⟩ := hc.lit
  have HCO := Lib.hid hb
  clear ha hb hc
  obtain ⟨nf, rws, pen, cols, cuts⟩ := ms
  simp only at HCO HOK
  go_wp2_with (first | ((with_reducible refine kAny ?_); go_skip) | (with_reducible refine stA ?_) | ((first | refine tIx ?_ | refine tFd ?_ | refine tLd ?_ | ((first | refine tSr ?_ | refine tSt ?_); clear hL; intro _ hL; simp only [splice, zq1, zq2, zq3] at hL) | (refine tAl ?_; clear hL; intro _ _ hL _) | (refine tBs ?_; clear hL; intro _ _ hL _ hBs)); simp only [Act.put, zq1, zq2, zq3]))
  refine (KD.out _ _ hL.vw leX).mono ?_
  rintro e W2 ⟨v2, m2, R2, rfl, hL2, row2⟩
  have hLj := (hL.join hL2).perm List.perm_append_comm
  have hX2 := hL2.mext
  simp only [List.cons_append, List.nil_append] at hLj
  clear hL hL2
  obtain ⟨m3, hL, hle3, hd3, -⟩ := RowA.show (A := [_]) DecR.mono hLj row2
  obtain ⟨A2, c2, rfl, -, hd3⟩ := hd3.lit
  have HDS := Lib.hid hd3
  have HCO3 : Hid (ColL m3 (.slice M2 cols.length d2) cols) := ColL.le HCO.out (Le.trans leX hle3)
  clear hLj row2 hd3 HCO KM KD
  generalize hnd : ds.length = nd at *
  have HND := Lib.hid hnd
  clear hnd
  generalize hnc : cols.length = nc at *
  have HNC := Lib.hid hnc
  clear hnc
  generalize rws.length = nr at *
  generalize cuts.length = nk at *
  go_wp2_with (first | ((with_reducible refine kAny ?_); go_skip) | (with_reducible refine stA ?_) | ((first | refine tIx ?_ | refine tFd ?_ | refine tLd ?_ | ((first | refine tSr ?_ | refine tSt ?_); clear hL; intro _ hL; simp only [splice, zq1, zq2, zq3] at hL) | (refine tAl ?_; clear hL; intro _ _ hL _) | (refine tBs ?_; clear hL; intro _ _ hL _ hBs)); simp only [Act.put, zq1, zq2, zq3]))
  have hnd4 : nd ≤ 4 := by have := HDL.out; have := HND.out; omega
  go_loopw [7, 8, 9] (fun al li i wr => ∃ (k : Nat) (mm : World) (R3 : List Lo), k ≤ 3 ∧ k ≤ nc ∧ i = .int .i64 k ∧ al = .bool (allT ds cols k) ∧ Loc w m wr mm ((Wc1.heap.size, 26, #[.int .i64 nf, .slice M1 nr d1, .int .i64 pen, .slice M2 nc d2, .slice M3 nk d3]) :: R3) ∧ Hid (RowA 70 2 PairR mm li k (pgT cols k) R3) ∧ Hid (Ext m3 mm)) (fun _ _ i _ => 3 - (intOf i).toNat)
  case atStart => exact ⟨0, m3, [], by omega, by omega, rfl, rfl, hL, RowA.nil, Ext.refl _⟩
  case round =>
    clear hL
    obtain ⟨k, mm, R3, hk3, hkn, rfl, rfl, hL, row, HX⟩ := hrel
    have hX := HX.out
    obtain ⟨A3, c3, rfl, row1⟩ := row.out.lit
    have ROW := Lib.hid row1
    clear row row1
    by_cases hlt : k < nc
    · by_cases hlt3 : k < 3
      · have hlt3' : (k : Int) < 3 := by omega
        obtain ⟨⟨s, ts, cost⟩, hx⟩ := at_some HNC hlt
        have hco := ColL.le HCO3.out hX.le
        obtain ⟨b1, o1, D, cd1, rfl, hds, hr1⟩ := ColL.at_ hco hx
        simp only at hds hr1
        have hr2 := range_two hr1
        have HD := Lib.hid hds
        have HSP := Lib.hid (pgT_step hx)
        have HSA := Lib.hid (allT_step (ds := ds) hx)
        obtain ⟨q1, q2⟩ := HOK.out _ (List.mem_of_getElem? hx)
        simp only at q1 q2 HSP HSA
        have Q1 := Lib.hid q1
        have Q2 := Lib.hid q2
        have H3 : Hid ((opF ts).length ≤ 1000000) := by show _ ≤ _; have := opF_len q2; omega
        clear hx hds hco hr1 q1 q2
        generalize hnt : ts.length = nt at *
        have HNT := Lib.hid hnt
        clear hnt
        go_wp2_with (first | ((with_reducible refine kAny ?_); go_skip) | (with_reducible refine stA ?_) | ((first | refine tIx ?_ | refine tFd ?_ | refine tLd ?_ | ((first | refine tSr ?_ | refine tSt ?_); clear hL; intro _ hL; simp only [splice, zq1, zq2, zq3] at hL) | (refine tAl ?_; clear hL; intro _ _ hL _) | (refine tBs ?_; clear hL; intro _ _ hL _ hBs)); simp only [Act.put, zq1, zq2, zq3]))
        refine goA ?_
        obtain ⟨vs7, r7, z7, y7, l7⟩ := ROW.out
        refine wl_append (A := [_]) hL r7 (wanted_none rfl) rfl ap_Pairs (by omega) rfl rfl (news := [.string s, .slice D nt cd1]) rfl ((Blk.sl hBs (n := 2) rfl).le hL.vw.le) rfl (by omega) (by omega) ?_
        clear hL hBs
        intro v1 W5 m5 R5 hL r8 e8
        obtain ⟨A9, c9, rfl, -⟩ := r8.lit
        simp only [List.cons_append, List.nil_append] at hL
        have hle5 : Le mm m5 := leX
        have rd := RowA.snoc (R := PairR) (m := m5) (x := (s, ts)) r8 z7 (y7.mono fun v x hv => PairR.mono _ _ _ _ hv hle5) l7 rfl ⟨_, rfl, DutsL.le HD.out hle5⟩
        rw [HSP.out] at rd
        have RD := Lib.hid rd
        have HX5 : Hid (Ext m3 m5) := hX.trans exX
        clear rd r8 r7 z7 y7 l7 ROW
        simp only [Act.put, zq1, zq2, zq3]
        generalize allT ds cols k = av at *
        cases av with
        | false =>
          go_wp2_with (first | ((with_reducible refine kAny ?_); go_skip) | (with_reducible refine stA ?_) | ((first | refine tIx ?_ | refine tFd ?_ | refine tLd ?_ | ((first | refine tSr ?_ | refine tSt ?_); clear hL; intro _ hL; simp only [splice, zq1, zq2, zq3] at hL) | (refine tAl ?_; clear hL; intro _ _ hL _) | (refine tBs ?_; clear hL; intro _ _ hL _ hBs)); simp only [Act.put, zq1, zq2, zq3]))
          go_roundw
          case rel => exact ⟨k + 1, m5, R5, by omega, by omega, by go_num, by rw [HSA.out]; rfl, hL, RD.out, HX5.out⟩
          case measure => simp [intOf] <;> omega
        | true =>
          go_wp2_with (first | ((with_reducible refine kAny ?_); go_skip) | (with_reducible refine stA ?_) | ((first | refine tIx ?_ | refine tFd ?_ | refine tLd ?_ | ((first | refine tSr ?_ | refine tSt ?_); clear hL; intro _ hL; simp only [splice, zq1, zq2, zq3] at hL) | (refine tAl ?_; clear hL; intro _ _ hL _) | (refine tBs ?_; clear hL; intro _ _ hL _ hBs)); simp only [Act.put, zq1, zq2, zq3]))
          refine (r_Operated s _ ts _ _ hL.vw (DutsL.le HD.out leX) (by rw [HNT.out]; exact Q1.out) Q2.out).mono ?_
          rintro e Wo1 ⟨vo1, mo1, rfl, hE, hMo1, hV, ho1⟩
          replace hL := hL.call hE (by assumption) hV; clear hE hV
          obtain ⟨Ao, co, rfl, hco, ho1⟩ := ho1.lit
          go_wp2_with (first | ((with_reducible refine kAny ?_); go_skip) | (with_reducible refine stA ?_) | ((first | refine tIx ?_ | refine tFd ?_ | refine tLd ?_ | ((first | refine tSr ?_ | refine tSt ?_); clear hL; intro _ hL; simp only [splice, zq1, zq2, zq3] at hL) | (refine tAl ?_; clear hL; intro _ _ hL _) | (refine tBs ?_; clear hL; intro _ _ hL _ hBs)); simp only [Act.put, zq1, zq2, zq3]))
          refine (r_Allowed _ _ ds (opF ts) _ _ hL.vw (DecL.le HDS.out (Le.trans hX.le leX)) (IntL.le ho1 leX) (by rw [HND.out]; omega) H3.out).mono ?_
          rintro e Wo2 ⟨_, mo2, rfl, hE, hMo2, hV, rfl⟩
          replace hL := hL.call hE (by assumption) hV; clear hE hV
          go_wp2_with (first | ((with_reducible refine kAny ?_); go_skip) | (with_reducible refine stA ?_) | ((first | refine tIx ?_ | refine tFd ?_ | refine tLd ?_ | ((first | refine tSr ?_ | refine tSt ?_); clear hL; intro _ hL; simp only [splice, zq1, zq2, zq3] at hL) | (refine tAl ?_; clear hL; intro _ _ hL _) | (refine tBs ?_; clear hL; intro _ _ hL _ hBs)); simp only [Act.put, zq1, zq2, zq3]))
          go_roundw
          case rel => exact ⟨k + 1, _, R5, by omega, by omega, by go_num, by rw [HSA.out]; rfl, hL, RowA.le PairR.mono RD.out leX, HX5.out.trans exX⟩
          case measure => simp [intOf] <;> omega
      · have hlt3' : ¬ (k : Int) < 3 := by omega
        have HOP : Hid (∀ p ∈ pgT cols k, p.2.length ≤ 100 ∧ ∀ x ∈ p.2, x.length ≤ 100) := by
          show ∀ p ∈ _, _
          intro p hp
          unfold pgT at hp
          obtain ⟨c, hc, rfl⟩ := List.mem_map.1 hp
          exact HOK.out c (List.mem_of_mem_take hc)
        have HPL : Hid ((pgT cols k).length ≤ 1000000) := by show _ ≤ _; unfold pgT; simp; omega
        have HFA := Lib.hid (fits_all ds cols k)
        obtain ⟨m9, hL9, hle9, hl9, -⟩ := RowA.show (A := [_]) PairR.mono hL ROW.out
        have HPS := Lib.hid hl9
        have HDS9 : Hid (DecL m9 (.slice A2 nd c2) ds) := DecL.le HDS.out (Le.trans hX.le hle9)
        clear hL hl9 ROW
        have hL := hL9
        clear hL9
        generalize pgT cols k = ps at *
        generalize allT ds cols k = av at *
        have bee : (av == av) = true := by simp
        go_wp2_with (first | ((with_reducible refine kAny ?_); go_skip) | (with_reducible refine stA ?_) | ((first | refine tIx ?_ | refine tFd ?_ | refine tLd ?_ | ((first | refine tSr ?_ | refine tSt ?_); clear hL; intro _ hL; simp only [splice, zq1, zq2, zq3] at hL) | (refine tAl ?_; clear hL; intro _ _ hL _) | (refine tBs ?_; clear hL; intro _ _ hL _ hBs)); simp only [Act.put, zq1, zq2, zq3]))
        refine (b_Fits _ _ ds ps _ _ hL.vw (DecL.le HDS9.out leX) (PairL.le HPS.out leX) (by rw [HND.out]; omega) HPL.out HOP.out).mono ?_
        rintro e Wf1 ⟨_, mf1, rfl, hE, hMf1, hV, rfl⟩
        replace hL := hL.call hE (by assumption) hV; clear hE hV
        rw [HFA.out]
        go_wp2_with (first | ((with_reducible refine kAny ?_); go_skip) | (with_reducible refine stA ?_) | ((first | refine tIx ?_ | refine tFd ?_ | refine tLd ?_ | ((first | refine tSr ?_ | refine tSt ?_); clear hL; intro _ hL; simp only [splice, zq1, zq2, zq3] at hL) | (refine tAl ?_; clear hL; intro _ _ hL _) | (refine tBs ?_; clear hL; intro _ _ hL _ hBs)); simp only [Act.put, zq1, zq2, zq3]))
        refine (b_Fits _ _ ds [] _ _ hL.vw (DecL.le HDS9.out leX) PairL.nil' (by rw [HND.out]; omega) (by simp) (fun _ h => by cases h)).mono ?_
        rintro e Wf2 ⟨_, mf2, rfl, hE, hMf2, hV, rfl⟩
        replace hL := hL.call hE (by assumption) hV; clear hE hV
        rw [fits_nil]
        go_wp2_with (first | ((with_reducible refine kAny ?_); go_skip) | (with_reducible refine stA ?_) | ((first | refine tIx ?_ | refine tFd ?_ | refine tLd ?_ | ((first | refine tSr ?_ | refine tSt ?_); clear hL; intro _ hL; simp only [splice, zq1, zq2, zq3] at hL) | (refine tAl ?_; clear hL; intro _ _ hL _) | (refine tBs ?_; clear hL; intro _ _ hL _ hBs)); simp only [Act.put, zq1, zq2, zq3]))
        refine (b_Fits _ _ [] ps _ _ hL.vw DecL.nil' (PairL.le HPS.out leX) (by simp) HPL.out HOP.out).mono ?_
        rintro e Wf3 ⟨_, mf3, rfl, hE, hMf3, hV, rfl⟩
        replace hL := hL.call hE (by assumption) hV; clear hE hV
        rw [fits_none]
        go_wp2_with (first | ((with_reducible refine kAny ?_); go_skip) | (with_reducible refine stA ?_) | ((first | refine tIx ?_ | refine tFd ?_ | refine tLd ?_ | ((first | refine tSr ?_ | refine tSt ?_); clear hL; intro _ hL; simp only [splice, zq1, zq2, zq3] at hL) | (refine tAl ?_; clear hL; intro _ _ hL _) | (refine tBs ?_; clear hL; intro _ _ hL _ hBs)); simp only [Act.put, zq1, zq2, zq3]))
        refine (kb_known _ _ hL.vw).mono ?_
        rintro e Wf4 ⟨_, mf4, rfl, hE, hMf4, hV, rfl⟩
        replace hL := hL.call hE (by assumption) hV; clear hE hV
        go_wp2_with (first | ((with_reducible refine kAny ?_); go_skip) | (with_reducible refine stA ?_) | ((first | refine tIx ?_ | refine tFd ?_ | refine tLd ?_ | ((first | refine tSr ?_ | refine tSt ?_); clear hL; intro _ hL; simp only [splice, zq1, zq2, zq3] at hL) | (refine tAl ?_; clear hL; intro _ _ hL _) | (refine tBs ?_; clear hL; intro _ _ hL _ hBs)); simp only [Act.put, zq1, zq2, zq3]))
        go_ret
        exact RetV.mk hL rfl
    · have hlt' : ¬ (k : Int) < (nc : Int) := by omega
      have HOP : Hid (∀ p ∈ pgT cols k, p.2.length ≤ 100 ∧ ∀ x ∈ p.2, x.length ≤ 100) := by
        show ∀ p ∈ _, _
        intro p hp
        unfold pgT at hp
        obtain ⟨c, hc, rfl⟩ := List.mem_map.1 hp
        exact HOK.out c (List.mem_of_mem_take hc)
      have HPL : Hid ((pgT cols k).length ≤ 1000000) := by show _ ≤ _; unfold pgT; simp; omega
      have HFA := Lib.hid (fits_all ds cols k)
      obtain ⟨m9, hL9, hle9, hl9, -⟩ := RowA.show (A := [_]) PairR.mono hL ROW.out
      have HPS := Lib.hid hl9
      have HDS9 : Hid (DecL m9 (.slice A2 nd c2) ds) := DecL.le HDS.out (Le.trans hX.le hle9)
      clear hL hl9 ROW
      have hL := hL9
      clear hL9
      generalize pgT cols k = ps at *
      generalize allT ds cols k = av at *
      have bee : (av == av) = true := by simp
      go_wp2_with (first | ((with_reducible refine kAny ?_); go_skip) | (with_reducible refine stA ?_) | ((first | refine tIx ?_ | refine tFd ?_ | refine tLd ?_ | ((first | refine tSr ?_ | refine tSt ?_); clear hL; intro _ hL; simp only [splice, zq1, zq2, zq3] at hL) | (refine tAl ?_; clear hL; intro _ _ hL _) | (refine tBs ?_; clear hL; intro _ _ hL _ hBs)); simp only [Act.put, zq1, zq2, zq3]))
      refine (b_Fits _ _ ds ps _ _ hL.vw (DecL.le HDS9.out leX) (PairL.le HPS.out leX) (by rw [HND.out]; omega) HPL.out HOP.out).mono ?_
      rintro e Wf1 ⟨_, mf1, rfl, hE, hMf1, hV, rfl⟩
      replace hL := hL.call hE (by assumption) hV; clear hE hV
      rw [HFA.out]
      go_wp2_with (first | ((with_reducible refine kAny ?_); go_skip) | (with_reducible refine stA ?_) | ((first | refine tIx ?_ | refine tFd ?_ | refine tLd ?_ | ((first | refine tSr ?_ | refine tSt ?_); clear hL; intro _ hL; simp only [splice, zq1, zq2, zq3] at hL) | (refine tAl ?_; clear hL; intro _ _ hL _) | (refine tBs ?_; clear hL; intro _ _ hL _ hBs)); simp only [Act.put, zq1, zq2, zq3]))
      refine (b_Fits _ _ ds [] _ _ hL.vw (DecL.le HDS9.out leX) PairL.nil' (by rw [HND.out]; omega) (by simp) (fun _ h => by cases h)).mono ?_
      rintro e Wf2 ⟨_, mf2, rfl, hE, hMf2, hV, rfl⟩
      replace hL := hL.call hE (by assumption) hV; clear hE hV
      rw [fits_nil]
      go_wp2_with (first | ((with_reducible refine kAny ?_); go_skip) | (with_reducible refine stA ?_) | ((first | refine tIx ?_ | refine tFd ?_ | refine tLd ?_ | ((first | refine tSr ?_ | refine tSt ?_); clear hL; intro _ hL; simp only [splice, zq1, zq2, zq3] at hL) | (refine tAl ?_; clear hL; intro _ _ hL _) | (refine tBs ?_; clear hL; intro _ _ hL _ hBs)); simp only [Act.put, zq1, zq2, zq3]))
      refine (b_Fits _ _ [] ps _ _ hL.vw DecL.nil' (PairL.le HPS.out leX) (by simp) HPL.out HOP.out).mono ?_
      rintro e Wf3 ⟨_, mf3, rfl, hE, hMf3, hV, rfl⟩
      replace hL := hL.call hE (by assumption) hV; clear hE hV
      rw [fits_none]
      go_wp2_with (first | ((with_reducible refine kAny ?_); go_skip) | (with_reducible refine stA ?_) | ((first | refine tIx ?_ | refine tFd ?_ | refine tLd ?_ | ((first | refine tSr ?_ | refine tSt ?_); clear hL; intro _ hL; simp only [splice, zq1, zq2, zq3] at hL) | (refine tAl ?_; clear hL; intro _ _ hL _) | (refine tBs ?_; clear hL; intro _ _ hL _ hBs)); simp only [Act.put, zq1, zq2, zq3]))
      refine (kb_known _ _ hL.vw).mono ?_
      rintro e Wf4 ⟨_, mf4, rfl, hE, hMf4, hV, rfl⟩
      replace hL := hL.call hE (by assumption) hV; clear hE hV
      go_wp2_with (first | ((with_reducible refine kAny ?_); go_skip) | (with_reducible refine stA ?_) | ((first | refine tIx ?_ | refine tFd ?_ | refine tLd ?_ | ((first | refine tSr ?_ | refine tSt ?_); clear hL; intro _ hL; simp only [splice, zq1, zq2, zq3] at hL) | (refine tAl ?_; clear hL; intro _ _ hL _) | (refine tBs ?_; clear hL; intro _ _ hL _ hBs)); simp only [Act.put, zq1, zq2, zq3]))
      go_ret
      exact RetV.mk hL rfl
end Go.Proofs.YtmhkmmmompediaaGreat
