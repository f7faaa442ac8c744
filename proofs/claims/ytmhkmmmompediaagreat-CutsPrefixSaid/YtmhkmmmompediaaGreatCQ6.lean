/- Part 6 of 8 of the proof: the law CutsClique returns true for every input, and its arguments read as before; there is no condition. -/
import Derived.Test.YtmhkmmmompediaaGreatCQ5
set_option linter.unusedVariables false
set_option linter.unusedSimpArgs false
/- cuts.subsets$1: the iterator over lists of places, whose one row turns between the rounds. -/
namespace Go.Proofs.YtmhkmmmompediaaGreat
open Go.RowKit

def intsA (s : List Nat) : Array Value := (s.map fun (x : Nat) => Value.int .i64 (x : Int)).toArray
theorem intsA_at {s : List Nat} {i x : Nat} (h : s[i]? = some x) : (intsA s)[i]? = some (.int .i64 (x : Int)) := by
  simp [intsA, h]
theorem lb_int : lfB Tryz.prog 3 = true := by kernel_rfl
theorem zc_int1 : zc Tryz.prog 3 = some #[.int .i64 0] := by kernel_rfl
def fillA (size i : Nat) : Array Value := ((List.range i).map (fun (x : Nat) => Value.int .i64 (x : Int)) ++ List.replicate (size - i) (Value.int .i64 0)).toArray
theorem fillA_size {size i : Nat} (h : i ≤ size) : (fillA size i).size = size := by simp [fillA]; omega
theorem fillA_step {size i : Nat} (h : i < size) : (fillA size i).setIfInBounds i (.int .i64 (i : Int)) = fillA size (i + 1) := by
  unfold fillA
  rw [List.setIfInBounds_toArray, List.set_append_right _ _ (by simp)]
  simp only [List.length_map, List.length_range, Nat.sub_self]
  obtain ⟨k, hk⟩ : ∃ k, size - i = k + 1 := ⟨size - i - 1, by omega⟩
  rw [hk, List.replicate_succ, List.set_cons_zero, List.range_succ, List.map_append, show size - (i + 1) = k by omega]
  simp
theorem fillA_put {size i : Nat} (h : i < size) : splice (fillA size i) (0 + i) [.int .i64 (i : Int)] = fillA size (i + 1) := by
  rw [Nat.zero_add, ← fillA_step h]
  simp only [splice]
theorem subs_one {n : Nat} (h3 : 3 ≤ n) (h5 : n ≤ 5) : subsF n n = [List.range n] := by
  have : n = 3 ∨ n = 4 ∨ n = 5 := by omega
  rcases this with rfl | rfl | rfl <;> decide +kernel
theorem fillA_all (size : Nat) : fillA size size = intsA (List.range size) := by simp [fillA, intsA]
theorem made_ints (n : Nat) : madeCells #[.int .i64 0] (n * 1) = fillA n 0 := by
  unfold madeCells fillA
  apply Array.ext
  · simp
  · intro i h1 h2
    simp [Nat.mod_one]

set_option maxRecDepth 100000 in
set_option maxHeartbeats 32000000 in
theorem it_one {w0 m0 W m : World} {Ls : List Lo} {l nr size n bs bn : Nat} (so : SubOk n size) (hns : n ≤ size) (hn : n ≤ 5) (h3 : 3 ≤ size) (h5 : size ≤ 5) (C : Nat → World → List Lo → Prop) (R : World → Prop)
    (hC : ∀ k m m' Ls, C k m Ls → Ext m m' → C k m' Ls) (hR : ∀ W W', R W → Still W W' → R W')
    (hbox : ∀ k m Ls, C k m Ls → m.cell? ⟨bs, 0, none⟩ = some (.int .i64 (size : Int)) ∧ m.cell? ⟨bn, 0, none⟩ = some (.int .i64 (n : Int)))
    (hY : ∀ k s g W m Ls, (subsF n size)[k]? = some s → Loc w0 m0 W m ((g, 3, intsA s) :: Ls) → C k m Ls → R W →
      YieldAt Fence.wide nr Tryz.prog l #[.slice (some ⟨g, 0, none⟩) size size] W fun e W' => e = .returned (.bool true) ∧ ∃ m' Ls', Loc w0 m0 W' m' ((g, 3, intsA s) :: Ls') ∧ C (k + 1) m' Ls' ∧ R W')
    (hL : Loc w0 m0 W m Ls) (h0 : C 0 m Ls) (hRW : R W) :
    Calls Tryz.prog 160 #[.func (.yield l) #[] #[], .pointer (some ⟨bs, 0, none⟩), .pointer (some ⟨bn, 0, none⟩)] W (fun e W' => (∃ v, e = .returned v) ∧ ∃ m' Ls', Loc w0 m0 W' m' Ls' ∧ C (subsF n size).length m' Ls' ∧ R W') := by
  obtain ⟨hc1, hc2⟩ := hbox _ _ _ h0
  have SO := Lib.hid so
  have HC := Lib.hid hC
  have HR := Lib.hid hR
  have HB := Lib.hid hbox
  have HY := Lib.hid hY
  have H0 := Lib.hid h0
  have HRW := Lib.hid hRW
  have HL0 := Lib.hid hL
  clear so hC hR hbox hY h0 hRW
  replace hL := Loc.start hL.vw
  go_enter Tryz.func160, Tryz.ntmps160
  by_cases hsn : n < size
  · have hsn' : (n : Int) < (size : Int) := by omega
    have HE : Hid (subsF n size = []) := SO.out.none hsn
    go_wp2_with (first | ((with_reducible refine kAny ?_); go_skip) | (with_reducible refine stA ?_) | ((first | refine tIx ?_ | refine tLd ?_ | ((first | refine tSr ?_ | refine tSt ?_); clear hL; intro _ hL; simp only [splice, zq1, zq2, zq3] at hL)); simp only [Act.put, zq1, zq2, zq3]))
    refine bodyPost_ret (results_none rfl _ _ _) rfl ?_
    refine ⟨⟨_, rfl⟩, _, _, HL0.out.join hL, ?_, HR.out _ _ HRW.out hL.ext.still⟩
    rw [HE.out]
    exact HC.out _ _ _ _ H0.out hL.mext
  · have hsn' : (size : Int) ≤ (n : Int) := by omega
    have HS1 : Hid ((subsF n size)[0]? = some (List.range size)) := SO.out.first (by omega)
    have hszb : size ≤ 1000000 := by omega
    go_wp2_with (first | (refine wl_make hL (wanted_none rfl) rfl ap_ints zc_int1 rfl hszb (by decide) ?_; clear hL; intro W1 m1 hL hX1; simp only [Act.put, zq1, zq2, zq3]) | (first | ((with_reducible refine kAny ?_); go_skip) | (with_reducible refine stA ?_) | ((first | refine tIx ?_ | refine tLd ?_ | ((first | refine tSr ?_ | refine tSt ?_); clear hL; intro _ hL; simp only [splice, zq1, zq2, zq3] at hL)); simp only [Act.put, zq1, zq2, zq3])))
    rw [made_ints] at hL
    go_loopw [15] (fun iv wr => ∃ (k : Nat) (mm : World), k ≤ size ∧ iv = .int .i64 k ∧ Loc W m wr mm [(W.heap.size, 3, fillA size k)]) (fun iv _ => size - (intOf iv).toNat)
    case atStart => exact ⟨0, m1, Nat.zero_le _, rfl, hL⟩
    case round =>
      clear hL
      obtain ⟨k, mm, hk, rfl, hL⟩ := hrel
      by_cases hlt : k < size
      · have hlt' : (k : Int) < (size : Int) := by omega
        have hfit : 0 + k < (fillA size k).size := by rw [fillA_size (by omega)]; omega
        have HF := Lib.hid (fillA_put hlt)
        go_wp2_with (first | (with_reducible refine stS ?_) | (first | ((with_reducible refine kAny ?_); go_skip) | (with_reducible refine stA ?_) | ((first | refine tIx ?_ | refine tLd ?_ | ((first | refine tSr ?_ | refine tSt ?_); clear hL; intro _ hL; simp only [splice, zq1, zq2, zq3] at hL)); simp only [Act.put, zq1, zq2, zq3])))
        refine goA ?_
        refine wl_store1S hL (wanted_none rfl) (v := .int .i64 (k : Int)) (off := 0 + k) rfl rfl rfl lb_int (n := 0) rfl hfit rfl rfl ?_
        clear hL
        intro W5 hL hS5
        simp only [List.set_cons_zero] at hL
        rw [HF.out] at hL
        simp only [Act.put, zq1, zq2, zq3]
        go_wp2_with (first | ((with_reducible refine kAny ?_); go_skip) | (with_reducible refine stA ?_) | ((first | refine tIx ?_ | refine tLd ?_ | ((first | refine tSr ?_ | refine tSt ?_); clear hL; intro _ hL; simp only [splice, zq1, zq2, zq3] at hL)); simp only [Act.put, zq1, zq2, zq3]))
        go_roundw
        case rel => exact ⟨k + 1, _, by omega, by go_num, hL⟩
        case measure => simp [intOf] <;> omega
      · have hks : k = size := by omega
        have hnk : n = size := by omega
        subst hks
        subst hnk
        have h9 : (n : Int) ≤ (n : Int) := Int.le_refl _
        go_wp2_with (first | ((with_reducible refine kAny ?_); go_skip) | (with_reducible refine stA ?_) | ((first | refine tIx ?_ | refine tLd ?_ | ((first | refine tSr ?_ | refine tSt ?_); clear hL; intro _ hL; simp only [splice, zq1, zq2, zq3] at hL)); simp only [Act.put, zq1, zq2, zq3]))
        have HC1 : Hid (C 0 mm Ls) := HC.out _ _ _ _ H0.out hL.mext
        have HR1 : Hid (R wr) := HR.out _ _ HRW.out hL.ext.still
        replace hL := HL0.out.join hL
        rw [fillA_all, List.singleton_append] at hL
        clear HL0 H0 HRW hc1 hc2
        generalize W.heap.size = g at *
        have HS0 : Hid ((subsF n n).length = 1) := by show _ = _; rw [subs_one h3 h5]; rfl
        refine wp_loop_once ?_
        go_upto_region 7 with ((first | ((with_reducible refine kAny ?_); go_skip) | (with_reducible refine stA ?_) | ((first | refine tIx ?_ | refine tLd ?_ | ((first | refine tSr ?_ | refine tSt ?_); clear hL; intro _ hL; simp only [splice, zq1, zq2, zq3] at hL)); simp only [Act.put, zq1, zq2, zq3])))
        refine (wpIn_wide (n := nr + 1)).1 ?_
        obtain ⟨fn, tmps, assign, body, hyl, hrd⟩ := HY.out 0 _ g wr mm Ls HS1.out hL HC1.out HR1.out
        gi_wp2
        refine hrd.mono ?_
        rintro e W3 ⟨rfl, m3, L3, hL3, hC3, hR3⟩
        clear hrd hyl
        obtain ⟨hc1, hc2⟩ := HB.out _ _ _ hC3
        have hBg : Blk W3 g 3 (intsA (List.range n)) := hL3.at_ (n := 0) rfl
        have HL3 := Lib.hid hL3
        have HC3 := Lib.hid hC3
        have HR3 := Lib.hid hR3
        clear hL HC1 HR1 HS1
        have hL := Loc.start hL3.vw
        clear hL3 hC3 hR3
        dsimp only
        gi_step
        refine wpListIn_nil ?_
        go_wp2_with (first | ((with_reducible refine kAny ?_); go_skip) | (with_reducible refine stA ?_) | ((first | refine tIx ?_ | refine tLd ?_ | ((first | refine tSr ?_ | refine tSt ?_); clear hL; intro _ hL; simp only [splice, zq1, zq2, zq3] at hL)); simp only [Act.put, zq1, zq2, zq3]))
        go_loopw [6] (fun iv wr => ∃ (p : Nat) (z : Int) (m4 : World), p ≤ n ∧ z = (p : Int) - 1 ∧ iv = .int .i64 z ∧ Loc W3 m3 wr m4 []) (fun iv _ => (intOf iv + 1).toNat)
        case atStart => exact ⟨n, (n : Int) - 1, _, Nat.le_refl _, rfl, by go_num, hL⟩
        case round =>
          clear hL
          obtain ⟨p, z, m4, hp, hz, rfl, hL⟩ := hrel
          have hM := hL.mext
          by_cases hp0 : p = 0
          · obtain rfl : z = -1 := by omega
            clear hz hp0 hp
            go_upto_region 9 with ((first | ((with_reducible refine kAny ?_); go_skip) | (with_reducible refine stA ?_) | ((first | refine tIx ?_ | refine tLd ?_ | ((first | refine tSr ?_ | refine tSt ?_); clear hL; intro _ hL; simp only [splice, zq1, zq2, zq3] at hL)); simp only [Act.put, zq1, zq2, zq3])))
            refine wp_region_by2 14 [false, false, false, false, false, false, false, false, false, false, false, false, false, false] [false, false, false, false, false, false, false, false, false, false, false, false, false, false] [(fun v _ _ => v = ?c9_0a), (fun v _ _ => v = ?c9_1a), (fun v _ _ => v = ?c9_2a), (fun v _ _ => v = ?c9_3a), (fun v _ _ => v = ?c9_4a), (fun v _ _ => v = ?c9_5a), (fun v _ _ => v = ?c9_6a), (fun v _ _ => v = ?c9_7a), (fun v _ _ => v = ?c9_8a), (fun v _ _ => v = ?c9_9a), (fun v _ _ => v = ?c9_10a), (fun v _ _ => v = ?c9_11a), (fun v _ _ => v = ?c9_12a), (fun v _ _ => v = ?c9_13a)] hL.vw mixed [28, 29, 30, 31, 32, 33, 34, 35, 36, 37, 38, 39, 40, 41] _ (by kernel_rfl) (fun vs => by simp only [lay, Act.put, zq1, zq2, zq3]; rfl) (by kernel_rfl) (by decide) (by decide) ?s9a ?l9a ?r9a
            case s9a =>
              refine ⟨?_, ?_, ?_, ?_, ?_, ?_, ?_, ?_, ?_, ?_, ?_, ?_, ?_, ?_, trivial⟩
              · intro vs W1 m1 hE hM hV hD; clear hD; replace hL := hL.call hE hM hV
                exact sPu
              · intro vs W1 m1 hE hM hV hD; obtain ⟨⟨_, _, -, -, f28⟩, -⟩ := hD; have f28 : vs 28 = _ := f28; generalize vs 28 = x28 at f28 ⊢; subst x28; replace hL := hL.call hE hM hV
                exact sPu
              · intro vs W1 m1 hE hM hV hD; obtain ⟨⟨_, _, -, -, f29⟩, -⟩ := hD; have f29 : vs 29 = _ := f29; generalize vs 29 = x29 at f29 ⊢; subst x29; replace hL := hL.call hE hM hV
                exact sPu
              · intro vs W1 m1 hE hM hV hD; obtain ⟨⟨_, _, -, -, f30⟩, -⟩ := hD; have f30 : vs 30 = _ := f30; generalize vs 30 = x30 at f30 ⊢; subst x30; replace hL := hL.call hE hM hV
                exact sPu
              · intro vs W1 m1 hE hM hV hD; obtain ⟨⟨_, _, -, -, f30⟩, -⟩ := hD; have f30 : vs 30 = _ := f30; generalize vs 30 = x30 at f30 ⊢; subst x30; replace hL := hL.call hE hM hV
                exact sPu
              · intro vs W1 m1 hE hM hV hD; obtain ⟨⟨_, _, -, -, f31⟩, ⟨_, _, -, -, f32⟩, ⟨_, _, -, -, f30⟩, -⟩ := hD; have f31 : vs 31 = _ := f31; generalize vs 31 = x31 at f31 ⊢; subst x31; have f32 : vs 32 = _ := f32; generalize vs 32 = x32 at f32 ⊢; subst x32; have f30 : vs 30 = _ := f30; generalize vs 30 = x30 at f30 ⊢; subst x30; replace hL := hL.call hE hM hV
                exact sPu
              · intro vs W1 m1 hE hM hV hD; obtain ⟨⟨_, _, -, -, f33⟩, ⟨_, _, -, -, f30⟩, -⟩ := hD; have f33 : vs 33 = _ := f33; generalize vs 33 = x33 at f33 ⊢; subst x33; have f30 : vs 30 = _ := f30; generalize vs 30 = x30 at f30 ⊢; subst x30; replace hL := hL.call hE hM hV
                exact sPu
              · intro vs W1 m1 hE hM hV hD; obtain ⟨⟨_, _, -, -, f30⟩, -⟩ := hD; have f30 : vs 30 = _ := f30; generalize vs 30 = x30 at f30 ⊢; subst x30; replace hL := hL.call hE hM hV
                exact sPu
              · intro vs W1 m1 hE hM hV hD; obtain ⟨⟨_, _, -, -, f30⟩, -⟩ := hD; have f30 : vs 30 = _ := f30; generalize vs 30 = x30 at f30 ⊢; subst x30; replace hL := hL.call hE hM hV
                exact sPu
              · intro vs W1 m1 hE hM hV hD; obtain ⟨⟨_, _, -, -, f35⟩, ⟨_, _, -, -, f36⟩, ⟨_, _, -, -, f30⟩, -⟩ := hD; have f35 : vs 35 = _ := f35; generalize vs 35 = x35 at f35 ⊢; subst x35; have f36 : vs 36 = _ := f36; generalize vs 36 = x36 at f36 ⊢; subst x36; have f30 : vs 30 = _ := f30; generalize vs 30 = x30 at f30 ⊢; subst x30; replace hL := hL.call hE hM hV
                exact sPu
              · intro vs W1 m1 hE hM hV hD; obtain ⟨⟨_, _, -, -, f30⟩, -⟩ := hD; have f30 : vs 30 = _ := f30; generalize vs 30 = x30 at f30 ⊢; subst x30; replace hL := hL.call hE hM hV
                exact sPu
              · intro vs W1 m1 hE hM hV hD; obtain ⟨⟨_, _, -, -, f37⟩, ⟨_, _, -, -, f38⟩, ⟨_, _, -, -, f30⟩, -⟩ := hD; have f37 : vs 37 = _ := f37; generalize vs 37 = x37 at f37 ⊢; subst x37; have f38 : vs 38 = _ := f38; generalize vs 38 = x38 at f38 ⊢; subst x38; have f30 : vs 30 = _ := f30; generalize vs 30 = x30 at f30 ⊢; subst x30; replace hL := hL.call hE hM hV
                exact sPu
              · intro vs W1 m1 hE hM hV hD; obtain ⟨⟨_, _, -, -, f34⟩, ⟨_, _, -, -, f39⟩, ⟨_, _, -, -, f30⟩, -⟩ := hD; have f34 : vs 34 = _ := f34; generalize vs 34 = x34 at f34 ⊢; subst x34; have f39 : vs 39 = _ := f39; generalize vs 39 = x39 at f39 ⊢; subst x39; have f30 : vs 30 = _ := f30; generalize vs 30 = x30 at f30 ⊢; subst x30; replace hL := hL.call hE hM hV
                exact sPu
              · intro vs W1 m1 hE hM hV hD; obtain ⟨⟨_, _, -, -, f30⟩, ⟨_, _, -, -, f40⟩, -⟩ := hD; have f30 : vs 30 = _ := f30; generalize vs 30 = x30 at f30 ⊢; subst x30; have f40 : vs 40 = _ := f40; generalize vs 40 = x40 at f40 ⊢; subst x40; replace hL := hL.call hE hM hV
                exact sPu
            case l9a =>
              refine ⟨fun h => (by cases h), fun h => (by cases h), fun h => (by cases h), fun h => (by cases h), fun h => (by cases h), fun h => (by cases h), fun h => (by cases h), fun h => (by cases h), fun h => (by cases h), fun h => (by cases h), fun h => (by cases h), fun h => (by cases h), fun h => (by cases h), fun h => (by cases h), trivial⟩
            intro vs W1 m1 hE hM hV hF hD
            clear hD
            obtain ⟨⟨_, _, -, -, f28⟩, ⟨_, _, -, -, f29⟩, ⟨_, _, -, -, f30⟩, ⟨_, _, -, -, f31⟩, ⟨_, _, -, -, f32⟩, ⟨_, _, -, -, f33⟩, ⟨_, _, -, -, f34⟩, ⟨_, _, -, -, f35⟩, ⟨_, _, -, -, f36⟩, ⟨_, _, -, -, f37⟩, ⟨_, _, -, -, f38⟩, ⟨_, _, -, -, f39⟩, ⟨_, _, -, -, f40⟩, ⟨_, _, -, -, f41⟩, -⟩ := hF
            replace hL := hL.call hE hM hV
            have f28 : vs 28 = _ := f28
            generalize vs 28 = x28 at f28 ⊢
            subst x28
            have f29 : vs 29 = _ := f29
            generalize vs 29 = x29 at f29 ⊢
            subst x29
            have f30 : vs 30 = _ := f30
            generalize vs 30 = x30 at f30 ⊢
            subst x30
            have f31 : vs 31 = _ := f31
            generalize vs 31 = x31 at f31 ⊢
            subst x31
            have f32 : vs 32 = _ := f32
            generalize vs 32 = x32 at f32 ⊢
            subst x32
            have f33 : vs 33 = _ := f33
            generalize vs 33 = x33 at f33 ⊢
            subst x33
            have f34 : vs 34 = _ := f34
            generalize vs 34 = x34 at f34 ⊢
            subst x34
            have f35 : vs 35 = _ := f35
            generalize vs 35 = x35 at f35 ⊢
            subst x35
            have f36 : vs 36 = _ := f36
            generalize vs 36 = x36 at f36 ⊢
            subst x36
            have f37 : vs 37 = _ := f37
            generalize vs 37 = x37 at f37 ⊢
            subst x37
            have f38 : vs 38 = _ := f38
            generalize vs 38 = x38 at f38 ⊢
            subst x38
            have f39 : vs 39 = _ := f39
            generalize vs 39 = x39 at f39 ⊢
            subst x39
            have f40 : vs 40 = _ := f40
            generalize vs 40 = x40 at f40 ⊢
            subst x40
            have f41 : vs 41 = _ := f41
            generalize vs 41 = x41 at f41 ⊢
            subst x41
            clear hE hV
            simp only [List.drop_succ_cons, List.drop_zero]
            go_wp2_with (first | ((with_reducible refine kAny ?_); go_skip) | (with_reducible refine stA ?_) | ((first | refine tIx ?_ | refine tLd ?_ | ((first | refine tSr ?_ | refine tSt ?_); clear hL; intro _ hL; simp only [splice, zq1, zq2, zq3] at hL)); simp only [Act.put, zq1, zq2, zq3]))
            refine QN.mk ?_
            go_wp2_with (first | ((with_reducible refine kAny ?_); go_skip) | (with_reducible refine stA ?_) | ((first | refine tIx ?_ | refine tLd ?_ | ((first | refine tSr ?_ | refine tSt ?_); clear hL; intro _ hL; simp only [splice, zq1, zq2, zq3] at hL)); simp only [Act.put, zq1, zq2, zq3]))
            refine bodyPost_ret (results_none rfl _ _ _) rfl ?_
            refine ⟨⟨_, rfl⟩, _, _, (HL3.out.join hL).tail, ?_, HR.out _ _ HR3.out hL.ext.still⟩
            rw [HS0.out]
            exact HC.out _ _ _ _ HC3.out hL.mext
          · obtain ⟨p1, rfl⟩ : ∃ p1, p = p1 + 1 := ⟨p - 1, by omega⟩
            obtain rfl : z = (p1 : Int) := by omega
            have hpn : p1 < n := by omega
            have hge : (0 : Int) ≤ (p1 : Int) := by omega
            have hcell : (intsA (List.range n))[0 + p1]? = some (.int .i64 (p1 : Int)) := by rw [Nat.zero_add]; exact intsA_at (List.getElem?_range hpn)
            clear hz hp0
            go_upto_region 9 with ((first | ((with_reducible refine kAny ?_); go_skip) | (with_reducible refine stA ?_) | ((first | refine tIx ?_ | refine tLd ?_ | ((first | refine tSr ?_ | refine tSt ?_); clear hL; intro _ hL; simp only [splice, zq1, zq2, zq3] at hL)); simp only [Act.put, zq1, zq2, zq3])))
            refine wp_region_by2 14 [false, false, false, false, false, false, false, false, false, false, false, false, false, false] [false, false, false, false, false, false, false, false, false, false, false, false, false, false] [(fun v _ _ => v = ?c9_0b), (fun v _ _ => v = ?c9_1b), (fun v _ _ => v = ?c9_2b), (fun v _ _ => v = ?c9_3b), (fun v _ _ => v = ?c9_4b), (fun v _ _ => v = ?c9_5b), Is (.int .i64 (p1 : Int)), (fun v _ _ => v = ?c9_7b), (fun v _ _ => v = ?c9_8b), (fun v _ _ => v = ?c9_9b), (fun v _ _ => v = ?c9_10b), (fun v _ _ => v = ?c9_11b), (fun v _ _ => v = ?c9_12b), (fun v _ _ => v = ?c9_13b)] hL.vw mixed [28, 29, 30, 31, 32, 33, 34, 35, 36, 37, 38, 39, 40, 41] _ (by kernel_rfl) (fun vs => by simp only [lay, Act.put, zq1, zq2, zq3]; rfl) (by kernel_rfl) (by decide) (by decide) ?s9b ?l9b ?r9b
            case s9b =>
              refine ⟨?_, ?_, ?_, ?_, ?_, ?_, ?_, ?_, ?_, ?_, ?_, ?_, ?_, ?_, trivial⟩
              · intro vs W1 m1 hE hM hV hD; clear hD; replace hL := hL.call hE hM hV
                exact sPu
              · intro vs W1 m1 hE hM hV hD; obtain ⟨⟨_, _, -, -, f28⟩, -⟩ := hD; have f28 : vs 28 = _ := f28; generalize vs 28 = x28 at f28 ⊢; subst x28; replace hL := hL.call hE hM hV
                exact sPu
              · intro vs W1 m1 hE hM hV hD; obtain ⟨⟨_, _, -, -, f29⟩, -⟩ := hD; have f29 : vs 29 = _ := f29; generalize vs 29 = x29 at f29 ⊢; subst x29; replace hL := hL.call hE hM hV
                exact sPu
              · intro vs W1 m1 hE hM hV hD; obtain ⟨⟨_, _, -, -, f30⟩, -⟩ := hD; have f30 : vs 30 = _ := f30; generalize vs 30 = x30 at f30 ⊢; subst x30; replace hL := hL.call hE hM hV
                exact sPu
              · intro vs W1 m1 hE hM hV hD; obtain ⟨⟨_, _, -, -, f30⟩, -⟩ := hD; have f30 : vs 30 = _ := f30; generalize vs 30 = x30 at f30 ⊢; subst x30; replace hL := hL.call hE hM hV
                exact sPu
              · intro vs W1 m1 hE hM hV hD; obtain ⟨⟨_, _, -, -, f31⟩, ⟨_, _, -, -, f32⟩, ⟨_, _, -, -, f30⟩, -⟩ := hD; have f31 : vs 31 = _ := f31; generalize vs 31 = x31 at f31 ⊢; subst x31; have f32 : vs 32 = _ := f32; generalize vs 32 = x32 at f32 ⊢; subst x32; have f30 : vs 30 = _ := f30; generalize vs 30 = x30 at f30 ⊢; subst x30; replace hL := hL.call hE hM hV
                exact sIx
              · intro vs W1 m1 hE hM hV hD; obtain ⟨⟨_, _, -, -, f33⟩, ⟨_, _, -, -, f30⟩, -⟩ := hD; have f33 : vs 33 = _ := f33; generalize vs 33 = x33 at f33 ⊢; subst x33; have f30 : vs 30 = _ := f30; generalize vs 30 = x30 at f30 ⊢; subst x30
                (replace hL := hL.call hE hM hV; refine wl_loadB hL (by first | exact wanted_none rfl | exact wanted_some rfl rfl rfl rfl) rfl rfl lb_int hBg hcell ?_; simp only [Act.put, zq1, zq2, zq3]; refine One2.still hV ?_; exact rfl)
              · intro vs W1 m1 hE hM hV hD; obtain ⟨⟨_, _, -, -, f30⟩, -⟩ := hD; have f30 : vs 30 = _ := f30; generalize vs 30 = x30 at f30 ⊢; subst x30; replace hL := hL.call hE hM hV
                exact sLd
              · intro vs W1 m1 hE hM hV hD; obtain ⟨⟨_, _, -, -, f30⟩, -⟩ := hD; have f30 : vs 30 = _ := f30; generalize vs 30 = x30 at f30 ⊢; subst x30; replace hL := hL.call hE hM hV
                exact sLd
              · intro vs W1 m1 hE hM hV hD; obtain ⟨⟨_, _, -, -, f35⟩, ⟨_, _, -, -, f36⟩, ⟨_, _, -, -, f30⟩, -⟩ := hD; have f35 : vs 35 = _ := f35; generalize vs 35 = x35 at f35 ⊢; subst x35; have f36 : vs 36 = _ := f36; generalize vs 36 = x36 at f36 ⊢; subst x36; have f30 : vs 30 = _ := f30; generalize vs 30 = x30 at f30 ⊢; subst x30; replace hL := hL.call hE hM hV
                exact sPu
              · intro vs W1 m1 hE hM hV hD; obtain ⟨⟨_, _, -, -, f30⟩, -⟩ := hD; have f30 : vs 30 = _ := f30; generalize vs 30 = x30 at f30 ⊢; subst x30; replace hL := hL.call hE hM hV
                exact sPu
              · intro vs W1 m1 hE hM hV hD; obtain ⟨⟨_, _, -, -, f37⟩, ⟨_, _, -, -, f38⟩, ⟨_, _, -, -, f30⟩, -⟩ := hD; have f37 : vs 37 = _ := f37; generalize vs 37 = x37 at f37 ⊢; subst x37; have f38 : vs 38 = _ := f38; generalize vs 38 = x38 at f38 ⊢; subst x38; have f30 : vs 30 = _ := f30; generalize vs 30 = x30 at f30 ⊢; subst x30; replace hL := hL.call hE hM hV
                exact sPu
              · intro vs W1 m1 hE hM hV hD; obtain ⟨⟨_, _, -, -, f34⟩, ⟨_, _, -, -, f39⟩, ⟨_, _, -, -, f30⟩, -⟩ := hD; have f34 : vs 34 = _ := f34; generalize vs 34 = x34 at f34 ⊢; subst x34; have f39 : vs 39 = _ := f39; generalize vs 39 = x39 at f39 ⊢; subst x39; have f30 : vs 30 = _ := f30; generalize vs 30 = x30 at f30 ⊢; subst x30; replace hL := hL.call hE hM hV
                exact sPu
              · intro vs W1 m1 hE hM hV hD; obtain ⟨⟨_, _, -, -, f30⟩, ⟨_, _, -, -, f40⟩, -⟩ := hD; have f30 : vs 30 = _ := f30; generalize vs 30 = x30 at f30 ⊢; subst x30; have f40 : vs 40 = _ := f40; generalize vs 40 = x40 at f40 ⊢; subst x40; replace hL := hL.call hE hM hV
                exact sPu
            case l9b =>
              refine ⟨fun h => (by cases h), fun h => (by cases h), fun h => (by cases h), fun h => (by cases h), fun h => (by cases h), fun h => (by cases h), fun h => (by cases h), fun h => (by cases h), fun h => (by cases h), fun h => (by cases h), fun h => (by cases h), fun h => (by cases h), fun h => (by cases h), fun h => (by cases h), trivial⟩
            intro vs W1 m1 hE hM hV hF hD
            clear hD
            obtain ⟨⟨_, _, -, -, f28⟩, ⟨_, _, -, -, f29⟩, ⟨_, _, -, -, f30⟩, ⟨_, _, -, -, f31⟩, ⟨_, _, -, -, f32⟩, ⟨_, _, -, -, f33⟩, ⟨_, _, -, -, f34⟩, ⟨_, _, -, -, f35⟩, ⟨_, _, -, -, f36⟩, ⟨_, _, -, -, f37⟩, ⟨_, _, -, -, f38⟩, ⟨_, _, -, -, f39⟩, ⟨_, _, -, -, f40⟩, ⟨_, _, -, -, f41⟩, -⟩ := hF
            replace hL := hL.call hE hM hV
            have f28 : vs 28 = _ := f28
            generalize vs 28 = x28 at f28 ⊢
            subst x28
            have f29 : vs 29 = _ := f29
            generalize vs 29 = x29 at f29 ⊢
            subst x29
            have f30 : vs 30 = _ := f30
            generalize vs 30 = x30 at f30 ⊢
            subst x30
            have f31 : vs 31 = _ := f31
            generalize vs 31 = x31 at f31 ⊢
            subst x31
            have f32 : vs 32 = _ := f32
            generalize vs 32 = x32 at f32 ⊢
            subst x32
            have f33 : vs 33 = _ := f33
            generalize vs 33 = x33 at f33 ⊢
            subst x33
            have f34 : vs 34 = _ := f34
            generalize vs 34 = x34 at f34 ⊢
            subst x34
            have f35 : vs 35 = _ := f35
            generalize vs 35 = x35 at f35 ⊢
            subst x35
            have f36 : vs 36 = _ := f36
            generalize vs 36 = x36 at f36 ⊢
            subst x36
            have f37 : vs 37 = _ := f37
            generalize vs 37 = x37 at f37 ⊢
            subst x37
            have f38 : vs 38 = _ := f38
            generalize vs 38 = x38 at f38 ⊢
            subst x38
            have f39 : vs 39 = _ := f39
            generalize vs 39 = x39 at f39 ⊢
            subst x39
            have f40 : vs 40 = _ := f40
            generalize vs 40 = x40 at f40 ⊢
            subst x40
            have f41 : vs 41 = _ := f41
            generalize vs 41 = x41 at f41 ⊢
            subst x41
            clear hE hV
            simp only [List.drop_succ_cons, List.drop_zero]
            go_wp2_with (first | ((with_reducible refine kAny ?_); go_skip) | (with_reducible refine stA ?_) | ((first | refine tIx ?_ | refine tLd ?_ | ((first | refine tSr ?_ | refine tSt ?_); clear hL; intro _ hL; simp only [splice, zq1, zq2, zq3] at hL)); simp only [Act.put, zq1, zq2, zq3]))
            refine QN.mk ?_
            go_wp2_with (first | ((with_reducible refine kAny ?_); go_skip) | (with_reducible refine stA ?_) | ((first | refine tIx ?_ | refine tLd ?_ | ((first | refine tSr ?_ | refine tSt ?_); clear hL; intro _ hL; simp only [splice, zq1, zq2, zq3] at hL)); simp only [Act.put, zq1, zq2, zq3]))
            go_roundw
            case rel => exact ⟨p1, (p1 : Int) - 1, _, by omega, rfl, by go_num, hL⟩
            case measure => simp [intOf] <;> omega
end Go.Proofs.YtmhkmmmompediaaGreat

/- cuts.subsets: the closure and what it has captured. -/
namespace Go.Proofs.YtmhkmmmompediaaGreat
open Go.RowKit

set_option maxRecDepth 100000 in
set_option maxHeartbeats 16000000 in
theorem u_subsets (n size : Int) (w m : World) (hV : Vw m w) : Calls Tryz.prog 101 #[.int .i64 n, .int .i64 size] w (RetV w m fun m' r => ∃ bs bn, r = .func (.func 160) #[] #[.pointer (some ⟨bs, 0, none⟩), .pointer (some ⟨bn, 0, none⟩)] ∧ m'.cell? ⟨bs, 0, none⟩ = some (.int .i64 size) ∧ m'.cell? ⟨bn, 0, none⟩ = some (.int .i64 n)) := by
  have hL := Loc.start hV
  clear hV
  go_enter Tryz.func101, Tryz.ntmps101
  go_upto_region 0 with (fail)
  refine wp_region_lit ?_
  refine wl_box1 hL (wanted_none rfl) rfl rfl rfl ?_
  clear hL
  intro W2 m2 hL e2
  simp only [Act.put, zq1, zq2, zq3]
  refine wl_box1 hL (wanted_none rfl) rfl rfl rfl ?_
  clear hL
  intro W3 m3 hL e3
  simp only [Act.put, zq1, zq2, zq3]
  obtain ⟨m4, hL4, hle4, hsl4⟩ := Loc.show1 (A := [(_, _, _)]) hL 1
  have h4 := hsl4.cell (j := 0) rfl
  obtain ⟨m5, hL5, hle5, hsl5⟩ := Loc.show1 (A := []) hL4 1
  have h5 := hsl5.cell (j := 0) rfl
  have h4' := hle5.cell _ _ h4
  clear hL hL4 hsl4 hsl5 h4
  have hL := hL5
  clear hL5
  have H4 := Lib.hid h4'
  have H5 := Lib.hid h5
  clear h4' h5
  go_wp2_with (first | ((with_reducible refine kAny ?_); go_skip) | (with_reducible refine stA ?_) | ((first | (refine tBx ?_; clear hL; intro _ _ hL _)); simp only [Act.put, zq1, zq2, zq3]))
  go_ret
  exact RetV.mk hL ⟨_, _, rfl, H5.out, H4.out⟩
end Go.Proofs.YtmhkmmmompediaaGreat

/- cuts.Separate: sizes out of range; what is found. -/
namespace Go.Proofs.YtmhkmmmompediaaGreat
open Go.RowKit

theorem Sl.range {m : World} {g : Nat} {cs : List Value} (h : Sl m (some ⟨g, 0, none⟩) cs) : m.rangeAt g 0 cs := by
  intro j v hj
  rw [Nat.zero_add]
  exact h.cell hj

def cutS (ms : Ms) (d : Nat) (s : List Nat) : Cut := (rowsS ms.rows s, (d : Int))
def fndS (ms : Ms) (us : List Rat) (d : Nat) (fs : List Can) (s : List Nat) : List Can :=
  if vioF (cutS ms d s) ms.cols us ≤ 0 then fs else if cutS ms d s ∈ ms.cuts then fs else fs ++ [(cutS ms d s, vioF (cutS ms d s) ms.cols us)]
def fndT (ms : Ms) (us : List Rat) (sz d : Nat) (k : Nat) : List Can := ((subsF ms.rows.length sz).take k).foldl (fndS ms us d) []
def fndF (ms : Ms) (us : List Rat) (sz d : Nat) : List Can := fndT ms us sz d (subsF ms.rows.length sz).length
def sepF (ms : Ms) (us : List Rat) (sz d most : Nat) : List Cut := ((srtC (fndF ms us sz d)).map Prod.fst).take most
theorem fndT_step {ms : Ms} {us : List Rat} {sz d k : Nat} {s : List Nat} (h : (subsF ms.rows.length sz)[k]? = some s) : fndT ms us sz d (k + 1) = fndS ms us d (fndT ms us sz d k) s := by
  unfold fndT; rw [← take_snoc h, List.foldl_append]; rfl
theorem fndS_len (ms : Ms) (us : List Rat) (d : Nat) (fs : List Can) (s : List Nat) : (fndS ms us d fs s).length ≤ fs.length + 1 := by
  unfold fndS
  split
  · omega
  · split
    · omega
    · simp
theorem fndT_len (ms : Ms) (us : List Rat) (sz d : Nat) : ∀ k, (fndT ms us sz d k).length ≤ k
  | 0 => Nat.le_refl _
  | k + 1 => by
    have ih := fndT_len ms us sz d k
    cases hk : (subsF ms.rows.length sz)[k]? with
    | none =>
      have h1 := List.getElem?_eq_none_iff.1 hk
      have e : fndT ms us sz d (k + 1) = fndT ms us sz d k := by unfold fndT; rw [List.take_of_length_le (by omega), List.take_of_length_le (by omega)]
      rw [e]; omega
    | some s =>
      rw [fndT_step hk]
      have := fndS_len ms us d (fndT ms us sz d k) s
      omega
end Go.Proofs.YtmhkmmmompediaaGreat

/- The master problem of pairinglaw29.known: the plain law. -/
namespace Go.Proofs.YtmhkmmmompediaaGreat
open Go.RowKit

def knC (a b : Int) : Col := (⟨#[]⟩, [[(a, false), (b, false)]], 0)
def knM : Ms := ⟨3, [0, 1, 2], 10, [knC 0 1, knC 1 2, knC 2 0], []⟩
def knU : List Rat := [halfR, halfR, halfR]
theorem knC_ok {a b : Int} (h : (a = 0 ∧ b = 1) ∨ (a = 1 ∧ b = 2) ∨ (a = 2 ∧ b = 0)) : ColOk [0, 1, 2] (knC a b) := by
  rcases h with ⟨rfl, rfl⟩ | ⟨rfl, rfl⟩ | ⟨rfl, rfl⟩ <;> exact ⟨by decide, by decide, by decide, by decide, by decide, by decide, by decide⟩
theorem knM_ok : MsOk knM := by
  refine ⟨by decide, by decide, by decide, by decide, by decide, by decide, ?_, by decide, by decide, ?_, by decide, ?_⟩
  · intro j x y hx hy
    rcases j with _ | _ | j
    · cases hx; cases hy; decide
    · cases hx; cases hy; decide
    · rcases j with _ | j
      · cases hy
      · cases hy
  · intro c hc
    rcases List.mem_cons.1 hc with rfl | hc
    · exact knC_ok (by decide)
    · rcases List.mem_cons.1 hc with rfl | hc
      · exact knC_ok (by decide)
      · rw [List.mem_singleton.1 hc]; exact knC_ok (by decide)
  · intro c hc; cases hc
theorem tw_half : Tw 18 halfR := half_tw.mono (by decide)
theorem knV_ok : VOk knM knU := by
  refine ⟨knM_ok, rfl, fun v hv => ?_, by decide⟩
  rcases List.mem_cons.1 hv with rfl | hv
  · exact tw_half
  · rcases List.mem_cons.1 hv with rfl | hv
    · exact tw_half
    · rw [List.mem_singleton.1 hv]; exact tw_half
theorem kn_vio : vioF ([0, 1, 2], 2) knM.cols knU = halfR := by decide +kernel
theorem kn_sep : sepF knM knU 3 2 10 = [([0, 1, 2], 2)] := by decide +kernel
theorem kn_cut : cutB knM.rows ([0, 1, 2], 2) = true := by decide +kernel
end Go.Proofs.YtmhkmmmompediaaGreat

/- pairinglaw29.half; a new slice in a drawn region, shown at once. -/
namespace Go.Proofs.YtmhkmmmompediaaGreat
open Go.RowKit

theorem one2_new {a : Act} {dst : Option Nat} {W1 m1 : World} {e : TypeId} {R : World → Value → Prop} {cs : Array Value} {n : Nat} (hV : Vw m1 W1) (hR : ∀ m', Ext m1 m' → Blk m' W1.heap.size e cs → R m' (.slice (some ⟨W1.heap.size, 0, none⟩) n n)) :
    One2 (Of R) false a dst W1 m1 .normal (a.put dst (.slice (some ⟨W1.heap.size, 0, none⟩) n n)) (W1.alloc (.cells cs e)) := by
  have h := (Loc.start hV).allocV cs e
  refine ⟨rfl, h.ext, _, _, h.mext, h.vw, rfl, hR _ h.mext ?_, fun h => by cases h⟩
  rw [← hV.size]
  exact Blk.new m1 e cs

set_option maxRecDepth 100000 in
set_option maxHeartbeats 16000000 in
theorem k_half (w m : World) (hV : Vw m w) : Calls Tryz.prog 95 #[] w (RetV w m fun m' r => FracC m' r halfR) := by
  have hL := Loc.start hV
  clear hV
  go_enter Tryz.func95, Tryz.ntmps95
  go_wp2_with (first | ((with_reducible refine kAny ?_); go_skip) | (with_reducible refine stA ?_) | ((first | ((first | refine tSr ?_ | refine tSt ?_); clear hL; intro _ hL; simp only [splice, zq1, zq2, zq3] at hL) | (refine tAl ?_; clear hL; intro _ _ hL _)); simp only [Act.put, zq1, zq2, zq3]))
  refine (r_Int 1 _ _ hL.vw (by decide) (by decide)).mono ?_
  rintro e Wc1 ⟨vc1, mc1, rfl, hE, hMc1, hV, hc1⟩
  replace hL := hL.call hE (by assumption) hV; clear hE hV
  obtain ⟨gc1', Ac1', nc1', cc1', hc1', Bc1', kc1', dc1', rfl, hc1⟩ := hc1.lit
  go_wp2_with (first | ((with_reducible refine kAny ?_); go_skip) | (with_reducible refine stA ?_) | ((first | ((first | refine tSr ?_ | refine tSt ?_); clear hL; intro _ hL; simp only [splice, zq1, zq2, zq3] at hL) | (refine tAl ?_; clear hL; intro _ _ hL _)); simp only [Act.put, zq1, zq2, zq3]))
  refine (r_Int 2 _ _ hL.vw (by decide) (by decide)).mono ?_
  rintro e Wc2 ⟨vc2, mc2, rfl, hE, hMc2, hV, hc2⟩
  replace hL := hL.call hE (by assumption) hV; clear hE hV
  obtain ⟨gc2', Ac2', nc2', cc2', hc2', Bc2', kc2', dc2', rfl, hc2⟩ := hc2.lit
  go_wp2_with (first | ((with_reducible refine kAny ?_); go_skip) | (with_reducible refine stA ?_) | ((first | ((first | refine tSr ?_ | refine tSt ?_); clear hL; intro _ hL; simp only [splice, zq1, zq2, zq3] at hL) | (refine tAl ?_; clear hL; intro _ _ hL _)); simp only [Act.put, zq1, zq2, zq3]))
  refine (r_DivC _ _ _ _ _ _ hL.vw (hc1.le leX) hc2 ((Tn.int (k := 1000) (by decide) (by decide)).fit (by decide)) ((Tn.int (k := 1000) (by decide) (by decide)).fit (by decide))).mono ?_
  rintro e Wc3 ⟨vc3, mc3, rfl, hE, hMc3, hV, hc3⟩
  replace hL := hL.call hE (by assumption) hV; clear hE hV
  obtain ⟨gc3', Ac3', nc3', cc3', hc3', Bc3', kc3', dc3', rfl, hc3⟩ := hc3.lit
  rw [div_mix] at hc3
  have HH : Hid (FracC mc3 (.agg #[.bool gc3', .slice Ac3' nc3' cc3', .bool hc3', .slice Bc3' kc3' dc3']) halfR) := hc3
  clear hc1 hc2 hc3
  go_wp2_with (first | ((with_reducible refine kAny ?_); go_skip) | (with_reducible refine stA ?_) | ((first | ((first | refine tSr ?_ | refine tSt ?_); clear hL; intro _ hL; simp only [splice, zq1, zq2, zq3] at hL) | (refine tAl ?_; clear hL; intro _ _ hL _)); simp only [Act.put, zq1, zq2, zq3]))
  refine fin_agg hL Tryz.results95 rfl rfl loX AgC.h (by exact rfl) ?_
  exact HH.out
end Go.Proofs.YtmhkmmmompediaaGreat

/- cuts.Separate: one round of the range over the lists of places. -/
namespace Go.Proofs.YtmhkmmmompediaaGreat
open Go.RowKit

theorem grpF_len (rws : List Int) (cols : List Col) (us : List Rat) : (grpF rws cols us).length ≤ cols.length := Nat.le_trans (List.length_filter_le _ _) (grpT_len rws cols us _)
structure SepG (ms : Ms) (us : List Rat) (ls : List Grp) (cm : Nat) : Prop where
  c1 : 1 ≤ cm
  c2 : cm ≤ 12
  len : ls.length ≤ 6
  mask : ∀ x ∈ ls, x.1 < 32
  sc : ∀ x ∈ ls, x.2.2.natAbs ≤ 1000
  vio : ∀ (s : List Nat) (d : Nat), (∀ i ∈ s, i < ms.rows.length) → Rat.divInt (exI ls (maskS s) s.length d cm) cm = vioF (rowsS ms.rows s, (d : Int)) ms.cols us
theorem sepG {ms : Ms} {us : List Rat} (ok : VOk ms us) (h5 : ms.rows.length ≤ 5) (h6 : ms.cols.length ≤ 6) : SepG ms us ((grpF ms.rows ms.cols us).map (scF (cmF (grpF ms.rows ms.cols us)))) (cmF (grpF ms.rows ms.cols us)) := by
  have ht : ∀ x ∈ grpF ms.rows ms.cols us, Tw 108 x.2.1 := fun x hx => (grpT_tw ms.rows ok.tw _ x (List.mem_filter.1 hx |>.1)).mono (by omega)
  have hd : ∀ x ∈ grpF ms.rows ms.cols us, x.2.1.den ∣ cmF (grpF ms.rows ms.cols us) := fun x hx => cmF_den hx
  have hc := cmT_le (ls := grpF ms.rows ms.cols us) (fun x hx => (ht x hx).den) (grpF ms.rows ms.cols us).length
  have hm : ∀ x ∈ grpF ms.rows ms.cols us, x.1 < 32 := fun x hx => grpT_mask us h5 (fun c hc => (ok.ms.cols c hc).sub) _ x (List.mem_filter.1 hx |>.1)
  refine ⟨hc.1, hc.2, ?_, fun x hx => ?_, fun x hx => ?_, fun s d hs => exI_vio ok h5 hs hd hc.1⟩
  · rw [List.length_map]; have := grpF_len ms.rows ms.cols us; omega
  · obtain ⟨y, hy, rfl⟩ := List.mem_map.1 hx
    exact hm y hy
  · obtain ⟨y, hy, rfl⟩ := List.mem_map.1 hx
    exact scF_le (ht y hy) (hd y hy) hc.2
theorem maskS_step {s : List Nat} {j x : Nat} (h : s[j]? = some x) : maskS (s.take (j + 1)) = maskS (s.take j) ||| 2 ^ x := by
  unfold maskS
  rw [← take_snoc h, List.foldl_append]; rfl
theorem maskS_lt {s : List Nat} (h : ∀ i ∈ s, i < 5) : maskS s < 32 := by
  have hk : ∀ (s : List Nat) (acc : Nat), acc < 32 → (∀ i ∈ s, i < 5) → s.foldl (fun m r => m ||| 2 ^ r) acc < 32 := by
    intro s
    induction s with
    | nil => intro acc ha _; exact ha
    | cons x s ih =>
      intro acc ha hs
      rw [List.foldl_cons]
      refine ih _ ?_ fun i hi => hs i (List.mem_cons_of_mem _ hi)
      have hx := hs x (List.mem_cons_self)
      have h2 : 2 ^ x < 2 ^ 5 := Nat.pow_lt_pow_right (by decide) hx
      exact Nat.or_lt_two_pow (n := 5) ha h2
  exact hk s 0 (by decide) h
theorem rowsS_step {rws : List Int} {s : List Nat} {j x : Nat} {r : Int} (h : s[j]? = some x) (hr : rws[x]? = some r) : rowsS rws (s.take j) ++ [r] = rowsS rws (s.take (j + 1)) := by
  unfold rowsS
  rw [← take_snoc h, List.map_append, List.map_singleton, List.getD_eq_getElem?_getD, hr]; rfl
theorem Loc.dropA {w0 m0 W m : World} : ∀ {A B : List Lo}, Loc w0 m0 W m (A ++ B) → Loc w0 m0 W m B
  | [], _, h => h
  | _ :: _, _, h => Loc.dropA h.tail
theorem divInt_pos' {s : Int} {c : Nat} (hc : 1 ≤ c) : (0 < s ↔ 0 < Rat.divInt s c) ∧ (s ≤ 0 ↔ Rat.divInt s c ≤ 0) := by
  have A := Rat.divInt_nonneg_iff_of_pos_right (a := s) (b := (c : Int)) (by omega)
  have B : Rat.divInt s c = 0 → s = 0 := fun h => by
    rw [← Rat.zero_divInt 1, Rat.divInt_eq_divInt_iff (by omega) (by decide)] at h
    omega
  have C : s ≤ 0 ↔ Rat.divInt s c ≤ 0 := by
    constructor
    · intro h
      by_cases h0 : s = 0
      · rw [h0, Rat.zero_divInt]; exact Rat.le_refl
      · rcases Rat.le_total (a := Rat.divInt s c) (b := 0) with h' | h'
        · exact h'
        · exact absurd (A.1 h') (by omega)
    · intro h
      refine Int.not_lt.1 fun h' => ?_
      have := B (Rat.le_antisymm h (A.2 (by omega)))
      omega
  refine ⟨?_, C⟩
  rw [← Rat.not_le, ← C]
  omega
theorem icmp_posQ {q : Rat} (h : 0 < q) : icmp q.num 0 = 1 := by
  have h1 := Rat.num_nonneg.2 (Rat.le_of_lt h)
  have h2 : q.num ≠ 0 := fun e => by
    rw [Rat.num_eq_zero] at e
    subst e
    exact Rat.lt_irrefl h
  unfold icmp
  rw [if_neg (by omega), if_neg (by omega)]
def rfBody : Code → Option Code
  | .seq x y => (rfBody x).or (rfBody y)
  | .block _ c => rfBody c
  | .rangeFunc _ _ _ b => some b
  | _ => none

set_option maxRecDepth 100000 in
set_option maxHeartbeats 32000000 in
theorem u_SignZ (w m : World) (hV : Vw m w) : Calls Tryz.prog 103 #[.agg #[.bool false, .slice none 0 0, .bool false, .slice none 0 0]] w (RetV w m fun _ r => r = .int .i64 0) := by
  have K0 : Hid (∀ w m', Vw m' w → Calls Tryz.prog 162 #[.agg #[.bool false, .slice none 0 0]] w (RetV w m' fun _ r => r = .int .i64 0)) := by
    show ∀ w m', _
    intro w m' hV
    exact i_Sign _ 0 w m' hV (IntC.nil.toV z_len)
  have hL := Loc.start hV
  clear hV
  go_enter Tryz.func103, Tryz.ntmps103
  go_upto_region 1 with ((first | ((with_reducible refine kAny ?_); go_skip) | (with_reducible refine stA ?_) | ((first | refine tFd ?_ | refine tLd ?_ | (refine tBx ?_; clear hL; intro _ _ hL _)); simp only [Act.put, zq1, zq2, zq3])))
  refine wp_region_by2 7 [false, false, false, false, false, false, false] [false, false, false, false, false, false, false] [(fun v _ _ => v = ?c1_0), (fun v _ _ => v = ?c1_1), Is (.int .i64 0), (fun v _ _ => v = ?c1_3), (fun v _ _ => v = ?c1_4), Is (.int .i64 0), (fun v _ _ => v = ?c1_6)] hL.vw mixed [3, 4, 5, 6, 7, 8, 9] _ (by kernel_rfl) (fun vs => by simp only [lay, Act.put, zq1, zq2, zq3]; rfl) (by kernel_rfl) (by decide) (by decide) ?s1 ?l1 ?r1
  case s1 =>
    refine ⟨?_, ?_, ?_, ?_, ?_, ?_, ?_, trivial⟩
    · intro vs W1 m1 hE hM hV hD; clear hD; replace hL := hL.call hE hM hV
      exact sFd
    · intro vs W1 m1 hE hM hV hD; obtain ⟨⟨_, _, -, -, f3⟩, -⟩ := hD; have f3 : vs 3 = _ := f3; generalize vs 3 = x3 at f3 ⊢; subst x3; replace hL := hL.call hE hM hV
      exact sLd
    · intro vs W1 m1 hE hM hV hD; obtain ⟨⟨_, _, -, -, f4⟩, -⟩ := hD; have f4 : vs 4 = _ := f4; generalize vs 4 = x4 at f4 ⊢; subst x4
      go_wp2_with fail
      refine (K0.out _ _ hV).mono ?_
      rintro e W2 ⟨v, m2, rfl, hE2, hM2, hV2, h⟩
      go_wp2_with fail
      refine One2.call hE2 hM2 hV2 ?_; first | exact h | exact rfl
    · intro vs W1 m1 hE hM hV hD; clear hD; replace hL := hL.call hE hM hV
      exact sFd
    · intro vs W1 m1 hE hM hV hD; obtain ⟨⟨_, _, -, -, f6⟩, -⟩ := hD; have f6 : vs 6 = _ := f6; generalize vs 6 = x6 at f6 ⊢; subst x6; replace hL := hL.call hE hM hV
      exact sLd
    · intro vs W1 m1 hE hM hV hD; obtain ⟨⟨_, _, -, -, f7⟩, -, -⟩ := hD; have f7 : vs 7 = _ := f7; generalize vs 7 = x7 at f7 ⊢; subst x7
      go_wp2_with fail
      refine (K0.out _ _ hV).mono ?_
      rintro e W2 ⟨v, m2, rfl, hE2, hM2, hV2, h⟩
      go_wp2_with fail
      refine One2.call hE2 hM2 hV2 ?_; first | exact h | exact rfl
    · intro vs W1 m1 hE hM hV hD; obtain ⟨⟨_, _, -, -, f5⟩, ⟨_, _, -, -, f8⟩, -⟩ := hD; have f5 : vs 5 = _ := f5; generalize vs 5 = x5 at f5 ⊢; subst x5; have f8 : vs 8 = _ := f8; generalize vs 8 = x8 at f8 ⊢; subst x8; replace hL := hL.call hE hM hV
      exact sPu
  case l1 =>
    refine ⟨fun h => (by cases h), fun h => (by cases h), fun h => (by cases h), fun h => (by cases h), fun h => (by cases h), fun h => (by cases h), fun h => (by cases h), trivial⟩
  intro vs W1 m1 hE hM hV hF hD
  clear hD
  obtain ⟨-, -, -, -, -, -, ⟨_, _, -, -, f9⟩, -⟩ := hF
  replace hL := hL.call hE hM hV
  have f9 : vs 9 = _ := f9
  generalize vs 9 = x9 at f9 ⊢
  subst x9
  clear hE hV
  simp only [List.drop_succ_cons, List.drop_zero]
  go_wp2_with (first | ((with_reducible refine kAny ?_); go_skip) | (with_reducible refine stA ?_) | ((first | refine tFd ?_ | refine tLd ?_ | (refine tBx ?_; clear hL; intro _ _ hL _)); simp only [Act.put, zq1, zq2, zq3]))
  refine QN.mk ?_
  go_wp2_with (first | ((with_reducible refine kAny ?_); go_skip) | (with_reducible refine stA ?_) | ((first | refine tFd ?_ | refine tLd ?_ | (refine tBx ?_; clear hL; intro _ _ hL _)); simp only [Act.put, zq1, zq2, zq3]))
  go_ret
  exact RetV.mk hL (by go_num)

theorem lb_cans : lfB Tryz.prog 121 = true := by kernel_rfl
theorem zc_Grps : zc Tryz.prog 117 = some #[.slice none 0 0] := by kernel_rfl
instance iAF7_1 : ZcC Tryz.prog 117 #[.slice none 0 0] := ⟨zc_Grps⟩
theorem zc_Cans : zc Tryz.prog 121 = some #[.slice none 0 0] := by kernel_rfl
instance iAF7_2 : ZcC Tryz.prog 121 #[.slice none 0 0] := ⟨zc_Cans⟩
instance iAF7_3 : ZcC Tryz.prog 3 #[.int .i64 0] := ⟨zc_int1⟩
theorem zc_bool1 : zc Tryz.prog 4 = some #[.bool false] := by kernel_rfl
instance iAF7_4 : ZcC Tryz.prog 4 #[.bool false] := ⟨zc_bool1⟩
instance iAF7_5 : LfC Tryz.prog 121 := ⟨lb_cans⟩
theorem lb_Grps : lfB Tryz.prog 117 = true := by kernel_rfl
instance iAF7_6 : LfC Tryz.prog 117 := ⟨lb_Grps⟩
def SepE (w0 m0 m : World) (g b16 : Nat) (s : List Nat) (fs : List Can) (W' : World) : Prop :=
  ∃ m' fd Rf n, Loc w0 m0 W' m' ((g, 3, intsA s) :: (b16, 121, #[fd]) :: Rf) ∧ Ext m m' ∧ RowA 128 6 CanR m' fd n fs Rf ∧ (n = 0 → fd = .slice none 0 0)

set_option maxRecDepth 100000 in
set_option maxHeartbeats 64000000 in
theorem sep_round {l n : Nat} {c : Code} (hc : Tryz.f39.body.bind rfBody = some c) {u0 u1 u2 u3 u4 u6 u9 u10 u11 u12 u18 u19 u20 u21 u22 u23 u24 u25 u26 u27 u28 u29 u30 u31 u32 u33 u34 u35 u36 u37 u38 u39 u40 u41 u42 u43 u44 u45 u46 u47 u48 u49 u50 u51 u52 u53 u54 u55 u56 u57 u58 u59 u60 u61 u62 u63 u64 u65 u66 u67 u68 u69 u70 u71 u72 u73 u74 u75 u76 u77 u78 u79 u80 u81 u82 u83 u84 u85 u86 u87 u88 u89 u90 u91 u92 u93 u94 u95 u96 u97 u98 u99 u100 u101 u102 u103 u104 u105 u106 u107 u108 u109 u110 u111 u112 u113 u114 u115 u116 u117 u118 u119 u120 u121 u122 u123 u124 u125 u126 u127 u128 u129 u130 u131 u132 u133 u134 u135 u136 u137 u138 u139 u140 u141 u142 : Value} {b5 b7 b8 b13 b14 b15 b16 g sz d cm nr ca nk cc ng cg n0 : Nat} {A C G : Option Addr}
    {ms : Ms} {us : List Rat} {ls : List Grp} {s : List Nat} {fs : List Can} {fd : Value} {Rf : List Lo} {w0 m0 W m : World}
    (hL : Loc w0 m0 W m ((g, 3, intsA s) :: (b16, 121, #[fd]) :: Rf)) (row : RowA 128 6 CanR m fd n0 fs Rf) (hn0 : n0 = 0 → fd = .slice none 0 0) (hn1 : n0 ≤ 1000)
    (h51 : m.cell? ⟨b5, 1, none⟩ = some (.slice A nr ca)) (h54 : m.cell? ⟨b5, 4, none⟩ = some (.slice C nk cc)) (h7 : m.cell? ⟨b7, 0, none⟩ = some (.int .i64 (sz : Int))) (h8 : m.cell? ⟨b8, 0, none⟩ = some (.int .i64 (d : Int)))
    (h13 : m.cell? ⟨b13, 0, none⟩ = some (.slice G ng cg)) (h14 : m.cell? ⟨b14, 0, none⟩ = some (.int .i64 (cm : Int))) (h15 : m.cell? ⟨b15, 0, none⟩ = some (.bool true))
    (hro : IntL m (.slice A nr ca) ms.rows) (hcu : CutL m (.slice C nk cc) ms.cuts) (hgl : GrpL m (.slice G ng cg) ls) (SG : SepG ms us ls cm) (vok : VOk ms us)
    (hsl : s.length = sz) (hs : ∀ i ∈ s, i < nr) (hnr : nr = ms.rows.length) (hnr5 : nr ≤ 5) (hs3 : 3 ≤ sz) (hs5 : sz ≤ 5) (hd2 : 2 ≤ d) (hds : d < sz) (hcut : CutOk ms.rows (cutS ms d s)) :
    c.wpIn (Rnd l) n Tryz.prog (rPost (SepE w0 m0 m g b16 s (fndS ms us d fs s)) W) { tmps := #[u0, u1, u2, u3, u4, .pointer (some ⟨b5, 0, none⟩), u6, .pointer (some ⟨b7, 0, none⟩), .pointer (some ⟨b8, 0, none⟩), u9, u10, u11, u12, .pointer (some ⟨b13, 0, none⟩), .pointer (some ⟨b14, 0, none⟩), .pointer (some ⟨b15, 0, none⟩), .pointer (some ⟨b16, 0, none⟩), .slice (some ⟨g, 0, none⟩) sz sz, u18, u19, u20, u21, u22, u23, u24, u25, u26, u27, u28, u29, u30, u31, u32, u33, u34, u35, u36, u37, u38, u39, u40, u41, u42, u43, u44, u45, u46, u47, u48, u49, u50, u51, u52, u53, u54, u55, u56, u57, u58, u59, u60, u61, u62, u63, u64, u65, u66, u67, u68, u69, u70, u71, u72, u73, u74, u75, u76, u77, u78, u79, u80, u81, u82, u83, u84, u85, u86, u87, u88, u89, u90, u91, u92, u93, u94, u95, u96, u97, u98, u99, u100, u101, u102, u103, u104, u105, u106, u107, u108, u109, u110, u111, u112, u113, u114, u115, u116, u117, u118, u119, u120, u121, u122, u123, u124, u125, u126, u127, u128, u129, u130, u131, u132, u133, u134, u135, u136, u137, u138, u139, u140, u141, u142], defers := [] } W := by
  have hL0 := hL
  have hBg : Blk W g 3 (intsA s) := hL.at_ (n := 0) rfl
  have hBf : Blk W b16 121 #[fd] := hL.at_ (n := 1) rfl
  have HL0 := Lib.hid hL0
  have ROW := Lib.hid row
  have HN0 := Lib.hid hn0
  have HRO := Lib.hid hro
  have HCU := Lib.hid hcu
  have HGL := Lib.hid hgl
  have SG := Lib.hid SG
  have OK := Lib.hid vok
  have HSL := Lib.hid hsl
  have HS := Lib.hid hs
  have HNR := Lib.hid hnr
  have HCT := Lib.hid hcut
  replace hL := Loc.start hL.vw
  clear hL0 row hn0 hro hcu hgl vok hsl hs hnr hcut
  injection hc with hc
  subst hc
  have HNR' : Hid (ms.rows.length = nr) := HNR.out.symm
  have HVI : Hid (Rat.divInt (exI ls (maskS s) sz d cm) cm = vioF (cutS ms d s) ms.cols us) := by
    show _ = _
    rw [← HSL.out]
    exact SG.out.vio s d fun i hi => by rw [HNR'.out]; exact HS.out i hi
  have HMK : Hid (maskS s < 32) := maskS_lt fun i hi => by have := HS.out i hi; omega
  have HFT : Hid (Fit 200 (vioF (cutS ms d s) ms.cols us)) := (OK.out.vio HCT.out).fit (by decide)
  (repeat (first | ((with_reducible show Code.wpIn _ _ _ (Code.region _ _ false) _ _ _); refine wpIn_lit (fun _ _ h => h) rfl ?_) | ((with_reducible show wpList _ _ _ _ _ _); go_wp2_with (first | ((with_reducible refine kAny ?_); go_skip) | (with_reducible refine stA ?_) | ((first | refine tIx ?_ | refine tFd ?_ | refine tLd ?_ | ((first | refine tSr ?_ | refine tSt ?_); clear hL; intro _ hL; simp only [splice, zq1, zq2, zq3] at hL) | ((first | refine tBx ?_ | refine tAl ?_); clear hL; intro _ _ hL _) | (refine tBs ?_; clear hL; intro _ _ hL _ hBs)); simp only [Act.put, zq1, zq2, zq3])); fail_if_success (with_reducible show wpList _ _ _ _ _ _)) | gi_step))
  gi_loopw [18, 74] (fun mk iv wr => ∃ (j : Nat) (mm : World), j ≤ sz ∧ iv = .int .i64 j ∧ mk = .int .u32 (maskS (s.take j) : Nat) ∧ Loc W m wr mm []) (fun _ iv _ => sz - (intOf iv).toNat)
  case atStart => exact ⟨0, _, Nat.zero_le _, rfl, rfl, hL⟩
  case round =>
    clear hL
    obtain ⟨j, mm, hj, rfl, rfl, hL⟩ := hrel
    have hM := hL.mext
    by_cases hlt : j < sz
    · have hlt' : (j : Int) < (sz : Int) := by omega
      obtain ⟨x, hx⟩ := at_some HSL hlt
      have hx5 : x < 5 := by have := HS.out x (List.mem_of_getElem? hx); omega
      have hcell : (intsA s)[0 + j]? = some (.int .i64 (x : Int)) := by rw [Nat.zero_add]; exact intsA_at hx
      have hml : maskS (s.take j) < 32 := maskS_lt fun i hi => by have := HS.out i (List.mem_of_mem_take hi); omega
      have hor : bits .or .u32 (maskS (s.take j) : Nat) ((2 : Int) ^ x % 4294967296) = (maskS (s.take (j + 1)) : Nat) := by
        rw [maskS_step hx]; exact or_33 ⟨_, hml⟩ ⟨x, hx5⟩
      clear hx hml
      (repeat (first | ((with_reducible show Code.wpIn _ _ _ (Code.region _ _ false) _ _ _); refine wpIn_lit (fun _ _ h => h) rfl ?_) | ((with_reducible show wpList _ _ _ _ _ _); go_wp2_with (first | (refine wl_loadB hL (wanted_none rfl) rfl rfl lb_int hBg hcell ?_; simp only [Act.put, zq1, zq2, zq3]) | (first | ((with_reducible refine kAny ?_); go_skip) | (with_reducible refine stA ?_) | ((first | refine tIx ?_ | refine tFd ?_ | refine tLd ?_ | ((first | refine tSr ?_ | refine tSt ?_); clear hL; intro _ hL; simp only [splice, zq1, zq2, zq3] at hL) | ((first | refine tBx ?_ | refine tAl ?_); clear hL; intro _ _ hL _) | (refine tBs ?_; clear hL; intro _ _ hL _ hBs)); simp only [Act.put, zq1, zq2, zq3]))); fail_if_success (with_reducible show wpList _ _ _ _ _ _)) | gi_step))
      go_roundw
      case rel => exact ⟨j + 1, _, by omega, by go_num, rfl, hL⟩
      case measure => simp [intOf] <;> omega
    · have hjs : sz = j := by omega
      have HM2 : Hid (maskS (s.take j) = maskS s) := by show _ = _; rw [List.take_of_length_le (by have := HSL.out; omega)]
      subst hjs
      rw [HM2.out]
      have h9 : (sz : Int) ≤ (sz : Int) := Int.le_refl _
      generalize maskS s = mk at *
      (repeat (first | ((with_reducible show Code.wpIn _ _ _ (Code.region _ _ false) _ _ _); refine wpIn_lit (fun _ _ h => h) rfl ?_) | ((with_reducible show wpList _ _ _ _ _ _); go_wp2_with (first | ((with_reducible refine kAny ?_); go_skip) | (with_reducible refine stA ?_) | ((first | refine tIx ?_ | refine tFd ?_ | refine tLd ?_ | ((first | refine tSr ?_ | refine tSt ?_); clear hL; intro _ hL; simp only [splice, zq1, zq2, zq3] at hL) | ((first | refine tBx ?_ | refine tAl ?_); clear hL; intro _ _ hL _) | (refine tBs ?_; clear hL; intro _ _ hL _ hBs)); simp only [Act.put, zq1, zq2, zq3])); fail_if_success (with_reducible show wpList _ _ _ _ _ _)) | gi_step))
      refine (u_excess _ ls mk sz d cm _ _ hL.vw (ListV.le GrpR.mono HGL.out leX) SG.out.mask SG.out.sc HMK.out hs5 hd2 (by omega) (by have := SG.out.c1; omega) (by have := SG.out.c2; omega) (by have := SG.out.len; omega)).mono ?_
      rintro e Wx ⟨vx, mx, rfl, hE, hMx, hV, hx⟩
      replace hL := hL.call hE (by assumption) hV; clear hE hV
      rcases hx with ⟨hx0, rfl⟩ | ⟨hx0, hx⟩
      · have HE : Hid (fndS ms us d fs s = fs) := by
          show _ = _
          unfold fndS
          rw [if_pos]
          rw [← HVI.out]
          exact (divInt_pos' SG.out.c1).2.1 hx0
        clear hx0
        dsimp only
        (repeat (first | ((with_reducible show Code.wpIn _ _ _ (Code.region _ _ false) _ _ _); refine wpIn_lit (fun _ _ h => h) rfl ?_) | ((with_reducible show wpList _ _ _ _ _ _); go_wp2_with (first | ((with_reducible refine kAny ?_); go_skip) | (with_reducible refine stA ?_) | ((first | refine tIx ?_ | refine tFd ?_ | refine tLd ?_ | ((first | refine tSr ?_ | refine tSt ?_); clear hL; intro _ hL; simp only [splice, zq1, zq2, zq3] at hL) | ((first | refine tBx ?_ | refine tAl ?_); clear hL; intro _ _ hL _) | (refine tBs ?_; clear hL; intro _ _ hL _ hBs)); simp only [Act.put, zq1, zq2, zq3])); fail_if_success (with_reducible show wpList _ _ _ _ _ _)) | gi_step))
        refine (u_SignZ _ _ hL.vw).mono ?_
        rintro e Wc1 ⟨_, mc1, rfl, hE, hMc1, hV, rfl⟩
        replace hL := hL.call hE (by assumption) hV; clear hE hV
        dsimp only
        (repeat (first | ((with_reducible show Code.wpIn _ _ _ (Code.region _ _ false) _ _ _); refine wpIn_lit (fun _ _ h => h) rfl ?_) | ((with_reducible show wpList _ _ _ _ _ _); go_wp2_with (first | ((with_reducible refine kAny ?_); go_skip) | (with_reducible refine stA ?_) | ((first | refine tIx ?_ | refine tFd ?_ | refine tLd ?_ | ((first | refine tSr ?_ | refine tSt ?_); clear hL; intro _ hL; simp only [splice, zq1, zq2, zq3] at hL) | ((first | refine tBx ?_ | refine tAl ?_); clear hL; intro _ _ hL _) | (refine tBs ?_; clear hL; intro _ _ hL _ hBs)); simp only [Act.put, zq1, zq2, zq3])); fail_if_success (with_reducible show wpList _ _ _ _ _ _)) | gi_step))
        refine And.intro hL.ext.still ⟨_, fd, Rf, n0, Loc.dropA (A := [_]) (HL0.out.join hL), hL.mext, ?_, HN0.out⟩
        rw [HE.out]
        exact RowA.le CanR.mono ROW.out leX
      · have HQ0 : Hid (0 < vioF (cutS ms d s) ms.cols us) := by
          show _ < _
          rw [← HVI.out]
          exact (divInt_pos' SG.out.c1).1.1 hx0
        rw [HVI.out] at hx
        obtain ⟨gv, Av, nv, cv, fv, Bv, kv, dv, rfl, hx⟩ := hx.lit
        have HVX := Lib.hid hx
        have KS : Hid (∀ w m', Vw m' w → Le mx m' → Calls Tryz.prog 103 #[.agg #[.bool gv, .slice Av nv cv, .bool fv, .slice Bv kv dv]] w (RetV w m' fun _ r => r = .int .i64 1)) := by
          show ∀ w m', _
          intro w m' hV hle
          rw [← icmp_posQ HQ0.out]
          exact q_Sign _ _ w m' hV (HVX.out.le hle) HFT.out
        clear hx hx0
        dsimp only
        (repeat (first | ((with_reducible show Code.wpIn _ _ _ (Code.region _ _ false) _ _ _); refine wpIn_lit (fun _ _ h => h) rfl ?_) | ((with_reducible show wpList _ _ _ _ _ _); go_wp2_with (first | ((with_reducible refine kAny ?_); go_skip) | (with_reducible refine stA ?_) | ((first | refine tIx ?_ | refine tFd ?_ | refine tLd ?_ | ((first | refine tSr ?_ | refine tSt ?_); clear hL; intro _ hL; simp only [splice, zq1, zq2, zq3] at hL) | ((first | refine tBx ?_ | refine tAl ?_); clear hL; intro _ _ hL _) | (refine tBs ?_; clear hL; intro _ _ hL _ hBs)); simp only [Act.put, zq1, zq2, zq3])); fail_if_success (with_reducible show wpList _ _ _ _ _ _)) | gi_step))
        refine (KS.out _ _ hL.vw leX).mono ?_
        rintro e Wc1 ⟨_, mc1, rfl, hE, hMc1, hV, rfl⟩
        replace hL := hL.call hE (by assumption) hV; clear hE hV
        clear KS
        dsimp only
        (repeat (first | ((with_reducible show Code.wpIn _ _ _ (Code.region _ _ false) _ _ _); refine wpIn_lit (fun _ _ h => h) rfl ?_) | ((with_reducible show wpList _ _ _ _ _ _); go_wp2_with (first | ((with_reducible refine kAny ?_); go_skip) | (with_reducible refine stA ?_) | ((first | refine tIx ?_ | refine tFd ?_ | refine tLd ?_ | ((first | refine tSr ?_ | refine tSt ?_); clear hL; intro _ hL; simp only [splice, zq1, zq2, zq3] at hL) | ((first | refine tBx ?_ | refine tAl ?_); clear hL; intro _ _ hL _) | (refine tBs ?_; clear hL; intro _ _ hL _ hBs)); simp only [Act.put, zq1, zq2, zq3])); fail_if_success (with_reducible show wpList _ _ _ _ _ _)) | gi_step))
        gi_loopw [97] (fun iv wr => ∃ (j : Nat) (mm : World) (A7 : Option Addr) (c7 : Nat) (Rx : List Lo), j ≤ sz ∧ iv = .int .i64 j ∧ Loc W m wr mm ((Wc1.heap.size, 34, #[.slice A7 j c7, .int .i64 d]) :: (Wx.heap.size, 39, #[.bool gv, .slice Av nv cv, .bool fv, .slice Bv kv dv]) :: Rx) ∧ Hid (RowA 3 1 IsI mm (.slice A7 j c7) j (rowsS ms.rows (s.take j)) Rx) ∧ Hid (Ext mc1 mm)) (fun iv _ => sz - (intOf iv).toNat)
        case atStart => exact ⟨0, _, none, 0, [], Nat.zero_le _, rfl, hL, RowA.nil, exX⟩
        case round =>
          clear hL
          obtain ⟨j, mm2, A7, c7, Rx, hj, rfl, hL, RX, HX2⟩ := hrel
          have hX2 := HX2.out
          by_cases hlt : j < sz
          · have hlt' : (j : Int) < (sz : Int) := by omega
            obtain ⟨x, hx⟩ := at_some HSL hlt
            have hxr : x < nr := HS.out x (List.mem_of_getElem? hx)
            obtain ⟨r, hr⟩ := at_some HNR' hxr
            have hro := HRO.out
            obtain ⟨b9, o9, rfl, hc9⟩ := IntL.at_ hro hr
            have hcell : (intsA s)[0 + j]? = some (.int .i64 (x : Int)) := by rw [Nat.zero_add]; exact intsA_at hx
            have HT := Lib.hid (rowsS_step hx hr)
            clear hx hr hro
            (repeat (first | ((with_reducible show Code.wpIn _ _ _ (Code.region _ _ false) _ _ _); refine wpIn_lit (fun _ _ h => h) rfl ?_) | ((with_reducible show wpList _ _ _ _ _ _); go_wp2_with (first | (refine wl_loadB hL (wanted_none rfl) rfl rfl lb_int hBg hcell ?_; simp only [Act.put, zq1, zq2, zq3]) | (first | ((with_reducible refine kAny ?_); go_skip) | (with_reducible refine stA ?_) | ((first | refine tIx ?_ | refine tFd ?_ | refine tLd ?_ | ((first | refine tSr ?_ | refine tSt ?_); clear hL; intro _ hL; simp only [splice, zq1, zq2, zq3] at hL) | ((first | refine tBx ?_ | refine tAl ?_); clear hL; intro _ _ hL _) | (refine tBs ?_; clear hL; intro _ _ hL _ hBs)); simp only [Act.put, zq1, zq2, zq3]))); fail_if_success (with_reducible show wpList _ _ _ _ _ _)) | gi_step))
            (try simp only [eq_self] at *)
            refine wpIn_of_any mixed (by kernel_rfl) (region_by2 8 [false, false, false, false, false, false, false, false] [false, false, false, false, false, false, false, false] [(fun v _ _ => v = ?c25_0), (fun v _ _ => v = ?c25_1), (fun v _ _ => v = ?c25_2), (fun v _ _ => v = ?c25_3), (fun v _ _ => v = ?c25_4), (fun v _ _ => v = ?c25_5), (fun v _ _ => v = ?c25_6), (NewS1 3 (fun _ v => v = .agg #[.int .i64 r]))] hL.vw mixed [101, 102, 103, 104, 105, 106, 107, 108] _ (by kernel_rfl) (fun vs => by simp only [lay, Act.put, zq1, zq2, zq3]; rfl) (by kernel_rfl) (by decide) (by decide) ?s25 ?l25 ?r25)
            case s25 =>
              refine ⟨?_, ?_, ?_, ?_, ?_, ?_, ?_, ?_, trivial⟩
              · intro vs W1 m1 hE hM hV hD; clear hD; replace hL := hL.call hE hM hV
                exact sFd
              · intro vs W1 m1 hE hM hV hD; obtain ⟨⟨_, _, -, -, f101⟩, -⟩ := hD; have f101 : vs 101 = _ := f101; generalize vs 101 = x101 at f101 ⊢; subst x101; replace hL := hL.call hE hM hV
                exact sLd
              · intro vs W1 m1 hE hM hV hD; clear hD; replace hL := hL.call hE hM hV
                exact sFd
              · intro vs W1 m1 hE hM hV hD; obtain ⟨⟨_, _, -, -, f103⟩, -⟩ := hD; have f103 : vs 103 = _ := f103; generalize vs 103 = x103 at f103 ⊢; subst x103; replace hL := hL.call hE hM hV
                exact sLd
              · intro vs W1 m1 hE hM hV hD; clear hD; replace hL := hL.call hE hM hV
                exact sPu
              · intro vs W1 m1 hE hM hV hD; obtain ⟨⟨_, _, -, -, f104⟩, ⟨_, _, -, -, f105⟩, -⟩ := hD; have f104 : vs 104 = _ := f104; generalize vs 104 = x104 at f104 ⊢; subst x104; have f105 : vs 105 = _ := f105; generalize vs 105 = x105 at f105 ⊢; subst x105; replace hL := hL.call hE hM hV
                exact sIx
              · intro vs W1 m1 hE hM hV hD; obtain ⟨⟨_, _, -, -, f106⟩, -⟩ := hD; have f106 : vs 106 = _ := f106; generalize vs 106 = x106 at f106 ⊢; subst x106; replace hL := hL.call hE hM hV
                exact sLd
              · intro vs W1 m1 hE hM hV hD; obtain ⟨⟨_, _, -, -, f107⟩, -⟩ := hD; have f107 : vs 107 = _ := f107; generalize vs 107 = x107 at f107 ⊢; subst x107
                (go_wp2_with fail; exact one2_s1 hV fun _ _ => rfl)
            case l25 =>
              refine ⟨fun h => (by cases h), fun h => (by cases h), fun h => (by cases h), fun h => (by cases h), fun h => (by cases h), fun h => (by cases h), fun h => (by cases h), fun h => (by cases h), trivial⟩
            intro vs W1 m1 hE hM hV hF hD
            clear hD
            obtain ⟨-, ⟨_, _, -, -, f102⟩, -, -, -, -, -, ⟨_, _, j108, i108, f108⟩, -⟩ := hF
            replace hL := hL.call hE hM hV
            have f102 : vs 102 = _ := f102
            generalize vs 102 = x102 at f102 ⊢
            subst x102
            clear hE hV
            obtain ⟨g15, cs15, e15, q15, f15⟩ := f108
            generalize vs 108 = x15 at e15 ⊢
            subst x15
            replace q15 := q15.ext j108
            have f16 : Value.agg cs15 = .agg #[.int .i64 r] := f15
            injection f16 with f16
            subst f16
            clear f15 i108 j108
            simp only [List.drop_succ_cons, List.drop_zero]
            obtain ⟨vs7, r7, z7, y7, l7⟩ := RX.out
            refine wl_append (A := [_, _]) hL r7 (wanted_none rfl) rfl ap_ints (by omega) rfl rfl (news := [.int .i64 r]) rfl (Blk.sl q15 (n := 1) rfl) rfl (by omega) (by omega) ?_
            clear hL
            intro v1 W2 m2 R2 hL r8 e8
            obtain ⟨A11, c11, rfl, -⟩ := r8.lit
            simp only [List.cons_append, List.nil_append] at hL
            have rx2 := RowA.snocV (R := IsI) (m := m2) (x := r) r8 z7 (y7.mono fun _ _ h => h) l7 rfl rfl rfl
            rw [HT.out] at rx2
            have RX2 := Lib.hid rx2
            clear rx2 r7 z7 y7 l7 r8
            simp only [Act.put, zq1, zq2, zq3]
            go_wp2_with (first | ((with_reducible refine kAny ?_); go_skip) | (with_reducible refine stA ?_) | ((first | refine tIx ?_ | refine tFd ?_ | refine tLd ?_ | ((first | refine tSr ?_ | refine tSt ?_); clear hL; intro _ hL; simp only [splice, zq1, zq2, zq3] at hL) | ((first | refine tBx ?_ | refine tAl ?_); clear hL; intro _ _ hL _) | (refine tBs ?_; clear hL; intro _ _ hL _ hBs)); simp only [Act.put, zq1, zq2, zq3]))
            refine QN.mk ?_
            (repeat (first | ((with_reducible show Code.wpIn _ _ _ (Code.region _ _ false) _ _ _); refine wpIn_lit (fun _ _ h => h) rfl ?_) | ((with_reducible show wpList _ _ _ _ _ _); go_wp2_with (first | ((with_reducible refine kAny ?_); go_skip) | (with_reducible refine stA ?_) | ((first | refine tIx ?_ | refine tFd ?_ | refine tLd ?_ | ((first | refine tSr ?_ | refine tSt ?_); clear hL; intro _ hL; simp only [splice, zq1, zq2, zq3] at hL) | ((first | refine tBx ?_ | refine tAl ?_); clear hL; intro _ _ hL _) | (refine tBs ?_; clear hL; intro _ _ hL _ hBs)); simp only [Act.put, zq1, zq2, zq3])); fail_if_success (with_reducible show wpList _ _ _ _ _ _)) | gi_step))
            go_roundw
            case rel => exact ⟨j + 1, m2, A11, c11, R2, by omega, by go_num, hL, RX2.out, exX⟩
            case measure => simp [intOf] <;> omega
          · have hjs : sz = j := by omega
            have HTK : Hid (rowsS ms.rows (s.take j) = (cutS ms d s).1) := by
              show rowsS _ _ = rowsS _ _
              rw [List.take_of_length_le (by have := HSL.out; omega)]
            subst hjs
            have row2 := RX.out
            rw [HTK.out] at row2
            obtain ⟨m9, hL9, hle9, hl9, -⟩ := RowA.show (A := [_, _]) IsI.mono hL row2
            have HXR : Hid (CutR m9 (.agg #[.slice A7 sz c7, .int .i64 d]) (cutS ms d s)) := ⟨_, rfl, hl9, by show (rowsS _ _).length ≤ _; unfold rowsS; rw [List.length_map, HSL.out]; omega⟩
            have HVX9 := Lib.hid (HVX.out.le ((leX : Le mx mm2).trans hle9))
            have hM9 := hL9.mext
            clear hL row2 hle9 hl9 RX HTK hX2 HX2 HVX
            have hL := hL9
            clear hL9
            (repeat (first | ((with_reducible show Code.wpIn _ _ _ (Code.region _ _ false) _ _ _); refine wpIn_lit (fun _ _ h => h) rfl ?_) | ((with_reducible show wpList _ _ _ _ _ _); go_wp2_with (first | ((with_reducible refine kAny ?_); go_skip) | (with_reducible refine stA ?_) | ((first | refine tIx ?_ | refine tFd ?_ | refine tLd ?_ | ((first | refine tSr ?_ | refine tSt ?_); clear hL; intro _ hL; simp only [splice, zq1, zq2, zq3] at hL) | ((first | refine tBx ?_ | refine tAl ?_); clear hL; intro _ _ hL _) | (refine tBs ?_; clear hL; intro _ _ hL _ hBs)); simp only [Act.put, zq1, zq2, zq3])); fail_if_success (with_reducible show wpList _ _ _ _ _ _)) | gi_step))
            refine (u_known _ _ ms.cuts (cutS ms d s) _ _ hL.vw (CutL.le HCU.out leX) (HXR.out.le leX) (by have := OK.out.ms.k2; omega)).mono ?_
            rintro e Wc2 ⟨_, mc2, rfl, hE, hMc2, hV, rfl⟩
            replace hL := hL.call hE (by assumption) hV; clear hE hV
            by_cases hk : cutS ms d s ∈ ms.cuts
            · rw [decide_eq_true hk]
              have HE : Hid (fndS ms us d fs s = fs) := by
                show _ = _
                unfold fndS
                rw [if_neg (Rat.not_le.2 HQ0.out), if_pos hk]
              clear hk
              dsimp only
              (repeat (first | ((with_reducible show Code.wpIn _ _ _ (Code.region _ _ false) _ _ _); refine wpIn_lit (fun _ _ h => h) rfl ?_) | ((with_reducible show wpList _ _ _ _ _ _); go_wp2_with (first | ((with_reducible refine kAny ?_); go_skip) | (with_reducible refine stA ?_) | ((first | refine tIx ?_ | refine tFd ?_ | refine tLd ?_ | ((first | refine tSr ?_ | refine tSt ?_); clear hL; intro _ hL; simp only [splice, zq1, zq2, zq3] at hL) | ((first | refine tBx ?_ | refine tAl ?_); clear hL; intro _ _ hL _) | (refine tBs ?_; clear hL; intro _ _ hL _ hBs)); simp only [Act.put, zq1, zq2, zq3])); fail_if_success (with_reducible show wpList _ _ _ _ _ _)) | gi_step))
              refine And.intro hL.ext.still ⟨_, fd, Rf, n0, Loc.dropA (A := [_, _]) (HL0.out.join hL), hL.mext, ?_, HN0.out⟩
              rw [HE.out]
              exact RowA.le CanR.mono ROW.out leX
            · rw [decide_eq_false hk]
              have HE : Hid (fndS ms us d fs s = fs ++ [(cutS ms d s, vioF (cutS ms d s) ms.cols us)]) := by
                show _ = _
                unfold fndS
                rw [if_neg (Rat.not_le.2 HQ0.out), if_neg hk]
              clear hk
              dsimp only
              (repeat (first | ((with_reducible show Code.wpIn _ _ _ (Code.region _ _ false) _ _ _); refine wpIn_lit (fun _ _ h => h) rfl ?_) | ((with_reducible show wpList _ _ _ _ _ _); go_wp2_with (first | (refine wl_loadB hL (wanted_none rfl) rfl rfl lb_cans hBf rfl ?_; simp only [Act.put, zq1, zq2, zq3]) | (first | ((with_reducible refine kAny ?_); go_skip) | (with_reducible refine stA ?_) | ((first | refine tIx ?_ | refine tFd ?_ | refine tLd ?_ | ((first | refine tSr ?_ | refine tSt ?_); clear hL; intro _ hL; simp only [splice, zq1, zq2, zq3] at hL) | ((first | refine tBx ?_ | refine tAl ?_); clear hL; intro _ _ hL _) | (refine tBs ?_; clear hL; intro _ _ hL _ hBs)); simp only [Act.put, zq1, zq2, zq3]))); fail_if_success (with_reducible show wpList _ _ _ _ _ _)) | gi_step))
              refine goA ?_
              have HS0 := Lib.hid hL.ext.still
              have hJ := HL0.out.join hL
              have hCN : CanR mc2 (.agg #[.slice A7 sz c7, .int .i64 d, .bool gv, .slice Av nv cv, .bool fv, .slice Bv kv dv]) (cutS ms d s, vioF (cutS ms d s) ms.cols us) := ⟨_, _, _, _, _, _, _, _, _, _, _, _, rfl, HXR.out.le leX, HVX9.out.le leX⟩
              obtain ⟨vs7, r7, z7, y7, l7⟩ := ROW.out
              refine wl_appendS (A := [_, _, _, _]) hJ r7 (wanted_none rfl) rfl ap_Cans (by omega) rfl rfl (news := [.slice A7 sz c7, .int .i64 d, .bool gv, .slice Av nv cv, .bool fv, .slice Bv kv dv]) rfl ((Blk.sl hBs (n := 6) rfl).le hJ.vw.le) rfl (by omega) (by omega) ?_
              have HX7 := Lib.hid hL.mext
              clear hL hJ
              intro v1 W5 m5 R5 hL r8 e8 hS8
              obtain ⟨A11, c11, rfl, -⟩ := r8.lit
              simp only [List.cons_append, List.nil_append] at hL
              have rd := RowA.snoc (R := CanR) (m := m5) (x := (cutS ms d s, vioF (cutS ms d s) ms.cols us)) r8 z7 (y7.mono fun v x hv => CanR.mono _ _ _ _ hv (HX7.out.trans e8).le) l7 rfl (CanR.mono _ _ _ _ hCN leX)
              rw [← HE.out] at rd
              have RD := Lib.hid rd
              clear rd r8 r7 z7 y7 l7
              simp only [Act.put, zq1, zq2, zq3]
              refine wl_store1S hL (wanted_none rfl) rfl rfl rfl lb_cans (n := 3) rfl (Nat.le_of_ble_eq_true rfl) rfl rfl ?_
              clear hL
              intro W6 hL hS6
              simp only [List.set_cons_zero, List.set_cons_succ, splice, zq1, zq2, zq3] at hL
              simp only [Act.put, zq1, zq2, zq3]
              (repeat (first | ((with_reducible show Code.wpIn _ _ _ (Code.region _ _ false) _ _ _); refine wpIn_lit (fun _ _ h => h) rfl ?_) | ((with_reducible show wpList _ _ _ _ _ _); go_wp2_with (first | ((with_reducible refine kAny ?_); go_skip) | (with_reducible refine stA ?_) | ((first | refine tIx ?_ | refine tFd ?_ | refine tLd ?_ | ((first | refine tSr ?_ | refine tSt ?_); clear hL; intro _ hL; simp only [splice, zq1, zq2, zq3] at hL) | ((first | refine tBx ?_ | refine tAl ?_); clear hL; intro _ _ hL _) | (refine tBs ?_; clear hL; intro _ _ hL _ hBs)); simp only [Act.put, zq1, zq2, zq3])); fail_if_success (with_reducible show wpList _ _ _ _ _ _)) | gi_step))
              exact And.intro ((HS0.out.trans hS8).trans hS6) ⟨_, _, R5, n0 + 1, hL.tail.tail, HX7.out.trans e8, RD.out, fun h => absurd h (by omega)⟩
end Go.Proofs.YtmhkmmmompediaaGreat

/- cuts.Separate, where there is at most one list of places. -/
namespace Go.Proofs.YtmhkmmmompediaaGreat
open Go.RowKit

theorem ListV.n_is {α : Type} {size : Nat} {R : World → Value → α → Prop} {m : World} {A : Option Addr} {n c : Nat} {xs : List α} (h : ListV size R m (.slice A n c) xs) : n = xs.length := by
  obtain ⟨_, _, _, e, _⟩ := h
  injection e
theorem MasterR.parts {m : World} {nf pen : Int} {a b c : Value} {x : Ms} (h : MasterR m (.agg #[.int .i64 nf, a, .int .i64 pen, b, c]) x) : IntL m a x.rows ∧ ColL m b x.cols ∧ CutL m c x.cuts := by
  obtain ⟨_, _, _, e, h1, h2, h3⟩ := h
  injection e with e
  injection e with e
  injection e with e1 e
  injection e with e2 e
  injection e with e3 e
  injection e with e4 e
  injection e with e5 e
  subst e2 e4 e5
  exact ⟨h1, h2, h3⟩
theorem SepE.putObj {w0 m0 m W : World} {g b16 : Nat} {s : List Nat} {fs : List Can} (h : SepE w0 m0 m g b16 s fs W) {b : Nat} {o : Obj} (o' : Obj) (hb : W.heap[b]? = some o) (hlow : w0.heap.size ≤ b) (hn : ∀ cs t fr, o ≠ .cells cs t fr) : SepE w0 m0 m g b16 s fs (W.putObj b o') := by
  obtain ⟨m', fd, Rf, n, hL, hX, row, h0⟩ := h
  obtain ⟨m2, hL2, hX2⟩ := hL.putObj o' hb hlow (fun cs t fr e => by rw [hb] at e; exact hn cs t fr (Option.some.inj e))
  exact ⟨m2, fd, Rf, n, hL2, hX.trans hX2, RowA.le CanR.mono row hX2.le, h0⟩
def SepO (w0 m0 m : World) (b16 : Nat) (fs : List Can) (W' : World) : Prop :=
  ∃ m' fd Rf n, Loc w0 m0 W' m' ((b16, 121, #[fd]) :: Rf) ∧ Ext m m' ∧ RowA 128 6 CanR m' fd n fs Rf ∧ (n = 0 → fd = .slice none 0 0)
theorem SepO.putObj {w0 m0 m W : World} {b16 : Nat} {fs : List Can} (h : SepO w0 m0 m b16 fs W) {b : Nat} {o : Obj} (o' : Obj) (hb : W.heap[b]? = some o) (hlow : w0.heap.size ≤ b) (hn : ∀ cs t fr, o ≠ .cells cs t fr) : SepO w0 m0 m b16 fs (W.putObj b o') := by
  obtain ⟨m', fd, Rf, n, hL, hX, row, h0⟩ := h
  obtain ⟨m2, hL2, hX2⟩ := hL.putObj o' hb hlow (fun cs t fr e => by rw [hb] at e; exact hn cs t fr (Option.some.inj e))
  exact ⟨m2, fd, Rf, n, hL2, hX.trans hX2, RowA.le CanR.mono row hX2.le, h0⟩
theorem srtC_one {xs : List Can} (h : xs.length ≤ 1) : srtC xs = xs := by
  match xs, h with
  | [], _ => rfl
  | [x], _ => rfl
theorem enter_go {P : Program} {f : FuncId} {fn : Func} {c : Code} (h1 : P.funcs[f]? = some fn) (h2 : (fn.name == "runtime.NumGoroutine") = false) (h3 : fn.body = some c) (args : Array Value) (w : World) : (callFunc f args).run P w = .ok (.enter f args) w := by
  have h4 : fn.name ≠ "runtime.NumGoroutine" := fun e => by rw [e] at h2; cases h2
  simp [callFunc, h1, h4, h3]
theorem enter_subs (args : Array Value) (w : World) : (callFunc 160 args).run Tryz.prog w = .ok (.enter 160 args) w := enter_go Tryz.func160 (by kernel_rfl) rfl args w
theorem subs_le1 {n sz : Nat} (hn : n ≤ sz) (h3 : 3 ≤ sz) (h5 : sz ≤ 5) : (subsF n sz).length ≤ 1 := by
  by_cases h : n = sz
  · subst h; rw [subs_one h3 h5]; simp
  · unfold subsF; rw [if_neg (by omega)]; simp
theorem CanL.at_ {m : World} {A : Option Addr} {n c : Nat} {xs : List Can} (h : ListV 6 CanR m (.slice A n c) xs) {k : Nat} {x : Can} (hk : xs[k]? = some x) :
    ∃ b off R a e d gv A' n' c' f B p q, A = some ⟨b, off, none⟩ ∧ CutR m (.agg #[.slice R a e, .int .i64 d]) x.1 ∧ m.rangeAt b (off + k * 6) [.slice R a e, .int .i64 d, .bool gv, .slice A' n' c', .bool f, .slice B p q] := by
  obtain ⟨b, off, v, e, ⟨R, a, c, d, gv, A', n', c', f, B, p, q, rfl, h1, h2⟩, _, hr⟩ := ListV.at_ h (by omega) hk
  exact ⟨b, off, R, a, c, d, gv, A', n', c', f, B, p, q, e, h1, hr⟩
theorem cutS_ok {ms : Ms} (ok : MsOk ms) {d sz : Nat} {s : List Nat} (hl : s.length = sz) (hp : s.Pairwise (· < ·)) (hs : ∀ i ∈ s, i < ms.rows.length) (hd2 : 2 ≤ d) (hds : d < sz) (h5 : sz ≤ 5) : CutOk ms.rows (cutS ms d s) := by
  have hpw := asc_pw ok.asc
  have hg : ∀ i, i < ms.rows.length → ms.rows[i]? = some (ms.rows.getD i 0) := fun i hi => by
    rw [List.getD_eq_getElem?_getD, List.getElem?_eq_getElem hi]; rfl
  refine ⟨ascP_of ?_, fun r hr => ?_, by show (2 : Int) ≤ (d : Int); omega, ?_, ?_⟩
  · show (rowsS ms.rows s).Pairwise (· < ·)
    unfold rowsS
    rw [List.pairwise_map]
    refine hp.imp_of_mem fun {a b} ha hb hab => ?_
    have h1 := hg a (hs a ha)
    have h2 := hg b (hs b hb)
    obtain ⟨hla, e1⟩ := List.getElem?_eq_some_iff.1 h1
    obtain ⟨hlb, e2⟩ := List.getElem?_eq_some_iff.1 h2
    rw [← e1, ← e2]
    exact List.pairwise_iff_getElem.1 hpw a b hla hlb hab
  · obtain ⟨i, hi, rfl⟩ := List.mem_map.1 (show r ∈ rowsS ms.rows s from hr)
    exact List.mem_of_getElem? (hg i (hs i hi))
  · show (d : Int) ≤ ((rowsS ms.rows s).length : Int)
    unfold rowsS
    rw [List.length_map, hl]; omega
  · show (rowsS ms.rows s).length ≤ 1000000
    unfold rowsS
    rw [List.length_map, hl]; omega

set_option maxRecDepth 100000 in
set_option maxHeartbeats 64000000 in
theorem u_SepOne (mv vv : Value) (ms : Ms) (us : List Rat) (sz d most : Nat) (w m : World) (hV : Vw m w) (hm : MasterR m mv ms) (hvv : FracL m vv us) (ok : VOk ms us) (h5 : ms.rows.length ≤ 5) (h6 : ms.cols.length ≤ 6) (hone : ms.rows.length ≤ sz) (hs3 : 3 ≤ sz) (hs5 : sz ≤ 5) (hd2 : 2 ≤ d) (hdz : d < sz) (hm1 : 1 ≤ most) (hmo : most ≤ 1000) :
    Calls Tryz.prog 39 #[mv, vv, .int .i64 sz, .int .i64 d, .int .i64 most] w (RetV w m fun m' r => ∃ v, r = .tuple #[v, .int .i64 0] ∧ CutL m' v (sepF ms us sz d most)) := by
  have HM := Lib.hid hm
  have HVV := Lib.hid hvv
  have OK := Lib.hid ok
  have SG := Lib.hid (sepG ok h5 h6)
  obtain ⟨A, nr, ca, B, nc, cb, C, nk, cc, rfl, hm1⟩ := hm.lit
  obtain ⟨V, cv, rfl, hcv, hvv1⟩ := hvv.lit
  obtain ⟨p1, p2, p3⟩ := hm1.parts
  have hnr := p1.n_is
  have hul : us.length = nc := ok.len.trans p2.n_is.symm
  have SO := Lib.hid (subs_ok (n := nr) (size := sz) (by omega) hs3 hs5)
  have HRO := Lib.hid p1
  have HCU := Lib.hid p3
  have KV : Hid (∀ w m', Vw m' w → Le m m' → Calls Tryz.prog 68 #[.agg #[.int .i64 ms.nf, .slice A nr ca, .int .i64 ms.pen, .slice B nc cb, .slice C nk cc]] w (RetV w m' fun _ r => r = .int .i64 0)) := by
    show ∀ w m', _
    exact fun w m' hV hle => m_ValidateMaster _ _ w m' hV (HM.out.le hle) ok.ms
  have KG : Hid (∀ w m', Vw m' w → Le m m' → Calls Tryz.prog 99 #[.agg #[.int .i64 ms.nf, .slice A nr ca, .int .i64 ms.pen, .slice B nc cb, .slice C nk cc], .slice V us.length cv] w (GrpPost w m' (grpF ms.rows ms.cols us))) := by
    show ∀ w m', _
    exact fun w m' hV hle => u_groups _ _ _ us w m' hV (HM.out.le hle) (FracL.le HVV.out hle) ok h5 h6
  have HGT : Hid (∀ x ∈ grpF ms.rows ms.cols us, Tw 108 x.2.1) := by
    show ∀ x ∈ _, _
    exact fun x hx => (grpT_tw ms.rows ok.tw _ x (List.mem_filter.1 hx |>.1)).mono (by omega)
  have HGL : Hid ((grpF ms.rows ms.cols us).length ≤ 6) := Nat.le_trans (grpF_len ms.rows ms.cols us) h6
  have HNR := Lib.hid hnr
  have hL := Loc.start hV
  have hz3 : (3 : Int) ≤ (sz : Int) := by omega
  have hz5 : (sz : Int) ≤ 5 := by omega
  have hz2 : (2 : Int) ≤ (d : Int) := by omega
  have hzd : (d : Int) < (sz : Int) := by omega
  have hz0 : (0 : Int) ≤ (most : Int) := by omega
  have hb1 : decide ((sz : Int) < 3) = false := decide_eq_false (by omega)
  have hb2 : decide ((5 : Int) < (sz : Int)) = false := decide_eq_false (by omega)
  have hb3 : decide ((d : Int) < 2) = false := decide_eq_false (by omega)
  have hb4 : decide ((sz : Int) ≤ (d : Int)) = false := decide_eq_false (by omega)
  have hb5 : decide ((most : Int) < 0) = false := decide_eq_false (by omega)
  have hnr5 : nr ≤ 5 := by omega
  have hns : nr ≤ sz := by omega
  rw [hul] at KG hcv ⊢
  clear hV ok hvv1 HM HVV hul p1 p2 p3 hm1 hnr h5 h6 hone
  refine callsIn_wide.1 (callsIn_of_wp_marks (n := 0) (F := Fence.wide) Tryz.func39 rfl trivial ?_)
  refine wpIn_wide.2 ?_
  simp only [Tryz.ntmps39, List.size_toArray, List.length_cons, List.length_nil, Nat.reduceAdd, Nat.reduceSub, Array.replicate_succ, Array.replicate_zero, List.push_toArray, List.append_toArray, List.nil_append, List.cons_append]
  generalize ms.nf = nf at *
  generalize ms.pen = pen at *
  go_upto_region 0 with (fail)
  refine wp_region_lit ?_
  refine t_box hL rfl rfl ?_
  clear hL
  intro W5 m5 hL e5
  simp only [Act.put, zq1, zq2, zq3]
  refine wl_box1 hL (wanted_none rfl) (v := .int .i64 (sz : Int)) rfl rfl rfl ?_
  clear hL
  intro W7 m7 hL e7
  simp only [Act.put, zq1, zq2, zq3]
  refine wl_box1 hL (wanted_none rfl) (v := .int .i64 (d : Int)) rfl rfl rfl ?_
  clear hL
  intro W8 m8 hL e8
  simp only [Act.put, zq1, zq2, zq3]
  obtain ⟨m9, hL9, hle9, hsl9⟩ := Loc.show1 (A := [(_, _, _), (_, _, _)]) hL 5
  obtain ⟨m10, hL10, hle10, hsl10⟩ := Loc.show1 (A := [(_, _, _)]) hL9 1
  obtain ⟨m11, hL11, hle11, hsl11⟩ := Loc.show1 (A := []) hL10 1
  have hr5 := Sl.range ((hsl9.le hle10).le hle11)
  have hc5 := (((hsl9.le hle10).le hle11).cell (j := 1) rfl)
  have hc6 := (((hsl9.le hle10).le hle11).cell (j := 3) rfl)
  have hc9 := (((hsl9.le hle10).le hle11).cell (j := 4) rfl)
  have hc7 := ((hsl10.le hle11).cell (j := 0) rfl)
  have hc8 := (hsl11.cell (j := 0) rfl)
  clear hL hL9 hL10 hsl9 hsl10 hsl11 hle9 hle10 hle11 e5 e7 e8
  have hL := hL11
  clear hL11
  have hX11 := hL.mext
  generalize w.heap.size = b5 at *
  generalize W5.heap.size = b7 at *
  generalize W7.heap.size = b8 at *
  go_wp2_with (first | ((with_reducible refine kAny ?_); go_skip) | (with_reducible refine stA ?_) | ((first | refine tIx ?_ | refine tFd ?_ | refine tLd ?_ | ((first | refine tSr ?_ | refine tSt ?_); clear hL; intro _ hL; simp only [splice, zq1, zq2, zq3] at hL) | ((first | refine tBx ?_ | refine tAl ?_); clear hL; intro _ _ hL _) | (refine tBs ?_; clear hL; intro _ _ hL _ hBs)); simp only [Act.put, zq1, zq2, zq3]))
  refine (KV.out _ _ hL.vw leX).mono ?_
  rintro e Wc1 ⟨_, mc1, rfl, hE, hMc1, hV, rfl⟩
  replace hL := hL.call hE (by assumption) hV; clear hE hV
  go_wp2_with (first | ((with_reducible refine kAny ?_); go_skip) | (with_reducible refine stA ?_) | ((first | refine tIx ?_ | refine tFd ?_ | refine tLd ?_ | ((first | refine tSr ?_ | refine tSt ?_); clear hL; intro _ hL; simp only [splice, zq1, zq2, zq3] at hL) | ((first | refine tBx ?_ | refine tAl ?_); clear hL; intro _ _ hL _) | (refine tBs ?_; clear hL; intro _ _ hL _ hBs)); simp only [Act.put, zq1, zq2, zq3]))
  refine (KG.out _ _ hL.vw leX).mono ?_
  rintro e Wg ⟨vg, mg, Rg, ng, rfl, hLg, rowg⟩
  have hXg := hLg.mext
  have hJ := hL.join hLg
  rw [List.append_nil] at hJ
  obtain ⟨Ag, cg, rfl, rowg1⟩ := rowg.lit
  have hng : ng ≤ 6 := by have := rowg1.len; have := HGL.out; omega
  have HROW := Lib.hid rowg1
  clear hL hLg rowg rowg1
  have hL := hJ
  clear hJ KG KV
  go_wp2_with (first | ((with_reducible refine kAny ?_); go_skip) | (with_reducible refine stA ?_) | ((first | refine tIx ?_ | refine tFd ?_ | refine tLd ?_ | ((first | refine tSr ?_ | refine tSt ?_); clear hL; intro _ hL; simp only [splice, zq1, zq2, zq3] at hL) | ((first | refine tBx ?_ | refine tAl ?_); clear hL; intro _ _ hL _) | (refine tBs ?_; clear hL; intro _ _ hL _ hBs)); simp only [Act.put, zq1, zq2, zq3]))
  have hP := hL.perm (List.perm_append_singleton _ _).symm
  refine (u_scale (A := [_]) hP (RowA.le GrpR.mono HROW.out leX) (by omega) HGT.out).mono ?_
  rintro e Ws ⟨m12, Rs, rfl, hLs, hXs, rows⟩
  have hP2 := hLs.perm (List.perm_append_singleton _ _)
  obtain ⟨m13, hL13, hle13, hgl, -⟩ := RowA.show (A := [_]) GrpR.mono hP2 rows
  have HGLS := Lib.hid hgl
  clear hL hP hLs hP2 rows HROW HGT
  have hL := hL13
  have HLE13 : Hid (Le m11 m13) := (leX : Le m11 m12).trans hle13
  clear hL13 hle13 hXs hXg hgl
  replace hr5 := rangeAt_le hr5 HLE13.out
  replace hc5 := HLE13.out.cell _ _ hc5
  replace hc6 := HLE13.out.cell _ _ hc6
  replace hc9 := HLE13.out.cell _ _ hc9
  replace hc7 := HLE13.out.cell _ _ hc7
  replace hc8 := HLE13.out.cell _ _ hc8
  generalize hcm : cmF (grpF ms.rows ms.cols us) = cm at *
  generalize hls : (grpF ms.rows ms.cols us).map (scF cm) = ls at *
  clear hcm hls
  go_upto_region 10 with ((first | ((with_reducible refine kAny ?_); go_skip) | (with_reducible refine stA ?_) | ((first | refine tIx ?_ | refine tFd ?_ | refine tLd ?_ | ((first | refine tSr ?_ | refine tSt ?_); clear hL; intro _ hL; simp only [splice, zq1, zq2, zq3] at hL) | ((first | refine tBx ?_ | refine tAl ?_); clear hL; intro _ _ hL _) | (refine tBs ?_; clear hL; intro _ _ hL _ hBs)); simp only [Act.put, zq1, zq2, zq3])))
  obtain ⟨w16, rfl⟩ := hL.world
  obtain ⟨m14, hL14, hle14, hs14⟩ := Loc.show1 (A := [_, _]) hL 1
  obtain ⟨m15, hL15, hle15, hs15⟩ := Loc.show1 (A := [_]) hL14 1
  obtain ⟨m16, hL16, hle16, hs16⟩ := Loc.show1 (A := []) hL15 1
  have hc13 := ((hs14.le hle15).le hle16).cell (j := 0) rfl
  have hc14 := (hs15.le hle16).cell (j := 0) rfl
  have hc15 := hs16.cell (j := 0) rfl
  have HLE16 : Hid (Le m13 m16) := Le.trans leX (hle14.trans (hle15.trans hle16))
  clear hL hL14 hL15 hle14 hle15 hle16 hs14 hs15 hs16
  have hL := hL16
  clear hL16
  replace hr5 := rangeAt_le hr5 HLE16.out
  replace hc5 := HLE16.out.cell _ _ hc5
  replace hc6 := HLE16.out.cell _ _ hc6
  replace hc9 := HLE16.out.cell _ _ hc9
  replace hc7 := HLE16.out.cell _ _ hc7
  replace hc8 := HLE16.out.cell _ _ hc8
  have HGL16 := Lib.hid (ListV.le GrpR.mono HGLS.out HLE16.out)
  have HLE0 : Hid (Le m m16) := hL.mext.le
  go_wp2_with (first | ((with_reducible refine kAny ?_); go_skip) | (with_reducible refine stA ?_) | ((first | refine tIx ?_ | refine tFd ?_ | refine tLd ?_ | ((first | refine tSr ?_ | refine tSt ?_); clear hL; intro _ hL; simp only [splice, zq1, zq2, zq3] at hL) | ((first | refine tBx ?_ | refine tAl ?_); clear hL; intro _ _ hL _) | (refine tBs ?_; clear hL; intro _ _ hL _ hBs)); simp only [Act.put, zq1, zq2, zq3]))
  refine (u_subsets (nr : Int) (sz : Int) _ _ hL.vw).mono ?_
  rintro e W3 ⟨_, m3, rfl, hE, hM3, hV, bs, bn, rfl, hbs, hbn⟩
  replace hL := hL.call hE (by assumption) hV; clear hE hV
  go_wp2_with (first | ((with_reducible refine kAny ?_); go_skip) | (with_reducible refine stA ?_) | ((first | refine tIx ?_ | refine tFd ?_ | refine tLd ?_ | ((first | refine tSr ?_ | refine tSt ?_); clear hL; intro _ hL; simp only [splice, zq1, zq2, zq3] at hL) | ((first | refine tBx ?_ | refine tAl ?_); clear hL; intro _ _ hL _) | (refine tBs ?_; clear hL; intro _ _ hL _ hBs)); simp only [Act.put, zq1, zq2, zq3]))
  have hlow : w.heap.size ≤ W3.heap.size := hL.ext.size
  have HLE3 : Hid (Le m16 m3) := leX
  replace hc5 := HLE3.out.cell _ _ hc5
  replace hc9 := HLE3.out.cell _ _ hc9
  replace hc7 := HLE3.out.cell _ _ hc7
  replace hc8 := HLE3.out.cell _ _ hc8
  replace hc13 := HLE3.out.cell _ _ hc13
  replace hc14 := HLE3.out.cell _ _ hc14
  replace hc15 := HLE3.out.cell _ _ hc15
  have HRO3 := Lib.hid (IntL.le HRO.out (HLE0.out.trans HLE3.out))
  have HCU3 := Lib.hid (CutL.le HCU.out (HLE0.out.trans HLE3.out))
  have HGL3 := Lib.hid (ListV.le GrpR.mono HGL16.out HLE3.out)
  generalize w16.heap.size = b16 at *
  refine wp_rangeF (n := 0) (gf := 160) rfl (fun args w => enter_subs args w) rfl
    (fun k v W => ∃ s g, (subsF nr sz)[k]? = some s ∧ v = .slice (some ⟨g, 0, none⟩) sz sz ∧ SepE w m m3 g b16 s (fndT ms us sz d k) W)
    (fun k v W => ∃ s g, (subsF nr sz)[k]? = some s ∧ v = .slice (some ⟨g, 0, none⟩) sz sz ∧ SepE w m m3 g b16 s (fndT ms us sz d (k + 1)) W)
    (fun W => ∃ m', Loc w m W m' [(b16, 121, #[.slice none 0 0])] ∧ Ext m3 m')
    (SepO w m m3 b16 (fndF ms us sz d)) ?_ ?_ ?_ ?_ ?_ ?_ ?_
  · rintro k v W b o o' ⟨s, g, hk, hv, h⟩ hb ho hn
    exact ⟨s, g, hk, hv, h.putObj o' ho (Nat.le_trans hlow hb) hn⟩
  · rintro k v W b o o' ⟨s, g, hk, hv, h⟩ hb ho hn
    exact ⟨s, g, hk, hv, h.putObj o' ho (Nat.le_trans hlow hb) hn⟩
  · exact fun W b o o' h hb ho hn => h.putObj o' ho (Nat.le_trans hlow hb) hn
  · intro o o'
    obtain ⟨m1, h1, e1⟩ := hL.allocO o
    obtain ⟨m2, h2, e2⟩ := h1.allocO o'
    exact ⟨m2, h2, e1.trans e2⟩
  · intro l R hR hy W1 hS1 hR1
    obtain ⟨m1, hL1, hX1⟩ := hS1
    have ez : (#[Value.func (.yield l) #[] #[]] ++ #[Value.pointer (some ⟨bs, 0, none⟩), .pointer (some ⟨bn, 0, none⟩)] : Array Value) = #[.func (.yield l) #[] #[], .pointer (some ⟨bs, 0, none⟩), .pointer (some ⟨bn, 0, none⟩)] := rfl
    rw [ez]
    refine (it_one (nr := 0) (l := l) (n := nr) (size := sz) (bs := bs) (bn := bn) SO.out hns hnr5 hs3 hs5 (fun k m' Ls => ∃ fd Rf n, Ls = (b16, 121, #[fd]) :: Rf ∧ Ext m3 m' ∧ RowA 128 6 CanR m' fd n (fndT ms us sz d k) Rf ∧ (n = 0 → fd = .slice none 0 0)) R ?_ hR ?_ ?_ hL1 ⟨_, [], 0, rfl, hX1, RowA.nil, fun _ => rfl⟩ hR1).mono ?_
    · rintro k m' m'' Ls ⟨fd, Rf, n, rfl, hX, row, h0⟩ hX'
      exact ⟨fd, Rf, n, rfl, hX.trans hX', RowA.le CanR.mono row hX'.le, h0⟩
    · rintro k m' Ls ⟨fd, Rf, n, -, hX, -, -⟩
      exact ⟨hX.le.cell _ _ hbs, hX.le.cell _ _ hbn⟩
    · rintro k s g W m' Ls hk hL' ⟨fd, Rf, n, rfl, hX, row, h0⟩ hRW
      obtain ⟨fn, tmps, assign, body, hyl, hrd⟩ := hy k (.slice (some ⟨g, 0, none⟩) sz sz) W ⟨s, g, hk, rfl, m', fd, Rf, n, hL', hX, row, h0⟩ hRW
      refine ⟨fn, tmps, assign, body, hyl, hrd.mono ?_⟩
      rintro e W' ⟨rfl, ⟨s', g', hk', hv, m2, fd2, Rf2, n2, hL2, hX2, row2, h02⟩, hRW'⟩
      rw [hk] at hk'
      injection hk' with hk'
      subst hk'
      injection hv with hv
      injection hv with hv
      injection hv with hv
      subst hv
      exact ⟨rfl, m2, _, hL2, ⟨fd2, Rf2, n2, rfl, hX2, row2, h02⟩, hRW'⟩
    · rintro e W' ⟨hv, m', Ls', hL', ⟨fd, Rf, n, rfl, hX, row, h0⟩, hR'⟩
      refine ⟨hv, ⟨m', fd, Rf, n, hL', hX, ?_, h0⟩, hR'⟩
      rw [HNR.out] at row
      exact row
  · intro l k v W
    simp only [zq1, zq2, zq3]
    refine wpIn_lit (fun _ _ h => h) rfl ?_
    go_wp2_with (first | ((with_reducible refine kAny ?_); go_skip) | (with_reducible refine stA ?_) | ((first | refine tIx ?_ | refine tFd ?_ | refine tLd ?_ | ((first | refine tSr ?_ | refine tSt ?_); clear hL; intro _ hL; simp only [splice, zq1, zq2, zq3] at hL) | ((first | refine tBx ?_ | refine tAl ?_); clear hL; intro _ _ hL _) | (refine tBs ?_; clear hL; intro _ _ hL _ hBs)); simp only [Act.put, zq1, zq2, zq3]))
    refine And.intro (by trivial) ?_
    rintro W2 ⟨s, g, hk, rfl, mm, fd, Rf, n', hL2, hX2, row2, h02⟩
    have hsm := List.mem_of_getElem? hk
    have hn' : n' ≤ 1000 := by
      have h1 := row2.len
      have h2 := fndT_len ms us sz d k
      have h3 := SO.out.few
      have h4 := (List.getElem?_eq_some_iff.1 hk).1
      omega
    have hlt : ∀ i ∈ s, i < nr := SO.out.lt s hsm
    refine wpIn_mono (sep_round (n := 0) (ms := ms) (us := us) rfl hL2 row2 h02 hn' (hX2.le.cell _ _ hc5) (hX2.le.cell _ _ hc9) (hX2.le.cell _ _ hc7) (hX2.le.cell _ _ hc8) (hX2.le.cell _ _ hc13) (hX2.le.cell _ _ hc14) (hX2.le.cell _ _ hc15)
      (IntL.le HRO3.out hX2.le) (CutL.le HCU3.out hX2.le) (ListV.le GrpR.mono HGL3.out hX2.le) SG.out OK.out (SO.out.len s hsm) hlt HNR.out hnr5 hs3 hs5 hd2 hdz (cutS_ok OK.out.ms (SO.out.len s hsm) (SO.out.asc s hsm) (fun i hi => by have := hlt i hi; have := HNR.out; omega) hd2 hdz hs5)) ?_
    rintro e a W' h
    cases e with
    | normal =>
      obtain ⟨hs, m', fd', Rf', n2, h1, h2, h3, h4⟩ := h
      refine And.intro hs ⟨s, g, hk, rfl, m', fd', Rf', n2, h1, hX2.trans h2, ?_, h4⟩
      rw [HNR.out] at hk
      rw [fndT_step hk]
      exact h3
    | ret => exact h.elim
    | exit id => exact h.elim
    | goto t => exact h.elim
    | panic ch => exact h.elim
    | outgrown => exact h.elim
  · intro D W hD hE hK
    obtain ⟨m', fd, Rf, n', hL', hX', row, h0⟩ := hE
    have hn1 : n' ≤ 1 := by
      have h1 := row.len
      have h2 := fndT_len ms us sz d (subsF ms.rows.length sz).length
      have h3 := subs_le1 hns hs3 hs5
      rw [HNR.out] at h3
      have h4 : (fndF ms us sz d).length = (fndT ms us sz d (subsF ms.rows.length sz).length).length := rfl
      omega
    have HSF : Hid (sepF ms us sz d most = (fndF ms us sz d).map Prod.fst) := by
      show _ = _
      unfold sepF
      have h1 := row.len
      rw [srtC_one (by omega), List.take_of_length_le (by rw [List.length_map]; omega)]
    generalize fndF ms us sz d = fs at *
    obtain ⟨A11, c11, rfl, row1⟩ := row.lit
    have ROW := Lib.hid row1
    clear hL row row1
    have hL := hL'
    clear hL'
    have HFN : Hid (fs.length = n') := ROW.out.len.symm
    have hmn : (n' : Int) ≤ (most : Int) := by omega
    have hnn : ∀ cs t fr, Obj.deferred (some []) ≠ .cells cs t fr := fun _ _ _ e => by cases e
    dsimp only
    go_wp2_with (first | ((with_reducible refine kAny ?_); go_skip) | (with_reducible refine stA ?_) | ((first | refine tIx ?_ | refine tFd ?_ | refine tLd ?_ | ((first | refine tSr ?_ | refine tSt ?_); clear hL; intro _ hL; simp only [splice, zq1, zq2, zq3] at hL) | ((first | refine tBx ?_ | refine tAl ?_); clear hL; intro _ _ hL _) | (refine tBs ?_; clear hL; intro _ _ hL _ hBs)); simp only [Act.put, zq1, zq2, zq3]))
    refine (s_Sort1 A11 n' c11 hn1 _ _ hL.vw).mono ?_
    rintro e W4 ⟨_, m4, rfl, hE, hM4, hV, -⟩
    have HK4 := Lib.hid (hE.still _ _ hK hnn)
    replace hL := hL.call hE (by assumption) hV; clear hE hV
    obtain ⟨m9, hL9, hle9, hl9, -⟩ := RowA.show (A := [_]) CanR.mono hL (RowA.le CanR.mono ROW.out leX)
    have HL9 := Lib.hid hl9
    have hcap : (n' : Int) ≤ (c11 : Int) := by
      obtain ⟨_, _, _, e, hc, _⟩ := hl9
      injection e with e1 e2 e3
      subst e2 e3
      omega
    have hmin : min (most : Int) (n' : Int) = (n' : Int) := by omega
    have hn0 : (0 : Int) ≤ (n' : Int) := by omega
    clear hL hle9 hl9 ROW hK
    have hL := hL9
    clear hL9
    go_wp2_with (first | ((with_reducible refine kAny ?_); go_skip) | (with_reducible refine stA ?_) | ((first | refine tIx ?_ | refine tFd ?_ | refine tLd ?_ | ((first | refine tSr ?_ | refine tSt ?_); clear hL; intro _ hL; simp only [splice, zq1, zq2, zq3] at hL) | ((first | refine tBx ?_ | refine tAl ?_); clear hL; intro _ _ hL _) | (refine tBs ?_; clear hL; intro _ _ hL _ hBs)); simp only [Act.put, zq1, zq2, zq3]))
    have HLK := Lib.hid hL
    replace hL := Loc.start hL.vw
    go_loopw [25, 132] (fun ov iv wr => ∃ (j : Nat) (mm : World) (Ro : List Lo), j ≤ n' ∧ iv = .int .i64 j ∧ Loc W4 m9 wr mm Ro ∧ Hid (RowA 34 2 CutR mm ov j ((fs.map Prod.fst).take j) Ro)) (fun _ iv _ => n' - (intOf iv).toNat)
    case atStart => exact ⟨0, _, [], Nat.zero_le _, rfl, hL, RowA.nil⟩
    case round =>
      clear hL
      obtain ⟨j, mm, Ro, hj, rfl, hL, RO⟩ := hrel
      have hM := hL.mext
      obtain ⟨A12, c12, rfl, ro1⟩ := RO.out.lit
      have RO1 := Lib.hid ro1
      clear RO ro1
      by_cases hlt : j < n'
      · have hlt' : (j : Int) < (n' : Int) := by omega
        obtain ⟨x, hx⟩ := at_some HFN hlt
        have hl9 := HL9.out
        obtain ⟨b0, o0, R0, a0, e0, d0, g0, A0, k0, q0, f0, B0, p0, s0, rfl, hcu0, hr0⟩ := CanL.at_ hl9 hx
        have HCU0 := Lib.hid hcu0
        have HT : Hid ((fs.map Prod.fst).take j ++ [x.1] = (fs.map Prod.fst).take (j + 1)) := by
          show _ = _
          exact take_snoc (by rw [List.getElem?_map, hx]; rfl)
        clear hx hl9 hcu0
        go_wp2_with (first | ((with_reducible refine kAny ?_); go_skip) | (with_reducible refine stA ?_) | ((first | refine tIx ?_ | refine tFd ?_ | refine tLd ?_ | ((first | refine tSr ?_ | refine tSt ?_); clear hL; intro _ hL; simp only [splice, zq1, zq2, zq3] at hL) | ((first | refine tBx ?_ | refine tAl ?_); clear hL; intro _ _ hL _) | (refine tBs ?_; clear hL; intro _ _ hL _ hBs)); simp only [Act.put, zq1, zq2, zq3]))
        refine goA ?_
        obtain ⟨vs7, r7, z7, y7, l7⟩ := RO1.out
        refine wl_append (A := [_]) hL r7 (wanted_none rfl) rfl ap_Cuts (by omega) rfl rfl (news := [.slice R0 a0 e0, .int .i64 d0]) rfl ((Blk.sl hBs (n := 2) rfl).le hL.vw.le) rfl (by omega) (by omega) ?_
        clear hL
        intro v1 W5 m5 R5 hL r8 e8
        obtain ⟨A13, c13, rfl, -⟩ := r8.lit
        simp only [List.cons_append, List.nil_append] at hL
        have rd := RowA.snoc (R := CutR) (m := m5) (x := x.1) r8 z7 (y7.mono fun v x hv => hv.le leX) l7 rfl (HCU0.out.le leX)
        rw [HT.out] at rd
        have RD := Lib.hid rd
        clear rd r8 r7 z7 y7 l7
        simp only [Act.put, zq1, zq2, zq3]
        go_wp2_with (first | ((with_reducible refine kAny ?_); go_skip) | (with_reducible refine stA ?_) | ((first | refine tIx ?_ | refine tFd ?_ | refine tLd ?_ | ((first | refine tSr ?_ | refine tSt ?_); clear hL; intro _ hL; simp only [splice, zq1, zq2, zq3] at hL) | ((first | refine tBx ?_ | refine tAl ?_); clear hL; intro _ _ hL _) | (refine tBs ?_; clear hL; intro _ _ hL _ hBs)); simp only [Act.put, zq1, zq2, zq3]))
        go_roundw
        case rel => exact ⟨j + 1, m5, R5, by omega, by go_num, hL.tail, RD.out⟩
        case measure => simp [intOf] <;> omega
      · have hjn : n' = j := by omega
        subst hjn
        have h9 : (n' : Int) ≤ (n' : Int) := Int.le_refl _
        obtain ⟨m8, hL8, hle8, hl8, -⟩ := RowA.show (A := []) (R := CutR) (fun m m' v x h hb => CutR.le h hb) hL RO1.out
        rw [List.take_of_length_le (by rw [List.length_map, HFN.out]; exact Nat.le_refl _)] at hl8
        have HL8 := Lib.hid hl8
        clear hL RO1 hle8 hl8
        have hL := hL8
        clear hL8
        go_wp2_with (first | ((with_reducible refine kAny ?_); go_skip) | (with_reducible refine stA ?_) | ((first | refine tIx ?_ | refine tFd ?_ | refine tLd ?_ | ((first | refine tSr ?_ | refine tSt ?_); clear hL; intro _ hL; simp only [splice, zq1, zq2, zq3] at hL) | ((first | refine tBx ?_ | refine tAl ?_); clear hL; intro _ _ hL _) | (refine tBs ?_; clear hL; intro _ _ hL _ hBs)); simp only [Act.put, zq1, zq2, zq3]))
        have hKf := hL.ext.still _ _ HK4.out hnn
        obtain ⟨m7, hL7, hX7⟩ := (HLK.out.join hL).putObj (.deferred none) hKf (Nat.le_trans hlow hD) (fun cs t fr e => by rw [hKf] at e; cases e)
        refine And.intro (by simp) (Or.inl ⟨_, _, rfl, run_takeDeferred hKf, ?_⟩)
        exact ⟨_, results_tmp2 rfl _ _ _, RetV.mk hL7 ⟨_, rfl, by rw [HSF.out]; exact CutL.le HL8.out leX⟩⟩
end Go.Proofs.YtmhkmmmompediaaGreat

/- Contract of pairinglaw29.known. -/
namespace Go.Proofs.YtmhkmmmompediaaGreat
open Go.RowKit

def SepP (m : World) (v : Value) : Prop := ∃ x, v = .tuple #[x, .int .i64 0] ∧ CutL m x [([0, 1, 2], 2)]
theorem SepP.le {m m' : World} {v : Value} (h : SepP m v) (hb : Le m m') : SepP m' v := by
  obtain ⟨x, e, h⟩ := h
  exact ⟨x, e, CutL.le h hb⟩
theorem kn_take {j : Nat} (h : j < 3) : knM.cols.take j ++ [knC (j : Int) (((j : Int) + 1) % 3)] = knM.cols.take (j + 1) := by
  have : j = 0 ∨ j = 1 ∨ j = 2 := by omega
  rcases this with rfl | rfl | rfl <;> rfl
theorem kn_Sep (mv vv : Value) (w m : World) (hV : Vw m w) (hm : MasterR m mv knM) (hv : FracL m vv knU) :
    Calls Tryz.prog 39 #[mv, vv, .int .i64 3, .int .i64 2, .int .i64 10] w (RetV w m SepP) := by
  have h := u_SepOne mv vv knM knU 3 2 10 w m hV hm hv knV_ok (by decide) (by decide) (by decide) (by decide) (by decide) (by decide) (by decide) (by decide) (by decide)
  rw [kn_sep] at h
  exact h
theorem kn_Vio (mv xv vv : Value) (w m : World) (hV : Vw m w) (hm : MasterR m mv knM) (hx : CutR m xv ([0, 1, 2], 2)) (hv : FracL m vv knU) :
    Calls Tryz.prog 37 #[mv, xv, vv] w (RetV w m fun m' r => BvR m' r halfR.num halfR.den 0) := by
  have h := u_Violation_ok mv xv knM ([0, 1, 2], 2) vv knU w m hV hm hx hv knV_ok kn_cut
  rw [kn_vio] at h
  exact h
theorem kn_Right (xv : Value) (w m : World) (hV : Vw m w) (hx : CutR m xv ([0, 1, 2], 2)) : Calls Tryz.prog 35 #[xv] w (RetV w m fun _ r => r = .int .i64 1) :=
  u_RightSide xv ([0, 1, 2], 2) w m hV hx (by decide)

set_option maxRecDepth 100000 in
set_option maxHeartbeats 32000000 in
theorem kc_known (w m : World) (hV : Vw m w) : Calls Tryz.prog 32 #[] w (RetV w m fun _ r => r = .bool true) := by
  have hL := Loc.start hV
  clear hV
  go_enter Tryz.func32, Tryz.ntmps32
  go_upto_region 1 with ((first | ((with_reducible refine kAny ?_); go_skip) | (with_reducible refine stA ?_) | ((first | refine tIx ?_ | refine tFd ?_ | refine tLd ?_ | ((first | refine tSr ?_ | refine tSt ?_); clear hL; intro _ hL; simp only [splice, zq1, zq2, zq3] at hL) | (refine tAl ?_; clear hL; intro _ _ hL _) | (refine tBs ?_; clear hL; intro _ _ hL _ hBs)); simp only [Act.put, zq1, zq2, zq3])))
  go_upto_region 2 with ((first | (refine wl_bslice hL (wanted_none rfl) rfl (n := 3) (cs := #[.int .i64 0, .int .i64 1, .int .i64 2]) (e := 3) (fun w => by go_simp) ?_; clear hL; intro Wb mb hL eb hbb; simp only [Act.put, zq1, zq2, zq3]) | (first | ((with_reducible refine kAny ?_); go_skip) | (with_reducible refine stA ?_) | ((first | refine tIx ?_ | refine tFd ?_ | refine tLd ?_ | ((first | refine tSr ?_ | refine tSt ?_); clear hL; intro _ hL; simp only [splice, zq1, zq2, zq3] at hL) | (refine tAl ?_; clear hL; intro _ _ hL _) | (refine tBs ?_; clear hL; intro _ _ hL _ hBs)); simp only [Act.put, zq1, zq2, zq3]))))
  have HR : Hid (IntL mb (.slice (some ⟨w.heap.size, 0, none⟩) 3 3) [0, 1, 2]) := ListV.mk (vs := [.int .i64 0, .int .i64 1, .int .i64 2]) (by omega) rfl (fun u hu => by simp at hu; rcases hu with rfl | rfl | rfl <;> rfl) (Blk.sl hbb (n := 3) rfl) ⟨rfl, rfl, rfl, trivial⟩
  clear hbb
  go_wp2_with (first | ((with_reducible refine kAny ?_); go_skip) | (with_reducible refine stA ?_) | ((first | refine tIx ?_ | refine tFd ?_ | refine tLd ?_ | ((first | refine tSr ?_ | refine tSt ?_); clear hL; intro _ hL; simp only [splice, zq1, zq2, zq3] at hL) | (refine tAl ?_; clear hL; intro _ _ hL _) | (refine tBs ?_; clear hL; intro _ _ hL _ hBs)); simp only [Act.put, zq1, zq2, zq3]))
  go_loopw [2] (fun i wr => ∃ (j : Nat) (mm : World) (A7 : Option Addr) (c7 : Nat) (Rr : List Lo), j ≤ 3 ∧ i = .int .i64 (j : Int) ∧ Loc w m wr mm ((Wb.heap.size, 26, #[.int .i64 3, .slice (some ⟨w.heap.size, 0, none⟩) 3 3, .int .i64 10, .slice A7 j c7, .slice none 0 0]) :: Rr) ∧ Hid (RowA 72 3 ColR mm (.slice A7 j c7) j (knM.cols.take j) Rr) ∧ Hid (Ext mb mm)) (fun i _ => 3 - (intOf i).toNat)
  case atStart => exact ⟨0, _, none, 0, [], Nat.zero_le _, rfl, hL, RowA.nil, exX⟩
  case round =>
    have HMB := Lib.hid hL.mext
    clear hL
    obtain ⟨j, mm, A7, c7, Rr, hj, rfl, hL, ROW, HX⟩ := hrel
    have hX := HX.out
    by_cases hlt : j < 3
    · have hj3 : (j : Int) < 3 := by omega
      have HCJ := Lib.hid (kn_take hlt)
      go_wp2_with (first | (with_reducible refine stB ?_) | (first | ((with_reducible refine kAny ?_); go_skip) | (with_reducible refine stA ?_) | ((first | refine tIx ?_ | refine tFd ?_ | refine tLd ?_ | ((first | refine tSr ?_ | refine tSt ?_); clear hL; intro _ hL; simp only [splice, zq1, zq2, zq3] at hL) | (refine tAl ?_; clear hL; intro _ _ hL _) | (refine tBs ?_; clear hL; intro _ _ hL _ hBs)); simp only [Act.put, zq1, zq2, zq3])))
      refine goA ?_
      obtain ⟨wA, rfl⟩ := hL.world
      refine wl_bslice hL (wanted_none rfl) rfl (n := 2) (cs := #[.int .i64 (j : Int), .bool false, .int .i64 (((j : Int) + 1) % 3), .bool false]) (e := 111) (fun w => by go_simp) ?_
      clear hL
      intro W26 m26 hL e26 hb26
      simp only [Act.put, zq1, zq2, zq3]
      refine wl_bslice hL (wanted_none rfl) rfl (n := 1) (cs := #[.slice (some ⟨wA.heap.size, 0, none⟩) 2 2]) (e := 113) (fun w => by go_simp) ?_
      clear hL
      intro W27 m27 hL e27 hb27
      simp only [Act.put, zq1, zq2, zq3]
      have HDU : Hid (ColR m27 (.agg #[.string ⟨#[]⟩, .slice (some ⟨W26.heap.size, 0, none⟩) 1 1, .int .i64 0]) (knC (j : Int) (((j : Int) + 1) % 3))) := by
        refine ⟨_, rfl, ListV.mk (vs := [.slice (some ⟨wA.heap.size, 0, none⟩) 2 2]) (by omega) rfl (fun u hu => by simp at hu; rcases hu with rfl; rfl) (Blk.sl hb27 (n := 1) rfl) ⟨?_, trivial⟩⟩
        exact DutL.le (ListV.mk (vs := [.agg #[.int .i64 (j : Int), .bool false], .agg #[.int .i64 (((j : Int) + 1) % 3), .bool false]]) (by omega) rfl (fun u hu => by simp at hu; rcases hu with rfl | rfl <;> rfl) (Blk.sl hb26 (n := 4) rfl) ⟨rfl, rfl, trivial⟩) e27.le
      clear hb26 hb27
      go_wp2_with (first | ((with_reducible refine kAny ?_); go_skip) | (with_reducible refine stA ?_) | ((first | refine tIx ?_ | refine tFd ?_ | refine tLd ?_ | ((first | refine tSr ?_ | refine tSt ?_); clear hL; intro _ hL; simp only [splice, zq1, zq2, zq3] at hL) | (refine tAl ?_; clear hL; intro _ _ hL _) | (refine tBs ?_; clear hL; intro _ _ hL _ hBs)); simp only [Act.put, zq1, zq2, zq3]))
      refine goA ?_
      obtain ⟨vs7, r7, z7, y7, l7⟩ := ROW.out
      refine wl_append (A := [_]) hL r7 (wanted_none rfl) rfl ap_Cols (by omega) rfl rfl (news := [.string ⟨#[]⟩, .slice (some ⟨W26.heap.size, 0, none⟩) 1 1, .int .i64 0]) rfl ((Blk.sl hBs (n := 3) rfl).le hL.vw.le) rfl (by omega) (by omega) ?_
      clear hL
      intro v1 W5 m5 R5 hL r8 e8
      obtain ⟨A9, c9, rfl, -⟩ := r8.lit
      simp only [List.cons_append, List.nil_append] at hL
      have rd := RowA.snoc (R := ColR) (m := m5) (x := knC (j : Int) (((j : Int) + 1) % 3)) r8 z7 (y7.mono fun v x hv => ColR.mono _ _ _ _ hv leX) l7 rfl (ColR.mono _ _ _ _ HDU.out leX)
      rw [HCJ.out] at rd
      have RD := Lib.hid rd
      clear rd r8 r7 z7 y7 l7
      simp only [Act.put, zq1, zq2, zq3]
      go_wp2_with (first | ((with_reducible refine kAny ?_); go_skip) | (with_reducible refine stA ?_) | ((first | refine tIx ?_ | refine tFd ?_ | refine tLd ?_ | ((first | refine tSr ?_ | refine tSt ?_); clear hL; intro _ hL; simp only [splice, zq1, zq2, zq3] at hL) | (refine tAl ?_; clear hL; intro _ _ hL _) | (refine tBs ?_; clear hL; intro _ _ hL _ hBs)); simp only [Act.put, zq1, zq2, zq3]))
      go_roundw
      case rel => exact ⟨j + 1, _, A9, c9, R5, by omega, by go_num, hL, RD.out, exX⟩
      case measure => simp [intOf] <;> omega
    · obtain rfl : j = 3 := by omega
      have hj3 : ¬ ((3 : Nat) : Int) < 3 := by decide
      obtain ⟨m9, hL9, hle9, hl9, -⟩ := RowA.show (A := [_]) ColR.mono hL ROW.out
      have HMS : Hid (MasterR m9 (.agg #[.int .i64 3, .slice (some ⟨w.heap.size, 0, none⟩) 3 3, .int .i64 10, .slice A7 3 c7, .slice none 0 0]) knM) := ⟨_, _, _, rfl, IntL.le HR.out (Le.trans leX hle9), hl9, ListV.nil⟩
      have KS : Hid (∀ u m' vv, Vw m' u → Le m9 m' → FracL m' vv knU → Calls Tryz.prog 39 #[.agg #[.int .i64 3, .slice (some ⟨w.heap.size, 0, none⟩) 3 3, .int .i64 10, .slice A7 3 c7, .slice none 0 0], vv, .int .i64 3, .int .i64 2, .int .i64 10] u (RetV u m' SepP)) := by
        show ∀ u m' vv, _
        exact fun u m' vv hV hle hv => kn_Sep _ _ u m' hV (HMS.out.le hle) hv
      have KW : Hid (∀ u m' xv vv, Vw m' u → Le m9 m' → CutR m' xv ([0, 1, 2], 2) → FracL m' vv knU → Calls Tryz.prog 37 #[.agg #[.int .i64 3, .slice (some ⟨w.heap.size, 0, none⟩) 3 3, .int .i64 10, .slice A7 3 c7, .slice none 0 0], xv, vv] u (RetV u m' fun m'' r => BvR m'' r halfR.num halfR.den 0)) := by
        show ∀ u m' xv vv, _
        exact fun u m' xv vv hV hle hx hv => kn_Vio _ _ _ u m' hV (HMS.out.le hle) hx hv
      clear hL ROW
      have hL := hL9
      clear hL9 hl9
      go_upto_region 6 with ((first | ((with_reducible refine kAny ?_); go_skip) | (with_reducible refine stA ?_) | ((first | refine tIx ?_ | refine tFd ?_ | refine tLd ?_ | ((first | refine tSr ?_ | refine tSt ?_); clear hL; intro _ hL; simp only [splice, zq1, zq2, zq3] at hL) | (refine tAl ?_; clear hL; intro _ _ hL _) | (refine tBs ?_; clear hL; intro _ _ hL _ hBs)); simp only [Act.put, zq1, zq2, zq3])))
      clear hj3 hlt hj hX
      generalize w.heap.size = b0 at *
      refine wp_region_by2 9 [false, false, false, false, false, false, false, false, false] [false, false, false, false, false, false, false, false, true] [(fun v _ _ => v = ?c6_0), Of (fun um v => FracC um v halfR), Of (fun um v => FracC um v halfR), Of (fun um v => FracC um v halfR), Of (fun um v => FracL um v knU), Of (fun um v => SepP um v), Of (fun um v => SepP um v), Of (fun um v => CutL um v [([0, 1, 2], 2)]), Is (.int .i64 0)] hL.vw mixed [29, 30, 31, 32, 33, 34, 28, 35, 36] _ (by kernel_rfl) (fun vs => by simp only [lay, Act.put, zq1, zq2, zq3]; rfl) (by kernel_rfl) (by decide) (by decide) ?s6 ?l6 ?r6
      case s6 =>
        refine ⟨?_, ?_, ?_, ?_, ?_, ?_, ?_, ?_, ?_, trivial⟩
        · intro vs W1 m1 hE hM hV hD; clear hD; replace hL := hL.call hE hM hV
          exact sLd
        · intro vs W1 m1 hE hM hV hD; clear hD
          go_wp2_with fail
          refine (k_half _ _ hV).mono ?_
          rintro e W2 ⟨v, m2, rfl, hE2, hM2, hV2, h⟩
          go_wp2_with fail
          refine One2.call hE2 hM2 hV2 ?_; first | exact h | exact rfl
        · intro vs W1 m1 hE hM hV hD; clear hD
          go_wp2_with fail
          refine (k_half _ _ hV).mono ?_
          rintro e W2 ⟨v, m2, rfl, hE2, hM2, hV2, h⟩
          go_wp2_with fail
          refine One2.call hE2 hM2 hV2 ?_; first | exact h | exact rfl
        · intro vs W1 m1 hE hM hV hD; clear hD
          go_wp2_with fail
          refine (k_half _ _ hV).mono ?_
          rintro e W2 ⟨v, m2, rfl, hE2, hM2, hV2, h⟩
          go_wp2_with fail
          refine One2.call hE2 hM2 hV2 ?_; first | exact h | exact rfl
        · intro vs W1 m1 hE hM hV hD; obtain ⟨⟨_, _, -, i30, f30⟩, ⟨_, _, -, i31, f31⟩, ⟨_, _, -, i32, f32⟩, -⟩ := hD; have f30 : FracC _ (vs 30) halfR := f30; replace f30 := f30.le i30.le; clear i30; have f31 : FracC _ (vs 31) halfR := f31; replace f31 := f31.le i31.le; clear i31; have f32 : FracC _ (vs 32) halfR := f32; replace f32 := f32.le i32.le; clear i32
          (obtain ⟨g1, A1, n1, c1, h1, B1, k1, d1, e1, f30⟩ := f30.lit; generalize vs 30 = x30 at e1 ⊢; subst x30; obtain ⟨g2, A2, n2, c2, h2, B2, k2, d2, e2, f31⟩ := f31.lit; generalize vs 31 = x31 at e2 ⊢; subst x31; obtain ⟨g3, A3, n3, c3, h3, B3, k3, d3, e3, f32⟩ := f32.lit; generalize vs 32 = x32 at e3 ⊢; subst x32; go_wp2_with fail; refine one2_new hV fun m' hx hb => ?_; exact ListV.mk (vs := [.agg #[.bool g1, .slice A1 n1 c1, .bool h1, .slice B1 k1 d1], .agg #[.bool g2, .slice A2 n2 c2, .bool h2, .slice B2 k2 d2], .agg #[.bool g3, .slice A3 n3 c3, .bool h3, .slice B3 k3 d3]]) (by omega) rfl (fun u hu => by simp at hu; rcases hu with rfl | rfl | rfl <;> rfl) (Blk.sl hb (n := 12) rfl) ⟨f30.le hx.le, f31.le hx.le, f32.le hx.le, trivial⟩)
        · intro vs W1 m1 hE hM hV hD; obtain ⟨⟨_, _, -, -, f29⟩, ⟨_, _, -, i33, f33⟩, -, -⟩ := hD; have f29 : vs 29 = _ := f29; generalize vs 29 = x29 at f29 ⊢; subst x29; have f33 : FracL _ (vs 33) knU := f33; replace f33 := f33.le i33.le; clear i33
          go_wp2_with fail
          refine (KS.out _ _ _ hV leX f33).mono ?_
          rintro e W2 ⟨v, m2, rfl, hE2, hM2, hV2, h⟩
          go_wp2_with fail
          refine One2.call hE2 hM2 hV2 ?_; first | exact h | exact rfl
        · intro vs W1 m1 hE hM hV hD; obtain ⟨⟨_, _, -, i34, f34⟩, -⟩ := hD; have f34 : SepP _ (vs 34) := f34; replace f34 := f34.le i34.le; clear i34
          go_wp2_with fail
          refine One2.still hV ?_; exact f34
        · intro vs W1 m1 hE hM hV hD; obtain ⟨⟨_, _, -, i28, f28⟩, -⟩ := hD; have f28 : SepP _ (vs 28) := f28; replace f28 := f28.le i28.le; clear i28; obtain ⟨u0, e28, k⟩ := f28; generalize vs 28 = x28 at e28 ⊢; subst x28; replace hL := hL.call hE hM hV
          go_wp2_with (first | ((with_reducible refine kAny ?_); go_skip) | (with_reducible refine stA ?_) | ((first | refine tIx ?_ | refine tFd ?_ | refine tLd ?_ | ((first | refine tSr ?_ | refine tSt ?_); clear hL; intro _ hL; simp only [splice, zq1, zq2, zq3] at hL) | (refine tAl ?_; clear hL; intro _ _ hL _) | (refine tBs ?_; clear hL; intro _ _ hL _ hBs)); simp only [Act.put, zq1, zq2, zq3]))
          refine One2.still hV ?_; exact k
        · intro vs W1 m1 hE hM hV hD; obtain ⟨⟨_, _, -, i28, f28⟩, -, -⟩ := hD; have f28 : SepP _ (vs 28) := f28; replace f28 := f28.le i28.le; clear i28; obtain ⟨u0, e28, k⟩ := f28; generalize vs 28 = x28 at e28 ⊢; subst x28; replace hL := hL.call hE hM hV
          go_wp2_with (first | ((with_reducible refine kAny ?_); go_skip) | (with_reducible refine stA ?_) | ((first | refine tIx ?_ | refine tFd ?_ | refine tLd ?_ | ((first | refine tSr ?_ | refine tSt ?_); clear hL; intro _ hL; simp only [splice, zq1, zq2, zq3] at hL) | (refine tAl ?_; clear hL; intro _ _ hL _) | (refine tBs ?_; clear hL; intro _ _ hL _ hBs)); simp only [Act.put, zq1, zq2, zq3]))
          refine One2.still hV ?_; exact rfl
      case l6 =>
        refine ⟨fun h => (by cases h), fun h => (by cases h), fun h => (by cases h), fun h => (by cases h), fun h => (by cases h), fun h => (by cases h), fun h => (by cases h), fun h => (by cases h), fun _ => ?_, trivial⟩
        · intro vs W1 m1 hE hM hV hD; obtain ⟨⟨_, _, -, i28, f28⟩, -, -⟩ := hD; have f28 : SepP _ (vs 28) := f28; replace f28 := f28.le i28.le; clear i28; obtain ⟨u0, e28, k⟩ := f28; generalize vs 28 = x28 at e28 ⊢; subst x28
          exact ⟨_, Or.inl ⟨(by rfl), fun w => (by rfl)⟩, rfl⟩
      intro vs W1 m1 hE hM hV hF hD
      clear hD
      obtain ⟨-, ⟨_, _, -, i30, f30⟩, ⟨_, _, -, i31, f31⟩, ⟨_, _, -, i32, f32⟩, ⟨_, _, -, i33, f33⟩, ⟨_, _, -, i34, f34⟩, ⟨_, _, -, i28, f28⟩, ⟨_, _, -, i35, f35⟩, ⟨_, _, -, -, f36⟩, -⟩ := hF
      replace hL := hL.call hE hM hV
      replace f30 : FracC _ (vs 30) halfR := f30
      replace f30 := f30.le i30.le
      clear i30
      replace f31 : FracC _ (vs 31) halfR := f31
      replace f31 := f31.le i31.le
      clear i31
      replace f32 : FracC _ (vs 32) halfR := f32
      replace f32 := f32.le i32.le
      clear i32
      replace f33 : FracL _ (vs 33) knU := f33
      replace f33 := f33.le i33.le
      clear i33
      replace f34 : SepP _ (vs 34) := f34
      replace f34 := f34.le i34.le
      clear i34
      replace f28 : SepP _ (vs 28) := f28
      replace f28 := f28.le i28.le
      clear i28
      replace f35 : CutL _ (vs 35) [([0, 1, 2], 2)] := f35
      replace f35 := f35.le i35.le
      clear i35
      have f36 : vs 36 = _ := f36
      generalize vs 36 = x36 at f36 ⊢
      subst x36
      clear hE hV
      obtain ⟨L3, c3, e35, -, f35⟩ := f35.lit
      generalize vs 35 = x35 at e35 ⊢
      subst x35
      simp only [List.drop_succ_cons, List.drop_zero]
      go_wp2_with (first | ((with_reducible refine kAny ?_); go_skip) | (with_reducible refine stA ?_) | ((first | refine tIx ?_ | refine tFd ?_ | refine tLd ?_ | ((first | refine tSr ?_ | refine tSt ?_); clear hL; intro _ hL; simp only [splice, zq1, zq2, zq3] at hL) | (refine tAl ?_; clear hL; intro _ _ hL _) | (refine tBs ?_; clear hL; intro _ _ hL _ hBs)); simp only [Act.put, zq1, zq2, zq3]))
      refine QN.mk ?_
      have hcu := f35
      clear f28 f34 f33 f32 f31 f30 f35 KS
      obtain ⟨b3, o3, A1, c1, rfl, hi, -, -, hq0, hq1, hrg⟩ := CutL.at_ hcu (show [(([0, 1, 2] : List Int), (2 : Int))][0]? = some ([0, 1, 2], 2) from rfl)
      rw [Nat.zero_mul, Nat.add_zero] at hq0 hq1 hrg
      simp only [List.length_cons, List.length_nil, Nat.zero_add, Nat.reduceAdd] at hi hq0 hq1 hrg hcu ⊢
      have HI := Lib.hid hi
      have HXR : Hid (CutR _ (.agg #[.slice A1 3 c1, .int .i64 2]) ([0, 1, 2], 2)) := ⟨_, rfl, hi, by decide⟩
      have hf := FracC.refl_len ((half_tw.fit (by decide)).mono (by decide))
      have HF1 := Lib.hid hf.1
      have HF2 := Lib.hid hf.2
      clear hcu hi hf
      generalize hnn : halfR.num = hn at *
      generalize hdd : (halfR.den : Int) = hd at *
      have HNN := Lib.hid hnn
      have HDD := Lib.hid hdd
      clear hnn hdd
      go_upto_region 9 with ((first | ((with_reducible refine kAny ?_); go_skip) | (with_reducible refine stA ?_) | ((first | refine tIx ?_ | refine tFd ?_ | refine tLd ?_ | ((first | refine tSr ?_ | refine tSt ?_); clear hL; intro _ hL; simp only [splice, zq1, zq2, zq3] at hL) | (refine tAl ?_; clear hL; intro _ _ hL _) | (refine tBs ?_; clear hL; intro _ _ hL _ hBs)); simp only [Act.put, zq1, zq2, zq3])))
      obtain ⟨B, hB1, hB2, hB3⟩ := hL.bound
      refine wp_region_by2 13 [false, false, false, false, false, false, false, false, false, false, false, false, true] [false, false, false, false, false, false, false, false, false, false, false, true, false] [(fun v _ _ => v = ?c9_0), (fun v _ _ => v = ?c9_1), (fun v _ _ => v = ?c9_2), (fun v _ _ => v = ?c9_3), Of (fun um v => FracC um v halfR), Of (fun um v => FracC um v halfR), Of (fun um v => FracC um v halfR), Of (fun um v => FracL um v knU), Of (fun um v => BvR um v hn hd 0), Of (fun um v => BvR um v hn hd 0), Of (fun um v => FracP um v hn hd), Is (.int .i64 0), NewBlk B 39 #[.bool false, .slice none 0 0, .bool false, .slice none 0 0]] hL.vw mixed [45, 46, 47, 48, 49, 50, 51, 52, 53, 44, 54, 55, 5] _ (by kernel_rfl) (fun vs => by simp only [lay, Act.put, zq1, zq2, zq3]; rfl) (by kernel_rfl) (by decide) (by decide) ?s9 ?l9 ?r9
      case s9 =>
        refine ⟨?_, ?_, ?_, ?_, ?_, ?_, ?_, ?_, ?_, ?_, ?_, ?_, ?_, trivial⟩
        · intro vs W1 m1 hE hM hV hD; clear hD; replace hL := hL.call hE hM hV
          exact sLd
        · intro vs W1 m1 hE hM hV hD; clear hD; replace hL := hL.call hE hM hV
          exact sPu
        · intro vs W1 m1 hE hM hV hD; obtain ⟨⟨_, _, -, -, f46⟩, -⟩ := hD; have f46 : vs 46 = _ := f46; generalize vs 46 = x46 at f46 ⊢; subst x46; replace hL := hL.call hE hM hV
          exact sIz
        · intro vs W1 m1 hE hM hV hD; obtain ⟨⟨_, _, -, -, f47⟩, -⟩ := hD; have f47 : vs 47 = _ := f47; generalize vs 47 = x47 at f47 ⊢; subst x47; replace hL := hL.call hE hM hV
          exact sLd
        · intro vs W1 m1 hE hM hV hD; clear hD
          go_wp2_with fail
          refine (k_half _ _ hV).mono ?_
          rintro e W2 ⟨v, m2, rfl, hE2, hM2, hV2, h⟩
          go_wp2_with fail
          refine One2.call hE2 hM2 hV2 ?_; first | exact h | exact rfl
        · intro vs W1 m1 hE hM hV hD; clear hD
          go_wp2_with fail
          refine (k_half _ _ hV).mono ?_
          rintro e W2 ⟨v, m2, rfl, hE2, hM2, hV2, h⟩
          go_wp2_with fail
          refine One2.call hE2 hM2 hV2 ?_; first | exact h | exact rfl
        · intro vs W1 m1 hE hM hV hD; clear hD
          go_wp2_with fail
          refine (k_half _ _ hV).mono ?_
          rintro e W2 ⟨v, m2, rfl, hE2, hM2, hV2, h⟩
          go_wp2_with fail
          refine One2.call hE2 hM2 hV2 ?_; first | exact h | exact rfl
        · intro vs W1 m1 hE hM hV hD; obtain ⟨⟨_, _, -, i49, f49⟩, ⟨_, _, -, i50, f50⟩, ⟨_, _, -, i51, f51⟩, -⟩ := hD; have f49 : FracC _ (vs 49) halfR := f49; replace f49 := f49.le i49.le; clear i49; have f50 : FracC _ (vs 50) halfR := f50; replace f50 := f50.le i50.le; clear i50; have f51 : FracC _ (vs 51) halfR := f51; replace f51 := f51.le i51.le; clear i51
          (obtain ⟨g1, A1, n1, c1, h1, B1, k1, d1, e1, f49⟩ := f49.lit; generalize vs 49 = x49 at e1 ⊢; subst x49; obtain ⟨g2, A2, n2, c2, h2, B2, k2, d2, e2, f50⟩ := f50.lit; generalize vs 50 = x50 at e2 ⊢; subst x50; obtain ⟨g3, A3, n3, c3, h3, B3, k3, d3, e3, f51⟩ := f51.lit; generalize vs 51 = x51 at e3 ⊢; subst x51; go_wp2_with fail; refine one2_new hV fun m' hx hb => ?_; exact ListV.mk (vs := [.agg #[.bool g1, .slice A1 n1 c1, .bool h1, .slice B1 k1 d1], .agg #[.bool g2, .slice A2 n2 c2, .bool h2, .slice B2 k2 d2], .agg #[.bool g3, .slice A3 n3 c3, .bool h3, .slice B3 k3 d3]]) (by omega) rfl (fun u hu => by simp at hu; rcases hu with rfl | rfl | rfl <;> rfl) (Blk.sl hb (n := 12) rfl) ⟨f49.le hx.le, f50.le hx.le, f51.le hx.le, trivial⟩)
        · intro vs W1 m1 hE hM hV hD; obtain ⟨⟨_, _, -, -, f45⟩, ⟨_, _, -, -, f48⟩, ⟨_, _, -, i52, f52⟩, -, -⟩ := hD; have f45 : vs 45 = _ := f45; generalize vs 45 = x45 at f45 ⊢; subst x45; have f48 : vs 48 = _ := f48; generalize vs 48 = x48 at f48 ⊢; subst x48; have f52 : FracL _ (vs 52) knU := f52; replace f52 := f52.le i52.le; clear i52
          go_wp2_with fail
          refine (KW.out _ _ _ _ hV leX (HXR.out.le leX) f52).mono ?_
          rintro e W2 ⟨v, m2, rfl, hE2, hM2, hV2, h⟩
          go_wp2_with fail
          refine One2.call hE2 hM2 hV2 ?_; first | exact h | exact rfl
        · intro vs W1 m1 hE hM hV hD; obtain ⟨⟨_, _, -, i53, f53⟩, -⟩ := hD; have f53 : BvR _ (vs 53) hn hd 0 := f53; replace f53 := f53.le i53.le; clear i53
          go_wp2_with fail
          refine One2.still hV ?_; exact f53
        · intro vs W1 m1 hE hM hV hD; obtain ⟨⟨_, _, -, i44, f44⟩, -⟩ := hD; have f44 : BvR _ (vs 44) hn hd 0 := f44; replace f44 := f44.le i44.le; clear i44; obtain ⟨u0, e44, k⟩ := f44; generalize vs 44 = x44 at e44 ⊢; subst x44; replace hL := hL.call hE hM hV
          go_wp2_with (first | ((with_reducible refine kAny ?_); go_skip) | (with_reducible refine stA ?_) | ((first | refine tIx ?_ | refine tFd ?_ | refine tLd ?_ | ((first | refine tSr ?_ | refine tSt ?_); clear hL; intro _ hL; simp only [splice, zq1, zq2, zq3] at hL) | (refine tAl ?_; clear hL; intro _ _ hL _) | (refine tBs ?_; clear hL; intro _ _ hL _ hBs)); simp only [Act.put, zq1, zq2, zq3]))
          refine One2.still hV ?_; exact k
        · intro vs W1 m1 hE hM hV hD; obtain ⟨⟨_, _, -, i44, f44⟩, -, -⟩ := hD; have f44 : BvR _ (vs 44) hn hd 0 := f44; replace f44 := f44.le i44.le; clear i44; obtain ⟨u0, e44, k⟩ := f44; generalize vs 44 = x44 at e44 ⊢; subst x44; replace hL := hL.call hE hM hV
          go_wp2_with (first | ((with_reducible refine kAny ?_); go_skip) | (with_reducible refine stA ?_) | ((first | refine tIx ?_ | refine tFd ?_ | refine tLd ?_ | ((first | refine tSr ?_ | refine tSt ?_); clear hL; intro _ hL; simp only [splice, zq1, zq2, zq3] at hL) | (refine tAl ?_; clear hL; intro _ _ hL _) | (refine tBs ?_; clear hL; intro _ _ hL _ hBs)); simp only [Act.put, zq1, zq2, zq3]))
          refine One2.still hV ?_; exact rfl
        · intro vs W1 m1 hE hM hV hD; clear hD
          exact one2_alloc hV (Nat.le_trans hB3 hE.size) rfl rfl rfl ZcC.h
      case l9 =>
        refine ⟨fun h => (by cases h), fun h => (by cases h), fun h => (by cases h), fun h => (by cases h), fun h => (by cases h), fun h => (by cases h), fun h => (by cases h), fun h => (by cases h), fun h => (by cases h), fun h => (by cases h), fun h => (by cases h), fun _ => ?_, fun h => (by cases h), trivial⟩
        · intro vs W1 m1 hE hM hV hD; obtain ⟨⟨_, _, -, i44, f44⟩, -, -⟩ := hD; have f44 : BvR _ (vs 44) hn hd 0 := f44; replace f44 := f44.le i44.le; clear i44; obtain ⟨u0, e44, k⟩ := f44; generalize vs 44 = x44 at e44 ⊢; subst x44
          exact ⟨_, Or.inl ⟨(by rfl), fun w => (by rfl)⟩, rfl⟩
      intro vs W1 m1 hE hM hV hF hD
      obtain ⟨-, -, -, -, ⟨_, _, -, i49, f49⟩, ⟨_, _, -, i50, f50⟩, ⟨_, _, -, i51, f51⟩, ⟨_, _, -, i52, f52⟩, ⟨_, _, -, i53, f53⟩, ⟨_, _, -, i44, f44⟩, ⟨_, _, -, i54, f54⟩, ⟨_, _, -, -, f55⟩, ⟨_, _, j5, i5, f5⟩, -⟩ := hF
      replace hL := hL.call hE hM hV
      replace f49 : FracC _ (vs 49) halfR := f49
      replace f49 := f49.le i49.le
      clear i49
      replace f50 : FracC _ (vs 50) halfR := f50
      replace f50 := f50.le i50.le
      clear i50
      replace f51 : FracC _ (vs 51) halfR := f51
      replace f51 := f51.le i51.le
      clear i51
      replace f52 : FracL _ (vs 52) knU := f52
      replace f52 := f52.le i52.le
      clear i52
      replace f53 : BvR _ (vs 53) hn hd 0 := f53
      replace f53 := f53.le i53.le
      clear i53
      replace f44 : BvR _ (vs 44) hn hd 0 := f44
      replace f44 := f44.le i44.le
      clear i44
      replace f54 : FracP _ (vs 54) hn hd := f54
      replace f54 := f54.le i54.le
      clear i54
      obtain ⟨g54, A54, n54, c54, h54, B54, k54, d54, e54, f54⟩ := f54.lit
      generalize vs 54 = x54 at e54 ⊢
      subst x54
      have f55 : vs 55 = _ := f55
      generalize vs 55 = x55 at f55 ⊢
      subst x55
      obtain ⟨b5, e5, hL⟩ := Loc.addB (Lt := []) hB1 hB2 hL f5 j5 i5 ad0
      simp only [e5, List.cons_append, List.nil_append] at hL ⊢
      clear e5 f5 j5 i5
      clear hB1 hB2 hB3 hD
      clear hE hV
      simp only [List.drop_succ_cons, List.drop_zero]
      go_wp2_with (first | ((with_reducible refine kAny ?_); go_skip) | (with_reducible refine stA ?_) | ((first | refine tIx ?_ | refine tFd ?_ | refine tLd ?_ | ((first | refine tSr ?_ | refine tSt ?_); clear hL; intro _ hL; simp only [splice, zq1, zq2, zq3] at hL) | (refine tAl ?_; clear hL; intro _ _ hL _) | (refine tBs ?_; clear hL; intro _ _ hL _ hBs)); simp only [Act.put, zq1, zq2, zq3]))
      refine QN.mk ?_
      have HFP := Lib.hid f54
      clear f54 f53 f52 f51 f50 f49 f44
      go_upto_region 10 with ((first | ((with_reducible refine kAny ?_); go_skip) | (with_reducible refine stA ?_) | ((first | refine tIx ?_ | refine tFd ?_ | refine tLd ?_ | ((first | refine tSr ?_ | refine tSt ?_); clear hL; intro _ hL; simp only [splice, zq1, zq2, zq3] at hL) | (refine tAl ?_; clear hL; intro _ _ hL _) | (refine tBs ?_; clear hL; intro _ _ hL _ hBs)); simp only [Act.put, zq1, zq2, zq3])))
      refine wp_region_by2 29 [false, false, false, false, false, false, false, false, false, false, false, false, false, false, false, false, false, false, false, false, false, false, false, false, false, false, false, false, false] [false, false, false, false, false, false, false, false, false, false, false, false, false, false, false, false, false, false, false, false, false, false, false, false, false, false, false, false, false] [(fun v _ _ => v = ?c10_0), (fun v _ _ => v = ?c10_1), (fun v _ _ => v = ?c10_2), (fun v _ _ => v = ?c10_3), (fun v _ _ => v = ?c10_4), (fun v _ _ => v = ?c10_5), (fun v _ _ => v = ?c10_6), Of (fun um v => IntL um v [0, 1, 2]), Is (.bool true), (fun v _ _ => v = ?c10_9), (fun v _ _ => v = ?c10_10), (fun v _ _ => v = ?c10_11), (fun v _ _ => v = ?c10_12), (fun v _ _ => v = ?c10_13), (fun v _ _ => v = ?c10_14), (fun v _ _ => v = ?c10_15), (fun v _ _ => v = ?c10_16), (fun v _ _ => v = ?c10_17), (fun v _ _ => v = ?c10_18), Of (fun um v => FracC um v halfR), Is (.bool true), (fun v _ _ => v = ?c10_21), (fun v _ _ => v = ?c10_22), (fun v _ _ => v = ?c10_23), (fun v _ _ => v = ?c10_24), (fun v _ _ => v = ?c10_25), Is (.int .i64 1), (fun v _ _ => v = ?c10_27), (fun v _ _ => v = ?c10_28)] hL.vw mixed [56, 57, 58, 59, 60, 61, 62, 63, 64, 65, 66, 67, 68, 69, 70, 71, 72, 73, 74, 75, 76, 77, 78, 79, 80, 81, 82, 83, 84] _ (by kernel_rfl) (fun vs => by simp only [lay, Act.put, zq1, zq2, zq3]; rfl) (by kernel_rfl) (by decide) (by decide) ?s10 ?l10 ?r10
      case s10 =>
        refine ⟨?_, ?_, ?_, ?_, ?_, ?_, ?_, ?_, ?_, ?_, ?_, ?_, ?_, ?_, ?_, ?_, ?_, ?_, ?_, ?_, ?_, ?_, ?_, ?_, ?_, ?_, ?_, ?_, ?_, trivial⟩
        · intro vs W1 m1 hE hM hV hD; clear hD; replace hL := hL.call hE hM hV
          exact sPu
        · intro vs W1 m1 hE hM hV hD; obtain ⟨⟨_, _, -, -, f56⟩, -⟩ := hD; have f56 : vs 56 = _ := f56; generalize vs 56 = x56 at f56 ⊢; subst x56; replace hL := hL.call hE hM hV
          exact sPu
        · intro vs W1 m1 hE hM hV hD; obtain ⟨⟨_, _, -, -, f57⟩, -⟩ := hD; have f57 : vs 57 = _ := f57; generalize vs 57 = x57 at f57 ⊢; subst x57; replace hL := hL.call hE hM hV
          exact sPu
        · intro vs W1 m1 hE hM hV hD; obtain ⟨⟨_, _, -, -, f58⟩, -⟩ := hD; have f58 : vs 58 = _ := f58; generalize vs 58 = x58 at f58 ⊢; subst x58; replace hL := hL.call hE hM hV
          exact sPu
        · intro vs W1 m1 hE hM hV hD; obtain ⟨⟨_, _, -, -, f59⟩, ⟨_, _, -, -, f58⟩, -⟩ := hD; have f59 : vs 59 = _ := f59; generalize vs 59 = x59 at f59 ⊢; subst x59; have f58 : vs 58 = _ := f58; generalize vs 58 = x58 at f58 ⊢; subst x58; replace hL := hL.call hE hM hV
          exact sIz
        · intro vs W1 m1 hE hM hV hD; obtain ⟨⟨_, _, -, -, f60⟩, ⟨_, _, -, -, f58⟩, -⟩ := hD; have f60 : vs 60 = _ := f60; generalize vs 60 = x60 at f60 ⊢; subst x60; have f58 : vs 58 = _ := f58; generalize vs 58 = x58 at f58 ⊢; subst x58; replace hL := hL.call hE hM hV
          exact sFd
        · intro vs W1 m1 hE hM hV hD; obtain ⟨⟨_, _, -, -, f61⟩, ⟨_, _, -, -, f58⟩, -⟩ := hD; have f61 : vs 61 = _ := f61; generalize vs 61 = x61 at f61 ⊢; subst x61; have f58 : vs 58 = _ := f58; generalize vs 58 = x58 at f58 ⊢; subst x58; replace hL := hL.call hE hM hV
          exact sLd
        · intro vs W1 m1 hE hM hV hD; obtain ⟨⟨_, _, -, -, f58⟩, -⟩ := hD; have f58 : vs 58 = _ := f58; generalize vs 58 = x58 at f58 ⊢; subst x58
          (go_wp2_with fail; refine one2_new hV fun m' hx hb => ?_; exact ListV.mk (vs := [.int .i64 0, .int .i64 1, .int .i64 2]) (by omega) rfl (fun u hu => by simp at hu; rcases hu with rfl | rfl | rfl <;> rfl) (Blk.sl hb (n := 3) rfl) ⟨rfl, rfl, rfl, trivial⟩)
        · intro vs W1 m1 hE hM hV hD; obtain ⟨⟨_, _, -, -, f62⟩, ⟨_, _, -, i63, f63⟩, ⟨_, _, -, -, f58⟩, -, -⟩ := hD; have f62 : vs 62 = _ := f62; generalize vs 62 = x62 at f62 ⊢; subst x62; have f58 : vs 58 = _ := f58; generalize vs 58 = x58 at f58 ⊢; subst x58; have f63 : IntL _ (vs 63) [0, 1, 2] := f63; replace f63 := f63.le i63.le; clear i63
          go_wp2_with fail
          refine (r_SameInts _ _ [0, 1, 2] _ _ hV (IntL.le HI.out leX) f63 (by decide)).mono ?_
          rintro e W2 ⟨v, m2, rfl, hE2, hM2, hV2, h⟩
          go_wp2_with fail
          refine One2.call hE2 hM2 hV2 ?_; first | exact h | exact rfl
        · intro vs W1 m1 hE hM hV hD; obtain ⟨⟨_, _, -, -, f58⟩, ⟨_, _, -, -, f64⟩, -⟩ := hD; have f58 : vs 58 = _ := f58; generalize vs 58 = x58 at f58 ⊢; subst x58; have f64 : vs 64 = _ := f64; generalize vs 64 = x64 at f64 ⊢; subst x64; replace hL := hL.call hE hM hV
          exact sPu
        · intro vs W1 m1 hE hM hV hD; obtain ⟨⟨_, _, -, -, f65⟩, -, -⟩ := hD; have f65 : vs 65 = _ := f65; generalize vs 65 = x65 at f65 ⊢; subst x65; replace hL := hL.call hE hM hV
          exact sPu
        · intro vs W1 m1 hE hM hV hD; obtain ⟨⟨_, _, -, -, f66⟩, -⟩ := hD; have f66 : vs 66 = _ := f66; generalize vs 66 = x66 at f66 ⊢; subst x66; replace hL := hL.call hE hM hV
          exact sPu
        · intro vs W1 m1 hE hM hV hD; obtain ⟨⟨_, _, -, -, f67⟩, ⟨_, _, -, -, f66⟩, -⟩ := hD; have f67 : vs 67 = _ := f67; generalize vs 67 = x67 at f67 ⊢; subst x67; have f66 : vs 66 = _ := f66; generalize vs 66 = x66 at f66 ⊢; subst x66; replace hL := hL.call hE hM hV
          exact sIz
        · intro vs W1 m1 hE hM hV hD; obtain ⟨⟨_, _, -, -, f68⟩, ⟨_, _, -, -, f66⟩, -⟩ := hD; have f68 : vs 68 = _ := f68; generalize vs 68 = x68 at f68 ⊢; subst x68; have f66 : vs 66 = _ := f66; generalize vs 66 = x66 at f66 ⊢; subst x66; replace hL := hL.call hE hM hV
          exact sFd
        · intro vs W1 m1 hE hM hV hD; obtain ⟨⟨_, _, -, -, f69⟩, ⟨_, _, -, -, f66⟩, -⟩ := hD; have f69 : vs 69 = _ := f69; generalize vs 69 = x69 at f69 ⊢; subst x69; have f66 : vs 66 = _ := f66; generalize vs 66 = x66 at f66 ⊢; subst x66; replace hL := hL.call hE hM hV
          exact sLd
        · intro vs W1 m1 hE hM hV hD; obtain ⟨⟨_, _, -, -, f70⟩, ⟨_, _, -, -, f66⟩, -⟩ := hD; have f70 : vs 70 = _ := f70; generalize vs 70 = x70 at f70 ⊢; subst x70; have f66 : vs 66 = _ := f66; generalize vs 66 = x66 at f66 ⊢; subst x66; replace hL := hL.call hE hM hV
          exact sPu
        · intro vs W1 m1 hE hM hV hD; obtain ⟨⟨_, _, -, -, f66⟩, ⟨_, _, -, -, f71⟩, -⟩ := hD; have f66 : vs 66 = _ := f66; generalize vs 66 = x66 at f66 ⊢; subst x66; have f71 : vs 71 = _ := f71; generalize vs 71 = x71 at f71 ⊢; subst x71; replace hL := hL.call hE hM hV
          exact sPu
        · intro vs W1 m1 hE hM hV hD; obtain ⟨⟨_, _, -, -, f72⟩, -, -⟩ := hD; have f72 : vs 72 = _ := f72; generalize vs 72 = x72 at f72 ⊢; subst x72; replace hL := hL.call hE hM hV
          exact sPu
        · intro vs W1 m1 hE hM hV hD; obtain ⟨⟨_, _, -, -, f73⟩, -⟩ := hD; have f73 : vs 73 = _ := f73; generalize vs 73 = x73 at f73 ⊢; subst x73; replace hL := hL.call hE hM hV
          exact sLd
        · intro vs W1 m1 hE hM hV hD; obtain ⟨⟨_, _, -, -, f73⟩, -, -⟩ := hD; have f73 : vs 73 = _ := f73; generalize vs 73 = x73 at f73 ⊢; subst x73
          go_wp2_with fail
          refine (k_half _ _ hV).mono ?_
          rintro e W2 ⟨v, m2, rfl, hE2, hM2, hV2, h⟩
          go_wp2_with fail
          refine One2.call hE2 hM2 hV2 ?_; first | exact h | exact rfl
        · intro vs W1 m1 hE hM hV hD; obtain ⟨⟨_, _, -, -, f74⟩, ⟨_, _, -, i75, f75⟩, -, ⟨_, _, -, -, f73⟩, -⟩ := hD; have f74 : vs 74 = _ := f74; generalize vs 74 = x74 at f74 ⊢; subst x74; have f73 : vs 73 = _ := f73; generalize vs 73 = x73 at f73 ⊢; subst x73; have f75 : FracC _ (vs 75) halfR := f75; replace f75 := f75.le i75.le; clear i75
          go_wp2_with fail
          refine (r_SameP _ _ hn hd _ _ hV (HFP.out.le leX) (by rw [← HNN.out, ← HDD.out]; exact f75.toP) HF1.out HF2.out).mono ?_
          rintro e W2 ⟨v, m2, rfl, hE2, hM2, hV2, h⟩
          go_wp2_with fail
          refine One2.call hE2 hM2 hV2 ?_; first | exact h | exact rfl
        · intro vs W1 m1 hE hM hV hD; obtain ⟨⟨_, _, -, -, f73⟩, ⟨_, _, -, -, f76⟩, -⟩ := hD; have f73 : vs 73 = _ := f73; generalize vs 73 = x73 at f73 ⊢; subst x73; have f76 : vs 76 = _ := f76; generalize vs 76 = x76 at f76 ⊢; subst x76; replace hL := hL.call hE hM hV
          exact sPu
        · intro vs W1 m1 hE hM hV hD; obtain ⟨⟨_, _, -, -, f77⟩, -, -⟩ := hD; have f77 : vs 77 = _ := f77; generalize vs 77 = x77 at f77 ⊢; subst x77; replace hL := hL.call hE hM hV
          exact sPu
        · intro vs W1 m1 hE hM hV hD; obtain ⟨⟨_, _, -, -, f78⟩, -⟩ := hD; have f78 : vs 78 = _ := f78; generalize vs 78 = x78 at f78 ⊢; subst x78; replace hL := hL.call hE hM hV
          exact sPu
        · intro vs W1 m1 hE hM hV hD; obtain ⟨⟨_, _, -, -, f79⟩, ⟨_, _, -, -, f78⟩, -⟩ := hD; have f79 : vs 79 = _ := f79; generalize vs 79 = x79 at f79 ⊢; subst x79; have f78 : vs 78 = _ := f78; generalize vs 78 = x78 at f78 ⊢; subst x78; replace hL := hL.call hE hM hV
          exact sIz
        · intro vs W1 m1 hE hM hV hD; obtain ⟨⟨_, _, -, -, f80⟩, ⟨_, _, -, -, f78⟩, -⟩ := hD; have f80 : vs 80 = _ := f80; generalize vs 80 = x80 at f80 ⊢; subst x80; have f78 : vs 78 = _ := f78; generalize vs 78 = x78 at f78 ⊢; subst x78; replace hL := hL.call hE hM hV
          exact sLd
        · intro vs W1 m1 hE hM hV hD; obtain ⟨⟨_, _, -, -, f81⟩, ⟨_, _, -, -, f78⟩, -, -⟩ := hD; have f81 : vs 81 = _ := f81; generalize vs 81 = x81 at f81 ⊢; subst x81; have f78 : vs 78 = _ := f78; generalize vs 78 = x78 at f78 ⊢; subst x78
          go_wp2_with fail
          refine (kn_Right _ _ _ hV (HXR.out.le leX)).mono ?_
          rintro e W2 ⟨v, m2, rfl, hE2, hM2, hV2, h⟩
          go_wp2_with fail
          refine One2.call hE2 hM2 hV2 ?_; first | exact h | exact rfl
        · intro vs W1 m1 hE hM hV hD; obtain ⟨⟨_, _, -, -, f82⟩, ⟨_, _, -, -, f78⟩, -⟩ := hD; have f82 : vs 82 = _ := f82; generalize vs 82 = x82 at f82 ⊢; subst x82; have f78 : vs 78 = _ := f78; generalize vs 78 = x78 at f78 ⊢; subst x78; replace hL := hL.call hE hM hV
          exact sPu
        · intro vs W1 m1 hE hM hV hD; obtain ⟨⟨_, _, -, -, f78⟩, ⟨_, _, -, -, f83⟩, -⟩ := hD; have f78 : vs 78 = _ := f78; generalize vs 78 = x78 at f78 ⊢; subst x78; have f83 : vs 83 = _ := f83; generalize vs 83 = x83 at f83 ⊢; subst x83; replace hL := hL.call hE hM hV
          exact sPu
      case l10 =>
        refine ⟨fun h => (by cases h), fun h => (by cases h), fun h => (by cases h), fun h => (by cases h), fun h => (by cases h), fun h => (by cases h), fun h => (by cases h), fun h => (by cases h), fun h => (by cases h), fun h => (by cases h), fun h => (by cases h), fun h => (by cases h), fun h => (by cases h), fun h => (by cases h), fun h => (by cases h), fun h => (by cases h), fun h => (by cases h), fun h => (by cases h), fun h => (by cases h), fun h => (by cases h), fun h => (by cases h), fun h => (by cases h), fun h => (by cases h), fun h => (by cases h), fun h => (by cases h), fun h => (by cases h), fun h => (by cases h), fun h => (by cases h), fun h => (by cases h), trivial⟩
      intro vs W1 m1 hE hM hV hF hD
      clear hD
      obtain ⟨-, -, -, -, -, -, -, ⟨_, _, -, i63, f63⟩, -, -, -, -, -, -, -, -, -, -, -, ⟨_, _, -, i75, f75⟩, -, -, -, -, -, -, -, -, ⟨_, _, -, -, f84⟩, -⟩ := hF
      replace hL := hL.call hE hM hV
      replace f63 : IntL _ (vs 63) [0, 1, 2] := f63
      replace f63 := f63.le i63.le
      clear i63
      replace f75 : FracC _ (vs 75) halfR := f75
      replace f75 := f75.le i75.le
      clear i75
      have f84 : vs 84 = _ := f84
      generalize vs 84 = x84 at f84 ⊢
      subst x84
      clear hE hV
      simp only [List.drop_succ_cons, List.drop_zero]
      go_wp2_with (first | ((with_reducible refine kAny ?_); go_skip) | (with_reducible refine stA ?_) | ((first | refine tIx ?_ | refine tFd ?_ | refine tLd ?_ | ((first | refine tSr ?_ | refine tSt ?_); clear hL; intro _ hL; simp only [splice, zq1, zq2, zq3] at hL) | (refine tAl ?_; clear hL; intro _ _ hL _) | (refine tBs ?_; clear hL; intro _ _ hL _ hBs)); simp only [Act.put, zq1, zq2, zq3]))
      refine QN.mk ?_
      go_wp2_with (first | ((with_reducible refine kAny ?_); go_skip) | (with_reducible refine stA ?_) | ((first | refine tIx ?_ | refine tFd ?_ | refine tLd ?_ | ((first | refine tSr ?_ | refine tSt ?_); clear hL; intro _ hL; simp only [splice, zq1, zq2, zq3] at hL) | (refine tAl ?_; clear hL; intro _ _ hL _) | (refine tBs ?_; clear hL; intro _ _ hL _ hBs)); simp only [Act.put, zq1, zq2, zq3]))
      go_ret
      exact RetV.mk hL rfl
end Go.Proofs.YtmhkmmmompediaaGreat

/- The walks through the laws CutsTight and CutsViolation. -/
namespace Go.Proofs.YtmhkmmmompediaaGreat
open Go.RowKit

theorem masF_cols6 (l : List Int) : (masF l).cols.length ≤ 6 := by
  show ((List.range _).map _).length ≤ 6
  simp only [List.length_map, List.length_range]
  have h2 := atF_bd l 2 (by omega)
  omega

end Go.Proofs.YtmhkmmmompediaaGreat

/- pairingref25.Zeros; what the law CutsClique says, in plain words. -/
namespace Go.Proofs.YtmhkmmmompediaaGreat
open Go.RowKit

def OwnPost (w m : World) (xs : List Rat) (en : Ending) (w' : World) : Prop :=
  ∃ v m' Rr, en = .returned v ∧ Loc w m w' m' Rr ∧ RowA 39 4 FracC m' v xs.length xs Rr

set_option maxRecDepth 100000 in
set_option maxHeartbeats 16000000 in
theorem r_Zeros (n : Nat) (hn : n ≤ 1000) (w m : World) (hV : Vw m w) : Calls Tryz.prog 42 #[.int .i64 n] w (OwnPost w m (List.replicate n 0)) := by
  have hL := Loc.start hV
  clear hV
  go_enter Tryz.func42, Tryz.ntmps42
  go_wp2_with (first | ((with_reducible refine kAny ?_); go_skip) | (with_reducible refine stA ?_) | ((first | (refine tBs ?_; clear hL; intro _ _ hL _ hBs)); simp only [Act.put, zq1, zq2, zq3]))
  go_loopw [3, 4] (fun ov i wr => ∃ (j : Nat) (mm : World) (Rr : List Lo), j ≤ n ∧ i = .int .i64 j ∧ Loc w m wr mm Rr ∧ Hid (RowA 39 4 FracC mm ov j (List.replicate j 0) Rr)) (fun _ i _ => n - (intOf i).toNat)
  case atStart => exact ⟨0, _, [], Nat.zero_le _, rfl, hL, RowA.nil⟩
  case round =>
    clear hL
    obtain ⟨j, mm, Rr, hj, rfl, hL, row⟩ := hrel
    obtain ⟨A3, c3, rfl, row1⟩ := row.out.lit
    have ROW := Lib.hid row1
    clear row row1
    by_cases hlt : j < n
    · have hlt' : (j : Int) < (n : Int) := by omega
      have HT : Hid (List.replicate j (0 : Rat) ++ [((0 : Int) : Rat)] = List.replicate (j + 1) 0) := by
        show _ = _
        rw [List.replicate_succ']; rfl
      go_wp2_with (first | ((with_reducible refine kAny ?_); go_skip) | (with_reducible refine stA ?_) | ((first | (refine tBs ?_; clear hL; intro _ _ hL _ hBs)); simp only [Act.put, zq1, zq2, zq3]))
      refine (r_Int 0 _ _ hL.vw (by decide) (by decide)).mono ?_
      rintro e Wc1 ⟨vc1, mc1, rfl, hE, hMc1, hV, hc1⟩
      replace hL := hL.call hE (by assumption) hV; clear hE hV
      obtain ⟨gc1', Ac1', nc1', cc1', hc1', Bc1', kc1', dc1', rfl, hc1⟩ := hc1.lit
      have HZ := Lib.hid hc1
      clear hc1
      go_wp2_with (first | ((with_reducible refine kAny ?_); go_skip) | (with_reducible refine stA ?_) | ((first | (refine tBs ?_; clear hL; intro _ _ hL _ hBs)); simp only [Act.put, zq1, zq2, zq3]))
      refine goA ?_
      obtain ⟨vs7, r7, z7, y7, l7⟩ := ROW.out
      refine wl_append (A := []) hL r7 (wanted_none rfl) rfl ap_Fracs (by omega) rfl rfl (news := [.bool gc1', .slice Ac1' nc1' cc1', .bool hc1', .slice Bc1' kc1' dc1']) rfl ((Blk.sl hBs (n := 4) rfl).le hL.vw.le) rfl (by omega) (by omega) ?_
      have HX7 := Lib.hid hL.mext
      clear hL
      intro v1 W5 m5 R5 hL r8 e8
      obtain ⟨A11, c11, rfl, -⟩ := r8.lit
      simp only [List.nil_append] at hL
      have rd := RowA.snoc (R := FracC) (m := m5) (x := ((0 : Int) : Rat)) r8 z7 (y7.mono fun v x hv => hv.le leX) l7 rfl (HZ.out.le leX)
      rw [HT.out] at rd
      have RD := Lib.hid rd
      clear rd r8 r7 z7 y7 l7
      simp only [Act.put, zq1, zq2, zq3]
      go_wp2_with (first | ((with_reducible refine kAny ?_); go_skip) | (with_reducible refine stA ?_) | ((first | (refine tBs ?_; clear hL; intro _ _ hL _ hBs)); simp only [Act.put, zq1, zq2, zq3]))
      go_roundw
      case rel => exact ⟨j + 1, m5, R5, by omega, by go_num, hL, RD.out⟩
      case measure => simp [intOf] <;> omega
    · have hjk : n = j := by omega
      subst hjk
      have h9 : (n : Int) ≤ (n : Int) := Int.le_refl _
      go_wp2_with (first | ((with_reducible refine kAny ?_); go_skip) | (with_reducible refine stA ?_) | ((first | (refine tBs ?_; clear hL; intro _ _ hL _ hBs)); simp only [Act.put, zq1, zq2, zq3]))
      go_ret
      refine ⟨_, mm, Rr, rfl, hL, ?_⟩
      rw [List.length_replicate]
      exact ROW.out

def oneAt (n i j : Nat) : List Rat := ((List.replicate n 0).set i ((1 : Int) : Rat)).set j ((1 : Int) : Rat)
theorem oneAt_len (n i j : Nat) : (oneAt n i j).length = n := by simp [oneAt]
theorem oneAt_at {n i j k : Nat} (hk : k < n) : (oneAt n i j)[k]? = some (if j = k then 1 else if i = k then 1 else 0) := by
  unfold oneAt
  rw [List.getElem?_set, List.getElem?_set, List.length_set, List.length_replicate]
  by_cases hj : j = k
  · rw [if_pos hj, if_pos hj, if_pos (by omega)]; rfl
  · rw [if_neg hj, if_neg hj]
    by_cases hi : i = k
    · rw [if_pos hi, if_pos hi, if_pos (by omega)]; rfl
    · rw [if_neg hi, if_neg hi, List.getElem?_replicate, if_pos hk]
theorem oneAt_tw (n i j : Nat) : ∀ v ∈ oneAt n i j, Tw 18 v := by
  intro v hv
  have h1 : Tw 18 ((1 : Int) : Rat) := (Tw.int (K := 1) (k := 1) (by decide)).mono (by decide)
  have h0 : Tw 18 (0 : Rat) := ⟨0, by decide +kernel, by decide⟩
  rcases List.mem_or_eq_of_mem_set hv with hv | rfl
  · rcases List.mem_or_eq_of_mem_set hv with hv | rfl
    · rw [List.eq_of_mem_replicate hv]; exact h0
    · exact h1
  · exact h1
theorem vio_two {x : Cut} {cols : List Col} {i j : Nat} {ci cj : Int} {ca cb : Col} (hij : j < i) (ha : cols[i]? = some ca) (hb : cols[j]? = some cb) (hci : coefF x (opF ca.2.1) = ci) (hcj : coefF x (opF cb.2.1) = cj) :
    ∀ k, k ≤ cols.length → vioT x cols (oneAt cols.length i j) k = (((-((x.1.length : Int) / x.2)) + (if j < k then cj else 0) + (if i < k then ci else 0) : Int) : Rat)
  | 0, _ => by simp [vioT]
  | k + 1, h => by
    obtain ⟨c, hc⟩ : ∃ c, cols[k]? = some c := ⟨_, List.getElem?_eq_getElem (by omega)⟩
    rw [vioT_step hc (oneAt_at (by omega)), vio_two hij ha hb hci hcj k (by omega)]
    by_cases hj : j = k
    · subst hj
      rw [hb] at hc
      cases hc
      have a1 : ¬ j < j := Nat.lt_irrefl j
      have a2 : j < j + 1 := Nat.lt_succ_self j
      have a3 : ¬ i < j := by omega
      have a4 : ¬ i < j + 1 := by omega
      rw [if_pos rfl, hcj, Rat.mul_one, if_neg a1, if_pos a2, if_neg a3, if_neg a4, ← Rat.intCast_add]
      congr 1
      omega
    · by_cases hi : i = k
      · subst hi
        rw [ha] at hc
        cases hc
        have a1 : ¬ i < i := Nat.lt_irrefl i
        have a2 : i < i + 1 := Nat.lt_succ_self i
        have a3 : j < i + 1 := by omega
        rw [if_neg hj, if_pos rfl, hci, Rat.mul_one, if_pos hij, if_pos a3, if_neg a1, if_pos a2, ← Rat.intCast_add]
        congr 1
        omega
      · rw [if_neg hj, if_neg hi, Rat.mul_zero, Rat.add_zero]
        have e1 : (if j < k + 1 then cj else 0) = if j < k then cj else 0 := by
          by_cases h1 : j < k
          · rw [if_pos h1, if_pos (by omega)]
          · rw [if_neg h1, if_neg (by omega)]
        have e2 : (if i < k + 1 then ci else 0) = if i < k then ci else 0 := by
          by_cases h1 : i < k
          · rw [if_pos h1, if_pos (by omega)]
          · rw [if_neg h1, if_neg (by omega)]
        rw [e1, e2]
theorem share {rs a b : List Int} (hr : rs.length = 3) (ha : a.Nodup) (hb : b.Nodup) (h1 : 2 ≤ coefN rs a) (h2 : 2 ≤ coefN rs b) : a.any (fun f => decide (f ∈ b) && decide (f ∈ rs)) = true := by
  rw [List.any_eq_true]
  refine Classical.byContradiction fun hno => ?_
  have hn : ((a.filter fun f => decide (f ∈ rs)) ++ (b.filter fun f => decide (f ∈ rs))).Nodup := by
    refine List.nodup_append.2 ⟨ha.sublist List.filter_sublist, hb.sublist List.filter_sublist, fun x hx y hy e => hno ?_⟩
    subst e
    obtain ⟨hxa, hxr⟩ := List.mem_filter.1 hx
    obtain ⟨hxb, -⟩ := List.mem_filter.1 hy
    exact ⟨x, hxa, by rw [decide_eq_true hxb, hxr]; rfl⟩
  have hl := nodup_length hn (ys := rs) fun x hx => by
    rcases List.mem_append.1 hx with hx | hx <;> exact of_decide_eq_true (List.mem_filter.1 hx).2
  rw [List.length_append] at hl
  unfold coefN at h1 h2
  omega
theorem coef_two {rs a : List Int} (hr : rs.length = 3) (ha : a.Nodup) : coefF (rs, 2) a = 0 ∨ (coefF (rs, 2) a = 1 ∧ 2 ≤ coefN rs a) := by
  have h1 : coefN rs a ≤ 3 := by
    have := nodup_length (xs := a.filter fun f => decide (f ∈ rs)) (ys := rs) (ha.sublist List.filter_sublist) fun x hx => of_decide_eq_true (List.mem_filter.1 hx).2
    unfold coefN
    omega
  unfold coefF
  simp only
  omega
theorem sl_take {m : World} {A : Option Addr} {vs : List Value} (h : Sl m A vs) (k : Nat) : Sl m A (vs.take k) := by
  intro h0
  obtain ⟨b, off, e, hb, hc⟩ := h (by rw [List.length_take] at h0; omega)
  refine ⟨b, off, e, hb, fun j v hj => hc j v ?_⟩
  rw [List.getElem?_take] at hj
  by_cases hlt : j < k
  · rwa [if_pos hlt] at hj
  · rw [if_neg hlt] at hj; cases hj
theorem cellsOf_cut {vs : List Value} (h : ∀ u ∈ vs, u.cells.size = 1) (k : Nat) : (cellsOf vs).take k = cellsOf (vs.take k) := by
  have h9 := cellsOf_length (size := 1) (vs := vs.take k) fun u hu => h u (List.mem_of_mem_take hu)
  by_cases hk : k ≤ vs.length
  · conv => lhs; rw [← List.take_append_drop k vs, cellsOf_append]
    rw [List.length_take] at h9
    exact List.take_left' (by omega)
  · have h8 := cellsOf_length h
    rw [List.take_of_length_le (by omega), List.take_of_length_le (by omega)]
theorem IntL.take {m : World} {A : Option Addr} {n c k : Nat} {xs : List Int} (h : IntL m (.slice A n c) xs) (hk : k ≤ n) : IntL m (.slice A k c) (xs.take k) := by
  obtain ⟨A', c', vs, e, hc, h1, h2, h3⟩ := h
  injection e with e1 e2 e3
  subst e1 e3
  have hl : (xs.take k).length = k := by rw [List.length_take]; omega
  have hz : Value.slice A k c = .slice A (xs.take k).length c := by rw [hl]
  rw [hz]
  refine ⟨A, c, vs.take k, rfl, by omega, fun u hu => h1 u (List.mem_of_mem_take hu), ?_, h3.takes k⟩
  rw [← cellsOf_cut h1]
  exact sl_take h2 k
end Go.Proofs.YtmhkmmmompediaaGreat
