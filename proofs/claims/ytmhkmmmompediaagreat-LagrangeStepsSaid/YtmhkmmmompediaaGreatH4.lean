/- Part 4 of 7 of the proof: the law LagrangeSteps returns true for every input, and its arguments read as before; there is no condition. -/
import Derived.Lib.SliceRun
import Derived.Test.YtmhkmmmompediaaGreatH3
set_option linter.unusedVariables false
set_option linter.unusedSimpArgs false
/- Contracts of slices.Equal. -/
namespace Go.Proofs.YtmhkmmmompediaaGreat
open Go.RowKit

set_option maxRecDepth 100000 in
set_option maxHeartbeats 8000000 in
theorem s_EqualInts (a b : Value) (xs : List Int) (w m : World) (hV : Vw m w) (ha : IntL m a xs) (hb : IntL m b xs) (hl : xs.length ≤ 1000000) :
    Calls Tryz.prog 151 #[a, b] w (RetV w m fun _ r => r = .bool true) := by
  obtain ⟨A, c, rfl, hc, ha⟩ := ha.lit
  obtain ⟨B, d, rfl, hd, hb⟩ := hb.lit
  have hL := Loc.start hV
  clear hV
  generalize hn : xs.length = n at *
  have HN := Lib.hid hn
  clear hn
  have hnn : ((n : Int) != (n : Int)) = false := by simp
  go_enter Tryz.func151, Tryz.ntmps151
  go_wp2_with (first | ((with_reducible refine kAny ?_); go_skip) | ((first | refine tIn ?_ | refine tLn ?_); simp only [Act.put, zq1, zq2, zq3]))
  go_loopw [13] (fun i wr => ∃ (k : Nat) (mm : World), k ≤ n ∧ i = .int .i64 k ∧ Loc w m wr mm [] ∧ Ext m mm) (fun i _ => n - (intOf i).toNat)
  case atStart => exact ⟨0, m, Nat.zero_le _, rfl, hL, Ext.refl _⟩
  case round =>
    clear hL
    obtain ⟨k, mm, hk, rfl, hL, hM⟩ := hrel
    by_cases hlt : k < n
    · obtain ⟨x, hx⟩ := at_some HN hlt
      obtain ⟨b1, o1, rfl, hc1⟩ := IntL.at_ ha hx
      obtain ⟨b2, o2, rfl, hc2⟩ := IntL.at_ hb hx
      clear hx
      have hxx : ((x : Int) != (x : Int)) = false := by simp
      go_upto_region 6 with ((first | ((with_reducible refine kAny ?_); go_skip) | ((first | refine tIn ?_ | refine tLn ?_); simp only [Act.put, zq1, zq2, zq3])))
      (try simp only [eq_self] at *)
      refine wp_region_by2 9 [false, false, false, false, false, false, false, false, false] [false, false, false, false, false, false, false, false, false] [(fun v _ _ => v = ?c6_0), (fun v _ _ => v = ?c6_1), (fun v _ _ => v = ?c6_2), (fun v _ _ => v = ?c6_3), (fun v _ _ => v = ?c6_4), (fun v _ _ => v = ?c6_5), (fun v _ _ => v = ?c6_6), (fun v _ _ => v = ?c6_7), (fun v _ _ => v = ?c6_8)] hL.vw mixed [16, 17, 18, 19, 20, 21, 22, 23, 24] _ (by kernel_rfl) (fun vs => by simp only [lay, Act.put, zq1, zq2, zq3]; rfl) (by kernel_rfl) (by decide) (by decide) ?s6 ?l6 ?r6
      case s6 =>
        refine ⟨?_, ?_, ?_, ?_, ?_, ?_, ?_, ?_, ?_, trivial⟩
        · intro vs W1 m1 hE hM hV hD
          clear hD
          replace hL := hL.call hE hM hV
          exact sPu
        · intro vs W1 m1 hE hM hV hD
          clear hD
          replace hL := hL.call hE hM hV
          exact sPu
        · intro vs W1 m1 hE hM hV hD
          obtain ⟨⟨_, _, -, -, f16⟩, ⟨_, _, -, -, f17⟩, -⟩ := hD
          have f16 : vs 16 = _ := f16
          generalize vs 16 = x16 at f16 ⊢
          subst x16
          have f17 : vs 17 = _ := f17
          generalize vs 17 = x17 at f17 ⊢
          subst x17
          replace hL := hL.call hE hM hV
          exact sIx
        · intro vs W1 m1 hE hM hV hD
          obtain ⟨⟨_, _, -, -, f18⟩, -⟩ := hD
          have f18 : vs 18 = _ := f18
          generalize vs 18 = x18 at f18 ⊢
          subst x18
          replace hL := hL.call hE hM hV
          exact sLd
        · intro vs W1 m1 hE hM hV hD
          clear hD
          replace hL := hL.call hE hM hV
          exact sPu
        · intro vs W1 m1 hE hM hV hD
          clear hD
          replace hL := hL.call hE hM hV
          exact sPu
        · intro vs W1 m1 hE hM hV hD
          obtain ⟨⟨_, _, -, -, f20⟩, ⟨_, _, -, -, f21⟩, -⟩ := hD
          have f20 : vs 20 = _ := f20
          generalize vs 20 = x20 at f20 ⊢
          subst x20
          have f21 : vs 21 = _ := f21
          generalize vs 21 = x21 at f21 ⊢
          subst x21
          replace hL := hL.call hE hM hV
          exact sIx
        · intro vs W1 m1 hE hM hV hD
          obtain ⟨⟨_, _, -, -, f22⟩, -⟩ := hD
          have f22 : vs 22 = _ := f22
          generalize vs 22 = x22 at f22 ⊢
          subst x22
          replace hL := hL.call hE hM hV
          exact sLd
        · intro vs W1 m1 hE hM hV hD
          obtain ⟨⟨_, _, -, -, f19⟩, ⟨_, _, -, -, f23⟩, -⟩ := hD
          have f19 : vs 19 = _ := f19
          generalize vs 19 = x19 at f19 ⊢
          subst x19
          have f23 : vs 23 = _ := f23
          generalize vs 23 = x23 at f23 ⊢
          subst x23
          replace hL := hL.call hE hM hV
          exact sPu
      case l6 =>
        refine ⟨fun h => (by cases h), fun h => (by cases h), fun h => (by cases h), fun h => (by cases h), fun h => (by cases h), fun h => (by cases h), fun h => (by cases h), fun h => (by cases h), fun h => (by cases h), trivial⟩
      intro vs W1 m1 hE hM hV hF hD
      clear hD
      obtain ⟨⟨_, _, -, -, f16⟩, ⟨_, _, -, -, f17⟩, ⟨_, _, -, -, f18⟩, ⟨_, _, -, -, f19⟩, ⟨_, _, -, -, f20⟩, ⟨_, _, -, -, f21⟩, ⟨_, _, -, -, f22⟩, ⟨_, _, -, -, f23⟩, ⟨_, _, -, -, f24⟩, -⟩ := hF
      replace hL := hL.call hE hM hV
      have f16 : vs 16 = _ := f16
      generalize vs 16 = x16 at f16 ⊢
      subst x16
      have f17 : vs 17 = _ := f17
      generalize vs 17 = x17 at f17 ⊢
      subst x17
      have f18 : vs 18 = _ := f18
      generalize vs 18 = x18 at f18 ⊢
      subst x18
      have f19 : vs 19 = _ := f19
      generalize vs 19 = x19 at f19 ⊢
      subst x19
      have f20 : vs 20 = _ := f20
      generalize vs 20 = x20 at f20 ⊢
      subst x20
      have f21 : vs 21 = _ := f21
      generalize vs 21 = x21 at f21 ⊢
      subst x21
      have f22 : vs 22 = _ := f22
      generalize vs 22 = x22 at f22 ⊢
      subst x22
      have f23 : vs 23 = _ := f23
      generalize vs 23 = x23 at f23 ⊢
      subst x23
      have f24 : vs 24 = _ := f24
      generalize vs 24 = x24 at f24 ⊢
      subst x24
      clear hE hV
      simp only [List.drop_succ_cons, List.drop_zero]
      go_wp2_with (first | ((with_reducible refine kAny ?_); go_skip) | ((first | refine tIn ?_ | refine tLn ?_); simp only [Act.put, zq1, zq2, zq3]))
      refine QN.mk ?_
      go_wp2_with (first | ((with_reducible refine kAny ?_); go_skip) | ((first | refine tIn ?_ | refine tLn ?_); simp only [Act.put, zq1, zq2, zq3]))
      go_roundw
      case rel => exact ⟨k + 1, _, by omega, by go_num, hL, hL.mext⟩
      case measure => simp [intOf] <;> omega
    · go_wp2_with (first | ((with_reducible refine kAny ?_); go_skip) | ((first | refine tIn ?_ | refine tLn ?_); simp only [Act.put, zq1, zq2, zq3]))
      go_ret
      exact RetV.mk hL rfl

set_option maxRecDepth 100000 in
set_option maxHeartbeats 8000000 in
theorem s_EqualDecs (a b : Value) (xs ys : List Dec) (w m : World) (hV : Vw m w) (ha : DecL m a xs) (hb : DecL m b ys) (hl : xs.length ≤ 1000000) (hl' : ys.length ≤ 1000000) :
    Calls Tryz.prog 93 #[a, b] w (RetV w m fun _ r => r = .bool (decide (xs = ys))) := by
  obtain ⟨A, c, rfl, hc, ha⟩ := ha.lit
  obtain ⟨B, d, rfl, hd, hb⟩ := hb.lit
  have hL := Loc.start hV
  clear hV
  by_cases hne : xs.length = ys.length
  · rw [← hne] at hd hb ⊢
    clear hl'
    have HN' : Hid (ys.length = xs.length) := hne.symm
    clear hne
    generalize hn : xs.length = n at *
    have HN := Lib.hid hn
    clear hn
    have hnn : ((n : Int) != (n : Int)) = false := by simp
    go_enter Tryz.func93, Tryz.ntmps93
    go_wp2_with (first | ((with_reducible refine kAny ?_); go_skip) | ((first | refine tIn ?_ | refine tLn ?_); simp only [Act.put, zq1, zq2, zq3]))
    go_loopw [13] (fun i wr => ∃ (k : Nat) (mm : World), k ≤ n ∧ i = .int .i64 k ∧ Loc w m wr mm [] ∧ Hid (∀ j, j < k → xs[j]? = ys[j]?)) (fun i _ => n - (intOf i).toNat)
    case atStart => exact ⟨0, m, Nat.zero_le _, rfl, hL, fun j hj => by omega⟩
    case round =>
      clear hL
      obtain ⟨k, mm, hk, rfl, hL, HJ⟩ := hrel
      have hM := hL.mext
      by_cases hlt : k < n
      · obtain ⟨⟨x1, x2, x3⟩, hx⟩ := at_some HN hlt
        obtain ⟨⟨y1, y2, y3⟩, hy⟩ := at_some HN' hlt
        obtain ⟨b1, o1, rfl, hr1⟩ := DecL.at_ ha hx
        obtain ⟨b2, o2, rfl, hr2⟩ := DecL.at_ hb hy
        have HX := Lib.hid hx
        have HY := Lib.hid hy
        clear hx hy
        simp only at hr1 hr2
        have q2 : ∀ w x y xs ys, (eqGuard .neq 87 x y (.agg xs) (.agg ys)).run Tryz.prog w = .ok () w := fun w x y xs ys => run_eqGuard_agg w _ _ _ _ _ _ dec_hg
        by_cases he : (x1, x2, x3) = (y1, y2, y3)
        · have q1 := fun w => dec_neq (b := false) (decide_eq_true he) w
          have HE := Lib.hid he
          clear he
          go_upto_region 6 with ((first | ((with_reducible refine kAny ?_); go_skip) | ((first | refine tIn ?_ | refine tLn ?_); simp only [Act.put, zq1, zq2, zq3])))
          (try simp only [eq_self] at *)
          refine wp_region_by2 9 [false, false, false, false, false, false, false, false, false] [false, false, false, false, false, false, false, false, false] [(fun v _ _ => v = ?c6_0), (fun v _ _ => v = ?c6_1), (fun v _ _ => v = ?c6_2), (fun v _ _ => v = ?c6_3), (fun v _ _ => v = ?c6_4), (fun v _ _ => v = ?c6_5), (fun v _ _ => v = ?c6_6), (fun v _ _ => v = ?c6_7), (fun v _ _ => v = ?c6_8)] hL.vw mixed [16, 17, 18, 19, 20, 21, 22, 23, 24] _ (by kernel_rfl) (fun vs => by simp only [lay, Act.put, zq1, zq2, zq3]; rfl) (by kernel_rfl) (by decide) (by decide) ?s6 ?l6 ?r6
          case s6 =>
            refine ⟨?_, ?_, ?_, ?_, ?_, ?_, ?_, ?_, ?_, trivial⟩
            · intro vs W1 m1 hE hM hV hD
              clear hD
              replace hL := hL.call hE hM hV
              exact sPu
            · intro vs W1 m1 hE hM hV hD
              clear hD
              replace hL := hL.call hE hM hV
              exact sPu
            · intro vs W1 m1 hE hM hV hD
              obtain ⟨⟨_, _, -, -, f16⟩, ⟨_, _, -, -, f17⟩, -⟩ := hD
              have f16 : vs 16 = _ := f16
              generalize vs 16 = x16 at f16 ⊢
              subst x16
              have f17 : vs 17 = _ := f17
              generalize vs 17 = x17 at f17 ⊢
              subst x17
              replace hL := hL.call hE hM hV
              exact sIx
            · intro vs W1 m1 hE hM hV hD
              obtain ⟨⟨_, _, -, -, f18⟩, -⟩ := hD
              have f18 : vs 18 = _ := f18
              generalize vs 18 = x18 at f18 ⊢
              subst x18
              replace hL := hL.call hE hM hV
              exact sLd
            · intro vs W1 m1 hE hM hV hD
              clear hD
              replace hL := hL.call hE hM hV
              exact sPu
            · intro vs W1 m1 hE hM hV hD
              clear hD
              replace hL := hL.call hE hM hV
              exact sPu
            · intro vs W1 m1 hE hM hV hD
              obtain ⟨⟨_, _, -, -, f20⟩, ⟨_, _, -, -, f21⟩, -⟩ := hD
              have f20 : vs 20 = _ := f20
              generalize vs 20 = x20 at f20 ⊢
              subst x20
              have f21 : vs 21 = _ := f21
              generalize vs 21 = x21 at f21 ⊢
              subst x21
              replace hL := hL.call hE hM hV
              exact sIx
            · intro vs W1 m1 hE hM hV hD
              obtain ⟨⟨_, _, -, -, f22⟩, -⟩ := hD
              have f22 : vs 22 = _ := f22
              generalize vs 22 = x22 at f22 ⊢
              subst x22
              replace hL := hL.call hE hM hV
              exact sLd
            · intro vs W1 m1 hE hM hV hD
              obtain ⟨⟨_, _, -, -, f19⟩, ⟨_, _, -, -, f23⟩, -⟩ := hD
              have f19 : vs 19 = _ := f19
              generalize vs 19 = x19 at f19 ⊢
              subst x19
              have f23 : vs 23 = _ := f23
              generalize vs 23 = x23 at f23 ⊢
              subst x23
              replace hL := hL.call hE hM hV
              exact sPu
          case l6 =>
            refine ⟨fun h => (by cases h), fun h => (by cases h), fun h => (by cases h), fun h => (by cases h), fun h => (by cases h), fun h => (by cases h), fun h => (by cases h), fun h => (by cases h), fun h => (by cases h), trivial⟩
          intro vs W1 m1 hE hM hV hF hD
          clear hD
          obtain ⟨⟨_, _, -, -, f16⟩, ⟨_, _, -, -, f17⟩, ⟨_, _, -, -, f18⟩, ⟨_, _, -, -, f19⟩, ⟨_, _, -, -, f20⟩, ⟨_, _, -, -, f21⟩, ⟨_, _, -, -, f22⟩, ⟨_, _, -, -, f23⟩, ⟨_, _, -, -, f24⟩, -⟩ := hF
          replace hL := hL.call hE hM hV
          have f16 : vs 16 = _ := f16
          generalize vs 16 = x16 at f16 ⊢
          subst x16
          have f17 : vs 17 = _ := f17
          generalize vs 17 = x17 at f17 ⊢
          subst x17
          have f18 : vs 18 = _ := f18
          generalize vs 18 = x18 at f18 ⊢
          subst x18
          have f19 : vs 19 = _ := f19
          generalize vs 19 = x19 at f19 ⊢
          subst x19
          have f20 : vs 20 = _ := f20
          generalize vs 20 = x20 at f20 ⊢
          subst x20
          have f21 : vs 21 = _ := f21
          generalize vs 21 = x21 at f21 ⊢
          subst x21
          have f22 : vs 22 = _ := f22
          generalize vs 22 = x22 at f22 ⊢
          subst x22
          have f23 : vs 23 = _ := f23
          generalize vs 23 = x23 at f23 ⊢
          subst x23
          have f24 : vs 24 = _ := f24
          generalize vs 24 = x24 at f24 ⊢
          subst x24
          clear hE hV
          simp only [List.drop_succ_cons, List.drop_zero]
          go_wp2_with (first | ((with_reducible refine kAny ?_); go_skip) | ((first | refine tIn ?_ | refine tLn ?_); simp only [Act.put, zq1, zq2, zq3]))
          refine QN.mk ?_
          go_wp2_with (first | ((with_reducible refine kAny ?_); go_skip) | ((first | refine tIn ?_ | refine tLn ?_); simp only [Act.put, zq1, zq2, zq3]))
          go_roundw
          case rel => exact ⟨k + 1, _, by omega, by go_num, hL, lists_step HJ.out HX.out HY.out HE.out⟩
          case measure => simp [intOf] <;> omega
        · have q1 := fun w => dec_neq (b := true) (decide_eq_false he) w
          have E : Hid (decide (xs = ys) = false) := by
            show _ = _
            exact decide_eq_false fun h => he (Option.some.inj (by rw [← HX.out, ← HY.out, h]))
          clear he
          go_upto_region 6 with ((first | ((with_reducible refine kAny ?_); go_skip) | ((first | refine tIn ?_ | refine tLn ?_); simp only [Act.put, zq1, zq2, zq3])))
          (try simp only [eq_self] at *)
          refine wp_region_by2 9 [false, false, false, false, false, false, false, false, false] [false, false, false, false, false, false, false, false, false] [(fun v _ _ => v = ?c6_0b), (fun v _ _ => v = ?c6_1b), (fun v _ _ => v = ?c6_2b), (fun v _ _ => v = ?c6_3b), (fun v _ _ => v = ?c6_4b), (fun v _ _ => v = ?c6_5b), (fun v _ _ => v = ?c6_6b), (fun v _ _ => v = ?c6_7b), (fun v _ _ => v = ?c6_8b)] hL.vw mixed [16, 17, 18, 19, 20, 21, 22, 23, 24] _ (by kernel_rfl) (fun vs => by simp only [lay, Act.put, zq1, zq2, zq3]; rfl) (by kernel_rfl) (by decide) (by decide) ?s6b ?l6b ?r6b
          case s6b =>
            refine ⟨?_, ?_, ?_, ?_, ?_, ?_, ?_, ?_, ?_, trivial⟩
            · intro vs W1 m1 hE hM hV hD
              clear hD
              replace hL := hL.call hE hM hV
              exact sPu
            · intro vs W1 m1 hE hM hV hD
              clear hD
              replace hL := hL.call hE hM hV
              exact sPu
            · intro vs W1 m1 hE hM hV hD
              obtain ⟨⟨_, _, -, -, f16⟩, ⟨_, _, -, -, f17⟩, -⟩ := hD
              have f16 : vs 16 = _ := f16
              generalize vs 16 = x16 at f16 ⊢
              subst x16
              have f17 : vs 17 = _ := f17
              generalize vs 17 = x17 at f17 ⊢
              subst x17
              replace hL := hL.call hE hM hV
              exact sIx
            · intro vs W1 m1 hE hM hV hD
              obtain ⟨⟨_, _, -, -, f18⟩, -⟩ := hD
              have f18 : vs 18 = _ := f18
              generalize vs 18 = x18 at f18 ⊢
              subst x18
              replace hL := hL.call hE hM hV
              exact sLd
            · intro vs W1 m1 hE hM hV hD
              clear hD
              replace hL := hL.call hE hM hV
              exact sPu
            · intro vs W1 m1 hE hM hV hD
              clear hD
              replace hL := hL.call hE hM hV
              exact sPu
            · intro vs W1 m1 hE hM hV hD
              obtain ⟨⟨_, _, -, -, f20⟩, ⟨_, _, -, -, f21⟩, -⟩ := hD
              have f20 : vs 20 = _ := f20
              generalize vs 20 = x20 at f20 ⊢
              subst x20
              have f21 : vs 21 = _ := f21
              generalize vs 21 = x21 at f21 ⊢
              subst x21
              replace hL := hL.call hE hM hV
              exact sIx
            · intro vs W1 m1 hE hM hV hD
              obtain ⟨⟨_, _, -, -, f22⟩, -⟩ := hD
              have f22 : vs 22 = _ := f22
              generalize vs 22 = x22 at f22 ⊢
              subst x22
              replace hL := hL.call hE hM hV
              exact sLd
            · intro vs W1 m1 hE hM hV hD
              obtain ⟨⟨_, _, -, -, f19⟩, ⟨_, _, -, -, f23⟩, -⟩ := hD
              have f19 : vs 19 = _ := f19
              generalize vs 19 = x19 at f19 ⊢
              subst x19
              have f23 : vs 23 = _ := f23
              generalize vs 23 = x23 at f23 ⊢
              subst x23
              replace hL := hL.call hE hM hV
              exact sPu
          case l6b =>
            refine ⟨fun h => (by cases h), fun h => (by cases h), fun h => (by cases h), fun h => (by cases h), fun h => (by cases h), fun h => (by cases h), fun h => (by cases h), fun h => (by cases h), fun h => (by cases h), trivial⟩
          intro vs W1 m1 hE hM hV hF hD
          clear hD
          obtain ⟨⟨_, _, -, -, f16⟩, ⟨_, _, -, -, f17⟩, ⟨_, _, -, -, f18⟩, ⟨_, _, -, -, f19⟩, ⟨_, _, -, -, f20⟩, ⟨_, _, -, -, f21⟩, ⟨_, _, -, -, f22⟩, ⟨_, _, -, -, f23⟩, ⟨_, _, -, -, f24⟩, -⟩ := hF
          replace hL := hL.call hE hM hV
          have f16 : vs 16 = _ := f16
          generalize vs 16 = x16 at f16 ⊢
          subst x16
          have f17 : vs 17 = _ := f17
          generalize vs 17 = x17 at f17 ⊢
          subst x17
          have f18 : vs 18 = _ := f18
          generalize vs 18 = x18 at f18 ⊢
          subst x18
          have f19 : vs 19 = _ := f19
          generalize vs 19 = x19 at f19 ⊢
          subst x19
          have f20 : vs 20 = _ := f20
          generalize vs 20 = x20 at f20 ⊢
          subst x20
          have f21 : vs 21 = _ := f21
          generalize vs 21 = x21 at f21 ⊢
          subst x21
          have f22 : vs 22 = _ := f22
          generalize vs 22 = x22 at f22 ⊢
          subst x22
          have f23 : vs 23 = _ := f23
          generalize vs 23 = x23 at f23 ⊢
          subst x23
          have f24 : vs 24 = _ := f24
          generalize vs 24 = x24 at f24 ⊢
          subst x24
          clear hE hV
          simp only [List.drop_succ_cons, List.drop_zero]
          go_wp2_with (first | ((with_reducible refine kAny ?_); go_skip) | ((first | refine tIn ?_ | refine tLn ?_); simp only [Act.put, zq1, zq2, zq3]))
          refine QN.mk ?_
          go_wp2_with (first | ((with_reducible refine kAny ?_); go_skip) | ((first | refine tIn ?_ | refine tLn ?_); simp only [Act.put, zq1, zq2, zq3]))
          go_ret
          exact RetV.mk hL (congrArg Value.bool E.out.symm)
      · have E : Hid (decide (xs = ys) = true) := by show _ = _; exact decide_eq_true (lists_eq HN.out HN'.out hlt HJ.out)
        go_wp2_with (first | ((with_reducible refine kAny ?_); go_skip) | ((first | refine tIn ?_ | refine tLn ?_); simp only [Act.put, zq1, zq2, zq3]))
        go_ret
        exact RetV.mk hL (congrArg Value.bool E.out.symm)
  · have E : Hid (decide (xs = ys) = false) := by show _ = _; exact decide_eq_false (fun h => hne (by rw [h]))
    have hnn : ((xs.length : Int) != (ys.length : Int)) = true := by simp; omega
    generalize xs.length = n1 at *
    generalize ys.length = n2 at *
    clear hne
    go_enter Tryz.func93, Tryz.ntmps93
    go_wp2_with (first | ((with_reducible refine kAny ?_); go_skip) | ((first | refine tIn ?_ | refine tLn ?_); simp only [Act.put, zq1, zq2, zq3]))
    go_ret
    exact RetV.mk hL (congrArg Value.bool E.out.symm)
end Go.Proofs.YtmhkmmmompediaaGreat

/- Contracts of lagrange.sameCuts and what it calls (equal lists). -/
namespace Go.Proofs.YtmhkmmmompediaaGreat
open Go.RowKit

set_option maxRecDepth 100000 in
set_option maxHeartbeats 8000000 in
theorem l_sameCut (A1 A2 : Option Addr) (c1 c2 : Nat) (r : List Int) (dv : Int) (w m : World) (hV : Vw m w) (h1 : IntL m (.slice A1 r.length c1) r) (h2 : IntL m (.slice A2 r.length c2) r) (hl : r.length ≤ 1000000) :
    Calls Tryz.prog 150 #[.agg #[.slice A1 r.length c1, .int .i64 dv], .agg #[.slice A2 r.length c2, .int .i64 dv]] w (RetV w m fun _ r => r = .bool true) := by
  have hL := Loc.start hV
  clear hV
  have HL := Lib.hid hl
  clear hl
  have hdd : (dv == dv) = true := by simp
  go_enter Tryz.func150, Tryz.ntmps150
  go_wp2_with (first | ((with_reducible refine kAny ?_); go_skip) | ((first | refine tFd ?_ | refine tLn ?_ | (refine tBx ?_; clear hL; intro _ _ hL _)); simp only [Act.put, zq1, zq2, zq3]))
  refine (s_EqualInts _ _ r _ _ hL.vw (IntL.le h1 leX) (IntL.le h2 leX) HL.out).mono ?_
  rintro e W1 ⟨_, m1, rfl, hE, hM1, hV, rfl⟩
  replace hL := hL.call hE (by assumption) hV; clear hE hV
  go_wp2_with (first | ((with_reducible refine kAny ?_); go_skip) | ((first | refine tFd ?_ | refine tLn ?_ | (refine tBx ?_; clear hL; intro _ _ hL _)); simp only [Act.put, zq1, zq2, zq3]))
  go_ret
  exact RetV.mk hL rfl

set_option maxRecDepth 100000 in
set_option maxHeartbeats 8000000 in
theorem s_EqualFunc (a b : Value) (xs : List Cut) (w m : World) (hV : Vw m w) (ha : CutL m a xs) (hb : CutL m b xs) (hl : xs.length ≤ 1000000) :
    Calls Tryz.prog 149 #[a, b, .func (.func 150) #[] #[]] w (RetV w m fun _ r => r = .bool true) := by
  obtain ⟨A, c, rfl, hc, ha⟩ := ha.lit
  obtain ⟨B, d, rfl, hd, hb⟩ := hb.lit
  have hL := Loc.start hV
  clear hV
  generalize hn : xs.length = n at *
  have HN := Lib.hid hn
  clear hn
  have hnn : ((n : Int) != (n : Int)) = false := by simp
  go_enter Tryz.func149, Tryz.ntmps149
  go_wp2_with (first | ((with_reducible refine kAny ?_); go_skip) | ((first | refine tIn ?_ | refine tLn ?_ | (refine tSt ?_; clear hL; intro _ hL; simp only [splice, zq1, zq2, zq3] at hL) | (refine tAl ?_; clear hL; intro _ _ hL _)); simp only [Act.put, zq1, zq2, zq3]))
  go_loopw [17] (fun i wr => ∃ (k : Nat) (mm : World), k ≤ n ∧ i = .int .i64 k ∧ Loc w m wr mm [] ∧ Ext m mm) (fun i _ => n - (intOf i).toNat)
  case atStart => exact ⟨0, m, Nat.zero_le _, rfl, hL, Ext.refl _⟩
  case round =>
    clear hL
    obtain ⟨k, mm, hk, rfl, hL, hM⟩ := hrel
    by_cases hlt : k < n
    · obtain ⟨⟨r, dv⟩, hx⟩ := at_some HN hlt
      obtain ⟨b1, o1, A1, c1, rfl, hs1, hl1, hc1, -, -, hr1⟩ := CutL.at_ ha hx
      obtain ⟨b2, o2, A2, c2, rfl, hs2, hl2, hc2, -, -, hr2⟩ := CutL.at_ hb hx
      clear hx
      simp only at hs1 hl1 hc1 hr1 hs2 hl2 hc2 hr2
      have hll := Lib.hid hl1
      clear hl1 hl2
      go_wp2_with (first | ((with_reducible refine kAny ?_); go_skip) | ((first | refine tIn ?_ | refine tLn ?_ | (refine tSt ?_; clear hL; intro _ hL; simp only [splice, zq1, zq2, zq3] at hL) | (refine tAl ?_; clear hL; intro _ _ hL _)); simp only [Act.put, zq1, zq2, zq3]))
      refine (l_sameCut A1 A2 c1 c2 r dv _ _ hL.vw (IntL.le hs1 leX) (IntL.le hs2 leX) hll.out).mono ?_
      rintro e W1 ⟨_, m1, rfl, hE, hM1, hV, rfl⟩
      replace hL := hL.call hE (by assumption) hV; clear hE hV
      go_wp2_with (first | ((with_reducible refine kAny ?_); go_skip) | ((first | refine tIn ?_ | refine tLn ?_ | (refine tSt ?_; clear hL; intro _ hL; simp only [splice, zq1, zq2, zq3] at hL) | (refine tAl ?_; clear hL; intro _ _ hL _)); simp only [Act.put, zq1, zq2, zq3]))
      go_roundw
      case rel => exact ⟨k + 1, _, by omega, by go_num, hL.tail.tail, hL.mext⟩
      case measure => simp [intOf] <;> omega
    · go_wp2_with (first | ((with_reducible refine kAny ?_); go_skip) | ((first | refine tIn ?_ | refine tLn ?_ | (refine tSt ?_; clear hL; intro _ hL; simp only [splice, zq1, zq2, zq3] at hL) | (refine tAl ?_; clear hL; intro _ _ hL _)); simp only [Act.put, zq1, zq2, zq3]))
      go_ret
      exact RetV.mk hL rfl

set_option maxRecDepth 100000 in
set_option maxHeartbeats 8000000 in
theorem l_sameCuts (a b : Value) (xs : List Cut) (w m : World) (hV : Vw m w) (ha : CutL m a xs) (hb : CutL m b xs) (hl : xs.length ≤ 1000000) :
    Calls Tryz.prog 92 #[a, b] w (RetV w m fun _ r => r = .bool true) := by
  obtain ⟨A, c, rfl, hc, ha⟩ := ha.lit
  obtain ⟨B, d, rfl, hd, hb⟩ := hb.lit
  have HL := Lib.hid hl
  clear hl
  have hL := Loc.start hV
  clear hV
  go_enter Tryz.func92, Tryz.ntmps92
  go_wp2_with ((with_reducible refine kAny ?_); go_skip)
  refine (s_EqualFunc _ _ xs _ _ hL.vw (CutL.le ha leX) (CutL.le hb leX) HL.out).mono ?_
  rintro e W1 ⟨_, m1, rfl, hE, hM1, hV, rfl⟩
  replace hL := hL.call hE (by assumption) hV; clear hE hV
  go_wp2_with ((with_reducible refine kAny ?_); go_skip)
  go_ret
  exact RetV.mk hL rfl
end Go.Proofs.YtmhkmmmompediaaGreat

/- slices.Clone of numbers and decisions. -/
namespace Go.Proofs.YtmhkmmmompediaaGreat
open Go.RowKit

theorem row_empty (e : TypeId) (size g : Nat) : Row e size (.slice (some ⟨g, 0, none⟩) 0 0) 0 [] [(g, e, #[])] := ⟨by simp, .inr ⟨g, 0, #[], rfl, rfl, Nat.le_refl _, by decide, by simp, by simp⟩⟩
theorem ListV.nil_of {α : Type} {size : Nat} {R : World → Value → α → Prop} {m : World} {n c : Nat} {xs : List α} (h0 : 0 < size) (h : ListV size R m (.slice none n c) xs) : xs = [] := by
  cases hx : xs with
  | nil => rfl
  | cons x l =>
    obtain ⟨b, off, v, e, _⟩ := ListV.at_ h h0 (k := 0) (x := x) (by simp [hx])
    cases e

set_option maxRecDepth 100000 in
set_option maxHeartbeats 4000000 in
theorem s_CloneInts (v : Value) (xs : List Int) (w m : World) (hV : Vw m w) (h : IntL m v xs) (hl : xs.length ≤ 1000) :
    Calls Tryz.prog 142 #[v] w (RetV w m fun m' r => IntL m' r xs) := by
  have h' := h
  obtain ⟨A, c, vs, rfl, hc, h1, hs, h2⟩ := h
  have q35 : ∀ (w : World) (a : Option Addr) (n c n' c' : Nat), (binOp .eql 22 (.slice a n c) (.slice none n' c')).run Tryz.prog w = .ok (.bool a.isNone) w := fun w a n c n' c' => Lib.run_eql_slice_nil w _ _ a n c n' c' Tryz.underlying22
  have hL := Loc.start hV
  cases A with
  | none =>
    have h0 := ListV.nil_of (by omega) h'
    subst h0
    simp only [List.length_nil]
    clear hs hc hl h1 h2 h'
    go_enter Tryz.func142, Tryz.ntmps142
    go_wp2
    go_ret
    exact RetV.mk hL ListV.nil
  | some ad =>
    have hvl : vs.length = xs.length := h2.length
    have hcl := cellsOf_length h1
    have HC : Hid ((cellsOf vs).all (·.oneCell') = true) := by
      show _ = true
      refine List.all_eq_true.2 fun u hu => ?_
      obtain ⟨x, hx, hu⟩ := List.mem_flatMap.1 hu
      obtain ⟨k, hk⟩ := List.mem_iff_getElem?.1 hx
      obtain ⟨y, rfl⟩ := All2.left h2 hk
      simp [Value.cells] at hu
      subst hu; rfl
    generalize hn : xs.length = n at *
    have HN := Lib.hid hn
    have HL := Lib.hid hl
    have HH : Hid ((cellsOf vs).length = n * 1) := by show _ = _; rw [hcl, hvl]
    have H1 := Lib.hid h1
    have H2 := Lib.hid h2
    have HV := Lib.hid hvl
    clear hn hl hcl h1 h2 hvl h'
    clear hV
    go_enter Tryz.func142, Tryz.ntmps142
    go_wp2_with (at_builtin; go_must (refine wl_append (A := []) (hL.alloc #[] 3) (row_empty 3 1 _) (wanted_none rfl) rfl ap_ints (by omega) rfl rfl HH.out ((hs.le hL.vw.le).ext (Ext.new _ _)) HC.out (by have := HL.out; omega) (by omega) ?_); intro v1 W1 m1 R1 hL1 hR1 hM1)
    go_ret
    simp only [Nat.zero_add, List.nil_append] at hR1
    obtain ⟨m2, B, c2, hL2, hle, rfl, hc2, hs2, -⟩ := Loc.show (A := []) hL1 hR1
    exact RetV.mk hL2 (ListV.mk hc2 HV.out H1.out hs2 (H2.out.mono fun _ _ h => h))

set_option maxRecDepth 100000 in
set_option maxHeartbeats 4000000 in
theorem s_CloneDecs (v : Value) (xs : List Dec) (w m : World) (hV : Vw m w) (h : DecL m v xs) (hl : xs.length ≤ 1000) :
    Calls Tryz.prog 121 #[v] w (RetV w m fun m' r => DecL m' r xs) := by
  have h' := h
  obtain ⟨A, c, vs, rfl, hc, h1, hs, h2⟩ := h
  have q35 : ∀ (w : World) (a : Option Addr) (n c n' c' : Nat), (binOp .eql 29 (.slice a n c) (.slice none n' c')).run Tryz.prog w = .ok (.bool a.isNone) w := fun w a n c n' c' => Lib.run_eql_slice_nil w _ _ a n c n' c' Tryz.underlying29
  have hL := Loc.start hV
  cases A with
  | none =>
    have h0 := ListV.nil_of (by omega) h'
    subst h0
    simp only [List.length_nil]
    clear hs hc hl h1 h2 h'
    go_enter Tryz.func121, Tryz.ntmps121
    go_wp2
    go_ret
    exact RetV.mk hL ListV.nil
  | some ad =>
    have hvl : vs.length = xs.length := h2.length
    have hcl := cellsOf_length h1
    have HC : Hid ((cellsOf vs).all (·.oneCell') = true) := by
      show _ = true
      refine List.all_eq_true.2 fun u hu => ?_
      obtain ⟨x, hx, hu⟩ := List.mem_flatMap.1 hu
      obtain ⟨k, hk⟩ := List.mem_iff_getElem?.1 hx
      obtain ⟨y, rfl⟩ := All2.left h2 hk
      simp [Value.cells] at hu
      rcases hu with rfl | rfl | rfl <;> rfl
    generalize hn : xs.length = n at *
    have HN := Lib.hid hn
    have HL := Lib.hid hl
    have HH : Hid ((cellsOf vs).length = n * 3) := by show _ = _; rw [hcl, hvl]
    have H1 := Lib.hid h1
    have H2 := Lib.hid h2
    have HV := Lib.hid hvl
    clear hn hl hcl h1 h2 hvl h'
    clear hV
    go_enter Tryz.func121, Tryz.ntmps121
    go_wp2_with (at_builtin; go_must (refine wl_append (A := []) (hL.alloc #[] 87) (row_empty 87 3 _) (wanted_none rfl) rfl ap_Decs (by omega) rfl rfl HH.out ((hs.le hL.vw.le).ext (Ext.new _ _)) HC.out (by have := HL.out; omega) (by omega) ?_); intro v1 W1 m1 R1 hL1 hR1 hM1)
    go_ret
    simp only [Nat.zero_add, List.nil_append] at hR1
    obtain ⟨m2, B, c2, hL2, hle, rfl, hc2, hs2, -⟩ := Loc.show (A := []) hL1 hR1
    exact RetV.mk hL2 (ListV.mk hc2 HV.out H1.out hs2 (H2.out.mono fun _ _ h => h))
end Go.Proofs.YtmhkmmmompediaaGreat

/- Rows that are made with their whole length and filled one by one; memory that a callee leaves to its caller. No program. -/
namespace Go.Proofs.YtmhkmmmompediaaGreat
open Go.RowKit

theorem splice_at (ws : List Value) : ∀ (o : Nat) (cs : Array Value), o + ws.length ≤ cs.size → ∀ j : Nat, (splice cs o ws)[j]? = if o ≤ j ∧ j < o + ws.length then ws[j - o]? else cs[j]? := by
  induction ws with
  | nil => intro o cs _ j; simp [splice]; omega
  | cons v ws ih =>
    intro o cs h j
    simp only [List.length_cons] at h
    rw [splice, ih (o + 1) _ (by simp; omega), Array.getElem?_setIfInBounds]
    simp only [List.length_cons]
    by_cases h1 : o + 1 ≤ j ∧ j < o + 1 + ws.length
    · rw [if_pos h1, if_pos (by omega)]
      obtain ⟨i, rfl⟩ : ∃ i, j = o + 1 + i := ⟨j - (o + 1), by omega⟩
      rw [show o + 1 + i - (o + 1) = i by omega, show o + 1 + i - o = i + 1 by omega]
      simp
    · rw [if_neg h1]
      by_cases h2 : o = j
      · subst h2
        rw [if_pos rfl, if_pos (by omega), if_pos (by omega)]
        simp
      · rw [if_neg h2, if_neg (by omega)]

/-- The first k elements of a made row are laid. -/
def RowP {α : Type} (size : Nat) (R : World → Value → α → Prop) (m : World) (k : Nat) (cur : Array Value) (xs : List α) : Prop :=
  cur.size = xs.length * size ∧ ∃ vs, cur.toList.take (k * size) = cellsOf vs ∧ vs.length = k ∧ (∀ u ∈ vs, u.cells.size = size) ∧ All2 (R m) vs (xs.take k)
theorem RowP.zero {α : Type} {size : Nat} {R : World → Value → α → Prop} {m : World} {cur : Array Value} {xs : List α} (h : cur.size = xs.length * size) : RowP size R m 0 cur xs :=
  ⟨h, [], by simp [cellsOf], rfl, (fun _ h => by cases h), by simp [All2]⟩
theorem RowP.le {α : Type} {size : Nat} {R : World → Value → α → Prop} (hR : ∀ m m' v x, R m v x → Le m m' → R m' v x) {m m' : World} {k : Nat} {cur : Array Value} {xs : List α} (h : RowP size R m k cur xs) (hb : Le m m') : RowP size R m' k cur xs := by
  obtain ⟨h0, vs, h1, h2, h3, h4⟩ := h
  exact ⟨h0, vs, h1, h2, h3, h4.mono fun v x hv => hR m m' v x hv hb⟩
theorem RowP.step {α : Type} {size : Nat} {R : World → Value → α → Prop} {m : World} {k : Nat} {cur : Array Value} {xs : List α} (h : RowP size R m k cur xs) {ws : List Value} {x : α} (hx : xs[k]? = some x) (hw : ws.length = size) (hv : R m (.agg ws.toArray) x) :
    RowP size R m (k + 1) (splice cur (0 + k * size) ws) xs := by
  obtain ⟨h0, vs, h1, h2, h3, h4⟩ := h
  have hk : k < xs.length := (List.getElem?_eq_some_iff.1 hx).1
  have hfit : k * size + size ≤ cur.size := by rw [h0, ← Nat.succ_mul]; exact Nat.mul_le_mul_right _ hk
  refine ⟨by rw [splice_size]; exact h0, vs ++ [.agg ws.toArray], ?_, by simp [h2], ?_, ?_⟩
  · rw [cellsOf_append, cellsOf_one, ← h1, Nat.zero_add]
    apply List.ext_getElem?
    intro j
    rw [List.getElem?_take, Array.getElem?_toList, splice_at ws _ _ (by rw [hw]; exact hfit), Nat.succ_mul]
    have hl : (cur.toList.take (k * size)).length = k * size := by rw [List.length_take]; simp; omega
    by_cases hj : j < k * size
    · rw [if_pos (by omega), if_neg (by omega), List.getElem?_append_left (by omega), List.getElem?_take, if_pos hj, Array.getElem?_toList]
    · rw [List.getElem?_append_right (by omega), hl]
      by_cases hj2 : j < k * size + size
      · rw [if_pos hj2, if_pos (by omega)]
        simp [Value.cells]
      · rw [if_neg hj2, List.getElem?_eq_none]
        simp [Value.cells]; omega
  · intro u hu
    rcases List.mem_append.1 hu with hu | hu
    · exact h3 u hu
    · rcases List.mem_singleton.1 hu with rfl
      simpa [Value.cells] using hw
  · rw [List.take_add_one, hx]
    exact h4.snoc hv
/-- A whole row stands to xs. -/
def RowF {α : Type} (size : Nat) (R : World → Value → α → Prop) (m : World) (cur : Array Value) (xs : List α) : Prop :=
  ∃ vs, cur.toList = cellsOf vs ∧ (∀ u ∈ vs, u.cells.size = size) ∧ All2 (R m) vs xs
theorem RowF.le {α : Type} {size : Nat} {R : World → Value → α → Prop} (hR : ∀ m m' v x, R m v x → Le m m' → R m' v x) {m m' : World} {cur : Array Value} {xs : List α} (h : RowF size R m cur xs) (hb : Le m m') : RowF size R m' cur xs := by
  obtain ⟨vs, h1, h3, h4⟩ := h
  exact ⟨vs, h1, h3, h4.mono fun v x hv => hR m m' v x hv hb⟩
theorem RowP.done {α : Type} {size : Nat} {R : World → Value → α → Prop} {m : World} {k n : Nat} {cur : Array Value} {xs : List α} (h : RowP size R m k cur xs) (hn : xs.length = n) (hk : ¬ k < n) : RowF size R m cur xs := by
  obtain ⟨h0, vs, h1, h2, h3, h4⟩ := h
  have hl := h4.length
  have hkn : k = xs.length := by
    rw [List.length_take] at hl
    omega
  refine ⟨vs, ?_, h3, ?_⟩
  · rw [← h1, List.take_of_length_le]
    simp [h0, hkn]
  · rwa [hkn, List.take_length] at h4
theorem RowF.size {α : Type} {size : Nat} {R : World → Value → α → Prop} {m : World} {cur : Array Value} {xs : List α} (h : RowF size R m cur xs) : cur.size = xs.length * size := by
  obtain ⟨vs, h1, h3, h4⟩ := h
  have := cellsOf_length h3
  rw [← h1, h4.length] at this
  simpa using this
/-- A whole row that is shown is a list. -/
theorem Loc.showF {α : Type} {size : Nat} {R : World → Value → α → Prop} (hR : ∀ m m' v x, R m v x → Le m m' → R m' v x) {w0 m0 W m : World} {A : List Lo} {g : Nat} {t : TypeId} {cur : Array Value} (hL : Loc w0 m0 W m (A ++ [(g, t, cur)])) {xs : List α} (h : RowF size R m cur xs) {n : Nat} (hn : xs.length = n) :
    ∃ m', Loc w0 m0 W m' A ∧ Le m m' ∧ ListV size R m' (.slice (some ⟨g, 0, none⟩) n n) xs := by
  obtain ⟨m', h1, h2, h3⟩ := hL.show1 cur.size
  obtain ⟨vs, e1, e3, e4⟩ := h
  refine ⟨m', h1, h2, ListV.mk (Nat.le_refl _) (e4.length.trans hn) e3 ?_ (e4.mono fun v x hv => hR m m' v x hv h2)⟩
  rw [← e1]
  rwa [List.take_of_length_le (by simp)] at h3
theorem All2.set {α : Type} {R : Value → α → Prop} : ∀ {vs : List Value} {xs : List α}, All2 R vs xs → ∀ {k : Nat} {v : Value} {x : α}, R v x → All2 R (vs.set k v) (xs.set k x)
  | v :: vs, x :: xs, h, 0, _, _, hv => ⟨hv, h.2⟩
  | v :: vs, x :: xs, h, k + 1, _, _, hv => ⟨h.1, All2.set h.2 hv⟩
  | [], [], _, _, _, _, _ => trivial
  | [], _ :: _, h, _, _, _, _ => h.elim
  | _ :: _, [], h, _, _, _, _ => h.elim
theorem cellsOf_set {size : Nat} : ∀ {vs : List Value} {k : Nat} {ws : List Value}, (∀ u ∈ vs, u.cells.size = size) → ws.length = size → k < vs.length → ∀ j : Nat, (cellsOf (vs.set k (.agg ws.toArray)))[j]? = if k * size ≤ j ∧ j < k * size + size then ws[j - k * size]? else (cellsOf vs)[j]?
  | [], k, ws, _, _, hk, _ => by simp at hk
  | u :: vs, 0, ws, h, hw, hk, j => by
    have hl : u.cells.toList.length = size := by simpa using h u (by simp)
    simp only [List.set_cons_zero, cellsOf, List.flatMap_cons, Nat.zero_mul, Nat.zero_add, Nat.zero_le, true_and, Nat.sub_zero]
    by_cases hj : j < size
    · rw [if_pos hj, List.getElem?_append_left (by simpa [Value.cells, hw] using hj)]
      simp [Value.cells]
    · rw [if_neg hj, List.getElem?_append_right (by simpa [Value.cells, hw] using hj), List.getElem?_append_right (by omega), hl]
      simp [Value.cells, hw]
  | u :: vs, k + 1, ws, h, hw, hk, j => by
    have hl : u.cells.toList.length = size := by simpa using h u (by simp)
    have ih := cellsOf_set (vs := vs) (k := k) (ws := ws) (fun x hx => h x (by simp [hx])) hw (by simpa using hk)
    simp only [cellsOf] at ih
    simp only [List.set_cons_succ, cellsOf, List.flatMap_cons, Nat.succ_mul]
    by_cases hj : j < size
    · rw [List.getElem?_append_left (by omega), List.getElem?_append_left (by omega), if_neg (by omega)]
    · rw [List.getElem?_append_right (by omega), List.getElem?_append_right (by omega), hl, ih (j - size)]
      by_cases hc : k * size ≤ j - size ∧ j - size < k * size + size
      · rw [if_pos hc, if_pos (by omega), show j - size - k * size = j - (k * size + size) by omega]
      · rw [if_neg hc, if_neg (by omega)]
theorem RowF.set {α : Type} {size : Nat} {R : World → Value → α → Prop} {m : World} {k : Nat} {cur : Array Value} {xs : List α} (h : RowF size R m cur xs) {ws : List Value} {x : α} (hk : k < xs.length) (hw : ws.length = size) (hv : R m (.agg ws.toArray) x) :
    RowF size R m (splice cur (0 + k * size) ws) (xs.set k x) := by
  have hsz := h.size
  obtain ⟨vs, h1, h3, h4⟩ := h
  have hl := h4.length
  have hfit : k * size + size ≤ cur.size := by rw [hsz, ← Nat.succ_mul]; exact Nat.mul_le_mul_right _ hk
  refine ⟨vs.set k (.agg ws.toArray), ?_, ?_, h4.set hv⟩
  · apply List.ext_getElem?
    intro j
    rw [Array.getElem?_toList, Nat.zero_add, splice_at ws _ _ (by rw [hw]; exact hfit), cellsOf_set h3 hw (by omega), hw, ← h1]
    simp
  · intro u hu
    rcases List.mem_or_eq_of_mem_set hu with hu | rfl
    · exact h3 u hu
    · simpa [Value.cells] using hw
/-- The element at place k of a whole row. -/
theorem RowF.at_ {α : Type} {size : Nat} {R : World → Value → α → Prop} {m : World} {cur : Array Value} {xs : List α} (h : RowF size R m cur xs) {k : Nat} {x : α} (hk : xs[k]? = some x) :
    ∃ v, R m v x ∧ v.cells.size = size ∧ ∀ j, j < size → cur[0 + k * size + j]? = v.cells[j]? := by
  obtain ⟨vs, h1, h3, h4⟩ := h
  obtain ⟨v, hv, hR⟩ := h4.at_ hk
  refine ⟨v, hR, h3 v (List.mem_of_getElem? hv), fun j hj => ?_⟩
  have := cellsOf_at h3 hv j hj
  rw [← h1, Array.getElem?_toList] at this
  rw [Nat.zero_add, this, Array.getElem?_toList]

theorem ne0 {g : Nat} : ∀ y ∈ ([] : List Lo), some g ≠ some y.1 := fun _ h => by cases h
theorem neS {g : Nat} {x : Lo} {l : List Lo} (h : g ≠ x.1) (k : ∀ y ∈ l, some g ≠ some y.1) : ∀ y ∈ x :: l, some g ≠ some y.1 := fun y hy => by
  rcases List.mem_cons.1 hy with rfl | hy
  · exact fun e => h (Option.some.inj e)
  · exact k y hy
/-- A callee's blocks become the caller's. -/
theorem Loc.callL {w0 m0 W m W' m' : World} {Ls Lt : List Lo} (h : Loc w0 m0 W m Ls) (k : Loc W m W' m' Lt) : Loc w0 m0 W' m' (Lt ++ Ls) := by
  have hL := h.call k.ext k.mext k.vw
  refine ⟨hL.size0, hL.ext, hL.mext, hL.vw, ?_, ?_, ?_, ?_⟩
  · intro x hx
    rcases List.mem_append.1 hx with hx | hx
    · exact Nat.le_trans h.ext.size (k.low x hx)
    · exact hL.low x hx
  · intro x hx
    rcases List.mem_append.1 hx with hx | hx
    · exact k.blk x hx
    · exact hL.blk x hx
  · intro x hx
    rcases List.mem_append.1 hx with hx | hx
    · exact k.hid x hx
    · exact hL.hid x hx
  · refine List.pairwise_append.2 ⟨k.apart, hL.apart, fun x hx y hy => ?_⟩
    have h1 := k.low x hx
    have h2 := (h.blk y hy).lt
    omega
section
variable {P : Program} {ops : Array Oper} {Q : Exit → Act → World → Prop} {rest : List Oper} {o : Oper} {a : Act} {w0 m0 W m : World} {Ls : List Lo}
theorem wl_indexAddrA (hw : Region.wanted o (yielded ops a.tmps) = true) {t : TypeId} {s i : Operand} (ho : o.op = .indexAddr t s i) {e : TypeId} {size bytes zs : Nat} (hap : apS P t = some (e, size, bytes, zs))
    {A : Option Addr} {b off n c k : Nat} {kd : IntKind} (hs : a.eval s = .slice A n c) (hA : Hid (A = some ⟨b, off, none⟩)) (hi : a.eval i = .int kd k) (hk : k < n)
    (h : wpList P ops Q rest (a.put o.dst (.pointer (some ⟨b, off + k * size, none⟩))) W) : wpList P ops Q (o :: rest) a W := by
  rw [hA.out] at hs
  exact wl_indexAddr hw ho hap hs hi hk h
/-- A struct is laid into a row. -/
theorem wl_storeR (hL : Loc w0 m0 W m Ls) (hw : Region.wanted o (yielded ops a.tmps) = true) {ty : TypeId} {x y : Operand} (ho : o.op = .store ty x y) {g off : Nat} (hx : a.eval x = .pointer (some ⟨g, off, none⟩)) {vs : List Value}
    (hy : a.eval y = .agg vs.toArray) {k : Nat} (hty : agS P ty = some k) (hk : vs.length = k) {n : Nat} {t : TypeId} {cs : Array Value} (hn : Ls[n]? = some (g, t, cs)) (hfit : off + k ≤ cs.size) (h1 : vs.all (·.oneCell') = true)
    (h : ∀ W', Loc w0 m0 W' m (Ls.set n (g, t, splice cs off vs)) → wpList P ops Q rest (a.put o.dst undef) W') : wpList P ops Q (o :: rest) a W :=
  wl_store hL hw ho hx hy hty hk hn (by rw [hk]; exact hfit) h1 h
/-- A struct is read from a row. -/
theorem wl_loadR (hL : Loc w0 m0 W m Ls) (hw : Region.wanted o (yielded ops a.tmps) = true) {ty : TypeId} {x : Operand} (ho : o.op = .load ty x) {g off : Nat} (hx : a.eval x = .pointer (some ⟨g, off, none⟩)) {k : Nat} (hty : agS P ty = some k)
    {n : Nat} {t : TypeId} {cs : Array Value} (hn : Ls[n]? = some (g, t, cs)) {vs : List Value} (hr : ∀ j, j < k → cs[off + j]? = vs[j]?) (hk : vs.length = k)
    (h : wpList P ops Q rest (a.put o.dst (.agg vs.toArray)) W) : wpList P ops Q (o :: rest) a W :=
  wpList_wanted hw fun _ hK => op_load ho hx (vs := vs) (hk ▸ hty) (fun j v hv => by
    have hj : j < k := by rw [← hk]; exact (List.getElem?_eq_some_iff.1 hv).1
    rw [(hL.at_ hn).cell, hr j hj, hv]) (hK _ _ h)
theorem t_ixaA {t : TypeId} {s i : Operand} (ho : o.op = .indexAddr t s i) {e : TypeId} {size bytes : Nat} [hap : ApC P t e size bytes] {A : Option Addr} {b off n c k : Nat} {kd : IntKind} (hs : a.eval s = .slice A n c) (hi : a.eval i = .int kd k)
    (h : wpList P ops Q rest (a.put o.dst (.pointer (some ⟨b, off + k * size, none⟩))) W) (hA : Hid (A = some ⟨b, off, none⟩) := by with_reducible assumption) (hk : k < n := by first | with_reducible assumption | omega)
    (hw : Region.wanted o (yielded ops a.tmps) = true := by first | exact wanted_none rfl | exact wanted_some rfl rfl rfl rfl) : wpList P ops Q (o :: rest) a W := wl_indexAddrA hw ho hap.h hs hA hi hk h
theorem t_storeR (hL : Loc w0 m0 W m Ls) {ty : TypeId} {x y : Operand} (ho : o.op = .store ty x y) {g off : Nat} (hx : a.eval x = .pointer (some ⟨g, off, none⟩)) {vs : List Value} (hy : a.eval y = .agg vs.toArray) {k : Nat} [hty : AgC P ty k] {n : Nat} {t : TypeId} {cs : Array Value}
    (h : ∀ W', Loc w0 m0 W' m (Ls.set n (g, t, splice cs off vs)) → wpList P ops Q rest (a.put o.dst undef) W')
    (hn : Ls[n]? = some (g, t, cs) ∧ off + k ≤ cs.size ∧ vs.length = k ∧ vs.all (·.oneCell') = true := by refine ⟨?_, ?_, ?_, ?_⟩; (first | with_reducible exact lo0 | with_reducible exact lo1 | with_reducible exact lo2 | with_reducible exact lo3 | with_reducible exact lo4 | with_reducible exact lo5 | with_reducible exact lo6 | with_reducible exact lo7 | with_reducible exact lo8 | with_reducible exact lo9 | with_reducible exact lo10 | with_reducible exact lo11); (with_reducible assumption); exact rfl; exact rfl)
    (hw : Region.wanted o (yielded ops a.tmps) = true := by first | exact wanted_none rfl | exact wanted_some rfl rfl rfl rfl) : wpList P ops Q (o :: rest) a W := wl_storeR hL hw ho hx hy hty.h hn.2.2.1 hn.1 hn.2.1 hn.2.2.2 h
theorem t_loadR (hL : Loc w0 m0 W m Ls) {ty : TypeId} {x : Operand} (ho : o.op = .load ty x) {g off : Nat} (hx : a.eval x = .pointer (some ⟨g, off, none⟩)) {k : Nat} [hty : AgC P ty k] {n : Nat} {t : TypeId} {cs : Array Value} {vs : List Value}
    (h : wpList P ops Q rest (a.put o.dst (.agg vs.toArray)) W) (hn : Ls[n]? = some (g, t, cs) ∧ (∀ j, j < k → cs[off + j]? = vs[j]?) ∧ vs.length = k := by refine ⟨?_, ?_, ?_⟩; (first | with_reducible exact lo0 | with_reducible exact lo1 | with_reducible exact lo2 | with_reducible exact lo3 | with_reducible exact lo4 | with_reducible exact lo5 | with_reducible exact lo6 | with_reducible exact lo7 | with_reducible exact lo8 | with_reducible exact lo9 | with_reducible exact lo10 | with_reducible exact lo11); (with_reducible assumption); exact rfl)
    (hw : Region.wanted o (yielded ops a.tmps) = true := by first | exact wanted_none rfl | exact wanted_some rfl rfl rfl rfl) : wpList P ops Q (o :: rest) a W := wl_loadR hL hw ho hx hty.h hn.1 hn.2.1 hn.2.2 h
end
end Go.Proofs.YtmhkmmmompediaaGreat

/- Contract of lagrange.CeilInt where the ceiling is small. -/
namespace Go.Proofs.YtmhkmmmompediaaGreat
open Go.RowKit

set_option maxRecDepth 100000 in
set_option maxHeartbeats 8000000 in
theorem l_CeilInt (v : Value) (q : Rat) (w m : World) (hV : Vw m w) (h : FracC m v q) (hx : q.num.natAbs < 18446744073709551616) (hy : q.den < 18446744073709551616) (hq : 0 ≤ -q.num ∨ -q.num % (q.den : Int) = 0)
    (b1 : -1152921504606846976 ≤ cel q) (b2 : cel q ≤ 1152921504606846976) :
    Calls Tryz.prog 26 #[v] w (RetV w m fun _ r => r = .tuple #[.int .i64 (cel q), .int .i64 0]) := by
  obtain ⟨g, A, n, c, g', B', n', c', rfl, h⟩ := h.lit
  have HX := Lib.hid hx
  have HY := Lib.hid hy
  have HQ := Lib.hid hq
  have HC : Hid ((cel q).natAbs < 4611686018427387904) := by show _ < _; omega
  have HI : Hid ((digs (cel q).natAbs).length ≤ 1000) := by show _ ≤ _; exact Nat.le_trans (len2 (by omega)) (by omega)
  clear hx hy hq
  have hL := Loc.start hV
  clear hV
  go_enter Tryz.func26, Tryz.ntmps26
  go_wp2_with (first | ((with_reducible refine kAny ?_); go_skip) | ((first | refine tLn ?_ | (refine tBx ?_; clear hL; intro _ _ hL _)); simp only [Act.put, zq1, zq2, zq3]))
  refine (q_Ceil _ q _ _ hL.vw (h.le leX) HX.out HY.out HQ.out).mono ?_
  rintro e W1 ⟨v1, m1, rfl, hE, hM1, hV, h1⟩
  replace hL := hL.call hE (by assumption) hV; clear hE hV
  obtain ⟨g1', A1', n1', c1', rfl, h1⟩ := h1.lit
  go_wp2_with (first | ((with_reducible refine kAny ?_); go_skip) | ((first | refine tLn ?_ | (refine tBx ?_; clear hL; intro _ _ hL _)); simp only [Act.put, zq1, zq2, zq3]))
  refine (i_ToInt64 _ (cel q) _ _ hL.vw (h1.toV HI.out) HC.out).mono ?_
  rintro e W2 ⟨_, m2, rfl, hE, hM2, hV, rfl⟩
  replace hL := hL.call hE (by assumption) hV; clear hE hV
  clear HC HI
  obtain ⟨z, hz⟩ : ∃ z, z = cel q := ⟨_, rfl⟩
  rw [← hz] at b1 b2 ⊢
  have HZ := Lib.hid hz
  clear hz
  go_wp2_with (first | ((with_reducible refine kAny ?_); go_skip) | ((first | refine tLn ?_ | (refine tBx ?_; clear hL; intro _ _ hL _)); simp only [Act.put, zq1, zq2, zq3]))
  go_ret2
  exact RetV.mk hL (congrArg (fun t => Value.tuple #[.int .i64 t, .int .i64 0]) HZ.out)
end Go.Proofs.YtmhkmmmompediaaGreat

/- Contract of lagrange.copyPrices. -/
namespace Go.Proofs.YtmhkmmmompediaaGreat
open Go.RowKit

/-- Prices, as plain data. -/
structure Pr where
  fl : List Rat
  cu : List Cut
  cd : List Rat
  de : List Dec
  fr : Bool
def PricesR (m : World) (v : Value) (p : Pr) : Prop := ∃ a b c d, v = .agg #[a, b, c, d, .bool p.fr] ∧ FracL m a p.fl ∧ CutL m b p.cu ∧ FracL m c p.cd ∧ DecL m d p.de
theorem PricesR.le {m m' : World} {v : Value} {p : Pr} (h : PricesR m v p) (hb : Le m m') : PricesR m' v p := by
  obtain ⟨a, b, c, d, e, h1, h2, h3, h4⟩ := h
  exact ⟨a, b, c, d, e, FracL.le h1 hb, CutL.le h2 hb, FracL.le h3 hb, DecL.le h4 hb⟩
/-- Small: what the program's arithmetic bears. -/
structure Pr.ok (p : Pr) : Prop where
  fl : ∀ q ∈ p.fl, Sm q.num q.den
  cd : ∀ q ∈ p.cd, Sm q.num q.den
  nf : p.fl.length ≤ 1000
  nc : p.cu.length ≤ 1000
  nd : p.cd.length ≤ 1000
  ne : p.de.length ≤ 1000
  cu : ∀ c ∈ p.cu, c.1.length ≤ 1000
  ap : p.fl.length ≠ p.cd.length
def zFr : Array Value := #[.bool false, .slice none 0 0, .bool false, .slice none 0 0]
/-- The new rows and the copied decisions. -/
def PrB (B nf nc nd : Nat) (ds : List Dec) (fr : Bool) (v : Value) (u um : World) : Prop :=
  ∃ a b c s, v = .agg #[a, b, c, s, .bool fr] ∧ NewRow B 39 (madeCells #[.bool false, .slice none 0 0, .bool false, .slice none 0 0] (nf * 4)) nf a u um ∧ NewRow B 34 (madeCells #[.slice none 0 0, .int .i64 0] (nc * 2)) nc b u um ∧
    NewRow B 39 (madeCells #[.bool false, .slice none 0 0, .bool false, .slice none 0 0] (nd * 4)) nd c u um ∧ DecL um s ds
abbrev FrRow := RowF (α := Rat) 4 FracC
abbrev FrRowP := RowP (α := Rat) 4 FracC
abbrev CuRowP := RowP (α := Cut) 2 CutR
theorem FracC.mono (m m' : World) (v : Value) (x : Rat) (h : FracC m v x) (hb : Le m m') : FracC m' v x := h.le hb
theorem CutR.mono (m m' : World) (v : Value) (x : Cut) (h : CutR m v x) (hb : Le m m') : CutR m' v x := h.le hb
def CopyPost (w m : World) (p : Pr) (e : Ending) (w' : World) : Prop :=
  ∃ m' g1 g3 cur1 cur3 b s, e = .returned (.agg #[.slice (some ⟨g1, 0, none⟩) p.fl.length p.fl.length, b, .slice (some ⟨g3, 0, none⟩) p.cd.length p.cd.length, s, .bool p.fr]) ∧
    Loc w m w' m' [(g1, 39, cur1), (g3, 39, cur3)] ∧ FrRow m' cur1 p.fl ∧ FrRow m' cur3 p.cd ∧ CutL m' b p.cu ∧ DecL m' s p.de
theorem frac0 (m : World) : FracS m (.agg #[.bool false, .slice none 0 0, .bool false, .slice none 0 0]) 0 0 := ⟨_, _, _, _, rfl, IntC.nil.toS (by decide), IntC.nil.toS (by decide), by decide, by decide⟩
theorem add0 (q : Rat) : Rat.divInt q.num q.den + Rat.divInt 0 0 = q := by rw [Rat.num_divInt_den]; simp [Rat.add_zero]

theorem Loc.sub {w0 m0 W m : World} {A B : List Lo} (h : Loc w0 m0 W m A) (hs : B.Sublist A) : Loc w0 m0 W m B :=
  ⟨h.size0, h.ext, h.mext, h.vw, fun y hy => h.low y (hs.subset hy), fun y hy => h.blk y (hs.subset hy), fun y hy => h.hid y (hs.subset hy), h.apart.sublist hs⟩
theorem fin_aggP {P : Program} {fn : Func} {Post : Ending → World → Prop} {w m W mm : World} {Ls : List Lo} (hL : Loc w m W mm Ls) {p : Nat} {ty : TypeId} (hr : fn.results = #[.cell p ty]) {a : Act} (hdf : a.defers = []) {g : Nat}
    (hp : a.tmps.getD p undef = .pointer (some ⟨g, 0, none⟩)) {n : Nat} {t : TypeId} {cs : Array Value} (hn : Ls[n]? = some (g, t, cs)) {k : Nat} (hty : agS P ty = some k) (hk : cs.size = k) (h : Post (.returned (.agg cs)) W) :
    bodyPost P fn Post .ret a W := by
  subst hk
  obtain ⟨d, hu, hd, hi⟩ := ag_desc hty
  exact bodyPost_ret (results_cell_row hr _ _ g t cs (0, 0) d hp (hL.at_ hn) hu (by cases d <;> first | rfl | exact hd) hi) hdf h
theorem q_AddZero (a : Value) (q : Rat) (w m : World) (hV : Vw m w) (ha : FracC m a q) (hs : Sm q.num q.den) :
    Calls Tryz.prog 72 #[a, .agg #[.bool false, .slice none 0 0, .bool false, .slice none 0 0]] w (RetV w m fun m' r => FracC m' r q) := by
  have h := q_Add a _ q.num q.den 0 0 w m hV (ha.toS hs) (frac0 m) hs ⟨by decide, by decide⟩
  rwa [add0] at h

set_option maxRecDepth 100000 in
set_option maxHeartbeats 16000000 in
theorem l_copyPrices (v : Value) (p : Pr) (w m : World) (hV : Vw m w) (h : PricesR m v p) (ok : p.ok) : Calls Tryz.prog 84 #[v] w (CopyPost w m p) := by
  obtain ⟨fl, cu, cd, de, fr⟩ := p
  obtain ⟨a, b, c, d, rfl, h1, h2, h3, h4⟩ := h
  simp only at h1 h2 h3 h4
  obtain ⟨A1, c1, rfl, hc1, h1⟩ := h1.lit
  obtain ⟨A2, c2, rfl, hc2, h2⟩ := h2.lit
  obtain ⟨A3, c3, rfl, hc3, h3⟩ := h3.lit
  obtain ⟨A4, c4, rfl, hc4, h4⟩ := h4.lit
  have OK := Lib.hid ok
  have hnf : fl.length ≤ 1000000 := by have := ok.nf; simp only at this; omega
  have hnc : cu.length ≤ 1000000 := by have := ok.nc; simp only at this; omega
  have hnd : cd.length ≤ 1000000 := by have := ok.nd; simp only at this; omega
  clear ok
  generalize e1 : fl.length = nf at *
  generalize e2 : cu.length = nc at *
  generalize e3 : cd.length = nd at *
  have E1 := Lib.hid e1
  have E2 := Lib.hid e2
  have E3 := Lib.hid e3
  clear e1 e2 e3
  have hL := Loc.start hV
  clear hV
  go_enter Tryz.func84, Tryz.ntmps84
  go_upto_region 0 with (fail)
  refine wp_region_lit ?_
  refine t_box hL rfl rfl ?_; clear hL; intro Wh1 mh1 hL eh1; simp only [Act.put, zq1, zq2, zq3]
  refine t_alloc hL rfl ?_; clear hL; intro Wh2 mh2 hL eh2; simp only [Act.put, zq1, zq2, zq3]
  go_upto_region 1 with ((first | ((with_reducible refine kAny ?_); go_skip) | ((first | refine tIx ?_ | refine tFd ?_ | refine tLd ?_ | (refine tSr ?_; clear hL; intro _ hL; simp only [zq2, zq3] at hL) | (refine tSt ?_; clear hL; intro _ hL; simp only [splice, zq1, zq2, zq3] at hL) | (refine tBx ?_; clear hL; intro _ _ hL _) | (refine tAl ?_; clear hL; intro _ _ hL _)); simp only [Act.put, zq1, zq2, zq3])))
  obtain ⟨B, hB1, hB2, hB3⟩ := hL.bound
  refine wp_region_by2 19 [false, false, false, false, false, false, false, false, false, false, false, false, false, false, false, false, false, false, true] [false, false, false, false, false, false, false, false, false, false, false, false, false, false, false, false, false, false, false] [(fun v _ _ => v = ?c1_0), (fun v _ _ => v = ?c1_1), (fun v _ _ => v = ?c1_2), NewRow B 39 (madeCells #[.bool false, .slice none 0 0, .bool false, .slice none 0 0] (nf * 4)) nf, (fun v _ _ => v = ?c1_4), (fun v _ _ => v = ?c1_5), (fun v _ _ => v = ?c1_6), NewRow B 34 (madeCells #[.slice none 0 0, .int .i64 0] (nc * 2)) nc, (fun v _ _ => v = ?c1_8), (fun v _ _ => v = ?c1_9), (fun v _ _ => v = ?c1_10), NewRow B 39 (madeCells #[.bool false, .slice none 0 0, .bool false, .slice none 0 0] (nd * 4)) nd, (fun v _ _ => v = ?c1_12), (fun v _ _ => v = ?c1_13), Of (fun um v => DecL um v de), (fun v _ _ => v = ?c1_15), (fun v _ _ => v = ?c1_16), (PrB B nf nc nd de fr), NewBlk B 31 #[.slice none 0 0, .slice none 0 0, .slice none 0 0, .slice none 0 0, .bool false]] hL.vw mixed [10, 11, 12, 13, 14, 15, 16, 17, 18, 19, 20, 21, 22, 23, 24, 25, 26, 27, 3] _ (by kernel_rfl) (fun vs => by simp only [lay, Act.put, zq1, zq2, zq3]; rfl) (by kernel_rfl) (by decide) (by decide) ?s1 ?l1 ?r1
  case s1 =>
    refine ⟨?_, ?_, ?_, ?_, ?_, ?_, ?_, ?_, ?_, ?_, ?_, ?_, ?_, ?_, ?_, ?_, ?_, ?_, ?_, trivial⟩
    · intro vs W1 m1 hE hM hV hD
      clear hD
      replace hL := hL.call hE hM hV
      exact sFd
    · intro vs W1 m1 hE hM hV hD
      obtain ⟨⟨_, _, -, -, f10⟩, -⟩ := hD
      have f10 : vs 10 = _ := f10
      generalize vs 10 = x10 at f10 ⊢
      subst x10
      replace hL := hL.call hE hM hV
      exact sLd
    · intro vs W1 m1 hE hM hV hD
      obtain ⟨⟨_, _, -, -, f11⟩, -⟩ := hD
      have f11 : vs 11 = _ := f11
      generalize vs 11 = x11 at f11 ⊢
      subst x11
      replace hL := hL.call hE hM hV
      go_wp2_with (first | ((with_reducible refine kAny ?_); go_skip) | ((first | refine tIx ?_ | refine tFd ?_ | refine tLd ?_ | (refine tSr ?_; clear hL; intro _ hL; simp only [zq2, zq3] at hL) | (refine tSt ?_; clear hL; intro _ hL; simp only [splice, zq1, zq2, zq3] at hL) | (refine tBx ?_; clear hL; intro _ _ hL _) | (refine tAl ?_; clear hL; intro _ _ hL _)); simp only [Act.put, zq1, zq2, zq3]))
      refine One2.still hV ?_; exact rfl
    · intro vs W1 m1 hE hM hV hD
      obtain ⟨⟨_, _, -, -, f12⟩, -, -⟩ := hD
      have f12 : vs 12 = _ := f12
      generalize vs 12 = x12 at f12 ⊢
      subst x12
      exact one2_make hV (Nat.le_trans hB3 hE.size) rfl rfl rfl ap_Fracs zc_Frac rfl (hnf) (by omega)
    · intro vs W1 m1 hE hM hV hD
      clear hD
      replace hL := hL.call hE hM hV
      exact sFd
    · intro vs W1 m1 hE hM hV hD
      obtain ⟨⟨_, _, -, -, f14⟩, -⟩ := hD
      have f14 : vs 14 = _ := f14
      generalize vs 14 = x14 at f14 ⊢
      subst x14
      replace hL := hL.call hE hM hV
      exact sLd
    · intro vs W1 m1 hE hM hV hD
      obtain ⟨⟨_, _, -, -, f15⟩, -⟩ := hD
      have f15 : vs 15 = _ := f15
      generalize vs 15 = x15 at f15 ⊢
      subst x15
      replace hL := hL.call hE hM hV
      go_wp2_with (first | ((with_reducible refine kAny ?_); go_skip) | ((first | refine tIx ?_ | refine tFd ?_ | refine tLd ?_ | (refine tSr ?_; clear hL; intro _ hL; simp only [zq2, zq3] at hL) | (refine tSt ?_; clear hL; intro _ hL; simp only [splice, zq1, zq2, zq3] at hL) | (refine tBx ?_; clear hL; intro _ _ hL _) | (refine tAl ?_; clear hL; intro _ _ hL _)); simp only [Act.put, zq1, zq2, zq3]))
      refine One2.still hV ?_; exact rfl
    · intro vs W1 m1 hE hM hV hD
      obtain ⟨⟨_, _, -, -, f16⟩, -, -⟩ := hD
      have f16 : vs 16 = _ := f16
      generalize vs 16 = x16 at f16 ⊢
      subst x16
      exact one2_make hV (Nat.le_trans hB3 hE.size) rfl rfl rfl ap_Cuts zc_Cut rfl (hnc) (by omega)
    · intro vs W1 m1 hE hM hV hD
      clear hD
      replace hL := hL.call hE hM hV
      exact sFd
    · intro vs W1 m1 hE hM hV hD
      obtain ⟨⟨_, _, -, -, f18⟩, -⟩ := hD
      have f18 : vs 18 = _ := f18
      generalize vs 18 = x18 at f18 ⊢
      subst x18
      replace hL := hL.call hE hM hV
      exact sLd
    · intro vs W1 m1 hE hM hV hD
      obtain ⟨⟨_, _, -, -, f19⟩, -⟩ := hD
      have f19 : vs 19 = _ := f19
      generalize vs 19 = x19 at f19 ⊢
      subst x19
      replace hL := hL.call hE hM hV
      go_wp2_with (first | ((with_reducible refine kAny ?_); go_skip) | ((first | refine tIx ?_ | refine tFd ?_ | refine tLd ?_ | (refine tSr ?_; clear hL; intro _ hL; simp only [zq2, zq3] at hL) | (refine tSt ?_; clear hL; intro _ hL; simp only [splice, zq1, zq2, zq3] at hL) | (refine tBx ?_; clear hL; intro _ _ hL _) | (refine tAl ?_; clear hL; intro _ _ hL _)); simp only [Act.put, zq1, zq2, zq3]))
      refine One2.still hV ?_; exact rfl
    · intro vs W1 m1 hE hM hV hD
      obtain ⟨⟨_, _, -, -, f20⟩, -, -⟩ := hD
      have f20 : vs 20 = _ := f20
      generalize vs 20 = x20 at f20 ⊢
      subst x20
      exact one2_make hV (Nat.le_trans hB3 hE.size) rfl rfl rfl ap_Fracs zc_Frac rfl (hnd) (by omega)
    · intro vs W1 m1 hE hM hV hD
      clear hD
      replace hL := hL.call hE hM hV
      exact sFd
    · intro vs W1 m1 hE hM hV hD
      obtain ⟨⟨_, _, -, -, f22⟩, -⟩ := hD
      have f22 : vs 22 = _ := f22
      generalize vs 22 = x22 at f22 ⊢
      subst x22
      replace hL := hL.call hE hM hV
      exact sLd
    · intro vs W1 m1 hE hM hV hD
      obtain ⟨⟨_, _, -, -, f23⟩, -⟩ := hD
      have f23 : vs 23 = _ := f23
      generalize vs 23 = x23 at f23 ⊢
      subst x23
      go_wp2_with fail
      refine (s_CloneDecs _ de _ _ hV (DecL.le h4 leX) OK.out.ne).mono ?_
      rintro e W2 ⟨v, m2, rfl, hE2, hM2, hV2, h⟩
      go_wp2_with fail
      refine One2.call hE2 hM2 hV2 ?_; first | exact h | exact rfl
    · intro vs W1 m1 hE hM hV hD
      clear hD
      replace hL := hL.call hE hM hV
      exact sFd
    · intro vs W1 m1 hE hM hV hD
      obtain ⟨⟨_, _, -, -, f25⟩, -⟩ := hD
      have f25 : vs 25 = _ := f25
      generalize vs 25 = x25 at f25 ⊢
      subst x25
      replace hL := hL.call hE hM hV
      exact sLd
    · intro vs W1 m1 hE hM hV hD
      obtain ⟨⟨_, _, j13, i13, f13⟩, ⟨_, _, j17, i17, f17⟩, ⟨_, _, j21, i21, f21⟩, ⟨_, _, -, i24, f24⟩, ⟨_, _, -, -, f26⟩, -⟩ := hD
      have f26 : vs 26 = _ := f26
      generalize vs 26 = x26 at f26 ⊢
      subst x26
      have f24 : DecL _ (vs 24) de := f24
      replace f24 := f24.le i24.le
      clear i24
      (obtain ⟨g13, x13, r13⟩ := f13.ext j13 i13; obtain ⟨g17, x17, r17⟩ := f17.ext j17 i17; obtain ⟨g21, x21, r21⟩ := f21.ext j21 i21; obtain ⟨A24, c24, x24, hc24, f24⟩ := f24.lit; generalize vs 13 = y13 at x13 ⊢; subst y13; generalize vs 17 = y17 at x17 ⊢; subst y17; generalize vs 21 = y21 at x21 ⊢; subst y21; generalize vs 24 = y24 at x24 ⊢; subst y24; go_wp2_with fail; refine One2.still hV ?_; exact ⟨_, _, _, _, rfl, ⟨_, rfl, r13⟩, ⟨_, rfl, r17⟩, ⟨_, rfl, r21⟩, f24⟩)
    · intro vs W1 m1 hE hM hV hD
      clear hD
      exact one2_alloc hV (Nat.le_trans hB3 hE.size) rfl rfl rfl ZcC.h
  case l1 =>
    refine ⟨fun h => (by cases h), fun h => (by cases h), fun h => (by cases h), fun h => (by cases h), fun h => (by cases h), fun h => (by cases h), fun h => (by cases h), fun h => (by cases h), fun h => (by cases h), fun h => (by cases h), fun h => (by cases h), fun h => (by cases h), fun h => (by cases h), fun h => (by cases h), fun h => (by cases h), fun h => (by cases h), fun h => (by cases h), fun h => (by cases h), fun h => (by cases h), trivial⟩
  intro vs W1 m1 hE hM hV hF hD
  obtain ⟨-, -, -, -, -, -, -, -, -, -, -, -, -, -, ⟨_, _, -, i24, f24⟩, -, -, ⟨_, _, j27, i27, f27⟩, ⟨_, _, j3, i3, f3⟩, -⟩ := hF
  replace hL := hL.call hE hM hV
  replace f24 : DecL _ (vs 24) de := f24
  replace f24 := f24.le i24.le
  clear i24
  obtain ⟨b3, e3, hL⟩ := Loc.addB (Lt := []) hB1 hB2 hL f3 j3 i3 ad0
  simp only [e3, List.cons_append, List.nil_append] at hL ⊢
  clear e3 f3 j3 i3
  clear hD
  clear hE hV
  obtain ⟨_, _, _, s, e27, ⟨g1, rfl, r1, r2, r3, r4⟩, ⟨g2, rfl, s1, s2, s3, s4⟩, ⟨g3, rfl, t1, t2, t3, t4⟩, hd4⟩ := f27
  generalize vs 27 = x27 at e27 ⊢
  subst x27
  obtain ⟨A5, c5, rfl, hc5, hd4⟩ := (DecL.le hd4 i27.le).lit
  have q1 := r3.ext j27
  have q2 := s3.ext j27
  have q3 := t3.ext j27
  replace hL := Loc.add2 (Lt := [_]) hB1 hB2 hL t1 t2 t3 t4 j27 i27 (neS (blk_ne q3 (hL.at_ lo0) (.inl (by decide))) ne0)
  replace hL := Loc.add2 (Lt := [_, _]) hB1 hB2 hL s1 s2 s3 s4 j27 i27 (neS (blk_ne q2 q3 (.inl (by decide))) (neS (blk_ne q2 (hL.at_ lo1) (.inl (by decide))) ne0))
  replace hL := Loc.add2 (Lt := [_, _, _]) hB1 hB2 hL r1 r2 r3 r4 j27 i27 (neS (blk_ne q1 q2 (.inl (by decide))) (neS (blk_ne q1 q3 (.inr (by rw [size_madeCells, size_madeCells]; have := OK.out.ap; simp only [E1.out, E3.out] at this; omega))) (neS (blk_ne q1 (hL.at_ lo2) (.inl (by decide))) ne0)))
  simp only [List.cons_append, List.nil_append] at hL
  clear q1 q2 q3 r1 r2 r3 r4 s1 s2 s3 s4 t1 t2 t3 t4 j27 i27 hB1 hB2 hB3
  simp only [List.drop_succ_cons, List.drop_zero]
  go_wp2_with (first | ((with_reducible refine kAny ?_); go_skip) | ((first | refine tIx ?_ | refine tFd ?_ | refine tLd ?_ | (refine tSr ?_; clear hL; intro _ hL; simp only [zq2, zq3] at hL) | (refine tSt ?_; clear hL; intro _ hL; simp only [splice, zq1, zq2, zq3] at hL) | (refine tBx ?_; clear hL; intro _ _ hL _) | (refine tAl ?_; clear hL; intro _ _ hL _)); simp only [Act.put, zq1, zq2, zq3]))
  refine QN.mk ?_
  have r1 : FrRowP m1 0 (madeCells #[.bool false, .slice none 0 0, .bool false, .slice none 0 0] (nf * 4)) fl := RowP.zero (by rw [size_madeCells, E1.out])
  have r2 : CuRowP m1 0 (madeCells #[.slice none 0 0, .int .i64 0] (nc * 2)) cu := RowP.zero (by rw [size_madeCells, E2.out])
  have r3 : FrRowP m1 0 (madeCells #[.bool false, .slice none 0 0, .bool false, .slice none 0 0] (nd * 4)) cd := RowP.zero (by rw [size_madeCells, E3.out])
  generalize madeCells #[.bool false, .slice none 0 0, .bool false, .slice none 0 0] (nf * 4) = q1 at hL r1
  generalize madeCells #[.slice none 0 0, .int .i64 0] (nc * 2) = q2 at hL r2
  generalize madeCells #[.bool false, .slice none 0 0, .bool false, .slice none 0 0] (nd * 4) = q3 at hL r3
  go_wp2_with (first | ((with_reducible refine kAny ?_); go_skip) | ((first | refine tIx ?_ | refine tFd ?_ | refine tLd ?_ | (refine tSr ?_; clear hL; intro _ hL; simp only [zq2, zq3] at hL) | (refine tSt ?_; clear hL; intro _ hL; simp only [splice, zq1, zq2, zq3] at hL) | (refine tBx ?_; clear hL; intro _ _ hL _) | (refine tAl ?_; clear hL; intro _ _ hL _)); simp only [Act.put, zq1, zq2, zq3]))
  go_loopw [31] (fun i wr => ∃ (k : Nat) (mm : World) (cur : Array Value), k ≤ nf ∧ i = .int .i64 k ∧ Loc w m wr mm [(g1, 39, cur), (g2, 34, q2), (g3, 39, q3), (b3, 31, #[.slice (some ⟨g1, 0, none⟩) nf nf, .slice (some ⟨g2, 0, none⟩) nc nc, .slice (some ⟨g3, 0, none⟩) nd nd, .slice A5 de.length c5, .bool fr]), (Wh1.heap.size, 31, #[.slice none 0 0, .slice none 0 0, .slice none 0 0, .slice none 0 0, .bool false]), (w.heap.size, 31, #[.slice A1 nf c1, .slice A2 nc c2, .slice A3 nd c3, .slice A4 de.length c4, .bool fr])] ∧ FrRowP mm k cur fl ∧ Ext m1 mm) (fun i _ => nf - (intOf i).toNat)
  case atStart => exact ⟨0, m1, _, Nat.zero_le _, rfl, hL, r1, Ext.refl _⟩
  case round =>
    clear hL r1
    obtain ⟨k, mm, cur, hk, rfl, hL, r1, hX⟩ := hrel
    have hM := hL.mext
    by_cases hlt : k < nf
    · obtain ⟨x, hx⟩ := at_some E1 hlt
      obtain ⟨b1, o1, g1', A1', n1, c1', g1'', B1, k1, d1, hA, ha1, hr1⟩ := FracL.at_ h1 hx
      replace hA := Lib.hid hA
      have hS : Hid (Sm x.num x.den) := OK.out.fl x (List.mem_of_getElem? hx)
      have HX := Lib.hid hx
      have hfit : 0 + k * 4 + 4 ≤ cur.size := by rw [r1.1, E1.out]; omega
      have R1 := Lib.hid r1
      clear hx r1
      go_upto_region 5 with ((first | ((with_reducible refine kAny ?_); go_skip) | ((first | refine tIx ?_ | refine tFd ?_ | refine tLd ?_ | (refine tSr ?_; clear hL; intro _ hL; simp only [zq2, zq3] at hL) | (refine tSt ?_; clear hL; intro _ hL; simp only [splice, zq1, zq2, zq3] at hL) | (refine tBx ?_; clear hL; intro _ _ hL _) | (refine tAl ?_; clear hL; intro _ _ hL _)); simp only [Act.put, zq1, zq2, zq3])))
      (try simp only [eq_self] at *)
      refine wp_region_by2 7 [false, false, false, false, false, false, false] [false, false, false, false, false, false, false] [(fun v _ _ => v = ?c5_0), (fun v _ _ => v = ?c5_1), (fun v _ _ => v = ?c5_2), (fun v _ _ => v = ?c5_3), (fun v _ _ => v = ?c5_4), Of (fun um v => FracC um v x), (fun v _ _ => v = ?c5_6)] hL.vw mixed [36, 37, 38, 39, 40, 41, 42] _ (by kernel_rfl) (fun vs => by simp only [lay, Act.put, zq1, zq2, zq3]; rfl) (by kernel_rfl) (by decide) (by decide) ?s5 ?l5 ?r5
      case s5 =>
        refine ⟨?_, ?_, ?_, ?_, ?_, ?_, ?_, trivial⟩
        · intro vs W1 m1 hE hM hV hD
          clear hD
          replace hL := hL.call hE hM hV
          exact sFd
        · intro vs W1 m1 hE hM hV hD
          obtain ⟨⟨_, _, -, -, f36⟩, -⟩ := hD
          have f36 : vs 36 = _ := f36
          generalize vs 36 = x36 at f36 ⊢
          subst x36
          replace hL := hL.call hE hM hV
          exact sLd
        · intro vs W1 m1 hE hM hV hD
          clear hD
          replace hL := hL.call hE hM hV
          exact sPu
        · intro vs W1 m1 hE hM hV hD
          clear hD
          replace hL := hL.call hE hM hV
          exact sLd
        · intro vs W1 m1 hE hM hV hD
          clear hD
          replace hL := hL.call hE hM hV
          exact sPu
        · intro vs W1 m1 hE hM hV hD
          obtain ⟨⟨_, _, -, -, f39⟩, ⟨_, _, -, -, f40⟩, -⟩ := hD
          have f39 : vs 39 = _ := f39
          generalize vs 39 = x39 at f39 ⊢
          subst x39
          have f40 : vs 40 = _ := f40
          generalize vs 40 = x40 at f40 ⊢
          subst x40
          go_wp2_with fail
          refine (q_AddZero _ x _ _ hV (ha1.le leX) hS.out).mono ?_
          rintro e W2 ⟨v, m2, rfl, hE2, hM2, hV2, h⟩
          go_wp2_with fail
          refine One2.call hE2 hM2 hV2 ?_; first | exact h | exact rfl
        · intro vs W1 m1 hE hM hV hD
          obtain ⟨⟨_, _, -, -, f37⟩, ⟨_, _, -, -, f38⟩, -, -, -, -, -, -, -⟩ := hD
          have f37 : vs 37 = _ := f37
          generalize vs 37 = x37 at f37 ⊢
          subst x37
          have f38 : vs 38 = _ := f38
          generalize vs 38 = x38 at f38 ⊢
          subst x38
          replace hL := hL.call hE hM hV
          exact sIx
      case l5 =>
        refine ⟨fun h => (by cases h), fun h => (by cases h), fun h => (by cases h), fun h => (by cases h), fun h => (by cases h), fun h => (by cases h), fun h => (by cases h), trivial⟩
      intro vs W1 m1 hE hM hV hF hD
      clear hD
      obtain ⟨-, -, -, -, -, ⟨_, _, -, i41, f41⟩, ⟨_, _, -, -, f42⟩, -⟩ := hF
      replace hL := hL.call hE hM hV
      replace f41 : FracC _ (vs 41) x := f41
      replace f41 := f41.le i41.le
      clear i41
      obtain ⟨g41, A41, n41, c41, h41, B41, k41, d41, e41, f41⟩ := f41.lit
      generalize vs 41 = x41 at e41 ⊢
      subst x41
      have f42 : vs 42 = _ := f42
      generalize vs 42 = x42 at f42 ⊢
      subst x42
      clear hE hV
      simp only [List.drop_succ_cons, List.drop_zero]
      go_wp2_with (first | ((with_reducible refine kAny ?_); go_skip) | ((first | refine tIx ?_ | refine tFd ?_ | refine tLd ?_ | (refine tSr ?_; clear hL; intro _ hL; simp only [zq2, zq3] at hL) | (refine tSt ?_; clear hL; intro _ hL; simp only [splice, zq1, zq2, zq3] at hL) | (refine tBx ?_; clear hL; intro _ _ hL _) | (refine tAl ?_; clear hL; intro _ _ hL _)); simp only [Act.put, zq1, zq2, zq3]))
      refine QN.mk ?_
      go_wp2_with (first | ((with_reducible refine kAny ?_); go_skip) | ((first | refine tIx ?_ | refine tFd ?_ | refine tLd ?_ | (refine tSr ?_; clear hL; intro _ hL; simp only [zq2, zq3] at hL) | (refine tSt ?_; clear hL; intro _ hL; simp only [splice, zq1, zq2, zq3] at hL) | (refine tBx ?_; clear hL; intro _ _ hL _) | (refine tAl ?_; clear hL; intro _ _ hL _)); simp only [Act.put, zq1, zq2, zq3]))
      go_roundw
      case rel => exact ⟨k + 1, _, _, by omega, by go_num, hL.tail, (RowP.le FracC.mono R1.out leX).step HX.out rfl f41, exX⟩
      case measure => simp [intOf] <;> omega
    · replace r1 : Hid (FrRow mm cur fl) := r1.done E1.out hlt
      replace r2 : CuRowP mm 0 q2 cu := RowP.le CutR.mono r2 hX.le
      replace r3 : FrRowP mm 0 q3 cd := RowP.le FracC.mono r3 hX.le
      replace hd4 : DecL mm (.slice A5 de.length c5) de := DecL.le hd4 hX.le
      clear hX
      go_wp2_with (first | ((with_reducible refine kAny ?_); go_skip) | ((first | refine tIx ?_ | refine tFd ?_ | refine tLd ?_ | (refine tSr ?_; clear hL; intro _ hL; simp only [zq2, zq3] at hL) | (refine tSt ?_; clear hL; intro _ hL; simp only [splice, zq1, zq2, zq3] at hL) | (refine tBx ?_; clear hL; intro _ _ hL _) | (refine tAl ?_; clear hL; intro _ _ hL _)); simp only [Act.put, zq1, zq2, zq3]))
      clear hlt hk
      go_loopw [47] (fun i wr => ∃ (k : Nat) (m2 : World) (cur2 : Array Value), k ≤ nc ∧ i = .int .i64 k ∧ Loc w m wr m2 [(g1, 39, cur), (g2, 34, cur2), (g3, 39, q3), (b3, 31, #[.slice (some ⟨g1, 0, none⟩) nf nf, .slice (some ⟨g2, 0, none⟩) nc nc, .slice (some ⟨g3, 0, none⟩) nd nd, .slice A5 de.length c5, .bool fr]), (Wh1.heap.size, 31, #[.slice none 0 0, .slice none 0 0, .slice none 0 0, .slice none 0 0, .bool false]), (w.heap.size, 31, #[.slice A1 nf c1, .slice A2 nc c2, .slice A3 nd c3, .slice A4 de.length c4, .bool fr])] ∧ CuRowP m2 k cur2 cu ∧ Ext mm m2) (fun i _ => nc - (intOf i).toNat)
      case atStart => exact ⟨0, mm, _, Nat.zero_le _, rfl, hL, r2, Ext.refl _⟩
      case round =>
        clear hL r2
        obtain ⟨k2, m2, cur2, hk2, rfl, hL, r2, hX⟩ := hrel
        have hM2 := hL.mext
        by_cases hlt : k2 < nc
        · obtain ⟨⟨r, dv⟩, hx⟩ := at_some E2 hlt
          obtain ⟨b1, o1, A1', c1', hA, hs1, hl1, hc1', -, -, hr1⟩ := CutL.at_ h2 hx
          replace hA := Lib.hid hA
          have HL : Hid (r.length ≤ 1000) := OK.out.cu _ (List.mem_of_getElem? hx)
          have HX := Lib.hid hx
          have hfit : 0 + k2 * 2 + 2 ≤ cur2.size := by rw [r2.1, E2.out]; omega
          have R2 := Lib.hid r2
          simp only at hs1 hl1 hc1' hr1
          have hll := Lib.hid hl1
          clear hx r2 hl1
          go_upto_region 10 with ((first | ((with_reducible refine kAny ?_); go_skip) | ((first | refine tIx ?_ | refine tFd ?_ | refine tLd ?_ | (refine tSr ?_; clear hL; intro _ hL; simp only [zq2, zq3] at hL) | (refine tSt ?_; clear hL; intro _ hL; simp only [splice, zq1, zq2, zq3] at hL) | (refine tBx ?_; clear hL; intro _ _ hL _) | (refine tAl ?_; clear hL; intro _ _ hL _)); simp only [Act.put, zq1, zq2, zq3])))
          (try simp only [eq_self] at *)
          refine wp_region_by2 10 [false, false, false, false, false, false, false, false, false, false] [false, false, false, false, false, false, false, false, false, false] [(fun v _ _ => v = ?c10_0), (fun v _ _ => v = ?c10_1), (fun v _ _ => v = ?c10_2), (fun v _ _ => v = ?c10_3), (fun v _ _ => v = ?c10_4), Of (fun um v => IntL um v r), (fun v _ _ => v = ?c10_6), (fun v _ _ => v = ?c10_7), Of (fun um v => CutR um v (r, dv)), (fun v _ _ => v = ?c10_9)] hL.vw mixed [52, 53, 54, 55, 56, 57, 58, 59, 60, 61] _ (by kernel_rfl) (fun vs => by simp only [lay, Act.put, zq1, zq2, zq3]; rfl) (by kernel_rfl) (by decide) (by decide) ?s10 ?l10 ?r10
          case s10 =>
            refine ⟨?_, ?_, ?_, ?_, ?_, ?_, ?_, ?_, ?_, ?_, trivial⟩
            · intro vs W1 m1 hE hM hV hD
              clear hD
              replace hL := hL.call hE hM hV
              exact sFd
            · intro vs W1 m1 hE hM hV hD
              obtain ⟨⟨_, _, -, -, f52⟩, -⟩ := hD
              have f52 : vs 52 = _ := f52
              generalize vs 52 = x52 at f52 ⊢
              subst x52
              replace hL := hL.call hE hM hV
              exact sLd
            · intro vs W1 m1 hE hM hV hD
              clear hD
              replace hL := hL.call hE hM hV
              exact sPu
            · intro vs W1 m1 hE hM hV hD
              clear hD
              replace hL := hL.call hE hM hV
              exact sFd
            · intro vs W1 m1 hE hM hV hD
              obtain ⟨⟨_, _, -, -, f55⟩, -⟩ := hD
              have f55 : vs 55 = _ := f55
              generalize vs 55 = x55 at f55 ⊢
              subst x55
              replace hL := hL.call hE hM hV
              exact sLd
            · intro vs W1 m1 hE hM hV hD
              obtain ⟨⟨_, _, -, -, f56⟩, -⟩ := hD
              have f56 : vs 56 = _ := f56
              generalize vs 56 = x56 at f56 ⊢
              subst x56
              go_wp2_with fail
              refine (s_CloneInts _ r _ _ hV (IntL.le hs1 leX) HL.out).mono ?_
              rintro e W2 ⟨v, m2, rfl, hE2, hM2, hV2, h⟩
              go_wp2_with fail
              refine One2.call hE2 hM2 hV2 ?_; first | exact h | exact rfl
            · intro vs W1 m1 hE hM hV hD
              clear hD
              replace hL := hL.call hE hM hV
              exact sFd
            · intro vs W1 m1 hE hM hV hD
              obtain ⟨⟨_, _, -, -, f58⟩, -⟩ := hD
              have f58 : vs 58 = _ := f58
              generalize vs 58 = x58 at f58 ⊢
              subst x58
              replace hL := hL.call hE hM hV
              exact sLd
            · intro vs W1 m1 hE hM hV hD
              obtain ⟨⟨_, _, -, i57, f57⟩, ⟨_, _, -, -, f59⟩, -⟩ := hD
              have f59 : vs 59 = _ := f59
              generalize vs 59 = x59 at f59 ⊢
              subst x59
              have f57 : IntL _ (vs 57) r := f57
              replace f57 := f57.le i57.le
              clear i57
              (obtain ⟨A7, c7, e57, hc7, f57⟩ := f57.lit; generalize vs 57 = x57 at e57 ⊢; subst x57; go_wp2_with fail; refine One2.still hV ?_; exact ⟨_, rfl, f57, hll.out⟩)
            · intro vs W1 m1 hE hM hV hD
              obtain ⟨⟨_, _, -, -, f53⟩, ⟨_, _, -, -, f54⟩, -, -, -, -, -, -, -, -, -, -⟩ := hD
              have f53 : vs 53 = _ := f53
              generalize vs 53 = x53 at f53 ⊢
              subst x53
              have f54 : vs 54 = _ := f54
              generalize vs 54 = x54 at f54 ⊢
              subst x54
              replace hL := hL.call hE hM hV
              exact sIx
          case l10 =>
            refine ⟨fun h => (by cases h), fun h => (by cases h), fun h => (by cases h), fun h => (by cases h), fun h => (by cases h), fun h => (by cases h), fun h => (by cases h), fun h => (by cases h), fun h => (by cases h), fun h => (by cases h), trivial⟩
          intro vs W1 m1 hE hM hV hF hD
          clear hD
          obtain ⟨-, -, -, -, -, ⟨_, _, -, i57, f57⟩, -, -, ⟨_, _, -, i60, f60⟩, ⟨_, _, -, -, f61⟩, -⟩ := hF
          replace hL := hL.call hE hM hV
          replace f57 : IntL _ (vs 57) r := f57
          replace f57 := f57.le i57.le
          clear i57
          replace f60 : CutR _ (vs 60) (r, dv) := f60
          replace f60 := f60.le i60.le
          clear i60
          have f61 : vs 61 = _ := f61
          generalize vs 61 = x61 at f61 ⊢
          subst x61
          clear hE hV
          obtain ⟨s60, e60, k60, -⟩ := f60
          generalize vs 60 = x60 at e60 ⊢
          subst x60
          obtain ⟨A7, c7, rfl, hc7, k60⟩ := k60.lit
          simp only [List.drop_succ_cons, List.drop_zero]
          go_wp2_with (first | ((with_reducible refine kAny ?_); go_skip) | ((first | refine tIx ?_ | refine tFd ?_ | refine tLd ?_ | (refine tSr ?_; clear hL; intro _ hL; simp only [zq2, zq3] at hL) | (refine tSt ?_; clear hL; intro _ hL; simp only [splice, zq1, zq2, zq3] at hL) | (refine tBx ?_; clear hL; intro _ _ hL _) | (refine tAl ?_; clear hL; intro _ _ hL _)); simp only [Act.put, zq1, zq2, zq3]))
          refine QN.mk ?_
          go_wp2_with (first | ((with_reducible refine kAny ?_); go_skip) | ((first | refine tIx ?_ | refine tFd ?_ | refine tLd ?_ | (refine tSr ?_; clear hL; intro _ hL; simp only [zq2, zq3] at hL) | (refine tSt ?_; clear hL; intro _ hL; simp only [splice, zq1, zq2, zq3] at hL) | (refine tBx ?_; clear hL; intro _ _ hL _) | (refine tAl ?_; clear hL; intro _ _ hL _)); simp only [Act.put, zq1, zq2, zq3]))
          go_roundw
          case rel => exact ⟨k2 + 1, _, _, by omega, by go_num, hL.tail, (RowP.le CutR.mono R2.out leX).step HX.out rfl ⟨_, rfl, k60, hll.out⟩, exX⟩
          case measure => simp [intOf] <;> omega
        · replace r1 : Hid (FrRow m2 cur fl) := RowF.le FracC.mono r1.out hX.le
          replace r2 : Hid (RowF 2 CutR m2 cur2 cu) := r2.done E2.out hlt
          replace r3 : FrRowP m2 0 q3 cd := RowP.le FracC.mono r3 hX.le
          replace hd4 : DecL m2 (.slice A5 de.length c5) de := DecL.le hd4 hX.le
          clear hX
          go_wp2_with (first | ((with_reducible refine kAny ?_); go_skip) | ((first | refine tIx ?_ | refine tFd ?_ | refine tLd ?_ | (refine tSr ?_; clear hL; intro _ hL; simp only [zq2, zq3] at hL) | (refine tSt ?_; clear hL; intro _ hL; simp only [splice, zq1, zq2, zq3] at hL) | (refine tBx ?_; clear hL; intro _ _ hL _) | (refine tAl ?_; clear hL; intro _ _ hL _)); simp only [Act.put, zq1, zq2, zq3]))
          clear hlt hk2
          go_loopw [66] (fun i wr => ∃ (k : Nat) (m3 : World) (cur3 : Array Value), k ≤ nd ∧ i = .int .i64 k ∧ Loc w m wr m3 [(g1, 39, cur), (g2, 34, cur2), (g3, 39, cur3), (b3, 31, #[.slice (some ⟨g1, 0, none⟩) nf nf, .slice (some ⟨g2, 0, none⟩) nc nc, .slice (some ⟨g3, 0, none⟩) nd nd, .slice A5 de.length c5, .bool fr]), (Wh1.heap.size, 31, #[.slice none 0 0, .slice none 0 0, .slice none 0 0, .slice none 0 0, .bool false]), (w.heap.size, 31, #[.slice A1 nf c1, .slice A2 nc c2, .slice A3 nd c3, .slice A4 de.length c4, .bool fr])] ∧ FrRowP m3 k cur3 cd ∧ Ext m2 m3) (fun i _ => nd - (intOf i).toNat)
          case atStart => exact ⟨0, m2, _, Nat.zero_le _, rfl, hL, r3, Ext.refl _⟩
          case round =>
            clear hL r3
            obtain ⟨k3, m3, cur3, hk3, rfl, hL, r3, hX⟩ := hrel
            have hM3 := hL.mext
            by_cases hlt : k3 < nd
            · obtain ⟨x, hx⟩ := at_some E3 hlt
              obtain ⟨b1, o1, g1', A1', n1, c1', g1'', B1, k1, d1, hA, ha1, hr1⟩ := FracL.at_ h3 hx
              replace hA := Lib.hid hA
              have hS : Hid (Sm x.num x.den) := OK.out.cd x (List.mem_of_getElem? hx)
              have HX := Lib.hid hx
              have hfit : 0 + k3 * 4 + 4 ≤ cur3.size := by rw [r3.1, E3.out]; omega
              have R3 := Lib.hid r3
              clear hx r3
              go_upto_region 15 with ((first | ((with_reducible refine kAny ?_); go_skip) | ((first | refine tIx ?_ | refine tFd ?_ | refine tLd ?_ | (refine tSr ?_; clear hL; intro _ hL; simp only [zq2, zq3] at hL) | (refine tSt ?_; clear hL; intro _ hL; simp only [splice, zq1, zq2, zq3] at hL) | (refine tBx ?_; clear hL; intro _ _ hL _) | (refine tAl ?_; clear hL; intro _ _ hL _)); simp only [Act.put, zq1, zq2, zq3])))
              (try simp only [eq_self] at *)
              refine wp_region_by2 7 [false, false, false, false, false, false, false] [false, false, false, false, false, false, false] [(fun v _ _ => v = ?c15_0), (fun v _ _ => v = ?c15_1), (fun v _ _ => v = ?c15_2), (fun v _ _ => v = ?c15_3), (fun v _ _ => v = ?c15_4), Of (fun um v => FracC um v x), (fun v _ _ => v = ?c15_6)] hL.vw mixed [71, 72, 73, 74, 75, 76, 77] _ (by kernel_rfl) (fun vs => by simp only [lay, Act.put, zq1, zq2, zq3]; rfl) (by kernel_rfl) (by decide) (by decide) ?s15 ?l15 ?r15
              case s15 =>
                refine ⟨?_, ?_, ?_, ?_, ?_, ?_, ?_, trivial⟩
                · intro vs W1 m1 hE hM hV hD
                  clear hD
                  replace hL := hL.call hE hM hV
                  exact sFd
                · intro vs W1 m1 hE hM hV hD
                  obtain ⟨⟨_, _, -, -, f71⟩, -⟩ := hD
                  have f71 : vs 71 = _ := f71
                  generalize vs 71 = x71 at f71 ⊢
                  subst x71
                  replace hL := hL.call hE hM hV
                  exact sLd
                · intro vs W1 m1 hE hM hV hD
                  clear hD
                  replace hL := hL.call hE hM hV
                  exact sPu
                · intro vs W1 m1 hE hM hV hD
                  clear hD
                  replace hL := hL.call hE hM hV
                  exact sLd
                · intro vs W1 m1 hE hM hV hD
                  clear hD
                  replace hL := hL.call hE hM hV
                  exact sPu
                · intro vs W1 m1 hE hM hV hD
                  obtain ⟨⟨_, _, -, -, f74⟩, ⟨_, _, -, -, f75⟩, -⟩ := hD
                  have f74 : vs 74 = _ := f74
                  generalize vs 74 = x74 at f74 ⊢
                  subst x74
                  have f75 : vs 75 = _ := f75
                  generalize vs 75 = x75 at f75 ⊢
                  subst x75
                  go_wp2_with fail
                  refine (q_AddZero _ x _ _ hV (ha1.le leX) hS.out).mono ?_
                  rintro e W2 ⟨v, m2, rfl, hE2, hM2, hV2, h⟩
                  go_wp2_with fail
                  refine One2.call hE2 hM2 hV2 ?_; first | exact h | exact rfl
                · intro vs W1 m1 hE hM hV hD
                  obtain ⟨⟨_, _, -, -, f72⟩, ⟨_, _, -, -, f73⟩, -, -, -, -, -, -, -⟩ := hD
                  have f72 : vs 72 = _ := f72
                  generalize vs 72 = x72 at f72 ⊢
                  subst x72
                  have f73 : vs 73 = _ := f73
                  generalize vs 73 = x73 at f73 ⊢
                  subst x73
                  replace hL := hL.call hE hM hV
                  exact sIx
              case l15 =>
                refine ⟨fun h => (by cases h), fun h => (by cases h), fun h => (by cases h), fun h => (by cases h), fun h => (by cases h), fun h => (by cases h), fun h => (by cases h), trivial⟩
              intro vs W1 m1 hE hM hV hF hD
              clear hD
              obtain ⟨-, -, -, -, -, ⟨_, _, -, i76, f76⟩, ⟨_, _, -, -, f77⟩, -⟩ := hF
              replace hL := hL.call hE hM hV
              replace f76 : FracC _ (vs 76) x := f76
              replace f76 := f76.le i76.le
              clear i76
              obtain ⟨g76, A76, n76, c76, h76, B76, k76, d76, e76, f76⟩ := f76.lit
              generalize vs 76 = x76 at e76 ⊢
              subst x76
              have f77 : vs 77 = _ := f77
              generalize vs 77 = x77 at f77 ⊢
              subst x77
              clear hE hV
              simp only [List.drop_succ_cons, List.drop_zero]
              go_wp2_with (first | ((with_reducible refine kAny ?_); go_skip) | ((first | refine tIx ?_ | refine tFd ?_ | refine tLd ?_ | (refine tSr ?_; clear hL; intro _ hL; simp only [zq2, zq3] at hL) | (refine tSt ?_; clear hL; intro _ hL; simp only [splice, zq1, zq2, zq3] at hL) | (refine tBx ?_; clear hL; intro _ _ hL _) | (refine tAl ?_; clear hL; intro _ _ hL _)); simp only [Act.put, zq1, zq2, zq3]))
              refine QN.mk ?_
              go_wp2_with (first | ((with_reducible refine kAny ?_); go_skip) | ((first | refine tIx ?_ | refine tFd ?_ | refine tLd ?_ | (refine tSr ?_; clear hL; intro _ hL; simp only [zq2, zq3] at hL) | (refine tSt ?_; clear hL; intro _ hL; simp only [splice, zq1, zq2, zq3] at hL) | (refine tBx ?_; clear hL; intro _ _ hL _) | (refine tAl ?_; clear hL; intro _ _ hL _)); simp only [Act.put, zq1, zq2, zq3]))
              go_roundw
              case rel => exact ⟨k3 + 1, _, _, by omega, by go_num, hL.tail, (RowP.le FracC.mono R3.out leX).step HX.out rfl f76, exX⟩
              case measure => simp [intOf] <;> omega
            · replace r1 : Hid (FrRow m3 cur fl) := RowF.le FracC.mono r1.out hX.le
              replace r2 : Hid (RowF 2 CutR m3 cur2 cu) := RowF.le CutR.mono r2.out hX.le
              replace r3 : Hid (FrRow m3 cur3 cd) := r3.done E3.out hlt
              replace hd4 : DecL m3 (.slice A5 de.length c5) de := DecL.le hd4 hX.le
              go_wp2_with (first | ((with_reducible refine kAny ?_); go_skip) | ((first | refine tIx ?_ | refine tFd ?_ | refine tLd ?_ | (refine tSr ?_; clear hL; intro _ hL; simp only [zq2, zq3] at hL) | (refine tSt ?_; clear hL; intro _ hL; simp only [splice, zq1, zq2, zq3] at hL) | (refine tBx ?_; clear hL; intro _ _ hL _) | (refine tAl ?_; clear hL; intro _ _ hL _)); simp only [Act.put, zq1, zq2, zq3]))
              refine fin_aggP hL Tryz.results84 rfl rfl loX ag_Prices (by exact rfl) ?_
              have hL3 := Loc.perm (hL.sub (List.sublist_append_left [_, _, _] _)) (List.Perm.cons _ (List.Perm.swap _ _ []))
              obtain ⟨m4, hL4, hle, hcu⟩ := Loc.showF (A := [_, _]) CutR.mono hL3 r2.out E2.out
              refine ⟨m4, g1, g3, cur, cur3, _, _, ?_, hL4, RowF.le FracC.mono r1.out hle, RowF.le FracC.mono r3.out hle, hcu, DecL.le hd4 hle⟩
              simp only [E1.out, E3.out]
end Go.Proofs.YtmhkmmmompediaaGreat

/- Bounds, the mixture of lists. -/
namespace Go.Proofs.YtmhkmmmompediaaGreat
open Go.RowKit

/-- Small enough for a product and a sum. -/
def Tn (k : Nat) (q : Rat) : Prop := q.num.natAbs ≤ k ∧ q.den ≤ k
theorem mul_bound (p q : Rat) : (p * q).num.natAbs ≤ p.num.natAbs * q.num.natAbs ∧ (p * q).den ≤ p.den * q.den := by
  have hp : (0 : Int) < (p.den : Int) * q.den := Int.mul_pos (by have := p.den_pos; omega) (by have := q.den_pos; omega)
  have e : p * q = Rat.divInt (p.num * q.num) ((p.den : Int) * q.den) := by
    conv => lhs; rw [← Rat.num_divInt_den p, ← Rat.num_divInt_den q]
    rw [Rat.divInt_mul_divInt]
  obtain ⟨h1, h2⟩ := frac_pos (x := p.num * q.num) hp
  rw [← e] at h1 h2
  constructor
  · rw [h1, ← Int.natAbs_mul]
    exact Int.natAbs_ediv_le_natAbs _ _
  · have h3 : (p * q).den = ((p * q).den : Int).natAbs := rfl
    have h4 : p.den * q.den = ((p.den : Int) * q.den).natAbs := by simp [Int.natAbs_mul]
    rw [h3, h4, h2]
    exact Int.natAbs_ediv_le_natAbs _ _
theorem Tn.sm {k : Nat} {q : Rat} (h : Tn k q) (hk : k < 1073741824) : Sm q.num q.den := ⟨by have := h.1; omega, by have := h.2; omega⟩
theorem Tn.mul {k l : Nat} {p q : Rat} (h : Tn k p) (h' : Tn l q) : Tn (k * l) (p * q) :=
  ⟨Nat.le_trans (mul_bound p q).1 (Nat.mul_le_mul h.1 h'.1), Nat.le_trans (mul_bound p q).2 (Nat.mul_le_mul h.2 h'.2)⟩
theorem Tn.divInt {x y : Int} {k : Nat} (hy : 0 < y) (hx : x.natAbs ≤ k) (hk : y ≤ k) : Tn k (Rat.divInt x y) := by
  obtain ⟨h1, h2⟩ := frac_pos (x := x) hy
  refine ⟨?_, ?_⟩
  · rw [h1]; exact Nat.le_trans (Int.natAbs_ediv_le_natAbs _ _) hx
  · have h3 : (Rat.divInt x y).den = ((Rat.divInt x y).den : Int).natAbs := rfl
    rw [h3, h2]
    refine Nat.le_trans (Int.natAbs_ediv_le_natAbs _ _) (by omega)
theorem q_MulC (a b : Value) (p q : Rat) (w m : World) (hV : Vw m w) (ha : FracC m a p) (hb : FracC m b q) (hs : Sm p.num p.den) (hs' : Sm q.num q.den) :
    Calls Tryz.prog 74 #[a, b] w (RetV w m fun m' r => FracC m' r (p * q)) := by
  have h := q_Mul a b p.num p.den q.num q.den w m hV (ha.toS hs) (hb.toS hs') hs hs'
  rwa [Rat.num_divInt_den, Rat.num_divInt_den] at h
theorem q_AddC (a b : Value) (p q : Rat) (w m : World) (hV : Vw m w) (ha : FracC m a p) (hb : FracC m b q) (hs : Sm p.num p.den) (hs' : Sm q.num q.den) :
    Calls Tryz.prog 72 #[a, b] w (RetV w m fun m' r => FracC m' r (p + q)) := by
  have h := q_Add a b p.num p.den q.num q.den w m hV (ha.toS hs) (hb.toS hs') hs hs'
  rwa [Rat.num_divInt_den, Rat.num_divInt_den] at h
/-- The mixture of two lists. -/
def mixL (s t : Rat) (xs ys : List Rat) : List Rat := List.zipWith (fun x y => s * x + t * y) xs ys
def lst (ms xs : List Rat) (k : Nat) : List Rat := ms.take k ++ xs.drop k
theorem lst_get {ms xs : List Rat} {k : Nat} (h : ms.length = xs.length) (hk : k ≤ xs.length) : (lst ms xs k)[k]? = xs[k]? := by
  unfold lst
  rw [List.getElem?_append_right (by rw [List.length_take]; omega), List.length_take, List.getElem?_drop]
  congr 1; omega
theorem lst_set {ms xs : List Rat} {k : Nat} {z : Rat} (h : ms.length = xs.length) (hk : k < xs.length) (hz : ms[k]? = some z) : (lst ms xs k).set k z = lst ms xs (k + 1) := by
  unfold lst
  apply List.ext_getElem?
  intro j
  rw [List.getElem?_set]
  have hl : (ms.take k ++ xs.drop k).length = xs.length := by simp; omega
  have hl1 : (ms.take k).length = k := by rw [List.length_take]; omega
  have hl2 : (ms.take (k + 1)).length = k + 1 := by rw [List.length_take]; omega
  by_cases e : k = j
  · subst e
    rw [if_pos rfl, hl, if_pos hk, List.getElem?_append_left (by omega), List.getElem?_take, if_pos (by omega), hz]
  · rw [if_neg e]
    by_cases hj : j < k
    · rw [List.getElem?_append_left (by omega), List.getElem?_append_left (by omega), List.getElem?_take, List.getElem?_take, if_pos hj, if_pos (by omega)]
    · rw [List.getElem?_append_right (by omega), List.getElem?_append_right (by omega), hl1, hl2, List.getElem?_drop, List.getElem?_drop]
      congr 1; omega
theorem lst_zero (ms xs : List Rat) : lst ms xs 0 = xs := by simp [lst]
theorem lst_all {ms xs : List Rat} {n k : Nat} (h : ms.length = xs.length) (hn : xs.length = n) (hk : ¬ k < n) : lst ms xs k = ms := by
  unfold lst
  rw [List.take_of_length_le (by omega), List.drop_eq_nil_of_le (by omega), List.append_nil]
theorem lst_len {ms xs : List Rat} {k : Nat} (h : ms.length = xs.length) (hk : k ≤ xs.length) : (lst ms xs k).length = xs.length := by unfold lst; simp; omega
theorem mixL_len {s t : Rat} {xs ys : List Rat} (h : ys.length = xs.length) : (mixL s t xs ys).length = xs.length := by simp [mixL, h]
theorem mixL_at {s t : Rat} {xs ys : List Rat} {k : Nat} {x y : Rat} (hx : xs[k]? = some x) (hy : ys[k]? = some y) : (mixL s t xs ys)[k]? = some (s * x + t * y) := by
  simp [mixL, List.getElem?_zipWith, hx, hy]
theorem RowF.at4 {m : World} {cur : Array Value} {xs : List Rat} (h : FrRow m cur xs) {k : Nat} {x : Rat} (hk : xs[k]? = some x) :
    ∃ g A n c g' B k' d, FracC m (.agg #[.bool g, .slice A n c, .bool g', .slice B k' d]) x ∧ ∀ j, j < 4 → cur[0 + k * 4 + j]? = [Value.bool g, .slice A n c, .bool g', .slice B k' d][j]? := by
  obtain ⟨v, hv, hs, hr⟩ := RowF.at_ h hk
  obtain ⟨g, A, n, c, g', B, k', d, rfl, hv⟩ := hv.lit
  exact ⟨g, A, n, c, g', B, k', d, hv, fun j hj => by rw [hr j hj]; simp [Value.cells]⟩
/-- All values small. -/
structure Pr.tn (p : Pr) : Prop where
  fl : ∀ q ∈ p.fl, Tn 1000 q
  cd : ∀ q ∈ p.cd, Tn 1000 q
def mixP (s t : Rat) (p q : Pr) : Pr := ⟨mixL s t p.fl q.fl, p.cu, mixL s t p.cd q.cd, p.de, p.fr⟩

end Go.Proofs.YtmhkmmmompediaaGreat

/- Contract of pairingref27.SamePrices (equal prices). -/
namespace Go.Proofs.YtmhkmmmompediaaGreat
open Go.RowKit

structure Pr.fit (p : Pr) : Prop where
  fl : ∀ q ∈ p.fl, Fit 200 q
  cd : ∀ q ∈ p.cd, Fit 200 q
  nf : p.fl.length ≤ 1000
  nc : p.cu.length ≤ 1000
  nd : p.cd.length ≤ 1000
  ne : p.de.length ≤ 1000

set_option maxRecDepth 100000 in
set_option maxHeartbeats 16000000 in
theorem r_SamePrices (va vb : Value) (p : Pr) (w m : World) (hV : Vw m w) (ha : PricesR m va p) (hb : PricesR m vb p) (ok : p.fit) :
    Calls Tryz.prog 28 #[va, vb] w (RetV w m fun _ r => r = .bool true) := by
  obtain ⟨fl, cu, cd, de, fr⟩ := p
  obtain ⟨a, b, c, d, rfl, a1, a2, a3, a4⟩ := ha
  obtain ⟨a', b', c', d', rfl, b1, b2, b3, b4⟩ := hb
  simp only at a1 a2 a3 a4 b1 b2 b3 b4
  obtain ⟨A1, c1, rfl, -, a1⟩ := a1.lit
  obtain ⟨A2, c2, rfl, -, a2⟩ := a2.lit
  obtain ⟨A3, c3, rfl, -, a3⟩ := a3.lit
  obtain ⟨A4, c4, rfl, -, a4⟩ := a4.lit
  obtain ⟨B1, d1, rfl, -, b1⟩ := b1.lit
  obtain ⟨B2, d2, rfl, -, b2⟩ := b2.lit
  obtain ⟨B3, d3, rfl, -, b3⟩ := b3.lit
  obtain ⟨B4, d4, rfl, -, b4⟩ := b4.lit
  have OK := Lib.hid ok
  have K1 : Hid (fl.length ≤ 1000000) := by show _ ≤ _; have := ok.nf; simp only at this; omega
  have K2 : Hid (cu.length ≤ 1000000) := by show _ ≤ _; have := ok.nc; simp only at this; omega
  have K3 : Hid (cd.length ≤ 1000000) := by show _ ≤ _; have := ok.nd; simp only at this; omega
  have K4 : Hid (de.length ≤ 1000000) := by show _ ≤ _; have := ok.ne; simp only at this; omega
  clear ok
  have KE : Hid (∀ w m a b, Vw m w → DecL m a de → DecL m b de → Calls Tryz.prog 59 #[a, b] w (RetV w m fun _ r => r = .bool true)) := by
    show ∀ w m a b, _
    intro w m a b hV h1 h2
    have := r_SameDecisions a b de de w m hV h1 h2 K4.out K4.out
    rwa [decide_eq_true rfl] at this
  have e4 : (fr == fr) = true := by simp
  have hL := Loc.start hV
  clear hV
  go_enter Tryz.func28, Tryz.ntmps28
  go_wp2_with (first | ((with_reducible refine kAny ?_); go_skip) | ((first | refine tFd ?_ | refine tLd ?_ | (refine tBx ?_; clear hL; intro _ _ hL _)); simp only [Act.put, zq1, zq2, zq3]))
  refine (r_SameList _ _ fl _ _ hL.vw (FracL.le a1 leX) (FracL.le b1 leX) OK.out.fl K1.out).mono ?_
  rintro e Wc1 ⟨_, mc1, rfl, hE, hMc1, hV, rfl⟩
  replace hL := hL.call hE (by assumption) hV; clear hE hV
  go_wp2_with (first | ((with_reducible refine kAny ?_); go_skip) | ((first | refine tFd ?_ | refine tLd ?_ | (refine tBx ?_; clear hL; intro _ _ hL _)); simp only [Act.put, zq1, zq2, zq3]))
  refine (r_SameCuts _ _ cu _ _ hL.vw (CutL.le a2 leX) (CutL.le b2 leX) K2.out).mono ?_
  rintro e Wc2 ⟨_, mc2, rfl, hE, hMc2, hV, rfl⟩
  replace hL := hL.call hE (by assumption) hV; clear hE hV
  go_wp2_with (first | ((with_reducible refine kAny ?_); go_skip) | ((first | refine tFd ?_ | refine tLd ?_ | (refine tBx ?_; clear hL; intro _ _ hL _)); simp only [Act.put, zq1, zq2, zq3]))
  refine (r_SameList _ _ cd _ _ hL.vw (FracL.le a3 leX) (FracL.le b3 leX) OK.out.cd K3.out).mono ?_
  rintro e Wc3 ⟨_, mc3, rfl, hE, hMc3, hV, rfl⟩
  replace hL := hL.call hE (by assumption) hV; clear hE hV
  go_wp2_with (first | ((with_reducible refine kAny ?_); go_skip) | ((first | refine tFd ?_ | refine tLd ?_ | (refine tBx ?_; clear hL; intro _ _ hL _)); simp only [Act.put, zq1, zq2, zq3]))
  refine (KE.out _ _ _ _ hL.vw (DecL.le a4 leX) (DecL.le b4 leX)).mono ?_
  rintro e Wc4 ⟨_, mc4, rfl, hE, hMc4, hV, rfl⟩
  replace hL := hL.call hE (by assumption) hV; clear hE hV
  go_wp2_with (first | ((with_reducible refine kAny ?_); go_skip) | ((first | refine tFd ?_ | refine tLd ?_ | (refine tBx ?_; clear hL; intro _ _ hL _)); simp only [Act.put, zq1, zq2, zq3]))
  go_ret
  exact RetV.mk hL rfl
end Go.Proofs.YtmhkmmmompediaaGreat

/- Contracts of the reference's arithmetic for canonical fractions. -/
namespace Go.Proofs.YtmhkmmmompediaaGreat
open Go.RowKit

theorem Tn.fit {k : Nat} {q : Rat} (h : Tn k q) (hk : k < 4294967296) : Fit 200 q :=
  Fit.mono (k := 1) ⟨by have := h.1; simp only [Nat.pow_one]; omega, by have := h.2; simp only [Nat.pow_one]; omega⟩ (by decide)
theorem r_MulC (a b : Value) (p q : Rat) (w m : World) (hV : Vw m w) (ha : FracC m a p) (hb : FracC m b q) (kp : Fit 200 p) (kq : Fit 200 q) :
    Calls Tryz.prog 25 #[a, b] w (RetV w m fun m' r => FracC m' r (p * q)) := r_Mul a b p q w m hV (ha.toV kp (by decide)) (hb.toV kq (by decide)) kp kq
theorem r_AddC (a b : Value) (p q : Rat) (w m : World) (hV : Vw m w) (ha : FracC m a p) (hb : FracC m b q) (kp : Fit 200 p) (kq : Fit 200 q) :
    Calls Tryz.prog 80 #[a, b] w (RetV w m fun m' r => FracC m' r (p + q)) := r_Add a b p q w m hV (ha.toV kp (by decide)) (hb.toV kq (by decide)) kp kq
theorem r_SubC (a b : Value) (p q : Rat) (w m : World) (hV : Vw m w) (ha : FracC m a p) (hb : FracC m b q) (kp : Fit 200 p) (kq : Fit 200 q) :
    Calls Tryz.prog 85 #[a, b] w (RetV w m fun m' r => FracC m' r (p - q)) := r_Sub a b p q w m hV (ha.toV kp (by decide)) (hb.toV kq (by decide)) kp kq
theorem r_DivC (a b : Value) (p q : Rat) (w m : World) (hV : Vw m w) (ha : FracC m a p) (hb : FracC m b q) (kp : Fit 200 p) (kq : Fit 200 q) :
    Calls Tryz.prog 82 #[a, b] w (RetV w m fun m' r => FracC m' r (p / q)) := r_Div a b p q w m hV (ha.toV kp (by decide)) (hb.toV kq (by decide)) kp kq
theorem Tn.int {z : Int} {k : Nat} (h : z.natAbs ≤ k) (hk : 1 ≤ k) : Tn k (z : Rat) := ⟨by simpa using h, by simpa using hk⟩
theorem div_mix (num den : Int) : (num : Rat) / (den : Rat) = Rat.divInt num den := (Rat.divInt_eq_div num den).symm
theorem sub_mix (num den : Int) (h : ¬ den < 1) : ((1 : Int) : Rat) - Rat.divInt num den = Rat.divInt (den - num) den := by
  have hd : (den : Rat) ≠ 0 := by
    intro e
    have : den = 0 := by exact_mod_cast e
    omega
  rw [Rat.divInt_eq_div, Rat.divInt_eq_div, Rat.intCast_sub]
  rw [Rat.div_def, Rat.div_def, Rat.sub_eq_add_neg, Rat.sub_eq_add_neg, Rat.add_mul, Rat.mul_inv_cancel _ hd, Rat.neg_mul]
  rfl

end Go.Proofs.YtmhkmmmompediaaGreat

/- Contracts of lagrange.Mix where it refuses. -/
namespace Go.Proofs.YtmhkmmmompediaaGreat
open Go.RowKit

theorem results_cell_tmp {P : Program} {fn : Func} {p k : Tmp} {ty : TypeId} (h : fn.results = #[.cell p ty, .tmp k]) (tmps : Array Value) (w : World) (g : Nat) (t : TypeId) (cs : Array Value) (fr : Nat × Nat) (d : TypeDesc)
    (hp : tmps.getD p undef = .pointer (some ⟨g, 0, none⟩)) (hg : w.heap[g]? = some (.cells cs t fr))
    (hu : P.underlying ty = some d) (hd : (match d with | .struct _ | .array _ _ => true | _ => false) = true) (hi : (P.info? ty).map (·.size) = some cs.size) :
    (results fn tmps).run P w = .ok (.tuple #[.agg cs, tmps.getD k undef]) w := by
  have hp' : tmps[p]?.getD undef = .pointer (some ⟨g, 0, none⟩) := by simpa using hp
  simp [results, h, hp', asAddr, run_loadVar_row w g t ty cs fr d hg hu hd hi]
theorem fin_aggT {P : Program} {fn : Func} {R : World → Value → Prop} {w m W mm : World} {Ls : List Lo} (hL : Loc w m W mm Ls) {p q : Nat} {ty : TypeId} (hr : fn.results = #[.cell p ty, .tmp q]) {a : Act} (hdf : a.defers = []) {g : Nat}
    (hp : a.tmps.getD p undef = .pointer (some ⟨g, 0, none⟩)) {n : Nat} {t : TypeId} {cs : Array Value} (hn : Ls[n]? = some (g, t, cs)) {k : Nat} (hty : agS P ty = some k) (hk : cs.size = k) {u : Value} (hu : a.tmps.getD q undef = u) {m' : World} (hL' : Loc w m W m' []) (h : R m' (.tuple #[.agg cs, u])) :
    bodyPost P fn (RetV w m R) .ret a W := by
  subst hk
  obtain ⟨d, hd', hd, hi⟩ := ag_desc hty
  subst hu
  exact bodyPost_ret (results_cell_tmp hr _ _ g t cs (0, 0) d hp (hL.at_ hn) hd' (by cases d <;> first | rfl | exact hd) hi) hdf (RetV.mk hL' h)
/-- The zero prices, as the laws hand them back beside an error. -/
def zPr : Value := .agg #[.slice none 0 0, .slice none 0 0, .slice none 0 0, .slice none 0 0, .bool false]

set_option maxRecDepth 100000 in
set_option maxHeartbeats 16000000 in
theorem l_Mix_range (a0 a1 a2 a3 a4 b0 b1 b2 b3 b4 : Value) (num den : Int) (w m : World) (hV : Vw m w) (h : den < 1 ∨ num < 0 ∨ num > den) :
    Calls Tryz.prog 30 #[.agg #[a0, a1, a2, a3, a4], .agg #[b0, b1, b2, b3, b4], .int .i64 num, .int .i64 den] w (RetV w m fun _ r => r = .tuple #[zPr, .int .i64 5]) := by
  have hL := Loc.start hV
  clear hV
  by_cases h1 : den < 1
  · clear h
    go_enter Tryz.func30, Tryz.ntmps30
    go_wp2_with (first | ((with_reducible refine kAny ?_); go_skip) | ((first | refine tIx ?_ | refine tFd ?_ | refine tLd ?_ | (refine tSr ?_; clear hL; intro _ hL; simp only [zq2, zq3] at hL) | (refine tSt ?_; clear hL; intro _ hL; simp only [splice, zq1, zq2, zq3] at hL) | (refine tBx ?_; clear hL; intro _ _ hL _) | (refine tAl ?_; clear hL; intro _ _ hL _)); simp only [Act.put, zq1, zq2, zq3]))
    exact fin_aggT hL Tryz.results30 rfl rfl loX ag_Prices (by exact rfl) rfl (hL.sub (List.nil_sublist _)) rfl
  · by_cases h2 : num < 0
    · clear h
      go_enter Tryz.func30, Tryz.ntmps30
      go_wp2_with (first | ((with_reducible refine kAny ?_); go_skip) | ((first | refine tIx ?_ | refine tFd ?_ | refine tLd ?_ | (refine tSr ?_; clear hL; intro _ hL; simp only [zq2, zq3] at hL) | (refine tSt ?_; clear hL; intro _ hL; simp only [splice, zq1, zq2, zq3] at hL) | (refine tBx ?_; clear hL; intro _ _ hL _) | (refine tAl ?_; clear hL; intro _ _ hL _)); simp only [Act.put, zq1, zq2, zq3]))
      exact fin_aggT hL Tryz.results30 rfl rfl loX ag_Prices (by exact rfl) rfl (hL.sub (List.nil_sublist _)) rfl
    · have h3 : num > den := by omega
      clear h
      go_enter Tryz.func30, Tryz.ntmps30
      go_wp2_with (first | ((with_reducible refine kAny ?_); go_skip) | ((first | refine tIx ?_ | refine tFd ?_ | refine tLd ?_ | (refine tSr ?_; clear hL; intro _ hL; simp only [zq2, zq3] at hL) | (refine tSt ?_; clear hL; intro _ hL; simp only [splice, zq1, zq2, zq3] at hL) | (refine tBx ?_; clear hL; intro _ _ hL _) | (refine tAl ?_; clear hL; intro _ _ hL _)); simp only [Act.put, zq1, zq2, zq3]))
      exact fin_aggT hL Tryz.results30 rfl rfl loX ag_Prices (by exact rfl) rfl (hL.sub (List.nil_sublist _)) rfl

set_option maxRecDepth 100000 in
set_option maxHeartbeats 16000000 in
theorem l_Mix_len (A0 A1 A2 B0 : Option Addr) (n0 n1 n2 c0 c1 c2 k0 d0 : Nat) (a3 a4 b1 b2 b3 b4 : Value) (num den : Int) (w m : World) (hV : Vw m w) (h1 : ¬ den < 1) (h2 : ¬ num < 0) (h3 : ¬ num > den) (h : n0 ≠ k0 ∨ n2 ≠ n1) :
    Calls Tryz.prog 30 #[.agg #[.slice A0 n0 c0, .slice A1 n1 c1, .slice A2 n2 c2, a3, a4], .agg #[.slice B0 k0 d0, b1, b2, b3, b4], .int .i64 num, .int .i64 den] w (RetV w m fun _ r => r = .tuple #[zPr, .int .i64 12]) := by
  have hL := Loc.start hV
  clear hV
  by_cases g1 : n0 = k0
  · have e1 : ((n0 : Int) != (k0 : Int)) = false := by simp [g1]
    have e2 : ((n2 : Int) != (n1 : Int)) = true := by simp; omega
    clear h g1
    go_enter Tryz.func30, Tryz.ntmps30
    go_wp2_with (first | ((with_reducible refine kAny ?_); go_skip) | ((first | refine tIx ?_ | refine tFd ?_ | refine tLd ?_ | (refine tSr ?_; clear hL; intro _ hL; simp only [zq2, zq3] at hL) | (refine tSt ?_; clear hL; intro _ hL; simp only [splice, zq1, zq2, zq3] at hL) | (refine tBx ?_; clear hL; intro _ _ hL _) | (refine tAl ?_; clear hL; intro _ _ hL _)); simp only [Act.put, zq1, zq2, zq3]))
    exact fin_aggT hL Tryz.results30 rfl rfl loX ag_Prices (by exact rfl) rfl (hL.sub (List.nil_sublist _)) rfl
  · have e1 : ((n0 : Int) != (k0 : Int)) = true := by simp; omega
    clear h g1
    go_enter Tryz.func30, Tryz.ntmps30
    go_wp2_with (first | ((with_reducible refine kAny ?_); go_skip) | ((first | refine tIx ?_ | refine tFd ?_ | refine tLd ?_ | (refine tSr ?_; clear hL; intro _ hL; simp only [zq2, zq3] at hL) | (refine tSt ?_; clear hL; intro _ hL; simp only [splice, zq1, zq2, zq3] at hL) | (refine tBx ?_; clear hL; intro _ _ hL _) | (refine tAl ?_; clear hL; intro _ _ hL _)); simp only [Act.put, zq1, zq2, zq3]))
    exact fin_aggT hL Tryz.results30 rfl rfl loX ag_Prices (by exact rfl) rfl (hL.sub (List.nil_sublist _)) rfl

end Go.Proofs.YtmhkmmmompediaaGreat

/- Lists that are built by append, element by element. No program. -/
namespace Go.Proofs.YtmhkmmmompediaaGreat
open Go.RowKit

def RowA {α : Type} (e : TypeId) (size : Nat) (R : World → Value → α → Prop) (m : World) (v : Value) (n : Nat) (xs : List α) (Rr : List Lo) : Prop :=
  ∃ vs, Row e size v n (cellsOf vs) Rr ∧ (∀ u ∈ vs, u.cells.size = size) ∧ All2 (R m) vs xs ∧ vs.length = n
theorem RowA.nil {α : Type} {e : TypeId} {size : Nat} {R : World → Value → α → Prop} {m : World} : RowA e size R m (.slice none 0 0) 0 [] [] :=
  ⟨[], by simpa [cellsOf] using Row.nil e size, (fun _ h => by cases h), trivial, rfl⟩
theorem RowA.le {α : Type} {e : TypeId} {size : Nat} {R : World → Value → α → Prop} (hR : ∀ m m' v x, R m v x → Le m m' → R m' v x) {m m' : World} {v : Value} {n : Nat} {xs : List α} {Rr : List Lo} (h : RowA e size R m v n xs Rr) (hb : Le m m') : RowA e size R m' v n xs Rr := by
  obtain ⟨vs, h1, h2, h3, h4⟩ := h
  exact ⟨vs, h1, h2, h3.mono fun v x hv => hR m m' v x hv hb, h4⟩
theorem RowA.snoc {α : Type} {e : TypeId} {size : Nat} {R : World → Value → α → Prop} {m : World} {n : Nat} {xs : List α} {vs : List Value} {ws : List Value} {x : α} {v' : Value} {R' : List Lo}
    (h1 : Row e size v' (n + 1) (cellsOf vs ++ ws) R') (h2 : ∀ u ∈ vs, u.cells.size = size) (h3 : All2 (R m) vs xs) (h4 : vs.length = n) (hw : ws.length = size) (hx : R m (.agg ws.toArray) x) : RowA e size R m v' (n + 1) (xs ++ [x]) R' := by
  refine ⟨vs ++ [.agg ws.toArray], ?_, ?_, h3.snoc hx, by simp [h4]⟩
  · rw [cellsOf_append, cellsOf_one]
    simpa [Value.cells] using h1
  · intro u hu
    rcases List.mem_append.1 hu with hu | hu
    · exact h2 u hu
    · rcases List.mem_singleton.1 hu with rfl
      simpa [Value.cells] using hw
theorem RowA.show {α : Type} {e : TypeId} {size : Nat} {R : World → Value → α → Prop} (hR : ∀ m m' v x, R m v x → Le m m' → R m' v x) {w0 m0 W m : World} {A Rr : List Lo} {v : Value} {n : Nat} {xs : List α} (hL : Loc w0 m0 W m (A ++ Rr)) (h : RowA e size R m v n xs Rr) :
    ∃ m', Loc w0 m0 W m' A ∧ Le m m' ∧ ListV size R m' v xs ∧ ∃ cs, W.ownsRow w0.heap.size e size v n cs := by
  obtain ⟨vs, h1, h2, h3, h4⟩ := h
  obtain ⟨m', B, c, hL', hle, rfl, hc, hs, ho⟩ := Loc.show hL h1
  exact ⟨m', hL', hle, ListV.mk hc h4 h2 hs (h3.mono fun v x hv => hR m m' v x hv hle), _, ho⟩
theorem RowA.lit {α : Type} {e : TypeId} {size : Nat} {R : World → Value → α → Prop} {m : World} {v : Value} {n : Nat} {xs : List α} {Rr : List Lo} (h : RowA e size R m v n xs Rr) : ∃ A c, v = .slice A n c ∧ RowA e size R m (.slice A n c) n xs Rr := by
  have h' := h
  obtain ⟨vs, h1, _⟩ := h
  obtain ⟨A, c, rfl, _⟩ := h1.lit
  exact ⟨A, c, rfl, h'⟩
/-- A slice of one new struct of four cells. -/
def NewS1 (e : TypeId) (R : World → Value → Prop) (v : Value) (u um : World) : Prop := ∃ g cs, v = .slice (some ⟨g, 0, none⟩) 1 1 ∧ Blk u g e cs ∧ R um (.agg cs)
theorem one2_s1 {a : Act} {dst : Option Nat} {W1 m1 : World} {e : TypeId} {R : World → Value → Prop} {cs : Array Value} (hV : Vw m1 W1) (hR : ∀ m', Ext m1 m' → R m' (.agg cs)) :
    One2 (NewS1 e R) false a dst W1 m1 .normal (a.put dst (.slice (some ⟨W1.heap.size, 0, none⟩) 1 1)) (W1.alloc (.cells cs e)) := by
  have h := (Loc.start hV).alloc cs e
  exact ⟨rfl, h.ext, _, _, h.mext, h.vw, rfl, ⟨W1.heap.size, cs, rfl, Blk.new _ _ _, hR _ h.mext⟩, fun h => by cases h⟩
theorem take_snoc {α : Type} {l : List α} {k : Nat} {x : α} (h : l[k]? = some x) : l.take k ++ [x] = l.take (k + 1) := by rw [List.take_add_one, h]; rfl
end Go.Proofs.YtmhkmmmompediaaGreat

/- Rows that are new and shown at once; slices of one element; a row that is taken out of the list. No program. -/
namespace Go.Proofs.YtmhkmmmompediaaGreat
open Go.RowKit

theorem Loc.allocV {w0 m0 W m : World} {Ls : List Lo} (h : Loc w0 m0 W m Ls) (cs : Array Value) (t : TypeId) :
    Loc w0 m0 (W.alloc (.cells cs t)) (m.alloc (.cells cs t)) Ls := by
  have hs := h.vw.size
  refine ⟨h.size0, h.ext.alloc _, h.mext.alloc _, ⟨h.vw.os, h.vw.tape, h.vw.output, by simp [hs], fun a u hu => ?_⟩, h.low, fun x hx => (h.blk x hx).alloc _, fun x hx a ha => ?_, h.apart⟩
  · by_cases e : a.block = m.heap.size
    · obtain ⟨b, o, s⟩ := a
      simp only at e
      subst e
      have b1 := Blk.new m t cs
      have b2 : Blk (W.alloc (.cells cs t)) m.heap.size t cs := by rw [hs]; exact Blk.new W t cs
      unfold Blk at b1 b2
      unfold World.cell? at hu ⊢
      rw [b1] at hu
      rw [b2]
      exact hu
    · exact cell_alloc_old (h.vw.cell _ _ (cell_alloc_iff hu e))
  · cases hc : (m.alloc (.cells cs t)).cell? a with
    | none => rfl
    | some u =>
      have := cell_alloc_iff hc (by rw [ha, hs]; exact Nat.ne_of_lt (h.blk x hx).lt)
      rw [h.hid x hx a ha] at this; cases this
section
variable {P : Program} {ops : Array Oper} {Q : Exit → Act → World → Prop} {rest : List Oper} {o : Oper} {a : Act} {w0 m0 W m : World} {Ls : List Lo}
theorem wl_bslice (hL : Loc w0 m0 W m Ls) (hw : Region.wanted o (yielded ops a.tmps) = true) {t : TypeId} {k : Nat} {parts : Array (Nat × Operand)} (_ho : o.op = .buildSlice t k parts) {n : Nat} {cs : Array Value} {e : TypeId}
    (hrun : ∀ w, (execOp a.eval o).run P w = .ok (.value (.slice (some ⟨w.heap.size, 0, none⟩) n n)) (w.alloc (.cells cs e)))
    (h : ∀ W' m', Loc w0 m0 W' m' Ls → Ext m m' → Blk m' W.heap.size e cs → wpList P ops Q rest (a.put o.dst (.slice (some ⟨W.heap.size, 0, none⟩) n n)) W') : wpList P ops Q (o :: rest) a W := by
  refine wpList_wanted hw fun _ hK => ?_
  unfold Oper.wp
  rw [hrun W]
  refine hK _ _ (h _ _ (hL.allocV cs e) (Ext.new _ _) ?_)
  rw [← hL.vw.size]
  exact Blk.new m e cs
theorem one2_makeV {b : Nat} {dst : Option Nat} {W1 m1 : World} (hV : Vw m1 W1) (hd : o.dst = dst) (hgd : o.guard = none) {t : TypeId} {x : Operand} (ho : o.op = .makeSlice t x x) {e : TypeId} {size bytes : Nat} (hap : apS P t = some (e, size, bytes, size)) {z : Array Value} (hz : zc P e = some z)
    {n : Nat} (hx : a.eval x = .int .i64 n) (hn : n ≤ 1000000) (hb : bytes ≤ 1000000) {R : World → Value → Prop} (hR : ∀ m' g, Ext m1 m' → Blk m' g e (madeCells z (n * size)) → R m' (.slice (some ⟨g, 0, none⟩) n n)) :
    wpList P ops (One2 (Of R) false a dst W1 m1) [o] a W1 := by
  subst hd
  refine wpList_plain hgd fun _ hK => op_make ho hap hz hx hn hb (hK _ _ ?_)
  have h := (Loc.start hV).allocV (madeCells z (n * size)) e
  exact ⟨rfl, h.ext, _, _, h.mext, h.vw, rfl, hR _ _ h.mext (by rw [← hV.size]; exact Blk.new _ _ _), fun h => by cases h⟩
end

theorem foldl_splice (off : Nat) : ∀ (l : List Value) (k : Nat) (cs : Array Value), (l.zipIdx k).foldl (fun cs (x : Value × Nat) => cs.setIfInBounds (off + x.2) x.1) cs = splice cs (off + k) l
  | [], _, _ => rfl
  | v :: r, k, cs => by
    rw [List.zipIdx_cons, List.foldl_cons, foldl_splice off r (k + 1), splice]; rfl
theorem splice_all {ws : List Value} {cs : Array Value} (h : cs.size = ws.length) : splice cs 0 ws = ws.toArray := by
  apply Array.ext_getElem?
  intro j
  rw [splice_at ws 0 cs (by omega)]
  by_cases hj : j < ws.length
  · rw [if_pos ⟨by omega, by omega⟩]; simp
  · rw [if_neg (by omega)]
    rw [Array.getElem?_eq_none (by omega)]; simp; omega
theorem run_bs1 {P : Program} {t e : TypeId} {size bytes : Nat} (hap : apS P t = some (e, size, bytes, size)) (h0 : 0 < size) (h1 : size ≤ 1000) {v : Value} {ws : List Value} (hv : v.cells = ws.toArray) (hw : ws.length = size) (w : World) :
    (Instr.buildSlice t 1 #[(0, v)]).run P w = .ok (.slice (some ⟨w.heap.size, 0, none⟩) 1 1) (w.alloc (.cells ws.toArray e)) := by
  obtain ⟨i, z, ht, hi, hz, hs, hb, hzs⟩ := ap_desc hap
  have hle : ¬ (1 * i.size > 2 ^ 24) := by omega
  have hne : ¬ (1 * i.size = 0) := by omega
  have hfill : ∀ cs : Array Value, cs.size = size → Instr.fill (fun j => some (j * i.size, i.size)) cs [(0, v)] = some ws.toArray := by
    intro cs hcs
    unfold Instr.fill
    have e1 : v.cells.size = i.size := by rw [hv]; simp [hw, hs]
    simp only [e1, ne_eq, not_true_eq_false, decide_false, Bool.false_or, Nat.zero_mul, Nat.zero_add]
    rw [if_neg (by simp; omega)]
    unfold Instr.fill
    congr 1
    rw [hv]
    have := foldl_splice 0 ws 0 cs
    simp only [Nat.zero_add, Nat.add_zero] at this
    have h2 := splice_all (cs := cs) (ws := ws) (by omega)
    rw [← Array.foldl_toList, Array.toList_zipIdx]
    exact this.trans h2
  have hsz : (sizeOf e).run P w = .ok i.size w := by simp [sizeOf, typeInfo, hi]
  have hzv : (zeroValue e).run P w = .ok z w := by simp [zeroValue, typeInfo, hi, hz]
  unfold Instr.buildSlice
  simp only [Sem.run_bind, run_underlying ht, hsz, Result.andThen_ok]
  rw [if_neg hle, if_neg hne]
  simp only [Sem.run_bind, hzv, Sem.run_pure, Result.andThen_ok]
  rw [hfill _ (by simp [hs])]
  simp [newRow, go_sem]
section
variable {P : Program} {ops : Array Oper} {Q : Exit → Act → World → Prop} {rest : List Oper} {o : Oper} {a : Act} {w0 m0 W m : World} {Ls : List Lo}
theorem wl_bs1 (hL : Loc w0 m0 W m Ls) (hw : Region.wanted o (yielded ops a.tmps) = true) {t : TypeId} {x : Operand} (ho : o.op = .buildSlice t 1 #[(0, x)]) {e : TypeId} {size bytes : Nat} (hap : apS P t = some (e, size, bytes, size)) (h0 : 0 < size) (h1 : size ≤ 1000)
    {v : Value} (hx : a.eval x = v) {ws : List Value} (hv : v.cells = ws.toArray) (hl : ws.length = size)
    (h : ∀ W' m', Loc w0 m0 W' m' Ls → Ext m m' → Blk m' W.heap.size e ws.toArray → wpList P ops Q rest (a.put o.dst (.slice (some ⟨W.heap.size, 0, none⟩) 1 1)) W') : wpList P ops Q (o :: rest) a W := by
  refine wl_bslice (e := e) (cs := ws.toArray) (n := 1) hL hw ho (fun w => ?_) h
  unfold execOp
  simp only [ho, List.map_toArray, List.map_cons, List.map_nil, hx, Sem.run_bind, run_bs1 hap h0 h1 hv hl, Result.andThen_ok, Sem.run_pure]
theorem t_bsA (hL : Loc w0 m0 W m Ls) {t : TypeId} {x : Operand} (ho : o.op = .buildSlice t 1 #[(0, x)]) {ws : List Value} (hx : a.eval x = .agg ws.toArray) {e : TypeId} {size bytes : Nat} [hap : ApC P t e size bytes]
    (h : ∀ W' m', Loc w0 m0 W' m' Ls → Ext m m' → Blk m' W.heap.size e ws.toArray → wpList P ops Q rest (a.put o.dst (.slice (some ⟨W.heap.size, 0, none⟩) 1 1)) W')
    (hz : 0 < size ∧ size ≤ 1000 ∧ ws.length = size := by refine ⟨by decide, by decide, rfl⟩)
    (hw : Region.wanted o (yielded ops a.tmps) = true := by first | exact wanted_none rfl | exact wanted_some rfl rfl rfl rfl) : wpList P ops Q (o :: rest) a W := wl_bs1 hL hw ho hap.h hz.1 hz.2.1 hx rfl hz.2.2 h
theorem t_bsV (hL : Loc w0 m0 W m Ls) {t : TypeId} {x : Operand} (ho : o.op = .buildSlice t 1 #[(0, x)]) {v : Value} (hx : a.eval x = v) {e : TypeId} {bytes : Nat} [hap : ApC P t e 1 bytes]
    (h : ∀ W' m', Loc w0 m0 W' m' Ls → Ext m m' → Blk m' W.heap.size e #[v] → wpList P ops Q rest (a.put o.dst (.slice (some ⟨W.heap.size, 0, none⟩) 1 1)) W')
    (hv : v.cells = #[v] := by exact rfl)
    (hw : Region.wanted o (yielded ops a.tmps) = true := by first | exact wanted_none rfl | exact wanted_some rfl rfl rfl rfl) : wpList P ops Q (o :: rest) a W := wl_bs1 (ws := [v]) hL hw ho hap.h (by omega) (by omega) hx hv rfl h
end
theorem kBs {P : Program} {ops : Array Oper} {Q : Exit → Act → World → Prop} {rest : List Oper} {a : Act} {W : World} {d : Option Tmp} {ty t : TypeId} {pos : String} {af : Array Edge} {gd : Option (Nat × Bool)} {ps : Array (Nat × Operand)} {n : Nat}
    (h : wpList P ops Q (⟨d, .buildSlice t n ps, ty, pos, af, gd⟩ :: rest) a W) : wpList P ops Q (⟨d, .buildSlice t n ps, ty, pos, af, gd⟩ :: rest) a W := h
/-- The walk stops ahead of an append. -/
theorem stA {P : Program} {ops : Array Oper} {Q : Exit → Act → World → Prop} {rest : List Oper} {a : Act} {W : World} {d : Option Tmp} {ty : TypeId} {pos : String} {af : Array Edge} {gd : Option (Nat × Bool)} {xs : Array Operand} {ts : Array TypeId}
    (h : Hid (wpList P ops Q (⟨d, .call { callee := .builtin .append, args := xs, argTypes := ts }, ty, pos, af, gd⟩ :: rest) a W)) : wpList P ops Q (⟨d, .call { callee := .builtin .append, args := xs, argTypes := ts }, ty, pos, af, gd⟩ :: rest) a W := h
theorem goA {p : Prop} (h : p) : Hid p := h
theorem RowA.snocV {α : Type} {e : TypeId} {size : Nat} {R : World → Value → α → Prop} {m : World} {n : Nat} {xs : List α} {vs : List Value} {v : Value} {x : α} {v' : Value} {R' : List Lo}
    (h1 : Row e size v' (n + 1) (cellsOf vs ++ [v]) R') (h2 : ∀ u ∈ vs, u.cells.size = size) (h3 : All2 (R m) vs xs) (h4 : vs.length = n) (hv : v.cells = #[v]) (hs : size = 1) (hx : R m v x) : RowA e size R m v' (n + 1) (xs ++ [x]) R' := by
  refine ⟨vs ++ [v], ?_, ?_, h3.snoc hx, by simp [h4]⟩
  · rw [cellsOf_append, cellsOf_one, hv]
    exact h1
  · intro u hu
    rcases List.mem_append.1 hu with hu | hu
    · exact h2 u hu
    · rcases List.mem_singleton.1 hu with rfl
      rw [hv, hs]; rfl
theorem RowA.len {α : Type} {e : TypeId} {size : Nat} {R : World → Value → α → Prop} {m : World} {v : Value} {n : Nat} {xs : List α} {Rr : List Lo} (h : RowA e size R m v n xs Rr) : n = xs.length := by
  obtain ⟨vs, _, _, h3, h4⟩ := h
  rw [← h4, h3.length]
end Go.Proofs.YtmhkmmmompediaaGreat

/- Contracts of enumerate.ValidatePrices and master.ValidateMaster where there are no cuts, decisions and columns. -/
namespace Go.Proofs.YtmhkmmmompediaaGreat
open Go.RowKit

set_option maxRecDepth 100000 in
set_option maxHeartbeats 16000000 in
theorem e_ValidatePrices0 (A B C D : Option Addr) (nf c d e f : Nat) (fr : Bool) (w m : World) (hV : Vw m w) (hn : nf ≤ 1000) :
    Calls Tryz.prog 69 #[.int .i64 nf, .agg #[.slice A nf c, .slice B 0 d, .slice C 0 e, .slice D 0 f, .bool fr]] w (RetV w m fun _ r => r = .int .i64 0) := by
  have hL := Loc.start hV
  clear hV
  have e1 : ((nf : Int) != (nf : Int)) = false := by simp
  go_enter Tryz.func69, Tryz.ntmps69
  go_wp2_with (first | ((with_reducible refine kAny ?_); go_skip) | ((first | refine tIx ?_ | refine tFd ?_ | refine tLd ?_ | (refine tSr ?_; clear hL; intro _ hL; simp only [zq2, zq3] at hL) | (refine tSt ?_; clear hL; intro _ hL; simp only [splice, zq1, zq2, zq3] at hL) | (refine tBx ?_; clear hL; intro _ _ hL _) | (refine tAl ?_; clear hL; intro _ _ hL _)); simp only [Act.put, zq1, zq2, zq3]))
  refine wp_loop_once ?_
  go_wp2_with (first | ((with_reducible refine kAny ?_); go_skip) | ((first | refine tIx ?_ | refine tFd ?_ | refine tLd ?_ | (refine tSr ?_; clear hL; intro _ hL; simp only [zq2, zq3] at hL) | (refine tSt ?_; clear hL; intro _ hL; simp only [splice, zq1, zq2, zq3] at hL) | (refine tBx ?_; clear hL; intro _ _ hL _) | (refine tAl ?_; clear hL; intro _ _ hL _)); simp only [Act.put, zq1, zq2, zq3]))
  refine wp_loop_once ?_
  go_wp2_with (first | ((with_reducible refine kAny ?_); go_skip) | ((first | refine tIx ?_ | refine tFd ?_ | refine tLd ?_ | (refine tSr ?_; clear hL; intro _ hL; simp only [zq2, zq3] at hL) | (refine tSt ?_; clear hL; intro _ hL; simp only [splice, zq1, zq2, zq3] at hL) | (refine tBx ?_; clear hL; intro _ _ hL _) | (refine tAl ?_; clear hL; intro _ _ hL _)); simp only [Act.put, zq1, zq2, zq3]))
  go_ret
  exact RetV.mk hL rfl

/-- Strictly ascending numbers from 0 to nf. -/
def Asc (nf : Nat) (rs : List Int) : Prop := ∀ (k : Nat) (x : Int), rs[k]? = some x → 0 ≤ x ∧ x < nf ∧ ∀ y : Int, 0 < k → rs[k - 1]? = some y → y < x
set_option maxRecDepth 100000 in
set_option maxHeartbeats 16000000 in
theorem m_ValidateMaster0 (A B C : Option Addr) (nf n c d e : Nat) (pen : Int) (rs : List Int) (w m : World) (hV : Vw m w) (hr : IntL m (.slice A n c) rs) (hn : nf ≤ 200) (hl : rs.length = n) (h1 : 1 ≤ n) (h2 : n ≤ 32) (p1 : 0 ≤ pen) (p2 : pen ≤ 4294967296) (ha : Asc nf rs) :
    Calls Tryz.prog 68 #[.agg #[.int .i64 nf, .slice A n c, .int .i64 pen, .slice B 0 d, .slice C 0 e]] w (RetV w m fun _ r => r = .int .i64 0) := by
  have hL := Loc.start hV
  clear hV
  have HN := Lib.hid hl
  have HA := Lib.hid ha
  clear hl ha
  have n1 : ¬ (nf : Int) > 200 := by omega
  have n2 : ¬ (nf : Int) < 0 := by omega
  have n3 : ¬ (n : Int) < 1 := by omega
  have n4 : ¬ (n : Int) > 32 := by omega
  have n5 : ¬ pen < 0 := by omega
  have n6 : ¬ pen > 4294967296 := by omega
  go_enter Tryz.func68, Tryz.ntmps68
  go_wp2_with (first | ((with_reducible refine kAny ?_); go_skip) | ((first | refine tIx ?_ | refine tFd ?_ | refine tLd ?_ | (refine tSr ?_; clear hL; intro _ hL; simp only [zq2, zq3] at hL) | (refine tSt ?_; clear hL; intro _ hL; simp only [splice, zq1, zq2, zq3] at hL) | (refine tBx ?_; clear hL; intro _ _ hL _) | (refine tAl ?_; clear hL; intro _ _ hL _)); simp only [Act.put, zq1, zq2, zq3]))
  go_loopw [58] (fun i wr => ∃ (k : Nat) (mm : World), k ≤ n ∧ i = .int .i64 k ∧ Loc w m wr mm [(w.heap.size, 26, #[.int .i64 nf, .slice A n c, .int .i64 pen, .slice B 0 d, .slice C 0 e])]) (fun i _ => n - (intOf i).toNat)
  case atStart => exact ⟨0, _, Nat.zero_le _, rfl, hL⟩
  case round =>
    clear hL
    obtain ⟨k, mm, hk, rfl, hL⟩ := hrel
    have hM := hL.mext
    by_cases hlt : k < n
    · obtain ⟨x, hx⟩ := at_some HN hlt
      obtain ⟨b1, o1, hA, hc1⟩ := IntL.at_ hr hx
      replace hA := Lib.hid hA
      obtain ⟨x1, x2, x3⟩ := HA.out k x hx
      have x1' : ¬ x < 0 := by omega
      have x2' : ¬ x ≥ nf := by omega
      by_cases h0 : k = 0
      · subst h0
        clear hx x3 x1 x2
        go_wp2_with (first | ((with_reducible refine kAny ?_); go_skip) | ((first | refine tIx ?_ | refine tFd ?_ | refine tLd ?_ | (refine tSr ?_; clear hL; intro _ hL; simp only [zq2, zq3] at hL) | (refine tSt ?_; clear hL; intro _ hL; simp only [splice, zq1, zq2, zq3] at hL) | (refine tBx ?_; clear hL; intro _ _ hL _) | (refine tAl ?_; clear hL; intro _ _ hL _)); simp only [Act.put, zq1, zq2, zq3]))
        go_roundw
        case rel => exact ⟨1, _, by omega, by go_num, hL⟩
        case measure => simp [intOf] <;> omega
      · obtain ⟨j, rfl⟩ : ∃ j, k = j + 1 := ⟨k - 1, by omega⟩
        have hk0 : ((j + 1 : Nat) : Int) > 0 := by omega
        have hjn : j < n := by omega
        obtain ⟨y, hy⟩ := at_some HN hjn
        obtain ⟨b2, o2, hA2, hc2⟩ := IntL.at_ hr hy
        have hyx : ¬ x ≤ y := by have := x3 y (by omega) (by simpa using hy); omega
        have e12 : b2 = b1 ∧ o2 = o1 := by
          have := hA.out
          rw [hA2] at this
          simp only [Option.some.injEq, Addr.mk.injEq, and_true] at this
          exact this
        obtain ⟨rfl, rfl⟩ := e12
        have hj1 : ((j + 1 : Nat) : Int) - 1 = (j : Int) := by omega
        have hj2 : wrap64 (((j + 1 : Nat) : Int) - 1) = (j : Int) := by unfold wrap64; omega
        have hj3 : (j : Int) + 1 - 1 = (j : Int) := by omega
        clear hx hy x3 x1 x2 hA2 h0
        go_wp2_with (first | ((with_reducible refine kAny ?_); go_skip) | ((first | refine tIx ?_ | refine tFd ?_ | refine tLd ?_ | (refine tSr ?_; clear hL; intro _ hL; simp only [zq2, zq3] at hL) | (refine tSt ?_; clear hL; intro _ hL; simp only [splice, zq1, zq2, zq3] at hL) | (refine tBx ?_; clear hL; intro _ _ hL _) | (refine tAl ?_; clear hL; intro _ _ hL _)); simp only [Act.put, zq1, zq2, zq3]))
        go_roundw
        case rel => exact ⟨j + 1 + 1, _, by omega, by go_num, hL⟩
        case measure => simp [intOf] <;> omega
    · go_wp2_with (first | ((with_reducible refine kAny ?_); go_skip) | ((first | refine tIx ?_ | refine tFd ?_ | refine tLd ?_ | (refine tSr ?_; clear hL; intro _ hL; simp only [zq2, zq3] at hL) | (refine tSt ?_; clear hL; intro _ hL; simp only [splice, zq1, zq2, zq3] at hL) | (refine tBx ?_; clear hL; intro _ _ hL _) | (refine tAl ?_; clear hL; intro _ _ hL _)); simp only [Act.put, zq1, zq2, zq3]))
      refine wp_loop_once ?_
      go_wp2_with (first | ((with_reducible refine kAny ?_); go_skip) | ((first | refine tIx ?_ | refine tFd ?_ | refine tLd ?_ | (refine tSr ?_; clear hL; intro _ hL; simp only [zq2, zq3] at hL) | (refine tSt ?_; clear hL; intro _ hL; simp only [splice, zq1, zq2, zq3] at hL) | (refine tBx ?_; clear hL; intro _ _ hL _) | (refine tAl ?_; clear hL; intro _ _ hL _)); simp only [Act.put, zq1, zq2, zq3]))
      refine wp_loop_once ?_
      go_wp2_with (first | ((with_reducible refine kAny ?_); go_skip) | ((first | refine tIx ?_ | refine tFd ?_ | refine tLd ?_ | (refine tSr ?_; clear hL; intro _ hL; simp only [zq2, zq3] at hL) | (refine tSt ?_; clear hL; intro _ hL; simp only [splice, zq1, zq2, zq3] at hL) | (refine tBx ?_; clear hL; intro _ _ hL _) | (refine tAl ?_; clear hL; intro _ _ hL _)); simp only [Act.put, zq1, zq2, zq3]))
      go_ret
      exact RetV.mk hL rfl
end Go.Proofs.YtmhkmmmompediaaGreat

/- Contracts of lagrange.smaller (any small parts) and lagrange.Bound without cuts, decisions and columns. -/
namespace Go.Proofs.YtmhkmmmompediaaGreat
open Go.RowKit

abbrev SF := Int × Int
def minS (p q : SF) : SF := if pN q.1 q.2 * pD p.2 < pN p.1 p.2 * pD q.2 then q else p
def SFr (m : World) (v : Value) (p : SF) : Prop := FracS m v p.1 p.2
abbrev SFL := ListV (α := SF) 4 SFr
theorem FracS.lit {m : World} {v : Value} {x y : Int} (h : FracS m v x y) : ∃ g A n c g' B k d, v = .agg #[.bool g, .slice A n c, .bool g', .slice B k d] ∧ FracS m (.agg #[.bool g, .slice A n c, .bool g', .slice B k d]) x y := by
  have h' := h
  obtain ⟨a, b, c, d, rfl, h1, h2, _⟩ := h
  obtain ⟨g, A, n, c', rfl, rfl⟩ := h1.parts'
  obtain ⟨g', B, k, d', rfl, rfl⟩ := h2.parts'
  exact ⟨_, _, _, _, _, _, _, _, rfl, h'⟩
theorem SFL.at_ {m : World} {A : Option Addr} {n c : Nat} {ps : List SF} (h : SFL m (.slice A n c) ps) {k : Nat} {p : SF} (hk : ps[k]? = some p) :
    ∃ b off g A1 n1 c1 g' B k' d, A = some ⟨b, off, none⟩ ∧ FracS m (.agg #[.bool g, .slice A1 n1 c1, .bool g', .slice B k' d]) p.1 p.2 ∧ m.rangeAt b (off + k * 4) [.bool g, .slice A1 n1 c1, .bool g', .slice B k' d] := by
  obtain ⟨b, off, v, e, hv, _, hr⟩ := ListV.at_ h (by omega) hk
  obtain ⟨g, A1, n1, c1, g', B, k', d, rfl, hv⟩ := FracS.lit hv
  exact ⟨b, off, g, A1, n1, c1, g', B, k', d, e, hv, hr⟩

set_option maxRecDepth 100000 in
set_option maxHeartbeats 8000000 in
theorem l_smallerS (a b : Value) (p q : SF) (w m : World) (hV : Vw m w) (ha : FracS m a p.1 p.2) (hb : FracS m b q.1 q.2) (hp : Sm p.1 p.2) (hq : Sm q.1 q.2) :
    Calls Tryz.prog 73 #[a, b] w (RetV w m fun m' r => FracS m' r (minS p q).1 (minS p q).2) := by
  obtain ⟨g1, A1, n1, c1, h1, B1, k1, d1, rfl, ha⟩ := ha.lit
  obtain ⟨g2, A2, n2, c2, h2, B2, k2, d2, rfl, hb⟩ := hb.lit
  have hL := Loc.start hV
  clear hV
  go_enter Tryz.func73, Tryz.ntmps73
  go_wp2_with (first | ((with_reducible refine kAny ?_); go_skip) | ((first | refine tLd ?_ | (refine tSr ?_; clear hL; intro _ hL; simp only [zq2, zq3] at hL) | (refine tSt ?_; clear hL; intro _ hL; simp only [splice, zq1, zq2, zq3] at hL) | (refine tBx ?_; clear hL; intro _ _ hL _) | (refine tAl ?_; clear hL; intro _ _ hL _)); simp only [Act.put, zq1, zq2, zq3]))
  refine (q_Compare _ _ q.1 q.2 p.1 p.2 _ _ hL.vw (hb.le leX) (ha.le leX) hq hp).mono ?_
  rintro e W11 ⟨_, m11, rfl, hE, hM11, hV, rfl⟩
  replace hL := hL.call hE (by assumption) hV; clear hE hV
  by_cases hc : pN q.1 q.2 * pD p.2 < pN p.1 p.2 * pD q.2
  · rw [icmp_lt hc]
    have E : Hid (minS p q = q) := if_pos hc
    clear hc
    go_wp2_with (first | ((with_reducible refine kAny ?_); go_skip) | ((first | refine tLd ?_ | (refine tSr ?_; clear hL; intro _ hL; simp only [zq2, zq3] at hL) | (refine tSt ?_; clear hL; intro _ hL; simp only [splice, zq1, zq2, zq3] at hL) | (refine tBx ?_; clear hL; intro _ _ hL _) | (refine tAl ?_; clear hL; intro _ _ hL _)); simp only [Act.put, zq1, zq2, zq3]))
    refine fin_agg hL Tryz.results73 rfl rfl loX AgC.h (by exact rfl) ?_
    rw [E.out]; exact hb.le leX
  · have E : Hid (minS p q = p) := if_neg hc
    have hn : ¬ icmp (pN q.1 q.2 * pD p.2) (pN p.1 p.2 * pD q.2) < 0 := by
      unfold icmp; rw [if_neg hc]; split <;> omega
    generalize icmp (pN q.1 q.2 * pD p.2) (pN p.1 p.2 * pD q.2) = s at *
    clear hc
    go_wp2_with (first | ((with_reducible refine kAny ?_); go_skip) | ((first | refine tLd ?_ | (refine tSr ?_; clear hL; intro _ hL; simp only [zq2, zq3] at hL) | (refine tSt ?_; clear hL; intro _ hL; simp only [splice, zq1, zq2, zq3] at hL) | (refine tBx ?_; clear hL; intro _ _ hL _) | (refine tAl ?_; clear hL; intro _ _ hL _)); simp only [Act.put, zq1, zq2, zq3]))
    refine fin_agg hL Tryz.results73 rfl rfl loX AgC.h (by exact rfl) ?_
    rw [E.out]; exact ha.le leX
def vS (p : SF) : Rat := Rat.divInt p.1 p.2
theorem q_AddS (a b : Value) (q : Rat) (p : SF) (w m : World) (hV : Vw m w) (ha : FracC m a q) (hb : FracS m b p.1 p.2) (hs : Sm q.num q.den) (hs' : Sm p.1 p.2) :
    Calls Tryz.prog 72 #[a, b] w (RetV w m fun m' r => FracC m' r (q + vS p)) := by
  have h := q_Add a b q.num q.den p.1 p.2 w m hV (ha.toS hs) hb hs hs'
  rwa [Rat.num_divInt_den] at h
theorem q_MulS (a b : Value) (q : Rat) (p : SF) (w m : World) (hV : Vw m w) (ha : FracC m a q) (hb : FracS m b p.1 p.2) (hs : Sm q.num q.den) (hs' : Sm p.1 p.2) :
    Calls Tryz.prog 74 #[a, b] w (RetV w m fun m' r => FracC m' r (q * vS p)) := by
  have h := q_Mul a b q.num q.den p.1 p.2 w m hV (ha.toS hs) hb hs hs'
  rwa [Rat.num_divInt_den] at h
theorem toSI {m : World} {v : Value} {z : Int} (h : FracC m v (z : Rat)) (hz : z.natAbs < 1073741824) : FracS m v z 1 := by
  have := h.toS ⟨by simpa using hz, by simp⟩
  simpa using this
/-- The sum over the first rows. -/
def bsum (pen : Int) (fs : List SF) (rs : List Int) (k : Nat) : Rat := (rs.take k).foldl (fun s r => s + vS (minS (fs.getD r.toNat (0, 0)) (pen, 1))) ((0 : Int) : Rat)
theorem bsum_step {pen : Int} {fs : List SF} {rs : List Int} {k : Nat} {r : Int} {p : SF} (hr : rs[k]? = some r) (hp : fs[r.toNat]? = some p) : bsum pen fs rs (k + 1) = bsum pen fs rs k + vS (minS p (pen, 1)) := by
  unfold bsum
  rw [List.take_add_one, hr]
  simp [List.foldl_append, hp, List.getD]
end Go.Proofs.YtmhkmmmompediaaGreat

/- Contract of lagrange.Bound without cuts, decisions and columns. -/
namespace Go.Proofs.YtmhkmmmompediaaGreat
open Go.RowKit

set_option maxRecDepth 100000 in
set_option maxHeartbeats 16000000 in
theorem l_Bound0 (A B C F D E G : Option Addr) (nf n c d e cf df ef gf : Nat) (pen : Int) (rs : List Int) (fs : List SF) (lv : Value) (lp : SF) (w m : World) (hV : Vw m w)
    (hr : IntL m (.slice A n c) rs) (hfs : SFL m (.slice F nf cf) fs) (hlv : FracS m lv lp.1 lp.2) (hn : nf ≤ 200) (hl : rs.length = n) (hlf : fs.length = nf) (h1 : 1 ≤ n) (h2 : n ≤ 32) (p1 : 0 ≤ pen) (p2 : pen ≤ 1000) (ha : Asc nf rs)
    (hsm : ∀ p ∈ fs, Sm p.1 p.2 ∧ Sm (minS p (pen, 1)).1 (minS p (pen, 1)).2) (hps : ∀ k, k ≤ n → Sm (bsum pen fs rs k).num (bsum pen fs rs k).den) (hlp : Sm lp.1 lp.2) (hmp : Sm (minS lp (0, 1)).1 (minS lp (0, 1)).2)
    (hml : Sm (((n : Int) : Rat) * vS (minS lp (0, 1))).num (((n : Int) : Rat) * vS (minS lp (0, 1))).den) :
    Calls Tryz.prog 18 #[.agg #[.int .i64 nf, .slice A n c, .int .i64 pen, .slice B 0 d, .slice C 0 e], .agg #[.slice F nf cf, .slice D 0 df, .slice E 0 ef, .slice G 0 gf, .bool false], lv] w
      (RetV w m fun m' r => ∃ v, r = .tuple #[v, .int .i64 0] ∧ FracC m' v (bsum pen fs rs n + ((n : Int) : Rat) * vS (minS lp (0, 1)))) := by
  obtain ⟨g9, A9, n9, c9, h9, B9, k9, d9, rfl, hlv⟩ := hlv.lit
  have hL := Loc.start hV
  clear hV
  have HN := Lib.hid hl
  have HF := Lib.hid hlf
  have HA := Lib.hid ha
  have HS := Lib.hid hsm
  have HP := Lib.hid hps
  have H1 := Lib.hid hlp
  have H2 := Lib.hid hmp
  have H3 := Lib.hid hml
  have KV : Hid (∀ w m', Vw m' w → Le m m' → Calls Tryz.prog 68 #[.agg #[.int .i64 nf, .slice A n c, .int .i64 pen, .slice B 0 d, .slice C 0 e]] w (RetV w m' fun _ r => r = .int .i64 0)) := by
    show ∀ w m', _
    exact fun w m' hV hle => m_ValidateMaster0 A B C nf n c d e pen rs w m' hV (IntL.le hr hle) hn HN.out h1 h2 p1 (by omega) HA.out
  have KP : Hid (∀ w m', Vw m' w → Calls Tryz.prog 69 #[.int .i64 nf, .agg #[.slice F nf cf, .slice D 0 df, .slice E 0 ef, .slice G 0 gf, .bool false]] w (RetV w m' fun _ r => r = .int .i64 0)) := by
    show ∀ w m', _
    exact fun w m' hV => e_ValidatePrices0 F D E G nf cf df ef gf false w m' hV (by omega)
  have KW : Hid (∀ w m', Vw m' w → Calls Tryz.prog 71 #[.int .i64 pen] w (RetV w m' fun m' r => FracC m' r (pen : Rat))) := by
    show ∀ w m', _
    exact fun w m' hV => l_whole pen w m' hV (by omega)
  have KN : Hid (∀ w m', Vw m' w → Calls Tryz.prog 71 #[.int .i64 n] w (RetV w m' fun m' r => FracC m' r ((n : Int) : Rat))) := by
    show ∀ w m', _
    exact fun w m' hV => l_whole n w m' hV (by omega)
  have Hpen : Hid (pen.natAbs < 1073741824) := by show _ < _; omega
  have hn6 : n ≤ 1000 := by omega
  clear hl hlf ha hsm hps hlp hmp hml h1 h2 p1 p2 hn
  go_enter Tryz.func18, Tryz.ntmps18
  go_upto_region 0 with (fail)
  refine wp_region_lit ?_
  refine t_box hL rfl rfl ?_; clear hL; intro Wh3 mh3 hL eh3; simp only [Act.put, zq1, zq2, zq3]
  refine t_box hL rfl rfl ?_; clear hL; intro Wh4 mh4 hL eh4; simp only [Act.put, zq1, zq2, zq3]
  refine t_box hL rfl rfl ?_; clear hL; intro Wh5 mh5 hL eh5; simp only [Act.put, zq1, zq2, zq3]
  refine t_alloc hL rfl ?_; clear hL; intro Wh6 mh6 hL eh6; simp only [Act.put, zq1, zq2, zq3]
  go_wp2_with (first | ((with_reducible refine kAny ?_); go_skip) | ((first | refine tIx ?_ | refine tFd ?_ | refine tLd ?_ | (refine tSr ?_; clear hL; intro _ hL; simp only [zq2, zq3] at hL) | (refine tSt ?_; clear hL; intro _ hL; simp only [splice, zq1, zq2, zq3] at hL) | (refine tBx ?_; clear hL; intro _ _ hL _) | (refine tAl ?_; clear hL; intro _ _ hL _)); simp only [Act.put, zq1, zq2, zq3]))
  refine (KV.out _ _ hL.vw leX).mono ?_
  rintro e Wc1 ⟨_, mc1, rfl, hE, hMc1, hV, rfl⟩
  replace hL := hL.call hE (by assumption) hV; clear hE hV
  go_wp2_with (first | ((with_reducible refine kAny ?_); go_skip) | ((first | refine tIx ?_ | refine tFd ?_ | refine tLd ?_ | (refine tSr ?_; clear hL; intro _ hL; simp only [zq2, zq3] at hL) | (refine tSt ?_; clear hL; intro _ hL; simp only [splice, zq1, zq2, zq3] at hL) | (refine tBx ?_; clear hL; intro _ _ hL _) | (refine tAl ?_; clear hL; intro _ _ hL _)); simp only [Act.put, zq1, zq2, zq3]))
  refine (KP.out _ _ hL.vw).mono ?_
  rintro e Wc2 ⟨_, mc2, rfl, hE, hMc2, hV, rfl⟩
  replace hL := hL.call hE (by assumption) hV; clear hE hV
  go_wp2_with (first | ((with_reducible refine kAny ?_); go_skip) | ((first | refine tIx ?_ | refine tFd ?_ | refine tLd ?_ | (refine tSr ?_; clear hL; intro _ hL; simp only [zq2, zq3] at hL) | (refine tSt ?_; clear hL; intro _ hL; simp only [splice, zq1, zq2, zq3] at hL) | (refine tBx ?_; clear hL; intro _ _ hL _) | (refine tAl ?_; clear hL; intro _ _ hL _)); simp only [Act.put, zq1, zq2, zq3]))
  refine wp_loop_once ?_
  go_wp2_with (first | ((with_reducible refine kAny ?_); go_skip) | ((first | refine tIx ?_ | refine tFd ?_ | refine tLd ?_ | (refine tSr ?_; clear hL; intro _ hL; simp only [zq2, zq3] at hL) | (refine tSt ?_; clear hL; intro _ hL; simp only [splice, zq1, zq2, zq3] at hL) | (refine tBx ?_; clear hL; intro _ _ hL _) | (refine tAl ?_; clear hL; intro _ _ hL _)); simp only [Act.put, zq1, zq2, zq3]))
  refine (KW.out _ _ hL.vw).mono ?_
  rintro e Wc3 ⟨vc3, mc3, rfl, hE, hMc3, hV, hc3⟩
  replace hL := hL.call hE (by assumption) hV; clear hE hV
  obtain ⟨gc3', Ac3', nc3', cc3', hc3', Bc3', kc3', dc3', rfl, hc3⟩ := hc3.lit
  go_wp2_with (first | ((with_reducible refine kAny ?_); go_skip) | ((first | refine tIx ?_ | refine tFd ?_ | refine tLd ?_ | (refine tSr ?_; clear hL; intro _ hL; simp only [zq2, zq3] at hL) | (refine tSt ?_; clear hL; intro _ hL; simp only [splice, zq1, zq2, zq3] at hL) | (refine tBx ?_; clear hL; intro _ _ hL _) | (refine tAl ?_; clear hL; intro _ _ hL _)); simp only [Act.put, zq1, zq2, zq3]))
  refine (l_whole 0 _ _ hL.vw (by decide)).mono ?_
  rintro e Wc4 ⟨vc4, mc4, rfl, hE, hMc4, hV, hc4⟩
  replace hL := hL.call hE (by assumption) hV; clear hE hV
  obtain ⟨gc4', Ac4', nc4', cc4', hc4', Bc4', kc4', dc4', rfl, hc4⟩ := hc4.lit
  go_wp2_with (first | ((with_reducible refine kAny ?_); go_skip) | ((first | refine tIx ?_ | refine tFd ?_ | refine tLd ?_ | (refine tSr ?_; clear hL; intro _ hL; simp only [zq2, zq3] at hL) | (refine tSt ?_; clear hL; intro _ hL; simp only [splice, zq1, zq2, zq3] at hL) | (refine tBx ?_; clear hL; intro _ _ hL _) | (refine tAl ?_; clear hL; intro _ _ hL _)); simp only [Act.put, zq1, zq2, zq3]))
  have hp3 : FracS mc4 _ pen 1 := (toSI hc3 Hpen.out).le leX
  have hz4 : Hid (FracC mc4 (.agg #[.bool gc4', .slice Ac4' nc4' cc4', .bool hc4', .slice Bc4' kc4' dc4']) (bsum pen fs rs 0)) := hc4
  go_loopw [66] (fun i wr => ∃ (k : Nat) (mm : World) (g5 h5 : Bool) (A5 B5 : Option Addr) (n5 c5 k5 d5 : Nat), k ≤ n ∧ i = .int .i64 k ∧ Loc w m wr mm [(Wc4.heap.size, 39, #[.bool g5, .slice A5 n5 c5, .bool h5, .slice B5 k5 d5]), (Wc3.heap.size, 39, #[.bool gc3', .slice Ac3' nc3' cc3', .bool hc3', .slice Bc3' kc3' dc3']), (Wh5.heap.size, 39, #[.bool false, .slice none 0 0, .bool false, .slice none 0 0]), (Wh4.heap.size, 39, #[.bool g9, .slice A9 n9 c9, .bool h9, .slice B9 k9 d9]), (Wh3.heap.size, 31, #[.slice F nf cf, .slice D 0 df, .slice E 0 ef, .slice G 0 gf, .bool false]), (w.heap.size, 26, #[.int .i64 nf, .slice A n c, .int .i64 pen, .slice B 0 d, .slice C 0 e])] ∧ Hid (FracC mm (.agg #[.bool g5, .slice A5 n5 c5, .bool h5, .slice B5 k5 d5]) (bsum pen fs rs k)) ∧ Ext mc4 mm) (fun i _ => n - (intOf i).toNat)
  case atStart =>
    refine ⟨0, _, _, _, _, _, _, _, _, _, Nat.zero_le _, rfl, hL, ?_, ?_⟩
    · exact hz4.out.le leX
    · assumption
  case round =>
    clear hL hz4
    obtain ⟨k, mm, g5, h5, A5, B5, n5, c5, k5, d5, hk, rfl, hL, hs, hX⟩ := hrel
    have hM := hL.mext
    by_cases hlt : k < n
    · obtain ⟨r, hx⟩ := at_some HN hlt
      obtain ⟨x1, x2, -⟩ := HA.out k r hx
      obtain ⟨j, rfl⟩ : ∃ j : Nat, r = (j : Int) := ⟨r.toNat, by omega⟩
      have hj : j < nf := by omega
      obtain ⟨p, hp⟩ := at_some HF hj
      obtain ⟨b1, o1, hA1, hc1⟩ := IntL.at_ hr hx
      obtain ⟨b2, o2, g2, A2, n2, c2, h2, B2, k2, d2, hA2, hp2, hr2⟩ := SFL.at_ hfs hp
      replace hA1 := Lib.hid hA1
      replace hA2 := Lib.hid hA2
      have S1 : Hid (Sm p.1 p.2) := (HS.out p (List.mem_of_getElem? hp)).1
      have S2 : Hid (Sm (minS p (pen, 1)).1 (minS p (pen, 1)).2) := (HS.out p (List.mem_of_getElem? hp)).2
      have S3 : Hid (Sm pen 1) := ⟨Hpen.out, by decide⟩
      have S4 : Hid (Sm (bsum pen fs rs k).num (bsum pen fs rs k).den) := HP.out k hk
      have HB : Hid (bsum pen fs rs (k + 1) = bsum pen fs rs k + vS (minS p (pen, 1))) := bsum_step hx (by simpa using hp)
      have hs1 := hs.out
      replace hp3 := hp3.le hX.le
      clear hx hp x1 x2 hs KV KP KW KN HS HP
      go_upto_region 24 with ((first | ((with_reducible refine kAny ?_); go_skip) | ((first | refine tIx ?_ | refine tFd ?_ | refine tLd ?_ | (refine tSr ?_; clear hL; intro _ hL; simp only [zq2, zq3] at hL) | (refine tSt ?_; clear hL; intro _ hL; simp only [splice, zq1, zq2, zq3] at hL) | (refine tBx ?_; clear hL; intro _ _ hL _) | (refine tAl ?_; clear hL; intro _ _ hL _)); simp only [Act.put, zq1, zq2, zq3])))
      (try simp only [eq_self] at *)
      refine wp_region_by2 9 [false, false, false, false, false, false, false, false, false] [false, false, false, false, false, false, false, false, false] [(fun v _ _ => v = ?c24_0), (fun v _ _ => v = ?c24_1), (fun v _ _ => v = ?c24_2), (fun v _ _ => v = ?c24_3), (fun v _ _ => v = ?c24_4), (fun v _ _ => v = ?c24_5), (fun v _ _ => v = ?c24_6), Of (fun um v => FracS um v (minS p (pen, 1)).1 (minS p (pen, 1)).2), Of (fun um v => FracC um v (bsum pen fs rs k + vS (minS p (pen, 1))))] hL.vw mixed [70, 71, 72, 73, 74, 75, 76, 77, 78] _ (by kernel_rfl) (fun vs => by simp only [lay, Act.put, zq1, zq2, zq3]; rfl) (by kernel_rfl) (by decide) (by decide) ?s24 ?l24 ?r24
      case s24 =>
        refine ⟨?_, ?_, ?_, ?_, ?_, ?_, ?_, ?_, ?_, trivial⟩
        · intro vs W1 m1 hE hM hV hD
          clear hD
          replace hL := hL.call hE hM hV
          exact sLd
        · intro vs W1 m1 hE hM hV hD
          clear hD
          replace hL := hL.call hE hM hV
          exact sFd
        · intro vs W1 m1 hE hM hV hD
          obtain ⟨⟨_, _, -, -, f71⟩, -⟩ := hD
          have f71 : vs 71 = _ := f71
          generalize vs 71 = x71 at f71 ⊢
          subst x71
          replace hL := hL.call hE hM hV
          exact sLd
        · intro vs W1 m1 hE hM hV hD
          clear hD
          replace hL := hL.call hE hM hV
          exact sPu
        · intro vs W1 m1 hE hM hV hD
          obtain ⟨⟨_, _, -, -, f72⟩, ⟨_, _, -, -, f73⟩, -⟩ := hD
          have f72 : vs 72 = _ := f72
          generalize vs 72 = x72 at f72 ⊢
          subst x72
          have f73 : vs 73 = _ := f73
          generalize vs 73 = x73 at f73 ⊢
          subst x73
          replace hL := hL.call hE hM hV
          exact sIx
        · intro vs W1 m1 hE hM hV hD
          obtain ⟨⟨_, _, -, -, f74⟩, -⟩ := hD
          have f74 : vs 74 = _ := f74
          generalize vs 74 = x74 at f74 ⊢
          subst x74
          replace hL := hL.call hE hM hV
          exact sLd
        · intro vs W1 m1 hE hM hV hD
          clear hD
          replace hL := hL.call hE hM hV
          exact sLd
        · intro vs W1 m1 hE hM hV hD
          obtain ⟨⟨_, _, -, -, f75⟩, ⟨_, _, -, -, f76⟩, -⟩ := hD
          have f75 : vs 75 = _ := f75
          generalize vs 75 = x75 at f75 ⊢
          subst x75
          have f76 : vs 76 = _ := f76
          generalize vs 76 = x76 at f76 ⊢
          subst x76
          go_wp2_with fail
          refine (l_smallerS _ _ p (pen, 1) _ _ hV (hp2.le leX) (hp3.le leX) S1.out S3.out).mono ?_
          rintro e W2 ⟨v, m2, rfl, hE2, hM2, hV2, h⟩
          go_wp2_with fail
          refine One2.call hE2 hM2 hV2 ?_; first | exact h | exact rfl
        · intro vs W1 m1 hE hM hV hD
          obtain ⟨⟨_, _, -, -, f70⟩, ⟨_, _, -, i77, f77⟩, -, -⟩ := hD
          have f70 : vs 70 = _ := f70
          generalize vs 70 = x70 at f70 ⊢
          subst x70
          have f77 : FracS _ (vs 77) (minS p (pen, 1)).1 (minS p (pen, 1)).2 := f77
          replace f77 := f77.le i77.le
          clear i77
          go_wp2_with fail
          refine (q_AddS _ _ (bsum pen fs rs k) (minS p (pen, 1)) _ _ hV (hs1.le leX) f77 S4.out S2.out).mono ?_
          rintro e W2 ⟨v, m2, rfl, hE2, hM2, hV2, h⟩
          go_wp2_with fail
          refine One2.call hE2 hM2 hV2 ?_; first | exact h | exact rfl
      case l24 =>
        refine ⟨fun h => (by cases h), fun h => (by cases h), fun h => (by cases h), fun h => (by cases h), fun h => (by cases h), fun h => (by cases h), fun h => (by cases h), fun h => (by cases h), fun h => (by cases h), trivial⟩
      intro vs W1 m1 hE hM hV hF hD
      clear hD
      obtain ⟨-, -, -, -, -, -, -, ⟨_, _, -, i77, f77⟩, ⟨_, _, -, i78, f78⟩, -⟩ := hF
      replace hL := hL.call hE hM hV
      replace f77 : FracS _ (vs 77) (minS p (pen, 1)).1 (minS p (pen, 1)).2 := f77
      replace f77 := f77.le i77.le
      clear i77
      replace f78 : FracC _ (vs 78) (bsum pen fs rs k + vS (minS p (pen, 1))) := f78
      replace f78 := f78.le i78.le
      clear i78
      obtain ⟨g78, A78, n78, c78, h78, B78, k78, d78, e78, f78⟩ := f78.lit
      generalize vs 78 = x78 at e78 ⊢
      subst x78
      clear hE hV
      simp only [List.drop_succ_cons, List.drop_zero]
      go_wp2_with (first | ((with_reducible refine kAny ?_); go_skip) | ((first | refine tIx ?_ | refine tFd ?_ | refine tLd ?_ | (refine tSr ?_; clear hL; intro _ hL; simp only [zq2, zq3] at hL) | (refine tSt ?_; clear hL; intro _ hL; simp only [splice, zq1, zq2, zq3] at hL) | (refine tBx ?_; clear hL; intro _ _ hL _) | (refine tAl ?_; clear hL; intro _ _ hL _)); simp only [Act.put, zq1, zq2, zq3]))
      refine QN.mk ?_
      go_wp2_with (first | ((with_reducible refine kAny ?_); go_skip) | ((first | refine tIx ?_ | refine tFd ?_ | refine tLd ?_ | (refine tSr ?_; clear hL; intro _ hL; simp only [zq2, zq3] at hL) | (refine tSt ?_; clear hL; intro _ hL; simp only [splice, zq1, zq2, zq3] at hL) | (refine tBx ?_; clear hL; intro _ _ hL _) | (refine tAl ?_; clear hL; intro _ _ hL _)); simp only [Act.put, zq1, zq2, zq3]))
      go_roundw
      case rel =>
        refine ⟨k + 1, _, _, _, _, _, _, _, _, _, by omega, by go_num, hL, ?_, exX⟩
        rw [← HB.out] at f78
        exact f78
      case measure => simp [intOf] <;> omega
    · have hkn : Hid (k = n) := by show _ = _; omega
      have hs1 := hs.out
      have S4 : Hid (Sm (bsum pen fs rs k).num (bsum pen fs rs k).den) := HP.out k hk
      have hlv2 := hlv.le hM.le
      have S5 : Hid (Sm ((n : Int) : Rat).num ((n : Int) : Rat).den) := ⟨by simp; omega, by simp⟩
      clear hX hs KV KP KW HS HP
      go_wp2_with (first | ((with_reducible refine kAny ?_); go_skip) | ((first | refine tIx ?_ | refine tFd ?_ | refine tLd ?_ | (refine tSr ?_; clear hL; intro _ hL; simp only [zq2, zq3] at hL) | (refine tSt ?_; clear hL; intro _ hL; simp only [splice, zq1, zq2, zq3] at hL) | (refine tBx ?_; clear hL; intro _ _ hL _) | (refine tAl ?_; clear hL; intro _ _ hL _)); simp only [Act.put, zq1, zq2, zq3]))
      refine wp_loop_once ?_
      go_upto_region 31 with ((first | ((with_reducible refine kAny ?_); go_skip) | ((first | refine tIx ?_ | refine tFd ?_ | refine tLd ?_ | (refine tSr ?_; clear hL; intro _ hL; simp only [zq2, zq3] at hL) | (refine tSt ?_; clear hL; intro _ hL; simp only [splice, zq1, zq2, zq3] at hL) | (refine tBx ?_; clear hL; intro _ _ hL _) | (refine tAl ?_; clear hL; intro _ _ hL _)); simp only [Act.put, zq1, zq2, zq3])))
      (try simp only [eq_self] at *)
      refine wp_region_by2 10 [false, false, false, false, false, false, false, false, false, false] [false, false, false, false, false, false, false, false, false, false] [(fun v _ _ => v = ?c31_0), (fun v _ _ => v = ?c31_1), (fun v _ _ => v = ?c31_2), (fun v _ _ => v = ?c31_3), Of (fun um v => FracC um v ((n : Int) : Rat)), (fun v _ _ => v = ?c31_5), Of (fun um v => FracC um v ((0 : Int) : Rat)), Of (fun um v => FracS um v (minS lp (0, 1)).1 (minS lp (0, 1)).2), Of (fun um v => FracC um v (((n : Int) : Rat) * vS (minS lp (0, 1)))), Of (fun um v => FracC um v (bsum pen fs rs k + ((n : Int) : Rat) * vS (minS lp (0, 1))))] hL.vw mixed [104, 105, 106, 107, 108, 109, 110, 111, 112, 113] _ (by kernel_rfl) (fun vs => by simp only [lay, Act.put, zq1, zq2, zq3]; rfl) (by kernel_rfl) (by decide) (by decide) ?s31 ?l31 ?r31
      case s31 =>
        refine ⟨?_, ?_, ?_, ?_, ?_, ?_, ?_, ?_, ?_, ?_, trivial⟩
        · intro vs W1 m1 hE hM hV hD
          clear hD
          replace hL := hL.call hE hM hV
          exact sLd
        · intro vs W1 m1 hE hM hV hD
          clear hD
          replace hL := hL.call hE hM hV
          exact sFd
        · intro vs W1 m1 hE hM hV hD
          obtain ⟨⟨_, _, -, -, f105⟩, -⟩ := hD
          have f105 : vs 105 = _ := f105
          generalize vs 105 = x105 at f105 ⊢
          subst x105
          replace hL := hL.call hE hM hV
          exact sLd
        · intro vs W1 m1 hE hM hV hD
          obtain ⟨⟨_, _, -, -, f106⟩, -⟩ := hD
          have f106 : vs 106 = _ := f106
          generalize vs 106 = x106 at f106 ⊢
          subst x106
          replace hL := hL.call hE hM hV
          go_wp2_with (first | ((with_reducible refine kAny ?_); go_skip) | ((first | refine tIx ?_ | refine tFd ?_ | refine tLd ?_ | (refine tSr ?_; clear hL; intro _ hL; simp only [zq2, zq3] at hL) | (refine tSt ?_; clear hL; intro _ hL; simp only [splice, zq1, zq2, zq3] at hL) | (refine tBx ?_; clear hL; intro _ _ hL _) | (refine tAl ?_; clear hL; intro _ _ hL _)); simp only [Act.put, zq1, zq2, zq3]))
          refine One2.still hV ?_; exact rfl
        · intro vs W1 m1 hE hM hV hD
          obtain ⟨⟨_, _, -, -, f107⟩, -⟩ := hD
          have f107 : vs 107 = _ := f107
          generalize vs 107 = x107 at f107 ⊢
          subst x107
          go_wp2_with fail
          refine (KN.out _ _ hV).mono ?_
          rintro e W2 ⟨v, m2, rfl, hE2, hM2, hV2, h⟩
          go_wp2_with fail
          refine One2.call hE2 hM2 hV2 ?_; first | exact h | exact rfl
        · intro vs W1 m1 hE hM hV hD
          clear hD
          replace hL := hL.call hE hM hV
          exact sLd
        · intro vs W1 m1 hE hM hV hD
          clear hD
          go_wp2_with fail
          refine (l_whole 0 _ _ hV (by decide)).mono ?_
          rintro e W2 ⟨v, m2, rfl, hE2, hM2, hV2, h⟩
          go_wp2_with fail
          refine One2.call hE2 hM2 hV2 ?_; first | exact h | exact rfl
        · intro vs W1 m1 hE hM hV hD
          obtain ⟨⟨_, _, -, -, f109⟩, ⟨_, _, -, i110, f110⟩, -, -⟩ := hD
          have f109 : vs 109 = _ := f109
          generalize vs 109 = x109 at f109 ⊢
          subst x109
          have f110 : FracC _ (vs 110) ((0 : Int) : Rat) := f110
          replace f110 := f110.le i110.le
          clear i110
          go_wp2_with fail
          refine (l_smallerS _ _ lp (0, 1) _ _ hV (hlv2.le leX) (toSI f110 (by decide)) H1.out ⟨by decide, by decide⟩).mono ?_
          rintro e W2 ⟨v, m2, rfl, hE2, hM2, hV2, h⟩
          go_wp2_with fail
          refine One2.call hE2 hM2 hV2 ?_; first | exact h | exact rfl
        · intro vs W1 m1 hE hM hV hD
          obtain ⟨⟨_, _, -, i108, f108⟩, ⟨_, _, -, i111, f111⟩, -, -⟩ := hD
          have f108 : FracC _ (vs 108) ((n : Int) : Rat) := f108
          replace f108 := f108.le i108.le
          clear i108
          have f111 : FracS _ (vs 111) (minS lp (0, 1)).1 (minS lp (0, 1)).2 := f111
          replace f111 := f111.le i111.le
          clear i111
          go_wp2_with fail
          refine (q_MulS _ _ ((n : Int) : Rat) (minS lp (0, 1)) _ _ hV f108 f111 S5.out H2.out).mono ?_
          rintro e W2 ⟨v, m2, rfl, hE2, hM2, hV2, h⟩
          go_wp2_with fail
          refine One2.call hE2 hM2 hV2 ?_; first | exact h | exact rfl
        · intro vs W1 m1 hE hM hV hD
          obtain ⟨⟨_, _, -, -, f104⟩, ⟨_, _, -, i112, f112⟩, -, -⟩ := hD
          have f104 : vs 104 = _ := f104
          generalize vs 104 = x104 at f104 ⊢
          subst x104
          have f112 : FracC _ (vs 112) (((n : Int) : Rat) * vS (minS lp (0, 1))) := f112
          replace f112 := f112.le i112.le
          clear i112
          go_wp2_with fail
          refine (q_AddC _ _ (bsum pen fs rs k) (((n : Int) : Rat) * vS (minS lp (0, 1))) _ _ hV (hs1.le leX) f112 S4.out H3.out).mono ?_
          rintro e W2 ⟨v, m2, rfl, hE2, hM2, hV2, h⟩
          go_wp2_with fail
          refine One2.call hE2 hM2 hV2 ?_; first | exact h | exact rfl
      case l31 =>
        refine ⟨fun h => (by cases h), fun h => (by cases h), fun h => (by cases h), fun h => (by cases h), fun h => (by cases h), fun h => (by cases h), fun h => (by cases h), fun h => (by cases h), fun h => (by cases h), fun h => (by cases h), trivial⟩
      intro vs W1 m1 hE hM hV hF hD
      clear hD
      obtain ⟨-, -, -, -, ⟨_, _, -, i108, f108⟩, -, ⟨_, _, -, i110, f110⟩, ⟨_, _, -, i111, f111⟩, ⟨_, _, -, i112, f112⟩, ⟨_, _, -, i113, f113⟩, -⟩ := hF
      replace hL := hL.call hE hM hV
      replace f108 : FracC _ (vs 108) ((n : Int) : Rat) := f108
      replace f108 := f108.le i108.le
      clear i108
      replace f110 : FracC _ (vs 110) ((0 : Int) : Rat) := f110
      replace f110 := f110.le i110.le
      clear i110
      replace f111 : FracS _ (vs 111) (minS lp (0, 1)).1 (minS lp (0, 1)).2 := f111
      replace f111 := f111.le i111.le
      clear i111
      replace f112 : FracC _ (vs 112) (((n : Int) : Rat) * vS (minS lp (0, 1))) := f112
      replace f112 := f112.le i112.le
      clear i112
      replace f113 : FracC _ (vs 113) (bsum pen fs rs k + ((n : Int) : Rat) * vS (minS lp (0, 1))) := f113
      replace f113 := f113.le i113.le
      clear i113
      obtain ⟨g113, A113, n113, c113, h113, B113, k113, d113, e113, f113⟩ := f113.lit
      generalize vs 113 = x113 at e113 ⊢
      subst x113
      clear hE hV
      simp only [List.drop_succ_cons, List.drop_zero]
      go_wp2_with (first | ((with_reducible refine kAny ?_); go_skip) | ((first | refine tIx ?_ | refine tFd ?_ | refine tLd ?_ | (refine tSr ?_; clear hL; intro _ hL; simp only [zq2, zq3] at hL) | (refine tSt ?_; clear hL; intro _ hL; simp only [splice, zq1, zq2, zq3] at hL) | (refine tBx ?_; clear hL; intro _ _ hL _) | (refine tAl ?_; clear hL; intro _ _ hL _)); simp only [Act.put, zq1, zq2, zq3]))
      refine QN.mk ?_
      go_wp2_with (first | ((with_reducible refine kAny ?_); go_skip) | ((first | refine tIx ?_ | refine tFd ?_ | refine tLd ?_ | (refine tSr ?_; clear hL; intro _ hL; simp only [zq2, zq3] at hL) | (refine tSt ?_; clear hL; intro _ hL; simp only [splice, zq1, zq2, zq3] at hL) | (refine tBx ?_; clear hL; intro _ _ hL _) | (refine tAl ?_; clear hL; intro _ _ hL _)); simp only [Act.put, zq1, zq2, zq3]))
      refine fin_aggT hL Tryz.results18 rfl rfl loX ag_Frac (by exact rfl) rfl (hL.sub (List.nil_sublist _)) ?_
      have hq : bsum pen fs rs n = bsum pen fs rs k := by rw [hkn.out]
      exact ⟨_, rfl, by rw [hq]; exact f113.le leX⟩
end Go.Proofs.YtmhkmmmompediaaGreat

/- Rows that are new and shown at once; closed values. -/
namespace Go.Proofs.YtmhkmmmompediaaGreat
open Go.RowKit

/-- What Bound hands back. -/
def BdR (m : World) (v : Value) (q : Rat) : Prop := ∃ r, v = .tuple #[r, .int .i64 0] ∧ FracC m r q
theorem BdR.le {m m' : World} {v : Value} {q : Rat} (h : BdR m v q) (hb : Le m m') : BdR m' v q := by
  obtain ⟨r, e, h⟩ := h
  exact ⟨r, e, h.le hb⟩
def kF1 : List SF := [(20, 1), (20, 1)]
def kF2 : List SF := [(0, 0), (0, 0)]
theorem kb10 : bsum 10 kF1 [0, 1] 0 = ((0 : Int) : Rat) := by kernel_rfl
theorem kb11 : bsum 10 kF1 [0, 1] 1 = ((10 : Int) : Rat) := by kernel_rfl
theorem kb12 : bsum 10 kF1 [0, 1] 2 = ((20 : Int) : Rat) := by kernel_rfl
theorem kb20 : bsum 10 kF2 [0, 1] 0 = ((0 : Int) : Rat) := by kernel_rfl
theorem kb21 : bsum 10 kF2 [0, 1] 1 = ((0 : Int) : Rat) := by kernel_rfl
theorem kb22 : bsum 10 kF2 [0, 1] 2 = ((0 : Int) : Rat) := by kernel_rfl
theorem kv1 : bsum 10 kF1 [0, 1] 2 + (((2 : Nat) : Int) : Rat) * vS (minS (3, 1) (0, 1)) = ((20 : Int) : Rat) := by kernel_rfl
theorem kv2 : bsum 10 kF2 [0, 1] 2 + (((2 : Nat) : Int) : Rat) * vS (minS (0, 1) (0, 1)) = ((0 : Int) : Rat) := by kernel_rfl
theorem km1 : (((2 : Nat) : Int) : Rat) * vS (minS (3, 1) (0, 1)) = ((0 : Int) : Rat) := by kernel_rfl
theorem km2 : (((2 : Nat) : Int) : Rat) * vS (minS (0, 1) (0, 1)) = ((0 : Int) : Rat) := by kernel_rfl
theorem SmI (z : Int) (h : z.natAbs < 1073741824) : Sm ((z : Rat)).num ((z : Rat)).den := ⟨by simpa using h, by simp⟩
theorem kasc : Asc 2 [0, 1] := by
  intro k x hk
  match k, hk with
  | 0, hk => simp at hk; subst hk; exact ⟨by omega, by omega, fun y h => by omega⟩
  | 1, hk => simp at hk; subst hk; exact ⟨by omega, by omega, fun y _ hy => by simp at hy; omega⟩
  | k + 2, hk => simp at hk
theorem kcel : cel (Rat.divInt (-7) 2) = -3 := by kernel_rfl
end Go.Proofs.YtmhkmmmompediaaGreat

/- Contract of pairinglaw28.known. -/
namespace Go.Proofs.YtmhkmmmompediaaGreat
open Go.RowKit

/-- Prices of two zero values. -/
def PrZ (m : World) (v : Value) : Prop := ∃ A c, v = .agg #[.slice A 2 c, .slice none 0 0, .slice none 0 0, .slice none 0 0, .bool false] ∧ SFL m (.slice A 2 c) kF2
theorem SFL.le {m m' : World} {v : Value} {ps : List SF} (h : SFL m v ps) (hb : Le m m') : SFL m' v ps := ListV.le (R := SFr) (fun _ _ _ _ h hb => FracS.le h hb) h hb
theorem PrZ.le {m m' : World} {v : Value} (h : PrZ m v) (hb : Le m m') : PrZ m' v := by
  obtain ⟨A, c, e, h⟩ := h
  exact ⟨A, c, e, SFL.le h hb⟩
theorem kz2 (m : World) (g : Nat) (hb : Blk m g 39 (madeCells #[.bool false, .slice none 0 0, .bool false, .slice none 0 0] (2 * 4))) : SFL m (.slice (some ⟨g, 0, none⟩) 2 2) kF2 :=
  ListV.mk (vs := [.agg #[.bool false, .slice none 0 0, .bool false, .slice none 0 0], .agg #[.bool false, .slice none 0 0, .bool false, .slice none 0 0]]) (by omega) rfl
    (fun u hu => by simp at hu; subst hu; rfl) (Blk.sl hb (n := 8) (by kernel_rfl)) ⟨frac0 m, frac0 m, trivial⟩
theorem kB1 (g n0 c0 : Nat) (F : Option Addr) (cf : Nat) (lv : Value) (w m : World) (hV : Vw m w) (hr : IntL m (.slice (some ⟨g, 0, none⟩) 2 2) [0, 1]) (hf : SFL m (.slice F 2 cf) kF1) (hl : FracC m lv ((3 : Int) : Rat)) :
    Calls Tryz.prog 18 #[.agg #[.int .i64 2, .slice (some ⟨g, 0, none⟩) 2 2, .int .i64 10, .slice none 0 0, .slice none 0 0], .agg #[.slice F 2 cf, .slice none 0 0, .slice none 0 0, .slice none 0 0, .bool false], lv] w
      (RetV w m fun m' r => BdR m' r ((20 : Int) : Rat)) := by
  have h := l_Bound0 (some ⟨g, 0, none⟩) none none F none none none 2 2 2 0 0 cf 0 0 0 10 [0, 1] kF1 lv (3, 1) w m hV hr hf (toSI hl (by decide)) (by omega) rfl rfl (by omega) (by omega) (by omega) (by omega) kasc
    (fun p hp => by simp [kF1] at hp; subst hp; exact ⟨⟨by decide, by decide⟩, ⟨by decide, by decide⟩⟩)
    (fun k hk => by
      match k, hk with
      | 0, _ => rw [kb10]; exact SmI 0 (by decide)
      | 1, _ => rw [kb11]; exact SmI 10 (by decide)
      | 2, _ => rw [kb12]; exact SmI 20 (by decide)
      | k + 3, h => omega)
    ⟨by decide, by decide⟩ ⟨by decide, by decide⟩ (by rw [km1]; exact SmI 0 (by decide))
  rw [kv1] at h
  exact h
theorem kB2 (g : Nat) (pv lv : Value) (w m : World) (hV : Vw m w) (hr : IntL m (.slice (some ⟨g, 0, none⟩) 2 2) [0, 1]) (hf : PrZ m pv) (hl : FracC m lv ((0 : Int) : Rat)) :
    Calls Tryz.prog 18 #[.agg #[.int .i64 2, .slice (some ⟨g, 0, none⟩) 2 2, .int .i64 10, .slice none 0 0, .slice none 0 0], pv, lv] w
      (RetV w m fun m' r => BdR m' r ((0 : Int) : Rat)) := by
  obtain ⟨F, cf, rfl, hf⟩ := hf
  have h := l_Bound0 (some ⟨g, 0, none⟩) none none F none none none 2 2 2 0 0 cf 0 0 0 10 [0, 1] kF2 lv (0, 1) w m hV hr hf (toSI hl (by decide)) (by omega) rfl rfl (by omega) (by omega) (by omega) (by omega) kasc
    (fun p hp => by simp [kF2] at hp; subst hp; exact ⟨⟨by decide, by decide⟩, ⟨by decide, by decide⟩⟩)
    (fun k hk => by
      match k, hk with
      | 0, _ => rw [kb20]; exact SmI 0 (by decide)
      | 1, _ => rw [kb21]; exact SmI 0 (by decide)
      | 2, _ => rw [kb22]; exact SmI 0 (by decide)
      | k + 3, h => omega)
    ⟨by decide, by decide⟩ ⟨by decide, by decide⟩ (by rw [km2]; exact SmI 0 (by decide))
  rw [kv2] at h
  exact h
theorem kCeil (v : Value) (w m : World) (hV : Vw m w) (h : FracC m v (Rat.divInt (-7) 2)) : Calls Tryz.prog 26 #[v] w (RetV w m fun _ r => r = .tuple #[.int .i64 (-3), .int .i64 0]) := by
  have e1 : (Rat.divInt (-7) 2).num = -7 := by kernel_rfl
  have e2 : (Rat.divInt (-7) 2).den = 2 := by kernel_rfl
  have := l_CeilInt v (Rat.divInt (-7) 2) w m hV h (by rw [e1]; decide) (by rw [e2]; decide) (.inl (by rw [e1]; decide)) (by rw [kcel]; decide) (by rw [kcel]; decide)
  rwa [kcel] at this
theorem kFit (z : Int) (h : z.natAbs ≤ 1000) : Fit 1000 (z : Rat) := ((Tn.int (k := 1000) h (by decide)).fit (by decide)).mono (by decide)

set_option maxRecDepth 100000 in
set_option maxHeartbeats 16000000 in
theorem k_known (w m : World) (hV : Vw m w) : Calls Tryz.prog 22 #[] w (RetV w m fun _ r => r = .bool true) := by
  have hL := Loc.start hV
  clear hV
  go_enter Tryz.func22, Tryz.ntmps22
  go_upto_region 1 with ((first | ((with_reducible refine kAny ?_); go_skip) | ((first | refine tLd ?_ | (refine tSr ?_; clear hL; intro _ hL; simp only [zq2, zq3] at hL) | (refine tSt ?_; clear hL; intro _ hL; simp only [splice, zq1, zq2, zq3] at hL) | (refine tAl ?_; clear hL; intro _ _ hL _)); simp only [Act.put, zq1, zq2, zq3])))
  refine wp_region_lit ?_
  refine wl_bslice hL (wanted_none rfl) rfl (n := 2) (cs := #[.int .i64 0, .int .i64 1]) (e := 3) (fun w => by go_simp) ?_
  clear hL
  intro Wa ma hL ea hba
  simp only [Act.put, zq1, zq2, zq3]
  have hrows : IntL ma (.slice (some ⟨w.heap.size, 0, none⟩) 2 2) [0, 1] := ListV.mk (vs := [.int .i64 0, .int .i64 1]) (by omega) rfl (fun u hu => by simp at hu; rcases hu with rfl | rfl <;> rfl) (Blk.sl hba (n := 2) rfl) ⟨rfl, rfl, trivial⟩
  clear hba
  go_wp2_with (first | ((with_reducible refine kAny ?_); go_skip) | ((first | refine tLd ?_ | (refine tSr ?_; clear hL; intro _ hL; simp only [zq2, zq3] at hL) | (refine tSt ?_; clear hL; intro _ hL; simp only [splice, zq1, zq2, zq3] at hL) | (refine tAl ?_; clear hL; intro _ _ hL _)); simp only [Act.put, zq1, zq2, zq3]))
  refine (r_Int 20 _ _ hL.vw (by decide) (by decide)).mono ?_
  rintro e Wc1 ⟨vc1, mc1, rfl, hE, hMc1, hV, hc1⟩
  replace hL := hL.call hE (by assumption) hV; clear hE hV
  obtain ⟨gc1', Ac1', nc1', cc1', hc1', Bc1', kc1', dc1', rfl, hc1⟩ := hc1.lit
  go_wp2_with (first | ((with_reducible refine kAny ?_); go_skip) | ((first | refine tLd ?_ | (refine tSr ?_; clear hL; intro _ hL; simp only [zq2, zq3] at hL) | (refine tSt ?_; clear hL; intro _ hL; simp only [splice, zq1, zq2, zq3] at hL) | (refine tAl ?_; clear hL; intro _ _ hL _)); simp only [Act.put, zq1, zq2, zq3]))
  refine (r_Int 20 _ _ hL.vw (by decide) (by decide)).mono ?_
  rintro e Wc2 ⟨vc2, mc2, rfl, hE, hMc2, hV, hc2⟩
  replace hL := hL.call hE (by assumption) hV; clear hE hV
  obtain ⟨gc2', Ac2', nc2', cc2', hc2', Bc2', kc2', dc2', rfl, hc2⟩ := hc2.lit
  go_upto_region 3 with ((first | (refine wl_bslice hL (wanted_none rfl) rfl (n := 2) (cs := #[.bool gc1', .slice Ac1' nc1' cc1', .bool hc1', .slice Bc1' kc1' dc1', .bool gc2', .slice Ac2' nc2' cc2', .bool hc2', .slice Bc2' kc2' dc2']) (e := 39) (fun w => by go_simp) ?_; clear hL; intro Wb mb hL eb hbb; simp only [Act.put, zq1, zq2, zq3]) | (first | ((with_reducible refine kAny ?_); go_skip) | ((first | refine tLd ?_ | (refine tSr ?_; clear hL; intro _ hL; simp only [zq2, zq3] at hL) | (refine tSt ?_; clear hL; intro _ hL; simp only [splice, zq1, zq2, zq3] at hL) | (refine tAl ?_; clear hL; intro _ _ hL _)); simp only [Act.put, zq1, zq2, zq3]))))
  have hfs : SFL mb (.slice (some ⟨Wc2.heap.size, 0, none⟩) 2 2) kF1 := ListV.mk (vs := [.agg #[.bool gc1', .slice Ac1' nc1' cc1', .bool hc1', .slice Bc1' kc1' dc1'], .agg #[.bool gc2', .slice Ac2' nc2' cc2', .bool hc2', .slice Bc2' kc2' dc2']]) (by omega) rfl (fun u hu => by simp at hu; rcases hu with rfl | rfl <;> rfl) (Blk.sl hbb (n := 8) rfl) ⟨(toSI hc1 (by decide)).le leX, (toSI hc2 (by decide)).le leX, trivial⟩
  have hrb := IntL.le hrows (leX : Le ma mb)
  clear hrows hbb hc1 hc2
  obtain ⟨B, hB1, hB2, hB3⟩ := hL.bound
  refine wp_region_by2 8 [false, false, false, false, false, false, false, true] [false, false, false, false, false, false, true, false] [(fun v _ _ => v = ?c3_0), (fun v _ _ => v = ?c3_1), Of (fun um v => FracC um v ((3 : Int) : Rat)), Of (fun um v => BdR um v ((20 : Int) : Rat)), Of (fun um v => BdR um v ((20 : Int) : Rat)), Of (fun um v => FracC um v ((20 : Int) : Rat)), Is (.int .i64 0), NewBlk B 39 #[.bool false, .slice none 0 0, .bool false, .slice none 0 0]] hL.vw mixed [16, 17, 18, 19, 15, 20, 21, 3] _ (by kernel_rfl) (fun vs => by simp only [lay, Act.put, zq1, zq2, zq3]; rfl) (by kernel_rfl) (by decide) (by decide) ?s3 ?l3 ?r3
  case s3 =>
    refine ⟨?_, ?_, ?_, ?_, ?_, ?_, ?_, ?_, trivial⟩
    · intro vs W1 m1 hE hM hV hD
      clear hD
      replace hL := hL.call hE hM hV
      exact sLd
    · intro vs W1 m1 hE hM hV hD
      clear hD
      replace hL := hL.call hE hM hV
      exact sLd
    · intro vs W1 m1 hE hM hV hD
      clear hD
      go_wp2_with fail
      refine (r_Int 3 _ _ hV (by decide) (by decide)).mono ?_
      rintro e W2 ⟨v, m2, rfl, hE2, hM2, hV2, h⟩
      go_wp2_with fail
      refine One2.call hE2 hM2 hV2 ?_; first | exact h | exact rfl
    · intro vs W1 m1 hE hM hV hD
      obtain ⟨⟨_, _, -, -, f16⟩, ⟨_, _, -, -, f17⟩, ⟨_, _, -, i18, f18⟩, -, -⟩ := hD
      have f16 : vs 16 = _ := f16
      generalize vs 16 = x16 at f16 ⊢
      subst x16
      have f17 : vs 17 = _ := f17
      generalize vs 17 = x17 at f17 ⊢
      subst x17
      have f18 : FracC _ (vs 18) ((3 : Int) : Rat) := f18
      replace f18 := f18.le i18.le
      clear i18
      go_wp2_with fail
      refine (kB1 _ 0 0 _ _ _ _ _ hV (IntL.le hrb leX) (SFL.le hfs leX) f18).mono ?_
      rintro e W2 ⟨v, m2, rfl, hE2, hM2, hV2, h⟩
      go_wp2_with fail
      refine One2.call hE2 hM2 hV2 ?_; first | exact h | exact rfl
    · intro vs W1 m1 hE hM hV hD
      obtain ⟨⟨_, _, -, i19, f19⟩, -⟩ := hD
      have f19 : BdR _ (vs 19) ((20 : Int) : Rat) := f19
      replace f19 := f19.le i19.le
      clear i19
      go_wp2_with fail
      refine One2.still hV ?_; exact f19
    · intro vs W1 m1 hE hM hV hD
      obtain ⟨⟨_, _, -, i15, f15⟩, -⟩ := hD
      have f15 : BdR _ (vs 15) ((20 : Int) : Rat) := f15
      replace f15 := f15.le i15.le
      clear i15
      obtain ⟨r0, e15, k⟩ := f15
      generalize vs 15 = x15 at e15 ⊢
      subst x15
      replace hL := hL.call hE hM hV
      go_wp2_with (first | ((with_reducible refine kAny ?_); go_skip) | ((first | refine tLd ?_ | (refine tSr ?_; clear hL; intro _ hL; simp only [zq2, zq3] at hL) | (refine tSt ?_; clear hL; intro _ hL; simp only [splice, zq1, zq2, zq3] at hL) | (refine tAl ?_; clear hL; intro _ _ hL _)); simp only [Act.put, zq1, zq2, zq3]))
      refine One2.still hV ?_; exact k
    · intro vs W1 m1 hE hM hV hD
      obtain ⟨⟨_, _, -, i15, f15⟩, -, -⟩ := hD
      have f15 : BdR _ (vs 15) ((20 : Int) : Rat) := f15
      replace f15 := f15.le i15.le
      clear i15
      obtain ⟨r0, e15, k⟩ := f15
      generalize vs 15 = x15 at e15 ⊢
      subst x15
      replace hL := hL.call hE hM hV
      go_wp2_with (first | ((with_reducible refine kAny ?_); go_skip) | ((first | refine tLd ?_ | (refine tSr ?_; clear hL; intro _ hL; simp only [zq2, zq3] at hL) | (refine tSt ?_; clear hL; intro _ hL; simp only [splice, zq1, zq2, zq3] at hL) | (refine tAl ?_; clear hL; intro _ _ hL _)); simp only [Act.put, zq1, zq2, zq3]))
      refine One2.still hV ?_; exact rfl
    · intro vs W1 m1 hE hM hV hD
      clear hD
      exact one2_alloc hV (Nat.le_trans hB3 hE.size) rfl rfl rfl ZcC.h
  case l3 =>
    refine ⟨fun h => (by cases h), fun h => (by cases h), fun h => (by cases h), fun h => (by cases h), fun h => (by cases h), fun h => (by cases h), fun _ => ?_, fun h => (by cases h), trivial⟩
    · intro vs W1 m1 hE hM hV hD
      obtain ⟨⟨_, _, -, i15, f15⟩, -, -⟩ := hD
      have f15 : BdR _ (vs 15) ((20 : Int) : Rat) := f15
      replace f15 := f15.le i15.le
      clear i15
      obtain ⟨r0, e15, k⟩ := f15
      generalize vs 15 = x15 at e15 ⊢
      subst x15
      exact ⟨_, Or.inl ⟨(by rfl), fun w => (by rfl)⟩, rfl⟩
  intro vs W1 m1 hE hM hV hF hD
  obtain ⟨-, -, ⟨_, _, -, i18, f18⟩, ⟨_, _, -, i19, f19⟩, ⟨_, _, -, i15, f15⟩, ⟨_, _, -, i20, f20⟩, ⟨_, _, -, -, f21⟩, ⟨_, _, j3, i3, f3⟩, -⟩ := hF
  replace hL := hL.call hE hM hV
  replace f18 : FracC _ (vs 18) ((3 : Int) : Rat) := f18
  replace f18 := f18.le i18.le
  clear i18
  replace f19 : BdR _ (vs 19) ((20 : Int) : Rat) := f19
  replace f19 := f19.le i19.le
  clear i19
  replace f15 : BdR _ (vs 15) ((20 : Int) : Rat) := f15
  replace f15 := f15.le i15.le
  clear i15
  replace f20 : FracC _ (vs 20) ((20 : Int) : Rat) := f20
  replace f20 := f20.le i20.le
  clear i20
  obtain ⟨g20, A20, n20, c20, h20, B20, k20, d20, e20, f20⟩ := f20.lit
  generalize vs 20 = x20 at e20 ⊢
  subst x20
  have f21 : vs 21 = _ := f21
  generalize vs 21 = x21 at f21 ⊢
  subst x21
  obtain ⟨b3, e3, hL⟩ := Loc.addB (Lt := []) hB1 hB2 hL f3 j3 i3 ad0
  simp only [e3, List.cons_append, List.nil_append] at hL ⊢
  clear e3 f3 j3 i3
  clear hB1 hB2 hB3 hD
  clear hE hV
  simp only [List.drop_succ_cons, List.drop_zero]
  go_wp2_with (first | ((with_reducible refine kAny ?_); go_skip) | ((first | refine tLd ?_ | (refine tSr ?_; clear hL; intro _ hL; simp only [zq2, zq3] at hL) | (refine tSt ?_; clear hL; intro _ hL; simp only [splice, zq1, zq2, zq3] at hL) | (refine tAl ?_; clear hL; intro _ _ hL _)); simp only [Act.put, zq1, zq2, zq3]))
  refine QN.mk ?_
  have h20 : FracC m1 _ ((20 : Int) : Rat) := f20
  clear f20
  have hrc := IntL.le hrb (leX : Le mb m1)
  go_upto_region 4 with ((first | ((with_reducible refine kAny ?_); go_skip) | ((first | refine tLd ?_ | (refine tSr ?_; clear hL; intro _ hL; simp only [zq2, zq3] at hL) | (refine tSt ?_; clear hL; intro _ hL; simp only [splice, zq1, zq2, zq3] at hL) | (refine tAl ?_; clear hL; intro _ _ hL _)); simp only [Act.put, zq1, zq2, zq3])))
  obtain ⟨B, hB1, hB2, hB3⟩ := hL.bound
  refine wp_region_by2 9 [false, false, false, false, false, false, false, false, true] [false, false, false, false, false, false, false, true, false] [(fun v _ _ => v = ?c4_0), Of (fun um v => SFL um v kF2), Of (fun um v => PrZ um v), Of (fun um v => FracC um v ((0 : Int) : Rat)), Of (fun um v => BdR um v ((0 : Int) : Rat)), Of (fun um v => BdR um v ((0 : Int) : Rat)), Of (fun um v => FracC um v ((0 : Int) : Rat)), Is (.int .i64 0), NewBlk B 39 #[.bool false, .slice none 0 0, .bool false, .slice none 0 0]] hL.vw mixed [23, 24, 25, 26, 27, 22, 28, 29, 5] _ (by kernel_rfl) (fun vs => by simp only [lay, Act.put, zq1, zq2, zq3]; rfl) (by kernel_rfl) (by decide) (by decide) ?s4 ?l4 ?r4
  case s4 =>
    refine ⟨?_, ?_, ?_, ?_, ?_, ?_, ?_, ?_, ?_, trivial⟩
    · intro vs W1 m1 hE hM hV hD
      clear hD
      replace hL := hL.call hE hM hV
      exact sLd
    · intro vs W1 m1 hE hM hV hD
      clear hD
      (exact one2_makeV (b := 0) hV rfl rfl rfl ap_Fracs zc_Frac rfl (by omega) (by omega) (fun m' g _ hb => kz2 m' g hb))
    · intro vs W1 m1 hE hM hV hD
      obtain ⟨⟨_, _, -, i24, f24⟩, -⟩ := hD
      have f24 : SFL _ (vs 24) kF2 := f24
      replace f24 := f24.le i24.le
      clear i24
      (obtain ⟨A24, c24, e24, hc24, f24⟩ := f24.lit; generalize vs 24 = x24 at e24 ⊢; subst x24; go_wp2_with fail; refine One2.still hV ?_; exact ⟨_, _, rfl, f24⟩)
    · intro vs W1 m1 hE hM hV hD
      clear hD
      go_wp2_with fail
      refine (r_Int 0 _ _ hV (by decide) (by decide)).mono ?_
      rintro e W2 ⟨v, m2, rfl, hE2, hM2, hV2, h⟩
      go_wp2_with fail
      refine One2.call hE2 hM2 hV2 ?_; first | exact h | exact rfl
    · intro vs W1 m1 hE hM hV hD
      obtain ⟨⟨_, _, -, -, f23⟩, ⟨_, _, -, i25, f25⟩, ⟨_, _, -, i26, f26⟩, -, -⟩ := hD
      have f23 : vs 23 = _ := f23
      generalize vs 23 = x23 at f23 ⊢
      subst x23
      have f25 : PrZ _ (vs 25) := f25
      replace f25 := f25.le i25.le
      clear i25
      have f26 : FracC _ (vs 26) ((0 : Int) : Rat) := f26
      replace f26 := f26.le i26.le
      clear i26
      go_wp2_with fail
      refine (kB2 _ _ _ _ _ hV (IntL.le hrc leX) f25 f26).mono ?_
      rintro e W2 ⟨v, m2, rfl, hE2, hM2, hV2, h⟩
      go_wp2_with fail
      refine One2.call hE2 hM2 hV2 ?_; first | exact h | exact rfl
    · intro vs W1 m1 hE hM hV hD
      obtain ⟨⟨_, _, -, i27, f27⟩, -⟩ := hD
      have f27 : BdR _ (vs 27) ((0 : Int) : Rat) := f27
      replace f27 := f27.le i27.le
      clear i27
      go_wp2_with fail
      refine One2.still hV ?_; exact f27
    · intro vs W1 m1 hE hM hV hD
      obtain ⟨⟨_, _, -, i22, f22⟩, -⟩ := hD
      have f22 : BdR _ (vs 22) ((0 : Int) : Rat) := f22
      replace f22 := f22.le i22.le
      clear i22
      obtain ⟨r0, e22, k⟩ := f22
      generalize vs 22 = x22 at e22 ⊢
      subst x22
      replace hL := hL.call hE hM hV
      go_wp2_with (first | ((with_reducible refine kAny ?_); go_skip) | ((first | refine tLd ?_ | (refine tSr ?_; clear hL; intro _ hL; simp only [zq2, zq3] at hL) | (refine tSt ?_; clear hL; intro _ hL; simp only [splice, zq1, zq2, zq3] at hL) | (refine tAl ?_; clear hL; intro _ _ hL _)); simp only [Act.put, zq1, zq2, zq3]))
      refine One2.still hV ?_; exact k
    · intro vs W1 m1 hE hM hV hD
      obtain ⟨⟨_, _, -, i22, f22⟩, -, -⟩ := hD
      have f22 : BdR _ (vs 22) ((0 : Int) : Rat) := f22
      replace f22 := f22.le i22.le
      clear i22
      obtain ⟨r0, e22, k⟩ := f22
      generalize vs 22 = x22 at e22 ⊢
      subst x22
      replace hL := hL.call hE hM hV
      go_wp2_with (first | ((with_reducible refine kAny ?_); go_skip) | ((first | refine tLd ?_ | (refine tSr ?_; clear hL; intro _ hL; simp only [zq2, zq3] at hL) | (refine tSt ?_; clear hL; intro _ hL; simp only [splice, zq1, zq2, zq3] at hL) | (refine tAl ?_; clear hL; intro _ _ hL _)); simp only [Act.put, zq1, zq2, zq3]))
      refine One2.still hV ?_; exact rfl
    · intro vs W1 m1 hE hM hV hD
      clear hD
      exact one2_alloc hV (Nat.le_trans hB3 hE.size) rfl rfl rfl ZcC.h
  case l4 =>
    refine ⟨fun h => (by cases h), fun h => (by cases h), fun h => (by cases h), fun h => (by cases h), fun h => (by cases h), fun h => (by cases h), fun h => (by cases h), fun _ => ?_, fun h => (by cases h), trivial⟩
    · intro vs W1 m1 hE hM hV hD
      obtain ⟨⟨_, _, -, i22, f22⟩, -, -⟩ := hD
      have f22 : BdR _ (vs 22) ((0 : Int) : Rat) := f22
      replace f22 := f22.le i22.le
      clear i22
      obtain ⟨r0, e22, k⟩ := f22
      generalize vs 22 = x22 at e22 ⊢
      subst x22
      exact ⟨_, Or.inl ⟨(by rfl), fun w => (by rfl)⟩, rfl⟩
  intro vs W1 m1 hE hM hV hF hD
  obtain ⟨-, ⟨_, _, -, i24, f24⟩, ⟨_, _, -, i25, f25⟩, ⟨_, _, -, i26, f26⟩, ⟨_, _, -, i27, f27⟩, ⟨_, _, -, i22, f22⟩, ⟨_, _, -, i28, f28⟩, ⟨_, _, -, -, f29⟩, ⟨_, _, j5, i5, f5⟩, -⟩ := hF
  replace hL := hL.call hE hM hV
  replace f24 : SFL _ (vs 24) kF2 := f24
  replace f24 := f24.le i24.le
  clear i24
  replace f25 : PrZ _ (vs 25) := f25
  replace f25 := f25.le i25.le
  clear i25
  replace f26 : FracC _ (vs 26) ((0 : Int) : Rat) := f26
  replace f26 := f26.le i26.le
  clear i26
  replace f27 : BdR _ (vs 27) ((0 : Int) : Rat) := f27
  replace f27 := f27.le i27.le
  clear i27
  replace f22 : BdR _ (vs 22) ((0 : Int) : Rat) := f22
  replace f22 := f22.le i22.le
  clear i22
  replace f28 : FracC _ (vs 28) ((0 : Int) : Rat) := f28
  replace f28 := f28.le i28.le
  clear i28
  obtain ⟨g28, A28, n28, c28, h28, B28, k28, d28, e28, f28⟩ := f28.lit
  generalize vs 28 = x28 at e28 ⊢
  subst x28
  have f29 : vs 29 = _ := f29
  generalize vs 29 = x29 at f29 ⊢
  subst x29
  obtain ⟨b5, e5, hL⟩ := Loc.addB (Lt := []) hB1 hB2 hL f5 j5 i5 ad0
  simp only [e5, List.cons_append, List.nil_append] at hL ⊢
  clear e5 f5 j5 i5
  clear hB1 hB2 hB3 hD
  clear hE hV
  simp only [List.drop_succ_cons, List.drop_zero]
  go_wp2_with (first | ((with_reducible refine kAny ?_); go_skip) | ((first | refine tLd ?_ | (refine tSr ?_; clear hL; intro _ hL; simp only [zq2, zq3] at hL) | (refine tSt ?_; clear hL; intro _ hL; simp only [splice, zq1, zq2, zq3] at hL) | (refine tAl ?_; clear hL; intro _ _ hL _)); simp only [Act.put, zq1, zq2, zq3]))
  refine QN.mk ?_
  have h28 : FracC m1 _ ((0 : Int) : Rat) := f28
  replace h20 : FracC m1 _ ((20 : Int) : Rat) := h20.le leX
  clear f28 f24 f25 f26 f27 hrc hrb hfs
  go_wp2_with (first | ((with_reducible refine kAny ?_); go_skip) | ((first | refine tLd ?_ | (refine tSr ?_; clear hL; intro _ hL; simp only [zq2, zq3] at hL) | (refine tSt ?_; clear hL; intro _ hL; simp only [splice, zq1, zq2, zq3] at hL) | (refine tAl ?_; clear hL; intro _ _ hL _)); simp only [Act.put, zq1, zq2, zq3]))
  refine (r_Int (-7) _ _ hL.vw (by decide) (by decide)).mono ?_
  rintro e Wc5 ⟨vc5, mc5, rfl, hE, hMc5, hV, hc5⟩
  replace hL := hL.call hE (by assumption) hV; clear hE hV
  obtain ⟨gc5', Ac5', nc5', cc5', hc5', Bc5', kc5', dc5', rfl, hc5⟩ := hc5.lit
  go_wp2_with (first | ((with_reducible refine kAny ?_); go_skip) | ((first | refine tLd ?_ | (refine tSr ?_; clear hL; intro _ hL; simp only [zq2, zq3] at hL) | (refine tSt ?_; clear hL; intro _ hL; simp only [splice, zq1, zq2, zq3] at hL) | (refine tAl ?_; clear hL; intro _ _ hL _)); simp only [Act.put, zq1, zq2, zq3]))
  refine (r_Int 2 _ _ hL.vw (by decide) (by decide)).mono ?_
  rintro e Wc6 ⟨vc6, mc6, rfl, hE, hMc6, hV, hc6⟩
  replace hL := hL.call hE (by assumption) hV; clear hE hV
  obtain ⟨gc6', Ac6', nc6', cc6', hc6', Bc6', kc6', dc6', rfl, hc6⟩ := hc6.lit
  go_wp2_with (first | ((with_reducible refine kAny ?_); go_skip) | ((first | refine tLd ?_ | (refine tSr ?_; clear hL; intro _ hL; simp only [zq2, zq3] at hL) | (refine tSt ?_; clear hL; intro _ hL; simp only [splice, zq1, zq2, zq3] at hL) | (refine tAl ?_; clear hL; intro _ _ hL _)); simp only [Act.put, zq1, zq2, zq3]))
  refine (r_DivC _ _ _ _ _ _ hL.vw (hc5.le leX) hc6 ((Tn.int (k := 1000) (by decide) (by decide)).fit (by decide)) ((Tn.int (k := 1000) (by decide) (by decide)).fit (by decide))).mono ?_
  rintro e Wc7 ⟨vc7, mc7, rfl, hE, hMc7, hV, hc7⟩
  replace hL := hL.call hE (by assumption) hV; clear hE hV
  obtain ⟨gc7', Ac7', nc7', cc7', hc7', Bc7', kc7', dc7', rfl, hc7⟩ := hc7.lit
  rw [div_mix] at hc7
  go_wp2_with (first | ((with_reducible refine kAny ?_); go_skip) | ((first | refine tLd ?_ | (refine tSr ?_; clear hL; intro _ hL; simp only [zq2, zq3] at hL) | (refine tSt ?_; clear hL; intro _ hL; simp only [splice, zq1, zq2, zq3] at hL) | (refine tAl ?_; clear hL; intro _ _ hL _)); simp only [Act.put, zq1, zq2, zq3]))
  refine (kCeil _ _ _ hL.vw hc7).mono ?_
  rintro e Wc8 ⟨_, mc8, rfl, hE, hMc8, hV, rfl⟩
  replace hL := hL.call hE (by assumption) hV; clear hE hV
  replace h20 : FracC mc8 _ ((20 : Int) : Rat) := h20.le leX
  replace h28 : FracC mc8 _ ((0 : Int) : Rat) := h28.le leX
  clear hc5 hc6 hc7
  go_upto_region 6 with ((first | ((with_reducible refine kAny ?_); go_skip) | ((first | refine tLd ?_ | (refine tSr ?_; clear hL; intro _ hL; simp only [zq2, zq3] at hL) | (refine tSt ?_; clear hL; intro _ hL; simp only [splice, zq1, zq2, zq3] at hL) | (refine tAl ?_; clear hL; intro _ _ hL _)); simp only [Act.put, zq1, zq2, zq3])))
  refine wp_region_by2 24 [false, false, false, false, false, false, false, false, false, false, false, false, false, false, false, false, false, false, false, false, false, false, false, false] [false, false, false, false, false, false, false, false, false, false, false, false, false, false, false, false, false, false, false, false, false, false, false, false] [(fun v _ _ => v = ?c6_0), (fun v _ _ => v = ?c6_1), (fun v _ _ => v = ?c6_2), (fun v _ _ => v = ?c6_3), (fun v _ _ => v = ?c6_4), (fun v _ _ => v = ?c6_5), (fun v _ _ => v = ?c6_6), (fun v _ _ => v = ?c6_7), (fun v _ _ => v = ?c6_8), (fun v _ _ => v = ?c6_9), (fun v _ _ => v = ?c6_10), (fun v _ _ => v = ?c6_11), (fun v _ _ => v = ?c6_12), (fun v _ _ => v = ?c6_13), (fun v _ _ => v = ?c6_14), (fun v _ _ => v = ?c6_15), Of (fun um v => FracC um v ((20 : Int) : Rat)), Is (.bool true), (fun v _ _ => v = ?c6_18), (fun v _ _ => v = ?c6_19), (fun v _ _ => v = ?c6_20), Of (fun um v => FracC um v ((0 : Int) : Rat)), Is (.bool true), (fun v _ _ => v = ?c6_23)] hL.vw mixed [37, 38, 39, 40, 41, 42, 43, 44, 45, 46, 47, 48, 49, 50, 51, 52, 53, 54, 55, 56, 57, 58, 59, 60] _ (by kernel_rfl) (fun vs => by simp only [lay, Act.put, zq1, zq2, zq3]; rfl) (by kernel_rfl) (by decide) (by decide) ?s6 ?l6 ?r6
  case s6 =>
    refine ⟨?_, ?_, ?_, ?_, ?_, ?_, ?_, ?_, ?_, ?_, ?_, ?_, ?_, ?_, ?_, ?_, ?_, ?_, ?_, ?_, ?_, ?_, ?_, ?_, trivial⟩
    · intro vs W1 m1 hE hM hV hD
      clear hD
      replace hL := hL.call hE hM hV
      exact sPu
    · intro vs W1 m1 hE hM hV hD
      obtain ⟨⟨_, _, -, -, f37⟩, -⟩ := hD
      have f37 : vs 37 = _ := f37
      generalize vs 37 = x37 at f37 ⊢
      subst x37
      replace hL := hL.call hE hM hV
      exact sPu
    · intro vs W1 m1 hE hM hV hD
      obtain ⟨⟨_, _, -, -, f38⟩, -⟩ := hD
      have f38 : vs 38 = _ := f38
      generalize vs 38 = x38 at f38 ⊢
      subst x38
      replace hL := hL.call hE hM hV
      exact sPu
    · intro vs W1 m1 hE hM hV hD
      obtain ⟨⟨_, _, -, -, f39⟩, -⟩ := hD
      have f39 : vs 39 = _ := f39
      generalize vs 39 = x39 at f39 ⊢
      subst x39
      replace hL := hL.call hE hM hV
      exact sPu
    · intro vs W1 m1 hE hM hV hD
      obtain ⟨⟨_, _, -, -, f40⟩, ⟨_, _, -, -, f39⟩, -⟩ := hD
      have f40 : vs 40 = _ := f40
      generalize vs 40 = x40 at f40 ⊢
      subst x40
      have f39 : vs 39 = _ := f39
      generalize vs 39 = x39 at f39 ⊢
      subst x39
      replace hL := hL.call hE hM hV
      exact sPu
    · intro vs W1 m1 hE hM hV hD
      obtain ⟨⟨_, _, -, -, f39⟩, ⟨_, _, -, -, f41⟩, -⟩ := hD
      have f39 : vs 39 = _ := f39
      generalize vs 39 = x39 at f39 ⊢
      subst x39
      have f41 : vs 41 = _ := f41
      generalize vs 41 = x41 at f41 ⊢
      subst x41
      replace hL := hL.call hE hM hV
      exact sPu
    · intro vs W1 m1 hE hM hV hD
      obtain ⟨⟨_, _, -, -, f42⟩, -, -⟩ := hD
      have f42 : vs 42 = _ := f42
      generalize vs 42 = x42 at f42 ⊢
      subst x42
      replace hL := hL.call hE hM hV
      exact sPu
    · intro vs W1 m1 hE hM hV hD
      obtain ⟨⟨_, _, -, -, f43⟩, -⟩ := hD
      have f43 : vs 43 = _ := f43
      generalize vs 43 = x43 at f43 ⊢
      subst x43
      replace hL := hL.call hE hM hV
      exact sPu
    · intro vs W1 m1 hE hM hV hD
      obtain ⟨⟨_, _, -, -, f44⟩, ⟨_, _, -, -, f43⟩, -⟩ := hD
      have f44 : vs 44 = _ := f44
      generalize vs 44 = x44 at f44 ⊢
      subst x44
      have f43 : vs 43 = _ := f43
      generalize vs 43 = x43 at f43 ⊢
      subst x43
      replace hL := hL.call hE hM hV
      exact sPu
    · intro vs W1 m1 hE hM hV hD
      obtain ⟨⟨_, _, -, -, f43⟩, ⟨_, _, -, -, f45⟩, -⟩ := hD
      have f43 : vs 43 = _ := f43
      generalize vs 43 = x43 at f43 ⊢
      subst x43
      have f45 : vs 45 = _ := f45
      generalize vs 45 = x45 at f45 ⊢
      subst x45
      replace hL := hL.call hE hM hV
      exact sPu
    · intro vs W1 m1 hE hM hV hD
      obtain ⟨⟨_, _, -, -, f46⟩, -, -⟩ := hD
      have f46 : vs 46 = _ := f46
      generalize vs 46 = x46 at f46 ⊢
      subst x46
      replace hL := hL.call hE hM hV
      exact sPu
    · intro vs W1 m1 hE hM hV hD
      obtain ⟨⟨_, _, -, -, f47⟩, -⟩ := hD
      have f47 : vs 47 = _ := f47
      generalize vs 47 = x47 at f47 ⊢
      subst x47
      replace hL := hL.call hE hM hV
      exact sPu
    · intro vs W1 m1 hE hM hV hD
      obtain ⟨⟨_, _, -, -, f48⟩, ⟨_, _, -, -, f47⟩, -⟩ := hD
      have f48 : vs 48 = _ := f48
      generalize vs 48 = x48 at f48 ⊢
      subst x48
      have f47 : vs 47 = _ := f47
      generalize vs 47 = x47 at f47 ⊢
      subst x47
      replace hL := hL.call hE hM hV
      exact sPu
    · intro vs W1 m1 hE hM hV hD
      obtain ⟨⟨_, _, -, -, f47⟩, ⟨_, _, -, -, f49⟩, -⟩ := hD
      have f47 : vs 47 = _ := f47
      generalize vs 47 = x47 at f47 ⊢
      subst x47
      have f49 : vs 49 = _ := f49
      generalize vs 49 = x49 at f49 ⊢
      subst x49
      replace hL := hL.call hE hM hV
      exact sPu
    · intro vs W1 m1 hE hM hV hD
      obtain ⟨⟨_, _, -, -, f50⟩, -, -⟩ := hD
      have f50 : vs 50 = _ := f50
      generalize vs 50 = x50 at f50 ⊢
      subst x50
      replace hL := hL.call hE hM hV
      exact sPu
    · intro vs W1 m1 hE hM hV hD
      obtain ⟨⟨_, _, -, -, f51⟩, -⟩ := hD
      have f51 : vs 51 = _ := f51
      generalize vs 51 = x51 at f51 ⊢
      subst x51
      replace hL := hL.call hE hM hV
      exact sLd
    · intro vs W1 m1 hE hM hV hD
      obtain ⟨⟨_, _, -, -, f51⟩, -, -⟩ := hD
      have f51 : vs 51 = _ := f51
      generalize vs 51 = x51 at f51 ⊢
      subst x51
      go_wp2_with fail
      refine (r_Int 20 _ _ hV (by decide) (by decide)).mono ?_
      rintro e W2 ⟨v, m2, rfl, hE2, hM2, hV2, h⟩
      go_wp2_with fail
      refine One2.call hE2 hM2 hV2 ?_; first | exact h | exact rfl
    · intro vs W1 m1 hE hM hV hD
      obtain ⟨⟨_, _, -, -, f52⟩, ⟨_, _, -, i53, f53⟩, -, ⟨_, _, -, -, f51⟩, -⟩ := hD
      have f52 : vs 52 = _ := f52
      generalize vs 52 = x52 at f52 ⊢
      subst x52
      have f51 : vs 51 = _ := f51
      generalize vs 51 = x51 at f51 ⊢
      subst x51
      have f53 : FracC _ (vs 53) ((20 : Int) : Rat) := f53
      replace f53 := f53.le i53.le
      clear i53
      go_wp2_with fail
      refine (r_Same _ _ ((20 : Int) : Rat) _ _ hV (h20.le leX) f53 (kFit 20 (by decide))).mono ?_
      rintro e W2 ⟨v, m2, rfl, hE2, hM2, hV2, h⟩
      go_wp2_with fail
      refine One2.call hE2 hM2 hV2 ?_; first | exact h | exact rfl
    · intro vs W1 m1 hE hM hV hD
      obtain ⟨⟨_, _, -, -, f51⟩, ⟨_, _, -, -, f54⟩, -⟩ := hD
      have f51 : vs 51 = _ := f51
      generalize vs 51 = x51 at f51 ⊢
      subst x51
      have f54 : vs 54 = _ := f54
      generalize vs 54 = x54 at f54 ⊢
      subst x54
      replace hL := hL.call hE hM hV
      exact sPu
    · intro vs W1 m1 hE hM hV hD
      obtain ⟨⟨_, _, -, -, f55⟩, -, -⟩ := hD
      have f55 : vs 55 = _ := f55
      generalize vs 55 = x55 at f55 ⊢
      subst x55
      replace hL := hL.call hE hM hV
      exact sPu
    · intro vs W1 m1 hE hM hV hD
      obtain ⟨⟨_, _, -, -, f56⟩, -⟩ := hD
      have f56 : vs 56 = _ := f56
      generalize vs 56 = x56 at f56 ⊢
      subst x56
      replace hL := hL.call hE hM hV
      exact sLd
    · intro vs W1 m1 hE hM hV hD
      obtain ⟨⟨_, _, -, -, f56⟩, -, -⟩ := hD
      have f56 : vs 56 = _ := f56
      generalize vs 56 = x56 at f56 ⊢
      subst x56
      go_wp2_with fail
      refine (r_Int 0 _ _ hV (by decide) (by decide)).mono ?_
      rintro e W2 ⟨v, m2, rfl, hE2, hM2, hV2, h⟩
      go_wp2_with fail
      refine One2.call hE2 hM2 hV2 ?_; first | exact h | exact rfl
    · intro vs W1 m1 hE hM hV hD
      obtain ⟨⟨_, _, -, -, f57⟩, ⟨_, _, -, i58, f58⟩, -, ⟨_, _, -, -, f56⟩, -⟩ := hD
      have f57 : vs 57 = _ := f57
      generalize vs 57 = x57 at f57 ⊢
      subst x57
      have f56 : vs 56 = _ := f56
      generalize vs 56 = x56 at f56 ⊢
      subst x56
      have f58 : FracC _ (vs 58) ((0 : Int) : Rat) := f58
      replace f58 := f58.le i58.le
      clear i58
      go_wp2_with fail
      refine (r_Same _ _ ((0 : Int) : Rat) _ _ hV (h28.le leX) f58 (kFit 0 (by decide))).mono ?_
      rintro e W2 ⟨v, m2, rfl, hE2, hM2, hV2, h⟩
      go_wp2_with fail
      refine One2.call hE2 hM2 hV2 ?_; first | exact h | exact rfl
    · intro vs W1 m1 hE hM hV hD
      obtain ⟨⟨_, _, -, -, f56⟩, ⟨_, _, -, -, f59⟩, -⟩ := hD
      have f56 : vs 56 = _ := f56
      generalize vs 56 = x56 at f56 ⊢
      subst x56
      have f59 : vs 59 = _ := f59
      generalize vs 59 = x59 at f59 ⊢
      subst x59
      replace hL := hL.call hE hM hV
      exact sPu
  case l6 =>
    refine ⟨fun h => (by cases h), fun h => (by cases h), fun h => (by cases h), fun h => (by cases h), fun h => (by cases h), fun h => (by cases h), fun h => (by cases h), fun h => (by cases h), fun h => (by cases h), fun h => (by cases h), fun h => (by cases h), fun h => (by cases h), fun h => (by cases h), fun h => (by cases h), fun h => (by cases h), fun h => (by cases h), fun h => (by cases h), fun h => (by cases h), fun h => (by cases h), fun h => (by cases h), fun h => (by cases h), fun h => (by cases h), fun h => (by cases h), fun h => (by cases h), trivial⟩
  intro vs W1 m1 hE hM hV hF hD
  clear hD
  obtain ⟨-, -, -, -, -, -, -, -, -, -, -, -, -, -, -, -, ⟨_, _, -, i53, f53⟩, -, -, -, -, ⟨_, _, -, i58, f58⟩, -, ⟨_, _, -, -, f60⟩, -⟩ := hF
  replace hL := hL.call hE hM hV
  replace f53 : FracC _ (vs 53) ((20 : Int) : Rat) := f53
  replace f53 := f53.le i53.le
  clear i53
  replace f58 : FracC _ (vs 58) ((0 : Int) : Rat) := f58
  replace f58 := f58.le i58.le
  clear i58
  have f60 : vs 60 = _ := f60
  generalize vs 60 = x60 at f60 ⊢
  subst x60
  clear hE hV
  simp only [List.drop_succ_cons, List.drop_zero]
  go_wp2_with (first | ((with_reducible refine kAny ?_); go_skip) | ((first | refine tLd ?_ | (refine tSr ?_; clear hL; intro _ hL; simp only [zq2, zq3] at hL) | (refine tSt ?_; clear hL; intro _ hL; simp only [splice, zq1, zq2, zq3] at hL) | (refine tAl ?_; clear hL; intro _ _ hL _)); simp only [Act.put, zq1, zq2, zq3]))
  refine QN.mk ?_
  go_wp2_with (first | ((with_reducible refine kAny ?_); go_skip) | ((first | refine tLd ?_ | (refine tSr ?_; clear hL; intro _ hL; simp only [zq2, zq3] at hL) | (refine tSt ?_; clear hL; intro _ hL; simp only [splice, zq1, zq2, zq3] at hL) | (refine tAl ?_; clear hL; intro _ _ hL _)); simp only [Act.put, zq1, zq2, zq3]))
  go_ret
  exact RetV.mk hL rfl
end Go.Proofs.YtmhkmmmompediaaGreat

/- Facts on the types of columns; what pairingdata.Column builds. -/
namespace Go.Proofs.YtmhkmmmompediaaGreat
open Go.RowKit

theorem ap_Tasks : apS Tryz.prog 113 = some (111, 2, 16, 2) := by kernel_rfl
instance iC0_1 : ApC Tryz.prog 113 111 2 16 := ⟨ap_Tasks⟩
theorem ap_Duties : apS Tryz.prog 68 = some (113, 1, 24, 1) := by kernel_rfl
instance iC0_2 : ApC Tryz.prog 68 113 1 24 := ⟨ap_Duties⟩
theorem ap_intss : apS Tryz.prog 95 = some (22, 1, 24, 1) := by kernel_rfl
instance iC0_3 : ApC Tryz.prog 95 22 1 24 := ⟨ap_intss⟩
theorem ag_Task : agS Tryz.prog 111 = some 2 := by kernel_rfl
instance iC0_4 : AgC Tryz.prog 111 2 := ⟨ag_Task⟩
theorem zc_Col : zc Tryz.prog 72 = some #[.string ⟨#[]⟩, .slice none 0 0, .int .i64 0] := by kernel_rfl
instance iC0_5 : ZcC Tryz.prog 72 #[.string ⟨#[]⟩, .slice none 0 0, .int .i64 0] := ⟨zc_Col⟩

theorem i64_mask (n : Int) (j : Nat) (z : Int) (hz : (BitVec.ofInt 64 z).toNat = 2 ^ j - 1) (hj : j ≤ 16) : bits .and .i64 n z = n % 2 ^ j := by
  have key : (BitVec.ofInt 64 n &&& BitVec.ofInt 64 z).toNat = (n % ((2 ^ 64 : Nat) : Int)).toNat % 2 ^ j := by
    rw [BitVec.toNat_and, BitVec.toNat_ofInt, hz, Nat.and_two_pow_sub_one_eq_mod]
  show IntKind.i64.wrap ((BitVec.ofInt 64 n &&& BitVec.ofInt 64 z).toNat : Nat) = n % 2 ^ j
  have hp : (2 : Nat) ^ j ≤ 2 ^ 16 := Nat.pow_le_pow_right (by omega) hj
  have hd : (2 : Int) ^ j ∣ ((2 ^ 64 : Nat) : Int) := by
    refine ⟨2 ^ (64 - j), ?_⟩
    rw [← Int.pow_add, show j + (64 - j) = 64 by omega]; rfl
  have e : (((n % ((2 ^ 64 : Nat) : Int)).toNat % 2 ^ j : Nat) : Int) = n % 2 ^ j := by
    rw [Int.natCast_emod, Int.toNat_of_nonneg (Int.emod_nonneg _ (by decide))]
    have : ((2 ^ j : Nat) : Int) = 2 ^ j := by simp
    rw [this, Int.emod_emod_of_dvd _ hd]
  rw [key, e, IntKind.wrap_i64]
  have h0 : 0 ≤ n % 2 ^ j := Int.emod_nonneg _ (by have : (0 : Int) < 2 ^ j := Int.pow_pos (by decide); omega)
  have h1 : n % 2 ^ j < 2 ^ j := Int.emod_lt_of_pos _ (Int.pow_pos (by decide))
  have h2 : (2 : Int) ^ j ≤ 65536 := by
    have h3 : ((2 ^ j : Nat) : Int) ≤ ((65536 : Nat) : Int) := Int.ofNat_le.2 hp
    rwa [Int.natCast_pow] at h3
  omega
theorem i64_and1 (n : Int) : bits .and .i64 n 1 = n % 2 := i64_mask n 1 1 (by decide) (by decide)
theorem i64_and3 (n : Int) : bits .and .i64 n 7 = n % 8 := i64_mask n 3 7 (by decide) (by decide)
theorem i64_and2' (n : Int) : bits .and .i64 n 3 = n % 4 := i64_mask n 2 3 (by decide) (by decide)

theorem Loc.less {w0 m0 W m : World} {A B : List Lo} (h : Loc w0 m0 W m A) (hs : B.Sublist A) : Loc w0 m0 W m B :=
  ⟨h.size0, h.ext, h.mext, h.vw, fun y hy => h.low y (hs.subset hy), fun y hy => h.blk y (hs.subset hy), fun y hy => h.hid y (hs.subset hy), h.apart.sublist hs⟩
theorem fin_aggR {P : Program} {fn : Func} {R : World → Value → Prop} {w m W mm m' : World} {Ls Lt : List Lo} (hL : Loc w m W mm Ls) {p : Nat} {ty : TypeId} (hr : fn.results = #[.cell p ty]) {a : Act} (hdf : a.defers = []) {g : Nat}
    (hp : a.tmps.getD p undef = .pointer (some ⟨g, 0, none⟩)) {n : Nat} {t : TypeId} {cs : Array Value} (hn : Ls[n]? = some (g, t, cs)) {k : Nat} (hty : agS P ty = some k) (hk : cs.size = k) (hL' : Loc w m W m' Lt) (h : R m' (.agg cs)) :
    bodyPost P fn (RetV w m R) .ret a W := by
  subst hk
  obtain ⟨d, hu, hd, hi⟩ := ag_desc hty
  exact bodyPost_ret (results_cell_row hr _ _ g t cs (0, 0) d hp (hL.at_ hn) hu (by cases d <;> first | rfl | exact hd) hi) hdf (RetV.mk hL' h)
abbrev Task := Int × Bool
def TaskR (_ : World) (v : Value) (x : Task) : Prop := v = .agg #[.int .i64 x.1, .bool x.2]
abbrev DutL := ListV (α := Task) 2 TaskR
theorem TaskR.mono (m m' : World) (v : Value) (x : Task) (h : TaskR m v x) (_ : Le m m') : TaskR m' v x := h
theorem DutL.le {m m' : World} {v : Value} {xs : List Task} (h : DutL m v xs) (hb : Le m m') : DutL m' v xs := ListV.le TaskR.mono h hb
theorem DutL.mono (m m' : World) (v : Value) (x : List Task) (h : DutL m v x) (hb : Le m m') : DutL m' v x := DutL.le h hb
abbrev DutsL := ListV (α := List Task) 1 DutL
theorem DutsL.le {m m' : World} {v : Value} {xs : List (List Task)} (h : DutsL m v xs) (hb : Le m m') : DutsL m' v xs := ListV.le DutL.mono h hb
abbrev Col := ByteArray × List (List Task) × Int
def ColR (m : World) (v : Value) (x : Col) : Prop := ∃ s, v = .agg #[.string x.1, s, .int .i64 x.2.2] ∧ DutsL m s x.2.1
theorem ColR.le {m m' : World} {v : Value} {x : Col} (h : ColR m v x) (hb : Le m m') : ColR m' v x := by
  obtain ⟨s, e, h⟩ := h
  exact ⟨s, e, DutsL.le h hb⟩
theorem ColR.mono (m m' : World) (v : Value) (x : Col) (h : ColR m v x) (hb : Le m m') : ColR m' v x := h.le hb
abbrev ColL := ListV (α := Col) 3 ColR
theorem ColL.le {m m' : World} {v : Value} {xs : List Col} (h : ColL m v xs) (hb : Le m m') : ColL m' v xs := ListV.le ColR.mono h hb

structure CS where
  d : List Task
  l : List (List Task)
  s : Bool
def csBit (n : Int) (i : Nat) : Bool := decide (n / 2 ^ i % 2 = 1)
def csF (rs : List Int) (k : Int) (i : Nat) : Int := if k / 2 % 8 = 7 then rs.getD (rs.length - 1 - i) 0 else rs.getD i 0
def csStep (f : Int) (tk ct : Bool) (c : CS) : CS := if tk then (if ct then ⟨[], c.l ++ [c.d ++ [(f, false)]], true⟩ else ⟨c.d ++ [(f, false)], c.l, true⟩) else c
def csAt (rs : List Int) (n k : Int) : Nat → CS
  | 0 => ⟨if k % 2 = 1 then [(0, true)] else [], [], false⟩
  | i + 1 => csStep (csF rs k i) (csBit n i) (decide (k / 16 % 4 = 3)) (csAt rs n k i)
def csD (rs : List Int) (n k : Int) : List Task := if (csAt rs n k rs.length).s then (csAt rs n k rs.length).d else (csAt rs n k rs.length).d ++ [(rs.getD (n / 64 % rs.length).toNat 0, false)]
def csL (rs : List Int) (n k : Int) : List (List Task) := if 0 < (csD rs n k).length then (csAt rs n k rs.length).l ++ [csD rs n k] else (csAt rs n k rs.length).l
def colF (rs : List Int) (n k : Int) : Col := (⟨#[65, 65, 65]⟩, csL rs n k, n / 32 % 41 - 5)
theorem csAt_len (rs : List Int) (n k : Int) : ∀ i, (csAt rs n k i).d.length ≤ i + 1 ∧ (csAt rs n k i).l.length ≤ i
  | 0 => by simp [csAt]; split <;> simp
  | i + 1 => by
    have := csAt_len rs n k i
    simp only [csAt, csStep]
    split
    · split <;> simp <;> omega
    · omega
end Go.Proofs.YtmhkmmmompediaaGreat

/- Contract of pairingdata.Column. -/
namespace Go.Proofs.YtmhkmmmompediaaGreat
open Go.RowKit

theorem bt {a b : Int} (h : a = b) : (a == b) = true := by simp [h]
theorem bf {a b : Int} (h : ¬ a = b) : (a == b) = false := by simp [h]

set_option maxRecDepth 100000 in
set_option maxHeartbeats 16000000 in
theorem d_Column (A : Option Addr) (c : Nat) (rs : List Int) (n k : Int) (w m : World) (hV : Vw m w) (hr : IntL m (.slice A rs.length c) rs) (h1 : 1 ≤ rs.length) (h2 : rs.length ≤ 6) (n0 : 0 ≤ n) (n1 : n ≤ 100000) (k0 : 0 ≤ k) (k1 : k ≤ 100000) :
    Calls Tryz.prog 63 #[.slice A rs.length c, .int .i64 n, .int .i64 k] w (RetV w m fun m' r => ColR m' r (colF rs n k)) := by
  generalize hq : rs.length = q at *
  have HQ := Lib.hid hq
  clear hq
  have e1 := i64_and1 k
  have hL := Loc.start hV
  clear hV
  by_cases hk : k % 2 = 1
  case' pos =>
    have b1 := bt hk
    have rd0 : Hid (csAt rs n k 0 = ⟨[(0, true)], [], false⟩) := by show _ = _; simp [csAt, hk]
    clear hk
    go_enter Tryz.func63, Tryz.ntmps63
    go_upto_region 0 with (fail)
    refine wp_region_lit ?_
    refine t_alloc hL rfl ?_; clear hL; intro Wh6 mh6 hL eh6; simp only [Act.put, zq1, zq2, zq3]
    go_wp2_with (first | ((with_reducible refine kAny ?_); go_skip) | (with_reducible refine stA ?_) | ((first | refine tIx ?_ | refine tLd ?_ | (refine tSr ?_; clear hL; intro _ hL; simp only [zq2, zq3] at hL) | (refine tSt ?_; clear hL; intro _ hL; simp only [splice, zq1, zq2, zq3] at hL) | (refine tAl ?_; clear hL; intro _ _ hL _) | (refine tBs ?_; clear hL; intro _ _ hL _ hBs)); simp only [Act.put, zq1, zq2, zq3]))
    refine goA ?_
    refine wl_append (A := [_]) hL (Row.nil _ _) (wanted_none rfl) rfl ap_Tasks (by omega) rfl rfl (news := [.int .i64 0, .bool true]) rfl ((Blk.sl hBs (n := 2) rfl).le hL.vw.le) rfl (by omega) (by omega) ?_
    clear hL
    intro v1 W2 m2 R2 hL r8 e8
    obtain ⟨A8, c8, rfl, -⟩ := r8.lit
    simp only [List.cons_append, List.nil_append] at hL
    simp only [Act.put, zq1, zq2, zq3, Nat.zero_add]
    go_wp2_with (first | ((with_reducible refine kAny ?_); go_skip) | (with_reducible refine stA ?_) | ((first | refine tIx ?_ | refine tLd ?_ | (refine tSr ?_; clear hL; intro _ hL; simp only [zq2, zq3] at hL) | (refine tSt ?_; clear hL; intro _ hL; simp only [splice, zq1, zq2, zq3] at hL) | (refine tAl ?_; clear hL; intro _ _ hL _) | (refine tBs ?_; clear hL; intro _ _ hL _ hBs)); simp only [Act.put, zq1, zq2, zq3]))
    have rd : Hid (RowA 111 2 TaskR m2 (.slice A8 1 c8) 1 (csAt rs n k 0).d R2) := by
      show RowA _ _ _ _ _ _ _ _
      rw [rd0.out]
      exact RowA.snoc (R := TaskR) (x := (0, true)) (xs := []) (vs := []) r8 (fun _ h => by cases h) trivial rfl rfl rfl
  case' neg =>
    have b1 := bf hk
    have rd0 : Hid (csAt rs n k 0 = ⟨[], [], false⟩) := by show _ = _; simp [csAt, hk]
    clear hk
    go_enter Tryz.func63, Tryz.ntmps63
    go_upto_region 0 with (fail)
    refine wp_region_lit ?_
    refine t_alloc hL rfl ?_; clear hL; intro Wh6 mh6 hL eh6; simp only [Act.put, zq1, zq2, zq3]
    go_wp2_with (first | ((with_reducible refine kAny ?_); go_skip) | (with_reducible refine stA ?_) | ((first | refine tIx ?_ | refine tLd ?_ | (refine tSr ?_; clear hL; intro _ hL; simp only [zq2, zq3] at hL) | (refine tSt ?_; clear hL; intro _ hL; simp only [splice, zq1, zq2, zq3] at hL) | (refine tAl ?_; clear hL; intro _ _ hL _) | (refine tBs ?_; clear hL; intro _ _ hL _ hBs)); simp only [Act.put, zq1, zq2, zq3]))
  all_goals
    go_loopw [7, 8, 9, 10] (fun d l s i wr => ∃ (j : Nat) (mm : World) (nd nl : Nat) (Rd Rl : List Lo), j ≤ q ∧ i = .int .i64 j ∧ s = .bool (csAt rs n k j).s ∧ Loc w m wr mm ((w.heap.size, 72, #[.string ⟨#[]⟩, .slice none 0 0, .int .i64 0]) :: (Rl ++ Rd)) ∧ Hid (RowA 111 2 TaskR mm d nd (csAt rs n k j).d Rd) ∧ Hid (RowA 113 1 DutL mm l nl (csAt rs n k j).l Rl)) (fun _ _ _ i _ => q - (intOf i).toNat)
    case atStart =>
      first
      | exact ⟨0, m2, 1, 0, R2, [], Nat.zero_le _, rfl, congrArg (fun c => Value.bool c.s) rd0.out.symm, hL, rd, by rw [rd0.out]; exact RowA.nil⟩
      | exact ⟨0, mh6, 0, 0, [], [], Nat.zero_le _, rfl, congrArg (fun c => Value.bool c.s) rd0.out.symm, hL, by rw [rd0.out]; exact RowA.nil, by rw [rd0.out]; exact RowA.nil⟩
    case round =>
      clear hL
      obtain ⟨j, mm, nd, nl, Rd, Rl, hj, rfl, rfl, hL, rd, rl⟩ := hrel
      have hM := hL.mext
      obtain ⟨A7, c7, rfl, rd1⟩ := rd.out.lit
      obtain ⟨A8, c8, rfl, rl1⟩ := rl.out.lit
      have hnd : nd ≤ 10 := by have := rd1.len; have := csAt_len rs n k j; omega
      have hnl : nl ≤ 10 := by have := rl1.len; have := csAt_len rs n k j; omega
      have RD := Lib.hid rd1
      have RL := Lib.hid rl1
      clear rd rl rd1 rl1
      by_cases hlt : j < q
      · obtain ⟨f0, hf0⟩ := at_some HQ hlt
        obtain ⟨f1, hf1⟩ := at_some (k := q - 1 - j) HQ (by omega)
        obtain ⟨b1, o1, rfl, hc1⟩ := IntL.at_ hr hf0
        obtain ⟨b2, o2, e2, hc2⟩ := IntL.at_ hr hf1
        injection e2 with e2
        injection e2 with e2 e3
        subst e2 e3
        have ex : (q : Int) - 1 - (j : Int) = ((q - 1 - j : Nat) : Int) := by omega
        have e7 := i64_and3 (k / 2)
        have e8 := i64_and1 (n / 2 ^ j)
        have e9 := i64_and2' (k / 16)
        by_cases h7 : k / 2 % 8 = 7
        case' pos =>
          have b7 := bt h7
          have HF : Hid (csF rs k j = f1) := by show _ = _; unfold csF; rw [if_pos h7, HQ.out, List.getD_eq_getElem?_getD, hf1]; rfl
          clear h7 hf0 hf1
          generalize f1 = f at *
          go_upto_region 12 with ((first | ((with_reducible refine kAny ?_); go_skip) | (with_reducible refine stA ?_) | ((first | refine tIx ?_ | refine tLd ?_ | (refine tSr ?_; clear hL; intro _ hL; simp only [zq2, zq3] at hL) | (refine tSt ?_; clear hL; intro _ hL; simp only [splice, zq1, zq2, zq3] at hL) | (refine tAl ?_; clear hL; intro _ _ hL _) | (refine tBs ?_; clear hL; intro _ _ hL _ hBs)); simp only [Act.put, zq1, zq2, zq3])))
        case' neg =>
          have b7 := bf h7
          have HF : Hid (csF rs k j = f0) := by show _ = _; unfold csF; rw [if_neg h7, List.getD_eq_getElem?_getD, hf0]; rfl
          clear h7 hf0 hf1
          generalize f0 = f at *
          go_upto_region 12 with ((first | ((with_reducible refine kAny ?_); go_skip) | (with_reducible refine stA ?_) | ((first | refine tIx ?_ | refine tLd ?_ | (refine tSr ?_; clear hL; intro _ hL; simp only [zq2, zq3] at hL) | (refine tSt ?_; clear hL; intro _ hL; simp only [splice, zq1, zq2, zq3] at hL) | (refine tAl ?_; clear hL; intro _ _ hL _) | (refine tBs ?_; clear hL; intro _ _ hL _ hBs)); simp only [Act.put, zq1, zq2, zq3])))
        all_goals
          clear hc1 hc2 ex b7 e7
          by_cases hb : n / 2 ^ j % 2 = 1
          · have b8 := bt hb
            have HB : Hid (csBit n j = true) := by show _ = _; exact decide_eq_true hb
            clear hb
            by_cases hc : k / 16 % 4 = 3
            · have b9 := bt hc
              have HS : Hid (csAt rs n k (j + 1) = ⟨[], (csAt rs n k j).l ++ [(csAt rs n k j).d ++ [(f, false)]], true⟩) := by show _ = _; simp [csAt, csStep, HF.out, HB.out, hc]
              clear hc
              go_wp2_with (first | ((with_reducible refine kAny ?_); go_skip) | (with_reducible refine stA ?_) | ((first | refine tIx ?_ | refine tLd ?_ | (refine tSr ?_; clear hL; intro _ hL; simp only [zq2, zq3] at hL) | (refine tSt ?_; clear hL; intro _ hL; simp only [splice, zq1, zq2, zq3] at hL) | (refine tAl ?_; clear hL; intro _ _ hL _) | (refine tBs ?_; clear hL; intro _ _ hL _ hBs)); simp only [Act.put, zq1, zq2, zq3]))
              refine goA ?_
              obtain ⟨vs7, r7, z7, y7, l7⟩ := RD.out
              refine wl_append (A := _ :: Rl) hL r7 (wanted_none rfl) rfl ap_Tasks (by omega) rfl rfl (news := [.int .i64 f, .bool false]) rfl ((Blk.sl hBs (n := 2) rfl).le hL.vw.le) rfl (by omega) (by omega) ?_
              clear hL
              intro v1 W2 m2 R2 hL r8 e8
              obtain ⟨A9, c9, rfl, -⟩ := r8.lit
              have rd2 := RowA.snoc (R := TaskR) (m := m2) (x := (f, false)) r8 z7 (y7.mono fun _ _ hv => hv) l7 rfl rfl
              simp only [List.cons_append] at hL
              obtain ⟨m3, hL3, hle3, hdu, -⟩ := RowA.show (A := _ :: Rl) TaskR.mono hL rd2
              replace hle3 : Le mm m3 := Le.trans leX hle3
              clear hL
              have hL := hL3
              clear hL3
              simp only [Act.put, zq1, zq2, zq3]
              go_wp2_with (first | ((with_reducible refine kAny ?_); go_skip) | (with_reducible refine stA ?_) | ((first | refine tIx ?_ | refine tLd ?_ | (refine tSr ?_; clear hL; intro _ hL; simp only [zq2, zq3] at hL) | (refine tSt ?_; clear hL; intro _ hL; simp only [splice, zq1, zq2, zq3] at hL) | (refine tAl ?_; clear hL; intro _ _ hL _) | (refine tBs ?_; clear hL; intro _ _ hL _ hBs)); simp only [Act.put, zq1, zq2, zq3]))
              refine goA ?_
              obtain ⟨vs8, r9, z9, y9, l9⟩ := RL.out
              refine wl_append (A := [_]) hL r9 (wanted_none rfl) rfl ap_Duties (by omega) rfl rfl (news := [.slice A9 (nd + 1) c9]) rfl ((Blk.sl hBs (n := 1) rfl).le hL.vw.le) rfl (by omega) (by omega) ?_
              clear hL
              intro v2 W4 m4 R4 hL r10 e10
              obtain ⟨A10, c10, rfl, -⟩ := r10.lit
              simp only [List.cons_append, List.nil_append] at hL
              have hle4 : Le m3 m4 := leX
              have rl2 := RowA.snocV (R := DutL) (m := m4) r10 z9 (y9.mono fun v x hv => DutL.mono _ _ _ _ hv (Le.trans hle3 hle4)) l9 rfl rfl (DutL.le hdu hle4)
              simp only [Act.put, zq1, zq2, zq3]
              go_wp2_with (first | ((with_reducible refine kAny ?_); go_skip) | (with_reducible refine stA ?_) | ((first | refine tIx ?_ | refine tLd ?_ | (refine tSr ?_; clear hL; intro _ hL; simp only [zq2, zq3] at hL) | (refine tSt ?_; clear hL; intro _ hL; simp only [splice, zq1, zq2, zq3] at hL) | (refine tAl ?_; clear hL; intro _ _ hL _) | (refine tBs ?_; clear hL; intro _ _ hL _ hBs)); simp only [Act.put, zq1, zq2, zq3]))
              go_roundw
              case rel => exact ⟨j + 1, m4, 0, nl + 1, [], R4, by omega, by go_num, by rw [HS.out], by rw [List.append_nil]; exact hL, by rw [HS.out]; exact RowA.nil, by rw [HS.out]; exact rl2⟩
              case measure => simp [intOf] <;> omega
            · have b9 := bf hc
              have HS : Hid (csAt rs n k (j + 1) = ⟨(csAt rs n k j).d ++ [(f, false)], (csAt rs n k j).l, true⟩) := by show _ = _; simp [csAt, csStep, HF.out, HB.out, hc]
              clear hc
              go_wp2_with (first | ((with_reducible refine kAny ?_); go_skip) | (with_reducible refine stA ?_) | ((first | refine tIx ?_ | refine tLd ?_ | (refine tSr ?_; clear hL; intro _ hL; simp only [zq2, zq3] at hL) | (refine tSt ?_; clear hL; intro _ hL; simp only [splice, zq1, zq2, zq3] at hL) | (refine tAl ?_; clear hL; intro _ _ hL _) | (refine tBs ?_; clear hL; intro _ _ hL _ hBs)); simp only [Act.put, zq1, zq2, zq3]))
              refine goA ?_
              obtain ⟨vs7, r7, z7, y7, l7⟩ := RD.out
              refine wl_append (A := _ :: Rl) hL r7 (wanted_none rfl) rfl ap_Tasks (by omega) rfl rfl (news := [.int .i64 f, .bool false]) rfl ((Blk.sl hBs (n := 2) rfl).le hL.vw.le) rfl (by omega) (by omega) ?_
              clear hL
              intro v1 W2 m2 R2 hL r8 e8
              obtain ⟨A9, c9, rfl, -⟩ := r8.lit
              have rd2 := RowA.snoc (R := TaskR) (m := m2) (x := (f, false)) r8 z7 (y7.mono fun _ _ hv => hv) l7 rfl rfl
              simp only [List.cons_append] at hL
              simp only [Act.put, zq1, zq2, zq3]
              go_wp2_with (first | ((with_reducible refine kAny ?_); go_skip) | (with_reducible refine stA ?_) | ((first | refine tIx ?_ | refine tLd ?_ | (refine tSr ?_; clear hL; intro _ hL; simp only [zq2, zq3] at hL) | (refine tSt ?_; clear hL; intro _ hL; simp only [splice, zq1, zq2, zq3] at hL) | (refine tAl ?_; clear hL; intro _ _ hL _) | (refine tBs ?_; clear hL; intro _ _ hL _ hBs)); simp only [Act.put, zq1, zq2, zq3]))
              go_roundw
              case rel => exact ⟨j + 1, m2, nd + 1, nl, R2, Rl, by omega, by go_num, by rw [HS.out], hL, by rw [HS.out]; exact rd2, by rw [HS.out]; exact RowA.le DutL.mono RL.out leX⟩
              case measure => simp [intOf] <;> omega
          · have b8 := bf hb
            have HS : Hid (csAt rs n k (j + 1) = csAt rs n k j) := by show _ = _; simp [csAt, csStep, csBit, hb]
            clear hb
            go_wp2_with (first | ((with_reducible refine kAny ?_); go_skip) | (with_reducible refine stA ?_) | ((first | refine tIx ?_ | refine tLd ?_ | (refine tSr ?_; clear hL; intro _ hL; simp only [zq2, zq3] at hL) | (refine tSt ?_; clear hL; intro _ hL; simp only [splice, zq1, zq2, zq3] at hL) | (refine tAl ?_; clear hL; intro _ _ hL _) | (refine tBs ?_; clear hL; intro _ _ hL _ hBs)); simp only [Act.put, zq1, zq2, zq3]))
            go_roundw
            case rel => exact ⟨j + 1, mm, nd, nl, Rd, Rl, by omega, by go_num, by rw [HS.out], hL, by rw [HS.out]; exact RD.out, by rw [HS.out]; exact RL.out⟩
            case measure => simp [intOf] <;> omega
      · obtain rfl : j = q := by omega
        have e6 : n / 64 % (j : Int) = ((n / 64 % j).toNat : Int) := by have := Int.emod_nonneg (n / 64) (b := j) (by omega); omega
        have hi6 : (n / 64 % j).toNat < j := by have := Int.emod_lt_of_pos (n / 64) (b := j) (by omega); omega
        cases hs : (csAt rs n k j).s
        · obtain ⟨f, hf⟩ := at_some HQ hi6
          obtain ⟨b1, o1, rfl, hc1⟩ := IntL.at_ hr hf
          have HD : Hid (csD rs n k = (csAt rs n k j).d ++ [(f, false)]) := by
            show _ = _
            unfold csD
            rw [HQ.out, hs, List.getD_eq_getElem?_getD, hf]; rfl
          have HL : Hid (csL rs n k = (csAt rs n k j).l ++ [(csAt rs n k j).d ++ [(f, false)]]) := by
            show _ = _
            unfold csL
            rw [HD.out, HQ.out, if_pos (by simp)]
          clear hs hf
          generalize (n / 64 % j).toNat = i6 at *
          go_wp2_with (first | ((with_reducible refine kAny ?_); go_skip) | (with_reducible refine stA ?_) | ((first | refine tIx ?_ | refine tLd ?_ | (refine tSr ?_; clear hL; intro _ hL; simp only [zq2, zq3] at hL) | (refine tSt ?_; clear hL; intro _ hL; simp only [splice, zq1, zq2, zq3] at hL) | (refine tAl ?_; clear hL; intro _ _ hL _) | (refine tBs ?_; clear hL; intro _ _ hL _ hBs)); simp only [Act.put, zq1, zq2, zq3]))
          refine goA ?_
          obtain ⟨vs7, r7, z7, y7, l7⟩ := RD.out
          refine wl_append (A := _ :: Rl) hL r7 (wanted_none rfl) rfl ap_Tasks (by omega) rfl rfl (news := [.int .i64 f, .bool false]) rfl ((Blk.sl hBs (n := 2) rfl).le hL.vw.le) rfl (by omega) (by omega) ?_
          clear hL
          intro v1 W2 m2 R2 hL r8 e8
          obtain ⟨A9, c9, rfl, -⟩ := r8.lit
          have rd2 := RowA.snoc (R := TaskR) (m := m2) (x := (f, false)) r8 z7 (y7.mono fun _ _ hv => hv) l7 rfl rfl
          simp only [List.cons_append] at hL
          obtain ⟨m3, hL3, hle3, hdu, -⟩ := RowA.show (A := _ :: Rl) TaskR.mono hL rd2
          replace hle3 : Le mm m3 := Le.trans leX hle3
          clear hL
          have hL := hL3
          clear hL3
          simp only [Act.put, zq1, zq2, zq3]
          have hp6 : 0 < nd + 1 := by omega
          go_wp2_with (first | ((with_reducible refine kAny ?_); go_skip) | (with_reducible refine stA ?_) | ((first | refine tIx ?_ | refine tLd ?_ | (refine tSr ?_; clear hL; intro _ hL; simp only [zq2, zq3] at hL) | (refine tSt ?_; clear hL; intro _ hL; simp only [splice, zq1, zq2, zq3] at hL) | (refine tAl ?_; clear hL; intro _ _ hL _) | (refine tBs ?_; clear hL; intro _ _ hL _ hBs)); simp only [Act.put, zq1, zq2, zq3]))
          refine goA ?_
          obtain ⟨vs8, r9, z9, y9, l9⟩ := RL.out
          refine wl_append (A := [_]) hL r9 (wanted_none rfl) rfl ap_Duties (by omega) rfl rfl (news := [.slice A9 (nd + 1) c9]) rfl ((Blk.sl hBs (n := 1) rfl).le hL.vw.le) rfl (by omega) (by omega) ?_
          clear hL
          intro v2 W4 m4 R4 hL r10 e10
          obtain ⟨A10, c10, rfl, -⟩ := r10.lit
          simp only [List.cons_append, List.nil_append] at hL
          have hle4 : Le m3 m4 := leX
          have rl2 := RowA.snocV (R := DutL) (m := m4) r10 z9 (y9.mono fun v x hv => DutL.mono _ _ _ _ hv (Le.trans hle3 hle4)) l9 rfl rfl (DutL.le hdu hle4)
          simp only [Act.put, zq1, zq2, zq3]
          go_wp2_with (first | ((with_reducible refine kAny ?_); go_skip) | (with_reducible refine stA ?_) | ((first | refine tIx ?_ | refine tLd ?_ | (refine tSr ?_; clear hL; intro _ hL; simp only [zq2, zq3] at hL) | (refine tSt ?_; clear hL; intro _ hL; simp only [splice, zq1, zq2, zq3] at hL) | (refine tAl ?_; clear hL; intro _ _ hL _) | (refine tBs ?_; clear hL; intro _ _ hL _ hBs)); simp only [Act.put, zq1, zq2, zq3]))
          obtain ⟨m5, hL5, hle5, hdl, -⟩ := RowA.show (A := [_]) DutL.mono hL rl2
          refine fin_aggR hL Tryz.results63 rfl rfl loX ag_Col (by exact rfl) hL5 ?_
          refine ⟨_, rfl, ?_⟩
          show DutsL _ _ (csL rs n k)
          rw [HL.out]
          exact hdl
        · by_cases hp6 : 0 < nd
          · have HL : Hid (csL rs n k = (csAt rs n k j).l ++ [(csAt rs n k j).d]) := by
              show _ = _
              have h3 := RD.out.len
              unfold csL csD
              rw [HQ.out, hs, if_pos rfl, if_pos (by omega)]
            clear hs
            obtain ⟨m3, hL3, hle3, hdu, -⟩ := RowA.show (A := _ :: Rl) TaskR.mono hL RD.out
            replace hle3 : Le mm m3 := Le.trans leX hle3
            clear hL
            have hL := hL3
            clear hL3
            go_wp2_with (first | ((with_reducible refine kAny ?_); go_skip) | (with_reducible refine stA ?_) | ((first | refine tIx ?_ | refine tLd ?_ | (refine tSr ?_; clear hL; intro _ hL; simp only [zq2, zq3] at hL) | (refine tSt ?_; clear hL; intro _ hL; simp only [splice, zq1, zq2, zq3] at hL) | (refine tAl ?_; clear hL; intro _ _ hL _) | (refine tBs ?_; clear hL; intro _ _ hL _ hBs)); simp only [Act.put, zq1, zq2, zq3]))
            refine goA ?_
            obtain ⟨vs8, r9, z9, y9, l9⟩ := RL.out
            refine wl_append (A := [_]) hL r9 (wanted_none rfl) rfl ap_Duties (by omega) rfl rfl (news := [.slice A7 nd c7]) rfl ((Blk.sl hBs (n := 1) rfl).le hL.vw.le) rfl (by omega) (by omega) ?_
            clear hL
            intro v2 W4 m4 R4 hL r10 e10
            obtain ⟨A10, c10, rfl, -⟩ := r10.lit
            simp only [List.cons_append, List.nil_append] at hL
            have hle4 : Le m3 m4 := leX
            have rl2 := RowA.snocV (R := DutL) (m := m4) r10 z9 (y9.mono fun v x hv => DutL.mono _ _ _ _ hv (Le.trans hle3 hle4)) l9 rfl rfl (DutL.le hdu hle4)
            simp only [Act.put, zq1, zq2, zq3]
            go_wp2_with (first | ((with_reducible refine kAny ?_); go_skip) | (with_reducible refine stA ?_) | ((first | refine tIx ?_ | refine tLd ?_ | (refine tSr ?_; clear hL; intro _ hL; simp only [zq2, zq3] at hL) | (refine tSt ?_; clear hL; intro _ hL; simp only [splice, zq1, zq2, zq3] at hL) | (refine tAl ?_; clear hL; intro _ _ hL _) | (refine tBs ?_; clear hL; intro _ _ hL _ hBs)); simp only [Act.put, zq1, zq2, zq3]))
            obtain ⟨m5, hL5, hle5, hdl, -⟩ := RowA.show (A := [_]) DutL.mono hL rl2
            refine fin_aggR hL Tryz.results63 rfl rfl loX ag_Col (by exact rfl) hL5 ?_
            refine ⟨_, rfl, ?_⟩
            show DutsL _ _ (csL rs n k)
            rw [HL.out]
            exact hdl
          · have HL : Hid (csL rs n k = (csAt rs n k j).l) := by
              show _ = _
              have h3 := RD.out.len
              unfold csL csD
              rw [HQ.out, hs, if_pos rfl, if_neg (by omega)]
            clear hs
            replace hL := hL.less (List.Sublist.cons_cons _ (List.sublist_append_left _ _))
            go_wp2_with (first | ((with_reducible refine kAny ?_); go_skip) | (with_reducible refine stA ?_) | ((first | refine tIx ?_ | refine tLd ?_ | (refine tSr ?_; clear hL; intro _ hL; simp only [zq2, zq3] at hL) | (refine tSt ?_; clear hL; intro _ hL; simp only [splice, zq1, zq2, zq3] at hL) | (refine tAl ?_; clear hL; intro _ _ hL _) | (refine tBs ?_; clear hL; intro _ _ hL _ hBs)); simp only [Act.put, zq1, zq2, zq3]))
            obtain ⟨m5, hL5, hle5, hdl, -⟩ := RowA.show (A := [_]) DutL.mono hL RL.out
            refine fin_aggR hL Tryz.results63 rfl rfl loX ag_Col (by exact rfl) hL5 ?_
            refine ⟨_, rfl, ?_⟩
            show DutsL _ _ (csL rs n k)
            rw [HL.out]
            exact hdl
end Go.Proofs.YtmhkmmmompediaaGreat

/- What pairingdata.Master builds; small lemmas for its walk. -/
namespace Go.Proofs.YtmhkmmmompediaaGreat
open Go.RowKit

theorem atF_bd (l : List Int) (i : Nat) (h : i ≤ 1000) : 0 ≤ atF l i ∧ atF l i ≤ 70000 := by
  unfold atF
  split
  · omega
  · have : i / l.length ≤ 1000 := Nat.le_trans (Nat.div_le_self _ _) h
    generalize i / l.length = q at *
    omega
theorem atX (l : List Int) (i : Nat) (h : i ≤ 1000) : ∃ a : Int, Hid (atF l i = a) ∧ 0 ≤ a ∧ a ≤ 70000 := ⟨_, rfl, atF_bd l i h⟩
theorem d_AtE (A : Option Addr) (c N : Nat) (l : List Int) (z : Int) (i : Nat) (a : Int) (w m : World) (hV : Vw m w) (h : Sl m A (l.map I64)) (hN : Hid (l.length = N)) (hl : Hid (True)) (e : Hid (atF l i = a)) (hz : z = i) (hi : i ≤ 1000) :
    Calls Tryz.prog 62 #[.slice A N c, .int .i64 z] w (RetV w m fun _ r => r = .int .i64 a) := by
  subst hz
  have := d_At A c l i w m hV h hi
  rwa [hN.out, e.out] at this

def rowsT : List (List Int) := [[0, 1, 2], [1, 2, 4], [0, 1, 2, 3], [0, 2, 3, 5], [0, 1, 2, 3, 4], [1, 2, 3, 4, 5]]
def rowsF (l : List Int) : List Int := rowsT.getD (atF l 1 % 6).toNat []
def colsG (rs l : List Int) (n : Nat) : List Col := (List.range n).map fun j => colF rs (atF l (5 + 2 * j)) (atF l (6 + 2 * j))
def cutG (rs : List Int) (sk : Nat) (j : Nat) : Option Int := if j ≠ sk ∨ rs.length = 3 then rs[j]? else none
def cutT (rs : List Int) (sk i : Nat) : List Int := (List.range i).filterMap (cutG rs sk)
def cutF (rs l : List Int) (k : Nat) : Cut := (cutT rs (atF l (20 + k) % rs.length).toNat rs.length, if atF l (24 + k) % 2 = 1 then 3 else 2)
def cutsG (rs l : List Int) (n : Nat) : List Cut := (List.range n).map (cutF rs l)
theorem range_snoc {α : Type} (f : Nat → α) (n : Nat) : (List.range (n + 1)).map f = (List.range n).map f ++ [f n] := by rw [List.range_succ, List.map_append]; rfl
theorem cutT_in {rs : List Int} {sk i : Nat} {f : Int} (h : rs[i]? = some f) (hc : i ≠ sk ∨ rs.length = 3) : cutT rs sk (i + 1) = cutT rs sk i ++ [f] := by
  unfold cutT
  rw [List.range_succ, List.filterMap_append]
  simp [cutG, hc, h]
theorem cutT_out {rs : List Int} {sk i : Nat} (hc : ¬ (i ≠ sk ∨ rs.length = 3)) : cutT rs sk (i + 1) = cutT rs sk i := by
  unfold cutT
  rw [List.range_succ, List.filterMap_append]
  simp [cutG, hc]
theorem cutT_len (rs : List Int) (sk i : Nat) : (cutT rs sk i).length ≤ i := by
  unfold cutT
  exact Nat.le_trans (List.length_filterMap_le _ _) (by simp)
theorem rowsT_len : ∀ i : Fin 6, 3 ≤ (rowsT.getD i.1 []).length ∧ (rowsT.getD i.1 []).length ≤ 5 := by decide
theorem cutT_long : ∀ i : Fin 6, ∀ s : Fin 5, s.1 < (rowsT.getD i.1 []).length → 2 < (cutT (rowsT.getD i.1 []) s.1 (rowsT.getD i.1 []).length).length := by decide

theorem IntL.ofBlk {m : World} {g : Nat} {e : TypeId} (xs : List Int) (h : Blk m g e (xs.map I64).toArray) : IntL m (.slice (some ⟨g, 0, none⟩) xs.length xs.length) xs := by
  refine ListV.mk (vs := xs.map I64) (Nat.le_refl _) (by simp) (fun u hu => ?_) ?_ ?_
  · obtain ⟨x, _, rfl⟩ := List.mem_map.1 hu; rfl
  · refine Blk.sl h (n := xs.length) ?_
    rw [List.take_of_length_le (by simp)]
    exact ih' xs
  · exact all2 xs
  where
  ih' : ∀ xs : List Int, xs.map I64 = cellsOf (xs.map I64)
    | [] => rfl
    | x :: xs => congrArg (I64 x :: ·) (ih' xs)
  all2 : ∀ xs : List Int, All2 (IsI m) (xs.map I64) xs
    | [] => trivial
    | x :: xs => ⟨rfl, all2 xs⟩
theorem cellsOf_ints : ∀ xs : List Int, cellsOf (xs.map I64) = xs.map I64
  | [] => rfl
  | x :: xs => congrArg (I64 x :: ·) (cellsOf_ints xs)
theorem all2_ints {m : World} : ∀ {vs : List Value} {xs : List Int}, All2 (IsI m) vs xs → vs = xs.map I64
  | [], [], _ => rfl
  | v :: vs, x :: xs, h => by rw [h.1, all2_ints h.2]; rfl
  | [], _ :: _, h => h.elim
  | _ :: _, [], h => h.elim
theorem IntL.sl {m : World} {A : Option Addr} {n c : Nat} {xs : List Int} (h : IntL m (.slice A n c) xs) : Sl m A (xs.map I64) := by
  obtain ⟨A', c', vs, e, hc, h1, h2, h3⟩ := h
  injection e with e1 e2 e3
  subst e1
  have := all2_ints h3
  subst this
  rwa [cellsOf_ints] at h2
theorem all2_of_ints (m : World) : ∀ xs : List Int, All2 (IsI m) (xs.map I64) xs
  | [] => trivial
  | x :: xs => ⟨rfl, all2_of_ints m xs⟩
theorem IntL.ofSl {m : World} {A : Option Addr} {n c : Nat} {xs : List Int} (h : Sl m A (xs.map I64)) (hn : xs.length = n) (hc : n ≤ c) : IntL m (.slice A n c) xs := by
  refine ListV.mk (vs := xs.map I64) hc (by simpa using hn) (fun u hu => ?_) ?_ (all2_of_ints m xs)
  · obtain ⟨x, _, rfl⟩ := List.mem_map.1 hu; rfl
  · rwa [cellsOf_ints]
abbrev IntLL := ListV (α := List Int) 1 IntL
theorem IntL.mono (m m' : World) (v : Value) (x : List Int) (h : IntL m v x) (hb : Le m m') : IntL m' v x := IntL.le h hb
theorem IntLL.at_ {m : World} {A : Option Addr} {n c : Nat} {xs : List (List Int)} (h : IntLL m (.slice A n c) xs) {k : Nat} {x : List Int} (hk : xs[k]? = some x) :
    ∃ b off B d, A = some ⟨b, off, none⟩ ∧ IntL m (.slice B x.length d) x ∧ m.cell? ⟨b, off + k, none⟩ = some (.slice B x.length d) := by
  obtain ⟨b, off, v, e, hv, _, hr⟩ := ListV.at_ h (by omega) hk
  obtain ⟨B, d, rfl, _, hv⟩ := hv.lit
  exact ⟨b, off, B, d, e, hv, by simpa using hr 0 _ rfl⟩
theorem rowsT_get (i : Nat) (h : i < 6) : rowsT[i]? = some (rowsT.getD i []) := by
  have : i < rowsT.length := h
  rw [List.getD_eq_getElem?_getD, List.getElem?_eq_getElem this]; rfl
theorem ColR.lit {m : World} {v : Value} {x : Col} (h : ColR m v x) : ∃ b A n c z, v = .agg #[.string b, .slice A n c, .int .i64 z] ∧ ColR m (.agg #[.string b, .slice A n c, .int .i64 z]) x := by
  have h' := h
  obtain ⟨s, rfl, hs⟩ := h
  obtain ⟨A, c, rfl, _, _⟩ := hs.lit
  exact ⟨_, _, _, _, _, rfl, h'⟩
theorem ints_one (rs : List Int) : (rs.map I64).all (·.oneCell') = true := by
  rw [List.all_map, List.all_eq_true]; intro x _; rfl
theorem d_ColumnE (A : Option Addr) (c q : Nat) (rs : List Int) (n k : Int) (w m : World) (hV : Vw m w) (hr : IntL m (.slice A q c) rs) (hq : Hid (rs.length = q)) (h1 : 1 ≤ q) (h2 : q ≤ 6) (n0 : 0 ≤ n) (n1 : n ≤ 100000) (k0 : 0 ≤ k) (k1 : k ≤ 100000) :
    Calls Tryz.prog 63 #[.slice A q c, .int .i64 n, .int .i64 k] w (RetV w m fun m' r => ColR m' r (colF rs n k)) := by
  obtain rfl := hq.out
  exact d_Column A c rs n k w m hV hr h1 h2 n0 n1 k0 k1
theorem colsG_snoc (rs l : List Int) (j : Nat) {a b : Int} (ha : Hid (atF l (5 + 2 * j) = a)) (hb : Hid (atF l (6 + 2 * j) = b)) : colsG rs l j ++ [colF rs a b] = colsG rs l (j + 1) := by
  unfold colsG
  rw [range_snoc, ha.out, hb.out]
theorem cutsG_snoc (rs l : List Int) (k sk q : Nat) {a b : Int} (hq : Hid (rs.length = q)) (ha : Hid (atF l (20 + k) = a)) (hb : Hid (atF l (24 + k) = b)) (hs : (sk : Int) = a % q) (d : Int) (hd : d = if b % 2 = 1 then 3 else 2) :
    cutsG rs l k ++ [(cutT rs sk q, d)] = cutsG rs l (k + 1) := by
  unfold cutsG
  rw [range_snoc]
  unfold cutF
  rw [ha.out, hb.out, hq.out, ← hs, hd]; rfl
structure Ms where
  nf : Int
  rows : List Int
  pen : Int
  cols : List Col
  cuts : List Cut
def MasterR (m : World) (v : Value) (x : Ms) : Prop := ∃ a b c, v = .agg #[.int .i64 x.nf, a, .int .i64 x.pen, b, c] ∧ IntL m a x.rows ∧ ColL m b x.cols ∧ CutL m c x.cuts
theorem MasterR.le {m m' : World} {v : Value} {x : Ms} (h : MasterR m v x) (hb : Le m m') : MasterR m' v x := by
  obtain ⟨a, b, c, e, h1, h2, h3⟩ := h
  exact ⟨a, b, c, e, IntL.le h1 hb, ColL.le h2 hb, CutL.le h3 hb⟩
def masF (l : List Int) : Ms := ⟨6, rowsF l, atF l 0 % 30, colsG (rowsF l) l (atF l 2 % 7).toNat, cutsG (rowsF l) l (atF l 3 % 3).toNat⟩
end Go.Proofs.YtmhkmmmompediaaGreat
