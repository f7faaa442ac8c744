/- Part 6 of 7 of the proof: the law LagrangeSteps returns true for every input, and its arguments read as before; there is no condition. -/
import Derived.Deep.RegionHeld3
import Derived.Deep.AppendLies
import Derived.Test.YtmhkmmmompediaaGreatH5
set_option linter.unusedVariables false
set_option linter.unusedSimpArgs false
/- Contract of integer.DivMod for numbers below 2^64 and a positive divisor, whole. -/
namespace Go.Proofs.YtmhkmmmompediaaGreat
open Go.RowKit

theorem dm_negM {x y : Int} (hy : 0 < y) (hx : x < 0) (hr : x.natAbs % y.natAbs ≠ 0) : sgn true (x.natAbs / y.natAbs + 1) = x / y ∧ sgn false (y.natAbs - x.natAbs % y.natAbs) = x % y := by
  obtain ⟨n, rfl⟩ : ∃ n : Nat, x = -(n : Int) := ⟨x.natAbs, by omega⟩
  obtain ⟨d, rfl⟩ : ∃ d : Nat, y = (d : Int) := ⟨y.natAbs, by omega⟩
  simp only [Int.natAbs_neg, Int.natAbs_natCast] at *
  have hd : 0 < d := by omega
  have h1 := Nat.mod_lt n hd
  have h2 := Nat.div_add_mod n d
  have key := (Int.ediv_emod_unique (a := -(n : Int)) (b := (d : Int)) (r := ((d - n % d : Nat) : Int)) (q := -((n / d + 1 : Nat) : Int)) hy).2 ⟨?_, by omega, by omega⟩
  · rw [key.1, key.2]; exact ⟨rfl, rfl⟩
  · have e : ((d - n % d : Nat) : Int) = (d : Int) - ((n % d : Nat) : Int) := by omega
    have e2 : (n : Int) = (d : Int) * ((n / d : Nat) : Int) + ((n % d : Nat) : Int) := by
      have := congrArg (Nat.cast (R := Int)) h2
      simpa using this.symm
    rw [e]
    generalize ((n % d : Nat) : Int) = r at *
    rw [Int.mul_neg, Int.natCast_add, Int.mul_add]
    simp only [Int.natCast_one, Int.mul_one]
    omega
theorem dig1 {m : World} {g : Nat} (h : Blk m g 102 #[.int .u32 1]) : DigV m (.slice (some ⟨g, 0, none⟩) 1 1) (digs 1) := by
  rw [digs_small (by decide) (by decide)]
  exact ⟨_, _, rfl, Nat.le_refl _, h.sl (n := 1) rfl⟩

set_option maxRecDepth 100000 in
set_option maxHeartbeats 8000000 in
theorem i_DivModN (a b : Value) (x y : Int) (w m : World) (hV : Vw m w) (ha : IntV m a x) (hb : IntV m b y) (hx : x.natAbs < 18446744073709551616) (hy : y.natAbs < 18446744073709551616) (hy0 : 0 < y) (hn : x < 0) (hr : x.natAbs % y.natAbs ≠ 0) :
    Calls Tryz.prog 146 #[a, b] w (RetV w m fun m' v => DMr m' v x y) := by
  obtain ⟨g1, A1, l1, c1, rfl⟩ := ha.lit
  obtain ⟨g2, A2, l2, c2, rfl⟩ := hb.lit
  obtain ⟨d1, hg1⟩ := ha.digA
  obtain ⟨d2, hg2⟩ := hb.digA
  obtain rfl : g2 = false := by rw [hg2 (by omega)]; simp; omega
  obtain rfl : g1 = true := by rw [hg1 (by omega)]; simp; omega
  have HF := Lib.hid (dm_negM hy0 hn hr)
  have HX := Lib.hid hx
  have HY := Lib.hid hy
  have hyn : y.natAbs ≠ 0 := by omega
  have HYN := Lib.hid hyn
  have hq : x.natAbs / y.natAbs ≤ x.natAbs := Nat.div_le_self _ _
  have LQ : Hid (∀ k, k = x.natAbs / y.natAbs → (digs k).length ≤ 1000) := fun k e => by rw [e]; exact Nat.le_trans (length_digs_mono (Nat.div_le_self _ _)) ha.length
  have LY : Hid (∀ k, k = y.natAbs → (digs k).length ≤ 1000) := fun k e => by rw [e]; exact hb.length
  have L1 : Hid ((digs (x.natAbs / y.natAbs + 1)).length ≤ 1000) := Nat.le_trans (length_digs_le (k := 3) (by rw [show (4294967296 : Nat) ^ 3 = 79228162514264337593543950336 from rfl]; omega)) (by decide)
  have L2 : Hid ((digs (y.natAbs - x.natAbs % y.natAbs)).length ≤ 1000) := Nat.le_trans (length_digs_mono (Nat.sub_le _ _)) hb.length
  have LO : Hid ((digs 1).length ≤ 1000) := by show _ ≤ _; rw [digs_small (by decide) (by decide)]; decide
  have LE1 : Hid (x.natAbs % y.natAbs ≤ y.natAbs) := Nat.le_of_lt (Nat.mod_lt _ (by omega))
  have HP := Lib.hid (digs_len_pos hr)
  have t1 : (((digs y.natAbs).length : Int) == 0) = false := by
    have := mt digs_nil.1 hyn
    simp [List.length_eq_zero_iff, this]
  clear hx hy hg1 hg2 hr hn hy0 hq hyn
  have hL := Loc.start hV
  clear hV
  go_enter Tryz.func146, Tryz.ntmps146
  go_upto_region 1 with ((first | ((with_reducible refine kAny ?_); go_skip) | (with_reducible refine stA ?_) | ((first | refine tFd ?_ | refine tLd ?_ | (refine tSr ?_; clear hL; intro _ hL; simp only [zq2, zq3] at hL) | (refine tSt ?_; clear hL; intro _ hL; simp only [splice, zq1, zq2, zq3] at hL) | (refine tBx ?_; clear hL; intro _ _ hL _) | (refine tAl ?_; clear hL; intro _ _ hL _) | (refine tBs ?_; clear hL; intro _ _ hL _ hBs)); simp only [Act.put, zq1, zq2, zq3])))
  refine wp_region_by2 6 [false, false, false, false, false, false] [false, false, false, false, false, false] [(fun v _ _ => v = ?c1_0), (fun v _ _ => v = ?c1_1), Of (fun um v => DigV um v (digs x.natAbs)), (fun v _ _ => v = ?c1_3), (fun v _ _ => v = ?c1_4), Of (fun um v => DigV um v (digs y.natAbs))] hL.vw mixed [11, 12, 13, 14, 15, 16] _ (by kernel_rfl) (fun vs => by simp only [lay, Act.put, zq1, zq2, zq3]; rfl) (by kernel_rfl) (by decide) (by decide) ?s1 ?l1 ?r1
  case s1 =>
    refine ⟨?_, ?_, ?_, ?_, ?_, ?_, trivial⟩
    · intro vs W1 m1 hE hM hV hD
      clear hD
      replace hL := hL.call hE hM hV
      exact sFd
    · intro vs W1 m1 hE hM hV hD
      obtain ⟨⟨_, _, -, -, f11⟩, -⟩ := hD
      have f11 : vs 11 = _ := f11
      generalize vs 11 = x11 at f11 ⊢
      subst x11
      replace hL := hL.call hE hM hV
      exact sLd
    · intro vs W1 m1 hE hM hV hD
      obtain ⟨⟨_, _, -, -, f12⟩, -⟩ := hD
      have f12 : vs 12 = _ := f12
      generalize vs 12 = x12 at f12 ⊢
      subst x12
      go_wp2_with fail
      refine (i_trim _ x.natAbs _ _ hV (d1.le leX)).mono ?_
      rintro e W2 ⟨v, m2, rfl, hE2, hM2, hV2, h⟩
      go_wp2_with fail
      refine One2.call hE2 hM2 hV2 ?_; first | exact h | exact rfl
    · intro vs W1 m1 hE hM hV hD
      clear hD
      replace hL := hL.call hE hM hV
      exact sFd
    · intro vs W1 m1 hE hM hV hD
      obtain ⟨⟨_, _, -, -, f14⟩, -⟩ := hD
      have f14 : vs 14 = _ := f14
      generalize vs 14 = x14 at f14 ⊢
      subst x14
      replace hL := hL.call hE hM hV
      exact sLd
    · intro vs W1 m1 hE hM hV hD
      obtain ⟨⟨_, _, -, -, f15⟩, -, -⟩ := hD
      have f15 : vs 15 = _ := f15
      generalize vs 15 = x15 at f15 ⊢
      subst x15
      go_wp2_with fail
      refine (i_trim _ y.natAbs _ _ hV (d2.le leX)).mono ?_
      rintro e W2 ⟨v, m2, rfl, hE2, hM2, hV2, h⟩
      go_wp2_with fail
      refine One2.call hE2 hM2 hV2 ?_; first | exact h | exact rfl
  case l1 =>
    refine ⟨fun h => (by cases h), fun h => (by cases h), fun h => (by cases h), fun h => (by cases h), fun h => (by cases h), fun h => (by cases h), trivial⟩
  intro vs W1 m1 hE hM hV hF hD
  clear hD
  obtain ⟨-, -, ⟨_, _, -, i13, f13⟩, -, -, ⟨_, _, -, i16, f16⟩, -⟩ := hF
  replace hL := hL.call hE hM hV
  replace f13 : DigV _ (vs 13) (digs x.natAbs) := f13
  replace f13 := f13.le i13.le
  clear i13
  replace f16 : DigV _ (vs 16) (digs y.natAbs) := f16
  replace f16 := f16.le i16.le
  clear i16
  clear hE hV
  obtain ⟨A13, c13, e13, f13⟩ := f13.lit
  generalize vs 13 = x13 at e13 ⊢
  subst x13
  obtain ⟨A16, c16, e16, f16⟩ := f16.lit
  generalize vs 16 = x16 at e16 ⊢
  subst x16
  simp only [List.drop_succ_cons, List.drop_zero]
  go_wp2_with (first | ((with_reducible refine kAny ?_); go_skip) | (with_reducible refine stA ?_) | ((first | refine tFd ?_ | refine tLd ?_ | (refine tSr ?_; clear hL; intro _ hL; simp only [zq2, zq3] at hL) | (refine tSt ?_; clear hL; intro _ hL; simp only [splice, zq1, zq2, zq3] at hL) | (refine tBx ?_; clear hL; intro _ _ hL _) | (refine tAl ?_; clear hL; intro _ _ hL _) | (refine tBs ?_; clear hL; intro _ _ hL _ hBs)); simp only [Act.put, zq1, zq2, zq3]))
  refine QN.mk ?_
  go_wp2_with (first | ((with_reducible refine kAny ?_); go_skip) | (with_reducible refine stA ?_) | ((first | refine tFd ?_ | refine tLd ?_ | (refine tSr ?_; clear hL; intro _ hL; simp only [zq2, zq3] at hL) | (refine tSt ?_; clear hL; intro _ hL; simp only [splice, zq1, zq2, zq3] at hL) | (refine tBx ?_; clear hL; intro _ _ hL _) | (refine tAl ?_; clear hL; intro _ _ hL _) | (refine tBs ?_; clear hL; intro _ _ hL _ hBs)); simp only [Act.put, zq1, zq2, zq3]))
  refine (i_divMag _ _ x.natAbs y.natAbs _ _ hL.vw (f13.le leX) (f16.le leX) HX.out HY.out HYN.out).mono ?_
  rintro e W2 ⟨_, m2, rfl, hE, hM2, hV, qv, rv, rfl, h1, h2⟩
  replace hL := hL.call hE (by assumption) hV; clear hE hV
  obtain ⟨A4, c4, rfl, h1⟩ := h1.lit
  obtain ⟨A5, c5, rfl, h2⟩ := h2.lit
  have H1 := Lib.hid h1
  have H2 := Lib.hid h2
  have H3 := Lib.hid f16
  have hp := HP.out
  clear h1 h2 t1 f13 f16 HP
  generalize hnr : (digs (x.natAbs % y.natAbs)).length = nr at *
  generalize hnq : (digs (x.natAbs / y.natAbs)).length = nq at *
  generalize hny : (digs y.natAbs).length = ny at *
  clear hnr hnq hny
  have t2 : decide (0 < nr) = true := by simp; omega
  go_wp2_with (first | ((with_reducible refine kAny ?_); go_skip) | (with_reducible refine stA ?_) | ((first | refine tFd ?_ | refine tLd ?_ | (refine tSr ?_; clear hL; intro _ hL; simp only [zq2, zq3] at hL) | (refine tSt ?_; clear hL; intro _ hL; simp only [splice, zq1, zq2, zq3] at hL) | (refine tBx ?_; clear hL; intro _ _ hL _) | (refine tAl ?_; clear hL; intro _ _ hL _) | (refine tBs ?_; clear hL; intro _ _ hL _ hBs)); simp only [Act.put, zq1, zq2, zq3]))
  refine (i_addMag _ _ (x.natAbs / y.natAbs) 1 _ _ hL.vw (H1.out.le leX) (dig1 hBs) (LQ.out _ rfl) LO.out).mono ?_
  rintro e W31 ⟨v31, m31, rfl, hE, hM31, hV, h31⟩
  replace hL := hL.call hE (by assumption) hV; clear hE hV
  obtain ⟨A6, c6, rfl, h31⟩ := h31.lit
  clear hBs
  go_wp2_with (first | ((with_reducible refine kAny ?_); go_skip) | (with_reducible refine stA ?_) | ((first | refine tFd ?_ | refine tLd ?_ | (refine tSr ?_; clear hL; intro _ hL; simp only [zq2, zq3] at hL) | (refine tSt ?_; clear hL; intro _ hL; simp only [splice, zq1, zq2, zq3] at hL) | (refine tBx ?_; clear hL; intro _ _ hL _) | (refine tAl ?_; clear hL; intro _ _ hL _) | (refine tBs ?_; clear hL; intro _ _ hL _ hBs)); simp only [Act.put, zq1, zq2, zq3]))
  refine (i_subMag _ _ y.natAbs (x.natAbs % y.natAbs) _ _ hL.vw (H3.out.le leX) (H2.out.le leX) (LY.out _ rfl) LE1.out).mono ?_
  rintro e W32 ⟨v32, m32, rfl, hE, hM32, hV, h32⟩
  replace hL := hL.call hE (by assumption) hV; clear hE hV
  obtain ⟨A7, c7, rfl, h32⟩ := h32.lit
  go_upto_region 8 with ((first | ((with_reducible refine kAny ?_); go_skip) | (with_reducible refine stA ?_) | ((first | refine tFd ?_ | refine tLd ?_ | (refine tSr ?_; clear hL; intro _ hL; simp only [zq2, zq3] at hL) | (refine tSt ?_; clear hL; intro _ hL; simp only [splice, zq1, zq2, zq3] at hL) | (refine tBx ?_; clear hL; intro _ _ hL _) | (refine tAl ?_; clear hL; intro _ _ hL _) | (refine tBs ?_; clear hL; intro _ _ hL _ hBs)); simp only [Act.put, zq1, zq2, zq3])))
  refine wp_region_by2 11 [false, false, false, false, false, false, false, false, false, false, false] [false, false, false, false, false, false, false, false, false, false, false] [(fun v _ _ => v = ?c8_0), (fun v _ _ => v = ?c8_1), (fun v _ _ => v = ?c8_2), (fun v _ _ => v = ?c8_3), (fun v _ _ => v = ?c8_4), (fun v _ _ => v = ?c8_5), Of (fun um v => IntC um v (sgn true (x.natAbs / y.natAbs + 1))), (fun v _ _ => v = ?c8_7), (fun v _ _ => v = ?c8_8), (fun v _ _ => v = ?c8_9), Of (fun um v => IntC um v (sgn false (y.natAbs - x.natAbs % y.natAbs)))] hL.vw mixed [44, 45, 46, 47, 48, 49, 50, 51, 52, 53, 54] _ (by kernel_rfl) (fun vs => by simp only [lay, Act.put, zq1, zq2, zq3]; rfl) (by kernel_rfl) (by decide) (by decide) ?s8 ?l8 ?r8
  case s8 =>
    refine ⟨?_, ?_, ?_, ?_, ?_, ?_, ?_, ?_, ?_, ?_, ?_, trivial⟩
    · intro vs W1 m1 hE hM hV hD
      clear hD
      replace hL := hL.call hE hM hV
      exact sFd
    · intro vs W1 m1 hE hM hV hD
      obtain ⟨⟨_, _, -, -, f44⟩, -⟩ := hD
      have f44 : vs 44 = _ := f44
      generalize vs 44 = x44 at f44 ⊢
      subst x44
      replace hL := hL.call hE hM hV
      exact sLd
    · intro vs W1 m1 hE hM hV hD
      clear hD
      replace hL := hL.call hE hM hV
      exact sFd
    · intro vs W1 m1 hE hM hV hD
      obtain ⟨⟨_, _, -, -, f46⟩, -⟩ := hD
      have f46 : vs 46 = _ := f46
      generalize vs 46 = x46 at f46 ⊢
      subst x46
      replace hL := hL.call hE hM hV
      exact sLd
    · intro vs W1 m1 hE hM hV hD
      obtain ⟨⟨_, _, -, -, f45⟩, ⟨_, _, -, -, f47⟩, -⟩ := hD
      have f45 : vs 45 = _ := f45
      generalize vs 45 = x45 at f45 ⊢
      subst x45
      have f47 : vs 47 = _ := f47
      generalize vs 47 = x47 at f47 ⊢
      subst x47
      replace hL := hL.call hE hM hV
      exact sPu
    · intro vs W1 m1 hE hM hV hD
      clear hD
      replace hL := hL.call hE hM hV
      exact sPu
    · intro vs W1 m1 hE hM hV hD
      obtain ⟨⟨_, _, -, -, f48⟩, ⟨_, _, -, -, f49⟩, -⟩ := hD
      have f48 : vs 48 = _ := f48
      generalize vs 48 = x48 at f48 ⊢
      subst x48
      have f49 : vs 49 = _ := f49
      generalize vs 49 = x49 at f49 ⊢
      subst x49
      go_wp2_with fail
      refine (i_wrap _ _ _ _ _ hV ((h31.toA L1.out).le leX)).mono ?_
      rintro e W2 ⟨v, m2, rfl, hE2, hM2, hV2, h⟩
      go_wp2_with fail
      refine One2.call hE2 hM2 hV2 ?_; first | exact h | exact rfl
    · intro vs W1 m1 hE hM hV hD
      clear hD
      replace hL := hL.call hE hM hV
      exact sFd
    · intro vs W1 m1 hE hM hV hD
      obtain ⟨⟨_, _, -, -, f51⟩, -⟩ := hD
      have f51 : vs 51 = _ := f51
      generalize vs 51 = x51 at f51 ⊢
      subst x51
      replace hL := hL.call hE hM hV
      exact sLd
    · intro vs W1 m1 hE hM hV hD
      clear hD
      replace hL := hL.call hE hM hV
      exact sPu
    · intro vs W1 m1 hE hM hV hD
      obtain ⟨⟨_, _, -, -, f52⟩, ⟨_, _, -, -, f53⟩, -, -⟩ := hD
      have f52 : vs 52 = _ := f52
      generalize vs 52 = x52 at f52 ⊢
      subst x52
      have f53 : vs 53 = _ := f53
      generalize vs 53 = x53 at f53 ⊢
      subst x53
      go_wp2_with fail
      refine (i_wrap _ _ _ _ _ hV ((h32.toA L2.out).le leX)).mono ?_
      rintro e W2 ⟨v, m2, rfl, hE2, hM2, hV2, h⟩
      go_wp2_with fail
      refine One2.call hE2 hM2 hV2 ?_; first | exact h | exact rfl
  case l8 =>
    refine ⟨fun h => (by cases h), fun h => (by cases h), fun h => (by cases h), fun h => (by cases h), fun h => (by cases h), fun h => (by cases h), fun h => (by cases h), fun h => (by cases h), fun h => (by cases h), fun h => (by cases h), fun h => (by cases h), trivial⟩
  intro vs W1 m1 hE hM hV hF hD
  clear hD
  obtain ⟨-, -, -, -, -, -, ⟨_, _, -, i50, f50⟩, -, -, -, ⟨_, _, -, i54, f54⟩, -⟩ := hF
  replace hL := hL.call hE hM hV
  replace f50 : IntC _ (vs 50) (sgn true (x.natAbs / y.natAbs + 1)) := f50
  replace f50 := f50.le i50.le
  clear i50
  obtain ⟨g50, A50, n50, c50, e50, f50⟩ := f50.lit
  generalize vs 50 = x50 at e50 ⊢
  subst x50
  replace f54 : IntC _ (vs 54) (sgn false (y.natAbs - x.natAbs % y.natAbs)) := f54
  replace f54 := f54.le i54.le
  clear i54
  obtain ⟨g54, A54, n54, c54, e54, f54⟩ := f54.lit
  generalize vs 54 = x54 at e54 ⊢
  subst x54
  clear hE hV
  simp only [List.drop_succ_cons, List.drop_zero]
  go_wp2_with (first | ((with_reducible refine kAny ?_); go_skip) | (with_reducible refine stA ?_) | ((first | refine tFd ?_ | refine tLd ?_ | (refine tSr ?_; clear hL; intro _ hL; simp only [zq2, zq3] at hL) | (refine tSt ?_; clear hL; intro _ hL; simp only [splice, zq1, zq2, zq3] at hL) | (refine tBx ?_; clear hL; intro _ _ hL _) | (refine tAl ?_; clear hL; intro _ _ hL _) | (refine tBs ?_; clear hL; intro _ _ hL _ hBs)); simp only [Act.put, zq1, zq2, zq3]))
  refine QN.mk ?_
  go_wp2_with (first | ((with_reducible refine kAny ?_); go_skip) | (with_reducible refine stA ?_) | ((first | refine tFd ?_ | refine tLd ?_ | (refine tSr ?_; clear hL; intro _ hL; simp only [zq2, zq3] at hL) | (refine tSt ?_; clear hL; intro _ hL; simp only [splice, zq1, zq2, zq3] at hL) | (refine tBx ?_; clear hL; intro _ _ hL _) | (refine tAl ?_; clear hL; intro _ _ hL _) | (refine tBs ?_; clear hL; intro _ _ hL _ hBs)); simp only [Act.put, zq1, zq2, zq3]))
  obtain ⟨p1, p2, _⟩ := (hL.at_ lo0).facts2
  obtain ⟨p3, p4, _⟩ := (hL.at_ lo1).facts2
  refine bodyPost_ret (v := .tuple #[.agg #[.bool g50, .slice A50 n50 c50], .agg #[.bool g54, .slice A54 n54 c54], .int .i64 0]) (by simp [results, Tryz.results146, go_sem, p1, p2, p3, p4]) rfl (RetV.mk hL ⟨_, _, rfl, ?_, ?_⟩)
  · rw [← HF.out.1]; exact f50
  · rw [← HF.out.2]; exact f54
theorem i_DivModA (a b : Value) (x y : Int) (w m : World) (hV : Vw m w) (ha : IntV m a x) (hb : IntV m b y) (hx : x.natAbs < 18446744073709551616) (hy : y.natAbs < 18446744073709551616) (hy0 : 0 < y) :
    Calls Tryz.prog 146 #[a, b] w (RetV w m fun m' v => DMr m' v x y) := by
  by_cases hr : x.natAbs % y.natAbs = 0
  · refine i_DivModR a b x y w m hV ha hb hx hy hy0 (.inr ?_)
    have h1 : (y.natAbs : Int) ∣ (x.natAbs : Int) := Int.natCast_dvd_natCast.2 (Nat.dvd_of_mod_eq_zero hr)
    exact Int.emod_eq_zero_of_dvd (Int.natAbs_dvd_natAbs.1 (Int.natCast_dvd_natCast.1 h1))
  · by_cases hn : x < 0
    · exact i_DivModN a b x y w m hV ha hb hx hy hy0 hn hr
    · exact i_DivModR a b x y w m hV ha hb hx hy hy0 (.inl (by omega))
end Go.Proofs.YtmhkmmmompediaaGreat

/- Contracts of integer.ToInt64 and pairingref1.ToInt64 for numbers below 2^64, whole. -/
namespace Go.Proofs.YtmhkmmmompediaaGreat
open Go.RowKit

/-- What ToInt64 hands back. -/
def toZ (z : Int) : Value := if -9223372036854775808 ≤ z ∧ z < 9223372036854775808 then .tuple #[.int .i64 z, .int .i64 0] else .tuple #[.int .i64 0, .int .i64 5]
theorem toZ_in {z : Int} (h1 : -9223372036854775808 ≤ z) (h2 : z < 9223372036854775808) : toZ z = .tuple #[.int .i64 z, .int .i64 0] := if_pos ⟨h1, h2⟩
theorem toZ_out {z : Int} (h : z < -9223372036854775808 ∨ 9223372036854775808 ≤ z) : toZ z = .tuple #[.int .i64 0, .int .i64 5] := if_neg (by omega)
/-- The three ways of ToInt64. -/
theorem toZ_ways {z : Int} {g : Bool} (hg : z ≠ 0 → g = decide (z < 0)) :
    (g = true ∧ (z.natAbs : Int) ≤ 9223372036854775808 ∧ toZ z = .tuple #[.int .i64 (wrap64 (IntKind.u64.wrap (-(z.natAbs : Int)))), .int .i64 0]) ∨
    (g = true ∧ ¬ (z.natAbs : Int) ≤ 9223372036854775808 ∧ toZ z = .tuple #[.int .i64 0, .int .i64 5]) ∨
    (g = false ∧ (z.natAbs : Int) < 9223372036854775808 ∧ toZ z = .tuple #[.int .i64 (z.natAbs : Int), .int .i64 0] ∧ wrap64 (z.natAbs : Int) = z.natAbs) ∨
    (g = false ∧ ¬ (z.natAbs : Int) < 9223372036854775808 ∧ toZ z = .tuple #[.int .i64 0, .int .i64 5]) := by
  cases g
  · have hz : 0 ≤ z := by
      by_cases h : z = 0
      · omega
      · have := hg h; simp at this; omega
    by_cases h : (z.natAbs : Int) < 9223372036854775808
    · exact .inr (.inr (.inl ⟨rfl, h, by rw [toZ_in (by omega) (by omega)]; congr; omega, pos_conv2 _ (by omega)⟩))
    · exact .inr (.inr (.inr ⟨rfl, h, toZ_out (by omega)⟩))
  · have hz : z ≤ 0 := by
      by_cases h : z = 0
      · omega
      · have := hg h; simp at this; omega
    by_cases h : (z.natAbs : Int) ≤ 9223372036854775808
    · exact .inl ⟨rfl, h, by rw [toZ_in (by omega) (by omega), neg_conv2 _ (by omega)]; congr; omega⟩
    · exact .inr (.inl ⟨rfl, h, toZ_out (by omega)⟩)

set_option maxRecDepth 100000 in
set_option maxHeartbeats 8000000 in
theorem i_ToInt64A (v : Value) (z : Int) (w m : World) (hV : Vw m w) (h : IntV m v z) (hz : z.natAbs < 18446744073709551616) :
    Calls Tryz.prog 87 #[v] w (RetV w m fun _ r => r = toZ z) := by
  obtain ⟨g, A, l, c, rfl⟩ := h.lit
  obtain ⟨hd, hg⟩ := h.digA
  have l2 : (digs z.natAbs).length ≤ 2 := len2 (by omega)
  have HZ := Lib.hid hz
  have KW := Lib.hid (toZ_ways hg)
  have hL := Loc.start hV
  clear hV hz hg
  go_enter Tryz.func87, Tryz.ntmps87
  go_wp2_with (first | ((with_reducible refine kAny ?_); go_skip) | (with_reducible refine stA ?_) | ((first | refine tFd ?_ | refine tLd ?_ | (refine tBx ?_; clear hL; intro _ _ hL _)); simp only [Act.put, zq1, zq2, zq3]))
  refine (i_trim _ z.natAbs _ _ hL.vw (hd.le leX)).mono ?_
  rintro e W11 ⟨v11, m11, rfl, hE, hM11, hV, h11⟩
  replace hL := hL.call hE (by assumption) hV; clear hE hV
  obtain ⟨A1, c1, rfl, h11⟩ := h11.lit
  have H11 := Lib.hid h11
  clear h11
  generalize hnl : (digs z.natAbs).length = nl at *
  have t1 : decide (2 < nl) = false := by simp; omega
  have t2 : ¬ 2 < nl := by omega
  clear hnl
  go_wp2_with (first | ((with_reducible refine kAny ?_); go_skip) | (with_reducible refine stA ?_) | ((first | refine tFd ?_ | refine tLd ?_ | (refine tBx ?_; clear hL; intro _ _ hL _)); simp only [Act.put, zq1, zq2, zq3]))
  have h11 := H11.out
  refine (i_toWord _ z.natAbs _ _ hL.vw (h11.le leX) HZ.out).mono ?_
  rintro e W12 ⟨_, m12, rfl, hE, hM12, hV, rfl⟩
  replace hL := hL.call hE (by assumption) hV; clear hE hV
  clear h11 H11 HZ
  have hw := KW.out
  clear KW hd h
  generalize ((z.natAbs : Nat) : Int) = N at *
  rcases hw with ⟨rfl, b, e⟩ | ⟨rfl, b, e⟩ | ⟨rfl, b, e, hp⟩ | ⟨rfl, b, e⟩
  · have E := Lib.hid e.symm
    clear e
    go_wp2_with (first | ((with_reducible refine kAny ?_); go_skip) | (with_reducible refine stA ?_) | ((first | refine tFd ?_ | refine tLd ?_ | (refine tBx ?_; clear hL; intro _ _ hL _)); simp only [Act.put, zq1, zq2, zq3]))
    go_ret2
    exact RetV.mk hL E.out
  · have E := Lib.hid e.symm
    clear e
    go_wp2_with (first | ((with_reducible refine kAny ?_); go_skip) | (with_reducible refine stA ?_) | ((first | refine tFd ?_ | refine tLd ?_ | (refine tBx ?_; clear hL; intro _ _ hL _)); simp only [Act.put, zq1, zq2, zq3]))
    go_ret2
    exact RetV.mk hL E.out
  · have E := Lib.hid e.symm
    have HP := Lib.hid hp
    clear e hp
    go_wp2_with (first | ((with_reducible refine kAny ?_); go_skip) | (with_reducible refine stA ?_) | ((first | refine tFd ?_ | refine tLd ?_ | (refine tBx ?_; clear hL; intro _ _ hL _)); simp only [Act.put, zq1, zq2, zq3]))
    go_ret2
    first
      | exact RetV.mk hL E.out
      | exact RetV.mk hL ((congrArg (fun t => Value.tuple #[.int .i64 t, .int .i64 0]) HP.out).trans E.out)
  · have E := Lib.hid e.symm
    clear e
    go_wp2_with (first | ((with_reducible refine kAny ?_); go_skip) | (with_reducible refine stA ?_) | ((first | refine tFd ?_ | refine tLd ?_ | (refine tBx ?_; clear hL; intro _ _ hL _)); simp only [Act.put, zq1, zq2, zq3]))
    go_ret2
    exact RetV.mk hL E.out

set_option maxRecDepth 100000 in
set_option maxHeartbeats 8000000 in
theorem c_ToInt64A (v : Value) (z : Int) (w m : World) (hV : Vw m w) (h : IntV m v z) (hz : z.natAbs < 18446744073709551616) :
    Calls Tryz.prog 90 #[v] w (RetV w m fun _ r => r = toZ z) := by
  obtain ⟨g, A, l, c, rfl⟩ := h.lit
  have l2 : (digs z.natAbs).length ≤ 2 := len2 (by omega)
  have HZ := Lib.hid hz
  have hL := Loc.start hV
  clear hV hz
  go_enter Tryz.func90, Tryz.ntmps90
  go_wp2_with (first | ((with_reducible refine kAny ?_); go_skip) | (with_reducible refine stA ?_) | ((first | refine tFd ?_ | refine tLd ?_ | (refine tSr ?_; clear hL; intro _ hL; simp only [zq2, zq3] at hL) | (refine tSt ?_; clear hL; intro _ hL; simp only [splice, zq1, zq2, zq3] at hL) | (refine tBx ?_; clear hL; intro _ _ hL _)); simp only [Act.put, zq1, zq2, zq3]))
  refine (c_Canon _ z _ _ hL.vw (h.le leX)).mono ?_
  rintro e W11 ⟨v11, m11, rfl, hE, hM11, hV, h11⟩
  replace hL := hL.call hE (by assumption) hV; clear hE hV
  obtain ⟨g11', A11', n11', c11', rfl, h11⟩ := h11.lit
  obtain ⟨hg, hn, hd⟩ := h11.dig
  have KW := Lib.hid (toZ_ways (z := z) (g := g11') fun _ => hg)
  have HD := Lib.hid hd
  have t1 : decide (2 < n11') = false := by simp; omega
  have t2 : ¬ 2 < n11' := by omega
  clear hg hn hd l2
  go_upto_region 4 with ((first | ((with_reducible refine kAny ?_); go_skip) | (with_reducible refine stA ?_) | ((first | refine tFd ?_ | refine tLd ?_ | (refine tSr ?_; clear hL; intro _ hL; simp only [zq2, zq3] at hL) | (refine tSt ?_; clear hL; intro _ hL; simp only [splice, zq1, zq2, zq3] at hL) | (refine tBx ?_; clear hL; intro _ _ hL _)); simp only [Act.put, zq1, zq2, zq3])))
  have hd := HD.out
  refine wp_region_by2 8 [false, false, false, false, false, false, false, false] [false, false, false, false, false, false, false, false] [(fun v _ _ => v = ?c4_0), (fun v _ _ => v = ?c4_1), Is (.int .u64 (((digs z.natAbs)[0]?.getD 0 : Nat) : Int)), (fun v _ _ => v = ?c4_3), (fun v _ _ => v = ?c4_4), Is (.int .u64 (((digs z.natAbs)[1]?.getD 0 : Nat) : Int)), (fun v _ _ => v = ?c4_6), (fun v _ _ => v = ?c4_7)] hL.vw mixed [11, 12, 13, 14, 15, 16, 17, 18] _ (by kernel_rfl) (fun vs => by simp only [lay, Act.put, zq1, zq2, zq3]; rfl) (by kernel_rfl) (by decide) (by decide) ?s4 ?l4 ?r4
  case s4 =>
    refine ⟨?_, ?_, ?_, ?_, ?_, ?_, ?_, ?_, trivial⟩
    · intro vs W1 m1 hE hM hV hD
      clear hD
      replace hL := hL.call hE hM hV
      exact sFd
    · intro vs W1 m1 hE hM hV hD
      obtain ⟨⟨_, _, -, -, f11⟩, -⟩ := hD
      have f11 : vs 11 = _ := f11
      generalize vs 11 = x11 at f11 ⊢
      subst x11
      replace hL := hL.call hE hM hV
      exact sLd
    · intro vs W1 m1 hE hM hV hD
      obtain ⟨⟨_, _, -, -, f12⟩, -⟩ := hD
      have f12 : vs 12 = _ := f12
      generalize vs 12 = x12 at f12 ⊢
      subst x12
      go_wp2_with fail
      refine (c_digit _ z.natAbs 0 _ _ hV (hd.le leX) (by omega) (Nat.le_trans (len2 HZ.out) (by omega))).mono ?_
      rintro e W2 ⟨v, m2, rfl, hE2, hM2, hV2, h⟩
      go_wp2_with fail
      refine One2.call hE2 hM2 hV2 ?_; first | exact h | exact rfl
    · intro vs W1 m1 hE hM hV hD
      clear hD
      replace hL := hL.call hE hM hV
      exact sFd
    · intro vs W1 m1 hE hM hV hD
      obtain ⟨⟨_, _, -, -, f14⟩, -⟩ := hD
      have f14 : vs 14 = _ := f14
      generalize vs 14 = x14 at f14 ⊢
      subst x14
      replace hL := hL.call hE hM hV
      exact sLd
    · intro vs W1 m1 hE hM hV hD
      obtain ⟨⟨_, _, -, -, f15⟩, -, -⟩ := hD
      have f15 : vs 15 = _ := f15
      generalize vs 15 = x15 at f15 ⊢
      subst x15
      go_wp2_with fail
      refine (c_digit _ z.natAbs 1 _ _ hV (hd.le leX) (by omega) (Nat.le_trans (len2 HZ.out) (by omega))).mono ?_
      rintro e W2 ⟨v, m2, rfl, hE2, hM2, hV2, h⟩
      go_wp2_with fail
      refine One2.call hE2 hM2 hV2 ?_; first | exact h | exact rfl
    · intro vs W1 m1 hE hM hV hD
      obtain ⟨⟨_, _, -, -, f16⟩, -⟩ := hD
      have f16 : vs 16 = _ := f16
      generalize vs 16 = x16 at f16 ⊢
      subst x16
      replace hL := hL.call hE hM hV
      exact sPu
    · intro vs W1 m1 hE hM hV hD
      obtain ⟨⟨_, _, -, -, f13⟩, ⟨_, _, -, -, f17⟩, -⟩ := hD
      have f13 : vs 13 = _ := f13
      generalize vs 13 = x13 at f13 ⊢
      subst x13
      have f17 : vs 17 = _ := f17
      generalize vs 17 = x17 at f17 ⊢
      subst x17
      replace hL := hL.call hE hM hV
      exact sPu
  case l4 =>
    refine ⟨fun h => (by cases h), fun h => (by cases h), fun h => (by cases h), fun h => (by cases h), fun h => (by cases h), fun h => (by cases h), fun h => (by cases h), fun h => (by cases h), trivial⟩
  intro vs W1 m1 hE hM hV hF hD
  clear hD
  obtain ⟨-, -, -, -, -, -, -, ⟨_, _, -, -, f18⟩, -⟩ := hF
  replace hL := hL.call hE hM hV
  have f18 : vs 18 = _ := f18
  generalize vs 18 = x18 at f18 ⊢
  subst x18
  clear hE hV
  simp only [List.drop_succ_cons, List.drop_zero]
  go_wp2_with (first | ((with_reducible refine kAny ?_); go_skip) | (with_reducible refine stA ?_) | ((first | refine tFd ?_ | refine tLd ?_ | (refine tSr ?_; clear hL; intro _ hL; simp only [zq2, zq3] at hL) | (refine tSt ?_; clear hL; intro _ hL; simp only [splice, zq1, zq2, zq3] at hL) | (refine tBx ?_; clear hL; intro _ _ hL _)); simp only [Act.put, zq1, zq2, zq3]))
  refine QN.mk ?_
  have hz := HZ.out
  have ev : bits .or .u64 (((digs z.natAbs)[0]?.getD 0 : Nat) : Int) (IntKind.u64.wrap ((((digs z.natAbs)[1]?.getD 0 : Nat) : Int) * 4294967296)) = (z.natAbs : Int) := by
    have hp := digs_parts z.natAbs (by omega)
    simp only [List.getD_eq_getElem?_getD] at hp
    rw [hp.1, hp.2]
    exact or_val _ (by omega)
  rw [ev]
  have hw := KW.out
  clear ev hz hd HD HZ KW h h11
  generalize ((z.natAbs : Nat) : Int) = N at *
  rcases hw with ⟨rfl, b, e⟩ | ⟨rfl, b, e⟩ | ⟨rfl, b, e, hp⟩ | ⟨rfl, b, e⟩
  · have E := Lib.hid e.symm
    clear e
    go_wp2_with (first | ((with_reducible refine kAny ?_); go_skip) | (with_reducible refine stA ?_) | ((first | refine tFd ?_ | refine tLd ?_ | (refine tSr ?_; clear hL; intro _ hL; simp only [zq2, zq3] at hL) | (refine tSt ?_; clear hL; intro _ hL; simp only [splice, zq1, zq2, zq3] at hL) | (refine tBx ?_; clear hL; intro _ _ hL _)); simp only [Act.put, zq1, zq2, zq3]))
    go_ret2
    exact RetV.mk hL E.out
  · have E := Lib.hid e.symm
    clear e
    go_wp2_with (first | ((with_reducible refine kAny ?_); go_skip) | (with_reducible refine stA ?_) | ((first | refine tFd ?_ | refine tLd ?_ | (refine tSr ?_; clear hL; intro _ hL; simp only [zq2, zq3] at hL) | (refine tSt ?_; clear hL; intro _ hL; simp only [splice, zq1, zq2, zq3] at hL) | (refine tBx ?_; clear hL; intro _ _ hL _)); simp only [Act.put, zq1, zq2, zq3]))
    go_ret2
    exact RetV.mk hL E.out
  · have E := Lib.hid e.symm
    have HP := Lib.hid hp
    clear e hp
    go_wp2_with (first | ((with_reducible refine kAny ?_); go_skip) | (with_reducible refine stA ?_) | ((first | refine tFd ?_ | refine tLd ?_ | (refine tSr ?_; clear hL; intro _ hL; simp only [zq2, zq3] at hL) | (refine tSt ?_; clear hL; intro _ hL; simp only [splice, zq1, zq2, zq3] at hL) | (refine tBx ?_; clear hL; intro _ _ hL _)); simp only [Act.put, zq1, zq2, zq3]))
    go_ret2
    first
      | exact RetV.mk hL E.out
      | exact RetV.mk hL ((congrArg (fun t => Value.tuple #[.int .i64 t, .int .i64 0]) HP.out).trans E.out)
  · have E := Lib.hid e.symm
    clear e
    go_wp2_with (first | ((with_reducible refine kAny ?_); go_skip) | (with_reducible refine stA ?_) | ((first | refine tFd ?_ | refine tLd ?_ | (refine tSr ?_; clear hL; intro _ hL; simp only [zq2, zq3] at hL) | (refine tSt ?_; clear hL; intro _ hL; simp only [splice, zq1, zq2, zq3] at hL) | (refine tBx ?_; clear hL; intro _ _ hL _)); simp only [Act.put, zq1, zq2, zq3]))
    go_ret2
    exact RetV.mk hL E.out
end Go.Proofs.YtmhkmmmompediaaGreat

/- Contracts of rational.Ceil, lagrange.CeilInt and pairingref25.CeilInt, whole. -/
namespace Go.Proofs.YtmhkmmmompediaaGreat
open Go.RowKit

theorem pN_abs (x y : Int) : (pN x y).natAbs ≤ x.natAbs := by
  unfold pN; split
  · simp
  · split <;> omega
theorem pD_abs {y : Int} {k : Nat} (h : y.natAbs < k) (h1 : 1 < k) : (pD y).natAbs < k := by
  unfold pD; split
  · simpa using h1
  · split <;> omega
set_option maxRecDepth 100000 in
set_option maxHeartbeats 8000000 in
theorem q_CeilV (v : Value) (x y : Int) (w m : World) (hV : Vw m w) (h : FrV m v x y) (hx : x.natAbs < 18446744073709551616) (hy : y.natAbs < 18446744073709551616) :
    Calls Tryz.prog 88 #[v] w (RetV w m fun m' r => IntC m' r (cel (Rat.divInt x y))) := by
  have FA := Lib.hid h
  obtain ⟨g, A, n, c, g', B', n', c', rfl, -, -⟩ := h
  have hpn := pN_abs x y
  have HX : Hid ((-pN x y).natAbs < 18446744073709551616) := by show _ < _; omega
  have HY : Hid ((pD y).natAbs < 18446744073709551616) := pD_abs hy (by decide)
  have HP := Lib.hid (pN_val x y).1
  have lx' : Hid ((digs (-pN x y).natAbs).length ≤ 1000) := Nat.le_trans (len2 HX.out) (by decide)
  have lq : Hid ((digs (-pN x y / pD y).natAbs).length ≤ 1000) := Nat.le_trans (length_digs_mono (Int.natAbs_ediv_le_natAbs _ _)) lx'.out
  have E := Lib.hid (cel_div x y)
  clear hx hy hpn
  have hL := Loc.start hV
  clear hV
  go_enter Tryz.func88, Tryz.ntmps88
  go_wp2_with (first | ((with_reducible refine kAny ?_); go_skip) | (with_reducible refine stA ?_) | ((first | refine tLd ?_ | (refine tSr ?_; clear hL; intro _ hL; simp only [zq2, zq3] at hL) | (refine tSt ?_; clear hL; intro _ hL; simp only [splice, zq1, zq2, zq3] at hL) | (refine tBx ?_; clear hL; intro _ _ hL _) | (refine tAl ?_; clear hL; intro _ _ hL _)); simp only [Act.put, zq1, zq2, zq3]))
  refine (q_partsV _ x y _ _ hL.vw (FA.out.le leX)).mono ?_
  rintro e W11 ⟨_, m11, rfl, hE, hM11, hV, g1, A1, n1, c1, g2, A2, n2, c2, rfl, h1, h2⟩
  replace hL := hL.call hE (by assumption) hV; clear hE hV
  go_upto_region 2 with ((first | ((with_reducible refine kAny ?_); go_skip) | (with_reducible refine stA ?_) | ((first | refine tLd ?_ | (refine tSr ?_; clear hL; intro _ hL; simp only [zq2, zq3] at hL) | (refine tSt ?_; clear hL; intro _ hL; simp only [splice, zq1, zq2, zq3] at hL) | (refine tBx ?_; clear hL; intro _ _ hL _) | (refine tAl ?_; clear hL; intro _ _ hL _)); simp only [Act.put, zq1, zq2, zq3])))
  obtain ⟨B, hB1, hB2, hB3⟩ := hL.bound
  refine wp_region_by2 10 [false, false, false, false, false, false, false, false, true, true] [false, false, false, false, false, false, true, true, false, false] [(fun v _ _ => v = ?c2_0), Of (fun um v => IntC um v (-pN x y)), (fun v _ _ => v = ?c2_2), Of (fun um v => DMr um v (-pN x y) (pD y)), Of (fun um v => DMr um v (-pN x y) (pD y)), Of (fun um v => IntC um v (-pN x y / pD y)), Of (fun um v => IntC um v (-pN x y % pD y)), Is (.int .i64 0), NewBlk B 37 #[.bool false, .slice none 0 0], NewBlk B 37 #[.bool false, .slice none 0 0]] hL.vw mixed [14, 15, 16, 17, 13, 18, 19, 20, 5, 6] _ (by kernel_rfl) (fun vs => by simp only [lay, Act.put, zq1, zq2, zq3]; rfl) (by kernel_rfl) (by decide) (by decide) ?s2 ?l2 ?r2
  case s2 =>
    refine ⟨?_, ?_, ?_, ?_, ?_, ?_, ?_, ?_, ?_, ?_, trivial⟩
    · intro vs W1 m1 hE hM hV hD
      clear hD
      replace hL := hL.call hE hM hV
      exact sLd
    · intro vs W1 m1 hE hM hV hD
      obtain ⟨⟨_, _, -, -, f14⟩, -⟩ := hD
      have f14 : vs 14 = _ := f14
      generalize vs 14 = x14 at f14 ⊢
      subst x14
      go_wp2_with fail
      refine (i_Negate _ (pN x y) _ _ hV (h1.le leX)).mono ?_
      rintro e W2 ⟨v, m2, rfl, hE2, hM2, hV2, h⟩
      go_wp2_with fail
      refine One2.call hE2 hM2 hV2 ?_; first | exact h | exact rfl
    · intro vs W1 m1 hE hM hV hD
      clear hD
      replace hL := hL.call hE hM hV
      exact sLd
    · intro vs W1 m1 hE hM hV hD
      obtain ⟨⟨_, _, -, i15, f15⟩, ⟨_, _, -, -, f16⟩, -, -⟩ := hD
      have f16 : vs 16 = _ := f16
      generalize vs 16 = x16 at f16 ⊢
      subst x16
      have f15 : IntC _ (vs 15) (-pN x y) := f15
      replace f15 := f15.le i15.le
      clear i15
      go_wp2_with fail
      refine (i_DivModA _ _ (-pN x y) (pD y) _ _ hV (f15.toV lx'.out) (h2.le leX) HX.out HY.out HP.out).mono ?_
      rintro e W2 ⟨v, m2, rfl, hE2, hM2, hV2, h⟩
      go_wp2_with fail
      refine One2.call hE2 hM2 hV2 ?_; first | exact h | exact rfl
    · intro vs W1 m1 hE hM hV hD
      obtain ⟨⟨_, _, -, i17, f17⟩, -⟩ := hD
      have f17 : DMr _ (vs 17) (-pN x y) (pD y) := f17
      replace f17 := f17.le i17.le
      clear i17
      go_wp2_with fail
      refine One2.still hV ?_; exact f17
    · intro vs W1 m1 hE hM hV hD
      obtain ⟨⟨_, _, -, i13, f13⟩, -⟩ := hD
      have f13 : DMr _ (vs 13) (-pN x y) (pD y) := f13
      replace f13 := f13.le i13.le
      clear i13
      obtain ⟨q0, r0, e13, k1, k2⟩ := f13
      generalize vs 13 = x13 at e13 ⊢
      subst x13
      replace hL := hL.call hE hM hV
      go_wp2_with (first | ((with_reducible refine kAny ?_); go_skip) | (with_reducible refine stA ?_) | ((first | refine tLd ?_ | (refine tSr ?_; clear hL; intro _ hL; simp only [zq2, zq3] at hL) | (refine tSt ?_; clear hL; intro _ hL; simp only [splice, zq1, zq2, zq3] at hL) | (refine tBx ?_; clear hL; intro _ _ hL _) | (refine tAl ?_; clear hL; intro _ _ hL _)); simp only [Act.put, zq1, zq2, zq3]))
      refine One2.still hV ?_; exact k1
    · intro vs W1 m1 hE hM hV hD
      obtain ⟨⟨_, _, -, i13, f13⟩, -, -⟩ := hD
      have f13 : DMr _ (vs 13) (-pN x y) (pD y) := f13
      replace f13 := f13.le i13.le
      clear i13
      obtain ⟨q0, r0, e13, k1, k2⟩ := f13
      generalize vs 13 = x13 at e13 ⊢
      subst x13
      replace hL := hL.call hE hM hV
      go_wp2_with (first | ((with_reducible refine kAny ?_); go_skip) | (with_reducible refine stA ?_) | ((first | refine tLd ?_ | (refine tSr ?_; clear hL; intro _ hL; simp only [zq2, zq3] at hL) | (refine tSt ?_; clear hL; intro _ hL; simp only [splice, zq1, zq2, zq3] at hL) | (refine tBx ?_; clear hL; intro _ _ hL _) | (refine tAl ?_; clear hL; intro _ _ hL _)); simp only [Act.put, zq1, zq2, zq3]))
      refine One2.still hV ?_; exact k2
    · intro vs W1 m1 hE hM hV hD
      obtain ⟨⟨_, _, -, i13, f13⟩, -, -⟩ := hD
      have f13 : DMr _ (vs 13) (-pN x y) (pD y) := f13
      replace f13 := f13.le i13.le
      clear i13
      obtain ⟨q0, r0, e13, k1, k2⟩ := f13
      generalize vs 13 = x13 at e13 ⊢
      subst x13
      replace hL := hL.call hE hM hV
      go_wp2_with (first | ((with_reducible refine kAny ?_); go_skip) | (with_reducible refine stA ?_) | ((first | refine tLd ?_ | (refine tSr ?_; clear hL; intro _ hL; simp only [zq2, zq3] at hL) | (refine tSt ?_; clear hL; intro _ hL; simp only [splice, zq1, zq2, zq3] at hL) | (refine tBx ?_; clear hL; intro _ _ hL _) | (refine tAl ?_; clear hL; intro _ _ hL _)); simp only [Act.put, zq1, zq2, zq3]))
      refine One2.still hV ?_; exact rfl
    · intro vs W1 m1 hE hM hV hD
      clear hD
      exact one2_alloc hV (Nat.le_trans hB3 hE.size) rfl rfl rfl ZcC.h
    · intro vs W1 m1 hE hM hV hD
      clear hD
      exact one2_alloc hV (Nat.le_trans hB3 hE.size) rfl rfl rfl ZcC.h
  case l2 =>
    refine ⟨fun h => (by cases h), fun h => (by cases h), fun h => (by cases h), fun h => (by cases h), fun h => (by cases h), fun h => (by cases h), fun _ => ?_, fun _ => ?_, fun h => (by cases h), fun h => (by cases h), trivial⟩
    · intro vs W1 m1 hE hM hV hD
      obtain ⟨⟨_, _, -, i13, f13⟩, -, -⟩ := hD
      have f13 : DMr _ (vs 13) (-pN x y) (pD y) := f13
      replace f13 := f13.le i13.le
      clear i13
      obtain ⟨q0, r0, e13, k1, k2⟩ := f13
      generalize vs 13 = x13 at e13 ⊢
      subst x13
      exact ⟨_, Or.inl ⟨(by rfl), fun w => (by rfl)⟩, k2⟩
    · intro vs W1 m1 hE hM hV hD
      obtain ⟨⟨_, _, -, i13, f13⟩, -, -⟩ := hD
      have f13 : DMr _ (vs 13) (-pN x y) (pD y) := f13
      replace f13 := f13.le i13.le
      clear i13
      obtain ⟨q0, r0, e13, k1, k2⟩ := f13
      generalize vs 13 = x13 at e13 ⊢
      subst x13
      exact ⟨_, Or.inl ⟨(by rfl), fun w => (by rfl)⟩, rfl⟩
  intro vs W1 m1 hE hM hV hF hD
  obtain ⟨-, ⟨_, _, -, i15, f15⟩, -, ⟨_, _, -, i17, f17⟩, ⟨_, _, -, i13, f13⟩, ⟨_, _, -, i18, f18⟩, ⟨_, _, -, i19, f19⟩, ⟨_, _, -, -, f20⟩, ⟨_, _, j5, i5, f5⟩, ⟨_, _, j6, i6, f6⟩, -⟩ := hF
  replace hL := hL.call hE hM hV
  replace f15 : IntC _ (vs 15) (-pN x y) := f15
  replace f15 := f15.le i15.le
  clear i15
  replace f17 : DMr _ (vs 17) (-pN x y) (pD y) := f17
  replace f17 := f17.le i17.le
  clear i17
  replace f13 : DMr _ (vs 13) (-pN x y) (pD y) := f13
  replace f13 := f13.le i13.le
  clear i13
  replace f18 : IntC _ (vs 18) (-pN x y / pD y) := f18
  replace f18 := f18.le i18.le
  clear i18
  obtain ⟨g18, A18, n18, c18, e18, f18⟩ := f18.lit
  generalize vs 18 = x18 at e18 ⊢
  subst x18
  replace f19 : IntC _ (vs 19) (-pN x y % pD y) := f19
  replace f19 := f19.le i19.le
  clear i19
  obtain ⟨g19, A19, n19, c19, e19, f19⟩ := f19.lit
  generalize vs 19 = x19 at e19 ⊢
  subst x19
  have f20 : vs 20 = _ := f20
  generalize vs 20 = x20 at f20 ⊢
  subst x20
  obtain ⟨b5, e5, hL⟩ := Loc.addB (Lt := []) hB1 hB2 hL f5 j5 i5 ad0
  obtain ⟨b6, e6, hL⟩ := Loc.addB (Lt := [_]) hB1 hB2 hL f6 j6 i6 (adS (by have h := hD 9 8 _ _ _ _ (by decide) (by decide) (by decide) rfl rfl rfl rfl rfl rfl; rw [e5] at h; exact fun hk => h _ hk rfl) ad0)
  simp only [e5, e6, List.cons_append, List.nil_append] at hL ⊢
  clear e5 f5 j5 i5 e6 f6 j6 i6
  clear hB1 hB2 hB3 hD
  clear hE hV
  simp only [List.drop_succ_cons, List.drop_zero]
  go_wp2_with (first | ((with_reducible refine kAny ?_); go_skip) | (with_reducible refine stA ?_) | ((first | refine tLd ?_ | (refine tSr ?_; clear hL; intro _ hL; simp only [zq2, zq3] at hL) | (refine tSt ?_; clear hL; intro _ hL; simp only [splice, zq1, zq2, zq3] at hL) | (refine tBx ?_; clear hL; intro _ _ hL _) | (refine tAl ?_; clear hL; intro _ _ hL _)); simp only [Act.put, zq1, zq2, zq3]))
  refine QN.mk ?_
  go_wp2_with (first | ((with_reducible refine kAny ?_); go_skip) | (with_reducible refine stA ?_) | ((first | refine tLd ?_ | (refine tSr ?_; clear hL; intro _ hL; simp only [zq2, zq3] at hL) | (refine tSt ?_; clear hL; intro _ hL; simp only [splice, zq1, zq2, zq3] at hL) | (refine tBx ?_; clear hL; intro _ _ hL _) | (refine tAl ?_; clear hL; intro _ _ hL _)); simp only [Act.put, zq1, zq2, zq3]))
  refine (i_Negate _ _ _ _ hL.vw ((f18.toV lq.out).le leX)).mono ?_
  rintro e W12 ⟨v12, m12, rfl, hE, hM12, hV, h12⟩
  replace hL := hL.call hE (by assumption) hV; clear hE hV
  obtain ⟨g12', A12', n12', c12', rfl, h12⟩ := h12.lit
  go_wp2_with (first | ((with_reducible refine kAny ?_); go_skip) | (with_reducible refine stA ?_) | ((first | refine tLd ?_ | (refine tSr ?_; clear hL; intro _ hL; simp only [zq2, zq3] at hL) | (refine tSt ?_; clear hL; intro _ hL; simp only [splice, zq1, zq2, zq3] at hL) | (refine tBx ?_; clear hL; intro _ _ hL _) | (refine tAl ?_; clear hL; intro _ _ hL _)); simp only [Act.put, zq1, zq2, zq3]))
  refine fin_agg hL Tryz.results88 rfl rfl loX AgC.h (by exact rfl) ?_
  rw [E.out]; exact h12

/-- What CeilInt hands back. -/
def ciR (z : Int) : Value := if -1152921504606846976 ≤ z ∧ z ≤ 1152921504606846976 then .tuple #[.int .i64 z, .int .i64 0] else .tuple #[.int .i64 0, .int .i64 5]
/-- The ways of CeilInt. -/
theorem ciR_ways (z : Int) :
    (toZ z = .tuple #[.int .i64 z, .int .i64 0] ∧ ¬ z < -1152921504606846976 ∧ ¬ z > 1152921504606846976 ∧ ciR z = .tuple #[.int .i64 z, .int .i64 0]) ∨
    (toZ z = .tuple #[.int .i64 z, .int .i64 0] ∧ z < -1152921504606846976 ∧ ciR z = .tuple #[.int .i64 0, .int .i64 5]) ∨
    (toZ z = .tuple #[.int .i64 z, .int .i64 0] ∧ ¬ z < -1152921504606846976 ∧ z > 1152921504606846976 ∧ ciR z = .tuple #[.int .i64 0, .int .i64 5]) ∨
    (toZ z = .tuple #[.int .i64 0, .int .i64 5] ∧ ciR z = .tuple #[.int .i64 0, .int .i64 5]) := by
  by_cases h : -9223372036854775808 ≤ z ∧ z < 9223372036854775808
  · have e := toZ_in h.1 h.2
    by_cases h1 : z < -1152921504606846976
    · exact .inr (.inl ⟨e, h1, if_neg (by omega)⟩)
    · by_cases h2 : z > 1152921504606846976
      · exact .inr (.inr (.inl ⟨e, h1, h2, if_neg (by omega)⟩))
      · exact .inl ⟨e, h1, h2, if_pos (by omega)⟩
  · exact .inr (.inr (.inr ⟨toZ_out (by omega), if_neg (by omega)⟩))

set_option maxRecDepth 100000 in
set_option maxHeartbeats 8000000 in
theorem l_CeilIntV (v : Value) (x y : Int) (w m : World) (hV : Vw m w) (h : FrV m v x y) (hx : x.natAbs < 18446744073709551616) (hy : y.natAbs < 18446744073709551616) :
    Calls Tryz.prog 26 #[v] w (RetV w m fun _ r => r = ciR (cel (Rat.divInt x y))) := by
  have FA := Lib.hid h
  obtain ⟨g, A, n, c, g', B', n', c', rfl, -, -⟩ := h
  have hpn := pN_abs x y
  have hc : (cel (Rat.divInt x y)).natAbs ≤ x.natAbs := by
    rw [cel_div, Int.natAbs_neg]
    refine Nat.le_trans (Int.natAbs_ediv_le_natAbs _ _) ?_
    omega
  have HX := Lib.hid hx
  have HY := Lib.hid hy
  have HC : Hid ((cel (Rat.divInt x y)).natAbs < 18446744073709551616) := by show _ < _; omega
  have HI : Hid ((digs (cel (Rat.divInt x y)).natAbs).length ≤ 1000) := Nat.le_trans (len2 HC.out) (by decide)
  clear hx hy hpn hc
  have hL := Loc.start hV
  clear hV
  go_enter Tryz.func26, Tryz.ntmps26
  go_wp2_with (first | ((with_reducible refine kAny ?_); go_skip) | (with_reducible refine stA ?_) | ((first | refine tLd ?_ | (refine tBx ?_; clear hL; intro _ _ hL _)); simp only [Act.put, zq1, zq2, zq3]))
  refine (q_CeilV _ x y _ _ hL.vw (FA.out.le leX) HX.out HY.out).mono ?_
  rintro e W1 ⟨v1, m1, rfl, hE, hM1, hV, h1⟩
  replace hL := hL.call hE (by assumption) hV; clear hE hV
  obtain ⟨g1', A1', n1', c1', rfl, h1⟩ := h1.lit
  generalize hz : cel (Rat.divInt x y) = z at *
  have HZ := Lib.hid hz
  clear hz
  go_wp2_with (first | ((with_reducible refine kAny ?_); go_skip) | (with_reducible refine stA ?_) | ((first | refine tLd ?_ | (refine tBx ?_; clear hL; intro _ _ hL _)); simp only [Act.put, zq1, zq2, zq3]))
  refine (i_ToInt64A _ z _ _ hL.vw (h1.toV HI.out) HC.out).mono ?_
  rintro e W2 ⟨_, m2, rfl, hE, hM2, hV, rfl⟩
  replace hL := hL.call hE (by assumption) hV; clear hE hV
  clear HC HI
  rcases ciR_ways z with ⟨e1, b1, b2, e2⟩ | ⟨e1, b1, e2⟩ | ⟨e1, b1, b2, e2⟩ | ⟨e1, e2⟩
  all_goals rw [e1]
  all_goals have E := Lib.hid e2.symm
  all_goals clear e1 e2
  all_goals go_wp2_with (first | ((with_reducible refine kAny ?_); go_skip) | (with_reducible refine stA ?_) | ((first | refine tLd ?_ | (refine tBx ?_; clear hL; intro _ _ hL _)); simp only [Act.put, zq1, zq2, zq3]))
  all_goals go_ret2
  all_goals exact RetV.mk hL (E.out.trans (congrArg ciR HZ.out.symm))

set_option maxRecDepth 100000 in
set_option maxHeartbeats 8000000 in
theorem r_CeilInt (v : Value) (q : Rat) (w m : World) (hV : Vw m w) (h : FracV m v q) (k : Fit 1000 q) (hc : (cel q).natAbs < 18446744073709551616) :
    Calls Tryz.prog 27 #[v] w (RetV w m fun _ r => r = ciR (cel q)) := by
  have FA := Lib.hid h
  obtain ⟨_, _, g, A, n, c, g', B', n', c', rfl, -, -, -⟩ := h.lit
  have HK := Lib.hid k
  have HC := Lib.hid hc
  have HI : Hid ((digs (cel q).natAbs).length ≤ 1000) := Nat.le_trans (len2 HC.out) (by decide)
  clear hc k h
  have hL := Loc.start hV
  clear hV
  go_enter Tryz.func27, Tryz.ntmps27
  go_wp2_with (first | ((with_reducible refine kAny ?_); go_skip) | (with_reducible refine stA ?_) | ((first | refine tLd ?_ | (refine tSr ?_; clear hL; intro _ hL; simp only [zq2, zq3] at hL) | (refine tSt ?_; clear hL; intro _ hL; simp only [splice, zq1, zq2, zq3] at hL) | (refine tBx ?_; clear hL; intro _ _ hL _) | (refine tAl ?_; clear hL; intro _ _ hL _)); simp only [Act.put, zq1, zq2, zq3]))
  refine (r_Ceil _ q _ _ hL.vw (FA.out.le leX) HK.out).mono ?_
  rintro e W1 ⟨v1, m1, rfl, hE, hM1, hV, h1⟩
  replace hL := hL.call hE (by assumption) hV; clear hE hV
  obtain ⟨g1', A1', n1', c1', rfl, h1⟩ := h1.lit
  generalize hz : cel q = z at *
  have HZ := Lib.hid hz
  clear hz
  go_wp2_with (first | ((with_reducible refine kAny ?_); go_skip) | (with_reducible refine stA ?_) | ((first | refine tLd ?_ | (refine tSr ?_; clear hL; intro _ hL; simp only [zq2, zq3] at hL) | (refine tSt ?_; clear hL; intro _ hL; simp only [splice, zq1, zq2, zq3] at hL) | (refine tBx ?_; clear hL; intro _ _ hL _) | (refine tAl ?_; clear hL; intro _ _ hL _)); simp only [Act.put, zq1, zq2, zq3]))
  refine (c_ToInt64A _ z _ _ hL.vw ((h1.toV HI.out).le leX) HC.out).mono ?_
  rintro e W2 ⟨_, m2, rfl, hE, hM2, hV, rfl⟩
  replace hL := hL.call hE (by assumption) hV; clear hE hV
  clear HC HI
  rcases ciR_ways z with ⟨e1, b1, b2, e2⟩ | ⟨e1, b1, e2⟩ | ⟨e1, b1, b2, e2⟩ | ⟨e1, e2⟩
  all_goals rw [e1]
  all_goals have E := Lib.hid e2.symm
  all_goals clear e1 e2
  all_goals go_wp2_with (first | ((with_reducible refine kAny ?_); go_skip) | (with_reducible refine stA ?_) | ((first | refine tLd ?_ | (refine tSr ?_; clear hL; intro _ hL; simp only [zq2, zq3] at hL) | (refine tSt ?_; clear hL; intro _ hL; simp only [splice, zq1, zq2, zq3] at hL) | (refine tBx ?_; clear hL; intro _ _ hL _) | (refine tAl ?_; clear hL; intro _ _ hL _)); simp only [Act.put, zq1, zq2, zq3]))
  all_goals go_ret2
  all_goals exact RetV.mk hL (E.out.trans (congrArg ciR HZ.out.symm))
end Go.Proofs.YtmhkmmmompediaaGreat

/- Contracts of pairingref25.New, Mul and pairingdata.times that leave the digits of the numerator in a row of the caller's own. -/
namespace Go.Proofs.YtmhkmmmompediaaGreat
open Go.RowKit

theorem IntO.nil (u : World) (B : Nat) : IntO u B (.agg #[.bool false, .slice none 0 0]) 0 := ⟨.slice none 0 0, by simp, by simp [digs_zero], .inl ⟨by simp [digs_zero], by simp [digs_zero]⟩⟩
theorem IntO.lit {u : World} {B : Nat} {v : Value} {z : Int} (h : IntO u B v z) : ∃ A c, v = .agg #[.bool (decide (z < 0)), .slice A (digs z.natAbs).length c] ∧ u.ownsRow B 102 1 (.slice A (digs z.natAbs).length c) (digs z.natAbs).length ((digs z.natAbs).map U) := by
  obtain ⟨s, rfl, ho⟩ := h
  obtain ⟨A, c, rfl, _, _⟩ := Sl.digs_of_own ho
  exact ⟨A, c, rfl, ho⟩
/-- An integer that Canon handed back. -/
def CanO (B : Nat) (z : Int) : Fct := fun v u _ => IntO u B v z
theorem IntO.litE {u W : World} {B : Nat} {v : Value} {z : Int} (h : IntO u B v z) (hE : Ext u W) : ∃ A c, v = .agg #[.bool (decide (z < 0)), .slice A (digs z.natAbs).length c] ∧ W.ownsRow B 102 1 (.slice A (digs z.natAbs).length c) (digs z.natAbs).length ((digs z.natAbs).map U) := by
  obtain ⟨A, c, e, ho⟩ := IntO.lit h
  exact ⟨A, c, e, ownsRow_ext ho hE⟩
/-- A fraction whose numerator's digits are in a row of their own. -/
def NumO (B : Nat) (u : World) (v : Value) (z : Int) : Prop := ∃ a b h D k d, v = .agg #[a, b, .bool h, .slice D k d] ∧ IntO u B (.agg #[a, b]) z
theorem NumO.base {u : World} {B B' : Nat} {v : Value} {z : Int} (h : NumO B' u v z) (hB : B ≤ B') : NumO B u v z := by
  obtain ⟨a, b, g, D, k, d, e, h⟩ := h
  exact ⟨a, b, g, D, k, d, e, h.base hB⟩
def NumF (B : Nat) (z : Int) : Fct := fun v u _ => NumO B u v z
theorem NumO.litE {u W : World} {B : Nat} {v : Value} {z : Int} (h : NumO B u v z) (hE : Ext u W) : ∃ A c f D k d, v = .agg #[.bool (decide (z < 0)), .slice A (digs z.natAbs).length c, .bool f, .slice D k d] ∧ W.ownsRow B 102 1 (.slice A (digs z.natAbs).length c) (digs z.natAbs).length ((digs z.natAbs).map U) := by
  obtain ⟨a, b, f, D, k, d, rfl, h⟩ := h
  obtain ⟨A, c, e, ho⟩ := IntO.lit h
  simp only [Value.agg.injEq, Array.mk.injEq, List.cons.injEq, and_true] at e
  obtain ⟨rfl, rfl⟩ := e
  exact ⟨A, c, f, D, k, d, rfl, ownsRow_ext ho hE⟩
theorem Loc.ownS {w0 m0 W m : World} {Ls R : List Lo} (hL : Loc w0 m0 W m Ls) (hs : ∀ x ∈ R, x ∈ Ls) {e : TypeId} {size : Nat} {v : Value} {n : Nat} {xs : List Value} (hR : Row e size v n xs R) : W.ownsRow w0.heap.size e size v n xs := by
  obtain ⟨h1, ⟨rfl, rfl, _⟩ | ⟨g, cap, cur, rfl, rfl, h⟩⟩ := hR
  · exact ⟨h1, .inl ⟨rfl, rfl⟩⟩
  · have hm : (g, e, cur) ∈ Ls := hs _ (by simp)
    exact ⟨h1, .inr ⟨g, cap, cur, rfl, hL.low _ hm, hL.blk _ hm, h⟩⟩
theorem c_CanonW (v : Value) (z : Int) (w m : World) (hV : Vw m w) (h : IntV m v z) : Calls Tryz.prog 127 #[v] w (RetW w m fun w' _ r => IntO w' w.heap.size r z) :=
  (r1_Canon v z w (h.le hV.le)).mono fun _ _ h => by
    obtain ⟨v, rfl, h1, h2⟩ := h
    exact ⟨v, _, rfl, h2, (joined_spec hV h2).1, (joined_spec hV h2).2, h1⟩

set_option maxRecDepth 100000 in
set_option maxHeartbeats 16000000 in
theorem r_NewO (n d : Value) (x y : Int) (w m : World) (hV : Vw m w) (hn : IntV m n x) (hd : IntV m d y) :
    Calls Tryz.prog 66 #[n, d] w (RetW w m fun w' _ r => NumO w.heap.size w' r (Rat.divInt x y).num) := by
  obtain ⟨na, A, la, ca, rfl⟩ := hn.lit
  obtain ⟨nb, B', lb, cb, rfl⟩ := hd.lit
  have hL := Loc.start hV
  clear hV
  go_enter Tryz.func66, Tryz.ntmps66
  go_wp2_with (first | ((with_reducible refine kAny ?_); go_skip) | (with_reducible refine stA ?_) | ((first | refine tLd ?_ | (refine tSr ?_; clear hL; intro _ hL; simp only [zq2, zq3] at hL) | (refine tSt ?_; clear hL; intro _ hL; simp only [splice, zq1, zq2, zq3] at hL) | (refine tBx ?_; clear hL; intro _ _ hL _) | (refine tAl ?_; clear hL; intro _ _ hL _)); simp only [Act.put, zq1, zq2, zq3]))
  refine (c_FromInt64 1 _ _ hL.vw (by omega) (by omega)).mono ?_
  rintro e W1 ⟨v1, m1, rfl, hE, hM1, hV, h1⟩
  replace hL := hL.call hE (by assumption) hV; clear hE hV
  obtain ⟨g1, A1, n1, c1, rfl, h1⟩ := h1.lit
  go_wp2_with (first | ((with_reducible refine kAny ?_); go_skip) | (with_reducible refine stA ?_) | ((first | refine tLd ?_ | (refine tSr ?_; clear hL; intro _ hL; simp only [zq2, zq3] at hL) | (refine tSt ?_; clear hL; intro _ hL; simp only [splice, zq1, zq2, zq3] at hL) | (refine tBx ?_; clear hL; intro _ _ hL _) | (refine tAl ?_; clear hL; intro _ _ hL _)); simp only [Act.put, zq1, zq2, zq3]))
  refine (c_Sign _ y _ _ hL.vw (hd.le leX)).mono ?_
  rintro e W2 ⟨_, m2, rfl, hE, hM2, hV, rfl⟩
  replace hL := hL.call hE (by assumption) hV; clear hE hV
  by_cases hy : y = 0
  · subst hy
    rw [show icmp 0 0 = 0 from rfl]
    go_wp2_with (first | ((with_reducible refine kAny ?_); go_skip) | (with_reducible refine stA ?_) | ((first | refine tLd ?_ | (refine tSr ?_; clear hL; intro _ hL; simp only [zq2, zq3] at hL) | (refine tSt ?_; clear hL; intro _ hL; simp only [splice, zq1, zq2, zq3] at hL) | (refine tBx ?_; clear hL; intro _ _ hL _) | (refine tAl ?_; clear hL; intro _ _ hL _)); simp only [Act.put, zq1, zq2, zq3]))
    refine fin_aggP hL Tryz.results66 rfl rfl loX ag_Frac rfl (RetW.mk hL ?_)
    rw [Rat.divInt_zero]
    exact ⟨_, _, _, _, _, _, rfl, IntO.nil _ _⟩
  · have hyb : (icmp y 0 == 0) = false := by
      unfold icmp; by_cases h : y < 0 <;> simp [h, hy]
    go_wp2_with (first | ((with_reducible refine kAny ?_); go_skip) | (with_reducible refine stA ?_) | ((first | refine tLd ?_ | (refine tSr ?_; clear hL; intro _ hL; simp only [zq2, zq3] at hL) | (refine tSt ?_; clear hL; intro _ hL; simp only [splice, zq1, zq2, zq3] at hL) | (refine tBx ?_; clear hL; intro _ _ hL _) | (refine tAl ?_; clear hL; intro _ _ hL _)); simp only [Act.put, zq1, zq2, zq3]))
    refine (c_Sign _ x _ _ hL.vw (hn.le leX)).mono ?_
    rintro e W3 ⟨_, m3, rfl, hE, hM3, hV, rfl⟩
    replace hL := hL.call hE (by assumption) hV; clear hE hV
    by_cases hx : x = 0
    · subst hx
      rw [show icmp 0 0 = 0 from rfl]
      go_wp2_with (first | ((with_reducible refine kAny ?_); go_skip) | (with_reducible refine stA ?_) | ((first | refine tLd ?_ | (refine tSr ?_; clear hL; intro _ hL; simp only [zq2, zq3] at hL) | (refine tSt ?_; clear hL; intro _ hL; simp only [splice, zq1, zq2, zq3] at hL) | (refine tBx ?_; clear hL; intro _ _ hL _) | (refine tAl ?_; clear hL; intro _ _ hL _)); simp only [Act.put, zq1, zq2, zq3]))
      refine fin_aggP hL Tryz.results66 rfl rfl loX ag_Frac rfl (RetW.mk hL ?_)
      rw [Rat.zero_divInt]
      exact ⟨_, _, _, _, _, _, rfl, IntO.nil _ _⟩
    · have hxb : (icmp x 0 == 0) = false := by
        unfold icmp; by_cases h : x < 0 <;> simp [h, hx]
      go_wp2_with (first | ((with_reducible refine kAny ?_); go_skip) | (with_reducible refine stA ?_) | ((first | refine tLd ?_ | (refine tSr ?_; clear hL; intro _ hL; simp only [zq2, zq3] at hL) | (refine tSt ?_; clear hL; intro _ hL; simp only [splice, zq1, zq2, zq3] at hL) | (refine tBx ?_; clear hL; intro _ _ hL _) | (refine tAl ?_; clear hL; intro _ _ hL _)); simp only [Act.put, zq1, zq2, zq3]))
      refine (c_Sign _ y _ _ hL.vw (hd.le leX)).mono ?_
      rintro e W4 ⟨_, m4, rfl, hE, hM4, hV, rfl⟩
      replace hL := hL.call hE (by assumption) hV; clear hE hV
      clear hyb hxb
      have lx := hn.length
      have ly := hd.length
      by_cases hneg : y < 0
      · rw [icmp_lt hneg]
        go_upto_region 5 with ((first | ((with_reducible refine kAny ?_); go_skip) | (with_reducible refine stA ?_) | ((first | refine tLd ?_ | (refine tSr ?_; clear hL; intro _ hL; simp only [zq2, zq3] at hL) | (refine tSt ?_; clear hL; intro _ hL; simp only [splice, zq1, zq2, zq3] at hL) | (refine tBx ?_; clear hL; intro _ _ hL _) | (refine tAl ?_; clear hL; intro _ _ hL _)); simp only [Act.put, zq1, zq2, zq3])))
        refine wp_region_by2 4 [false, false, false, false] [false, false, false, false] [(fun v _ _ => v = ?c5_0), Of (fun um v => IntC um v (-x)), (fun v _ _ => v = ?c5_2), Of (fun um v => IntC um v (-y))] hL.vw mixed [27, 28, 29, 30] _ (by kernel_rfl) (fun vs => by simp only [lay, Act.put, zq1, zq2, zq3]; rfl) (by kernel_rfl) (by decide) (by decide) ?s5 ?l5 ?r5
        case s5 =>
          refine ⟨?_, ?_, ?_, ?_, trivial⟩
          · intro vs W1 m1 hE hM hV hD
            clear hD
            replace hL := hL.call hE hM hV
            exact sLd
          · intro vs W1 m1 hE hM hV hD
            obtain ⟨⟨_, _, -, -, f27⟩, -⟩ := hD
            have f27 : vs 27 = _ := f27
            generalize vs 27 = x27 at f27 ⊢
            subst x27
            go_wp2_with fail
            refine (c_Negate _ x _ _ hV (hn.le leX)).mono ?_
            rintro e W2 ⟨v, m2, rfl, hE2, hM2, hV2, h⟩
            go_wp2_with fail
            refine One2.call hE2 hM2 hV2 ?_; first | exact h | exact rfl
          · intro vs W1 m1 hE hM hV hD
            clear hD
            replace hL := hL.call hE hM hV
            exact sLd
          · intro vs W1 m1 hE hM hV hD
            obtain ⟨⟨_, _, -, -, f29⟩, -, -⟩ := hD
            have f29 : vs 29 = _ := f29
            generalize vs 29 = x29 at f29 ⊢
            subst x29
            go_wp2_with fail
            refine (c_Negate _ y _ _ hV (hd.le leX)).mono ?_
            rintro e W2 ⟨v, m2, rfl, hE2, hM2, hV2, h⟩
            go_wp2_with fail
            refine One2.call hE2 hM2 hV2 ?_; first | exact h | exact rfl
        case l5 =>
          refine ⟨fun h => (by cases h), fun h => (by cases h), fun h => (by cases h), fun h => (by cases h), trivial⟩
        intro vs W1 m1 hE hM hV hF hD
        clear hD
        obtain ⟨-, ⟨_, _, -, i28, f28⟩, -, ⟨_, _, -, i30, f30⟩, -⟩ := hF
        replace hL := hL.call hE hM hV
        replace f28 : IntC _ (vs 28) (-x) := f28
        replace f28 := f28.le i28.le
        clear i28
        obtain ⟨g28, A28, n28, c28, e28, f28⟩ := f28.lit
        generalize vs 28 = x28 at e28 ⊢
        subst x28
        replace f30 : IntC _ (vs 30) (-y) := f30
        replace f30 := f30.le i30.le
        clear i30
        obtain ⟨g30, A30, n30, c30, e30, f30⟩ := f30.lit
        generalize vs 30 = x30 at e30 ⊢
        subst x30
        clear hE hV
        simp only [List.drop_succ_cons, List.drop_zero]
        go_wp2_with (first | ((with_reducible refine kAny ?_); go_skip) | (with_reducible refine stA ?_) | ((first | refine tLd ?_ | (refine tSr ?_; clear hL; intro _ hL; simp only [zq2, zq3] at hL) | (refine tSt ?_; clear hL; intro _ hL; simp only [splice, zq1, zq2, zq3] at hL) | (refine tBx ?_; clear hL; intro _ _ hL _) | (refine tAl ?_; clear hL; intro _ _ hL _)); simp only [Act.put, zq1, zq2, zq3]))
        refine QN.mk ?_
        have fx := f28.toV (by rw [Int.natAbs_neg]; exact lx)
        have fy := f30.toV (by rw [Int.natAbs_neg]; exact ly)
        have hq : Hid (Rat.divInt x y = Rat.divInt (-x) (-y)) := (Rat.neg_divInt_neg x y).symm
        have hy' : 0 < -y := by omega
        rw [← Int.natAbs_neg] at lx ly
        clear hneg hx hy f28 f30
        generalize -x = x' at *
        generalize -y = y' at *
        go_wp2_with (first | ((with_reducible refine kAny ?_); go_skip) | (with_reducible refine stA ?_) | ((first | refine tLd ?_ | (refine tSr ?_; clear hL; intro _ hL; simp only [zq2, zq3] at hL) | (refine tSt ?_; clear hL; intro _ hL; simp only [splice, zq1, zq2, zq3] at hL) | (refine tBx ?_; clear hL; intro _ _ hL _) | (refine tAl ?_; clear hL; intro _ _ hL _)); simp only [Act.put, zq1, zq2, zq3]))
        have hgp : 0 < Int.gcd x' y' := Int.gcd_pos_of_ne_zero_right _ (by omega)
        have hgl : (digs (((Int.gcd x' y' : Nat) : Int)).natAbs).length ≤ 1000 := Nat.le_trans (length_digs_mono (by simpa using Nat.le_of_dvd (by omega) (Int.gcd_dvd_natAbs_right x' y'))) ly
        have hgq := frac_pos (x := x') hy'
        refine (c_GCD _ _ x' y' _ _ hL.vw (fx.le leX) (fy.le leX)).mono ?_
        rintro e W5 ⟨v5, m5, rfl, hE, hM5, hV, h5⟩
        replace hL := hL.call hE (by assumption) hV; clear hE hV
        obtain ⟨g5, A5, n5, c5, rfl, h5⟩ := h5.lit
        generalize Int.gcd x' y' = gg at *
        go_wp2_with (first | ((with_reducible refine kAny ?_); go_skip) | (with_reducible refine stA ?_) | ((first | refine tLd ?_ | (refine tSr ?_; clear hL; intro _ hL; simp only [zq2, zq3] at hL) | (refine tSt ?_; clear hL; intro _ hL; simp only [splice, zq1, zq2, zq3] at hL) | (refine tBx ?_; clear hL; intro _ _ hL _) | (refine tAl ?_; clear hL; intro _ _ hL _)); simp only [Act.put, zq1, zq2, zq3]))
        refine (c_DivMod _ _ x' gg _ _ hL.vw (fx.le leX) ((h5.toV hgl).le leX) (by omega)).mono ?_
        rintro e W6 ⟨_, m6, rfl, hE, hM6, hV, q6, r6, rfl, h6, k6⟩
        replace hL := hL.call hE (by assumption) hV; clear hE hV
        obtain ⟨g6, A6, n6, c6, rfl, h6⟩ := h6.lit
        obtain ⟨g7, A7, n7, c7, rfl, k6⟩ := k6.lit
        have lq : (digs (x' / (gg : Int)).natAbs).length ≤ 1000 := Nat.le_trans (length_digs_mono (Int.natAbs_ediv_le_natAbs _ _)) lx
        have lr : (digs (y' / (gg : Int)).natAbs).length ≤ 1000 := Nat.le_trans (length_digs_mono (Int.natAbs_ediv_le_natAbs _ _)) ly
        have HQ := Lib.hid hgq
        clear hgq k6
        go_wp2_with (first | ((with_reducible refine kAny ?_); go_skip) | (with_reducible refine stA ?_) | ((first | refine tLd ?_ | (refine tSr ?_; clear hL; intro _ hL; simp only [zq2, zq3] at hL) | (refine tSt ?_; clear hL; intro _ hL; simp only [splice, zq1, zq2, zq3] at hL) | (refine tBx ?_; clear hL; intro _ _ hL _) | (refine tAl ?_; clear hL; intro _ _ hL _)); simp only [Act.put, zq1, zq2, zq3]))
        refine (c_DivMod _ _ y' gg _ _ hL.vw (fy.le leX) ((h5.toV hgl).le leX) (by omega)).mono ?_
        rintro e W7 ⟨_, m7, rfl, hE, hM7, hV, q8, r8, rfl, h8, k8⟩
        replace hL := hL.call hE (by assumption) hV; clear hE hV
        obtain ⟨g8, A8, n8, c8, rfl, h8⟩ := h8.lit
        obtain ⟨g9, A9, n9, c9, rfl, k8⟩ := k8.lit
        clear k8
        go_upto_region 9 with ((first | ((with_reducible refine kAny ?_); go_skip) | (with_reducible refine stA ?_) | ((first | refine tLd ?_ | (refine tSr ?_; clear hL; intro _ hL; simp only [zq2, zq3] at hL) | (refine tSt ?_; clear hL; intro _ hL; simp only [splice, zq1, zq2, zq3] at hL) | (refine tBx ?_; clear hL; intro _ _ hL _) | (refine tAl ?_; clear hL; intro _ _ hL _)); simp only [Act.put, zq1, zq2, zq3])))
        refine wp_region_by2 4 [false, false, false, false] [false, false, false, false] [(fun v _ _ => v = ?c9_0a), (CanO w.heap.size (x' / (gg : Int))), (fun v _ _ => v = ?c9_2a), Of (fun um v => IntC um v (y' / (gg : Int)))] hL.vw mixed [48, 49, 50, 51] _ (by kernel_rfl) (fun vs => by simp only [lay, Act.put, zq1, zq2, zq3]; rfl) (by kernel_rfl) (by decide) (by decide) ?s9a ?l9a ?r9a
        case s9a =>
          refine ⟨?_, ?_, ?_, ?_, trivial⟩
          · intro vs W1 m1 hE hM hV hD
            clear hD
            replace hL := hL.call hE hM hV
            exact sLd
          · intro vs W1 m1 hE hM hV hD
            obtain ⟨⟨_, _, -, -, f48⟩, -⟩ := hD
            have f48 : vs 48 = _ := f48
            generalize vs 48 = x48 at f48 ⊢
            subst x48
            (go_wp2_with fail; refine (c_CanonW _ _ _ _ hV ((h6.toV lq).le leX)).mono ?_; rintro e W2 ⟨v, m2, rfl, hE2, hM2, hV2, h⟩; go_wp2_with fail; refine One2.call hE2 hM2 hV2 ?_; exact h.base (Nat.le_trans hL.ext.size hE.size))
          · intro vs W1 m1 hE hM hV hD
            clear hD
            replace hL := hL.call hE hM hV
            exact sLd
          · intro vs W1 m1 hE hM hV hD
            obtain ⟨⟨_, _, -, -, f50⟩, -, -⟩ := hD
            have f50 : vs 50 = _ := f50
            generalize vs 50 = x50 at f50 ⊢
            subst x50
            go_wp2_with fail
            refine (c_Canon _ _ _ _ hV ((h8.toV lr).le leX)).mono ?_
            rintro e W2 ⟨v, m2, rfl, hE2, hM2, hV2, h⟩
            go_wp2_with fail
            refine One2.call hE2 hM2 hV2 ?_; first | exact h | exact rfl
        case l9a =>
          refine ⟨fun h => (by cases h), fun h => (by cases h), fun h => (by cases h), fun h => (by cases h), trivial⟩
        intro vs W1 m1 hE hM hV hF hD
        clear hD
        obtain ⟨-, ⟨_, _, j49, i49, f49⟩, -, ⟨_, _, -, i51, f51⟩, -⟩ := hF
        replace hL := hL.call hE hM hV
        replace f51 : IntC _ (vs 51) (y' / (gg : Int)) := f51
        replace f51 := f51.le i51.le
        clear i51
        obtain ⟨g51, A51, n51, c51, e51, f51⟩ := f51.lit
        generalize vs 51 = x51 at e51 ⊢
        subst x51
        clear hE hV
        obtain ⟨A49, c49, e49, ow⟩ := IntO.litE f49 j49
        generalize vs 49 = x49 at e49 ⊢
        subst x49
        obtain ⟨R, m3, hL3, row⟩ := hL.reown ow (Nat.le_refl _) (by simp)
        simp only [List.cons_append, List.nil_append] at hL3
        clear hL ow
        have hL := hL3
        clear hL3 i49 j49
        simp only [List.drop_succ_cons, List.drop_zero]
        go_wp2_with (first | ((with_reducible refine kAny ?_); go_skip) | (with_reducible refine stA ?_) | ((first | refine tLd ?_ | (refine tSr ?_; clear hL; intro _ hL; simp only [zq2, zq3] at hL) | (refine tSt ?_; clear hL; intro _ hL; simp only [splice, zq1, zq2, zq3] at hL) | (refine tBx ?_; clear hL; intro _ _ hL _) | (refine tAl ?_; clear hL; intro _ _ hL _)); simp only [Act.put, zq1, zq2, zq3]))
        refine QN.mk ?_
        go_wp2_with (first | ((with_reducible refine kAny ?_); go_skip) | (with_reducible refine stA ?_) | ((first | refine tLd ?_ | (refine tSr ?_; clear hL; intro _ hL; simp only [zq2, zq3] at hL) | (refine tSt ?_; clear hL; intro _ hL; simp only [splice, zq1, zq2, zq3] at hL) | (refine tBx ?_; clear hL; intro _ _ hL _) | (refine tAl ?_; clear hL; intro _ _ hL _)); simp only [Act.put, zq1, zq2, zq3]))
        refine fin_aggP hL Tryz.results66 rfl rfl loX ag_Frac rfl (RetW.mk hL ?_)
        rw [hq.out]
        exact ⟨_, _, _, _, _, _, rfl, by rw [HQ.out.1]; exact ⟨_, rfl, hL.ownS (fun x hx => by simp [hx]) row⟩⟩
      · have hy' : 0 < y := by omega
        rw [icmp_gt hy']
        have fx := hn.le (m' := m4) leX
        have fy := hd.le (m' := m4) leX
        clear hneg hx hy hn hd
        go_wp2_with (first | ((with_reducible refine kAny ?_); go_skip) | (with_reducible refine stA ?_) | ((first | refine tLd ?_ | (refine tSr ?_; clear hL; intro _ hL; simp only [zq2, zq3] at hL) | (refine tSt ?_; clear hL; intro _ hL; simp only [splice, zq1, zq2, zq3] at hL) | (refine tBx ?_; clear hL; intro _ _ hL _) | (refine tAl ?_; clear hL; intro _ _ hL _)); simp only [Act.put, zq1, zq2, zq3]))
        have hgp : 0 < Int.gcd x y := Int.gcd_pos_of_ne_zero_right _ (by omega)
        have hgl : (digs (((Int.gcd x y : Nat) : Int)).natAbs).length ≤ 1000 := Nat.le_trans (length_digs_mono (by simpa using Nat.le_of_dvd (by omega) (Int.gcd_dvd_natAbs_right x y))) ly
        have hgq := frac_pos (x := x) hy'
        refine (c_GCD _ _ x y _ _ hL.vw (fx.le leX) (fy.le leX)).mono ?_
        rintro e W5 ⟨v5, m5, rfl, hE, hM5, hV, h5⟩
        replace hL := hL.call hE (by assumption) hV; clear hE hV
        obtain ⟨g5, A5, n5, c5, rfl, h5⟩ := h5.lit
        generalize Int.gcd x y = gg at *
        go_wp2_with (first | ((with_reducible refine kAny ?_); go_skip) | (with_reducible refine stA ?_) | ((first | refine tLd ?_ | (refine tSr ?_; clear hL; intro _ hL; simp only [zq2, zq3] at hL) | (refine tSt ?_; clear hL; intro _ hL; simp only [splice, zq1, zq2, zq3] at hL) | (refine tBx ?_; clear hL; intro _ _ hL _) | (refine tAl ?_; clear hL; intro _ _ hL _)); simp only [Act.put, zq1, zq2, zq3]))
        refine (c_DivMod _ _ x gg _ _ hL.vw (fx.le leX) ((h5.toV hgl).le leX) (by omega)).mono ?_
        rintro e W6 ⟨_, m6, rfl, hE, hM6, hV, q6, r6, rfl, h6, k6⟩
        replace hL := hL.call hE (by assumption) hV; clear hE hV
        obtain ⟨g6, A6, n6, c6, rfl, h6⟩ := h6.lit
        obtain ⟨g7, A7, n7, c7, rfl, k6⟩ := k6.lit
        have lq : (digs (x / (gg : Int)).natAbs).length ≤ 1000 := Nat.le_trans (length_digs_mono (Int.natAbs_ediv_le_natAbs _ _)) lx
        have lr : (digs (y / (gg : Int)).natAbs).length ≤ 1000 := Nat.le_trans (length_digs_mono (Int.natAbs_ediv_le_natAbs _ _)) ly
        have HQ := Lib.hid hgq
        clear hgq k6
        go_wp2_with (first | ((with_reducible refine kAny ?_); go_skip) | (with_reducible refine stA ?_) | ((first | refine tLd ?_ | (refine tSr ?_; clear hL; intro _ hL; simp only [zq2, zq3] at hL) | (refine tSt ?_; clear hL; intro _ hL; simp only [splice, zq1, zq2, zq3] at hL) | (refine tBx ?_; clear hL; intro _ _ hL _) | (refine tAl ?_; clear hL; intro _ _ hL _)); simp only [Act.put, zq1, zq2, zq3]))
        refine (c_DivMod _ _ y gg _ _ hL.vw (fy.le leX) ((h5.toV hgl).le leX) (by omega)).mono ?_
        rintro e W7 ⟨_, m7, rfl, hE, hM7, hV, q8, r8, rfl, h8, k8⟩
        replace hL := hL.call hE (by assumption) hV; clear hE hV
        obtain ⟨g8, A8, n8, c8, rfl, h8⟩ := h8.lit
        obtain ⟨g9, A9, n9, c9, rfl, k8⟩ := k8.lit
        clear k8
        go_upto_region 9 with ((first | ((with_reducible refine kAny ?_); go_skip) | (with_reducible refine stA ?_) | ((first | refine tLd ?_ | (refine tSr ?_; clear hL; intro _ hL; simp only [zq2, zq3] at hL) | (refine tSt ?_; clear hL; intro _ hL; simp only [splice, zq1, zq2, zq3] at hL) | (refine tBx ?_; clear hL; intro _ _ hL _) | (refine tAl ?_; clear hL; intro _ _ hL _)); simp only [Act.put, zq1, zq2, zq3])))
        refine wp_region_by2 4 [false, false, false, false] [false, false, false, false] [(fun v _ _ => v = ?c9_0b), (CanO w.heap.size (x / (gg : Int))), (fun v _ _ => v = ?c9_2b), Of (fun um v => IntC um v (y / (gg : Int)))] hL.vw mixed [48, 49, 50, 51] _ (by kernel_rfl) (fun vs => by simp only [lay, Act.put, zq1, zq2, zq3]; rfl) (by kernel_rfl) (by decide) (by decide) ?s9b ?l9b ?r9b
        case s9b =>
          refine ⟨?_, ?_, ?_, ?_, trivial⟩
          · intro vs W1 m1 hE hM hV hD
            clear hD
            replace hL := hL.call hE hM hV
            exact sLd
          · intro vs W1 m1 hE hM hV hD
            obtain ⟨⟨_, _, -, -, f48⟩, -⟩ := hD
            have f48 : vs 48 = _ := f48
            generalize vs 48 = x48 at f48 ⊢
            subst x48
            (go_wp2_with fail; refine (c_CanonW _ _ _ _ hV ((h6.toV lq).le leX)).mono ?_; rintro e W2 ⟨v, m2, rfl, hE2, hM2, hV2, h⟩; go_wp2_with fail; refine One2.call hE2 hM2 hV2 ?_; exact h.base (Nat.le_trans hL.ext.size hE.size))
          · intro vs W1 m1 hE hM hV hD
            clear hD
            replace hL := hL.call hE hM hV
            exact sLd
          · intro vs W1 m1 hE hM hV hD
            obtain ⟨⟨_, _, -, -, f50⟩, -, -⟩ := hD
            have f50 : vs 50 = _ := f50
            generalize vs 50 = x50 at f50 ⊢
            subst x50
            go_wp2_with fail
            refine (c_Canon _ _ _ _ hV ((h8.toV lr).le leX)).mono ?_
            rintro e W2 ⟨v, m2, rfl, hE2, hM2, hV2, h⟩
            go_wp2_with fail
            refine One2.call hE2 hM2 hV2 ?_; first | exact h | exact rfl
        case l9b =>
          refine ⟨fun h => (by cases h), fun h => (by cases h), fun h => (by cases h), fun h => (by cases h), trivial⟩
        intro vs W1 m1 hE hM hV hF hD
        clear hD
        obtain ⟨-, ⟨_, _, j49, i49, f49⟩, -, ⟨_, _, -, i51, f51⟩, -⟩ := hF
        replace hL := hL.call hE hM hV
        replace f51 : IntC _ (vs 51) (y / (gg : Int)) := f51
        replace f51 := f51.le i51.le
        clear i51
        obtain ⟨g51, A51, n51, c51, e51, f51⟩ := f51.lit
        generalize vs 51 = x51 at e51 ⊢
        subst x51
        clear hE hV
        obtain ⟨A49, c49, e49, ow⟩ := IntO.litE f49 j49
        generalize vs 49 = x49 at e49 ⊢
        subst x49
        obtain ⟨R, m3, hL3, row⟩ := hL.reown ow (Nat.le_refl _) (by simp)
        simp only [List.cons_append, List.nil_append] at hL3
        clear hL ow
        have hL := hL3
        clear hL3 i49 j49
        simp only [List.drop_succ_cons, List.drop_zero]
        go_wp2_with (first | ((with_reducible refine kAny ?_); go_skip) | (with_reducible refine stA ?_) | ((first | refine tLd ?_ | (refine tSr ?_; clear hL; intro _ hL; simp only [zq2, zq3] at hL) | (refine tSt ?_; clear hL; intro _ hL; simp only [splice, zq1, zq2, zq3] at hL) | (refine tBx ?_; clear hL; intro _ _ hL _) | (refine tAl ?_; clear hL; intro _ _ hL _)); simp only [Act.put, zq1, zq2, zq3]))
        refine QN.mk ?_
        go_wp2_with (first | ((with_reducible refine kAny ?_); go_skip) | (with_reducible refine stA ?_) | ((first | refine tLd ?_ | (refine tSr ?_; clear hL; intro _ hL; simp only [zq2, zq3] at hL) | (refine tSt ?_; clear hL; intro _ hL; simp only [splice, zq1, zq2, zq3] at hL) | (refine tBx ?_; clear hL; intro _ _ hL _) | (refine tAl ?_; clear hL; intro _ _ hL _)); simp only [Act.put, zq1, zq2, zq3]))
        refine fin_aggP hL Tryz.results66 rfl rfl loX ag_Frac rfl (RetW.mk hL ?_)
        exact ⟨_, _, _, _, _, _, rfl, by rw [HQ.out.1]; exact ⟨_, rfl, hL.ownS (fun x hx => by simp [hx]) row⟩⟩

set_option maxRecDepth 100000 in
set_option maxHeartbeats 8000000 in
theorem r_MulO (a b : Value) (p q : Rat) (w m : World) (hV : Vw m w) (ha : FracV m a p) (hb : FracV m b q) (kp : Fit 200 p) (kq : Fit 200 q) :
    Calls Tryz.prog 25 #[a, b] w (RetW w m fun w' _ r => NumO w.heap.size w' r (p * q).num) := by
  have hq := Lib.hid (rat_mul p q)
  have l1 := Nat.le_trans (mul_len kp.n kq.n) (show 200 + 200 ≤ 1000 by omega)
  have l2 := Nat.le_trans (mul_len kp.d kq.d) (show 200 + 200 ≤ 1000 by omega)
  obtain ⟨_, _, g1, A1, n1, c1, h1, B1, k1, d1, rfl, -, -, -⟩ := ha.lit
  obtain ⟨_, _, g2, A2, n2, c2, h2, B2, k2, d2, rfl, -, -, -⟩ := hb.lit
  have hL := Loc.start hV
  clear hV
  go_enter Tryz.func25, Tryz.ntmps25
  go_upto_region 1 with ((first | ((with_reducible refine kAny ?_); go_skip) | (with_reducible refine stA ?_) | ((first | refine tFd ?_ | refine tLd ?_ | (refine tSr ?_; clear hL; intro _ hL; simp only [zq2, zq3] at hL) | (refine tSt ?_; clear hL; intro _ hL; simp only [splice, zq1, zq2, zq3] at hL) | (refine tBx ?_; clear hL; intro _ _ hL _) | (refine tAl ?_; clear hL; intro _ _ hL _)); simp only [Act.put, zq1, zq2, zq3])))
  refine wp_region_by2 4 [false, false, false, false] [false, false, false, false] [(fun v _ _ => v = ?c1_0), Of (fun um v => FracC um v p), (fun v _ _ => v = ?c1_2), Of (fun um v => FracC um v q)] hL.vw mixed [5, 6, 7, 8] _ (by kernel_rfl) (fun vs => by simp only [lay, Act.put, zq1, zq2, zq3]; rfl) (by kernel_rfl) (by decide) (by decide) ?s1 ?l1 ?r1
  case s1 =>
    refine ⟨?_, ?_, ?_, ?_, trivial⟩
    · intro vs W1 m1 hE hM hV hD
      clear hD
      replace hL := hL.call hE hM hV
      exact sLd
    · intro vs W1 m1 hE hM hV hD
      obtain ⟨⟨_, _, -, -, f5⟩, -⟩ := hD
      have f5 : vs 5 = _ := f5
      generalize vs 5 = x5 at f5 ⊢
      subst x5
      go_wp2_with fail
      refine (r_Canon _ p _ _ hV (ha.le leX)).mono ?_
      rintro e W2 ⟨v, m2, rfl, hE2, hM2, hV2, h⟩
      go_wp2_with fail
      refine One2.call hE2 hM2 hV2 ?_; first | exact h | exact rfl
    · intro vs W1 m1 hE hM hV hD
      clear hD
      replace hL := hL.call hE hM hV
      exact sLd
    · intro vs W1 m1 hE hM hV hD
      obtain ⟨⟨_, _, -, -, f7⟩, -, -⟩ := hD
      have f7 : vs 7 = _ := f7
      generalize vs 7 = x7 at f7 ⊢
      subst x7
      go_wp2_with fail
      refine (r_Canon _ q _ _ hV (hb.le leX)).mono ?_
      rintro e W2 ⟨v, m2, rfl, hE2, hM2, hV2, h⟩
      go_wp2_with fail
      refine One2.call hE2 hM2 hV2 ?_; first | exact h | exact rfl
  case l1 =>
    refine ⟨fun h => (by cases h), fun h => (by cases h), fun h => (by cases h), fun h => (by cases h), trivial⟩
  intro vs W1 m1 hE hM hV hF hD
  clear hD
  obtain ⟨-, ⟨_, _, -, i6, f6⟩, -, ⟨_, _, -, i8, f8⟩, -⟩ := hF
  replace hL := hL.call hE hM hV
  replace f6 : FracC _ (vs 6) p := f6
  replace f6 := f6.le i6.le
  clear i6
  obtain ⟨g6, A6, n6, c6, h6, B6, k6, d6, e6, f6⟩ := f6.lit
  generalize vs 6 = x6 at e6 ⊢
  subst x6
  replace f8 : FracC _ (vs 8) q := f8
  replace f8 := f8.le i8.le
  clear i8
  obtain ⟨g8, A8, n8, c8, h8, B8, k8, d8, e8, f8⟩ := f8.lit
  generalize vs 8 = x8 at e8 ⊢
  subst x8
  clear hE hV
  simp only [List.drop_succ_cons, List.drop_zero]
  go_wp2_with (first | ((with_reducible refine kAny ?_); go_skip) | (with_reducible refine stA ?_) | ((first | refine tFd ?_ | refine tLd ?_ | (refine tSr ?_; clear hL; intro _ hL; simp only [zq2, zq3] at hL) | (refine tSt ?_; clear hL; intro _ hL; simp only [splice, zq1, zq2, zq3] at hL) | (refine tBx ?_; clear hL; intro _ _ hL _) | (refine tAl ?_; clear hL; intro _ _ hL _)); simp only [Act.put, zq1, zq2, zq3]))
  refine QN.mk ?_
  obtain ⟨a1, a2⟩ := f6.open_
  obtain ⟨b1, b2⟩ := f8.open_
  replace a1 := a1.toV (kp.num (by omega))
  replace a2 := a2.toV (kp.den (by omega))
  replace b1 := b1.toV (kq.num (by omega))
  replace b2 := b2.toV (kq.den (by omega))
  clear f6 f8
  go_upto_region 2 with ((first | ((with_reducible refine kAny ?_); go_skip) | (with_reducible refine stA ?_) | ((first | refine tFd ?_ | refine tLd ?_ | (refine tSr ?_; clear hL; intro _ hL; simp only [zq2, zq3] at hL) | (refine tSt ?_; clear hL; intro _ hL; simp only [splice, zq1, zq2, zq3] at hL) | (refine tBx ?_; clear hL; intro _ _ hL _) | (refine tAl ?_; clear hL; intro _ _ hL _)); simp only [Act.put, zq1, zq2, zq3])))
  refine wp_region_by2 11 [false, false, false, false, false, false, false, false, false, false, false] [false, false, false, false, false, false, false, false, false, false, false] [(fun v _ _ => v = ?c2_0), (fun v _ _ => v = ?c2_1), (fun v _ _ => v = ?c2_2), (fun v _ _ => v = ?c2_3), Of (fun um v => IntC um v (p.num * q.num)), (fun v _ _ => v = ?c2_5), (fun v _ _ => v = ?c2_6), (fun v _ _ => v = ?c2_7), (fun v _ _ => v = ?c2_8), Of (fun um v => IntC um v (p.den * q.den : Int)), (NumF w.heap.size (Rat.divInt (p.num * q.num) (p.den * q.den : Int)).num)] hL.vw mixed [9, 10, 11, 12, 13, 14, 15, 16, 17, 18, 19] _ (by kernel_rfl) (fun vs => by simp only [lay, Act.put, zq1, zq2, zq3]; rfl) (by kernel_rfl) (by decide) (by decide) ?s2 ?l2 ?r2
  case s2 =>
    refine ⟨?_, ?_, ?_, ?_, ?_, ?_, ?_, ?_, ?_, ?_, ?_, trivial⟩
    · intro vs W1 m1 hE hM hV hD
      clear hD
      replace hL := hL.call hE hM hV
      exact sFd
    · intro vs W1 m1 hE hM hV hD
      obtain ⟨⟨_, _, -, -, f9⟩, -⟩ := hD
      have f9 : vs 9 = _ := f9
      generalize vs 9 = x9 at f9 ⊢
      subst x9
      replace hL := hL.call hE hM hV
      exact sLd
    · intro vs W1 m1 hE hM hV hD
      clear hD
      replace hL := hL.call hE hM hV
      exact sFd
    · intro vs W1 m1 hE hM hV hD
      obtain ⟨⟨_, _, -, -, f11⟩, -⟩ := hD
      have f11 : vs 11 = _ := f11
      generalize vs 11 = x11 at f11 ⊢
      subst x11
      replace hL := hL.call hE hM hV
      exact sLd
    · intro vs W1 m1 hE hM hV hD
      obtain ⟨⟨_, _, -, -, f10⟩, ⟨_, _, -, -, f12⟩, -⟩ := hD
      have f10 : vs 10 = _ := f10
      generalize vs 10 = x10 at f10 ⊢
      subst x10
      have f12 : vs 12 = _ := f12
      generalize vs 12 = x12 at f12 ⊢
      subst x12
      go_wp2_with fail
      refine (c_Mul _ _ _ _ _ _ hV (a1.le leX) (b1.le leX)).mono ?_
      rintro e W2 ⟨v, m2, rfl, hE2, hM2, hV2, h⟩
      go_wp2_with fail
      refine One2.call hE2 hM2 hV2 ?_; first | exact h | exact rfl
    · intro vs W1 m1 hE hM hV hD
      clear hD
      replace hL := hL.call hE hM hV
      exact sFd
    · intro vs W1 m1 hE hM hV hD
      obtain ⟨⟨_, _, -, -, f14⟩, -⟩ := hD
      have f14 : vs 14 = _ := f14
      generalize vs 14 = x14 at f14 ⊢
      subst x14
      replace hL := hL.call hE hM hV
      exact sLd
    · intro vs W1 m1 hE hM hV hD
      clear hD
      replace hL := hL.call hE hM hV
      exact sFd
    · intro vs W1 m1 hE hM hV hD
      obtain ⟨⟨_, _, -, -, f16⟩, -⟩ := hD
      have f16 : vs 16 = _ := f16
      generalize vs 16 = x16 at f16 ⊢
      subst x16
      replace hL := hL.call hE hM hV
      exact sLd
    · intro vs W1 m1 hE hM hV hD
      obtain ⟨⟨_, _, -, -, f15⟩, ⟨_, _, -, -, f17⟩, -, -⟩ := hD
      have f15 : vs 15 = _ := f15
      generalize vs 15 = x15 at f15 ⊢
      subst x15
      have f17 : vs 17 = _ := f17
      generalize vs 17 = x17 at f17 ⊢
      subst x17
      go_wp2_with fail
      refine (c_Mul _ _ _ _ _ _ hV (a2.le leX) (b2.le leX)).mono ?_
      rintro e W2 ⟨v, m2, rfl, hE2, hM2, hV2, h⟩
      go_wp2_with fail
      refine One2.call hE2 hM2 hV2 ?_; first | exact h | exact rfl
    · intro vs W1 m1 hE hM hV hD
      obtain ⟨⟨_, _, -, i13, f13⟩, ⟨_, _, -, i18, f18⟩, -, -⟩ := hD
      have f13 : IntC _ (vs 13) (p.num * q.num) := f13
      replace f13 := f13.le i13.le
      clear i13
      have f18 : IntC _ (vs 18) (p.den * q.den : Int) := f18
      replace f18 := f18.le i18.le
      clear i18
      (go_wp2_with fail; refine (r_NewO _ _ _ _ _ _ hV (f13.toV l1) (f18.toV l2)).mono ?_; rintro e W2 ⟨v, m2, rfl, hE2, hM2, hV2, h⟩; go_wp2_with fail; refine One2.call hE2 hM2 hV2 ?_; exact h.base (Nat.le_trans hL.ext.size hE.size))
  case l2 =>
    refine ⟨fun h => (by cases h), fun h => (by cases h), fun h => (by cases h), fun h => (by cases h), fun h => (by cases h), fun h => (by cases h), fun h => (by cases h), fun h => (by cases h), fun h => (by cases h), fun h => (by cases h), fun h => (by cases h), trivial⟩
  intro vs W1 m1 hE hM hV hF hD
  clear hD
  obtain ⟨-, -, -, -, ⟨_, _, -, i13, f13⟩, -, -, -, -, ⟨_, _, -, i18, f18⟩, ⟨_, _, j19, i19, f19⟩, -⟩ := hF
  replace hL := hL.call hE hM hV
  replace f13 : IntC _ (vs 13) (p.num * q.num) := f13
  replace f13 := f13.le i13.le
  clear i13
  replace f18 : IntC _ (vs 18) (p.den * q.den : Int) := f18
  replace f18 := f18.le i18.le
  clear i18
  clear hE hV
  obtain ⟨A19, c19, y1, y2, y3, y4, e19, ow⟩ := NumO.litE f19 j19
  generalize vs 19 = x19 at e19 ⊢
  subst x19
  obtain ⟨R, m3, hL3, row⟩ := hL.reown ow (Nat.le_refl _) (by simp)
  simp only [List.cons_append, List.nil_append] at hL3
  clear hL ow
  have hL := hL3
  clear hL3 i19 j19 f13 f18
  simp only [List.drop_succ_cons, List.drop_zero]
  go_wp2_with (first | ((with_reducible refine kAny ?_); go_skip) | (with_reducible refine stA ?_) | ((first | refine tFd ?_ | refine tLd ?_ | (refine tSr ?_; clear hL; intro _ hL; simp only [zq2, zq3] at hL) | (refine tSt ?_; clear hL; intro _ hL; simp only [splice, zq1, zq2, zq3] at hL) | (refine tBx ?_; clear hL; intro _ _ hL _) | (refine tAl ?_; clear hL; intro _ _ hL _)); simp only [Act.put, zq1, zq2, zq3]))
  refine QN.mk ?_
  go_wp2_with (first | ((with_reducible refine kAny ?_); go_skip) | (with_reducible refine stA ?_) | ((first | refine tFd ?_ | refine tLd ?_ | (refine tSr ?_; clear hL; intro _ hL; simp only [zq2, zq3] at hL) | (refine tSt ?_; clear hL; intro _ hL; simp only [splice, zq1, zq2, zq3] at hL) | (refine tBx ?_; clear hL; intro _ _ hL _) | (refine tAl ?_; clear hL; intro _ _ hL _)); simp only [Act.put, zq1, zq2, zq3]))
  refine fin_aggP hL Tryz.results25 rfl rfl loX ag_Frac rfl (RetW.mk hL ?_)
  rw [hq.out]; exact ⟨_, _, _, _, _, _, rfl, _, rfl, hL.ownS (fun x hx => by simp [hx]) row⟩
end Go.Proofs.YtmhkmmmompediaaGreat

/- Contract of pairingdata.times: its result's digits lie in a row of the caller's own. -/
namespace Go.Proofs.YtmhkmmmompediaaGreat
open Go.RowKit

theorem rat_one (x : Int) : Rat.divInt x 1 = (x : Rat) := by rw [← Rat.num_divInt_den (x : Rat)]; simp
theorem num_mul (x y : Int) : (Rat.divInt x 1 * Rat.divInt y 1).num = x * y := by
  rw [rat_one, rat_one, ← Rat.intCast_mul, Rat.num_intCast]
/-- An integer, and its digits in a row of the caller's own. -/
def IntW (B : Nat) (z : Int) : Fct := fun v u um => IntC um v z ∧ IntO u B v z
theorem IntW.base {u um : World} {B B' : Nat} {v : Value} {z : Int} (h : IntW B' z v u um) (hB : B ≤ B') : IntW B z v u um := ⟨h.1, h.2.base hB⟩

set_option maxRecDepth 100000 in
set_option maxHeartbeats 8000000 in
theorem d_times (a b : Value) (x y : Int) (w m : World) (hV : Vw m w) (ha : IntV m a x) (hb : IntV m b y) (hx : x.natAbs < 4294967296) (hy : y.natAbs < 4294967296) :
    Calls Tryz.prog 75 #[a, b] w (RetW w m fun w' m' v => IntW w.heap.size (x * y) v w' m') := by
  have HA := Lib.hid ha
  have HB := Lib.hid hb
  obtain ⟨g1, A1, n1, c1, rfl⟩ := ha.lit
  obtain ⟨g2, A2, n2, c2, rfl⟩ := hb.lit
  have K1 : Hid (Fit 200 (Rat.divInt x 1)) := by show Fit _ _; rw [rat_one]; exact fit_int x hx
  have K2 : Hid (Fit 200 (Rat.divInt y 1)) := by show Fit _ _; rw [rat_one]; exact fit_int y hy
  have E := Lib.hid (num_mul x y)
  have hL := Loc.start hV
  clear hV hx hy ha hb
  go_enter Tryz.func75, Tryz.ntmps75
  go_upto_region 1 with ((first | ((with_reducible refine kAny ?_); go_skip) | (with_reducible refine stA ?_) | ((first | refine tLd ?_ | (refine tSr ?_; clear hL; intro _ hL; simp only [zq2, zq3] at hL) | (refine tSt ?_; clear hL; intro _ hL; simp only [splice, zq1, zq2, zq3] at hL) | (refine tBx ?_; clear hL; intro _ _ hL _) | (refine tAl ?_; clear hL; intro _ _ hL _) | refine tFl ?_); simp only [Act.put, zq1, zq2, zq3])))
  have ha := HA.out
  have hb := HB.out
  refine wp_region_by2 10 [false, false, false, false, false, false, false, false, false, false] [false, false, false, false, false, false, false, false, false, false] [(fun v _ _ => v = ?c1_0), Of (fun um v => FracC um v ((1 : Int) : Rat)), Of (fun um v => IntC um v 1), Of (fun um v => FracV um v (Rat.divInt x 1)), (fun v _ _ => v = ?c1_4), Of (fun um v => FracC um v ((1 : Int) : Rat)), Of (fun um v => IntC um v 1), Of (fun um v => FracV um v (Rat.divInt y 1)), (NumF w.heap.size (Rat.divInt x 1 * Rat.divInt y 1).num), (CanO w.heap.size (x * y))] hL.vw mixed [5, 6, 7, 8, 9, 10, 11, 12, 13, 14] _ (by kernel_rfl) (fun vs => by simp only [lay, Act.put, zq1, zq2, zq3]; rfl) (by kernel_rfl) (by decide) (by decide) ?s1 ?l1 ?r1
  case s1 =>
    refine ⟨?_, ?_, ?_, ?_, ?_, ?_, ?_, ?_, ?_, ?_, trivial⟩
    · intro vs W1 m1 hE hM hV hD
      clear hD
      replace hL := hL.call hE hM hV
      exact sLd
    · intro vs W1 m1 hE hM hV hD
      clear hD
      go_wp2_with fail
      refine (r_Int 1 _ _ hV (by decide) (by decide)).mono ?_
      rintro e W2 ⟨v, m2, rfl, hE2, hM2, hV2, h⟩
      go_wp2_with fail
      refine One2.call hE2 hM2 hV2 ?_; first | exact h | exact rfl
    · intro vs W1 m1 hE hM hV hD
      obtain ⟨⟨_, _, -, i6, f6⟩, -⟩ := hD
      have f6 : FracC _ (vs 6) ((1 : Int) : Rat) := f6
      replace f6 := f6.le i6.le
      clear i6
      (obtain ⟨g6, A6, n6, c6, h6, B6, k6, d6, e6, f6⟩ := f6.lit; generalize vs 6 = x6 at e6 ⊢; subst x6; replace hL := hL.call hE hM hV; go_wp2_with (first | ((with_reducible refine kAny ?_); go_skip) | (with_reducible refine stA ?_) | ((first | refine tLd ?_ | (refine tSr ?_; clear hL; intro _ hL; simp only [zq2, zq3] at hL) | (refine tSt ?_; clear hL; intro _ hL; simp only [splice, zq1, zq2, zq3] at hL) | (refine tBx ?_; clear hL; intro _ _ hL _) | (refine tAl ?_; clear hL; intro _ _ hL _) | refine tFl ?_); simp only [Act.put, zq1, zq2, zq3])); refine One2.still hV ?_; exact f6.open_.1)
    · intro vs W1 m1 hE hM hV hD
      obtain ⟨⟨_, _, -, -, f5⟩, ⟨_, _, -, i7, f7⟩, -⟩ := hD
      have f5 : vs 5 = _ := f5
      generalize vs 5 = x5 at f5 ⊢
      subst x5
      have f7 : IntC _ (vs 7) 1 := f7
      replace f7 := f7.le i7.le
      clear i7
      (obtain ⟨g7, A7, n7, c7, e7, f7⟩ := f7.lit; generalize vs 7 = x7 at e7 ⊢; subst x7; go_wp2_with fail; refine One2.still hV ?_; exact ⟨x, 1, _, _, _, _, rfl, ha.le leX, f7.toV len_one, rfl⟩)
    · intro vs W1 m1 hE hM hV hD
      clear hD
      replace hL := hL.call hE hM hV
      exact sLd
    · intro vs W1 m1 hE hM hV hD
      clear hD
      go_wp2_with fail
      refine (r_Int 1 _ _ hV (by decide) (by decide)).mono ?_
      rintro e W2 ⟨v, m2, rfl, hE2, hM2, hV2, h⟩
      go_wp2_with fail
      refine One2.call hE2 hM2 hV2 ?_; first | exact h | exact rfl
    · intro vs W1 m1 hE hM hV hD
      obtain ⟨⟨_, _, -, i10, f10⟩, -⟩ := hD
      have f10 : FracC _ (vs 10) ((1 : Int) : Rat) := f10
      replace f10 := f10.le i10.le
      clear i10
      (obtain ⟨g6, A6, n6, c6, h6, B6, k6, d6, e6, f6⟩ := f10.lit; generalize vs 10 = x6 at e6 ⊢; subst x6; replace hL := hL.call hE hM hV; go_wp2_with (first | ((with_reducible refine kAny ?_); go_skip) | (with_reducible refine stA ?_) | ((first | refine tLd ?_ | (refine tSr ?_; clear hL; intro _ hL; simp only [zq2, zq3] at hL) | (refine tSt ?_; clear hL; intro _ hL; simp only [splice, zq1, zq2, zq3] at hL) | (refine tBx ?_; clear hL; intro _ _ hL _) | (refine tAl ?_; clear hL; intro _ _ hL _) | refine tFl ?_); simp only [Act.put, zq1, zq2, zq3])); refine One2.still hV ?_; exact f6.open_.1)
    · intro vs W1 m1 hE hM hV hD
      obtain ⟨⟨_, _, -, -, f9⟩, ⟨_, _, -, i11, f11⟩, -⟩ := hD
      have f9 : vs 9 = _ := f9
      generalize vs 9 = x9 at f9 ⊢
      subst x9
      have f11 : IntC _ (vs 11) 1 := f11
      replace f11 := f11.le i11.le
      clear i11
      (obtain ⟨g7, A7, n7, c7, e7, f7⟩ := f11.lit; generalize vs 11 = x7 at e7 ⊢; subst x7; go_wp2_with fail; refine One2.still hV ?_; exact ⟨y, 1, _, _, _, _, rfl, hb.le leX, f7.toV len_one, rfl⟩)
    · intro vs W1 m1 hE hM hV hD
      obtain ⟨⟨_, _, -, i8, f8⟩, ⟨_, _, -, i12, f12⟩, -, -⟩ := hD
      have f8 : FracV _ (vs 8) (Rat.divInt x 1) := f8
      replace f8 := f8.le i8.le
      clear i8
      have f12 : FracV _ (vs 12) (Rat.divInt y 1) := f12
      replace f12 := f12.le i12.le
      clear i12
      (go_wp2_with fail; refine (r_MulO _ _ _ _ _ _ hV f8 f12 K1.out K2.out).mono ?_; rintro e W2 ⟨v, m2, rfl, hE2, hM2, hV2, h⟩; go_wp2_with fail; refine One2.call hE2 hM2 hV2 ?_; exact h.base (Nat.le_trans hL.ext.size hE.size))
    · intro vs W1 m1 hE hM hV hD
      obtain ⟨⟨_, _, j13, i13, f13⟩, -⟩ := hD
      (obtain ⟨A6, c6, g7, B7, k7, d7, e6, ow⟩ := NumO.litE f13 j13; rw [E.out] at e6 ow; generalize vs 13 = x6 at e6 ⊢; subst x6; replace hL := hL.call hE hM hV; go_wp2_with (first | ((with_reducible refine kAny ?_); go_skip) | (with_reducible refine stA ?_) | ((first | refine tLd ?_ | (refine tSr ?_; clear hL; intro _ hL; simp only [zq2, zq3] at hL) | (refine tSt ?_; clear hL; intro _ hL; simp only [splice, zq1, zq2, zq3] at hL) | (refine tBx ?_; clear hL; intro _ _ hL _) | (refine tAl ?_; clear hL; intro _ _ hL _) | refine tFl ?_); simp only [Act.put, zq1, zq2, zq3])); refine One2.still hV ?_; exact ⟨_, rfl, ow⟩)
  case l1 =>
    refine ⟨fun h => (by cases h), fun h => (by cases h), fun h => (by cases h), fun h => (by cases h), fun h => (by cases h), fun h => (by cases h), fun h => (by cases h), fun h => (by cases h), fun h => (by cases h), fun h => (by cases h), trivial⟩
  intro vs W1 m1 hE hM hV hF hD
  clear hD
  obtain ⟨-, ⟨_, _, -, i6, f6⟩, ⟨_, _, -, i7, f7⟩, ⟨_, _, -, i8, f8⟩, -, ⟨_, _, -, i10, f10⟩, ⟨_, _, -, i11, f11⟩, ⟨_, _, -, i12, f12⟩, ⟨_, _, j13, i13, f13⟩, ⟨_, _, j14, i14, f14⟩, -⟩ := hF
  replace hL := hL.call hE hM hV
  replace f6 : FracC _ (vs 6) ((1 : Int) : Rat) := f6
  replace f6 := f6.le i6.le
  clear i6
  replace f7 : IntC _ (vs 7) 1 := f7
  replace f7 := f7.le i7.le
  clear i7
  replace f8 : FracV _ (vs 8) (Rat.divInt x 1) := f8
  replace f8 := f8.le i8.le
  clear i8
  replace f10 : FracC _ (vs 10) ((1 : Int) : Rat) := f10
  replace f10 := f10.le i10.le
  clear i10
  replace f11 : IntC _ (vs 11) 1 := f11
  replace f11 := f11.le i11.le
  clear i11
  replace f12 : FracV _ (vs 12) (Rat.divInt y 1) := f12
  replace f12 := f12.le i12.le
  clear i12
  clear hE hV
  obtain ⟨A14, c14, e14, ow⟩ := IntO.litE f14 j14
  generalize vs 14 = x14 at e14 ⊢
  subst x14
  obtain ⟨R, m3, hL3, row⟩ := hL.reown ow (Nat.le_refl _) (by simp)
  simp only [List.cons_append, List.nil_append] at hL3
  clear hL ow
  have hL := hL3
  clear hL3
  simp only [List.drop_succ_cons, List.drop_zero]
  go_wp2_with (first | ((with_reducible refine kAny ?_); go_skip) | (with_reducible refine stA ?_) | ((first | refine tLd ?_ | (refine tSr ?_; clear hL; intro _ hL; simp only [zq2, zq3] at hL) | (refine tSt ?_; clear hL; intro _ hL; simp only [splice, zq1, zq2, zq3] at hL) | (refine tBx ?_; clear hL; intro _ _ hL _) | (refine tAl ?_; clear hL; intro _ _ hL _) | refine tFl ?_); simp only [Act.put, zq1, zq2, zq3]))
  refine QN.mk ?_
  go_wp2_with (first | ((with_reducible refine kAny ?_); go_skip) | (with_reducible refine stA ?_) | ((first | refine tLd ?_ | (refine tSr ?_; clear hL; intro _ hL; simp only [zq2, zq3] at hL) | (refine tSt ?_; clear hL; intro _ hL; simp only [splice, zq1, zq2, zq3] at hL) | (refine tBx ?_; clear hL; intro _ _ hL _) | (refine tAl ?_; clear hL; intro _ _ hL _) | refine tFl ?_); simp only [Act.put, zq1, zq2, zq3]))
  obtain ⟨m9, B9, c9, hL9, hle9, e9, hc9, hs9, ho9⟩ := Loc.show (A := [_, _, _]) hL row
  refine fin_aggP hL Tryz.results75 rfl rfl loX ag_Int rfl ⟨_, m9, rfl, hL9.ext, hL9.mext, hL9.vw, ?_, _, rfl, ho9⟩
  injection e9 with e1 e2 e3
  subst e1 e3
  exact ⟨_, _, rfl, hc9, hs9⟩
end Go.Proofs.YtmhkmmmompediaaGreat

/- Contract of pairingdata.Wild where no digit is appended. -/
namespace Go.Proofs.YtmhkmmmompediaaGreat
open Go.RowKit

def wkT : List Int := [1, -1, 2, 0]
/-- The factor of Wild. -/
def wkF (n : Int) : Int := wkT.getD (n / 64 % 4).toNat 0
def wN (n : Int) : Int := (frF n).num * wkF n
def wD (n : Int) : Int := ((frF n).den : Int) * wkF n
theorem wkT_bd : ∀ j : Fin 4, (wkT.getD j.val 0).natAbs ≤ 2 := by decide
theorem wkF_bd (n : Int) : (wkF n).natAbs ≤ 2 := wkT_bd ⟨(n / 64 % 4).toNat, by omega⟩
theorem prod20 {a b : Int} (ha : a.natAbs ≤ 10) (hb : b.natAbs ≤ 2) : (a * b).natAbs ≤ 20 := by
  rw [Int.natAbs_mul]; exact Nat.mul_le_mul ha hb
theorem wN_bd (n : Int) : (wN n).natAbs ≤ 20 := prod20 (frT n).1 (wkF_bd n)
theorem wD_bd (n : Int) : (wD n).natAbs ≤ 20 := prod20 (by simpa using (frT n).2) (wkF_bd n)
theorem wk_cell {m : World} {g : Nat} {t : TypeId} {j : Nat} (h : Blk m g t #[.int .i64 1, .int .i64 (-1), .int .i64 2, .int .i64 0]) (hj : j < 4) : m.cell? ⟨g, 0 + j, none⟩ = some (.int .i64 (wkT.getD j 0)) := by
  rw [Nat.zero_add, h.cell]
  match j, hj with
  | 0, _ => rfl
  | 1, _ => rfl
  | 2, _ => rfl
  | 3, _ => rfl
theorem d_timesV (a b : Value) (x y : Int) (w m : World) (hV : Vw m w) (ha : IntV m a x) (hb : IntV m b y) (hx : x.natAbs < 4294967296) (hy : y.natAbs < 4294967296) :
    Calls Tryz.prog 75 #[a, b] w (RetV w m fun m' v => IntC m' v (x * y)) := by
  refine (d_times a b x y w m hV ha hb hx hy).mono ?_
  rintro e w' ⟨v, m', rfl, h1, h2, h3, h4⟩
  exact ⟨v, m', rfl, h1, h2, h3, h4.1⟩
theorem len_small {z : Int} (h : z.natAbs ≤ 20) : (digs z.natAbs).length ≤ 1000 := Nat.le_trans (len2 (by omega)) (by decide)
theorem frG_small {m : World} {a b c d : Value} {x y : Int} (h1 : IntC m (.agg #[a, b]) x) (h2 : IntC m (.agg #[c, d]) y) (b1 : x.natAbs ≤ 20) (b2 : y.natAbs ≤ 20) : FrG m (.agg #[a, b, c, d]) x y := by
  obtain ⟨g, A, n, c1, rfl, rfl⟩ := h1.parts
  obtain ⟨h, B, k, d1, rfl, rfl⟩ := h2.parts
  exact ⟨⟨_, _, _, _, _, _, _, _, rfl, h1.toV (len_small b1), h2.toV (len_small b2)⟩, .inl ⟨_, _, _, _, rfl, h1.toS (by omega), h2.toS (by omega), by omega, by omega⟩⟩

set_option maxRecDepth 100000 in
set_option maxHeartbeats 8000000 in
theorem d_WildA (n : Int) (w m : World) (hV : Vw m w) (h1 : -9223372036854775808 ≤ n) (h2 : n ≤ 9223372036854775807) (h8 : n / 256 % 4 ≠ 3) :
    Calls Tryz.prog 19 #[.int .i64 n] w (RetV w m fun m' r => FrG m' r (wN n) (wD n)) := by
  obtain ⟨j, hj⟩ : ∃ j : Nat, n / 64 % 4 = j := ⟨(n / 64 % 4).toNat, by omega⟩
  have j4 : j < 4 := by omega
  have e1 : bits .and .i64 (n / 64) 3 = (j : Int) := (i64_and2 (n / 64)).trans hj
  have e2 := i64_and2 (n / 256)
  have b8 : (n / 256 % 4 == 3) = false := by simp; omega
  have HW : Hid (wkF n = wkT.getD j 0) := by show wkT.getD _ 0 = _; rw [hj]; rfl
  have HK : Hid ((wkT.getD j 0).natAbs ≤ 2) := wkT_bd ⟨j, j4⟩
  have HF := Lib.hid (frT n)
  have KF : Hid (∀ w m, Vw m w → Calls Tryz.prog 64 #[.int .i64 n] w (RetV w m fun m' r => FracC m' r (frF n))) := by
    show ∀ w m, _
    exact fun w m hV => d_Frac n w m hV h1 h2
  have WN : Hid (wN n = (frF n).num * wkT.getD j 0) := by show (frF n).num * wkF n = _; rw [HW.out]
  have WD : Hid (wD n = ((frF n).den : Int) * wkT.getD j 0) := by show ((frF n).den : Int) * wkF n = _; rw [HW.out]
  have BN := Lib.hid (wN_bd n)
  have BD := Lib.hid (wD_bd n)
  generalize hk : wkT.getD j 0 = kk at *
  have HKK := Lib.hid hk
  have KI : Hid (∀ w m, Vw m w → Calls Tryz.prog 17 #[.int .i64 kk] w (RetV w m fun m' r => FracC m' r (kk : Rat))) := by
    show ∀ w m, _
    exact fun w m hV => r_Int kk w m hV (by have := HK.out; omega) (by have := HK.out; omega)
  have LK : Hid ((digs kk.natAbs).length ≤ 1000) := len_small (by have := HK.out; omega)
  have B1 : Hid ((frF n).num.natAbs < 4294967296) := by show _ < _; have := HF.out.1; omega
  have B2 : Hid (((frF n).den : Int).natAbs < 4294967296) := by show _ < _; have := HF.out.2; omega
  have B3 : Hid (kk.natAbs < 4294967296) := by show _ < _; have := HK.out; omega
  have L1 : Hid ((digs (frF n).num.natAbs).length ≤ 1000) := Nat.le_trans (len2 (by have := B1.out; omega)) (by decide)
  have L2 : Hid ((digs ((frF n).den : Int).natAbs).length ≤ 1000) := Nat.le_trans (len2 (by have := B2.out; omega)) (by decide)
  have hL := Loc.start hV
  clear hV h1 h2 h8 hj hk
  go_enter Tryz.func19, Tryz.ntmps19
  go_wp2_with (first | ((with_reducible refine kAny ?_); go_skip) | (with_reducible refine stA ?_) | ((first | refine tIx ?_ | refine tFd ?_ | refine tLd ?_ | (refine tSr ?_; clear hL; intro _ hL; simp only [zq2, zq3] at hL) | (refine tSt ?_; clear hL; intro _ hL; simp only [splice, zq1, zq2, zq3] at hL) | (refine tAl ?_; clear hL; intro _ _ hL _) | refine tFl ?_ | (refine tBs ?_; clear hL; intro _ _ hL _ hBs)); simp only [Act.put, zq1, zq2, zq3]))
  refine (KF.out _ _ hL.vw).mono ?_
  rintro e Wc1 ⟨vc1, mc1, rfl, hE, hMc1, hV, hc1⟩
  replace hL := hL.call hE (by assumption) hV; clear hE hV
  obtain ⟨gc1', Ac1', nc1', cc1', hc1', Bc1', kc1', dc1', rfl, hc1⟩ := hc1.lit
  go_upto_region 2 with ((first | ((with_reducible refine kAny ?_); go_skip) | (with_reducible refine stA ?_) | ((first | refine tIx ?_ | refine tFd ?_ | refine tLd ?_ | (refine tSr ?_; clear hL; intro _ hL; simp only [zq2, zq3] at hL) | (refine tSt ?_; clear hL; intro _ hL; simp only [splice, zq1, zq2, zq3] at hL) | (refine tAl ?_; clear hL; intro _ _ hL _) | refine tFl ?_ | (refine tBs ?_; clear hL; intro _ _ hL _ hBs)); simp only [Act.put, zq1, zq2, zq3])))
  refine wp_region_lit ?_
  refine wl_bslice hL (wanted_none rfl) rfl (n := 4) (cs := #[.int .i64 1, .int .i64 (-1), .int .i64 2, .int .i64 0]) (e := 3) (fun w => by go_simp) ?_
  clear hL
  intro Wa ma hL ea hab
  simp only [Act.put, zq1, zq2, zq3]
  have hj1 := wk_cell hab j4
  rw [HKK.out] at hj1
  clear hab
  go_wp2_with (first | ((with_reducible refine kAny ?_); go_skip) | (with_reducible refine stA ?_) | ((first | refine tIx ?_ | refine tFd ?_ | refine tLd ?_ | (refine tSr ?_; clear hL; intro _ hL; simp only [zq2, zq3] at hL) | (refine tSt ?_; clear hL; intro _ hL; simp only [splice, zq1, zq2, zq3] at hL) | (refine tAl ?_; clear hL; intro _ _ hL _) | refine tFl ?_ | (refine tBs ?_; clear hL; intro _ _ hL _ hBs)); simp only [Act.put, zq1, zq2, zq3]))
  refine (KI.out _ _ hL.vw).mono ?_
  rintro e Wc2 ⟨vc2, mc2, rfl, hE, hMc2, hV, hc2⟩
  replace hL := hL.call hE (by assumption) hV; clear hE hV
  obtain ⟨gc2', Ac2', nc2', cc2', hc2', Bc2', kc2', dc2', rfl, hc2⟩ := hc2.lit
  clear hj1
  go_upto_region 3 with ((first | ((with_reducible refine kAny ?_); go_skip) | (with_reducible refine stA ?_) | ((first | refine tIx ?_ | refine tFd ?_ | refine tLd ?_ | (refine tSr ?_; clear hL; intro _ hL; simp only [zq2, zq3] at hL) | (refine tSt ?_; clear hL; intro _ hL; simp only [splice, zq1, zq2, zq3] at hL) | (refine tAl ?_; clear hL; intro _ _ hL _) | refine tFl ?_ | (refine tBs ?_; clear hL; intro _ _ hL _ hBs)); simp only [Act.put, zq1, zq2, zq3])))
  refine wp_region_lit ?_
  refine wl_bslice hL (wanted_none rfl) rfl (n := 4) (cs := #[.int .i64 1, .int .i64 (-1), .int .i64 2, .int .i64 0]) (e := 3) (fun w => by go_simp) ?_
  clear hL
  intro Wb mb hL eb hbb
  simp only [Act.put, zq1, zq2, zq3]
  have hj2 := wk_cell hbb j4
  rw [HKK.out] at hj2
  clear hbb
  go_wp2_with (first | ((with_reducible refine kAny ?_); go_skip) | (with_reducible refine stA ?_) | ((first | refine tIx ?_ | refine tFd ?_ | refine tLd ?_ | (refine tSr ?_; clear hL; intro _ hL; simp only [zq2, zq3] at hL) | (refine tSt ?_; clear hL; intro _ hL; simp only [splice, zq1, zq2, zq3] at hL) | (refine tAl ?_; clear hL; intro _ _ hL _) | refine tFl ?_ | (refine tBs ?_; clear hL; intro _ _ hL _ hBs)); simp only [Act.put, zq1, zq2, zq3]))
  refine (KI.out _ _ hL.vw).mono ?_
  rintro e Wc3 ⟨vc3, mc3, rfl, hE, hMc3, hV, hc3⟩
  replace hL := hL.call hE (by assumption) hV; clear hE hV
  obtain ⟨gc3', Ac3', nc3', cc3', hc3', Bc3', kc3', dc3', rfl, hc3⟩ := hc3.lit
  clear hj2
  obtain ⟨f1, f2⟩ := hc1.open_
  obtain ⟨q1, -⟩ := hc2.open_
  obtain ⟨q2, -⟩ := hc3.open_
  clear hc1 hc2 hc3 e1 e2
  have e2 := i64_and2 (n / 256)
  go_upto_region 4 with ((first | ((with_reducible refine kAny ?_); go_skip) | (with_reducible refine stA ?_) | ((first | refine tIx ?_ | refine tFd ?_ | refine tLd ?_ | (refine tSr ?_; clear hL; intro _ hL; simp only [zq2, zq3] at hL) | (refine tSt ?_; clear hL; intro _ hL; simp only [splice, zq1, zq2, zq3] at hL) | (refine tAl ?_; clear hL; intro _ _ hL _) | refine tFl ?_ | (refine tBs ?_; clear hL; intro _ _ hL _ hBs)); simp only [Act.put, zq1, zq2, zq3])))
  refine wp_region_by2 9 [false, false, false, false, false, false, false, false, false] [false, false, false, false, false, false, false, false, false] [(fun v _ _ => v = ?c4_0), (fun v _ _ => v = ?c4_1), (fun v _ _ => v = ?c4_2), Of (fun um v => IntC um v ((frF n).num * kk)), (fun v _ _ => v = ?c4_4), (fun v _ _ => v = ?c4_5), (fun v _ _ => v = ?c4_6), Of (fun um v => IntC um v (((frF n).den : Int) * kk)), (fun v _ _ => v = ?c4_8)] hL.vw mixed [24, 25, 26, 27, 28, 29, 30, 31, 32] _ (by kernel_rfl) (fun vs => by simp only [lay, Act.put, zq1, zq2, zq3]; rfl) (by kernel_rfl) (by decide) (by decide) ?s4 ?l4 ?r4
  case s4 =>
    refine ⟨?_, ?_, ?_, ?_, ?_, ?_, ?_, ?_, ?_, trivial⟩
    · intro vs W1 m1 hE hM hV hD
      clear hD
      replace hL := hL.call hE hM hV
      exact sFd
    · intro vs W1 m1 hE hM hV hD
      obtain ⟨⟨_, _, -, -, f24⟩, -⟩ := hD
      have f24 : vs 24 = _ := f24
      generalize vs 24 = x24 at f24 ⊢
      subst x24
      replace hL := hL.call hE hM hV
      exact sLd
    · intro vs W1 m1 hE hM hV hD
      clear hD
      replace hL := hL.call hE hM hV
      exact sLd
    · intro vs W1 m1 hE hM hV hD
      obtain ⟨⟨_, _, -, -, f25⟩, ⟨_, _, -, -, f26⟩, -⟩ := hD
      have f25 : vs 25 = _ := f25
      generalize vs 25 = x25 at f25 ⊢
      subst x25
      have f26 : vs 26 = _ := f26
      generalize vs 26 = x26 at f26 ⊢
      subst x26
      go_wp2_with fail
      refine (d_timesV _ _ _ kk _ _ hV ((f1.toV L1.out).le leX) ((q1.toV LK.out).le leX) B1.out B3.out).mono ?_
      rintro e W2 ⟨v, m2, rfl, hE2, hM2, hV2, h⟩
      go_wp2_with fail
      refine One2.call hE2 hM2 hV2 ?_; first | exact h | exact rfl
    · intro vs W1 m1 hE hM hV hD
      clear hD
      replace hL := hL.call hE hM hV
      exact sFd
    · intro vs W1 m1 hE hM hV hD
      obtain ⟨⟨_, _, -, -, f28⟩, -⟩ := hD
      have f28 : vs 28 = _ := f28
      generalize vs 28 = x28 at f28 ⊢
      subst x28
      replace hL := hL.call hE hM hV
      exact sLd
    · intro vs W1 m1 hE hM hV hD
      clear hD
      replace hL := hL.call hE hM hV
      exact sLd
    · intro vs W1 m1 hE hM hV hD
      obtain ⟨⟨_, _, -, -, f29⟩, ⟨_, _, -, -, f30⟩, -, -⟩ := hD
      have f29 : vs 29 = _ := f29
      generalize vs 29 = x29 at f29 ⊢
      subst x29
      have f30 : vs 30 = _ := f30
      generalize vs 30 = x30 at f30 ⊢
      subst x30
      go_wp2_with fail
      refine (d_timesV _ _ _ kk _ _ hV ((f2.toV L2.out).le leX) ((q2.toV LK.out).le leX) B2.out B3.out).mono ?_
      rintro e W2 ⟨v, m2, rfl, hE2, hM2, hV2, h⟩
      go_wp2_with fail
      refine One2.call hE2 hM2 hV2 ?_; first | exact h | exact rfl
    · intro vs W1 m1 hE hM hV hD
      clear hD
      replace hL := hL.call hE hM hV
      exact sFd
  case l4 =>
    refine ⟨fun h => (by cases h), fun h => (by cases h), fun h => (by cases h), fun h => (by cases h), fun h => (by cases h), fun h => (by cases h), fun h => (by cases h), fun h => (by cases h), fun h => (by cases h), trivial⟩
  intro vs W1 m1 hE hM hV hF hD
  clear hD
  obtain ⟨-, -, -, ⟨_, _, -, i27, f27⟩, -, -, -, ⟨_, _, -, i31, f31⟩, ⟨_, _, -, -, f32⟩, -⟩ := hF
  replace hL := hL.call hE hM hV
  replace f27 : IntC _ (vs 27) ((frF n).num * kk) := f27
  replace f27 := f27.le i27.le
  clear i27
  obtain ⟨g27, A27, n27, c27, e27, f27⟩ := f27.lit
  generalize vs 27 = x27 at e27 ⊢
  subst x27
  replace f31 : IntC _ (vs 31) (((frF n).den : Int) * kk) := f31
  replace f31 := f31.le i31.le
  clear i31
  obtain ⟨g31, A31, n31, c31, e31, f31⟩ := f31.lit
  generalize vs 31 = x31 at e31 ⊢
  subst x31
  have f32 : vs 32 = _ := f32
  generalize vs 32 = x32 at f32 ⊢
  subst x32
  clear hE hV
  simp only [List.drop_succ_cons, List.drop_zero]
  go_wp2_with (first | ((with_reducible refine kAny ?_); go_skip) | (with_reducible refine stA ?_) | ((first | refine tIx ?_ | refine tFd ?_ | refine tLd ?_ | (refine tSr ?_; clear hL; intro _ hL; simp only [zq2, zq3] at hL) | (refine tSt ?_; clear hL; intro _ hL; simp only [splice, zq1, zq2, zq3] at hL) | (refine tAl ?_; clear hL; intro _ _ hL _) | refine tFl ?_ | (refine tBs ?_; clear hL; intro _ _ hL _ hBs)); simp only [Act.put, zq1, zq2, zq3]))
  refine QN.mk ?_
  go_wp2_with (first | ((with_reducible refine kAny ?_); go_skip) | (with_reducible refine stA ?_) | ((first | refine tIx ?_ | refine tFd ?_ | refine tLd ?_ | (refine tSr ?_; clear hL; intro _ hL; simp only [zq2, zq3] at hL) | (refine tSt ?_; clear hL; intro _ hL; simp only [splice, zq1, zq2, zq3] at hL) | (refine tAl ?_; clear hL; intro _ _ hL _) | refine tFl ?_ | (refine tBs ?_; clear hL; intro _ _ hL _ hBs)); simp only [Act.put, zq1, zq2, zq3]))
  refine fin_agg hL Tryz.results19 rfl rfl loX AgC.h (by exact rfl) ?_
  rw [← WN.out] at f27
  rw [← WD.out] at f31
  exact frG_small (f27.le leX) (f31.le leX) BN.out BD.out
end Go.Proofs.YtmhkmmmompediaaGreat

/- Regions that draw their order and store, late, into cells that they load before: the loads are taken first under a condition that holds till the first store. No program. -/
namespace Go.Proofs.YtmhkmmmompediaaGreat
open Go.RowKit
section
variable {P : Program} {ops : Array Oper} {Q : Exit → Act → World → Prop} {S : World → Prop}

/-- Whatever order is picked from here on; and S holds behind every operation as long as number s has not come up. -/
def wpL (P : Program) (ops : Array Oper) (Q : Exit → Act → World → Prop) (S : World → Prop) (s : Nat) : Nat → Array Bool → Act → World → Prop
  | 0, listed, a, w => Region.ready .any ops listed = [] ∧ Q .normal a w
  | fuel + 1, listed, a, w =>
    (Region.ready .any ops listed = [] → Q .normal a w) ∧
    ∀ i ∈ Region.ready .any ops listed, wpOp P ops Q i (fun a' w' => ((listed.setIfInBounds i true).getD s false = false → S w') ∧ wpL P ops Q S s fuel (listed.setIfInBounds i true) a' w') a w
theorem wpAny_of_L {s : Nat} : ∀ (fuel : Nat) (listed : Array Bool) (a : Act) (w : World), wpL P ops Q S s fuel listed a w → wpAny P .any ops Q fuel listed a w
  | 0, _, _, _, h => h
  | fuel + 1, _, _, _, h => ⟨h.1, fun i hi => wpOp_mono (fun a' w' h' => wpAny_of_L fuel _ a' w' h'.2) (h.2 i hi)⟩
theorem wpL_first {s i k : Nat} {oi os : Oper} {v : Value} (hi : ops[i]? = some oi) (hos : ops[s]? = some os) (hw : ∃ e ∈ os.after, Region.binds .any e = true ∧ e.on = k) (hk : k = i ∨ ∃ ok, ops[k]? = some ok ∧ ∃ e ∈ ok.after, Region.binds .any e = true ∧ e.on = i) (hsi : s ≠ i)
    (hsel : ∀ (j : Nat) (o : Oper) cs b, ops[j]? = some o → o.op ≠ .select cs b) (hQ : ∀ c a w, Q (.panic c) (a.put oi.dst v) w → Q (.panic c) a w) :
    ∀ (fuel : Nat) (listed : Array Bool) (a : Act) (w : World),
      (∀ j oj, ops[j]? = some oj → j ≠ i → listed.getD j true = false → (∀ e ∈ oj.after, Region.binds .any e = true → e.on ≠ i) → oi.apart ops oj = true) →
      i ∈ Region.ready .any ops listed → listed.getD s false = false → listed.getD k false = false → YieldsIf P ops S oi v a → S w →
      wpL P ops Q S s fuel (listed.setIfInBounds i true) (a.put oi.dst v) w → wpL P ops Q S s (fuel + 1) listed a w := by
  intro fuel
  induction fuel with
  | zero =>
    intro listed a w _ hr _ _ hy hS H
    refine ⟨fun h => (by rw [h] at hr; cases hr), fun j hj => ?_⟩
    by_cases hji : j = i
    · subst hji; exact hy.wpOp hi hS ⟨fun _ => hS, H⟩
    · have := ready_mono hj hji
      rw [H.1] at this
      cases this
  | succ fuel ih =>
    intro listed a w hfree hr hsl hkl hy hS H
    refine ⟨fun h => (by rw [h] at hr; cases hr), fun j hj => ?_⟩
    by_cases hji : j = i
    · subst hji; exact hy.wpOp hi hS ⟨fun _ => hS, H⟩
    · have h1 := H.2 j (ready_mono hj hji)
      obtain ⟨hjun, oj, hoj, hall⟩ := mem_ready.1 hj
      have hnot : ∀ e ∈ oj.after, Region.binds .any e = true → e.on ≠ i := fun e he hb heq => by
        have h1 := hall e he hb
        have h0 := (mem_ready.1 hr).1
        rw [heq] at h1
        rcases Nat.lt_or_ge i listed.size with h' | h'
        · simp [h'] at h0 h1; rw [h0] at h1; cases h1
        · simp [Array.getElem?_eq_none h'] at h1
      have hjs : j ≠ s := by
        rintro rfl
        rw [hos] at hoj
        obtain rfl := Option.some.inj hoj
        obtain ⟨e, he, hb, heq⟩ := hw
        have h9 := hall e he hb
        rw [heq, hkl] at h9
        cases h9
      have hjk : j ≠ k := by
        rintro rfl
        rcases hk with hk | ⟨ok, hok, e, he, hb, heq⟩
        · exact hji hk
        · rw [hok] at hoj
          obtain rfl := Option.some.inj hoj
          exact hnot e he hb heq
      have hkl' : (listed.setIfInBounds j true).getD k false = false := by rw [Go.getD_set_ne false hjk]; exact hkl
      have hsl' : (listed.setIfInBounds j true).getD s false = false := by rw [Go.getD_set_ne false hjs]; exact hsl
      have hsl2 : ((listed.setIfInBounds i true).setIfInBounds j true).getD s false = false := by rw [Go.getD_set_ne false hjs, Go.getD_set_ne false (Ne.symm hsi)]; exact hsl
      have h2 := wpOp_putIf hoj (hfree j oj hoj hji hjun hnot) (fun cs b => hsel i oi cs b hi) (fun cs b => hsel j oj cs b hoj) hQ hy h1
      have hfree' : ∀ k ok, ops[k]? = some ok → k ≠ i → (listed.setIfInBounds j true).getD k true = false →
          (∀ e ∈ ok.after, Region.binds .any e = true → e.on ≠ i) → oi.apart ops ok = true := fun k ok hk hki hun hno => by
        refine hfree k ok hk hki ?_ hno
        by_cases hjk : j = k
        · subst hjk; exact hjun
        · rw [Go.getD_set_ne true hjk] at hun; exact hun
      refine wpOp_mono (fun a' w' h3 => ⟨fun _ => h3.2.1 hsl2, ih (listed.setIfInBounds j true) a' w' hfree' (ready_mono hr (Ne.symm hji)) hsl' hkl' h3.1 (h3.2.1 hsl2) ?_⟩) h2
      rw [Array.setIfInBounds_comm _ _ hji]
      exact h3.2.2
/-- An operation that waits for number i. -/
def waits (ops : Array Oper) (s i : Nat) : Bool := match ops[s]? with
  | some o => o.after.any fun e => Region.binds .any e && e.on == i
  | none => false
theorem waits_spec {s i : Nat} (h : waits ops s i = true) : ∃ os, ops[s]? = some os ∧ ∃ e ∈ os.after, Region.binds .any e = true ∧ e.on = i := by
  unfold waits at h
  cases ho : ops[s]? with
  | none => rw [ho] at h; cases h
  | some os =>
    rw [ho] at h
    obtain ⟨k, hk, he⟩ := Array.any_eq_true.1 h
    simp only [Bool.and_eq_true, beq_iff_eq] at he
    exact ⟨os, rfl, _, Array.getElem_mem hk, he.1, he.2⟩
theorem wpL_take {s : Nat} (i k : Nat) {oi : Oper} {v : Value} {fuel : Nat} {listed : Array Bool} {a : Act} {w : World} (hi : ops[i]? = some oi)
    (hc : (Region.noSelect ops && Region.free .any ops listed i && (Region.ready .any ops listed).contains i && waits ops s k && (k == i || waits ops k i) && !listed.getD k false && !listed.getD s false && s != i) = true)
    (hQ : ∀ c a w, Q (.panic c) (a.put oi.dst v) w → Q (.panic c) a w) (hS : S w) (hw : Region.wanted oi (yielded ops a.tmps) = true) (hy : ∀ w, S w → (execOp a.eval oi).run P w = .ok (.value v) w)
    (h : wpL P ops Q S s fuel (listed.setIfInBounds i true) (a.put oi.dst v) w) : wpL P ops Q S s (fuel + 1) listed a w := by
  simp only [Bool.and_eq_true, Bool.or_eq_true, beq_iff_eq, Bool.not_eq_true', bne_iff_ne] at hc
  obtain ⟨⟨⟨⟨⟨⟨⟨h1, h2⟩, h3⟩, h4⟩, h7⟩, h8⟩, h5⟩, h6⟩ := hc
  obtain ⟨os, hos, hwt⟩ := waits_spec h4
  exact wpL_first hi hos hwt (h7.imp id waits_spec) h6 (Region.noSelect_spec h1) hQ fuel listed a w (Region.free_spec hi h2) (by simpa using h3) h5 h8 (.inl ⟨hw, hy⟩) hS h
def AllL (P : Program) (ops : Array Oper) (Q : Exit → Act → World → Prop) (S : World → Prop) (s fuel : Nat) (listed : Array Bool) (a : Act) (w : World) (rs : List Nat) : Prop :=
  ∀ i ∈ rs, wpOp P ops Q i (fun a' w' => ((listed.setIfInBounds i true).getD s false = false → S w') ∧ wpL P ops Q S s fuel (listed.setIfInBounds i true) a' w') a w
theorem AllL.nil {s fuel : Nat} {listed : Array Bool} {a : Act} {w : World} : AllL P ops Q S s fuel listed a w [] := fun _ h => by cases h
/-- Number i comes up: S is shown anew and handed on. -/
theorem AllL.cons {s fuel : Nat} {listed : Array Bool} {a : Act} {w : World} {i : Nat} {o : Oper} {rs : List Nat} (ho : ops[i]? = some o)
    (h : ∀ K' : Act → World → Prop, Shut (∀ a w, S w → (S w → wpL P ops Q S s fuel (listed.setIfInBounds i true) a w) → K' a w) → if Region.wanted o (yielded ops a.tmps) = true then Oper.wp P o a w K' Q else K' (a.put o.dst undef) w)
    (hs : AllL P ops Q S s fuel listed a w rs) : AllL P ops Q S s fuel listed a w (i :: rs) := fun j hj => by
  rcases List.mem_cons.1 hj with rfl | hj
  · exact wpOp_step ho (fun K' hK => h K' (fun a w hS hW => hK a w ⟨fun _ => hS, hW hS⟩))
  · exact hs j hj
/-- Number i comes up, and s has come up with it. -/
theorem AllL.last {s fuel : Nat} {listed : Array Bool} {a : Act} {w : World} {i : Nat} {o : Oper} {rs : List Nat} (ho : ops[i]? = some o) (hsl : (listed.setIfInBounds i true).getD s false = true)
    (h : ∀ K' : Act → World → Prop, Shut (∀ a w, wpL P ops Q S s fuel (listed.setIfInBounds i true) a w → K' a w) → if Region.wanted o (yielded ops a.tmps) = true then Oper.wp P o a w K' Q else K' (a.put o.dst undef) w)
    (hs : AllL P ops Q S s fuel listed a w rs) : AllL P ops Q S s fuel listed a w (i :: rs) := fun j hj => by
  rcases List.mem_cons.1 hj with rfl | hj
  · exact wpOp_step ho (fun K' hK => h K' (fun a w hW => hK a w ⟨fun h0 => (by rw [hsl] at h0; cases h0), hW⟩))
  · exact hs j hj
theorem wpL_ready {s : Nat} (rs : List Nat) {fuel : Nat} {listed : Array Bool} {a : Act} {w : World} (hr : Region.ready .any ops listed = rs) (hne : rs ≠ [])
    (h : AllL P ops Q S s fuel listed a w rs) : wpL P ops Q S s (fuel + 1) listed a w := ⟨fun h0 => absurd (hr ▸ h0) hne, hr ▸ h⟩
theorem wpL_done {s : Nat} {listed : Array Bool} {a : Act} {w : World} (hr : Region.ready .any ops listed = []) (h : Q .normal a w) : ∀ fuel, wpL P ops Q S s fuel listed a w
  | 0 => ⟨hr, h⟩
  | _ + 1 => ⟨fun _ => h, by rw [hr]; simp⟩
theorem wp_region_L {id : Nat} {a : Act} {w : World} (s : Nat) (S : World → Prop) (hm : P.follows .mixedOrders = true) (h : wpL P ops (NoPanic Q) S s ops.size (Array.replicate ops.size false) a w.drew) : (Code.region id ops true).wp P Q a w :=
  wp_region_noPanic (wp_region_any hm (wpAny_of_L _ _ _ _ h))
end
end Go.Proofs.YtmhkmmmompediaaGreat

/- Contract of pairingdata.Wild where a digit is appended. -/
namespace Go.Proofs.YtmhkmmmompediaaGreat
open Go.RowKit

theorem own_ne_blk {w : World} {b : Nat} {e : TypeId} {size : Nat} {v : Value} {n : Nat} {xs : List Value} (h : w.ownsRow b e size v n xs) {g : Nat} {t : TypeId} {cs : Array Value} (hb : Blk w g t cs) (ht : t ≠ e) : some g ≠ v.ownBlock := by
  obtain ⟨-, ⟨rfl, -⟩ | ⟨g', cap, cur, rfl, -, h5, -⟩⟩ := h
  · intro h; cases h
  · intro h
    have e : g = g' := Option.some.inj h
    subst e
    exact blk_ne hb h5 (.inl ht) rfl
theorem Blk.grown {w w' : World} {g : Nat} {t : TypeId} {cs : Array Value} {row : Option Nat} (h : Blk w g t cs) (hg : w.grownBy w' row) (hne : some g ≠ row) : Blk w' g t cs := (hg.block g h.lt hne).trans h
theorem own_grown {w w' : World} {b : Nat} {e : TypeId} {size : Nat} {v : Value} {n : Nat} {xs : List Value} {row : Option Nat} (h : w.ownsRow b e size v n xs) (hg : w.grownBy w' row) (hne : ∀ k, v.ownBlock = some k → some k ≠ row) : w'.ownsRow b e size v n xs := by
  obtain ⟨h1, h2 | ⟨g, cap, cur, rfl, h4, h5, h6⟩⟩ := h
  · exact ⟨h1, .inl h2⟩
  · exact ⟨h1, .inr ⟨g, cap, cur, rfl, h4, Blk.grown h5 hg (hne g rfl), h6⟩⟩
theorem own_set {w : World} {b : Nat} {e : TypeId} {size : Nat} {v : Value} {n : Nat} {xs : List Value} (h : w.ownsRow b e size v n xs) {p : Addr} (hne : some p.block ≠ v.ownBlock) (u : Value) : (w.setCell p u).ownsRow b e size v n xs := by
  obtain ⟨h1, h2 | ⟨g, cap, cur, rfl, h4, h5, h6⟩⟩ := h
  · exact ⟨h1, .inl h2⟩
  · exact ⟨h1, .inr ⟨g, cap, cur, rfl, h4, Blk.far h5 (fun e => hne (congrArg some e.symm)) u, h6⟩⟩
theorem own_lt {w : World} {b : Nat} {e : TypeId} {size : Nat} {v : Value} {n : Nat} {xs : List Value} (h : w.ownsRow b e size v n xs) : ∀ k, v.ownBlock = some k → b ≤ k ∧ k < w.heap.size := by
  obtain ⟨-, ⟨rfl, -⟩ | ⟨g, cap, cur, rfl, h4, h5, -⟩⟩ := h
  · intro k h; cases h
  · intro k h
    have e : g = k := Option.some.inj h
    subst e
    exact ⟨h4, Blk.lt h5⟩
/-- A fresh list of known blocks; all that is new is hidden. -/
theorem Loc.raw {w m W : World} (hV : Vw m w) (hE : Ext w W) {Ls : List Lo} (h1 : ∀ x ∈ Ls, w.heap.size ≤ x.1 ∧ Blk W x.1 x.2.1 x.2.2) (h2 : Ls.Pairwise (fun x y => x.1 ≠ y.1)) : Loc w m W (hidTo m W.heap.size) Ls := by
  have hs : m.heap.size ≤ W.heap.size := by rw [hV.size]; exact hE.size
  refine ⟨hV.size, hE, hidTo_ext hs, ⟨hV.os.trans hE.os.symm, hV.tape.trans hE.tape.symm, hV.output.trans hE.output.symm, hidTo_size hs, fun a u hu => ?_⟩, fun x hx => (h1 x hx).1, fun x hx => (h1 x hx).2, fun x hx a ha => ?_, h2⟩
  · rcases Nat.lt_or_ge a.block m.heap.size with h | h
    · rw [cell_of_heap (hidTo_old h)] at hu
      rw [hE.cell (p := a) (by rw [← hV.size]; exact h)]
      exact hV.cell _ _ hu
    · rw [hidTo_new h] at hu; cases hu
  · refine hidTo_new ?_
    rw [ha, hV.size]
    exact (h1 x hx).1
/-- What the region of the two appends keeps. -/
theorem keepS {w w' : World} {f : Nat} {a b : Bool} {s1 s2 : Value} (hE : Ext w w') (h : Blk w' f 39 #[.bool a, s1, .bool b, s2]) (hr : Blk w' w.heap.size 39 #[.bool false, .slice none 0 0, .bool false, .slice none 0 0]) :
    w'.cell? ⟨f, 1, none⟩ = some s1 ∧ w'.cell? ⟨f, 3, none⟩ = some s2 ∧ w'.frozen? ⟨f, 1, none⟩ = false ∧ w'.frozen? ⟨f, 3, none⟩ = false ∧ Ext w w' ∧ Blk w' f 39 #[.bool a, s1, .bool b, s2] ∧ Blk w' w.heap.size 39 #[.bool false, .slice none 0 0, .bool false, .slice none 0 0] := by
  obtain ⟨-, p6, -, p8, -, z6, -, z8⟩ := h.facts4
  exact ⟨p6, p8, z6, z8, hE, h, hr⟩
theorem rows_apart {w0 m0 W m : World} {A R1 R2 : List Lo} (hL : Loc w0 m0 W m (A ++ (R1 ++ R2))) {e : TypeId} {size : Nat} {v1 v2 : Value} {n1 n2 : Nat} {xs1 xs2 : List Value} (h1 : Row e size v1 n1 xs1 R1) (h2 : Row e size v2 n2 xs2 R2) : ∀ k, v1.ownBlock = some k → v2.ownBlock ≠ some k := by
  obtain ⟨-, ⟨rfl, -, -⟩ | ⟨g, cap, cur, rfl, rfl, -⟩⟩ := h1
  · intro k h; cases h
  · obtain ⟨-, ⟨rfl, -, -⟩ | ⟨g', cap', cur', rfl, rfl, -⟩⟩ := h2
    · intro k _ h; cases h
    · intro k h h'
      have e1 : g = k := Option.some.inj h
      have e2 : g' = k := Option.some.inj h'
      have hap := (List.pairwise_append.1 (List.pairwise_append.1 hL.apart).2.1).2.2 (g, e, cur) (by simp) (g', e, cur') (by simp)
      exact hap (e1.trans e2.symm)
theorem keepD {w w' : World} {f : Nat} {a b : Bool} {s1 s2 : Value} (h : w'.cell? ⟨f, 1, none⟩ = some s1 ∧ w'.cell? ⟨f, 3, none⟩ = some s2 ∧ w'.frozen? ⟨f, 1, none⟩ = false ∧ w'.frozen? ⟨f, 3, none⟩ = false ∧ Ext w w' ∧ Blk w' f 39 #[.bool a, s1, .bool b, s2] ∧ Blk w' w.heap.size 39 #[.bool false, .slice none 0 0, .bool false, .slice none 0 0]) :
    w'.drew.cell? ⟨f, 1, none⟩ = some s1 ∧ w'.drew.cell? ⟨f, 3, none⟩ = some s2 ∧ w'.drew.frozen? ⟨f, 1, none⟩ = false ∧ w'.drew.frozen? ⟨f, 3, none⟩ = false ∧ Ext w w'.drew ∧ Blk w'.drew f 39 #[.bool a, s1, .bool b, s2] ∧ Blk w'.drew w.heap.size 39 #[.bool false, .slice none 0 0, .bool false, .slice none 0 0] :=
  keepS h.2.2.2.2.1.drew h.2.2.2.2.2.1.drew h.2.2.2.2.2.2.drew
theorem wZ {n : Int} (h : wD n = 0) : wN n = 0 := by
  have hd := (frF n).den_pos
  have hk : wkF n = 0 := by
    rcases Int.mul_eq_zero.1 h with h | h
    · omega
    · exact h
  show (frF n).num * wkF n = 0
  rw [hk, Int.mul_zero]
theorem val_zero_end (z : Int) : sgn (decide (z < 0)) (val (digs z.natAbs ++ [0])) = z := by
  rw [val_snoc, Nat.mul_zero, Nat.add_zero, val_digs]; exact sgn_canon z
theorem dg_zero_end (z : Int) : Dg (digs z.natAbs ++ [0]) := (Dg_digs _).append (Dg.cons (by decide) Dg.nil)
theorem map_zero_end (z : Int) : (digs z.natAbs ++ [0]).map U = (digs z.natAbs).map U ++ [.int .u32 0] := by rw [List.map_append]; rfl
/-- A fraction with a zero digit ahead of its parts. -/
theorem frG_app {m : World} {A B : Option Addr} {n1 n2 c1 c2 : Nat} {x y : Int} (h1 : Sl m A ((digs x.natAbs).map U ++ [.int .u32 0])) (h2 : Sl m B ((digs y.natAbs).map U ++ [.int .u32 0])) (k1 : (digs x.natAbs).length + 1 ≤ c1) (k2 : (digs y.natAbs).length + 1 ≤ c2)
    (e1 : (digs x.natAbs).length = n1) (e2 : (digs y.natAbs).length = n2) (b1 : x.natAbs ≤ 20) (b2 : y.natAbs ≤ 20) (hz : y = 0 → x = 0) : FrG m (.agg #[.bool (decide (x < 0)), .slice A (n1 + 1) c1, .bool (decide (y < 0)), .slice B (n2 + 1) c2]) x y := by
  subst e1 e2
  have l1 := len_small b1
  have l2 := len_small b2
  have q1 : (digs x.natAbs).length ≤ 2 := len2 (by omega)
  have q2 : (digs y.natAbs).length ≤ 2 := len2 (by omega)
  rw [← map_zero_end] at h1 h2
  have f1 : IntV m (.agg #[.bool (decide (x < 0)), .slice A ((digs x.natAbs).length + 1) c1]) x := ⟨_, A, c1, digs x.natAbs ++ [0], by simp, by simpa using k1, h1, dg_zero_end x, by simp; omega, (val_zero_end x).symm⟩
  have f2 : IntV m (.agg #[.bool (decide (y < 0)), .slice B ((digs y.natAbs).length + 1) c2]) y := ⟨_, B, c2, digs y.natAbs ++ [0], by simp, by simpa using k2, h2, dg_zero_end y, by simp; omega, (val_zero_end y).symm⟩
  refine ⟨⟨_, _, _, _, _, _, _, _, rfl, f1, f2⟩, ?_⟩
  by_cases hy : y = 0
  · obtain rfl := hz hy
    subst hy
    have g : ∀ (C : Option Addr) (c : Nat), Sl m C ((digs (0 : Int).natAbs ++ [0]).map U) → (digs (0 : Int).natAbs).length + 1 ≤ c → IntS m (.agg #[.bool (decide ((0 : Int) < 0)), .slice C ((digs (0 : Int).natAbs).length + 1) c]) 0 := fun C c h k =>
      ⟨_, C, c, digs (0 : Int).natAbs ++ [0], by simp, by simpa using k, h, dg_zero_end 0, by simp [digs_zero], (val_zero_end 0).symm⟩
    exact .inl ⟨_, _, _, _, rfl, g A c1 h1 k1, g B c2 h2 k2, by decide, by decide⟩
  · exact .inr ⟨_, _, _, _, _, _, _, _, rfl, by have := digs_len_pos (n := y.natAbs) (by omega); omega⟩
theorem timesF {B : Nat} {z : Int} {a : Act} {dst : Option Nat} {w m w' m' : World} {v : Value} (hE : Ext w w') (hM : Ext m m') (hV : Vw m' w') (h : IntW w.heap.size z v w' m') (hB : B ≤ w.heap.size) : One2 (IntW B z) true a dst w m .normal (a.put dst v) w' := by
  refine ⟨rfl, hE, m', v, hM, hV, rfl, h.base hB, fun _ k hk => ?_⟩
  obtain ⟨s, rfl, h1, h2⟩ := h.2
  rcases h2 with ⟨rfl, -⟩ | ⟨g, cap, cur, rfl, h3, h4, -⟩
  · cases hk
  · have e : g = k := Option.some.inj hk
    subst e
    exact ⟨h3, Blk.lt h4⟩
/-- All that is new is hidden, and two rows of one's own become one's own again. -/
theorem Loc.reown2 {w0 m0 W m : World} {Ls : List Lo} (hL : Loc w0 m0 W m Ls) {B1 B2 : Nat} {e : TypeId} {size : Nat} {g1 g2 : Bool} {v1 v2 : Value} {n1 n2 : Nat} {xs1 xs2 : List Value} (ho1 : W.ownsRow B1 e size v1 n1 xs1) (ho2 : W.ownsRow B2 e size v2 n2 xs2) (hB1 : w0.heap.size ≤ B1) (hB2 : w0.heap.size ≤ B2)
    (hap : ∀ k, blkOf (.agg #[.bool g1, v1]) = some k → blkOf (.agg #[.bool g2, v2]) ≠ some k) (hne : ∀ x ∈ Ls, x.2.1 ≠ e) :
    ∃ R1 R2 m', Loc w0 m0 W m' (Ls ++ (R1 ++ R2)) ∧ Row e size v1 n1 xs1 R1 ∧ Row e size v2 n2 xs2 R2 := by
  have hs : m0.heap.size ≤ W.heap.size := by rw [hL.size0]; exact hL.ext.size
  have key : ∀ R : List Lo, (∀ x ∈ R, w0.heap.size ≤ x.1 ∧ Blk W x.1 x.2.1 x.2.2 ∧ x.2.1 = e) → R.Pairwise (fun x y => x.1 ≠ y.1) → Loc w0 m0 W (hidTo m0 W.heap.size) (Ls ++ R) := by
    intro R hR h1
    refine ⟨hL.size0, hL.ext, hidTo_ext hs, ⟨hL.mext.os.symm.trans hL.vw.os, hL.mext.tape.symm.trans hL.vw.tape, hL.mext.output.symm.trans hL.vw.output, hidTo_size hs, fun a u hu => ?_⟩, fun x hx => ?_, fun x hx => ?_, fun x hx a ha => ?_, ?_⟩
    · rcases Nat.lt_or_ge a.block m0.heap.size with h | h
      · rw [cell_of_heap (hidTo_old h)] at hu
        exact hL.vw.cell _ _ (hL.mext.le.cell _ _ hu)
      · rw [hidTo_new h] at hu; cases hu
    · rcases List.mem_append.1 hx with hx | hx
      · exact hL.low x hx
      · exact (hR x hx).1
    · rcases List.mem_append.1 hx with hx | hx
      · exact hL.blk x hx
      · exact (hR x hx).2.1
    · refine hidTo_new ?_
      rw [ha, hL.size0]
      rcases List.mem_append.1 hx with hx | hx
      · exact hL.low x hx
      · exact (hR x hx).1
    · refine List.pairwise_append.2 ⟨hL.apart, h1, fun x hx y hy => ?_⟩
      refine blk_ne (hL.blk x hx) (hR y hy).2.1 (.inl ?_)
      rw [(hR y hy).2.2]
      exact hne x hx
  obtain ⟨h1, ⟨rfl, rfl⟩ | ⟨g, cap, cur, rfl, h4, h5, h6⟩⟩ := ho1 <;> obtain ⟨k1, ⟨rfl, rfl⟩ | ⟨g', cap', cur', rfl, k4, k5, k6⟩⟩ := ho2
  · exact ⟨[], [], _, key [] (fun _ h => by cases h) List.Pairwise.nil, ⟨h1, .inl ⟨rfl, rfl, rfl⟩⟩, ⟨k1, .inl ⟨rfl, rfl, rfl⟩⟩⟩
  · refine ⟨[], [(g', e, cur')], _, key _ (fun x hx => ?_) (List.pairwise_singleton _ _), ⟨h1, .inl ⟨rfl, rfl, rfl⟩⟩, ⟨k1, .inr ⟨g', cap', cur', rfl, rfl, k6⟩⟩⟩
    rcases List.mem_singleton.1 hx with rfl
    exact ⟨Nat.le_trans hB2 k4, k5, rfl⟩
  · refine ⟨[(g, e, cur)], [], _, key _ (fun x hx => ?_) (List.pairwise_singleton _ _), ⟨h1, .inr ⟨g, cap, cur, rfl, rfl, h6⟩⟩, ⟨k1, .inl ⟨rfl, rfl, rfl⟩⟩⟩
    rcases List.mem_singleton.1 hx with rfl
    exact ⟨Nat.le_trans hB1 h4, h5, rfl⟩
  · refine ⟨[(g, e, cur)], [(g', e, cur')], _, key _ (fun x hx => ?_) (List.Pairwise.cons (fun y hy => ?_) (List.pairwise_singleton _ _)), ⟨h1, .inr ⟨g, cap, cur, rfl, rfl, h6⟩⟩, ⟨k1, .inr ⟨g', cap', cur', rfl, rfl, k6⟩⟩⟩
    · rcases List.mem_cons.1 hx with rfl | hx
      · exact ⟨Nat.le_trans hB1 h4, h5, rfl⟩
      · rcases List.mem_singleton.1 hx with rfl
        exact ⟨Nat.le_trans hB2 k4, k5, rfl⟩
    · rcases List.mem_singleton.1 hy with rfl
      exact fun h => hap g rfl (congrArg some h.symm)

set_option maxRecDepth 100000 in
set_option maxHeartbeats 8000000 in
theorem d_WildB (n : Int) (w m : World) (hV : Vw m w) (h1 : -9223372036854775808 ≤ n) (h2 : n ≤ 9223372036854775807) (h8 : n / 256 % 4 = 3) :
    Calls Tryz.prog 19 #[.int .i64 n] w (RetV w m fun m' r => FrG m' r (wN n) (wD n)) := by
  obtain ⟨j, hj⟩ : ∃ j : Nat, n / 64 % 4 = j := ⟨(n / 64 % 4).toNat, by omega⟩
  have j4 : j < 4 := by omega
  have e1 : bits .and .i64 (n / 64) 3 = (j : Int) := (i64_and2 (n / 64)).trans hj
  have e2 := i64_and2 (n / 256)
  have b8 : (n / 256 % 4 == 3) = true := by simp; omega
  have HW : Hid (wkF n = wkT.getD j 0) := by show wkT.getD _ 0 = _; rw [hj]; rfl
  have HK : Hid ((wkT.getD j 0).natAbs ≤ 2) := wkT_bd ⟨j, j4⟩
  have HF := Lib.hid (frT n)
  have KF : Hid (∀ w m, Vw m w → Calls Tryz.prog 64 #[.int .i64 n] w (RetV w m fun m' r => FracC m' r (frF n))) := by
    show ∀ w m, _
    exact fun w m hV => d_Frac n w m hV h1 h2
  have WN : Hid (wN n = (frF n).num * wkT.getD j 0) := by show (frF n).num * wkF n = _; rw [HW.out]
  have WD : Hid (wD n = ((frF n).den : Int) * wkT.getD j 0) := by show ((frF n).den : Int) * wkF n = _; rw [HW.out]
  have BN := Lib.hid (wN_bd n)
  have BD := Lib.hid (wD_bd n)
  generalize hk : wkT.getD j 0 = kk at *
  have HKK := Lib.hid hk
  have KI : Hid (∀ w m, Vw m w → Calls Tryz.prog 17 #[.int .i64 kk] w (RetV w m fun m' r => FracC m' r (kk : Rat))) := by
    show ∀ w m, _
    exact fun w m hV => r_Int kk w m hV (by have := HK.out; omega) (by have := HK.out; omega)
  have LK : Hid ((digs kk.natAbs).length ≤ 1000) := len_small (by have := HK.out; omega)
  have B1 : Hid ((frF n).num.natAbs < 4294967296) := by show _ < _; have := HF.out.1; omega
  have B2 : Hid (((frF n).den : Int).natAbs < 4294967296) := by show _ < _; have := HF.out.2; omega
  have B3 : Hid (kk.natAbs < 4294967296) := by show _ < _; have := HK.out; omega
  have L1 : Hid ((digs (frF n).num.natAbs).length ≤ 1000) := Nat.le_trans (len2 (by have := B1.out; omega)) (by decide)
  have L2 : Hid ((digs ((frF n).den : Int).natAbs).length ≤ 1000) := Nat.le_trans (len2 (by have := B2.out; omega)) (by decide)
  obtain ⟨zn, hzn⟩ : ∃ z, z = (frF n).num * kk := ⟨_, rfl⟩
  obtain ⟨zd, hzd⟩ : ∃ z, z = ((frF n).den : Int) * kk := ⟨_, rfl⟩
  have ZN := Lib.hid hzn
  have ZD := Lib.hid hzd
  have EN : Hid (wN n = zn) := WN.out.trans hzn.symm
  have ED : Hid (wD n = zd) := WD.out.trans hzd.symm
  have hL := Loc.start hV
  have HV := Lib.hid hV
  clear hV h1 h2 h8 hj hk hzn hzd WN WD
  go_enter Tryz.func19, Tryz.ntmps19
  go_wp2_with (first | ((with_reducible refine kAny ?_); go_skip) | (with_reducible refine stA ?_) | ((first | refine tIx ?_ | refine tFd ?_ | refine tLd ?_ | (refine tSr ?_; clear hL; intro _ hL; simp only [zq2, zq3] at hL) | (refine tSt ?_; clear hL; intro _ hL; simp only [splice, zq1, zq2, zq3] at hL) | (refine tAl ?_; clear hL; intro _ _ hL _) | refine tFl ?_ | (refine tBs ?_; clear hL; intro _ _ hL _ hBs)); simp only [Act.put, zq1, zq2, zq3]))
  refine (KF.out _ _ hL.vw).mono ?_
  rintro e Wc1 ⟨vc1, mc1, rfl, hE, hMc1, hV, hc1⟩
  replace hL := hL.call hE (by assumption) hV; clear hE hV
  obtain ⟨gc1', Ac1', nc1', cc1', hc1', Bc1', kc1', dc1', rfl, hc1⟩ := hc1.lit
  go_upto_region 2 with ((first | ((with_reducible refine kAny ?_); go_skip) | (with_reducible refine stA ?_) | ((first | refine tIx ?_ | refine tFd ?_ | refine tLd ?_ | (refine tSr ?_; clear hL; intro _ hL; simp only [zq2, zq3] at hL) | (refine tSt ?_; clear hL; intro _ hL; simp only [splice, zq1, zq2, zq3] at hL) | (refine tAl ?_; clear hL; intro _ _ hL _) | refine tFl ?_ | (refine tBs ?_; clear hL; intro _ _ hL _ hBs)); simp only [Act.put, zq1, zq2, zq3])))
  refine wp_region_lit ?_
  refine wl_bslice hL (wanted_none rfl) rfl (n := 4) (cs := #[.int .i64 1, .int .i64 (-1), .int .i64 2, .int .i64 0]) (e := 3) (fun w => by go_simp) ?_
  clear hL
  intro Wa ma hL ea hab
  simp only [Act.put, zq1, zq2, zq3]
  have hj1 := wk_cell hab j4
  rw [HKK.out] at hj1
  clear hab
  go_wp2_with (first | ((with_reducible refine kAny ?_); go_skip) | (with_reducible refine stA ?_) | ((first | refine tIx ?_ | refine tFd ?_ | refine tLd ?_ | (refine tSr ?_; clear hL; intro _ hL; simp only [zq2, zq3] at hL) | (refine tSt ?_; clear hL; intro _ hL; simp only [splice, zq1, zq2, zq3] at hL) | (refine tAl ?_; clear hL; intro _ _ hL _) | refine tFl ?_ | (refine tBs ?_; clear hL; intro _ _ hL _ hBs)); simp only [Act.put, zq1, zq2, zq3]))
  refine (KI.out _ _ hL.vw).mono ?_
  rintro e Wc2 ⟨vc2, mc2, rfl, hE, hMc2, hV, hc2⟩
  replace hL := hL.call hE (by assumption) hV; clear hE hV
  obtain ⟨gc2', Ac2', nc2', cc2', hc2', Bc2', kc2', dc2', rfl, hc2⟩ := hc2.lit
  clear hj1
  go_upto_region 3 with ((first | ((with_reducible refine kAny ?_); go_skip) | (with_reducible refine stA ?_) | ((first | refine tIx ?_ | refine tFd ?_ | refine tLd ?_ | (refine tSr ?_; clear hL; intro _ hL; simp only [zq2, zq3] at hL) | (refine tSt ?_; clear hL; intro _ hL; simp only [splice, zq1, zq2, zq3] at hL) | (refine tAl ?_; clear hL; intro _ _ hL _) | refine tFl ?_ | (refine tBs ?_; clear hL; intro _ _ hL _ hBs)); simp only [Act.put, zq1, zq2, zq3])))
  refine wp_region_lit ?_
  refine wl_bslice hL (wanted_none rfl) rfl (n := 4) (cs := #[.int .i64 1, .int .i64 (-1), .int .i64 2, .int .i64 0]) (e := 3) (fun w => by go_simp) ?_
  clear hL
  intro Wb mb hL eb hbb
  simp only [Act.put, zq1, zq2, zq3]
  have hj2 := wk_cell hbb j4
  rw [HKK.out] at hj2
  clear hbb
  go_wp2_with (first | ((with_reducible refine kAny ?_); go_skip) | (with_reducible refine stA ?_) | ((first | refine tIx ?_ | refine tFd ?_ | refine tLd ?_ | (refine tSr ?_; clear hL; intro _ hL; simp only [zq2, zq3] at hL) | (refine tSt ?_; clear hL; intro _ hL; simp only [splice, zq1, zq2, zq3] at hL) | (refine tAl ?_; clear hL; intro _ _ hL _) | refine tFl ?_ | (refine tBs ?_; clear hL; intro _ _ hL _ hBs)); simp only [Act.put, zq1, zq2, zq3]))
  refine (KI.out _ _ hL.vw).mono ?_
  rintro e Wc3 ⟨vc3, mc3, rfl, hE, hMc3, hV, hc3⟩
  replace hL := hL.call hE (by assumption) hV; clear hE hV
  obtain ⟨gc3', Ac3', nc3', cc3', hc3', Bc3', kc3', dc3', rfl, hc3⟩ := hc3.lit
  clear hj2
  obtain ⟨f1, f2⟩ := hc1.open_
  obtain ⟨q1, -⟩ := hc2.open_
  obtain ⟨q2, -⟩ := hc3.open_
  clear hc1 hc2 hc3 e1 e2
  have e2 := i64_and2 (n / 256)
  go_upto_region 4 with ((first | ((with_reducible refine kAny ?_); go_skip) | (with_reducible refine stA ?_) | ((first | refine tIx ?_ | refine tFd ?_ | refine tLd ?_ | (refine tSr ?_; clear hL; intro _ hL; simp only [zq2, zq3] at hL) | (refine tSt ?_; clear hL; intro _ hL; simp only [splice, zq1, zq2, zq3] at hL) | (refine tAl ?_; clear hL; intro _ _ hL _) | refine tFl ?_ | (refine tBs ?_; clear hL; intro _ _ hL _ hBs)); simp only [Act.put, zq1, zq2, zq3])))
  refine wp_region_by2 9 [false, false, false, true, false, false, false, true, false] [false, false, false, false, false, false, false, false, false] [(fun v _ _ => v = ?c4_0), (fun v _ _ => v = ?c4_1), (fun v _ _ => v = ?c4_2), (IntW w.heap.size zn), (fun v _ _ => v = ?c4_4), (fun v _ _ => v = ?c4_5), (fun v _ _ => v = ?c4_6), (IntW w.heap.size zd), (fun v _ _ => v = ?c4_8)] hL.vw mixed [24, 25, 26, 27, 28, 29, 30, 31, 32] _ (by kernel_rfl) (fun vs => by simp only [lay, Act.put, zq1, zq2, zq3]; rfl) (by kernel_rfl) (by decide) (by decide) ?s4 ?l4 ?r4
  case s4 =>
    refine ⟨?_, ?_, ?_, ?_, ?_, ?_, ?_, ?_, ?_, trivial⟩
    · intro vs W1 m1 hE hM hV hD
      clear hD
      replace hL := hL.call hE hM hV
      exact sFd
    · intro vs W1 m1 hE hM hV hD
      obtain ⟨⟨_, _, -, -, f24⟩, -⟩ := hD
      have f24 : vs 24 = _ := f24
      generalize vs 24 = x24 at f24 ⊢
      subst x24
      replace hL := hL.call hE hM hV
      exact sLd
    · intro vs W1 m1 hE hM hV hD
      clear hD
      replace hL := hL.call hE hM hV
      exact sLd
    · intro vs W1 m1 hE hM hV hD
      obtain ⟨⟨_, _, -, -, f25⟩, ⟨_, _, -, -, f26⟩, -⟩ := hD
      have f25 : vs 25 = _ := f25
      generalize vs 25 = x25 at f25 ⊢
      subst x25
      have f26 : vs 26 = _ := f26
      generalize vs 26 = x26 at f26 ⊢
      subst x26
      (go_wp2_with fail; refine (d_times _ _ (frF n).num kk _ _ hV ((f1.toV L1.out).le leX) ((q1.toV LK.out).le leX) B1.out B3.out).mono ?_; rintro e W2 ⟨v, m2, rfl, hE2, hM2, hV2, h⟩; go_wp2_with fail; exact timesF hE2 hM2 hV2 (by first | (rw [ZN.out]; exact h) | (rw [ZD.out]; exact h)) (Nat.le_trans hL.ext.size hE.size))
    · intro vs W1 m1 hE hM hV hD
      clear hD
      replace hL := hL.call hE hM hV
      exact sFd
    · intro vs W1 m1 hE hM hV hD
      obtain ⟨⟨_, _, -, -, f28⟩, -⟩ := hD
      have f28 : vs 28 = _ := f28
      generalize vs 28 = x28 at f28 ⊢
      subst x28
      replace hL := hL.call hE hM hV
      exact sLd
    · intro vs W1 m1 hE hM hV hD
      clear hD
      replace hL := hL.call hE hM hV
      exact sLd
    · intro vs W1 m1 hE hM hV hD
      obtain ⟨⟨_, _, -, -, f29⟩, ⟨_, _, -, -, f30⟩, -, -⟩ := hD
      have f29 : vs 29 = _ := f29
      generalize vs 29 = x29 at f29 ⊢
      subst x29
      have f30 : vs 30 = _ := f30
      generalize vs 30 = x30 at f30 ⊢
      subst x30
      (go_wp2_with fail; refine (d_times _ _ ((frF n).den : Int) kk _ _ hV ((f2.toV L2.out).le leX) ((q2.toV LK.out).le leX) B2.out B3.out).mono ?_; rintro e W2 ⟨v, m2, rfl, hE2, hM2, hV2, h⟩; go_wp2_with fail; exact timesF hE2 hM2 hV2 (by first | (rw [ZN.out]; exact h) | (rw [ZD.out]; exact h)) (Nat.le_trans hL.ext.size hE.size))
    · intro vs W1 m1 hE hM hV hD
      clear hD
      replace hL := hL.call hE hM hV
      exact sFd
  case l4 =>
    refine ⟨fun h => (by cases h), fun h => (by cases h), fun h => (by cases h), fun h => (by cases h), fun h => (by cases h), fun h => (by cases h), fun h => (by cases h), fun h => (by cases h), fun h => (by cases h), trivial⟩
  intro vs W1 m1 hE hM hV hF hD
  obtain ⟨-, -, -, ⟨_, _, j27, i27, f27⟩, -, -, -, ⟨_, _, j31, i31, f31⟩, ⟨_, _, -, -, f32⟩, -⟩ := hF
  replace hL := hL.call hE hM hV
  have f32 : vs 32 = _ := f32
  generalize vs 32 = x32 at f32 ⊢
  subst x32
  clear hE hV
  have hap := hD 3 7 _ _ _ _ (by decide) (by decide) (by decide) rfl rfl rfl rfl rfl rfl
  obtain ⟨A27, c27, e27, o27⟩ := IntO.litE f27.2 j27
  obtain ⟨A31, c31, e31, o31⟩ := IntO.litE f31.2 j31
  rw [e27, e31] at hap
  generalize vs 27 = x27 at e27 ⊢
  subst x27
  generalize vs 31 = x31 at e31 ⊢
  subst x31
  obtain ⟨R1, R2, m3, hL3, row1, row2⟩ := hL.reown2 o27 o31 (Nat.le_refl _) (Nat.le_refl _) hap (by simp)
  simp only [List.cons_append, List.nil_append] at hL3
  clear hL o27 o31 hap hD f27 f31 i27 j27 i31 j31
  have hL := hL3
  clear hL3
  simp only [List.drop_succ_cons, List.drop_zero]
  go_wp2_with (first | ((with_reducible refine kAny ?_); go_skip) | (with_reducible refine stA ?_) | ((first | refine tIx ?_ | refine tFd ?_ | refine tLd ?_ | (refine tSr ?_; clear hL; intro _ hL; simp only [zq2, zq3] at hL) | (refine tSt ?_; clear hL; intro _ hL; simp only [splice, zq1, zq2, zq3] at hL) | (refine tAl ?_; clear hL; intro _ _ hL _) | refine tFl ?_ | (refine tBs ?_; clear hL; intro _ _ hL _ hBs)); simp only [Act.put, zq1, zq2, zq3]))
  refine QN.mk ?_
  have ROW1 := Lib.hid row1
  have ROW2 := Lib.hid row2
  have LN1 : Hid (∀ z, z = zn → (digs z.natAbs).length ≤ 1000) := fun z h => by rw [h, ← EN.out]; exact len_small BN.out
  have LN2 : Hid (∀ z, z = zd → (digs z.natAbs).length ≤ 1000) := fun z h => by rw [h, ← ED.out]; exact len_small BD.out
  have y1 := LN1.out _ rfl
  have y2 := LN2.out _ rfl
  clear row1 row2 f1 f2 q1 q2 KF KI HW HF HK B1 B2 B3 L1 L2 LK HKK j4 hc1 hc2 hc3 hM f32 ZN ZD
  generalize hn1 : (digs zn.natAbs).length = n1 at *
  generalize hn2 : (digs zd.natAbs).length = n2 at *
  have HN1 := Lib.hid hn1
  have HN2 := Lib.hid hn2
  clear hn1 hn2
  go_upto_region 6 with ((first | ((with_reducible refine kAny ?_); go_skip) | (with_reducible refine stA ?_) | ((first | refine tIx ?_ | refine tFd ?_ | refine tLd ?_ | (refine tSr ?_; clear hL; intro _ hL; simp only [zq2, zq3] at hL) | (refine tSt ?_; clear hL; intro _ hL; simp only [splice, zq1, zq2, zq3] at hL) | (refine tAl ?_; clear hL; intro _ _ hL _) | refine tFl ?_ | (refine tBs ?_; clear hL; intro _ _ hL _ hBs)); simp only [Act.put, zq1, zq2, zq3])))
  rename_i W9 _
  have O1 := hL.ownS (R := R1) (fun x hx => by simp [hx]) ROW1.out
  have O2 := hL.ownS (R := R2) (fun x hx => by simp [hx]) ROW2.out
  have HO1 := Lib.hid O1
  have HO2 := Lib.hid O2
  have hbs := hL.ext.size
  have hs0 := keepS hL.ext (hL.at_ lo2) (hL.at_ lo3)
  have hlow := hL.low_at lo2
  have hfr := (hL.ne lo2 lo3 (by omega)).1
  have ne1 := Lib.hid (own_ne_blk O1 (hL.at_ lo2) (by decide))
  have ne2 := Lib.hid (own_ne_blk O2 (hL.at_ lo2) (by decide))
  have nr1 := Lib.hid (own_ne_blk O1 (hL.at_ lo3) (by decide))
  have nr2 := Lib.hid (own_ne_blk O2 (hL.at_ lo3) (by decide))
  have lt1 := Lib.hid (own_lt O1)
  have lt2 := Lib.hid (own_lt O2)
  have AP : Hid (∀ k, (Value.slice A27 n1 c27).ownBlock = some k → (Value.slice A31 n2 c31).ownBlock ≠ some k) := rows_apart (A := [_, _, _, _]) hL ROW1.out ROW2.out
  clear hL O1 O2 e2 b8 ROW1 ROW2
  obtain ⟨i0, hi0, hz0, hz1, hz2⟩ := info_parts u32_info
  have HH := Lib.hid (keepD hs0)
  have HB1 := Lib.hid hs0.2.2.2.2.1
  have HB2 := Lib.hid hs0.2.2.2.2.2.1
  have HB3 := Lib.hid hs0.2.2.2.2.2.2
  clear hs0
  refine wp_region_L 12 (fun w' => w'.cell? ⟨Wc1.heap.size, 1, none⟩ = some (.slice A27 n1 c27) ∧ w'.cell? ⟨Wc1.heap.size, 3, none⟩ = some (.slice A31 n2 c31) ∧ w'.frozen? ⟨Wc1.heap.size, 1, none⟩ = false ∧ w'.frozen? ⟨Wc1.heap.size, 3, none⟩ = false ∧ Ext w w' ∧ Blk w' Wc1.heap.size 39 #[.bool (decide (zn < 0)), .slice A27 n1 c27, .bool (decide (zd < 0)), .slice A31 n2 c31] ∧ Blk w' w.heap.size 39 #[.bool false, .slice none 0 0, .bool false, .slice none 0 0]) (by kernel_rfl) ?_
  refine wpL_take 0 0 (v := ?_) rfl (by kernel_rfl) (fun _ _ _ h => h) HH.out (by rfl) ?yld ?_
  case yld => (intro w' hSw; obtain ⟨s1, s2, s3, s4, -⟩ := hSw; go_simp; try with_reducible rfl)
  (try simp only [Act.put, List.setIfInBounds_toArray, List.set_cons_zero, List.set_cons_succ])
  refine wpL_take 1 1 (v := ?_) rfl (by kernel_rfl) (fun _ _ _ h => h) HH.out (by rfl) ?yld ?_
  case yld => (intro w' hSw; obtain ⟨s1, s2, s3, s4, -⟩ := hSw; go_simp; try with_reducible rfl)
  (try simp only [Act.put, List.setIfInBounds_toArray, List.set_cons_zero, List.set_cons_succ])
  refine wpL_take 2 2 (v := ?_) rfl (by kernel_rfl) (fun _ _ _ h => h) HH.out (by rfl) ?yld ?_
  case yld => (intro w' hSw; obtain ⟨s1, s2, s3, s4, -⟩ := hSw; go_simp; try with_reducible rfl)
  (try simp only [Act.put, List.setIfInBounds_toArray, List.set_cons_zero, List.set_cons_succ])
  refine wpL_take 5 5 (v := ?_) rfl (by kernel_rfl) (fun _ _ _ h => h) HH.out (by rfl) ?yld ?_
  case yld => (intro w' hSw; obtain ⟨s1, s2, s3, s4, -⟩ := hSw; go_simp; try with_reducible rfl)
  (try simp only [Act.put, List.setIfInBounds_toArray, List.set_cons_zero, List.set_cons_succ])
  refine wpL_take 6 6 (v := ?_) rfl (by kernel_rfl) (fun _ _ _ h => h) HH.out (by rfl) ?yld ?_
  case yld => (intro w' hSw; obtain ⟨s1, s2, s3, s4, -⟩ := hSw; go_simp; try with_reducible rfl)
  (try simp only [Act.put, List.setIfInBounds_toArray, List.set_cons_zero, List.set_cons_succ])
  refine wpL_take 7 7 (v := ?_) rfl (by kernel_rfl) (fun _ _ _ h => h) HH.out (by rfl) ?yld ?_
  case yld => (intro w' hSw; obtain ⟨s1, s2, s3, s4, -⟩ := hSw; go_simp; try with_reducible rfl)
  (try simp only [Act.put, List.setIfInBounds_toArray, List.set_cons_zero, List.set_cons_succ])
  refine wpL_ready [3, 8] (by kernel_rfl) (by simp) ?_
  refine AllL.cons rfl (fun K hK => ?_) ?_
  · go_simp
    refine hK.out _ _ ?_ (fun hHeld => ?_)
    · (try dsimp only); (refine keepS ?_ ?_ ?_ <;> repeat (first | with_reducible exact HC1.out | with_reducible exact HC2.out | with_reducible exact HC3.out | with_reducible exact HB1.out | with_reducible exact HB2.out | with_reducible exact HB3.out | with_reducible refine Ext.drew ?_ | with_reducible refine Ext.alloc ?_ _ | with_reducible refine Blk.drew ?_ | with_reducible refine Blk.alloc ?_ _ | with_reducible refine Blk.grown ?_ hgrow2 ne2.out | with_reducible refine Blk.grown ?_ hgrow2 nr2.out | with_reducible refine Blk.grown ?_ hgrow1 ne1.out | with_reducible refine Blk.grown ?_ hgrow1 nr1.out | with_reducible refine Ext.grown ?_ hgrow2 (fun k hk => (lt2.out k hk).1) | with_reducible refine Ext.grown ?_ hgrow1 (fun k hk => (lt1.out k hk).1)))
    clear HH
    have HH := Lib.hid hHeld
    clear hHeld
    clear hK K
    (try simp only [Act.put, List.setIfInBounds_toArray, List.set_cons_zero, List.set_cons_succ])
    refine wpL_ready [4, 8] (by kernel_rfl) (by simp) ?_
    refine AllL.cons rfl (fun K hK => ?_) ?_
    · (refine step_append_lies _ (by rfl) _ _ _ (by rfl) w.heap.size 102 i0 _ 1 4 Tryz.underlying35 hi0 hz0 hz1 hz2 rfl (by omega) (.slice A27 n1 c27) n1 ((digs zn.natAbs).map U) (by rfl) (by repeat (first | with_reducible exact HO1.out | with_reducible refine World.ownsRow.drew ?_ | with_reducible refine World.ownsRow.alloc ?_ _)) ⟨_, 0, none⟩ 1 1 [.int .u32 0] (by rfl) (by rfl) (World.news_of_block (cs := #[.int .u32 0]) (t := 102) (fr := (0, 0)) (by show Blk _ _ _ _; repeat (first | with_reducible exact Blk.new _ _ _ | ((with_reducible refine Blk.new' ?_); simp; done) | with_reducible refine Blk.drew ?_ | with_reducible refine Blk.alloc ?_ _))) (by simp [Value.oneCell']) (by omega) (by simp only [maxLen]; omega) (by omega) (by simp; omega) _ (by rfl) ?_; intro g1 cap1 w1 hown1 hgrow1 hat1 hlt1)
      refine hK.out _ _ ?_ (fun hHeld => ?_)
      · (try dsimp only); (refine keepS ?_ ?_ ?_ <;> repeat (first | with_reducible exact HC1.out | with_reducible exact HC2.out | with_reducible exact HC3.out | with_reducible exact HB1.out | with_reducible exact HB2.out | with_reducible exact HB3.out | with_reducible refine Ext.drew ?_ | with_reducible refine Ext.alloc ?_ _ | with_reducible refine Blk.drew ?_ | with_reducible refine Blk.alloc ?_ _ | with_reducible refine Blk.grown ?_ hgrow2 ne2.out | with_reducible refine Blk.grown ?_ hgrow2 nr2.out | with_reducible refine Blk.grown ?_ hgrow1 ne1.out | with_reducible refine Blk.grown ?_ hgrow1 nr1.out | with_reducible refine Ext.grown ?_ hgrow2 (fun k hk => (lt2.out k hk).1) | with_reducible refine Ext.grown ?_ hgrow1 (fun k hk => (lt1.out k hk).1)))
      clear HH
      have HH := Lib.hid hHeld
      clear hHeld
      have HC1 := Lib.hid HH.out.2.2.2.2.1
      have HC2 := Lib.hid HH.out.2.2.2.2.2.1
      have HC3 := Lib.hid HH.out.2.2.2.2.2.2
      clear hK K
      (try simp only [Act.put, List.setIfInBounds_toArray, List.set_cons_zero, List.set_cons_succ])
      refine wpL_take 10 11 (v := ?_) rfl (by kernel_rfl) (fun _ _ _ h => h) HH.out (by rfl) ?yld ?_
      case yld => (intro w' hSw; obtain ⟨s1, s2, s3, s4, -⟩ := hSw; go_simp; try with_reducible rfl)
      (try simp only [Act.put, List.setIfInBounds_toArray, List.set_cons_zero, List.set_cons_succ])
      refine wpL_take 11 11 (v := ?_) rfl (by kernel_rfl) (fun _ _ _ h => h) HH.out (by rfl) ?yld ?_
      case yld => (intro w' hSw; obtain ⟨s1, s2, s3, s4, -⟩ := hSw; go_simp; try with_reducible rfl)
      (try simp only [Act.put, List.setIfInBounds_toArray, List.set_cons_zero, List.set_cons_succ])
      refine wpL_ready [8] (by kernel_rfl) (by simp) ?_
      refine AllL.cons rfl (fun K hK => ?_) ?_
      · go_simp
        refine hK.out _ _ ?_ (fun hHeld => ?_)
        · (try dsimp only); (refine keepS ?_ ?_ ?_ <;> repeat (first | with_reducible exact HC1.out | with_reducible exact HC2.out | with_reducible exact HC3.out | with_reducible exact HB1.out | with_reducible exact HB2.out | with_reducible exact HB3.out | with_reducible refine Ext.drew ?_ | with_reducible refine Ext.alloc ?_ _ | with_reducible refine Blk.drew ?_ | with_reducible refine Blk.alloc ?_ _ | with_reducible refine Blk.grown ?_ hgrow2 ne2.out | with_reducible refine Blk.grown ?_ hgrow2 nr2.out | with_reducible refine Blk.grown ?_ hgrow1 ne1.out | with_reducible refine Blk.grown ?_ hgrow1 nr1.out | with_reducible refine Ext.grown ?_ hgrow2 (fun k hk => (lt2.out k hk).1) | with_reducible refine Ext.grown ?_ hgrow1 (fun k hk => (lt1.out k hk).1)))
        clear HH
        have HH := Lib.hid hHeld
        clear hHeld
        clear hK K
        (try simp only [Act.put, List.setIfInBounds_toArray, List.set_cons_zero, List.set_cons_succ])
        refine wpL_ready [9] (by kernel_rfl) (by simp) ?_
        refine AllL.cons rfl (fun K hK => ?_) ?_
        · (refine step_append_lies _ (by rfl) _ _ _ (by rfl) w.heap.size 102 i0 _ 1 4 Tryz.underlying35 hi0 hz0 hz1 hz2 rfl (by omega) (.slice A31 n2 c31) n2 ((digs zd.natAbs).map U) (by rfl) (by repeat (first | with_reducible exact HO2.out | with_reducible refine World.ownsRow.drew ?_ | with_reducible refine World.ownsRow.alloc ?_ _ | refine own_grown ?_ hgrow1 (fun k h1 h2 => AP.out k h2.symm h1))) ⟨_, 0, none⟩ 1 1 [.int .u32 0] (by rfl) (by rfl) (World.news_of_block (cs := #[.int .u32 0]) (t := 102) (fr := (0, 0)) (by show Blk _ _ _ _; repeat (first | with_reducible exact Blk.new _ _ _ | ((with_reducible refine Blk.new' ?_); simp; done) | with_reducible refine Blk.drew ?_ | with_reducible refine Blk.alloc ?_ _ | refine Blk.grown ?_ hgrow1 (fun h => by have := (lt1.out _ h.symm).2; first | omega | (simp at this; done) | (simp at this; omega))))) (by simp [Value.oneCell']) (by omega) (by simp only [maxLen]; omega) (by omega) (by have := hgrow1.size; simp at this ⊢; omega) _ (by rfl) ?_; intro g2 cap2 w2 hown2 hgrow2 hat2 hlt2)
          refine hK.out _ _ ?_ (fun hHeld => ?_)
          · (try dsimp only); (refine keepS ?_ ?_ ?_ <;> repeat (first | with_reducible exact HC1.out | with_reducible exact HC2.out | with_reducible exact HC3.out | with_reducible exact HB1.out | with_reducible exact HB2.out | with_reducible exact HB3.out | with_reducible refine Ext.drew ?_ | with_reducible refine Ext.alloc ?_ _ | with_reducible refine Blk.drew ?_ | with_reducible refine Blk.alloc ?_ _ | with_reducible refine Blk.grown ?_ hgrow2 ne2.out | with_reducible refine Blk.grown ?_ hgrow2 nr2.out | with_reducible refine Blk.grown ?_ hgrow1 ne1.out | with_reducible refine Blk.grown ?_ hgrow1 nr1.out | with_reducible refine Ext.grown ?_ hgrow2 (fun k hk => (lt2.out k hk).1) | with_reducible refine Ext.grown ?_ hgrow1 (fun k hk => (lt1.out k hk).1)))
          clear HH
          have HH := Lib.hid hHeld
          clear hHeld
          clear hK K
          (try simp only [Act.put, List.setIfInBounds_toArray, List.set_cons_zero, List.set_cons_succ])
          have P1 : Hid (some g1 ≠ (Value.slice A31 n2 c31).ownBlock) := fun h => by
            rcases hat1 with h1 | h1
            · exact AP.out g1 h1 h.symm
            · have := (lt2.out g1 h.symm).2
              (try simp at h1); omega
          have P2 : Hid (g1 ≠ g2) := fun h => by
            rcases hat2 with h2 | h2
            · exact P1.out (by rw [h]; exact h2.symm)
            · (try simp at h2); omega
          have OW1 : Hid (w2.ownsRow w.heap.size 102 1 (.slice (some ⟨g1, 0, none⟩) (n1 + 1) cap1) (n1 + 1) ((digs zn.natAbs).map U ++ [.int .u32 0])) := by
            show World.ownsRow _ _ _ _ _ _ _
            refine own_grown ?_ hgrow2 (fun k h1 h2 => P1.out (by rw [show g1 = k from Option.some.inj h1]; exact h2))
            repeat (first | with_reducible exact hown1 | with_reducible refine World.ownsRow.drew ?_ | with_reducible refine World.ownsRow.alloc ?_ _)
          have OW2 := Lib.hid hown2
          obtain ⟨s1, s2, s3, s4, HE, HF, HR⟩ := HH.out
          have E2 := Lib.hid HE
          have BF2 := Lib.hid HF
          have BR2 := Lib.hid HR
          have G1 := Lib.hid (own_ne_blk OW1.out HF (by decide))
          have G2 := Lib.hid (own_ne_blk OW2.out HF (by decide))
          clear HE HF HR HH hown1 hgrow1 hat1 hlt1 hown2 hgrow2 hat2 hlt2 lt1 lt2 ne1 ne2 nr1 nr2 AP P1 HB1 HB2 HB3 HC1 HC2 HC3 HO1 HO2 hi0 hz0 hz1 hz2
          refine wpL_ready [12] (by kernel_rfl) (by simp) ?_
          refine AllL.last rfl (by kernel_rfl) (fun K hK => ?_) AllL.nil
          go_simp
          refine hK.out _ _ ?_
          clear hK K
          (try simp only [Act.put, List.setIfInBounds_toArray, List.set_cons_zero, List.set_cons_succ])
          refine wpL_ready [13] (by kernel_rfl) (by simp) ?_
          refine AllL.last rfl (by kernel_rfl) (fun K hK => ?_) AllL.nil
          go_simp
          refine hK.out _ _ ?_
          clear hK K
          (try simp only [Act.put, List.setIfInBounds_toArray, List.set_cons_zero, List.set_cons_succ])
          refine wpL_ready [14] (by kernel_rfl) (by simp) ?_
          refine AllL.last rfl (by kernel_rfl) (fun K hK => ?_) AllL.nil
          go_simp
          refine hK.out _ _ ?_
          clear hK K
          (try simp only [Act.put, List.setIfInBounds_toArray, List.set_cons_zero, List.set_cons_succ])
          refine wpL_ready [15] (by kernel_rfl) (by simp) ?_
          refine AllL.last rfl (by kernel_rfl) (fun K hK => ?_) AllL.nil
          go_simp
          refine hK.out _ _ ?_
          clear hK K
          (try simp only [Act.put, List.setIfInBounds_toArray, List.set_cons_zero, List.set_cons_succ])
          refine wpL_done (by kernel_rfl) ?_ _
          refine NoPanic.normal ?_
          have hL0 := Loc.raw HV.out ((E2.out.setCell (p := ⟨Wc1.heap.size, 1, none⟩) hlow (.slice (some ⟨g1, 0, none⟩) (n1 + 1) cap1)).setCell (p := ⟨Wc1.heap.size, 3, none⟩) hlow (.slice (some ⟨g2, 0, none⟩) (n2 + 1) cap2)) (Ls := [(Wc1.heap.size, 39, #[.bool (decide (zn < 0)), .slice (some ⟨g1, 0, none⟩) (n1 + 1) cap1, .bool (decide (zd < 0)), .slice (some ⟨g2, 0, none⟩) (n2 + 1) cap2]), (w.heap.size, 39, #[.bool false, .slice none 0 0, .bool false, .slice none 0 0])])
            (fun x hx => by
              rcases List.mem_cons.1 hx with rfl | hx
              · exact ⟨hlow, (BF2.out.set_ 1 _).set_ 3 _⟩
              · rcases List.mem_singleton.1 hx with rfl
                exact ⟨Nat.le_refl _, (BR2.out.far (Ne.symm hfr) _).far (Ne.symm hfr) _⟩)
            (List.Pairwise.cons (fun y hy => by rcases List.mem_singleton.1 hy with rfl; exact hfr) (List.pairwise_singleton _ _))
          obtain ⟨R3, R4, m9, hL, row1, row2⟩ := hL0.reown2 (g1 := false) (g2 := false) (own_set (own_set OW1.out G1.out _) G1.out _) (own_set (own_set OW2.out G2.out _) G2.out _) (Nat.le_refl _) (Nat.le_refl _) (fun k h1 h2 => P2.out ((Option.some.inj h1).trans (Option.some.inj h2).symm)) (by simp)
          simp only [List.cons_append, List.nil_append] at hL
          have ROW1 := Lib.hid row1
          have ROW2 := Lib.hid row2
          clear hL0 row1 row2 s1 s2 s3 s4 E2 BF2 BR2 OW1 OW2 G1 G2 P2
          go_wp2_with (first | ((with_reducible refine kAny ?_); go_skip) | (with_reducible refine stA ?_) | ((first | refine tIx ?_ | refine tFd ?_ | refine tLd ?_ | (refine tSr ?_; clear hL; intro _ hL; simp only [zq2, zq3] at hL) | (refine tSt ?_; clear hL; intro _ hL; simp only [splice, zq1, zq2, zq3] at hL) | (refine tAl ?_; clear hL; intro _ _ hL _) | refine tFl ?_ | (refine tBs ?_; clear hL; intro _ _ hL _ hBs)); simp only [Act.put, zq1, zq2, zq3]))
          obtain ⟨m10, B4, c4, hL10, hle10, e4, hc4, hs4, -⟩ := Loc.show (A := _ :: _ :: R3) hL ROW2.out
          obtain ⟨m11, B3, c3, hL11, hle11, e3, hc3, hs3, -⟩ := Loc.show (A := [_, _]) hL10 ROW1.out
          injection e3 with x1 x2 x3
          subst x1 x3
          injection e4 with x1 x2 x3
          subst x1 x3
          refine fin_aggR hL Tryz.results19 rfl rfl loX ag_Frac rfl hL11 ?_
          rw [EN.out, ED.out]
          exact frG_app hs3 (hs4.le hle11) (by rw [HN1.out]; exact hc3) (by rw [HN2.out]; exact hc4) HN1.out HN2.out (by rw [← EN.out]; exact BN.out) (by rw [← ED.out]; exact BD.out) (fun h => by rw [← EN.out]; exact wZ (ED.out.trans h))
        exact AllL.nil
      exact AllL.nil
    refine AllL.cons rfl (fun K hK => ?_) ?_
    · go_simp
      refine hK.out _ _ ?_ (fun hHeld => ?_)
      · (try dsimp only); (refine keepS ?_ ?_ ?_ <;> repeat (first | with_reducible exact HC1.out | with_reducible exact HC2.out | with_reducible exact HC3.out | with_reducible exact HB1.out | with_reducible exact HB2.out | with_reducible exact HB3.out | with_reducible refine Ext.drew ?_ | with_reducible refine Ext.alloc ?_ _ | with_reducible refine Blk.drew ?_ | with_reducible refine Blk.alloc ?_ _ | with_reducible refine Blk.grown ?_ hgrow2 ne2.out | with_reducible refine Blk.grown ?_ hgrow2 nr2.out | with_reducible refine Blk.grown ?_ hgrow1 ne1.out | with_reducible refine Blk.grown ?_ hgrow1 nr1.out | with_reducible refine Ext.grown ?_ hgrow2 (fun k hk => (lt2.out k hk).1) | with_reducible refine Ext.grown ?_ hgrow1 (fun k hk => (lt1.out k hk).1)))
      clear HH
      have HH := Lib.hid hHeld
      clear hHeld
      clear hK K
      (try simp only [Act.put, List.setIfInBounds_toArray, List.set_cons_zero, List.set_cons_succ])
      refine wpL_ready [4] (by kernel_rfl) (by simp) ?_
      refine AllL.cons rfl (fun K hK => ?_) ?_
      · (refine step_append_lies _ (by rfl) _ _ _ (by rfl) w.heap.size 102 i0 _ 1 4 Tryz.underlying35 hi0 hz0 hz1 hz2 rfl (by omega) (.slice A27 n1 c27) n1 ((digs zn.natAbs).map U) (by rfl) (by repeat (first | with_reducible exact HO1.out | with_reducible refine World.ownsRow.drew ?_ | with_reducible refine World.ownsRow.alloc ?_ _)) ⟨_, 0, none⟩ 1 1 [.int .u32 0] (by rfl) (by rfl) (World.news_of_block (cs := #[.int .u32 0]) (t := 102) (fr := (0, 0)) (by show Blk _ _ _ _; repeat (first | with_reducible exact Blk.new _ _ _ | ((with_reducible refine Blk.new' ?_); simp; done) | with_reducible refine Blk.drew ?_ | with_reducible refine Blk.alloc ?_ _))) (by simp [Value.oneCell']) (by omega) (by simp only [maxLen]; omega) (by omega) (by simp; omega) _ (by rfl) ?_; intro g1 cap1 w1 hown1 hgrow1 hat1 hlt1)
        refine hK.out _ _ ?_ (fun hHeld => ?_)
        · (try dsimp only); (refine keepS ?_ ?_ ?_ <;> repeat (first | with_reducible exact HC1.out | with_reducible exact HC2.out | with_reducible exact HC3.out | with_reducible exact HB1.out | with_reducible exact HB2.out | with_reducible exact HB3.out | with_reducible refine Ext.drew ?_ | with_reducible refine Ext.alloc ?_ _ | with_reducible refine Blk.drew ?_ | with_reducible refine Blk.alloc ?_ _ | with_reducible refine Blk.grown ?_ hgrow2 ne2.out | with_reducible refine Blk.grown ?_ hgrow2 nr2.out | with_reducible refine Blk.grown ?_ hgrow1 ne1.out | with_reducible refine Blk.grown ?_ hgrow1 nr1.out | with_reducible refine Ext.grown ?_ hgrow2 (fun k hk => (lt2.out k hk).1) | with_reducible refine Ext.grown ?_ hgrow1 (fun k hk => (lt1.out k hk).1)))
        clear HH
        have HH := Lib.hid hHeld
        clear hHeld
        have HC1 := Lib.hid HH.out.2.2.2.2.1
        have HC2 := Lib.hid HH.out.2.2.2.2.2.1
        have HC3 := Lib.hid HH.out.2.2.2.2.2.2
        clear hK K
        (try simp only [Act.put, List.setIfInBounds_toArray, List.set_cons_zero, List.set_cons_succ])
        refine wpL_take 10 11 (v := ?_) rfl (by kernel_rfl) (fun _ _ _ h => h) HH.out (by rfl) ?yld ?_
        case yld => (intro w' hSw; obtain ⟨s1, s2, s3, s4, -⟩ := hSw; go_simp; try with_reducible rfl)
        (try simp only [Act.put, List.setIfInBounds_toArray, List.set_cons_zero, List.set_cons_succ])
        refine wpL_take 11 11 (v := ?_) rfl (by kernel_rfl) (fun _ _ _ h => h) HH.out (by rfl) ?yld ?_
        case yld => (intro w' hSw; obtain ⟨s1, s2, s3, s4, -⟩ := hSw; go_simp; try with_reducible rfl)
        (try simp only [Act.put, List.setIfInBounds_toArray, List.set_cons_zero, List.set_cons_succ])
        refine wpL_ready [9] (by kernel_rfl) (by simp) ?_
        refine AllL.cons rfl (fun K hK => ?_) ?_
        · (refine step_append_lies _ (by rfl) _ _ _ (by rfl) w.heap.size 102 i0 _ 1 4 Tryz.underlying35 hi0 hz0 hz1 hz2 rfl (by omega) (.slice A31 n2 c31) n2 ((digs zd.natAbs).map U) (by rfl) (by repeat (first | with_reducible exact HO2.out | with_reducible refine World.ownsRow.drew ?_ | with_reducible refine World.ownsRow.alloc ?_ _ | refine own_grown ?_ hgrow1 (fun k h1 h2 => AP.out k h2.symm h1))) ⟨_, 0, none⟩ 1 1 [.int .u32 0] (by rfl) (by rfl) (World.news_of_block (cs := #[.int .u32 0]) (t := 102) (fr := (0, 0)) (by show Blk _ _ _ _; repeat (first | with_reducible exact Blk.new _ _ _ | ((with_reducible refine Blk.new' ?_); simp; done) | with_reducible refine Blk.drew ?_ | with_reducible refine Blk.alloc ?_ _ | refine Blk.grown ?_ hgrow1 (fun h => by have := (lt1.out _ h.symm).2; first | omega | (simp at this; done) | (simp at this; omega))))) (by simp [Value.oneCell']) (by omega) (by simp only [maxLen]; omega) (by omega) (by have := hgrow1.size; simp at this ⊢; omega) _ (by rfl) ?_; intro g2 cap2 w2 hown2 hgrow2 hat2 hlt2)
          refine hK.out _ _ ?_ (fun hHeld => ?_)
          · (try dsimp only); (refine keepS ?_ ?_ ?_ <;> repeat (first | with_reducible exact HC1.out | with_reducible exact HC2.out | with_reducible exact HC3.out | with_reducible exact HB1.out | with_reducible exact HB2.out | with_reducible exact HB3.out | with_reducible refine Ext.drew ?_ | with_reducible refine Ext.alloc ?_ _ | with_reducible refine Blk.drew ?_ | with_reducible refine Blk.alloc ?_ _ | with_reducible refine Blk.grown ?_ hgrow2 ne2.out | with_reducible refine Blk.grown ?_ hgrow2 nr2.out | with_reducible refine Blk.grown ?_ hgrow1 ne1.out | with_reducible refine Blk.grown ?_ hgrow1 nr1.out | with_reducible refine Ext.grown ?_ hgrow2 (fun k hk => (lt2.out k hk).1) | with_reducible refine Ext.grown ?_ hgrow1 (fun k hk => (lt1.out k hk).1)))
          clear HH
          have HH := Lib.hid hHeld
          clear hHeld
          clear hK K
          (try simp only [Act.put, List.setIfInBounds_toArray, List.set_cons_zero, List.set_cons_succ])
          have P1 : Hid (some g1 ≠ (Value.slice A31 n2 c31).ownBlock) := fun h => by
            rcases hat1 with h1 | h1
            · exact AP.out g1 h1 h.symm
            · have := (lt2.out g1 h.symm).2
              (try simp at h1); omega
          have P2 : Hid (g1 ≠ g2) := fun h => by
            rcases hat2 with h2 | h2
            · exact P1.out (by rw [h]; exact h2.symm)
            · (try simp at h2); omega
          have OW1 : Hid (w2.ownsRow w.heap.size 102 1 (.slice (some ⟨g1, 0, none⟩) (n1 + 1) cap1) (n1 + 1) ((digs zn.natAbs).map U ++ [.int .u32 0])) := by
            show World.ownsRow _ _ _ _ _ _ _
            refine own_grown ?_ hgrow2 (fun k h1 h2 => P1.out (by rw [show g1 = k from Option.some.inj h1]; exact h2))
            repeat (first | with_reducible exact hown1 | with_reducible refine World.ownsRow.drew ?_ | with_reducible refine World.ownsRow.alloc ?_ _)
          have OW2 := Lib.hid hown2
          obtain ⟨s1, s2, s3, s4, HE, HF, HR⟩ := HH.out
          have E2 := Lib.hid HE
          have BF2 := Lib.hid HF
          have BR2 := Lib.hid HR
          have G1 := Lib.hid (own_ne_blk OW1.out HF (by decide))
          have G2 := Lib.hid (own_ne_blk OW2.out HF (by decide))
          clear HE HF HR HH hown1 hgrow1 hat1 hlt1 hown2 hgrow2 hat2 hlt2 lt1 lt2 ne1 ne2 nr1 nr2 AP P1 HB1 HB2 HB3 HC1 HC2 HC3 HO1 HO2 hi0 hz0 hz1 hz2
          refine wpL_ready [12] (by kernel_rfl) (by simp) ?_
          refine AllL.last rfl (by kernel_rfl) (fun K hK => ?_) AllL.nil
          go_simp
          refine hK.out _ _ ?_
          clear hK K
          (try simp only [Act.put, List.setIfInBounds_toArray, List.set_cons_zero, List.set_cons_succ])
          refine wpL_ready [13] (by kernel_rfl) (by simp) ?_
          refine AllL.last rfl (by kernel_rfl) (fun K hK => ?_) AllL.nil
          go_simp
          refine hK.out _ _ ?_
          clear hK K
          (try simp only [Act.put, List.setIfInBounds_toArray, List.set_cons_zero, List.set_cons_succ])
          refine wpL_ready [14] (by kernel_rfl) (by simp) ?_
          refine AllL.last rfl (by kernel_rfl) (fun K hK => ?_) AllL.nil
          go_simp
          refine hK.out _ _ ?_
          clear hK K
          (try simp only [Act.put, List.setIfInBounds_toArray, List.set_cons_zero, List.set_cons_succ])
          refine wpL_ready [15] (by kernel_rfl) (by simp) ?_
          refine AllL.last rfl (by kernel_rfl) (fun K hK => ?_) AllL.nil
          go_simp
          refine hK.out _ _ ?_
          clear hK K
          (try simp only [Act.put, List.setIfInBounds_toArray, List.set_cons_zero, List.set_cons_succ])
          refine wpL_done (by kernel_rfl) ?_ _
          refine NoPanic.normal ?_
          have hL0 := Loc.raw HV.out ((E2.out.setCell (p := ⟨Wc1.heap.size, 1, none⟩) hlow (.slice (some ⟨g1, 0, none⟩) (n1 + 1) cap1)).setCell (p := ⟨Wc1.heap.size, 3, none⟩) hlow (.slice (some ⟨g2, 0, none⟩) (n2 + 1) cap2)) (Ls := [(Wc1.heap.size, 39, #[.bool (decide (zn < 0)), .slice (some ⟨g1, 0, none⟩) (n1 + 1) cap1, .bool (decide (zd < 0)), .slice (some ⟨g2, 0, none⟩) (n2 + 1) cap2]), (w.heap.size, 39, #[.bool false, .slice none 0 0, .bool false, .slice none 0 0])])
            (fun x hx => by
              rcases List.mem_cons.1 hx with rfl | hx
              · exact ⟨hlow, (BF2.out.set_ 1 _).set_ 3 _⟩
              · rcases List.mem_singleton.1 hx with rfl
                exact ⟨Nat.le_refl _, (BR2.out.far (Ne.symm hfr) _).far (Ne.symm hfr) _⟩)
            (List.Pairwise.cons (fun y hy => by rcases List.mem_singleton.1 hy with rfl; exact hfr) (List.pairwise_singleton _ _))
          obtain ⟨R3, R4, m9, hL, row1, row2⟩ := hL0.reown2 (g1 := false) (g2 := false) (own_set (own_set OW1.out G1.out _) G1.out _) (own_set (own_set OW2.out G2.out _) G2.out _) (Nat.le_refl _) (Nat.le_refl _) (fun k h1 h2 => P2.out ((Option.some.inj h1).trans (Option.some.inj h2).symm)) (by simp)
          simp only [List.cons_append, List.nil_append] at hL
          have ROW1 := Lib.hid row1
          have ROW2 := Lib.hid row2
          clear hL0 row1 row2 s1 s2 s3 s4 E2 BF2 BR2 OW1 OW2 G1 G2 P2
          go_wp2_with (first | ((with_reducible refine kAny ?_); go_skip) | (with_reducible refine stA ?_) | ((first | refine tIx ?_ | refine tFd ?_ | refine tLd ?_ | (refine tSr ?_; clear hL; intro _ hL; simp only [zq2, zq3] at hL) | (refine tSt ?_; clear hL; intro _ hL; simp only [splice, zq1, zq2, zq3] at hL) | (refine tAl ?_; clear hL; intro _ _ hL _) | refine tFl ?_ | (refine tBs ?_; clear hL; intro _ _ hL _ hBs)); simp only [Act.put, zq1, zq2, zq3]))
          obtain ⟨m10, B4, c4, hL10, hle10, e4, hc4, hs4, -⟩ := Loc.show (A := _ :: _ :: R3) hL ROW2.out
          obtain ⟨m11, B3, c3, hL11, hle11, e3, hc3, hs3, -⟩ := Loc.show (A := [_, _]) hL10 ROW1.out
          injection e3 with x1 x2 x3
          subst x1 x3
          injection e4 with x1 x2 x3
          subst x1 x3
          refine fin_aggR hL Tryz.results19 rfl rfl loX ag_Frac rfl hL11 ?_
          rw [EN.out, ED.out]
          exact frG_app hs3 (hs4.le hle11) (by rw [HN1.out]; exact hc3) (by rw [HN2.out]; exact hc4) HN1.out HN2.out (by rw [← EN.out]; exact BN.out) (by rw [← ED.out]; exact BD.out) (fun h => by rw [← EN.out]; exact wZ (ED.out.trans h))
        exact AllL.nil
      exact AllL.nil
    exact AllL.nil
  refine AllL.cons rfl (fun K hK => ?_) ?_
  · go_simp
    refine hK.out _ _ ?_ (fun hHeld => ?_)
    · (try dsimp only); (refine keepS ?_ ?_ ?_ <;> repeat (first | with_reducible exact HC1.out | with_reducible exact HC2.out | with_reducible exact HC3.out | with_reducible exact HB1.out | with_reducible exact HB2.out | with_reducible exact HB3.out | with_reducible refine Ext.drew ?_ | with_reducible refine Ext.alloc ?_ _ | with_reducible refine Blk.drew ?_ | with_reducible refine Blk.alloc ?_ _ | with_reducible refine Blk.grown ?_ hgrow2 ne2.out | with_reducible refine Blk.grown ?_ hgrow2 nr2.out | with_reducible refine Blk.grown ?_ hgrow1 ne1.out | with_reducible refine Blk.grown ?_ hgrow1 nr1.out | with_reducible refine Ext.grown ?_ hgrow2 (fun k hk => (lt2.out k hk).1) | with_reducible refine Ext.grown ?_ hgrow1 (fun k hk => (lt1.out k hk).1)))
    clear HH
    have HH := Lib.hid hHeld
    clear hHeld
    clear hK K
    (try simp only [Act.put, List.setIfInBounds_toArray, List.set_cons_zero, List.set_cons_succ])
    refine wpL_ready [3] (by kernel_rfl) (by simp) ?_
    refine AllL.cons rfl (fun K hK => ?_) ?_
    · go_simp
      refine hK.out _ _ ?_ (fun hHeld => ?_)
      · (try dsimp only); (refine keepS ?_ ?_ ?_ <;> repeat (first | with_reducible exact HC1.out | with_reducible exact HC2.out | with_reducible exact HC3.out | with_reducible exact HB1.out | with_reducible exact HB2.out | with_reducible exact HB3.out | with_reducible refine Ext.drew ?_ | with_reducible refine Ext.alloc ?_ _ | with_reducible refine Blk.drew ?_ | with_reducible refine Blk.alloc ?_ _ | with_reducible refine Blk.grown ?_ hgrow2 ne2.out | with_reducible refine Blk.grown ?_ hgrow2 nr2.out | with_reducible refine Blk.grown ?_ hgrow1 ne1.out | with_reducible refine Blk.grown ?_ hgrow1 nr1.out | with_reducible refine Ext.grown ?_ hgrow2 (fun k hk => (lt2.out k hk).1) | with_reducible refine Ext.grown ?_ hgrow1 (fun k hk => (lt1.out k hk).1)))
      clear HH
      have HH := Lib.hid hHeld
      clear hHeld
      clear hK K
      (try simp only [Act.put, List.setIfInBounds_toArray, List.set_cons_zero, List.set_cons_succ])
      refine wpL_ready [4] (by kernel_rfl) (by simp) ?_
      refine AllL.cons rfl (fun K hK => ?_) ?_
      · (refine step_append_lies _ (by rfl) _ _ _ (by rfl) w.heap.size 102 i0 _ 1 4 Tryz.underlying35 hi0 hz0 hz1 hz2 rfl (by omega) (.slice A27 n1 c27) n1 ((digs zn.natAbs).map U) (by rfl) (by repeat (first | with_reducible exact HO1.out | with_reducible refine World.ownsRow.drew ?_ | with_reducible refine World.ownsRow.alloc ?_ _)) ⟨_, 0, none⟩ 1 1 [.int .u32 0] (by rfl) (by rfl) (World.news_of_block (cs := #[.int .u32 0]) (t := 102) (fr := (0, 0)) (by show Blk _ _ _ _; repeat (first | with_reducible exact Blk.new _ _ _ | ((with_reducible refine Blk.new' ?_); simp; done) | with_reducible refine Blk.drew ?_ | with_reducible refine Blk.alloc ?_ _))) (by simp [Value.oneCell']) (by omega) (by simp only [maxLen]; omega) (by omega) (by simp; omega) _ (by rfl) ?_; intro g1 cap1 w1 hown1 hgrow1 hat1 hlt1)
        refine hK.out _ _ ?_ (fun hHeld => ?_)
        · (try dsimp only); (refine keepS ?_ ?_ ?_ <;> repeat (first | with_reducible exact HC1.out | with_reducible exact HC2.out | with_reducible exact HC3.out | with_reducible exact HB1.out | with_reducible exact HB2.out | with_reducible exact HB3.out | with_reducible refine Ext.drew ?_ | with_reducible refine Ext.alloc ?_ _ | with_reducible refine Blk.drew ?_ | with_reducible refine Blk.alloc ?_ _ | with_reducible refine Blk.grown ?_ hgrow2 ne2.out | with_reducible refine Blk.grown ?_ hgrow2 nr2.out | with_reducible refine Blk.grown ?_ hgrow1 ne1.out | with_reducible refine Blk.grown ?_ hgrow1 nr1.out | with_reducible refine Ext.grown ?_ hgrow2 (fun k hk => (lt2.out k hk).1) | with_reducible refine Ext.grown ?_ hgrow1 (fun k hk => (lt1.out k hk).1)))
        clear HH
        have HH := Lib.hid hHeld
        clear hHeld
        have HC1 := Lib.hid HH.out.2.2.2.2.1
        have HC2 := Lib.hid HH.out.2.2.2.2.2.1
        have HC3 := Lib.hid HH.out.2.2.2.2.2.2
        clear hK K
        (try simp only [Act.put, List.setIfInBounds_toArray, List.set_cons_zero, List.set_cons_succ])
        refine wpL_take 10 11 (v := ?_) rfl (by kernel_rfl) (fun _ _ _ h => h) HH.out (by rfl) ?yld ?_
        case yld => (intro w' hSw; obtain ⟨s1, s2, s3, s4, -⟩ := hSw; go_simp; try with_reducible rfl)
        (try simp only [Act.put, List.setIfInBounds_toArray, List.set_cons_zero, List.set_cons_succ])
        refine wpL_take 11 11 (v := ?_) rfl (by kernel_rfl) (fun _ _ _ h => h) HH.out (by rfl) ?yld ?_
        case yld => (intro w' hSw; obtain ⟨s1, s2, s3, s4, -⟩ := hSw; go_simp; try with_reducible rfl)
        (try simp only [Act.put, List.setIfInBounds_toArray, List.set_cons_zero, List.set_cons_succ])
        refine wpL_ready [9] (by kernel_rfl) (by simp) ?_
        refine AllL.cons rfl (fun K hK => ?_) ?_
        · (refine step_append_lies _ (by rfl) _ _ _ (by rfl) w.heap.size 102 i0 _ 1 4 Tryz.underlying35 hi0 hz0 hz1 hz2 rfl (by omega) (.slice A31 n2 c31) n2 ((digs zd.natAbs).map U) (by rfl) (by repeat (first | with_reducible exact HO2.out | with_reducible refine World.ownsRow.drew ?_ | with_reducible refine World.ownsRow.alloc ?_ _ | refine own_grown ?_ hgrow1 (fun k h1 h2 => AP.out k h2.symm h1))) ⟨_, 0, none⟩ 1 1 [.int .u32 0] (by rfl) (by rfl) (World.news_of_block (cs := #[.int .u32 0]) (t := 102) (fr := (0, 0)) (by show Blk _ _ _ _; repeat (first | with_reducible exact Blk.new _ _ _ | ((with_reducible refine Blk.new' ?_); simp; done) | with_reducible refine Blk.drew ?_ | with_reducible refine Blk.alloc ?_ _ | refine Blk.grown ?_ hgrow1 (fun h => by have := (lt1.out _ h.symm).2; first | omega | (simp at this; done) | (simp at this; omega))))) (by simp [Value.oneCell']) (by omega) (by simp only [maxLen]; omega) (by omega) (by have := hgrow1.size; simp at this ⊢; omega) _ (by rfl) ?_; intro g2 cap2 w2 hown2 hgrow2 hat2 hlt2)
          refine hK.out _ _ ?_ (fun hHeld => ?_)
          · (try dsimp only); (refine keepS ?_ ?_ ?_ <;> repeat (first | with_reducible exact HC1.out | with_reducible exact HC2.out | with_reducible exact HC3.out | with_reducible exact HB1.out | with_reducible exact HB2.out | with_reducible exact HB3.out | with_reducible refine Ext.drew ?_ | with_reducible refine Ext.alloc ?_ _ | with_reducible refine Blk.drew ?_ | with_reducible refine Blk.alloc ?_ _ | with_reducible refine Blk.grown ?_ hgrow2 ne2.out | with_reducible refine Blk.grown ?_ hgrow2 nr2.out | with_reducible refine Blk.grown ?_ hgrow1 ne1.out | with_reducible refine Blk.grown ?_ hgrow1 nr1.out | with_reducible refine Ext.grown ?_ hgrow2 (fun k hk => (lt2.out k hk).1) | with_reducible refine Ext.grown ?_ hgrow1 (fun k hk => (lt1.out k hk).1)))
          clear HH
          have HH := Lib.hid hHeld
          clear hHeld
          clear hK K
          (try simp only [Act.put, List.setIfInBounds_toArray, List.set_cons_zero, List.set_cons_succ])
          have P1 : Hid (some g1 ≠ (Value.slice A31 n2 c31).ownBlock) := fun h => by
            rcases hat1 with h1 | h1
            · exact AP.out g1 h1 h.symm
            · have := (lt2.out g1 h.symm).2
              (try simp at h1); omega
          have P2 : Hid (g1 ≠ g2) := fun h => by
            rcases hat2 with h2 | h2
            · exact P1.out (by rw [h]; exact h2.symm)
            · (try simp at h2); omega
          have OW1 : Hid (w2.ownsRow w.heap.size 102 1 (.slice (some ⟨g1, 0, none⟩) (n1 + 1) cap1) (n1 + 1) ((digs zn.natAbs).map U ++ [.int .u32 0])) := by
            show World.ownsRow _ _ _ _ _ _ _
            refine own_grown ?_ hgrow2 (fun k h1 h2 => P1.out (by rw [show g1 = k from Option.some.inj h1]; exact h2))
            repeat (first | with_reducible exact hown1 | with_reducible refine World.ownsRow.drew ?_ | with_reducible refine World.ownsRow.alloc ?_ _)
          have OW2 := Lib.hid hown2
          obtain ⟨s1, s2, s3, s4, HE, HF, HR⟩ := HH.out
          have E2 := Lib.hid HE
          have BF2 := Lib.hid HF
          have BR2 := Lib.hid HR
          have G1 := Lib.hid (own_ne_blk OW1.out HF (by decide))
          have G2 := Lib.hid (own_ne_blk OW2.out HF (by decide))
          clear HE HF HR HH hown1 hgrow1 hat1 hlt1 hown2 hgrow2 hat2 hlt2 lt1 lt2 ne1 ne2 nr1 nr2 AP P1 HB1 HB2 HB3 HC1 HC2 HC3 HO1 HO2 hi0 hz0 hz1 hz2
          refine wpL_ready [12] (by kernel_rfl) (by simp) ?_
          refine AllL.last rfl (by kernel_rfl) (fun K hK => ?_) AllL.nil
          go_simp
          refine hK.out _ _ ?_
          clear hK K
          (try simp only [Act.put, List.setIfInBounds_toArray, List.set_cons_zero, List.set_cons_succ])
          refine wpL_ready [13] (by kernel_rfl) (by simp) ?_
          refine AllL.last rfl (by kernel_rfl) (fun K hK => ?_) AllL.nil
          go_simp
          refine hK.out _ _ ?_
          clear hK K
          (try simp only [Act.put, List.setIfInBounds_toArray, List.set_cons_zero, List.set_cons_succ])
          refine wpL_ready [14] (by kernel_rfl) (by simp) ?_
          refine AllL.last rfl (by kernel_rfl) (fun K hK => ?_) AllL.nil
          go_simp
          refine hK.out _ _ ?_
          clear hK K
          (try simp only [Act.put, List.setIfInBounds_toArray, List.set_cons_zero, List.set_cons_succ])
          refine wpL_ready [15] (by kernel_rfl) (by simp) ?_
          refine AllL.last rfl (by kernel_rfl) (fun K hK => ?_) AllL.nil
          go_simp
          refine hK.out _ _ ?_
          clear hK K
          (try simp only [Act.put, List.setIfInBounds_toArray, List.set_cons_zero, List.set_cons_succ])
          refine wpL_done (by kernel_rfl) ?_ _
          refine NoPanic.normal ?_
          have hL0 := Loc.raw HV.out ((E2.out.setCell (p := ⟨Wc1.heap.size, 1, none⟩) hlow (.slice (some ⟨g1, 0, none⟩) (n1 + 1) cap1)).setCell (p := ⟨Wc1.heap.size, 3, none⟩) hlow (.slice (some ⟨g2, 0, none⟩) (n2 + 1) cap2)) (Ls := [(Wc1.heap.size, 39, #[.bool (decide (zn < 0)), .slice (some ⟨g1, 0, none⟩) (n1 + 1) cap1, .bool (decide (zd < 0)), .slice (some ⟨g2, 0, none⟩) (n2 + 1) cap2]), (w.heap.size, 39, #[.bool false, .slice none 0 0, .bool false, .slice none 0 0])])
            (fun x hx => by
              rcases List.mem_cons.1 hx with rfl | hx
              · exact ⟨hlow, (BF2.out.set_ 1 _).set_ 3 _⟩
              · rcases List.mem_singleton.1 hx with rfl
                exact ⟨Nat.le_refl _, (BR2.out.far (Ne.symm hfr) _).far (Ne.symm hfr) _⟩)
            (List.Pairwise.cons (fun y hy => by rcases List.mem_singleton.1 hy with rfl; exact hfr) (List.pairwise_singleton _ _))
          obtain ⟨R3, R4, m9, hL, row1, row2⟩ := hL0.reown2 (g1 := false) (g2 := false) (own_set (own_set OW1.out G1.out _) G1.out _) (own_set (own_set OW2.out G2.out _) G2.out _) (Nat.le_refl _) (Nat.le_refl _) (fun k h1 h2 => P2.out ((Option.some.inj h1).trans (Option.some.inj h2).symm)) (by simp)
          simp only [List.cons_append, List.nil_append] at hL
          have ROW1 := Lib.hid row1
          have ROW2 := Lib.hid row2
          clear hL0 row1 row2 s1 s2 s3 s4 E2 BF2 BR2 OW1 OW2 G1 G2 P2
          go_wp2_with (first | ((with_reducible refine kAny ?_); go_skip) | (with_reducible refine stA ?_) | ((first | refine tIx ?_ | refine tFd ?_ | refine tLd ?_ | (refine tSr ?_; clear hL; intro _ hL; simp only [zq2, zq3] at hL) | (refine tSt ?_; clear hL; intro _ hL; simp only [splice, zq1, zq2, zq3] at hL) | (refine tAl ?_; clear hL; intro _ _ hL _) | refine tFl ?_ | (refine tBs ?_; clear hL; intro _ _ hL _ hBs)); simp only [Act.put, zq1, zq2, zq3]))
          obtain ⟨m10, B4, c4, hL10, hle10, e4, hc4, hs4, -⟩ := Loc.show (A := _ :: _ :: R3) hL ROW2.out
          obtain ⟨m11, B3, c3, hL11, hle11, e3, hc3, hs3, -⟩ := Loc.show (A := [_, _]) hL10 ROW1.out
          injection e3 with x1 x2 x3
          subst x1 x3
          injection e4 with x1 x2 x3
          subst x1 x3
          refine fin_aggR hL Tryz.results19 rfl rfl loX ag_Frac rfl hL11 ?_
          rw [EN.out, ED.out]
          exact frG_app hs3 (hs4.le hle11) (by rw [HN1.out]; exact hc3) (by rw [HN2.out]; exact hc4) HN1.out HN2.out (by rw [← EN.out]; exact BN.out) (by rw [← ED.out]; exact BD.out) (fun h => by rw [← EN.out]; exact wZ (ED.out.trans h))
        exact AllL.nil
      exact AllL.nil
    exact AllL.nil
  exact AllL.nil
end Go.Proofs.YtmhkmmmompediaaGreat

/- Contracts of pairingdata.Wild whole, lagrange.copyPrices as a value, and lagrange.Step. -/
namespace Go.Proofs.YtmhkmmmompediaaGreat
open Go.RowKit

theorem d_Wild (n : Int) (w m : World) (hV : Vw m w) (h1 : -9223372036854775808 ≤ n) (h2 : n ≤ 9223372036854775807) :
    Calls Tryz.prog 19 #[.int .i64 n] w (RetV w m fun m' r => FrG m' r (wN n) (wD n)) := by
  by_cases h : n / 256 % 4 = 3
  · exact d_WildB n w m hV h1 h2 h
  · exact d_WildA n w m hV h1 h2 h
theorem l_copyPricesV (v : Value) (p : Pr) (w m : World) (hV : Vw m w) (h : PricesR m v p) (ok : p.ok) : Calls Tryz.prog 84 #[v] w (RetV w m fun m' r => PricesR m' r p) := by
  refine (l_copyPrices v p w m hV h ok).mono ?_
  rintro e w' ⟨m', g1, g3, cur1, cur3, b, s, rfl, hL, r1, r3, h2, h4⟩
  obtain ⟨m3, hL3, hle3, hcd3⟩ := Loc.showF (A := [_]) FracC.mono hL r3 rfl
  obtain ⟨m4, hL4, hle4, hfl4⟩ := Loc.showF (A := []) FracC.mono hL3 (RowF.le FracC.mono r1 hle3) rfl
  exact ⟨_, m4, rfl, hL4.ext, hL4.mext, hL4.vw, _, _, _, _, rfl, hfl4, CutL.le h2 (hle3.trans hle4), FracL.le hcd3 hle4, DecL.le h4 (hle3.trans hle4)⟩
theorem frG0 (m : World) : FrG m (.agg #[.bool false, .slice none 0 0, .bool false, .slice none 0 0]) 0 0 :=
  ⟨⟨_, _, _, _, _, _, _, _, rfl, IntC.nil.toV (by simp [digs_zero]), IntC.nil.toV (by simp [digs_zero])⟩, .inl (frac0 m)⟩
theorem q_AddZeroG (a : Value) (x y : Int) (w m : World) (hV : Vw m w) (ha : FrG m a x y) (hs : Sm x y) :
    Calls Tryz.prog 72 #[a, .agg #[.bool false, .slice none 0 0, .bool false, .slice none 0 0]] w (RetV w m fun m' r => FracC m' r (Rat.divInt x y)) := by
  have h := q_AddG a _ x y 0 0 w m hV ha (frG0 m) hs ⟨by decide, by decide⟩
  rwa [show Rat.divInt x y + Rat.divInt 0 0 = Rat.divInt x y by simp [Rat.add_zero]] at h
theorem FrG.lit {m : World} {v : Value} {x y : Int} (h : FrG m v x y) : ∃ g A n c f B k d, v = .agg #[.bool g, .slice A n c, .bool f, .slice B k d] ∧ FrG m (.agg #[.bool g, .slice A n c, .bool f, .slice B k d]) x y := by
  have h' := h
  obtain ⟨⟨g, A, n, c, f, B, k, d, rfl, -, -⟩, -⟩ := h
  exact ⟨_, _, _, _, _, _, _, _, rfl, h'⟩

/-- What Step hands back. -/
def StR (m : World) (v : Value) (p : Pr) (z : Rat) : Prop := ∃ a b, v = .tuple #[a, b] ∧ PricesR m a p ∧ FracC m b z

set_option maxRecDepth 100000 in
set_option maxHeartbeats 16000000 in
theorem l_Step (va vb ua ub : Value) (p q : Pr) (x y x' y' : Int) (w m : World) (hV : Vw m w) (ha : PricesR m va p) (hb : PricesR m vb q) (hu : FrG m ua x y) (hu' : FrG m ub x' y') (hs : Sm x y) (hs' : Sm x' y') (okp : p.ok) (okq : q.ok) :
    Calls Tryz.prog 23 #[va, ua, vb, ub] w (RetV w m fun m' r => StR m' r (if icmp (pN x' y' * pD y) (pN x y * pD y') > 0 then q else p) (if icmp (pN x' y' * pD y) (pN x y * pD y') > 0 then Rat.divInt x' y' else Rat.divInt x y)) := by
  obtain ⟨A0, c0, A1, c1, A2, c2, A3, c3, rfl, -, ha⟩ := ha.lit
  obtain ⟨B0, k0, B1, k1, B2, k2, B3, k3, rfl, -, hb⟩ := hb.lit
  obtain ⟨g1, C1, n1, d1, g2, C2, n2, d2, rfl, hu⟩ := hu.lit
  obtain ⟨f1, D1, m1, e1, f2, D2, m2, e2, rfl, hu'⟩ := hu'.lit
  have S1 := Lib.hid hs
  have S2 := Lib.hid hs'
  have OP := Lib.hid okp
  have OQ := Lib.hid okq
  have HA := Lib.hid ha
  have HB := Lib.hid hb
  have HU := Lib.hid hu
  have HU' := Lib.hid hu'
  have hL := Loc.start hV
  clear hV hs hs' okp okq ha hb hu hu'
  generalize p.fl.length = a0 at *
  generalize p.cu.length = a1 at *
  generalize p.cd.length = a2 at *
  generalize p.de.length = a3 at *
  generalize p.fr = a4 at *
  generalize q.fl.length = b0 at *
  generalize q.cu.length = b1 at *
  generalize q.cd.length = b2 at *
  generalize q.de.length = b3 at *
  generalize q.fr = b4 at *
  by_cases hc : icmp (pN x' y' * pD y) (pN x y * pD y') > 0
  · rw [if_pos hc, if_pos hc]
    have HC := Lib.hid hc
    clear hc
    go_enter Tryz.func23, Tryz.ntmps23
    go_upto_region 0 with (fail)
    refine wp_region_lit ?_
    refine t_box hL rfl rfl ?_; clear hL; intro Wh4 mh4 hL eh4; simp only [Act.put, zq1, zq2, zq3]
    refine t_box hL rfl rfl ?_; clear hL; intro Wh5 mh5 hL eh5; simp only [Act.put, zq1, zq2, zq3]
    refine t_box hL rfl rfl ?_; clear hL; intro Wh6 mh6 hL eh6; simp only [Act.put, zq1, zq2, zq3]
    refine t_box hL rfl rfl ?_; clear hL; intro Wh7 mh7 hL eh7; simp only [Act.put, zq1, zq2, zq3]
    refine t_alloc hL rfl ?_; clear hL; intro Wh8 mh8 hL eh8; simp only [Act.put, zq1, zq2, zq3]
    refine t_alloc hL rfl ?_; clear hL; intro Wh9 mh9 hL eh9; simp only [Act.put, zq1, zq2, zq3]
    go_wp2_with (first | ((with_reducible refine kAny ?_); go_skip) | (with_reducible refine stA ?_) | ((first | refine tLd ?_ | (refine tSr ?_; clear hL; intro _ hL; simp only [zq2, zq3] at hL) | (refine tSt ?_; clear hL; intro _ hL; simp only [splice, zq1, zq2, zq3] at hL) | (refine tBx ?_; clear hL; intro _ _ hL _) | (refine tAl ?_; clear hL; intro _ _ hL _)); simp only [Act.put, zq1, zq2, zq3]))
    refine (q_CompareG _ _ x' y' x y _ _ hL.vw (HU'.out.le leX) (HU.out.le leX) S2.out S1.out).mono ?_
    rintro e Wc1 ⟨_, mc1, rfl, hE, hMc1, hV, rfl⟩
    replace hL := hL.call hE (by assumption) hV; clear hE hV
    have hc := HC.out
    generalize icmp (pN x' y' * pD y) (pN x y * pD y') = s at *
    clear HC
    go_upto_region 2 with ((first | ((with_reducible refine kAny ?_); go_skip) | (with_reducible refine stA ?_) | ((first | refine tLd ?_ | (refine tSr ?_; clear hL; intro _ hL; simp only [zq2, zq3] at hL) | (refine tSt ?_; clear hL; intro _ hL; simp only [splice, zq1, zq2, zq3] at hL) | (refine tBx ?_; clear hL; intro _ _ hL _) | (refine tAl ?_; clear hL; intro _ _ hL _)); simp only [Act.put, zq1, zq2, zq3])))
    have hb := HB.out
    have hu' := HU'.out
    refine wp_region_by2 5 [false, false, false, false, false] [false, false, false, false, false] [(fun v _ _ => v = ?c2_0), Of (fun um v => PricesR um v q), (fun v _ _ => v = ?c2_2), (fun v _ _ => v = ?c2_3), Of (fun um v => FracC um v (Rat.divInt x' y'))] hL.vw mixed [14, 15, 16, 17, 18] _ (by kernel_rfl) (fun vs => by simp only [lay, Act.put, zq1, zq2, zq3]; rfl) (by kernel_rfl) (by decide) (by decide) ?s2 ?l2 ?r2
    case s2 =>
      refine ⟨?_, ?_, ?_, ?_, ?_, trivial⟩
      · intro vs W1 m1 hE hM hV hD
        clear hD
        replace hL := hL.call hE hM hV
        exact sLd
      · intro vs W1 m1 hE hM hV hD
        obtain ⟨⟨_, _, -, -, f14⟩, -⟩ := hD
        have f14 : vs 14 = _ := f14
        generalize vs 14 = x14 at f14 ⊢
        subst x14
        go_wp2_with fail
        refine (l_copyPricesV _ q _ _ hV (hb.le leX) OQ.out).mono ?_
        rintro e W2 ⟨v, m2, rfl, hE2, hM2, hV2, h⟩
        go_wp2_with fail
        refine One2.call hE2 hM2 hV2 ?_; first | exact h | exact rfl
      · intro vs W1 m1 hE hM hV hD
        clear hD
        replace hL := hL.call hE hM hV
        exact sLd
      · intro vs W1 m1 hE hM hV hD
        clear hD
        replace hL := hL.call hE hM hV
        exact sPu
      · intro vs W1 m1 hE hM hV hD
        obtain ⟨⟨_, _, -, -, f16⟩, ⟨_, _, -, -, f17⟩, -, -⟩ := hD
        have f16 : vs 16 = _ := f16
        generalize vs 16 = x16 at f16 ⊢
        subst x16
        have f17 : vs 17 = _ := f17
        generalize vs 17 = x17 at f17 ⊢
        subst x17
        go_wp2_with fail
        refine (q_AddZeroG _ x' y' _ _ hV (hu'.le leX) S2.out).mono ?_
        rintro e W2 ⟨v, m2, rfl, hE2, hM2, hV2, h⟩
        go_wp2_with fail
        refine One2.call hE2 hM2 hV2 ?_; first | exact h | exact rfl
    case l2 =>
      refine ⟨fun h => (by cases h), fun h => (by cases h), fun h => (by cases h), fun h => (by cases h), fun h => (by cases h), trivial⟩
    intro vs W1 m1 hE hM hV hF hD
    clear hD
    obtain ⟨-, ⟨_, _, -, i15, f15⟩, -, -, ⟨_, _, -, i18, f18⟩, -⟩ := hF
    replace hL := hL.call hE hM hV
    replace f15 : PricesR _ (vs 15) q := f15
    replace f15 := f15.le i15.le
    clear i15
    replace f18 : FracC _ (vs 18) (Rat.divInt x' y') := f18
    replace f18 := f18.le i18.le
    clear i18
    obtain ⟨g18, A18, n18, c18, h18, B18, k18, d18, e18, f18⟩ := f18.lit
    generalize vs 18 = x18 at e18 ⊢
    subst x18
    clear hE hV
    obtain ⟨A5, c5, A6, c6, A7, c7, A8, c8, e15, -, f15⟩ := f15.lit
    generalize vs 15 = x15 at e15 ⊢
    subst x15
    simp only [List.drop_succ_cons, List.drop_zero]
    go_wp2_with (first | ((with_reducible refine kAny ?_); go_skip) | (with_reducible refine stA ?_) | ((first | refine tLd ?_ | (refine tSr ?_; clear hL; intro _ hL; simp only [zq2, zq3] at hL) | (refine tSt ?_; clear hL; intro _ hL; simp only [splice, zq1, zq2, zq3] at hL) | (refine tBx ?_; clear hL; intro _ _ hL _) | (refine tAl ?_; clear hL; intro _ _ hL _)); simp only [Act.put, zq1, zq2, zq3]))
    refine QN.mk ?_
    go_wp2_with (first | ((with_reducible refine kAny ?_); go_skip) | (with_reducible refine stA ?_) | ((first | refine tLd ?_ | (refine tSr ?_; clear hL; intro _ hL; simp only [zq2, zq3] at hL) | (refine tSt ?_; clear hL; intro _ hL; simp only [splice, zq1, zq2, zq3] at hL) | (refine tBx ?_; clear hL; intro _ _ hL _) | (refine tAl ?_; clear hL; intro _ _ hL _)); simp only [Act.put, zq1, zq2, zq3]))
    obtain ⟨p1, p2, p3, p4, _⟩ := (hL.at_ lo0).facts4
    obtain ⟨p5, p6, p7, p8, p9, _⟩ := (hL.at_ lo1).facts5
    refine bodyPost_ret (v := .tuple #[.agg #[.slice A5 q.fl.length c5, .slice A6 q.cu.length c6, .slice A7 q.cd.length c7, .slice A8 q.de.length c8, .bool q.fr], .agg #[.bool g18, .slice A18 n18 c18, .bool h18, .slice B18 k18 d18]]) (by simp [results, Tryz.results23, go_sem, p1, p2, p3, p4, p5, p6, p7, p8, p9]) rfl (RetV.mk hL ?_)
    exact ⟨_, _, rfl, f15, f18⟩
  · rw [if_neg hc, if_neg hc]
    have HC := Lib.hid hc
    clear hc
    go_enter Tryz.func23, Tryz.ntmps23
    go_upto_region 0 with (fail)
    refine wp_region_lit ?_
    refine t_box hL rfl rfl ?_; clear hL; intro Wh4 mh4 hL eh4; simp only [Act.put, zq1, zq2, zq3]
    refine t_box hL rfl rfl ?_; clear hL; intro Wh5 mh5 hL eh5; simp only [Act.put, zq1, zq2, zq3]
    refine t_box hL rfl rfl ?_; clear hL; intro Wh6 mh6 hL eh6; simp only [Act.put, zq1, zq2, zq3]
    refine t_box hL rfl rfl ?_; clear hL; intro Wh7 mh7 hL eh7; simp only [Act.put, zq1, zq2, zq3]
    refine t_alloc hL rfl ?_; clear hL; intro Wh8 mh8 hL eh8; simp only [Act.put, zq1, zq2, zq3]
    refine t_alloc hL rfl ?_; clear hL; intro Wh9 mh9 hL eh9; simp only [Act.put, zq1, zq2, zq3]
    go_wp2_with (first | ((with_reducible refine kAny ?_); go_skip) | (with_reducible refine stA ?_) | ((first | refine tLd ?_ | (refine tSr ?_; clear hL; intro _ hL; simp only [zq2, zq3] at hL) | (refine tSt ?_; clear hL; intro _ hL; simp only [splice, zq1, zq2, zq3] at hL) | (refine tBx ?_; clear hL; intro _ _ hL _) | (refine tAl ?_; clear hL; intro _ _ hL _)); simp only [Act.put, zq1, zq2, zq3]))
    refine (q_CompareG _ _ x' y' x y _ _ hL.vw (HU'.out.le leX) (HU.out.le leX) S2.out S1.out).mono ?_
    rintro e Wc1 ⟨_, mc1, rfl, hE, hMc1, hV, rfl⟩
    replace hL := hL.call hE (by assumption) hV; clear hE hV
    have hc := HC.out
    generalize icmp (pN x' y' * pD y) (pN x y * pD y') = s at *
    clear HC
    go_upto_region 3 with ((first | ((with_reducible refine kAny ?_); go_skip) | (with_reducible refine stA ?_) | ((first | refine tLd ?_ | (refine tSr ?_; clear hL; intro _ hL; simp only [zq2, zq3] at hL) | (refine tSt ?_; clear hL; intro _ hL; simp only [splice, zq1, zq2, zq3] at hL) | (refine tBx ?_; clear hL; intro _ _ hL _) | (refine tAl ?_; clear hL; intro _ _ hL _)); simp only [Act.put, zq1, zq2, zq3])))
    have ha := HA.out
    have hu := HU.out
    refine wp_region_by2 5 [false, false, false, false, false] [false, false, false, false, false] [(fun v _ _ => v = ?c3_0), Of (fun um v => PricesR um v p), (fun v _ _ => v = ?c3_2), (fun v _ _ => v = ?c3_3), Of (fun um v => FracC um v (Rat.divInt x y))] hL.vw mixed [19, 20, 21, 22, 23] _ (by kernel_rfl) (fun vs => by simp only [lay, Act.put, zq1, zq2, zq3]; rfl) (by kernel_rfl) (by decide) (by decide) ?s3 ?l3 ?r3
    case s3 =>
      refine ⟨?_, ?_, ?_, ?_, ?_, trivial⟩
      · intro vs W1 m1 hE hM hV hD
        clear hD
        replace hL := hL.call hE hM hV
        exact sLd
      · intro vs W1 m1 hE hM hV hD
        obtain ⟨⟨_, _, -, -, f19⟩, -⟩ := hD
        have f19 : vs 19 = _ := f19
        generalize vs 19 = x19 at f19 ⊢
        subst x19
        go_wp2_with fail
        refine (l_copyPricesV _ p _ _ hV (ha.le leX) OP.out).mono ?_
        rintro e W2 ⟨v, m2, rfl, hE2, hM2, hV2, h⟩
        go_wp2_with fail
        refine One2.call hE2 hM2 hV2 ?_; first | exact h | exact rfl
      · intro vs W1 m1 hE hM hV hD
        clear hD
        replace hL := hL.call hE hM hV
        exact sLd
      · intro vs W1 m1 hE hM hV hD
        clear hD
        replace hL := hL.call hE hM hV
        exact sPu
      · intro vs W1 m1 hE hM hV hD
        obtain ⟨⟨_, _, -, -, f21⟩, ⟨_, _, -, -, f22⟩, -, -⟩ := hD
        have f21 : vs 21 = _ := f21
        generalize vs 21 = x21 at f21 ⊢
        subst x21
        have f22 : vs 22 = _ := f22
        generalize vs 22 = x22 at f22 ⊢
        subst x22
        go_wp2_with fail
        refine (q_AddZeroG _ x y _ _ hV (hu.le leX) S1.out).mono ?_
        rintro e W2 ⟨v, m2, rfl, hE2, hM2, hV2, h⟩
        go_wp2_with fail
        refine One2.call hE2 hM2 hV2 ?_; first | exact h | exact rfl
    case l3 =>
      refine ⟨fun h => (by cases h), fun h => (by cases h), fun h => (by cases h), fun h => (by cases h), fun h => (by cases h), trivial⟩
    intro vs W1 m1 hE hM hV hF hD
    clear hD
    obtain ⟨-, ⟨_, _, -, i20, f20⟩, -, -, ⟨_, _, -, i23, f23⟩, -⟩ := hF
    replace hL := hL.call hE hM hV
    replace f20 : PricesR _ (vs 20) p := f20
    replace f20 := f20.le i20.le
    clear i20
    replace f23 : FracC _ (vs 23) (Rat.divInt x y) := f23
    replace f23 := f23.le i23.le
    clear i23
    obtain ⟨g23, A23, n23, c23, h23, B23, k23, d23, e23, f23⟩ := f23.lit
    generalize vs 23 = x23 at e23 ⊢
    subst x23
    clear hE hV
    obtain ⟨A5, c5, A6, c6, A7, c7, A8, c8, e20, -, f20⟩ := f20.lit
    generalize vs 20 = x20 at e20 ⊢
    subst x20
    simp only [List.drop_succ_cons, List.drop_zero]
    go_wp2_with (first | ((with_reducible refine kAny ?_); go_skip) | (with_reducible refine stA ?_) | ((first | refine tLd ?_ | (refine tSr ?_; clear hL; intro _ hL; simp only [zq2, zq3] at hL) | (refine tSt ?_; clear hL; intro _ hL; simp only [splice, zq1, zq2, zq3] at hL) | (refine tBx ?_; clear hL; intro _ _ hL _) | (refine tAl ?_; clear hL; intro _ _ hL _)); simp only [Act.put, zq1, zq2, zq3]))
    refine QN.mk ?_
    go_wp2_with (first | ((with_reducible refine kAny ?_); go_skip) | (with_reducible refine stA ?_) | ((first | refine tLd ?_ | (refine tSr ?_; clear hL; intro _ hL; simp only [zq2, zq3] at hL) | (refine tSt ?_; clear hL; intro _ hL; simp only [splice, zq1, zq2, zq3] at hL) | (refine tBx ?_; clear hL; intro _ _ hL _) | (refine tAl ?_; clear hL; intro _ _ hL _)); simp only [Act.put, zq1, zq2, zq3]))
    obtain ⟨p1, p2, p3, p4, _⟩ := (hL.at_ lo0).facts4
    obtain ⟨p5, p6, p7, p8, p9, _⟩ := (hL.at_ lo1).facts5
    refine bodyPost_ret (v := .tuple #[.agg #[.slice A5 p.fl.length c5, .slice A6 p.cu.length c6, .slice A7 p.cd.length c7, .slice A8 p.de.length c8, .bool p.fr], .agg #[.bool g23, .slice A23 n23 c23, .bool h23, .slice B23 k23 d23]]) (by simp [results, Tryz.results23, go_sem, p1, p2, p3, p4, p5, p6, p7, p8, p9]) rfl (RetV.mk hL ?_)
    exact ⟨_, _, rfl, f20, f23⟩
end Go.Proofs.YtmhkmmmompediaaGreat
