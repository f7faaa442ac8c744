/- Part 4 of 7 of the proof: the laws BranchChildren and BranchFits return true for every input, and its arguments read as before; there is no condition. -/
import Derived.Maps.Own
import Derived.Maps.Views
import Derived.DeepKeys4
import Derived.Maps.RangeWalk
import Derived.Shelf.SlSortCmp.NoneTotal
import Derived.Test.YtmhkmmmompediaaGreatBR3
set_option linter.unusedVariables false
set_option linter.unusedSimpArgs false
/- Contracts of integer.addSigned and Add. -/
namespace Go.Proofs.YtmhkmmmompediaaGreat
open Go.RowKit

set_option maxRecDepth 100000 in
set_option maxHeartbeats 8000000 in
theorem i_addSigned (g h : Bool) (a b : Value) (x y : Nat) (z : Int) (w m : World) (hV : Vw m w) (ha : DigV m a (digs x)) (hb : DigV m b (digs y)) (hx : x < 18446744073709551616) (hy : y < 18446744073709551616) (hz : Hid (sgn g x + sgn h y = z)) :
    Calls Tryz.prog 179 #[.bool g, a, .bool h, b] w (RetV w m fun m' r => IntC m' r z) := by
  have lx : Hid (∀ k, k = x → (digs k).length ≤ 1000) := fun k e => by rw [e]; exact Nat.le_trans (len2 hx) (by decide)
  have ly : Hid (∀ k, k = y → (digs k).length ≤ 1000) := fun k e => by rw [e]; exact Nat.le_trans (len2 hy) (by decide)
  have ls : Hid ((digs (x + y)).length ≤ 1000) := Nat.le_trans (length_digs_le (k := 3) (by rw [show (4294967296 : Nat) ^ 3 = 79228162514264337593543950336 from rfl]; omega)) (by decide)
  have l1 : Hid ((digs (x - y)).length ≤ 1000) := Nat.le_trans (length_digs_mono (Nat.sub_le x y)) (lx.out _ rfl)
  have l2 : Hid ((digs (y - x)).length ≤ 1000) := Nat.le_trans (length_digs_mono (Nat.sub_le y x)) (ly.out _ rfl)
  obtain ⟨A1, c1, rfl, ha⟩ := ha.lit
  obtain ⟨A2, c2, rfl, hb⟩ := hb.lit
  have F1 := Lib.hid ha
  have F2 := Lib.hid hb
  have hL := Loc.start hV
  clear hV hx hy ha hb
  generalize (digs x).length = nx at *
  generalize (digs y).length = ny at *
  by_cases hg : g = h
  · subst hg
    have E : Hid (sgn g (x + y) = z) := by show _ = _; rw [sgn_add_same]; exact hz.out
    have bb : (g == g) = true := by simp
    clear hz
    go_enter Tryz.func179, Tryz.ntmps179
    go_wp2_with (first | ((with_reducible refine kAny ?_); go_skip) | (with_reducible refine stA ?_) | ((first | ((first | refine tSr ?_ | refine tSt ?_); clear hL; intro _ hL; simp only [splice, zq1, zq2, zq3] at hL) | (refine tAl ?_; clear hL; intro _ _ hL _)); simp only [Act.put, zq1, zq2, zq3]))
    refine (i_addMag _ _ x y _ _ hL.vw (F1.out.le leX) (F2.out.le leX) (lx.out _ rfl) (ly.out _ rfl)).mono ?_
    rintro e W11 ⟨v11, m11, rfl, hE, hM11, hV, h11⟩
    replace hL := hL.call hE (by assumption) hV; clear hE hV
    obtain ⟨A3, c3, rfl, h11⟩ := h11.lit
    go_wp2_with (first | ((with_reducible refine kAny ?_); go_skip) | (with_reducible refine stA ?_) | ((first | ((first | refine tSr ?_ | refine tSt ?_); clear hL; intro _ hL; simp only [splice, zq1, zq2, zq3] at hL) | (refine tAl ?_; clear hL; intro _ _ hL _)); simp only [Act.put, zq1, zq2, zq3]))
    refine (i_wrapE _ _ (x + y) z _ _ hL.vw (h11.toA ls.out) E).mono ?_
    rintro e W12 ⟨v12, m12, rfl, hE, hM12, hV, h12⟩
    replace hL := hL.call hE (by assumption) hV; clear hE hV
    obtain ⟨g12', A12', n12', c12', rfl, h12⟩ := h12.lit
    go_wp2_with (first | ((with_reducible refine kAny ?_); go_skip) | (with_reducible refine stA ?_) | ((first | ((first | refine tSr ?_ | refine tSt ?_); clear hL; intro _ hL; simp only [splice, zq1, zq2, zq3] at hL) | (refine tAl ?_; clear hL; intro _ _ hL _)); simp only [Act.put, zq1, zq2, zq3]))
    refine fin_agg hL Tryz.results179 rfl rfl loX AgC.h (by exact rfl) ?_
    exact h12
  · have bb : (g == h) = false := by simp [hg]
    by_cases hle : y ≤ x
    · have E : Hid (sgn g (x - y) = z) := by show _ = _; rw [sgn_sub_l g h x y hg hle]; exact hz.out
      have C : Hid (cmp3 x y ≥ 0) := cmp3_ge.2 hle
      have HLE := Lib.hid hle
      clear hz hle hg
      go_enter Tryz.func179, Tryz.ntmps179
      go_wp2_with (first | ((with_reducible refine kAny ?_); go_skip) | (with_reducible refine stA ?_) | ((first | ((first | refine tSr ?_ | refine tSt ?_); clear hL; intro _ hL; simp only [splice, zq1, zq2, zq3] at hL) | (refine tAl ?_; clear hL; intro _ _ hL _)); simp only [Act.put, zq1, zq2, zq3]))
      refine (i_compareMag _ _ x y _ _ hL.vw (F1.out.le leX) (F2.out.le leX) (lx.out _ rfl) (ly.out _ rfl)).mono ?_
      rintro e W10 ⟨_, m10, rfl, hE, hM10, hV, rfl⟩
      replace hL := hL.call hE (by assumption) hV; clear hE hV
      have hc := C.out
      generalize cmp3 x y = s at *
      go_wp2_with (first | ((with_reducible refine kAny ?_); go_skip) | (with_reducible refine stA ?_) | ((first | ((first | refine tSr ?_ | refine tSt ?_); clear hL; intro _ hL; simp only [splice, zq1, zq2, zq3] at hL) | (refine tAl ?_; clear hL; intro _ _ hL _)); simp only [Act.put, zq1, zq2, zq3]))
      refine (i_subMag _ _ x y _ _ hL.vw (F1.out.le leX) (F2.out.le leX) (lx.out _ rfl) HLE.out).mono ?_
      rintro e W11 ⟨v11, m11, rfl, hE, hM11, hV, h11⟩
      replace hL := hL.call hE (by assumption) hV; clear hE hV
      obtain ⟨A3, c3, rfl, h11⟩ := h11.lit
      go_wp2_with (first | ((with_reducible refine kAny ?_); go_skip) | (with_reducible refine stA ?_) | ((first | ((first | refine tSr ?_ | refine tSt ?_); clear hL; intro _ hL; simp only [splice, zq1, zq2, zq3] at hL) | (refine tAl ?_; clear hL; intro _ _ hL _)); simp only [Act.put, zq1, zq2, zq3]))
      refine (i_wrapE _ _ (x - y) z _ _ hL.vw (h11.toA l1.out) E).mono ?_
      rintro e W12 ⟨v12, m12, rfl, hE, hM12, hV, h12⟩
      replace hL := hL.call hE (by assumption) hV; clear hE hV
      obtain ⟨g12', A12', n12', c12', rfl, h12⟩ := h12.lit
      go_wp2_with (first | ((with_reducible refine kAny ?_); go_skip) | (with_reducible refine stA ?_) | ((first | ((first | refine tSr ?_ | refine tSt ?_); clear hL; intro _ hL; simp only [splice, zq1, zq2, zq3] at hL) | (refine tAl ?_; clear hL; intro _ _ hL _)); simp only [Act.put, zq1, zq2, zq3]))
      refine fin_agg hL Tryz.results179 rfl rfl loX AgC.h (by exact rfl) ?_
      exact h12
    · have E : Hid (sgn h (y - x) = z) := by show _ = _; rw [sgn_sub_r g h x y hg (by omega)]; exact hz.out
      have C : Hid (¬ cmp3 x y ≥ 0) := fun h => hle (cmp3_ge.1 h)
      have HLE : Hid (x ≤ y) := by show x ≤ y; omega
      clear hz hle hg
      go_enter Tryz.func179, Tryz.ntmps179
      go_wp2_with (first | ((with_reducible refine kAny ?_); go_skip) | (with_reducible refine stA ?_) | ((first | ((first | refine tSr ?_ | refine tSt ?_); clear hL; intro _ hL; simp only [splice, zq1, zq2, zq3] at hL) | (refine tAl ?_; clear hL; intro _ _ hL _)); simp only [Act.put, zq1, zq2, zq3]))
      refine (i_compareMag _ _ x y _ _ hL.vw (F1.out.le leX) (F2.out.le leX) (lx.out _ rfl) (ly.out _ rfl)).mono ?_
      rintro e W10 ⟨_, m10, rfl, hE, hM10, hV, rfl⟩
      replace hL := hL.call hE (by assumption) hV; clear hE hV
      have hc := C.out
      generalize cmp3 x y = s at *
      go_wp2_with (first | ((with_reducible refine kAny ?_); go_skip) | (with_reducible refine stA ?_) | ((first | ((first | refine tSr ?_ | refine tSt ?_); clear hL; intro _ hL; simp only [splice, zq1, zq2, zq3] at hL) | (refine tAl ?_; clear hL; intro _ _ hL _)); simp only [Act.put, zq1, zq2, zq3]))
      refine (i_subMag _ _ y x _ _ hL.vw (F2.out.le leX) (F1.out.le leX) (ly.out _ rfl) HLE.out).mono ?_
      rintro e W11 ⟨v11, m11, rfl, hE, hM11, hV, h11⟩
      replace hL := hL.call hE (by assumption) hV; clear hE hV
      obtain ⟨A3, c3, rfl, h11⟩ := h11.lit
      go_wp2_with (first | ((with_reducible refine kAny ?_); go_skip) | (with_reducible refine stA ?_) | ((first | ((first | refine tSr ?_ | refine tSt ?_); clear hL; intro _ hL; simp only [splice, zq1, zq2, zq3] at hL) | (refine tAl ?_; clear hL; intro _ _ hL _)); simp only [Act.put, zq1, zq2, zq3]))
      refine (i_wrapE _ _ (y - x) z _ _ hL.vw (h11.toA l2.out) E).mono ?_
      rintro e W12 ⟨v12, m12, rfl, hE, hM12, hV, h12⟩
      replace hL := hL.call hE (by assumption) hV; clear hE hV
      obtain ⟨g12', A12', n12', c12', rfl, h12⟩ := h12.lit
      go_wp2_with (first | ((with_reducible refine kAny ?_); go_skip) | (with_reducible refine stA ?_) | ((first | ((first | refine tSr ?_ | refine tSt ?_); clear hL; intro _ hL; simp only [splice, zq1, zq2, zq3] at hL) | (refine tAl ?_; clear hL; intro _ _ hL _)); simp only [Act.put, zq1, zq2, zq3]))
      refine fin_agg hL Tryz.results179 rfl rfl loX AgC.h (by exact rfl) ?_
      exact h12

set_option maxRecDepth 100000 in
set_option maxHeartbeats 8000000 in
theorem i_Add (a b : Value) (x y : Int) (w m : World) (hV : Vw m w) (ha : IntV m a x) (hb : IntV m b y) (hx : x.natAbs < 18446744073709551616) (hy : y.natAbs < 18446744073709551616) :
    Calls Tryz.prog 138 #[a, b] w (RetV w m fun m' r => IntC m' r (x + y)) := by
  obtain ⟨g1, A1, l1, c1, rfl⟩ := ha.lit
  obtain ⟨g2, A2, l2, c2, rfl⟩ := hb.lit
  obtain ⟨d1, hg1⟩ := ha.digA
  obtain ⟨d2, hg2⟩ := hb.digA
  have HE : Hid (sgn g1 x.natAbs + sgn g2 y.natAbs = x + y) := by show _ = _; rw [sgn_self hg1, sgn_self hg2]
  have HX := Lib.hid hx
  have HY := Lib.hid hy
  clear hx hy hg1 hg2 ha hb
  have hL := Loc.start hV
  clear hV
  go_enter Tryz.func138, Tryz.ntmps138
  go_upto_region 1 with ((first | ((with_reducible refine kAny ?_); go_skip) | (with_reducible refine stA ?_) | ((first | refine tFd ?_ | refine tLd ?_ | ((first | refine tSr ?_ | refine tSt ?_); clear hL; intro _ hL; simp only [splice, zq1, zq2, zq3] at hL) | ((first | refine tBx ?_ | refine tAl ?_); clear hL; intro _ _ hL _)); simp only [Act.put, zq1, zq2, zq3])))
  refine wp_region_by2 11 [false, false, false, false, false, false, false, false, false, false, false] [false, false, false, false, false, false, false, false, false, false, false] [(fun v _ _ => v = ?c1_0), (fun v _ _ => v = ?c1_1), (fun v _ _ => v = ?c1_2), (fun v _ _ => v = ?c1_3), Of (fun um v => DigV um v (digs x.natAbs)), (fun v _ _ => v = ?c1_5), (fun v _ _ => v = ?c1_6), (fun v _ _ => v = ?c1_7), (fun v _ _ => v = ?c1_8), Of (fun um v => DigV um v (digs y.natAbs)), Of (fun um v => IntC um v (x + y))] hL.vw mixed [5, 6, 7, 8, 9, 10, 11, 12, 13, 14, 15] _ (by kernel_rfl) (fun vs => by simp only [lay, Act.put, zq1, zq2, zq3]; rfl) (by kernel_rfl) (by decide) (by decide) ?s1 ?l1 ?r1
  case s1 =>
    refine ⟨?_, ?_, ?_, ?_, ?_, ?_, ?_, ?_, ?_, ?_, ?_, trivial⟩
    · intro vs W1 m1 hE hM hV hD; clear hD; replace hL := hL.call hE hM hV
      exact sFd
    · intro vs W1 m1 hE hM hV hD; obtain ⟨⟨_, _, -, -, f5⟩, -⟩ := hD; have f5 : vs 5 = _ := f5; generalize vs 5 = x5 at f5 ⊢; subst x5; replace hL := hL.call hE hM hV
      exact sLd
    · intro vs W1 m1 hE hM hV hD; clear hD; replace hL := hL.call hE hM hV
      exact sFd
    · intro vs W1 m1 hE hM hV hD; obtain ⟨⟨_, _, -, -, f7⟩, -⟩ := hD; have f7 : vs 7 = _ := f7; generalize vs 7 = x7 at f7 ⊢; subst x7; replace hL := hL.call hE hM hV
      exact sLd
    · intro vs W1 m1 hE hM hV hD; obtain ⟨⟨_, _, -, -, f8⟩, -⟩ := hD; have f8 : vs 8 = _ := f8; generalize vs 8 = x8 at f8 ⊢; subst x8
      go_wp2_with fail
      refine (i_trim _ x.natAbs _ _ hV (d1.le leX)).mono ?_
      rintro e W2 ⟨v, m2, rfl, hE2, hM2, hV2, h⟩
      go_wp2_with fail
      refine One2.call hE2 hM2 hV2 ?_; first | exact h | exact rfl
    · intro vs W1 m1 hE hM hV hD; clear hD; replace hL := hL.call hE hM hV
      exact sFd
    · intro vs W1 m1 hE hM hV hD; obtain ⟨⟨_, _, -, -, f10⟩, -⟩ := hD; have f10 : vs 10 = _ := f10; generalize vs 10 = x10 at f10 ⊢; subst x10; replace hL := hL.call hE hM hV
      exact sLd
    · intro vs W1 m1 hE hM hV hD; clear hD; replace hL := hL.call hE hM hV
      exact sFd
    · intro vs W1 m1 hE hM hV hD; obtain ⟨⟨_, _, -, -, f12⟩, -⟩ := hD; have f12 : vs 12 = _ := f12; generalize vs 12 = x12 at f12 ⊢; subst x12; replace hL := hL.call hE hM hV
      exact sLd
    · intro vs W1 m1 hE hM hV hD; obtain ⟨⟨_, _, -, -, f13⟩, -, -⟩ := hD; have f13 : vs 13 = _ := f13; generalize vs 13 = x13 at f13 ⊢; subst x13
      go_wp2_with fail
      refine (i_trim _ y.natAbs _ _ hV (d2.le leX)).mono ?_
      rintro e W2 ⟨v, m2, rfl, hE2, hM2, hV2, h⟩
      go_wp2_with fail
      refine One2.call hE2 hM2 hV2 ?_; first | exact h | exact rfl
    · intro vs W1 m1 hE hM hV hD; obtain ⟨⟨_, _, -, -, f6⟩, ⟨_, _, -, i9, f9⟩, ⟨_, _, -, -, f11⟩, ⟨_, _, -, i14, f14⟩, -, -⟩ := hD; have f6 : vs 6 = _ := f6; generalize vs 6 = x6 at f6 ⊢; subst x6; have f11 : vs 11 = _ := f11; generalize vs 11 = x11 at f11 ⊢; subst x11; have f9 : DigV _ (vs 9) (digs x.natAbs) := f9; replace f9 := f9.le i9.le; clear i9; have f14 : DigV _ (vs 14) (digs y.natAbs) := f14; replace f14 := f14.le i14.le; clear i14
      go_wp2_with fail
      refine (i_addSigned _ _ _ _ x.natAbs y.natAbs (x + y) _ _ hV f9 f14 HX.out HY.out HE).mono ?_
      rintro e W2 ⟨v, m2, rfl, hE2, hM2, hV2, h⟩
      go_wp2_with fail
      refine One2.call hE2 hM2 hV2 ?_; first | exact h | exact rfl
  case l1 =>
    refine ⟨fun h => (by cases h), fun h => (by cases h), fun h => (by cases h), fun h => (by cases h), fun h => (by cases h), fun h => (by cases h), fun h => (by cases h), fun h => (by cases h), fun h => (by cases h), fun h => (by cases h), fun h => (by cases h), trivial⟩
  intro vs W1 m1 hE hM hV hF hD
  clear hD
  obtain ⟨-, -, -, -, ⟨_, _, -, i9, f9⟩, -, -, -, -, ⟨_, _, -, i14, f14⟩, ⟨_, _, -, i15, f15⟩, -⟩ := hF
  replace hL := hL.call hE hM hV
  replace f9 : DigV _ (vs 9) (digs x.natAbs) := f9
  replace f9 := f9.le i9.le
  clear i9
  replace f14 : DigV _ (vs 14) (digs y.natAbs) := f14
  replace f14 := f14.le i14.le
  clear i14
  replace f15 : IntC _ (vs 15) (x + y) := f15
  replace f15 := f15.le i15.le
  clear i15
  obtain ⟨g15, A15, n15, c15, e15, f15⟩ := f15.lit
  generalize vs 15 = x15 at e15 ⊢
  subst x15
  clear hE hV
  simp only [List.drop_succ_cons, List.drop_zero]
  go_wp2_with (first | ((with_reducible refine kAny ?_); go_skip) | (with_reducible refine stA ?_) | ((first | refine tFd ?_ | refine tLd ?_ | ((first | refine tSr ?_ | refine tSt ?_); clear hL; intro _ hL; simp only [splice, zq1, zq2, zq3] at hL) | ((first | refine tBx ?_ | refine tAl ?_); clear hL; intro _ _ hL _)); simp only [Act.put, zq1, zq2, zq3]))
  refine QN.mk ?_
  go_wp2_with (first | ((with_reducible refine kAny ?_); go_skip) | (with_reducible refine stA ?_) | ((first | refine tFd ?_ | refine tLd ?_ | ((first | refine tSr ?_ | refine tSt ?_); clear hL; intro _ hL; simp only [splice, zq1, zq2, zq3] at hL) | ((first | refine tBx ?_ | refine tAl ?_); clear hL; intro _ _ hL _)); simp only [Act.put, zq1, zq2, zq3]))
  refine fin_agg hL Tryz.results138 rfl rfl loX AgC.h (by exact rfl) ?_
  exact f15
end Go.Proofs.YtmhkmmmompediaaGreat

/- Contracts of rational.Compare and Add where a number has two digits. -/
namespace Go.Proofs.YtmhkmmmompediaaGreat
open Go.RowKit

def NoS (v : Value) : Prop := ∃ g A n c g' B k d, v = .agg #[.bool g, .slice A n c, .bool g', .slice B k d] ∧ 2 ≤ k
def FrG (m : World) (v : Value) (x y : Int) : Prop := FrV m v x y ∧ (FracS m v x y ∨ NoS v)
theorem FrG.le {m m' : World} {v : Value} {x y : Int} (h : FrG m v x y) (hb : Le m m') : FrG m' v x y :=
  ⟨h.1.le hb, h.2.imp (fun h => h.le hb) id⟩
theorem FracS.part {m : World} {v : Value} {x y : Int} (h : FracS m v x y) : SPart m v (pN x y) (pD y) true := by
  refine ⟨?_, fun w m' hV hl => q_smallParts v x y w m' hV (h.le hl)⟩
  obtain ⟨a, b, c, d, e, _⟩ := h
  exact ⟨a, b, c, d, e⟩
theorem NoS.part {v : Value} (h : NoS v) (m : World) : SPart m v 0 0 false := by
  obtain ⟨g, A, n, c, g', B, k, d, rfl, hk⟩ := h
  exact ⟨⟨_, _, _, _, rfl⟩, fun w m' hV _ => q_smallPartsF g A n c g' B k d w m' hV hk⟩
theorem FrV.agg {m : World} {v : Value} {x y : Int} (h : FrV m v x y) : ∃ a b c d, v = .agg #[a, b, c, d] := by
  obtain ⟨g, A, n, c, g', B, k, d, e, _⟩ := h
  exact ⟨_, _, _, _, e⟩
theorem add_same {a b d : Int} (hd : 0 < d) : Rat.divInt (a + b) d = Rat.divInt a d + Rat.divInt b d := by
  rw [Rat.divInt_add_divInt _ _ (by omega) (by omega), ← Int.add_mul, Rat.divInt_mul_right (by omega)]

end Go.Proofs.YtmhkmmmompediaaGreat

/- Contract of integer.DivMod for numbers below 2^64 and a positive divisor, whole. -/
namespace Go.Proofs.YtmhkmmmompediaaGreat
open Go.RowKit

theorem dm_negM {x y : Int} (hy : 0 < y) (hx : x < 0) (hr : x.natAbs % y.natAbs ≠ 0) : sgn true (x.natAbs / y.natAbs + 1) = x / y ∧ sgn false (y.natAbs - x.natAbs % y.natAbs) = x % y := by
  obtain ⟨n, rfl⟩ : ∃ n : Nat, x = -(n : Int) := ⟨x.natAbs, by omega⟩
  obtain ⟨d, rfl⟩ : ∃ d : Nat, y = (d : Int) := ⟨y.natAbs, by omega⟩
  simp only [Int.natAbs_neg, Int.natAbs_natCast] at *
  have hd : 0 < d := by omega
  have h1 := Nat.mod_lt n hd
  have h2 := Nat.div_add_mod n d
  have key := (Int.ediv_emod_unique (a := -(n : Int)) (b := (d : Int)) (r := ((d - n % d : Nat) : Int)) (q := -((n / d + 1 : Nat) : Int)) hy).2 ⟨?_, by omega, by omega⟩
  · rw [key.1, key.2]; exact ⟨rfl, rfl⟩
  · have e : ((d - n % d : Nat) : Int) = (d : Int) - ((n % d : Nat) : Int) := by omega
    have e2 : (n : Int) = (d : Int) * ((n / d : Nat) : Int) + ((n % d : Nat) : Int) := by
      have := congrArg (Nat.cast (R := Int)) h2
      simpa using this.symm
    rw [e]
    generalize ((n % d : Nat) : Int) = r at *
    rw [Int.mul_neg, Int.natCast_add, Int.mul_add]
    simp only [Int.natCast_one, Int.mul_one]
    omega
theorem dig1 {m : World} {g : Nat} (h : Blk m g 102 #[.int .u32 1]) : DigV m (.slice (some ⟨g, 0, none⟩) 1 1) (digs 1) := by
  rw [digs_small (by decide) (by decide)]
  exact ⟨_, _, rfl, Nat.le_refl _, h.sl (n := 1) rfl⟩

set_option maxRecDepth 100000 in
set_option maxHeartbeats 8000000 in
theorem i_DivModN (a b : Value) (x y : Int) (w m : World) (hV : Vw m w) (ha : IntV m a x) (hb : IntV m b y) (hx : x.natAbs < 18446744073709551616) (hy : y.natAbs < 18446744073709551616) (hy0 : 0 < y) (hn : x < 0) (hr : x.natAbs % y.natAbs ≠ 0) :
    Calls Tryz.prog 146 #[a, b] w (RetV w m fun m' v => DMr m' v x y) := by
  obtain ⟨g1, A1, l1, c1, rfl⟩ := ha.lit
  obtain ⟨g2, A2, l2, c2, rfl⟩ := hb.lit
  obtain ⟨d1, hg1⟩ := ha.digA
  obtain ⟨d2, hg2⟩ := hb.digA
  obtain rfl : g2 = false := by rw [hg2 (by omega)]; simp; omega
  obtain rfl : g1 = true := by rw [hg1 (by omega)]; simp; omega
  have HF := Lib.hid (dm_negM hy0 hn hr)
  have HX := Lib.hid hx
  have HY := Lib.hid hy
  have hyn : y.natAbs ≠ 0 := by omega
  have HYN := Lib.hid hyn
  have hq : x.natAbs / y.natAbs ≤ x.natAbs := Nat.div_le_self _ _
  have LQ : Hid (∀ k, k = x.natAbs / y.natAbs → (digs k).length ≤ 1000) := fun k e => by rw [e]; exact Nat.le_trans (length_digs_mono (Nat.div_le_self _ _)) ha.length
  have LY : Hid (∀ k, k = y.natAbs → (digs k).length ≤ 1000) := fun k e => by rw [e]; exact hb.length
  have L1 : Hid ((digs (x.natAbs / y.natAbs + 1)).length ≤ 1000) := Nat.le_trans (length_digs_le (k := 3) (by rw [show (4294967296 : Nat) ^ 3 = 79228162514264337593543950336 from rfl]; omega)) (by decide)
  have L2 : Hid ((digs (y.natAbs - x.natAbs % y.natAbs)).length ≤ 1000) := Nat.le_trans (length_digs_mono (Nat.sub_le _ _)) hb.length
  have LO : Hid ((digs 1).length ≤ 1000) := by show _ ≤ _; rw [digs_small (by decide) (by decide)]; decide
  have LE1 : Hid (x.natAbs % y.natAbs ≤ y.natAbs) := Nat.le_of_lt (Nat.mod_lt _ (by omega))
  have HP := Lib.hid (digs_len_pos hr)
  have t1 : (((digs y.natAbs).length : Int) == 0) = false := by
    have := mt digs_nil.1 hyn
    simp [List.length_eq_zero_iff, this]
  clear hx hy hg1 hg2 hr hn hy0 hq hyn
  have hL := Loc.start hV
  clear hV
  go_enter Tryz.func146, Tryz.ntmps146
  go_upto_region 1 with ((first | ((with_reducible refine kAny ?_); go_skip) | (with_reducible refine stA ?_) | ((first | refine tFd ?_ | refine tLd ?_ | ((first | refine tSr ?_ | refine tSt ?_); clear hL; intro _ hL; simp only [splice, zq1, zq2, zq3] at hL) | ((first | refine tBx ?_ | refine tAl ?_); clear hL; intro _ _ hL _) | (refine tBs ?_; clear hL; intro _ _ hL _ hBs)); simp only [Act.put, zq1, zq2, zq3])))
  refine wp_region_by2 6 [false, false, false, false, false, false] [false, false, false, false, false, false] [(fun v _ _ => v = ?c1_0), (fun v _ _ => v = ?c1_1), Of (fun um v => DigV um v (digs x.natAbs)), (fun v _ _ => v = ?c1_3), (fun v _ _ => v = ?c1_4), Of (fun um v => DigV um v (digs y.natAbs))] hL.vw mixed [11, 12, 13, 14, 15, 16] _ (by kernel_rfl) (fun vs => by simp only [lay, Act.put, zq1, zq2, zq3]; rfl) (by kernel_rfl) (by decide) (by decide) ?s1 ?l1 ?r1
  case s1 =>
    refine ⟨?_, ?_, ?_, ?_, ?_, ?_, trivial⟩
    · intro vs W1 m1 hE hM hV hD; clear hD; replace hL := hL.call hE hM hV
      exact sFd
    · intro vs W1 m1 hE hM hV hD; obtain ⟨⟨_, _, -, -, f11⟩, -⟩ := hD; have f11 : vs 11 = _ := f11; generalize vs 11 = x11 at f11 ⊢; subst x11; replace hL := hL.call hE hM hV
      exact sLd
    · intro vs W1 m1 hE hM hV hD; obtain ⟨⟨_, _, -, -, f12⟩, -⟩ := hD; have f12 : vs 12 = _ := f12; generalize vs 12 = x12 at f12 ⊢; subst x12
      go_wp2_with fail
      refine (i_trim _ x.natAbs _ _ hV (d1.le leX)).mono ?_
      rintro e W2 ⟨v, m2, rfl, hE2, hM2, hV2, h⟩
      go_wp2_with fail
      refine One2.call hE2 hM2 hV2 ?_; first | exact h | exact rfl
    · intro vs W1 m1 hE hM hV hD; clear hD; replace hL := hL.call hE hM hV
      exact sFd
    · intro vs W1 m1 hE hM hV hD; obtain ⟨⟨_, _, -, -, f14⟩, -⟩ := hD; have f14 : vs 14 = _ := f14; generalize vs 14 = x14 at f14 ⊢; subst x14; replace hL := hL.call hE hM hV
      exact sLd
    · intro vs W1 m1 hE hM hV hD; obtain ⟨⟨_, _, -, -, f15⟩, -, -⟩ := hD; have f15 : vs 15 = _ := f15; generalize vs 15 = x15 at f15 ⊢; subst x15
      go_wp2_with fail
      refine (i_trim _ y.natAbs _ _ hV (d2.le leX)).mono ?_
      rintro e W2 ⟨v, m2, rfl, hE2, hM2, hV2, h⟩
      go_wp2_with fail
      refine One2.call hE2 hM2 hV2 ?_; first | exact h | exact rfl
  case l1 =>
    refine ⟨fun h => (by cases h), fun h => (by cases h), fun h => (by cases h), fun h => (by cases h), fun h => (by cases h), fun h => (by cases h), trivial⟩
  intro vs W1 m1 hE hM hV hF hD
  clear hD
  obtain ⟨-, -, ⟨_, _, -, i13, f13⟩, -, -, ⟨_, _, -, i16, f16⟩, -⟩ := hF
  replace hL := hL.call hE hM hV
  replace f13 : DigV _ (vs 13) (digs x.natAbs) := f13
  replace f13 := f13.le i13.le
  clear i13
  replace f16 : DigV _ (vs 16) (digs y.natAbs) := f16
  replace f16 := f16.le i16.le
  clear i16
  clear hE hV
  obtain ⟨A13, c13, e13, f13⟩ := f13.lit
  generalize vs 13 = x13 at e13 ⊢
  subst x13
  obtain ⟨A16, c16, e16, f16⟩ := f16.lit
  generalize vs 16 = x16 at e16 ⊢
  subst x16
  simp only [List.drop_succ_cons, List.drop_zero]
  go_wp2_with (first | ((with_reducible refine kAny ?_); go_skip) | (with_reducible refine stA ?_) | ((first | refine tFd ?_ | refine tLd ?_ | ((first | refine tSr ?_ | refine tSt ?_); clear hL; intro _ hL; simp only [splice, zq1, zq2, zq3] at hL) | ((first | refine tBx ?_ | refine tAl ?_); clear hL; intro _ _ hL _) | (refine tBs ?_; clear hL; intro _ _ hL _ hBs)); simp only [Act.put, zq1, zq2, zq3]))
  refine QN.mk ?_
  go_wp2_with (first | ((with_reducible refine kAny ?_); go_skip) | (with_reducible refine stA ?_) | ((first | refine tFd ?_ | refine tLd ?_ | ((first | refine tSr ?_ | refine tSt ?_); clear hL; intro _ hL; simp only [splice, zq1, zq2, zq3] at hL) | ((first | refine tBx ?_ | refine tAl ?_); clear hL; intro _ _ hL _) | (refine tBs ?_; clear hL; intro _ _ hL _ hBs)); simp only [Act.put, zq1, zq2, zq3]))
  refine (i_divMag _ _ x.natAbs y.natAbs _ _ hL.vw (f13.le leX) (f16.le leX) HX.out HY.out HYN.out).mono ?_
  rintro e W2 ⟨_, m2, rfl, hE, hM2, hV, qv, rv, rfl, h1, h2⟩
  replace hL := hL.call hE (by assumption) hV; clear hE hV
  obtain ⟨A4, c4, rfl, h1⟩ := h1.lit
  obtain ⟨A5, c5, rfl, h2⟩ := h2.lit
  have H1 := Lib.hid h1
  have H2 := Lib.hid h2
  have H3 := Lib.hid f16
  have hp := HP.out
  clear h1 h2 t1 f13 f16 HP
  generalize hnr : (digs (x.natAbs % y.natAbs)).length = nr at *
  generalize hnq : (digs (x.natAbs / y.natAbs)).length = nq at *
  generalize hny : (digs y.natAbs).length = ny at *
  clear hnr hnq hny
  have t2 : decide (0 < nr) = true := by simp; omega
  go_wp2_with (first | ((with_reducible refine kAny ?_); go_skip) | (with_reducible refine stA ?_) | ((first | refine tFd ?_ | refine tLd ?_ | ((first | refine tSr ?_ | refine tSt ?_); clear hL; intro _ hL; simp only [splice, zq1, zq2, zq3] at hL) | ((first | refine tBx ?_ | refine tAl ?_); clear hL; intro _ _ hL _) | (refine tBs ?_; clear hL; intro _ _ hL _ hBs)); simp only [Act.put, zq1, zq2, zq3]))
  refine (i_addMag _ _ (x.natAbs / y.natAbs) 1 _ _ hL.vw (H1.out.le leX) (dig1 hBs) (LQ.out _ rfl) LO.out).mono ?_
  rintro e W31 ⟨v31, m31, rfl, hE, hM31, hV, h31⟩
  replace hL := hL.call hE (by assumption) hV; clear hE hV
  obtain ⟨A6, c6, rfl, h31⟩ := h31.lit
  clear hBs
  go_wp2_with (first | ((with_reducible refine kAny ?_); go_skip) | (with_reducible refine stA ?_) | ((first | refine tFd ?_ | refine tLd ?_ | ((first | refine tSr ?_ | refine tSt ?_); clear hL; intro _ hL; simp only [splice, zq1, zq2, zq3] at hL) | ((first | refine tBx ?_ | refine tAl ?_); clear hL; intro _ _ hL _) | (refine tBs ?_; clear hL; intro _ _ hL _ hBs)); simp only [Act.put, zq1, zq2, zq3]))
  refine (i_subMag _ _ y.natAbs (x.natAbs % y.natAbs) _ _ hL.vw (H3.out.le leX) (H2.out.le leX) (LY.out _ rfl) LE1.out).mono ?_
  rintro e W32 ⟨v32, m32, rfl, hE, hM32, hV, h32⟩
  replace hL := hL.call hE (by assumption) hV; clear hE hV
  obtain ⟨A7, c7, rfl, h32⟩ := h32.lit
  go_upto_region 8 with ((first | ((with_reducible refine kAny ?_); go_skip) | (with_reducible refine stA ?_) | ((first | refine tFd ?_ | refine tLd ?_ | ((first | refine tSr ?_ | refine tSt ?_); clear hL; intro _ hL; simp only [splice, zq1, zq2, zq3] at hL) | ((first | refine tBx ?_ | refine tAl ?_); clear hL; intro _ _ hL _) | (refine tBs ?_; clear hL; intro _ _ hL _ hBs)); simp only [Act.put, zq1, zq2, zq3])))
  refine wp_region_by2 11 [false, false, false, false, false, false, false, false, false, false, false] [false, false, false, false, false, false, false, false, false, false, false] [(fun v _ _ => v = ?c8_0), (fun v _ _ => v = ?c8_1), (fun v _ _ => v = ?c8_2), (fun v _ _ => v = ?c8_3), (fun v _ _ => v = ?c8_4), (fun v _ _ => v = ?c8_5), Of (fun um v => IntC um v (sgn true (x.natAbs / y.natAbs + 1))), (fun v _ _ => v = ?c8_7), (fun v _ _ => v = ?c8_8), (fun v _ _ => v = ?c8_9), Of (fun um v => IntC um v (sgn false (y.natAbs - x.natAbs % y.natAbs)))] hL.vw mixed [44, 45, 46, 47, 48, 49, 50, 51, 52, 53, 54] _ (by kernel_rfl) (fun vs => by simp only [lay, Act.put, zq1, zq2, zq3]; rfl) (by kernel_rfl) (by decide) (by decide) ?s8 ?l8 ?r8
  case s8 =>
    refine ⟨?_, ?_, ?_, ?_, ?_, ?_, ?_, ?_, ?_, ?_, ?_, trivial⟩
    · intro vs W1 m1 hE hM hV hD; clear hD; replace hL := hL.call hE hM hV
      exact sFd
    · intro vs W1 m1 hE hM hV hD; obtain ⟨⟨_, _, -, -, f44⟩, -⟩ := hD; have f44 : vs 44 = _ := f44; generalize vs 44 = x44 at f44 ⊢; subst x44; replace hL := hL.call hE hM hV
      exact sLd
    · intro vs W1 m1 hE hM hV hD; clear hD; replace hL := hL.call hE hM hV
      exact sFd
    · intro vs W1 m1 hE hM hV hD; obtain ⟨⟨_, _, -, -, f46⟩, -⟩ := hD; have f46 : vs 46 = _ := f46; generalize vs 46 = x46 at f46 ⊢; subst x46; replace hL := hL.call hE hM hV
      exact sLd
    · intro vs W1 m1 hE hM hV hD; obtain ⟨⟨_, _, -, -, f45⟩, ⟨_, _, -, -, f47⟩, -⟩ := hD; have f45 : vs 45 = _ := f45; generalize vs 45 = x45 at f45 ⊢; subst x45; have f47 : vs 47 = _ := f47; generalize vs 47 = x47 at f47 ⊢; subst x47; replace hL := hL.call hE hM hV
      exact sPu
    · intro vs W1 m1 hE hM hV hD; clear hD; replace hL := hL.call hE hM hV
      exact sPu
    · intro vs W1 m1 hE hM hV hD; obtain ⟨⟨_, _, -, -, f48⟩, ⟨_, _, -, -, f49⟩, -⟩ := hD; have f48 : vs 48 = _ := f48; generalize vs 48 = x48 at f48 ⊢; subst x48; have f49 : vs 49 = _ := f49; generalize vs 49 = x49 at f49 ⊢; subst x49
      go_wp2_with fail
      refine (i_wrap _ _ _ _ _ hV ((h31.toA L1.out).le leX)).mono ?_
      rintro e W2 ⟨v, m2, rfl, hE2, hM2, hV2, h⟩
      go_wp2_with fail
      refine One2.call hE2 hM2 hV2 ?_; first | exact h | exact rfl
    · intro vs W1 m1 hE hM hV hD; clear hD; replace hL := hL.call hE hM hV
      exact sFd
    · intro vs W1 m1 hE hM hV hD; obtain ⟨⟨_, _, -, -, f51⟩, -⟩ := hD; have f51 : vs 51 = _ := f51; generalize vs 51 = x51 at f51 ⊢; subst x51; replace hL := hL.call hE hM hV
      exact sLd
    · intro vs W1 m1 hE hM hV hD; clear hD; replace hL := hL.call hE hM hV
      exact sPu
    · intro vs W1 m1 hE hM hV hD; obtain ⟨⟨_, _, -, -, f52⟩, ⟨_, _, -, -, f53⟩, -, -⟩ := hD; have f52 : vs 52 = _ := f52; generalize vs 52 = x52 at f52 ⊢; subst x52; have f53 : vs 53 = _ := f53; generalize vs 53 = x53 at f53 ⊢; subst x53
      go_wp2_with fail
      refine (i_wrap _ _ _ _ _ hV ((h32.toA L2.out).le leX)).mono ?_
      rintro e W2 ⟨v, m2, rfl, hE2, hM2, hV2, h⟩
      go_wp2_with fail
      refine One2.call hE2 hM2 hV2 ?_; first | exact h | exact rfl
  case l8 =>
    refine ⟨fun h => (by cases h), fun h => (by cases h), fun h => (by cases h), fun h => (by cases h), fun h => (by cases h), fun h => (by cases h), fun h => (by cases h), fun h => (by cases h), fun h => (by cases h), fun h => (by cases h), fun h => (by cases h), trivial⟩
  intro vs W1 m1 hE hM hV hF hD
  clear hD
  obtain ⟨-, -, -, -, -, -, ⟨_, _, -, i50, f50⟩, -, -, -, ⟨_, _, -, i54, f54⟩, -⟩ := hF
  replace hL := hL.call hE hM hV
  replace f50 : IntC _ (vs 50) (sgn true (x.natAbs / y.natAbs + 1)) := f50
  replace f50 := f50.le i50.le
  clear i50
  obtain ⟨g50, A50, n50, c50, e50, f50⟩ := f50.lit
  generalize vs 50 = x50 at e50 ⊢
  subst x50
  replace f54 : IntC _ (vs 54) (sgn false (y.natAbs - x.natAbs % y.natAbs)) := f54
  replace f54 := f54.le i54.le
  clear i54
  obtain ⟨g54, A54, n54, c54, e54, f54⟩ := f54.lit
  generalize vs 54 = x54 at e54 ⊢
  subst x54
  clear hE hV
  simp only [List.drop_succ_cons, List.drop_zero]
  go_wp2_with (first | ((with_reducible refine kAny ?_); go_skip) | (with_reducible refine stA ?_) | ((first | refine tFd ?_ | refine tLd ?_ | ((first | refine tSr ?_ | refine tSt ?_); clear hL; intro _ hL; simp only [splice, zq1, zq2, zq3] at hL) | ((first | refine tBx ?_ | refine tAl ?_); clear hL; intro _ _ hL _) | (refine tBs ?_; clear hL; intro _ _ hL _ hBs)); simp only [Act.put, zq1, zq2, zq3]))
  refine QN.mk ?_
  go_wp2_with (first | ((with_reducible refine kAny ?_); go_skip) | (with_reducible refine stA ?_) | ((first | refine tFd ?_ | refine tLd ?_ | ((first | refine tSr ?_ | refine tSt ?_); clear hL; intro _ hL; simp only [splice, zq1, zq2, zq3] at hL) | ((first | refine tBx ?_ | refine tAl ?_); clear hL; intro _ _ hL _) | (refine tBs ?_; clear hL; intro _ _ hL _ hBs)); simp only [Act.put, zq1, zq2, zq3]))
  obtain ⟨p1, p2, _⟩ := (hL.at_ lo0).facts2
  obtain ⟨p3, p4, _⟩ := (hL.at_ lo1).facts2
  refine bodyPost_ret (v := .tuple #[.agg #[.bool g50, .slice A50 n50 c50], .agg #[.bool g54, .slice A54 n54 c54], .int .i64 0]) (by simp [results, Tryz.results146, go_sem, p1, p2, p3, p4]) rfl (RetV.mk hL ⟨_, _, rfl, ?_, ?_⟩)
  · rw [← HF.out.1]; exact f50
  · rw [← HF.out.2]; exact f54
theorem i_DivModA (a b : Value) (x y : Int) (w m : World) (hV : Vw m w) (ha : IntV m a x) (hb : IntV m b y) (hx : x.natAbs < 18446744073709551616) (hy : y.natAbs < 18446744073709551616) (hy0 : 0 < y) :
    Calls Tryz.prog 146 #[a, b] w (RetV w m fun m' v => DMr m' v x y) := by
  by_cases hr : x.natAbs % y.natAbs = 0
  · refine i_DivModR a b x y w m hV ha hb hx hy hy0 (.inr ?_)
    have h1 : (y.natAbs : Int) ∣ (x.natAbs : Int) := Int.natCast_dvd_natCast.2 (Nat.dvd_of_mod_eq_zero hr)
    exact Int.emod_eq_zero_of_dvd (Int.natAbs_dvd_natAbs.1 (Int.natCast_dvd_natCast.1 h1))
  · by_cases hn : x < 0
    · exact i_DivModN a b x y w m hV ha hb hx hy hy0 hn hr
    · exact i_DivModR a b x y w m hV ha hb hx hy hy0 (.inl (by omega))
end Go.Proofs.YtmhkmmmompediaaGreat

/- Contracts of pairingref25.New, Mul and pairingdata.times that leave the digits of the numerator in a row of the caller's own. -/
namespace Go.Proofs.YtmhkmmmompediaaGreat
open Go.RowKit

theorem IntO.nil (u : World) (B : Nat) : IntO u B (.agg #[.bool false, .slice none 0 0]) 0 := ⟨.slice none 0 0, by simp, by simp [digs_zero], .inl ⟨by simp [digs_zero], by simp [digs_zero]⟩⟩
theorem IntO.lit {u : World} {B : Nat} {v : Value} {z : Int} (h : IntO u B v z) : ∃ A c, v = .agg #[.bool (decide (z < 0)), .slice A (digs z.natAbs).length c] ∧ u.ownsRow B 102 1 (.slice A (digs z.natAbs).length c) (digs z.natAbs).length ((digs z.natAbs).map U) := by
  obtain ⟨s, rfl, ho⟩ := h
  obtain ⟨A, c, rfl, _, _⟩ := Sl.digs_of_own ho
  exact ⟨A, c, rfl, ho⟩
def NumO (B : Nat) (u : World) (v : Value) (z : Int) : Prop := ∃ a b h D k d, v = .agg #[a, b, .bool h, .slice D k d] ∧ IntO u B (.agg #[a, b]) z
theorem NumO.base {u : World} {B B' : Nat} {v : Value} {z : Int} (h : NumO B' u v z) (hB : B ≤ B') : NumO B u v z := by
  obtain ⟨a, b, g, D, k, d, e, h⟩ := h
  exact ⟨a, b, g, D, k, d, e, h.base hB⟩
end Go.Proofs.YtmhkmmmompediaaGreat

/- Contract of pairingdata.times: its result's digits lie in a row of the caller's own. -/
namespace Go.Proofs.YtmhkmmmompediaaGreat
open Go.RowKit

theorem rat_one (x : Int) : Rat.divInt x 1 = (x : Rat) := by rw [← Rat.num_divInt_den (x : Rat)]; simp
def IntW (B : Nat) (z : Int) : Fct := fun v u um => IntC um v z ∧ IntO u B v z
theorem IntW.base {u um : World} {B B' : Nat} {v : Value} {z : Int} (h : IntW B' z v u um) (hB : B ≤ B') : IntW B z v u um := ⟨h.1, h.2.base hB⟩

end Go.Proofs.YtmhkmmmompediaaGreat

/- Regions that draw their order and store, late, into cells that they load before: the loads are taken first under a condition that holds till the first store. No program. -/
namespace Go.Proofs.YtmhkmmmompediaaGreat
open Go.RowKit
section
variable {P : Program} {ops : Array Oper} {Q : Exit → Act → World → Prop} {S : World → Prop}

def wpL (P : Program) (ops : Array Oper) (Q : Exit → Act → World → Prop) (S : World → Prop) (s : Nat) : Nat → Array Bool → Act → World → Prop
  | 0, listed, a, w => Region.ready .any ops listed = [] ∧ Q .normal a w
  | fuel + 1, listed, a, w =>
    (Region.ready .any ops listed = [] → Q .normal a w) ∧
    ∀ i ∈ Region.ready .any ops listed, wpOp P ops Q i (fun a' w' => ((listed.setIfInBounds i true).getD s false = false → S w') ∧ wpL P ops Q S s fuel (listed.setIfInBounds i true) a' w') a w
def AllL (P : Program) (ops : Array Oper) (Q : Exit → Act → World → Prop) (S : World → Prop) (s fuel : Nat) (listed : Array Bool) (a : Act) (w : World) (rs : List Nat) : Prop :=
  ∀ i ∈ rs, wpOp P ops Q i (fun a' w' => ((listed.setIfInBounds i true).getD s false = false → S w') ∧ wpL P ops Q S s fuel (listed.setIfInBounds i true) a' w') a w
theorem AllL.nil {s fuel : Nat} {listed : Array Bool} {a : Act} {w : World} : AllL P ops Q S s fuel listed a w [] := fun _ h => by cases h
theorem AllL.cons {s fuel : Nat} {listed : Array Bool} {a : Act} {w : World} {i : Nat} {o : Oper} {rs : List Nat} (ho : ops[i]? = some o)
    (h : ∀ K' : Act → World → Prop, Shut (∀ a w, S w → (S w → wpL P ops Q S s fuel (listed.setIfInBounds i true) a w) → K' a w) → if Region.wanted o (yielded ops a.tmps) = true then Oper.wp P o a w K' Q else K' (a.put o.dst undef) w)
    (hs : AllL P ops Q S s fuel listed a w rs) : AllL P ops Q S s fuel listed a w (i :: rs) := fun j hj => by
  rcases List.mem_cons.1 hj with rfl | hj
  · exact wpOp_step ho (fun K' hK => h K' (fun a w hS hW => hK a w ⟨fun _ => hS, hW hS⟩))
  · exact hs j hj
end
end Go.Proofs.YtmhkmmmompediaaGreat

/- Contract of pairingdata.Wild where a digit is appended. -/
namespace Go.Proofs.YtmhkmmmompediaaGreat
open Go.RowKit

theorem Blk.grown {w w' : World} {g : Nat} {t : TypeId} {cs : Array Value} {row : Option Nat} (h : Blk w g t cs) (hg : w.grownBy w' row) (hne : some g ≠ row) : Blk w' g t cs := (hg.block g h.lt hne).trans h
end Go.Proofs.YtmhkmmmompediaaGreat

/- Contracts of pairingdata.Wild whole, lagrange.copyPrices as a value, and lagrange.Step. -/
namespace Go.Proofs.YtmhkmmmompediaaGreat
open Go.RowKit

theorem FrG.lit {m : World} {v : Value} {x y : Int} (h : FrG m v x y) : ∃ g A n c f B k d, v = .agg #[.bool g, .slice A n c, .bool f, .slice B k d] ∧ FrG m (.agg #[.bool g, .slice A n c, .bool f, .slice B k d]) x y := by
  have h' := h
  obtain ⟨⟨g, A, n, c, f, B, k, d, rfl, -, -⟩, -⟩ := h
  exact ⟨_, _, _, _, _, _, _, _, rfl, h'⟩

end Go.Proofs.YtmhkmmmompediaaGreat

/- The walk through the law LagrangeSteps. -/
namespace Go.Proofs.YtmhkmmmompediaaGreat
open Go.RowKit

structure WF (x y : Int) : Prop where
  bx : x.natAbs ≤ 20
  by_ : y.natAbs ≤ 20
  q : Tn 10 (Rat.divInt x y)
theorem WF.sm {x y : Int} (h : WF x y) : Sm x y := ⟨by have := h.bx; omega, by have := h.by_; omega⟩
theorem FrG.toV {m : World} {v : Value} {x y : Int} (h : FrG m v x y) : FracV m v (Rat.divInt x y) := by
  obtain ⟨⟨g, A, n, c, f, B, k, d, rfl, h1, h2⟩, -⟩ := h
  exact ⟨x, y, _, _, _, _, rfl, h1, h2, rfl⟩
end Go.Proofs.YtmhkmmmompediaaGreat

/- Contracts on lists of numbers: pairingref27.Has, count, within, ascending; slices.Index, Contains, BinarySearch; cmp.Less. -/
namespace Go.Proofs.YtmhkmmmompediaaGreat
open Go.RowKit

theorem count_step {xs : List Int} {t x : Int} {k : Nat} (hx : xs[k]? = some x) : (xs.take (k + 1)).count t = (xs.take k).count t + (if x = t then 1 else 0) := by
  rw [List.take_add_one, hx, List.count_append]
  by_cases h : x = t
  · subst h; simp
  · simp [h]
theorem count_le {xs : List Int} {t : Int} {k : Nat} : (xs.take k).count t ≤ k := Nat.le_trans List.count_le_length (by simp; omega)

set_option maxRecDepth 100000 in
set_option maxHeartbeats 8000000 in
theorem r_count (a : Value) (xs : List Int) (t : Int) (w m : World) (hV : Vw m w) (ha : IntL m a xs) (hl : xs.length ≤ 1000000) :
    Calls Tryz.prog 122 #[a, .int .i64 t] w (RetV w m fun _ r => r = .int .i64 ((xs.count t : Nat) : Int)) := by
  obtain ⟨A, c, rfl, hc, ha⟩ := ha.lit
  have hL := Loc.start hV
  clear hV
  generalize hn : xs.length = n at *
  have HN := Lib.hid hn
  clear hn
  go_enter Tryz.func122, Tryz.ntmps122
  go_wp2_with (first | ((with_reducible refine kAny ?_); go_skip) | (with_reducible refine stA ?_) | ((first | refine tIx ?_ | refine tLd ?_); simp only [Act.put, zq1, zq2, zq3]))
  go_loopw [5, 6] (fun cc i wr => ∃ (k q : Nat) (mm : World), k ≤ n ∧ q ≤ k ∧ i = .int .i64 k ∧ cc = .int .i64 q ∧ Loc w m wr mm [] ∧ Hid (q = (xs.take k).count t)) (fun _ i _ => n - (intOf i).toNat)
  case atStart => exact ⟨0, 0, m, Nat.zero_le _, Nat.zero_le _, rfl, rfl, hL, rfl⟩
  case round =>
    clear hL
    obtain ⟨k, q, mm, hk, hq, rfl, rfl, hL, HJ⟩ := hrel
    have hM := hL.mext
    by_cases hlt : k < n
    · obtain ⟨x, hx⟩ := at_some HN hlt
      obtain ⟨b1, o1, rfl, hc1⟩ := IntL.at_ ha hx
      have HS := Lib.hid (count_step (t := t) hx)
      by_cases he : x = t
      · have bb : (x == t) = true := by simp [he]
        have HE : Hid (q + 1 = (xs.take (k + 1)).count t) := by show _ = _; rw [HS.out, if_pos he, HJ.out]
        clear hx he
        go_wp2_with (first | ((with_reducible refine kAny ?_); go_skip) | (with_reducible refine stA ?_) | ((first | refine tIx ?_ | refine tLd ?_); simp only [Act.put, zq1, zq2, zq3]))
        go_roundw
        case rel => exact ⟨k + 1, q + 1, _, by omega, by omega, by go_num, by go_num, hL, HE.out⟩
        case measure => simp [intOf] <;> omega
      · have bb : (x == t) = false := by simp [he]
        have HE : Hid (q = (xs.take (k + 1)).count t) := by show _ = _; rw [HS.out, if_neg he, HJ.out]; rfl
        clear hx he
        go_wp2_with (first | ((with_reducible refine kAny ?_); go_skip) | (with_reducible refine stA ?_) | ((first | refine tIx ?_ | refine tLd ?_); simp only [Act.put, zq1, zq2, zq3]))
        go_roundw
        case rel => exact ⟨k + 1, q, _, by omega, by omega, by go_num, rfl, hL, HE.out⟩
        case measure => simp [intOf] <;> omega
    · have E : Hid (q = xs.count t) := by
        show _ = _
        have := HJ.out
        rwa [List.take_of_length_le (by rw [HN.out]; omega)] at this
      go_wp2_with (first | ((with_reducible refine kAny ?_); go_skip) | (with_reducible refine stA ?_) | ((first | refine tIx ?_ | refine tLd ?_); simp only [Act.put, zq1, zq2, zq3]))
      go_ret
      exact RetV.mk hL (congrArg (fun z : Nat => Value.int .i64 (z : Int)) E.out)

def AscP (xs : List Int) : Prop := ∀ (j : Nat) (x y : Int), xs[j]? = some x → xs[j + 1]? = some y → x < y
theorem AscP.lt {xs : List Int} (h : AscP xs) : ∀ (d j : Nat) (x y : Int), xs[j]? = some x → xs[j + d + 1]? = some y → x < y := by
  intro d
  induction d with
  | zero => intro j x y hx hy; exact h j x y hx hy
  | succ d ih =>
    intro j x y hx hy
    have hl := (List.getElem?_eq_some_iff.1 hy).1
    obtain ⟨z, hz⟩ : ∃ z, xs[j + d + 1]? = some z := ⟨_, List.getElem?_eq_getElem (by omega)⟩
    have h1 := ih j x z hx hz
    have h2 := h (j + d + 1) z y hz (by rw [show j + d + 1 + 1 = j + (d + 1) + 1 by omega]; exact hy)
    omega

end Go.Proofs.YtmhkmmmompediaaGreat

/- Contracts of slices.Index, Contains, BinarySearch and cmp.Less for int. -/
namespace Go.Proofs.YtmhkmmmompediaaGreat
open Go.RowKit

set_option maxRecDepth 100000 in
set_option maxHeartbeats 8000000 in
theorem s_isNaNc (x : Int) (w m : World) (hV : Vw m w) : Calls Tryz.prog 198 #[.int .i64 x] w (RetV w m fun _ r => r = .bool false) := by
  have hL := Loc.start hV
  clear hV
  have bb : (x != x) = false := by simp
  go_enter Tryz.func198, Tryz.ntmps198
  go_wp2_with ((with_reducible refine kAny ?_); go_skip)
  go_ret
  exact RetV.mk hL rfl
set_option maxRecDepth 100000 in
set_option maxHeartbeats 8000000 in
theorem s_isNaN (x : Int) (w m : World) (hV : Vw m w) : Calls Tryz.prog 176 #[.int .i64 x] w (RetV w m fun _ r => r = .bool false) := by
  have hL := Loc.start hV
  clear hV
  have bb : (x != x) = false := by simp
  go_enter Tryz.func176, Tryz.ntmps176
  go_wp2_with ((with_reducible refine kAny ?_); go_skip)
  go_ret
  exact RetV.mk hL rfl
set_option maxRecDepth 100000 in
set_option maxHeartbeats 8000000 in
theorem s_Less (x y : Int) (w m : World) (hV : Vw m w) : Calls Tryz.prog 175 #[.int .i64 x, .int .i64 y] w (RetV w m fun _ r => r = .bool (decide (x < y))) := by
  have hL := Loc.start hV
  clear hV
  go_enter Tryz.func175, Tryz.ntmps175
  go_wp2_with ((with_reducible refine kAny ?_); go_skip)
  refine (s_isNaNc x _ _ hL.vw).mono ?_
  rintro e Wc1 ⟨_, mc1, rfl, hE, hMc1, hV, rfl⟩
  replace hL := hL.call hE (by assumption) hV; clear hE hV
  go_wp2_with ((with_reducible refine kAny ?_); go_skip)
  go_ret
  exact RetV.mk hL rfl

def Bs (xs : List Int) (t : Int) (i j : Nat) : Prop := (∀ p x, p < i → xs[p]? = some x → x < t) ∧ (∀ p x, j ≤ p → xs[p]? = some x → t ≤ x)
theorem Bs.start (xs : List Int) (t : Int) : Bs xs t 0 xs.length := ⟨fun p _ hp => by omega, fun p x hp hx => by have := (List.getElem?_eq_some_iff.1 hx).1; omega⟩
theorem Bs.up {xs : List Int} {t x : Int} {i j h : Nat} (ha : AscP xs) (hb : Bs xs t i j) (hx : xs[h]? = some x) (hl : x < t) : Bs xs t (h + 1) j := by
  refine ⟨fun p y hp hy => ?_, hb.2⟩
  rcases Nat.lt_or_ge p h with h1 | h1
  · have := ha.lt (h - p - 1) p y x hy (by rw [show p + (h - p - 1) + 1 = h by omega]; exact hx)
    omega
  · obtain rfl : p = h := by omega
    rw [hx] at hy
    have := Option.some.inj hy
    omega
theorem Bs.down {xs : List Int} {t x : Int} {i j h : Nat} (ha : AscP xs) (hb : Bs xs t i j) (hx : xs[h]? = some x) (hl : ¬ x < t) : Bs xs t i h := by
  refine ⟨hb.1, fun p y hp hy => ?_⟩
  rcases Nat.lt_or_ge h p with h1 | h1
  · have := ha.lt (p - h - 1) h x y hx (by rw [show h + (p - h - 1) + 1 = p by omega]; exact hy)
    omega
  · obtain rfl : p = h := by omega
    rw [hx] at hy
    have := Option.some.inj hy
    omega
theorem Bs.found {xs : List Int} {t x : Int} {i : Nat} (ha : AscP xs) (hb : Bs xs t i i) (hx : xs[i]? = some x) : decide (t ∈ xs) = decide (x = t) := by
  by_cases he : x = t
  · rw [decide_eq_true he, decide_eq_true (he ▸ List.mem_of_getElem? hx)]
  · rw [decide_eq_false he]
    refine decide_eq_false fun hm => ?_
    obtain ⟨p, hp⟩ := List.mem_iff_getElem?.1 hm
    rcases Nat.lt_trichotomy p i with h | h | h
    · have := hb.1 p t h hp; omega
    · subst h; rw [hx] at hp; exact he (Option.some.inj hp)
    · have h1 := hb.2 i x (Nat.le_refl _) hx
      have h2 := ha.lt (p - i - 1) i x t hx (by rw [show i + (p - i - 1) + 1 = p by omega]; exact hp)
      omega
theorem Bs.none {xs : List Int} {t : Int} {i n : Nat} (hb : Bs xs t i i) (hn : xs.length = n) (hi : ¬ i < n) : decide (t ∈ xs) = false := by
  refine decide_eq_false fun hm => ?_
  obtain ⟨p, hp⟩ := List.mem_iff_getElem?.1 hm
  have := (List.getElem?_eq_some_iff.1 hp).1
  have := hb.1 p t (by omega) hp
  omega
set_option maxRecDepth 100000 in
set_option maxHeartbeats 8000000 in
theorem s_BinarySearch (a : Value) (xs : List Int) (t : Int) (w m : World) (hV : Vw m w) (ha : IntL m a xs) (hl : xs.length ≤ 1000000) (hasc : AscP xs) :
    Calls Tryz.prog 130 #[a, .int .i64 t] w (RetV w m fun _ r => ∃ i : Nat, r = .tuple #[.int .i64 i, .bool (decide (t ∈ xs))] ∧ (t ∈ xs → xs[i]? = some t)) := by
  obtain ⟨A, c, rfl, hc, ha⟩ := ha.lit
  have HA := Lib.hid hasc
  have HS := Lib.hid (Bs.start xs t)
  have hL := Loc.start hV
  clear hV hasc
  generalize hn : xs.length = n at *
  have HN := Lib.hid hn
  clear hn
  go_enter Tryz.func130, Tryz.ntmps130
  go_wp2_with (first | ((with_reducible refine kAny ?_); go_skip) | (with_reducible refine stA ?_) | ((first | refine tIx ?_ | refine tLd ?_); simp only [Act.put, zq1, zq2, zq3]))
  go_loopw [7, 8] (fun si sj wr => ∃ (i j : Nat) (mm : World), i ≤ j ∧ j ≤ n ∧ si = .int .i64 i ∧ sj = .int .i64 j ∧ Loc w m wr mm [] ∧ Hid (Bs xs t i j)) (fun si sj _ => (intOf sj).toNat - (intOf si).toNat)
  case atStart => exact ⟨0, n, m, Nat.zero_le _, Nat.le_refl _, rfl, rfl, hL, HS⟩
  case round =>
    clear hL HS
    obtain ⟨i, j, mm, hij, hj, rfl, rfl, hL, HB⟩ := hrel
    have hM := hL.mext
    by_cases hlt : i < j
    · have h1 : i ≤ (i + j) / 2 := by omega
      have h2 : (i + j) / 2 < j := by omega
      obtain ⟨x, hx⟩ := at_some HN (show (i + j) / 2 < n by omega)
      obtain ⟨b1, o1, rfl, hc1⟩ := IntL.at_ ha hx
      have HX := Lib.hid hx
      clear hx
      go_wp2_with (first | ((with_reducible refine kAny ?_); go_skip) | (with_reducible refine stA ?_) | ((first | refine tIx ?_ | refine tLd ?_); simp only [Act.put, zq1, zq2, zq3]))
      refine (s_Less x t _ _ hL.vw).mono ?_
      rintro e Wc1 ⟨_, mc1, rfl, hE, hMc1, hV, rfl⟩
      replace hL := hL.call hE (by assumption) hV; clear hE hV
      by_cases hc : x < t
      · have HU := Lib.hid (HB.out.up HA.out HX.out hc)
        rw [decide_eq_true hc]
        clear hc
        go_wp2_with (first | ((with_reducible refine kAny ?_); go_skip) | (with_reducible refine stA ?_) | ((first | refine tIx ?_ | refine tLd ?_); simp only [Act.put, zq1, zq2, zq3]))
        go_roundw
        case rel => exact ⟨(i + j) / 2 + 1, j, _, by omega, hj, by go_num, rfl, hL, HU⟩
        case measure => simp [intOf] <;> omega
      · have HU := Lib.hid (HB.out.down HA.out HX.out hc)
        rw [decide_eq_false hc]
        clear hc
        go_wp2_with (first | ((with_reducible refine kAny ?_); go_skip) | (with_reducible refine stA ?_) | ((first | refine tIx ?_ | refine tLd ?_); simp only [Act.put, zq1, zq2, zq3]))
        go_roundw
        case rel => exact ⟨i, (i + j) / 2, _, by omega, by omega, rfl, by go_num, hL, HU⟩
        case measure => simp [intOf] <;> omega
    · obtain rfl : i = j := by omega
      by_cases hin : i < n
      · obtain ⟨x, hx⟩ := at_some HN hin
        obtain ⟨b1, o1, rfl, hc1⟩ := IntL.at_ ha hx
        have HF := Lib.hid (HB.out.found HA.out hx)
        by_cases he : x = t
        · have bb : (x == t) = true := by simp [he]
          have E : Hid (decide (t ∈ xs) = true ∧ (t ∈ xs → xs[i]? = some t)) := ⟨by rw [HF.out, decide_eq_true he], fun _ => by rw [hx, he]⟩
          clear hx he HF
          go_wp2_with (first | ((with_reducible refine kAny ?_); go_skip) | (with_reducible refine stA ?_) | ((first | refine tIx ?_ | refine tLd ?_); simp only [Act.put, zq1, zq2, zq3]))
          go_ret2
          exact RetV.mk hL ⟨i, by rw [E.out.1]; rfl, E.out.2⟩
        · have bb : (x == t) = false := by simp [he]
          have E : Hid (decide (t ∈ xs) = false) := by show _ = _; rw [HF.out, decide_eq_false he]
          clear hx he HF
          go_wp2_with (first | ((with_reducible refine kAny ?_); go_skip) | (with_reducible refine stA ?_) | ((first | refine tIx ?_ | refine tLd ?_); simp only [Act.put, zq1, zq2, zq3]))
          refine (s_isNaN x _ _ hL.vw).mono ?_
          rintro e Wc2 ⟨_, mc2, rfl, hE, hMc2, hV, rfl⟩
          replace hL := hL.call hE (by assumption) hV; clear hE hV
          go_wp2_with (first | ((with_reducible refine kAny ?_); go_skip) | (with_reducible refine stA ?_) | ((first | refine tIx ?_ | refine tLd ?_); simp only [Act.put, zq1, zq2, zq3]))
          go_ret2
          exact RetV.mk hL ⟨i, by rw [E.out]; rfl, fun h => by rw [decide_eq_true h] at E; cases E.out⟩
      · have E := Lib.hid (HB.out.none HN.out hin)
        go_wp2_with (first | ((with_reducible refine kAny ?_); go_skip) | (with_reducible refine stA ?_) | ((first | refine tIx ?_ | refine tLd ?_); simp only [Act.put, zq1, zq2, zq3]))
        go_ret2
        exact RetV.mk hL ⟨i, by rw [E.out]; rfl, fun h => by have := E.out; rw [decide_eq_true h] at this; cases this⟩
end Go.Proofs.YtmhkmmmompediaaGreat

/- Contracts of enumerate.Operated and pairingref27.Operated. -/
namespace Go.Proofs.YtmhkmmmompediaaGreat
open Go.RowKit

theorem zc_Task : zc Tryz.prog 111 = some #[.int .i64 0, .bool false] := by kernel_rfl
instance iAB3_1 : ZcC Tryz.prog 111 #[.int .i64 0, .bool false] := ⟨zc_Task⟩
theorem fd_Task0 : fdS Tryz.prog 111 0 = some 0 := by kernel_rfl
instance iAB3_2 : FdC Tryz.prog 111 0 0 := ⟨fd_Task0⟩
theorem fd_Task1 : fdS Tryz.prog 111 1 = some 1 := by kernel_rfl
instance iAB3_3 : FdC Tryz.prog 111 1 1 := ⟨fd_Task1⟩
theorem fd_Pair1 : fdS Tryz.prog 70 1 = some 1 := by kernel_rfl
instance iAB3_4 : FdC Tryz.prog 70 1 1 := ⟨fd_Pair1⟩
theorem lf_Duties : lfB Tryz.prog 68 = true := by kernel_rfl
instance iAB3_5 : LfC Tryz.prog 68 := ⟨lf_Duties⟩
theorem lf_Duty : lfB Tryz.prog 113 = true := by kernel_rfl
instance iAB3_6 : LfC Tryz.prog 113 := ⟨lf_Duty⟩
theorem ag_Pair : agS Tryz.prog 70 = some 2 := by kernel_rfl
instance iAB3_7 : AgC Tryz.prog 70 2 := ⟨ag_Pair⟩
theorem fd_Col0 : fdS Tryz.prog 72 0 = some 0 := by kernel_rfl
instance iAB3_8 : FdC Tryz.prog 72 0 0 := ⟨fd_Col0⟩
theorem fd_Col1 : fdS Tryz.prog 72 1 = some 2 := by kernel_rfl
instance iAB3_9 : FdC Tryz.prog 72 1 2 := ⟨fd_Col1⟩

def opT (ts : List Task) : List Int := ts.filterMap fun t => if t.2 then none else some t.1
def opF (ds : List (List Task)) : List Int := ds.flatMap opT
theorem opT_len (ts : List Task) : (opT ts).length ≤ ts.length := List.length_filterMap_le _ _
theorem opT_in {ts : List Task} {j : Nat} {x : Int} (h : ts[j]? = some (x, false)) : opT (ts.take (j + 1)) = opT (ts.take j) ++ [x] := by
  rw [← take_snoc h]; simp [opT, List.filterMap_append]
theorem opT_out {ts : List Task} {j : Nat} {x : Int} (h : ts[j]? = some (x, true)) : opT (ts.take (j + 1)) = opT (ts.take j) := by
  rw [← take_snoc h]; simp [opT, List.filterMap_append]
theorem opF_next {ds : List (List Task)} {k : Nat} {d : List Task} (h : ds[k]? = some d) : opF (ds.take (k + 1)) = opF (ds.take k) ++ opT d := by
  rw [← take_snoc h]; simp [opF, List.flatMap_append]
theorem opF_len {ds : List (List Task)} (h : ∀ d ∈ ds, d.length ≤ 100) : (opF ds).length ≤ 100 * ds.length := by
  induction ds with
  | nil => simp [opF]
  | cons d ds ih =>
    have h1 := ih fun x hx => h x (List.mem_cons_of_mem _ hx)
    have h2 := opT_len d
    have h3 := h d (by simp)
    simp only [opF, List.flatMap_cons, List.length_append, List.length_cons] at *
    omega
theorem opF_take {ds : List (List Task)} (h : ∀ d ∈ ds, d.length ≤ 100) (k : Nat) (hk : k ≤ 100) : (opF (ds.take k)).length ≤ 10000 := by
  have h1 := opF_len (ds := ds.take k) fun d hd => h d (List.mem_of_mem_take hd)
  have h2 : (ds.take k).length ≤ k := by simp; omega
  omega
theorem DutsL.at_ {m : World} {A : Option Addr} {n c : Nat} {ds : List (List Task)} (h : DutsL m (.slice A n c) ds) {k : Nat} {d : List Task} (hk : ds[k]? = some d) :
    ∃ b off A' c', A = some ⟨b, off, none⟩ ∧ DutL m (.slice A' d.length c') d ∧ m.cell? ⟨b, off + k, none⟩ = some (.slice A' d.length c') := by
  obtain ⟨b, off, v, e, hv, _, hr⟩ := ListV.at_ h (by omega) hk
  obtain ⟨A', c', rfl, _, hv⟩ := hv.lit
  exact ⟨b, off, A', c', e, hv, by simpa using hr 0 _ rfl⟩
theorem DutL.at_ {m : World} {A : Option Addr} {n c : Nat} {ts : List Task} (h : DutL m (.slice A n c) ts) {k : Nat} {x : Int} {g : Bool} (hk : ts[k]? = some (x, g)) :
    ∃ b off, A = some ⟨b, off, none⟩ ∧ m.rangeAt b (off + k * 2) [.int .i64 x, .bool g] := by
  obtain ⟨b, off, v, e, rfl, _, hr⟩ := ListV.at_ h (by omega) hk
  exact ⟨b, off, e, hr⟩
theorem isI_mono (m m' : World) (v : Value) (x : Int) (h : IsI m v x) (_ : Le m m') : IsI m' v x := h

set_option maxRecDepth 100000 in
set_option maxHeartbeats 16000000 in
theorem e_Operated (s : ByteArray) (v : Value) (ds : List (List Task)) (w m : World) (hV : Vw m w) (h : DutsL m v ds) (h1 : ds.length ≤ 100) (h2 : ∀ d ∈ ds, d.length ≤ 100) :
    Calls Tryz.prog 129 #[.agg #[.string s, v]] w (RetV w m fun m' r => IntL m' r (opF ds)) := by
  obtain ⟨D, cd, rfl, hcd, h⟩ := h.lit
  have H2 := Lib.hid h2
  have hL := Loc.start hV
  clear hV h2
  generalize hq : ds.length = nd at *
  have HQ := Lib.hid hq
  clear hq
  go_enter Tryz.func129, Tryz.ntmps129
  go_upto_region 0 with (fail)
  refine wp_region_lit ?_
  refine t_box hL rfl rfl ?_; clear hL; intro Wh1 mh1 hL eh1; simp only [Act.put, zq1, zq2, zq3]
  go_wp2_with (first | ((with_reducible refine kAny ?_); go_skip) | (with_reducible refine stA ?_) | ((first | refine tIx ?_ | refine tFd ?_ | refine tLd ?_ | ((first | refine tSr ?_ | refine tSt ?_); clear hL; intro _ hL; simp only [splice, zq1, zq2, zq3] at hL) | ((first | refine tBx ?_ | refine tAl ?_); clear hL; intro _ _ hL _) | (refine tBs ?_; clear hL; intro _ _ hL _ hBs)); simp only [Act.put, zq1, zq2, zq3]))
  go_loopw [3, 11] (fun out i wr => ∃ (k : Nat) (mm : World) (n3 : Nat) (R3 : List Lo), k ≤ nd ∧ i = .int .i64 k ∧ Loc w m wr mm ((w.heap.size, 70, #[.string s, .slice D nd cd]) :: R3) ∧ Hid (RowA 3 1 IsI mm out n3 (opF (ds.take k)) R3)) (fun _ i _ => nd - (intOf i).toNat)
  case atStart => exact ⟨0, _, 0, [], Nat.zero_le _, rfl, hL, RowA.nil⟩
  case round =>
    clear hL
    obtain ⟨k, mm, n3, R3, hk, rfl, hL, row⟩ := hrel
    have hM := hL.mext
    obtain ⟨A3, c3, rfl, row1⟩ := row.out.lit
    have ROW := Lib.hid row1
    clear row row1
    by_cases hlt : k < nd
    · obtain ⟨d, hd⟩ := at_some HQ hlt
      obtain ⟨b1, o1, A4, c4, rfl, hdu, hc1⟩ := DutsL.at_ h hd
      have HD := Lib.hid (opF_next hd)
      have hdl : d.length ≤ 100 := H2.out d (List.mem_of_getElem? hd)
      have HT := Lib.hid (opF_take H2.out k (by omega))
      clear hd
      generalize hq2 : d.length = nt at *
      have HQ2 := Lib.hid hq2
      clear hq2
      go_wp2_with (first | ((with_reducible refine kAny ?_); go_skip) | (with_reducible refine stA ?_) | ((first | refine tIx ?_ | refine tFd ?_ | refine tLd ?_ | ((first | refine tSr ?_ | refine tSt ?_); clear hL; intro _ hL; simp only [splice, zq1, zq2, zq3] at hL) | ((first | refine tBx ?_ | refine tAl ?_); clear hL; intro _ _ hL _) | (refine tBs ?_; clear hL; intro _ _ hL _ hBs)); simp only [Act.put, zq1, zq2, zq3]))
      go_loopw [3, 17] (fun out i wr => ∃ (j : Nat) (m2 : World) (n4 : Nat) (R4 : List Lo), j ≤ nt ∧ i = .int .i64 j ∧ Loc w m wr m2 ((w.heap.size, 70, #[.string s, .slice (some ⟨b1, o1, none⟩) nd cd]) :: R4) ∧ Hid (RowA 3 1 IsI m2 out n4 (opF (ds.take k) ++ opT (d.take j)) R4)) (fun _ i _ => nt - (intOf i).toNat)
      case atStart => exact ⟨0, mm, n3, R3, Nat.zero_le _, rfl, hL, by show RowA _ _ _ _ _ _ _ _; simpa [opT] using ROW.out⟩
      case round =>
        clear hL ROW hM
        obtain ⟨j, m2, n4, R4, hj, rfl, hL, row⟩ := hrel
        have hM := hL.mext
        obtain ⟨A5, c5, rfl, row1⟩ := row.out.lit
        have hn4 : n4 ≤ 10100 := by
          have e := row1.len
          rw [List.length_append] at e
          have := HT.out
          have := opT_len (d.take j)
          have : (d.take j).length ≤ j := by simp; omega
          omega
        have ROW := Lib.hid row1
        clear row row1
        by_cases hlt2 : j < nt
        · obtain ⟨⟨x, g⟩, hx⟩ := at_some HQ2 hlt2
          obtain ⟨b2, o2, rfl, hr2⟩ := DutL.at_ hdu hx
          cases g
          · have HS := Lib.hid (opT_in hx)
            clear hx
            go_wp2_with (first | ((with_reducible refine kAny ?_); go_skip) | (with_reducible refine stA ?_) | ((first | refine tIx ?_ | refine tFd ?_ | refine tLd ?_ | ((first | refine tSr ?_ | refine tSt ?_); clear hL; intro _ hL; simp only [splice, zq1, zq2, zq3] at hL) | ((first | refine tBx ?_ | refine tAl ?_); clear hL; intro _ _ hL _) | (refine tBs ?_; clear hL; intro _ _ hL _ hBs)); simp only [Act.put, zq1, zq2, zq3]))
            refine goA ?_
            obtain ⟨vs7, r7, z7, y7, l7⟩ := ROW.out
            refine wl_append (A := [_, _]) hL r7 (wanted_none rfl) rfl ap_ints (by omega) rfl rfl (news := [.int .i64 x]) rfl ((Blk.sl hBs (n := 1) rfl).le hL.vw.le) rfl (by omega) (by omega) ?_
            clear hL
            intro v1 W5 m5 R5 hL r8 e8
            obtain ⟨A9, c9, rfl, -⟩ := r8.lit
            simp only [List.cons_append, List.nil_append] at hL
            have rd2 := RowA.snocV (R := IsI) (m := m5) (x := x) r8 z7 (y7.mono fun _ _ hv => hv) l7 rfl rfl rfl
            simp only [Act.put, zq1, zq2, zq3]
            go_wp2_with (first | ((with_reducible refine kAny ?_); go_skip) | (with_reducible refine stA ?_) | ((first | refine tIx ?_ | refine tFd ?_ | refine tLd ?_ | ((first | refine tSr ?_ | refine tSt ?_); clear hL; intro _ hL; simp only [splice, zq1, zq2, zq3] at hL) | ((first | refine tBx ?_ | refine tAl ?_); clear hL; intro _ _ hL _) | (refine tBs ?_; clear hL; intro _ _ hL _ hBs)); simp only [Act.put, zq1, zq2, zq3]))
            go_roundw
            case rel => exact ⟨j + 1, m5, n4 + 1, R5, by omega, by go_num, hL.tail, by rw [HS.out, ← List.append_assoc]; exact rd2⟩
            case measure => simp [intOf] <;> omega
          · have HS := Lib.hid (opT_out hx)
            clear hx
            go_wp2_with (first | ((with_reducible refine kAny ?_); go_skip) | (with_reducible refine stA ?_) | ((first | refine tIx ?_ | refine tFd ?_ | refine tLd ?_ | ((first | refine tSr ?_ | refine tSt ?_); clear hL; intro _ hL; simp only [splice, zq1, zq2, zq3] at hL) | ((first | refine tBx ?_ | refine tAl ?_); clear hL; intro _ _ hL _) | (refine tBs ?_; clear hL; intro _ _ hL _ hBs)); simp only [Act.put, zq1, zq2, zq3]))
            go_roundw
            case rel => exact ⟨j + 1, _, n4, R4, by omega, by go_num, hL.tail, by rw [HS.out]; exact RowA.le isI_mono ROW.out leX⟩
            case measure => simp [intOf] <;> omega
        · have E : Hid (opF (ds.take k) ++ opT (d.take j) = opF (ds.take (k + 1))) := by
            show _ = _
            rw [HD.out, List.take_of_length_le (l := d) (by rw [HQ2.out]; omega)]
          go_wp2_with (first | ((with_reducible refine kAny ?_); go_skip) | (with_reducible refine stA ?_) | ((first | refine tIx ?_ | refine tFd ?_ | refine tLd ?_ | ((first | refine tSr ?_ | refine tSt ?_); clear hL; intro _ hL; simp only [splice, zq1, zq2, zq3] at hL) | ((first | refine tBx ?_ | refine tAl ?_); clear hL; intro _ _ hL _) | (refine tBs ?_; clear hL; intro _ _ hL _ hBs)); simp only [Act.put, zq1, zq2, zq3]))
          go_roundw
          case rel => exact ⟨k + 1, m2, n4, R4, by omega, by go_num, hL, by rw [← E.out]; exact ROW.out⟩
          case measure => simp [intOf] <;> omega
    · have E : Hid (opF (ds.take k) = opF ds) := by show _ = _; rw [List.take_of_length_le (by rw [HQ.out]; omega)]
      go_wp2_with (first | ((with_reducible refine kAny ?_); go_skip) | (with_reducible refine stA ?_) | ((first | refine tIx ?_ | refine tFd ?_ | refine tLd ?_ | ((first | refine tSr ?_ | refine tSt ?_); clear hL; intro _ hL; simp only [splice, zq1, zq2, zq3] at hL) | ((first | refine tBx ?_ | refine tAl ?_); clear hL; intro _ _ hL _) | (refine tBs ?_; clear hL; intro _ _ hL _ hBs)); simp only [Act.put, zq1, zq2, zq3]))
      have row2 := ROW.out
      rw [E.out] at row2
      obtain ⟨m9, hL9, hle9, hl9, -⟩ := RowA.show (A := [_]) isI_mono hL row2
      go_ret
      exact RetV.mk hL9 hl9

set_option maxRecDepth 100000 in
set_option maxHeartbeats 16000000 in
theorem r_Operated (s : ByteArray) (v : Value) (ds : List (List Task)) (w m : World) (hV : Vw m w) (h : DutsL m v ds) (h1 : ds.length ≤ 100) (h2 : ∀ d ∈ ds, d.length ≤ 100) :
    Calls Tryz.prog 43 #[.agg #[.string s, v]] w (RetV w m fun m' r => IntL m' r (opF ds)) := by
  obtain ⟨D, cd, rfl, hcd, h⟩ := h.lit
  have H2 := Lib.hid h2
  have hL := Loc.start hV
  clear hV h2
  generalize hq : ds.length = nd at *
  have HQ := Lib.hid hq
  clear hq
  go_enter Tryz.func43, Tryz.ntmps43
  go_upto_region 0 with (fail)
  refine wp_region_lit ?_
  refine t_box hL rfl rfl ?_; clear hL; intro Wh1 mh1 hL eh1; simp only [Act.put, zq1, zq2, zq3]
  go_wp2_with (first | ((with_reducible refine kAny ?_); go_skip) | (with_reducible refine stA ?_) | ((first | refine tIx ?_ | refine tFd ?_ | refine tLd ?_ | (refine tBx ?_; clear hL; intro _ _ hL _) | (refine tBs ?_; clear hL; intro _ _ hL _ hBs)); simp only [Act.put, zq1, zq2, zq3]))
  go_loopw [3, 4] (fun out i wr => ∃ (k : Nat) (mm : World) (n3 : Nat) (R3 : List Lo), k ≤ nd ∧ i = .int .i64 k ∧ Loc w m wr mm ((w.heap.size, 70, #[.string s, .slice D nd cd]) :: R3) ∧ Hid (RowA 3 1 IsI mm out n3 (opF (ds.take k)) R3)) (fun _ i _ => nd - (intOf i).toNat)
  case atStart => exact ⟨0, _, 0, [], Nat.zero_le _, rfl, hL, RowA.nil⟩
  case round =>
    clear hL
    obtain ⟨k, mm, n3, R3, hk, rfl, hL, row⟩ := hrel
    have hM := hL.mext
    obtain ⟨A3, c3, rfl, row1⟩ := row.out.lit
    have ROW := Lib.hid row1
    clear row row1
    by_cases hlt : k < nd
    · obtain ⟨d, hd⟩ := at_some HQ hlt
      obtain ⟨b1, o1, A4, c4, rfl, hdu, hc1⟩ := DutsL.at_ h hd
      have HD := Lib.hid (opF_next hd)
      have hdl : d.length ≤ 100 := H2.out d (List.mem_of_getElem? hd)
      have HT := Lib.hid (opF_take H2.out k (by omega))
      clear hd
      generalize hq2 : d.length = nt at *
      have HQ2 := Lib.hid hq2
      clear hq2
      go_wp2_with (first | ((with_reducible refine kAny ?_); go_skip) | (with_reducible refine stA ?_) | ((first | refine tIx ?_ | refine tFd ?_ | refine tLd ?_ | (refine tBx ?_; clear hL; intro _ _ hL _) | (refine tBs ?_; clear hL; intro _ _ hL _ hBs)); simp only [Act.put, zq1, zq2, zq3]))
      go_loopw [3, 5] (fun out i wr => ∃ (j : Nat) (m2 : World) (n4 : Nat) (R4 : List Lo), j ≤ nt ∧ i = .int .i64 j ∧ Loc w m wr m2 ((w.heap.size, 70, #[.string s, .slice (some ⟨b1, o1, none⟩) nd cd]) :: R4) ∧ Hid (RowA 3 1 IsI m2 out n4 (opF (ds.take k) ++ opT (d.take j)) R4)) (fun _ i _ => nt - (intOf i).toNat)
      case atStart => exact ⟨0, mm, n3, R3, Nat.zero_le _, rfl, hL, by show RowA _ _ _ _ _ _ _ _; simpa [opT] using ROW.out⟩
      case round =>
        clear hL ROW hM
        obtain ⟨j, m2, n4, R4, hj, rfl, hL, row⟩ := hrel
        have hM := hL.mext
        obtain ⟨A5, c5, rfl, row1⟩ := row.out.lit
        have hn4 : n4 ≤ 10100 := by
          have e := row1.len
          rw [List.length_append] at e
          have := HT.out
          have := opT_len (d.take j)
          have : (d.take j).length ≤ j := by simp; omega
          omega
        have ROW := Lib.hid row1
        clear row row1
        by_cases hlt2 : j < nt
        · obtain ⟨⟨x, g⟩, hx⟩ := at_some HQ2 hlt2
          obtain ⟨b2, o2, rfl, hr2⟩ := DutL.at_ hdu hx
          have hx0 := hr2 0 _ rfl
          have hx1 := hr2 1 _ rfl
          rw [Nat.add_zero] at hx0
          cases g
          · have HS := Lib.hid (opT_in hx)
            clear hx hr2
            go_wp2_with (first | ((with_reducible refine kAny ?_); go_skip) | (with_reducible refine stA ?_) | ((first | refine tIx ?_ | refine tFd ?_ | refine tLd ?_ | (refine tBx ?_; clear hL; intro _ _ hL _) | (refine tBs ?_; clear hL; intro _ _ hL _ hBs)); simp only [Act.put, zq1, zq2, zq3]))
            refine goA ?_
            obtain ⟨vs7, r7, z7, y7, l7⟩ := ROW.out
            refine wl_append (A := [_]) hL r7 (wanted_none rfl) rfl ap_ints (by omega) rfl rfl (news := [.int .i64 x]) rfl ((Blk.sl hBs (n := 1) rfl).le hL.vw.le) rfl (by omega) (by omega) ?_
            clear hL
            intro v1 W5 m5 R5 hL r8 e8
            obtain ⟨A9, c9, rfl, -⟩ := r8.lit
            simp only [List.cons_append, List.nil_append] at hL
            have rd2 := RowA.snocV (R := IsI) (m := m5) (x := x) r8 z7 (y7.mono fun _ _ hv => hv) l7 rfl rfl rfl
            simp only [Act.put, zq1, zq2, zq3]
            go_wp2_with (first | ((with_reducible refine kAny ?_); go_skip) | (with_reducible refine stA ?_) | ((first | refine tIx ?_ | refine tFd ?_ | refine tLd ?_ | (refine tBx ?_; clear hL; intro _ _ hL _) | (refine tBs ?_; clear hL; intro _ _ hL _ hBs)); simp only [Act.put, zq1, zq2, zq3]))
            go_roundw
            case rel => exact ⟨j + 1, m5, n4 + 1, R5, by omega, by go_num, hL, by rw [HS.out, ← List.append_assoc]; exact rd2⟩
            case measure => simp [intOf] <;> omega
          · have HS := Lib.hid (opT_out hx)
            clear hx hr2
            go_wp2_with (first | ((with_reducible refine kAny ?_); go_skip) | (with_reducible refine stA ?_) | ((first | refine tIx ?_ | refine tFd ?_ | refine tLd ?_ | (refine tBx ?_; clear hL; intro _ _ hL _) | (refine tBs ?_; clear hL; intro _ _ hL _ hBs)); simp only [Act.put, zq1, zq2, zq3]))
            go_roundw
            case rel => exact ⟨j + 1, _, n4, R4, by omega, by go_num, hL, by rw [HS.out]; exact ROW.out⟩
            case measure => simp [intOf] <;> omega
        · have E : Hid (opF (ds.take k) ++ opT (d.take j) = opF (ds.take (k + 1))) := by
            show _ = _
            rw [HD.out, List.take_of_length_le (l := d) (by rw [HQ2.out]; omega)]
          go_wp2_with (first | ((with_reducible refine kAny ?_); go_skip) | (with_reducible refine stA ?_) | ((first | refine tIx ?_ | refine tFd ?_ | refine tLd ?_ | (refine tBx ?_; clear hL; intro _ _ hL _) | (refine tBs ?_; clear hL; intro _ _ hL _ hBs)); simp only [Act.put, zq1, zq2, zq3]))
          go_roundw
          case rel => exact ⟨k + 1, m2, n4, R4, by omega, by go_num, hL, by rw [← E.out]; exact ROW.out⟩
          case measure => simp [intOf] <;> omega
    · have E : Hid (opF (ds.take k) = opF ds) := by show _ = _; rw [List.take_of_length_le (by rw [HQ.out]; omega)]
      go_wp2_with (first | ((with_reducible refine kAny ?_); go_skip) | (with_reducible refine stA ?_) | ((first | refine tIx ?_ | refine tFd ?_ | refine tLd ?_ | (refine tBx ?_; clear hL; intro _ _ hL _) | (refine tBs ?_; clear hL; intro _ _ hL _ hBs)); simp only [Act.put, zq1, zq2, zq3]))
      have row2 := ROW.out
      rw [E.out] at row2
      obtain ⟨m9, hL9, hle9, hl9, -⟩ := RowA.show (A := [_]) isI_mono hL row2
      go_ret
      exact RetV.mk hL9 hl9
end Go.Proofs.YtmhkmmmompediaaGreat

/- Sets of numbers as maps to bool, beside the view; contracts of master.validCut and pairingref27.ValidCut for valid cuts. -/
namespace Go.Proofs.YtmhkmmmompediaaGreat
open Go.RowKit Go.Maps

theorem Loc.allocM {w0 m0 W m : World} {Ls : List Lo} (h : Loc w0 m0 W m Ls) (o : Obj) : Loc w0 m0 (W.alloc o) (hidTo m (W.alloc o).heap.size) Ls := by
  have hs : m.heap.size ≤ (W.alloc o).heap.size := by rw [h.vw.size]; simp
  refine ⟨h.size0, h.ext.alloc _, h.mext.trans (hidTo_ext hs), ⟨h.vw.os, h.vw.tape, h.vw.output, hidTo_size hs, fun a u hu => ?_⟩, h.low, fun x hx => (h.blk x hx).alloc _, fun x hx a ha => ?_, h.apart⟩
  · rcases Nat.lt_or_ge a.block m.heap.size with hb | hb
    · rw [cell_of_heap (hidTo_old hb)] at hu
      exact cell_alloc_old (h.vw.cell _ _ hu)
    · rw [hidTo_new hb] at hu; cases hu
  · have hb : a.block < m.heap.size := by rw [ha, h.vw.size]; exact (h.blk x hx).lt
    rw [cell_of_heap (hidTo_old hb)]
    exact h.hid x hx a ha
theorem Loc.mapTurn {w0 m0 W m W' : World} {Ls : List Lo} (h : Loc w0 m0 W m Ls) {b : Nat} (hg : W.grownBy W' (some b)) (hb : w0.heap.size ≤ b) (hm : ∀ cs t fr, W.heap[b]? ≠ some (.cells cs t fr)) : Loc w0 m0 W' (hidTo m W'.heap.size) Ls := by
  have hs : m.heap.size ≤ W'.heap.size := by rw [h.vw.size]; exact hg.size
  refine ⟨h.size0, h.ext.grown hg (fun k hk => by cases hk; exact hb), h.mext.trans (hidTo_ext hs), ⟨h.vw.os.trans hg.os.symm, h.vw.tape.trans hg.tape.symm, h.vw.output.trans hg.output.symm, hidTo_size hs, fun a u hu => ?_⟩, h.low, fun x hx => ?_, fun x hx a ha => ?_, h.apart⟩
  · rcases Nat.lt_or_ge a.block m.heap.size with hlt | hlt
    · rw [cell_of_heap (hidTo_old hlt)] at hu
      have hc := h.vw.cell _ _ hu
      have hne : some a.block ≠ some b := by
        intro e
        have e' := Option.some.inj e
        unfold World.cell? at hc
        cases ho : W.heap[a.block]? with
        | none => rw [ho] at hc; cases hc
        | some ob =>
          rw [ho] at hc
          cases ob with
          | cells cs t fr => exact hm cs t fr (by rw [← e', ho])
          | _ => cases hc
      rw [World.cell?_of_block (hg.block _ (by rw [← h.vw.size]; exact hlt) hne)]
      exact hc
    · rw [hidTo_new hlt] at hu; cases hu
  · have hbk := h.blk x hx
    refine (hg.block _ hbk.lt fun e => ?_).trans hbk
    exact hm _ _ _ (by rw [← Option.some.inj e]; exact hbk)
  · have hlt : a.block < m.heap.size := by rw [ha, h.vw.size]; exact (h.blk x hx).lt
    rw [cell_of_heap (hidTo_old hlt)]
    exact h.hid x hx a ha

theorem keyI : Keyed Tryz.prog 3 := int_keyed Tryz.underlying3
def BSet (W : World) (b : Nat) (xs : List Int) : Prop := ∃ n, n ≤ xs.length ∧ W.ownsMap (H := Unit) Tryz.prog 3 (plainElem Tryz.prog 4) b n (setOf (.lit (.bool true)) (xs.map (Lit.int .i64)))
theorem BSet.made (W : World) : BSet (W.alloc (.map #[] 0)) W.heap.size [] := ⟨0, Nat.le_refl _, World.ownsMap_made _ _ _ _⟩
theorem BSet.ext {W W' : World} {b : Nat} {xs : List Int} (h : BSet W b xs) (hE : Ext W W') : BSet W' b xs := by
  obtain ⟨n, hn, es, clock, hb, h⟩ := h
  have hlt : b < W.heap.size := (Array.getElem?_eq_some_iff.1 hb).1
  exact ⟨n, hn, es, clock, (hE.block b hlt).trans hb, h⟩
theorem BSet.notCells {W : World} {b : Nat} {xs : List Int} (h : BSet W b xs) : ∀ cs t fr, W.heap[b]? ≠ some (.cells cs t fr) := by
  obtain ⟨n, hn, es, clock, hb, h⟩ := h
  intro cs t fr e
  rw [hb] at e
  cases e
theorem setOf_at (u z : DataW Unit) (k : Lit) (hk : WideAt.IsKeyLit k) : ∀ (acc : List Lit), (∀ x ∈ acc, WideAt.IsKeyLit x) → (k ∈ acc → (setOf u acc.reverse).atKey k z = u) ∧ (k ∉ acc → (setOf u acc.reverse).atKey k z = z)
  | [], _ => ⟨fun h => absurd h List.not_mem_nil, fun _ => rfl⟩
  | x :: acc, h => by
    rw [List.reverse_cons, setOf_snoc]
    have ih := setOf_at u z k hk acc fun y hy => h y (List.mem_cons_of_mem _ hy)
    have hm : IsMap (setOf u acc.reverse) := (tidy_setOf u acc.reverse fun y hy => h y (List.mem_cons_of_mem _ (List.mem_reverse.1 hy))).isMap
    by_cases e : k = x
    · subst e
      rw [atKey_put_same hm hk]
      exact ⟨fun _ => rfl, fun hn => absurd (List.mem_cons_self) hn⟩
    · rw [atKey_put_other e]
      refine ⟨fun hx => ih.1 ?_, fun hn => ih.2 fun hx => hn (List.mem_cons_of_mem _ hx)⟩
      rcases List.mem_cons.1 hx with h1 | h1
      · exact absurd h1 e
      · exact h1
theorem isKey_int (x : Int) : WideAt.IsKeyLit (.int .i64 x) := trivial
theorem setOf_atI (xs : List Int) (x : Int) : (setOf (H := Unit) (.lit (.bool true)) (xs.map (Lit.int .i64))).atKey (.int .i64 x) (.lit (.bool false)) = .lit (.bool (decide (x ∈ xs))) := by
  have h := setOf_at (.lit (.bool true)) (.lit (.bool false)) (.int .i64 x) (isKey_int x) ((xs.map (Lit.int .i64)).reverse) (fun y hy => by
    simp only [List.mem_reverse, List.mem_map] at hy
    obtain ⟨z, _, rfl⟩ := hy
    exact isKey_int z)
  rw [List.reverse_reverse] at h
  by_cases hx : x ∈ xs
  · rw [h.1 (List.mem_reverse.2 (List.mem_map.2 ⟨x, hx, rfl⟩)), decide_eq_true hx]
  · rw [h.2 fun hm => ?_, decide_eq_false hx]
    obtain ⟨y, hy, e⟩ := List.mem_map.1 (List.mem_reverse.1 hm)
    cases e
    exact hx hy
theorem zeroB (w : World) : (zeroValue 4).run Tryz.prog w = .ok (.bool false) w := by kernel_rfl
set_option maxRecDepth 100000 in
theorem plainElem_bool_inv {v : Value} {z : DataW Unit × List MemPlace} (h : plainElem Tryz.prog 4 v = some z) : ∃ x, v = .bool x ∧ z = (.lit (.bool x), []) := by
  unfold plainElem at h
  rw [Tryz.underlying4] at h
  cases v <;> simp at h
  exact ⟨_, rfl, h.symm⟩
theorem BSet.look {W : World} {b : Nat} {xs : List Int} (h : BSet W b xs) {x : Int} (hw : (Lit.int .i64 x).wf = true) : (Instr.lookup 149 (.map (some b)) (.int .i64 x) false).run Tryz.prog W = .ok (.bool (decide (x ∈ xs))) W := by
  obtain ⟨n, hn, h⟩ := h
  obtain ⟨v, ps, hrun, hv⟩ := h.lookup keyI Tryz.underlying149 (zeroB W) (plainElem_bool Tryz.underlying4 false) (keyOf_int_mk Tryz.underlying3 hw)
  rw [setOf_atI] at hv
  obtain ⟨c, rfl, hc⟩ := plainElem_bool_inv hv
  simp only [Prod.mk.injEq, DataW.lit.injEq, Lit.bool.injEq] at hc
  rw [hrun, ← hc.1]
theorem BSet.up {W : World} {b : Nat} {xs : List Int} (h : BSet W b xs) (hl : xs.length ≤ 1000000) {x : Int} (hw : (Lit.int .i64 x).wf = true) :
    ∃ W', (Instr.mapUpdate 149 (.map (some b)) (.int .i64 x) (.bool true)).run Tryz.prog W = .ok () W' ∧ BSet W' b (xs ++ [x]) ∧ W.grownBy W' (some b) := by
  obtain ⟨n, hn, h⟩ := h
  obtain ⟨W', h1, h2, h3⟩ := h.update keyI Tryz.underlying149 (by unfold maxLen; omega) (keyOf_int_mk Tryz.underlying3 hw) (plainElem_bool Tryz.underlying4 true)
  refine ⟨W', h1, ⟨n + 1, by simp; omega, ?_⟩, h3⟩
  rw [List.map_append, List.map_cons, List.map_nil, setOf_snoc]
  exact h2
theorem wf_small {x : Int} (h1 : -1000000 ≤ x) (h2 : x ≤ 1000000) : (Lit.int .i64 x).wf = true := WalkArith.wf_i64 (by omega)

theorem Loc.world {w0 m0 W m : World} {Ls : List Lo} (_ : Loc w0 m0 W m Ls) : ∃ x, x = W := ⟨W, rfl⟩
structure CutOk (rs : List Int) (x : Cut) : Prop where
  asc : AscP x.1
  sub : ∀ r ∈ x.1, r ∈ rs
  two : 2 ≤ x.2
  le : x.2 ≤ (x.1.length : Int)
  len : x.1.length ≤ 1000000
end Go.Proofs.YtmhkmmmompediaaGreat

/- Contracts of master.validCut and pairingref27.ValidCut for valid cuts. -/
namespace Go.Proofs.YtmhkmmmompediaaGreat
open Go.RowKit

theorem asc_prev {xs : List Int} (h : AscP xs) {j : Nat} {x y : Int} (hy : xs[j]? = some y) (hx : xs[j + 1]? = some x) : ¬ x ≤ y := by
  have := h j y x hy hx; omega

set_option maxRecDepth 100000 in
set_option maxHeartbeats 16000000 in
theorem m_validCut (rv v : Value) (rs : List Int) (x : Cut) (w m : World) (hV : Vw m w) (hr : IntL m rv rs) (hv : CutR m v x) (hrl : rs.length ≤ 1000000) (hra : AscP rs) (ok : CutOk rs x) :
    Calls Tryz.prog 131 #[rv, v] w (RetV w m fun _ r => r = .bool true) := by
  obtain ⟨xs, dv⟩ := x
  obtain ⟨sv, rfl, hs, -⟩ := hv
  simp only at hs
  obtain ⟨B, d, rfl, hd, hr⟩ := hr.lit
  obtain ⟨A, c, rfl, hc, ha⟩ := hs.lit
  obtain ⟨o1, o2, o3, o4, o5⟩ := ok
  simp only at o1 o2 o3 o4 o5
  have HR := Lib.hid hr
  have HRL := Lib.hid hrl
  have HRA := Lib.hid hra
  have HA := Lib.hid o1
  have HS := Lib.hid o2
  have hL := Loc.start hV
  clear hV hr hra o1 o2 hrl
  generalize hn2 : rs.length = n2 at *
  have HN2 := Lib.hid hn2
  clear hn2
  generalize hn : xs.length = n at *
  have HN := Lib.hid hn
  clear hn
  have d1 : dv ≥ 2 := by omega
  have d2 : dv ≤ (n : Int) := o4
  go_enter Tryz.func131, Tryz.ntmps131
  go_upto_region 0 with (fail)
  refine wp_region_lit ?_
  refine t_box hL rfl rfl ?_; clear hL; intro Wh3 mh3 hL eh3; simp only [Act.put, zq1, zq2, zq3]
  go_wp2_with (first | ((with_reducible refine kAny ?_); go_skip) | (with_reducible refine stA ?_) | ((first | refine tIx ?_ | refine tFd ?_ | refine tLd ?_ | (refine tBx ?_; clear hL; intro _ _ hL _)); simp only [Act.put, zq1, zq2, zq3]))
  go_loopw [12] (fun i wr => ∃ (k : Nat) (mm : World), k ≤ n ∧ i = .int .i64 k ∧ Loc w m wr mm [(w.heap.size, 34, #[.slice A n c, .int .i64 dv])]) (fun i _ => n - (intOf i).toNat)
  case atStart => exact ⟨0, _, Nat.zero_le _, rfl, hL⟩
  case round =>
    clear hL
    obtain ⟨k, mm, hk, rfl, hL⟩ := hrel
    have hM := hL.mext
    by_cases hlt : k < n
    · obtain ⟨x, hx⟩ := at_some HN hlt
      obtain ⟨b1, o1, rfl, hc1⟩ := IntL.at_ ha hx
      have hin : x ∈ rs := HS.out x (List.mem_of_getElem? hx)
      have HIN := Lib.hid hin
      by_cases h0 : k = 0
      · subst h0
        clear hx hin
        go_wp2_with (first | ((with_reducible refine kAny ?_); go_skip) | (with_reducible refine stA ?_) | ((first | refine tIx ?_ | refine tFd ?_ | refine tLd ?_ | (refine tBx ?_; clear hL; intro _ _ hL _)); simp only [Act.put, zq1, zq2, zq3]))
        refine (s_BinarySearch _ rs x _ _ hL.vw (IntL.le HR.out leX) (by rw [HN2.out]; exact HRL.out) HRA.out).mono ?_
        rintro e W2 ⟨_, m2, rfl, hE, hM2, hV, i, rfl, -⟩
        replace hL := hL.call hE (by assumption) hV; clear hE hV
        rw [decide_eq_true HIN.out]
        go_wp2_with (first | ((with_reducible refine kAny ?_); go_skip) | (with_reducible refine stA ?_) | ((first | refine tIx ?_ | refine tFd ?_ | refine tLd ?_ | (refine tBx ?_; clear hL; intro _ _ hL _)); simp only [Act.put, zq1, zq2, zq3]))
        go_roundw
        case rel => exact ⟨1, _, by omega, by go_num, hL⟩
        case measure => simp [intOf] <;> omega
      · obtain ⟨j, rfl⟩ : ∃ j, k = j + 1 := ⟨k - 1, by omega⟩
        obtain ⟨y, hy⟩ := at_some HN (show j < n by omega)
        obtain ⟨b2, o2, e2, hc2⟩ := IntL.at_ ha hy
        obtain ⟨rfl, rfl⟩ : b1 = b2 ∧ o1 = o2 := by simpa using e2
        have hk0 : ((j + 1 : Nat) : Int) > 0 := by omega
        have hyx := asc_prev HA.out hy hx
        have hj3 : (j : Int) + 1 - 1 = (j : Int) := by omega
        have hjn : j < n := by omega
        clear hx hy hin e2 h0
        go_wp2_with (first | ((with_reducible refine kAny ?_); go_skip) | (with_reducible refine stA ?_) | ((first | refine tIx ?_ | refine tFd ?_ | refine tLd ?_ | (refine tBx ?_; clear hL; intro _ _ hL _)); simp only [Act.put, zq1, zq2, zq3]))
        refine (s_BinarySearch _ rs x _ _ hL.vw (IntL.le HR.out leX) (by rw [HN2.out]; exact HRL.out) HRA.out).mono ?_
        rintro e W2 ⟨_, m2, rfl, hE, hM2, hV, i, rfl, -⟩
        replace hL := hL.call hE (by assumption) hV; clear hE hV
        rw [decide_eq_true HIN.out]
        go_wp2_with (first | ((with_reducible refine kAny ?_); go_skip) | (with_reducible refine stA ?_) | ((first | refine tIx ?_ | refine tFd ?_ | refine tLd ?_ | (refine tBx ?_; clear hL; intro _ _ hL _)); simp only [Act.put, zq1, zq2, zq3]))
        go_roundw
        case rel => exact ⟨j + 1 + 1, _, by omega, by go_num, hL⟩
        case measure => simp [intOf] <;> omega
    · go_wp2_with (first | ((with_reducible refine kAny ?_); go_skip) | (with_reducible refine stA ?_) | ((first | refine tIx ?_ | refine tFd ?_ | refine tLd ?_ | (refine tBx ?_; clear hL; intro _ _ hL _)); simp only [Act.put, zq1, zq2, zq3]))
      go_ret
      exact RetV.mk hL rfl

end Go.Proofs.YtmhkmmmompediaaGreat

/- Contract of master.ValidateMaster for valid master problems. -/
namespace Go.Proofs.YtmhkmmmompediaaGreat
open Go.RowKit

structure ColOk (rs : List Int) (x : Col) : Prop where
  c1 : -1125899906842624 ≤ x.2.2
  c2 : x.2.2 ≤ 1125899906842624
  nd : x.2.1.length ≤ 100
  nt : ∀ d ∈ x.2.1, d.length ≤ 100
  pos : 0 < (opF x.2.1).length
  sub : ∀ f ∈ opF x.2.1, f ∈ rs
  nodup : (opF x.2.1).Nodup
structure MsOk (x : Ms) : Prop where
  f0 : 0 ≤ x.nf
  f1 : x.nf ≤ 200
  p0 : 0 ≤ x.pen
  p1 : x.pen ≤ 4294967296
  r0 : 1 ≤ x.rows.length
  r1 : x.rows.length ≤ 32
  asc : AscP x.rows
  low : ∀ r ∈ x.rows, 0 ≤ r ∧ r < x.nf
  k1 : x.cols.length ≤ 1000
  cols : ∀ c ∈ x.cols, ColOk x.rows c
  k2 : x.cuts.length ≤ 32
  cuts : ∀ c ∈ x.cuts, CutOk x.rows c
theorem ColL.at_ {m : World} {A : Option Addr} {n c : Nat} {cs : List Col} (h : ColL m (.slice A n c) cs) {k : Nat} {x : Col} (hk : cs[k]? = some x) :
    ∃ b off D cd, A = some ⟨b, off, none⟩ ∧ DutsL m (.slice D x.2.1.length cd) x.2.1 ∧ m.rangeAt b (off + k * 3) [.string x.1, .slice D x.2.1.length cd, .int .i64 x.2.2] := by
  obtain ⟨b, off, v, e, ⟨s, rfl, hs⟩, _, hr⟩ := ListV.at_ h (by omega) hk
  obtain ⟨D, cd, rfl, _, hs⟩ := hs.lit
  exact ⟨b, off, D, cd, e, hs, hr⟩
theorem CutL.at_' {m : World} {A : Option Addr} {n c : Nat} {cs : List Cut} (h : CutL m (.slice A n c) cs) {k : Nat} {x : Cut} (hk : cs[k]? = some x) :
    ∃ b off D cd, A = some ⟨b, off, none⟩ ∧ CutR m (.agg #[.slice D x.1.length cd, .int .i64 x.2]) x ∧ m.rangeAt b (off + k * 2) [.slice D x.1.length cd, .int .i64 x.2] := by
  obtain ⟨b, off, v, e, hc, _, hr⟩ := ListV.at_ h (by omega) hk
  have hc' := hc
  obtain ⟨s, rfl, hs, hl⟩ := hc
  obtain ⟨D, cd, rfl, _, hs⟩ := hs.lit
  exact ⟨b, off, D, cd, e, hc', hr⟩
theorem nodup_new {xs : List Int} (h : xs.Nodup) {j : Nat} {x : Int} (hx : xs[j]? = some x) : decide (x ∈ xs.take j) = false := by
  refine decide_eq_false fun hm => ?_
  obtain ⟨p, hp⟩ := List.mem_iff_getElem?.1 hm
  rw [List.getElem?_take] at hp
  by_cases hpj : p < j
  · rw [if_pos hpj] at hp
    obtain ⟨h1, e1⟩ := List.getElem?_eq_some_iff.1 hp
    obtain ⟨h2, e2⟩ := List.getElem?_eq_some_iff.1 hx
    exact List.pairwise_iff_getElem.1 h p j h1 h2 hpj (e1.trans e2.symm)
  · rw [if_neg hpj] at hp; cases hp

set_option maxRecDepth 100000 in
set_option maxHeartbeats 32000000 in
theorem m_ValidateMaster (v : Value) (x : Ms) (w m : World) (hV : Vw m w) (hv : MasterR m v x) (ok : MsOk x) :
    Calls Tryz.prog 68 #[v] w (RetV w m fun _ r => r = .int .i64 0) := by
  obtain ⟨nf, rs, pen, cols, cuts⟩ := x
  obtain ⟨va, vb, vc, rfl, ha, hb, hc⟩ := hv
  simp only at ha hb hc
  obtain ⟨A, ca, rfl, hca, ha⟩ := ha.lit
  obtain ⟨B, cb, rfl, hcb, hb⟩ := hb.lit
  obtain ⟨C, cc, rfl, hcc, hc⟩ := hc.lit
  obtain ⟨f0, f1, p0, p1, r0, r1, o1, o2, k1, o3, k2, o4⟩ := ok
  simp only at f0 f1 p0 p1 r0 r1 o1 o2 k1 o3 k2 o4
  have HR := Lib.hid ha
  have HA := Lib.hid o1
  have HO := Lib.hid o2
  have HC := Lib.hid o3
  have HK := Lib.hid o4
  have HCO := Lib.hid hb
  have HCU := Lib.hid hc
  have HRL : Hid (rs.length ≤ 1000000) := by show _ ≤ _; omega
  have hL := Loc.start hV
  clear hV o1 o2 o3 o4 hb hc
  generalize hn : rs.length = n at *
  have HN := Lib.hid hn
  clear hn
  generalize hn1 : cols.length = nc at *
  have HN1 := Lib.hid hn1
  clear hn1
  generalize hn2 : cuts.length = nk at *
  have HN2 := Lib.hid hn2
  clear hn2
  have q1 : ¬ nf > 200 := by omega
  have q2 : ¬ nf < 0 := by omega
  have q3 : ¬ (n : Int) < 1 := by omega
  have q4 : ¬ (n : Int) > 32 := by omega
  have q5 : ¬ pen < 0 := by omega
  have q6 : ¬ pen > 4294967296 := by omega
  have q7 : ¬ (nc : Int) > 1000 := by omega
  have q8 : ¬ (nk : Int) > 32 := by omega
  go_enter Tryz.func68, Tryz.ntmps68
  go_wp2_with (first | ((with_reducible refine kAny ?_); go_skip) | (with_reducible refine stA ?_) | ((first | refine tIx ?_ | refine tFd ?_ | refine tLd ?_ | ((first | refine tSr ?_ | refine tSt ?_); clear hL; intro _ hL; simp only [splice, zq1, zq2, zq3] at hL) | ((first | refine tBx ?_ | refine tAl ?_); clear hL; intro _ _ hL _)); simp only [Act.put, zq1, zq2, zq3]))
  go_loopw [58] (fun i wr => ∃ (k : Nat) (mm : World), k ≤ n ∧ i = .int .i64 k ∧ Loc w m wr mm [(w.heap.size, 26, #[.int .i64 nf, .slice A n ca, .int .i64 pen, .slice B nc cb, .slice C nk cc])]) (fun i _ => n - (intOf i).toNat)
  case atStart => exact ⟨0, _, Nat.zero_le _, rfl, hL⟩
  case round =>
    clear hL
    obtain ⟨k, mm, hk, rfl, hL⟩ := hrel
    have hM := hL.mext
    by_cases hlt : k < n
    · obtain ⟨x, hx⟩ := at_some HN hlt
      obtain ⟨b1, o1, hA, hc1⟩ := IntL.at_ ha hx
      replace hA := Lib.hid hA
      obtain ⟨x1, x2⟩ := HO.out x (List.mem_of_getElem? hx)
      have x1' : ¬ x < 0 := by omega
      have x2' : ¬ x ≥ nf := by omega
      by_cases h0 : k = 0
      · subst h0
        clear hx x1 x2
        go_wp2_with (first | ((with_reducible refine kAny ?_); go_skip) | (with_reducible refine stA ?_) | ((first | refine tIx ?_ | refine tFd ?_ | refine tLd ?_ | ((first | refine tSr ?_ | refine tSt ?_); clear hL; intro _ hL; simp only [splice, zq1, zq2, zq3] at hL) | ((first | refine tBx ?_ | refine tAl ?_); clear hL; intro _ _ hL _)); simp only [Act.put, zq1, zq2, zq3]))
        go_roundw
        case rel => exact ⟨1, _, by omega, by go_num, hL⟩
        case measure => simp [intOf] <;> omega
      · obtain ⟨j, rfl⟩ : ∃ j, k = j + 1 := ⟨k - 1, by omega⟩
        have hk0 : ((j + 1 : Nat) : Int) > 0 := by omega
        have hjn : j < n := by omega
        obtain ⟨y, hy⟩ := at_some HN hjn
        obtain ⟨b2, o2, hA2, hc2⟩ := IntL.at_ ha hy
        have hyx := asc_prev HA.out hy hx
        have e12 : b2 = b1 ∧ o2 = o1 := by
          have := hA.out
          rw [hA2] at this
          simp only [Option.some.injEq, Addr.mk.injEq, and_true] at this
          exact this
        obtain ⟨rfl, rfl⟩ := e12
        have hj1 : ((j + 1 : Nat) : Int) - 1 = (j : Int) := by omega
        have hj2 : wrap64 (((j + 1 : Nat) : Int) - 1) = (j : Int) := by unfold wrap64; omega
        have hj3 : (j : Int) + 1 - 1 = (j : Int) := by omega
        clear hx hy x1 x2 hA2 h0
        go_wp2_with (first | ((with_reducible refine kAny ?_); go_skip) | (with_reducible refine stA ?_) | ((first | refine tIx ?_ | refine tFd ?_ | refine tLd ?_ | ((first | refine tSr ?_ | refine tSt ?_); clear hL; intro _ hL; simp only [splice, zq1, zq2, zq3] at hL) | ((first | refine tBx ?_ | refine tAl ?_); clear hL; intro _ _ hL _)); simp only [Act.put, zq1, zq2, zq3]))
        go_roundw
        case rel => exact ⟨j + 1 + 1, _, by omega, by go_num, hL⟩
        case measure => simp [intOf] <;> omega
    · have hmm := @run_makeMap Tryz.prog
      have HMM := Lib.hid hmm
      clear hmm
      go_wp2_with (first | ((with_reducible refine kAny ?_); go_skip) | (with_reducible refine stA ?_) | ((first | refine tIx ?_ | refine tFd ?_ | refine tLd ?_ | ((first | refine tSr ?_ | refine tSt ?_); clear hL; intro _ hL; simp only [splice, zq1, zq2, zq3] at hL) | ((first | refine tBx ?_ | refine tAl ?_); clear hL; intro _ _ hL _)); simp only [Act.put, zq1, zq2, zq3]))
      clear hlt hk
      go_loopw [89] (fun i wr => ∃ (k : Nat) (mm : World), k ≤ nc ∧ i = .int .i64 k ∧ Loc w m wr mm [(w.heap.size, 26, #[.int .i64 nf, .slice A n ca, .int .i64 pen, .slice B nc cb, .slice C nk cc])]) (fun i _ => nc - (intOf i).toNat)
      case atStart => exact ⟨0, _, Nat.zero_le _, rfl, hL⟩
      case round =>
        clear hL hM
        obtain ⟨k, mm, hk, rfl, hL⟩ := hrel
        obtain ⟨wq, rfl⟩ := hL.world
        have hM := hL.mext
        by_cases hlt : k < nc
        · obtain ⟨⟨s, ds, cost⟩, hx⟩ := at_some HN1 hlt
          have hco := HCO.out
          obtain ⟨b1, o1, D, cd, rfl, hds, hr1⟩ := ColL.at_ hco hx
          obtain ⟨i1, i2, i3, i4, i5, i6, i7⟩ := HC.out _ (List.mem_of_getElem? hx)
          simp only at hds hr1 i1 i2 i3 i4 i5 i6 i7
          have c1 : ¬ cost < -1125899906842624 := by omega
          have c2 : ¬ cost > 1125899906842624 := by omega
          have HD := Lib.hid hds
          have H3 := Lib.hid i3
          have H4 := Lib.hid i4
          have H6 := Lib.hid i6
          have H7 := Lib.hid i7
          have H5 := Lib.hid i5
          have H8 := Lib.hid (opF_len i4)
          clear hx hds i1 i2 i3 i4 i5 i6 i7 hco
          generalize hnd : ds.length = nd at *
          have HND := Lib.hid hnd
          clear hnd
          go_wp2_with (first | ((with_reducible refine kAny ?_); go_skip) | (with_reducible refine stA ?_) | ((first | refine tIx ?_ | refine tFd ?_ | refine tLd ?_ | ((first | refine tSr ?_ | refine tSt ?_); clear hL; intro _ hL; simp only [splice, zq1, zq2, zq3] at hL) | ((first | refine tBx ?_ | refine tAl ?_); clear hL; intro _ _ hL _)); simp only [Act.put, zq1, zq2, zq3]))
          refine (e_Operated s _ ds _ _ hL.vw (DutsL.le HD.out leX) (by rw [HND.out]; exact H3.out) H4.out).mono ?_
          rintro e Wo1 ⟨vo1, mo1, rfl, hE, hMo1, hV, ho1⟩
          replace hL := hL.call hE (by assumption) hV; clear hE hV
          obtain ⟨Ao, co, rfl, hco, ho1⟩ := ho1.lit
          have HOP := Lib.hid ho1
          have h5 := H5.out
          have h8 : (opF ds).length ≤ 100000 := by have := H8.out; have := H3.out; omega
          clear ho1 hr1
          generalize hno : (opF ds).length = no at *
          have HNO := Lib.hid hno
          clear hno
          have q9 : ¬ (no : Int) < 1 := by omega
          have hmb := hL.ext.size
          have hmm := HMM.out
          go_wp2_with (first | ((with_reducible refine kAny ?_); go_skip) | (with_reducible refine stA ?_) | ((first | refine tIx ?_ | refine tFd ?_ | refine tLd ?_ | ((first | refine tSr ?_ | refine tSt ?_); clear hL; intro _ hL; simp only [splice, zq1, zq2, zq3] at hL) | ((first | refine tBx ?_ | refine tAl ?_); clear hL; intro _ _ hL _)); simp only [Act.put, zq1, zq2, zq3]))
          go_loopw [110] (fun i wr => ∃ (j : Nat) (m2 : World), j ≤ no ∧ i = .int .i64 j ∧ Loc w m wr m2 [(wq.heap.size, 72, #[.string s, .slice D nd cd, .int .i64 cost]), (w.heap.size, 26, #[.int .i64 nf, .slice A n ca, .int .i64 pen, .slice (some ⟨b1, o1, none⟩) nc cb, .slice C nk cc])] ∧ Hid (BSet wr Wo1.heap.size ((opF ds).take j)) ∧ Hid (Ext mo1 m2)) (fun i _ => no - (intOf i).toNat)
          case atStart => exact ⟨0, _, Nat.zero_le _, rfl, hL.allocM _, BSet.made _, hidTo_ext (by rw [hL.vw.size]; simp)⟩
          case round =>
            clear hL hM hmm
            obtain ⟨j, m2, hj, rfl, hL, HB, HX⟩ := hrel
            have hM := hL.mext
            by_cases hlt2 : j < no
            · obtain ⟨f, hf⟩ := at_some HNO hlt2
              obtain ⟨b3, o3, rfl, hc3⟩ := IntL.at_ HOP.out hf
              replace hc3 := HX.out.le.cell _ _ hc3
              have hin : f ∈ rs := H6.out f (List.mem_of_getElem? hf)
              have HIN := Lib.hid hin
              have HNW := Lib.hid (nodup_new H7.out hf)
              obtain ⟨lo, hi⟩ := HO.out f hin
              have HWF : Hid ((Lit.int .i64 f).wf = true) := wf_small (by omega) (by omega)
              have HT : Hid ((opF ds).take j ++ [f] = (opF ds).take (j + 1)) := take_snoc hf
              have HLN : Hid (((opF ds).take j).length ≤ 1000000) := by show _ ≤ _; simp; omega
              clear hf hin lo hi
              go_wp2_with (first | ((with_reducible refine kAny ?_); go_skip) | (with_reducible refine stA ?_) | ((first | refine tIx ?_ | refine tFd ?_ | refine tLd ?_ | ((first | refine tSr ?_ | refine tSt ?_); clear hL; intro _ hL; simp only [splice, zq1, zq2, zq3] at hL) | ((first | refine tBx ?_ | refine tAl ?_); clear hL; intro _ _ hL _)); simp only [Act.put, zq1, zq2, zq3]))
              refine (s_BinarySearch _ rs f _ _ hL.vw (IntL.le HR.out leX) (by rw [HN.out]; exact HRL.out) HA.out).mono ?_
              rintro e W2 ⟨_, m3, rfl, hE, hM3, hV, i, rfl, -⟩
              have HB2 := HB.out.ext hE
              have HX3 : Hid (Ext mo1 m3) := HX.out.trans hM3
              replace hL := hL.call hE (by assumption) hV; clear hE hV
              rw [decide_eq_true HIN.out]
              have hlk := HB2.look HWF.out
              rw [HNW.out] at hlk
              obtain ⟨W9, hup, hb9, hg9⟩ := HB2.up HLN.out HWF.out
              have HB9 := Lib.hid hb9
              have HG9 := Lib.hid hg9
              have HNC := Lib.hid HB2.notCells
              clear hb9 hg9 HB2
              go_wp2_with (first | ((with_reducible refine kAny ?_); go_skip) | (with_reducible refine stA ?_) | ((first | refine tIx ?_ | refine tFd ?_ | refine tLd ?_ | ((first | refine tSr ?_ | refine tSt ?_); clear hL; intro _ hL; simp only [splice, zq1, zq2, zq3] at hL) | ((first | refine tBx ?_ | refine tAl ?_); clear hL; intro _ _ hL _)); simp only [Act.put, zq1, zq2, zq3]))
              go_roundw
              case rel => exact ⟨j + 1, _, by omega, by go_num, hL.mapTurn HG9.out hmb HNC.out, by rw [← HT.out]; exact HB9.out, HX3.out.trans (hidTo_ext (by rw [hL.vw.size]; exact HG9.out.size))⟩
              case measure => simp [intOf] <;> omega
            · go_wp2_with (first | ((with_reducible refine kAny ?_); go_skip) | (with_reducible refine stA ?_) | ((first | refine tIx ?_ | refine tFd ?_ | refine tLd ?_ | ((first | refine tSr ?_ | refine tSt ?_); clear hL; intro _ hL; simp only [splice, zq1, zq2, zq3] at hL) | ((first | refine tBx ?_ | refine tAl ?_); clear hL; intro _ _ hL _)); simp only [Act.put, zq1, zq2, zq3]))
              go_roundw
              case rel => exact ⟨k + 1, _, by omega, by go_num, hL.tail⟩
              case measure => simp [intOf] <;> omega
        · go_wp2_with (first | ((with_reducible refine kAny ?_); go_skip) | (with_reducible refine stA ?_) | ((first | refine tIx ?_ | refine tFd ?_ | refine tLd ?_ | ((first | refine tSr ?_ | refine tSt ?_); clear hL; intro _ hL; simp only [splice, zq1, zq2, zq3] at hL) | ((first | refine tBx ?_ | refine tAl ?_); clear hL; intro _ _ hL _)); simp only [Act.put, zq1, zq2, zq3]))
          clear hlt hk
          go_loopw [135] (fun i wr => ∃ (k : Nat) (mm : World), k ≤ nk ∧ i = .int .i64 k ∧ Loc w m wr mm [(w.heap.size, 26, #[.int .i64 nf, .slice A n ca, .int .i64 pen, .slice B nc cb, .slice C nk cc])]) (fun i _ => nk - (intOf i).toNat)
          case atStart => exact ⟨0, _, Nat.zero_le _, rfl, hL⟩
          case round =>
            clear hL hM
            obtain ⟨k, mm, hk, rfl, hL⟩ := hrel
            have hM := hL.mext
            by_cases hlt : k < nk
            · obtain ⟨⟨xs, dv⟩, hx⟩ := at_some HN2 hlt
              have hcu := HCU.out
              obtain ⟨b1, o1, D, cd, rfl, hcr, hr1⟩ := CutL.at_' hcu hx
              have HOK := Lib.hid (HK.out _ (List.mem_of_getElem? hx))
              have HCR := Lib.hid hcr
              clear hx hcu hcr
              simp only at hr1
              go_wp2_with (first | ((with_reducible refine kAny ?_); go_skip) | (with_reducible refine stA ?_) | ((first | refine tIx ?_ | refine tFd ?_ | refine tLd ?_ | ((first | refine tSr ?_ | refine tSt ?_); clear hL; intro _ hL; simp only [splice, zq1, zq2, zq3] at hL) | ((first | refine tBx ?_ | refine tAl ?_); clear hL; intro _ _ hL _)); simp only [Act.put, zq1, zq2, zq3]))
              refine (m_validCut _ _ rs (xs, dv) _ _ hL.vw (IntL.le HR.out leX) (HCR.out.le leX) (by rw [HN.out]; exact HRL.out) HA.out HOK.out).mono ?_
              rintro e Wv1 ⟨_, mv1, rfl, hE, hMv1, hV, rfl⟩
              replace hL := hL.call hE (by assumption) hV; clear hE hV
              go_wp2_with (first | ((with_reducible refine kAny ?_); go_skip) | (with_reducible refine stA ?_) | ((first | refine tIx ?_ | refine tFd ?_ | refine tLd ?_ | ((first | refine tSr ?_ | refine tSt ?_); clear hL; intro _ hL; simp only [splice, zq1, zq2, zq3] at hL) | ((first | refine tBx ?_ | refine tAl ?_); clear hL; intro _ _ hL _)); simp only [Act.put, zq1, zq2, zq3]))
              go_roundw
              case rel => exact ⟨k + 1, _, by omega, by go_num, hL.tail⟩
              case measure => simp [intOf] <;> omega
            · go_wp2_with (first | ((with_reducible refine kAny ?_); go_skip) | (with_reducible refine stA ?_) | ((first | refine tIx ?_ | refine tFd ?_ | refine tLd ?_ | ((first | refine tSr ?_ | refine tSt ?_); clear hL; intro _ hL; simp only [splice, zq1, zq2, zq3] at hL) | ((first | refine tBx ?_ | refine tAl ?_); clear hL; intro _ _ hL _)); simp only [Act.put, zq1, zq2, zq3]))
              go_ret
              exact RetV.mk hL rfl
end Go.Proofs.YtmhkmmmompediaaGreat

/- Contracts of rational.Sign, and of rational.Mul and lagrange.smaller for fractions of any form. -/
namespace Go.Proofs.YtmhkmmmompediaaGreat
open Go.RowKit

theorem icmp_den (q : Rat) : icmp (q.den : Int) 0 = 1 := by
  have := q.den_pos
  unfold icmp
  rw [if_neg (by omega), if_neg (by omega)]

set_option maxRecDepth 100000 in
set_option maxHeartbeats 8000000 in
theorem q_Sign (v : Value) (q : Rat) (w m : World) (hV : Vw m w) (h : FracC m v q) (k : Fit 200 q) :
    Calls Tryz.prog 103 #[v] w (RetV w m fun _ r => r = .int .i64 (icmp q.num 0)) := by
  obtain ⟨_, _, _, _, rfl, h1, h2⟩ := h
  have i1 := h1.toV (k.num (by decide))
  have i2 := h2.toV (k.den (by decide))
  obtain ⟨g1, A1, n1, c1, rfl, rfl⟩ := h1.parts'
  obtain ⟨g2, A2, n2, c2, rfl, rfl⟩ := h2.parts'
  have K2 : Hid (∀ w m', Vw m' w → Le m m' → Calls Tryz.prog 162 #[.agg #[.bool g2, .slice A2 n2 c2]] w (RetV w m' fun _ r => r = .int .i64 1)) := by
    show ∀ w m', _
    intro w m' hV hle
    rw [← icmp_den q]
    exact i_Sign _ _ w m' hV (i2.le hle)
  have K1 : Hid (∀ w m', Vw m' w → Le m m' → Calls Tryz.prog 162 #[.agg #[.bool g1, .slice A1 n1 c1]] w (RetV w m' fun _ r => r = .int .i64 (icmp q.num 0))) := by
    show ∀ w m', _
    intro w m' hV hle
    exact i_Sign _ _ w m' hV (i1.le hle)
  have hs : -1 ≤ icmp q.num 0 ∧ icmp q.num 0 ≤ 1 := by unfold icmp; split <;> (try split) <;> omega
  have hL := Loc.start hV
  clear hV h1 h2 i1 i2 k
  generalize icmp q.num 0 = s at *
  obtain ⟨s1, s2⟩ := hs
  go_enter Tryz.func103, Tryz.ntmps103
  go_upto_region 1 with ((first | ((with_reducible refine kAny ?_); go_skip) | (with_reducible refine stA ?_) | ((first | refine tFd ?_ | refine tLd ?_ | (refine tBx ?_; clear hL; intro _ _ hL _)); simp only [Act.put, zq1, zq2, zq3])))
  refine wp_region_by2 7 [false, false, false, false, false, false, false] [false, false, false, false, false, false, false] [(fun v _ _ => v = ?c1_0), (fun v _ _ => v = ?c1_1), Is (.int .i64 s), (fun v _ _ => v = ?c1_3), (fun v _ _ => v = ?c1_4), Is (.int .i64 1), (fun v _ _ => v = ?c1_6)] hL.vw mixed [3, 4, 5, 6, 7, 8, 9] _ (by kernel_rfl) (fun vs => by simp only [lay, Act.put, zq1, zq2, zq3]; rfl) (by kernel_rfl) (by decide) (by decide) ?s1 ?l1 ?r1
  case s1 =>
    refine ⟨?_, ?_, ?_, ?_, ?_, ?_, ?_, trivial⟩
    · intro vs W1 m1 hE hM hV hD; clear hD; replace hL := hL.call hE hM hV
      exact sFd
    · intro vs W1 m1 hE hM hV hD; obtain ⟨⟨_, _, -, -, f3⟩, -⟩ := hD; have f3 : vs 3 = _ := f3; generalize vs 3 = x3 at f3 ⊢; subst x3; replace hL := hL.call hE hM hV
      exact sLd
    · intro vs W1 m1 hE hM hV hD; obtain ⟨⟨_, _, -, -, f4⟩, -⟩ := hD; have f4 : vs 4 = _ := f4; generalize vs 4 = x4 at f4 ⊢; subst x4
      go_wp2_with fail
      refine (K1.out _ _ hV leX).mono ?_
      rintro e W2 ⟨v, m2, rfl, hE2, hM2, hV2, h⟩
      go_wp2_with fail
      refine One2.call hE2 hM2 hV2 ?_; first | exact h | exact rfl
    · intro vs W1 m1 hE hM hV hD; clear hD; replace hL := hL.call hE hM hV
      exact sFd
    · intro vs W1 m1 hE hM hV hD; obtain ⟨⟨_, _, -, -, f6⟩, -⟩ := hD; have f6 : vs 6 = _ := f6; generalize vs 6 = x6 at f6 ⊢; subst x6; replace hL := hL.call hE hM hV
      exact sLd
    · intro vs W1 m1 hE hM hV hD; obtain ⟨⟨_, _, -, -, f7⟩, -, -⟩ := hD; have f7 : vs 7 = _ := f7; generalize vs 7 = x7 at f7 ⊢; subst x7
      go_wp2_with fail
      refine (K2.out _ _ hV leX).mono ?_
      rintro e W2 ⟨v, m2, rfl, hE2, hM2, hV2, h⟩
      go_wp2_with fail
      refine One2.call hE2 hM2 hV2 ?_; first | exact h | exact rfl
    · intro vs W1 m1 hE hM hV hD; obtain ⟨⟨_, _, -, -, f5⟩, ⟨_, _, -, -, f8⟩, -⟩ := hD; have f5 : vs 5 = _ := f5; generalize vs 5 = x5 at f5 ⊢; subst x5; have f8 : vs 8 = _ := f8; generalize vs 8 = x8 at f8 ⊢; subst x8; replace hL := hL.call hE hM hV
      exact sPu
  case l1 =>
    refine ⟨fun h => (by cases h), fun h => (by cases h), fun h => (by cases h), fun h => (by cases h), fun h => (by cases h), fun h => (by cases h), fun h => (by cases h), trivial⟩
  intro vs W1 m1 hE hM hV hF hD
  clear hD
  obtain ⟨-, -, -, -, -, -, ⟨_, _, -, -, f9⟩, -⟩ := hF
  replace hL := hL.call hE hM hV
  have f9 : vs 9 = _ := f9
  generalize vs 9 = x9 at f9 ⊢
  subst x9
  clear hE hV
  simp only [List.drop_succ_cons, List.drop_zero]
  go_wp2_with (first | ((with_reducible refine kAny ?_); go_skip) | (with_reducible refine stA ?_) | ((first | refine tFd ?_ | refine tLd ?_ | (refine tBx ?_; clear hL; intro _ _ hL _)); simp only [Act.put, zq1, zq2, zq3]))
  refine QN.mk ?_
  go_wp2_with (first | ((with_reducible refine kAny ?_); go_skip) | (with_reducible refine stA ?_) | ((first | refine tFd ?_ | refine tLd ?_ | (refine tBx ?_; clear hL; intro _ _ hL _)); simp only [Act.put, zq1, zq2, zq3]))
  go_ret
  exact RetV.mk hL (by go_num)

end Go.Proofs.YtmhkmmmompediaaGreat

/- Contracts of enumerate.ValidatePrices and pairingref27.ValidatePrices for valid prices, and where the number of prices is another one. -/
namespace Go.Proofs.YtmhkmmmompediaaGreat
open Go.RowKit

structure PcOk (nf : Nat) (x : Cut) : Prop where
  low : ∀ r ∈ x.1, 0 ≤ r ∧ r < nf
  asc : AscP x.1
  two : 2 ≤ x.2
  le : x.2 ≤ (x.1.length : Int)
structure PrOk (nf : Nat) (p : Pr) : Prop where
  fl : p.fl.length = nf
  f1 : nf ≤ 1000
  cd : p.cd.length = p.cu.length
  k1 : p.cu.length ≤ 32
  k2 : p.de.length ≤ 32
  cuts : ∀ c ∈ p.cu, PcOk nf c
  neg : ∀ q ∈ p.cd, Fit 200 q ∧ rs q ≤ 0
  des : ∀ d ∈ p.de, 0 ≤ d.1 ∧ d.1 < nf ∧ 0 ≤ d.2.1 ∧ d.2.1 < nf ∧ d.1 ≠ d.2.1

end Go.Proofs.YtmhkmmmompediaaGreat

/- The bound of prices, in plain numbers: sums of fractions whose denominators divide 12. -/
namespace Go.Proofs.YtmhkmmmompediaaGreat
open Go.RowKit

def Tw (B : Nat) (q : Rat) : Prop := ∃ z : Int, q = Rat.divInt z 12 ∧ z.natAbs ≤ B
theorem Tw.mono {B C : Nat} {q : Rat} (h : Tw B q) (hb : B ≤ C) : Tw C q := by
  obtain ⟨z, e, hz⟩ := h
  exact ⟨z, e, by omega⟩
theorem Tw.add {B C : Nat} {p q : Rat} (h : Tw B p) (h' : Tw C q) : Tw (B + C) (p + q) := by
  obtain ⟨z, rfl, hz⟩ := h
  obtain ⟨y, rfl, hy⟩ := h'
  exact ⟨z + y, (add_same (by decide)).symm, by omega⟩
theorem Tw.int {K : Nat} {k : Int} (hk : k.natAbs ≤ K) : Tw (K * 12) (k : Rat) := by
  refine ⟨k * 12, ?_, by rw [Int.natAbs_mul]; exact Nat.mul_le_mul_right _ hk⟩
  rw [← rat_one k, ← Rat.divInt_mul_right (n := k) (d := 1) (a := 12) (by decide)]; rfl
theorem Tw.tn {B k : Nat} {q : Rat} (h : Tw B q) (h1 : B ≤ k) (h2 : 12 ≤ k) : Tn k q := by
  obtain ⟨z, rfl, hz⟩ := h
  exact Tn.divInt (by decide) (by omega) (by omega)
theorem Tw.min {B : Nat} {p q : Rat} (h : Tw B p) (h' : Tw B q) : Tw B (rmin p q) := by
  unfold rmin; split
  · exact h
  · exact h'
theorem Tw.neg {B : Nat} {q : Rat} (h : Tw B q) : Tw B (-q) := by
  obtain ⟨z, rfl, hz⟩ := h
  exact ⟨-z, by rw [Rat.neg_divInt], by omega⟩
end Go.Proofs.YtmhkmmmompediaaGreat

/- What lagrange.Bound and pairingref27.Bound answer (plain). -/
namespace Go.Proofs.YtmhkmmmompediaaGreat
open Go.RowKit

structure BQ (nf : Nat) (x : Ms) (p : Pr) (l : SF) : Prop where
  nfe : x.nf = nf
  ms : MsOk x
  pr : PrOk nf p
  pen : x.pen ≤ 1000
  fl : ∀ q ∈ p.fl, Tw 1000 q
  cd : ∀ q ∈ p.cd, Tw 1000 q
  cu : ∀ c ∈ p.cu, c.1.length ≤ 1000
  lo : Tw 1000 (vS l)
  sl : Sm l.1 l.2
theorem tw0 : Tw 0 ((0 : Int) : Rat) := ⟨0, by simp, by decide⟩
theorem Tw.sm {B : Nat} {q : Rat} (h : Tw B q) (hb : B ≤ 100000000) : Sm q.num q.den := (h.tn hb (by decide)).sm (by decide)
theorem Tw.fit {B : Nat} {q : Rat} (h : Tw B q) (hb : B ≤ 100000000) : Fit 200 q := (h.tn hb (by decide)).fit (by decide)
end Go.Proofs.YtmhkmmmompediaaGreat

/- Contract of pairingref27.Bound for valid master problems and prices. -/
namespace Go.Proofs.YtmhkmmmompediaaGreat
open Go.RowKit

theorem Tw.sub {B C : Nat} {p q : Rat} (h : Tw B p) (h' : Tw C q) : Tw (B + C) (p - q) := by
  rw [Rat.sub_eq_add_neg]; exact h.add h'.neg

end Go.Proofs.YtmhkmmmompediaaGreat

/- The master problems and prices of the laws are valid (plain). -/
namespace Go.Proofs.YtmhkmmmompediaaGreat
open Go.RowKit

theorem ascP_of {xs : List Int} (h : xs.Pairwise (· < ·)) : AscP xs := by
  intro j x y hx hy
  obtain ⟨h1, e1⟩ := List.getElem?_eq_some_iff.1 hx
  obtain ⟨h2, e2⟩ := List.getElem?_eq_some_iff.1 hy
  have := List.pairwise_iff_getElem.1 h j (j + 1) h1 h2 (by omega)
  rw [e1, e2] at this
  exact this
def selF (rs : List Int) (n k : Int) (i : Nat) : List Int := (List.range i).filterMap fun j => if csBit n j then some (csF rs k j) else none
theorem opT_app (a b : List Task) : opT (a ++ b) = opT a ++ opT b := by simp [opT, List.filterMap_append]
theorem opF_app (a b : List (List Task)) : opF (a ++ b) = opF a ++ opF b := by simp [opF, List.flatMap_append]
theorem opF_one (a : List Task) : opF [a] = opT a := by simp [opF]
theorem opT_one (f : Int) : opT [(f, false)] = [f] := rfl
theorem opT_nil : opT [] = [] := rfl
theorem selF_in {rs : List Int} {n k : Int} {i : Nat} (h : csBit n i = true) : selF rs n k (i + 1) = selF rs n k i ++ [csF rs k i] := by
  unfold selF
  rw [List.range_succ, List.filterMap_append]
  simp [h]
theorem selF_out {rs : List Int} {n k : Int} {i : Nat} (h : csBit n i = false) : selF rs n k (i + 1) = selF rs n k i := by
  unfold selF
  rw [List.range_succ, List.filterMap_append]
  simp [h]
theorem cs_sel (rs : List Int) (n k : Int) : ∀ i, opF (csAt rs n k i).l ++ opT (csAt rs n k i).d = selF rs n k i ∧ ((csAt rs n k i).s = false → selF rs n k i = []) ∧ ((csAt rs n k i).s = true → selF rs n k i ≠ [])
  | 0 => by
    refine ⟨?_, fun _ => rfl, fun h => by simp [csAt] at h⟩
    show opF [] ++ opT (if k % 2 = 1 then [(0, true)] else []) = []
    split <;> rfl
  | i + 1 => by
    obtain ⟨h1, h2, h3⟩ := cs_sel rs n k i
    by_cases hb : csBit n i = true
    · rw [selF_in hb, ← h1]
      simp only [csAt, csStep, hb, if_true]
      split
      · simp [opF_app, opF_one, opT_app, opT_one, opT_nil]
      · simp [opT_app, opT_one]
    · have hb' : csBit n i = false := by simpa using hb
      rw [selF_out hb']
      simp only [csAt, csStep, hb', Bool.false_eq_true, if_false]
      exact ⟨h1, h2, h3⟩
theorem cs_short (rs : List Int) (n k : Int) : ∀ i, ∀ d ∈ (csAt rs n k i).l, d.length ≤ i + 1
  | 0 => by intro d hd; simp [csAt] at hd
  | i + 1 => by
    intro d hd
    have ih := cs_short rs n k i
    have hl := (csAt_len rs n k i).1
    simp only [csAt, csStep] at hd
    split at hd
    · split at hd
      · rcases List.mem_append.1 hd with h | h
        · have := ih d h; omega
        · rcases List.mem_singleton.1 h with rfl
          simp; omega
      · have := ih d hd; omega
    · have := ih d hd; omega
theorem opF_csL (rs : List Int) (n k : Int) : opF (csL rs n k) = if (csAt rs n k rs.length).s then selF rs n k rs.length else [rs.getD (n / 64 % rs.length).toNat 0] := by
  obtain ⟨h1, h2, -⟩ := cs_sel rs n k rs.length
  have hD : opF (csL rs n k) = opF (csAt rs n k rs.length).l ++ opT (csD rs n k) := by
    unfold csL
    split
    · rw [opF_app, opF_one]
    · have : csD rs n k = [] := List.length_eq_zero_iff.1 (by omega)
      rw [this, opT_nil, List.append_nil]
  rw [hD]
  unfold csD
  by_cases hs : (csAt rs n k rs.length).s = true
  · rw [if_pos hs, if_pos hs, h1]
  · rw [if_neg hs, if_neg hs, opT_app, opT_one, ← List.append_assoc, h1, h2 (by simpa using hs)]
    rfl
theorem csF_get {rs : List Int} {k : Int} {j : Nat} (hj : j < rs.length) : ∃ i, i < rs.length ∧ csF rs k j = rs.getD i 0 ∧ (i = j ∨ i = rs.length - 1 - j) ∧ (i = if k / 2 % 8 = 7 then rs.length - 1 - j else j) := by
  unfold csF
  split
  · exact ⟨rs.length - 1 - j, by omega, rfl, .inr rfl, rfl⟩
  · exact ⟨j, hj, rfl, .inl rfl, rfl⟩
theorem getD_mem {rs : List Int} {i : Nat} (h : i < rs.length) : rs.getD i 0 ∈ rs := by
  rw [List.getD_eq_getElem?_getD, List.getElem?_eq_getElem h]
  exact List.getElem_mem h
theorem getD_inj {rs : List Int} (hn : rs.Nodup) {i j : Nat} (hi : i < rs.length) (hj : j < rs.length) (e : rs.getD i 0 = rs.getD j 0) : i = j := by
  rw [List.getD_eq_getElem?_getD, List.getElem?_eq_getElem hi, List.getD_eq_getElem?_getD, List.getElem?_eq_getElem hj] at e
  exact (List.getElem_inj hn).1 e
theorem csF_inj {rs : List Int} {k : Int} (hn : rs.Nodup) {i j : Nat} (hi : i < rs.length) (hj : j < rs.length) (e : csF rs k i = csF rs k j) : i = j := by
  unfold csF at e
  split at e
  · have := getD_inj hn (by omega) (by omega) e
    omega
  · exact getD_inj hn hi hj e
theorem selF_mem {rs : List Int} {n k f : Int} {i : Nat} (h : f ∈ selF rs n k i) : ∃ j, j < i ∧ f = csF rs k j := by
  unfold selF at h
  obtain ⟨j, hj, e⟩ := List.mem_filterMap.1 h
  split at e
  · exact ⟨j, List.mem_range.1 hj, (Option.some.inj e).symm⟩
  · cases e
theorem selF_nodup {rs : List Int} {n k : Int} (hn : rs.Nodup) : ∀ i, i ≤ rs.length → (selF rs n k i).Nodup
  | 0, _ => List.Pairwise.nil
  | i + 1, hi => by
    have ih := selF_nodup (n := n) (k := k) hn i (by omega)
    by_cases hb : csBit n i = true
    · rw [selF_in hb]
      refine List.nodup_append.2 ⟨ih, List.pairwise_singleton _ _, fun a ha b hb' e => ?_⟩
      rcases List.mem_singleton.1 hb' with rfl
      obtain ⟨j, hj, e'⟩ := selF_mem ha
      have := csF_inj (k := k) hn (by omega) (by omega) (e'.symm.trans e)
      omega
    · rw [selF_out (by simpa using hb)]
      exact ih
theorem colF_ok {rs : List Int} {n k : Int} (hn : rs.Nodup) (h1 : 1 ≤ rs.length) (h6 : rs.length ≤ 6) (n0 : 0 ≤ n) : ColOk rs (colF rs n k) := by
  have hl := csAt_len rs n k rs.length
  have hsh := cs_short rs n k rs.length
  have hD : (csD rs n k).length ≤ 8 := by
    unfold csD; split
    · omega
    · simp; omega
  have hop := opF_csL rs n k
  obtain ⟨-, -, h3⟩ := cs_sel rs n k rs.length
  refine ⟨?_, ?_, ?_, ?_, ?_, ?_, ?_⟩
  · show _ ≤ n / 32 % 41 - 5; omega
  · show n / 32 % 41 - 5 ≤ _; omega
  · show (csL rs n k).length ≤ 100
    unfold csL; split
    · simp; omega
    · omega
  · show ∀ d ∈ csL rs n k, d.length ≤ 100
    intro d hd
    unfold csL at hd
    split at hd
    · rcases List.mem_append.1 hd with h | h
      · have := hsh d h; omega
      · rcases List.mem_singleton.1 h with rfl; omega
    · have := hsh d hd; omega
  · show 0 < (opF (csL rs n k)).length
    rw [hop]; split
    · exact List.length_pos_iff.2 (h3 (by assumption))
    · simp
  · show ∀ f ∈ opF (csL rs n k), f ∈ rs
    intro f hf
    rw [hop] at hf
    split at hf
    · obtain ⟨j, hj, rfl⟩ := selF_mem hf
      obtain ⟨i, hi, e, -, -⟩ := csF_get (rs := rs) (k := k) hj
      rw [e]; exact getD_mem hi
    · rcases List.mem_singleton.1 hf with rfl
      have : n / 64 % (rs.length : Int) < rs.length := Int.emod_lt_of_pos _ (by omega)
      exact getD_mem (by omega)
  · show (opF (csL rs n k)).Nodup
    rw [hop]; split
    · exact selF_nodup hn _ (Nat.le_refl _)
    · exact List.pairwise_singleton _ _
theorem rowsT_ok : ∀ i : Fin 6, (rowsT.getD i.1 []).Pairwise (· < ·) ∧ (∀ r ∈ rowsT.getD i.1 [], 0 ≤ r ∧ r < 6) ∧ (rowsT.getD i.1 []).Nodup := by decide
theorem cutT_ok : ∀ i : Fin 6, ∀ s : Fin 5, s.1 < (rowsT.getD i.1 []).length → (cutT (rowsT.getD i.1 []) s.1 (rowsT.getD i.1 []).length).Pairwise (· < ·) ∧ ∀ r ∈ cutT (rowsT.getD i.1 []) s.1 (rowsT.getD i.1 []).length, r ∈ rowsT.getD i.1 [] := by decide
structure RowsOk (rs : List Int) : Prop where
  asc : AscP rs
  low : ∀ r ∈ rs, 0 ≤ r ∧ r < 6
  nd : rs.Nodup
  l3 : 3 ≤ rs.length
  l5 : rs.length ≤ 5
theorem rowsF_ok (l : List Int) : RowsOk (rowsF l) := by
  have h0 := atF_bd l 1 (by omega)
  have h1 : (atF l 1 % 6).toNat < 6 := by omega
  obtain ⟨a, b, c⟩ := rowsT_ok ⟨_, h1⟩
  obtain ⟨d, e⟩ := rowsT_len ⟨_, h1⟩
  exact ⟨ascP_of a, b, c, d, e⟩
structure CutM (rs : List Int) (c : Cut) : Prop where
  asc : AscP c.1
  sub : ∀ r ∈ c.1, r ∈ rs
  two : 2 ≤ c.2
  le : c.2 ≤ (c.1.length : Int)
  l5 : c.1.length ≤ 5
theorem masF_cutM (l : List Int) : ∀ c ∈ (masF l).cuts, CutM (rowsF l) c := by
  intro c hc
  obtain ⟨k, hk, rfl⟩ := List.mem_map.1 hc
  have h0 := atF_bd l 1 (by omega)
  have h3 := atF_bd l 3 (by omega)
  have hk' := List.mem_range.1 hk
  have h20 := atF_bd l (20 + k) (by omega)
  have h1 : (atF l 1 % 6).toNat < 6 := by omega
  have hr := rowsF_ok l
  have hl5 := hr.l5
  have hl3 := hr.l3
  have hs : atF l (20 + k) % ((rowsF l).length : Int) < (rowsF l).length := Int.emod_lt_of_pos _ (by omega)
  have hs0 : 0 ≤ atF l (20 + k) % ((rowsF l).length : Int) := Int.emod_nonneg _ (by omega)
  have hs1 : (atF l (20 + k) % ((rowsF l).length : Int)).toNat < (rowsF l).length := by omega
  have hs5 : (atF l (20 + k) % ((rowsF l).length : Int)).toNat < 5 := by omega
  obtain ⟨a, b⟩ := cutT_ok ⟨_, h1⟩ ⟨_, hs5⟩ hs1
  have c := cutT_long ⟨_, h1⟩ ⟨_, hs5⟩ hs1
  refine ⟨ascP_of a, b, ?_, ?_, Nat.le_trans (cutT_len _ _ _) hl5⟩
  · show 2 ≤ (if atF l (24 + k) % 2 = 1 then (3 : Int) else 2); split <;> decide
  · have c' : 2 < (cutF (rowsF l) l k).1.length := c
    show (if atF l (24 + k) % 2 = 1 then (3 : Int) else 2) ≤ _
    split <;> omega
theorem masF_ok (l : List Int) : MsOk (masF l) := by
  have hr := rowsF_ok l
  have h0 := atF_bd l 0 (by omega)
  have h2 := atF_bd l 2 (by omega)
  have hl5 := hr.l5
  have hl3 := hr.l3
  have hc := masF_cuts l
  refine ⟨by show (0 : Int) ≤ 6; decide, by show (6 : Int) ≤ 200; decide, by show 0 ≤ atF l 0 % 30; omega, by show atF l 0 % 30 ≤ _; omega, by show 1 ≤ (rowsF l).length; omega, by show (rowsF l).length ≤ 32; omega, hr.asc, hr.low, ?_, ?_, by omega, ?_⟩
  · show ((List.range _).map _).length ≤ 1000
    simp only [List.length_map, List.length_range]
    omega
  · intro c hc
    obtain ⟨j, hj, rfl⟩ := List.mem_map.1 hc
    have hj' := List.mem_range.1 hj
    exact colF_ok (rs := rowsF l) hr.nd (by omega) (by omega) (atF_bd l (5 + 2 * j) (by omega)).1
  · intro c hc
    have h := masF_cutM l c hc
    exact ⟨h.asc, h.sub, h.two, h.le, by have := h.l5; omega⟩
end Go.Proofs.YtmhkmmmompediaaGreat

/- Both bounds alike: the errors, and what the law compares. -/
namespace Go.Proofs.YtmhkmmmompediaaGreat
open Go.RowKit

def FracP (m : World) (v : Value) (x y : Int) : Prop := ∃ g A n c g' B k d, v = .agg #[.bool g, .slice A n c, .bool g', .slice B k d] ∧ IntC m (.agg #[.bool g, .slice A n c]) x ∧ IntC m (.agg #[.bool g', .slice B k d]) y
theorem FracP.le {m m' : World} {v : Value} {x y : Int} (h : FracP m v x y) (hb : Le m m') : FracP m' v x y := by
  obtain ⟨g, A, n, c, g', B, k, d, e, h1, h2⟩ := h
  exact ⟨g, A, n, c, g', B, k, d, e, h1.le hb, h2.le hb⟩
theorem FracP.lit {m : World} {v : Value} {x y : Int} (h : FracP m v x y) : ∃ g A n c g' B k d, v = .agg #[.bool g, .slice A n c, .bool g', .slice B k d] ∧ FracP m (.agg #[.bool g, .slice A n c, .bool g', .slice B k d]) x y := by
  have h' := h
  obtain ⟨g, A, n, c, g', B, k, d, rfl, -, -⟩ := h
  exact ⟨_, _, _, _, _, _, _, _, rfl, h'⟩
theorem FracP.zero (m : World) : FracP m (.agg #[.bool false, .slice none 0 0, .bool false, .slice none 0 0]) 0 0 := ⟨_, _, _, _, _, _, _, _, rfl, IntC.nil, IntC.nil⟩
def BvR (m : World) (r : Value) (x y e : Int) : Prop := ∃ v, r = .tuple #[v, .int .i64 e] ∧ FracP m v x y
theorem BvR.le {m m' : World} {r : Value} {x y e : Int} (h : BvR m r x y e) (hb : Le m m') : BvR m' r x y e := by
  obtain ⟨v, h1, h2⟩ := h
  exact ⟨v, h1, h2.le hb⟩
theorem RetV.imp {w m : World} {R R' : World → Value → Prop} {e : Ending} {w' : World} (h : RetV w m R e w') (hi : ∀ m' r, R m' r → R' m' r) : RetV w m R' e w' := by
  obtain ⟨v, m', h1, h2, h3, h4, h5⟩ := h
  exact ⟨v, m', h1, h2, h3, h4, hi _ _ h5⟩
end Go.Proofs.YtmhkmmmompediaaGreat

/- One operation of a region that draws its order, walked by the laws over a list of known blocks. No program. -/
namespace Go.Proofs.YtmhkmmmompediaaGreat
open Go.RowKit
section
variable {P : Program} {ops : Array Oper} {Q : Exit → Act → World → Prop} {S : World → Prop}
def StepL (P : Program) (ops : Array Oper) (Q : Exit → Act → World → Prop) (S : World → Prop) (s fuel : Nat) (listed : Array Bool) (i : Nat) (e : Exit) (a : Act) (w : World) : Prop :=
  e = .normal ∧ ((listed.setIfInBounds i true).getD s false = false → S w) ∧ wpL P ops Q S s fuel (listed.setIfInBounds i true) a w
theorem StepL.mk {s fuel i : Nat} {listed : Array Bool} {a : Act} {w : World} (hS : S w) (h : wpL P ops Q S s fuel (listed.setIfInBounds i true) a w) : StepL P ops Q S s fuel listed i .normal a w := ⟨rfl, fun _ => hS, h⟩
end
end Go.Proofs.YtmhkmmmompediaaGreat

/- The walk through the law LagrangeBounds with one cut more, and the law whole. -/
namespace Go.Proofs.YtmhkmmmompediaaGreat
open Go.RowKit

theorem Loc.app0 {w0 m0 W m : World} {A : List Lo} (h : Loc w0 m0 W m A) : Loc w0 m0 W m (A ++ []) := by rw [List.append_nil]; exact h
end Go.Proofs.YtmhkmmmompediaaGreat

/- Maps from pairs of flights to fractions: what the block of such a map holds. -/
namespace Go.Proofs.YtmhkmmmompediaaGreat
open Go.RowKit Go.Maps Go.WideShapes

def pv (a c : Int) : Value := .agg #[.int .i64 a, .int .i64 c]
def Wf (a : Int) : Prop := (Lit.int .i64 a).wf = true
def klP (a c : Int) : Lit := .string (keyBytes [.int .i64 a, .int .i64 c])
theorem ktA_pair : Tryz.prog.keyTypeAt 5 180 = true := by kernel_rfl
theorem kt_pair : Tryz.prog.keyType 180 = true := by kernel_rfl
theorem cells_pair : Tryz.prog.cellsOf 180 = 2 := by kernel_rfl
theorem size_types : ∃ n, Tryz.prog.types.size = n + 1 := Nat.exists_eq_succ_of_ne_zero (Nat.pos_iff_ne_zero.1 (of_decide_eq_true (by kernel_rfl)))
theorem keyP : Keyed Tryz.prog 180 := Keyed.of_law (deep_law_laid laidO (m := 5) (by decide) (of_decide_eq_true (by kernel_rfl)) ktA_pair (by kernel_rfl))
set_option maxRecDepth 100000 in
theorem keyLits_int (d : Nat) (v : Value) (l : List Lit) : Tryz.prog.keyLits (d + 1) 3 [v] = some l ↔ ∃ a, v = .int .i64 a ∧ Wf a ∧ l = [.int .i64 a] := by
  unfold Program.keyLits
  rw [Tryz.underlying3]
  constructor
  · intro h
    cases v <;> simp at h
    obtain ⟨⟨rfl, h1⟩, rfl⟩ := h
    exact ⟨_, rfl, h1, rfl⟩
  · rintro ⟨a, rfl, h, rfl⟩
    unfold Wf at h
    simp [h]
set_option maxRecDepth 100000 in
theorem keyLits_pair (d : Nat) (x y : Value) (l : List Lit) : Tryz.prog.keyLits (d + 2) 180 [x, y] = some l ↔ ∃ a c, x = .int .i64 a ∧ y = .int .i64 c ∧ Wf a ∧ Wf c ∧ l = [.int .i64 a, .int .i64 c] := by
  have e1 : Tryz.prog.keyLits (d + 2) 180 [x, y] = (Tryz.prog.keyLits (d + 1) 3 [x]).bind fun p => (Tryz.prog.keyLits (d + 1) 3 [y]).bind fun q => some (p ++ q) := by
    rw [show d + 2 = (d + 1) + 1 from rfl]
    conv => lhs; unfold Program.keyLits
    rw [Tryz.underlying180]
    have hc : Tryz.prog.cellsOf 3 = 1 := by kernel_rfl
    cases h1 : Tryz.prog.keyLits (d + 1) 3 [x] <;> cases h2 : Tryz.prog.keyLits (d + 1) 3 [y] <;> simp [h1, h2, hc, cells_pair]
  rw [e1]
  constructor
  · intro h
    cases h1 : Tryz.prog.keyLits (d + 1) 3 [x] with
    | none => rw [h1] at h; cases h
    | some p =>
      cases h2 : Tryz.prog.keyLits (d + 1) 3 [y] with
      | none => rw [h1, h2] at h; cases h
      | some q =>
        rw [h1, h2] at h
        obtain ⟨a, rfl, wa, rfl⟩ := (keyLits_int d x p).1 h1
        obtain ⟨c, rfl, wc, rfl⟩ := (keyLits_int d y q).1 h2
        exact ⟨a, c, rfl, rfl, wa, wc, (Option.some.inj h).symm⟩
  · rintro ⟨a, c, rfl, rfl, wa, wc, rfl⟩
    rw [(keyLits_int d _ _).2 ⟨a, rfl, wa, rfl⟩, (keyLits_int d _ _).2 ⟨c, rfl, wc, rfl⟩]
    rfl
set_option maxRecDepth 100000 in
theorem keyOf_pair (v : Value) (l : Lit) : keyOf Tryz.prog 180 v = some l ↔ ∃ a c, v = pv a c ∧ Wf a ∧ Wf c ∧ l = klP a c := by
  obtain ⟨n, hn⟩ := size_types
  unfold keyOf
  rw [Tryz.underlying180]
  simp only [kt_pair, Bool.true_and, hn]
  constructor
  · intro h
    cases v with
    | agg cs =>
      unfold Value.formed at h
      rw [Tryz.underlying180] at h
      simp only [cells_pair] at h
      by_cases hs : cs.size = 2
      · obtain ⟨x, y, rfl⟩ : ∃ x y, cs = #[x, y] := by
          obtain ⟨l⟩ := cs
          match l, hs with
          | [x, y], _ => exact ⟨x, y, rfl⟩
        rw [if_pos (by simp)] at h
        cases hk : Tryz.prog.keyLits (n + 1 + 1) 180 (Value.agg #[x, y]).cells.toList with
        | none => rw [hk] at h; cases h
        | some ls =>
          rw [hk] at h
          obtain ⟨a, c, rfl, rfl, wa, wc, rfl⟩ := (keyLits_pair n x y ls).1 hk
          exact ⟨a, c, rfl, wa, wc, (Option.some.inj h).symm⟩
      · rw [if_neg (by simpa using hs)] at h; cases h
    | _ =>
      unfold Value.formed at h
      rw [Tryz.underlying180] at h
      simp at h
  · rintro ⟨a, c, rfl, wa, wc, rfl⟩
    have hf : Value.formed Tryz.prog 180 (pv a c) = true := by
      unfold Value.formed pv
      rw [Tryz.underlying180]
      simp [cells_pair]
    rw [if_pos hf]
    have hk := (keyLits_pair n (.int .i64 a) (.int .i64 c) _).2 ⟨a, c, rfl, rfl, wa, wc, rfl⟩
    show Option.map _ (Tryz.prog.keyLits (n + 1 + 1) 180 [.int .i64 a, .int .i64 c]) = _
    rw [hk]; rfl
theorem keyOf_mk {a c : Int} (wa : Wf a) (wc : Wf c) : keyOf Tryz.prog 180 (pv a c) = some (klP a c) := (keyOf_pair _ _).2 ⟨a, c, rfl, wa, wc, rfl⟩
theorem klP_inj {a c a' c' : Int} (wa : Wf a) (wc : Wf c) (wa' : Wf a') (wc' : Wf c') (h : klP a c = klP a' c') : a = a' ∧ c = c' := by
  have h1 := keyOf_mk wa wc
  rw [h] at h1
  have := keyP.inj h1 (keyOf_mk wa' wc')
  unfold pv at this
  simpa using this
theorem klP_key (a c : Int) : WideAt.IsKeyLit (klP a c) := trivial

def RV (v : Value) : Option (DataW Value × List MemPlace) := some (.held v, [])
abbrev PQ := (Int × Int) × Rat
def sumAt (S : List PQ) (p : Int × Int) : Rat := (S.filter fun e => decide (e.1 = p)).foldl (fun s e => s + e.2) ((0 : Int) : Rat)
theorem sumAt_same (S : List PQ) (p : Int × Int) (x : Rat) : sumAt (S ++ [(p, x)]) p = sumAt S p + x := by
  unfold sumAt; rw [List.filter_append, List.foldl_append]; simp
theorem sumAt_other (S : List PQ) {p q : Int × Int} (x : Rat) (h : q ≠ p) : sumAt (S ++ [(q, x)]) p = sumAt S p := by
  unfold sumAt; rw [List.filter_append, List.foldl_append]; simp [h]
theorem sumAt_none {S : List PQ} {p : Int × Int} (h : ∀ e ∈ S, e.1 ≠ p) : sumAt S p = ((0 : Int) : Rat) := by
  unfold sumAt; rw [List.filter_eq_nil_iff.2 (by simpa using h)]; rfl
structure PMap (D : DataW Value) (m : World) (S : List PQ) : Prop where
  mp : IsMap D
  some : ∀ e ∈ S, ∃ v, (∀ z, D.atKey (klP e.1.1 e.1.2) z = .held v) ∧ FracC m v (sumAt S e.1)
  none : ∀ a c, Wf a → Wf c → (∀ e ∈ S, e.1 ≠ (a, c)) → ∀ z, D.atKey (klP a c) z = z
  wf : ∀ e ∈ S, Wf e.1.1 ∧ Wf e.1.2
  keys : ∀ kl, has D kl = true → ∃ e ∈ S, kl = klP e.1.1 e.1.2
theorem PMap.le {D : DataW Value} {m m' : World} {S : List PQ} (h : PMap D m S) (hl : Le m m') : PMap D m' S :=
  ⟨h.mp, fun e he => by obtain ⟨v, h1, h2⟩ := h.some e he; exact ⟨v, h1, h2.le hl⟩, h.none, h.wf, h.keys⟩
theorem PMap.made (m : World) : PMap (.map []) m [] :=
  ⟨⟨[], rfl⟩, (fun _ h => by cases h), (fun _ _ _ _ _ _ => rfl), (fun _ h => by cases h), (fun kl h => by simp [has] at h)⟩
theorem PMap.put {D : DataW Value} {m : World} {S : List PQ} (h : PMap D m S) {a c : Int} {x : Rat} {v : Value} (wa : Wf a) (wc : Wf c) (hv : FracC m v (sumAt S (a, c) + x)) : PMap (D.put (klP a c) (.held v)) m (S ++ [((a, c), x)]) := by
  have hk := klP_key a c
  refine ⟨h.mp.put _ _, fun e he => ?_, fun a' c' wa' wc' hn z => ?_, fun e he => ?_, fun kl hkl => ?_⟩
  · by_cases hp : e.1 = (a, c)
    · refine ⟨v, fun z => ?_, ?_⟩
      · rw [hp]; exact atKey_put_same h.mp hk _ _
      · rw [hp, sumAt_same]; exact hv
    · rcases List.mem_append.1 he with he | he
      · obtain ⟨u, h1, h2⟩ := h.some e he
        refine ⟨u, fun z => ?_, ?_⟩
        · rw [atKey_put_other (fun hh => hp ?_)]
          · exact h1 z
          · obtain ⟨e1, e2⟩ := klP_inj (h.wf e he).1 (h.wf e he).2 wa wc hh
            exact Prod.ext e1 e2
        · rw [sumAt_other _ _ (fun hh => hp hh.symm)]; exact h2
      · rcases List.mem_singleton.1 he with rfl
        exact absurd rfl hp
  · have hne : (a, c) ≠ (a', c') := hn ((a, c), x) (by simp)
    rw [atKey_put_other (fun hh => hne ?_)]
    · exact h.none a' c' wa' wc' (fun e he => hn e (List.mem_append_left _ he)) z
    · obtain ⟨e1, e2⟩ := klP_inj wa' wc' wa wc hh
      rw [e1, e2]
  · rcases List.mem_append.1 he with he | he
    · exact h.wf e he
    · rcases List.mem_singleton.1 he with rfl
      exact ⟨wa, wc⟩
  · by_cases hh : kl = klP a c
    · exact ⟨((a, c), x), by simp, hh⟩
    · rw [has_put_other hh] at hkl
      obtain ⟨e, he, h1⟩ := h.keys kl hkl
      exact ⟨e, List.mem_append_left _ he, h1⟩
theorem zeroF (w : World) : (zeroValue 39).run Tryz.prog w = .ok (.agg #[.bool false, .slice none 0 0, .bool false, .slice none 0 0]) w := by kernel_rfl
def SumV (m : World) (v : Value) (q : Rat) : Prop := FracC m v q ∨ (v = .agg #[.bool false, .slice none 0 0, .bool false, .slice none 0 0] ∧ q = ((0 : Int) : Rat))
theorem SumV.le {m m' : World} {v : Value} {q : Rat} (h : SumV m v q) (hl : Le m m') : SumV m' v q := h.imp (fun h => h.le hl) id
theorem SumV.lit {m : World} {v : Value} {q : Rat} (h : SumV m v q) : ∃ g A n c f B k d, v = .agg #[.bool g, .slice A n c, .bool f, .slice B k d] := by
  rcases h with h | ⟨rfl, -⟩
  · obtain ⟨g, A, n, c, f, B, k, d, e, _⟩ := h.lit
    exact ⟨_, _, _, _, _, _, _, _, e⟩
  · exact ⟨_, _, _, _, _, _, _, _, rfl⟩
theorem q_AddSum (a b : Value) (p q : Rat) (w m : World) (hV : Vw m w) (ha : SumV m a p) (hb : FracC m b q) (hs : Sm p.num p.den) (hs' : Sm q.num q.den) :
    Calls Tryz.prog 72 #[a, b] w (RetV w m fun m' r => FracC m' r (p + q)) := by
  rcases ha with ha | ⟨rfl, rfl⟩
  · exact q_AddC a b p q w m hV ha hb hs hs'
  · have h := q_Add _ b 0 0 q.num q.den w m hV (frac0 m) (hb.toS hs') ⟨by decide, by decide⟩ hs'
    rw [Rat.num_divInt_den] at h
    have e : Rat.divInt 0 0 + q = ((0 : Int) : Rat) + q := by simp
    rwa [e] at h
def FMap (W m : World) (b : Nat) (S : List PQ) : Prop := ∃ n D, n ≤ S.length ∧ W.ownsMap (H := Value) Tryz.prog 180 RV b n D ∧ PMap D m S
theorem FMap.made (W m : World) : FMap (W.alloc (.map #[] 0)) m W.heap.size [] := ⟨0, _, Nat.le_refl _, World.ownsMap_made _ _ _ _, PMap.made m⟩
theorem FMap.le {W m m' : World} {b : Nat} {S : List PQ} (h : FMap W m b S) (hl : Le m m') : FMap W m' b S := by
  obtain ⟨n, D, hn, h1, h2⟩ := h
  exact ⟨n, D, hn, h1, h2.le hl⟩
theorem ownsMap_ext {W W' : World} {b n : Nat} {D : DataW Value} (h : W.ownsMap (H := Value) Tryz.prog 180 RV b n D) (hE : Ext W W') : W'.ownsMap (H := Value) Tryz.prog 180 RV b n D := by
  obtain ⟨es, clock, hb, h⟩ := h
  have hlt : b < W.heap.size := (Array.getElem?_eq_some_iff.1 hb).1
  exact ⟨es, clock, (hE.block b hlt).trans hb, h⟩
theorem FMap.ext {W W' m : World} {b : Nat} {S : List PQ} (h : FMap W m b S) (hE : Ext W W') : FMap W' m b S := by
  obtain ⟨n, D, hn, h1, h2⟩ := h
  exact ⟨n, D, hn, ownsMap_ext h1 hE, h2⟩
theorem FMap.notCells {W m : World} {b : Nat} {S : List PQ} (h : FMap W m b S) : ∀ cs t fr, W.heap[b]? ≠ some (.cells cs t fr) := by
  obtain ⟨n, D, hn, ⟨es, clock, hb, _⟩, -⟩ := h
  intro cs t fr e
  rw [hb] at e
  cases e
theorem FMap.look {W m : World} {b : Nat} {S : List PQ} (h : FMap W m b S) {a c : Int} (wa : Wf a) (wc : Wf c) :
    ∃ v, SumV m v (sumAt S (a, c)) ∧ ∀ W', Ext W W' → (Instr.lookup 178 (.map (some b)) (pv a c) false).run Tryz.prog W' = .ok v W' := by
  obtain ⟨n, D, hn, h1, h2⟩ := h
  have key : ∀ W', Ext W W' → ∃ v, (Instr.lookup 178 (.map (some b)) (pv a c) false).run Tryz.prog W' = .ok v W' ∧ DataW.held v = D.atKey (klP a c) (.held (.agg #[.bool false, .slice none 0 0, .bool false, .slice none 0 0])) := by
    intro W' hE
    obtain ⟨v, ps, hrun, hv⟩ := (ownsMap_ext h1 hE).lookup keyP Tryz.underlying178 (zeroF W') (zd := .held (.agg #[.bool false, .slice none 0 0, .bool false, .slice none 0 0])) (zp := []) rfl (keyOf_mk wa wc)
    exact ⟨v, hrun, (Prod.mk.inj (Option.some.inj hv)).1⟩
  obtain ⟨v, -, hv⟩ := key W (Ext.refl _)
  refine ⟨v, ?_, fun W' hE => ?_⟩
  · by_cases he : ∃ e ∈ S, e.1 = (a, c)
    · obtain ⟨e, he, hp⟩ := he
      obtain ⟨u, h3, h4⟩ := h2.some e he
      rw [hp] at h3 h4
      rw [h3] at hv
      cases hv
      exact .inl h4
    · have hn' : ∀ e ∈ S, e.1 ≠ (a, c) := fun e h h' => he ⟨e, h, h'⟩
      rw [h2.none a c wa wc hn'] at hv
      cases hv
      exact .inr ⟨rfl, sumAt_none hn'⟩
  · obtain ⟨u, hr, hu⟩ := key W' hE
    rw [← hu] at hv
    cases hv
    exact hr
theorem FMap.up {W m : World} {b : Nat} {S : List PQ} (h : FMap W m b S) (hl : S.length ≤ 1000000) {a c : Int} {x : Rat} {v : Value} (wa : Wf a) (wc : Wf c) (hv : FracC m v (sumAt S (a, c) + x)) :
    ∃ W', (Instr.mapUpdate 178 (.map (some b)) (pv a c) v).run Tryz.prog W = .ok () W' ∧ FMap W' m b (S ++ [((a, c), x)]) ∧ W.grownBy W' (some b) := by
  obtain ⟨n, D, hn, h1, h2⟩ := h
  obtain ⟨W', e1, e2, e3⟩ := h1.update keyP Tryz.underlying178 (by unfold maxLen; omega) (keyOf_mk wa wc) (val := v) (d := .held v) (ps := []) rfl
  exact ⟨W', e1, ⟨n + 1, _, by simp; omega, e2, h2.put wa wc hv⟩, e3⟩
end Go.Proofs.YtmhkmmmompediaaGreat

/- slices.SortFunc over a row of follow-ons: the row, the comparison, and what is sorted. -/
namespace Go.Proofs.YtmhkmmmompediaaGreat
open Go.RowKit Go.Sort

structure Fol where
  a : Int
  c : Int
  g : Bool
  A : Option Addr
  n : Nat
  k : Nat
  f : Bool
  B : Option Addr
  p : Nat
  q : Nat
instance iFol : Inhabited Fol := ⟨⟨0, 0, false, none, 0, 0, false, none, 0, 0⟩⟩
def encF (x : Fol) : List Value := [.int .i64 x.a, .int .i64 x.c, .bool x.g, .slice x.A x.n x.k, .bool x.f, .slice x.B x.p x.q]
def encV (x : Fol) : Value := .agg (encF x).toArray
def cmpZ (x y : Int) : Int := if x < y then -1 else if y < x then 1 else 0
def cfF (x y : Fol) : Int := if cmpZ x.a y.a = 0 then cmpZ x.c y.c else cmpZ x.a y.a
theorem lt_cfF (x y : Fol) : ltOf cfF x y = decide (x.a < y.a ∨ (x.a = y.a ∧ x.c < y.c)) := by
  unfold ltOf cfF cmpZ
  congr 1
  apply propext
  by_cases h1 : x.a < y.a
  · simp [h1]
  · by_cases h2 : y.a < x.a
    · simp [h1, h2]; omega
    · have : x.a = y.a := by omega
      simp [h1, h2, this]
      by_cases h3 : x.c < y.c
      · simp [h3]
      · by_cases h4 : y.c < x.c <;> simp [h3, h4]
theorem swoF : SWO (ltOf cfF) where
  irrefl x := by rw [lt_cfF]; simp
  trans x y z h1 h2 := by rw [lt_cfF] at *; simp only [decide_eq_true_eq] at *; omega
  ntrans x y z h1 h2 := by rw [lt_cfF] at *; simp only [decide_eq_false_iff_not] at *; omega
theorem encF_len (x : Fol) : (encF x).length = 6 := rfl
theorem encF_one (x : Fol) : ∀ v ∈ encF x, v.oneCell' = true := by
  intro v hv
  simp [encF] at hv
  rcases hv with rfl | rfl | rfl | rfl | rfl | rfl <;> rfl

def FolR (m : World) (v : Value) (x : PQ) : Prop := ∃ f : Fol, v = encV f ∧ f.a = x.1.1 ∧ f.c = x.1.2 ∧ FracC m (.agg #[.bool f.g, .slice f.A f.n f.k, .bool f.f, .slice f.B f.p f.q]) x.2
theorem FolR.mono (m m' : World) (v : Value) (x : PQ) (h : FolR m v x) (hl : Le m m') : FolR m' v x := by
  obtain ⟨f, h1, h2, h3, h4⟩ := h
  exact ⟨f, h1, h2, h3, h4.le hl⟩
abbrev FolL := ListV (α := PQ) 6 FolR
theorem FolL.le {m m' : World} {v : Value} {xs : List PQ} (h : FolL m v xs) (hl : Le m m') : FolL m' v xs := ListV.le FolR.mono h hl
def ltP (x y : PQ) : Prop := x.1.1 < y.1.1 ∨ (x.1.1 = y.1.1 ∧ x.1.2 < y.1.2)
theorem all2_fol {m : World} : ∀ {vs : List Value} {xs : List PQ}, All2 (FolR m) vs xs → ∃ fs : List Fol, vs = fs.map encV
  | [], [], _ => ⟨[], rfl⟩
  | v :: vs, x :: xs, h => by
    obtain ⟨f, e, -⟩ := h.1
    obtain ⟨fs, e'⟩ := all2_fol h.2
    exact ⟨f :: fs, by rw [e, e']; rfl⟩
  | [], _ :: _, h => h.elim
  | _ :: _, [], h => h.elim
theorem all2_cons_inv {α : Type} {R : Value → α → Prop} {v : Value} {vs : List Value} {xs : List α} (h : All2 R (v :: vs) xs) : ∃ x ys, xs = x :: ys ∧ R v x ∧ All2 R vs ys := by
  cases xs with
  | nil => exact h.elim
  | cons x ys => exact ⟨x, ys, rfl, h.1, h.2⟩
theorem all2_perm {α : Type} {R : Value → α → Prop} {vs vs' : List Value} (hp : vs.Perm vs') : ∀ {xs : List α}, All2 R vs xs → ∃ ys, ys.Perm xs ∧ All2 R vs' ys := by
  induction hp with
  | nil => exact fun h => ⟨_, List.Perm.refl _, h⟩
  | cons v _ ih =>
    intro xs h
    obtain ⟨x, ys, rfl, h1, h2⟩ := all2_cons_inv h
    obtain ⟨zs, hz, h3⟩ := ih h2
    exact ⟨x :: zs, hz.cons x, h1, h3⟩
  | swap v u l =>
    intro xs h
    obtain ⟨x, ys, rfl, h1, h2⟩ := all2_cons_inv h
    obtain ⟨y, zs, rfl, h3, h4⟩ := all2_cons_inv h2
    exact ⟨y :: x :: zs, List.Perm.swap _ _ _, h3, h1, h4⟩
  | trans _ _ ih1 ih2 =>
    intro xs h
    obtain ⟨ys, hy, h1⟩ := ih1 h
    obtain ⟨zs, hz, h2⟩ := ih2 h1
    exact ⟨zs, hz.trans hy, h2⟩
theorem cells_enc {fs : List Fol} : ∀ u ∈ fs.map encV, u.cells.size = 6 := by
  intro u hu
  obtain ⟨f, _, rfl⟩ := List.mem_map.1 hu
  rfl
theorem enc_flat {d : Array Fol} {t : Nat} (ht : t < d.size * 6) : (cellsOf (d.toList.map encV))[t]? = some (flatK encF 6 d)[t]! := by
  have hk : t / 6 < d.size := by omega
  have hv : (d.toList.map encV)[t / 6]? = some (encV d[t / 6]!) := by
    rw [List.getElem?_map, Array.getElem?_toList, Array.getElem?_eq_getElem hk, getElem!_pos d _ hk]; rfl
  have h := cellsOf_at cells_enc hv (t % 6) (by omega)
  rw [show t / 6 * 6 + t % 6 = t by omega] at h
  rw [h, get_flatK encF 6 d t ht]
  have hl : t % 6 < (encF d[t / 6]!).length := by rw [encF_len]; omega
  show (encF d[t / 6]!)[t % 6]? = some _
  rw [List.getElem?_eq_getElem hl]
  exact congrArg some (getElem!_pos (encF d[t / 6]!) (t % 6) hl).symm
theorem put_flat {d : Array Fol} {cur : Array Value} (h : d.size * 6 ≤ cur.size) : (putCells id 0 (flatK encF 6 d) cur).toList.take (d.size * 6) = cellsOf (d.toList.map encV) := by
  apply List.ext_getElem?
  intro t
  by_cases ht : t < d.size * 6
  · rw [List.getElem?_take, if_pos ht, enc_flat ht, Array.getElem?_toList]
    unfold putCells
    rw [Array.getElem?_mapIdx, Array.getElem?_eq_getElem (by omega), Option.map_some, if_pos ⟨Nat.zero_le _, by simpa using ht⟩]
    simp
  · rw [List.getElem?_take, if_neg ht, List.getElem?_eq_none]
    rw [cellsOf_length cells_enc]; simp; omega
theorem Loc.sorted {w0 m0 W m : World} {A : List Lo} {g : Nat} {e : TypeId} {cur : Array Value} (hL : Loc w0 m0 W m (A ++ [(g, e, cur)])) (n : Nat) (d : Array Fol) (os : Array Obj) :
    Loc w0 m0 (sortWorldK encF 6 W g 0 n d os) (hidTo m (sortWorldK encF 6 W g 0 n d os).heap.size) (A ++ [(g, e, putCells id 0 (flatK encF 6 d) cur)]) := by
  have hg : (g, e, cur) ∈ A ++ [(g, e, cur)] := by simp
  have hb := hL.blk _ hg
  have hlow := hL.low _ hg
  have hlt : g < W.heap.size := hb.lt
  have hsz : (sortWorldK encF 6 W g 0 n d os).heap.size = W.heap.size + os.size := by
    unfold sortWorldK; rw [size_grow, size_putRowK]; rfl
  have oth : ∀ k, k < W.heap.size → k ≠ g → (sortWorldK encF 6 W g 0 n d os).heap[k]? = W.heap[k]? := by
    intro k hk hne
    unfold sortWorldK
    rw [heap_grow_old _ _ (by rw [size_putRowK]; exact hk)]
    show (W.heap.modify g _)[k]? = _
    rw [Array.getElem?_modify, if_neg (fun h => hne h.symm)]
  have own : (sortWorldK encF 6 W g 0 n d os).heap[g]? = some (.cells (putCells id 0 (flatK encF 6 d) cur) e (0, 0)) := by
    unfold sortWorldK
    rw [heap_grow_old _ _ (by rw [size_putRowK]; exact hlt)]
    show (W.heap.modify g _)[g]? = _
    rw [Array.getElem?_modify, if_pos rfl]
    have : W.heap[g]? = some (.cells cur e (0, 0)) := hb
    rw [this]; rfl
  have hs : m.heap.size ≤ (sortWorldK encF 6 W g 0 n d os).heap.size := by rw [hL.vw.size, hsz]; omega
  have hE : Ext w0 (sortWorldK encF 6 W g 0 n d os) := by
    refine ⟨hL.ext.os, hL.ext.tape, hL.ext.output, by rw [hsz]; have := hL.ext.size; omega, fun k hk => ?_⟩
    have h1 := hL.ext.size
    rw [oth k (by omega) (by have : w0.heap.size ≤ g := hlow; omega)]
    exact hL.ext.block k hk
  have ap := hL.apart
  rw [List.pairwise_append] at ap
  refine ⟨hL.size0, hE, hL.mext.trans (hidTo_ext hs), ⟨hL.vw.os, hL.vw.tape, hL.vw.output, hidTo_size hs, fun a u hu => ?_⟩, fun x hx => ?_, fun x hx => ?_, fun x hx a ha => ?_, ?_⟩
  · rcases Nat.lt_or_ge a.block m.heap.size with hlt' | hlt'
    · rw [cell_of_heap (hidTo_old hlt')] at hu
      have hne : a.block ≠ g := fun e' => by rw [hL.hid _ hg a e'] at hu; cases hu
      rw [cell_of_heap (oth _ (by rw [← hL.vw.size]; exact hlt') hne)]
      exact hL.vw.cell _ _ hu
    · rw [hidTo_new hlt'] at hu; cases hu
  · rcases List.mem_append.1 hx with hx | hx
    · exact hL.low x (List.mem_append_left _ hx)
    · rcases List.mem_singleton.1 hx with rfl; exact hlow
  · rcases List.mem_append.1 hx with hx | hx
    · have hbx := hL.blk x (List.mem_append_left _ hx)
      have hne : x.1 ≠ g := ap.2.2 x hx _ (List.mem_singleton.2 rfl)
      exact (oth _ hbx.lt hne).trans hbx
    · rcases List.mem_singleton.1 hx with rfl; exact own
  · have key : ∀ y ∈ A ++ [(g, e, cur)], a.block = y.1 → (hidTo m (sortWorldK encF 6 W g 0 n d os).heap.size).cell? a = none := by
      intro y hy ha
      have hlt' : a.block < m.heap.size := by rw [ha, hL.vw.size]; exact (hL.blk y hy).lt
      rw [cell_of_heap (hidTo_old hlt')]
      exact hL.hid y hy a ha
    rcases List.mem_append.1 hx with hx | hx
    · exact key x (List.mem_append_left _ hx) ha
    · rcases List.mem_singleton.1 hx with rfl
      exact key _ hg ha
  · rw [List.pairwise_append]
    exact ⟨ap.1, List.pairwise_singleton _ _, fun x hx y hy => by rcases List.mem_singleton.1 hy with rfl; exact ap.2.2 x hx (g, e, cur) (List.mem_singleton.2 rfl)⟩
theorem Blk.holdsF {W : World} {g : Nat} {e : TypeId} {cur : Array Value} {d : Array Fol} (hb : Blk W g e cur) (ht : cur.toList.take (d.size * 6) = cellsOf (d.toList.map encV)) : HoldsK encF 6 W g 0 d := by
  intro j hj
  rw [size_flatK] at hj
  rw [Nat.zero_add, hb.cell, hb.frozen]
  refine ⟨?_, rfl⟩
  have h := enc_flat hj
  rw [← ht, List.getElem?_take, if_pos hj, Array.getElem?_toList] at h
  exact h
end Go.Proofs.YtmhkmmmompediaaGreat

/- Blocks that are no rows (maps, iterators) beside the list of known blocks: what leaves them; ranging over a map. No program but for the last law's types. -/
namespace Go.Proofs.YtmhkmmmompediaaGreat
open Go.RowKit Go.Maps

def Still (W W' : World) : Prop := ∀ (b : Nat) (o : Obj), W.heap[b]? = some o → (∀ cs t fr, o ≠ Obj.cells cs t fr) → W'.heap[b]? = some o
theorem Still.refl (W : World) : Still W W := fun _ _ h _ => h
theorem Still.trans {W W' W2 : World} (h : Still W W') (k : Still W' W2) : Still W W2 := fun b o hb hn => k b o (h b o hb hn) hn
theorem Ext.still {W W' : World} (h : Ext W W') : Still W W' := fun b o hb _ => (h.block b (Array.getElem?_eq_some_iff.1 hb).1).trans hb
theorem ownsMap_still {W W' : World} {b n : Nat} {D : DataW Value} (h : W.ownsMap (H := Value) Tryz.prog 180 RV b n D) (hE : Still W W') : W'.ownsMap (H := Value) Tryz.prog 180 RV b n D := by
  obtain ⟨es, clock, hb, h⟩ := h
  exact ⟨es, clock, hE b _ hb (fun _ _ _ e => by cases e), h⟩
theorem FMap.still {W W' m : World} {b : Nat} {S : List PQ} (h : FMap W m b S) (hE : Still W W') : FMap W' m b S := by
  obtain ⟨n, D, hn, h1, h2⟩ := h
  exact ⟨n, D, hn, ownsMap_still h1 hE, h2⟩
abbrev RngF (W : World) (b r n : Nat) (D : DataW Value) (left : Lit → Bool) (cnt : Nat) : Prop := W.ranges (H := Value) Tryz.prog 180 RV b r n D left cnt
theorem RngF.still {W W' : World} {b r n cnt : Nat} {D : DataW Value} {left : Lit → Bool} (h : RngF W b r n D left cnt) (hE : Still W W') : RngF W' b r n D left cnt := by
  obtain ⟨es, clock, since, seen, c0, hb, F, hs, hD, hr, rest⟩ := h
  exact ⟨es, clock, since, seen, c0, hE b _ hb (fun _ _ _ e => by cases e), F, hs, hD, hE r _ hr (fun _ _ _ e => by cases e), rest⟩
theorem RngF.iter {W : World} {b r n cnt : Nat} {D : DataW Value} {left : Lit → Bool} (h : RngF W b r n D left cnt) : ∀ cs t fr, W.heap[r]? ≠ some (.cells cs t fr) := by
  obtain ⟨es, clock, since, seen, c0, hb, F, hs, hD, hr, rest⟩ := h
  intro cs t fr e
  rw [hr] at e; cases e
theorem Loc.join {w0 m0 W m W2 m2 : World} {A B : List Lo} (hL : Loc w0 m0 W m A) (h2 : Loc W m W2 m2 B) : Loc w0 m0 W2 m2 (B ++ A) := by
  refine ⟨hL.size0, hL.ext.trans h2.ext, hL.mext.trans h2.mext, h2.vw, fun x hx => ?_, fun x hx => ?_, fun x hx a ha => ?_, ?_⟩
  · rcases List.mem_append.1 hx with hx | hx
    · exact Nat.le_trans hL.ext.size (h2.low x hx)
    · exact hL.low x hx
  · rcases List.mem_append.1 hx with hx | hx
    · exact h2.blk x hx
    · exact (hL.blk x hx).ext h2.ext
  · rcases List.mem_append.1 hx with hx | hx
    · exact h2.hid x hx a ha
    · have hlt : a.block < m.heap.size := by rw [ha, hL.vw.size]; exact (hL.blk x hx).lt
      rw [h2.mext.cell (p := a) hlt]
      exact hL.hid x hx a ha
  · rw [List.pairwise_append]
    refine ⟨h2.apart, hL.apart, fun x hx y hy => ?_⟩
    have h1 := h2.low x hx
    have h3 := (hL.blk y hy).lt
    omega
theorem Loc.grow0 {w0 m0 W m W' : World} {Ls : List Lo} (h : Loc w0 m0 W m Ls) (hg : W.grownBy W' none) : Loc w0 m0 W' (hidTo m W'.heap.size) Ls := by
  have hs : m.heap.size ≤ W'.heap.size := by rw [h.vw.size]; exact hg.size
  refine ⟨h.size0, h.ext.grown hg (fun k hk => by cases hk), h.mext.trans (hidTo_ext hs), ⟨h.vw.os.trans hg.os.symm, h.vw.tape.trans hg.tape.symm, h.vw.output.trans hg.output.symm, hidTo_size hs, fun a u hu => ?_⟩, h.low, fun x hx => ?_, fun x hx a ha => ?_, h.apart⟩
  · rcases Nat.lt_or_ge a.block m.heap.size with hlt | hlt
    · rw [cell_of_heap (hidTo_old hlt)] at hu
      rw [World.cell?_of_block (hg.block _ (by rw [← h.vw.size]; exact hlt) (by simp))]
      exact h.vw.cell _ _ hu
    · rw [hidTo_new hlt] at hu; cases hu
  · exact (hg.block _ (h.blk x hx).lt (by simp)).trans (h.blk x hx)
  · have hlt : a.block < m.heap.size := by rw [ha, h.vw.size]; exact (h.blk x hx).lt
    rw [cell_of_heap (hidTo_old hlt)]
    exact h.hid x hx a ha
section
variable {P : Program} {ops : Array Oper} {Q : Exit → Act → World → Prop} {rest : List Oper} {o : Oper} {a : Act} {w0 m0 W m : World}
theorem wl_appendS {A R : List Lo} (hL : Loc w0 m0 W m (A ++ R)) {e : TypeId} {size : Nat} {v : Value} {n : Nat} {xs : List Value} (hR : Row e size v n xs R)
    (hw : Region.wanted o (yielded ops a.tmps) = true) {s x : Operand} {t : TypeId} (ho : o.op = .call { callee := .builtin .append, args := #[s, x], argTypes := #[t, t] })
    {bytes : Nat} (hap : apS P t = some (e, size, bytes, size)) (hsz : 0 < size) (hs : a.eval s = v) {B : Option Addr} {k c : Nat} (hx : a.eval x = .slice B k c) {news : List Value}
    (hl : news.length = k * size) (hr : Sl W B news) (h1 : news.all (·.oneCell') = true) (hn : n + k ≤ 1000000) (hb : bytes ≤ 1000000)
    (h : ∀ v' W' m' R', Loc w0 m0 W' m' (A ++ R') → Row e size v' (n + k) (xs ++ news) R' → Ext m m' → Still W W' → wpList P ops Q rest (a.put o.dst v') W') : wpList P ops Q (o :: rest) a W := by
  obtain ⟨i, z, ht, hi, hz, hs1, hb1, hz1⟩ := ap_desc hap
  refine wpList_wanted hw fun K hK => ?_
  have hbb : (n + k) * bytes ≤ 140737488355328 := Nat.le_trans (Nat.mul_le_mul hn hb) (by decide)
  refine wp_append_any W s x t ho w0.heap.size e i z size bytes ht hi hz hs1 hb1 hz1 hsz v n xs hs (hL.own hR) B k c news hx hl hr (fun u hu => List.all_eq_true.1 h1 u hu) (Nat.le_trans hn (by decide)) hbb hL.ext.size ?_
  intro v' W' ho' hg hob
  refine hK _ _ ?_
  have hrow : ∀ j, v.ownBlock = some j → ∃ x ∈ R, x.1 = j := by
    intro j hj
    obtain ⟨_, ⟨rfl, _, _⟩ | ⟨g, cap, cur, rfl, rfl, _⟩⟩ := hR
    · simp [Value.ownBlock] at hj
    · simp [Value.ownBlock] at hj
      exact ⟨_, List.mem_singleton.2 rfl, hj⟩
  have hst : Still W W' := fun b ob hbo hnc => by
    refine (hg.block b (Array.getElem?_eq_some_iff.1 hbo).1 fun hbe => ?_).trans hbo
    obtain ⟨x, hx, hxe⟩ := hrow b hbe.symm
    have hbl := hL.blk x (List.mem_append_right _ hx)
    unfold Blk at hbl
    rw [hxe, hbo] at hbl
    exact hnc _ _ _ (Option.some.inj hbl)
  have hE : Ext m (hidTo m W'.heap.size) := hidTo_ext (by rw [hL.vw.size]; exact hg.size)
  obtain ⟨hlen, ⟨rfl, h0⟩ | ⟨g, cap, cur, rfl, hge, hh, hnc, hcm, hcs, htk⟩⟩ := ho'
  · exact h _ W' _ [] (hL.grown hg hrow (fun x hx => by cases hx) (by simp)) ⟨hlen, .inl ⟨rfl, h0, rfl⟩⟩ hE hst
  · refine h _ W' _ [(g, e, cur)] (hL.grown hg hrow (fun x hx => ?_) (by simp)) ⟨hlen, .inr ⟨g, cap, cur, rfl, rfl, hnc, hcm, hcs, htk⟩⟩ hE hst
    rcases List.mem_singleton.1 hx with rfl
    refine ⟨hh, ?_⟩
    rcases hob with hob | hob
    · left
      obtain ⟨x, hx, hxe⟩ := hrow g (by rw [← hob]; rfl)
      exact ⟨x, hx, hxe⟩
    · right
      simpa [Value.ownBlock] using hob
end
section
variable {ops : Array Oper} {Q : Exit → Act → World → Prop} {rest : List Oper} {o : Oper} {a : Act} {w0 m0 W m : World} {Ls : List Lo}
theorem wl_range (hL : Loc w0 m0 W m Ls) (hg : o.guard = none) {mo : Operand} (hop : o.op = Op.range 178 mo) {b n : Nat} {D : DataW Value} (hm : a.eval mo = .map (some b)) (hown : W.ownsMap (H := Value) Tryz.prog 180 RV b n D)
    (h : ∀ W' m', Loc w0 m0 W' m' Ls → Ext m m' → RngF W' b W.heap.size n D (has D) (size D) → W.heap.size < W'.heap.size → wpList Tryz.prog ops Q rest (a.put o.dst (.pointer (some ⟨W.heap.size, 0, none⟩))) W') :
    wpList Tryz.prog ops Q (o :: rest) a W :=
  wpList_range_own W hg mo _ hop _ _ keyP Tryz.underlying178 RV b n D hm hown fun W' h1 h2 h3 =>
    h W' _ (hL.grow0 h2) (hidTo_ext (by rw [hL.vw.size]; exact h2.size)) h1 (by omega)
theorem wl_next (hL : Loc w0 m0 W m Ls) (hg : o.guard = none) {it : Operand} (hop : o.op = Op.next it false) {b r n cnt : Nat} {D : DataW Value} {left : Lit → Bool} (hit : a.eval it = .pointer (some ⟨r, 0, none⟩)) (hr : RngF W b r n D left cnt) (hlow : w0.heap.size ≤ r)
    (hD : (∀ kl, left kl = false) → wpList Tryz.prog ops Q rest (a.put o.dst (.tuple #[.bool false])) W)
    (hM : ∀ (x c : Int) (v : Value) (W' m' : World) (cnt' : Nat), Wf x → Wf c → left (klP x c) = true → (∀ z, D.atKey (klP x c) z = .held v) → RngF W' b r n D (fun z => left z && !z.sameKey (klP x c)) cnt' → cnt' < cnt → Loc w0 m0 W' m' Ls → Ext m m' →
      (Instr.entry (.pointer (some ⟨r, 0, none⟩))).run Tryz.prog W' = .ok (.tuple #[.agg #[.int .i64 x, .int .i64 c], v]) W' → wpList Tryz.prog ops Q rest (a.put o.dst (.tuple #[.bool true, .agg #[.int .i64 x, .int .i64 c], v])) W') :
    wpList Tryz.prog ops Q (o :: rest) a W := by
  refine wpList_plain hg fun K' hK' => ?_
  unfold Oper.wp
  rcases hr.next keyP o.type with ⟨h0, hl, hrun⟩ | ⟨key, v, kl, y, W', cnt', hkey, hlk, hv, hat, hrun, hrg, hlt, hgr, hsz, hen⟩
  · simp [execOp, hop, hit, hrun, Result.andThen]
    exact hK' _ _ (hD hl)
  · obtain ⟨x, c, rfl, wx, wc, rfl⟩ := (keyOf_pair _ _).1 hkey
    cases hv
    simp [execOp, hop, hit, hrun, Result.andThen]
    exact hK' _ _ (hM x c v W' _ cnt' wx wc hlk hat hrg hlt (hL.mapTurn hgr hlow hr.iter) (hidTo_ext (by rw [hL.vw.size]; exact hgr.size)) hen)
end
end Go.Proofs.YtmhkmmmompediaaGreat

/- Follow-ons in plain numbers: the entries that the columns give, their sums, and the one ascending list of those that are not 0. -/
namespace Go.Proofs.YtmhkmmmompediaaGreat
open Go.RowKit

def pairsOf (l : List Int) : List (Int × Int) := l.zip l.tail
def entE (l : List Int) (x : Rat) : List PQ := (pairsOf l).map fun p => (p, x)
def colE (l : List Int) (x : Rat) (j : Nat) : List PQ := ((pairsOf l).take j).map fun p => (p, x)
def entS (cols : List Col) (vs : List Rat) (k : Nat) : List PQ := ((cols.zip vs).take k).flatMap fun e => entE (opF e.1.2.1) e.2
theorem pairs_at {l : List Int} {j : Nat} {a c : Int} (ha : l[j]? = some a) (hc : l[j + 1]? = some c) : (pairsOf l)[j]? = some (a, c) := by
  unfold pairsOf
  rw [List.getElem?_zip_eq_some]
  exact ⟨ha, by rw [List.getElem?_tail]; exact hc⟩
theorem pairs_len (l : List Int) : (pairsOf l).length = l.length - 1 := by unfold pairsOf; simp
theorem colE_zero (l : List Int) (x : Rat) : colE l x 0 = [] := rfl
theorem colE_step {l : List Int} {x : Rat} {j : Nat} {a c : Int} (ha : l[j]? = some a) (hc : l[j + 1]? = some c) : colE l x j ++ [((a, c), x)] = colE l x (j + 1) := by
  unfold colE
  rw [List.take_add_one, pairs_at ha hc]; simp
theorem colE_end {l : List Int} {x : Rat} {j : Nat} (h : l.length ≤ j + 1) : colE l x j = entE l x := by
  unfold colE entE
  rw [List.take_of_length_le (by rw [pairs_len]; omega)]
theorem entS_step {cols : List Col} {vs : List Rat} {k : Nat} {c : Col} {x : Rat} (hc : cols[k]? = some c) (hx : vs[k]? = some x) : entS cols vs k ++ entE (opF c.2.1) x = entS cols vs (k + 1) := by
  unfold entS
  have : (cols.zip vs)[k]? = some (c, x) := List.getElem?_zip_eq_some.2 ⟨hc, hx⟩
  rw [List.take_add_one, this]; simp
structure VOk (x : Ms) (vs : List Rat) : Prop where
  ms : MsOk x
  len : vs.length = x.cols.length
  tw : ∀ v ∈ vs, Tw 18 v
  few : x.cols.length ≤ 100
theorem nodup_length : ∀ {xs ys : List Int}, xs.Nodup → (∀ x ∈ xs, x ∈ ys) → xs.length ≤ ys.length
  | [], _, _, _ => Nat.zero_le _
  | x :: xs, ys, hn, hs => by
    obtain ⟨h1, h2⟩ := List.nodup_cons.1 hn
    have hx := hs x List.mem_cons_self
    have ih := nodup_length (ys := ys.erase x) h2 fun y hy => (List.mem_erase_of_ne (fun e => h1 (by rw [← e]; exact hy))).2 (hs y (List.mem_cons_of_mem _ hy))
    rw [List.length_erase_of_mem hx] at ih
    have := List.length_pos_of_mem hx
    simp only [List.length_cons]; omega
theorem nodup_lengthP : ∀ {xs ys : List (Int × Int)}, xs.Nodup → (∀ x ∈ xs, x ∈ ys) → xs.length ≤ ys.length
  | [], _, _, _ => Nat.zero_le _
  | x :: xs, ys, hn, hs => by
    obtain ⟨h1, h2⟩ := List.nodup_cons.1 hn
    have hx := hs x List.mem_cons_self
    have ih := nodup_lengthP (ys := ys.erase x) h2 fun y hy => (List.mem_erase_of_ne (fun e => h1 (by rw [← e]; exact hy))).2 (hs y (List.mem_cons_of_mem _ hy))
    rw [List.length_erase_of_mem hx] at ih
    have := List.length_pos_of_mem hx
    simp only [List.length_cons]; omega
theorem entE_len (l : List Int) (x : Rat) : (entE l x).length ≤ l.length := by unfold entE; rw [List.length_map, pairs_len]; omega
theorem VOk.col_len {x : Ms} {vs : List Rat} (h : VOk x vs) {c : Col} (hc : c ∈ x.cols) : (opF c.2.1).length ≤ 32 := by
  have h1 := h.ms.cols c hc
  exact Nat.le_trans (nodup_length h1.nodup h1.sub) h.ms.r1
theorem flatMap_len {α β : Type} {f : α → List β} {B : Nat} : ∀ {l : List α}, (∀ a ∈ l, (f a).length ≤ B) → (l.flatMap f).length ≤ B * l.length
  | [], _ => by simp
  | a :: l, h => by
    have h1 := flatMap_len (l := l) fun b hb => h b (List.mem_cons_of_mem _ hb)
    have h2 := h a List.mem_cons_self
    simp only [List.flatMap_cons, List.length_append, List.length_cons]
    rw [Nat.mul_add]; omega
theorem VOk.ent_mem {x : Ms} {vs : List Rat} (h : VOk x vs) {k : Nat} {e : Col × Rat} (he : e ∈ (x.cols.zip vs).take k) : e.1 ∈ x.cols ∧ e.2 ∈ vs := by
  have := List.mem_of_mem_take he
  exact ⟨(List.of_mem_zip this).1, (List.of_mem_zip this).2⟩
theorem VOk.entS_len {x : Ms} {vs : List Rat} (h : VOk x vs) (k : Nat) : (entS x.cols vs k).length ≤ 3200 := by
  have h1 := flatMap_len (f := fun e : Col × Rat => entE (opF e.1.2.1) e.2) (l := (x.cols.zip vs).take k) (B := 32) fun e he => Nat.le_trans (entE_len _ _) (h.col_len (h.ent_mem he).1)
  have h2 : ((x.cols.zip vs).take k).length ≤ 100 := by have := h.few; simp; omega
  unfold entS
  omega
theorem VOk.entS_mem {x : Ms} {vs : List Rat} (h : VOk x vs) {k : Nat} {e : PQ} (he : e ∈ entS x.cols vs k) : Tw 18 e.2 ∧ e.1.1 ∈ x.rows ∧ e.1.2 ∈ x.rows := by
  unfold entS at he
  obtain ⟨c, hc, he⟩ := List.mem_flatMap.1 he
  obtain ⟨h1, h2⟩ := h.ent_mem hc
  obtain ⟨p, hp, rfl⟩ := List.mem_map.1 he
  have h3 := (h.ms.cols _ h1).sub
  unfold pairsOf at hp
  obtain ⟨p1, p2⟩ := List.of_mem_zip (a := p.1) (b := p.2) hp
  exact ⟨h.tw _ h2, h3 _ p1, h3 _ (List.mem_of_mem_tail p2)⟩
theorem foldl_tw {B : Nat} : ∀ {l : List PQ} {s : Rat}, Tw B s → (∀ e ∈ l, Tw 18 e.2) → Tw (B + 18 * l.length) (l.foldl (fun s e => s + e.2) s)
  | [], s, h, _ => by simpa using h
  | e :: l, s, h, hl => by
    have h1 := foldl_tw (l := l) (h.add (hl e List.mem_cons_self)) fun y hy => hl y (List.mem_cons_of_mem _ hy)
    refine Tw.mono h1 ?_
    simp only [List.length_cons]; omega
theorem sum_tw {S : List PQ} (h : ∀ e ∈ S, Tw 18 e.2) (hl : S.length ≤ 6500) (p : Int × Int) : Tw 117000 (sumAt S p) := by
  unfold sumAt
  have h1 := foldl_tw tw0 (l := S.filter fun e => decide (e.1 = p)) fun e he => h e (List.mem_filter.1 he).1
  have h2 := List.length_filter_le (fun e : PQ => decide (e.1 = p)) S
  exact h1.mono (by omega)

def IsFol (S ys : List PQ) : Prop := ys.Pairwise ltP ∧ ∀ y, y ∈ ys ↔ (y.2 = sumAt S y.1 ∧ y.2 ≠ 0)
theorem ltP_irrefl (x : PQ) : ¬ ltP x x := by unfold ltP; omega
theorem ltP_asymm {x y : PQ} (h : ltP x y) : ¬ ltP y x := by unfold ltP at *; omega
theorem sorted_eq : ∀ {xs ys : List PQ}, xs.Pairwise ltP → ys.Pairwise ltP → (∀ y, y ∈ xs ↔ y ∈ ys) → xs = ys
  | [], ys, _, _, h => by
    cases ys with
    | nil => rfl
    | cons y ys => exact absurd ((h y).2 List.mem_cons_self) List.not_mem_nil
  | x :: xs, ys, hx, hy, h => by
    cases ys with
    | nil => exact absurd ((h x).1 List.mem_cons_self) List.not_mem_nil
    | cons y ys =>
      obtain ⟨x1, x2⟩ := List.pairwise_cons.1 hx
      obtain ⟨y1, y2⟩ := List.pairwise_cons.1 hy
      have e : x = y := by
        rcases List.mem_cons.1 ((h x).1 List.mem_cons_self) with e | e
        · exact e
        · rcases List.mem_cons.1 ((h y).2 List.mem_cons_self) with e' | e'
          · exact e'.symm
          · exact absurd (x1 y e') (ltP_asymm (y1 x e))
      subst e
      refine congrArg _ (sorted_eq x2 y2 fun z => ⟨fun hz => ?_, fun hz => ?_⟩)
      · rcases List.mem_cons.1 ((h z).1 (List.mem_cons_of_mem _ hz)) with e | e
        · subst e; exact absurd (x1 _ hz) (ltP_irrefl _)
        · exact e
      · rcases List.mem_cons.1 ((h z).2 (List.mem_cons_of_mem _ hz)) with e | e
        · subst e; exact absurd (y1 _ hz) (ltP_irrefl _)
        · exact e
theorem IsFol.unique {S xs ys : List PQ} (h : IsFol S xs) (k : IsFol S ys) : xs = ys := sorted_eq h.1 k.1 fun y => (h.2 y).trans (k.2 y).symm
end Go.Proofs.YtmhkmmmompediaaGreat

/- slices.SortFunc over follow-ons: the kit's contract, laid at this program in plain words. -/
namespace Go.Proofs.YtmhkmmmompediaaGreat
open Go.RowKit

def layFol_ren : Go.Shelf.Ren := ⟨fun | 6 => 167 | 15 => 197 | 14 => 196 | 28 => 218 | 29 => 219 | 20 => 210 | 21 => 211 | 22 => 212 | 23 => 213 | 24 => 214 | 25 => 215 | 26 => 216 | 27 => 217 | 46 => 226 | 47 => 227 | 48 => 228 | 49 => 229 | 50 => 230 | 57 => 232 | n => n, fun | 22 => 76 | 24 => 139 | 25 => 183 | 3 => 3 | 39 => 44 | 0 => 0 | 53 => 102 | 55 => 147 | 4 => 4 | 46 => 212 | 45 => 211 | 50 => 119 | 5 => 5 | 9 => 9 | 66 => 221 | 70 => 225 | 76 => 228 | 77 => 229 | n => n, fun | n => n⟩
set_option maxRecDepth 100000 in
theorem layFol : Go.Proofs.SlLaysF0.n6 Tryz.prog layFol_ren := {
  mixed := by kernel_rfl,
  f6 := ⟨Tryz.f167.name, by decide, Tryz.func167.trans (congrArg some (by kernel_rfl))⟩,
  f14 := ⟨Tryz.f196.name, by decide, Tryz.func196.trans (congrArg some (by kernel_rfl))⟩,
  f15 := Tryz.func197.trans (congrArg some (by kernel_rfl)),
  f20 := ⟨Tryz.f210.name, by decide, Tryz.func210.trans (congrArg some (by kernel_rfl))⟩,
  f21 := ⟨Tryz.f211.name, by decide, Tryz.func211.trans (congrArg some (by kernel_rfl))⟩,
  f22 := ⟨Tryz.f212.name, by decide, Tryz.func212.trans (congrArg some (by kernel_rfl))⟩,
  f23 := ⟨Tryz.f213.name, by decide, Tryz.func213.trans (congrArg some (by kernel_rfl))⟩,
  f24 := ⟨Tryz.f214.name, by decide, Tryz.func214.trans (congrArg some (by kernel_rfl))⟩,
  f25 := ⟨Tryz.f215.name, by decide, Tryz.func215.trans (congrArg some (by kernel_rfl))⟩,
  f26 := ⟨Tryz.f216.name, by decide, Tryz.func216.trans (congrArg some (by kernel_rfl))⟩,
  f27 := ⟨Tryz.f217.name, by decide, Tryz.func217.trans (congrArg some (by kernel_rfl))⟩,
  f28 := Tryz.func218.trans (congrArg some (by kernel_rfl)),
  f29 := Tryz.func219.trans (congrArg some (by kernel_rfl)),
  f46 := ⟨Tryz.f226.name, by decide, Tryz.func226.trans (congrArg some (by kernel_rfl))⟩,
  f47 := Tryz.func227.trans (congrArg some (by kernel_rfl)),
  f48 := Tryz.func228.trans (congrArg some (by kernel_rfl)),
  f49 := ⟨Tryz.f229.name, by decide, Tryz.func229.trans (congrArg some (by kernel_rfl))⟩,
  f50 := ⟨Tryz.f230.name, by decide, Tryz.func230.trans (congrArg some (by kernel_rfl))⟩,
  f57 := ⟨Tryz.f232.name, by decide, Tryz.func232.trans (congrArg some (by kernel_rfl))⟩,
  t0 := Tryz.underlying0,
  a0 := Tryz.isAgg0,
  z0 := Tryz.sizeOf0,
  v0 := Tryz.zeroValue0,
  t3 := Tryz.underlying3,
  a3 := Tryz.isAgg3,
  z3 := Tryz.sizeOf3,
  v3 := Tryz.zeroValue3,
  t4 := Tryz.underlying4,
  a4 := Tryz.isAgg4,
  z4 := Tryz.sizeOf4,
  v4 := Tryz.zeroValue4,
  t5 := Tryz.underlying5,
  a5 := Tryz.isAgg5,
  z5 := Tryz.sizeOf5,
  v5 := Tryz.zeroValue5,
  t9 := Tryz.underlying9,
  a9 := Tryz.isAgg9,
  z9 := Tryz.sizeOf9,
  v9 := Tryz.zeroValue9,
  t22 := Tryz.underlying76,
  a22 := Tryz.isAgg76,
  z22 := Tryz.sizeOf76,
  v22 := Tryz.zeroValue76,
  t25 := Tryz.underlying183,
  a25 := Tryz.isAgg183,
  z25 := Tryz.sizeOf183,
  v25 := Tryz.zeroValue183,
  t39 := Tryz.underlying44,
  a39 := Tryz.isAgg44,
  z39 := Tryz.sizeOf44,
  v39 := Tryz.zeroValue44,
  t45 := Tryz.underlying211,
  a45 := Tryz.isAgg211,
  z45 := Tryz.sizeOf211,
  v45 := Tryz.zeroValue211,
  t46 := Tryz.underlying212,
  a46 := Tryz.isAgg212,
  z46 := Tryz.sizeOf212,
  v46 := Tryz.zeroValue212,
  t50 := Tryz.underlying119,
  a50 := Tryz.isAgg119,
  z50 := Tryz.sizeOf119,
  v50 := Tryz.zeroValue119,
  t53 := Tryz.underlying102,
  a53 := Tryz.isAgg102,
  z53 := Tryz.sizeOf102,
  v53 := Tryz.zeroValue102,
  t55 := Tryz.underlying147,
  a55 := Tryz.isAgg147,
  z55 := Tryz.sizeOf147,
  v55 := Tryz.zeroValue147,
  t66 := Tryz.underlying221,
  a66 := Tryz.isAgg221,
  z66 := Tryz.sizeOf221,
  v66 := Tryz.zeroValue221,
  t70 := Tryz.underlying225,
  a70 := Tryz.isAgg225,
  z70 := Tryz.sizeOf225,
  v70 := Tryz.zeroValue225,
  t76 := Tryz.underlying228,
  a76 := Tryz.isAgg228,
  z76 := Tryz.sizeOf228,
  v76 := Tryz.zeroValue228,
  t77 := Tryz.underlying229,
  a77 := Tryz.isAgg229,
  z77 := Tryz.sizeOf229,
  v77 := Tryz.zeroValue229 }
end Go.Proofs.YtmhkmmmompediaaGreat

/- slices.SortFunc with branch.follows' comparison: a row of follow-ons with different pairs is put in ascending order. -/
namespace Go.Proofs.YtmhkmmmompediaaGreat
open Go.RowKit Go.Sort

set_option maxRecDepth 100000 in
set_option maxHeartbeats 4000000 in
theorem nan_w (x : Int) (W : World) : Calls Tryz.prog 198 #[.int .i64 x] W fun e w' => e = .returned (.bool false) ∧ w' = W := by
  have bb : (x != x) = false := by simp
  go_enter Tryz.func198, Tryz.ntmps198
  go_wp2
  go_ret
  exact ⟨rfl, rfl⟩
set_option maxRecDepth 100000 in
set_option maxHeartbeats 4000000 in
theorem cmp_w (x y : Int) (W : World) : Calls Tryz.prog 169 #[.int .i64 x, .int .i64 y] W fun e w' => e = .returned (.int .i64 (cmpZ x y)) ∧ w' = W := by
  have h1 := nan_w x W
  have h2 := nan_w y W
  unfold cmpZ
  by_cases hlt : x < y
  · rw [if_pos hlt]
    go_enter Tryz.func169, Tryz.ntmps169
    go_wp2_with (go_at_call 198; first | (refine h1.mono ?_; rintro e w' ⟨rfl, rfl⟩) | (refine h2.mono ?_; rintro e w' ⟨rfl, rfl⟩))
    go_ret
    exact ⟨rfl, rfl⟩
  · rw [if_neg hlt]
    by_cases hgt : y < x
    · rw [if_pos hgt]
      have hgt' : x > y := hgt
      go_enter Tryz.func169, Tryz.ntmps169
      go_wp2_with (go_at_call 198; first | (refine h1.mono ?_; rintro e w' ⟨rfl, rfl⟩) | (refine h2.mono ?_; rintro e w' ⟨rfl, rfl⟩))
      go_ret
      exact ⟨rfl, rfl⟩
    · rw [if_neg hgt]
      have hgt' : ¬ x > y := hgt
      go_enter Tryz.func169, Tryz.ntmps169
      go_wp2_with (go_at_call 198; first | (refine h1.mono ?_; rintro e w' ⟨rfl, rfl⟩) | (refine h2.mono ?_; rintro e w' ⟨rfl, rfl⟩))
      go_ret
      exact ⟨rfl, rfl⟩
set_option maxRecDepth 100000 in
set_option maxHeartbeats 4000000 in
theorem fol_cmp (x y : Fol) (W : World) : Calls Tryz.prog 168 #[.agg (encF x).toArray, .agg (encF y).toArray] W fun e w' => e = .returned (.int .i64 (cfF x y)) ∧ ∃ q os', w' = grow (W.drewN q) os' := by
  have h1 := fun W => cmp_w x.a y.a W
  have h2 := fun W => cmp_w x.c y.c W
  unfold cfF encF
  obtain ⟨xa, xc, xg, xA, xn, xk, xf, xB, xp, xq⟩ := x
  obtain ⟨ya, yc, yg, yA, yn, yk, yf, yB, yp, yq⟩ := y
  simp only at h1 h2 ⊢
  by_cases h0 : cmpZ xa ya = 0
  · rw [if_pos h0]
    rw [h0] at h1
    generalize cmpZ xc yc = r at *
    go_enter Tryz.func168, Tryz.ntmps168
    go_wp2_with (go_at_call 169; first | (with_reducible refine Calls.mono (h1 _) ?_; rintro e w' ⟨rfl, rfl⟩) | (with_reducible refine Calls.mono (h2 _) ?_; rintro e w' ⟨rfl, rfl⟩))
    go_ret
    exact ⟨rfl, 0, _, by rw [alloc_eq_grow, alloc_eq_grow, grow_grow]; rfl⟩
  · rw [if_neg h0]
    generalize cmpZ xa ya = r at *
    go_enter Tryz.func168, Tryz.ntmps168
    go_wp2_with (go_at_call 169; refine (h1 _).mono ?_; rintro e w' ⟨rfl, rfl⟩)
    go_ret
    exact ⟨rfl, 0, _, by rw [alloc_eq_grow, alloc_eq_grow, grow_grow]; rfl⟩
theorem fol_lays (blk off size : Nat) (w : World) : CmpLays Tryz.prog 168 #[] encF 6 cfF blk off size w := fun _ _ _ _ x y => fol_cmp x y _
theorem fol_eg : ∀ args w, (callFunc 168 args).run Tryz.prog w = .ok (.enter 168 args) w := enters_of Tryz.func168 (by kernel_rfl) rfl
theorem ex_lit {n : Nat} {d : Array Fol} (h : d.size = n) : d.extract 0 n = d := by subst h; simp
theorem sort_fols {w0 m0 W m : World} {A R : List Lo} {v : Value} {n : Nat} {xs : List PQ} (hL : Loc w0 m0 W m (A ++ R)) (h : RowA 139 6 FolR m v n xs R) (hnd : (xs.map Prod.fst).Nodup) (hsm : n ≤ 1000000) :
    Calls Tryz.prog 167 #[v, .func (.func 168) #[] #[]] W fun e W' =>
      e = .returned (.tuple #[]) ∧ ∃ m' ys R', Loc w0 m0 W' m' (A ++ R') ∧ Ext m m' ∧ RowA 139 6 FolR m' v n ys R' ∧ ys.Perm xs ∧ ys.Pairwise ltP := by
  obtain ⟨vs, ⟨hlen, hcase⟩, h2, h3, h4⟩ := h
  rcases hcase with ⟨rfl, rfl, rfl⟩ | ⟨g, cap, cur, rfl, rfl, hn, hcm, hcs, htk⟩
  · obtain rfl : vs = [] := List.length_eq_zero_iff.1 h4
    obtain rfl : xs = [] := by cases xs with | nil => rfl | cons _ _ => exact h3.elim
    have hc := AnyF.slices_SortFunc_none layFol none 0 (.func (.func 168) #[] #[]) W
    change Calls Tryz.prog 167 _ _ _ at hc
    refine hc.mono ?_
    rintro e w' ⟨rfl, rfl⟩
    exact ⟨rfl, m, [], [], hL, Ext.refl _, RowA.nil, List.Perm.refl _, List.Pairwise.nil⟩
  · obtain ⟨fs, rfl⟩ := all2_fol h3
    have hfl : fs.length = n := by simpa using h4
    have hb := hL.blk (g, 139, cur) (by simp)
    have hH : HoldsK encF 6 W g 0 fs.toArray := Blk.holdsF hb (by simpa [hfl] using htk)
    have hc := AnyQ.slices_SortFunc layFol 6 Tryz.isAgg139 Tryz.sizeOf139 encF encF_len encF_one cfF swoF 168 #[] g 0 cap fs.toArray W fol_eg (fol_lays _ _ _ _) hH hb.lt (by simp [hfl]; omega)
    change Calls Tryz.prog 167 _ _ _ at hc
    simp only [List.size_toArray, hfl] at hc
    refine hc.mono ?_
    rintro e w' ⟨rfl, d', q, os, hp, hs, rfl⟩
    have hds : d'.size = n := by rw [hp.1]; simp [hfl]
    have hperm : d'.toList.Perm fs := by
      have := hp.2.2
      rw [ex_lit hds, ex_lit (by simp [hfl])] at this
      exact this
    obtain ⟨ys, hy, hall⟩ := all2_perm (hperm.symm.map encV) h3
    have hL' := hL.sorted q d' os
    have hyn : ys.length = n := by rw [hy.length_eq, ← h3.length]; simp [hfl]
    have hsz : d'.size * 6 ≤ cur.size := by rw [hds, hcs]; exact Nat.mul_le_mul_right _ hn
    have hext : Ext m (hidTo m (sortWorldK encF 6 W g 0 q d' os).heap.size) := hidTo_ext (by rw [hL.vw.size]; exact size_sortWorldK_c encF 6 W g 0 q d' os)
    refine ⟨rfl, _, ys, [(g, 139, putCells id 0 (flatK encF 6 d') cur)], hL', hext, ⟨d'.toList.map encV, ⟨?_, .inr ⟨g, cap, _, rfl, rfl, hn, hcm, ?_, ?_⟩⟩, cells_enc, ?_, by simp [hds]⟩, hy, ?_⟩
    · rw [cellsOf_length cells_enc]; simp [hds]
    · unfold putCells; simp [hcs]
    · have := put_flat hsz
      rw [hds] at this
      exact this
    · exact hall.mono fun v x hv => FolR.mono _ _ _ _ hv hext.le
    · rw [List.pairwise_iff_getElem]
      intro i j hi hj hij
      have hsi : i < d'.size := by omega
      have hsj : j < d'.size := by omega
      have h5 := hs i j (Nat.zero_le _) hij (by omega)
      rw [lt_cfF, getElem!_pos d' j hsj, getElem!_pos d' i hsi] at h5
      have g1 : ∀ k (hk : k < d'.size) (hk' : k < ys.length), d'[k].a = ys[k].1.1 ∧ d'[k].c = ys[k].1.2 := by
        intro k hk hk'
        obtain ⟨u, hu, hR⟩ := hall.at_ (List.getElem?_eq_getElem hk')
        rw [List.getElem?_map, Array.getElem?_toList, Array.getElem?_eq_getElem hk] at hu
        cases hu
        obtain ⟨f, he, e1, e2, -⟩ := hR
        have : d'[k].a = f.a ∧ d'[k].c = f.c := by
          unfold encV encF at he
          simp at he
          exact ⟨he.1, he.2.1⟩
        exact ⟨this.1.trans e1, this.2.trans e2⟩
      obtain ⟨a1, a2⟩ := g1 i hsi hi
      obtain ⟨b1, b2⟩ := g1 j hsj hj
      rw [a1, a2, b1, b2] at h5
      have hnd' : (ys.map Prod.fst).Nodup := (hy.map Prod.fst).nodup_iff.2 hnd
      have hne : ys[i].1 ≠ ys[j].1 := by
        have := List.pairwise_iff_getElem.1 hnd' i j (by simpa using hi) (by simpa using hj) hij
        simpa using this
      simp only [decide_eq_false_iff_not] at h5
      unfold ltP
      have hne' : ¬ (ys[i].1.1 = ys[j].1.1 ∧ ys[i].1.2 = ys[j].1.2) := fun h => hne (Prod.ext h.1 h.2)
      omega
end Go.Proofs.YtmhkmmmompediaaGreat

/- Contract of branch.follows. -/
namespace Go.Proofs.YtmhkmmmompediaaGreat
open Go.RowKit Go.Maps

theorem zc_Pair2 : zc Tryz.prog 180 = some #[.int .i64 0, .int .i64 0] := by kernel_rfl
instance iAC5_1 : ZcC Tryz.prog 180 #[.int .i64 0, .int .i64 0] := ⟨zc_Pair2⟩
theorem ag_Pair2 : agS Tryz.prog 180 = some 2 := by kernel_rfl
instance iAC5_2 : AgC Tryz.prog 180 2 := ⟨ag_Pair2⟩
theorem fd_Pair20 : fdS Tryz.prog 180 0 = some 0 := by kernel_rfl
instance iAC5_3 : FdC Tryz.prog 180 0 0 := ⟨fd_Pair20⟩
theorem fd_Pair21 : fdS Tryz.prog 180 1 = some 1 := by kernel_rfl
instance iAC5_4 : FdC Tryz.prog 180 1 1 := ⟨fd_Pair21⟩
theorem ag_Fol : agS Tryz.prog 139 = some 6 := by kernel_rfl
instance iAC5_5 : AgC Tryz.prog 139 6 := ⟨ag_Fol⟩
theorem ap_Fols : apS Tryz.prog 76 = some (139, 6, 80, 6) := by kernel_rfl
instance iAC5_6 : ApC Tryz.prog 76 139 6 80 := ⟨ap_Fols⟩

structure Got (S : List PQ) (left : Lit → Bool) (xs : List PQ) : Prop where
  nd : (xs.map Prod.fst).Nodup
  sound : ∀ y ∈ xs, y.2 = sumAt S y.1 ∧ y.2 ≠ 0 ∧ left (klP y.1.1 y.1.2) = false ∧ ∃ e ∈ S, e.1 = y.1
  whole : ∀ e ∈ S, left (klP e.1.1 e.1.2) = false → sumAt S e.1 ≠ 0 → (e.1, sumAt S e.1) ∈ xs
theorem Got.start {D : DataW Value} {m : World} {S : List PQ} (h : PMap D m S) : Got S (has D) [] :=
  ⟨List.Pairwise.nil, (fun _ h => by cases h), fun e he hl _ => by
    obtain ⟨v, h1, -⟩ := h.some e he
    rw [has_true_of_atKey h1] at hl; cases hl⟩
theorem sameKey_kl {a c a' c' : Int} (wa : Wf a) (wc : Wf c) (wa' : Wf a') (wc' : Wf c') : (klP a c).sameKey (klP a' c') = decide ((a, c) = (a', c')) := by
  by_cases h : (a, c) = (a', c')
  · rw [decide_eq_true h]
    cases h
    exact Go.WideAt.sameKey_self (klP_key a c)
  · rw [decide_eq_false h]
    cases hs : (klP a c).sameKey (klP a' c')
    · rfl
    · obtain ⟨e1, e2⟩ := klP_inj wa wc wa' wc' (Go.WideAt.sameKey_eq hs)
      exact absurd (Prod.ext e1 e2) h
theorem Got.skip {S : List PQ} {left : Lit → Bool} {xs : List PQ} {a c : Int} (h : Got S left xs) (hw : ∀ e ∈ S, Wf e.1.1 ∧ Wf e.1.2) (wa : Wf a) (wc : Wf c) (h0 : sumAt S (a, c) = 0) : Got S (fun z => left z && !z.sameKey (klP a c)) xs := by
  refine ⟨h.nd, fun y hy => ?_, fun e he hl hs => ?_⟩
  · obtain ⟨h1, h2, h3, h4⟩ := h.sound y hy
    exact ⟨h1, h2, by simp [h3], h4⟩
  · rw [sameKey_kl (hw e he).1 (hw e he).2 wa wc] at hl
    by_cases hp : e.1 = (a, c)
    · rw [hp] at hs; exact absurd h0 hs
    · refine h.whole e he ?_ hs
      have : decide ((e.1.1, e.1.2) = (a, c)) = false := decide_eq_false hp
      rw [this] at hl
      simpa using hl
theorem Got.more {S : List PQ} {left : Lit → Bool} {xs : List PQ} {a c : Int} (h : Got S left xs) (hw : ∀ e ∈ S, Wf e.1.1 ∧ Wf e.1.2) (wa : Wf a) (wc : Wf c) (hl : left (klP a c) = true) (hk : ∃ e ∈ S, e.1 = (a, c)) (h0 : sumAt S (a, c) ≠ 0) :
    Got S (fun z => left z && !z.sameKey (klP a c)) (xs ++ [((a, c), sumAt S (a, c))]) := by
  refine ⟨?_, fun y hy => ?_, fun e he hl' hs => ?_⟩
  · rw [List.map_append, List.nodup_append]
    refine ⟨h.nd, List.pairwise_singleton _ _, fun p hp q hq e => ?_⟩
    rcases List.mem_singleton.1 hq with rfl
    obtain ⟨y, hy, e'⟩ := List.mem_map.1 hp
    have h3 := (h.sound y hy).2.2.1
    rw [e', e] at h3
    rw [h3] at hl; cases hl
  · rcases List.mem_append.1 hy with hy | hy
    · obtain ⟨h1, h2, h3, h4⟩ := h.sound y hy
      exact ⟨h1, h2, by simp [h3], h4⟩
    · rcases List.mem_singleton.1 hy with rfl
      refine ⟨rfl, h0, ?_, hk⟩
      simp [sameKey_kl wa wc wa wc]
  · by_cases hp : e.1 = (a, c)
    · rw [hp]; simp
    · refine List.mem_append_left _ (h.whole e he ?_ hs)
      rw [sameKey_kl (hw e he).1 (hw e he).2 wa wc] at hl'
      have : decide ((e.1.1, e.1.2) = (a, c)) = false := decide_eq_false hp
      rw [this] at hl'
      simpa using hl'
theorem Got.done {S : List PQ} {left : Lit → Bool} {xs ys : List PQ} (h : Got S left xs) (hl : ∀ kl, left kl = false) (hp : ys.Perm xs) (hs : ys.Pairwise ltP) : IsFol S ys := by
  refine ⟨hs, fun y => ?_⟩
  rw [hp.mem_iff]
  constructor
  · intro hy
    obtain ⟨h1, h2, -⟩ := h.sound y hy
    exact ⟨h1, h2⟩
  · rintro ⟨h1, h2⟩
    by_cases he : ∃ e ∈ S, e.1 = y.1
    · obtain ⟨e, he, e1⟩ := he
      have := h.whole e he (hl _) (by rw [e1, ← h1]; exact h2)
      rw [e1, ← h1] at this
      exact this
    · exact absurd (h1.trans (sumAt_none fun e h h' => he ⟨e, h, h'⟩)) h2
theorem Got.len {S : List PQ} {left : Lit → Bool} {xs : List PQ} (h : Got S left xs) : xs.length ≤ S.length := by
  have h2 := nodup_lengthP h.nd (ys := S.map Prod.fst) fun p hp => by
    obtain ⟨y, hy, rfl⟩ := List.mem_map.1 hp
    obtain ⟨e, he, e1⟩ := (h.sound y hy).2.2.2
    exact List.mem_map.2 ⟨e, he, e1⟩
  simpa using h2
theorem PMap.out {D : DataW Value} {m : World} {S : List PQ} {a c : Int} {v : Value} (h : PMap D m S) (wa : Wf a) (wc : Wf c) (hk : has D (klP a c) = true) (hv : ∀ z, D.atKey (klP a c) z = .held v) : (∃ e ∈ S, e.1 = (a, c)) ∧ FracC m v (sumAt S (a, c)) := by
  obtain ⟨e, he, e1⟩ := h.keys _ hk
  obtain ⟨e2, e3⟩ := klP_inj wa wc (h.wf e he).1 (h.wf e he).2 e1
  have hp : e.1 = (a, c) := Prod.ext e2.symm e3.symm
  obtain ⟨u, h1, h2⟩ := h.some e he
  rw [hp] at h1 h2
  have := (hv .nil).symm.trans (h1 .nil)
  cases this
  exact ⟨⟨e, he, hp⟩, h2⟩
theorem pv_look {W : World} {b : Nat} {a c : Int} {v : Value} (h : ∀ W', Ext W W' → (Instr.lookup 178 (.map (some b)) (pv a c) false).run Tryz.prog W' = .ok v W') :
    ∀ W', Ext W W' → (Instr.lookup 178 (.map (some b)) (.agg #[.int .i64 a, .int .i64 c]) false).run Tryz.prog W' = .ok v W' := h

theorem icmp_ne {q : Rat} (h : ¬ q = 0) : ¬ icmp q.num 0 = 0 := by
  have : q.num ≠ 0 := fun e => h (Rat.num_eq_zero.1 e)
  unfold icmp
  split <;> (try split) <;> omega
set_option maxRecDepth 100000 in
set_option maxHeartbeats 32000000 in
theorem b_follows (xv vv : Value) (x : Ms) (vs : List Rat) (w m : World) (hV : Vw m w) (hx : MasterR m xv x) (hvv : FracL m vv vs) (ok : VOk x vs) :
    Calls Tryz.prog 113 #[xv, vv] w (RetV w m fun m' r => ∃ ys, IsFol (entS x.cols vs x.cols.length) ys ∧ FolL m' r ys) := by
  obtain ⟨xnf, rws, pen, cols, cuts⟩ := x
  obtain ⟨va, vb, vc, rfl, ha, hb, hc⟩ := hx
  simp only at ha hb hc
  obtain ⟨A, ca, rfl, hca, ha⟩ := ha.lit
  obtain ⟨B, cb, rfl, hcb, hb⟩ := hb.lit
  obtain ⟨C, cc, rfl, hcc, hc⟩ := hc.lit
  obtain ⟨V, cv, rfl, hcv, hvv⟩ := hvv.lit
  have HCO := Lib.hid hb
  have HVA := Lib.hid hvv
  have HC : Hid (∀ c ∈ cols, ColOk rws c) := ok.ms.cols
  have HT : Hid (∀ v ∈ vs, Tw 18 v) := ok.tw
  have HE : Hid (∀ k, (entS cols vs k).length ≤ 3200 ∧ ∀ e ∈ entS cols vs k, Tw 18 e.2) := by
    show ∀ k, _
    exact fun k => ⟨ok.entS_len k, fun e he => (ok.entS_mem he).1⟩
  have HLW : Hid (∀ r ∈ rws, Wf r) := by
    show ∀ r ∈ rws, _
    intro r hr
    have h1 := ok.ms.low r hr
    have h2 := ok.ms.f1
    simp only at h1 h2
    exact wf_small (by omega) (by omega)
  have HLN : Hid (∀ c ∈ cols, (opF c.2.1).length ≤ 32) := by
    show ∀ c ∈ cols, _
    exact fun c hc => ok.col_len hc
  have hfew : cols.length ≤ 100 := ok.few
  have hlen : vs.length = cols.length := ok.len
  have HEW : Hid (∀ k, ∀ e ∈ entS cols vs k, Wf e.1.1 ∧ Wf e.1.2) := by
    show ∀ k, _
    exact fun k e he => ⟨HLW.out _ (ok.entS_mem he).2.1, HLW.out _ (ok.entS_mem he).2.2⟩
  have hL := Loc.start hV
  clear hV ok ha hb hc hvv
  rw [hlen] at HVA hcv ⊢
  have HNV := Lib.hid hlen
  clear hlen
  simp only
  generalize hn1 : cols.length = nc at *
  have HN1 := Lib.hid hn1
  clear hn1
  generalize rws.length = nr at *
  generalize cuts.length = nk at *
  have hmm := @run_makeMap Tryz.prog
  go_enter Tryz.func113, Tryz.ntmps113
  go_upto_region 0 with (fail)
  refine wp_region_lit ?_
  refine t_box hL rfl rfl ?_; clear hL; intro Wh2 mh2 hL eh2; simp only [Act.put, zq1, zq2, zq3]
  go_upto_region 2 with ((first | ((with_reducible refine kAny ?_); go_skip) | (with_reducible refine stA ?_) | ((first | refine tIx ?_ | refine tFd ?_ | refine tLd ?_ | ((first | refine tSr ?_ | refine tSt ?_); clear hL; intro _ hL; simp only [splice, zq1, zq2, zq3] at hL) | ((first | refine tBx ?_ | refine tAl ?_); clear hL; intro _ _ hL _) | (refine tBs ?_; clear hL; intro _ _ hL _ hBs)); simp only [Act.put, zq1, zq2, zq3])))
  clear hmm
  have hlow : w.heap.size ≤ Wh2.heap.size := hL.ext.size
  have hL9 := hL.allocM (.map #[] 0)
  clear hL
  have hL := hL9
  clear hL9
  refine wp_region_lit ?_
  go_wp2_with (first | ((with_reducible refine kAny ?_); go_skip) | (with_reducible refine stA ?_) | ((first | refine tIx ?_ | refine tFd ?_ | refine tLd ?_ | ((first | refine tSr ?_ | refine tSt ?_); clear hL; intro _ hL; simp only [splice, zq1, zq2, zq3] at hL) | ((first | refine tBx ?_ | refine tAl ?_); clear hL; intro _ _ hL _) | (refine tBs ?_; clear hL; intro _ _ hL _ hBs)); simp only [Act.put, zq1, zq2, zq3]))
  go_loopw [18] (fun i wr => ∃ (k : Nat) (mm : World), k ≤ nc ∧ i = .int .i64 k ∧ Loc w m wr mm [] ∧ Hid (FMap wr mm Wh2.heap.size (entS cols vs k))) (fun i _ => nc - (intOf i).toNat)
  case atStart => exact ⟨0, _, Nat.zero_le _, rfl, hL.sub (List.nil_sublist _), FMap.made _ _⟩
  case round =>
    clear hL
    obtain ⟨k, mm, hk, rfl, hL0, FM⟩ := hrel
    obtain ⟨wq, rfl⟩ := hL0.world
    have hM0 := hL0.mext
    by_cases hlt : k < nc
    · have hL := Loc.start hL0.vw
      obtain ⟨⟨s, ds, cost⟩, hx⟩ := at_some HN1 hlt
      obtain ⟨q, hq⟩ := at_some HNV hlt
      have hco := HCO.out
      have hva := HVA.out
      obtain ⟨b1, o1, D, cd, rfl, hds, hr1⟩ := ColL.at_ hco hx
      obtain ⟨b2, o2, g2, A2, n2, c2, h2, B2, k2, d2, rfl, hp2, hr2⟩ := FracL.at_ hva hq
      obtain ⟨i1, i2, i3, i4, i5, i6, i7⟩ := HC.out _ (List.mem_of_getElem? hx)
      simp only at hds hr1 i1 i2 i3 i4 i5 i6 i7
      have HD := Lib.hid hds
      have H3 := Lib.hid i3
      have H4 := Lib.hid i4
      have H6 := Lib.hid i6
      have HP2 := Lib.hid hp2
      have HSQ : Hid (Sm q.num q.den) := (HT.out q (List.mem_of_getElem? hq)).sm (by decide)
      have HTQ : Hid (Tw 18 q) := HT.out q (List.mem_of_getElem? hq)
      have hn32 : (opF ds).length ≤ 32 := HLN.out _ (List.mem_of_getElem? hx)
      have HST := Lib.hid (entS_step hx hq)
      simp only at HST
      clear hx hq hds hp2 i1 i2 i3 i4 i6 i7 hco hva
      generalize hnd : ds.length = nd at *
      have HND := Lib.hid hnd
      clear hnd
      go_wp2_with (first | ((with_reducible refine kAny ?_); go_skip) | (with_reducible refine stA ?_) | ((first | refine tIx ?_ | refine tFd ?_ | refine tLd ?_ | ((first | refine tSr ?_ | refine tSt ?_); clear hL; intro _ hL; simp only [splice, zq1, zq2, zq3] at hL) | ((first | refine tBx ?_ | refine tAl ?_); clear hL; intro _ _ hL _) | (refine tBs ?_; clear hL; intro _ _ hL _ hBs)); simp only [Act.put, zq1, zq2, zq3]))
      refine (e_Operated s _ ds _ _ hL.vw (DutsL.le HD.out leX) (by rw [HND.out]; exact H3.out) H4.out).mono ?_
      rintro e Wo1 ⟨vo1, mo1, rfl, hE, hMo1, hV, ho1⟩
      replace hL := hL.call hE (by assumption) hV; clear hE hV
      obtain ⟨Ao, co, rfl, hco, ho1⟩ := ho1.lit
      have HOP := Lib.hid ho1
      have FM1 : Hid (FMap Wo1 mo1 Wh2.heap.size (entS cols vs k)) := (FM.out.ext hL.ext).le hL.mext.le
      have hM1 := hL.mext
      have hL1 := (hL0.join hL).sub (List.nil_sublist _)
      clear ho1 hr1 FM hL hL0
      have hL := hL1
      clear hL1
      generalize hno : (opF ds).length = no at *
      have HNO := Lib.hid hno
      clear hno
      go_wp2_with (first | ((with_reducible refine kAny ?_); go_skip) | (with_reducible refine stA ?_) | ((first | refine tIx ?_ | refine tFd ?_ | refine tLd ?_ | ((first | refine tSr ?_ | refine tSt ?_); clear hL; intro _ hL; simp only [splice, zq1, zq2, zq3] at hL) | ((first | refine tBx ?_ | refine tAl ?_); clear hL; intro _ _ hL _) | (refine tBs ?_; clear hL; intro _ _ hL _ hBs)); simp only [Act.put, zq1, zq2, zq3]))
      go_loopw [9] (fun i wr => ∃ (j : Nat) (m2 : World), j + 1 ≤ no ∧ i = .int .i64 ((j : Int) + 1) ∧ Loc w m wr m2 [] ∧ Hid (Ext mo1 m2) ∧ Hid (FMap wr m2 Wh2.heap.size (entS cols vs k ++ colE (opF ds) q j))) (fun i _ => no + 1 - (intOf i).toNat)
      case atStart =>
        refine ⟨0, mo1, by omega, rfl, hL, Ext.refl _, ?_⟩
        rw [colE_zero, List.append_nil]
        exact FM1.out
      case round =>
        clear hL FM1
        obtain ⟨j, m2, hj, rfl, hL0, HX, FM⟩ := hrel
        have hX2 := HX.out
        have hL := Loc.start hL0.vw
        by_cases hlt2 : j + 1 < no
        · obtain ⟨a, ha⟩ := at_some HNO (show j < no by omega)
          obtain ⟨c, hc⟩ := at_some HNO hlt2
          obtain ⟨b3, o3, rfl, hc3⟩ := IntL.at_ HOP.out ha
          obtain ⟨b4, o4, e4, hc4⟩ := IntL.at_ HOP.out hc
          obtain ⟨rfl, rfl⟩ : b3 = b4 ∧ o3 = o4 := by simpa using e4
          replace hc3 := hX2.le.cell _ _ hc3
          replace hc4 := hX2.le.cell _ _ hc4
          have wa : Wf a := HLW.out _ (H6.out a (List.mem_of_getElem? ha))
          have wc : Wf c := HLW.out _ (H6.out c (List.mem_of_getElem? hc))
          have HWA := Lib.hid wa
          have HWC := Lib.hid wc
          have HCE : Hid (colE (opF ds) q j ++ [((a, c), q)] = colE (opF ds) q (j + 1)) := colE_step ha hc
          obtain ⟨v0, hs0, hlk⟩ := FM.out.look wa wc
          obtain ⟨g0, A0, n0, c0, f0, B0, p0, q0, rfl⟩ := hs0.lit
          have HS0 := Lib.hid hs0
          have HLK := Lib.hid (pv_look hlk)
          have HTS : Hid (∀ e ∈ entS cols vs k ++ colE (opF ds) q j, Tw 18 e.2) := by
            show ∀ e ∈ _, _
            intro e he
            rcases List.mem_append.1 he with h | h
            · exact (HE.out k).2 e h
            · obtain ⟨p, _, rfl⟩ := List.mem_map.1 h
              exact HTQ.out
          have HLS : Hid ((entS cols vs k ++ colE (opF ds) q j).length ≤ 6400) := by
            show _ ≤ _
            rw [List.length_append]
            have h1 := (HE.out k).1
            have h2 : (colE (opF ds) q j).length ≤ 32 := by unfold colE; rw [List.length_map, List.length_take, pairs_len, HNO.out]; omega
            omega
          have HS1 : Hid (Sm (sumAt (entS cols vs k ++ colE (opF ds) q j) (a, c)).num (sumAt (entS cols vs k ++ colE (opF ds) q j) (a, c)).den) :=
            (sum_tw HTS.out (Nat.le_trans HLS.out (by decide)) _).sm (by decide)
          have hjn : j < no := by omega
          have e3 : ((j : Int) + 1) = ((j + 1 : Nat) : Int) := by omega
          rw [e3]
          clear ha hc e4 e3 hj wa wc hs0 hlk
          obtain ⟨k1, hk1⟩ : ∃ k1, k1 = j + 1 := ⟨_, rfl⟩
          rw [← hk1] at hc4 hlt2 HCE ⊢
          have e1 : (k1 : Int) - 1 = (j : Int) := by omega
          have e5 : wrap64 ((k1 : Int) - 1) = (j : Int) := by unfold wrap64; omega
          have HK := Lib.hid hk1
          clear hk1
          generalize hSS : entS cols vs k ++ colE (opF ds) q j = SS at *
          have HSS := Lib.hid hSS
          clear hSS
          go_upto_region 9 with ((first | ((with_reducible refine kAny ?_); go_skip) | (with_reducible refine stA ?_) | ((first | refine tIx ?_ | refine tFd ?_ | refine tLd ?_ | ((first | refine tSr ?_ | refine tSt ?_); clear hL; intro _ hL; simp only [splice, zq1, zq2, zq3] at hL) | ((first | refine tBx ?_ | refine tAl ?_); clear hL; intro _ _ hL _) | (refine tBs ?_; clear hL; intro _ _ hL _ hBs)); simp only [Act.put, zq1, zq2, zq3])))
          (try simp only [eq_self] at *)
          obtain ⟨B, hB1, hB2, hB3⟩ := hL.bound
          refine wp_region_by2 11 [false, false, false, false, false, false, false, false, false, false, true] [false, false, false, false, false, false, false, false, false, false, false] [(fun v _ _ => v = ?c9_0), (fun v _ _ => v = ?c9_1), (fun v _ _ => v = ?c9_2), (fun v _ _ => v = ?c9_3), (fun v _ _ => v = ?c9_4), (fun v _ _ => v = ?c9_5), (fun v _ _ => v = ?c9_6), (fun v _ _ => v = ?c9_7), (fun v _ _ => v = ?c9_8), (fun v _ _ => v = ?c9_9), NewBlk B 180 #[.int .i64 0, .int .i64 0]] hL.vw mixed [32, 33, 34, 35, 36, 37, 38, 39, 40, 41, 10] _ (by kernel_rfl) (fun vs => by simp only [lay, Act.put, zq1, zq2, zq3]; rfl) (by kernel_rfl) (by decide) (by decide) ?s9 ?l9 ?r9
          case s9 =>
            refine ⟨?_, ?_, ?_, ?_, ?_, ?_, ?_, ?_, ?_, ?_, ?_, trivial⟩
            · intro vs W1 m1 hE hM hV hD; clear hD; replace hL := hL.call hE hM hV
              exact sPu
            · intro vs W1 m1 hE hM hV hD; clear hD; replace hL := hL.call hE hM hV
              exact sPu
            · intro vs W1 m1 hE hM hV hD; obtain ⟨⟨_, _, -, -, f33⟩, -⟩ := hD; have f33 : vs 33 = _ := f33; generalize vs 33 = x33 at f33 ⊢; subst x33; replace hL := hL.call hE hM hV
              exact sPu
            · intro vs W1 m1 hE hM hV hD; obtain ⟨⟨_, _, -, -, f32⟩, ⟨_, _, -, -, f34⟩, -⟩ := hD; have f32 : vs 32 = _ := f32; generalize vs 32 = x32 at f32 ⊢; subst x32; have f34 : vs 34 = _ := f34; generalize vs 34 = x34 at f34 ⊢; subst x34; replace hL := hL.call hE hM hV
              exact sIx
            · intro vs W1 m1 hE hM hV hD; obtain ⟨⟨_, _, -, -, f35⟩, -⟩ := hD; have f35 : vs 35 = _ := f35; generalize vs 35 = x35 at f35 ⊢; subst x35; replace hL := hL.call hE hM hV
              exact sLd
            · intro vs W1 m1 hE hM hV hD; clear hD; replace hL := hL.call hE hM hV
              exact sPu
            · intro vs W1 m1 hE hM hV hD; clear hD; replace hL := hL.call hE hM hV
              exact sPu
            · intro vs W1 m1 hE hM hV hD; obtain ⟨⟨_, _, -, -, f37⟩, ⟨_, _, -, -, f38⟩, -⟩ := hD; have f37 : vs 37 = _ := f37; generalize vs 37 = x37 at f37 ⊢; subst x37; have f38 : vs 38 = _ := f38; generalize vs 38 = x38 at f38 ⊢; subst x38; replace hL := hL.call hE hM hV
              exact sIx
            · intro vs W1 m1 hE hM hV hD; obtain ⟨⟨_, _, -, -, f39⟩, -⟩ := hD; have f39 : vs 39 = _ := f39; generalize vs 39 = x39 at f39 ⊢; subst x39; replace hL := hL.call hE hM hV
              exact sLd
            · intro vs W1 m1 hE hM hV hD; obtain ⟨⟨_, _, -, -, f36⟩, ⟨_, _, -, -, f40⟩, -⟩ := hD; have f36 : vs 36 = _ := f36; generalize vs 36 = x36 at f36 ⊢; subst x36; have f40 : vs 40 = _ := f40; generalize vs 40 = x40 at f40 ⊢; subst x40; replace hL := hL.call hE hM hV
              exact sPu
            · intro vs W1 m1 hE hM hV hD; clear hD
              exact one2_alloc hV (Nat.le_trans hB3 hE.size) rfl rfl rfl ZcC.h
          case l9 =>
            refine ⟨fun h => (by cases h), fun h => (by cases h), fun h => (by cases h), fun h => (by cases h), fun h => (by cases h), fun h => (by cases h), fun h => (by cases h), fun h => (by cases h), fun h => (by cases h), fun h => (by cases h), fun h => (by cases h), trivial⟩
          intro vs W1 m1 hE hM hV hF hD
          obtain ⟨-, -, -, -, -, -, -, -, -, ⟨_, _, -, -, f41⟩, ⟨_, _, j10, i10, f10⟩, -⟩ := hF
          replace hL := hL.call hE hM hV
          have f41 : vs 41 = _ := f41
          generalize vs 41 = x41 at f41 ⊢
          subst x41
          obtain ⟨b10, e10, hL⟩ := Loc.addB (Lt := []) hB1 hB2 hL f10 j10 i10 ad0
          simp only [e10, List.cons_append, List.nil_append] at hL ⊢
          clear e10 f10 j10 i10
          clear hB1 hB2 hB3 hD
          clear hE hV
          simp only [List.drop_succ_cons, List.drop_zero]
          go_wp2_with (first | ((with_reducible refine kAny ?_); go_skip) | (with_reducible refine stA ?_) | ((first | refine tIx ?_ | refine tFd ?_ | refine tLd ?_ | ((first | refine tSr ?_ | refine tSt ?_); clear hL; intro _ hL; simp only [splice, zq1, zq2, zq3] at hL) | ((first | refine tBx ?_ | refine tAl ?_); clear hL; intro _ _ hL _) | (refine tBs ?_; clear hL; intro _ _ hL _ hBs)); simp only [Act.put, zq1, zq2, zq3]))
          refine QN.mk ?_
          go_upto_region 10 with ((first | ((with_reducible refine kAny ?_); go_skip) | (with_reducible refine stA ?_) | ((first | refine tIx ?_ | refine tFd ?_ | refine tLd ?_ | ((first | refine tSr ?_ | refine tSt ?_); clear hL; intro _ hL; simp only [splice, zq1, zq2, zq3] at hL) | ((first | refine tBx ?_ | refine tAl ?_); clear hL; intro _ _ hL _) | (refine tBs ?_; clear hL; intro _ _ hL _ hBs)); simp only [Act.put, zq1, zq2, zq3])))
          refine wp_region_by2 10 [false, false, false, false, false, false, false, false, false, false] [false, false, false, false, false, false, false, false, false, false] [(fun v _ _ => v = ?c10_0), (fun v _ _ => v = ?c10_1), (fun v _ _ => v = ?c10_2), (fun v _ _ => v = ?c10_3), Is (.agg #[.bool g0, .slice A0 n0 c0, .bool f0, .slice B0 p0 q0]), (fun v _ _ => v = ?c10_5), (fun v _ _ => v = ?c10_6), (fun v _ _ => v = ?c10_7), (fun v _ _ => v = ?c10_8), Of (fun um v => FracC um v (sumAt SS (a, c) + q))] hL.vw mixed [42, 43, 44, 45, 46, 47, 48, 49, 50, 51] _ (by kernel_rfl) (fun vs => by simp only [lay, Act.put, zq1, zq2, zq3]; rfl) (by kernel_rfl) (by decide) (by decide) ?s10 ?l10 ?r10
          case s10 =>
            refine ⟨?_, ?_, ?_, ?_, ?_, ?_, ?_, ?_, ?_, ?_, trivial⟩
            · intro vs W1 m1 hE hM hV hD; clear hD; replace hL := hL.call hE hM hV
              exact sPu
            · intro vs W1 m1 hE hM hV hD; clear hD; replace hL := hL.call hE hM hV
              exact sLd
            · intro vs W1 m1 hE hM hV hD; clear hD; replace hL := hL.call hE hM hV
              exact sPu
            · intro vs W1 m1 hE hM hV hD; clear hD; replace hL := hL.call hE hM hV
              exact sLd
            · intro vs W1 m1 hE hM hV hD; obtain ⟨⟨_, _, -, -, f44⟩, ⟨_, _, -, -, f45⟩, -⟩ := hD; have f44 : vs 44 = _ := f44; generalize vs 44 = x44 at f44 ⊢; subst x44; have f45 : vs 45 = _ := f45; generalize vs 45 = x45 at f45 ⊢; subst x45
              have hr := HLK.out _ (hL.ext.trans hE); go_wp2_with fail; refine One2.still hV ?_; exact rfl
            · intro vs W1 m1 hE hM hV hD; clear hD; replace hL := hL.call hE hM hV
              exact sPu
            · intro vs W1 m1 hE hM hV hD; clear hD; replace hL := hL.call hE hM hV
              exact sPu
            · intro vs W1 m1 hE hM hV hD; obtain ⟨⟨_, _, -, -, f47⟩, ⟨_, _, -, -, f48⟩, -⟩ := hD; have f47 : vs 47 = _ := f47; generalize vs 47 = x47 at f47 ⊢; subst x47; have f48 : vs 48 = _ := f48; generalize vs 48 = x48 at f48 ⊢; subst x48; replace hL := hL.call hE hM hV
              exact sIx
            · intro vs W1 m1 hE hM hV hD; obtain ⟨⟨_, _, -, -, f49⟩, -⟩ := hD; have f49 : vs 49 = _ := f49; generalize vs 49 = x49 at f49 ⊢; subst x49; replace hL := hL.call hE hM hV
              exact sLd
            · intro vs W1 m1 hE hM hV hD; obtain ⟨⟨_, _, -, -, f46⟩, ⟨_, _, -, -, f50⟩, -⟩ := hD; have f46 : vs 46 = _ := f46; generalize vs 46 = x46 at f46 ⊢; subst x46; have f50 : vs 50 = _ := f50; generalize vs 50 = x50 at f50 ⊢; subst x50
              go_wp2_with fail
              refine (q_AddSum _ _ _ _ _ _ hV (HS0.out.le leX) (HP2.out.le leX) HS1.out HSQ.out).mono ?_
              rintro e W2 ⟨v, m2, rfl, hE2, hM2, hV2, h⟩
              go_wp2_with fail
              refine One2.call hE2 hM2 hV2 ?_; first | exact h | exact rfl
          case l10 =>
            refine ⟨fun h => (by cases h), fun h => (by cases h), fun h => (by cases h), fun h => (by cases h), fun h => (by cases h), fun h => (by cases h), fun h => (by cases h), fun h => (by cases h), fun h => (by cases h), fun h => (by cases h), trivial⟩
          intro vs W1 m1 hE hM hV hF hD
          clear hD
          obtain ⟨⟨_, _, -, -, f42⟩, ⟨_, _, -, -, f43⟩, -, -, -, -, -, -, -, ⟨_, _, -, i51, f51⟩, -⟩ := hF
          replace hL := hL.call hE hM hV
          have f42 : vs 42 = _ := f42
          generalize vs 42 = x42 at f42 ⊢
          subst x42
          have f43 : vs 43 = _ := f43
          generalize vs 43 = x43 at f43 ⊢
          subst x43
          replace f51 : FracC _ (vs 51) (sumAt SS (a, c) + q) := f51
          replace f51 := f51.le i51.le
          clear i51
          obtain ⟨g51, A51, n51, c51, h51, B51, k51, d51, e51, f51⟩ := f51.lit
          generalize vs 51 = x51 at e51 ⊢
          subst x51
          clear hE hV
          simp only [List.drop_succ_cons, List.drop_zero]
          have hfm := (FM.out.ext hL.ext).le hL.mext.le
          obtain ⟨W9, hup, hf9, hg9⟩ := hfm.up (Nat.le_trans HLS.out (by decide)) HWA.out HWC.out f51
          have HF9 := Lib.hid hf9
          have HG9 := Lib.hid hg9
          have HNC := Lib.hid hfm.notCells
          have hM9 := hL.mext
          have hsz9 := hL.vw.size
          have hL9 := (hL0.join hL).sub (List.nil_sublist _)
          clear hL hL0 hfm hf9 hg9 FM f51
          have hL := hL9
          clear hL9
          unfold pv at hup
          go_wp2_with (first | ((with_reducible refine kAny ?_); go_skip) | (with_reducible refine stA ?_) | ((first | refine tIx ?_ | refine tFd ?_ | refine tLd ?_ | ((first | refine tSr ?_ | refine tSt ?_); clear hL; intro _ hL; simp only [splice, zq1, zq2, zq3] at hL) | ((first | refine tBx ?_ | refine tAl ?_); clear hL; intro _ _ hL _) | (refine tBs ?_; clear hL; intro _ _ hL _ hBs)); simp only [Act.put, zq1, zq2, zq3]))
          refine QN.mk ?_
          go_wp2_with (first | ((with_reducible refine kAny ?_); go_skip) | (with_reducible refine stA ?_) | ((first | refine tIx ?_ | refine tFd ?_ | refine tLd ?_ | ((first | refine tSr ?_ | refine tSt ?_); clear hL; intro _ hL; simp only [splice, zq1, zq2, zq3] at hL) | ((first | refine tBx ?_ | refine tAl ?_); clear hL; intro _ _ hL _) | (refine tBs ?_; clear hL; intro _ _ hL _ hBs)); simp only [Act.put, zq1, zq2, zq3]))
          go_roundw
          case rel =>
            have hx9 : Ext _ (hidTo _ W9.heap.size) := hidTo_ext (by rw [hsz9]; exact HG9.out.size)
            refine ⟨k1, _, by have := HK.out; omega, by have := HK.out; go_num, hL.mapTurn HG9.out hlow HNC.out, hX2.trans (hM9.trans hx9), ?_⟩
            rw [← HCE.out, ← List.append_assoc, HSS.out]
            exact HF9.out.le hx9.le
          case measure => have := HK.out; simp [intOf] <;> omega
        · have h0 : ¬ (j : Int) + 1 < (no : Int) := by omega
          have HCE : Hid (colE (opF ds) q j = entE (opF ds) q) := colE_end (by rw [HNO.out]; omega)
          clear hL
          have hL := hL0
          go_wp2_with (first | ((with_reducible refine kAny ?_); go_skip) | (with_reducible refine stA ?_) | ((first | refine tIx ?_ | refine tFd ?_ | refine tLd ?_ | ((first | refine tSr ?_ | refine tSt ?_); clear hL; intro _ hL; simp only [splice, zq1, zq2, zq3] at hL) | ((first | refine tBx ?_ | refine tAl ?_); clear hL; intro _ _ hL _) | (refine tBs ?_; clear hL; intro _ _ hL _ hBs)); simp only [Act.put, zq1, zq2, zq3]))
          go_roundw
          case rel => exact ⟨k + 1, m2, by omega, by go_num, hL, by rw [← HST.out, ← HCE.out]; exact FM.out⟩
          case measure => simp [intOf] <;> omega
    · have hkn : k = nc := by omega
      subst hkn
      have hL := hL0
      clear hL0 hlt hk
      obtain ⟨nD, D, hnD, hown, hpm⟩ := FM.out
      have HPM := Lib.hid hpm
      have HS := HE.out k
      have HSL := Lib.hid HS.1
      have HST := Lib.hid HS.2
      have HSW := Lib.hid (HEW.out k)
      have hrlow : w.heap.size ≤ wq.heap.size := hL.ext.size
      clear FM hpm HS hM0
      generalize hSS : entS cols vs k = SS at *
      go_upto_region 13 with ((first | ((with_reducible refine kAny ?_); go_skip) | (with_reducible refine stA ?_) | ((first | refine tIx ?_ | refine tFd ?_ | refine tLd ?_ | ((first | refine tSr ?_ | refine tSt ?_); clear hL; intro _ hL; simp only [splice, zq1, zq2, zq3] at hL) | ((first | refine tBx ?_ | refine tAl ?_); clear hL; intro _ _ hL _) | (refine tBs ?_; clear hL; intro _ _ hL _ hBs)); simp only [Act.put, zq1, zq2, zq3])))
      refine wp_region_lit ?_
      go_wp2_with (first | (at_range; refine wl_range hL rfl rfl rfl hown ?_; clear hL; intro W2 m2 hL hX2 hrg _) | (first | ((with_reducible refine kAny ?_); go_skip) | (with_reducible refine stA ?_) | ((first | refine tIx ?_ | refine tFd ?_ | refine tLd ?_ | ((first | refine tSr ?_ | refine tSt ?_); clear hL; intro _ hL; simp only [splice, zq1, zq2, zq3] at hL) | ((first | refine tBx ?_ | refine tAl ?_); clear hL; intro _ _ hL _) | (refine tBs ?_; clear hL; intro _ _ hL _ hBs)); simp only [Act.put, zq1, zq2, zq3])))
      go_frame
      have HX2 := Lib.hid hX2
      clear hX2
      go_loopw [11] (fun out wr => ∃ (left : Lit → Bool) (cnt : Nat) (mm2 : World) (xs : List PQ) (n3 : Nat) (R3 : List Lo), Hid (RngF wr Wh2.heap.size wq.heap.size nD D left cnt) ∧ Loc w m wr mm2 R3 ∧ Hid (RowA 139 6 FolR mm2 out n3 xs R3) ∧ Hid (Got SS left xs) ∧ Hid (Ext mm mm2) ∧ Hid (∀ kl, left kl = true → has D kl = true)) (fun _ wr => wr.rangeLeft Wh2.heap.size wq.heap.size)
      case atStart => exact ⟨_, _, m2, [], 0, [], hrg, hL, RowA.nil, Got.start HPM.out, HX2.out, fun _ h => h⟩
      case round =>
        clear hL hrg HX2
        obtain ⟨left, cnt, mm2, xs, n3, R3, HRG, hL, row, HGOT, HX, HLE⟩ := hrel
        obtain ⟨A3, c3, rfl, row1⟩ := row.out.lit
        have hn3 : n3 ≤ 3200 := by have := row1.len; have := HGOT.out.len; have := HSL.out; omega
        have ROW := Lib.hid row1
        clear row row1
        go_upto_region 14 with ((first | ((with_reducible refine kAny ?_); go_skip) | (with_reducible refine stA ?_) | ((first | refine tIx ?_ | refine tFd ?_ | refine tLd ?_ | ((first | refine tSr ?_ | refine tSt ?_); clear hL; intro _ hL; simp only [splice, zq1, zq2, zq3] at hL) | ((first | refine tBx ?_ | refine tAl ?_); clear hL; intro _ _ hL _) | (refine tBs ?_; clear hL; intro _ _ hL _ hBs)); simp only [Act.put, zq1, zq2, zq3])))
        refine wp_region_lit ?_
        refine wl_next hL rfl rfl rfl HRG.out hrlow ?_ ?_
        · intro hl0
          have HL0 := Lib.hid hl0
          clear hl0
          simp only [Act.put, zq1, zq2, zq3]
          go_wp2_with (first | ((with_reducible refine kAny ?_); go_skip) | (with_reducible refine stA ?_) | ((first | refine tIx ?_ | refine tFd ?_ | refine tLd ?_ | ((first | refine tSr ?_ | refine tSt ?_); clear hL; intro _ hL; simp only [splice, zq1, zq2, zq3] at hL) | ((first | refine tBx ?_ | refine tAl ?_); clear hL; intro _ _ hL _) | (refine tBs ?_; clear hL; intro _ _ hL _ hBs)); simp only [Act.put, zq1, zq2, zq3]))
          refine (sort_fols (A := []) hL ROW.out HGOT.out.nd (Nat.le_trans hn3 (by decide))).mono ?_
          rintro e W5 ⟨rfl, m5, ys, R5, hL5, hE5, row5, hp, hs⟩
          clear hL
          have hL := hL5
          have HIS := Lib.hid (HGOT.out.done HL0.out hp hs)
          have ROW5 := Lib.hid row5
          clear hL5 row5 hp hs
          go_wp2_with (first | ((with_reducible refine kAny ?_); go_skip) | (with_reducible refine stA ?_) | ((first | refine tIx ?_ | refine tFd ?_ | refine tLd ?_ | ((first | refine tSr ?_ | refine tSt ?_); clear hL; intro _ hL; simp only [splice, zq1, zq2, zq3] at hL) | ((first | refine tBx ?_ | refine tAl ?_); clear hL; intro _ _ hL _) | (refine tBs ?_; clear hL; intro _ _ hL _ hBs)); simp only [Act.put, zq1, zq2, zq3]))
          obtain ⟨m9, hL9, hle9, hl9, -⟩ := RowA.show (A := []) FolR.mono hL ROW5.out
          go_ret
          exact RetV.mk hL9 ⟨ys, (by rw [hSS]; exact HIS.out), hl9⟩
        · intro x c v W3 m3 cnt' wx wc hlk hat hrg3 hlt3 hL3 hX3 hen
          obtain ⟨hk3, hv3⟩ := HPM.out.out wx wc (HLE.out _ hlk) hat
          obtain ⟨gv, Av, nv, cv', fv, Bv, pv', qv, rfl, hv3⟩ := hv3.lit
          have HV3 : Hid (FracC m3 (.agg #[.bool gv, .slice Av nv cv', .bool fv, .slice Bv pv' qv]) (sumAt SS (x, c))) := hv3.le (Le.trans HX.out.le hX3.le)
          have HFT : Hid (Fit 200 (sumAt SS (x, c))) := (sum_tw HST.out (Nat.le_trans HSL.out (by decide)) _).fit (by decide)
          have HRG3 := Lib.hid hrg3
          have HLK := Lib.hid hlk
          have HK3 := Lib.hid hk3
          have HWX := Lib.hid wx
          have HWC := Lib.hid wc
          have HXX := Lib.hid (HX.out.trans hX3)
          have HXR := Lib.hid hX3
          have HLE3 : Hid (∀ kl, (left kl && !kl.sameKey (klP x c)) = true → has D kl = true) := by
            show ∀ kl, _
            intro kl h
            simp only [Bool.and_eq_true] at h
            exact HLE.out kl h.1
          have HLT : Hid (cnt' < wr.rangeLeft Wh2.heap.size wq.heap.size) := by show _ < _; rw [HRG.out.left_eq]; exact hlt3
          clear hL hrg3 hlk hk3 wx wc hX3 hat hlt3 hv3
          have hLb := hL3
          clear hL3
          have hL := Loc.start hLb.vw
          simp only [Act.put, zq1, zq2, zq3]
          by_cases h0 : sumAt SS (x, c) = 0
          · have hz : icmp (sumAt SS (x, c)).num 0 = 0 := by rw [h0]; rfl
            have HG3 := Lib.hid (HGOT.out.skip HSW.out HWX.out HWC.out h0)
            clear h0
            go_wp2_with (first | ((with_reducible refine kAny ?_); go_skip) | (with_reducible refine stA ?_) | ((first | refine tIx ?_ | refine tFd ?_ | refine tLd ?_ | ((first | refine tSr ?_ | refine tSt ?_); clear hL; intro _ hL; simp only [splice, zq1, zq2, zq3] at hL) | ((first | refine tBx ?_ | refine tAl ?_); clear hL; intro _ _ hL _) | (refine tBs ?_; clear hL; intro _ _ hL _ hBs)); simp only [Act.put, zq1, zq2, zq3]))
            refine (q_Sign _ (sumAt SS (x, c)) _ _ hL.vw (HV3.out.le leX) HFT.out).mono ?_
            rintro e Ws1 ⟨_, ms1, rfl, hE, hMs1, hV, rfl⟩
            replace hL := hL.call hE (by assumption) hV; clear hE hV
            rw [hz]
            go_wp2_with (first | ((with_reducible refine kAny ?_); go_skip) | (with_reducible refine stA ?_) | ((first | refine tIx ?_ | refine tFd ?_ | refine tLd ?_ | ((first | refine tSr ?_ | refine tSt ?_); clear hL; intro _ hL; simp only [splice, zq1, zq2, zq3] at hL) | ((first | refine tBx ?_ | refine tAl ?_); clear hL; intro _ _ hL _) | (refine tBs ?_; clear hL; intro _ _ hL _ hBs)); simp only [Act.put, zq1, zq2, zq3]))
            go_roundw
            case rel =>
              have hm9 := hL.mext
              exact ⟨fun z => left z && !z.sameKey (klP x c), cnt', _, xs, n3, R3, HRG3.out.still hL.ext.still, (hLb.join hL).sub (List.sublist_append_right _ _), RowA.le FolR.mono ROW.out (Le.trans HXR.out.le hm9.le), HG3.out, HXX.out.trans hm9, HLE3.out⟩
            case measure => rw [(HRG3.out.still hL.ext.still).left_eq]; exact HLT.out
          · have hz : ¬ icmp (sumAt SS (x, c)).num 0 = 0 := icmp_ne h0
            have HG3 := Lib.hid (HGOT.out.more HSW.out HWX.out HWC.out HLK.out HK3.out h0)
            have hz2 : (icmp (sumAt SS (x, c)).num 0 != 0) = true := by simpa using hz
            clear h0
            generalize hzz : icmp (sumAt SS (x, c)).num 0 = zz at *
            have HZZ := Lib.hid hzz
            clear hzz
            go_wp2_with (first | ((with_reducible refine kAny ?_); go_skip) | (with_reducible refine stA ?_) | ((first | refine tIx ?_ | refine tFd ?_ | refine tLd ?_ | ((first | refine tSr ?_ | refine tSt ?_); clear hL; intro _ hL; simp only [splice, zq1, zq2, zq3] at hL) | ((first | refine tBx ?_ | refine tAl ?_); clear hL; intro _ _ hL _) | (refine tBs ?_; clear hL; intro _ _ hL _ hBs)); simp only [Act.put, zq1, zq2, zq3]))
            refine (q_Sign _ (sumAt SS (x, c)) _ _ hL.vw (HV3.out.le leX) HFT.out).mono ?_
            rintro e Ws1 ⟨_, ms1, rfl, hE, hMs1, hV, rfl⟩
            replace hL := hL.call hE (by assumption) hV; clear hE hV
            rw [HZZ.out]
            go_wp2_with (first | ((with_reducible refine kAny ?_); go_skip) | (with_reducible refine stA ?_) | ((first | refine tIx ?_ | refine tFd ?_ | refine tLd ?_ | ((first | refine tSr ?_ | refine tSt ?_); clear hL; intro _ hL; simp only [splice, zq1, zq2, zq3] at hL) | ((first | refine tBx ?_ | refine tAl ?_); clear hL; intro _ _ hL _) | (refine tBs ?_; clear hL; intro _ _ hL _ hBs)); simp only [Act.put, zq1, zq2, zq3]))
            refine goA ?_
            obtain ⟨vs7, r7, z7, y7, l7⟩ := ROW.out
            have hm9 := hL.mext
            have hs9 := hL.ext.still
            have hLj := hLb.join hL
            simp only [List.cons_append, List.nil_append] at hLj
            refine wl_appendS (A := [_, _]) hLj r7 (wanted_none rfl) rfl ap_Fols (by omega) rfl rfl (news := [.int .i64 x, .int .i64 c, .bool gv, .slice Av nv cv', .bool fv, .slice Bv pv' qv]) rfl ((Blk.sl hBs (n := 6) rfl).le hL.vw.le) rfl (by omega) (by omega) ?_
            clear hL hLj hLb
            intro v1 W5 m5 R5 hL r8 e8 hst
            obtain ⟨A9, c9, rfl, -⟩ := r8.lit
            have hl5 : Le m3 m5 := Le.trans hm9.le e8.le
            have rd := RowA.snoc (R := FolR) (m := m5) (x := ((x, c), sumAt SS (x, c))) r8 z7 (y7.mono fun v x hv => FolR.mono _ _ _ _ hv (Le.trans HXR.out.le hl5)) l7 rfl ⟨⟨x, c, gv, Av, nv, cv', fv, Bv, pv', qv⟩, rfl, rfl, rfl, HV3.out.le hl5⟩
            have RD := Lib.hid rd
            have HR5 := Lib.hid ((HRG3.out.still hs9).still hst)
            have HX5 := Lib.hid ((HXX.out.trans hm9).trans e8)
            clear rd r8 r7 z7 y7 l7 hst hs9 hm9 e8 hl5
            have hL5 := hL.sub (B := R5) (List.sublist_append_right _ _)
            clear hL
            have hL := hL5
            clear hL5
            simp only [Act.put, zq1, zq2, zq3]
            go_wp2_with (first | ((with_reducible refine kAny ?_); go_skip) | (with_reducible refine stA ?_) | ((first | refine tIx ?_ | refine tFd ?_ | refine tLd ?_ | ((first | refine tSr ?_ | refine tSt ?_); clear hL; intro _ hL; simp only [splice, zq1, zq2, zq3] at hL) | ((first | refine tBx ?_ | refine tAl ?_); clear hL; intro _ _ hL _) | (refine tBs ?_; clear hL; intro _ _ hL _ hBs)); simp only [Act.put, zq1, zq2, zq3]))
            go_roundw
            case rel => exact ⟨fun z => left z && !z.sameKey (klP x c), cnt', m5, _, n3 + 1, R5, HR5.out, hL, RD.out, HG3.out, HX5.out, HLE3.out⟩
            case measure => rw [HR5.out.left_eq]; exact HLT.out
end Go.Proofs.YtmhkmmmompediaaGreat

/- Contracts of branch.check, pairingref27.valued and branch.Follows. -/
namespace Go.Proofs.YtmhkmmmompediaaGreat
open Go.RowKit

theorem master_nc {m : World} {nf pen : Int} {A B C : Option Addr} {nr ca nc cb nk cc : Nat} {x : Ms} (h : MasterR m (.agg #[.int .i64 nf, .slice A nr ca, .int .i64 pen, .slice B nc cb, .slice C nk cc]) x) : nc = x.cols.length := by
  obtain ⟨va, vb, vc, e, ha, hb, hc⟩ := h
  obtain ⟨B', cb', rfl, -, -⟩ := hb.lit
  simp at e
  omega
set_option maxRecDepth 100000 in
set_option maxHeartbeats 16000000 in
theorem b_check (xv : Value) (x : Ms) (V : Option Addr) (n c : Nat) (e : Int) (w m : World) (hV : Vw m w) (hx : MasterR m xv x) (ok : MsOk x) (he : e = if n = x.cols.length then 0 else 12) :
    Calls Tryz.prog 112 #[xv, .slice V n c] w (RetV w m fun _ r => r = .int .i64 e) := by
  have HX := Lib.hid hx
  obtain ⟨A, nr, ca, B, nc, cb, C, nk, cc, rfl, hx1⟩ := hx.lit
  have hnc := master_nc hx1
  have KV : Hid (∀ w m', Vw m' w → Le m m' → Calls Tryz.prog 68 #[.agg #[.int .i64 x.nf, .slice A nr ca, .int .i64 x.pen, .slice B nc cb, .slice C nk cc]] w (RetV w m' fun _ r => r = .int .i64 0)) := by
    show ∀ w m', _
    exact fun w m' hV hle => m_ValidateMaster _ x w m' hV (HX.out.le hle) ok
  rw [← hnc] at he
  have hL := Loc.start hV
  clear hV hx1 HX hnc ok
  generalize x.nf = nf at *
  generalize x.pen = pen at *
  by_cases h : n = nc
  · subst h
    rw [if_pos rfl] at he
    subst he
    go_enter Tryz.func112, Tryz.ntmps112
    go_upto_region 0 with (fail)
    refine wp_region_lit ?_
    refine t_box hL rfl rfl ?_; clear hL; intro Wh2 mh2 hL eh2; simp only [Act.put, zq1, zq2, zq3]
    go_wp2_with (first | ((with_reducible refine kAny ?_); go_skip) | (with_reducible refine stA ?_) | ((first | refine tFd ?_ | refine tLd ?_ | (refine tBx ?_; clear hL; intro _ _ hL _)); simp only [Act.put, zq1, zq2, zq3]))
    refine (KV.out _ _ hL.vw leX).mono ?_
    rintro e Wc1 ⟨_, mc1, rfl, hE, hMc1, hV, rfl⟩
    replace hL := hL.call hE (by assumption) hV; clear hE hV
    go_wp2_with (first | ((with_reducible refine kAny ?_); go_skip) | (with_reducible refine stA ?_) | ((first | refine tFd ?_ | refine tLd ?_ | (refine tBx ?_; clear hL; intro _ _ hL _)); simp only [Act.put, zq1, zq2, zq3]))
    go_ret
    exact RetV.mk hL rfl
  · rw [if_neg h] at he
    subst he
    have h' : ¬ (n : Int) = (nc : Int) := by omega
    have h2 : ((n : Int) != (nc : Int)) = true := by simpa using h'
    go_enter Tryz.func112, Tryz.ntmps112
    go_upto_region 0 with (fail)
    refine wp_region_lit ?_
    refine t_box hL rfl rfl ?_; clear hL; intro Wh2 mh2 hL eh2; simp only [Act.put, zq1, zq2, zq3]
    go_wp2_with (first | ((with_reducible refine kAny ?_); go_skip) | (with_reducible refine stA ?_) | ((first | refine tFd ?_ | refine tLd ?_ | (refine tBx ?_; clear hL; intro _ _ hL _)); simp only [Act.put, zq1, zq2, zq3]))
    refine (KV.out _ _ hL.vw leX).mono ?_
    rintro e Wc1 ⟨_, mc1, rfl, hE, hMc1, hV, rfl⟩
    replace hL := hL.call hE (by assumption) hV; clear hE hV
    go_wp2_with (first | ((with_reducible refine kAny ?_); go_skip) | (with_reducible refine stA ?_) | ((first | refine tFd ?_ | refine tLd ?_ | (refine tBx ?_; clear hL; intro _ _ hL _)); simp only [Act.put, zq1, zq2, zq3]))
    go_ret
    exact RetV.mk hL rfl

set_option maxRecDepth 100000 in
set_option maxHeartbeats 16000000 in
theorem b_Follows (xv vv : Value) (x : Ms) (vs : List Rat) (w m : World) (hV : Vw m w) (hx : MasterR m xv x) (hvv : FracL m vv vs) (ok : VOk x vs) :
    Calls Tryz.prog 47 #[xv, vv] w (RetV w m fun m' r => ∃ v ys, r = .tuple #[v, .int .i64 0] ∧ IsFol (entS x.cols vs x.cols.length) ys ∧ FolL m' v ys) := by
  have HX := Lib.hid hx
  have HVV := Lib.hid hvv
  obtain ⟨A, nr, ca, B, nc, cb, C, nk, cc, rfl, hx1⟩ := hx.lit
  obtain ⟨V, cv, rfl, hcv, hvv1⟩ := hvv.lit
  have KV : Hid (∀ w m', Vw m' w → Le m m' → Calls Tryz.prog 112 #[.agg #[.int .i64 x.nf, .slice A nr ca, .int .i64 x.pen, .slice B nc cb, .slice C nk cc], .slice V vs.length cv] w (RetV w m' fun _ r => r = .int .i64 0)) := by
    show ∀ w m', _
    exact fun w m' hV hle => b_check _ x V vs.length cv 0 w m' hV (HX.out.le hle) ok.ms (by rw [if_pos ok.len])
  have KF : Hid (∀ w m', Vw m' w → Le m m' → Calls Tryz.prog 113 #[.agg #[.int .i64 x.nf, .slice A nr ca, .int .i64 x.pen, .slice B nc cb, .slice C nk cc], .slice V vs.length cv] w (RetV w m' fun m' r => ∃ ys, IsFol (entS x.cols vs x.cols.length) ys ∧ FolL m' r ys)) := by
    show ∀ w m', _
    exact fun w m' hV hle => b_follows _ _ x vs w m' hV (HX.out.le hle) (FracL.le HVV.out hle) ok
  have hL := Loc.start hV
  clear hV hx1 HX hvv1 HVV ok
  generalize x.nf = nf at *
  generalize x.pen = pen at *
  generalize vs.length = nv at *
  generalize entS x.cols vs x.cols.length = SS at *
  go_enter Tryz.func47, Tryz.ntmps47
  go_upto_region 0 with (fail)
  refine wp_region_lit ?_
  refine t_box hL rfl rfl ?_; clear hL; intro Wh2 mh2 hL eh2; simp only [Act.put, zq1, zq2, zq3]
  go_wp2_with (first | ((with_reducible refine kAny ?_); go_skip) | (with_reducible refine stA ?_) | ((first | refine tLd ?_ | (refine tBx ?_; clear hL; intro _ _ hL _)); simp only [Act.put, zq1, zq2, zq3]))
  refine (KV.out _ _ hL.vw leX).mono ?_
  rintro e Wc1 ⟨_, mc1, rfl, hE, hMc1, hV, rfl⟩
  replace hL := hL.call hE (by assumption) hV; clear hE hV
  go_wp2_with (first | ((with_reducible refine kAny ?_); go_skip) | (with_reducible refine stA ?_) | ((first | refine tLd ?_ | (refine tBx ?_; clear hL; intro _ _ hL _)); simp only [Act.put, zq1, zq2, zq3]))
  refine (KF.out _ _ hL.vw leX).mono ?_
  rintro e Wc2 ⟨vc2, mc2, rfl, hE, hMc2, hV, hc2⟩
  replace hL := hL.call hE (by assumption) hV; clear hE hV
  obtain ⟨ys, hf, hl⟩ := hc2
  go_wp2_with (first | ((with_reducible refine kAny ?_); go_skip) | (with_reducible refine stA ?_) | ((first | refine tLd ?_ | (refine tBx ?_; clear hL; intro _ _ hL _)); simp only [Act.put, zq1, zq2, zq3]))
  go_ret2
  exact RetV.mk hL ⟨_, ys, rfl, hf, hl⟩

end Go.Proofs.YtmhkmmmompediaaGreat

/- Contracts of rational.Sub, FromInt, Floor and Abs for small canonical fractions. -/
namespace Go.Proofs.YtmhkmmmompediaaGreat
open Go.RowKit

set_option maxRecDepth 100000 in
set_option maxHeartbeats 8000000 in
theorem q_Sub (a b : Value) (x y x' y' : Int) (w m : World) (hV : Vw m w) (ha : FracS m a x y) (hb : FracS m b x' y') (hs : Sm x y) (hs' : Sm x' y') :
    Calls Tryz.prog 115 #[a, b] w (RetV w m fun m' r => FracC m' r (Rat.divInt x y - Rat.divInt x' y')) := by
  have ha' := ha
  have hb' := hb
  obtain ⟨_, _, _, _, rfl, h1, h2, -, -⟩ := ha'
  obtain ⟨g1, A1, n1, c1, rfl, rfl⟩ := h1.parts'
  obtain ⟨g2, A2, n2, c2, rfl, rfl⟩ := h2.parts'
  obtain ⟨_, _, _, _, rfl, h3, h4, -, -⟩ := hb'
  obtain ⟨g3, A3, n3, c3, rfl, rfl⟩ := h3.parts'
  obtain ⟨g4, A4, n4, c4, rfl, rfl⟩ := h4.parts'
  obtain ⟨u1, u2, u3, u4⟩ := pN_spec hs
  obtain ⟨v1, v2, v3, v4⟩ := pN_spec hs'
  have E : Hid (Rat.divInt (pN x y * pD y' - pN x' y' * pD y) (pD y * pD y') = Rat.divInt x y - Rat.divInt x' y') := by
    show _ = _
    rw [← u4, ← v4, Rat.sub_eq_add_neg, Rat.neg_divInt, Rat.divInt_add_divInt _ _ (by omega) (by omega), Int.neg_mul, Int.sub_eq_add_neg]
  have K : Hid (∀ w m, Vw m w → Calls Tryz.prog 134 #[.int .i64 (pN x y * pD y' - pN x' y' * pD y), .int .i64 (pD y * pD y')] w (RetV w m fun m' r => FracC m' r (Rat.divInt x y - Rat.divInt x' y'))) := by
    show ∀ w m, _
    intro w m hV
    rw [← E.out]
    exact q_fromWords _ _ w m hV (Int.mul_pos u2 v2) (by have := prod_bd u1 v3; have := prod_bd v1 u3; omega) (by have := prod_bd u3 v3; omega)
  have w1 := w64_of (z := pN x y * pD y' - pN x' y' * pD y) (by have := prod_bd u1 v3; have := prod_bd v1 u3; omega)
  have w3 := w64_of (z := pN x y * pD y') (by have := prod_bd u1 v3; omega)
  have w4 := w64_of (z := pN x' y' * pD y) (by have := prod_bd v1 u3; omega)
  have w2 := w64_of (z := pD y * pD y') (by have := prod_bd u3 v3; omega)
  have hL := Loc.start hV
  clear hV h1 h2 h3 h4 u1 u2 u3 u4 v1 v2 v3 v4 E hs hs'
  go_enter Tryz.func115, Tryz.ntmps115
  go_wp2_with (first | ((with_reducible refine kAny ?_); go_skip) | (with_reducible refine stA ?_) | ((first | refine tFd ?_ | refine tLd ?_ | ((first | refine tSr ?_ | refine tSt ?_); clear hL; intro _ hL; simp only [splice, zq1, zq2, zq3] at hL) | ((first | refine tBx ?_ | refine tAl ?_); clear hL; intro _ _ hL _)); simp only [Act.put, zq1, zq2, zq3]))
  refine (q_small _ _ x y x' y' _ _ hL.vw (ha.le leX) (hb.le leX)).mono ?_
  rintro e W1 ⟨_, m1, rfl, hE, hM1, hV, rfl⟩
  replace hL := hL.call hE (by assumption) hV; clear hE hV
  generalize pN x y = P1 at *
  generalize pD y = P2 at *
  generalize pN x' y' = P3 at *
  generalize pD y' = P4 at *
  go_wp2_with (first | ((with_reducible refine kAny ?_); go_skip) | (with_reducible refine stA ?_) | ((first | refine tFd ?_ | refine tLd ?_ | ((first | refine tSr ?_ | refine tSt ?_); clear hL; intro _ hL; simp only [splice, zq1, zq2, zq3] at hL) | ((first | refine tBx ?_ | refine tAl ?_); clear hL; intro _ _ hL _)); simp only [Act.put, zq1, zq2, zq3]))
  refine (K.out _ _ hL.vw).mono ?_
  rintro e W2 ⟨v2, m2, rfl, hE, hM2, hV, h2⟩
  replace hL := hL.call hE (by assumption) hV; clear hE hV
  obtain ⟨g2', A2', n2', c2', h2', B2', k2', d2', rfl, h2⟩ := h2.lit
  go_wp2_with (first | ((with_reducible refine kAny ?_); go_skip) | (with_reducible refine stA ?_) | ((first | refine tFd ?_ | refine tLd ?_ | ((first | refine tSr ?_ | refine tSt ?_); clear hL; intro _ hL; simp only [splice, zq1, zq2, zq3] at hL) | ((first | refine tBx ?_ | refine tAl ?_); clear hL; intro _ _ hL _)); simp only [Act.put, zq1, zq2, zq3]))
  refine fin_agg hL Tryz.results115 rfl rfl loX AgC.h (by exact rfl) ?_
  exact h2
theorem q_SubC (a b : Value) (p q : Rat) (w m : World) (hV : Vw m w) (ha : FracC m a p) (hb : FracC m b q) (hs : Sm p.num p.den) (hs' : Sm q.num q.den) :
    Calls Tryz.prog 115 #[a, b] w (RetV w m fun m' r => FracC m' r (p - q)) := by
  have h := q_Sub a b p.num p.den q.num q.den w m hV (ha.toS hs) (hb.toS hs') hs hs'
  rwa [Rat.num_divInt_den, Rat.num_divInt_den] at h

set_option maxRecDepth 100000 in
set_option maxHeartbeats 8000000 in
theorem q_FromInt (v : Value) (z : Int) (w m : World) (hV : Vw m w) (h : IntC m v z) (hz : z.natAbs < 18446744073709551616) :
    Calls Tryz.prog 116 #[v] w (RetV w m fun m' r => FracC m' r (z : Rat)) := by
  obtain ⟨g, A, n, c, rfl, h⟩ := h.lit
  have lz : (digs z.natAbs).length ≤ 1000 := Nat.le_trans (len2 hz) (by omega)
  have HZ := Lib.hid hz
  have hL := Loc.start hV
  clear hV hz
  go_enter Tryz.func116, Tryz.ntmps116
  go_wp2_with (first | ((with_reducible refine kAny ?_); go_skip) | (with_reducible refine stA ?_) | ((first | refine tLd ?_ | ((first | refine tSr ?_ | refine tSt ?_); clear hL; intro _ hL; simp only [splice, zq1, zq2, zq3] at hL) | ((first | refine tBx ?_ | refine tAl ?_); clear hL; intro _ _ hL _)); simp only [Act.put, zq1, zq2, zq3]))
  refine (i_Add _ _ z 0 _ _ hL.vw ((h.toV lz).le leX) (IntC.nil.toV (by simp [digs_zero])) HZ.out (by decide)).mono ?_
  rintro e W1 ⟨v1, m1, rfl, hE, hM1, hV, h1⟩
  replace hL := hL.call hE (by assumption) hV; clear hE hV
  obtain ⟨g1', A1', n1', c1', rfl, h1⟩ := h1.lit
  go_wp2_with (first | ((with_reducible refine kAny ?_); go_skip) | (with_reducible refine stA ?_) | ((first | refine tLd ?_ | ((first | refine tSr ?_ | refine tSt ?_); clear hL; intro _ hL; simp only [splice, zq1, zq2, zq3] at hL) | ((first | refine tBx ?_ | refine tAl ?_); clear hL; intro _ _ hL _)); simp only [Act.put, zq1, zq2, zq3]))
  refine (i_FromInt64 1 _ _ hL.vw (by decide) (by decide)).mono ?_
  rintro e W2 ⟨v2, m2, rfl, hE, hM2, hV, h2⟩
  replace hL := hL.call hE (by assumption) hV; clear hE hV
  obtain ⟨g2', A2', n2', c2', rfl, h2⟩ := h2.lit
  go_wp2_with (first | ((with_reducible refine kAny ?_); go_skip) | (with_reducible refine stA ?_) | ((first | refine tLd ?_ | ((first | refine tSr ?_ | refine tSt ?_); clear hL; intro _ hL; simp only [splice, zq1, zq2, zq3] at hL) | ((first | refine tBx ?_ | refine tAl ?_); clear hL; intro _ _ hL _)); simp only [Act.put, zq1, zq2, zq3]))
  refine fin_agg hL Tryz.results116 rfl rfl loX AgC.h (by exact rfl) ?_
  refine ⟨_, _, _, _, rfl, ?_, ?_⟩
  · rw [Rat.num_intCast]
    have := h1.le (leX : Le m1 m2)
    rwa [Int.add_zero] at this
  · rw [Rat.den_intCast]
    exact h2

set_option maxRecDepth 100000 in
set_option maxHeartbeats 8000000 in
theorem q_Floor (v : Value) (q : Rat) (w m : World) (hV : Vw m w) (h : FracC m v q) (hx : q.num.natAbs < 18446744073709551616) (hy : q.den < 18446744073709551616) :
    Calls Tryz.prog 117 #[v] w (RetV w m fun m' r => IntC m' r (flr q)) := by
  obtain ⟨g, A, n, c, g', B', n', c', rfl, h⟩ := h.lit
  have lx : (digs q.num.natAbs).length ≤ 1000 := Nat.le_trans (len2 hx) (by omega)
  have ly : (digs (q.den : Int).natAbs).length ≤ 1000 := Nat.le_trans (len2 (by simpa using hy)) (by omega)
  have HX : Hid (q.num.natAbs < 18446744073709551616) := hx
  have HY : Hid ((q.den : Int).natAbs < 18446744073709551616) := by show _ < _; simpa using hy
  have HP : Hid ((0 : Int) < q.den) := by show _ < _; have := q.den_pos; omega
  clear hx hy
  have hL := Loc.start hV
  clear hV
  go_enter Tryz.func117, Tryz.ntmps117
  go_wp2_with (first | ((with_reducible refine kAny ?_); go_skip) | (with_reducible refine stA ?_) | ((first | refine tLd ?_ | ((first | refine tSr ?_ | refine tSt ?_); clear hL; intro _ hL; simp only [splice, zq1, zq2, zq3] at hL) | ((first | refine tBx ?_ | refine tAl ?_); clear hL; intro _ _ hL _)); simp only [Act.put, zq1, zq2, zq3]))
  refine (q_parts _ q _ _ hL.vw (h.le leX) ly).mono ?_
  rintro e W11 ⟨_, m11, rfl, hE, hM11, hV, va, vb, rfl, h1, h2⟩
  replace hL := hL.call hE (by assumption) hV; clear hE hV
  obtain ⟨g1, A1, n1, c1, rfl, h1⟩ := h1.lit
  obtain ⟨g2, A2, n2, c2, rfl, h2⟩ := h2.lit
  go_wp2_with (first | ((with_reducible refine kAny ?_); go_skip) | (with_reducible refine stA ?_) | ((first | refine tLd ?_ | ((first | refine tSr ?_ | refine tSt ?_); clear hL; intro _ hL; simp only [splice, zq1, zq2, zq3] at hL) | ((first | refine tBx ?_ | refine tAl ?_); clear hL; intro _ _ hL _)); simp only [Act.put, zq1, zq2, zq3]))
  refine (i_DivModA _ _ q.num q.den _ _ hL.vw ((h1.toV lx).le leX) ((h2.toV ly).le leX) HX.out HY.out HP.out).mono ?_
  rintro e W6 ⟨_, m6, rfl, hE, hM6, hV, q6, r6, rfl, h6, k6⟩
  replace hL := hL.call hE (by assumption) hV; clear hE hV
  obtain ⟨g6, A6, n6, c6, rfl, h6⟩ := h6.lit
  obtain ⟨g7, A7, n7, c7, rfl, k6⟩ := k6.lit
  go_wp2_with (first | ((with_reducible refine kAny ?_); go_skip) | (with_reducible refine stA ?_) | ((first | refine tLd ?_ | ((first | refine tSr ?_ | refine tSt ?_); clear hL; intro _ hL; simp only [splice, zq1, zq2, zq3] at hL) | ((first | refine tBx ?_ | refine tAl ?_); clear hL; intro _ _ hL _)); simp only [Act.put, zq1, zq2, zq3]))
  refine fin_agg hL Tryz.results117 rfl rfl loX AgC.h (by exact rfl) ?_
  exact h6.le leX

theorem sgn_false (n : Nat) : sgn false n = (n : Int) := rfl
set_option maxRecDepth 100000 in
set_option maxHeartbeats 8000000 in
theorem i_Abs (v : Value) (z : Int) (w m : World) (hV : Vw m w) (h : IntV m v z) : Calls Tryz.prog 159 #[v] w (RetV w m fun m' r => IntC m' r (z.natAbs : Int)) := by
  obtain ⟨g, A, l, c, rfl⟩ := h.lit
  obtain ⟨hd, hg⟩ := h.digA
  have lz := h.length
  have hL := Loc.start hV
  clear hV hg
  go_enter Tryz.func159, Tryz.ntmps159
  go_wp2_with (first | ((with_reducible refine kAny ?_); go_skip) | (with_reducible refine stA ?_) | ((first | refine tFd ?_ | refine tLd ?_ | ((first | refine tSr ?_ | refine tSt ?_); clear hL; intro _ hL; simp only [splice, zq1, zq2, zq3] at hL) | ((first | refine tBx ?_ | refine tAl ?_); clear hL; intro _ _ hL _)); simp only [Act.put, zq1, zq2, zq3]))
  refine (i_trim _ z.natAbs _ _ hL.vw (hd.le leX)).mono ?_
  rintro e W2 ⟨v2, m2, rfl, hE, hM2, hV, h2⟩
  replace hL := hL.call hE (by assumption) hV; clear hE hV
  go_wp2_with (first | ((with_reducible refine kAny ?_); go_skip) | (with_reducible refine stA ?_) | ((first | refine tFd ?_ | refine tLd ?_ | ((first | refine tSr ?_ | refine tSt ?_); clear hL; intro _ hL; simp only [splice, zq1, zq2, zq3] at hL) | ((first | refine tBx ?_ | refine tAl ?_); clear hL; intro _ _ hL _)); simp only [Act.put, zq1, zq2, zq3]))
  refine (i_Clone _ z.natAbs _ _ hL.vw h2 lz).mono ?_
  rintro e W3 ⟨v3, m3, rfl, hE, hM3, hV, h3⟩
  replace hL := hL.call hE (by assumption) hV; clear hE hV
  go_wp2_with (first | ((with_reducible refine kAny ?_); go_skip) | (with_reducible refine stA ?_) | ((first | refine tFd ?_ | refine tLd ?_ | ((first | refine tSr ?_ | refine tSt ?_); clear hL; intro _ hL; simp only [splice, zq1, zq2, zq3] at hL) | ((first | refine tBx ?_ | refine tAl ?_); clear hL; intro _ _ hL _)); simp only [Act.put, zq1, zq2, zq3]))
  refine (i_wrap false _ z.natAbs _ _ hL.vw (h3.toA lz)).mono ?_
  rintro e W4 ⟨v4, m4, rfl, hE, hM4, hV, h4⟩
  replace hL := hL.call hE (by assumption) hV; clear hE hV
  obtain ⟨g4', A4', n4', c4', rfl, h4⟩ := h4.lit
  go_wp2_with (first | ((with_reducible refine kAny ?_); go_skip) | (with_reducible refine stA ?_) | ((first | refine tFd ?_ | refine tLd ?_ | ((first | refine tSr ?_ | refine tSt ?_); clear hL; intro _ hL; simp only [splice, zq1, zq2, zq3] at hL) | ((first | refine tBx ?_ | refine tAl ?_); clear hL; intro _ _ hL _)); simp only [Act.put, zq1, zq2, zq3]))
  refine fin_agg hL Tryz.results159 rfl rfl loX AgC.h (by exact rfl) ?_
  rw [← sgn_false]; exact h4
def absR (q : Rat) : Rat := Rat.divInt (q.num.natAbs : Int) q.den
set_option maxRecDepth 100000 in
set_option maxHeartbeats 8000000 in
theorem q_Abs (v : Value) (q : Rat) (w m : World) (hV : Vw m w) (h : FracC m v q) (hx : q.num.natAbs < 18446744073709551616) (hy : q.den < 18446744073709551616) :
    Calls Tryz.prog 118 #[v] w (RetV w m fun m' r => FracC m' r (absR q)) := by
  obtain ⟨g, A, n, c, g', B', n', c', rfl, h⟩ := h.lit
  have lx : (digs q.num.natAbs).length ≤ 1000 := Nat.le_trans (len2 hx) (by omega)
  have lx' : (digs (q.num.natAbs : Int).natAbs).length ≤ 1000 := by simpa using lx
  have ly : (digs (q.den : Int).natAbs).length ≤ 1000 := Nat.le_trans (len2 (by simpa using hy)) (by omega)
  have HX : Hid ((q.num.natAbs : Int).natAbs < 18446744073709551616) := by show _ < _; simpa using hx
  have HY : Hid ((q.den : Int).natAbs < 18446744073709551616) := by show _ < _; simpa using hy
  have HP : Hid ((0 : Int) < q.den) := by show _ < _; have := q.den_pos; omega
  clear hx hy
  have hL := Loc.start hV
  clear hV
  go_enter Tryz.func118, Tryz.ntmps118
  go_wp2_with (first | ((with_reducible refine kAny ?_); go_skip) | (with_reducible refine stA ?_) | ((first | refine tLd ?_ | ((first | refine tSr ?_ | refine tSt ?_); clear hL; intro _ hL; simp only [splice, zq1, zq2, zq3] at hL) | ((first | refine tBx ?_ | refine tAl ?_); clear hL; intro _ _ hL _)); simp only [Act.put, zq1, zq2, zq3]))
  refine (q_parts _ q _ _ hL.vw (h.le leX) ly).mono ?_
  rintro e W11 ⟨_, m11, rfl, hE, hM11, hV, va, vb, rfl, h1, h2⟩
  replace hL := hL.call hE (by assumption) hV; clear hE hV
  obtain ⟨g1, A1, n1, c1, rfl, h1⟩ := h1.lit
  obtain ⟨g2, A2, n2, c2, rfl, h2⟩ := h2.lit
  go_upto_region 2 with ((first | ((with_reducible refine kAny ?_); go_skip) | (with_reducible refine stA ?_) | ((first | refine tLd ?_ | ((first | refine tSr ?_ | refine tSt ?_); clear hL; intro _ hL; simp only [splice, zq1, zq2, zq3] at hL) | ((first | refine tBx ?_ | refine tAl ?_); clear hL; intro _ _ hL _)); simp only [Act.put, zq1, zq2, zq3])))
  refine wp_region_by2 4 [false, false, false, false] [false, false, false, false] [(fun v _ _ => v = ?c2_0), Of (fun um v => IntC um v (q.num.natAbs : Int)), (fun v _ _ => v = ?c2_2), Of (fun um v => FracC um v (Rat.divInt (q.num.natAbs : Int) q.den))] hL.vw mixed [10, 11, 12, 13] _ (by kernel_rfl) (fun vs => by simp only [lay, Act.put, zq1, zq2, zq3]; rfl) (by kernel_rfl) (by decide) (by decide) ?s2 ?l2 ?r2
  case s2 =>
    refine ⟨?_, ?_, ?_, ?_, trivial⟩
    · intro vs W1 m1 hE hM hV hD; clear hD; replace hL := hL.call hE hM hV
      exact sLd
    · intro vs W1 m1 hE hM hV hD; obtain ⟨⟨_, _, -, -, f10⟩, -⟩ := hD; have f10 : vs 10 = _ := f10; generalize vs 10 = x10 at f10 ⊢; subst x10
      go_wp2_with fail
      refine (i_Abs _ q.num _ _ hV ((h1.toV lx).le leX)).mono ?_
      rintro e W2 ⟨v, m2, rfl, hE2, hM2, hV2, h⟩
      go_wp2_with fail
      refine One2.call hE2 hM2 hV2 ?_; first | exact h | exact rfl
    · intro vs W1 m1 hE hM hV hD; clear hD; replace hL := hL.call hE hM hV
      exact sLd
    · intro vs W1 m1 hE hM hV hD; obtain ⟨⟨_, _, -, i11, f11⟩, ⟨_, _, -, -, f12⟩, -, -⟩ := hD; have f12 : vs 12 = _ := f12; generalize vs 12 = x12 at f12 ⊢; subst x12; have f11 : IntC _ (vs 11) (q.num.natAbs : Int) := f11; replace f11 := f11.le i11.le; clear i11
      go_wp2_with fail
      refine (q_reduce _ _ _ _ _ _ hV (f11.toV lx') ((h2.toV ly).le leX) HX.out HY.out HP.out).mono ?_
      rintro e W2 ⟨v, m2, rfl, hE2, hM2, hV2, h⟩
      go_wp2_with fail
      refine One2.call hE2 hM2 hV2 ?_; first | exact h | exact rfl
  case l2 =>
    refine ⟨fun h => (by cases h), fun h => (by cases h), fun h => (by cases h), fun h => (by cases h), trivial⟩
  intro vs W1 m1 hE hM hV hF hD
  clear hD
  obtain ⟨-, ⟨_, _, -, i11, f11⟩, -, ⟨_, _, -, i13, f13⟩, -⟩ := hF
  replace hL := hL.call hE hM hV
  replace f11 : IntC _ (vs 11) (q.num.natAbs : Int) := f11
  replace f11 := f11.le i11.le
  clear i11
  replace f13 : FracC _ (vs 13) (Rat.divInt (q.num.natAbs : Int) q.den) := f13
  replace f13 := f13.le i13.le
  clear i13
  obtain ⟨g13, A13, n13, c13, h13, B13, k13, d13, e13, f13⟩ := f13.lit
  generalize vs 13 = x13 at e13 ⊢
  subst x13
  clear hE hV
  simp only [List.drop_succ_cons, List.drop_zero]
  go_wp2_with (first | ((with_reducible refine kAny ?_); go_skip) | (with_reducible refine stA ?_) | ((first | refine tLd ?_ | ((first | refine tSr ?_ | refine tSt ?_); clear hL; intro _ hL; simp only [splice, zq1, zq2, zq3] at hL) | ((first | refine tBx ?_ | refine tAl ?_); clear hL; intro _ _ hL _)); simp only [Act.put, zq1, zq2, zq3]))
  refine QN.mk ?_
  go_wp2_with (first | ((with_reducible refine kAny ?_); go_skip) | (with_reducible refine stA ?_) | ((first | refine tLd ?_ | ((first | refine tSr ?_ | refine tSt ?_); clear hL; intro _ hL; simp only [splice, zq1, zq2, zq3] at hL) | ((first | refine tBx ?_ | refine tAl ?_); clear hL; intro _ _ hL _)); simp only [Act.put, zq1, zq2, zq3]))
  refine fin_agg hL Tryz.results118 rfl rfl loX AgC.h (by exact rfl) ?_
  exact f13
end Go.Proofs.YtmhkmmmompediaaGreat
