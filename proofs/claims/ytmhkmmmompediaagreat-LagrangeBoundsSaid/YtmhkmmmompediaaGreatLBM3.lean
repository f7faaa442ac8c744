/- Part 3 of 7 of the proof: the law LagrangeBounds returns true for every input, and its arguments read as before; there is no condition. -/
import Derived.Laws.Bits128
import Derived.Laws.StructEq
import Derived.Test.YtmhkmmmompediaaGreatLBM2
set_option linter.unusedVariables false
set_option linter.unusedSimpArgs false
/- Contracts of package rational: reduce, New, FromInts (positive denominator, numbers below 2^63). -/
namespace Go.Proofs.YtmhkmmmompediaaGreat
open Go.RowKit

set_option maxRecDepth 100000 in
set_option maxHeartbeats 16000000 in
theorem q_reduce (a b : Value) (x y : Int) (w m : World) (hV : Vw m w) (hn : IntV m a x) (hd : IntV m b y) (hx : x.natAbs < 18446744073709551616) (hy : y.natAbs < 18446744073709551616) (hy' : 0 < y) :
    Calls Tryz.prog 137 #[a, b] w (RetV w m fun m' r => FracC m' r (Rat.divInt x y)) := by
  obtain ⟨na, A, la, ca, rfl⟩ := hn.lit
  obtain ⟨nb, B', lb, cb, rfl⟩ := hd.lit
  have lx := hn.length
  have ly := hd.length
  have HX := Lib.hid hx
  have HY := Lib.hid hy
  clear hx hy
  have hL := Loc.start hV
  clear hV
  go_enter Tryz.func137, Tryz.ntmps137
  go_wp2_with (first | ((with_reducible refine kAny ?_); go_skip) | ((first | refine tLo ?_ | (refine tSt ?_; clear hL; intro _ hL; simp only [splice, zq1, zq2, zq3] at hL) | ((first | refine tBx ?_ | refine tAl ?_); clear hL; intro _ _ hL _)); simp only [Act.put, zq1, zq2, zq3]))
  refine (i_Sign _ x _ _ hL.vw (hn.le leX)).mono ?_
  rintro e W11 ⟨_, m11, rfl, hE, hM11, hV, rfl⟩
  replace hL := hL.call hE (by assumption) hV; clear hE hV
  by_cases h0 : x = 0
  · subst h0
    rw [show icmp 0 0 = 0 from rfl]
    go_wp2_with (first | ((with_reducible refine kAny ?_); go_skip) | ((first | refine tLo ?_ | (refine tSt ?_; clear hL; intro _ hL; simp only [splice, zq1, zq2, zq3] at hL) | ((first | refine tBx ?_ | refine tAl ?_); clear hL; intro _ _ hL _)); simp only [Act.put, zq1, zq2, zq3]))
    refine (q_fromWords 0 1 _ _ hL.vw (by omega) (by omega) (by omega)).mono ?_
    rintro e W12 ⟨v12, m12, rfl, hE, hM12, hV, h12⟩
    replace hL := hL.call hE (by assumption) hV; clear hE hV
    obtain ⟨g12', A12', n12', c12', h12', B12', k12', d12', rfl, h12⟩ := h12.lit
    go_wp2_with (first | ((with_reducible refine kAny ?_); go_skip) | ((first | refine tLo ?_ | (refine tSt ?_; clear hL; intro _ hL; simp only [splice, zq1, zq2, zq3] at hL) | ((first | refine tBx ?_ | refine tAl ?_); clear hL; intro _ _ hL _)); simp only [Act.put, zq1, zq2, zq3]))
    refine fin_agg hL Tryz.results137 rfl rfl loX AgC.h (by exact rfl) ?_
    rw [Rat.zero_divInt] at h12 ⊢
    exact h12
  · have hxb : (icmp x 0 == 0) = false := by
      unfold icmp; by_cases h : x < 0 <;> simp [h, h0]
    go_wp2_with (first | ((with_reducible refine kAny ?_); go_skip) | ((first | refine tLo ?_ | (refine tSt ?_; clear hL; intro _ hL; simp only [splice, zq1, zq2, zq3] at hL) | ((first | refine tBx ?_ | refine tAl ?_); clear hL; intro _ _ hL _)); simp only [Act.put, zq1, zq2, zq3]))
    refine (i_Sign _ y _ _ hL.vw (hd.le leX)).mono ?_
    rintro e W12 ⟨_, m12, rfl, hE, hM12, hV, rfl⟩
    replace hL := hL.call hE (by assumption) hV; clear hE hV
    rw [icmp_gt hy']
    clear hxb
    go_wp2_with (first | ((with_reducible refine kAny ?_); go_skip) | ((first | refine tLo ?_ | (refine tSt ?_; clear hL; intro _ hL; simp only [splice, zq1, zq2, zq3] at hL) | ((first | refine tBx ?_ | refine tAl ?_); clear hL; intro _ _ hL _)); simp only [Act.put, zq1, zq2, zq3]))
    have hgp : 0 < Int.gcd x y := Int.gcd_pos_of_ne_zero_right _ (by omega)
    have hgle : Int.gcd x y ≤ y.natAbs := Nat.le_of_dvd (by omega) (Int.gcd_dvd_natAbs_right x y)
    have hgl : (digs (((Int.gcd x y : Nat) : Int)).natAbs).length ≤ 1000 := Nat.le_trans (length_digs_mono (by simpa using hgle)) ly
    have HGL : Hid (((Int.gcd x y : Nat) : Int).natAbs < 18446744073709551616) := by
      show _ < _
      have := HY.out
      simp only [Int.natAbs_natCast]; omega
    have hgq := frac_pos (x := x) hy'
    have E1 : x % ((Int.gcd x y : Nat) : Int) = 0 := Int.emod_eq_zero_of_dvd (Int.gcd_dvd_left x y)
    have E2 : y % ((Int.gcd x y : Nat) : Int) = 0 := Int.emod_eq_zero_of_dvd (Int.gcd_dvd_right x y)
    have HE1 := Lib.hid E1
    have HE2 := Lib.hid E2
    clear hgle E1 E2
    refine (i_GCD _ _ x y _ _ hL.vw (hn.le leX) (hd.le leX) HX.out HY.out).mono ?_
    rintro e W13 ⟨v13, m13, rfl, hE, hM13, hV, h13⟩
    replace hL := hL.call hE (by assumption) hV; clear hE hV
    obtain ⟨g13', A13', n13', c13', rfl, h13⟩ := h13.lit
    generalize Int.gcd x y = gg at *
    go_wp2_with (first | ((with_reducible refine kAny ?_); go_skip) | ((first | refine tLo ?_ | (refine tSt ?_; clear hL; intro _ hL; simp only [splice, zq1, zq2, zq3] at hL) | ((first | refine tBx ?_ | refine tAl ?_); clear hL; intro _ _ hL _)); simp only [Act.put, zq1, zq2, zq3]))
    refine (i_DivMod _ _ x gg _ _ hL.vw (hn.le leX) ((h13.toV hgl).le leX) HX.out HGL.out (by omega) (.inr HE1.out)).mono ?_
    rintro e W14 ⟨_, m14, rfl, hE, hM14, hV, q6, r6, rfl, h6, k6⟩
    replace hL := hL.call hE (by assumption) hV; clear hE hV
    obtain ⟨g6, A6, n6, c6, rfl, h6⟩ := h6.lit
    obtain ⟨g7, A7, n7, c7, rfl, k6⟩ := k6.lit
    have HQ := Lib.hid hgq
    clear hgq k6
    go_wp2_with (first | ((with_reducible refine kAny ?_); go_skip) | ((first | refine tLo ?_ | (refine tSt ?_; clear hL; intro _ hL; simp only [splice, zq1, zq2, zq3] at hL) | ((first | refine tBx ?_ | refine tAl ?_); clear hL; intro _ _ hL _)); simp only [Act.put, zq1, zq2, zq3]))
    refine (i_DivMod _ _ y gg _ _ hL.vw (hd.le leX) ((h13.toV hgl).le leX) HY.out HGL.out (by omega) (.inr HE2.out)).mono ?_
    rintro e W15 ⟨_, m15, rfl, hE, hM15, hV, q8, r8, rfl, h8, k8⟩
    replace hL := hL.call hE (by assumption) hV; clear hE hV
    obtain ⟨g8, A8, n8, c8, rfl, h8⟩ := h8.lit
    obtain ⟨g9, A9, n9, c9, rfl, k8⟩ := k8.lit
    clear k8
    go_wp2_with (first | ((with_reducible refine kAny ?_); go_skip) | ((first | refine tLo ?_ | (refine tSt ?_; clear hL; intro _ hL; simp only [splice, zq1, zq2, zq3] at hL) | ((first | refine tBx ?_ | refine tAl ?_); clear hL; intro _ _ hL _)); simp only [Act.put, zq1, zq2, zq3]))
    refine fin_agg hL Tryz.results137 rfl rfl loX AgC.h (by exact rfl) ?_
    exact ⟨_, _, _, _, rfl, by rw [HQ.out.1]; exact h6.le leX, by rw [HQ.out.2]; exact h8.le leX⟩

set_option maxRecDepth 100000 in
set_option maxHeartbeats 8000000 in
theorem q_New (a b : Value) (x y : Int) (w m : World) (hV : Vw m w) (hn : IntV m a x) (hd : IntV m b y) (hx : x.natAbs < 18446744073709551616) (hy : y.natAbs < 18446744073709551616) (hy' : 0 < y) :
    Calls Tryz.prog 152 #[a, b] w (RetV w m fun m' v => ∃ r, v = .tuple #[r, .int .i64 0] ∧ FracC m' r (Rat.divInt x y)) := by
  obtain ⟨na, A, la, ca, rfl⟩ := hn.lit
  obtain ⟨nb, B', lb, cb, rfl⟩ := hd.lit
  have HX := Lib.hid hx
  have HY := Lib.hid hy
  clear hx hy
  have hL := Loc.start hV
  clear hV
  go_enter Tryz.func152, Tryz.ntmps152
  go_wp2_with (first | ((with_reducible refine kAny ?_); go_skip) | ((first | refine tLo ?_ | (refine tSt ?_; clear hL; intro _ hL; simp only [splice, zq1, zq2, zq3] at hL) | ((first | refine tBx ?_ | refine tAl ?_); clear hL; intro _ _ hL _)); simp only [Act.put, zq1, zq2, zq3]))
  refine (i_Sign _ y _ _ hL.vw (hd.le leX)).mono ?_
  rintro e W11 ⟨_, m11, rfl, hE, hM11, hV, rfl⟩
  replace hL := hL.call hE (by assumption) hV; clear hE hV
  rw [icmp_gt hy']
  go_wp2_with (first | ((with_reducible refine kAny ?_); go_skip) | ((first | refine tLo ?_ | (refine tSt ?_; clear hL; intro _ hL; simp only [splice, zq1, zq2, zq3] at hL) | ((first | refine tBx ?_ | refine tAl ?_); clear hL; intro _ _ hL _)); simp only [Act.put, zq1, zq2, zq3]))
  refine (q_reduce _ _ x y _ _ hL.vw (hn.le leX) (hd.le leX) HX.out HY.out hy').mono ?_
  rintro e W12 ⟨v12, m12, rfl, hE, hM12, hV, h12⟩
  replace hL := hL.call hE (by assumption) hV; clear hE hV
  obtain ⟨g12', A12', n12', c12', h12', B12', k12', d12', rfl, h12⟩ := h12.lit
  go_wp2_with (first | ((with_reducible refine kAny ?_); go_skip) | ((first | refine tLo ?_ | (refine tSt ?_; clear hL; intro _ hL; simp only [splice, zq1, zq2, zq3] at hL) | ((first | refine tBx ?_ | refine tAl ?_); clear hL; intro _ _ hL _)); simp only [Act.put, zq1, zq2, zq3]))
  obtain ⟨p1, p2, p3, p4, _⟩ := (hL.at_ lo0).facts4
  refine bodyPost_ret (v := .tuple #[.agg #[.bool g12', .slice A12' n12' c12', .bool h12', .slice B12' k12' d12'], .int .i64 0]) (by simp [results, Tryz.results152, go_sem, p1, p2, p3, p4]) rfl (RetV.mk hL ⟨_, rfl, h12⟩)

set_option maxRecDepth 100000 in
set_option maxHeartbeats 8000000 in
theorem q_FromInts (x y : Int) (w m : World) (hV : Vw m w) (hx : x.natAbs < 9223372036854775808) (hy : y.natAbs < 9223372036854775808) (hy' : 0 < y) :
    Calls Tryz.prog 94 #[.int .i64 x, .int .i64 y] w (RetV w m fun m' v => ∃ r, v = .tuple #[r, .int .i64 0] ∧ FracC m' r (Rat.divInt x y)) := by
  have K1 : Hid (∀ w m, Vw m w → Calls Tryz.prog 153 #[.int .i64 x] w (RetV w m fun m' r => IntC m' r x)) := by
    show ∀ w m, _
    exact fun w m hV => i_FromInt64 x w m hV (by omega) (by omega)
  have K2 : Hid (∀ w m, Vw m w → Calls Tryz.prog 153 #[.int .i64 y] w (RetV w m fun m' r => IntC m' r y)) := by
    show ∀ w m, _
    exact fun w m hV => i_FromInt64 y w m hV (by omega) (by omega)
  have lx : (digs x.natAbs).length ≤ 1000 := Nat.le_trans (len2 (by omega)) (by omega)
  have ly : (digs y.natAbs).length ≤ 1000 := Nat.le_trans (len2 (by omega)) (by omega)
  have HX : Hid (x.natAbs < 18446744073709551616) := by show _ < _; omega
  have HY : Hid (y.natAbs < 18446744073709551616) := by show _ < _; omega
  clear hx hy
  have hL := Loc.start hV
  clear hV
  go_enter Tryz.func94, Tryz.ntmps94
  go_wp2_with (first | ((with_reducible refine kAny ?_); go_skip) | ((first | (refine tSt ?_; clear hL; intro _ hL; simp only [splice, zq1, zq2, zq3] at hL) | (refine tAl ?_; clear hL; intro _ _ hL _)); simp only [Act.put, zq1, zq2, zq3]))
  refine (K1.out _ _ hL.vw).mono ?_
  rintro e W11 ⟨v11, m11, rfl, hE, hM11, hV, h11⟩
  replace hL := hL.call hE (by assumption) hV; clear hE hV
  obtain ⟨g11', A11', n11', c11', rfl, h11⟩ := h11.lit
  go_wp2_with (first | ((with_reducible refine kAny ?_); go_skip) | ((first | (refine tSt ?_; clear hL; intro _ hL; simp only [splice, zq1, zq2, zq3] at hL) | (refine tAl ?_; clear hL; intro _ _ hL _)); simp only [Act.put, zq1, zq2, zq3]))
  refine (K2.out _ _ hL.vw).mono ?_
  rintro e W12 ⟨v12, m12, rfl, hE, hM12, hV, h12⟩
  replace hL := hL.call hE (by assumption) hV; clear hE hV
  obtain ⟨g12', A12', n12', c12', rfl, h12⟩ := h12.lit
  go_wp2_with (first | ((with_reducible refine kAny ?_); go_skip) | ((first | (refine tSt ?_; clear hL; intro _ hL; simp only [splice, zq1, zq2, zq3] at hL) | (refine tAl ?_; clear hL; intro _ _ hL _)); simp only [Act.put, zq1, zq2, zq3]))
  refine (q_New _ _ x y _ _ hL.vw ((h11.toV lx).le leX) (h12.toV ly) HX.out HY.out hy').mono ?_
  rintro e W13 ⟨_, m13, rfl, hE, hM13, hV, v13, rfl, h13⟩
  replace hL := hL.call hE (by assumption) hV; clear hE hV
  obtain ⟨g, A, n, c, h, B, k, d, rfl, h13⟩ := h13.lit
  go_wp2_with (first | ((with_reducible refine kAny ?_); go_skip) | ((first | (refine tSt ?_; clear hL; intro _ hL; simp only [splice, zq1, zq2, zq3] at hL) | (refine tAl ?_; clear hL; intro _ _ hL _)); simp only [Act.put, zq1, zq2, zq3]))
  obtain ⟨p1, p2, p3, p4, _⟩ := (hL.at_ lo0).facts4
  refine bodyPost_ret (v := .tuple #[.agg #[.bool g, .slice A n c, .bool h, .slice B k d], .int .i64 0]) (by simp [results, Tryz.results94, go_sem, p1, p2, p3, p4]) rfl (RetV.mk hL ⟨_, rfl, h13⟩)
end Go.Proofs.YtmhkmmmompediaaGreat

/- Contract of integer.ToInt64 for numbers below 2^62; lagrange.whole. -/
namespace Go.Proofs.YtmhkmmmompediaaGreat
open Go.RowKit

theorem neg_conv (n : Nat) (h : n < 4611686018427387904) : wrap64 (IntKind.u64.wrap (-(n : Int))) = -(n : Int) := by
  unfold wrap64; rw [IntKind.wrap_u64]; omega
theorem pos_conv (n : Nat) (h : n < 4611686018427387904) : wrap64 (n : Int) = n := by unfold wrap64; omega

set_option maxRecDepth 100000 in
set_option maxHeartbeats 8000000 in
theorem i_ToInt64 (v : Value) (z : Int) (w m : World) (hV : Vw m w) (h : IntV m v z) (hz : z.natAbs < 4611686018427387904) :
    Calls Tryz.prog 87 #[v] w (RetV w m fun _ r => r = .tuple #[.int .i64 z, .int .i64 0]) := by
  obtain ⟨g, A, l, c, rfl⟩ := h.lit
  obtain ⟨hd, hg⟩ := h.digA
  have l2 : (digs z.natAbs).length ≤ 2 := len2 (by omega)
  have HZ : Hid (z.natAbs < 18446744073709551616) := by show _ < _; omega
  have HZ2 := Lib.hid hz
  have E1 : Hid (z ≠ 0 → g = true → -(z.natAbs : Int) = z) := fun h0 h => by have := hg h0; rw [this] at h; simp at h; omega
  have E2 : Hid (z ≠ 0 → g = false → (z.natAbs : Int) = z) := fun h0 h => by have := hg h0; rw [this] at h; simp at h; omega
  have hL := Loc.start hV
  clear hV hz hg
  go_enter Tryz.func87, Tryz.ntmps87
  go_wp2_with (first | ((with_reducible refine kAny ?_); go_skip) | ((first | refine tLo ?_ | (refine tBx ?_; clear hL; intro _ _ hL _)); simp only [Act.put, zq1, zq2, zq3]))
  refine (i_trim _ z.natAbs _ _ hL.vw (hd.le leX)).mono ?_
  rintro e W11 ⟨v11, m11, rfl, hE, hM11, hV, h11⟩
  replace hL := hL.call hE (by assumption) hV; clear hE hV
  obtain ⟨A1, c1, rfl, h11⟩ := h11.lit
  have H11 := Lib.hid h11
  clear h11
  generalize hnl : (digs z.natAbs).length = nl at *
  have t1 : decide (2 < nl) = false := by simp; omega
  have t2 : ¬ 2 < nl := by omega
  clear hnl
  go_wp2_with (first | ((with_reducible refine kAny ?_); go_skip) | ((first | refine tLo ?_ | (refine tBx ?_; clear hL; intro _ _ hL _)); simp only [Act.put, zq1, zq2, zq3]))
  have h11 := H11.out
  refine (i_toWord _ z.natAbs _ _ hL.vw (h11.le leX) HZ.out).mono ?_
  rintro e W12 ⟨_, m12, rfl, hE, hM12, hV, rfl⟩
  replace hL := hL.call hE (by assumption) hV; clear hE hV
  clear h11 H11 HZ
  have E3 : Hid (z = 0 → ((z.natAbs : Nat) : Int) = z ∧ -((z.natAbs : Nat) : Int) = z) := fun h => by subst h; simp
  have F1 : Hid (g = true → -((z.natAbs : Nat) : Int) = z) := fun h => by
    by_cases h0 : z = 0
    · exact (E3.out h0).2
    · exact E1.out h0 h
  have F2 : Hid (g = false → ((z.natAbs : Nat) : Int) = z) := fun h => by
    by_cases h0 : z = 0
    · exact (E3.out h0).1
    · exact E2.out h0 h
  clear E1 E2 E3
  have hz := HZ2.out
  have b2 : (z.natAbs : Int) < 9223372036854775808 := by omega
  have hnc := neg_conv z.natAbs hz
  have hpc := pos_conv z.natAbs hz
  clear HZ2 hz hd h
  generalize ((z.natAbs : Nat) : Int) = N at *
  have b3 : N ≤ 9223372036854775808 := by omega
  have HN := Lib.hid hnc
  have HP := Lib.hid hpc
  clear hnc hpc
  cases g
  · have e := Lib.hid (F2.out rfl)
    clear F1 F2
    go_wp2_with (first | ((with_reducible refine kAny ?_); go_skip) | ((first | refine tLo ?_ | (refine tBx ?_; clear hL; intro _ _ hL _)); simp only [Act.put, zq1, zq2, zq3]))
    go_ret2
    first
      | exact RetV.mk hL (congrArg (fun t => Value.tuple #[.int .i64 t, .int .i64 0]) e.out)
      | exact RetV.mk hL (congrArg (fun t => Value.tuple #[.int .i64 t, .int .i64 0]) (HP.out.trans e.out))
  · have e := Lib.hid (F1.out rfl)
    clear F1 F2
    go_wp2_with (first | ((with_reducible refine kAny ?_); go_skip) | ((first | refine tLo ?_ | (refine tBx ?_; clear hL; intro _ _ hL _)); simp only [Act.put, zq1, zq2, zq3]))
    go_ret2
    exact RetV.mk hL (congrArg (fun t => Value.tuple #[.int .i64 t, .int .i64 0]) (HN.out.trans e.out))
end Go.Proofs.YtmhkmmmompediaaGreat

/- Contract of rational.parts for a positive denominator. -/
namespace Go.Proofs.YtmhkmmmompediaaGreat
open Go.RowKit

set_option maxRecDepth 100000 in
set_option maxHeartbeats 8000000 in
theorem q_parts (v : Value) (q : Rat) (w m : World) (hV : Vw m w) (h : FracC m v q) (hl : (digs (q.den : Int).natAbs).length ≤ 1000) :
    Calls Tryz.prog 135 #[v] w (RetV w m fun m' r => ∃ a b, r = .tuple #[a, b] ∧ IntC m' a q.num ∧ IntC m' b q.den) := by
  obtain ⟨g, A, n, c, g', B, n', c', rfl, h⟩ := h.lit
  obtain ⟨a1, a2⟩ := h.open_
  have hp : (0 : Int) < q.den := by have := q.den_pos; omega
  have hL := Loc.start hV
  clear hV h
  go_enter Tryz.func135, Tryz.ntmps135
  go_upto_region 0 with (fail)
  refine wp_region_lit ?_
  refine t_box hL rfl rfl ?_; clear hL; intro W1 m1 hL e1; simp only [Act.put, zq1, zq2, zq3]
  refine t_alloc hL rfl ?_; clear hL; intro W2 m2 hL e2; simp only [Act.put, zq1, zq2, zq3]
  refine t_alloc hL rfl ?_; clear hL; intro W3 m3 hL e3; simp only [Act.put, zq1, zq2, zq3]
  go_wp2_with (first | ((with_reducible refine kAny ?_); go_skip) | ((first | refine tLo ?_ | (refine tSt ?_; clear hL; intro _ hL; simp only [splice, zq1, zq2, zq3] at hL) | ((first | refine tBx ?_ | refine tAl ?_); clear hL; intro _ _ hL _)); simp only [Act.put, zq1, zq2, zq3]))
  refine (i_Sign _ (q.den : Int) _ _ hL.vw ((a2.toV hl).le leX)).mono ?_
  rintro e W11 ⟨_, m11, rfl, hE, hM11, hV, rfl⟩
  replace hL := hL.call hE (by assumption) hV; clear hE hV
  rw [icmp_gt hp]
  go_upto_region 6 with ((first | ((with_reducible refine kAny ?_); go_skip) | ((first | refine tLo ?_ | (refine tSt ?_; clear hL; intro _ hL; simp only [splice, zq1, zq2, zq3] at hL) | ((first | refine tBx ?_ | refine tAl ?_); clear hL; intro _ _ hL _)); simp only [Act.put, zq1, zq2, zq3])))
  obtain ⟨p1, p2, p3, p4⟩ := (hL.at_ lo0).facts2
  obtain ⟨p5, p6, p7, p8⟩ := (hL.at_ lo1).facts2
  obtain ⟨r1, r2, r3, r4, _⟩ := (hL.at_ lo2).facts4
  obtain ⟨n1, n2⟩ := hL.ne lo0 lo1 (by omega)
  obtain ⟨n3, n4⟩ := hL.ne lo0 lo2 (by omega)
  obtain ⟨n5, n6⟩ := hL.ne lo1 lo2 (by omega)
  go_region_held3 (fun w' => w'.cell? ⟨w.heap.size, 0, none⟩ = some (.bool g) ∧ w'.cell? ⟨w.heap.size, 1, none⟩ = some (.slice A n c) ∧ w'.cell? ⟨w.heap.size, 2, none⟩ = some (.bool g') ∧ w'.cell? ⟨w.heap.size, 3, none⟩ = some (.slice B n' c')) (go_keep) (fail)
  go_wp2_with fail
  refine bodyPost_ret (v := .tuple #[.agg #[.bool g, .slice A n c], .agg #[.bool g', .slice B n' c']]) (by simp [results, Tryz.results135, go_sem, *]) rfl (RetV.mk ((hL.drew.store lo1 0 [.bool g, .slice A n c]).store lo0 0 [.bool g', .slice B n' c']) ⟨_, _, rfl, a1.le leX, a2.le leX⟩)
end Go.Proofs.YtmhkmmmompediaaGreat

/- Contract of lagrange.whole. -/
namespace Go.Proofs.YtmhkmmmompediaaGreat
open Go.RowKit

set_option maxRecDepth 100000 in
set_option maxHeartbeats 8000000 in
theorem l_whole (z : Int) (w m : World) (hV : Vw m w) (h1 : z.natAbs < 1073741824) :
    Calls Tryz.prog 71 #[.int .i64 z] w (RetV w m fun m' r => FracC m' r (z : Rat)) := by
  have hq : Hid (Rat.divInt z 1 = (z : Rat)) := by show _ = _; rw [← Rat.num_divInt_den (z : Rat)]; simp
  have K : Hid (∀ w m, Vw m w → Calls Tryz.prog 94 #[.int .i64 z, .int .i64 1] w (RetV w m fun m' v => ∃ r, v = .tuple #[r, .int .i64 0] ∧ FracC m' r (Rat.divInt z 1))) := by
    show ∀ w m, _
    exact fun w m hV => q_FromInts z 1 w m hV (by omega) (by decide) (by omega)
  have hL := Loc.start hV
  clear hV h1
  go_enter Tryz.func71, Tryz.ntmps71
  go_wp2_with (first | ((with_reducible refine kAny ?_); go_skip) | ((first | refine tLo ?_ | (refine tSt ?_; clear hL; intro _ hL; simp only [splice, zq1, zq2, zq3] at hL) | (refine tAl ?_; clear hL; intro _ _ hL _)); simp only [Act.put, zq1, zq2, zq3]))
  refine (K.out _ _ hL.vw).mono ?_
  rintro e W11 ⟨_, m11, rfl, hE, hM11, hV, va, rfl, h1⟩
  replace hL := hL.call hE (by assumption) hV; clear hE hV
  obtain ⟨g, A, n, c, g', B', n', c', rfl, h1⟩ := h1.lit
  go_wp2_with (first | ((with_reducible refine kAny ?_); go_skip) | ((first | refine tLo ?_ | (refine tSt ?_; clear hL; intro _ hL; simp only [splice, zq1, zq2, zq3] at hL) | (refine tAl ?_; clear hL; intro _ _ hL _)); simp only [Act.put, zq1, zq2, zq3]))
  refine fin_agg hL Tryz.results71 rfl rfl loX AgC.h (by exact rfl) ?_
  rw [← hq.out]; exact h1.le leX

theorem FracC.toS {m : World} {v : Value} {q : Rat} (h : FracC m v q) (hs : Sm q.num q.den) : FracS m v q.num q.den := by
  obtain ⟨a, b, c, d, e, h1, h2⟩ := h
  exact ⟨a, b, c, d, e, h1.toS (by have := hs.1; omega), h2.toS (by have := hs.2; omega), by have := hs.1; omega, by have := hs.2; omega⟩
end Go.Proofs.YtmhkmmmompediaaGreat

/- Contract of pairingdata.At. -/
namespace Go.Proofs.YtmhkmmmompediaaGreat
open Go.RowKit

theorem i64_and16 (n : Int) : bits .and .i64 n 65535 = n % 65536 := by
  have h127 : (BitVec.ofInt 64 65535).toNat = 2 ^ 16 - 1 := by decide
  have key : (BitVec.ofInt 64 n &&& BitVec.ofInt 64 65535).toNat = (n % ((2 ^ 64 : Nat) : Int)).toNat % 2 ^ 16 := by
    rw [BitVec.toNat_and, BitVec.toNat_ofInt, h127, Nat.and_two_pow_sub_one_eq_mod]
  show IntKind.i64.wrap ((BitVec.ofInt 64 n &&& BitVec.ofInt 64 65535).toNat : Nat) = n % 65536
  rw [key, IntKind.wrap_i64]
  omega

def I64 (z : Int) : Value := .int .i64 z
def atF (l : List Int) (i : Nat) : Int := if l.length = 0 then (i : Int) % 65536 else l.getD (i % l.length) 0 % 65536 + ((i / l.length : Nat) : Int)
theorem Sl.int {w : World} {A : Option Addr} {l : List Int} {k : Nat} (h : Sl w A (l.map I64)) (hk : k < l.length) :
    ∃ b off, A = some ⟨b, off, none⟩ ∧ b < w.heap.size ∧ w.cell? ⟨b, off + k, none⟩ = some (.int .i64 (l.getD k 0)) := by
  obtain ⟨b, off, e, hlt, hc⟩ := h.at_ (k := k) (by simpa using hk)
  refine ⟨b, off, e, hlt, hc.trans ?_⟩
  simp [I64, hk]

theorem at_val (z : Int) (i n : Nat) (h : i / n ≤ 1000) : wrap64 (z % 65536 + wrap64 ((i : Int) / (n : Int))) = z % 65536 + ((i / n : Nat) : Int) := by
  have e : (i : Int) / (n : Int) = ((i / n : Nat) : Int) := by simp
  rw [e]
  generalize i / n = k at *
  unfold wrap64
  omega
set_option maxRecDepth 100000 in
set_option maxHeartbeats 4000000 in
theorem d_At (A : Option Addr) (c : Nat) (l : List Int) (i : Nat) (w m : World) (hV : Vw m w) (h : Sl m A (l.map I64)) (hi : i ≤ 1000) :
    Calls Tryz.prog 62 #[.slice A l.length c, .int .i64 i] w (RetV w m fun _ r => r = .int .i64 (atF l i)) := by
  replace h := h.le hV.le
  by_cases h0 : l.length = 0
  · have E : Hid (atF l i = (i : Int) % 65536) := if_pos h0
    have e := i64_and16 (i : Int)
    rw [h0]
    go_enter Tryz.func62, Tryz.ntmps62
    go_wp2
    go_ret
    exact RetV.val hV ⟨congrArg (fun t => Ending.returned (Value.int .i64 t)) E.out.symm, Ext.refl _⟩
  · have E : Hid (atF l i = l.getD (i % l.length) 0 % 65536 + ((i / l.length : Nat) : Int)) := if_neg h0
    have hlt : i % l.length < l.length := Nat.mod_lt _ (by omega)
    obtain ⟨b, off, rfl, hb, hc⟩ := h.int hlt
    have e := i64_and16 (l.getD (i % l.length) 0)
    generalize l.getD (i % l.length) 0 = z at *
    have hq : i / l.length ≤ 1000 := Nat.le_trans (Nat.div_le_self _ _) hi
    have h1 : ((l.length : Int) == 0) = false := by simp [h0]
    have h2 : ¬ (l.length : Int) = 0 := by omega
    have HQ := Lib.hid hq
    clear h0 hq
    generalize l.length = n at *
    go_enter Tryz.func62, Tryz.ntmps62
    go_wp2_with fail
    go_quiet (fail)
    go_wp2_with fail
    go_ret
    exact RetV.val hV ⟨congrArg (fun t => Ending.returned (Value.int .i64 t)) ((at_val z i n HQ.out).trans E.out.symm), (Ext.refl _).drewN _⟩
end Go.Proofs.YtmhkmmmompediaaGreat

/- Contract of pairingdata.Frac. -/
namespace Go.Proofs.YtmhkmmmompediaaGreat
open Go.RowKit

theorem i64_and4 (n : Int) : bits .and .i64 n 15 = n % 16 := by
  have h127 : (BitVec.ofInt 64 15).toNat = 2 ^ 4 - 1 := by decide
  have key : (BitVec.ofInt 64 n &&& BitVec.ofInt 64 15).toNat = (n % ((2 ^ 64 : Nat) : Int)).toNat % 2 ^ 4 := by
    rw [BitVec.toNat_and, BitVec.toNat_ofInt, h127, Nat.and_two_pow_sub_one_eq_mod]
  show IntKind.i64.wrap ((BitVec.ofInt 64 n &&& BitVec.ofInt 64 15).toNat : Nat) = n % 16
  rw [key, IntKind.wrap_i64]
  omega
theorem i64_and2 (n : Int) : bits .and .i64 n 3 = n % 4 := by
  have h127 : (BitVec.ofInt 64 3).toNat = 2 ^ 2 - 1 := by decide
  have key : (BitVec.ofInt 64 n &&& BitVec.ofInt 64 3).toNat = (n % ((2 ^ 64 : Nat) : Int)).toNat % 2 ^ 2 := by
    rw [BitVec.toNat_and, BitVec.toNat_ofInt, h127, Nat.and_two_pow_sub_one_eq_mod]
  show IntKind.i64.wrap ((BitVec.ofInt 64 n &&& BitVec.ofInt 64 3).toNat : Nat) = n % 4
  rw [key, IntKind.wrap_i64]
  omega
def fN (n : Int) : Int := n % 16 - 5
def fD (n : Int) : Int := 1 + n / 16 % 4
def frF (n : Int) : Rat := (fN n : Rat) / (fD n : Rat)
theorem fN_bd (n : Int) : -5 ≤ fN n ∧ fN n ≤ 10 := by unfold fN; omega
theorem fD_bd (n : Int) : 1 ≤ fD n ∧ fD n ≤ 4 := by unfold fD; omega
theorem fit_int (z : Int) (h : z.natAbs < 4294967296) : Fit 200 (z : Rat) := by
  refine Fit.mono (k := 1) ⟨?_, ?_⟩ (by omega)
  · simpa using h
  · simp

set_option maxRecDepth 100000 in
set_option maxHeartbeats 4000000 in
theorem d_Frac (n : Int) (w m : World) (hV : Vw m w) (h1 : -9223372036854775808 ≤ n) (h2 : n ≤ 9223372036854775807) :
    Calls Tryz.prog 64 #[.int .i64 n] w (RetV w m fun m' r => FracC m' r (frF n)) := by
  have e1 := i64_and4 n
  have e2 := i64_and2 (n / 16)
  have k1 := fit_int (n % 16 - 5) (by omega)
  have k2 := fit_int (1 + n / 16 % 4) (by omega)
  have hL := Loc.start hV
  clear hV h1 h2
  go_enter Tryz.func64, Tryz.ntmps64
  go_wp2_with (first | ((with_reducible refine kAny ?_); go_skip) | ((first | (refine tSt ?_; clear hL; intro _ hL; simp only [splice, zq1, zq2, zq3] at hL) | (refine tAl ?_; clear hL; intro _ _ hL _)); simp only [Act.put, zq1, zq2, zq3]))
  refine (r_Int (n % 16 - 5) _ _ hL.vw (by omega) (by omega)).mono ?_
  rintro e W11 ⟨v11, m11, rfl, hE, hM11, hV, h11⟩
  replace hL := hL.call hE (by assumption) hV; clear hE hV
  obtain ⟨g11', A11', n11', c11', h11', B11', k11', d11', rfl, h11⟩ := h11.lit
  go_wp2_with (first | ((with_reducible refine kAny ?_); go_skip) | ((first | (refine tSt ?_; clear hL; intro _ hL; simp only [splice, zq1, zq2, zq3] at hL) | (refine tAl ?_; clear hL; intro _ _ hL _)); simp only [Act.put, zq1, zq2, zq3]))
  refine (r_Int (1 + n / 16 % 4) _ _ hL.vw (by omega) (by omega)).mono ?_
  rintro e W12 ⟨v12, m12, rfl, hE, hM12, hV, h12⟩
  replace hL := hL.call hE (by assumption) hV; clear hE hV
  obtain ⟨g12', A12', n12', c12', h12', B12', k12', d12', rfl, h12⟩ := h12.lit
  go_wp2_with (first | ((with_reducible refine kAny ?_); go_skip) | ((first | (refine tSt ?_; clear hL; intro _ hL; simp only [splice, zq1, zq2, zq3] at hL) | (refine tAl ?_; clear hL; intro _ _ hL _)); simp only [Act.put, zq1, zq2, zq3]))
  refine (r_Div _ _ _ _ _ _ hL.vw ((h11.toV k1 (by omega)).le leX) (h12.toV k2 (by omega)) k1 k2).mono ?_
  rintro e W13 ⟨v13, m13, rfl, hE, hM13, hV, h13⟩
  replace hL := hL.call hE (by assumption) hV; clear hE hV
  obtain ⟨g13', A13', n13', c13', h13', B13', k13', d13', rfl, h13⟩ := h13.lit
  go_wp2_with (first | ((with_reducible refine kAny ?_); go_skip) | ((first | (refine tSt ?_; clear hL; intro _ hL; simp only [splice, zq1, zq2, zq3] at hL) | (refine tAl ?_; clear hL; intro _ _ hL _)); simp only [Act.put, zq1, zq2, zq3]))
  refine fin_agg hL Tryz.results64 rfl rfl loX AgC.h (by exact rfl) ?_
  exact h13
end Go.Proofs.YtmhkmmmompediaaGreat

/- The rule for regions that draw their order, with pure operations which nothing waits for ('late'): each is taken first as soon as it may come. No program. -/
namespace Go.Proofs.YtmhkmmmompediaaGreat
open Go.RowKit

def blkOf : Value → Option Nat
  | .pointer (some a) => some a.block
  | .slice (some a) _ _ => some a.block
  | .agg cs => match cs.toList with
    | [_, .slice (some a) _ _] => some a.block
    | _ => none
  | _ => none
section
variable {P : Program} {ops : Array Oper} {Q : Exit → Act → World → Prop}
def Mid2 (ops : Array Oper) (n : Nat) (fl : Nat → Bool) (Φ : Nat → Value → World → World → Prop) (a0 : Act) (w0 m0 : World) (L : Array Bool) (a : Act) (w : World) : Prop :=
  ∃ vs m, a = lay (dsts ops n) vs a0 ∧ Ext w0 w ∧ Ext m0 m ∧ Vw m w ∧
    (∀ i o d, i < n → ops[i]? = some o → o.dst = some d → L.getD i false = true → ∃ u um, Ext u w ∧ Ext um m ∧ Φ i (vs d) u um) ∧
    (∀ i o d, i < n → ops[i]? = some o → o.dst = some d → L.getD i false = true → fl i = true → ∀ k, blkOf (vs d) = some k → k < w.heap.size) ∧
    (∀ i j o p d c, i < n → j < n → i ≠ j → ops[i]? = some o → ops[j]? = some p → o.dst = some d → p.dst = some c → L.getD i false = true → L.getD j false = true → fl i = true → fl j = true → ∀ k, blkOf (vs d) = some k → blkOf (vs c) ≠ some k)

def One2 (Φ : Value → World → World → Prop) (fl : Bool) (a : Act) (dst : Option Nat) (w m : World) (e : Exit) (a' : Act) (w' : World) : Prop :=
  e = .normal ∧ Ext w w' ∧ ∃ m' v, Ext m m' ∧ Vw m' w' ∧ a' = a.put dst v ∧ Φ v w' m' ∧ (fl = true → ∀ k, blkOf v = some k → w.heap.size ≤ k ∧ k < w'.heap.size)

theorem Mid2.step {n : Nat} {fl : Nat → Bool} {Φ : Nat → Value → World → World → Prop} {a0 : Act} {w0 m0 : World} {L : Array Bool} {a : Act} {w : World} (hdis : distinctB ops n = true)
    (hstep : ∀ i o, i < n → ops[i]? = some o → ∀ vs w m, Ext w0 w → Ext m0 m → Vw m w →
      (∀ e ∈ o.after, Region.binds .any e = true → ∀ p d, e.on < n → ops[e.on]? = some p → p.dst = some d → ∃ u um, Ext u w ∧ Ext um m ∧ Φ e.on (vs d) u um) →
      wpList P ops (One2 (Φ i) (fl i) (lay (dsts ops n) vs a0) o.dst w m) [o] (lay (dsts ops n) vs a0) w)
    (hM : Mid2 ops n fl Φ a0 w0 m0 L a w) {i : Nat} (hr : i ∈ Region.ready .any ops L) (hin : i < n) : wpOp P ops Q i (Mid2 ops n fl Φ a0 w0 m0 (L.setIfInBounds i true)) a w := by
  obtain ⟨vs, m, rfl, hE, hM, hV, hF, hG, hD⟩ := hM
  obtain ⟨hun, o, ho, hdep⟩ := mem_ready.1 hr
  refine wpOp_of_one ho (fun _ _ _ h => h.1) ?_ (hstep i o hin ho vs w m hE hM hV fun e he hb p d hen hp hd => hF _ _ _ hen hp hd (hdep e he hb))
  rintro a' w' ⟨_, hE', m', v, hM', hV', rfl, hv, hfl⟩
  cases hd : o.dst with
  | none =>
    have back : ∀ j p d, ops[j]? = some p → p.dst = some d → (L.setIfInBounds i true).getD j false = true → L.getD j false = true := by
      intro j p d hp hpd hL
      have hne : i ≠ j := by
        rintro rfl
        rw [ho] at hp
        obtain rfl := Option.some.inj hp
        rw [hd] at hpd
        cases hpd
      rw [Go.getD_set_ne false hne] at hL
      exact hL
    refine ⟨vs, m', rfl, hE.trans hE', hM.trans hM', hV', fun j p d hj hp hpd hL => ?_, fun j p d hj hp hpd hL hf => ?_, fun j k p q d c hj hk hjk hp hq hpd hqd hLj hLk hfj hfk => ?_⟩
    · obtain ⟨u, um, h1, h2, h3⟩ := hF j p d hj hp hpd (back j p d hp hpd hL)
      exact ⟨u, um, h1.trans hE', h2.trans hM', h3⟩
    · intro k h1
      exact Nat.lt_of_lt_of_le (hG j p d hj hp hpd (back j p d hp hpd hL) hf k h1) hE'.size
    · exact hD j k p q d c hj hk hjk hp hq hpd hqd (back j p d hp hpd hLj) (back k q c hq hqd hLk) hfj hfk
  | some di =>
    have other : ∀ j p d, j < n → i ≠ j → ops[j]? = some p → p.dst = some d → upd vs di v d = vs d := by
      intro j p d hj hne hp hpd
      have : d ≠ di := by
        rintro rfl
        exact distinct_spec hdis ho hp hin hj hne hd hpd
      simp [upd, this]
    have self : upd vs di v di = v := by simp [upd]
    have new : ∀ j p d, j < n → i ≠ j → ops[j]? = some p → p.dst = some d → L.getD j false = true → fl i = true → fl j = true → ∀ k, blkOf v = some k → blkOf (vs d) ≠ some k := by
      intro j p d hj hne hp hpd hL hfi hfj k h3 h1
      have h2 := hG j p d hj hp hpd hL hfj k h1
      have h4 := (hfl hfi k h3).1
      omega
    refine ⟨upd vs di v, m', lay_put (mem_dsts ho hin hd) vs a0 v, hE.trans hE', hM.trans hM', hV', fun j p d hj hp hpd hL => ?_, fun j p d hj hp hpd hL hf => ?_, fun j k p q d c hj hk hjk hp hq hpd hqd hLj hLk hfj hfk => ?_⟩
    · by_cases hne : i = j
      · subst hne
        rw [ho] at hp
        obtain rfl := Option.some.inj hp
        rw [hd] at hpd
        obtain rfl := Option.some.inj hpd
        exact ⟨w', m', Ext.refl _, Ext.refl _, by rw [self]; exact hv⟩
      · rw [Go.getD_set_ne false hne] at hL
        obtain ⟨u, um, h1, h2, h3⟩ := hF j p d hj hp hpd hL
        exact ⟨u, um, h1.trans hE', h2.trans hM', by rw [other j p d hj hne hp hpd]; exact h3⟩
    · by_cases hne : i = j
      · subst hne
        rw [ho] at hp
        obtain rfl := Option.some.inj hp
        rw [hd] at hpd
        obtain rfl := Option.some.inj hpd
        intro k hk
        rw [self] at hk
        exact (hfl hf k hk).2
      · rw [Go.getD_set_ne false hne] at hL
        intro k hk
        rw [other j p d hj hne hp hpd] at hk
        exact Nat.lt_of_lt_of_le (hG j p d hj hp hpd hL hf k hk) hE'.size
    · by_cases hij : i = j
      · subst hij
        rw [ho] at hp
        obtain rfl := Option.some.inj hp
        rw [hd] at hpd
        obtain rfl := Option.some.inj hpd
        rw [Go.getD_set_ne false hjk] at hLk
        rw [self, other k q c hk hjk hq hqd]
        exact new k q c hk hjk hq hqd hLk hfj hfk
      · by_cases hik : i = k
        · subst hik
          rw [ho] at hq
          obtain rfl := Option.some.inj hq
          rw [hd] at hqd
          obtain rfl := Option.some.inj hqd
          rw [Go.getD_set_ne false hij] at hLj
          rw [self, other j p d hj hij hp hpd]
          exact fun k h1 h2 => new j p d hj hij hp hpd hLj hfk hfj k h2 h1
        · rw [Go.getD_set_ne false hij] at hLj
          rw [Go.getD_set_ne false hik] at hLk
          rw [other j p d hj hij hp hpd, other k q c hk hik hq hqd]
          exact hD j k p q d c hj hk hjk hp hq hpd hqd hLj hLk hfj hfk

def sinkL (ops : Array Oper) (n : Nat) (lt : Nat → Bool) : Bool :=
  (List.range n).all fun i => lt i || (List.range (n + 1)).any fun j => decide (i < j) && !lt j && Region.waitsFor .any ops j i
def freeL (ops : Array Oper) (n : Nat) (lt : Nat → Bool) : Bool :=
  (List.range n).all fun i => !lt i || match ops[i]? with
    | none => false
    | some oi => (List.range ops.size).all fun j => j == i || oi.after.any (fun e => Region.binds .any e && e.on == j) || match ops[j]? with
      | some oj => oj.after.any (fun e => Region.binds .any e && e.on == i) || oi.apart ops oj
      | none => true
def lateB (ops : Array Oper) (n : Nat) (lt : Nat → Bool) : Bool :=
  ((decide (n = ops.size) && (List.range n).all fun i => !lt i) || (decide (n < ops.size) && sinkL ops n lt && Region.chainB .any ops n)) && freeL ops n lt && Region.noSelect ops && !lt n &&
    Region.seqB .any ops (ops.size - n) n ((List.range n).foldl (fun l i => l.setIfInBounds i true) (Array.replicate ops.size false))

theorem tail_waitsL {n : Nat} {lt : Nat → Bool} {listed : Array Bool} (hs : sinkL ops n lt = true) (hc : Region.chainB .any ops n = true) (hn : n < ops.size) (inv : HeadInv .any ops n listed) :
    ∀ (d i : Nat), n - i = d → i < n → lt i = false → listed.getD i true = false → ∀ t, n ≤ t → t ∉ Region.ready .any ops listed := by
  intro d
  induction d using Nat.strongRecOn with
  | _ d ih =>
    intro i hd hi hlt hun t ht hr
    obtain ⟨_, ot, hot, hall⟩ := mem_ready.1 hr
    have htlt : t < ops.size := (Array.getElem?_eq_some_iff.1 hot).1
    by_cases htn : t = n
    · subst htn
      have h1 := List.all_eq_true.1 hs i (List.mem_range.2 hi)
      simp only [hlt, Bool.false_or] at h1
      obtain ⟨j, hj, hj2⟩ := List.any_eq_true.1 h1
      simp only [Bool.and_eq_true, decide_eq_true_eq, Bool.not_eq_true'] at hj2
      obtain ⟨oj, hoj, e, he, hb, hon⟩ := Region.waitsFor_spec hj2.2
      have hjle : j ≤ t := by have := List.mem_range.1 hj; omega
      by_cases hjt : j = t
      · subst hjt
        have : oj = ot := Option.some.inj (hoj.symm.trans hot)
        subst this
        have h2 := hall e he hb
        rw [hon, getD_both hun] at h2
        cases h2
      · cases hl : listed.getD j false with
        | true =>
          have h2 := inv.closed j oj hoj hl e he hb
          rw [hon, getD_both hun] at h2
          cases h2
        | false =>
          have hjs : j < listed.size := by rw [inv.size]; omega
          exact ih (t - j) (by omega) j rfl (by omega) hj2.1.2 (getD_in hjs hl) t (Nat.le_refl _) hr
    · have h1 := List.all_eq_true.1 hc t (List.mem_range.2 htlt)
      simp only [Bool.or_eq_true, decide_eq_true_eq] at h1
      rcases h1 with h1 | h1
      · omega
      · obtain ⟨o', ho', e, he, hb, hon⟩ := Region.waitsFor_spec h1
        have : o' = ot := Option.some.inj (ho'.symm.trans hot)
        subst this
        have h2 := hall e he hb
        rw [hon, getD_both (inv.tail (t - 1) (by omega) (by omega))] at h2
        cases h2

theorem least_unlisted {n : Nat} {L : Array Bool} : ∀ i, i < n → L.getD i true = false → ∃ j, j ≤ i ∧ L.getD j true = false ∧ ∀ k, k < j → L.getD k true = true := by
  intro i
  induction i using Nat.strongRecOn with
  | _ i ih =>
    intro hi hs
    by_cases h : ∀ k, k < i → L.getD k true = true
    · exact ⟨i, Nat.le_refl _, hs, h⟩
    · simp only [Classical.not_forall] at h
      obtain ⟨k, hk, hn⟩ := h
      obtain ⟨j, h1, h2, h3⟩ := ih k hk (by omega) (by simpa using hn)
      exact ⟨j, by omega, h2, h3⟩
theorem least_ready {L : Array Bool} (ht : textB ops = true) (hL : L.size = ops.size) {j : Nat} (hj : j < ops.size) (h2 : L.getD j true = false) (h3 : ∀ k, k < j → L.getD k true = true) : j ∈ Region.ready .any ops L := by
  obtain ⟨o, ho⟩ : ∃ o, ops[j]? = some o := ⟨_, Array.getElem?_eq_getElem hj⟩
  refine mem_ready.2 ⟨h2, o, ho, fun e he hb => ?_⟩
  have h1 := List.all_eq_true.1 ht j (List.mem_range.2 hj)
  simp only [ho] at h1
  have h4 := Array.all_eq_true'.1 h1 e he
  simp [hb] at h4
  have h5 := h3 e.on h4
  have h6 : e.on < L.size := by omega
  simpa [h6] using h5

theorem Mid2.take {n : Nat} {fl : Nat → Bool} {Φ : Nat → Value → World → World → Prop} {a0 : Act} {w0 m0 : World} {L : Array Bool} {a : Act} {w : World} (hdis : distinctB ops n = true)
    (hM : Mid2 ops n fl Φ a0 w0 m0 L a w) {i : Nat} (hin : i < n) {o : Oper} (ho : ops[i]? = some o) (hfl : fl i = false)
    (hF : ∀ vs m, a = lay (dsts ops n) vs a0 → Ext w0 w → Ext m0 m → Vw m w → (∀ j p d, j < n → ops[j]? = some p → p.dst = some d → L.getD j false = true → ∃ u um, Ext u w ∧ Ext um m ∧ Φ j (vs d) u um) →
      ∃ v, Yields P ops o v a ∧ Φ i v w m) :
    ∃ v, Yields P ops o v a ∧ Mid2 ops n fl Φ a0 w0 m0 (L.setIfInBounds i true) (a.put o.dst v) w := by
  obtain ⟨vs, m, rfl, hE, hMm, hV, hFa, hG, hD⟩ := hM
  obtain ⟨v, hy, hv⟩ := hF vs m rfl hE hMm hV hFa
  refine ⟨v, hy, ?_⟩
  cases hd : o.dst with
  | none =>
    have back : ∀ j p d, ops[j]? = some p → p.dst = some d → (L.setIfInBounds i true).getD j false = true → L.getD j false = true := by
      intro j p d hp hpd hL
      have hne : i ≠ j := by
        rintro rfl
        rw [ho] at hp
        obtain rfl := Option.some.inj hp
        rw [hd] at hpd
        cases hpd
      rw [Go.getD_set_ne false hne] at hL
      exact hL
    exact ⟨vs, m, rfl, hE, hMm, hV, fun j p d hj hp hpd hL => hFa j p d hj hp hpd (back j p d hp hpd hL), fun j p d hj hp hpd hL => hG j p d hj hp hpd (back j p d hp hpd hL),
      fun j k p q d c hj hk hjk hp hq hpd hqd hLj hLk => hD j k p q d c hj hk hjk hp hq hpd hqd (back j p d hp hpd hLj) (back k q c hq hqd hLk)⟩
  | some di =>
    have other : ∀ j p d, j < n → i ≠ j → ops[j]? = some p → p.dst = some d → upd vs di v d = vs d := by
      intro j p d hj hne hp hpd
      have : d ≠ di := by
        rintro rfl
        exact distinct_spec hdis ho hp hin hj hne hd hpd
      simp [upd, this]
    have self : upd vs di v di = v := by simp [upd]
    refine ⟨upd vs di v, m, lay_put (mem_dsts ho hin hd) vs a0 v, hE, hMm, hV, fun j p d hj hp hpd hL => ?_, fun j p d hj hp hpd hL hf => ?_, fun j k p q d c hj hk hjk hp hq hpd hqd hLj hLk hfj hfk => ?_⟩
    · by_cases hne : i = j
      · subst hne
        rw [ho] at hp
        obtain rfl := Option.some.inj hp
        rw [hd] at hpd
        obtain rfl := Option.some.inj hpd
        exact ⟨w, m, Ext.refl _, Ext.refl _, by rw [self]; exact hv⟩
      · rw [Go.getD_set_ne false hne] at hL
        rw [other j p d hj hne hp hpd]
        exact hFa j p d hj hp hpd hL
    · have hne : i ≠ j := by rintro rfl; rw [hfl] at hf; cases hf
      rw [Go.getD_set_ne false hne] at hL
      rw [other j p d hj hne hp hpd]
      exact hG j p d hj hp hpd hL hf
    · have hij : i ≠ j := by rintro rfl; rw [hfl] at hfj; cases hfj
      have hik : i ≠ k := by rintro rfl; rw [hfl] at hfk; cases hfk
      rw [Go.getD_set_ne false hij] at hLj
      rw [Go.getD_set_ne false hik] at hLk
      rw [other j p d hj hij hp hpd, other k q c hk hik hq hqd]
      exact hD j k p q d c hj hk hjk hp hq hpd hqd hLj hLk hfj hfk

theorem wp_region_late {id : Nat} {a0 : Act} {w0 m0 : World} (n : Nat) (fl lt : Nat → Bool) (Φ : Nat → Value → World → World → Prop) (hV0 : Vw m0 w0) (hm : P.follows .mixedOrders = true)
    (hdis : distinctB ops n = true) (htx : textB ops = true) (htl : lateB ops n lt = true) (hQ : ∀ c a w d v, Q (.panic c) (a.put d v) w → Q (.panic c) a w) (hfl : ∀ i, lt i = true → fl i = false)
    (hstep : ∀ i o, i < n → ops[i]? = some o → ∀ vs w m, Ext w0 w → Ext m0 m → Vw m w →
      (∀ e ∈ o.after, Region.binds .any e = true → ∀ p d, e.on < n → ops[e.on]? = some p → p.dst = some d → ∃ u um, Ext u w ∧ Ext um m ∧ Φ e.on (vs d) u um) →
      wpList P ops (One2 (Φ i) (fl i) (lay (dsts ops n) vs a0) o.dst w m) [o] (lay (dsts ops n) vs a0) w)
    (hlate : ∀ i o, i < n → lt i = true → ops[i]? = some o → ∀ vs w m, Ext w0 w → Ext m0 m → Vw m w →
      (∀ e ∈ o.after, Region.binds .any e = true → ∀ p d, e.on < n → ops[e.on]? = some p → p.dst = some d → ∃ u um, Ext u w ∧ Ext um m ∧ Φ e.on (vs d) u um) →
      ∃ v, Yields P ops o v (lay (dsts ops n) vs a0) ∧ Φ i v w m)
    (hrest : ∀ vs w m, Ext w0 w → Ext m0 m → Vw m w → (∀ i o d, i < n → ops[i]? = some o → o.dst = some d → ∃ u um, Ext u w ∧ Ext um m ∧ Φ i (vs d) u um) →
      (∀ i j o p d c, i < n → j < n → i ≠ j → ops[i]? = some o → ops[j]? = some p → o.dst = some d → p.dst = some c → fl i = true → fl j = true → ∀ k, blkOf (vs d) = some k → blkOf (vs c) ≠ some k) →
      wpList P ops Q (ops.toList.drop n) (lay (dsts ops n) vs a0) w) :
    (Code.region id ops true).wp P Q a0 w0 := by
  unfold lateB at htl
  simp only [Bool.and_eq_true, Bool.or_eq_true, decide_eq_true_eq] at htl
  obtain ⟨⟨⟨⟨hsc, hfr⟩, hns⟩, _⟩, hseq⟩ := htl
  have hn : n ≤ ops.size := by
    rcases hsc with h | h
    · omega
    · omega
  have main : ∀ f L a w, HeadInv .any ops n L → left n L = f → Mid2 ops n fl Φ a0 w0 m0 L a w → wpAny P .any ops Q (f + (ops.size - n)) L a w := by
    intro f
    induction f with
    | zero =>
      intro L a w inv hl hM
      obtain ⟨vs, m, rfl, hE, hM, hV, hF, _, hD⟩ := hM
      have hL : L = (List.range n).foldl (fun l i => l.setIfInBounds i true) (Array.replicate ops.size false) := full_eq inv.size hn (fun i hi => left_zero hl hi) inv.tail
      have hon : ∀ i, i < n → L.getD i false = true := fun i hi => by
        have := left_zero hl hi
        have h2 : i < L.size := by rw [inv.size]; omega
        simpa [h2] using this
      have hw := hrest vs w m hE hM hV (fun i o d hi ho hd => hF i o d hi ho hd (hon i hi)) (fun i j o p d c hi hj hij ho hp hod hpd hfi hfj => hD i j o p d c hi hj hij ho hp hod hpd (hon i hi) (hon j hj) hfi hfj)
      have := wpAny_of_seq (P := P) (md := .any) (Q' := Q) (ops.toList.drop n) n L _ w (fun j => by simp) (by rw [hL]; simpa using hseq) hw
      simpa using this
    | succ f ih =>
      intro L a w inv hl hM
      have : ∃ i, i < n ∧ L.getD i true = false := by
        apply Classical.byContradiction
        intro hno
        have : left n L = 0 := by
          unfold left
          rw [List.length_eq_zero_iff, List.filter_eq_nil_iff]
          intro i hi
          have hi' := List.mem_range.1 hi
          cases e : L.getD i true with
          | true => simp
          | false => exact absurd ⟨i, hi', e⟩ hno
        omega
      obtain ⟨i0, hi0, hs0⟩ := this
      obtain ⟨i, hii, hs, hmin⟩ := least_unlisted i0 hi0 hs0
      have hin : i < n := by omega
      have hr := least_ready htx inv.size (by omega) hs hmin
      have hsz : i < L.size := by rw [inv.size]; omega
      rw [show f + 1 + (ops.size - n) = (f + (ops.size - n)) + 1 by omega]
      cases hlt : lt i with
      | true =>
        obtain ⟨_, o, ho, hdep⟩ := mem_ready.1 hr
        obtain ⟨v, hy, hM'⟩ := Mid2.take (P := P) hdis hM hin ho (hfl i hlt) (fun vs m ha hE hMm hV hF => by
          rw [ha]
          exact hlate i o hin hlt ho vs w m hE hMm hV fun e he hb p d hen hp hd => hF _ _ _ hen hp hd (hdep e he hb))
        refine wpAny_first ho (Region.noSelect_spec hns) (fun c a w h => hQ c a w _ _ h) _ L a w (fun j oj hj hne hun hnb => ?_) hr hy (ih _ _ _ (inv.set hr hin) (by have := left_set hin hs hsz; omega) hM')
        have h1 := List.all_eq_true.1 hfr i (List.mem_range.2 hin)
        simp only [hlt, Bool.not_true, Bool.false_or, ho] at h1
        have h2 := List.all_eq_true.1 h1 j (List.mem_range.2 (Array.getElem?_eq_some_iff.1 hj).1)
        simp only [hj, Bool.or_eq_true, beq_iff_eq, hne, false_or] at h2
        rcases h2 with h2 | h2 | h2
        · obtain ⟨k, hk, he⟩ := Array.any_eq_true.1 h2
          simp only [Bool.and_eq_true, beq_iff_eq] at he
          have h3 := hdep _ (Array.getElem_mem hk) he.1
          rw [he.2, getD_both hun] at h3
          cases h3
        · obtain ⟨k, hk, he⟩ := Array.any_eq_true.1 h2
          simp only [Bool.and_eq_true, beq_iff_eq] at he
          exact absurd he.2 (hnb _ (Array.getElem_mem hk) he.1)
        · exact h2
      | false =>
        refine ⟨fun h => (by rw [h] at hr; cases hr), fun k hk => ?_⟩
        have hkn : k < n := by
          rcases Nat.lt_or_ge k n with h | h
          · exact h
          · rcases hsc with ⟨he, _⟩ | ⟨⟨hnlt, hsk⟩, hch⟩
            · obtain ⟨_, o, ho, _⟩ := mem_ready.1 hk
              exact absurd (Array.getElem?_eq_some_iff.1 ho).1 (by omega)
            · exact absurd hk (tail_waitsL hsk hch hnlt inv _ i rfl hin hlt hs k h)
        have hks := (mem_ready.1 hk).1
        have hksz : k < L.size := by rw [inv.size]; omega
        exact wpOp_mono (fun a' w' h' => ih _ a' w' (inv.set hk hkn) (by have := left_set hkn hks hksz; omega) h') (Mid2.step hdis hstep hM hk hkn)
  refine wp_region_any hm ?_
  have h0 : left n (Array.replicate ops.size false) = n := by
    unfold left
    have : (List.range n).filter (fun i => !(Array.replicate ops.size false).getD i true) = List.range n := by
      rw [List.filter_eq_self]
      intro i hi
      have := List.mem_range.1 hi
      have h2 : i < ops.size := by omega
      simp [h2]
    rw [this]; simp
  have := main n (Array.replicate ops.size false) a0 w0.drew ⟨by simp, fun j oj hj hl => (by rw [getD_replicate_false] at hl; cases hl), fun t h1 h2 => (by simp [h2])⟩ h0
    ⟨_, m0, (lay_self _ _).symm, (Ext.refl _).drew, Ext.refl _, ⟨hV0.os, hV0.tape, hV0.output, hV0.size, hV0.cell⟩, fun i o d _ _ _ hl => (by rw [getD_replicate_false] at hl; cases hl),
      fun i o d _ _ _ hl => (by rw [getD_replicate_false] at hl; cases hl), fun i j o p d c _ _ _ _ _ _ _ hl => (by rw [getD_replicate_false] at hl; cases hl)⟩
  rw [show n + (ops.size - n) = ops.size by omega] at this
  exact this

def allLate (C : Oper → Fct → Prop) : List Oper → List Fct → List Bool → Prop
  | o :: l, f :: m, b :: n => (b = true → C o f) ∧ allLate C l m n
  | [], _, _ => True
  | _, _, _ => False
theorem allLate_at {C : Oper → Fct → Prop} : ∀ {l : List Oper} {m : List Fct} {n : List Bool}, allLate C l m n → ∀ {i : Nat} {o : Oper}, l[i]? = some o → n.getD i false = true → C o (fct m i)
  | [], _, _, _, _, _, h, _ => by simp at h
  | o :: l, f :: m, b :: n, ⟨h0, hl⟩, 0, p, h, hb => by simp at h hb; subst h; exact h0 hb
  | o :: l, f :: m, b :: n, ⟨h0, hl⟩, i + 1, p, h, hb => by simp at h hb; exact allLate_at hl h (by simpa using hb)
  | o :: l, [], _, h, _, _, _, _ => by cases h
  | o :: l, f :: m, [], h, _, _, _, _ => by cases h

def QN (Q : Exit → Act → World → Prop) (e : Exit) (a : Act) (w : World) : Prop := e = .normal ∧ Q .normal a w
theorem QN.mk {Q : Exit → Act → World → Prop} {a : Act} {w : World} (h : Q .normal a w) : QN Q .normal a w := ⟨rfl, h⟩
theorem wp_region_by2 {id : Nat} {a0 : Act} {w0 m0 : World} (n : Nat) (fl lt : List Bool) (Φ : List Fct) (hV0 : Vw m0 w0) (hm : P.follows .mixedOrders = true)
    (ds : List Nat) (A : (Nat → Value) → Act) (hds : dsts ops n = ds) (hA : ∀ vs, lay ds vs a0 = A vs) (hchk : (distinctB ops n && textB ops && lateB ops n (lt.getD · false)) = true)
    (hfl : ((List.range n).all fun i => !lt.getD i false || !fl.getD i false) = true) (hll : lt.length ≤ n)
    (hstep : allSteps2 (fun o f b => ∀ vs w m, Ext w0 w → Ext m0 m → Vw m w → depFacts ops n (fun j d => ∃ u um, Ext u w ∧ Ext um m ∧ fct Φ j (vs d) u um) o.after.toList →
      wpList P ops (One2 f b (A vs) o.dst w m) [o] (A vs) w) (ops.toList.take n) Φ fl)
    (hlate : allLate (fun o f => ∀ vs w m, Ext w0 w → Ext m0 m → Vw m w → depFacts ops n (fun j d => ∃ u um, Ext u w ∧ Ext um m ∧ fct Φ j (vs d) u um) o.after.toList →
      ∃ v, Yields P ops o v (A vs) ∧ f v w m) (ops.toList.take n) Φ lt)
    (hrest : ∀ vs w m, Ext w0 w → Ext m0 m → Vw m w → headFacts (fun j d => ∃ u um, Ext u w ∧ Ext um m ∧ fct Φ j (vs d) u um) 0 (ops.toList.take n) →
      (∀ i j o p d c, i < n → j < n → i ≠ j → ops[i]? = some o → ops[j]? = some p → o.dst = some d → p.dst = some c → fl.getD i false = true → fl.getD j false = true → ∀ k, blkOf (vs d) = some k → blkOf (vs c) ≠ some k) →
      wpList P ops (QN Q) (ops.toList.drop n) (A vs) w) : (Code.region id ops true).wp P Q a0 w0 := by
  refine Code.wp_mono (Q := QN Q) ?_ ?_
  · rintro e a w ⟨rfl, h⟩; exact h
  simp only [Bool.and_eq_true] at hchk
  refine wp_region_late (Q := QN Q) n (fl.getD · false) (lt.getD · false) (fct Φ) hV0 hm hchk.1.1 hchk.1.2 hchk.2 (fun c a w d v h => by cases h.1) ?_ ?_ ?_ ?_
  · intro i hi
    have hin : i < n := by
      rcases Nat.lt_or_ge i lt.length with h | h
      · omega
      · simp [List.getD, List.getElem?_eq_none h] at hi
    have := List.all_eq_true.1 hfl i (List.mem_range.2 hin)
    simp only [hi, Bool.not_true, Bool.false_or, Bool.not_eq_true'] at this
    exact this
  · intro i o hi ho vs w m hE hM hV hD
    rw [hds, hA]
    have ho' : (ops.toList.take n)[i]? = some o := by rw [List.getElem?_take_of_lt hi]; simpa using ho
    exact allSteps2_at hstep ho' vs w m hE hM hV (depFacts_of fun e he => hD e (by simpa using he))
  · intro i o hi hl ho vs w m hE hM hV hD
    rw [hds, hA]
    have ho' : (ops.toList.take n)[i]? = some o := by rw [List.getElem?_take_of_lt hi]; simpa using ho
    exact allLate_at hlate ho' hl vs w m hE hM hV (depFacts_of fun e he => hD e (by simpa using he))
  · intro vs w m hE hM hV hF hD
    rw [hds, hA]
    refine hrest vs w m hE hM hV (headFacts_of fun i o d ho hd => ?_) hD
    rw [Nat.zero_add]
    have hlt : i < (ops.toList.take n).length := (List.getElem?_eq_some_iff.1 ho).1
    have hi : i < n := by rw [List.length_take] at hlt; omega
    rw [List.getElem?_take_of_lt hi] at ho
    exact hF i o d hi (by simpa using ho) hd

theorem One2.still {Φ : Value → World → World → Prop} {a : Act} {dst : Option Nat} {w m : World} {v : Value} (hV : Vw m w) (h : Φ v w m) : One2 Φ false a dst w m .normal (a.put dst v) w :=
  ⟨rfl, Ext.refl _, m, v, Ext.refl _, hV, rfl, h, (fun h => by cases h)⟩
theorem One2.call {Φ : Value → World → World → Prop} {a : Act} {dst : Option Nat} {w m w' m' : World} {v : Value} (hE : Ext w w') (hM : Ext m m') (hV : Vw m' w') (h : Φ v w' m') : One2 Φ false a dst w m .normal (a.put dst v) w' :=
  ⟨rfl, hE, m', v, hM, hV, rfl, h, (fun h => by cases h)⟩
theorem one2_alloc {o : Oper} {a : Act} {dst : Option Nat} {B : Nat} {W1 m1 : World} {t : TypeId} {cs : Array Value} (hV : Vw m1 W1) (hE : B ≤ W1.heap.size) (hd : o.dst = dst) (hgd : o.guard = none) (ho : o.op = .alloc t) (hz : zc P t = some cs) :
    wpList P ops (One2 (NewBlk B t cs) true a dst W1 m1) [o] a W1 := by
  subst hd
  refine wpList_plain hgd fun _ hK => op_alloc ho hz (hK _ _ ?_)
  have h := (Loc.start hV).alloc cs t
  refine ⟨rfl, h.ext, _, _, h.mext, h.vw, rfl, ⟨W1.heap.size, rfl, hE, by simp [hV.size], h.at_ (n := 0) rfl, fun a ha => h.hid (W1.heap.size, t, cs) (by simp) a ha⟩, fun _ k hk => ?_⟩
  have e : W1.heap.size = k := Option.some.inj hk
  subst e
  exact ⟨Nat.le_refl _, by simp⟩
def NewRow (B : Nat) (e : TypeId) (cs : Array Value) (n : Nat) (v : Value) (u um : World) : Prop :=
  ∃ g, v = .slice (some ⟨g, 0, none⟩) n n ∧ B ≤ g ∧ g < um.heap.size ∧ Blk u g e cs ∧ ∀ a : Addr, a.block = g → um.cell? a = none
theorem Loc.add2 {w0 m0 W m u um : World} {B : Nat} {Ls Lt : List Lo} (hB1 : ∀ x ∈ Ls, x.1 < B) (hB2 : w0.heap.size ≤ B) (hL : Loc w0 m0 W m (Lt ++ Ls)) {t : TypeId} {cs : Array Value} {g : Nat}
    (h1 : B ≤ g) (h2 : g < um.heap.size) (h3 : Blk u g t cs) (h4 : ∀ a : Addr, a.block = g → um.cell? a = none) (hu : Ext u W) (hum : Ext um m) (hne : ∀ x ∈ Lt, some g ≠ some x.1) : Loc w0 m0 W m (((g, t, cs) :: Lt) ++ Ls) := by
  refine ⟨hL.size0, hL.ext, hL.mext, hL.vw, ?_, ?_, ?_, ?_⟩
  · intro x hx
    rcases List.mem_cons.1 hx with rfl | hx
    · exact Nat.le_trans hB2 h1
    · exact hL.low x hx
  · intro x hx
    rcases List.mem_cons.1 hx with rfl | hx
    · exact h3.ext hu
    · exact hL.blk x hx
  · intro x hx a ha
    rcases List.mem_cons.1 hx with rfl | hx
    · rw [hum.cell (p := a) (by rw [ha]; exact h2)]
      exact h4 a ha
    · exact hL.hid x hx a ha
  · refine List.Pairwise.cons (fun y hy => ?_) hL.apart
    rcases List.mem_append.1 hy with hy | hy
    · intro e
      exact hne y hy (congrArg some e)
    · have := hB1 y hy
      show g ≠ y.1
      omega
theorem Loc.addB {w0 m0 W m u um : World} {B : Nat} {Ls Lt : List Lo} (hB1 : ∀ x ∈ Ls, x.1 < B) (hB2 : w0.heap.size ≤ B) (hL : Loc w0 m0 W m (Lt ++ Ls)) {t : TypeId} {cs : Array Value} {v : Value} (f : NewBlk B t cs v u um)
    (hu : Ext u W) (hum : Ext um m) (hne : ∀ x ∈ Lt, blkOf v ≠ some x.1) : ∃ g, v = .pointer (some ⟨g, 0, none⟩) ∧ Loc w0 m0 W m (((g, t, cs) :: Lt) ++ Ls) := by
  obtain ⟨g, rfl, h1, h2, h3, h4⟩ := f
  exact ⟨g, rfl, Loc.add2 hB1 hB2 hL h1 h2 h3 h4 hu hum hne⟩
theorem ad0 {v : Value} : ∀ y ∈ ([] : List Lo), blkOf v ≠ some y.1 := fun _ h => by cases h
theorem adS {v : Value} {x : Lo} {l : List Lo} (h : blkOf v ≠ some x.1) (k : ∀ y ∈ l, blkOf v ≠ some y.1) : ∀ y ∈ x :: l, blkOf v ≠ some y.1 := fun y hy => by
  rcases List.mem_cons.1 hy with rfl | hy
  · exact h
  · exact k y hy
end
end Go.Proofs.YtmhkmmmompediaaGreat

/- Rows that a function builds by append, hidden from the view until they are shown; slices of values under a view. No program. -/
namespace Go.Proofs.YtmhkmmmompediaaGreat
open Go.RowKit

def Row (e : TypeId) (size : Nat) (v : Value) (n : Nat) (xs : List Value) (R : List Lo) : Prop :=
  xs.length = n * size ∧
    ((v = .slice none 0 0 ∧ n = 0 ∧ R = []) ∨
      ∃ g cap cur, v = .slice (some ⟨g, 0, none⟩) n cap ∧ R = [(g, e, cur)] ∧ n ≤ cap ∧ cap ≤ maxLen ∧ cur.size = cap * size ∧ cur.toList.take (n * size) = xs)
theorem Row.nil (e : TypeId) (size : Nat) : Row e size (.slice none 0 0) 0 [] [] := ⟨by simp, .inl ⟨rfl, rfl, rfl⟩⟩
theorem Row.lit {e : TypeId} {size : Nat} {v : Value} {n : Nat} {xs : List Value} {R : List Lo} (h : Row e size v n xs R) : ∃ A c, v = .slice A n c ∧ n ≤ c := by
  obtain ⟨_, ⟨rfl, rfl, _⟩ | ⟨g, cap, cur, rfl, _, h, _⟩⟩ := h
  · exact ⟨_, _, rfl, Nat.le_refl _⟩
  · exact ⟨_, _, rfl, h⟩
theorem Row.len {e : TypeId} {size : Nat} {v : Value} {n : Nat} {xs : List Value} {R : List Lo} (h : Row e size v n xs R) : xs.length = n * size := h.1

theorem Loc.perm {w0 m0 W m : World} {A B : List Lo} (h : Loc w0 m0 W m A) (hp : A.Perm B) : Loc w0 m0 W m B :=
  ⟨h.size0, h.ext, h.mext, h.vw, fun x hx => h.low x (hp.mem_iff.2 hx), fun x hx => h.blk x (hp.mem_iff.2 hx), fun x hx => h.hid x (hp.mem_iff.2 hx),
    hp.pairwise h.apart fun h => fun e => h e.symm⟩
theorem Loc.tail {w0 m0 W m : World} {x : Lo} {A : List Lo} (h : Loc w0 m0 W m (x :: A)) : Loc w0 m0 W m A :=
  ⟨h.size0, h.ext, h.mext, h.vw, fun y hy => h.low y (List.mem_cons_of_mem _ hy), fun y hy => h.blk y (List.mem_cons_of_mem _ hy), fun y hy => h.hid y (List.mem_cons_of_mem _ hy), (List.pairwise_cons.1 h.apart).2⟩
theorem Loc.own {w0 m0 W m : World} {A R : List Lo} (hL : Loc w0 m0 W m (A ++ R)) {e : TypeId} {size : Nat} {v : Value} {n : Nat} {xs : List Value} (hR : Row e size v n xs R) : W.ownsRow w0.heap.size e size v n xs := by
  obtain ⟨h1, ⟨rfl, rfl, _⟩ | ⟨g, cap, cur, rfl, rfl, h⟩⟩ := hR
  · exact ⟨h1, .inl ⟨rfl, rfl⟩⟩
  · have hm : (g, e, cur) ∈ A ++ [(g, e, cur)] := by simp
    exact ⟨h1, .inr ⟨g, cap, cur, rfl, hL.low _ hm, hL.blk _ hm, h⟩⟩

def hidTo (m : World) (n : Nat) : World := { m with heap := m.heap ++ Array.replicate (n - m.heap.size) (.cells #[] 0 (0, 0)) }
theorem hidTo_size {m : World} {n : Nat} (h : m.heap.size ≤ n) : (hidTo m n).heap.size = n := by simp [hidTo]; omega
theorem hidTo_old {m : World} {n k : Nat} (h : k < m.heap.size) : (hidTo m n).heap[k]? = m.heap[k]? := by simp [hidTo, Array.getElem?_append, h]
theorem hidTo_ext {m : World} {n : Nat} (h : m.heap.size ≤ n) : Ext m (hidTo m n) := ⟨rfl, rfl, rfl, by rw [hidTo_size h]; exact h, fun _ hk => hidTo_old hk⟩
theorem hidTo_new {m : World} {n : Nat} {a : Addr} (h : m.heap.size ≤ a.block) : (hidTo m n).cell? a = none := by
  obtain ⟨b, o, s⟩ := a
  simp only at h
  unfold World.cell?
  by_cases hb : b < n
  · have : (hidTo m n).heap[b]? = some (.cells #[] 0 (0, 0)) := by
      simp only [hidTo, Array.getElem?_append, Nat.not_lt.2 h, if_false]
      rw [Array.getElem?_replicate]; rw [if_pos (by omega)]
    rw [this]; cases s <;> simp
  · have : (hidTo m n).heap[b]? = none := by
      apply Array.getElem?_eq_none
      simp [hidTo]; omega
    rw [this]

theorem Loc.grown {w0 m0 W m W' : World} {A R R' : List Lo} (hL : Loc w0 m0 W m (A ++ R)) {row : Option Nat} (hg : W.grownBy W' row) (hrow : ∀ k, row = some k → ∃ x ∈ R, x.1 = k)
    (hR' : ∀ x ∈ R', Blk W' x.1 x.2.1 x.2.2 ∧ ((∃ y ∈ R, y.1 = x.1) ∨ x.1 = W.heap.size)) (hone : R'.length ≤ 1) : Loc w0 m0 W' (hidTo m W'.heap.size) (A ++ R') := by
  have hs : m.heap.size ≤ W'.heap.size := by rw [hL.vw.size]; exact hg.size
  have hrow' : ∀ k, row = some k → w0.heap.size ≤ k := fun k hk => by
    obtain ⟨x, hx, rfl⟩ := hrow k hk
    exact hL.low x (List.mem_append_right _ hx)
  have hap := List.pairwise_append.1 hL.apart
  refine ⟨hL.size0, hL.ext.grown hg hrow', hL.mext.trans (hidTo_ext hs), ⟨hL.vw.os.trans hg.os.symm, hL.vw.tape.trans hg.tape.symm, hL.vw.output.trans hg.output.symm, hidTo_size hs, fun a u hu => ?_⟩, ?_, ?_, ?_, ?_⟩
  · rcases Nat.lt_or_ge a.block m.heap.size with h | h
    · have h2 : (hidTo m W'.heap.size).cell? a = m.cell? a := cell_of_heap (hidTo_old h)
      rw [h2] at hu
      have hne : some a.block ≠ row := fun he => by
        obtain ⟨x, hx, hxa⟩ := hrow a.block he.symm
        rw [hL.hid x (List.mem_append_right _ hx) a hxa.symm] at hu; cases hu
      rw [cell_of_heap (hg.block a.block (by rw [← hL.vw.size]; exact h) hne)]
      exact hL.vw.cell _ _ hu
    · rw [hidTo_new h] at hu; cases hu
  · intro x hx
    rcases List.mem_append.1 hx with hx | hx
    · exact hL.low x (List.mem_append_left _ hx)
    · rcases (hR' x hx).2 with ⟨y, hy, e⟩ | e
      · rw [← e]; exact hL.low y (List.mem_append_right _ hy)
      · rw [e]; exact hL.ext.size
  · intro x hx
    rcases List.mem_append.1 hx with hx | hx
    · have hb := hL.blk x (List.mem_append_left _ hx)
      refine (hg.block x.1 hb.lt fun he => ?_).trans hb
      obtain ⟨y, hy, e⟩ := hrow x.1 he.symm
      exact hap.2.2 x hx y hy e.symm
    · exact (hR' x hx).1
  · intro x hx a ha
    have old : ∀ y ∈ A ++ R, y.1 = x.1 → (hidTo m W'.heap.size).cell? a = none := fun y hy e => by
      have hlt : a.block < m.heap.size := by rw [ha, ← e, hL.vw.size]; exact (hL.blk y hy).lt
      rw [cell_of_heap (hidTo_old hlt)]
      exact hL.hid y hy a (ha.trans e.symm)
    rcases List.mem_append.1 hx with hx | hx
    · exact old x (List.mem_append_left _ hx) rfl
    · rcases (hR' x hx).2 with ⟨y, hy, e⟩ | e
      · exact old y (List.mem_append_right _ hy) e
      · exact hidTo_new (by rw [ha, e, hL.vw.size]; exact Nat.le_refl _)
  · refine List.pairwise_append.2 ⟨hap.1, ?_, fun x hx y hy => ?_⟩
    · match R', hone with
      | [], _ => exact List.Pairwise.nil
      | [x], _ => exact List.pairwise_singleton _ _
    · rcases (hR' y hy).2 with ⟨z, hz, e⟩ | e
      · rw [← e]; exact hap.2.2 x hx z hz
      · have := (hL.blk x (List.mem_append_left _ hx)).lt
        rw [e]; exact Nat.ne_of_lt this

def apS (P : Program) (t : TypeId) : Option (TypeId × Nat × Nat × Nat) :=
  match P.underlying t with
  | some (.slice e) => (P.info? e).bind fun i => i.zero.map fun z => (e, i.size, i.bytes, z.cells.size)
  | _ => none
theorem ap_desc {P : Program} {t e : TypeId} {size bytes zs : Nat} (h : apS P t = some (e, size, bytes, zs)) : ∃ i z, P.underlying t = some (.slice e) ∧ P.info? e = some i ∧ i.zero = some z ∧ i.size = size ∧ i.bytes = bytes ∧ z.cells.size = zs := by
  unfold apS at h
  split at h
  · rename_i e' he
    cases hi : P.info? e' with
    | none => simp [hi] at h
    | some i =>
      cases hz : i.zero with
      | none => simp [hi, hz] at h
      | some z =>
        simp [hi, hz] at h
        obtain ⟨rfl, rfl, rfl, rfl⟩ := h
        exact ⟨i, z, he, hi, hz, rfl, rfl, rfl⟩
  · cases h

section
variable {P : Program} {ops : Array Oper} {Q : Exit → Act → World → Prop} {rest : List Oper} {o : Oper} {a : Act} {w0 m0 W m : World}
theorem wl_append {A R : List Lo} (hL : Loc w0 m0 W m (A ++ R)) {e : TypeId} {size : Nat} {v : Value} {n : Nat} {xs : List Value} (hR : Row e size v n xs R)
    (hw : Region.wanted o (yielded ops a.tmps) = true) {s x : Operand} {t : TypeId} (ho : o.op = .call { callee := .builtin .append, args := #[s, x], argTypes := #[t, t] })
    {bytes : Nat} (hap : apS P t = some (e, size, bytes, size)) (hsz : 0 < size) (hs : a.eval s = v) {B : Option Addr} {k c : Nat} (hx : a.eval x = .slice B k c) {news : List Value}
    (hl : news.length = k * size) (hr : Sl W B news) (h1 : news.all (·.oneCell') = true) (hn : n + k ≤ 1000000) (hb : bytes ≤ 1000000)
    (h : ∀ v' W' m' R', Loc w0 m0 W' m' (A ++ R') → Row e size v' (n + k) (xs ++ news) R' → Ext m m' → wpList P ops Q rest (a.put o.dst v') W') : wpList P ops Q (o :: rest) a W := by
  obtain ⟨i, z, ht, hi, hz, hs1, hb1, hz1⟩ := ap_desc hap
  refine wpList_wanted hw fun K hK => ?_
  have hbb : (n + k) * bytes ≤ 140737488355328 := Nat.le_trans (Nat.mul_le_mul hn hb) (by decide)
  refine wp_append_any W s x t ho w0.heap.size e i z size bytes ht hi hz hs1 hb1 hz1 hsz v n xs hs (hL.own hR) B k c news hx hl hr (fun u hu => List.all_eq_true.1 h1 u hu) (Nat.le_trans hn (by decide)) hbb hL.ext.size ?_
  intro v' W' ho' hg hob
  refine hK _ _ ?_
  have hrow : ∀ j, v.ownBlock = some j → ∃ x ∈ R, x.1 = j := by
    intro j hj
    obtain ⟨_, ⟨rfl, _, _⟩ | ⟨g, cap, cur, rfl, rfl, _⟩⟩ := hR
    · simp [Value.ownBlock] at hj
    · simp [Value.ownBlock] at hj
      exact ⟨_, List.mem_singleton.2 rfl, hj⟩
  have hE : Ext m (hidTo m W'.heap.size) := hidTo_ext (by rw [hL.vw.size]; exact hg.size)
  obtain ⟨hlen, ⟨rfl, h0⟩ | ⟨g, cap, cur, rfl, hge, hh, hnc, hcm, hcs, htk⟩⟩ := ho'
  · exact h _ W' _ [] (hL.grown hg hrow (fun x hx => by cases hx) (by simp)) ⟨hlen, .inl ⟨rfl, h0, rfl⟩⟩ hE
  · refine h _ W' _ [(g, e, cur)] (hL.grown hg hrow (fun x hx => ?_) (by simp)) ⟨hlen, .inr ⟨g, cap, cur, rfl, rfl, hnc, hcm, hcs, htk⟩⟩ hE
    rcases List.mem_singleton.1 hx with rfl
    refine ⟨hh, ?_⟩
    rcases hob with hob | hob
    · left
      obtain ⟨x, hx, hxe⟩ := hrow g (by rw [← hob]; rfl)
      exact ⟨x, hx, hxe⟩
    · right
      simpa [Value.ownBlock] using hob
end

def shown (m : World) (g : Nat) (t : TypeId) (cs : Array Value) : World := { m with heap := m.heap.setIfInBounds g (.cells cs t (0, 0)) }
theorem shown_size (m : World) (g : Nat) (t : TypeId) (cs : Array Value) : (shown m g t cs).heap.size = m.heap.size := by simp [shown]
theorem shown_other (m : World) {g k : Nat} (t : TypeId) (cs : Array Value) (h : k ≠ g) : (shown m g t cs).heap[k]? = m.heap[k]? := by
  simp only [shown, Array.getElem?_setIfInBounds]
  rw [if_neg (by omega)]
theorem shown_at (m : World) {g : Nat} (t : TypeId) (cs : Array Value) (h : g < m.heap.size) : Blk (shown m g t cs) g t cs := by
  unfold Blk shown
  simp [h]
theorem Loc.show1 {w0 m0 W m : World} {A : List Lo} {g : Nat} {t : TypeId} {cur : Array Value} (hL : Loc w0 m0 W m (A ++ [(g, t, cur)])) (k : Nat) :
    ∃ m', Loc w0 m0 W m' A ∧ Le m m' ∧ Sl m' (some ⟨g, 0, none⟩) (cur.toList.take k) := by
  have hm : (g, t, cur) ∈ A ++ [(g, t, cur)] := by simp
  have hb := hL.blk _ hm
  have hlt : g < m.heap.size := by rw [hL.vw.size]; exact hb.lt
  have hap := List.pairwise_append.1 hL.apart
  have hle : Le m (shown m g t (cur.toList.take k).toArray) := ⟨by rw [shown_size]; exact Nat.le_refl _, fun a u hu => by
    have hne : a.block ≠ g := fun e => by rw [hL.hid _ hm a e] at hu; cases hu
    rw [cell_of_heap (shown_other m t _ hne)]; exact hu⟩
  have hbs := shown_at m t (cur.toList.take k).toArray hlt
  refine ⟨shown m g t (cur.toList.take k).toArray, ⟨hL.size0, hL.ext, ⟨hL.mext.os, hL.mext.tape, hL.mext.output, by rw [shown_size]; exact hL.mext.size, fun j hj => ?_⟩, ⟨hL.vw.os, hL.vw.tape, hL.vw.output, by rw [shown_size]; exact hL.vw.size, fun a u hu => ?_⟩,
    fun x hx => hL.low x (List.mem_append_left _ hx), fun x hx => hL.blk x (List.mem_append_left _ hx), fun x hx a ha => ?_, hap.1⟩, hle, hbs.sl (n := k) (by simp [List.take_take])⟩
  · rw [shown_other m t _ (by have := hL.low _ hm; have := hL.size0; simp only at *; omega)]
    exact hL.mext.block j hj
  · by_cases e : a.block = g
    · obtain ⟨b, o, s⟩ := a
      simp only at e
      subst e
      unfold World.cell? at hu ⊢
      rw [hbs] at hu
      have hb' : W.heap[b]? = some (.cells cur t (0, 0)) := hb
      rw [hb']
      have key : ∀ v, (List.take k cur.toList).toArray[o]? = some v → cur[o]? = some v := fun v hv => by
        rw [List.getElem?_toArray, List.getElem?_take] at hv
        by_cases ho : o < k
        · rw [if_pos ho] at hv; simpa using hv
        · rw [if_neg ho] at hv; cases hv
      cases hq : (List.take k cur.toList).toArray[o]? with
      | none => cases s <;> simp [hq] at hu
      | some v =>
        have := key v hq
        simp only [hq] at hu
        simp only [this]
        exact hu
    · rw [cell_of_heap (shown_other m t _ e)] at hu
      exact hL.vw.cell _ _ hu
  · have hne : a.block ≠ g := by rw [ha]; exact hap.2.2 x hx _ (List.mem_singleton.2 rfl)
    rw [cell_of_heap (shown_other m t _ hne)]
    exact hL.hid x (List.mem_append_left _ hx) a ha
theorem Loc.show {w0 m0 W m : World} {A R : List Lo} (hL : Loc w0 m0 W m (A ++ R)) {e : TypeId} {size : Nat} {v : Value} {n : Nat} {xs : List Value} (hR : Row e size v n xs R) :
    ∃ m' B c, Loc w0 m0 W m' A ∧ Le m m' ∧ v = .slice B n c ∧ n ≤ c ∧ Sl m' B xs ∧ W.ownsRow w0.heap.size e size v n xs := by
  have ho := hL.own hR
  obtain ⟨h1, ⟨rfl, rfl, rfl⟩ | ⟨g, cap, cur, rfl, rfl, hn, _, _, ht⟩⟩ := hR
  · rw [List.append_nil] at hL
    have : xs = [] := List.eq_nil_of_length_eq_zero (by simpa using h1)
    subst this
    exact ⟨m, none, 0, hL, Le.refl _, rfl, Nat.le_refl _, Sl.nil, ho⟩
  · obtain ⟨m', h1, h2, h3⟩ := hL.show1 (n * size)
    rw [ht] at h3
    exact ⟨m', _, _, h1, h2, rfl, hn, h3, ho⟩

def RetW (w m : World) (R : World → World → Value → Prop) (e : Ending) (w' : World) : Prop :=
  ∃ v m', e = .returned v ∧ Ext w w' ∧ Ext m m' ∧ Vw m' w' ∧ R w' m' v
theorem RetW.mk {w m W m' : World} {R : World → World → Value → Prop} {v : Value} {Ls : List Lo} (hL : Loc w m W m' Ls) (h : R W m' v) : RetW w m R (.returned v) W := ⟨v, m', rfl, hL.ext, hL.mext, hL.vw, h⟩

def cellsOf (vs : List Value) : List Value := vs.flatMap fun v => v.cells.toList
theorem cellsOf_append (a b : List Value) : cellsOf (a ++ b) = cellsOf a ++ cellsOf b := by simp [cellsOf]
theorem cellsOf_one (v : Value) : cellsOf [v] = v.cells.toList := by simp [cellsOf]
theorem cellsOf_at {size : Nat} : ∀ {vs : List Value} {k : Nat} {v : Value}, (∀ u ∈ vs, u.cells.size = size) → vs[k]? = some v → ∀ j, j < size → (cellsOf vs)[k * size + j]? = v.cells.toList[j]?
  | [], k, v, _, h, _, _ => by simp at h
  | u :: vs, 0, v, hs, h, j, hj => by
    simp at h; subst h
    have : j < u.cells.toList.length := by simpa [hs u (by simp)] using hj
    simp only [cellsOf, List.flatMap_cons, Nat.zero_mul, Nat.zero_add]
    rw [List.getElem?_append_left this]
  | u :: vs, k + 1, v, hs, h, j, hj => by
    simp at h
    have hl : u.cells.toList.length = size := by simpa using hs u (by simp)
    have ih := cellsOf_at (vs := vs) (k := k) (fun x hx => hs x (by simp [hx])) h j hj
    simp only [cellsOf, List.flatMap_cons]
    rw [List.getElem?_append_right (by rw [hl, Nat.succ_mul]; omega), hl, show (k + 1) * size + j - size = k * size + j by rw [Nat.succ_mul]; omega]
    exact ih
theorem cellsOf_length {size : Nat} : ∀ {vs : List Value}, (∀ u ∈ vs, u.cells.size = size) → (cellsOf vs).length = vs.length * size
  | [], _ => by simp [cellsOf]
  | u :: vs, h => by
    have ih := cellsOf_length (vs := vs) fun x hx => h x (by simp [hx])
    have hl : u.cells.toList.length = size := by simpa using h u (by simp)
    simp only [cellsOf, List.flatMap_cons, List.length_append, hl, List.length_cons, Nat.succ_mul]
    simp only [cellsOf] at ih
    omega

def All2 {α : Type} (R : Value → α → Prop) : List Value → List α → Prop
  | [], [] => True
  | v :: vs, x :: xs => R v x ∧ All2 R vs xs
  | _, _ => False
theorem All2.length {α : Type} {R : Value → α → Prop} : ∀ {vs : List Value} {xs : List α}, All2 R vs xs → vs.length = xs.length
  | [], [], _ => rfl
  | _ :: _, _ :: _, h => by simp [All2.length h.2]
  | [], _ :: _, h => h.elim
  | _ :: _, [], h => h.elim
theorem All2.at_ {α : Type} {R : Value → α → Prop} : ∀ {vs : List Value} {xs : List α}, All2 R vs xs → ∀ {k : Nat} {x : α}, xs[k]? = some x → ∃ v, vs[k]? = some v ∧ R v x
  | v :: vs, x :: xs, h, 0, y, e => by simp at e; subst e; exact ⟨v, rfl, h.1⟩
  | v :: vs, x :: xs, h, k + 1, y, e => by simp at e; simpa using All2.at_ h.2 e
  | [], [], _, _, _, e => by simp at e
  | [], _ :: _, h, _, _, _ => h.elim
  | _ :: _, [], h, _, _, _ => h.elim
theorem All2.left {α : Type} {R : Value → α → Prop} : ∀ {vs : List Value} {xs : List α}, All2 R vs xs → ∀ {k : Nat} {v : Value}, vs[k]? = some v → ∃ x, R v x
  | v :: vs, x :: xs, h, 0, y, e => by simp at e; subst e; exact ⟨x, h.1⟩
  | v :: vs, x :: xs, h, k + 1, y, e => by simp at e; exact All2.left h.2 e
  | [], [], _, _, _, e => by simp at e
  | [], _ :: _, h, _, _, _ => h.elim
  | _ :: _, [], h, _, _, _ => h.elim
theorem All2.mono {α : Type} {R S : Value → α → Prop} (hRS : ∀ v x, R v x → S v x) : ∀ {vs : List Value} {xs : List α}, All2 R vs xs → All2 S vs xs
  | [], [], _ => trivial
  | _ :: _, _ :: _, h => ⟨hRS _ _ h.1, All2.mono hRS h.2⟩
  | [], _ :: _, h => h.elim
  | _ :: _, [], h => h.elim
theorem All2.snoc {α : Type} {R : Value → α → Prop} {v : Value} {x : α} (hv : R v x) : ∀ {vs : List Value} {xs : List α}, All2 R vs xs → All2 R (vs ++ [v]) (xs ++ [x])
  | [], [], _ => ⟨hv, trivial⟩
  | _ :: _, _ :: _, h => ⟨h.1, All2.snoc hv h.2⟩
  | [], _ :: _, h => h.elim
  | _ :: _, [], h => h.elim

def ListV {α : Type} (size : Nat) (R : World → Value → α → Prop) (m : World) (v : Value) (xs : List α) : Prop :=
  ∃ A c vs, v = .slice A xs.length c ∧ xs.length ≤ c ∧ (∀ u ∈ vs, u.cells.size = size) ∧ Sl m A (cellsOf vs) ∧ All2 (R m) vs xs
theorem ListV.lit {α : Type} {size : Nat} {R : World → Value → α → Prop} {m : World} {v : Value} {xs : List α} (h : ListV size R m v xs) : ∃ A c, v = .slice A xs.length c ∧ xs.length ≤ c ∧ ListV size R m (.slice A xs.length c) xs := by
  have h' := h
  obtain ⟨A, c, vs, rfl, hc, _⟩ := h
  exact ⟨A, c, rfl, hc, h'⟩
theorem ListV.le {α : Type} {size : Nat} {R : World → Value → α → Prop} (hR : ∀ m m' v x, R m v x → Le m m' → R m' v x) {m m' : World} {v : Value} {xs : List α} (h : ListV size R m v xs) (hb : Le m m') : ListV size R m' v xs := by
  obtain ⟨A, c, vs, e, hc, h1, h2, h3⟩ := h
  exact ⟨A, c, vs, e, hc, h1, h2.le hb, h3.mono fun v x hv => hR m m' v x hv hb⟩
theorem ListV.at_ {α : Type} {size : Nat} {R : World → Value → α → Prop} {m : World} {A : Option Addr} {n c : Nat} {xs : List α} (h : ListV size R m (.slice A n c) xs) (h0 : 0 < size) {k : Nat} {x : α} (hk : xs[k]? = some x) :
    ∃ b off v, A = some ⟨b, off, none⟩ ∧ R m v x ∧ v.cells.size = size ∧ m.rangeAt b (off + k * size) v.cells.toList := by
  obtain ⟨A', c', vs, e, hc, h1, h2, h3⟩ := h
  injection e with e1 e2 e3
  subst e1
  obtain ⟨v, hv, hR⟩ := h3.at_ hk
  have hvm : v ∈ vs := List.mem_of_getElem? hv
  have hkl : k < vs.length := (List.getElem?_eq_some_iff.1 hv).1
  have hlen := cellsOf_length h1
  have hpos : 0 < (cellsOf vs).length := by rw [hlen]; exact Nat.mul_pos (by omega) h0
  obtain ⟨b, off, rfl, hlt, hcell⟩ := h2 hpos
  refine ⟨b, off, v, rfl, hR, h1 v hvm, fun j u hu => ?_⟩
  have hj : j < size := by
    have := (List.getElem?_eq_some_iff.1 hu).1
    simpa [h1 v hvm] using this
  rw [Nat.add_assoc]
  exact hcell (k * size + j) u ((cellsOf_at h1 hv j hj).trans hu)
theorem ListV.nil {α : Type} {size : Nat} {R : World → Value → α → Prop} {m : World} {A : Option Addr} {c : Nat} : ListV size R m (.slice A 0 c) [] := ⟨A, c, [], rfl, Nat.zero_le _, (fun _ h => by cases h), Sl.nil, trivial⟩
theorem ListV.mk {α : Type} {size : Nat} {R : World → Value → α → Prop} {m : World} {A : Option Addr} {n c : Nat} {vs : List Value} {xs : List α} (hn : n ≤ c) (hl : vs.length = n) (h1 : ∀ u ∈ vs, u.cells.size = size) (h2 : Sl m A (cellsOf vs)) (h3 : All2 (R m) vs xs) :
    ListV size R m (.slice A n c) xs := by
  have := h3.length
  have e : n = xs.length := by omega
  subst e
  exact ⟨A, c, vs, rfl, hn, h1, h2, h3⟩
class ApC (P : Program) (t : TypeId) (e : outParam TypeId) (size bytes : outParam Nat) : Prop where
  h : apS P t = some (e, size, bytes, size)
section
variable {P : Program} {ops : Array Oper} {Q : Exit → Act → World → Prop} {rest : List Oper} {o : Oper} {a : Act} {W m : World}
theorem wl_loadV (hV : Vw m W) (hw : Region.wanted o (yielded ops a.tmps) = true) {ty : TypeId} {x : Operand} (ho : o.op = .load ty x) {g off : Nat} (hx : a.eval x = .pointer (some ⟨g, off, none⟩))
    {k : Nat} (hty : agS P ty = some k) {vs : List Value} (hr : m.rangeAt g off vs) (hk : vs.length = k)
    (h : wpList P ops Q rest (a.put o.dst (.agg vs.toArray)) W) : wpList P ops Q (o :: rest) a W :=
  wpList_wanted hw fun _ hK => op_load ho hx (vs := vs) (hk ▸ hty) (fun j v hv => hV.cell _ _ (hr j v hv)) (hK _ _ h)
theorem wl_loadV1 (hV : Vw m W) (hw : Region.wanted o (yielded ops a.tmps) = true) {ty : TypeId} {x : Operand} (ho : o.op = .load ty x) {g off : Nat} (hx : a.eval x = .pointer (some ⟨g, off, none⟩))
    (hty : lfB P ty = true) {v : Value} (hr : m.cell? ⟨g, off, none⟩ = some v)
    (h : wpList P ops Q rest (a.put o.dst v) W) : wpList P ops Q (o :: rest) a W :=
  wpList_wanted hw fun _ hK => op_load1 ho hx hty (hV.cell _ _ hr) (hK _ _ h)
theorem wl_indexAddr (hw : Region.wanted o (yielded ops a.tmps) = true) {t : TypeId} {s i : Operand} (ho : o.op = .indexAddr t s i) {e : TypeId} {size bytes zs : Nat} (hap : apS P t = some (e, size, bytes, zs))
    {b off n c k : Nat} {kd : IntKind} (hs : a.eval s = .slice (some ⟨b, off, none⟩) n c) (hi : a.eval i = .int kd k) (hk : k < n)
    (h : wpList P ops Q rest (a.put o.dst (.pointer (some ⟨b, off + k * size, none⟩))) W) : wpList P ops Q (o :: rest) a W := by
  obtain ⟨ti, z, ht, hti, hz, hs1, hb1, hz1⟩ := ap_desc hap
  have hrun : (Instr.indexAt t (.slice (some ⟨b, off, none⟩) n c) (.int kd k)).run P W = .ok (.pointer (some ⟨b, off + k * size, none⟩)) W := by
    unfold Instr.indexAt
    have h1 : (0 : Int) ≤ (k : Int) ∧ (k : Int) < n := by omega
    simp [asIntOf, Sem.run_bind, run_underlying ht, sizeOf, typeInfo, hti, hs1, h1, Addr.add, hk]
  refine wpList_wanted hw fun _ hK => ?_
  unfold Oper.wp execOp
  simp only [ho, hs, hi, Sem.run_bind, hrun, Result.andThen_ok, Sem.run_pure]
  exact hK _ _ h
theorem cell_le {m m' : World} {p : Addr} {v : Value} (h : m.cell? p = some v) (hl : Le m m') : m'.cell? p = some v := hl.cell _ _ h
theorem rangeAt_le {m m' : World} {g off : Nat} {vs : List Value} (h : m.rangeAt g off vs) (hl : Le m m') : m'.rangeAt g off vs := fun j v hv => hl.cell _ _ (h j v hv)
def fdS (P : Program) (t : TypeId) (k : Nat) : Option Nat :=
  match P.underlying t with
  | some (.struct fs) => (fs[k]?).bind fun f => match P.info? f.type with | some i => if i.size = 0 then none else some f.offset | none => none
  | _ => none
theorem run_fieldAt {t : TypeId} {k fo : Nat} (hf : fdS P t k = some fo) (g off : Nat) (w : World) : (Instr.fieldAt t (.pointer (some ⟨g, off, none⟩)) k).run P w = .ok (.pointer (some ⟨g, off + fo, none⟩)) w := by
  unfold fdS at hf
  split at hf
  · rename_i fs hu
    cases hk : fs[k]? with
    | none => simp [hk] at hf
    | some f =>
      cases hi : P.info? f.type with
      | none => simp [hk, hi] at hf
      | some i =>
        simp only [hk, hi, Option.bind_some] at hf
        split at hf
        · cases hf
        · rename_i hne
          injection hf with hf
          subst hf
          unfold Instr.fieldAt fieldPlace
          rw [Sem.run_bind, run_underlying hu w]
          simp [hk, Instr.sureAddr, sizeOf, typeInfo, hi, hne, Addr.add]
  · cases hf
theorem wl_fieldAddr (hw : Region.wanted o (yielded ops a.tmps) = true) {t : TypeId} {x : Operand} {k : Nat} (ho : o.op = .fieldAddr t x k) {fo : Nat} (hf : fdS P t k = some (fo + 1)) {g off : Nat} (hx : a.eval x = .pointer (some ⟨g, off, none⟩))
    (h : wpList P ops Q rest (a.put o.dst (.pointer (some ⟨g, off + (fo + 1), none⟩))) W) : wpList P ops Q (o :: rest) a W := by
  refine wpList_wanted hw fun _ hK => ?_
  unfold Oper.wp execOp
  simp only [ho, hx, Sem.run_bind, run_fieldAt hf, Result.andThen_ok, Sem.run_pure]
  exact hK _ _ h
theorem wl_fieldAddr0 (hw : Region.wanted o (yielded ops a.tmps) = true) {t : TypeId} {x : Operand} {k : Nat} (ho : o.op = .fieldAddr t x k) (hf : fdS P t k = some 0) {g off : Nat} (hx : a.eval x = .pointer (some ⟨g, off, none⟩))
    (h : wpList P ops Q rest (a.put o.dst (.pointer (some ⟨g, off, none⟩))) W) : wpList P ops Q (o :: rest) a W := by
  refine wpList_wanted hw fun _ hK => ?_
  unfold Oper.wp execOp
  simp only [ho, hx, Sem.run_bind, run_fieldAt hf, Result.andThen_ok, Sem.run_pure, Nat.add_zero]
  exact hK _ _ h
theorem op_make {K : Act → World → Prop} {t : TypeId} {x : Operand} (ho : o.op = .makeSlice t x x) {e : TypeId} {size bytes : Nat} (hap : apS P t = some (e, size, bytes, size)) {z : Array Value} (hz : zc P e = some z) {n : Nat} (hx : a.eval x = .int .i64 n)
    (hn : n ≤ 1000000) (hb : bytes ≤ 1000000) (h : K (a.put o.dst (.slice (some ⟨W.heap.size, 0, none⟩) n n)) (W.alloc (.cells (madeCells z (n * size)) e))) : o.wp P a W K Q := by
  obtain ⟨i, z', ht, hi, hz', hs1, hb1, hz1⟩ := ap_desc hap
  have e1 : z = z'.cells := by
    unfold zc at hz
    rw [hi] at hz
    simp [hz'] at hz
    exact hz.symm
  subst e1
  have hbb : (i.bytes : Int) * (n : Int) ≤ 281474976710656 := by
    have : i.bytes * n ≤ 1000000 * 1000000 := Nat.mul_le_mul (by omega) hn
    have h2 : ((i.bytes * n : Nat) : Int) ≤ 281474976710656 := by omega
    rwa [Int.natCast_mul] at h2
  have hr := run_make (P := P) W t e i z' ht hi hz' .i64 .i64 n n (by omega) (Int.le_refl _) hbb (by omega)
  simp only [Int.toNat_natCast, hs1] at hr
  unfold Oper.wp execOp
  simp only [ho, hx, Sem.run_bind, hr, Result.andThen_ok, Sem.run_pure]
  exact h
theorem NewRow.ext {B : Nat} {e : TypeId} {cs : Array Value} {n : Nat} {v : Value} {u um u' um' : World} (h : NewRow B e cs n v u um) (hu : Ext u u') (hm : Ext um um') : NewRow B e cs n v u' um' := by
  obtain ⟨g, rfl, h1, h2, h3, h4⟩ := h
  exact ⟨g, rfl, h1, Nat.lt_of_lt_of_le h2 hm.size, h3.ext hu, fun a ha => by rw [hm.cell (p := a) (by rw [ha]; exact h2)]; exact h4 a ha⟩
theorem blk_ne {w : World} {g g' : Nat} {t t' : TypeId} {cs cs' : Array Value} (h : Blk w g t cs) (h' : Blk w g' t' cs') (hne : t ≠ t' ∨ cs.size ≠ cs'.size) : g ≠ g' := by
  rintro rfl
  unfold Blk at h h'
  rw [h] at h'
  simp only [Option.some.injEq, Obj.cells.injEq] at h'
  rcases hne with hne | hne
  · exact hne h'.2.1
  · exact hne (by rw [h'.1])
class FdC (P : Program) (t : TypeId) (k : Nat) (off : outParam Nat) : Prop where
  h : fdS P t k = some off
theorem t_ixa {t : TypeId} {s i : Operand} (ho : o.op = .indexAddr t s i) {e : TypeId} {size bytes : Nat} [hap : ApC P t e size bytes] {b off n c k : Nat} {kd : IntKind} (hs : a.eval s = .slice (some ⟨b, off, none⟩) n c) (hi : a.eval i = .int kd k)
    (h : wpList P ops Q rest (a.put o.dst (.pointer (some ⟨b, off + k * size, none⟩))) W) (hk : k < n := by first | with_reducible assumption | omega)
    (hw : Region.wanted o (yielded ops a.tmps) = true := by first | exact wanted_none rfl | exact wanted_some rfl rfl rfl rfl) : wpList P ops Q (o :: rest) a W := wl_indexAddr hw ho hap.h hs hi hk h
theorem t_fda {t : TypeId} {x : Operand} {k : Nat} (ho : o.op = .fieldAddr t x k) {fo : Nat} [hf : FdC P t k (fo + 1)] {g off : Nat} (hx : a.eval x = .pointer (some ⟨g, off, none⟩))
    (h : wpList P ops Q rest (a.put o.dst (.pointer (some ⟨g, off + (fo + 1), none⟩))) W)
    (hw : Region.wanted o (yielded ops a.tmps) = true := by first | exact wanted_none rfl | exact wanted_some rfl rfl rfl rfl) : wpList P ops Q (o :: rest) a W := wl_fieldAddr hw ho hf.h hx h
theorem t_fda0 {t : TypeId} {x : Operand} {k : Nat} (ho : o.op = .fieldAddr t x k) [hf : FdC P t k 0] {g off : Nat} (hx : a.eval x = .pointer (some ⟨g, off, none⟩))
    (h : wpList P ops Q rest (a.put o.dst (.pointer (some ⟨g, off, none⟩))) W)
    (hw : Region.wanted o (yielded ops a.tmps) = true := by first | exact wanted_none rfl | exact wanted_some rfl rfl rfl rfl) : wpList P ops Q (o :: rest) a W := wl_fieldAddr0 hw ho hf.h hx h
theorem t_loadV (hV : Vw m W) {ty : TypeId} {x : Operand} (ho : o.op = .load ty x) {g off : Nat} (hx : a.eval x = .pointer (some ⟨g, off, none⟩)) {k : Nat} [hty : AgC P ty k] {vs : List Value}
    (h : wpList P ops Q rest (a.put o.dst (.agg vs.toArray)) W) (hr : m.rangeAt g off vs ∧ vs.length = k := by refine ⟨?_, ?_⟩; exact rangeAt_le (by with_reducible assumption) (by repeat' (first | with_reducible exact Le.refl _ | (with_reducible refine Le.trans ?_ (Ext.le (by assumption))))); exact rfl)
    (hw : Region.wanted o (yielded ops a.tmps) = true := by first | exact wanted_none rfl | exact wanted_some rfl rfl rfl rfl) : wpList P ops Q (o :: rest) a W := wl_loadV hV hw ho hx hty.h hr.1 hr.2 h
theorem t_loadV1 (hV : Vw m W) {ty : TypeId} {x : Operand} (ho : o.op = .load ty x) {g off : Nat} (hx : a.eval x = .pointer (some ⟨g, off, none⟩)) [hty : LfC P ty] {v : Value}
    (h : wpList P ops Q rest (a.put o.dst v) W) (hr : m.cell? ⟨g, off, none⟩ = some v := by exact cell_le (by with_reducible assumption) (by repeat' (first | with_reducible exact Le.refl _ | (with_reducible refine Le.trans ?_ (Ext.le (by assumption))))))
    (hw : Region.wanted o (yielded ops a.tmps) = true := by first | exact wanted_none rfl | exact wanted_some rfl rfl rfl rfl) : wpList P ops Q (o :: rest) a W := wl_loadV1 hV hw ho hx hty.h hr h
end
end Go.Proofs.YtmhkmmmompediaaGreat

/- Facts on the program's types. -/
namespace Go.Proofs.YtmhkmmmompediaaGreat
open Go.RowKit

theorem ap_Fracs : apS Tryz.prog 28 = some (39, 4, 64, 4) := by kernel_rfl
instance iTy_1 : ApC Tryz.prog 28 39 4 64 := ⟨ap_Fracs⟩
theorem ap_ints : apS Tryz.prog 22 = some (3, 1, 8, 1) := by kernel_rfl
instance iTy_2 : ApC Tryz.prog 22 3 1 8 := ⟨ap_ints⟩
theorem ap_Cuts : apS Tryz.prog 24 = some (34, 2, 32, 2) := by kernel_rfl
instance iTy_3 : ApC Tryz.prog 24 34 2 32 := ⟨ap_Cuts⟩
theorem ap_Decs : apS Tryz.prog 29 = some (87, 3, 24, 3) := by kernel_rfl
instance iTy_4 : ApC Tryz.prog 29 87 3 24 := ⟨ap_Decs⟩
theorem ap_Cols : apS Tryz.prog 23 = some (72, 3, 48, 3) := by kernel_rfl
instance iTy_5 : ApC Tryz.prog 23 72 3 48 := ⟨ap_Cols⟩
theorem ag_Cut : agS Tryz.prog 34 = some 2 := by kernel_rfl
instance iTy_6 : AgC Tryz.prog 34 2 := ⟨ag_Cut⟩
theorem ag_Dec : agS Tryz.prog 87 = some 3 := by kernel_rfl
instance iTy_7 : AgC Tryz.prog 87 3 := ⟨ag_Dec⟩
theorem ag_Col : agS Tryz.prog 72 = some 3 := by kernel_rfl
instance iTy_8 : AgC Tryz.prog 72 3 := ⟨ag_Col⟩
theorem ag_Prices : agS Tryz.prog 31 = some 5 := by kernel_rfl
instance iTy_9 : AgC Tryz.prog 31 5 := ⟨ag_Prices⟩
theorem ag_Master : agS Tryz.prog 26 = some 5 := by kernel_rfl
instance iTy_10 : AgC Tryz.prog 26 5 := ⟨ag_Master⟩
theorem lf_ints : lfB Tryz.prog 22 = true := by kernel_rfl
instance iTy_11 : LfC Tryz.prog 22 := ⟨lf_ints⟩
theorem lf_Fracs : lfB Tryz.prog 28 = true := by kernel_rfl
instance iTy_12 : LfC Tryz.prog 28 := ⟨lf_Fracs⟩
theorem lf_Cuts : lfB Tryz.prog 24 = true := by kernel_rfl
instance iTy_13 : LfC Tryz.prog 24 := ⟨lf_Cuts⟩
theorem lf_Decs : lfB Tryz.prog 29 = true := by kernel_rfl
instance iTy_14 : LfC Tryz.prog 29 := ⟨lf_Decs⟩
theorem lf_Cols : lfB Tryz.prog 23 = true := by kernel_rfl
instance iTy_15 : LfC Tryz.prog 23 := ⟨lf_Cols⟩
theorem lf_Errno : lfB Tryz.prog 41 = true := by kernel_rfl
instance iTy_16 : LfC Tryz.prog 41 := ⟨lf_Errno⟩
theorem zc_Cut : zc Tryz.prog 34 = some #[.slice none 0 0, .int .i64 0] := by kernel_rfl
instance iTy_17 : ZcC Tryz.prog 34 #[.slice none 0 0, .int .i64 0] := ⟨zc_Cut⟩
theorem zc_Dec : zc Tryz.prog 87 = some #[.int .i64 0, .int .i64 0, .bool false] := by kernel_rfl
instance iTy_18 : ZcC Tryz.prog 87 #[.int .i64 0, .int .i64 0, .bool false] := ⟨zc_Dec⟩
theorem zc_Prices : zc Tryz.prog 31 = some #[.slice none 0 0, .slice none 0 0, .slice none 0 0, .slice none 0 0, .bool false] := by kernel_rfl
instance iTy_19 : ZcC Tryz.prog 31 #[.slice none 0 0, .slice none 0 0, .slice none 0 0, .slice none 0 0, .bool false] := ⟨zc_Prices⟩
theorem zc_Master : zc Tryz.prog 26 = some #[.int .i64 0, .slice none 0 0, .int .i64 0, .slice none 0 0, .slice none 0 0] := by kernel_rfl
instance iTy_20 : ZcC Tryz.prog 26 #[.int .i64 0, .slice none 0 0, .int .i64 0, .slice none 0 0, .slice none 0 0] := ⟨zc_Master⟩
theorem fd_Cut0 : fdS Tryz.prog 34 0 = some 0 := by kernel_rfl
instance iTy_21 : FdC Tryz.prog 34 0 0 := ⟨fd_Cut0⟩
theorem fd_Cut1 : fdS Tryz.prog 34 1 = some 1 := by kernel_rfl
instance iTy_22 : FdC Tryz.prog 34 1 1 := ⟨fd_Cut1⟩
theorem fd_Dec0 : fdS Tryz.prog 87 0 = some 0 := by kernel_rfl
instance iTy_23 : FdC Tryz.prog 87 0 0 := ⟨fd_Dec0⟩
theorem fd_Dec1 : fdS Tryz.prog 87 1 = some 1 := by kernel_rfl
instance iTy_24 : FdC Tryz.prog 87 1 1 := ⟨fd_Dec1⟩
theorem fd_Dec2 : fdS Tryz.prog 87 2 = some 2 := by kernel_rfl
instance iTy_25 : FdC Tryz.prog 87 2 2 := ⟨fd_Dec2⟩
theorem fd_Prices0 : fdS Tryz.prog 31 0 = some 0 := by kernel_rfl
instance iTy_26 : FdC Tryz.prog 31 0 0 := ⟨fd_Prices0⟩
theorem fd_Prices1 : fdS Tryz.prog 31 1 = some 1 := by kernel_rfl
instance iTy_27 : FdC Tryz.prog 31 1 1 := ⟨fd_Prices1⟩
theorem fd_Prices2 : fdS Tryz.prog 31 2 = some 2 := by kernel_rfl
instance iTy_28 : FdC Tryz.prog 31 2 2 := ⟨fd_Prices2⟩
theorem fd_Prices3 : fdS Tryz.prog 31 3 = some 3 := by kernel_rfl
instance iTy_29 : FdC Tryz.prog 31 3 3 := ⟨fd_Prices3⟩
theorem fd_Prices4 : fdS Tryz.prog 31 4 = some 4 := by kernel_rfl
instance iTy_30 : FdC Tryz.prog 31 4 4 := ⟨fd_Prices4⟩
theorem fd_Master0 : fdS Tryz.prog 26 0 = some 0 := by kernel_rfl
instance iTy_31 : FdC Tryz.prog 26 0 0 := ⟨fd_Master0⟩
theorem fd_Master1 : fdS Tryz.prog 26 1 = some 1 := by kernel_rfl
instance iTy_32 : FdC Tryz.prog 26 1 1 := ⟨fd_Master1⟩
theorem fd_Master2 : fdS Tryz.prog 26 2 = some 2 := by kernel_rfl
instance iTy_33 : FdC Tryz.prog 26 2 2 := ⟨fd_Master2⟩
theorem fd_Master3 : fdS Tryz.prog 26 3 = some 3 := by kernel_rfl
instance iTy_34 : FdC Tryz.prog 26 3 3 := ⟨fd_Master3⟩
theorem fd_Master4 : fdS Tryz.prog 26 4 = some 4 := by kernel_rfl
instance iTy_35 : FdC Tryz.prog 26 4 4 := ⟨fd_Master4⟩
theorem fd_Frac0 : fdS Tryz.prog 39 0 = some 0 := by kernel_rfl
instance iTy_36 : FdC Tryz.prog 39 0 0 := ⟨fd_Frac0⟩
theorem fd_Frac1 : fdS Tryz.prog 39 1 = some 2 := by kernel_rfl
instance iTy_37 : FdC Tryz.prog 39 1 2 := ⟨fd_Frac1⟩
theorem fd_Int0 : fdS Tryz.prog 37 0 = some 0 := by kernel_rfl
instance iTy_38 : FdC Tryz.prog 37 0 0 := ⟨fd_Int0⟩
theorem fd_Int1 : fdS Tryz.prog 37 1 = some 1 := by kernel_rfl
instance iTy_39 : FdC Tryz.prog 37 1 1 := ⟨fd_Int1⟩
end Go.Proofs.YtmhkmmmompediaaGreat

/- Contract of rational.Ceil where the negated numerator is not negative. -/
namespace Go.Proofs.YtmhkmmmompediaaGreat
open Go.RowKit

def DMr (m : World) (v : Value) (x y : Int) : Prop := ∃ q r, v = .tuple #[q, r, .int .i64 0] ∧ IntC m q (x / y) ∧ IntC m r (x % y)
theorem DMr.le {m m' : World} {v : Value} {x y : Int} (h : DMr m v x y) (hb : Le m m') : DMr m' v x y := by
  obtain ⟨q, r, e, h1, h2⟩ := h
  exact ⟨q, r, e, h1.le hb, h2.le hb⟩
theorem i_DivModR (a b : Value) (x y : Int) (w m : World) (hV : Vw m w) (ha : IntV m a x) (hb : IntV m b y) (hx : x.natAbs < 18446744073709551616) (hy : y.natAbs < 18446744073709551616) (hy0 : 0 < y) (hxy : 0 ≤ x ∨ x % y = 0) :
    Calls Tryz.prog 146 #[a, b] w (RetV w m fun m' v => DMr m' v x y) := i_DivMod a b x y w m hV ha hb hx hy hy0 hxy

set_option maxRecDepth 100000 in
set_option maxHeartbeats 8000000 in
theorem q_Ceil (v : Value) (q : Rat) (w m : World) (hV : Vw m w) (h : FracC m v q) (hx : q.num.natAbs < 18446744073709551616) (hy : q.den < 18446744073709551616) (hq : 0 ≤ -q.num ∨ -q.num % (q.den : Int) = 0) :
    Calls Tryz.prog 88 #[v] w (RetV w m fun m' r => IntC m' r (cel q)) := by
  obtain ⟨g, A, n, c, g', B', n', c', rfl, h⟩ := h.lit
  have lx : (digs q.num.natAbs).length ≤ 1000 := Nat.le_trans (len2 hx) (by omega)
  have lx' : (digs (-q.num).natAbs).length ≤ 1000 := by rw [Int.natAbs_neg]; exact lx
  have ly : (digs (q.den : Int).natAbs).length ≤ 1000 := Nat.le_trans (len2 (by simpa using hy)) (by omega)
  have lq : (digs (-q.num / (q.den : Int)).natAbs).length ≤ 1000 := Nat.le_trans (length_digs_mono (Int.natAbs_ediv_le_natAbs _ _)) lx'
  have HX : Hid ((-q.num).natAbs < 18446744073709551616) := by show _ < _; rw [Int.natAbs_neg]; exact hx
  have HY : Hid ((q.den : Int).natAbs < 18446744073709551616) := by show _ < _; simpa using hy
  have HP : Hid ((0 : Int) < q.den) := by show _ < _; have := q.den_pos; omega
  have HQ := Lib.hid hq
  have E : Hid (cel q = -(-q.num / (q.den : Int))) := by show _ = _; simp [cel, flr, Rat.neg_num, Rat.neg_den]
  clear hx hy hq
  have hL := Loc.start hV
  clear hV
  go_enter Tryz.func88, Tryz.ntmps88
  go_wp2_with (first | ((with_reducible refine kAny ?_); go_skip) | ((first | refine tLo ?_ | (refine tSt ?_; clear hL; intro _ hL; simp only [splice, zq1, zq2, zq3] at hL) | ((first | refine tBx ?_ | refine tAl ?_); clear hL; intro _ _ hL _)); simp only [Act.put, zq1, zq2, zq3]))
  refine (q_parts _ q _ _ hL.vw (h.le leX) ly).mono ?_
  rintro e W11 ⟨_, m11, rfl, hE, hM11, hV, va, vb, rfl, h1, h2⟩
  replace hL := hL.call hE (by assumption) hV; clear hE hV
  obtain ⟨g1, A1, n1, c1, rfl, h1⟩ := h1.lit
  obtain ⟨g2, A2, n2, c2, rfl, h2⟩ := h2.lit
  go_upto_region 2 with ((first | ((with_reducible refine kAny ?_); go_skip) | ((first | refine tLo ?_ | (refine tSt ?_; clear hL; intro _ hL; simp only [splice, zq1, zq2, zq3] at hL) | ((first | refine tBx ?_ | refine tAl ?_); clear hL; intro _ _ hL _)); simp only [Act.put, zq1, zq2, zq3])))
  obtain ⟨B, hB1, hB2, hB3⟩ := hL.bound
  refine wp_region_by2 10 [false, false, false, false, false, false, false, false, true, true] [false, false, false, false, false, false, true, true, false, false] [(fun v _ _ => v = ?c2_0), Of (fun um v => IntC um v (-q.num)), (fun v _ _ => v = ?c2_2), Of (fun um v => DMr um v (-q.num) (q.den : Int)), Of (fun um v => DMr um v (-q.num) (q.den : Int)), Of (fun um v => IntC um v (-q.num / (q.den : Int))), Of (fun um v => IntC um v (-q.num % (q.den : Int))), Is (.int .i64 0), NewBlk B 37 #[.bool false, .slice none 0 0], NewBlk B 37 #[.bool false, .slice none 0 0]] hL.vw mixed [14, 15, 16, 17, 13, 18, 19, 20, 5, 6] _ (by kernel_rfl) (fun vs => by simp only [lay, Act.put, zq1, zq2, zq3]; rfl) (by kernel_rfl) (by decide) (by decide) ?s2 ?l2 ?r2
  case s2 =>
    refine ⟨?_, ?_, ?_, ?_, ?_, ?_, ?_, ?_, ?_, ?_, trivial⟩
    · intro vs W1 m1 hE hM hV hD; clear hD; replace hL := hL.call hE hM hV
      exact sLd
    · intro vs W1 m1 hE hM hV hD; obtain ⟨⟨_, _, -, -, f14⟩, -⟩ := hD; have f14 : vs 14 = _ := f14; generalize vs 14 = x14 at f14 ⊢; subst x14
      go_wp2_with fail
      refine (i_Negate _ q.num _ _ hV ((h1.toV lx).le leX)).mono ?_
      rintro e W2 ⟨v, m2, rfl, hE2, hM2, hV2, h⟩
      go_wp2_with fail
      refine One2.call hE2 hM2 hV2 ?_; first | exact h | exact rfl
    · intro vs W1 m1 hE hM hV hD; clear hD; replace hL := hL.call hE hM hV
      exact sLd
    · intro vs W1 m1 hE hM hV hD; obtain ⟨⟨_, _, -, i15, f15⟩, ⟨_, _, -, -, f16⟩, -, -⟩ := hD; have f16 : vs 16 = _ := f16; generalize vs 16 = x16 at f16 ⊢; subst x16; have f15 : IntC _ (vs 15) (-q.num) := f15; replace f15 := f15.le i15.le; clear i15
      go_wp2_with fail
      refine (i_DivModR _ _ (-q.num) q.den _ _ hV (f15.toV lx') ((h2.toV ly).le leX) HX.out HY.out HP.out HQ.out).mono ?_
      rintro e W2 ⟨v, m2, rfl, hE2, hM2, hV2, h⟩
      go_wp2_with fail
      refine One2.call hE2 hM2 hV2 ?_; first | exact h | exact rfl
    · intro vs W1 m1 hE hM hV hD; obtain ⟨⟨_, _, -, i17, f17⟩, -⟩ := hD; have f17 : DMr _ (vs 17) (-q.num) (q.den : Int) := f17; replace f17 := f17.le i17.le; clear i17
      go_wp2_with fail
      refine One2.still hV ?_; exact f17
    · intro vs W1 m1 hE hM hV hD; obtain ⟨⟨_, _, -, i13, f13⟩, -⟩ := hD; have f13 : DMr _ (vs 13) (-q.num) (q.den : Int) := f13; replace f13 := f13.le i13.le; clear i13; obtain ⟨q0, r0, e13, k1, k2⟩ := f13; generalize vs 13 = x13 at e13 ⊢; subst x13; replace hL := hL.call hE hM hV
      go_wp2_with (first | ((with_reducible refine kAny ?_); go_skip) | ((first | refine tLo ?_ | (refine tSt ?_; clear hL; intro _ hL; simp only [splice, zq1, zq2, zq3] at hL) | ((first | refine tBx ?_ | refine tAl ?_); clear hL; intro _ _ hL _)); simp only [Act.put, zq1, zq2, zq3]))
      refine One2.still hV ?_; exact k1
    · intro vs W1 m1 hE hM hV hD; obtain ⟨⟨_, _, -, i13, f13⟩, -, -⟩ := hD; have f13 : DMr _ (vs 13) (-q.num) (q.den : Int) := f13; replace f13 := f13.le i13.le; clear i13; obtain ⟨q0, r0, e13, k1, k2⟩ := f13; generalize vs 13 = x13 at e13 ⊢; subst x13; replace hL := hL.call hE hM hV
      go_wp2_with (first | ((with_reducible refine kAny ?_); go_skip) | ((first | refine tLo ?_ | (refine tSt ?_; clear hL; intro _ hL; simp only [splice, zq1, zq2, zq3] at hL) | ((first | refine tBx ?_ | refine tAl ?_); clear hL; intro _ _ hL _)); simp only [Act.put, zq1, zq2, zq3]))
      refine One2.still hV ?_; exact k2
    · intro vs W1 m1 hE hM hV hD; obtain ⟨⟨_, _, -, i13, f13⟩, -, -⟩ := hD; have f13 : DMr _ (vs 13) (-q.num) (q.den : Int) := f13; replace f13 := f13.le i13.le; clear i13; obtain ⟨q0, r0, e13, k1, k2⟩ := f13; generalize vs 13 = x13 at e13 ⊢; subst x13; replace hL := hL.call hE hM hV
      go_wp2_with (first | ((with_reducible refine kAny ?_); go_skip) | ((first | refine tLo ?_ | (refine tSt ?_; clear hL; intro _ hL; simp only [splice, zq1, zq2, zq3] at hL) | ((first | refine tBx ?_ | refine tAl ?_); clear hL; intro _ _ hL _)); simp only [Act.put, zq1, zq2, zq3]))
      refine One2.still hV ?_; exact rfl
    · intro vs W1 m1 hE hM hV hD; clear hD
      exact one2_alloc hV (Nat.le_trans hB3 hE.size) rfl rfl rfl ZcC.h
    · intro vs W1 m1 hE hM hV hD; clear hD
      exact one2_alloc hV (Nat.le_trans hB3 hE.size) rfl rfl rfl ZcC.h
  case l2 =>
    refine ⟨fun h => (by cases h), fun h => (by cases h), fun h => (by cases h), fun h => (by cases h), fun h => (by cases h), fun h => (by cases h), fun _ => ?_, fun _ => ?_, fun h => (by cases h), fun h => (by cases h), trivial⟩
    · intro vs W1 m1 hE hM hV hD; obtain ⟨⟨_, _, -, i13, f13⟩, -, -⟩ := hD; have f13 : DMr _ (vs 13) (-q.num) (q.den : Int) := f13; replace f13 := f13.le i13.le; clear i13; obtain ⟨q0, r0, e13, k1, k2⟩ := f13; generalize vs 13 = x13 at e13 ⊢; subst x13
      exact ⟨_, Or.inl ⟨(by rfl), fun w => (by rfl)⟩, k2⟩
    · intro vs W1 m1 hE hM hV hD; obtain ⟨⟨_, _, -, i13, f13⟩, -, -⟩ := hD; have f13 : DMr _ (vs 13) (-q.num) (q.den : Int) := f13; replace f13 := f13.le i13.le; clear i13; obtain ⟨q0, r0, e13, k1, k2⟩ := f13; generalize vs 13 = x13 at e13 ⊢; subst x13
      exact ⟨_, Or.inl ⟨(by rfl), fun w => (by rfl)⟩, rfl⟩
  intro vs W1 m1 hE hM hV hF hD
  obtain ⟨-, ⟨_, _, -, i15, f15⟩, -, ⟨_, _, -, i17, f17⟩, ⟨_, _, -, i13, f13⟩, ⟨_, _, -, i18, f18⟩, ⟨_, _, -, i19, f19⟩, ⟨_, _, -, -, f20⟩, ⟨_, _, j5, i5, f5⟩, ⟨_, _, j6, i6, f6⟩, -⟩ := hF
  replace hL := hL.call hE hM hV
  replace f15 : IntC _ (vs 15) (-q.num) := f15
  replace f15 := f15.le i15.le
  clear i15
  replace f17 : DMr _ (vs 17) (-q.num) (q.den : Int) := f17
  replace f17 := f17.le i17.le
  clear i17
  replace f13 : DMr _ (vs 13) (-q.num) (q.den : Int) := f13
  replace f13 := f13.le i13.le
  clear i13
  replace f18 : IntC _ (vs 18) (-q.num / (q.den : Int)) := f18
  replace f18 := f18.le i18.le
  clear i18
  obtain ⟨g18, A18, n18, c18, e18, f18⟩ := f18.lit
  generalize vs 18 = x18 at e18 ⊢
  subst x18
  replace f19 : IntC _ (vs 19) (-q.num % (q.den : Int)) := f19
  replace f19 := f19.le i19.le
  clear i19
  obtain ⟨g19, A19, n19, c19, e19, f19⟩ := f19.lit
  generalize vs 19 = x19 at e19 ⊢
  subst x19
  have f20 : vs 20 = _ := f20
  generalize vs 20 = x20 at f20 ⊢
  subst x20
  obtain ⟨b5, e5, hL⟩ := Loc.addB (Lt := []) hB1 hB2 hL f5 j5 i5 ad0
  obtain ⟨b6, e6, hL⟩ := Loc.addB (Lt := [_]) hB1 hB2 hL f6 j6 i6 (adS (by have h := hD 9 8 _ _ _ _ (by decide) (by decide) (by decide) rfl rfl rfl rfl rfl rfl; rw [e5] at h; exact fun hk => h _ hk rfl) ad0)
  simp only [e5, e6, List.cons_append, List.nil_append] at hL ⊢
  clear e5 f5 j5 i5 e6 f6 j6 i6
  clear hB1 hB2 hB3 hD
  clear hE hV
  simp only [List.drop_succ_cons, List.drop_zero]
  go_wp2_with (first | ((with_reducible refine kAny ?_); go_skip) | ((first | refine tLo ?_ | (refine tSt ?_; clear hL; intro _ hL; simp only [splice, zq1, zq2, zq3] at hL) | ((first | refine tBx ?_ | refine tAl ?_); clear hL; intro _ _ hL _)); simp only [Act.put, zq1, zq2, zq3]))
  refine QN.mk ?_
  go_wp2_with (first | ((with_reducible refine kAny ?_); go_skip) | ((first | refine tLo ?_ | (refine tSt ?_; clear hL; intro _ hL; simp only [splice, zq1, zq2, zq3] at hL) | ((first | refine tBx ?_ | refine tAl ?_); clear hL; intro _ _ hL _)); simp only [Act.put, zq1, zq2, zq3]))
  refine (i_Negate _ _ _ _ hL.vw ((f18.toV lq).le leX)).mono ?_
  rintro e W12 ⟨v12, m12, rfl, hE, hM12, hV, h12⟩
  replace hL := hL.call hE (by assumption) hV; clear hE hV
  obtain ⟨g12', A12', n12', c12', rfl, h12⟩ := h12.lit
  go_wp2_with (first | ((with_reducible refine kAny ?_); go_skip) | ((first | refine tLo ?_ | (refine tSt ?_; clear hL; intro _ hL; simp only [splice, zq1, zq2, zq3] at hL) | ((first | refine tBx ?_ | refine tAl ?_); clear hL; intro _ _ hL _)); simp only [Act.put, zq1, zq2, zq3]))
  refine fin_agg hL Tryz.results88 rfl rfl loX AgC.h (by exact rfl) ?_
  rw [E.out]; exact h12
end Go.Proofs.YtmhkmmmompediaaGreat

/- Contracts of pairingref27.SameInts (equal lists). -/
namespace Go.Proofs.YtmhkmmmompediaaGreat
open Go.RowKit

def IsI (_ : World) (v : Value) (x : Int) : Prop := v = .int .i64 x
abbrev IntL := ListV (α := Int) 1 IsI
theorem IntL.le {m m' : World} {v : Value} {xs : List Int} (h : IntL m v xs) (hb : Le m m') : IntL m' v xs := ListV.le (fun _ _ _ _ h _ => h) h hb
theorem IntL.at_ {m : World} {A : Option Addr} {n c : Nat} {xs : List Int} (h : IntL m (.slice A n c) xs) {k : Nat} {x : Int} (hk : xs[k]? = some x) :
    ∃ b off, A = some ⟨b, off, none⟩ ∧ m.cell? ⟨b, off + k, none⟩ = some (.int .i64 x) := by
  obtain ⟨b, off, v, e, rfl, _, hr⟩ := ListV.at_ h (by omega) hk
  exact ⟨b, off, e, by simpa using hr 0 _ rfl⟩
theorem at_some {α : Type} {l : List α} {k n : Nat} (hn : Hid (l.length = n)) (hk : k < n) : ∃ x, l[k]? = some x := ⟨_, List.getElem?_eq_getElem (by rw [hn.out]; exact hk)⟩

end Go.Proofs.YtmhkmmmompediaaGreat

/- Contract of pairingref25.SameList (equal lists). -/
namespace Go.Proofs.YtmhkmmmompediaaGreat
open Go.RowKit

abbrev FracL := ListV (α := Rat) 4 FracC
theorem FracL.le {m m' : World} {v : Value} {qs : List Rat} (h : FracL m v qs) (hb : Le m m') : FracL m' v qs := ListV.le (fun _ _ _ _ h hb => h.le hb) h hb
theorem FracL.at_ {m : World} {A : Option Addr} {n c : Nat} {qs : List Rat} (h : FracL m (.slice A n c) qs) {k : Nat} {q : Rat} (hk : qs[k]? = some q) :
    ∃ b off g A1 n1 c1 g' B k' d, A = some ⟨b, off, none⟩ ∧ FracC m (.agg #[.bool g, .slice A1 n1 c1, .bool g', .slice B k' d]) q ∧ m.rangeAt b (off + k * 4) [.bool g, .slice A1 n1 c1, .bool g', .slice B k' d] := by
  obtain ⟨b, off, v, e, hv, _, hr⟩ := ListV.at_ h (by omega) hk
  obtain ⟨g, A1, n1, c1, g', B, k', d, rfl, hv⟩ := hv.lit
  exact ⟨b, off, g, A1, n1, c1, g', B, k', d, e, hv, hr⟩

end Go.Proofs.YtmhkmmmompediaaGreat

/- Contracts of pairingref27.SameCuts (equal lists), SameDecisions. -/
namespace Go.Proofs.YtmhkmmmompediaaGreat
open Go.RowKit

abbrev Cut := List Int × Int
def CutR (m : World) (v : Value) (x : Cut) : Prop := ∃ s, v = .agg #[s, .int .i64 x.2] ∧ IntL m s x.1 ∧ x.1.length ≤ 1000000
abbrev CutL := ListV (α := Cut) 2 CutR
theorem CutR.le {m m' : World} {v : Value} {x : Cut} (h : CutR m v x) (hb : Le m m') : CutR m' v x := by
  obtain ⟨s, e, h, hl⟩ := h
  exact ⟨s, e, IntL.le h hb, hl⟩
theorem CutL.le {m m' : World} {v : Value} {xs : List Cut} (h : CutL m v xs) (hb : Le m m') : CutL m' v xs := ListV.le (fun _ _ _ _ h hb => h.le hb) h hb
theorem CutL.at_ {m : World} {A : Option Addr} {n c : Nat} {xs : List Cut} (h : CutL m (.slice A n c) xs) {k : Nat} {x : Cut} (hk : xs[k]? = some x) :
    ∃ b off A1 c1, A = some ⟨b, off, none⟩ ∧ IntL m (.slice A1 x.1.length c1) x.1 ∧ x.1.length ≤ 1000000 ∧ x.1.length ≤ c1 ∧ m.cell? ⟨b, off + k * 2, none⟩ = some (.slice A1 x.1.length c1) ∧ m.cell? ⟨b, off + k * 2 + 1, none⟩ = some (.int .i64 x.2) ∧
      m.rangeAt b (off + k * 2) [.slice A1 x.1.length c1, .int .i64 x.2] := by
  obtain ⟨b, off, v, e, ⟨s, rfl, hs, hl⟩, _, hr⟩ := ListV.at_ h (by omega) hk
  obtain ⟨A1, c1, rfl, hc1, hs⟩ := hs.lit
  exact ⟨b, off, A1, c1, e, hs, hl, hc1, by simpa using hr 0 _ rfl, hr 1 _ rfl, hr⟩

end Go.Proofs.YtmhkmmmompediaaGreat

/- Contracts of pairingref27.SameDecisions, slices.Equal. -/
namespace Go.Proofs.YtmhkmmmompediaaGreat
open Go.RowKit

abbrev Dec := Int × Int × Bool
def DecR (_ : World) (v : Value) (x : Dec) : Prop := v = .agg #[.int .i64 x.1, .int .i64 x.2.1, .bool x.2.2]
abbrev DecL := ListV (α := Dec) 3 DecR
theorem DecL.le {m m' : World} {v : Value} {xs : List Dec} (h : DecL m v xs) (hb : Le m m') : DecL m' v xs := ListV.le (fun _ _ _ _ h _ => h) h hb
theorem DecL.at_ {m : World} {A : Option Addr} {n c : Nat} {xs : List Dec} (h : DecL m (.slice A n c) xs) {k : Nat} {x : Dec} (hk : xs[k]? = some x) :
    ∃ b off, A = some ⟨b, off, none⟩ ∧ m.rangeAt b (off + k * 3) [.int .i64 x.1, .int .i64 x.2.1, .bool x.2.2] := by
  obtain ⟨b, off, v, e, rfl, _, hr⟩ := ListV.at_ h (by omega) hk
  exact ⟨b, off, e, hr⟩
end Go.Proofs.YtmhkmmmompediaaGreat

/- Rows that are made with their whole length and filled one by one; memory that a callee leaves to its caller. No program. -/
namespace Go.Proofs.YtmhkmmmompediaaGreat
open Go.RowKit

theorem splice_at (ws : List Value) : ∀ (o : Nat) (cs : Array Value), o + ws.length ≤ cs.size → ∀ j : Nat, (splice cs o ws)[j]? = if o ≤ j ∧ j < o + ws.length then ws[j - o]? else cs[j]? := by
  induction ws with
  | nil => intro o cs _ j; simp [splice]; omega
  | cons v ws ih =>
    intro o cs h j
    simp only [List.length_cons] at h
    rw [splice, ih (o + 1) _ (by simp; omega), Array.getElem?_setIfInBounds]
    simp only [List.length_cons]
    by_cases h1 : o + 1 ≤ j ∧ j < o + 1 + ws.length
    · rw [if_pos h1, if_pos (by omega)]
      obtain ⟨i, rfl⟩ : ∃ i, j = o + 1 + i := ⟨j - (o + 1), by omega⟩
      rw [show o + 1 + i - (o + 1) = i by omega, show o + 1 + i - o = i + 1 by omega]
      simp
    · rw [if_neg h1]
      by_cases h2 : o = j
      · subst h2
        rw [if_pos rfl, if_pos (by omega), if_pos (by omega)]
        simp
      · rw [if_neg h2, if_neg (by omega)]

def RowP {α : Type} (size : Nat) (R : World → Value → α → Prop) (m : World) (k : Nat) (cur : Array Value) (xs : List α) : Prop :=
  cur.size = xs.length * size ∧ ∃ vs, cur.toList.take (k * size) = cellsOf vs ∧ vs.length = k ∧ (∀ u ∈ vs, u.cells.size = size) ∧ All2 (R m) vs (xs.take k)
theorem RowP.zero {α : Type} {size : Nat} {R : World → Value → α → Prop} {m : World} {cur : Array Value} {xs : List α} (h : cur.size = xs.length * size) : RowP size R m 0 cur xs :=
  ⟨h, [], by simp [cellsOf], rfl, (fun _ h => by cases h), by simp [All2]⟩
theorem RowP.le {α : Type} {size : Nat} {R : World → Value → α → Prop} (hR : ∀ m m' v x, R m v x → Le m m' → R m' v x) {m m' : World} {k : Nat} {cur : Array Value} {xs : List α} (h : RowP size R m k cur xs) (hb : Le m m') : RowP size R m' k cur xs := by
  obtain ⟨h0, vs, h1, h2, h3, h4⟩ := h
  exact ⟨h0, vs, h1, h2, h3, h4.mono fun v x hv => hR m m' v x hv hb⟩
theorem RowP.step {α : Type} {size : Nat} {R : World → Value → α → Prop} {m : World} {k : Nat} {cur : Array Value} {xs : List α} (h : RowP size R m k cur xs) {ws : List Value} {x : α} (hx : xs[k]? = some x) (hw : ws.length = size) (hv : R m (.agg ws.toArray) x) :
    RowP size R m (k + 1) (splice cur (0 + k * size) ws) xs := by
  obtain ⟨h0, vs, h1, h2, h3, h4⟩ := h
  have hk : k < xs.length := (List.getElem?_eq_some_iff.1 hx).1
  have hfit : k * size + size ≤ cur.size := by rw [h0, ← Nat.succ_mul]; exact Nat.mul_le_mul_right _ hk
  refine ⟨by rw [splice_size]; exact h0, vs ++ [.agg ws.toArray], ?_, by simp [h2], ?_, ?_⟩
  · rw [cellsOf_append, cellsOf_one, ← h1, Nat.zero_add]
    apply List.ext_getElem?
    intro j
    rw [List.getElem?_take, Array.getElem?_toList, splice_at ws _ _ (by rw [hw]; exact hfit), Nat.succ_mul]
    have hl : (cur.toList.take (k * size)).length = k * size := by rw [List.length_take]; simp; omega
    by_cases hj : j < k * size
    · rw [if_pos (by omega), if_neg (by omega), List.getElem?_append_left (by omega), List.getElem?_take, if_pos hj, Array.getElem?_toList]
    · rw [List.getElem?_append_right (by omega), hl]
      by_cases hj2 : j < k * size + size
      · rw [if_pos hj2, if_pos (by omega)]
        simp [Value.cells]
      · rw [if_neg hj2, List.getElem?_eq_none]
        simp [Value.cells]; omega
  · intro u hu
    rcases List.mem_append.1 hu with hu | hu
    · exact h3 u hu
    · rcases List.mem_singleton.1 hu with rfl
      simpa [Value.cells] using hw
  · rw [List.take_add_one, hx]
    exact h4.snoc hv
def RowF {α : Type} (size : Nat) (R : World → Value → α → Prop) (m : World) (cur : Array Value) (xs : List α) : Prop :=
  ∃ vs, cur.toList = cellsOf vs ∧ (∀ u ∈ vs, u.cells.size = size) ∧ All2 (R m) vs xs
theorem RowF.le {α : Type} {size : Nat} {R : World → Value → α → Prop} (hR : ∀ m m' v x, R m v x → Le m m' → R m' v x) {m m' : World} {cur : Array Value} {xs : List α} (h : RowF size R m cur xs) (hb : Le m m') : RowF size R m' cur xs := by
  obtain ⟨vs, h1, h3, h4⟩ := h
  exact ⟨vs, h1, h3, h4.mono fun v x hv => hR m m' v x hv hb⟩
theorem RowP.done {α : Type} {size : Nat} {R : World → Value → α → Prop} {m : World} {k n : Nat} {cur : Array Value} {xs : List α} (h : RowP size R m k cur xs) (hn : xs.length = n) (hk : ¬ k < n) : RowF size R m cur xs := by
  obtain ⟨h0, vs, h1, h2, h3, h4⟩ := h
  have hl := h4.length
  have hkn : k = xs.length := by
    rw [List.length_take] at hl
    omega
  refine ⟨vs, ?_, h3, ?_⟩
  · rw [← h1, List.take_of_length_le]
    simp [h0, hkn]
  · rwa [hkn, List.take_length] at h4
theorem RowF.size {α : Type} {size : Nat} {R : World → Value → α → Prop} {m : World} {cur : Array Value} {xs : List α} (h : RowF size R m cur xs) : cur.size = xs.length * size := by
  obtain ⟨vs, h1, h3, h4⟩ := h
  have := cellsOf_length h3
  rw [← h1, h4.length] at this
  simpa using this
theorem All2.set {α : Type} {R : Value → α → Prop} : ∀ {vs : List Value} {xs : List α}, All2 R vs xs → ∀ {k : Nat} {v : Value} {x : α}, R v x → All2 R (vs.set k v) (xs.set k x)
  | v :: vs, x :: xs, h, 0, _, _, hv => ⟨hv, h.2⟩
  | v :: vs, x :: xs, h, k + 1, _, _, hv => ⟨h.1, All2.set h.2 hv⟩
  | [], [], _, _, _, _, _ => trivial
  | [], _ :: _, h, _, _, _, _ => h.elim
  | _ :: _, [], h, _, _, _, _ => h.elim
theorem cellsOf_set {size : Nat} : ∀ {vs : List Value} {k : Nat} {ws : List Value}, (∀ u ∈ vs, u.cells.size = size) → ws.length = size → k < vs.length → ∀ j : Nat, (cellsOf (vs.set k (.agg ws.toArray)))[j]? = if k * size ≤ j ∧ j < k * size + size then ws[j - k * size]? else (cellsOf vs)[j]?
  | [], k, ws, _, _, hk, _ => by simp at hk
  | u :: vs, 0, ws, h, hw, hk, j => by
    have hl : u.cells.toList.length = size := by simpa using h u (by simp)
    simp only [List.set_cons_zero, cellsOf, List.flatMap_cons, Nat.zero_mul, Nat.zero_add, Nat.zero_le, true_and, Nat.sub_zero]
    by_cases hj : j < size
    · rw [if_pos hj, List.getElem?_append_left (by simpa [Value.cells, hw] using hj)]
      simp [Value.cells]
    · rw [if_neg hj, List.getElem?_append_right (by simpa [Value.cells, hw] using hj), List.getElem?_append_right (by omega), hl]
      simp [Value.cells, hw]
  | u :: vs, k + 1, ws, h, hw, hk, j => by
    have hl : u.cells.toList.length = size := by simpa using h u (by simp)
    have ih := cellsOf_set (vs := vs) (k := k) (ws := ws) (fun x hx => h x (by simp [hx])) hw (by simpa using hk)
    simp only [cellsOf] at ih
    simp only [List.set_cons_succ, cellsOf, List.flatMap_cons, Nat.succ_mul]
    by_cases hj : j < size
    · rw [List.getElem?_append_left (by omega), List.getElem?_append_left (by omega), if_neg (by omega)]
    · rw [List.getElem?_append_right (by omega), List.getElem?_append_right (by omega), hl, ih (j - size)]
      by_cases hc : k * size ≤ j - size ∧ j - size < k * size + size
      · rw [if_pos hc, if_pos (by omega), show j - size - k * size = j - (k * size + size) by omega]
      · rw [if_neg hc, if_neg (by omega)]
theorem RowF.set {α : Type} {size : Nat} {R : World → Value → α → Prop} {m : World} {k : Nat} {cur : Array Value} {xs : List α} (h : RowF size R m cur xs) {ws : List Value} {x : α} (hk : k < xs.length) (hw : ws.length = size) (hv : R m (.agg ws.toArray) x) :
    RowF size R m (splice cur (0 + k * size) ws) (xs.set k x) := by
  have hsz := h.size
  obtain ⟨vs, h1, h3, h4⟩ := h
  have hl := h4.length
  have hfit : k * size + size ≤ cur.size := by rw [hsz, ← Nat.succ_mul]; exact Nat.mul_le_mul_right _ hk
  refine ⟨vs.set k (.agg ws.toArray), ?_, ?_, h4.set hv⟩
  · apply List.ext_getElem?
    intro j
    rw [Array.getElem?_toList, Nat.zero_add, splice_at ws _ _ (by rw [hw]; exact hfit), cellsOf_set h3 hw (by omega), hw, ← h1]
    simp
  · intro u hu
    rcases List.mem_or_eq_of_mem_set hu with hu | rfl
    · exact h3 u hu
    · simpa [Value.cells] using hw
theorem RowF.at_ {α : Type} {size : Nat} {R : World → Value → α → Prop} {m : World} {cur : Array Value} {xs : List α} (h : RowF size R m cur xs) {k : Nat} {x : α} (hk : xs[k]? = some x) :
    ∃ v, R m v x ∧ v.cells.size = size ∧ ∀ j, j < size → cur[0 + k * size + j]? = v.cells[j]? := by
  obtain ⟨vs, h1, h3, h4⟩ := h
  obtain ⟨v, hv, hR⟩ := h4.at_ hk
  refine ⟨v, hR, h3 v (List.mem_of_getElem? hv), fun j hj => ?_⟩
  have := cellsOf_at h3 hv j hj
  rw [← h1, Array.getElem?_toList] at this
  rw [Nat.zero_add, this, Array.getElem?_toList]

theorem Loc.callL {w0 m0 W m W' m' : World} {Ls Lt : List Lo} (h : Loc w0 m0 W m Ls) (k : Loc W m W' m' Lt) : Loc w0 m0 W' m' (Lt ++ Ls) := by
  have hL := h.call k.ext k.mext k.vw
  refine ⟨hL.size0, hL.ext, hL.mext, hL.vw, ?_, ?_, ?_, ?_⟩
  · intro x hx
    rcases List.mem_append.1 hx with hx | hx
    · exact Nat.le_trans h.ext.size (k.low x hx)
    · exact hL.low x hx
  · intro x hx
    rcases List.mem_append.1 hx with hx | hx
    · exact k.blk x hx
    · exact hL.blk x hx
  · intro x hx
    rcases List.mem_append.1 hx with hx | hx
    · exact k.hid x hx
    · exact hL.hid x hx
  · refine List.pairwise_append.2 ⟨k.apart, hL.apart, fun x hx y hy => ?_⟩
    have h1 := k.low x hx
    have h2 := (h.blk y hy).lt
    omega
section
variable {P : Program} {ops : Array Oper} {Q : Exit → Act → World → Prop} {rest : List Oper} {o : Oper} {a : Act} {w0 m0 W m : World} {Ls : List Lo}
theorem wl_indexAddrA (hw : Region.wanted o (yielded ops a.tmps) = true) {t : TypeId} {s i : Operand} (ho : o.op = .indexAddr t s i) {e : TypeId} {size bytes zs : Nat} (hap : apS P t = some (e, size, bytes, zs))
    {A : Option Addr} {b off n c k : Nat} {kd : IntKind} (hs : a.eval s = .slice A n c) (hA : Hid (A = some ⟨b, off, none⟩)) (hi : a.eval i = .int kd k) (hk : k < n)
    (h : wpList P ops Q rest (a.put o.dst (.pointer (some ⟨b, off + k * size, none⟩))) W) : wpList P ops Q (o :: rest) a W := by
  rw [hA.out] at hs
  exact wl_indexAddr hw ho hap hs hi hk h
theorem wl_storeR (hL : Loc w0 m0 W m Ls) (hw : Region.wanted o (yielded ops a.tmps) = true) {ty : TypeId} {x y : Operand} (ho : o.op = .store ty x y) {g off : Nat} (hx : a.eval x = .pointer (some ⟨g, off, none⟩)) {vs : List Value}
    (hy : a.eval y = .agg vs.toArray) {k : Nat} (hty : agS P ty = some k) (hk : vs.length = k) {n : Nat} {t : TypeId} {cs : Array Value} (hn : Ls[n]? = some (g, t, cs)) (hfit : off + k ≤ cs.size) (h1 : vs.all (·.oneCell') = true)
    (h : ∀ W', Loc w0 m0 W' m (Ls.set n (g, t, splice cs off vs)) → wpList P ops Q rest (a.put o.dst undef) W') : wpList P ops Q (o :: rest) a W :=
  wl_store hL hw ho hx hy hty hk hn (by rw [hk]; exact hfit) h1 h
theorem wl_loadR (hL : Loc w0 m0 W m Ls) (hw : Region.wanted o (yielded ops a.tmps) = true) {ty : TypeId} {x : Operand} (ho : o.op = .load ty x) {g off : Nat} (hx : a.eval x = .pointer (some ⟨g, off, none⟩)) {k : Nat} (hty : agS P ty = some k)
    {n : Nat} {t : TypeId} {cs : Array Value} (hn : Ls[n]? = some (g, t, cs)) {vs : List Value} (hr : ∀ j, j < k → cs[off + j]? = vs[j]?) (hk : vs.length = k)
    (h : wpList P ops Q rest (a.put o.dst (.agg vs.toArray)) W) : wpList P ops Q (o :: rest) a W :=
  wpList_wanted hw fun _ hK => op_load ho hx (vs := vs) (hk ▸ hty) (fun j v hv => by
    have hj : j < k := by rw [← hk]; exact (List.getElem?_eq_some_iff.1 hv).1
    rw [(hL.at_ hn).cell, hr j hj, hv]) (hK _ _ h)
theorem t_ixaA {t : TypeId} {s i : Operand} (ho : o.op = .indexAddr t s i) {e : TypeId} {size bytes : Nat} [hap : ApC P t e size bytes] {A : Option Addr} {b off n c k : Nat} {kd : IntKind} (hs : a.eval s = .slice A n c) (hi : a.eval i = .int kd k)
    (h : wpList P ops Q rest (a.put o.dst (.pointer (some ⟨b, off + k * size, none⟩))) W) (hA : Hid (A = some ⟨b, off, none⟩) := by with_reducible assumption) (hk : k < n := by first | with_reducible assumption | omega)
    (hw : Region.wanted o (yielded ops a.tmps) = true := by first | exact wanted_none rfl | exact wanted_some rfl rfl rfl rfl) : wpList P ops Q (o :: rest) a W := wl_indexAddrA hw ho hap.h hs hA hi hk h
theorem t_storeR (hL : Loc w0 m0 W m Ls) {ty : TypeId} {x y : Operand} (ho : o.op = .store ty x y) {g off : Nat} (hx : a.eval x = .pointer (some ⟨g, off, none⟩)) {vs : List Value} (hy : a.eval y = .agg vs.toArray) {k : Nat} [hty : AgC P ty k] {n : Nat} {t : TypeId} {cs : Array Value}
    (h : ∀ W', Loc w0 m0 W' m (Ls.set n (g, t, splice cs off vs)) → wpList P ops Q rest (a.put o.dst undef) W')
    (hn : Ls[n]? = some (g, t, cs) ∧ off + k ≤ cs.size ∧ vs.length = k ∧ vs.all (·.oneCell') = true := by refine ⟨?_, ?_, ?_, ?_⟩; (first | with_reducible exact lo0 | with_reducible exact lo1 | with_reducible exact lo2 | with_reducible exact lo3 | with_reducible exact lo4 | with_reducible exact lo5 | with_reducible exact lo6 | with_reducible exact lo7 | with_reducible exact lo8 | with_reducible exact lo9 | with_reducible exact lo10 | with_reducible exact lo11); (with_reducible assumption); exact rfl; exact rfl)
    (hw : Region.wanted o (yielded ops a.tmps) = true := by first | exact wanted_none rfl | exact wanted_some rfl rfl rfl rfl) : wpList P ops Q (o :: rest) a W := wl_storeR hL hw ho hx hy hty.h hn.2.2.1 hn.1 hn.2.1 hn.2.2.2 h
theorem t_loadR (hL : Loc w0 m0 W m Ls) {ty : TypeId} {x : Operand} (ho : o.op = .load ty x) {g off : Nat} (hx : a.eval x = .pointer (some ⟨g, off, none⟩)) {k : Nat} [hty : AgC P ty k] {n : Nat} {t : TypeId} {cs : Array Value} {vs : List Value}
    (h : wpList P ops Q rest (a.put o.dst (.agg vs.toArray)) W) (hn : Ls[n]? = some (g, t, cs) ∧ (∀ j, j < k → cs[off + j]? = vs[j]?) ∧ vs.length = k := by refine ⟨?_, ?_, ?_⟩; (first | with_reducible exact lo0 | with_reducible exact lo1 | with_reducible exact lo2 | with_reducible exact lo3 | with_reducible exact lo4 | with_reducible exact lo5 | with_reducible exact lo6 | with_reducible exact lo7 | with_reducible exact lo8 | with_reducible exact lo9 | with_reducible exact lo10 | with_reducible exact lo11); (with_reducible assumption); exact rfl)
    (hw : Region.wanted o (yielded ops a.tmps) = true := by first | exact wanted_none rfl | exact wanted_some rfl rfl rfl rfl) : wpList P ops Q (o :: rest) a W := wl_loadR hL hw ho hx hty.h hn.1 hn.2.1 hn.2.2 h
end
end Go.Proofs.YtmhkmmmompediaaGreat

/- Contract of lagrange.CeilInt where the ceiling is small. -/
namespace Go.Proofs.YtmhkmmmompediaaGreat
open Go.RowKit

set_option maxRecDepth 100000 in
set_option maxHeartbeats 8000000 in
theorem l_CeilInt (v : Value) (q : Rat) (w m : World) (hV : Vw m w) (h : FracC m v q) (hx : q.num.natAbs < 18446744073709551616) (hy : q.den < 18446744073709551616) (hq : 0 ≤ -q.num ∨ -q.num % (q.den : Int) = 0)
    (b1 : -1152921504606846976 ≤ cel q) (b2 : cel q ≤ 1152921504606846976) :
    Calls Tryz.prog 26 #[v] w (RetV w m fun _ r => r = .tuple #[.int .i64 (cel q), .int .i64 0]) := by
  obtain ⟨g, A, n, c, g', B', n', c', rfl, h⟩ := h.lit
  have HX := Lib.hid hx
  have HY := Lib.hid hy
  have HQ := Lib.hid hq
  have HC : Hid ((cel q).natAbs < 4611686018427387904) := by show _ < _; omega
  have HI : Hid ((digs (cel q).natAbs).length ≤ 1000) := by show _ ≤ _; exact Nat.le_trans (len2 (by omega)) (by omega)
  clear hx hy hq
  have hL := Loc.start hV
  clear hV
  go_enter Tryz.func26, Tryz.ntmps26
  go_wp2_with (first | ((with_reducible refine kAny ?_); go_skip) | ((first | refine tLn ?_ | (refine tBx ?_; clear hL; intro _ _ hL _)); simp only [Act.put, zq1, zq2, zq3]))
  refine (q_Ceil _ q _ _ hL.vw (h.le leX) HX.out HY.out HQ.out).mono ?_
  rintro e W1 ⟨v1, m1, rfl, hE, hM1, hV, h1⟩
  replace hL := hL.call hE (by assumption) hV; clear hE hV
  obtain ⟨g1', A1', n1', c1', rfl, h1⟩ := h1.lit
  go_wp2_with (first | ((with_reducible refine kAny ?_); go_skip) | ((first | refine tLn ?_ | (refine tBx ?_; clear hL; intro _ _ hL _)); simp only [Act.put, zq1, zq2, zq3]))
  refine (i_ToInt64 _ (cel q) _ _ hL.vw (h1.toV HI.out) HC.out).mono ?_
  rintro e W2 ⟨_, m2, rfl, hE, hM2, hV, rfl⟩
  replace hL := hL.call hE (by assumption) hV; clear hE hV
  clear HC HI
  obtain ⟨z, hz⟩ : ∃ z, z = cel q := ⟨_, rfl⟩
  rw [← hz] at b1 b2 ⊢
  have HZ := Lib.hid hz
  clear hz
  go_wp2_with (first | ((with_reducible refine kAny ?_); go_skip) | ((first | refine tLn ?_ | (refine tBx ?_; clear hL; intro _ _ hL _)); simp only [Act.put, zq1, zq2, zq3]))
  go_ret2
  exact RetV.mk hL (congrArg (fun t => Value.tuple #[.int .i64 t, .int .i64 0]) HZ.out)
end Go.Proofs.YtmhkmmmompediaaGreat

/- Contract of lagrange.copyPrices. -/
namespace Go.Proofs.YtmhkmmmompediaaGreat
open Go.RowKit

structure Pr where
  fl : List Rat
  cu : List Cut
  cd : List Rat
  de : List Dec
  fr : Bool
def PricesR (m : World) (v : Value) (p : Pr) : Prop := ∃ a b c d, v = .agg #[a, b, c, d, .bool p.fr] ∧ FracL m a p.fl ∧ CutL m b p.cu ∧ FracL m c p.cd ∧ DecL m d p.de
theorem PricesR.le {m m' : World} {v : Value} {p : Pr} (h : PricesR m v p) (hb : Le m m') : PricesR m' v p := by
  obtain ⟨a, b, c, d, e, h1, h2, h3, h4⟩ := h
  exact ⟨a, b, c, d, e, FracL.le h1 hb, CutL.le h2 hb, FracL.le h3 hb, DecL.le h4 hb⟩
structure Pr.ok (p : Pr) : Prop where
  fl : ∀ q ∈ p.fl, Sm q.num q.den
  cd : ∀ q ∈ p.cd, Sm q.num q.den
  nf : p.fl.length ≤ 1000
  nc : p.cu.length ≤ 1000
  nd : p.cd.length ≤ 1000
  ne : p.de.length ≤ 1000
  cu : ∀ c ∈ p.cu, c.1.length ≤ 1000
  ap : p.fl.length ≠ p.cd.length
abbrev FrRow := RowF (α := Rat) 4 FracC
theorem FracC.mono (m m' : World) (v : Value) (x : Rat) (h : FracC m v x) (hb : Le m m') : FracC m' v x := h.le hb
theorem CutR.mono (m m' : World) (v : Value) (x : Cut) (h : CutR m v x) (hb : Le m m') : CutR m' v x := h.le hb
theorem frac0 (m : World) : FracS m (.agg #[.bool false, .slice none 0 0, .bool false, .slice none 0 0]) 0 0 := ⟨_, _, _, _, rfl, IntC.nil.toS (by decide), IntC.nil.toS (by decide), by decide, by decide⟩
theorem Loc.sub {w0 m0 W m : World} {A B : List Lo} (h : Loc w0 m0 W m A) (hs : B.Sublist A) : Loc w0 m0 W m B :=
  ⟨h.size0, h.ext, h.mext, h.vw, fun y hy => h.low y (hs.subset hy), fun y hy => h.blk y (hs.subset hy), fun y hy => h.hid y (hs.subset hy), h.apart.sublist hs⟩
theorem fin_aggP {P : Program} {fn : Func} {Post : Ending → World → Prop} {w m W mm : World} {Ls : List Lo} (hL : Loc w m W mm Ls) {p : Nat} {ty : TypeId} (hr : fn.results = #[.cell p ty]) {a : Act} (hdf : a.defers = []) {g : Nat}
    (hp : a.tmps.getD p undef = .pointer (some ⟨g, 0, none⟩)) {n : Nat} {t : TypeId} {cs : Array Value} (hn : Ls[n]? = some (g, t, cs)) {k : Nat} (hty : agS P ty = some k) (hk : cs.size = k) (h : Post (.returned (.agg cs)) W) :
    bodyPost P fn Post .ret a W := by
  subst hk
  obtain ⟨d, hu, hd, hi⟩ := ag_desc hty
  exact bodyPost_ret (results_cell_row hr _ _ g t cs (0, 0) d hp (hL.at_ hn) hu (by cases d <;> first | rfl | exact hd) hi) hdf h
end Go.Proofs.YtmhkmmmompediaaGreat

/- Bounds, the mixture of lists. -/
namespace Go.Proofs.YtmhkmmmompediaaGreat
open Go.RowKit

def Tn (k : Nat) (q : Rat) : Prop := q.num.natAbs ≤ k ∧ q.den ≤ k
theorem mul_bound (p q : Rat) : (p * q).num.natAbs ≤ p.num.natAbs * q.num.natAbs ∧ (p * q).den ≤ p.den * q.den := by
  have hp : (0 : Int) < (p.den : Int) * q.den := Int.mul_pos (by have := p.den_pos; omega) (by have := q.den_pos; omega)
  have e : p * q = Rat.divInt (p.num * q.num) ((p.den : Int) * q.den) := by
    conv => lhs; rw [← Rat.num_divInt_den p, ← Rat.num_divInt_den q]
    rw [Rat.divInt_mul_divInt]
  obtain ⟨h1, h2⟩ := frac_pos (x := p.num * q.num) hp
  rw [← e] at h1 h2
  constructor
  · rw [h1, ← Int.natAbs_mul]
    exact Int.natAbs_ediv_le_natAbs _ _
  · have h3 : (p * q).den = ((p * q).den : Int).natAbs := rfl
    have h4 : p.den * q.den = ((p.den : Int) * q.den).natAbs := by simp [Int.natAbs_mul]
    rw [h3, h4, h2]
    exact Int.natAbs_ediv_le_natAbs _ _
theorem Tn.sm {k : Nat} {q : Rat} (h : Tn k q) (hk : k < 1073741824) : Sm q.num q.den := ⟨by have := h.1; omega, by have := h.2; omega⟩
theorem Tn.mul {k l : Nat} {p q : Rat} (h : Tn k p) (h' : Tn l q) : Tn (k * l) (p * q) :=
  ⟨Nat.le_trans (mul_bound p q).1 (Nat.mul_le_mul h.1 h'.1), Nat.le_trans (mul_bound p q).2 (Nat.mul_le_mul h.2 h'.2)⟩
theorem Tn.divInt {x y : Int} {k : Nat} (hy : 0 < y) (hx : x.natAbs ≤ k) (hk : y ≤ k) : Tn k (Rat.divInt x y) := by
  obtain ⟨h1, h2⟩ := frac_pos (x := x) hy
  refine ⟨?_, ?_⟩
  · rw [h1]; exact Nat.le_trans (Int.natAbs_ediv_le_natAbs _ _) hx
  · have h3 : (Rat.divInt x y).den = ((Rat.divInt x y).den : Int).natAbs := rfl
    rw [h3, h2]
    refine Nat.le_trans (Int.natAbs_ediv_le_natAbs _ _) (by omega)
theorem q_MulC (a b : Value) (p q : Rat) (w m : World) (hV : Vw m w) (ha : FracC m a p) (hb : FracC m b q) (hs : Sm p.num p.den) (hs' : Sm q.num q.den) :
    Calls Tryz.prog 74 #[a, b] w (RetV w m fun m' r => FracC m' r (p * q)) := by
  have h := q_Mul a b p.num p.den q.num q.den w m hV (ha.toS hs) (hb.toS hs') hs hs'
  rwa [Rat.num_divInt_den, Rat.num_divInt_den] at h
theorem q_AddC (a b : Value) (p q : Rat) (w m : World) (hV : Vw m w) (ha : FracC m a p) (hb : FracC m b q) (hs : Sm p.num p.den) (hs' : Sm q.num q.den) :
    Calls Tryz.prog 72 #[a, b] w (RetV w m fun m' r => FracC m' r (p + q)) := by
  have h := q_Add a b p.num p.den q.num q.den w m hV (ha.toS hs) (hb.toS hs') hs hs'
  rwa [Rat.num_divInt_den, Rat.num_divInt_den] at h
theorem RowF.at4 {m : World} {cur : Array Value} {xs : List Rat} (h : FrRow m cur xs) {k : Nat} {x : Rat} (hk : xs[k]? = some x) :
    ∃ g A n c g' B k' d, FracC m (.agg #[.bool g, .slice A n c, .bool g', .slice B k' d]) x ∧ ∀ j, j < 4 → cur[0 + k * 4 + j]? = [Value.bool g, .slice A n c, .bool g', .slice B k' d][j]? := by
  obtain ⟨v, hv, hs, hr⟩ := RowF.at_ h hk
  obtain ⟨g, A, n, c, g', B, k', d, rfl, hv⟩ := hv.lit
  exact ⟨g, A, n, c, g', B, k', d, hv, fun j hj => by rw [hr j hj]; simp [Value.cells]⟩
structure Pr.tn (p : Pr) : Prop where
  fl : ∀ q ∈ p.fl, Tn 1000 q
  cd : ∀ q ∈ p.cd, Tn 1000 q
end Go.Proofs.YtmhkmmmompediaaGreat

/- Contract of pairingref27.SamePrices (equal prices). -/
namespace Go.Proofs.YtmhkmmmompediaaGreat
open Go.RowKit

structure Pr.fit (p : Pr) : Prop where
  fl : ∀ q ∈ p.fl, Fit 200 q
  cd : ∀ q ∈ p.cd, Fit 200 q
  nf : p.fl.length ≤ 1000
  nc : p.cu.length ≤ 1000
  nd : p.cd.length ≤ 1000
  ne : p.de.length ≤ 1000

end Go.Proofs.YtmhkmmmompediaaGreat

/- Contracts of the reference's arithmetic for canonical fractions. -/
namespace Go.Proofs.YtmhkmmmompediaaGreat
open Go.RowKit

theorem Tn.fit {k : Nat} {q : Rat} (h : Tn k q) (hk : k < 4294967296) : Fit 200 q :=
  Fit.mono (k := 1) ⟨by have := h.1; simp only [Nat.pow_one]; omega, by have := h.2; simp only [Nat.pow_one]; omega⟩ (by decide)
theorem r_MulC (a b : Value) (p q : Rat) (w m : World) (hV : Vw m w) (ha : FracC m a p) (hb : FracC m b q) (kp : Fit 200 p) (kq : Fit 200 q) :
    Calls Tryz.prog 25 #[a, b] w (RetV w m fun m' r => FracC m' r (p * q)) := r_Mul a b p q w m hV (ha.toV kp (by decide)) (hb.toV kq (by decide)) kp kq
theorem r_AddC (a b : Value) (p q : Rat) (w m : World) (hV : Vw m w) (ha : FracC m a p) (hb : FracC m b q) (kp : Fit 200 p) (kq : Fit 200 q) :
    Calls Tryz.prog 80 #[a, b] w (RetV w m fun m' r => FracC m' r (p + q)) := r_Add a b p q w m hV (ha.toV kp (by decide)) (hb.toV kq (by decide)) kp kq
theorem r_DivC (a b : Value) (p q : Rat) (w m : World) (hV : Vw m w) (ha : FracC m a p) (hb : FracC m b q) (kp : Fit 200 p) (kq : Fit 200 q) :
    Calls Tryz.prog 82 #[a, b] w (RetV w m fun m' r => FracC m' r (p / q)) := r_Div a b p q w m hV (ha.toV kp (by decide)) (hb.toV kq (by decide)) kp kq
theorem Tn.int {z : Int} {k : Nat} (h : z.natAbs ≤ k) (hk : 1 ≤ k) : Tn k (z : Rat) := ⟨by simpa using h, by simpa using hk⟩
theorem div_mix (num den : Int) : (num : Rat) / (den : Rat) = Rat.divInt num den := (Rat.divInt_eq_div num den).symm
end Go.Proofs.YtmhkmmmompediaaGreat

/- Contracts of lagrange.Mix where it refuses. -/
namespace Go.Proofs.YtmhkmmmompediaaGreat
open Go.RowKit

theorem results_cell_tmp {P : Program} {fn : Func} {p k : Tmp} {ty : TypeId} (h : fn.results = #[.cell p ty, .tmp k]) (tmps : Array Value) (w : World) (g : Nat) (t : TypeId) (cs : Array Value) (fr : Nat × Nat) (d : TypeDesc)
    (hp : tmps.getD p undef = .pointer (some ⟨g, 0, none⟩)) (hg : w.heap[g]? = some (.cells cs t fr))
    (hu : P.underlying ty = some d) (hd : (match d with | .struct _ | .array _ _ => true | _ => false) = true) (hi : (P.info? ty).map (·.size) = some cs.size) :
    (results fn tmps).run P w = .ok (.tuple #[.agg cs, tmps.getD k undef]) w := by
  have hp' : tmps[p]?.getD undef = .pointer (some ⟨g, 0, none⟩) := by simpa using hp
  simp [results, h, hp', asAddr, run_loadVar_row w g t ty cs fr d hg hu hd hi]
theorem fin_aggT {P : Program} {fn : Func} {R : World → Value → Prop} {w m W mm : World} {Ls : List Lo} (hL : Loc w m W mm Ls) {p q : Nat} {ty : TypeId} (hr : fn.results = #[.cell p ty, .tmp q]) {a : Act} (hdf : a.defers = []) {g : Nat}
    (hp : a.tmps.getD p undef = .pointer (some ⟨g, 0, none⟩)) {n : Nat} {t : TypeId} {cs : Array Value} (hn : Ls[n]? = some (g, t, cs)) {k : Nat} (hty : agS P ty = some k) (hk : cs.size = k) {u : Value} (hu : a.tmps.getD q undef = u) {m' : World} (hL' : Loc w m W m' []) (h : R m' (.tuple #[.agg cs, u])) :
    bodyPost P fn (RetV w m R) .ret a W := by
  subst hk
  obtain ⟨d, hd', hd, hi⟩ := ag_desc hty
  subst hu
  exact bodyPost_ret (results_cell_tmp hr _ _ g t cs (0, 0) d hp (hL.at_ hn) hd' (by cases d <;> first | rfl | exact hd) hi) hdf (RetV.mk hL' h)
end Go.Proofs.YtmhkmmmompediaaGreat

/- Lists that are built by append, element by element. No program. -/
namespace Go.Proofs.YtmhkmmmompediaaGreat
open Go.RowKit

def RowA {α : Type} (e : TypeId) (size : Nat) (R : World → Value → α → Prop) (m : World) (v : Value) (n : Nat) (xs : List α) (Rr : List Lo) : Prop :=
  ∃ vs, Row e size v n (cellsOf vs) Rr ∧ (∀ u ∈ vs, u.cells.size = size) ∧ All2 (R m) vs xs ∧ vs.length = n
theorem RowA.nil {α : Type} {e : TypeId} {size : Nat} {R : World → Value → α → Prop} {m : World} : RowA e size R m (.slice none 0 0) 0 [] [] :=
  ⟨[], by simpa [cellsOf] using Row.nil e size, (fun _ h => by cases h), trivial, rfl⟩
theorem RowA.le {α : Type} {e : TypeId} {size : Nat} {R : World → Value → α → Prop} (hR : ∀ m m' v x, R m v x → Le m m' → R m' v x) {m m' : World} {v : Value} {n : Nat} {xs : List α} {Rr : List Lo} (h : RowA e size R m v n xs Rr) (hb : Le m m') : RowA e size R m' v n xs Rr := by
  obtain ⟨vs, h1, h2, h3, h4⟩ := h
  exact ⟨vs, h1, h2, h3.mono fun v x hv => hR m m' v x hv hb, h4⟩
theorem RowA.snoc {α : Type} {e : TypeId} {size : Nat} {R : World → Value → α → Prop} {m : World} {n : Nat} {xs : List α} {vs : List Value} {ws : List Value} {x : α} {v' : Value} {R' : List Lo}
    (h1 : Row e size v' (n + 1) (cellsOf vs ++ ws) R') (h2 : ∀ u ∈ vs, u.cells.size = size) (h3 : All2 (R m) vs xs) (h4 : vs.length = n) (hw : ws.length = size) (hx : R m (.agg ws.toArray) x) : RowA e size R m v' (n + 1) (xs ++ [x]) R' := by
  refine ⟨vs ++ [.agg ws.toArray], ?_, ?_, h3.snoc hx, by simp [h4]⟩
  · rw [cellsOf_append, cellsOf_one]
    simpa [Value.cells] using h1
  · intro u hu
    rcases List.mem_append.1 hu with hu | hu
    · exact h2 u hu
    · rcases List.mem_singleton.1 hu with rfl
      simpa [Value.cells] using hw
theorem RowA.show {α : Type} {e : TypeId} {size : Nat} {R : World → Value → α → Prop} (hR : ∀ m m' v x, R m v x → Le m m' → R m' v x) {w0 m0 W m : World} {A Rr : List Lo} {v : Value} {n : Nat} {xs : List α} (hL : Loc w0 m0 W m (A ++ Rr)) (h : RowA e size R m v n xs Rr) :
    ∃ m', Loc w0 m0 W m' A ∧ Le m m' ∧ ListV size R m' v xs ∧ ∃ cs, W.ownsRow w0.heap.size e size v n cs := by
  obtain ⟨vs, h1, h2, h3, h4⟩ := h
  obtain ⟨m', B, c, hL', hle, rfl, hc, hs, ho⟩ := Loc.show hL h1
  exact ⟨m', hL', hle, ListV.mk hc h4 h2 hs (h3.mono fun v x hv => hR m m' v x hv hle), _, ho⟩
theorem RowA.lit {α : Type} {e : TypeId} {size : Nat} {R : World → Value → α → Prop} {m : World} {v : Value} {n : Nat} {xs : List α} {Rr : List Lo} (h : RowA e size R m v n xs Rr) : ∃ A c, v = .slice A n c ∧ RowA e size R m (.slice A n c) n xs Rr := by
  have h' := h
  obtain ⟨vs, h1, _⟩ := h
  obtain ⟨A, c, rfl, _⟩ := h1.lit
  exact ⟨A, c, rfl, h'⟩
def NewS1 (e : TypeId) (R : World → Value → Prop) (v : Value) (u um : World) : Prop := ∃ g cs, v = .slice (some ⟨g, 0, none⟩) 1 1 ∧ Blk u g e cs ∧ R um (.agg cs)
theorem one2_s1 {a : Act} {dst : Option Nat} {W1 m1 : World} {e : TypeId} {R : World → Value → Prop} {cs : Array Value} (hV : Vw m1 W1) (hR : ∀ m', Ext m1 m' → R m' (.agg cs)) :
    One2 (NewS1 e R) false a dst W1 m1 .normal (a.put dst (.slice (some ⟨W1.heap.size, 0, none⟩) 1 1)) (W1.alloc (.cells cs e)) := by
  have h := (Loc.start hV).alloc cs e
  exact ⟨rfl, h.ext, _, _, h.mext, h.vw, rfl, ⟨W1.heap.size, cs, rfl, Blk.new _ _ _, hR _ h.mext⟩, fun h => by cases h⟩
theorem take_snoc {α : Type} {l : List α} {k : Nat} {x : α} (h : l[k]? = some x) : l.take k ++ [x] = l.take (k + 1) := by rw [List.take_add_one, h]; rfl
end Go.Proofs.YtmhkmmmompediaaGreat

/- Rows that are new and shown at once; slices of one element; a row that is taken out of the list. No program. -/
namespace Go.Proofs.YtmhkmmmompediaaGreat
open Go.RowKit

theorem Loc.allocV {w0 m0 W m : World} {Ls : List Lo} (h : Loc w0 m0 W m Ls) (cs : Array Value) (t : TypeId) :
    Loc w0 m0 (W.alloc (.cells cs t)) (m.alloc (.cells cs t)) Ls := by
  have hs := h.vw.size
  refine ⟨h.size0, h.ext.alloc _, h.mext.alloc _, ⟨h.vw.os, h.vw.tape, h.vw.output, by simp [hs], fun a u hu => ?_⟩, h.low, fun x hx => (h.blk x hx).alloc _, fun x hx a ha => ?_, h.apart⟩
  · by_cases e : a.block = m.heap.size
    · obtain ⟨b, o, s⟩ := a
      simp only at e
      subst e
      have b1 := Blk.new m t cs
      have b2 : Blk (W.alloc (.cells cs t)) m.heap.size t cs := by rw [hs]; exact Blk.new W t cs
      unfold Blk at b1 b2
      unfold World.cell? at hu ⊢
      rw [b1] at hu
      rw [b2]
      exact hu
    · exact cell_alloc_old (h.vw.cell _ _ (cell_alloc_iff hu e))
  · cases hc : (m.alloc (.cells cs t)).cell? a with
    | none => rfl
    | some u =>
      have := cell_alloc_iff hc (by rw [ha, hs]; exact Nat.ne_of_lt (h.blk x hx).lt)
      rw [h.hid x hx a ha] at this; cases this
section
variable {P : Program} {ops : Array Oper} {Q : Exit → Act → World → Prop} {rest : List Oper} {o : Oper} {a : Act} {w0 m0 W m : World} {Ls : List Lo}
theorem wl_bslice (hL : Loc w0 m0 W m Ls) (hw : Region.wanted o (yielded ops a.tmps) = true) {t : TypeId} {k : Nat} {parts : Array (Nat × Operand)} (_ho : o.op = .buildSlice t k parts) {n : Nat} {cs : Array Value} {e : TypeId}
    (hrun : ∀ w, (execOp a.eval o).run P w = .ok (.value (.slice (some ⟨w.heap.size, 0, none⟩) n n)) (w.alloc (.cells cs e)))
    (h : ∀ W' m', Loc w0 m0 W' m' Ls → Ext m m' → Blk m' W.heap.size e cs → wpList P ops Q rest (a.put o.dst (.slice (some ⟨W.heap.size, 0, none⟩) n n)) W') : wpList P ops Q (o :: rest) a W := by
  refine wpList_wanted hw fun _ hK => ?_
  unfold Oper.wp
  rw [hrun W]
  refine hK _ _ (h _ _ (hL.allocV cs e) (Ext.new _ _) ?_)
  rw [← hL.vw.size]
  exact Blk.new m e cs
theorem one2_makeV {b : Nat} {dst : Option Nat} {W1 m1 : World} (hV : Vw m1 W1) (hd : o.dst = dst) (hgd : o.guard = none) {t : TypeId} {x : Operand} (ho : o.op = .makeSlice t x x) {e : TypeId} {size bytes : Nat} (hap : apS P t = some (e, size, bytes, size)) {z : Array Value} (hz : zc P e = some z)
    {n : Nat} (hx : a.eval x = .int .i64 n) (hn : n ≤ 1000000) (hb : bytes ≤ 1000000) {R : World → Value → Prop} (hR : ∀ m' g, Ext m1 m' → Blk m' g e (madeCells z (n * size)) → R m' (.slice (some ⟨g, 0, none⟩) n n)) :
    wpList P ops (One2 (Of R) false a dst W1 m1) [o] a W1 := by
  subst hd
  refine wpList_plain hgd fun _ hK => op_make ho hap hz hx hn hb (hK _ _ ?_)
  have h := (Loc.start hV).allocV (madeCells z (n * size)) e
  exact ⟨rfl, h.ext, _, _, h.mext, h.vw, rfl, hR _ _ h.mext (by rw [← hV.size]; exact Blk.new _ _ _), fun h => by cases h⟩
end

theorem foldl_splice (off : Nat) : ∀ (l : List Value) (k : Nat) (cs : Array Value), (l.zipIdx k).foldl (fun cs (x : Value × Nat) => cs.setIfInBounds (off + x.2) x.1) cs = splice cs (off + k) l
  | [], _, _ => rfl
  | v :: r, k, cs => by
    rw [List.zipIdx_cons, List.foldl_cons, foldl_splice off r (k + 1), splice]; rfl
theorem splice_all {ws : List Value} {cs : Array Value} (h : cs.size = ws.length) : splice cs 0 ws = ws.toArray := by
  apply Array.ext_getElem?
  intro j
  rw [splice_at ws 0 cs (by omega)]
  by_cases hj : j < ws.length
  · rw [if_pos ⟨by omega, by omega⟩]; simp
  · rw [if_neg (by omega)]
    rw [Array.getElem?_eq_none (by omega)]; simp; omega
theorem run_bs1 {P : Program} {t e : TypeId} {size bytes : Nat} (hap : apS P t = some (e, size, bytes, size)) (h0 : 0 < size) (h1 : size ≤ 1000) {v : Value} {ws : List Value} (hv : v.cells = ws.toArray) (hw : ws.length = size) (w : World) :
    (Instr.buildSlice t 1 #[(0, v)]).run P w = .ok (.slice (some ⟨w.heap.size, 0, none⟩) 1 1) (w.alloc (.cells ws.toArray e)) := by
  obtain ⟨i, z, ht, hi, hz, hs, hb, hzs⟩ := ap_desc hap
  have hle : ¬ (1 * i.size > 2 ^ 24) := by omega
  have hne : ¬ (1 * i.size = 0) := by omega
  have hfill : ∀ cs : Array Value, cs.size = size → Instr.fill (fun j => some (j * i.size, i.size)) cs [(0, v)] = some ws.toArray := by
    intro cs hcs
    unfold Instr.fill
    have e1 : v.cells.size = i.size := by rw [hv]; simp [hw, hs]
    simp only [e1, ne_eq, not_true_eq_false, decide_false, Bool.false_or, Nat.zero_mul, Nat.zero_add]
    rw [if_neg (by simp; omega)]
    unfold Instr.fill
    congr 1
    rw [hv]
    have := foldl_splice 0 ws 0 cs
    simp only [Nat.zero_add, Nat.add_zero] at this
    have h2 := splice_all (cs := cs) (ws := ws) (by omega)
    rw [← Array.foldl_toList, Array.toList_zipIdx]
    exact this.trans h2
  have hsz : (sizeOf e).run P w = .ok i.size w := by simp [sizeOf, typeInfo, hi]
  have hzv : (zeroValue e).run P w = .ok z w := by simp [zeroValue, typeInfo, hi, hz]
  unfold Instr.buildSlice
  simp only [Sem.run_bind, run_underlying ht, hsz, Result.andThen_ok]
  rw [if_neg hle, if_neg hne]
  simp only [Sem.run_bind, hzv, Sem.run_pure, Result.andThen_ok]
  rw [hfill _ (by simp [hs])]
  simp [newRow, go_sem]
section
variable {P : Program} {ops : Array Oper} {Q : Exit → Act → World → Prop} {rest : List Oper} {o : Oper} {a : Act} {w0 m0 W m : World} {Ls : List Lo}
theorem wl_bs1 (hL : Loc w0 m0 W m Ls) (hw : Region.wanted o (yielded ops a.tmps) = true) {t : TypeId} {x : Operand} (ho : o.op = .buildSlice t 1 #[(0, x)]) {e : TypeId} {size bytes : Nat} (hap : apS P t = some (e, size, bytes, size)) (h0 : 0 < size) (h1 : size ≤ 1000)
    {v : Value} (hx : a.eval x = v) {ws : List Value} (hv : v.cells = ws.toArray) (hl : ws.length = size)
    (h : ∀ W' m', Loc w0 m0 W' m' Ls → Ext m m' → Blk m' W.heap.size e ws.toArray → wpList P ops Q rest (a.put o.dst (.slice (some ⟨W.heap.size, 0, none⟩) 1 1)) W') : wpList P ops Q (o :: rest) a W := by
  refine wl_bslice (e := e) (cs := ws.toArray) (n := 1) hL hw ho (fun w => ?_) h
  unfold execOp
  simp only [ho, List.map_toArray, List.map_cons, List.map_nil, hx, Sem.run_bind, run_bs1 hap h0 h1 hv hl, Result.andThen_ok, Sem.run_pure]
theorem t_bsA (hL : Loc w0 m0 W m Ls) {t : TypeId} {x : Operand} (ho : o.op = .buildSlice t 1 #[(0, x)]) {ws : List Value} (hx : a.eval x = .agg ws.toArray) {e : TypeId} {size bytes : Nat} [hap : ApC P t e size bytes]
    (h : ∀ W' m', Loc w0 m0 W' m' Ls → Ext m m' → Blk m' W.heap.size e ws.toArray → wpList P ops Q rest (a.put o.dst (.slice (some ⟨W.heap.size, 0, none⟩) 1 1)) W')
    (hz : 0 < size ∧ size ≤ 1000 ∧ ws.length = size := by refine ⟨by decide, by decide, rfl⟩)
    (hw : Region.wanted o (yielded ops a.tmps) = true := by first | exact wanted_none rfl | exact wanted_some rfl rfl rfl rfl) : wpList P ops Q (o :: rest) a W := wl_bs1 hL hw ho hap.h hz.1 hz.2.1 hx rfl hz.2.2 h
theorem t_bsV (hL : Loc w0 m0 W m Ls) {t : TypeId} {x : Operand} (ho : o.op = .buildSlice t 1 #[(0, x)]) {v : Value} (hx : a.eval x = v) {e : TypeId} {bytes : Nat} [hap : ApC P t e 1 bytes]
    (h : ∀ W' m', Loc w0 m0 W' m' Ls → Ext m m' → Blk m' W.heap.size e #[v] → wpList P ops Q rest (a.put o.dst (.slice (some ⟨W.heap.size, 0, none⟩) 1 1)) W')
    (hv : v.cells = #[v] := by exact rfl)
    (hw : Region.wanted o (yielded ops a.tmps) = true := by first | exact wanted_none rfl | exact wanted_some rfl rfl rfl rfl) : wpList P ops Q (o :: rest) a W := wl_bs1 (ws := [v]) hL hw ho hap.h (by omega) (by omega) hx hv rfl h
end
theorem kBs {P : Program} {ops : Array Oper} {Q : Exit → Act → World → Prop} {rest : List Oper} {a : Act} {W : World} {d : Option Tmp} {ty t : TypeId} {pos : String} {af : Array Edge} {gd : Option (Nat × Bool)} {ps : Array (Nat × Operand)} {n : Nat}
    (h : wpList P ops Q (⟨d, .buildSlice t n ps, ty, pos, af, gd⟩ :: rest) a W) : wpList P ops Q (⟨d, .buildSlice t n ps, ty, pos, af, gd⟩ :: rest) a W := h
theorem stA {P : Program} {ops : Array Oper} {Q : Exit → Act → World → Prop} {rest : List Oper} {a : Act} {W : World} {d : Option Tmp} {ty : TypeId} {pos : String} {af : Array Edge} {gd : Option (Nat × Bool)} {xs : Array Operand} {ts : Array TypeId}
    (h : Hid (wpList P ops Q (⟨d, .call { callee := .builtin .append, args := xs, argTypes := ts }, ty, pos, af, gd⟩ :: rest) a W)) : wpList P ops Q (⟨d, .call { callee := .builtin .append, args := xs, argTypes := ts }, ty, pos, af, gd⟩ :: rest) a W := h
theorem goA {p : Prop} (h : p) : Hid p := h
theorem RowA.snocV {α : Type} {e : TypeId} {size : Nat} {R : World → Value → α → Prop} {m : World} {n : Nat} {xs : List α} {vs : List Value} {v : Value} {x : α} {v' : Value} {R' : List Lo}
    (h1 : Row e size v' (n + 1) (cellsOf vs ++ [v]) R') (h2 : ∀ u ∈ vs, u.cells.size = size) (h3 : All2 (R m) vs xs) (h4 : vs.length = n) (hv : v.cells = #[v]) (hs : size = 1) (hx : R m v x) : RowA e size R m v' (n + 1) (xs ++ [x]) R' := by
  refine ⟨vs ++ [v], ?_, ?_, h3.snoc hx, by simp [h4]⟩
  · rw [cellsOf_append, cellsOf_one, hv]
    exact h1
  · intro u hu
    rcases List.mem_append.1 hu with hu | hu
    · exact h2 u hu
    · rcases List.mem_singleton.1 hu with rfl
      rw [hv, hs]; rfl
theorem RowA.len {α : Type} {e : TypeId} {size : Nat} {R : World → Value → α → Prop} {m : World} {v : Value} {n : Nat} {xs : List α} {Rr : List Lo} (h : RowA e size R m v n xs Rr) : n = xs.length := by
  obtain ⟨vs, _, _, h3, h4⟩ := h
  rw [← h4, h3.length]
end Go.Proofs.YtmhkmmmompediaaGreat

/- Contracts of enumerate.ValidatePrices and master.ValidateMaster where there are no cuts, decisions and columns. -/
namespace Go.Proofs.YtmhkmmmompediaaGreat
open Go.RowKit

set_option maxRecDepth 100000 in
set_option maxHeartbeats 16000000 in
theorem e_ValidatePrices0 (A B C D : Option Addr) (nf c d e f : Nat) (fr : Bool) (w m : World) (hV : Vw m w) (hn : nf ≤ 1000) :
    Calls Tryz.prog 69 #[.int .i64 nf, .agg #[.slice A nf c, .slice B 0 d, .slice C 0 e, .slice D 0 f, .bool fr]] w (RetV w m fun _ r => r = .int .i64 0) := by
  have hL := Loc.start hV
  clear hV
  have e1 : ((nf : Int) != (nf : Int)) = false := by simp
  go_enter Tryz.func69, Tryz.ntmps69
  go_wp2_with (first | ((with_reducible refine kAny ?_); go_skip) | ((first | refine tIx ?_ | refine tFd ?_ | refine tLd ?_ | ((first | refine tSr ?_ | refine tSt ?_); clear hL; intro _ hL; simp only [splice, zq1, zq2, zq3] at hL) | ((first | refine tBx ?_ | refine tAl ?_); clear hL; intro _ _ hL _)); simp only [Act.put, zq1, zq2, zq3]))
  refine wp_loop_once ?_
  go_wp2_with (first | ((with_reducible refine kAny ?_); go_skip) | ((first | refine tIx ?_ | refine tFd ?_ | refine tLd ?_ | ((first | refine tSr ?_ | refine tSt ?_); clear hL; intro _ hL; simp only [splice, zq1, zq2, zq3] at hL) | ((first | refine tBx ?_ | refine tAl ?_); clear hL; intro _ _ hL _)); simp only [Act.put, zq1, zq2, zq3]))
  refine wp_loop_once ?_
  go_wp2_with (first | ((with_reducible refine kAny ?_); go_skip) | ((first | refine tIx ?_ | refine tFd ?_ | refine tLd ?_ | ((first | refine tSr ?_ | refine tSt ?_); clear hL; intro _ hL; simp only [splice, zq1, zq2, zq3] at hL) | ((first | refine tBx ?_ | refine tAl ?_); clear hL; intro _ _ hL _)); simp only [Act.put, zq1, zq2, zq3]))
  go_ret
  exact RetV.mk hL rfl

def Asc (nf : Nat) (rs : List Int) : Prop := ∀ (k : Nat) (x : Int), rs[k]? = some x → 0 ≤ x ∧ x < nf ∧ ∀ y : Int, 0 < k → rs[k - 1]? = some y → y < x
set_option maxRecDepth 100000 in
set_option maxHeartbeats 16000000 in
theorem m_ValidateMaster0 (A B C : Option Addr) (nf n c d e : Nat) (pen : Int) (rs : List Int) (w m : World) (hV : Vw m w) (hr : IntL m (.slice A n c) rs) (hn : nf ≤ 200) (hl : rs.length = n) (h1 : 1 ≤ n) (h2 : n ≤ 32) (p1 : 0 ≤ pen) (p2 : pen ≤ 4294967296) (ha : Asc nf rs) :
    Calls Tryz.prog 68 #[.agg #[.int .i64 nf, .slice A n c, .int .i64 pen, .slice B 0 d, .slice C 0 e]] w (RetV w m fun _ r => r = .int .i64 0) := by
  have hL := Loc.start hV
  clear hV
  have HN := Lib.hid hl
  have HA := Lib.hid ha
  clear hl ha
  have n1 : ¬ (nf : Int) > 200 := by omega
  have n2 : ¬ (nf : Int) < 0 := by omega
  have n3 : ¬ (n : Int) < 1 := by omega
  have n4 : ¬ (n : Int) > 32 := by omega
  have n5 : ¬ pen < 0 := by omega
  have n6 : ¬ pen > 4294967296 := by omega
  go_enter Tryz.func68, Tryz.ntmps68
  go_wp2_with (first | ((with_reducible refine kAny ?_); go_skip) | ((first | refine tIx ?_ | refine tFd ?_ | refine tLd ?_ | ((first | refine tSr ?_ | refine tSt ?_); clear hL; intro _ hL; simp only [splice, zq1, zq2, zq3] at hL) | ((first | refine tBx ?_ | refine tAl ?_); clear hL; intro _ _ hL _)); simp only [Act.put, zq1, zq2, zq3]))
  go_loopw [58] (fun i wr => ∃ (k : Nat) (mm : World), k ≤ n ∧ i = .int .i64 k ∧ Loc w m wr mm [(w.heap.size, 26, #[.int .i64 nf, .slice A n c, .int .i64 pen, .slice B 0 d, .slice C 0 e])]) (fun i _ => n - (intOf i).toNat)
  case atStart => exact ⟨0, _, Nat.zero_le _, rfl, hL⟩
  case round =>
    clear hL
    obtain ⟨k, mm, hk, rfl, hL⟩ := hrel
    have hM := hL.mext
    by_cases hlt : k < n
    · obtain ⟨x, hx⟩ := at_some HN hlt
      obtain ⟨b1, o1, hA, hc1⟩ := IntL.at_ hr hx
      replace hA := Lib.hid hA
      obtain ⟨x1, x2, x3⟩ := HA.out k x hx
      have x1' : ¬ x < 0 := by omega
      have x2' : ¬ x ≥ nf := by omega
      by_cases h0 : k = 0
      · subst h0
        clear hx x3 x1 x2
        go_wp2_with (first | ((with_reducible refine kAny ?_); go_skip) | ((first | refine tIx ?_ | refine tFd ?_ | refine tLd ?_ | ((first | refine tSr ?_ | refine tSt ?_); clear hL; intro _ hL; simp only [splice, zq1, zq2, zq3] at hL) | ((first | refine tBx ?_ | refine tAl ?_); clear hL; intro _ _ hL _)); simp only [Act.put, zq1, zq2, zq3]))
        go_roundw
        case rel => exact ⟨1, _, by omega, by go_num, hL⟩
        case measure => simp [intOf] <;> omega
      · obtain ⟨j, rfl⟩ : ∃ j, k = j + 1 := ⟨k - 1, by omega⟩
        have hk0 : ((j + 1 : Nat) : Int) > 0 := by omega
        have hjn : j < n := by omega
        obtain ⟨y, hy⟩ := at_some HN hjn
        obtain ⟨b2, o2, hA2, hc2⟩ := IntL.at_ hr hy
        have hyx : ¬ x ≤ y := by have := x3 y (by omega) (by simpa using hy); omega
        have e12 : b2 = b1 ∧ o2 = o1 := by
          have := hA.out
          rw [hA2] at this
          simp only [Option.some.injEq, Addr.mk.injEq, and_true] at this
          exact this
        obtain ⟨rfl, rfl⟩ := e12
        have hj1 : ((j + 1 : Nat) : Int) - 1 = (j : Int) := by omega
        have hj2 : wrap64 (((j + 1 : Nat) : Int) - 1) = (j : Int) := by unfold wrap64; omega
        have hj3 : (j : Int) + 1 - 1 = (j : Int) := by omega
        clear hx hy x3 x1 x2 hA2 h0
        go_wp2_with (first | ((with_reducible refine kAny ?_); go_skip) | ((first | refine tIx ?_ | refine tFd ?_ | refine tLd ?_ | ((first | refine tSr ?_ | refine tSt ?_); clear hL; intro _ hL; simp only [splice, zq1, zq2, zq3] at hL) | ((first | refine tBx ?_ | refine tAl ?_); clear hL; intro _ _ hL _)); simp only [Act.put, zq1, zq2, zq3]))
        go_roundw
        case rel => exact ⟨j + 1 + 1, _, by omega, by go_num, hL⟩
        case measure => simp [intOf] <;> omega
    · go_wp2_with (first | ((with_reducible refine kAny ?_); go_skip) | ((first | refine tIx ?_ | refine tFd ?_ | refine tLd ?_ | ((first | refine tSr ?_ | refine tSt ?_); clear hL; intro _ hL; simp only [splice, zq1, zq2, zq3] at hL) | ((first | refine tBx ?_ | refine tAl ?_); clear hL; intro _ _ hL _)); simp only [Act.put, zq1, zq2, zq3]))
      refine wp_loop_once ?_
      go_wp2_with (first | ((with_reducible refine kAny ?_); go_skip) | ((first | refine tIx ?_ | refine tFd ?_ | refine tLd ?_ | ((first | refine tSr ?_ | refine tSt ?_); clear hL; intro _ hL; simp only [splice, zq1, zq2, zq3] at hL) | ((first | refine tBx ?_ | refine tAl ?_); clear hL; intro _ _ hL _)); simp only [Act.put, zq1, zq2, zq3]))
      refine wp_loop_once ?_
      go_wp2_with (first | ((with_reducible refine kAny ?_); go_skip) | ((first | refine tIx ?_ | refine tFd ?_ | refine tLd ?_ | ((first | refine tSr ?_ | refine tSt ?_); clear hL; intro _ hL; simp only [splice, zq1, zq2, zq3] at hL) | ((first | refine tBx ?_ | refine tAl ?_); clear hL; intro _ _ hL _)); simp only [Act.put, zq1, zq2, zq3]))
      go_ret
      exact RetV.mk hL rfl
end Go.Proofs.YtmhkmmmompediaaGreat

/- Contracts of lagrange.smaller (any small parts) and lagrange.Bound without cuts, decisions and columns. -/
namespace Go.Proofs.YtmhkmmmompediaaGreat
open Go.RowKit

abbrev SF := Int × Int
def minS (p q : SF) : SF := if pN q.1 q.2 * pD p.2 < pN p.1 p.2 * pD q.2 then q else p
def SFr (m : World) (v : Value) (p : SF) : Prop := FracS m v p.1 p.2
abbrev SFL := ListV (α := SF) 4 SFr
theorem FracS.lit {m : World} {v : Value} {x y : Int} (h : FracS m v x y) : ∃ g A n c g' B k d, v = .agg #[.bool g, .slice A n c, .bool g', .slice B k d] ∧ FracS m (.agg #[.bool g, .slice A n c, .bool g', .slice B k d]) x y := by
  have h' := h
  obtain ⟨a, b, c, d, rfl, h1, h2, _⟩ := h
  obtain ⟨g, A, n, c', rfl, rfl⟩ := h1.parts'
  obtain ⟨g', B, k, d', rfl, rfl⟩ := h2.parts'
  exact ⟨_, _, _, _, _, _, _, _, rfl, h'⟩
theorem SFL.at_ {m : World} {A : Option Addr} {n c : Nat} {ps : List SF} (h : SFL m (.slice A n c) ps) {k : Nat} {p : SF} (hk : ps[k]? = some p) :
    ∃ b off g A1 n1 c1 g' B k' d, A = some ⟨b, off, none⟩ ∧ FracS m (.agg #[.bool g, .slice A1 n1 c1, .bool g', .slice B k' d]) p.1 p.2 ∧ m.rangeAt b (off + k * 4) [.bool g, .slice A1 n1 c1, .bool g', .slice B k' d] := by
  obtain ⟨b, off, v, e, hv, _, hr⟩ := ListV.at_ h (by omega) hk
  obtain ⟨g, A1, n1, c1, g', B, k', d, rfl, hv⟩ := FracS.lit hv
  exact ⟨b, off, g, A1, n1, c1, g', B, k', d, e, hv, hr⟩

set_option maxRecDepth 100000 in
set_option maxHeartbeats 8000000 in
theorem l_smallerS (a b : Value) (p q : SF) (w m : World) (hV : Vw m w) (ha : FracS m a p.1 p.2) (hb : FracS m b q.1 q.2) (hp : Sm p.1 p.2) (hq : Sm q.1 q.2) :
    Calls Tryz.prog 73 #[a, b] w (RetV w m fun m' r => FracS m' r (minS p q).1 (minS p q).2) := by
  obtain ⟨g1, A1, n1, c1, h1, B1, k1, d1, rfl, ha⟩ := ha.lit
  obtain ⟨g2, A2, n2, c2, h2, B2, k2, d2, rfl, hb⟩ := hb.lit
  have hL := Loc.start hV
  clear hV
  go_enter Tryz.func73, Tryz.ntmps73
  go_wp2_with (first | ((with_reducible refine kAny ?_); go_skip) | ((first | refine tLd ?_ | ((first | refine tSr ?_ | refine tSt ?_); clear hL; intro _ hL; simp only [splice, zq1, zq2, zq3] at hL) | ((first | refine tBx ?_ | refine tAl ?_); clear hL; intro _ _ hL _)); simp only [Act.put, zq1, zq2, zq3]))
  refine (q_Compare _ _ q.1 q.2 p.1 p.2 _ _ hL.vw (hb.le leX) (ha.le leX) hq hp).mono ?_
  rintro e W11 ⟨_, m11, rfl, hE, hM11, hV, rfl⟩
  replace hL := hL.call hE (by assumption) hV; clear hE hV
  by_cases hc : pN q.1 q.2 * pD p.2 < pN p.1 p.2 * pD q.2
  · rw [icmp_lt hc]
    have E : Hid (minS p q = q) := if_pos hc
    clear hc
    go_wp2_with (first | ((with_reducible refine kAny ?_); go_skip) | ((first | refine tLd ?_ | ((first | refine tSr ?_ | refine tSt ?_); clear hL; intro _ hL; simp only [splice, zq1, zq2, zq3] at hL) | ((first | refine tBx ?_ | refine tAl ?_); clear hL; intro _ _ hL _)); simp only [Act.put, zq1, zq2, zq3]))
    refine fin_agg hL Tryz.results73 rfl rfl loX AgC.h (by exact rfl) ?_
    rw [E.out]; exact hb.le leX
  · have E : Hid (minS p q = p) := if_neg hc
    have hn : ¬ icmp (pN q.1 q.2 * pD p.2) (pN p.1 p.2 * pD q.2) < 0 := by
      unfold icmp; rw [if_neg hc]; split <;> omega
    generalize icmp (pN q.1 q.2 * pD p.2) (pN p.1 p.2 * pD q.2) = s at *
    clear hc
    go_wp2_with (first | ((with_reducible refine kAny ?_); go_skip) | ((first | refine tLd ?_ | ((first | refine tSr ?_ | refine tSt ?_); clear hL; intro _ hL; simp only [splice, zq1, zq2, zq3] at hL) | ((first | refine tBx ?_ | refine tAl ?_); clear hL; intro _ _ hL _)); simp only [Act.put, zq1, zq2, zq3]))
    refine fin_agg hL Tryz.results73 rfl rfl loX AgC.h (by exact rfl) ?_
    rw [E.out]; exact ha.le leX
def vS (p : SF) : Rat := Rat.divInt p.1 p.2
theorem q_AddS (a b : Value) (q : Rat) (p : SF) (w m : World) (hV : Vw m w) (ha : FracC m a q) (hb : FracS m b p.1 p.2) (hs : Sm q.num q.den) (hs' : Sm p.1 p.2) :
    Calls Tryz.prog 72 #[a, b] w (RetV w m fun m' r => FracC m' r (q + vS p)) := by
  have h := q_Add a b q.num q.den p.1 p.2 w m hV (ha.toS hs) hb hs hs'
  rwa [Rat.num_divInt_den] at h
theorem q_MulS (a b : Value) (q : Rat) (p : SF) (w m : World) (hV : Vw m w) (ha : FracC m a q) (hb : FracS m b p.1 p.2) (hs : Sm q.num q.den) (hs' : Sm p.1 p.2) :
    Calls Tryz.prog 74 #[a, b] w (RetV w m fun m' r => FracC m' r (q * vS p)) := by
  have h := q_Mul a b q.num q.den p.1 p.2 w m hV (ha.toS hs) hb hs hs'
  rwa [Rat.num_divInt_den] at h
theorem toSI {m : World} {v : Value} {z : Int} (h : FracC m v (z : Rat)) (hz : z.natAbs < 1073741824) : FracS m v z 1 := by
  have := h.toS ⟨by simpa using hz, by simp⟩
  simpa using this
def bsum (pen : Int) (fs : List SF) (rs : List Int) (k : Nat) : Rat := (rs.take k).foldl (fun s r => s + vS (minS (fs.getD r.toNat (0, 0)) (pen, 1))) ((0 : Int) : Rat)
theorem bsum_step {pen : Int} {fs : List SF} {rs : List Int} {k : Nat} {r : Int} {p : SF} (hr : rs[k]? = some r) (hp : fs[r.toNat]? = some p) : bsum pen fs rs (k + 1) = bsum pen fs rs k + vS (minS p (pen, 1)) := by
  unfold bsum
  rw [List.take_add_one, hr]
  simp [List.foldl_append, hp, List.getD]
end Go.Proofs.YtmhkmmmompediaaGreat

/- Contract of lagrange.Bound without cuts, decisions and columns. -/
namespace Go.Proofs.YtmhkmmmompediaaGreat
open Go.RowKit

set_option maxRecDepth 100000 in
set_option maxHeartbeats 16000000 in
theorem l_Bound0 (A B C F D E G : Option Addr) (nf n c d e cf df ef gf : Nat) (pen : Int) (rs : List Int) (fs : List SF) (lv : Value) (lp : SF) (w m : World) (hV : Vw m w)
    (hr : IntL m (.slice A n c) rs) (hfs : SFL m (.slice F nf cf) fs) (hlv : FracS m lv lp.1 lp.2) (hn : nf ≤ 200) (hl : rs.length = n) (hlf : fs.length = nf) (h1 : 1 ≤ n) (h2 : n ≤ 32) (p1 : 0 ≤ pen) (p2 : pen ≤ 1000) (ha : Asc nf rs)
    (hsm : ∀ p ∈ fs, Sm p.1 p.2 ∧ Sm (minS p (pen, 1)).1 (minS p (pen, 1)).2) (hps : ∀ k, k ≤ n → Sm (bsum pen fs rs k).num (bsum pen fs rs k).den) (hlp : Sm lp.1 lp.2) (hmp : Sm (minS lp (0, 1)).1 (minS lp (0, 1)).2)
    (hml : Sm (((n : Int) : Rat) * vS (minS lp (0, 1))).num (((n : Int) : Rat) * vS (minS lp (0, 1))).den) :
    Calls Tryz.prog 18 #[.agg #[.int .i64 nf, .slice A n c, .int .i64 pen, .slice B 0 d, .slice C 0 e], .agg #[.slice F nf cf, .slice D 0 df, .slice E 0 ef, .slice G 0 gf, .bool false], lv] w
      (RetV w m fun m' r => ∃ v, r = .tuple #[v, .int .i64 0] ∧ FracC m' v (bsum pen fs rs n + ((n : Int) : Rat) * vS (minS lp (0, 1)))) := by
  obtain ⟨g9, A9, n9, c9, h9, B9, k9, d9, rfl, hlv⟩ := hlv.lit
  have hL := Loc.start hV
  clear hV
  have HN := Lib.hid hl
  have HF := Lib.hid hlf
  have HA := Lib.hid ha
  have HS := Lib.hid hsm
  have HP := Lib.hid hps
  have H1 := Lib.hid hlp
  have H2 := Lib.hid hmp
  have H3 := Lib.hid hml
  have KV : Hid (∀ w m', Vw m' w → Le m m' → Calls Tryz.prog 68 #[.agg #[.int .i64 nf, .slice A n c, .int .i64 pen, .slice B 0 d, .slice C 0 e]] w (RetV w m' fun _ r => r = .int .i64 0)) := by
    show ∀ w m', _
    exact fun w m' hV hle => m_ValidateMaster0 A B C nf n c d e pen rs w m' hV (IntL.le hr hle) hn HN.out h1 h2 p1 (by omega) HA.out
  have KP : Hid (∀ w m', Vw m' w → Calls Tryz.prog 69 #[.int .i64 nf, .agg #[.slice F nf cf, .slice D 0 df, .slice E 0 ef, .slice G 0 gf, .bool false]] w (RetV w m' fun _ r => r = .int .i64 0)) := by
    show ∀ w m', _
    exact fun w m' hV => e_ValidatePrices0 F D E G nf cf df ef gf false w m' hV (by omega)
  have KW : Hid (∀ w m', Vw m' w → Calls Tryz.prog 71 #[.int .i64 pen] w (RetV w m' fun m' r => FracC m' r (pen : Rat))) := by
    show ∀ w m', _
    exact fun w m' hV => l_whole pen w m' hV (by omega)
  have KN : Hid (∀ w m', Vw m' w → Calls Tryz.prog 71 #[.int .i64 n] w (RetV w m' fun m' r => FracC m' r ((n : Int) : Rat))) := by
    show ∀ w m', _
    exact fun w m' hV => l_whole n w m' hV (by omega)
  have Hpen : Hid (pen.natAbs < 1073741824) := by show _ < _; omega
  have hn6 : n ≤ 1000 := by omega
  clear hl hlf ha hsm hps hlp hmp hml h1 h2 p1 p2 hn
  go_enter Tryz.func18, Tryz.ntmps18
  go_upto_region 0 with (fail)
  refine wp_region_lit ?_
  refine t_box hL rfl rfl ?_; clear hL; intro Wh3 mh3 hL eh3; simp only [Act.put, zq1, zq2, zq3]
  refine t_box hL rfl rfl ?_; clear hL; intro Wh4 mh4 hL eh4; simp only [Act.put, zq1, zq2, zq3]
  refine t_box hL rfl rfl ?_; clear hL; intro Wh5 mh5 hL eh5; simp only [Act.put, zq1, zq2, zq3]
  refine t_alloc hL rfl ?_; clear hL; intro Wh6 mh6 hL eh6; simp only [Act.put, zq1, zq2, zq3]
  go_wp2_with (first | ((with_reducible refine kAny ?_); go_skip) | ((first | refine tIx ?_ | refine tFd ?_ | refine tLd ?_ | ((first | refine tSr ?_ | refine tSt ?_); clear hL; intro _ hL; simp only [splice, zq1, zq2, zq3] at hL) | ((first | refine tBx ?_ | refine tAl ?_); clear hL; intro _ _ hL _)); simp only [Act.put, zq1, zq2, zq3]))
  refine (KV.out _ _ hL.vw leX).mono ?_
  rintro e Wc1 ⟨_, mc1, rfl, hE, hMc1, hV, rfl⟩
  replace hL := hL.call hE (by assumption) hV; clear hE hV
  go_wp2_with (first | ((with_reducible refine kAny ?_); go_skip) | ((first | refine tIx ?_ | refine tFd ?_ | refine tLd ?_ | ((first | refine tSr ?_ | refine tSt ?_); clear hL; intro _ hL; simp only [splice, zq1, zq2, zq3] at hL) | ((first | refine tBx ?_ | refine tAl ?_); clear hL; intro _ _ hL _)); simp only [Act.put, zq1, zq2, zq3]))
  refine (KP.out _ _ hL.vw).mono ?_
  rintro e Wc2 ⟨_, mc2, rfl, hE, hMc2, hV, rfl⟩
  replace hL := hL.call hE (by assumption) hV; clear hE hV
  go_wp2_with (first | ((with_reducible refine kAny ?_); go_skip) | ((first | refine tIx ?_ | refine tFd ?_ | refine tLd ?_ | ((first | refine tSr ?_ | refine tSt ?_); clear hL; intro _ hL; simp only [splice, zq1, zq2, zq3] at hL) | ((first | refine tBx ?_ | refine tAl ?_); clear hL; intro _ _ hL _)); simp only [Act.put, zq1, zq2, zq3]))
  refine wp_loop_once ?_
  go_wp2_with (first | ((with_reducible refine kAny ?_); go_skip) | ((first | refine tIx ?_ | refine tFd ?_ | refine tLd ?_ | ((first | refine tSr ?_ | refine tSt ?_); clear hL; intro _ hL; simp only [splice, zq1, zq2, zq3] at hL) | ((first | refine tBx ?_ | refine tAl ?_); clear hL; intro _ _ hL _)); simp only [Act.put, zq1, zq2, zq3]))
  refine (KW.out _ _ hL.vw).mono ?_
  rintro e Wc3 ⟨vc3, mc3, rfl, hE, hMc3, hV, hc3⟩
  replace hL := hL.call hE (by assumption) hV; clear hE hV
  obtain ⟨gc3', Ac3', nc3', cc3', hc3', Bc3', kc3', dc3', rfl, hc3⟩ := hc3.lit
  go_wp2_with (first | ((with_reducible refine kAny ?_); go_skip) | ((first | refine tIx ?_ | refine tFd ?_ | refine tLd ?_ | ((first | refine tSr ?_ | refine tSt ?_); clear hL; intro _ hL; simp only [splice, zq1, zq2, zq3] at hL) | ((first | refine tBx ?_ | refine tAl ?_); clear hL; intro _ _ hL _)); simp only [Act.put, zq1, zq2, zq3]))
  refine (l_whole 0 _ _ hL.vw (by decide)).mono ?_
  rintro e Wc4 ⟨vc4, mc4, rfl, hE, hMc4, hV, hc4⟩
  replace hL := hL.call hE (by assumption) hV; clear hE hV
  obtain ⟨gc4', Ac4', nc4', cc4', hc4', Bc4', kc4', dc4', rfl, hc4⟩ := hc4.lit
  go_wp2_with (first | ((with_reducible refine kAny ?_); go_skip) | ((first | refine tIx ?_ | refine tFd ?_ | refine tLd ?_ | ((first | refine tSr ?_ | refine tSt ?_); clear hL; intro _ hL; simp only [splice, zq1, zq2, zq3] at hL) | ((first | refine tBx ?_ | refine tAl ?_); clear hL; intro _ _ hL _)); simp only [Act.put, zq1, zq2, zq3]))
  have hp3 : FracS mc4 _ pen 1 := (toSI hc3 Hpen.out).le leX
  have hz4 : Hid (FracC mc4 (.agg #[.bool gc4', .slice Ac4' nc4' cc4', .bool hc4', .slice Bc4' kc4' dc4']) (bsum pen fs rs 0)) := hc4
  go_loopw [66] (fun i wr => ∃ (k : Nat) (mm : World) (g5 h5 : Bool) (A5 B5 : Option Addr) (n5 c5 k5 d5 : Nat), k ≤ n ∧ i = .int .i64 k ∧ Loc w m wr mm [(Wc4.heap.size, 39, #[.bool g5, .slice A5 n5 c5, .bool h5, .slice B5 k5 d5]), (Wc3.heap.size, 39, #[.bool gc3', .slice Ac3' nc3' cc3', .bool hc3', .slice Bc3' kc3' dc3']), (Wh5.heap.size, 39, #[.bool false, .slice none 0 0, .bool false, .slice none 0 0]), (Wh4.heap.size, 39, #[.bool g9, .slice A9 n9 c9, .bool h9, .slice B9 k9 d9]), (Wh3.heap.size, 31, #[.slice F nf cf, .slice D 0 df, .slice E 0 ef, .slice G 0 gf, .bool false]), (w.heap.size, 26, #[.int .i64 nf, .slice A n c, .int .i64 pen, .slice B 0 d, .slice C 0 e])] ∧ Hid (FracC mm (.agg #[.bool g5, .slice A5 n5 c5, .bool h5, .slice B5 k5 d5]) (bsum pen fs rs k)) ∧ Ext mc4 mm) (fun i _ => n - (intOf i).toNat)
  case atStart =>
    refine ⟨0, _, _, _, _, _, _, _, _, _, Nat.zero_le _, rfl, hL, ?_, ?_⟩
    · exact hz4.out.le leX
    · assumption
  case round =>
    clear hL hz4
    obtain ⟨k, mm, g5, h5, A5, B5, n5, c5, k5, d5, hk, rfl, hL, hs, hX⟩ := hrel
    have hM := hL.mext
    by_cases hlt : k < n
    · obtain ⟨r, hx⟩ := at_some HN hlt
      obtain ⟨x1, x2, -⟩ := HA.out k r hx
      obtain ⟨j, rfl⟩ : ∃ j : Nat, r = (j : Int) := ⟨r.toNat, by omega⟩
      have hj : j < nf := by omega
      obtain ⟨p, hp⟩ := at_some HF hj
      obtain ⟨b1, o1, hA1, hc1⟩ := IntL.at_ hr hx
      obtain ⟨b2, o2, g2, A2, n2, c2, h2, B2, k2, d2, hA2, hp2, hr2⟩ := SFL.at_ hfs hp
      replace hA1 := Lib.hid hA1
      replace hA2 := Lib.hid hA2
      have S1 : Hid (Sm p.1 p.2) := (HS.out p (List.mem_of_getElem? hp)).1
      have S2 : Hid (Sm (minS p (pen, 1)).1 (minS p (pen, 1)).2) := (HS.out p (List.mem_of_getElem? hp)).2
      have S3 : Hid (Sm pen 1) := ⟨Hpen.out, by decide⟩
      have S4 : Hid (Sm (bsum pen fs rs k).num (bsum pen fs rs k).den) := HP.out k hk
      have HB : Hid (bsum pen fs rs (k + 1) = bsum pen fs rs k + vS (minS p (pen, 1))) := bsum_step hx (by simpa using hp)
      have hs1 := hs.out
      replace hp3 := hp3.le hX.le
      clear hx hp x1 x2 hs KV KP KW KN HS HP
      go_upto_region 24 with ((first | ((with_reducible refine kAny ?_); go_skip) | ((first | refine tIx ?_ | refine tFd ?_ | refine tLd ?_ | ((first | refine tSr ?_ | refine tSt ?_); clear hL; intro _ hL; simp only [splice, zq1, zq2, zq3] at hL) | ((first | refine tBx ?_ | refine tAl ?_); clear hL; intro _ _ hL _)); simp only [Act.put, zq1, zq2, zq3])))
      (try simp only [eq_self] at *)
      refine wp_region_by2 9 [false, false, false, false, false, false, false, false, false] [false, false, false, false, false, false, false, false, false] [(fun v _ _ => v = ?c24_0), (fun v _ _ => v = ?c24_1), (fun v _ _ => v = ?c24_2), (fun v _ _ => v = ?c24_3), (fun v _ _ => v = ?c24_4), (fun v _ _ => v = ?c24_5), (fun v _ _ => v = ?c24_6), Of (fun um v => FracS um v (minS p (pen, 1)).1 (minS p (pen, 1)).2), Of (fun um v => FracC um v (bsum pen fs rs k + vS (minS p (pen, 1))))] hL.vw mixed [70, 71, 72, 73, 74, 75, 76, 77, 78] _ (by kernel_rfl) (fun vs => by simp only [lay, Act.put, zq1, zq2, zq3]; rfl) (by kernel_rfl) (by decide) (by decide) ?s24 ?l24 ?r24
      case s24 =>
        refine ⟨?_, ?_, ?_, ?_, ?_, ?_, ?_, ?_, ?_, trivial⟩
        · intro vs W1 m1 hE hM hV hD; clear hD; replace hL := hL.call hE hM hV
          exact sLd
        · intro vs W1 m1 hE hM hV hD; clear hD; replace hL := hL.call hE hM hV
          exact sFd
        · intro vs W1 m1 hE hM hV hD; obtain ⟨⟨_, _, -, -, f71⟩, -⟩ := hD; have f71 : vs 71 = _ := f71; generalize vs 71 = x71 at f71 ⊢; subst x71; replace hL := hL.call hE hM hV
          exact sLd
        · intro vs W1 m1 hE hM hV hD; clear hD; replace hL := hL.call hE hM hV
          exact sPu
        · intro vs W1 m1 hE hM hV hD; obtain ⟨⟨_, _, -, -, f72⟩, ⟨_, _, -, -, f73⟩, -⟩ := hD; have f72 : vs 72 = _ := f72; generalize vs 72 = x72 at f72 ⊢; subst x72; have f73 : vs 73 = _ := f73; generalize vs 73 = x73 at f73 ⊢; subst x73; replace hL := hL.call hE hM hV
          exact sIx
        · intro vs W1 m1 hE hM hV hD; obtain ⟨⟨_, _, -, -, f74⟩, -⟩ := hD; have f74 : vs 74 = _ := f74; generalize vs 74 = x74 at f74 ⊢; subst x74; replace hL := hL.call hE hM hV
          exact sLd
        · intro vs W1 m1 hE hM hV hD; clear hD; replace hL := hL.call hE hM hV
          exact sLd
        · intro vs W1 m1 hE hM hV hD; obtain ⟨⟨_, _, -, -, f75⟩, ⟨_, _, -, -, f76⟩, -⟩ := hD; have f75 : vs 75 = _ := f75; generalize vs 75 = x75 at f75 ⊢; subst x75; have f76 : vs 76 = _ := f76; generalize vs 76 = x76 at f76 ⊢; subst x76
          go_wp2_with fail
          refine (l_smallerS _ _ p (pen, 1) _ _ hV (hp2.le leX) (hp3.le leX) S1.out S3.out).mono ?_
          rintro e W2 ⟨v, m2, rfl, hE2, hM2, hV2, h⟩
          go_wp2_with fail
          refine One2.call hE2 hM2 hV2 ?_; first | exact h | exact rfl
        · intro vs W1 m1 hE hM hV hD; obtain ⟨⟨_, _, -, -, f70⟩, ⟨_, _, -, i77, f77⟩, -, -⟩ := hD; have f70 : vs 70 = _ := f70; generalize vs 70 = x70 at f70 ⊢; subst x70; have f77 : FracS _ (vs 77) (minS p (pen, 1)).1 (minS p (pen, 1)).2 := f77; replace f77 := f77.le i77.le; clear i77
          go_wp2_with fail
          refine (q_AddS _ _ (bsum pen fs rs k) (minS p (pen, 1)) _ _ hV (hs1.le leX) f77 S4.out S2.out).mono ?_
          rintro e W2 ⟨v, m2, rfl, hE2, hM2, hV2, h⟩
          go_wp2_with fail
          refine One2.call hE2 hM2 hV2 ?_; first | exact h | exact rfl
      case l24 =>
        refine ⟨fun h => (by cases h), fun h => (by cases h), fun h => (by cases h), fun h => (by cases h), fun h => (by cases h), fun h => (by cases h), fun h => (by cases h), fun h => (by cases h), fun h => (by cases h), trivial⟩
      intro vs W1 m1 hE hM hV hF hD
      clear hD
      obtain ⟨-, -, -, -, -, -, -, ⟨_, _, -, i77, f77⟩, ⟨_, _, -, i78, f78⟩, -⟩ := hF
      replace hL := hL.call hE hM hV
      replace f77 : FracS _ (vs 77) (minS p (pen, 1)).1 (minS p (pen, 1)).2 := f77
      replace f77 := f77.le i77.le
      clear i77
      replace f78 : FracC _ (vs 78) (bsum pen fs rs k + vS (minS p (pen, 1))) := f78
      replace f78 := f78.le i78.le
      clear i78
      obtain ⟨g78, A78, n78, c78, h78, B78, k78, d78, e78, f78⟩ := f78.lit
      generalize vs 78 = x78 at e78 ⊢
      subst x78
      clear hE hV
      simp only [List.drop_succ_cons, List.drop_zero]
      go_wp2_with (first | ((with_reducible refine kAny ?_); go_skip) | ((first | refine tIx ?_ | refine tFd ?_ | refine tLd ?_ | ((first | refine tSr ?_ | refine tSt ?_); clear hL; intro _ hL; simp only [splice, zq1, zq2, zq3] at hL) | ((first | refine tBx ?_ | refine tAl ?_); clear hL; intro _ _ hL _)); simp only [Act.put, zq1, zq2, zq3]))
      refine QN.mk ?_
      go_wp2_with (first | ((with_reducible refine kAny ?_); go_skip) | ((first | refine tIx ?_ | refine tFd ?_ | refine tLd ?_ | ((first | refine tSr ?_ | refine tSt ?_); clear hL; intro _ hL; simp only [splice, zq1, zq2, zq3] at hL) | ((first | refine tBx ?_ | refine tAl ?_); clear hL; intro _ _ hL _)); simp only [Act.put, zq1, zq2, zq3]))
      go_roundw
      case rel =>
        refine ⟨k + 1, _, _, _, _, _, _, _, _, _, by omega, by go_num, hL, ?_, exX⟩
        rw [← HB.out] at f78
        exact f78
      case measure => simp [intOf] <;> omega
    · have hkn : Hid (k = n) := by show _ = _; omega
      have hs1 := hs.out
      have S4 : Hid (Sm (bsum pen fs rs k).num (bsum pen fs rs k).den) := HP.out k hk
      have hlv2 := hlv.le hM.le
      have S5 : Hid (Sm ((n : Int) : Rat).num ((n : Int) : Rat).den) := ⟨by simp; omega, by simp⟩
      clear hX hs KV KP KW HS HP
      go_wp2_with (first | ((with_reducible refine kAny ?_); go_skip) | ((first | refine tIx ?_ | refine tFd ?_ | refine tLd ?_ | ((first | refine tSr ?_ | refine tSt ?_); clear hL; intro _ hL; simp only [splice, zq1, zq2, zq3] at hL) | ((first | refine tBx ?_ | refine tAl ?_); clear hL; intro _ _ hL _)); simp only [Act.put, zq1, zq2, zq3]))
      refine wp_loop_once ?_
      go_upto_region 31 with ((first | ((with_reducible refine kAny ?_); go_skip) | ((first | refine tIx ?_ | refine tFd ?_ | refine tLd ?_ | ((first | refine tSr ?_ | refine tSt ?_); clear hL; intro _ hL; simp only [splice, zq1, zq2, zq3] at hL) | ((first | refine tBx ?_ | refine tAl ?_); clear hL; intro _ _ hL _)); simp only [Act.put, zq1, zq2, zq3])))
      (try simp only [eq_self] at *)
      refine wp_region_by2 10 [false, false, false, false, false, false, false, false, false, false] [false, false, false, false, false, false, false, false, false, false] [(fun v _ _ => v = ?c31_0), (fun v _ _ => v = ?c31_1), (fun v _ _ => v = ?c31_2), (fun v _ _ => v = ?c31_3), Of (fun um v => FracC um v ((n : Int) : Rat)), (fun v _ _ => v = ?c31_5), Of (fun um v => FracC um v ((0 : Int) : Rat)), Of (fun um v => FracS um v (minS lp (0, 1)).1 (minS lp (0, 1)).2), Of (fun um v => FracC um v (((n : Int) : Rat) * vS (minS lp (0, 1)))), Of (fun um v => FracC um v (bsum pen fs rs k + ((n : Int) : Rat) * vS (minS lp (0, 1))))] hL.vw mixed [104, 105, 106, 107, 108, 109, 110, 111, 112, 113] _ (by kernel_rfl) (fun vs => by simp only [lay, Act.put, zq1, zq2, zq3]; rfl) (by kernel_rfl) (by decide) (by decide) ?s31 ?l31 ?r31
      case s31 =>
        refine ⟨?_, ?_, ?_, ?_, ?_, ?_, ?_, ?_, ?_, ?_, trivial⟩
        · intro vs W1 m1 hE hM hV hD; clear hD; replace hL := hL.call hE hM hV
          exact sLd
        · intro vs W1 m1 hE hM hV hD; clear hD; replace hL := hL.call hE hM hV
          exact sFd
        · intro vs W1 m1 hE hM hV hD; obtain ⟨⟨_, _, -, -, f105⟩, -⟩ := hD; have f105 : vs 105 = _ := f105; generalize vs 105 = x105 at f105 ⊢; subst x105; replace hL := hL.call hE hM hV
          exact sLd
        · intro vs W1 m1 hE hM hV hD; obtain ⟨⟨_, _, -, -, f106⟩, -⟩ := hD; have f106 : vs 106 = _ := f106; generalize vs 106 = x106 at f106 ⊢; subst x106; replace hL := hL.call hE hM hV
          go_wp2_with (first | ((with_reducible refine kAny ?_); go_skip) | ((first | refine tIx ?_ | refine tFd ?_ | refine tLd ?_ | ((first | refine tSr ?_ | refine tSt ?_); clear hL; intro _ hL; simp only [splice, zq1, zq2, zq3] at hL) | ((first | refine tBx ?_ | refine tAl ?_); clear hL; intro _ _ hL _)); simp only [Act.put, zq1, zq2, zq3]))
          refine One2.still hV ?_; exact rfl
        · intro vs W1 m1 hE hM hV hD; obtain ⟨⟨_, _, -, -, f107⟩, -⟩ := hD; have f107 : vs 107 = _ := f107; generalize vs 107 = x107 at f107 ⊢; subst x107
          go_wp2_with fail
          refine (KN.out _ _ hV).mono ?_
          rintro e W2 ⟨v, m2, rfl, hE2, hM2, hV2, h⟩
          go_wp2_with fail
          refine One2.call hE2 hM2 hV2 ?_; first | exact h | exact rfl
        · intro vs W1 m1 hE hM hV hD; clear hD; replace hL := hL.call hE hM hV
          exact sLd
        · intro vs W1 m1 hE hM hV hD; clear hD
          go_wp2_with fail
          refine (l_whole 0 _ _ hV (by decide)).mono ?_
          rintro e W2 ⟨v, m2, rfl, hE2, hM2, hV2, h⟩
          go_wp2_with fail
          refine One2.call hE2 hM2 hV2 ?_; first | exact h | exact rfl
        · intro vs W1 m1 hE hM hV hD; obtain ⟨⟨_, _, -, -, f109⟩, ⟨_, _, -, i110, f110⟩, -, -⟩ := hD; have f109 : vs 109 = _ := f109; generalize vs 109 = x109 at f109 ⊢; subst x109; have f110 : FracC _ (vs 110) ((0 : Int) : Rat) := f110; replace f110 := f110.le i110.le; clear i110
          go_wp2_with fail
          refine (l_smallerS _ _ lp (0, 1) _ _ hV (hlv2.le leX) (toSI f110 (by decide)) H1.out ⟨by decide, by decide⟩).mono ?_
          rintro e W2 ⟨v, m2, rfl, hE2, hM2, hV2, h⟩
          go_wp2_with fail
          refine One2.call hE2 hM2 hV2 ?_; first | exact h | exact rfl
        · intro vs W1 m1 hE hM hV hD; obtain ⟨⟨_, _, -, i108, f108⟩, ⟨_, _, -, i111, f111⟩, -, -⟩ := hD; have f108 : FracC _ (vs 108) ((n : Int) : Rat) := f108; replace f108 := f108.le i108.le; clear i108; have f111 : FracS _ (vs 111) (minS lp (0, 1)).1 (minS lp (0, 1)).2 := f111; replace f111 := f111.le i111.le; clear i111
          go_wp2_with fail
          refine (q_MulS _ _ ((n : Int) : Rat) (minS lp (0, 1)) _ _ hV f108 f111 S5.out H2.out).mono ?_
          rintro e W2 ⟨v, m2, rfl, hE2, hM2, hV2, h⟩
          go_wp2_with fail
          refine One2.call hE2 hM2 hV2 ?_; first | exact h | exact rfl
        · intro vs W1 m1 hE hM hV hD; obtain ⟨⟨_, _, -, -, f104⟩, ⟨_, _, -, i112, f112⟩, -, -⟩ := hD; have f104 : vs 104 = _ := f104; generalize vs 104 = x104 at f104 ⊢; subst x104; have f112 : FracC _ (vs 112) (((n : Int) : Rat) * vS (minS lp (0, 1))) := f112; replace f112 := f112.le i112.le; clear i112
          go_wp2_with fail
          refine (q_AddC _ _ (bsum pen fs rs k) (((n : Int) : Rat) * vS (minS lp (0, 1))) _ _ hV (hs1.le leX) f112 S4.out H3.out).mono ?_
          rintro e W2 ⟨v, m2, rfl, hE2, hM2, hV2, h⟩
          go_wp2_with fail
          refine One2.call hE2 hM2 hV2 ?_; first | exact h | exact rfl
      case l31 =>
        refine ⟨fun h => (by cases h), fun h => (by cases h), fun h => (by cases h), fun h => (by cases h), fun h => (by cases h), fun h => (by cases h), fun h => (by cases h), fun h => (by cases h), fun h => (by cases h), fun h => (by cases h), trivial⟩
      intro vs W1 m1 hE hM hV hF hD
      clear hD
      obtain ⟨-, -, -, -, ⟨_, _, -, i108, f108⟩, -, ⟨_, _, -, i110, f110⟩, ⟨_, _, -, i111, f111⟩, ⟨_, _, -, i112, f112⟩, ⟨_, _, -, i113, f113⟩, -⟩ := hF
      replace hL := hL.call hE hM hV
      replace f108 : FracC _ (vs 108) ((n : Int) : Rat) := f108
      replace f108 := f108.le i108.le
      clear i108
      replace f110 : FracC _ (vs 110) ((0 : Int) : Rat) := f110
      replace f110 := f110.le i110.le
      clear i110
      replace f111 : FracS _ (vs 111) (minS lp (0, 1)).1 (minS lp (0, 1)).2 := f111
      replace f111 := f111.le i111.le
      clear i111
      replace f112 : FracC _ (vs 112) (((n : Int) : Rat) * vS (minS lp (0, 1))) := f112
      replace f112 := f112.le i112.le
      clear i112
      replace f113 : FracC _ (vs 113) (bsum pen fs rs k + ((n : Int) : Rat) * vS (minS lp (0, 1))) := f113
      replace f113 := f113.le i113.le
      clear i113
      obtain ⟨g113, A113, n113, c113, h113, B113, k113, d113, e113, f113⟩ := f113.lit
      generalize vs 113 = x113 at e113 ⊢
      subst x113
      clear hE hV
      simp only [List.drop_succ_cons, List.drop_zero]
      go_wp2_with (first | ((with_reducible refine kAny ?_); go_skip) | ((first | refine tIx ?_ | refine tFd ?_ | refine tLd ?_ | ((first | refine tSr ?_ | refine tSt ?_); clear hL; intro _ hL; simp only [splice, zq1, zq2, zq3] at hL) | ((first | refine tBx ?_ | refine tAl ?_); clear hL; intro _ _ hL _)); simp only [Act.put, zq1, zq2, zq3]))
      refine QN.mk ?_
      go_wp2_with (first | ((with_reducible refine kAny ?_); go_skip) | ((first | refine tIx ?_ | refine tFd ?_ | refine tLd ?_ | ((first | refine tSr ?_ | refine tSt ?_); clear hL; intro _ hL; simp only [splice, zq1, zq2, zq3] at hL) | ((first | refine tBx ?_ | refine tAl ?_); clear hL; intro _ _ hL _)); simp only [Act.put, zq1, zq2, zq3]))
      refine fin_aggT hL Tryz.results18 rfl rfl loX ag_Frac (by exact rfl) rfl (hL.sub (List.nil_sublist _)) ?_
      have hq : bsum pen fs rs n = bsum pen fs rs k := by rw [hkn.out]
      exact ⟨_, rfl, by rw [hq]; exact f113.le leX⟩
end Go.Proofs.YtmhkmmmompediaaGreat

/- Rows that are new and shown at once; closed values. -/
namespace Go.Proofs.YtmhkmmmompediaaGreat
open Go.RowKit

def BdR (m : World) (v : Value) (q : Rat) : Prop := ∃ r, v = .tuple #[r, .int .i64 0] ∧ FracC m r q
theorem BdR.le {m m' : World} {v : Value} {q : Rat} (h : BdR m v q) (hb : Le m m') : BdR m' v q := by
  obtain ⟨r, e, h⟩ := h
  exact ⟨r, e, h.le hb⟩
def kF1 : List SF := [(20, 1), (20, 1)]
def kF2 : List SF := [(0, 0), (0, 0)]
theorem kb10 : bsum 10 kF1 [0, 1] 0 = ((0 : Int) : Rat) := by kernel_rfl
theorem kb11 : bsum 10 kF1 [0, 1] 1 = ((10 : Int) : Rat) := by kernel_rfl
theorem kb12 : bsum 10 kF1 [0, 1] 2 = ((20 : Int) : Rat) := by kernel_rfl
theorem kb20 : bsum 10 kF2 [0, 1] 0 = ((0 : Int) : Rat) := by kernel_rfl
theorem kb21 : bsum 10 kF2 [0, 1] 1 = ((0 : Int) : Rat) := by kernel_rfl
theorem kb22 : bsum 10 kF2 [0, 1] 2 = ((0 : Int) : Rat) := by kernel_rfl
theorem kv1 : bsum 10 kF1 [0, 1] 2 + (((2 : Nat) : Int) : Rat) * vS (minS (3, 1) (0, 1)) = ((20 : Int) : Rat) := by kernel_rfl
theorem kv2 : bsum 10 kF2 [0, 1] 2 + (((2 : Nat) : Int) : Rat) * vS (minS (0, 1) (0, 1)) = ((0 : Int) : Rat) := by kernel_rfl
theorem km1 : (((2 : Nat) : Int) : Rat) * vS (minS (3, 1) (0, 1)) = ((0 : Int) : Rat) := by kernel_rfl
theorem km2 : (((2 : Nat) : Int) : Rat) * vS (minS (0, 1) (0, 1)) = ((0 : Int) : Rat) := by kernel_rfl
theorem SmI (z : Int) (h : z.natAbs < 1073741824) : Sm ((z : Rat)).num ((z : Rat)).den := ⟨by simpa using h, by simp⟩
theorem kasc : Asc 2 [0, 1] := by
  intro k x hk
  match k, hk with
  | 0, hk => simp at hk; subst hk; exact ⟨by omega, by omega, fun y h => by omega⟩
  | 1, hk => simp at hk; subst hk; exact ⟨by omega, by omega, fun y _ hy => by simp at hy; omega⟩
  | k + 2, hk => simp at hk
theorem kcel : cel (Rat.divInt (-7) 2) = -3 := by kernel_rfl
end Go.Proofs.YtmhkmmmompediaaGreat

/- Contract of pairinglaw28.known. -/
namespace Go.Proofs.YtmhkmmmompediaaGreat
open Go.RowKit

def PrZ (m : World) (v : Value) : Prop := ∃ A c, v = .agg #[.slice A 2 c, .slice none 0 0, .slice none 0 0, .slice none 0 0, .bool false] ∧ SFL m (.slice A 2 c) kF2
theorem SFL.le {m m' : World} {v : Value} {ps : List SF} (h : SFL m v ps) (hb : Le m m') : SFL m' v ps := ListV.le (R := SFr) (fun _ _ _ _ h hb => FracS.le h hb) h hb
theorem PrZ.le {m m' : World} {v : Value} (h : PrZ m v) (hb : Le m m') : PrZ m' v := by
  obtain ⟨A, c, e, h⟩ := h
  exact ⟨A, c, e, SFL.le h hb⟩
theorem kz2 (m : World) (g : Nat) (hb : Blk m g 39 (madeCells #[.bool false, .slice none 0 0, .bool false, .slice none 0 0] (2 * 4))) : SFL m (.slice (some ⟨g, 0, none⟩) 2 2) kF2 :=
  ListV.mk (vs := [.agg #[.bool false, .slice none 0 0, .bool false, .slice none 0 0], .agg #[.bool false, .slice none 0 0, .bool false, .slice none 0 0]]) (by omega) rfl
    (fun u hu => by simp at hu; subst hu; rfl) (Blk.sl hb (n := 8) (by kernel_rfl)) ⟨frac0 m, frac0 m, trivial⟩
theorem kB1 (g n0 c0 : Nat) (F : Option Addr) (cf : Nat) (lv : Value) (w m : World) (hV : Vw m w) (hr : IntL m (.slice (some ⟨g, 0, none⟩) 2 2) [0, 1]) (hf : SFL m (.slice F 2 cf) kF1) (hl : FracC m lv ((3 : Int) : Rat)) :
    Calls Tryz.prog 18 #[.agg #[.int .i64 2, .slice (some ⟨g, 0, none⟩) 2 2, .int .i64 10, .slice none 0 0, .slice none 0 0], .agg #[.slice F 2 cf, .slice none 0 0, .slice none 0 0, .slice none 0 0, .bool false], lv] w
      (RetV w m fun m' r => BdR m' r ((20 : Int) : Rat)) := by
  have h := l_Bound0 (some ⟨g, 0, none⟩) none none F none none none 2 2 2 0 0 cf 0 0 0 10 [0, 1] kF1 lv (3, 1) w m hV hr hf (toSI hl (by decide)) (by omega) rfl rfl (by omega) (by omega) (by omega) (by omega) kasc
    (fun p hp => by simp [kF1] at hp; subst hp; exact ⟨⟨by decide, by decide⟩, ⟨by decide, by decide⟩⟩)
    (fun k hk => by
      match k, hk with
      | 0, _ => rw [kb10]; exact SmI 0 (by decide)
      | 1, _ => rw [kb11]; exact SmI 10 (by decide)
      | 2, _ => rw [kb12]; exact SmI 20 (by decide)
      | k + 3, h => omega)
    ⟨by decide, by decide⟩ ⟨by decide, by decide⟩ (by rw [km1]; exact SmI 0 (by decide))
  rw [kv1] at h
  exact h
theorem kB2 (g : Nat) (pv lv : Value) (w m : World) (hV : Vw m w) (hr : IntL m (.slice (some ⟨g, 0, none⟩) 2 2) [0, 1]) (hf : PrZ m pv) (hl : FracC m lv ((0 : Int) : Rat)) :
    Calls Tryz.prog 18 #[.agg #[.int .i64 2, .slice (some ⟨g, 0, none⟩) 2 2, .int .i64 10, .slice none 0 0, .slice none 0 0], pv, lv] w
      (RetV w m fun m' r => BdR m' r ((0 : Int) : Rat)) := by
  obtain ⟨F, cf, rfl, hf⟩ := hf
  have h := l_Bound0 (some ⟨g, 0, none⟩) none none F none none none 2 2 2 0 0 cf 0 0 0 10 [0, 1] kF2 lv (0, 1) w m hV hr hf (toSI hl (by decide)) (by omega) rfl rfl (by omega) (by omega) (by omega) (by omega) kasc
    (fun p hp => by simp [kF2] at hp; subst hp; exact ⟨⟨by decide, by decide⟩, ⟨by decide, by decide⟩⟩)
    (fun k hk => by
      match k, hk with
      | 0, _ => rw [kb20]; exact SmI 0 (by decide)
      | 1, _ => rw [kb21]; exact SmI 0 (by decide)
      | 2, _ => rw [kb22]; exact SmI 0 (by decide)
      | k + 3, h => omega)
    ⟨by decide, by decide⟩ ⟨by decide, by decide⟩ (by rw [km2]; exact SmI 0 (by decide))
  rw [kv2] at h
  exact h
theorem kCeil (v : Value) (w m : World) (hV : Vw m w) (h : FracC m v (Rat.divInt (-7) 2)) : Calls Tryz.prog 26 #[v] w (RetV w m fun _ r => r = .tuple #[.int .i64 (-3), .int .i64 0]) := by
  have e1 : (Rat.divInt (-7) 2).num = -7 := by kernel_rfl
  have e2 : (Rat.divInt (-7) 2).den = 2 := by kernel_rfl
  have := l_CeilInt v (Rat.divInt (-7) 2) w m hV h (by rw [e1]; decide) (by rw [e2]; decide) (.inl (by rw [e1]; decide)) (by rw [kcel]; decide) (by rw [kcel]; decide)
  rwa [kcel] at this
theorem kFit (z : Int) (h : z.natAbs ≤ 1000) : Fit 1000 (z : Rat) := ((Tn.int (k := 1000) h (by decide)).fit (by decide)).mono (by decide)

set_option maxRecDepth 100000 in
set_option maxHeartbeats 16000000 in
theorem k_known (w m : World) (hV : Vw m w) : Calls Tryz.prog 22 #[] w (RetV w m fun _ r => r = .bool true) := by
  have hL := Loc.start hV
  clear hV
  go_enter Tryz.func22, Tryz.ntmps22
  go_upto_region 1 with ((first | ((with_reducible refine kAny ?_); go_skip) | ((first | refine tLd ?_ | ((first | refine tSr ?_ | refine tSt ?_); clear hL; intro _ hL; simp only [splice, zq1, zq2, zq3] at hL) | (refine tAl ?_; clear hL; intro _ _ hL _)); simp only [Act.put, zq1, zq2, zq3])))
  refine wp_region_lit ?_
  refine wl_bslice hL (wanted_none rfl) rfl (n := 2) (cs := #[.int .i64 0, .int .i64 1]) (e := 3) (fun w => by go_simp) ?_
  clear hL
  intro Wa ma hL ea hba
  simp only [Act.put, zq1, zq2, zq3]
  have hrows : IntL ma (.slice (some ⟨w.heap.size, 0, none⟩) 2 2) [0, 1] := ListV.mk (vs := [.int .i64 0, .int .i64 1]) (by omega) rfl (fun u hu => by simp at hu; rcases hu with rfl | rfl <;> rfl) (Blk.sl hba (n := 2) rfl) ⟨rfl, rfl, trivial⟩
  clear hba
  go_wp2_with (first | ((with_reducible refine kAny ?_); go_skip) | ((first | refine tLd ?_ | ((first | refine tSr ?_ | refine tSt ?_); clear hL; intro _ hL; simp only [splice, zq1, zq2, zq3] at hL) | (refine tAl ?_; clear hL; intro _ _ hL _)); simp only [Act.put, zq1, zq2, zq3]))
  refine (r_Int 20 _ _ hL.vw (by decide) (by decide)).mono ?_
  rintro e Wc1 ⟨vc1, mc1, rfl, hE, hMc1, hV, hc1⟩
  replace hL := hL.call hE (by assumption) hV; clear hE hV
  obtain ⟨gc1', Ac1', nc1', cc1', hc1', Bc1', kc1', dc1', rfl, hc1⟩ := hc1.lit
  go_wp2_with (first | ((with_reducible refine kAny ?_); go_skip) | ((first | refine tLd ?_ | ((first | refine tSr ?_ | refine tSt ?_); clear hL; intro _ hL; simp only [splice, zq1, zq2, zq3] at hL) | (refine tAl ?_; clear hL; intro _ _ hL _)); simp only [Act.put, zq1, zq2, zq3]))
  refine (r_Int 20 _ _ hL.vw (by decide) (by decide)).mono ?_
  rintro e Wc2 ⟨vc2, mc2, rfl, hE, hMc2, hV, hc2⟩
  replace hL := hL.call hE (by assumption) hV; clear hE hV
  obtain ⟨gc2', Ac2', nc2', cc2', hc2', Bc2', kc2', dc2', rfl, hc2⟩ := hc2.lit
  go_upto_region 3 with ((first | (refine wl_bslice hL (wanted_none rfl) rfl (n := 2) (cs := #[.bool gc1', .slice Ac1' nc1' cc1', .bool hc1', .slice Bc1' kc1' dc1', .bool gc2', .slice Ac2' nc2' cc2', .bool hc2', .slice Bc2' kc2' dc2']) (e := 39) (fun w => by go_simp) ?_; clear hL; intro Wb mb hL eb hbb; simp only [Act.put, zq1, zq2, zq3]) | (first | ((with_reducible refine kAny ?_); go_skip) | ((first | refine tLd ?_ | ((first | refine tSr ?_ | refine tSt ?_); clear hL; intro _ hL; simp only [splice, zq1, zq2, zq3] at hL) | (refine tAl ?_; clear hL; intro _ _ hL _)); simp only [Act.put, zq1, zq2, zq3]))))
  have hfs : SFL mb (.slice (some ⟨Wc2.heap.size, 0, none⟩) 2 2) kF1 := ListV.mk (vs := [.agg #[.bool gc1', .slice Ac1' nc1' cc1', .bool hc1', .slice Bc1' kc1' dc1'], .agg #[.bool gc2', .slice Ac2' nc2' cc2', .bool hc2', .slice Bc2' kc2' dc2']]) (by omega) rfl (fun u hu => by simp at hu; rcases hu with rfl | rfl <;> rfl) (Blk.sl hbb (n := 8) rfl) ⟨(toSI hc1 (by decide)).le leX, (toSI hc2 (by decide)).le leX, trivial⟩
  have hrb := IntL.le hrows (leX : Le ma mb)
  clear hrows hbb hc1 hc2
  obtain ⟨B, hB1, hB2, hB3⟩ := hL.bound
  refine wp_region_by2 8 [false, false, false, false, false, false, false, true] [false, false, false, false, false, false, true, false] [(fun v _ _ => v = ?c3_0), (fun v _ _ => v = ?c3_1), Of (fun um v => FracC um v ((3 : Int) : Rat)), Of (fun um v => BdR um v ((20 : Int) : Rat)), Of (fun um v => BdR um v ((20 : Int) : Rat)), Of (fun um v => FracC um v ((20 : Int) : Rat)), Is (.int .i64 0), NewBlk B 39 #[.bool false, .slice none 0 0, .bool false, .slice none 0 0]] hL.vw mixed [16, 17, 18, 19, 15, 20, 21, 3] _ (by kernel_rfl) (fun vs => by simp only [lay, Act.put, zq1, zq2, zq3]; rfl) (by kernel_rfl) (by decide) (by decide) ?s3 ?l3 ?r3
  case s3 =>
    refine ⟨?_, ?_, ?_, ?_, ?_, ?_, ?_, ?_, trivial⟩
    · intro vs W1 m1 hE hM hV hD; clear hD; replace hL := hL.call hE hM hV
      exact sLd
    · intro vs W1 m1 hE hM hV hD; clear hD; replace hL := hL.call hE hM hV
      exact sLd
    · intro vs W1 m1 hE hM hV hD; clear hD
      go_wp2_with fail
      refine (r_Int 3 _ _ hV (by decide) (by decide)).mono ?_
      rintro e W2 ⟨v, m2, rfl, hE2, hM2, hV2, h⟩
      go_wp2_with fail
      refine One2.call hE2 hM2 hV2 ?_; first | exact h | exact rfl
    · intro vs W1 m1 hE hM hV hD; obtain ⟨⟨_, _, -, -, f16⟩, ⟨_, _, -, -, f17⟩, ⟨_, _, -, i18, f18⟩, -, -⟩ := hD; have f16 : vs 16 = _ := f16; generalize vs 16 = x16 at f16 ⊢; subst x16; have f17 : vs 17 = _ := f17; generalize vs 17 = x17 at f17 ⊢; subst x17; have f18 : FracC _ (vs 18) ((3 : Int) : Rat) := f18; replace f18 := f18.le i18.le; clear i18
      go_wp2_with fail
      refine (kB1 _ 0 0 _ _ _ _ _ hV (IntL.le hrb leX) (SFL.le hfs leX) f18).mono ?_
      rintro e W2 ⟨v, m2, rfl, hE2, hM2, hV2, h⟩
      go_wp2_with fail
      refine One2.call hE2 hM2 hV2 ?_; first | exact h | exact rfl
    · intro vs W1 m1 hE hM hV hD; obtain ⟨⟨_, _, -, i19, f19⟩, -⟩ := hD; have f19 : BdR _ (vs 19) ((20 : Int) : Rat) := f19; replace f19 := f19.le i19.le; clear i19
      go_wp2_with fail
      refine One2.still hV ?_; exact f19
    · intro vs W1 m1 hE hM hV hD; obtain ⟨⟨_, _, -, i15, f15⟩, -⟩ := hD; have f15 : BdR _ (vs 15) ((20 : Int) : Rat) := f15; replace f15 := f15.le i15.le; clear i15; obtain ⟨r0, e15, k⟩ := f15; generalize vs 15 = x15 at e15 ⊢; subst x15; replace hL := hL.call hE hM hV
      go_wp2_with (first | ((with_reducible refine kAny ?_); go_skip) | ((first | refine tLd ?_ | ((first | refine tSr ?_ | refine tSt ?_); clear hL; intro _ hL; simp only [splice, zq1, zq2, zq3] at hL) | (refine tAl ?_; clear hL; intro _ _ hL _)); simp only [Act.put, zq1, zq2, zq3]))
      refine One2.still hV ?_; exact k
    · intro vs W1 m1 hE hM hV hD; obtain ⟨⟨_, _, -, i15, f15⟩, -, -⟩ := hD; have f15 : BdR _ (vs 15) ((20 : Int) : Rat) := f15; replace f15 := f15.le i15.le; clear i15; obtain ⟨r0, e15, k⟩ := f15; generalize vs 15 = x15 at e15 ⊢; subst x15; replace hL := hL.call hE hM hV
      go_wp2_with (first | ((with_reducible refine kAny ?_); go_skip) | ((first | refine tLd ?_ | ((first | refine tSr ?_ | refine tSt ?_); clear hL; intro _ hL; simp only [splice, zq1, zq2, zq3] at hL) | (refine tAl ?_; clear hL; intro _ _ hL _)); simp only [Act.put, zq1, zq2, zq3]))
      refine One2.still hV ?_; exact rfl
    · intro vs W1 m1 hE hM hV hD; clear hD
      exact one2_alloc hV (Nat.le_trans hB3 hE.size) rfl rfl rfl ZcC.h
  case l3 =>
    refine ⟨fun h => (by cases h), fun h => (by cases h), fun h => (by cases h), fun h => (by cases h), fun h => (by cases h), fun h => (by cases h), fun _ => ?_, fun h => (by cases h), trivial⟩
    · intro vs W1 m1 hE hM hV hD; obtain ⟨⟨_, _, -, i15, f15⟩, -, -⟩ := hD; have f15 : BdR _ (vs 15) ((20 : Int) : Rat) := f15; replace f15 := f15.le i15.le; clear i15; obtain ⟨r0, e15, k⟩ := f15; generalize vs 15 = x15 at e15 ⊢; subst x15
      exact ⟨_, Or.inl ⟨(by rfl), fun w => (by rfl)⟩, rfl⟩
  intro vs W1 m1 hE hM hV hF hD
  obtain ⟨-, -, ⟨_, _, -, i18, f18⟩, ⟨_, _, -, i19, f19⟩, ⟨_, _, -, i15, f15⟩, ⟨_, _, -, i20, f20⟩, ⟨_, _, -, -, f21⟩, ⟨_, _, j3, i3, f3⟩, -⟩ := hF
  replace hL := hL.call hE hM hV
  replace f18 : FracC _ (vs 18) ((3 : Int) : Rat) := f18
  replace f18 := f18.le i18.le
  clear i18
  replace f19 : BdR _ (vs 19) ((20 : Int) : Rat) := f19
  replace f19 := f19.le i19.le
  clear i19
  replace f15 : BdR _ (vs 15) ((20 : Int) : Rat) := f15
  replace f15 := f15.le i15.le
  clear i15
  replace f20 : FracC _ (vs 20) ((20 : Int) : Rat) := f20
  replace f20 := f20.le i20.le
  clear i20
  obtain ⟨g20, A20, n20, c20, h20, B20, k20, d20, e20, f20⟩ := f20.lit
  generalize vs 20 = x20 at e20 ⊢
  subst x20
  have f21 : vs 21 = _ := f21
  generalize vs 21 = x21 at f21 ⊢
  subst x21
  obtain ⟨b3, e3, hL⟩ := Loc.addB (Lt := []) hB1 hB2 hL f3 j3 i3 ad0
  simp only [e3, List.cons_append, List.nil_append] at hL ⊢
  clear e3 f3 j3 i3
  clear hB1 hB2 hB3 hD
  clear hE hV
  simp only [List.drop_succ_cons, List.drop_zero]
  go_wp2_with (first | ((with_reducible refine kAny ?_); go_skip) | ((first | refine tLd ?_ | ((first | refine tSr ?_ | refine tSt ?_); clear hL; intro _ hL; simp only [splice, zq1, zq2, zq3] at hL) | (refine tAl ?_; clear hL; intro _ _ hL _)); simp only [Act.put, zq1, zq2, zq3]))
  refine QN.mk ?_
  have h20 : FracC m1 _ ((20 : Int) : Rat) := f20
  clear f20
  have hrc := IntL.le hrb (leX : Le mb m1)
  go_upto_region 4 with ((first | ((with_reducible refine kAny ?_); go_skip) | ((first | refine tLd ?_ | ((first | refine tSr ?_ | refine tSt ?_); clear hL; intro _ hL; simp only [splice, zq1, zq2, zq3] at hL) | (refine tAl ?_; clear hL; intro _ _ hL _)); simp only [Act.put, zq1, zq2, zq3])))
  obtain ⟨B, hB1, hB2, hB3⟩ := hL.bound
  refine wp_region_by2 9 [false, false, false, false, false, false, false, false, true] [false, false, false, false, false, false, false, true, false] [(fun v _ _ => v = ?c4_0), Of (fun um v => SFL um v kF2), Of (fun um v => PrZ um v), Of (fun um v => FracC um v ((0 : Int) : Rat)), Of (fun um v => BdR um v ((0 : Int) : Rat)), Of (fun um v => BdR um v ((0 : Int) : Rat)), Of (fun um v => FracC um v ((0 : Int) : Rat)), Is (.int .i64 0), NewBlk B 39 #[.bool false, .slice none 0 0, .bool false, .slice none 0 0]] hL.vw mixed [23, 24, 25, 26, 27, 22, 28, 29, 5] _ (by kernel_rfl) (fun vs => by simp only [lay, Act.put, zq1, zq2, zq3]; rfl) (by kernel_rfl) (by decide) (by decide) ?s4 ?l4 ?r4
  case s4 =>
    refine ⟨?_, ?_, ?_, ?_, ?_, ?_, ?_, ?_, ?_, trivial⟩
    · intro vs W1 m1 hE hM hV hD; clear hD; replace hL := hL.call hE hM hV
      exact sLd
    · intro vs W1 m1 hE hM hV hD; clear hD
      (exact one2_makeV (b := 0) hV rfl rfl rfl ap_Fracs zc_Frac rfl (by omega) (by omega) (fun m' g _ hb => kz2 m' g hb))
    · intro vs W1 m1 hE hM hV hD; obtain ⟨⟨_, _, -, i24, f24⟩, -⟩ := hD; have f24 : SFL _ (vs 24) kF2 := f24; replace f24 := f24.le i24.le; clear i24
      (obtain ⟨A24, c24, e24, hc24, f24⟩ := f24.lit; generalize vs 24 = x24 at e24 ⊢; subst x24; go_wp2_with fail; refine One2.still hV ?_; exact ⟨_, _, rfl, f24⟩)
    · intro vs W1 m1 hE hM hV hD; clear hD
      go_wp2_with fail
      refine (r_Int 0 _ _ hV (by decide) (by decide)).mono ?_
      rintro e W2 ⟨v, m2, rfl, hE2, hM2, hV2, h⟩
      go_wp2_with fail
      refine One2.call hE2 hM2 hV2 ?_; first | exact h | exact rfl
    · intro vs W1 m1 hE hM hV hD; obtain ⟨⟨_, _, -, -, f23⟩, ⟨_, _, -, i25, f25⟩, ⟨_, _, -, i26, f26⟩, -, -⟩ := hD; have f23 : vs 23 = _ := f23; generalize vs 23 = x23 at f23 ⊢; subst x23; have f25 : PrZ _ (vs 25) := f25; replace f25 := f25.le i25.le; clear i25; have f26 : FracC _ (vs 26) ((0 : Int) : Rat) := f26; replace f26 := f26.le i26.le; clear i26
      go_wp2_with fail
      refine (kB2 _ _ _ _ _ hV (IntL.le hrc leX) f25 f26).mono ?_
      rintro e W2 ⟨v, m2, rfl, hE2, hM2, hV2, h⟩
      go_wp2_with fail
      refine One2.call hE2 hM2 hV2 ?_; first | exact h | exact rfl
    · intro vs W1 m1 hE hM hV hD; obtain ⟨⟨_, _, -, i27, f27⟩, -⟩ := hD; have f27 : BdR _ (vs 27) ((0 : Int) : Rat) := f27; replace f27 := f27.le i27.le; clear i27
      go_wp2_with fail
      refine One2.still hV ?_; exact f27
    · intro vs W1 m1 hE hM hV hD; obtain ⟨⟨_, _, -, i22, f22⟩, -⟩ := hD; have f22 : BdR _ (vs 22) ((0 : Int) : Rat) := f22; replace f22 := f22.le i22.le; clear i22; obtain ⟨r0, e22, k⟩ := f22; generalize vs 22 = x22 at e22 ⊢; subst x22; replace hL := hL.call hE hM hV
      go_wp2_with (first | ((with_reducible refine kAny ?_); go_skip) | ((first | refine tLd ?_ | ((first | refine tSr ?_ | refine tSt ?_); clear hL; intro _ hL; simp only [splice, zq1, zq2, zq3] at hL) | (refine tAl ?_; clear hL; intro _ _ hL _)); simp only [Act.put, zq1, zq2, zq3]))
      refine One2.still hV ?_; exact k
    · intro vs W1 m1 hE hM hV hD; obtain ⟨⟨_, _, -, i22, f22⟩, -, -⟩ := hD; have f22 : BdR _ (vs 22) ((0 : Int) : Rat) := f22; replace f22 := f22.le i22.le; clear i22; obtain ⟨r0, e22, k⟩ := f22; generalize vs 22 = x22 at e22 ⊢; subst x22; replace hL := hL.call hE hM hV
      go_wp2_with (first | ((with_reducible refine kAny ?_); go_skip) | ((first | refine tLd ?_ | ((first | refine tSr ?_ | refine tSt ?_); clear hL; intro _ hL; simp only [splice, zq1, zq2, zq3] at hL) | (refine tAl ?_; clear hL; intro _ _ hL _)); simp only [Act.put, zq1, zq2, zq3]))
      refine One2.still hV ?_; exact rfl
    · intro vs W1 m1 hE hM hV hD; clear hD
      exact one2_alloc hV (Nat.le_trans hB3 hE.size) rfl rfl rfl ZcC.h
  case l4 =>
    refine ⟨fun h => (by cases h), fun h => (by cases h), fun h => (by cases h), fun h => (by cases h), fun h => (by cases h), fun h => (by cases h), fun h => (by cases h), fun _ => ?_, fun h => (by cases h), trivial⟩
    · intro vs W1 m1 hE hM hV hD; obtain ⟨⟨_, _, -, i22, f22⟩, -, -⟩ := hD; have f22 : BdR _ (vs 22) ((0 : Int) : Rat) := f22; replace f22 := f22.le i22.le; clear i22; obtain ⟨r0, e22, k⟩ := f22; generalize vs 22 = x22 at e22 ⊢; subst x22
      exact ⟨_, Or.inl ⟨(by rfl), fun w => (by rfl)⟩, rfl⟩
  intro vs W1 m1 hE hM hV hF hD
  obtain ⟨-, ⟨_, _, -, i24, f24⟩, ⟨_, _, -, i25, f25⟩, ⟨_, _, -, i26, f26⟩, ⟨_, _, -, i27, f27⟩, ⟨_, _, -, i22, f22⟩, ⟨_, _, -, i28, f28⟩, ⟨_, _, -, -, f29⟩, ⟨_, _, j5, i5, f5⟩, -⟩ := hF
  replace hL := hL.call hE hM hV
  replace f24 : SFL _ (vs 24) kF2 := f24
  replace f24 := f24.le i24.le
  clear i24
  replace f25 : PrZ _ (vs 25) := f25
  replace f25 := f25.le i25.le
  clear i25
  replace f26 : FracC _ (vs 26) ((0 : Int) : Rat) := f26
  replace f26 := f26.le i26.le
  clear i26
  replace f27 : BdR _ (vs 27) ((0 : Int) : Rat) := f27
  replace f27 := f27.le i27.le
  clear i27
  replace f22 : BdR _ (vs 22) ((0 : Int) : Rat) := f22
  replace f22 := f22.le i22.le
  clear i22
  replace f28 : FracC _ (vs 28) ((0 : Int) : Rat) := f28
  replace f28 := f28.le i28.le
  clear i28
  obtain ⟨g28, A28, n28, c28, h28, B28, k28, d28, e28, f28⟩ := f28.lit
  generalize vs 28 = x28 at e28 ⊢
  subst x28
  have f29 : vs 29 = _ := f29
  generalize vs 29 = x29 at f29 ⊢
  subst x29
  obtain ⟨b5, e5, hL⟩ := Loc.addB (Lt := []) hB1 hB2 hL f5 j5 i5 ad0
  simp only [e5, List.cons_append, List.nil_append] at hL ⊢
  clear e5 f5 j5 i5
  clear hB1 hB2 hB3 hD
  clear hE hV
  simp only [List.drop_succ_cons, List.drop_zero]
  go_wp2_with (first | ((with_reducible refine kAny ?_); go_skip) | ((first | refine tLd ?_ | ((first | refine tSr ?_ | refine tSt ?_); clear hL; intro _ hL; simp only [splice, zq1, zq2, zq3] at hL) | (refine tAl ?_; clear hL; intro _ _ hL _)); simp only [Act.put, zq1, zq2, zq3]))
  refine QN.mk ?_
  have h28 : FracC m1 _ ((0 : Int) : Rat) := f28
  replace h20 : FracC m1 _ ((20 : Int) : Rat) := h20.le leX
  clear f28 f24 f25 f26 f27 hrc hrb hfs
  go_wp2_with (first | ((with_reducible refine kAny ?_); go_skip) | ((first | refine tLd ?_ | ((first | refine tSr ?_ | refine tSt ?_); clear hL; intro _ hL; simp only [splice, zq1, zq2, zq3] at hL) | (refine tAl ?_; clear hL; intro _ _ hL _)); simp only [Act.put, zq1, zq2, zq3]))
  refine (r_Int (-7) _ _ hL.vw (by decide) (by decide)).mono ?_
  rintro e Wc5 ⟨vc5, mc5, rfl, hE, hMc5, hV, hc5⟩
  replace hL := hL.call hE (by assumption) hV; clear hE hV
  obtain ⟨gc5', Ac5', nc5', cc5', hc5', Bc5', kc5', dc5', rfl, hc5⟩ := hc5.lit
  go_wp2_with (first | ((with_reducible refine kAny ?_); go_skip) | ((first | refine tLd ?_ | ((first | refine tSr ?_ | refine tSt ?_); clear hL; intro _ hL; simp only [splice, zq1, zq2, zq3] at hL) | (refine tAl ?_; clear hL; intro _ _ hL _)); simp only [Act.put, zq1, zq2, zq3]))
  refine (r_Int 2 _ _ hL.vw (by decide) (by decide)).mono ?_
  rintro e Wc6 ⟨vc6, mc6, rfl, hE, hMc6, hV, hc6⟩
  replace hL := hL.call hE (by assumption) hV; clear hE hV
  obtain ⟨gc6', Ac6', nc6', cc6', hc6', Bc6', kc6', dc6', rfl, hc6⟩ := hc6.lit
  go_wp2_with (first | ((with_reducible refine kAny ?_); go_skip) | ((first | refine tLd ?_ | ((first | refine tSr ?_ | refine tSt ?_); clear hL; intro _ hL; simp only [splice, zq1, zq2, zq3] at hL) | (refine tAl ?_; clear hL; intro _ _ hL _)); simp only [Act.put, zq1, zq2, zq3]))
  refine (r_DivC _ _ _ _ _ _ hL.vw (hc5.le leX) hc6 ((Tn.int (k := 1000) (by decide) (by decide)).fit (by decide)) ((Tn.int (k := 1000) (by decide) (by decide)).fit (by decide))).mono ?_
  rintro e Wc7 ⟨vc7, mc7, rfl, hE, hMc7, hV, hc7⟩
  replace hL := hL.call hE (by assumption) hV; clear hE hV
  obtain ⟨gc7', Ac7', nc7', cc7', hc7', Bc7', kc7', dc7', rfl, hc7⟩ := hc7.lit
  rw [div_mix] at hc7
  go_wp2_with (first | ((with_reducible refine kAny ?_); go_skip) | ((first | refine tLd ?_ | ((first | refine tSr ?_ | refine tSt ?_); clear hL; intro _ hL; simp only [splice, zq1, zq2, zq3] at hL) | (refine tAl ?_; clear hL; intro _ _ hL _)); simp only [Act.put, zq1, zq2, zq3]))
  refine (kCeil _ _ _ hL.vw hc7).mono ?_
  rintro e Wc8 ⟨_, mc8, rfl, hE, hMc8, hV, rfl⟩
  replace hL := hL.call hE (by assumption) hV; clear hE hV
  replace h20 : FracC mc8 _ ((20 : Int) : Rat) := h20.le leX
  replace h28 : FracC mc8 _ ((0 : Int) : Rat) := h28.le leX
  clear hc5 hc6 hc7
  go_upto_region 6 with ((first | ((with_reducible refine kAny ?_); go_skip) | ((first | refine tLd ?_ | ((first | refine tSr ?_ | refine tSt ?_); clear hL; intro _ hL; simp only [splice, zq1, zq2, zq3] at hL) | (refine tAl ?_; clear hL; intro _ _ hL _)); simp only [Act.put, zq1, zq2, zq3])))
  refine wp_region_by2 24 [false, false, false, false, false, false, false, false, false, false, false, false, false, false, false, false, false, false, false, false, false, false, false, false] [false, false, false, false, false, false, false, false, false, false, false, false, false, false, false, false, false, false, false, false, false, false, false, false] [(fun v _ _ => v = ?c6_0), (fun v _ _ => v = ?c6_1), (fun v _ _ => v = ?c6_2), (fun v _ _ => v = ?c6_3), (fun v _ _ => v = ?c6_4), (fun v _ _ => v = ?c6_5), (fun v _ _ => v = ?c6_6), (fun v _ _ => v = ?c6_7), (fun v _ _ => v = ?c6_8), (fun v _ _ => v = ?c6_9), (fun v _ _ => v = ?c6_10), (fun v _ _ => v = ?c6_11), (fun v _ _ => v = ?c6_12), (fun v _ _ => v = ?c6_13), (fun v _ _ => v = ?c6_14), (fun v _ _ => v = ?c6_15), Of (fun um v => FracC um v ((20 : Int) : Rat)), Is (.bool true), (fun v _ _ => v = ?c6_18), (fun v _ _ => v = ?c6_19), (fun v _ _ => v = ?c6_20), Of (fun um v => FracC um v ((0 : Int) : Rat)), Is (.bool true), (fun v _ _ => v = ?c6_23)] hL.vw mixed [37, 38, 39, 40, 41, 42, 43, 44, 45, 46, 47, 48, 49, 50, 51, 52, 53, 54, 55, 56, 57, 58, 59, 60] _ (by kernel_rfl) (fun vs => by simp only [lay, Act.put, zq1, zq2, zq3]; rfl) (by kernel_rfl) (by decide) (by decide) ?s6 ?l6 ?r6
  case s6 =>
    refine ⟨?_, ?_, ?_, ?_, ?_, ?_, ?_, ?_, ?_, ?_, ?_, ?_, ?_, ?_, ?_, ?_, ?_, ?_, ?_, ?_, ?_, ?_, ?_, ?_, trivial⟩
    · intro vs W1 m1 hE hM hV hD; clear hD; replace hL := hL.call hE hM hV
      exact sPu
    · intro vs W1 m1 hE hM hV hD; obtain ⟨⟨_, _, -, -, f37⟩, -⟩ := hD; have f37 : vs 37 = _ := f37; generalize vs 37 = x37 at f37 ⊢; subst x37; replace hL := hL.call hE hM hV
      exact sPu
    · intro vs W1 m1 hE hM hV hD; obtain ⟨⟨_, _, -, -, f38⟩, -⟩ := hD; have f38 : vs 38 = _ := f38; generalize vs 38 = x38 at f38 ⊢; subst x38; replace hL := hL.call hE hM hV
      exact sPu
    · intro vs W1 m1 hE hM hV hD; obtain ⟨⟨_, _, -, -, f39⟩, -⟩ := hD; have f39 : vs 39 = _ := f39; generalize vs 39 = x39 at f39 ⊢; subst x39; replace hL := hL.call hE hM hV
      exact sPu
    · intro vs W1 m1 hE hM hV hD; obtain ⟨⟨_, _, -, -, f40⟩, ⟨_, _, -, -, f39⟩, -⟩ := hD; have f40 : vs 40 = _ := f40; generalize vs 40 = x40 at f40 ⊢; subst x40; have f39 : vs 39 = _ := f39; generalize vs 39 = x39 at f39 ⊢; subst x39; replace hL := hL.call hE hM hV
      exact sPu
    · intro vs W1 m1 hE hM hV hD; obtain ⟨⟨_, _, -, -, f39⟩, ⟨_, _, -, -, f41⟩, -⟩ := hD; have f39 : vs 39 = _ := f39; generalize vs 39 = x39 at f39 ⊢; subst x39; have f41 : vs 41 = _ := f41; generalize vs 41 = x41 at f41 ⊢; subst x41; replace hL := hL.call hE hM hV
      exact sPu
    · intro vs W1 m1 hE hM hV hD; obtain ⟨⟨_, _, -, -, f42⟩, -, -⟩ := hD; have f42 : vs 42 = _ := f42; generalize vs 42 = x42 at f42 ⊢; subst x42; replace hL := hL.call hE hM hV
      exact sPu
    · intro vs W1 m1 hE hM hV hD; obtain ⟨⟨_, _, -, -, f43⟩, -⟩ := hD; have f43 : vs 43 = _ := f43; generalize vs 43 = x43 at f43 ⊢; subst x43; replace hL := hL.call hE hM hV
      exact sPu
    · intro vs W1 m1 hE hM hV hD; obtain ⟨⟨_, _, -, -, f44⟩, ⟨_, _, -, -, f43⟩, -⟩ := hD; have f44 : vs 44 = _ := f44; generalize vs 44 = x44 at f44 ⊢; subst x44; have f43 : vs 43 = _ := f43; generalize vs 43 = x43 at f43 ⊢; subst x43; replace hL := hL.call hE hM hV
      exact sPu
    · intro vs W1 m1 hE hM hV hD; obtain ⟨⟨_, _, -, -, f43⟩, ⟨_, _, -, -, f45⟩, -⟩ := hD; have f43 : vs 43 = _ := f43; generalize vs 43 = x43 at f43 ⊢; subst x43; have f45 : vs 45 = _ := f45; generalize vs 45 = x45 at f45 ⊢; subst x45; replace hL := hL.call hE hM hV
      exact sPu
    · intro vs W1 m1 hE hM hV hD; obtain ⟨⟨_, _, -, -, f46⟩, -, -⟩ := hD; have f46 : vs 46 = _ := f46; generalize vs 46 = x46 at f46 ⊢; subst x46; replace hL := hL.call hE hM hV
      exact sPu
    · intro vs W1 m1 hE hM hV hD; obtain ⟨⟨_, _, -, -, f47⟩, -⟩ := hD; have f47 : vs 47 = _ := f47; generalize vs 47 = x47 at f47 ⊢; subst x47; replace hL := hL.call hE hM hV
      exact sPu
    · intro vs W1 m1 hE hM hV hD; obtain ⟨⟨_, _, -, -, f48⟩, ⟨_, _, -, -, f47⟩, -⟩ := hD; have f48 : vs 48 = _ := f48; generalize vs 48 = x48 at f48 ⊢; subst x48; have f47 : vs 47 = _ := f47; generalize vs 47 = x47 at f47 ⊢; subst x47; replace hL := hL.call hE hM hV
      exact sPu
    · intro vs W1 m1 hE hM hV hD; obtain ⟨⟨_, _, -, -, f47⟩, ⟨_, _, -, -, f49⟩, -⟩ := hD; have f47 : vs 47 = _ := f47; generalize vs 47 = x47 at f47 ⊢; subst x47; have f49 : vs 49 = _ := f49; generalize vs 49 = x49 at f49 ⊢; subst x49; replace hL := hL.call hE hM hV
      exact sPu
    · intro vs W1 m1 hE hM hV hD; obtain ⟨⟨_, _, -, -, f50⟩, -, -⟩ := hD; have f50 : vs 50 = _ := f50; generalize vs 50 = x50 at f50 ⊢; subst x50; replace hL := hL.call hE hM hV
      exact sPu
    · intro vs W1 m1 hE hM hV hD; obtain ⟨⟨_, _, -, -, f51⟩, -⟩ := hD; have f51 : vs 51 = _ := f51; generalize vs 51 = x51 at f51 ⊢; subst x51; replace hL := hL.call hE hM hV
      exact sLd
    · intro vs W1 m1 hE hM hV hD; obtain ⟨⟨_, _, -, -, f51⟩, -, -⟩ := hD; have f51 : vs 51 = _ := f51; generalize vs 51 = x51 at f51 ⊢; subst x51
      go_wp2_with fail
      refine (r_Int 20 _ _ hV (by decide) (by decide)).mono ?_
      rintro e W2 ⟨v, m2, rfl, hE2, hM2, hV2, h⟩
      go_wp2_with fail
      refine One2.call hE2 hM2 hV2 ?_; first | exact h | exact rfl
    · intro vs W1 m1 hE hM hV hD; obtain ⟨⟨_, _, -, -, f52⟩, ⟨_, _, -, i53, f53⟩, -, ⟨_, _, -, -, f51⟩, -⟩ := hD; have f52 : vs 52 = _ := f52; generalize vs 52 = x52 at f52 ⊢; subst x52; have f51 : vs 51 = _ := f51; generalize vs 51 = x51 at f51 ⊢; subst x51; have f53 : FracC _ (vs 53) ((20 : Int) : Rat) := f53; replace f53 := f53.le i53.le; clear i53
      go_wp2_with fail
      refine (r_Same _ _ ((20 : Int) : Rat) _ _ hV (h20.le leX) f53 (kFit 20 (by decide))).mono ?_
      rintro e W2 ⟨v, m2, rfl, hE2, hM2, hV2, h⟩
      go_wp2_with fail
      refine One2.call hE2 hM2 hV2 ?_; first | exact h | exact rfl
    · intro vs W1 m1 hE hM hV hD; obtain ⟨⟨_, _, -, -, f51⟩, ⟨_, _, -, -, f54⟩, -⟩ := hD; have f51 : vs 51 = _ := f51; generalize vs 51 = x51 at f51 ⊢; subst x51; have f54 : vs 54 = _ := f54; generalize vs 54 = x54 at f54 ⊢; subst x54; replace hL := hL.call hE hM hV
      exact sPu
    · intro vs W1 m1 hE hM hV hD; obtain ⟨⟨_, _, -, -, f55⟩, -, -⟩ := hD; have f55 : vs 55 = _ := f55; generalize vs 55 = x55 at f55 ⊢; subst x55; replace hL := hL.call hE hM hV
      exact sPu
    · intro vs W1 m1 hE hM hV hD; obtain ⟨⟨_, _, -, -, f56⟩, -⟩ := hD; have f56 : vs 56 = _ := f56; generalize vs 56 = x56 at f56 ⊢; subst x56; replace hL := hL.call hE hM hV
      exact sLd
    · intro vs W1 m1 hE hM hV hD; obtain ⟨⟨_, _, -, -, f56⟩, -, -⟩ := hD; have f56 : vs 56 = _ := f56; generalize vs 56 = x56 at f56 ⊢; subst x56
      go_wp2_with fail
      refine (r_Int 0 _ _ hV (by decide) (by decide)).mono ?_
      rintro e W2 ⟨v, m2, rfl, hE2, hM2, hV2, h⟩
      go_wp2_with fail
      refine One2.call hE2 hM2 hV2 ?_; first | exact h | exact rfl
    · intro vs W1 m1 hE hM hV hD; obtain ⟨⟨_, _, -, -, f57⟩, ⟨_, _, -, i58, f58⟩, -, ⟨_, _, -, -, f56⟩, -⟩ := hD; have f57 : vs 57 = _ := f57; generalize vs 57 = x57 at f57 ⊢; subst x57; have f56 : vs 56 = _ := f56; generalize vs 56 = x56 at f56 ⊢; subst x56; have f58 : FracC _ (vs 58) ((0 : Int) : Rat) := f58; replace f58 := f58.le i58.le; clear i58
      go_wp2_with fail
      refine (r_Same _ _ ((0 : Int) : Rat) _ _ hV (h28.le leX) f58 (kFit 0 (by decide))).mono ?_
      rintro e W2 ⟨v, m2, rfl, hE2, hM2, hV2, h⟩
      go_wp2_with fail
      refine One2.call hE2 hM2 hV2 ?_; first | exact h | exact rfl
    · intro vs W1 m1 hE hM hV hD; obtain ⟨⟨_, _, -, -, f56⟩, ⟨_, _, -, -, f59⟩, -⟩ := hD; have f56 : vs 56 = _ := f56; generalize vs 56 = x56 at f56 ⊢; subst x56; have f59 : vs 59 = _ := f59; generalize vs 59 = x59 at f59 ⊢; subst x59; replace hL := hL.call hE hM hV
      exact sPu
  case l6 =>
    refine ⟨fun h => (by cases h), fun h => (by cases h), fun h => (by cases h), fun h => (by cases h), fun h => (by cases h), fun h => (by cases h), fun h => (by cases h), fun h => (by cases h), fun h => (by cases h), fun h => (by cases h), fun h => (by cases h), fun h => (by cases h), fun h => (by cases h), fun h => (by cases h), fun h => (by cases h), fun h => (by cases h), fun h => (by cases h), fun h => (by cases h), fun h => (by cases h), fun h => (by cases h), fun h => (by cases h), fun h => (by cases h), fun h => (by cases h), fun h => (by cases h), trivial⟩
  intro vs W1 m1 hE hM hV hF hD
  clear hD
  obtain ⟨-, -, -, -, -, -, -, -, -, -, -, -, -, -, -, -, ⟨_, _, -, i53, f53⟩, -, -, -, -, ⟨_, _, -, i58, f58⟩, -, ⟨_, _, -, -, f60⟩, -⟩ := hF
  replace hL := hL.call hE hM hV
  replace f53 : FracC _ (vs 53) ((20 : Int) : Rat) := f53
  replace f53 := f53.le i53.le
  clear i53
  replace f58 : FracC _ (vs 58) ((0 : Int) : Rat) := f58
  replace f58 := f58.le i58.le
  clear i58
  have f60 : vs 60 = _ := f60
  generalize vs 60 = x60 at f60 ⊢
  subst x60
  clear hE hV
  simp only [List.drop_succ_cons, List.drop_zero]
  go_wp2_with (first | ((with_reducible refine kAny ?_); go_skip) | ((first | refine tLd ?_ | ((first | refine tSr ?_ | refine tSt ?_); clear hL; intro _ hL; simp only [splice, zq1, zq2, zq3] at hL) | (refine tAl ?_; clear hL; intro _ _ hL _)); simp only [Act.put, zq1, zq2, zq3]))
  refine QN.mk ?_
  go_wp2_with (first | ((with_reducible refine kAny ?_); go_skip) | ((first | refine tLd ?_ | ((first | refine tSr ?_ | refine tSt ?_); clear hL; intro _ hL; simp only [splice, zq1, zq2, zq3] at hL) | (refine tAl ?_; clear hL; intro _ _ hL _)); simp only [Act.put, zq1, zq2, zq3]))
  go_ret
  exact RetV.mk hL rfl
end Go.Proofs.YtmhkmmmompediaaGreat

/- Facts on the types of columns; what pairingdata.Column builds. -/
namespace Go.Proofs.YtmhkmmmompediaaGreat
open Go.RowKit

theorem ap_Tasks : apS Tryz.prog 113 = some (111, 2, 16, 2) := by kernel_rfl
instance iC0_1 : ApC Tryz.prog 113 111 2 16 := ⟨ap_Tasks⟩
theorem ap_Duties : apS Tryz.prog 68 = some (113, 1, 24, 1) := by kernel_rfl
instance iC0_2 : ApC Tryz.prog 68 113 1 24 := ⟨ap_Duties⟩
theorem ap_intss : apS Tryz.prog 95 = some (22, 1, 24, 1) := by kernel_rfl
instance iC0_3 : ApC Tryz.prog 95 22 1 24 := ⟨ap_intss⟩
theorem ag_Task : agS Tryz.prog 111 = some 2 := by kernel_rfl
instance iC0_4 : AgC Tryz.prog 111 2 := ⟨ag_Task⟩
theorem zc_Col : zc Tryz.prog 72 = some #[.string ⟨#[]⟩, .slice none 0 0, .int .i64 0] := by kernel_rfl
instance iC0_5 : ZcC Tryz.prog 72 #[.string ⟨#[]⟩, .slice none 0 0, .int .i64 0] := ⟨zc_Col⟩

theorem i64_mask (n : Int) (j : Nat) (z : Int) (hz : (BitVec.ofInt 64 z).toNat = 2 ^ j - 1) (hj : j ≤ 16) : bits .and .i64 n z = n % 2 ^ j := by
  have key : (BitVec.ofInt 64 n &&& BitVec.ofInt 64 z).toNat = (n % ((2 ^ 64 : Nat) : Int)).toNat % 2 ^ j := by
    rw [BitVec.toNat_and, BitVec.toNat_ofInt, hz, Nat.and_two_pow_sub_one_eq_mod]
  show IntKind.i64.wrap ((BitVec.ofInt 64 n &&& BitVec.ofInt 64 z).toNat : Nat) = n % 2 ^ j
  have hp : (2 : Nat) ^ j ≤ 2 ^ 16 := Nat.pow_le_pow_right (by omega) hj
  have hd : (2 : Int) ^ j ∣ ((2 ^ 64 : Nat) : Int) := by
    refine ⟨2 ^ (64 - j), ?_⟩
    rw [← Int.pow_add, show j + (64 - j) = 64 by omega]; rfl
  have e : (((n % ((2 ^ 64 : Nat) : Int)).toNat % 2 ^ j : Nat) : Int) = n % 2 ^ j := by
    rw [Int.natCast_emod, Int.toNat_of_nonneg (Int.emod_nonneg _ (by decide))]
    have : ((2 ^ j : Nat) : Int) = 2 ^ j := by simp
    rw [this, Int.emod_emod_of_dvd _ hd]
  rw [key, e, IntKind.wrap_i64]
  have h0 : 0 ≤ n % 2 ^ j := Int.emod_nonneg _ (by have : (0 : Int) < 2 ^ j := Int.pow_pos (by decide); omega)
  have h1 : n % 2 ^ j < 2 ^ j := Int.emod_lt_of_pos _ (Int.pow_pos (by decide))
  have h2 : (2 : Int) ^ j ≤ 65536 := by
    have h3 : ((2 ^ j : Nat) : Int) ≤ ((65536 : Nat) : Int) := Int.ofNat_le.2 hp
    rwa [Int.natCast_pow] at h3
  omega
theorem i64_and1 (n : Int) : bits .and .i64 n 1 = n % 2 := i64_mask n 1 1 (by decide) (by decide)
theorem i64_and3 (n : Int) : bits .and .i64 n 7 = n % 8 := i64_mask n 3 7 (by decide) (by decide)
theorem i64_and2' (n : Int) : bits .and .i64 n 3 = n % 4 := i64_mask n 2 3 (by decide) (by decide)

theorem Loc.less {w0 m0 W m : World} {A B : List Lo} (h : Loc w0 m0 W m A) (hs : B.Sublist A) : Loc w0 m0 W m B :=
  ⟨h.size0, h.ext, h.mext, h.vw, fun y hy => h.low y (hs.subset hy), fun y hy => h.blk y (hs.subset hy), fun y hy => h.hid y (hs.subset hy), h.apart.sublist hs⟩
theorem fin_aggR {P : Program} {fn : Func} {R : World → Value → Prop} {w m W mm m' : World} {Ls Lt : List Lo} (hL : Loc w m W mm Ls) {p : Nat} {ty : TypeId} (hr : fn.results = #[.cell p ty]) {a : Act} (hdf : a.defers = []) {g : Nat}
    (hp : a.tmps.getD p undef = .pointer (some ⟨g, 0, none⟩)) {n : Nat} {t : TypeId} {cs : Array Value} (hn : Ls[n]? = some (g, t, cs)) {k : Nat} (hty : agS P ty = some k) (hk : cs.size = k) (hL' : Loc w m W m' Lt) (h : R m' (.agg cs)) :
    bodyPost P fn (RetV w m R) .ret a W := by
  subst hk
  obtain ⟨d, hu, hd, hi⟩ := ag_desc hty
  exact bodyPost_ret (results_cell_row hr _ _ g t cs (0, 0) d hp (hL.at_ hn) hu (by cases d <;> first | rfl | exact hd) hi) hdf (RetV.mk hL' h)
abbrev Task := Int × Bool
def TaskR (_ : World) (v : Value) (x : Task) : Prop := v = .agg #[.int .i64 x.1, .bool x.2]
abbrev DutL := ListV (α := Task) 2 TaskR
theorem TaskR.mono (m m' : World) (v : Value) (x : Task) (h : TaskR m v x) (_ : Le m m') : TaskR m' v x := h
theorem DutL.le {m m' : World} {v : Value} {xs : List Task} (h : DutL m v xs) (hb : Le m m') : DutL m' v xs := ListV.le TaskR.mono h hb
theorem DutL.mono (m m' : World) (v : Value) (x : List Task) (h : DutL m v x) (hb : Le m m') : DutL m' v x := DutL.le h hb
abbrev DutsL := ListV (α := List Task) 1 DutL
theorem DutsL.le {m m' : World} {v : Value} {xs : List (List Task)} (h : DutsL m v xs) (hb : Le m m') : DutsL m' v xs := ListV.le DutL.mono h hb
abbrev Col := ByteArray × List (List Task) × Int
def ColR (m : World) (v : Value) (x : Col) : Prop := ∃ s, v = .agg #[.string x.1, s, .int .i64 x.2.2] ∧ DutsL m s x.2.1
theorem ColR.le {m m' : World} {v : Value} {x : Col} (h : ColR m v x) (hb : Le m m') : ColR m' v x := by
  obtain ⟨s, e, h⟩ := h
  exact ⟨s, e, DutsL.le h hb⟩
theorem ColR.mono (m m' : World) (v : Value) (x : Col) (h : ColR m v x) (hb : Le m m') : ColR m' v x := h.le hb
abbrev ColL := ListV (α := Col) 3 ColR
theorem ColL.le {m m' : World} {v : Value} {xs : List Col} (h : ColL m v xs) (hb : Le m m') : ColL m' v xs := ListV.le ColR.mono h hb

structure CS where
  d : List Task
  l : List (List Task)
  s : Bool
def csBit (n : Int) (i : Nat) : Bool := decide (n / 2 ^ i % 2 = 1)
def csF (rs : List Int) (k : Int) (i : Nat) : Int := if k / 2 % 8 = 7 then rs.getD (rs.length - 1 - i) 0 else rs.getD i 0
def csStep (f : Int) (tk ct : Bool) (c : CS) : CS := if tk then (if ct then ⟨[], c.l ++ [c.d ++ [(f, false)]], true⟩ else ⟨c.d ++ [(f, false)], c.l, true⟩) else c
def csAt (rs : List Int) (n k : Int) : Nat → CS
  | 0 => ⟨if k % 2 = 1 then [(0, true)] else [], [], false⟩
  | i + 1 => csStep (csF rs k i) (csBit n i) (decide (k / 16 % 4 = 3)) (csAt rs n k i)
def csD (rs : List Int) (n k : Int) : List Task := if (csAt rs n k rs.length).s then (csAt rs n k rs.length).d else (csAt rs n k rs.length).d ++ [(rs.getD (n / 64 % rs.length).toNat 0, false)]
def csL (rs : List Int) (n k : Int) : List (List Task) := if 0 < (csD rs n k).length then (csAt rs n k rs.length).l ++ [csD rs n k] else (csAt rs n k rs.length).l
def colF (rs : List Int) (n k : Int) : Col := (⟨#[65, 65, 65]⟩, csL rs n k, n / 32 % 41 - 5)
theorem csAt_len (rs : List Int) (n k : Int) : ∀ i, (csAt rs n k i).d.length ≤ i + 1 ∧ (csAt rs n k i).l.length ≤ i
  | 0 => by simp [csAt]; split <;> simp
  | i + 1 => by
    have := csAt_len rs n k i
    simp only [csAt, csStep]
    split
    · split <;> simp <;> omega
    · omega
end Go.Proofs.YtmhkmmmompediaaGreat
