/- Part 3 of 7 of the proof: the law LagrangeSteps returns true for every input, and its arguments read as before; there is no condition. -/
import Derived.Laws.Bits128
import Derived.Laws.StructEq
import Derived.Test.YtmhkmmmompediaaGreatH2
set_option linter.unusedVariables false
set_option linter.unusedSimpArgs false
/- Contracts of package rational: smallWord, smallParts. -/
namespace Go.Proofs.YtmhkmmmompediaaGreat
open Go.RowKit

/-- An integer of at most one digit (which may be 0). -/
def IntS (m : World) (v : Value) (z : Int) : Prop := ∃ g A c ds, v = .agg #[.bool g, .slice A ds.length c] ∧ ds.length ≤ c ∧ Sl m A (ds.map U) ∧ Dg ds ∧ ds.length ≤ 1 ∧ z = sgn g (val ds)
theorem IntS.le {m m' : World} {v : Value} {z : Int} (h : IntS m v z) (hb : Le m m') : IntS m' v z := by
  obtain ⟨g, A, c, ds, e, hc, hs, r⟩ := h
  exact ⟨g, A, c, ds, e, hc, hs.le hb, r⟩
theorem IntS.toV {m : World} {v : Value} {z : Int} (h : IntS m v z) : IntV m v z := by
  obtain ⟨g, A, c, ds, e, hc, hs, hd, hl, hz⟩ := h
  exact ⟨g, A, c, ds, e, hc, hs, hd, by omega, hz⟩
theorem IntC.toS {m : World} {v : Value} {z : Int} (h : IntC m v z) (hz : z.natAbs < 4294967296) : IntS m v z := by
  obtain ⟨A, c, e, hc, hs⟩ := h
  refine ⟨_, A, c, digs z.natAbs, e, hc, hs, Dg_digs _, length_digs_le (k := 1) (by simpa using hz), ?_⟩
  rw [val_digs, sgn_canon]
theorem IntS.parts' {m : World} {a b : Value} {z : Int} (h : IntS m (.agg #[a, b]) z) : ∃ g A n c, a = .bool g ∧ b = .slice A n c := by
  obtain ⟨g, A, c, ds, e, _⟩ := h
  simp only [Value.agg.injEq, Array.mk.injEq, List.cons.injEq, and_true] at e
  exact ⟨_, _, _, _, e.1, e.2⟩

set_option maxRecDepth 100000 in
set_option maxHeartbeats 8000000 in
theorem q_smallWord (v : Value) (z : Int) (w m : World) (hV : Vw m w) (h : IntS m v z) (hz : z.natAbs < 2147483648) :
    Calls Tryz.prog 203 #[v] w (RetV w m fun _ r => r = .tuple #[.int .i64 z, .bool true]) := by
  obtain ⟨g, A, c, ds, rfl, hc, hs, hd, hl, rfl⟩ := h
  have hL := Loc.start hV
  match ds, hl with
  | [], _ =>
    have E : Hid (sgn g (val []) = 0) := by show _ = _; cases g <;> rfl
    rw [E.out]
    simp only [List.length_nil] at *
    clear hV hz hs hc hd E
    go_enter Tryz.func203, Tryz.ntmps203
    go_wp2_with (first | ((with_reducible refine kAny ?_); go_skip) | ((first | refine tLo ?_ | (refine tBx ?_; clear hL; intro _ _ hL _)); simp only [Act.put, zq1, zq2, zq3]))
    go_ret2
    exact RetV.mk hL rfl
  | [d], _ =>
    have hv : val [d] = d := by simp [val]
    rw [hv] at hz ⊢
    have hd1 : d < 2147483648 := by rw [sgn_natAbs] at hz; exact hz
    obtain ⟨b, off, rfl, hb, hcell⟩ := hs.dig (k := 0) (by simp)
    simp only [List.length_cons, List.length_nil, Nat.zero_add, List.getD_cons_zero, Nat.add_zero] at *
    have hw1 : IntKind.i64.wrap (d : Int) = (d : Int) := by rw [IntKind.wrap_i64]; omega
    have hw2 : IntKind.i64.wrap (-(d : Int)) = -(d : Int) := by rw [IntKind.wrap_i64]; omega
    have hlt : decide ((d : Int) < 2147483648) = true := by simp; omega
    clear hV hz hs hc hd hv hd1
    cases g
    · have e : Hid ((d : Int) = sgn false d) := rfl
      go_enter Tryz.func203, Tryz.ntmps203
      go_upto_region 1 with ((first | ((with_reducible refine kAny ?_); go_skip) | ((first | refine tLo ?_ | (refine tBx ?_; clear hL; intro _ _ hL _)); simp only [Act.put, zq1, zq2, zq3])))
      have hq := hL.vw.cell _ _ ((Ext.le (by assumption)).cell _ _ hcell)
      go_wp2_with (first | ((with_reducible refine kAny ?_); go_skip) | ((first | refine tLo ?_ | (refine tBx ?_; clear hL; intro _ _ hL _)); simp only [Act.put, zq1, zq2, zq3]))
      go_ret2
      exact RetV.mk hL (congrArg (fun t => Value.tuple #[.int .i64 t, .bool true]) e.out)
    · have e : Hid (-(d : Int) = sgn true d) := rfl
      go_enter Tryz.func203, Tryz.ntmps203
      go_upto_region 1 with ((first | ((with_reducible refine kAny ?_); go_skip) | ((first | refine tLo ?_ | (refine tBx ?_; clear hL; intro _ _ hL _)); simp only [Act.put, zq1, zq2, zq3])))
      have hq := hL.vw.cell _ _ ((Ext.le (by assumption)).cell _ _ hcell)
      go_wp2_with (first | ((with_reducible refine kAny ?_); go_skip) | ((first | refine tLo ?_ | (refine tBx ?_; clear hL; intro _ _ hL _)); simp only [Act.put, zq1, zq2, zq3]))
      go_ret2
      exact RetV.mk hL (congrArg (fun t => Value.tuple #[.int .i64 t, .bool true]) e.out)

/-- A fraction of two small numbers, each of at most one digit; the denominator may have any sign. -/
def FracS (m : World) (v : Value) (x y : Int) : Prop :=
  ∃ a b c d, v = .agg #[a, b, c, d] ∧ IntS m (.agg #[a, b]) x ∧ IntS m (.agg #[c, d]) y ∧ x.natAbs < 2147483648 ∧ y.natAbs < 2147483648
theorem FracS.le {m m' : World} {v : Value} {x y : Int} (h : FracS m v x y) (hb : Le m m') : FracS m' v x y := by
  obtain ⟨a, b, c, d, e, h1, h2, r⟩ := h
  exact ⟨a, b, c, d, e, h1.le hb, h2.le hb, r⟩
def pN (x y : Int) : Int := if y = 0 then 0 else if y < 0 then -x else x
def pD (y : Int) : Int := if y = 0 then 1 else if y < 0 then -y else y
theorem IntC.parts' {m : World} {a b : Value} {z : Int} (h : IntC m (.agg #[a, b]) z) : ∃ g A n c, a = .bool g ∧ b = .slice A n c := by
  obtain ⟨A, c, e, _⟩ := h
  simp only [Value.agg.injEq, Array.mk.injEq, List.cons.injEq, and_true] at e
  exact ⟨_, _, _, _, e.1, e.2⟩
theorem zc_words : zc Tryz.prog 152 = some #[.int .i64 0, .int .i64 0] := by kernel_rfl
instance iQ1_1 : ZcC Tryz.prog 152 #[.int .i64 0, .int .i64 0] := ⟨zc_words⟩
theorem ag_words : agS Tryz.prog 152 = some 2 := by kernel_rfl
instance iQ1_2 : AgC Tryz.prog 152 2 := ⟨ag_words⟩

set_option maxRecDepth 100000 in
set_option maxHeartbeats 8000000 in
theorem q_smallParts (v : Value) (x y : Int) (w m : World) (hV : Vw m w) (h : FracS m v x y) :
    Calls Tryz.prog 177 #[v] w (RetV w m fun _ r => r = .tuple #[.agg #[.int .i64 (pN x y), .int .i64 (pD y)], .bool true]) := by
  obtain ⟨_, _, _, _, rfl, hx, hy, lx, ly⟩ := h
  obtain ⟨g1, A1, n1, c1, rfl, rfl⟩ := hx.parts'
  obtain ⟨g2, A2, n2, c2, rfl, rfl⟩ := hy.parts'
  have hL := Loc.start hV
  clear hV
  go_enter Tryz.func177, Tryz.ntmps177
  go_wp2_with (first | ((with_reducible refine kAny ?_); go_skip) | ((first | refine tLo ?_ | (refine tSt ?_; clear hL; intro _ hL; simp only [splice, zq1, zq2, zq3] at hL) | (refine tBx ?_; clear hL; intro _ _ hL _) | (refine tAl ?_; clear hL; intro _ _ hL _)); simp only [Act.put, zq1, zq2, zq3]))
  refine (q_smallWord _ y _ _ hL.vw (hy.le leX) ly).mono ?_
  rintro e W1 ⟨_, m1, rfl, hE, hM1, hV, rfl⟩
  replace hL := hL.call hE (by assumption) hV; clear hE hV
  go_wp2_with (first | ((with_reducible refine kAny ?_); go_skip) | ((first | refine tLo ?_ | (refine tSt ?_; clear hL; intro _ hL; simp only [splice, zq1, zq2, zq3] at hL) | (refine tBx ?_; clear hL; intro _ _ hL _) | (refine tAl ?_; clear hL; intro _ _ hL _)); simp only [Act.put, zq1, zq2, zq3]))
  refine (q_smallWord _ x _ _ hL.vw (hx.le leX) lx).mono ?_
  rintro e W2 ⟨_, m2, rfl, hE, hM2, hV, rfl⟩
  replace hL := hL.call hE (by assumption) hV; clear hE hV
  by_cases h0 : y = 0
  · subst h0
    have E1 : Hid (pN x 0 = 0) := by show _ = _; simp [pN]
    have E2 : Hid (pD 0 = 1) := by show _ = _; simp [pD]
    go_wp2_with (first | ((with_reducible refine kAny ?_); go_skip) | ((first | refine tLo ?_ | (refine tSt ?_; clear hL; intro _ hL; simp only [splice, zq1, zq2, zq3] at hL) | (refine tBx ?_; clear hL; intro _ _ hL _) | (refine tAl ?_; clear hL; intro _ _ hL _)); simp only [Act.put, zq1, zq2, zq3]))
    obtain ⟨p1, p2, _⟩ := (hL.at_ lo0).facts2
    refine bodyPost_ret (v := .tuple #[.agg #[.int .i64 0, .int .i64 1], .bool true]) (by simp [results, Tryz.results177, go_sem, p1, p2]) rfl (RetV.mk hL ?_)
    rw [E1.out, E2.out]
  · have t0 : (y == 0) = false := by simp [h0]
    by_cases hn : y < 0
    · have E1 : Hid (pN x y = -x) := by show _ = _; simp [pN, h0, hn]
      have E2 : Hid (pD y = -y) := by show _ = _; simp [pD, h0, hn]
      have hw1 : IntKind.i64.wrap (-x) = -x := by rw [IntKind.wrap_i64]; omega
      have hw2 : IntKind.i64.wrap (-y) = -y := by rw [IntKind.wrap_i64]; omega
      go_wp2_with (first | ((with_reducible refine kAny ?_); go_skip) | ((first | refine tLo ?_ | (refine tSt ?_; clear hL; intro _ hL; simp only [splice, zq1, zq2, zq3] at hL) | (refine tBx ?_; clear hL; intro _ _ hL _) | (refine tAl ?_; clear hL; intro _ _ hL _)); simp only [Act.put, zq1, zq2, zq3]))
      obtain ⟨p1, p2, _⟩ := (hL.at_ lo0).facts2
      refine bodyPost_ret (v := .tuple #[.agg #[.int .i64 (-x), .int .i64 (-y)], .bool true]) (by simp [results, Tryz.results177, go_sem, p1, p2]) rfl (RetV.mk hL ?_)
      rw [E1.out, E2.out]
    · have E1 : Hid (pN x y = x) := by show _ = _; simp [pN, h0, hn]
      have E2 : Hid (pD y = y) := by show _ = _; simp [pD, h0, hn]
      go_wp2_with (first | ((with_reducible refine kAny ?_); go_skip) | ((first | refine tLo ?_ | (refine tSt ?_; clear hL; intro _ hL; simp only [splice, zq1, zq2, zq3] at hL) | (refine tBx ?_; clear hL; intro _ _ hL _) | (refine tAl ?_; clear hL; intro _ _ hL _)); simp only [Act.put, zq1, zq2, zq3]))
      obtain ⟨p1, p2, _⟩ := (hL.at_ lo0).facts2
      refine bodyPost_ret (v := .tuple #[.agg #[.int .i64 x, .int .i64 y], .bool true]) (by simp [results, Tryz.results177, go_sem, p1, p2]) rfl (RetV.mk hL ?_)
      rw [E1.out, E2.out]
end Go.Proofs.YtmhkmmmompediaaGreat

/- Contracts of package rational: small, fromWords. -/
namespace Go.Proofs.YtmhkmmmompediaaGreat
open Go.RowKit

set_option maxRecDepth 100000 in
set_option maxHeartbeats 8000000 in
theorem q_small (a b : Value) (x y x' y' : Int) (w m : World) (hV : Vw m w) (ha : FracS m a x y) (hb : FracS m b x' y') :
    Calls Tryz.prog 133 #[a, b] w (RetV w m fun _ r => r = .tuple #[.agg #[.int .i64 (pN x y), .int .i64 (pD y)], .agg #[.int .i64 (pN x' y'), .int .i64 (pD y')], .bool true]) := by
  have ha' := ha
  have hb' := hb
  obtain ⟨_, _, _, _, rfl, h1, h2, -, -⟩ := ha'
  obtain ⟨g1, A1, n1, c1, rfl, rfl⟩ := h1.parts'
  obtain ⟨g2, A2, n2, c2, rfl, rfl⟩ := h2.parts'
  obtain ⟨_, _, _, _, rfl, h3, h4, -, -⟩ := hb'
  obtain ⟨g3, A3, n3, c3, rfl, rfl⟩ := h3.parts'
  obtain ⟨g4, A4, n4, c4, rfl, rfl⟩ := h4.parts'
  have hL := Loc.start hV
  clear hV h1 h2 h3 h4
  go_enter Tryz.func133, Tryz.ntmps133
  go_upto_region 0 with (fail)
  refine wp_region_lit ?_
  refine t_box hL rfl rfl ?_; clear hL; intro W2 m2 hL e2; simp only [Act.put, zq1, zq2, zq3]
  refine t_box hL rfl rfl ?_; clear hL; intro W3 m3 hL e3; simp only [Act.put, zq1, zq2, zq3]
  refine t_alloc hL rfl ?_; clear hL; intro W4 m4 hL e4; simp only [Act.put, zq1, zq2, zq3]
  refine t_alloc hL rfl ?_; clear hL; intro W5 m5 hL e5; simp only [Act.put, zq1, zq2, zq3]
  go_wp2_with (first | ((with_reducible refine kAny ?_); go_skip) | ((first | refine tLo ?_ | (refine tSt ?_; clear hL; intro _ hL; simp only [splice, zq1, zq2, zq3] at hL) | (refine tBx ?_; clear hL; intro _ _ hL _) | (refine tAl ?_; clear hL; intro _ _ hL _)); simp only [Act.put, zq1, zq2, zq3]))
  refine (q_smallParts _ x y _ _ hL.vw (ha.le leX)).mono ?_
  rintro e W11 ⟨_, m11, rfl, hE, hM11, hV, rfl⟩
  replace hL := hL.call hE (by assumption) hV; clear hE hV
  go_wp2_with (first | ((with_reducible refine kAny ?_); go_skip) | ((first | refine tLo ?_ | (refine tSt ?_; clear hL; intro _ hL; simp only [splice, zq1, zq2, zq3] at hL) | (refine tBx ?_; clear hL; intro _ _ hL _) | (refine tAl ?_; clear hL; intro _ _ hL _)); simp only [Act.put, zq1, zq2, zq3]))
  refine (q_smallParts _ x' y' _ _ hL.vw (hb.le leX)).mono ?_
  rintro e W12 ⟨_, m12, rfl, hE, hM12, hV, rfl⟩
  replace hL := hL.call hE (by assumption) hV; clear hE hV
  go_upto_region 5 with ((first | ((with_reducible refine kAny ?_); go_skip) | ((first | refine tLo ?_ | (refine tSt ?_; clear hL; intro _ hL; simp only [splice, zq1, zq2, zq3] at hL) | (refine tBx ?_; clear hL; intro _ _ hL _) | (refine tAl ?_; clear hL; intro _ _ hL _)); simp only [Act.put, zq1, zq2, zq3])))
  have B0 := hL.at_ lo0
  have B1 := hL.at_ lo1
  obtain ⟨q1, q2, q3, q4⟩ := B0.facts2
  obtain ⟨q5, q6, q7, q8⟩ := B1.facts2
  obtain ⟨n1, n2⟩ := hL.ne lo0 lo1 (by omega)
  go_region_held3 (fun w' => w'.cell? ⟨W4.heap.size, 0, none⟩ = some (.int .i64 (pN x' y')) ∧ w'.cell? ⟨W4.heap.size, 1, none⟩ = some (.int .i64 (pD y')) ∧ w'.cell? ⟨W3.heap.size, 0, none⟩ = some (.int .i64 (pN x y)) ∧ w'.cell? ⟨W3.heap.size, 1, none⟩ = some (.int .i64 (pD y)))
    ((first
      | (have X1 := (B1.set2 (.int .i64 (pN x y)) (.int .i64 (pD y))).drew.facts2; have X0 := (B0.far2 n1 (.int .i64 (pN x y)) (.int .i64 (pD y))).drew.facts2; exact ⟨X0.1, X0.2.1, X1.1, X1.2.1⟩)
      | (have X1 := ((B1.set2 (.int .i64 (pN x y)) (.int .i64 (pD y))).far2 n2 (.int .i64 (pN x' y')) (.int .i64 (pD y'))).drew.facts2; have X0 := ((B0.far2 n1 (.int .i64 (pN x y)) (.int .i64 (pD y))).set2 (.int .i64 (pN x' y')) (.int .i64 (pD y'))).drew.facts2; exact ⟨X0.1, X0.2.1, X1.1, X1.2.1⟩)
      | go_keep)) (fail)
  go_wp2_with fail
  refine bodyPost_ret (v := .tuple #[.agg #[.int .i64 (pN x y), .int .i64 (pD y)], .agg #[.int .i64 (pN x' y'), .int .i64 (pD y')], .bool true]) (by have X1 := ((B1.set2 (.int .i64 (pN x y)) (.int .i64 (pD y))).far2 n2 (.int .i64 (pN x' y')) (.int .i64 (pD y'))).facts2; have X0 := ((B0.far2 n1 (.int .i64 (pN x y)) (.int .i64 (pD y))).set2 (.int .i64 (pN x' y')) (.int .i64 (pD y'))).facts2; obtain ⟨y1, y2, _⟩ := X0; obtain ⟨y3, y4, _⟩ := X1; simp [results, Tryz.results133, go_sem, y1, y2, y3, y4]) rfl (RetV.mk ((hL.drew.store lo1 0 [.int .i64 (pN x y), .int .i64 (pD y)]).store lo0 0 [.int .i64 (pN x' y'), .int .i64 (pD y')]) rfl)
end Go.Proofs.YtmhkmmmompediaaGreat

/- Contract of rational.fromWords. -/
namespace Go.Proofs.YtmhkmmmompediaaGreat
open Go.RowKit

theorem i_FromInt64' (z z' : Int) (w m : World) (hV : Vw m w) (hz : z = z') (h1 : -9223372036854775808 ≤ z') (h2 : z' ≤ 9223372036854775807) : Calls Tryz.prog 153 #[.int .i64 z] w (RetV w m fun m' r => IntC m' r z') := by
  subst hz; exact i_FromInt64 z w m hV h1 h2

theorem w64_eq (z : Int) : wrap64 z = IntKind.i64.wrap z := by first | rfl | (rw [IntKind.wrap_i64]; unfold wrap64; first | rfl | omega)
theorem quo_le (n : Int) (q : Nat) : (n / (q : Int)).natAbs ≤ n.natAbs := Int.natAbs_ediv_le_natAbs _ _
theorem quo_bd (n : Int) (q : Nat) (hb : n.natAbs ≤ 4611686018427387904) : -9223372036854775808 ≤ n / (q : Int) ∧ n / (q : Int) ≤ 9223372036854775807 := by
  have := quo_le n q
  generalize n / (q : Int) = z at *
  omega
theorem quo_eq {n : Int} {q : Nat} (hq : (q : Int) ∣ n) (hb : n.natAbs ≤ 4611686018427387904) : IntKind.i64.wrap (n.tdiv q) = n / (q : Int) := by
  rw [Int.tdiv_eq_ediv_of_dvd hq, IntKind.wrap_i64]
  have := quo_bd n q hb
  generalize n / (q : Int) = z at *
  omega
theorem quo_call (n : Int) (q : Nat) (hq : (q : Int) ∣ n) (hb : n.natAbs ≤ 4611686018427387904) : ∀ (z : Int) (w m : World), Vw m w → (z = wrap64 (n.tdiv q) ∨ z = wrap64 (n / (q : Int)) ∨ z = n / (q : Int)) →
    Calls Tryz.prog 153 #[.int .i64 z] w (RetV w m fun m' r => IntC m' r (n / (q : Int))) := by
  intro z w m hV hz
  have hb' := quo_bd n q hb
  refine i_FromInt64' z (n / (q : Int)) w m hV ?_ hb'.1 hb'.2
  rcases hz with hz | hz | hz
  · rw [hz, w64_eq]; exact quo_eq hq hb
  · rw [hz, w64_eq]
    have := quo_eq hq hb
    rw [Int.tdiv_eq_ediv_of_dvd hq] at this
    exact this
  · exact hz
set_option maxRecDepth 100000 in
set_option maxHeartbeats 8000000 in
theorem q_fromWords (n d : Int) (w m : World) (hV : Vw m w) (hd : 0 < d) (h1 : n.natAbs ≤ 4611686018427387904) (h2 : d ≤ 4611686018427387904) :
    Calls Tryz.prog 134 #[.int .i64 n, .int .i64 d] w (RetV w m fun m' r => FracC m' r (Rat.divInt n d)) := by
  have HQ := Lib.hid (frac_pos (x := n) hd)
  obtain ⟨D, rfl⟩ : ∃ D : Nat, d = D := ⟨d.natAbs, by omega⟩
  have hL := Loc.start hV
  clear hV
  have H1 := Lib.hid h1
  have H2 := Lib.hid h2
  by_cases hn : n < 0
  · obtain ⟨N, hN⟩ : ∃ N : Nat, n = -(N : Int) := ⟨n.natAbs, by omega⟩
    have hw : IntKind.i64.wrap (-n) = (N : Int) := by rw [hN, IntKind.wrap_i64]; omega
    have HN : Hid (N = n.natAbs) := by show _ = _; omega
    clear hN h1 h2
    have hd' : 0 < D := by omega
    go_enter Tryz.func134, Tryz.ntmps134
    go_wp2_with (first | ((with_reducible refine kAny ?_); go_skip) | ((first | (refine tSt ?_; clear hL; intro _ hL; simp only [splice, zq1, zq2, zq3] at hL) | (refine tAl ?_; clear hL; intro _ _ hL _)); simp only [Act.put, zq1, zq2, zq3]))
    go_loop [5, 6] (fun s5 s6 => ∃ p q : Nat, s5 = .int .i64 p ∧ s6 = .int .i64 q ∧ 0 < q ∧ Hid (Nat.gcd p q = Nat.gcd n.natAbs D)) (fun s5 _ => (intOf s5).toNat)
    case atStart => exact ⟨N, D, rfl, rfl, by omega, by show _ = _; exact congrArg (fun t => Nat.gcd t D) HN.out⟩
    case round =>
      obtain ⟨p, q, rfl, rfl, hq, hg⟩ := hrel
      by_cases h0 : p = 0
      · subst h0
        have hG := hg.out
        rw [Nat.gcd_zero_left] at hG
        have HG := Lib.hid hG
        clear hG hg
        have hq0 : ¬ (q : Int) = 0 := by omega
        have hdv1 : (q : Int) ∣ n := by rw [HG.out]; exact Int.ofNat_dvd_left.2 (Nat.gcd_dvd_left _ _)
        have hdv2 : (q : Int) ∣ (D : Int) := by rw [HG.out]; exact Int.natCast_dvd_natCast.2 (Nat.gcd_dvd_right _ _)
        have K1 := Lib.hid (quo_call _ q hdv1 H1.out)
        have K2 := Lib.hid (quo_call (D : Int) q hdv2 (by have := H2.out; omega))
        clear hdv1 hdv2 H1 H2
        go_upto_region 6 with ((first | ((with_reducible refine kAny ?_); go_skip) | ((first | (refine tSt ?_; clear hL; intro _ hL; simp only [splice, zq1, zq2, zq3] at hL) | (refine tAl ?_; clear hL; intro _ _ hL _)); simp only [Act.put, zq1, zq2, zq3])))
        (try simp only [eq_self] at *)
        refine wp_region_by 8 [false, false, false, false, false, false, false, false] [(fun v _ _ => v = ?c6_0a), (fun v _ _ => v = ?c6_1a), (fun v _ _ => v = ?c6_2a), Of (fun um v => IntC um v (n / (q : Int))), (fun v _ _ => v = ?c6_4a), (fun v _ _ => v = ?c6_5a), (fun v _ _ => v = ?c6_6a), Of (fun um v => IntC um v ((D : Int) / (q : Int)))] hL.vw mixed [19, 20, 21, 22, 23, 24, 25, 26] _ (by kernel_rfl) (fun vs => by simp only [lay, Act.put, zq1, zq2, zq3]; rfl) (by kernel_rfl) ?s6a ?r6a
        case s6a =>
          refine ⟨?_, ?_, ?_, ?_, ?_, ?_, ?_, ?_, trivial⟩
          · intro vs W1 m1 hE hM hV hD
            clear hD
            replace hL := hL.call hE hM hV
            exact sPu
          · intro vs W1 m1 hE hM hV hD
            clear hD
            replace hL := hL.call hE hM hV
            exact sPu
          · intro vs W1 m1 hE hM hV hD
            obtain ⟨⟨_, _, -, -, f19⟩, ⟨_, _, -, -, f20⟩, -⟩ := hD
            have f19 : vs 19 = _ := f19
            generalize vs 19 = x19 at f19 ⊢
            subst x19
            have f20 : vs 20 = _ := f20
            generalize vs 20 = x20 at f20 ⊢
            subst x20
            replace hL := hL.call hE hM hV
            exact sPu
          · intro vs W1 m1 hE hM hV hD
            obtain ⟨⟨_, _, -, -, f21⟩, -⟩ := hD
            have f21 : vs 21 = _ := f21
            generalize vs 21 = x21 at f21 ⊢
            subst x21
            go_wp2_with fail
            refine (K1.out _ _ _ hV (by first | with_reducible exact .inl rfl | with_reducible exact .inr (.inl rfl) | with_reducible exact .inr (.inr rfl))).mono ?_
            rintro e W2 ⟨v, m2, rfl, hE2, hM2, hV2, h⟩
            go_wp2_with fail
            refine One.call hE2 hM2 hV2 ?_; first | exact h | exact rfl
          · intro vs W1 m1 hE hM hV hD
            clear hD
            replace hL := hL.call hE hM hV
            exact sPu
          · intro vs W1 m1 hE hM hV hD
            clear hD
            replace hL := hL.call hE hM hV
            exact sPu
          · intro vs W1 m1 hE hM hV hD
            obtain ⟨⟨_, _, -, -, f23⟩, ⟨_, _, -, -, f24⟩, -⟩ := hD
            have f23 : vs 23 = _ := f23
            generalize vs 23 = x23 at f23 ⊢
            subst x23
            have f24 : vs 24 = _ := f24
            generalize vs 24 = x24 at f24 ⊢
            subst x24
            replace hL := hL.call hE hM hV
            exact sPu
          · intro vs W1 m1 hE hM hV hD
            obtain ⟨⟨_, _, -, -, f25⟩, -, -⟩ := hD
            have f25 : vs 25 = _ := f25
            generalize vs 25 = x25 at f25 ⊢
            subst x25
            go_wp2_with fail
            refine (K2.out _ _ _ hV (by first | with_reducible exact .inl rfl | with_reducible exact .inr (.inl rfl) | with_reducible exact .inr (.inr rfl))).mono ?_
            rintro e W2 ⟨v, m2, rfl, hE2, hM2, hV2, h⟩
            go_wp2_with fail
            refine One.call hE2 hM2 hV2 ?_; first | exact h | exact rfl
        intro vs W1 m1 hE hM hV hF hD
        clear hD
        obtain ⟨-, -, -, ⟨_, _, -, i22, f22⟩, -, -, -, ⟨_, _, -, i26, f26⟩, -⟩ := hF
        replace hL := hL.call hE hM hV
        replace f22 : IntC _ (vs 22) (n / (q : Int)) := f22
        replace f22 := f22.le i22.le
        clear i22
        obtain ⟨g22, A22, n22, c22, e22, f22⟩ := f22.lit
        generalize vs 22 = x22 at e22 ⊢
        subst x22
        replace f26 : IntC _ (vs 26) ((D : Int) / (q : Int)) := f26
        replace f26 := f26.le i26.le
        clear i26
        obtain ⟨g26, A26, n26, c26, e26, f26⟩ := f26.lit
        generalize vs 26 = x26 at e26 ⊢
        subst x26
        clear hE hV
        simp only [List.drop_succ_cons, List.drop_zero]
        go_wp2_with (first | ((with_reducible refine kAny ?_); go_skip) | ((first | (refine tSt ?_; clear hL; intro _ hL; simp only [splice, zq1, zq2, zq3] at hL) | (refine tAl ?_; clear hL; intro _ _ hL _)); simp only [Act.put, zq1, zq2, zq3]))
        refine fin_agg hL Tryz.results134 rfl rfl loX AgC.h (by exact rfl) ?_
        have e := HQ.out
        rw [show Int.gcd n (D : Int) = q from HG.out.symm] at e
        exact ⟨_, _, _, _, rfl, by rw [e.1]; exact f22, by rw [e.2]; exact f26⟩
      · have h1 : ((p : Int) != 0) = true := by simp [h0]
        have h2 : ¬ (p : Int) = 0 := by omega
        go_wp2_with (first | ((with_reducible refine kAny ?_); go_skip) | ((first | (refine tSt ?_; clear hL; intro _ hL; simp only [splice, zq1, zq2, zq3] at hL) | (refine tAl ?_; clear hL; intro _ _ hL _)); simp only [Act.put, zq1, zq2, zq3]))
        have e : ((q : Int) % (p : Int)) = ((q % p : Nat) : Int) := by simp
        refine ⟨⟨q % p, p, by rw [e], rfl, by omega, ?_⟩, ?_⟩
        · show Nat.gcd (q % p) p = _
          rw [← hg.out, ← Nat.gcd_rec]
        · rw [e]
          have := Nat.mod_lt q (show p > 0 by omega)
          simp [intOf]; omega
  · obtain ⟨N, rfl⟩ : ∃ N : Nat, n = (N : Int) := ⟨n.natAbs, by omega⟩
    have HN : Hid (N = (N : Int).natAbs) := by show _ = _; omega
    clear h1 h2
    have hd' : 0 < D := by omega
    go_enter Tryz.func134, Tryz.ntmps134
    go_wp2_with (first | ((with_reducible refine kAny ?_); go_skip) | ((first | (refine tSt ?_; clear hL; intro _ hL; simp only [splice, zq1, zq2, zq3] at hL) | (refine tAl ?_; clear hL; intro _ _ hL _)); simp only [Act.put, zq1, zq2, zq3]))
    go_loop [5, 6] (fun s5 s6 => ∃ p q : Nat, s5 = .int .i64 p ∧ s6 = .int .i64 q ∧ 0 < q ∧ Hid (Nat.gcd p q = Nat.gcd (N : Int).natAbs D)) (fun s5 _ => (intOf s5).toNat)
    case atStart => exact ⟨N, D, rfl, rfl, by omega, by show _ = _; exact congrArg (fun t => Nat.gcd t D) HN.out⟩
    case round =>
      obtain ⟨p, q, rfl, rfl, hq, hg⟩ := hrel
      by_cases h0 : p = 0
      · subst h0
        have hG := hg.out
        rw [Nat.gcd_zero_left] at hG
        have HG := Lib.hid hG
        clear hG hg
        have hq0 : ¬ (q : Int) = 0 := by omega
        have hdv1 : (q : Int) ∣ (N : Int) := by rw [HG.out]; exact Int.ofNat_dvd_left.2 (Nat.gcd_dvd_left _ _)
        have hdv2 : (q : Int) ∣ (D : Int) := by rw [HG.out]; exact Int.natCast_dvd_natCast.2 (Nat.gcd_dvd_right _ _)
        have K1 := Lib.hid (quo_call _ q hdv1 H1.out)
        have K2 := Lib.hid (quo_call (D : Int) q hdv2 (by have := H2.out; omega))
        clear hdv1 hdv2 H1 H2
        go_upto_region 6 with ((first | ((with_reducible refine kAny ?_); go_skip) | ((first | (refine tSt ?_; clear hL; intro _ hL; simp only [splice, zq1, zq2, zq3] at hL) | (refine tAl ?_; clear hL; intro _ _ hL _)); simp only [Act.put, zq1, zq2, zq3])))
        (try simp only [eq_self] at *)
        refine wp_region_by 8 [false, false, false, false, false, false, false, false] [(fun v _ _ => v = ?c6_0b), (fun v _ _ => v = ?c6_1b), (fun v _ _ => v = ?c6_2b), Of (fun um v => IntC um v ((N : Int) / (q : Int))), (fun v _ _ => v = ?c6_4b), (fun v _ _ => v = ?c6_5b), (fun v _ _ => v = ?c6_6b), Of (fun um v => IntC um v ((D : Int) / (q : Int)))] hL.vw mixed [19, 20, 21, 22, 23, 24, 25, 26] _ (by kernel_rfl) (fun vs => by simp only [lay, Act.put, zq1, zq2, zq3]; rfl) (by kernel_rfl) ?s6b ?r6b
        case s6b =>
          refine ⟨?_, ?_, ?_, ?_, ?_, ?_, ?_, ?_, trivial⟩
          · intro vs W1 m1 hE hM hV hD
            clear hD
            replace hL := hL.call hE hM hV
            exact sPu
          · intro vs W1 m1 hE hM hV hD
            clear hD
            replace hL := hL.call hE hM hV
            exact sPu
          · intro vs W1 m1 hE hM hV hD
            obtain ⟨⟨_, _, -, -, f19⟩, ⟨_, _, -, -, f20⟩, -⟩ := hD
            have f19 : vs 19 = _ := f19
            generalize vs 19 = x19 at f19 ⊢
            subst x19
            have f20 : vs 20 = _ := f20
            generalize vs 20 = x20 at f20 ⊢
            subst x20
            replace hL := hL.call hE hM hV
            exact sPu
          · intro vs W1 m1 hE hM hV hD
            obtain ⟨⟨_, _, -, -, f21⟩, -⟩ := hD
            have f21 : vs 21 = _ := f21
            generalize vs 21 = x21 at f21 ⊢
            subst x21
            go_wp2_with fail
            refine (K1.out _ _ _ hV (by first | with_reducible exact .inl rfl | with_reducible exact .inr (.inl rfl) | with_reducible exact .inr (.inr rfl))).mono ?_
            rintro e W2 ⟨v, m2, rfl, hE2, hM2, hV2, h⟩
            go_wp2_with fail
            refine One.call hE2 hM2 hV2 ?_; first | exact h | exact rfl
          · intro vs W1 m1 hE hM hV hD
            clear hD
            replace hL := hL.call hE hM hV
            exact sPu
          · intro vs W1 m1 hE hM hV hD
            clear hD
            replace hL := hL.call hE hM hV
            exact sPu
          · intro vs W1 m1 hE hM hV hD
            obtain ⟨⟨_, _, -, -, f23⟩, ⟨_, _, -, -, f24⟩, -⟩ := hD
            have f23 : vs 23 = _ := f23
            generalize vs 23 = x23 at f23 ⊢
            subst x23
            have f24 : vs 24 = _ := f24
            generalize vs 24 = x24 at f24 ⊢
            subst x24
            replace hL := hL.call hE hM hV
            exact sPu
          · intro vs W1 m1 hE hM hV hD
            obtain ⟨⟨_, _, -, -, f25⟩, -, -⟩ := hD
            have f25 : vs 25 = _ := f25
            generalize vs 25 = x25 at f25 ⊢
            subst x25
            go_wp2_with fail
            refine (K2.out _ _ _ hV (by first | with_reducible exact .inl rfl | with_reducible exact .inr (.inl rfl) | with_reducible exact .inr (.inr rfl))).mono ?_
            rintro e W2 ⟨v, m2, rfl, hE2, hM2, hV2, h⟩
            go_wp2_with fail
            refine One.call hE2 hM2 hV2 ?_; first | exact h | exact rfl
        intro vs W1 m1 hE hM hV hF hD
        clear hD
        obtain ⟨-, -, -, ⟨_, _, -, i22, f22⟩, -, -, -, ⟨_, _, -, i26, f26⟩, -⟩ := hF
        replace hL := hL.call hE hM hV
        replace f22 : IntC _ (vs 22) ((N : Int) / (q : Int)) := f22
        replace f22 := f22.le i22.le
        clear i22
        obtain ⟨g22, A22, n22, c22, e22, f22⟩ := f22.lit
        generalize vs 22 = x22 at e22 ⊢
        subst x22
        replace f26 : IntC _ (vs 26) ((D : Int) / (q : Int)) := f26
        replace f26 := f26.le i26.le
        clear i26
        obtain ⟨g26, A26, n26, c26, e26, f26⟩ := f26.lit
        generalize vs 26 = x26 at e26 ⊢
        subst x26
        clear hE hV
        simp only [List.drop_succ_cons, List.drop_zero]
        go_wp2_with (first | ((with_reducible refine kAny ?_); go_skip) | ((first | (refine tSt ?_; clear hL; intro _ hL; simp only [splice, zq1, zq2, zq3] at hL) | (refine tAl ?_; clear hL; intro _ _ hL _)); simp only [Act.put, zq1, zq2, zq3]))
        refine fin_agg hL Tryz.results134 rfl rfl loX AgC.h (by exact rfl) ?_
        have e := HQ.out
        rw [show Int.gcd (N : Int) (D : Int) = q from HG.out.symm] at e
        exact ⟨_, _, _, _, rfl, by rw [e.1]; exact f22, by rw [e.2]; exact f26⟩
      · have h1 : ((p : Int) != 0) = true := by simp [h0]
        have h2 : ¬ (p : Int) = 0 := by omega
        go_wp2_with (first | ((with_reducible refine kAny ?_); go_skip) | ((first | (refine tSt ?_; clear hL; intro _ hL; simp only [splice, zq1, zq2, zq3] at hL) | (refine tAl ?_; clear hL; intro _ _ hL _)); simp only [Act.put, zq1, zq2, zq3]))
        have e : ((q : Int) % (p : Int)) = ((q % p : Nat) : Int) := by simp
        refine ⟨⟨q % p, p, by rw [e], rfl, by omega, ?_⟩, ?_⟩
        · show Nat.gcd (q % p) p = _
          rw [← hg.out, ← Nat.gcd_rec]
        · rw [e]
          have := Nat.mod_lt q (show p > 0 by omega)
          simp [intOf]; omega
end Go.Proofs.YtmhkmmmompediaaGreat

/- Contracts of package rational for small fractions: Add, Mul. -/
namespace Go.Proofs.YtmhkmmmompediaaGreat
open Go.RowKit

theorem lf_i64 : lfB Tryz.prog 2 = true := by kernel_rfl
instance iQ4_1 : LfC Tryz.prog 2 := ⟨lf_i64⟩
/-- Numerator and denominator below 2^30. -/
def Sm (x y : Int) : Prop := x.natAbs < 1073741824 ∧ y.natAbs < 1073741824
theorem pN_spec {x y : Int} (h : Sm x y) : (pN x y).natAbs < 1073741824 ∧ 0 < pD y ∧ (pD y).natAbs < 1073741824 ∧ Rat.divInt (pN x y) (pD y) = Rat.divInt x y := by
  obtain ⟨h1, h2⟩ := h
  unfold pN pD
  by_cases h0 : y = 0
  · subst h0; simp
  · by_cases hn : y < 0
    · simp only [h0, hn, if_false, if_true]
      exact ⟨by omega, by omega, by omega, Rat.neg_divInt_neg x y⟩
    · simp only [h0, hn, if_false]
      exact ⟨by omega, by omega, by omega, trivial⟩
theorem prod_bd {a b : Int} (ha : a.natAbs < 1073741824) (hb : b.natAbs < 1073741824) : (a * b).natAbs < 1152921504606846976 := by
  rw [Int.natAbs_mul]
  exact Nat.lt_of_lt_of_le (Nat.mul_lt_mul'' ha hb) (by decide)
theorem w64_of {z : Int} (h : z.natAbs < 4611686018427387904) : wrap64 z = z := by unfold wrap64; omega

set_option maxRecDepth 100000 in
set_option maxHeartbeats 8000000 in
theorem q_Mul (a b : Value) (x y x' y' : Int) (w m : World) (hV : Vw m w) (ha : FracS m a x y) (hb : FracS m b x' y') (hs : Sm x y) (hs' : Sm x' y') :
    Calls Tryz.prog 74 #[a, b] w (RetV w m fun m' r => FracC m' r (Rat.divInt x y * Rat.divInt x' y')) := by
  have ha' := ha
  have hb' := hb
  obtain ⟨_, _, _, _, rfl, h1, h2, -, -⟩ := ha'
  obtain ⟨g1, A1, n1, c1, rfl, rfl⟩ := h1.parts'
  obtain ⟨g2, A2, n2, c2, rfl, rfl⟩ := h2.parts'
  obtain ⟨_, _, _, _, rfl, h3, h4, -, -⟩ := hb'
  obtain ⟨g3, A3, n3, c3, rfl, rfl⟩ := h3.parts'
  obtain ⟨g4, A4, n4, c4, rfl, rfl⟩ := h4.parts'
  obtain ⟨u1, u2, u3, u4⟩ := pN_spec hs
  obtain ⟨v1, v2, v3, v4⟩ := pN_spec hs'
  have E : Hid (Rat.divInt (pN x y * pN x' y') (pD y * pD y') = Rat.divInt x y * Rat.divInt x' y') := by
    show _ = _; rw [← u4, ← v4, Rat.divInt_mul_divInt]
  have K : Hid (∀ w m, Vw m w → Calls Tryz.prog 134 #[.int .i64 (pN x y * pN x' y'), .int .i64 (pD y * pD y')] w (RetV w m fun m' r => FracC m' r (Rat.divInt x y * Rat.divInt x' y'))) := by
    show ∀ w m, _
    intro w m hV
    rw [← E.out]
    exact q_fromWords _ _ w m hV (Int.mul_pos u2 v2) (by have := prod_bd u1 v1; omega) (by have := prod_bd u3 v3; omega)
  have w1 := w64_of (z := pN x y * pN x' y') (by have := prod_bd u1 v1; omega)
  have w2 := w64_of (z := pD y * pD y') (by have := prod_bd u3 v3; omega)
  have hL := Loc.start hV
  clear hV h1 h2 h3 h4 u1 u2 u3 u4 v1 v2 v3 v4 E hs hs'
  go_enter Tryz.func74, Tryz.ntmps74
  go_wp2_with (first | ((with_reducible refine kAny ?_); go_skip) | ((first | refine tLo ?_ | (refine tSt ?_; clear hL; intro _ hL; simp only [splice, zq1, zq2, zq3] at hL) | (refine tBx ?_; clear hL; intro _ _ hL _) | (refine tAl ?_; clear hL; intro _ _ hL _)); simp only [Act.put, zq1, zq2, zq3]))
  refine (q_small _ _ x y x' y' _ _ hL.vw (ha.le leX) (hb.le leX)).mono ?_
  rintro e W1 ⟨_, m1, rfl, hE, hM1, hV, rfl⟩
  replace hL := hL.call hE (by assumption) hV; clear hE hV
  generalize pN x y = P1 at *
  generalize pD y = P2 at *
  generalize pN x' y' = P3 at *
  generalize pD y' = P4 at *
  go_wp2_with (first | ((with_reducible refine kAny ?_); go_skip) | ((first | refine tLo ?_ | (refine tSt ?_; clear hL; intro _ hL; simp only [splice, zq1, zq2, zq3] at hL) | (refine tBx ?_; clear hL; intro _ _ hL _) | (refine tAl ?_; clear hL; intro _ _ hL _)); simp only [Act.put, zq1, zq2, zq3]))
  refine (K.out _ _ hL.vw).mono ?_
  rintro e W2 ⟨v2, m2, rfl, hE, hM2, hV, h2⟩
  replace hL := hL.call hE (by assumption) hV; clear hE hV
  obtain ⟨g2', A2', n2', c2', h2', B2', k2', d2', rfl, h2⟩ := h2.lit
  go_wp2_with (first | ((with_reducible refine kAny ?_); go_skip) | ((first | refine tLo ?_ | (refine tSt ?_; clear hL; intro _ hL; simp only [splice, zq1, zq2, zq3] at hL) | (refine tBx ?_; clear hL; intro _ _ hL _) | (refine tAl ?_; clear hL; intro _ _ hL _)); simp only [Act.put, zq1, zq2, zq3]))
  refine fin_agg hL Tryz.results74 rfl rfl loX AgC.h (by exact rfl) ?_
  exact h2

set_option maxRecDepth 100000 in
set_option maxHeartbeats 8000000 in
theorem q_Add (a b : Value) (x y x' y' : Int) (w m : World) (hV : Vw m w) (ha : FracS m a x y) (hb : FracS m b x' y') (hs : Sm x y) (hs' : Sm x' y') :
    Calls Tryz.prog 72 #[a, b] w (RetV w m fun m' r => FracC m' r (Rat.divInt x y + Rat.divInt x' y')) := by
  have ha' := ha
  have hb' := hb
  obtain ⟨_, _, _, _, rfl, h1, h2, -, -⟩ := ha'
  obtain ⟨g1, A1, n1, c1, rfl, rfl⟩ := h1.parts'
  obtain ⟨g2, A2, n2, c2, rfl, rfl⟩ := h2.parts'
  obtain ⟨_, _, _, _, rfl, h3, h4, -, -⟩ := hb'
  obtain ⟨g3, A3, n3, c3, rfl, rfl⟩ := h3.parts'
  obtain ⟨g4, A4, n4, c4, rfl, rfl⟩ := h4.parts'
  obtain ⟨u1, u2, u3, u4⟩ := pN_spec hs
  obtain ⟨v1, v2, v3, v4⟩ := pN_spec hs'
  have E : Hid (Rat.divInt (pN x y * pD y' + pN x' y' * pD y) (pD y * pD y') = Rat.divInt x y + Rat.divInt x' y') := by
    show _ = _; rw [← u4, ← v4, Rat.divInt_add_divInt _ _ (by omega) (by omega)]
  have K : Hid (∀ w m, Vw m w → Calls Tryz.prog 134 #[.int .i64 (pN x y * pD y' + pN x' y' * pD y), .int .i64 (pD y * pD y')] w (RetV w m fun m' r => FracC m' r (Rat.divInt x y + Rat.divInt x' y'))) := by
    show ∀ w m, _
    intro w m hV
    rw [← E.out]
    exact q_fromWords _ _ w m hV (Int.mul_pos u2 v2) (by have := prod_bd u1 v3; have := prod_bd v1 u3; omega) (by have := prod_bd u3 v3; omega)
  have w1 := w64_of (z := pN x y * pD y' + pN x' y' * pD y) (by have := prod_bd u1 v3; have := prod_bd v1 u3; omega)
  have w3 := w64_of (z := pN x y * pD y') (by have := prod_bd u1 v3; omega)
  have w4 := w64_of (z := pN x' y' * pD y) (by have := prod_bd v1 u3; omega)
  have w2 := w64_of (z := pD y * pD y') (by have := prod_bd u3 v3; omega)
  have hL := Loc.start hV
  clear hV h1 h2 h3 h4 u1 u2 u3 u4 v1 v2 v3 v4 E hs hs'
  go_enter Tryz.func72, Tryz.ntmps72
  go_wp2_with (first | ((with_reducible refine kAny ?_); go_skip) | ((first | refine tLo ?_ | (refine tSt ?_; clear hL; intro _ hL; simp only [splice, zq1, zq2, zq3] at hL) | (refine tBx ?_; clear hL; intro _ _ hL _) | (refine tAl ?_; clear hL; intro _ _ hL _)); simp only [Act.put, zq1, zq2, zq3]))
  refine (q_small _ _ x y x' y' _ _ hL.vw (ha.le leX) (hb.le leX)).mono ?_
  rintro e W1 ⟨_, m1, rfl, hE, hM1, hV, rfl⟩
  replace hL := hL.call hE (by assumption) hV; clear hE hV
  generalize pN x y = P1 at *
  generalize pD y = P2 at *
  generalize pN x' y' = P3 at *
  generalize pD y' = P4 at *
  go_wp2_with (first | ((with_reducible refine kAny ?_); go_skip) | ((first | refine tLo ?_ | (refine tSt ?_; clear hL; intro _ hL; simp only [splice, zq1, zq2, zq3] at hL) | (refine tBx ?_; clear hL; intro _ _ hL _) | (refine tAl ?_; clear hL; intro _ _ hL _)); simp only [Act.put, zq1, zq2, zq3]))
  refine (K.out _ _ hL.vw).mono ?_
  rintro e W2 ⟨v2, m2, rfl, hE, hM2, hV, h2⟩
  replace hL := hL.call hE (by assumption) hV; clear hE hV
  obtain ⟨g2', A2', n2', c2', h2', B2', k2', d2', rfl, h2⟩ := h2.lit
  go_wp2_with (first | ((with_reducible refine kAny ?_); go_skip) | ((first | refine tLo ?_ | (refine tSt ?_; clear hL; intro _ hL; simp only [splice, zq1, zq2, zq3] at hL) | (refine tBx ?_; clear hL; intro _ _ hL _) | (refine tAl ?_; clear hL; intro _ _ hL _)); simp only [Act.put, zq1, zq2, zq3]))
  refine fin_agg hL Tryz.results72 rfl rfl loX AgC.h (by exact rfl) ?_
  exact h2
end Go.Proofs.YtmhkmmmompediaaGreat

/- Contract of rational.Compare for small fractions. -/
namespace Go.Proofs.YtmhkmmmompediaaGreat
open Go.RowKit

set_option maxRecDepth 100000 in
set_option maxHeartbeats 8000000 in
theorem q_Compare (a b : Value) (x y x' y' : Int) (w m : World) (hV : Vw m w) (ha : FracS m a x y) (hb : FracS m b x' y') (hs : Sm x y) (hs' : Sm x' y') :
    Calls Tryz.prog 83 #[a, b] w (RetV w m fun _ r => r = .int .i64 (icmp (pN x y * pD y') (pN x' y' * pD y))) := by
  have ha' := ha
  have hb' := hb
  obtain ⟨_, _, _, _, rfl, h1, h2, -, -⟩ := ha'
  obtain ⟨g1, A1, n1, c1, rfl, rfl⟩ := h1.parts'
  obtain ⟨g2, A2, n2, c2, rfl, rfl⟩ := h2.parts'
  obtain ⟨_, _, _, _, rfl, h3, h4, -, -⟩ := hb'
  obtain ⟨g3, A3, n3, c3, rfl, rfl⟩ := h3.parts'
  obtain ⟨g4, A4, n4, c4, rfl, rfl⟩ := h4.parts'
  obtain ⟨u1, u2, u3, u4⟩ := pN_spec hs
  obtain ⟨v1, v2, v3, v4⟩ := pN_spec hs'
  have w3 := w64_of (z := pN x y * pD y') (by have := prod_bd u1 v3; omega)
  have w4 := w64_of (z := pN x' y' * pD y) (by have := prod_bd v1 u3; omega)
  have hL := Loc.start hV
  clear hV h1 h2 h3 h4 u1 u2 u3 u4 v1 v2 v3 v4 hs hs'
  by_cases hlt : pN x y * pD y' < pN x' y' * pD y
  · have E := Lib.hid (icmp_lt hlt)
    go_enter Tryz.func83, Tryz.ntmps83
    go_wp2_with (first | ((with_reducible refine kAny ?_); go_skip) | ((first | refine tLo ?_ | (refine tSt ?_; clear hL; intro _ hL; simp only [splice, zq1, zq2, zq3] at hL) | (refine tBx ?_; clear hL; intro _ _ hL _) | (refine tAl ?_; clear hL; intro _ _ hL _)); simp only [Act.put, zq1, zq2, zq3]))
    refine (q_small _ _ x y x' y' _ _ hL.vw (ha.le leX) (hb.le leX)).mono ?_
    rintro e W1 ⟨_, m1, rfl, hE, hM1, hV, rfl⟩
    replace hL := hL.call hE (by assumption) hV; clear hE hV
    go_upto_region 3 with ((first | ((with_reducible refine kAny ?_); go_skip) | ((first | refine tLo ?_ | (refine tSt ?_; clear hL; intro _ hL; simp only [splice, zq1, zq2, zq3] at hL) | (refine tBx ?_; clear hL; intro _ _ hL _) | (refine tAl ?_; clear hL; intro _ _ hL _)); simp only [Act.put, zq1, zq2, zq3])))
    refine wp_region_by 12 [false, false, false, false, false, false, false, false, false, false, false, false] [(fun v _ _ => v = ?c3_0a), (fun v _ _ => v = ?c3_1a), (fun v _ _ => v = ?c3_2a), (fun v _ _ => v = ?c3_3a), (fun v _ _ => v = ?c3_4a), (fun v _ _ => v = ?c3_5a), (fun v _ _ => v = ?c3_6a), (fun v _ _ => v = ?c3_7a), (fun v _ _ => v = ?c3_8a), (fun v _ _ => v = ?c3_9a), (fun v _ _ => v = ?c3_10a), (fun v _ _ => v = ?c3_11a)] hL.vw mixed [22, 23, 24, 25, 26, 27, 28, 29, 30, 31, 8, 9] _ (by kernel_rfl) (fun vs => by simp only [lay, Act.put, zq1, zq2, zq3]; rfl) (by kernel_rfl) ?s3a ?r3a
    case s3a =>
      refine ⟨?_, ?_, ?_, ?_, ?_, ?_, ?_, ?_, ?_, ?_, ?_, ?_, trivial⟩
      · intro vs W1 m1 hE hM hV hD
        clear hD
        replace hL := hL.call hE hM hV
        go_wp2_with (first | ((with_reducible refine kAny ?_); go_skip) | ((first | refine tLo ?_ | (refine tSt ?_; clear hL; intro _ hL; simp only [splice, zq1, zq2, zq3] at hL) | (refine tBx ?_; clear hL; intro _ _ hL _) | (refine tAl ?_; clear hL; intro _ _ hL _)); simp only [Act.put, zq1, zq2, zq3]))
        refine One.still hV ?_; exact rfl
      · intro vs W1 m1 hE hM hV hD
        obtain ⟨⟨_, _, -, -, f22⟩, -⟩ := hD
        have f22 : vs 22 = _ := f22
        generalize vs 22 = x22 at f22 ⊢
        subst x22
        replace hL := hL.call hE hM hV
        exact sLd
      · intro vs W1 m1 hE hM hV hD
        clear hD
        replace hL := hL.call hE hM hV
        go_wp2_with (first | ((with_reducible refine kAny ?_); go_skip) | ((first | refine tLo ?_ | (refine tSt ?_; clear hL; intro _ hL; simp only [splice, zq1, zq2, zq3] at hL) | (refine tBx ?_; clear hL; intro _ _ hL _) | (refine tAl ?_; clear hL; intro _ _ hL _)); simp only [Act.put, zq1, zq2, zq3]))
        refine One.still hV ?_; exact rfl
      · intro vs W1 m1 hE hM hV hD
        obtain ⟨⟨_, _, -, -, f24⟩, -⟩ := hD
        have f24 : vs 24 = _ := f24
        generalize vs 24 = x24 at f24 ⊢
        subst x24
        replace hL := hL.call hE hM hV
        exact sLd
      · intro vs W1 m1 hE hM hV hD
        obtain ⟨⟨_, _, -, -, f23⟩, ⟨_, _, -, -, f25⟩, -⟩ := hD
        have f23 : vs 23 = _ := f23
        generalize vs 23 = x23 at f23 ⊢
        subst x23
        have f25 : vs 25 = _ := f25
        generalize vs 25 = x25 at f25 ⊢
        subst x25
        replace hL := hL.call hE hM hV
        exact sPu
      · intro vs W1 m1 hE hM hV hD
        clear hD
        replace hL := hL.call hE hM hV
        go_wp2_with (first | ((with_reducible refine kAny ?_); go_skip) | ((first | refine tLo ?_ | (refine tSt ?_; clear hL; intro _ hL; simp only [splice, zq1, zq2, zq3] at hL) | (refine tBx ?_; clear hL; intro _ _ hL _) | (refine tAl ?_; clear hL; intro _ _ hL _)); simp only [Act.put, zq1, zq2, zq3]))
        refine One.still hV ?_; exact rfl
      · intro vs W1 m1 hE hM hV hD
        obtain ⟨⟨_, _, -, -, f27⟩, -, -⟩ := hD
        have f27 : vs 27 = _ := f27
        generalize vs 27 = x27 at f27 ⊢
        subst x27
        replace hL := hL.call hE hM hV
        exact sLd
      · intro vs W1 m1 hE hM hV hD
        clear hD
        replace hL := hL.call hE hM hV
        go_wp2_with (first | ((with_reducible refine kAny ?_); go_skip) | ((first | refine tLo ?_ | (refine tSt ?_; clear hL; intro _ hL; simp only [splice, zq1, zq2, zq3] at hL) | (refine tBx ?_; clear hL; intro _ _ hL _) | (refine tAl ?_; clear hL; intro _ _ hL _)); simp only [Act.put, zq1, zq2, zq3]))
        refine One.still hV ?_; exact rfl
      · intro vs W1 m1 hE hM hV hD
        obtain ⟨⟨_, _, -, -, f29⟩, -, -⟩ := hD
        have f29 : vs 29 = _ := f29
        generalize vs 29 = x29 at f29 ⊢
        subst x29
        replace hL := hL.call hE hM hV
        exact sLd
      · intro vs W1 m1 hE hM hV hD
        obtain ⟨⟨_, _, -, -, f28⟩, ⟨_, _, -, -, f30⟩, -, -⟩ := hD
        have f28 : vs 28 = _ := f28
        generalize vs 28 = x28 at f28 ⊢
        subst x28
        have f30 : vs 30 = _ := f30
        generalize vs 30 = x30 at f30 ⊢
        subst x30
        replace hL := hL.call hE hM hV
        exact sPu
      · intro vs W1 m1 hE hM hV hD
        obtain ⟨⟨_, _, -, -, f26⟩, -, -, -, -, -, -, -, -, -, -, -⟩ := hD
        have f26 : vs 26 = _ := f26
        generalize vs 26 = x26 at f26 ⊢
        subst x26
        replace hL := hL.call hE hM hV
        go_wp2_with (first | ((with_reducible refine kAny ?_); go_skip) | ((first | refine tLo ?_ | (refine tSt ?_; clear hL; intro _ hL; simp only [splice, zq1, zq2, zq3] at hL) | (refine tBx ?_; clear hL; intro _ _ hL _) | (refine tAl ?_; clear hL; intro _ _ hL _)); simp only [Act.put, zq1, zq2, zq3]))
        refine One.still hV ?_; exact rfl
      · intro vs W1 m1 hE hM hV hD
        obtain ⟨⟨_, _, -, -, f31⟩, -, -, -, -, -, -, -, -, -, -, -, -, -⟩ := hD
        have f31 : vs 31 = _ := f31
        generalize vs 31 = x31 at f31 ⊢
        subst x31
        replace hL := hL.call hE hM hV
        go_wp2_with (first | ((with_reducible refine kAny ?_); go_skip) | ((first | refine tLo ?_ | (refine tSt ?_; clear hL; intro _ hL; simp only [splice, zq1, zq2, zq3] at hL) | (refine tBx ?_; clear hL; intro _ _ hL _) | (refine tAl ?_; clear hL; intro _ _ hL _)); simp only [Act.put, zq1, zq2, zq3]))
        refine One.still hV ?_; exact rfl
    intro vs W1 m1 hE hM hV hF hD
    clear hD
    obtain ⟨⟨_, _, -, -, f22⟩, ⟨_, _, -, -, f23⟩, ⟨_, _, -, -, f24⟩, ⟨_, _, -, -, f25⟩, ⟨_, _, -, -, f26⟩, ⟨_, _, -, -, f27⟩, ⟨_, _, -, -, f28⟩, ⟨_, _, -, -, f29⟩, ⟨_, _, -, -, f30⟩, ⟨_, _, -, -, f31⟩, ⟨_, _, -, -, f8⟩, ⟨_, _, -, -, f9⟩, -⟩ := hF
    replace hL := hL.call hE hM hV
    have f22 : vs 22 = _ := f22
    generalize vs 22 = x22 at f22 ⊢
    subst x22
    have f23 : vs 23 = _ := f23
    generalize vs 23 = x23 at f23 ⊢
    subst x23
    have f24 : vs 24 = _ := f24
    generalize vs 24 = x24 at f24 ⊢
    subst x24
    have f25 : vs 25 = _ := f25
    generalize vs 25 = x25 at f25 ⊢
    subst x25
    have f26 : vs 26 = _ := f26
    generalize vs 26 = x26 at f26 ⊢
    subst x26
    have f27 : vs 27 = _ := f27
    generalize vs 27 = x27 at f27 ⊢
    subst x27
    have f28 : vs 28 = _ := f28
    generalize vs 28 = x28 at f28 ⊢
    subst x28
    have f29 : vs 29 = _ := f29
    generalize vs 29 = x29 at f29 ⊢
    subst x29
    have f30 : vs 30 = _ := f30
    generalize vs 30 = x30 at f30 ⊢
    subst x30
    have f31 : vs 31 = _ := f31
    generalize vs 31 = x31 at f31 ⊢
    subst x31
    have f8 : vs 8 = _ := f8
    generalize vs 8 = x8 at f8 ⊢
    subst x8
    have f9 : vs 9 = _ := f9
    generalize vs 9 = x9 at f9 ⊢
    subst x9
    clear hE hV
    simp only [List.drop_succ_cons, List.drop_zero]
    go_wp2_with (first | ((with_reducible refine kAny ?_); go_skip) | ((first | refine tLo ?_ | (refine tSt ?_; clear hL; intro _ hL; simp only [splice, zq1, zq2, zq3] at hL) | (refine tBx ?_; clear hL; intro _ _ hL _) | (refine tAl ?_; clear hL; intro _ _ hL _)); simp only [Act.put, zq1, zq2, zq3]))
    go_ret
    exact RetV.mk hL (by rw [E.out]; rfl)
  · by_cases hgt : pN x' y' * pD y < pN x y * pD y'
    · have E := Lib.hid (icmp_gt hgt)
      go_enter Tryz.func83, Tryz.ntmps83
      go_wp2_with (first | ((with_reducible refine kAny ?_); go_skip) | ((first | refine tLo ?_ | (refine tSt ?_; clear hL; intro _ hL; simp only [splice, zq1, zq2, zq3] at hL) | (refine tBx ?_; clear hL; intro _ _ hL _) | (refine tAl ?_; clear hL; intro _ _ hL _)); simp only [Act.put, zq1, zq2, zq3]))
      refine (q_small _ _ x y x' y' _ _ hL.vw (ha.le leX) (hb.le leX)).mono ?_
      rintro e W1 ⟨_, m1, rfl, hE, hM1, hV, rfl⟩
      replace hL := hL.call hE (by assumption) hV; clear hE hV
      go_upto_region 3 with ((first | ((with_reducible refine kAny ?_); go_skip) | ((first | refine tLo ?_ | (refine tSt ?_; clear hL; intro _ hL; simp only [splice, zq1, zq2, zq3] at hL) | (refine tBx ?_; clear hL; intro _ _ hL _) | (refine tAl ?_; clear hL; intro _ _ hL _)); simp only [Act.put, zq1, zq2, zq3])))
      refine wp_region_by 12 [false, false, false, false, false, false, false, false, false, false, false, false] [(fun v _ _ => v = ?c3_0b), (fun v _ _ => v = ?c3_1b), (fun v _ _ => v = ?c3_2b), (fun v _ _ => v = ?c3_3b), (fun v _ _ => v = ?c3_4b), (fun v _ _ => v = ?c3_5b), (fun v _ _ => v = ?c3_6b), (fun v _ _ => v = ?c3_7b), (fun v _ _ => v = ?c3_8b), (fun v _ _ => v = ?c3_9b), (fun v _ _ => v = ?c3_10b), (fun v _ _ => v = ?c3_11b)] hL.vw mixed [22, 23, 24, 25, 26, 27, 28, 29, 30, 31, 8, 9] _ (by kernel_rfl) (fun vs => by simp only [lay, Act.put, zq1, zq2, zq3]; rfl) (by kernel_rfl) ?s3b ?r3b
      case s3b =>
        refine ⟨?_, ?_, ?_, ?_, ?_, ?_, ?_, ?_, ?_, ?_, ?_, ?_, trivial⟩
        · intro vs W1 m1 hE hM hV hD
          clear hD
          replace hL := hL.call hE hM hV
          go_wp2_with (first | ((with_reducible refine kAny ?_); go_skip) | ((first | refine tLo ?_ | (refine tSt ?_; clear hL; intro _ hL; simp only [splice, zq1, zq2, zq3] at hL) | (refine tBx ?_; clear hL; intro _ _ hL _) | (refine tAl ?_; clear hL; intro _ _ hL _)); simp only [Act.put, zq1, zq2, zq3]))
          refine One.still hV ?_; exact rfl
        · intro vs W1 m1 hE hM hV hD
          obtain ⟨⟨_, _, -, -, f22⟩, -⟩ := hD
          have f22 : vs 22 = _ := f22
          generalize vs 22 = x22 at f22 ⊢
          subst x22
          replace hL := hL.call hE hM hV
          exact sLd
        · intro vs W1 m1 hE hM hV hD
          clear hD
          replace hL := hL.call hE hM hV
          go_wp2_with (first | ((with_reducible refine kAny ?_); go_skip) | ((first | refine tLo ?_ | (refine tSt ?_; clear hL; intro _ hL; simp only [splice, zq1, zq2, zq3] at hL) | (refine tBx ?_; clear hL; intro _ _ hL _) | (refine tAl ?_; clear hL; intro _ _ hL _)); simp only [Act.put, zq1, zq2, zq3]))
          refine One.still hV ?_; exact rfl
        · intro vs W1 m1 hE hM hV hD
          obtain ⟨⟨_, _, -, -, f24⟩, -⟩ := hD
          have f24 : vs 24 = _ := f24
          generalize vs 24 = x24 at f24 ⊢
          subst x24
          replace hL := hL.call hE hM hV
          exact sLd
        · intro vs W1 m1 hE hM hV hD
          obtain ⟨⟨_, _, -, -, f23⟩, ⟨_, _, -, -, f25⟩, -⟩ := hD
          have f23 : vs 23 = _ := f23
          generalize vs 23 = x23 at f23 ⊢
          subst x23
          have f25 : vs 25 = _ := f25
          generalize vs 25 = x25 at f25 ⊢
          subst x25
          replace hL := hL.call hE hM hV
          exact sPu
        · intro vs W1 m1 hE hM hV hD
          clear hD
          replace hL := hL.call hE hM hV
          go_wp2_with (first | ((with_reducible refine kAny ?_); go_skip) | ((first | refine tLo ?_ | (refine tSt ?_; clear hL; intro _ hL; simp only [splice, zq1, zq2, zq3] at hL) | (refine tBx ?_; clear hL; intro _ _ hL _) | (refine tAl ?_; clear hL; intro _ _ hL _)); simp only [Act.put, zq1, zq2, zq3]))
          refine One.still hV ?_; exact rfl
        · intro vs W1 m1 hE hM hV hD
          obtain ⟨⟨_, _, -, -, f27⟩, -, -⟩ := hD
          have f27 : vs 27 = _ := f27
          generalize vs 27 = x27 at f27 ⊢
          subst x27
          replace hL := hL.call hE hM hV
          exact sLd
        · intro vs W1 m1 hE hM hV hD
          clear hD
          replace hL := hL.call hE hM hV
          go_wp2_with (first | ((with_reducible refine kAny ?_); go_skip) | ((first | refine tLo ?_ | (refine tSt ?_; clear hL; intro _ hL; simp only [splice, zq1, zq2, zq3] at hL) | (refine tBx ?_; clear hL; intro _ _ hL _) | (refine tAl ?_; clear hL; intro _ _ hL _)); simp only [Act.put, zq1, zq2, zq3]))
          refine One.still hV ?_; exact rfl
        · intro vs W1 m1 hE hM hV hD
          obtain ⟨⟨_, _, -, -, f29⟩, -, -⟩ := hD
          have f29 : vs 29 = _ := f29
          generalize vs 29 = x29 at f29 ⊢
          subst x29
          replace hL := hL.call hE hM hV
          exact sLd
        · intro vs W1 m1 hE hM hV hD
          obtain ⟨⟨_, _, -, -, f28⟩, ⟨_, _, -, -, f30⟩, -, -⟩ := hD
          have f28 : vs 28 = _ := f28
          generalize vs 28 = x28 at f28 ⊢
          subst x28
          have f30 : vs 30 = _ := f30
          generalize vs 30 = x30 at f30 ⊢
          subst x30
          replace hL := hL.call hE hM hV
          exact sPu
        · intro vs W1 m1 hE hM hV hD
          obtain ⟨⟨_, _, -, -, f26⟩, -, -, -, -, -, -, -, -, -, -, -⟩ := hD
          have f26 : vs 26 = _ := f26
          generalize vs 26 = x26 at f26 ⊢
          subst x26
          replace hL := hL.call hE hM hV
          go_wp2_with (first | ((with_reducible refine kAny ?_); go_skip) | ((first | refine tLo ?_ | (refine tSt ?_; clear hL; intro _ hL; simp only [splice, zq1, zq2, zq3] at hL) | (refine tBx ?_; clear hL; intro _ _ hL _) | (refine tAl ?_; clear hL; intro _ _ hL _)); simp only [Act.put, zq1, zq2, zq3]))
          refine One.still hV ?_; exact rfl
        · intro vs W1 m1 hE hM hV hD
          obtain ⟨⟨_, _, -, -, f31⟩, -, -, -, -, -, -, -, -, -, -, -, -, -⟩ := hD
          have f31 : vs 31 = _ := f31
          generalize vs 31 = x31 at f31 ⊢
          subst x31
          replace hL := hL.call hE hM hV
          go_wp2_with (first | ((with_reducible refine kAny ?_); go_skip) | ((first | refine tLo ?_ | (refine tSt ?_; clear hL; intro _ hL; simp only [splice, zq1, zq2, zq3] at hL) | (refine tBx ?_; clear hL; intro _ _ hL _) | (refine tAl ?_; clear hL; intro _ _ hL _)); simp only [Act.put, zq1, zq2, zq3]))
          refine One.still hV ?_; exact rfl
      intro vs W1 m1 hE hM hV hF hD
      clear hD
      obtain ⟨⟨_, _, -, -, f22⟩, ⟨_, _, -, -, f23⟩, ⟨_, _, -, -, f24⟩, ⟨_, _, -, -, f25⟩, ⟨_, _, -, -, f26⟩, ⟨_, _, -, -, f27⟩, ⟨_, _, -, -, f28⟩, ⟨_, _, -, -, f29⟩, ⟨_, _, -, -, f30⟩, ⟨_, _, -, -, f31⟩, ⟨_, _, -, -, f8⟩, ⟨_, _, -, -, f9⟩, -⟩ := hF
      replace hL := hL.call hE hM hV
      have f22 : vs 22 = _ := f22
      generalize vs 22 = x22 at f22 ⊢
      subst x22
      have f23 : vs 23 = _ := f23
      generalize vs 23 = x23 at f23 ⊢
      subst x23
      have f24 : vs 24 = _ := f24
      generalize vs 24 = x24 at f24 ⊢
      subst x24
      have f25 : vs 25 = _ := f25
      generalize vs 25 = x25 at f25 ⊢
      subst x25
      have f26 : vs 26 = _ := f26
      generalize vs 26 = x26 at f26 ⊢
      subst x26
      have f27 : vs 27 = _ := f27
      generalize vs 27 = x27 at f27 ⊢
      subst x27
      have f28 : vs 28 = _ := f28
      generalize vs 28 = x28 at f28 ⊢
      subst x28
      have f29 : vs 29 = _ := f29
      generalize vs 29 = x29 at f29 ⊢
      subst x29
      have f30 : vs 30 = _ := f30
      generalize vs 30 = x30 at f30 ⊢
      subst x30
      have f31 : vs 31 = _ := f31
      generalize vs 31 = x31 at f31 ⊢
      subst x31
      have f8 : vs 8 = _ := f8
      generalize vs 8 = x8 at f8 ⊢
      subst x8
      have f9 : vs 9 = _ := f9
      generalize vs 9 = x9 at f9 ⊢
      subst x9
      clear hE hV
      simp only [List.drop_succ_cons, List.drop_zero]
      go_wp2_with (first | ((with_reducible refine kAny ?_); go_skip) | ((first | refine tLo ?_ | (refine tSt ?_; clear hL; intro _ hL; simp only [splice, zq1, zq2, zq3] at hL) | (refine tBx ?_; clear hL; intro _ _ hL _) | (refine tAl ?_; clear hL; intro _ _ hL _)); simp only [Act.put, zq1, zq2, zq3]))
      go_ret
      exact RetV.mk hL (by rw [E.out]; rfl)
    · have E : Hid (icmp (pN x y * pD y') (pN x' y' * pD y) = 0) := by
        show _ = _
        unfold icmp; rw [if_neg hlt, if_pos (by omega)]
      go_enter Tryz.func83, Tryz.ntmps83
      go_wp2_with (first | ((with_reducible refine kAny ?_); go_skip) | ((first | refine tLo ?_ | (refine tSt ?_; clear hL; intro _ hL; simp only [splice, zq1, zq2, zq3] at hL) | (refine tBx ?_; clear hL; intro _ _ hL _) | (refine tAl ?_; clear hL; intro _ _ hL _)); simp only [Act.put, zq1, zq2, zq3]))
      refine (q_small _ _ x y x' y' _ _ hL.vw (ha.le leX) (hb.le leX)).mono ?_
      rintro e W1 ⟨_, m1, rfl, hE, hM1, hV, rfl⟩
      replace hL := hL.call hE (by assumption) hV; clear hE hV
      go_upto_region 3 with ((first | ((with_reducible refine kAny ?_); go_skip) | ((first | refine tLo ?_ | (refine tSt ?_; clear hL; intro _ hL; simp only [splice, zq1, zq2, zq3] at hL) | (refine tBx ?_; clear hL; intro _ _ hL _) | (refine tAl ?_; clear hL; intro _ _ hL _)); simp only [Act.put, zq1, zq2, zq3])))
      refine wp_region_by 12 [false, false, false, false, false, false, false, false, false, false, false, false] [(fun v _ _ => v = ?c3_0c), (fun v _ _ => v = ?c3_1c), (fun v _ _ => v = ?c3_2c), (fun v _ _ => v = ?c3_3c), (fun v _ _ => v = ?c3_4c), (fun v _ _ => v = ?c3_5c), (fun v _ _ => v = ?c3_6c), (fun v _ _ => v = ?c3_7c), (fun v _ _ => v = ?c3_8c), (fun v _ _ => v = ?c3_9c), (fun v _ _ => v = ?c3_10c), (fun v _ _ => v = ?c3_11c)] hL.vw mixed [22, 23, 24, 25, 26, 27, 28, 29, 30, 31, 8, 9] _ (by kernel_rfl) (fun vs => by simp only [lay, Act.put, zq1, zq2, zq3]; rfl) (by kernel_rfl) ?s3c ?r3c
      case s3c =>
        refine ⟨?_, ?_, ?_, ?_, ?_, ?_, ?_, ?_, ?_, ?_, ?_, ?_, trivial⟩
        · intro vs W1 m1 hE hM hV hD
          clear hD
          replace hL := hL.call hE hM hV
          go_wp2_with (first | ((with_reducible refine kAny ?_); go_skip) | ((first | refine tLo ?_ | (refine tSt ?_; clear hL; intro _ hL; simp only [splice, zq1, zq2, zq3] at hL) | (refine tBx ?_; clear hL; intro _ _ hL _) | (refine tAl ?_; clear hL; intro _ _ hL _)); simp only [Act.put, zq1, zq2, zq3]))
          refine One.still hV ?_; exact rfl
        · intro vs W1 m1 hE hM hV hD
          obtain ⟨⟨_, _, -, -, f22⟩, -⟩ := hD
          have f22 : vs 22 = _ := f22
          generalize vs 22 = x22 at f22 ⊢
          subst x22
          replace hL := hL.call hE hM hV
          exact sLd
        · intro vs W1 m1 hE hM hV hD
          clear hD
          replace hL := hL.call hE hM hV
          go_wp2_with (first | ((with_reducible refine kAny ?_); go_skip) | ((first | refine tLo ?_ | (refine tSt ?_; clear hL; intro _ hL; simp only [splice, zq1, zq2, zq3] at hL) | (refine tBx ?_; clear hL; intro _ _ hL _) | (refine tAl ?_; clear hL; intro _ _ hL _)); simp only [Act.put, zq1, zq2, zq3]))
          refine One.still hV ?_; exact rfl
        · intro vs W1 m1 hE hM hV hD
          obtain ⟨⟨_, _, -, -, f24⟩, -⟩ := hD
          have f24 : vs 24 = _ := f24
          generalize vs 24 = x24 at f24 ⊢
          subst x24
          replace hL := hL.call hE hM hV
          exact sLd
        · intro vs W1 m1 hE hM hV hD
          obtain ⟨⟨_, _, -, -, f23⟩, ⟨_, _, -, -, f25⟩, -⟩ := hD
          have f23 : vs 23 = _ := f23
          generalize vs 23 = x23 at f23 ⊢
          subst x23
          have f25 : vs 25 = _ := f25
          generalize vs 25 = x25 at f25 ⊢
          subst x25
          replace hL := hL.call hE hM hV
          exact sPu
        · intro vs W1 m1 hE hM hV hD
          clear hD
          replace hL := hL.call hE hM hV
          go_wp2_with (first | ((with_reducible refine kAny ?_); go_skip) | ((first | refine tLo ?_ | (refine tSt ?_; clear hL; intro _ hL; simp only [splice, zq1, zq2, zq3] at hL) | (refine tBx ?_; clear hL; intro _ _ hL _) | (refine tAl ?_; clear hL; intro _ _ hL _)); simp only [Act.put, zq1, zq2, zq3]))
          refine One.still hV ?_; exact rfl
        · intro vs W1 m1 hE hM hV hD
          obtain ⟨⟨_, _, -, -, f27⟩, -, -⟩ := hD
          have f27 : vs 27 = _ := f27
          generalize vs 27 = x27 at f27 ⊢
          subst x27
          replace hL := hL.call hE hM hV
          exact sLd
        · intro vs W1 m1 hE hM hV hD
          clear hD
          replace hL := hL.call hE hM hV
          go_wp2_with (first | ((with_reducible refine kAny ?_); go_skip) | ((first | refine tLo ?_ | (refine tSt ?_; clear hL; intro _ hL; simp only [splice, zq1, zq2, zq3] at hL) | (refine tBx ?_; clear hL; intro _ _ hL _) | (refine tAl ?_; clear hL; intro _ _ hL _)); simp only [Act.put, zq1, zq2, zq3]))
          refine One.still hV ?_; exact rfl
        · intro vs W1 m1 hE hM hV hD
          obtain ⟨⟨_, _, -, -, f29⟩, -, -⟩ := hD
          have f29 : vs 29 = _ := f29
          generalize vs 29 = x29 at f29 ⊢
          subst x29
          replace hL := hL.call hE hM hV
          exact sLd
        · intro vs W1 m1 hE hM hV hD
          obtain ⟨⟨_, _, -, -, f28⟩, ⟨_, _, -, -, f30⟩, -, -⟩ := hD
          have f28 : vs 28 = _ := f28
          generalize vs 28 = x28 at f28 ⊢
          subst x28
          have f30 : vs 30 = _ := f30
          generalize vs 30 = x30 at f30 ⊢
          subst x30
          replace hL := hL.call hE hM hV
          exact sPu
        · intro vs W1 m1 hE hM hV hD
          obtain ⟨⟨_, _, -, -, f26⟩, -, -, -, -, -, -, -, -, -, -, -⟩ := hD
          have f26 : vs 26 = _ := f26
          generalize vs 26 = x26 at f26 ⊢
          subst x26
          replace hL := hL.call hE hM hV
          go_wp2_with (first | ((with_reducible refine kAny ?_); go_skip) | ((first | refine tLo ?_ | (refine tSt ?_; clear hL; intro _ hL; simp only [splice, zq1, zq2, zq3] at hL) | (refine tBx ?_; clear hL; intro _ _ hL _) | (refine tAl ?_; clear hL; intro _ _ hL _)); simp only [Act.put, zq1, zq2, zq3]))
          refine One.still hV ?_; exact rfl
        · intro vs W1 m1 hE hM hV hD
          obtain ⟨⟨_, _, -, -, f31⟩, -, -, -, -, -, -, -, -, -, -, -, -, -⟩ := hD
          have f31 : vs 31 = _ := f31
          generalize vs 31 = x31 at f31 ⊢
          subst x31
          replace hL := hL.call hE hM hV
          go_wp2_with (first | ((with_reducible refine kAny ?_); go_skip) | ((first | refine tLo ?_ | (refine tSt ?_; clear hL; intro _ hL; simp only [splice, zq1, zq2, zq3] at hL) | (refine tBx ?_; clear hL; intro _ _ hL _) | (refine tAl ?_; clear hL; intro _ _ hL _)); simp only [Act.put, zq1, zq2, zq3]))
          refine One.still hV ?_; exact rfl
      intro vs W1 m1 hE hM hV hF hD
      clear hD
      obtain ⟨⟨_, _, -, -, f22⟩, ⟨_, _, -, -, f23⟩, ⟨_, _, -, -, f24⟩, ⟨_, _, -, -, f25⟩, ⟨_, _, -, -, f26⟩, ⟨_, _, -, -, f27⟩, ⟨_, _, -, -, f28⟩, ⟨_, _, -, -, f29⟩, ⟨_, _, -, -, f30⟩, ⟨_, _, -, -, f31⟩, ⟨_, _, -, -, f8⟩, ⟨_, _, -, -, f9⟩, -⟩ := hF
      replace hL := hL.call hE hM hV
      have f22 : vs 22 = _ := f22
      generalize vs 22 = x22 at f22 ⊢
      subst x22
      have f23 : vs 23 = _ := f23
      generalize vs 23 = x23 at f23 ⊢
      subst x23
      have f24 : vs 24 = _ := f24
      generalize vs 24 = x24 at f24 ⊢
      subst x24
      have f25 : vs 25 = _ := f25
      generalize vs 25 = x25 at f25 ⊢
      subst x25
      have f26 : vs 26 = _ := f26
      generalize vs 26 = x26 at f26 ⊢
      subst x26
      have f27 : vs 27 = _ := f27
      generalize vs 27 = x27 at f27 ⊢
      subst x27
      have f28 : vs 28 = _ := f28
      generalize vs 28 = x28 at f28 ⊢
      subst x28
      have f29 : vs 29 = _ := f29
      generalize vs 29 = x29 at f29 ⊢
      subst x29
      have f30 : vs 30 = _ := f30
      generalize vs 30 = x30 at f30 ⊢
      subst x30
      have f31 : vs 31 = _ := f31
      generalize vs 31 = x31 at f31 ⊢
      subst x31
      have f8 : vs 8 = _ := f8
      generalize vs 8 = x8 at f8 ⊢
      subst x8
      have f9 : vs 9 = _ := f9
      generalize vs 9 = x9 at f9 ⊢
      subst x9
      clear hE hV
      simp only [List.drop_succ_cons, List.drop_zero]
      go_wp2_with (first | ((with_reducible refine kAny ?_); go_skip) | ((first | refine tLo ?_ | (refine tSt ?_; clear hL; intro _ hL; simp only [splice, zq1, zq2, zq3] at hL) | (refine tBx ?_; clear hL; intro _ _ hL _) | (refine tAl ?_; clear hL; intro _ _ hL _)); simp only [Act.put, zq1, zq2, zq3]))
      go_ret
      exact RetV.mk hL (by rw [E.out]; rfl)
end Go.Proofs.YtmhkmmmompediaaGreat

/- Contracts of package rational: reduce, New, FromInts (positive denominator, numbers below 2^63). -/
namespace Go.Proofs.YtmhkmmmompediaaGreat
open Go.RowKit

set_option maxRecDepth 100000 in
set_option maxHeartbeats 16000000 in
theorem q_reduce (a b : Value) (x y : Int) (w m : World) (hV : Vw m w) (hn : IntV m a x) (hd : IntV m b y) (hx : x.natAbs < 18446744073709551616) (hy : y.natAbs < 18446744073709551616) (hy' : 0 < y) :
    Calls Tryz.prog 137 #[a, b] w (RetV w m fun m' r => FracC m' r (Rat.divInt x y)) := by
  obtain ⟨na, A, la, ca, rfl⟩ := hn.lit
  obtain ⟨nb, B', lb, cb, rfl⟩ := hd.lit
  have lx := hn.length
  have ly := hd.length
  have HX := Lib.hid hx
  have HY := Lib.hid hy
  clear hx hy
  have hL := Loc.start hV
  clear hV
  go_enter Tryz.func137, Tryz.ntmps137
  go_wp2_with (first | ((with_reducible refine kAny ?_); go_skip) | ((first | refine tLo ?_ | (refine tSt ?_; clear hL; intro _ hL; simp only [splice, zq1, zq2, zq3] at hL) | (refine tBx ?_; clear hL; intro _ _ hL _) | (refine tAl ?_; clear hL; intro _ _ hL _)); simp only [Act.put, zq1, zq2, zq3]))
  refine (i_Sign _ x _ _ hL.vw (hn.le leX)).mono ?_
  rintro e W11 ⟨_, m11, rfl, hE, hM11, hV, rfl⟩
  replace hL := hL.call hE (by assumption) hV; clear hE hV
  by_cases h0 : x = 0
  · subst h0
    rw [show icmp 0 0 = 0 from rfl]
    go_wp2_with (first | ((with_reducible refine kAny ?_); go_skip) | ((first | refine tLo ?_ | (refine tSt ?_; clear hL; intro _ hL; simp only [splice, zq1, zq2, zq3] at hL) | (refine tBx ?_; clear hL; intro _ _ hL _) | (refine tAl ?_; clear hL; intro _ _ hL _)); simp only [Act.put, zq1, zq2, zq3]))
    refine (q_fromWords 0 1 _ _ hL.vw (by omega) (by omega) (by omega)).mono ?_
    rintro e W12 ⟨v12, m12, rfl, hE, hM12, hV, h12⟩
    replace hL := hL.call hE (by assumption) hV; clear hE hV
    obtain ⟨g12', A12', n12', c12', h12', B12', k12', d12', rfl, h12⟩ := h12.lit
    go_wp2_with (first | ((with_reducible refine kAny ?_); go_skip) | ((first | refine tLo ?_ | (refine tSt ?_; clear hL; intro _ hL; simp only [splice, zq1, zq2, zq3] at hL) | (refine tBx ?_; clear hL; intro _ _ hL _) | (refine tAl ?_; clear hL; intro _ _ hL _)); simp only [Act.put, zq1, zq2, zq3]))
    refine fin_agg hL Tryz.results137 rfl rfl loX AgC.h (by exact rfl) ?_
    rw [Rat.zero_divInt] at h12 ⊢
    exact h12
  · have hxb : (icmp x 0 == 0) = false := by
      unfold icmp; by_cases h : x < 0 <;> simp [h, h0]
    go_wp2_with (first | ((with_reducible refine kAny ?_); go_skip) | ((first | refine tLo ?_ | (refine tSt ?_; clear hL; intro _ hL; simp only [splice, zq1, zq2, zq3] at hL) | (refine tBx ?_; clear hL; intro _ _ hL _) | (refine tAl ?_; clear hL; intro _ _ hL _)); simp only [Act.put, zq1, zq2, zq3]))
    refine (i_Sign _ y _ _ hL.vw (hd.le leX)).mono ?_
    rintro e W12 ⟨_, m12, rfl, hE, hM12, hV, rfl⟩
    replace hL := hL.call hE (by assumption) hV; clear hE hV
    rw [icmp_gt hy']
    clear hxb
    go_wp2_with (first | ((with_reducible refine kAny ?_); go_skip) | ((first | refine tLo ?_ | (refine tSt ?_; clear hL; intro _ hL; simp only [splice, zq1, zq2, zq3] at hL) | (refine tBx ?_; clear hL; intro _ _ hL _) | (refine tAl ?_; clear hL; intro _ _ hL _)); simp only [Act.put, zq1, zq2, zq3]))
    have hgp : 0 < Int.gcd x y := Int.gcd_pos_of_ne_zero_right _ (by omega)
    have hgle : Int.gcd x y ≤ y.natAbs := Nat.le_of_dvd (by omega) (Int.gcd_dvd_natAbs_right x y)
    have hgl : (digs (((Int.gcd x y : Nat) : Int)).natAbs).length ≤ 1000 := Nat.le_trans (length_digs_mono (by simpa using hgle)) ly
    have HGL : Hid (((Int.gcd x y : Nat) : Int).natAbs < 18446744073709551616) := by
      show _ < _
      have := HY.out
      simp only [Int.natAbs_natCast]; omega
    have hgq := frac_pos (x := x) hy'
    have E1 : x % ((Int.gcd x y : Nat) : Int) = 0 := Int.emod_eq_zero_of_dvd (Int.gcd_dvd_left x y)
    have E2 : y % ((Int.gcd x y : Nat) : Int) = 0 := Int.emod_eq_zero_of_dvd (Int.gcd_dvd_right x y)
    have HE1 := Lib.hid E1
    have HE2 := Lib.hid E2
    clear hgle E1 E2
    refine (i_GCD _ _ x y _ _ hL.vw (hn.le leX) (hd.le leX) HX.out HY.out).mono ?_
    rintro e W13 ⟨v13, m13, rfl, hE, hM13, hV, h13⟩
    replace hL := hL.call hE (by assumption) hV; clear hE hV
    obtain ⟨g13', A13', n13', c13', rfl, h13⟩ := h13.lit
    generalize Int.gcd x y = gg at *
    go_wp2_with (first | ((with_reducible refine kAny ?_); go_skip) | ((first | refine tLo ?_ | (refine tSt ?_; clear hL; intro _ hL; simp only [splice, zq1, zq2, zq3] at hL) | (refine tBx ?_; clear hL; intro _ _ hL _) | (refine tAl ?_; clear hL; intro _ _ hL _)); simp only [Act.put, zq1, zq2, zq3]))
    refine (i_DivMod _ _ x gg _ _ hL.vw (hn.le leX) ((h13.toV hgl).le leX) HX.out HGL.out (by omega) (.inr HE1.out)).mono ?_
    rintro e W14 ⟨_, m14, rfl, hE, hM14, hV, q6, r6, rfl, h6, k6⟩
    replace hL := hL.call hE (by assumption) hV; clear hE hV
    obtain ⟨g6, A6, n6, c6, rfl, h6⟩ := h6.lit
    obtain ⟨g7, A7, n7, c7, rfl, k6⟩ := k6.lit
    have HQ := Lib.hid hgq
    clear hgq k6
    go_wp2_with (first | ((with_reducible refine kAny ?_); go_skip) | ((first | refine tLo ?_ | (refine tSt ?_; clear hL; intro _ hL; simp only [splice, zq1, zq2, zq3] at hL) | (refine tBx ?_; clear hL; intro _ _ hL _) | (refine tAl ?_; clear hL; intro _ _ hL _)); simp only [Act.put, zq1, zq2, zq3]))
    refine (i_DivMod _ _ y gg _ _ hL.vw (hd.le leX) ((h13.toV hgl).le leX) HY.out HGL.out (by omega) (.inr HE2.out)).mono ?_
    rintro e W15 ⟨_, m15, rfl, hE, hM15, hV, q8, r8, rfl, h8, k8⟩
    replace hL := hL.call hE (by assumption) hV; clear hE hV
    obtain ⟨g8, A8, n8, c8, rfl, h8⟩ := h8.lit
    obtain ⟨g9, A9, n9, c9, rfl, k8⟩ := k8.lit
    clear k8
    go_wp2_with (first | ((with_reducible refine kAny ?_); go_skip) | ((first | refine tLo ?_ | (refine tSt ?_; clear hL; intro _ hL; simp only [splice, zq1, zq2, zq3] at hL) | (refine tBx ?_; clear hL; intro _ _ hL _) | (refine tAl ?_; clear hL; intro _ _ hL _)); simp only [Act.put, zq1, zq2, zq3]))
    refine fin_agg hL Tryz.results137 rfl rfl loX AgC.h (by exact rfl) ?_
    exact ⟨_, _, _, _, rfl, by rw [HQ.out.1]; exact h6.le leX, by rw [HQ.out.2]; exact h8.le leX⟩

set_option maxRecDepth 100000 in
set_option maxHeartbeats 8000000 in
theorem q_New (a b : Value) (x y : Int) (w m : World) (hV : Vw m w) (hn : IntV m a x) (hd : IntV m b y) (hx : x.natAbs < 18446744073709551616) (hy : y.natAbs < 18446744073709551616) (hy' : 0 < y) :
    Calls Tryz.prog 152 #[a, b] w (RetV w m fun m' v => ∃ r, v = .tuple #[r, .int .i64 0] ∧ FracC m' r (Rat.divInt x y)) := by
  obtain ⟨na, A, la, ca, rfl⟩ := hn.lit
  obtain ⟨nb, B', lb, cb, rfl⟩ := hd.lit
  have HX := Lib.hid hx
  have HY := Lib.hid hy
  clear hx hy
  have hL := Loc.start hV
  clear hV
  go_enter Tryz.func152, Tryz.ntmps152
  go_wp2_with (first | ((with_reducible refine kAny ?_); go_skip) | ((first | refine tLo ?_ | (refine tSt ?_; clear hL; intro _ hL; simp only [splice, zq1, zq2, zq3] at hL) | (refine tBx ?_; clear hL; intro _ _ hL _) | (refine tAl ?_; clear hL; intro _ _ hL _)); simp only [Act.put, zq1, zq2, zq3]))
  refine (i_Sign _ y _ _ hL.vw (hd.le leX)).mono ?_
  rintro e W11 ⟨_, m11, rfl, hE, hM11, hV, rfl⟩
  replace hL := hL.call hE (by assumption) hV; clear hE hV
  rw [icmp_gt hy']
  go_wp2_with (first | ((with_reducible refine kAny ?_); go_skip) | ((first | refine tLo ?_ | (refine tSt ?_; clear hL; intro _ hL; simp only [splice, zq1, zq2, zq3] at hL) | (refine tBx ?_; clear hL; intro _ _ hL _) | (refine tAl ?_; clear hL; intro _ _ hL _)); simp only [Act.put, zq1, zq2, zq3]))
  refine (q_reduce _ _ x y _ _ hL.vw (hn.le leX) (hd.le leX) HX.out HY.out hy').mono ?_
  rintro e W12 ⟨v12, m12, rfl, hE, hM12, hV, h12⟩
  replace hL := hL.call hE (by assumption) hV; clear hE hV
  obtain ⟨g12', A12', n12', c12', h12', B12', k12', d12', rfl, h12⟩ := h12.lit
  go_wp2_with (first | ((with_reducible refine kAny ?_); go_skip) | ((first | refine tLo ?_ | (refine tSt ?_; clear hL; intro _ hL; simp only [splice, zq1, zq2, zq3] at hL) | (refine tBx ?_; clear hL; intro _ _ hL _) | (refine tAl ?_; clear hL; intro _ _ hL _)); simp only [Act.put, zq1, zq2, zq3]))
  obtain ⟨p1, p2, p3, p4, _⟩ := (hL.at_ lo0).facts4
  refine bodyPost_ret (v := .tuple #[.agg #[.bool g12', .slice A12' n12' c12', .bool h12', .slice B12' k12' d12'], .int .i64 0]) (by simp [results, Tryz.results152, go_sem, p1, p2, p3, p4]) rfl (RetV.mk hL ⟨_, rfl, h12⟩)

set_option maxRecDepth 100000 in
set_option maxHeartbeats 8000000 in
theorem q_FromInts (x y : Int) (w m : World) (hV : Vw m w) (hx : x.natAbs < 9223372036854775808) (hy : y.natAbs < 9223372036854775808) (hy' : 0 < y) :
    Calls Tryz.prog 94 #[.int .i64 x, .int .i64 y] w (RetV w m fun m' v => ∃ r, v = .tuple #[r, .int .i64 0] ∧ FracC m' r (Rat.divInt x y)) := by
  have K1 : Hid (∀ w m, Vw m w → Calls Tryz.prog 153 #[.int .i64 x] w (RetV w m fun m' r => IntC m' r x)) := by
    show ∀ w m, _
    exact fun w m hV => i_FromInt64 x w m hV (by omega) (by omega)
  have K2 : Hid (∀ w m, Vw m w → Calls Tryz.prog 153 #[.int .i64 y] w (RetV w m fun m' r => IntC m' r y)) := by
    show ∀ w m, _
    exact fun w m hV => i_FromInt64 y w m hV (by omega) (by omega)
  have lx : (digs x.natAbs).length ≤ 1000 := Nat.le_trans (len2 (by omega)) (by omega)
  have ly : (digs y.natAbs).length ≤ 1000 := Nat.le_trans (len2 (by omega)) (by omega)
  have HX : Hid (x.natAbs < 18446744073709551616) := by show _ < _; omega
  have HY : Hid (y.natAbs < 18446744073709551616) := by show _ < _; omega
  clear hx hy
  have hL := Loc.start hV
  clear hV
  go_enter Tryz.func94, Tryz.ntmps94
  go_wp2_with (first | ((with_reducible refine kAny ?_); go_skip) | ((first | (refine tSt ?_; clear hL; intro _ hL; simp only [splice, zq1, zq2, zq3] at hL) | (refine tAl ?_; clear hL; intro _ _ hL _)); simp only [Act.put, zq1, zq2, zq3]))
  refine (K1.out _ _ hL.vw).mono ?_
  rintro e W11 ⟨v11, m11, rfl, hE, hM11, hV, h11⟩
  replace hL := hL.call hE (by assumption) hV; clear hE hV
  obtain ⟨g11', A11', n11', c11', rfl, h11⟩ := h11.lit
  go_wp2_with (first | ((with_reducible refine kAny ?_); go_skip) | ((first | (refine tSt ?_; clear hL; intro _ hL; simp only [splice, zq1, zq2, zq3] at hL) | (refine tAl ?_; clear hL; intro _ _ hL _)); simp only [Act.put, zq1, zq2, zq3]))
  refine (K2.out _ _ hL.vw).mono ?_
  rintro e W12 ⟨v12, m12, rfl, hE, hM12, hV, h12⟩
  replace hL := hL.call hE (by assumption) hV; clear hE hV
  obtain ⟨g12', A12', n12', c12', rfl, h12⟩ := h12.lit
  go_wp2_with (first | ((with_reducible refine kAny ?_); go_skip) | ((first | (refine tSt ?_; clear hL; intro _ hL; simp only [splice, zq1, zq2, zq3] at hL) | (refine tAl ?_; clear hL; intro _ _ hL _)); simp only [Act.put, zq1, zq2, zq3]))
  refine (q_New _ _ x y _ _ hL.vw ((h11.toV lx).le leX) (h12.toV ly) HX.out HY.out hy').mono ?_
  rintro e W13 ⟨_, m13, rfl, hE, hM13, hV, v13, rfl, h13⟩
  replace hL := hL.call hE (by assumption) hV; clear hE hV
  obtain ⟨g, A, n, c, h, B, k, d, rfl, h13⟩ := h13.lit
  go_wp2_with (first | ((with_reducible refine kAny ?_); go_skip) | ((first | (refine tSt ?_; clear hL; intro _ hL; simp only [splice, zq1, zq2, zq3] at hL) | (refine tAl ?_; clear hL; intro _ _ hL _)); simp only [Act.put, zq1, zq2, zq3]))
  obtain ⟨p1, p2, p3, p4, _⟩ := (hL.at_ lo0).facts4
  refine bodyPost_ret (v := .tuple #[.agg #[.bool g, .slice A n c, .bool h, .slice B k d], .int .i64 0]) (by simp [results, Tryz.results94, go_sem, p1, p2, p3, p4]) rfl (RetV.mk hL ⟨_, rfl, h13⟩)
end Go.Proofs.YtmhkmmmompediaaGreat

/- Contract of integer.ToInt64 for numbers below 2^62; lagrange.whole. -/
namespace Go.Proofs.YtmhkmmmompediaaGreat
open Go.RowKit

theorem neg_conv (n : Nat) (h : n < 4611686018427387904) : wrap64 (IntKind.u64.wrap (-(n : Int))) = -(n : Int) := by
  unfold wrap64; rw [IntKind.wrap_u64]; omega
theorem pos_conv (n : Nat) (h : n < 4611686018427387904) : wrap64 (n : Int) = n := by unfold wrap64; omega

set_option maxRecDepth 100000 in
set_option maxHeartbeats 8000000 in
theorem i_ToInt64 (v : Value) (z : Int) (w m : World) (hV : Vw m w) (h : IntV m v z) (hz : z.natAbs < 4611686018427387904) :
    Calls Tryz.prog 87 #[v] w (RetV w m fun _ r => r = .tuple #[.int .i64 z, .int .i64 0]) := by
  obtain ⟨g, A, l, c, rfl⟩ := h.lit
  obtain ⟨hd, hg⟩ := h.digA
  have l2 : (digs z.natAbs).length ≤ 2 := len2 (by omega)
  have HZ : Hid (z.natAbs < 18446744073709551616) := by show _ < _; omega
  have HZ2 := Lib.hid hz
  have E1 : Hid (z ≠ 0 → g = true → -(z.natAbs : Int) = z) := fun h0 h => by have := hg h0; rw [this] at h; simp at h; omega
  have E2 : Hid (z ≠ 0 → g = false → (z.natAbs : Int) = z) := fun h0 h => by have := hg h0; rw [this] at h; simp at h; omega
  have hL := Loc.start hV
  clear hV hz hg
  go_enter Tryz.func87, Tryz.ntmps87
  go_wp2_with (first | ((with_reducible refine kAny ?_); go_skip) | ((first | refine tLo ?_ | (refine tBx ?_; clear hL; intro _ _ hL _)); simp only [Act.put, zq1, zq2, zq3]))
  refine (i_trim _ z.natAbs _ _ hL.vw (hd.le leX)).mono ?_
  rintro e W11 ⟨v11, m11, rfl, hE, hM11, hV, h11⟩
  replace hL := hL.call hE (by assumption) hV; clear hE hV
  obtain ⟨A1, c1, rfl, h11⟩ := h11.lit
  have H11 := Lib.hid h11
  clear h11
  generalize hnl : (digs z.natAbs).length = nl at *
  have t1 : decide (2 < nl) = false := by simp; omega
  have t2 : ¬ 2 < nl := by omega
  clear hnl
  go_wp2_with (first | ((with_reducible refine kAny ?_); go_skip) | ((first | refine tLo ?_ | (refine tBx ?_; clear hL; intro _ _ hL _)); simp only [Act.put, zq1, zq2, zq3]))
  have h11 := H11.out
  refine (i_toWord _ z.natAbs _ _ hL.vw (h11.le leX) HZ.out).mono ?_
  rintro e W12 ⟨_, m12, rfl, hE, hM12, hV, rfl⟩
  replace hL := hL.call hE (by assumption) hV; clear hE hV
  clear h11 H11 HZ
  have E3 : Hid (z = 0 → ((z.natAbs : Nat) : Int) = z ∧ -((z.natAbs : Nat) : Int) = z) := fun h => by subst h; simp
  have F1 : Hid (g = true → -((z.natAbs : Nat) : Int) = z) := fun h => by
    by_cases h0 : z = 0
    · exact (E3.out h0).2
    · exact E1.out h0 h
  have F2 : Hid (g = false → ((z.natAbs : Nat) : Int) = z) := fun h => by
    by_cases h0 : z = 0
    · exact (E3.out h0).1
    · exact E2.out h0 h
  clear E1 E2 E3
  have hz := HZ2.out
  have b2 : (z.natAbs : Int) < 9223372036854775808 := by omega
  have hnc := neg_conv z.natAbs hz
  have hpc := pos_conv z.natAbs hz
  clear HZ2 hz hd h
  generalize ((z.natAbs : Nat) : Int) = N at *
  have b3 : N ≤ 9223372036854775808 := by omega
  have HN := Lib.hid hnc
  have HP := Lib.hid hpc
  clear hnc hpc
  cases g
  · have e := Lib.hid (F2.out rfl)
    clear F1 F2
    go_wp2_with (first | ((with_reducible refine kAny ?_); go_skip) | ((first | refine tLo ?_ | (refine tBx ?_; clear hL; intro _ _ hL _)); simp only [Act.put, zq1, zq2, zq3]))
    go_ret2
    first
      | exact RetV.mk hL (congrArg (fun t => Value.tuple #[.int .i64 t, .int .i64 0]) e.out)
      | exact RetV.mk hL (congrArg (fun t => Value.tuple #[.int .i64 t, .int .i64 0]) (HP.out.trans e.out))
  · have e := Lib.hid (F1.out rfl)
    clear F1 F2
    go_wp2_with (first | ((with_reducible refine kAny ?_); go_skip) | ((first | refine tLo ?_ | (refine tBx ?_; clear hL; intro _ _ hL _)); simp only [Act.put, zq1, zq2, zq3]))
    go_ret2
    exact RetV.mk hL (congrArg (fun t => Value.tuple #[.int .i64 t, .int .i64 0]) (HN.out.trans e.out))
end Go.Proofs.YtmhkmmmompediaaGreat

/- Contract of rational.parts for a positive denominator. -/
namespace Go.Proofs.YtmhkmmmompediaaGreat
open Go.RowKit

set_option maxRecDepth 100000 in
set_option maxHeartbeats 8000000 in
theorem q_parts (v : Value) (q : Rat) (w m : World) (hV : Vw m w) (h : FracC m v q) (hl : (digs (q.den : Int).natAbs).length ≤ 1000) :
    Calls Tryz.prog 135 #[v] w (RetV w m fun m' r => ∃ a b, r = .tuple #[a, b] ∧ IntC m' a q.num ∧ IntC m' b q.den) := by
  obtain ⟨g, A, n, c, g', B, n', c', rfl, h⟩ := h.lit
  obtain ⟨a1, a2⟩ := h.open_
  have hp : (0 : Int) < q.den := by have := q.den_pos; omega
  have hL := Loc.start hV
  clear hV h
  go_enter Tryz.func135, Tryz.ntmps135
  go_upto_region 0 with (fail)
  refine wp_region_lit ?_
  refine t_box hL rfl rfl ?_; clear hL; intro W1 m1 hL e1; simp only [Act.put, zq1, zq2, zq3]
  refine t_alloc hL rfl ?_; clear hL; intro W2 m2 hL e2; simp only [Act.put, zq1, zq2, zq3]
  refine t_alloc hL rfl ?_; clear hL; intro W3 m3 hL e3; simp only [Act.put, zq1, zq2, zq3]
  go_wp2_with (first | ((with_reducible refine kAny ?_); go_skip) | ((first | refine tLo ?_ | (refine tSt ?_; clear hL; intro _ hL; simp only [splice, zq1, zq2, zq3] at hL) | (refine tBx ?_; clear hL; intro _ _ hL _) | (refine tAl ?_; clear hL; intro _ _ hL _)); simp only [Act.put, zq1, zq2, zq3]))
  refine (i_Sign _ (q.den : Int) _ _ hL.vw ((a2.toV hl).le leX)).mono ?_
  rintro e W11 ⟨_, m11, rfl, hE, hM11, hV, rfl⟩
  replace hL := hL.call hE (by assumption) hV; clear hE hV
  rw [icmp_gt hp]
  go_upto_region 6 with ((first | ((with_reducible refine kAny ?_); go_skip) | ((first | refine tLo ?_ | (refine tSt ?_; clear hL; intro _ hL; simp only [splice, zq1, zq2, zq3] at hL) | (refine tBx ?_; clear hL; intro _ _ hL _) | (refine tAl ?_; clear hL; intro _ _ hL _)); simp only [Act.put, zq1, zq2, zq3])))
  obtain ⟨p1, p2, p3, p4⟩ := (hL.at_ lo0).facts2
  obtain ⟨p5, p6, p7, p8⟩ := (hL.at_ lo1).facts2
  obtain ⟨r1, r2, r3, r4, _⟩ := (hL.at_ lo2).facts4
  obtain ⟨n1, n2⟩ := hL.ne lo0 lo1 (by omega)
  obtain ⟨n3, n4⟩ := hL.ne lo0 lo2 (by omega)
  obtain ⟨n5, n6⟩ := hL.ne lo1 lo2 (by omega)
  go_region_held3 (fun w' => w'.cell? ⟨w.heap.size, 0, none⟩ = some (.bool g) ∧ w'.cell? ⟨w.heap.size, 1, none⟩ = some (.slice A n c) ∧ w'.cell? ⟨w.heap.size, 2, none⟩ = some (.bool g') ∧ w'.cell? ⟨w.heap.size, 3, none⟩ = some (.slice B n' c')) (go_keep) (fail)
  go_wp2_with fail
  refine bodyPost_ret (v := .tuple #[.agg #[.bool g, .slice A n c], .agg #[.bool g', .slice B n' c']]) (by simp [results, Tryz.results135, go_sem, *]) rfl (RetV.mk ((hL.drew.store lo1 0 [.bool g, .slice A n c]).store lo0 0 [.bool g', .slice B n' c']) ⟨_, _, rfl, a1.le leX, a2.le leX⟩)
end Go.Proofs.YtmhkmmmompediaaGreat

/- Contract of lagrange.whole. -/
namespace Go.Proofs.YtmhkmmmompediaaGreat
open Go.RowKit

set_option maxRecDepth 100000 in
set_option maxHeartbeats 8000000 in
theorem l_whole (z : Int) (w m : World) (hV : Vw m w) (h1 : z.natAbs < 1073741824) :
    Calls Tryz.prog 71 #[.int .i64 z] w (RetV w m fun m' r => FracC m' r (z : Rat)) := by
  have hq : Hid (Rat.divInt z 1 = (z : Rat)) := by show _ = _; rw [← Rat.num_divInt_den (z : Rat)]; simp
  have K : Hid (∀ w m, Vw m w → Calls Tryz.prog 94 #[.int .i64 z, .int .i64 1] w (RetV w m fun m' v => ∃ r, v = .tuple #[r, .int .i64 0] ∧ FracC m' r (Rat.divInt z 1))) := by
    show ∀ w m, _
    exact fun w m hV => q_FromInts z 1 w m hV (by omega) (by decide) (by omega)
  have hL := Loc.start hV
  clear hV h1
  go_enter Tryz.func71, Tryz.ntmps71
  go_wp2_with (first | ((with_reducible refine kAny ?_); go_skip) | ((first | refine tLo ?_ | (refine tSt ?_; clear hL; intro _ hL; simp only [splice, zq1, zq2, zq3] at hL) | (refine tAl ?_; clear hL; intro _ _ hL _)); simp only [Act.put, zq1, zq2, zq3]))
  refine (K.out _ _ hL.vw).mono ?_
  rintro e W11 ⟨_, m11, rfl, hE, hM11, hV, va, rfl, h1⟩
  replace hL := hL.call hE (by assumption) hV; clear hE hV
  obtain ⟨g, A, n, c, g', B', n', c', rfl, h1⟩ := h1.lit
  go_wp2_with (first | ((with_reducible refine kAny ?_); go_skip) | ((first | refine tLo ?_ | (refine tSt ?_; clear hL; intro _ hL; simp only [splice, zq1, zq2, zq3] at hL) | (refine tAl ?_; clear hL; intro _ _ hL _)); simp only [Act.put, zq1, zq2, zq3]))
  refine fin_agg hL Tryz.results71 rfl rfl loX AgC.h (by exact rfl) ?_
  rw [← hq.out]; exact h1.le leX

theorem FracC.toS {m : World} {v : Value} {q : Rat} (h : FracC m v q) (hs : Sm q.num q.den) : FracS m v q.num q.den := by
  obtain ⟨a, b, c, d, e, h1, h2⟩ := h
  exact ⟨a, b, c, d, e, h1.toS (by have := hs.1; omega), h2.toS (by have := hs.2; omega), by have := hs.1; omega, by have := hs.2; omega⟩
theorem pN_pos (q : Rat) : pN q.num q.den = q.num ∧ pD (q.den : Int) = q.den := by
  have := q.den_pos
  unfold pN pD
  rw [if_neg (by omega), if_neg (by omega), if_neg (by omega), if_neg (by omega)]
  exact ⟨rfl, rfl⟩
/-- The smaller one, as the program tells it. -/
def lmin (p q : Rat) : Rat := if q.num * p.den < p.num * q.den then q else p

set_option maxRecDepth 100000 in
set_option maxHeartbeats 8000000 in
theorem l_smaller (a b : Value) (p q : Rat) (w m : World) (hV : Vw m w) (ha : FracC m a p) (hb : FracC m b q) (hp : Sm p.num p.den) (hq : Sm q.num q.den) :
    Calls Tryz.prog 73 #[a, b] w (RetV w m fun m' r => FracC m' r (lmin p q)) := by
  obtain ⟨g1, A1, n1, c1, h1, B1, k1, d1, rfl, ha⟩ := ha.lit
  obtain ⟨g2, A2, n2, c2, h2, B2, k2, d2, rfl, hb⟩ := hb.lit
  have hL := Loc.start hV
  clear hV
  go_enter Tryz.func73, Tryz.ntmps73
  go_wp2_with (first | ((with_reducible refine kAny ?_); go_skip) | ((first | refine tLo ?_ | (refine tSt ?_; clear hL; intro _ hL; simp only [splice, zq1, zq2, zq3] at hL) | (refine tBx ?_; clear hL; intro _ _ hL _) | (refine tAl ?_; clear hL; intro _ _ hL _)); simp only [Act.put, zq1, zq2, zq3]))
  refine (q_Compare _ _ q.num q.den p.num p.den _ _ hL.vw ((hb.toS hq).le leX) ((ha.toS hp).le leX) hq hp).mono ?_
  rintro e W11 ⟨_, m11, rfl, hE, hM11, hV, rfl⟩
  replace hL := hL.call hE (by assumption) hV; clear hE hV
  rw [(pN_pos p).1, (pN_pos p).2, (pN_pos q).1, (pN_pos q).2]
  by_cases hc : q.num * p.den < p.num * q.den
  · rw [icmp_lt hc]
    have E : Hid (lmin p q = q) := if_pos hc
    clear hc
    go_wp2_with (first | ((with_reducible refine kAny ?_); go_skip) | ((first | refine tLo ?_ | (refine tSt ?_; clear hL; intro _ hL; simp only [splice, zq1, zq2, zq3] at hL) | (refine tBx ?_; clear hL; intro _ _ hL _) | (refine tAl ?_; clear hL; intro _ _ hL _)); simp only [Act.put, zq1, zq2, zq3]))
    refine fin_agg hL Tryz.results73 rfl rfl loX AgC.h (by exact rfl) ?_
    rw [E.out]; exact hb.le leX
  · have E : Hid (lmin p q = p) := if_neg hc
    have hn : ¬ icmp (q.num * p.den) (p.num * q.den) < 0 := by
      unfold icmp; rw [if_neg hc]; split <;> omega
    generalize icmp (q.num * p.den) (p.num * q.den) = s at *
    clear hc
    go_wp2_with (first | ((with_reducible refine kAny ?_); go_skip) | ((first | refine tLo ?_ | (refine tSt ?_; clear hL; intro _ hL; simp only [splice, zq1, zq2, zq3] at hL) | (refine tBx ?_; clear hL; intro _ _ hL _) | (refine tAl ?_; clear hL; intro _ _ hL _)); simp only [Act.put, zq1, zq2, zq3]))
    refine fin_agg hL Tryz.results73 rfl rfl loX AgC.h (by exact rfl) ?_
    rw [E.out]; exact ha.le leX
end Go.Proofs.YtmhkmmmompediaaGreat

/- Contract of pairingdata.At. -/
namespace Go.Proofs.YtmhkmmmompediaaGreat
open Go.RowKit

theorem i64_and16 (n : Int) : bits .and .i64 n 65535 = n % 65536 := by
  have h127 : (BitVec.ofInt 64 65535).toNat = 2 ^ 16 - 1 := by decide
  have key : (BitVec.ofInt 64 n &&& BitVec.ofInt 64 65535).toNat = (n % ((2 ^ 64 : Nat) : Int)).toNat % 2 ^ 16 := by
    rw [BitVec.toNat_and, BitVec.toNat_ofInt, h127, Nat.and_two_pow_sub_one_eq_mod]
  show IntKind.i64.wrap ((BitVec.ofInt 64 n &&& BitVec.ofInt 64 65535).toNat : Nat) = n % 65536
  rw [key, IntKind.wrap_i64]
  omega

def I64 (z : Int) : Value := .int .i64 z
/-- What At computes. -/
def atF (l : List Int) (i : Nat) : Int := if l.length = 0 then (i : Int) % 65536 else l.getD (i % l.length) 0 % 65536 + ((i / l.length : Nat) : Int)
theorem Sl.int {w : World} {A : Option Addr} {l : List Int} {k : Nat} (h : Sl w A (l.map I64)) (hk : k < l.length) :
    ∃ b off, A = some ⟨b, off, none⟩ ∧ b < w.heap.size ∧ w.cell? ⟨b, off + k, none⟩ = some (.int .i64 (l.getD k 0)) := by
  obtain ⟨b, off, e, hlt, hc⟩ := h.at_ (k := k) (by simpa using hk)
  refine ⟨b, off, e, hlt, hc.trans ?_⟩
  simp [I64, hk]

theorem at_val (z : Int) (i n : Nat) (h : i / n ≤ 1000) : wrap64 (z % 65536 + wrap64 ((i : Int) / (n : Int))) = z % 65536 + ((i / n : Nat) : Int) := by
  have e : (i : Int) / (n : Int) = ((i / n : Nat) : Int) := by simp
  rw [e]
  generalize i / n = k at *
  unfold wrap64
  omega
set_option maxRecDepth 100000 in
set_option maxHeartbeats 4000000 in
theorem d_At (A : Option Addr) (c : Nat) (l : List Int) (i : Nat) (w m : World) (hV : Vw m w) (h : Sl m A (l.map I64)) (hi : i ≤ 1000) :
    Calls Tryz.prog 62 #[.slice A l.length c, .int .i64 i] w (RetV w m fun _ r => r = .int .i64 (atF l i)) := by
  replace h := h.le hV.le
  by_cases h0 : l.length = 0
  · have E : Hid (atF l i = (i : Int) % 65536) := if_pos h0
    have e := i64_and16 (i : Int)
    rw [h0]
    go_enter Tryz.func62, Tryz.ntmps62
    go_wp2
    go_ret
    exact RetV.val hV ⟨congrArg (fun t => Ending.returned (Value.int .i64 t)) E.out.symm, Ext.refl _⟩
  · have E : Hid (atF l i = l.getD (i % l.length) 0 % 65536 + ((i / l.length : Nat) : Int)) := if_neg h0
    have hlt : i % l.length < l.length := Nat.mod_lt _ (by omega)
    obtain ⟨b, off, rfl, hb, hc⟩ := h.int hlt
    have e := i64_and16 (l.getD (i % l.length) 0)
    generalize l.getD (i % l.length) 0 = z at *
    have hq : i / l.length ≤ 1000 := Nat.le_trans (Nat.div_le_self _ _) hi
    have h1 : ((l.length : Int) == 0) = false := by simp [h0]
    have h2 : ¬ (l.length : Int) = 0 := by omega
    have HQ := Lib.hid hq
    clear h0 hq
    generalize l.length = n at *
    go_enter Tryz.func62, Tryz.ntmps62
    go_wp2_with fail
    go_quiet (fail)
    go_wp2_with fail
    go_ret
    exact RetV.val hV ⟨congrArg (fun t => Ending.returned (Value.int .i64 t)) ((at_val z i n HQ.out).trans E.out.symm), (Ext.refl _).drewN _⟩
end Go.Proofs.YtmhkmmmompediaaGreat

/- Contract of pairingdata.Frac. -/
namespace Go.Proofs.YtmhkmmmompediaaGreat
open Go.RowKit

theorem i64_and4 (n : Int) : bits .and .i64 n 15 = n % 16 := by
  have h127 : (BitVec.ofInt 64 15).toNat = 2 ^ 4 - 1 := by decide
  have key : (BitVec.ofInt 64 n &&& BitVec.ofInt 64 15).toNat = (n % ((2 ^ 64 : Nat) : Int)).toNat % 2 ^ 4 := by
    rw [BitVec.toNat_and, BitVec.toNat_ofInt, h127, Nat.and_two_pow_sub_one_eq_mod]
  show IntKind.i64.wrap ((BitVec.ofInt 64 n &&& BitVec.ofInt 64 15).toNat : Nat) = n % 16
  rw [key, IntKind.wrap_i64]
  omega
theorem i64_and2 (n : Int) : bits .and .i64 n 3 = n % 4 := by
  have h127 : (BitVec.ofInt 64 3).toNat = 2 ^ 2 - 1 := by decide
  have key : (BitVec.ofInt 64 n &&& BitVec.ofInt 64 3).toNat = (n % ((2 ^ 64 : Nat) : Int)).toNat % 2 ^ 2 := by
    rw [BitVec.toNat_and, BitVec.toNat_ofInt, h127, Nat.and_two_pow_sub_one_eq_mod]
  show IntKind.i64.wrap ((BitVec.ofInt 64 n &&& BitVec.ofInt 64 3).toNat : Nat) = n % 4
  rw [key, IntKind.wrap_i64]
  omega
theorem w64' (z : Int) (h1 : -1000 ≤ z) (h2 : z ≤ 1000) : wrap64 z = z := by unfold wrap64; omega
def fN (n : Int) : Int := n % 16 - 5
def fD (n : Int) : Int := 1 + n / 16 % 4
def frF (n : Int) : Rat := (fN n : Rat) / (fD n : Rat)
theorem fN_bd (n : Int) : -5 ≤ fN n ∧ fN n ≤ 10 := by unfold fN; omega
theorem fD_bd (n : Int) : 1 ≤ fD n ∧ fD n ≤ 4 := by unfold fD; omega
theorem fit_int (z : Int) (h : z.natAbs < 4294967296) : Fit 200 (z : Rat) := by
  refine Fit.mono (k := 1) ⟨?_, ?_⟩ (by omega)
  · simpa using h
  · simp

set_option maxRecDepth 100000 in
set_option maxHeartbeats 4000000 in
theorem d_Frac (n : Int) (w m : World) (hV : Vw m w) (h1 : -9223372036854775808 ≤ n) (h2 : n ≤ 9223372036854775807) :
    Calls Tryz.prog 64 #[.int .i64 n] w (RetV w m fun m' r => FracC m' r (frF n)) := by
  have e1 := i64_and4 n
  have e2 := i64_and2 (n / 16)
  have k1 := fit_int (n % 16 - 5) (by omega)
  have k2 := fit_int (1 + n / 16 % 4) (by omega)
  have hL := Loc.start hV
  clear hV h1 h2
  go_enter Tryz.func64, Tryz.ntmps64
  go_wp2_with (first | ((with_reducible refine kAny ?_); go_skip) | ((first | (refine tSt ?_; clear hL; intro _ hL; simp only [splice, zq1, zq2, zq3] at hL) | (refine tAl ?_; clear hL; intro _ _ hL _)); simp only [Act.put, zq1, zq2, zq3]))
  refine (r_Int (n % 16 - 5) _ _ hL.vw (by omega) (by omega)).mono ?_
  rintro e W11 ⟨v11, m11, rfl, hE, hM11, hV, h11⟩
  replace hL := hL.call hE (by assumption) hV; clear hE hV
  obtain ⟨g11', A11', n11', c11', h11', B11', k11', d11', rfl, h11⟩ := h11.lit
  go_wp2_with (first | ((with_reducible refine kAny ?_); go_skip) | ((first | (refine tSt ?_; clear hL; intro _ hL; simp only [splice, zq1, zq2, zq3] at hL) | (refine tAl ?_; clear hL; intro _ _ hL _)); simp only [Act.put, zq1, zq2, zq3]))
  refine (r_Int (1 + n / 16 % 4) _ _ hL.vw (by omega) (by omega)).mono ?_
  rintro e W12 ⟨v12, m12, rfl, hE, hM12, hV, h12⟩
  replace hL := hL.call hE (by assumption) hV; clear hE hV
  obtain ⟨g12', A12', n12', c12', h12', B12', k12', d12', rfl, h12⟩ := h12.lit
  go_wp2_with (first | ((with_reducible refine kAny ?_); go_skip) | ((first | (refine tSt ?_; clear hL; intro _ hL; simp only [splice, zq1, zq2, zq3] at hL) | (refine tAl ?_; clear hL; intro _ _ hL _)); simp only [Act.put, zq1, zq2, zq3]))
  refine (r_Div _ _ _ _ _ _ hL.vw ((h11.toV k1 (by omega)).le leX) (h12.toV k2 (by omega)) k1 k2).mono ?_
  rintro e W13 ⟨v13, m13, rfl, hE, hM13, hV, h13⟩
  replace hL := hL.call hE (by assumption) hV; clear hE hV
  obtain ⟨g13', A13', n13', c13', h13', B13', k13', d13', rfl, h13⟩ := h13.lit
  go_wp2_with (first | ((with_reducible refine kAny ?_); go_skip) | ((first | (refine tSt ?_; clear hL; intro _ hL; simp only [splice, zq1, zq2, zq3] at hL) | (refine tAl ?_; clear hL; intro _ _ hL _)); simp only [Act.put, zq1, zq2, zq3]))
  refine fin_agg hL Tryz.results64 rfl rfl loX AgC.h (by exact rfl) ?_
  exact h13
end Go.Proofs.YtmhkmmmompediaaGreat

/- Contract of pairingref1.ToInt64 for numbers below 2^62. -/
namespace Go.Proofs.YtmhkmmmompediaaGreat
open Go.RowKit

theorem c_digit (v : Value) (n i : Nat) (w m : World) (hV : Vw m w) (h : DigV m v (digs n)) (hi : i ≤ 1000) (hn : (digs n).length ≤ 1000) :
    Calls Tryz.prog 148 #[v, .int .i64 i] w (RetV w m fun _ r => r = .int .u64 (((digs n)[i]?.getD 0 : Nat) : Int)) := by
  obtain ⟨A, c, rfl, hc, hs⟩ := h
  refine (r1_digit A c (digs n) i w (hs.le hV.le) (by omega) (by omega) (Dg_digs n)).mono ?_
  rintro e w' ⟨rfl, rfl⟩
  exact RetV.same hV (by rw [List.getD_eq_getElem?_getD])
theorem digs_parts (n : Nat) (h : n < 18446744073709551616) : (digs n).getD 0 0 = n % 4294967296 ∧ (digs n).getD 1 0 = n / 4294967296 := by
  by_cases h0 : n = 0
  · subst h0; rw [digs_zero]; simp
  · by_cases h1 : n < 4294967296
    · rw [digs_small h0 h1]; simp; omega
    · rw [digs_two (by omega) h]; simp
theorem or_val (n : Nat) (h : n < 18446744073709551616) : bits .or .u64 ((n % 4294967296 : Nat) : Int) (IntKind.u64.wrap (((n / 4294967296 : Nat) : Int) * 4294967296)) = (n : Int) := by
  have hq : n / 4294967296 < 4294967296 := by omega
  have hp : n % 4294967296 < 4294967296 := Nat.mod_lt _ (by omega)
  have e : IntKind.u64.wrap (((n / 4294967296 : Nat) : Int) * 4294967296) = ((2 ^ 32 * (n / 4294967296) : Nat) : Int) := by rw [IntKind.wrap_u64]; omega
  rw [e, u64_or_nat _ _ (by omega) (by omega), Nat.or_comm, ← Nat.two_pow_add_eq_or_of_lt (i := 32) (by omega)]
  omega

set_option maxRecDepth 100000 in
set_option maxHeartbeats 8000000 in
theorem c_ToInt64 (v : Value) (z : Int) (w m : World) (hV : Vw m w) (h : IntV m v z) (hz : z.natAbs < 4611686018427387904) :
    Calls Tryz.prog 90 #[v] w (RetV w m fun _ r => r = .tuple #[.int .i64 z, .int .i64 0]) := by
  obtain ⟨g, A, l, c, rfl⟩ := h.lit
  have l2 : (digs z.natAbs).length ≤ 2 := len2 (by omega)
  have HZ := Lib.hid hz
  have hL := Loc.start hV
  clear hV hz
  go_enter Tryz.func90, Tryz.ntmps90
  go_wp2_with (first | ((with_reducible refine kAny ?_); go_skip) | ((first | refine tLo ?_ | (refine tSt ?_; clear hL; intro _ hL; simp only [splice, zq1, zq2, zq3] at hL) | (refine tBx ?_; clear hL; intro _ _ hL _)); simp only [Act.put, zq1, zq2, zq3]))
  refine (c_Canon _ z _ _ hL.vw (h.le leX)).mono ?_
  rintro e W11 ⟨v11, m11, rfl, hE, hM11, hV, h11⟩
  replace hL := hL.call hE (by assumption) hV; clear hE hV
  obtain ⟨g11', A11', n11', c11', rfl, h11⟩ := h11.lit
  obtain ⟨hg, hn, hd⟩ := h11.dig
  have HG := Lib.hid hg
  have HD := Lib.hid hd
  have t1 : decide (2 < n11') = false := by simp; omega
  have t2 : ¬ 2 < n11' := by omega
  clear hg hn hd l2
  go_upto_region 4 with ((first | ((with_reducible refine kAny ?_); go_skip) | ((first | refine tLo ?_ | (refine tSt ?_; clear hL; intro _ hL; simp only [splice, zq1, zq2, zq3] at hL) | (refine tBx ?_; clear hL; intro _ _ hL _)); simp only [Act.put, zq1, zq2, zq3])))
  have hd := HD.out
  refine wp_region_by 8 [false, false, false, false, false, false, false, false] [(fun v _ _ => v = ?c4_0), (fun v _ _ => v = ?c4_1), Is (.int .u64 (((digs z.natAbs)[0]?.getD 0 : Nat) : Int)), (fun v _ _ => v = ?c4_3), (fun v _ _ => v = ?c4_4), Is (.int .u64 (((digs z.natAbs)[1]?.getD 0 : Nat) : Int)), (fun v _ _ => v = ?c4_6), (fun v _ _ => v = ?c4_7)] hL.vw mixed [11, 12, 13, 14, 15, 16, 17, 18] _ (by kernel_rfl) (fun vs => by simp only [lay, Act.put, zq1, zq2, zq3]; rfl) (by kernel_rfl) ?s4 ?r4
  case s4 =>
    refine ⟨?_, ?_, ?_, ?_, ?_, ?_, ?_, ?_, trivial⟩
    · intro vs W1 m1 hE hM hV hD
      clear hD
      replace hL := hL.call hE hM hV
      go_wp2_with (first | ((with_reducible refine kAny ?_); go_skip) | ((first | refine tLo ?_ | (refine tSt ?_; clear hL; intro _ hL; simp only [splice, zq1, zq2, zq3] at hL) | (refine tBx ?_; clear hL; intro _ _ hL _)); simp only [Act.put, zq1, zq2, zq3]))
      refine One.still hV ?_; exact rfl
    · intro vs W1 m1 hE hM hV hD
      obtain ⟨⟨_, _, -, -, f11⟩, -⟩ := hD
      have f11 : vs 11 = _ := f11
      generalize vs 11 = x11 at f11 ⊢
      subst x11
      replace hL := hL.call hE hM hV
      exact sLd
    · intro vs W1 m1 hE hM hV hD
      obtain ⟨⟨_, _, -, -, f12⟩, -⟩ := hD
      have f12 : vs 12 = _ := f12
      generalize vs 12 = x12 at f12 ⊢
      subst x12
      go_wp2_with fail
      refine (c_digit _ z.natAbs 0 _ _ hV (hd.le leX) (by omega) (Nat.le_trans (len2 (by have := HZ.out; omega)) (by omega))).mono ?_
      rintro e W2 ⟨v, m2, rfl, hE2, hM2, hV2, h⟩
      go_wp2_with fail
      refine One.call hE2 hM2 hV2 ?_; first | exact h | exact rfl
    · intro vs W1 m1 hE hM hV hD
      clear hD
      replace hL := hL.call hE hM hV
      go_wp2_with (first | ((with_reducible refine kAny ?_); go_skip) | ((first | refine tLo ?_ | (refine tSt ?_; clear hL; intro _ hL; simp only [splice, zq1, zq2, zq3] at hL) | (refine tBx ?_; clear hL; intro _ _ hL _)); simp only [Act.put, zq1, zq2, zq3]))
      refine One.still hV ?_; exact rfl
    · intro vs W1 m1 hE hM hV hD
      obtain ⟨⟨_, _, -, -, f14⟩, -⟩ := hD
      have f14 : vs 14 = _ := f14
      generalize vs 14 = x14 at f14 ⊢
      subst x14
      replace hL := hL.call hE hM hV
      exact sLd
    · intro vs W1 m1 hE hM hV hD
      obtain ⟨⟨_, _, -, -, f15⟩, -, -⟩ := hD
      have f15 : vs 15 = _ := f15
      generalize vs 15 = x15 at f15 ⊢
      subst x15
      go_wp2_with fail
      refine (c_digit _ z.natAbs 1 _ _ hV (hd.le leX) (by omega) (Nat.le_trans (len2 (by have := HZ.out; omega)) (by omega))).mono ?_
      rintro e W2 ⟨v, m2, rfl, hE2, hM2, hV2, h⟩
      go_wp2_with fail
      refine One.call hE2 hM2 hV2 ?_; first | exact h | exact rfl
    · intro vs W1 m1 hE hM hV hD
      obtain ⟨⟨_, _, -, -, f16⟩, -⟩ := hD
      have f16 : vs 16 = _ := f16
      generalize vs 16 = x16 at f16 ⊢
      subst x16
      replace hL := hL.call hE hM hV
      exact sPu
    · intro vs W1 m1 hE hM hV hD
      obtain ⟨⟨_, _, -, -, f13⟩, ⟨_, _, -, -, f17⟩, -⟩ := hD
      have f13 : vs 13 = _ := f13
      generalize vs 13 = x13 at f13 ⊢
      subst x13
      have f17 : vs 17 = _ := f17
      generalize vs 17 = x17 at f17 ⊢
      subst x17
      replace hL := hL.call hE hM hV
      exact sPu
  intro vs W1 m1 hE hM hV hF hD
  clear hD
  obtain ⟨-, -, -, -, -, -, -, ⟨_, _, -, -, f18⟩, -⟩ := hF
  replace hL := hL.call hE hM hV
  have f18 : vs 18 = _ := f18
  generalize vs 18 = x18 at f18 ⊢
  subst x18
  clear hE hV
  simp only [List.drop_succ_cons, List.drop_zero]
  have hz := HZ.out
  have ev : bits .or .u64 (((digs z.natAbs)[0]?.getD 0 : Nat) : Int) (IntKind.u64.wrap ((((digs z.natAbs)[1]?.getD 0 : Nat) : Int) * 4294967296)) = (z.natAbs : Int) := by
    have hp := digs_parts z.natAbs (by omega)
    simp only [List.getD_eq_getElem?_getD] at hp
    rw [hp.1, hp.2]
    exact or_val _ (by omega)
  rw [ev]
  have b2 : (z.natAbs : Int) < 9223372036854775808 := by omega
  have HN := Lib.hid (neg_conv z.natAbs hz)
  have HP := Lib.hid (pos_conv z.natAbs hz)
  have F1 : Hid (g11' = true → -((z.natAbs : Nat) : Int) = z) := fun h => by have := HG.out; rw [this] at h; simp at h; omega
  have F2 : Hid (g11' = false → ((z.natAbs : Nat) : Int) = z) := fun h => by have := HG.out; rw [this] at h; simp at h; omega
  clear ev hz hd HD HG HZ h h11
  generalize ((z.natAbs : Nat) : Int) = N at *
  have b3 : N ≤ 9223372036854775808 := by omega
  cases g11'
  · have e := Lib.hid (F2.out rfl)
    clear F1 F2
    go_wp2_with (first | ((with_reducible refine kAny ?_); go_skip) | ((first | refine tLo ?_ | (refine tSt ?_; clear hL; intro _ hL; simp only [splice, zq1, zq2, zq3] at hL) | (refine tBx ?_; clear hL; intro _ _ hL _)); simp only [Act.put, zq1, zq2, zq3]))
    go_ret2
    first
      | exact RetV.mk hL (congrArg (fun t => Value.tuple #[.int .i64 t, .int .i64 0]) e.out)
      | exact RetV.mk hL (congrArg (fun t => Value.tuple #[.int .i64 t, .int .i64 0]) (HP.out.trans e.out))
  · have e := Lib.hid (F1.out rfl)
    clear F1 F2
    go_wp2_with (first | ((with_reducible refine kAny ?_); go_skip) | ((first | refine tLo ?_ | (refine tSt ?_; clear hL; intro _ hL; simp only [splice, zq1, zq2, zq3] at hL) | (refine tBx ?_; clear hL; intro _ _ hL _)); simp only [Act.put, zq1, zq2, zq3]))
    go_ret2
    exact RetV.mk hL (congrArg (fun t => Value.tuple #[.int .i64 t, .int .i64 0]) (HN.out.trans e.out))
end Go.Proofs.YtmhkmmmompediaaGreat

/- The rule for regions that draw their order, with pure operations which nothing waits for ('late'): each is taken first as soon as it may come. No program. -/
namespace Go.Proofs.YtmhkmmmompediaaGreat
open Go.RowKit

/-- The block that a pointer or a slice points into. -/
def blkOf : Value → Option Nat
  | .pointer (some a) => some a.block
  | .slice (some a) _ _ => some a.block
  | .agg cs => match cs.toList with
    | [_, .slice (some a) _ _] => some a.block
    | _ => none
  | _ => none
section
variable {P : Program} {ops : Array Oper} {Q : Exit → Act → World → Prop}
/-- What stands in the midst of the region: the flagged operations made blocks of their own. -/
def Mid2 (ops : Array Oper) (n : Nat) (fl : Nat → Bool) (Φ : Nat → Value → World → World → Prop) (a0 : Act) (w0 m0 : World) (L : Array Bool) (a : Act) (w : World) : Prop :=
  ∃ vs m, a = lay (dsts ops n) vs a0 ∧ Ext w0 w ∧ Ext m0 m ∧ Vw m w ∧
    (∀ i o d, i < n → ops[i]? = some o → o.dst = some d → L.getD i false = true → ∃ u um, Ext u w ∧ Ext um m ∧ Φ i (vs d) u um) ∧
    (∀ i o d, i < n → ops[i]? = some o → o.dst = some d → L.getD i false = true → fl i = true → ∀ k, blkOf (vs d) = some k → k < w.heap.size) ∧
    (∀ i j o p d c, i < n → j < n → i ≠ j → ops[i]? = some o → ops[j]? = some p → o.dst = some d → p.dst = some c → L.getD i false = true → L.getD j false = true → fl i = true → fl j = true → ∀ k, blkOf (vs d) = some k → blkOf (vs c) ≠ some k)

/-- What one operation leaves. -/
def One2 (Φ : Value → World → World → Prop) (fl : Bool) (a : Act) (dst : Option Nat) (w m : World) (e : Exit) (a' : Act) (w' : World) : Prop :=
  e = .normal ∧ Ext w w' ∧ ∃ m' v, Ext m m' ∧ Vw m' w' ∧ a' = a.put dst v ∧ Φ v w' m' ∧ (fl = true → ∀ k, blkOf v = some k → w.heap.size ≤ k ∧ k < w'.heap.size)

theorem Mid2.step {n : Nat} {fl : Nat → Bool} {Φ : Nat → Value → World → World → Prop} {a0 : Act} {w0 m0 : World} {L : Array Bool} {a : Act} {w : World} (hdis : distinctB ops n = true)
    (hstep : ∀ i o, i < n → ops[i]? = some o → ∀ vs w m, Ext w0 w → Ext m0 m → Vw m w →
      (∀ e ∈ o.after, Region.binds .any e = true → ∀ p d, e.on < n → ops[e.on]? = some p → p.dst = some d → ∃ u um, Ext u w ∧ Ext um m ∧ Φ e.on (vs d) u um) →
      wpList P ops (One2 (Φ i) (fl i) (lay (dsts ops n) vs a0) o.dst w m) [o] (lay (dsts ops n) vs a0) w)
    (hM : Mid2 ops n fl Φ a0 w0 m0 L a w) {i : Nat} (hr : i ∈ Region.ready .any ops L) (hin : i < n) : wpOp P ops Q i (Mid2 ops n fl Φ a0 w0 m0 (L.setIfInBounds i true)) a w := by
  obtain ⟨vs, m, rfl, hE, hM, hV, hF, hG, hD⟩ := hM
  obtain ⟨hun, o, ho, hdep⟩ := mem_ready.1 hr
  refine wpOp_of_one ho (fun _ _ _ h => h.1) ?_ (hstep i o hin ho vs w m hE hM hV fun e he hb p d hen hp hd => hF _ _ _ hen hp hd (hdep e he hb))
  rintro a' w' ⟨_, hE', m', v, hM', hV', rfl, hv, hfl⟩
  cases hd : o.dst with
  | none =>
    have back : ∀ j p d, ops[j]? = some p → p.dst = some d → (L.setIfInBounds i true).getD j false = true → L.getD j false = true := by
      intro j p d hp hpd hL
      have hne : i ≠ j := by
        rintro rfl
        rw [ho] at hp
        obtain rfl := Option.some.inj hp
        rw [hd] at hpd
        cases hpd
      rw [Go.getD_set_ne false hne] at hL
      exact hL
    refine ⟨vs, m', rfl, hE.trans hE', hM.trans hM', hV', fun j p d hj hp hpd hL => ?_, fun j p d hj hp hpd hL hf => ?_, fun j k p q d c hj hk hjk hp hq hpd hqd hLj hLk hfj hfk => ?_⟩
    · obtain ⟨u, um, h1, h2, h3⟩ := hF j p d hj hp hpd (back j p d hp hpd hL)
      exact ⟨u, um, h1.trans hE', h2.trans hM', h3⟩
    · intro k h1
      exact Nat.lt_of_lt_of_le (hG j p d hj hp hpd (back j p d hp hpd hL) hf k h1) hE'.size
    · exact hD j k p q d c hj hk hjk hp hq hpd hqd (back j p d hp hpd hLj) (back k q c hq hqd hLk) hfj hfk
  | some di =>
    have other : ∀ j p d, j < n → i ≠ j → ops[j]? = some p → p.dst = some d → upd vs di v d = vs d := by
      intro j p d hj hne hp hpd
      have : d ≠ di := by
        rintro rfl
        exact distinct_spec hdis ho hp hin hj hne hd hpd
      simp [upd, this]
    have self : upd vs di v di = v := by simp [upd]
    have new : ∀ j p d, j < n → i ≠ j → ops[j]? = some p → p.dst = some d → L.getD j false = true → fl i = true → fl j = true → ∀ k, blkOf v = some k → blkOf (vs d) ≠ some k := by
      intro j p d hj hne hp hpd hL hfi hfj k h3 h1
      have h2 := hG j p d hj hp hpd hL hfj k h1
      have h4 := (hfl hfi k h3).1
      omega
    refine ⟨upd vs di v, m', lay_put (mem_dsts ho hin hd) vs a0 v, hE.trans hE', hM.trans hM', hV', fun j p d hj hp hpd hL => ?_, fun j p d hj hp hpd hL hf => ?_, fun j k p q d c hj hk hjk hp hq hpd hqd hLj hLk hfj hfk => ?_⟩
    · by_cases hne : i = j
      · subst hne
        rw [ho] at hp
        obtain rfl := Option.some.inj hp
        rw [hd] at hpd
        obtain rfl := Option.some.inj hpd
        exact ⟨w', m', Ext.refl _, Ext.refl _, by rw [self]; exact hv⟩
      · rw [Go.getD_set_ne false hne] at hL
        obtain ⟨u, um, h1, h2, h3⟩ := hF j p d hj hp hpd hL
        exact ⟨u, um, h1.trans hE', h2.trans hM', by rw [other j p d hj hne hp hpd]; exact h3⟩
    · by_cases hne : i = j
      · subst hne
        rw [ho] at hp
        obtain rfl := Option.some.inj hp
        rw [hd] at hpd
        obtain rfl := Option.some.inj hpd
        intro k hk
        rw [self] at hk
        exact (hfl hf k hk).2
      · rw [Go.getD_set_ne false hne] at hL
        intro k hk
        rw [other j p d hj hne hp hpd] at hk
        exact Nat.lt_of_lt_of_le (hG j p d hj hp hpd hL hf k hk) hE'.size
    · by_cases hij : i = j
      · subst hij
        rw [ho] at hp
        obtain rfl := Option.some.inj hp
        rw [hd] at hpd
        obtain rfl := Option.some.inj hpd
        rw [Go.getD_set_ne false hjk] at hLk
        rw [self, other k q c hk hjk hq hqd]
        exact new k q c hk hjk hq hqd hLk hfj hfk
      · by_cases hik : i = k
        · subst hik
          rw [ho] at hq
          obtain rfl := Option.some.inj hq
          rw [hd] at hqd
          obtain rfl := Option.some.inj hqd
          rw [Go.getD_set_ne false hij] at hLj
          rw [self, other j p d hj hij hp hpd]
          exact fun k h1 h2 => new j p d hj hij hp hpd hLj hfk hfj k h2 h1
        · rw [Go.getD_set_ne false hij] at hLj
          rw [Go.getD_set_ne false hik] at hLk
          rw [other j p d hj hij hp hpd, other k q c hk hik hq hqd]
          exact hD j k p q d c hj hk hjk hp hq hpd hqd hLj hLk hfj hfk

/-- Every operation of the head that is not late is waited for by one that is not late either, or by the tail's first. -/
def sinkL (ops : Array Oper) (n : Nat) (lt : Nat → Bool) : Bool :=
  (List.range n).all fun i => lt i || (List.range (n + 1)).any fun j => decide (i < j) && !lt j && Region.waitsFor .any ops j i
/-- A late operation touches none that does not wait for it. -/
def freeL (ops : Array Oper) (n : Nat) (lt : Nat → Bool) : Bool :=
  (List.range n).all fun i => !lt i || match ops[i]? with
    | none => false
    | some oi => (List.range ops.size).all fun j => j == i || oi.after.any (fun e => Region.binds .any e && e.on == j) || match ops[j]? with
      | some oj => oj.after.any (fun e => Region.binds .any e && e.on == i) || oi.apart ops oj
      | none => true
def lateB (ops : Array Oper) (n : Nat) (lt : Nat → Bool) : Bool :=
  ((decide (n = ops.size) && (List.range n).all fun i => !lt i) || (decide (n < ops.size) && sinkL ops n lt && Region.chainB .any ops n)) && freeL ops n lt && Region.noSelect ops && !lt n &&
    Region.seqB .any ops (ops.size - n) n ((List.range n).foldl (fun l i => l.setIfInBounds i true) (Array.replicate ops.size false))

theorem tail_waitsL {n : Nat} {lt : Nat → Bool} {listed : Array Bool} (hs : sinkL ops n lt = true) (hc : Region.chainB .any ops n = true) (hn : n < ops.size) (inv : HeadInv .any ops n listed) :
    ∀ (d i : Nat), n - i = d → i < n → lt i = false → listed.getD i true = false → ∀ t, n ≤ t → t ∉ Region.ready .any ops listed := by
  intro d
  induction d using Nat.strongRecOn with
  | _ d ih =>
    intro i hd hi hlt hun t ht hr
    obtain ⟨_, ot, hot, hall⟩ := mem_ready.1 hr
    have htlt : t < ops.size := (Array.getElem?_eq_some_iff.1 hot).1
    by_cases htn : t = n
    · subst htn
      have h1 := List.all_eq_true.1 hs i (List.mem_range.2 hi)
      simp only [hlt, Bool.false_or] at h1
      obtain ⟨j, hj, hj2⟩ := List.any_eq_true.1 h1
      simp only [Bool.and_eq_true, decide_eq_true_eq, Bool.not_eq_true'] at hj2
      obtain ⟨oj, hoj, e, he, hb, hon⟩ := Region.waitsFor_spec hj2.2
      have hjle : j ≤ t := by have := List.mem_range.1 hj; omega
      by_cases hjt : j = t
      · subst hjt
        have : oj = ot := Option.some.inj (hoj.symm.trans hot)
        subst this
        have h2 := hall e he hb
        rw [hon, getD_both hun] at h2
        cases h2
      · cases hl : listed.getD j false with
        | true =>
          have h2 := inv.closed j oj hoj hl e he hb
          rw [hon, getD_both hun] at h2
          cases h2
        | false =>
          have hjs : j < listed.size := by rw [inv.size]; omega
          exact ih (t - j) (by omega) j rfl (by omega) hj2.1.2 (getD_in hjs hl) t (Nat.le_refl _) hr
    · have h1 := List.all_eq_true.1 hc t (List.mem_range.2 htlt)
      simp only [Bool.or_eq_true, decide_eq_true_eq] at h1
      rcases h1 with h1 | h1
      · omega
      · obtain ⟨o', ho', e, he, hb, hon⟩ := Region.waitsFor_spec h1
        have : o' = ot := Option.some.inj (ho'.symm.trans hot)
        subst this
        have h2 := hall e he hb
        rw [hon, getD_both (inv.tail (t - 1) (by omega) (by omega))] at h2
        cases h2

theorem least_unlisted {n : Nat} {L : Array Bool} : ∀ i, i < n → L.getD i true = false → ∃ j, j ≤ i ∧ L.getD j true = false ∧ ∀ k, k < j → L.getD k true = true := by
  intro i
  induction i using Nat.strongRecOn with
  | _ i ih =>
    intro hi hs
    by_cases h : ∀ k, k < i → L.getD k true = true
    · exact ⟨i, Nat.le_refl _, hs, h⟩
    · simp only [Classical.not_forall] at h
      obtain ⟨k, hk, hn⟩ := h
      obtain ⟨j, h1, h2, h3⟩ := ih k hk (by omega) (by simpa using hn)
      exact ⟨j, by omega, h2, h3⟩
theorem least_ready {L : Array Bool} (ht : textB ops = true) (hL : L.size = ops.size) {j : Nat} (hj : j < ops.size) (h2 : L.getD j true = false) (h3 : ∀ k, k < j → L.getD k true = true) : j ∈ Region.ready .any ops L := by
  obtain ⟨o, ho⟩ : ∃ o, ops[j]? = some o := ⟨_, Array.getElem?_eq_getElem hj⟩
  refine mem_ready.2 ⟨h2, o, ho, fun e he hb => ?_⟩
  have h1 := List.all_eq_true.1 ht j (List.mem_range.2 hj)
  simp only [ho] at h1
  have h4 := Array.all_eq_true'.1 h1 e he
  simp [hb] at h4
  have h5 := h3 e.on h4
  have h6 : e.on < L.size := by omega
  simpa [h6] using h5

theorem Mid2.take {n : Nat} {fl : Nat → Bool} {Φ : Nat → Value → World → World → Prop} {a0 : Act} {w0 m0 : World} {L : Array Bool} {a : Act} {w : World} (hdis : distinctB ops n = true)
    (hM : Mid2 ops n fl Φ a0 w0 m0 L a w) {i : Nat} (hin : i < n) {o : Oper} (ho : ops[i]? = some o) (hfl : fl i = false)
    (hF : ∀ vs m, a = lay (dsts ops n) vs a0 → Ext w0 w → Ext m0 m → Vw m w → (∀ j p d, j < n → ops[j]? = some p → p.dst = some d → L.getD j false = true → ∃ u um, Ext u w ∧ Ext um m ∧ Φ j (vs d) u um) →
      ∃ v, Yields P ops o v a ∧ Φ i v w m) :
    ∃ v, Yields P ops o v a ∧ Mid2 ops n fl Φ a0 w0 m0 (L.setIfInBounds i true) (a.put o.dst v) w := by
  obtain ⟨vs, m, rfl, hE, hMm, hV, hFa, hG, hD⟩ := hM
  obtain ⟨v, hy, hv⟩ := hF vs m rfl hE hMm hV hFa
  refine ⟨v, hy, ?_⟩
  cases hd : o.dst with
  | none =>
    have back : ∀ j p d, ops[j]? = some p → p.dst = some d → (L.setIfInBounds i true).getD j false = true → L.getD j false = true := by
      intro j p d hp hpd hL
      have hne : i ≠ j := by
        rintro rfl
        rw [ho] at hp
        obtain rfl := Option.some.inj hp
        rw [hd] at hpd
        cases hpd
      rw [Go.getD_set_ne false hne] at hL
      exact hL
    exact ⟨vs, m, rfl, hE, hMm, hV, fun j p d hj hp hpd hL => hFa j p d hj hp hpd (back j p d hp hpd hL), fun j p d hj hp hpd hL => hG j p d hj hp hpd (back j p d hp hpd hL),
      fun j k p q d c hj hk hjk hp hq hpd hqd hLj hLk => hD j k p q d c hj hk hjk hp hq hpd hqd (back j p d hp hpd hLj) (back k q c hq hqd hLk)⟩
  | some di =>
    have other : ∀ j p d, j < n → i ≠ j → ops[j]? = some p → p.dst = some d → upd vs di v d = vs d := by
      intro j p d hj hne hp hpd
      have : d ≠ di := by
        rintro rfl
        exact distinct_spec hdis ho hp hin hj hne hd hpd
      simp [upd, this]
    have self : upd vs di v di = v := by simp [upd]
    refine ⟨upd vs di v, m, lay_put (mem_dsts ho hin hd) vs a0 v, hE, hMm, hV, fun j p d hj hp hpd hL => ?_, fun j p d hj hp hpd hL hf => ?_, fun j k p q d c hj hk hjk hp hq hpd hqd hLj hLk hfj hfk => ?_⟩
    · by_cases hne : i = j
      · subst hne
        rw [ho] at hp
        obtain rfl := Option.some.inj hp
        rw [hd] at hpd
        obtain rfl := Option.some.inj hpd
        exact ⟨w, m, Ext.refl _, Ext.refl _, by rw [self]; exact hv⟩
      · rw [Go.getD_set_ne false hne] at hL
        rw [other j p d hj hne hp hpd]
        exact hFa j p d hj hp hpd hL
    · have hne : i ≠ j := by rintro rfl; rw [hfl] at hf; cases hf
      rw [Go.getD_set_ne false hne] at hL
      rw [other j p d hj hne hp hpd]
      exact hG j p d hj hp hpd hL hf
    · have hij : i ≠ j := by rintro rfl; rw [hfl] at hfj; cases hfj
      have hik : i ≠ k := by rintro rfl; rw [hfl] at hfk; cases hfk
      rw [Go.getD_set_ne false hij] at hLj
      rw [Go.getD_set_ne false hik] at hLk
      rw [other j p d hj hij hp hpd, other k q c hk hik hq hqd]
      exact hD j k p q d c hj hk hjk hp hq hpd hqd hLj hLk hfj hfk

theorem wp_region_late {id : Nat} {a0 : Act} {w0 m0 : World} (n : Nat) (fl lt : Nat → Bool) (Φ : Nat → Value → World → World → Prop) (hV0 : Vw m0 w0) (hm : P.follows .mixedOrders = true)
    (hdis : distinctB ops n = true) (htx : textB ops = true) (htl : lateB ops n lt = true) (hQ : ∀ c a w d v, Q (.panic c) (a.put d v) w → Q (.panic c) a w) (hfl : ∀ i, lt i = true → fl i = false)
    (hstep : ∀ i o, i < n → ops[i]? = some o → ∀ vs w m, Ext w0 w → Ext m0 m → Vw m w →
      (∀ e ∈ o.after, Region.binds .any e = true → ∀ p d, e.on < n → ops[e.on]? = some p → p.dst = some d → ∃ u um, Ext u w ∧ Ext um m ∧ Φ e.on (vs d) u um) →
      wpList P ops (One2 (Φ i) (fl i) (lay (dsts ops n) vs a0) o.dst w m) [o] (lay (dsts ops n) vs a0) w)
    (hlate : ∀ i o, i < n → lt i = true → ops[i]? = some o → ∀ vs w m, Ext w0 w → Ext m0 m → Vw m w →
      (∀ e ∈ o.after, Region.binds .any e = true → ∀ p d, e.on < n → ops[e.on]? = some p → p.dst = some d → ∃ u um, Ext u w ∧ Ext um m ∧ Φ e.on (vs d) u um) →
      ∃ v, Yields P ops o v (lay (dsts ops n) vs a0) ∧ Φ i v w m)
    (hrest : ∀ vs w m, Ext w0 w → Ext m0 m → Vw m w → (∀ i o d, i < n → ops[i]? = some o → o.dst = some d → ∃ u um, Ext u w ∧ Ext um m ∧ Φ i (vs d) u um) →
      (∀ i j o p d c, i < n → j < n → i ≠ j → ops[i]? = some o → ops[j]? = some p → o.dst = some d → p.dst = some c → fl i = true → fl j = true → ∀ k, blkOf (vs d) = some k → blkOf (vs c) ≠ some k) →
      wpList P ops Q (ops.toList.drop n) (lay (dsts ops n) vs a0) w) :
    (Code.region id ops true).wp P Q a0 w0 := by
  unfold lateB at htl
  simp only [Bool.and_eq_true, Bool.or_eq_true, decide_eq_true_eq] at htl
  obtain ⟨⟨⟨⟨hsc, hfr⟩, hns⟩, _⟩, hseq⟩ := htl
  have hn : n ≤ ops.size := by
    rcases hsc with h | h
    · omega
    · omega
  have main : ∀ f L a w, HeadInv .any ops n L → left n L = f → Mid2 ops n fl Φ a0 w0 m0 L a w → wpAny P .any ops Q (f + (ops.size - n)) L a w := by
    intro f
    induction f with
    | zero =>
      intro L a w inv hl hM
      obtain ⟨vs, m, rfl, hE, hM, hV, hF, _, hD⟩ := hM
      have hL : L = (List.range n).foldl (fun l i => l.setIfInBounds i true) (Array.replicate ops.size false) := full_eq inv.size hn (fun i hi => left_zero hl hi) inv.tail
      have hon : ∀ i, i < n → L.getD i false = true := fun i hi => by
        have := left_zero hl hi
        have h2 : i < L.size := by rw [inv.size]; omega
        simpa [h2] using this
      have hw := hrest vs w m hE hM hV (fun i o d hi ho hd => hF i o d hi ho hd (hon i hi)) (fun i j o p d c hi hj hij ho hp hod hpd hfi hfj => hD i j o p d c hi hj hij ho hp hod hpd (hon i hi) (hon j hj) hfi hfj)
      have := wpAny_of_seq (P := P) (md := .any) (Q' := Q) (ops.toList.drop n) n L _ w (fun j => by simp) (by rw [hL]; simpa using hseq) hw
      simpa using this
    | succ f ih =>
      intro L a w inv hl hM
      have : ∃ i, i < n ∧ L.getD i true = false := by
        apply Classical.byContradiction
        intro hno
        have : left n L = 0 := by
          unfold left
          rw [List.length_eq_zero_iff, List.filter_eq_nil_iff]
          intro i hi
          have hi' := List.mem_range.1 hi
          cases e : L.getD i true with
          | true => simp
          | false => exact absurd ⟨i, hi', e⟩ hno
        omega
      obtain ⟨i0, hi0, hs0⟩ := this
      obtain ⟨i, hii, hs, hmin⟩ := least_unlisted i0 hi0 hs0
      have hin : i < n := by omega
      have hr := least_ready htx inv.size (by omega) hs hmin
      have hsz : i < L.size := by rw [inv.size]; omega
      rw [show f + 1 + (ops.size - n) = (f + (ops.size - n)) + 1 by omega]
      cases hlt : lt i with
      | true =>
        obtain ⟨_, o, ho, hdep⟩ := mem_ready.1 hr
        obtain ⟨v, hy, hM'⟩ := Mid2.take (P := P) hdis hM hin ho (hfl i hlt) (fun vs m ha hE hMm hV hF => by
          rw [ha]
          exact hlate i o hin hlt ho vs w m hE hMm hV fun e he hb p d hen hp hd => hF _ _ _ hen hp hd (hdep e he hb))
        refine wpAny_first ho (Region.noSelect_spec hns) (fun c a w h => hQ c a w _ _ h) _ L a w (fun j oj hj hne hun hnb => ?_) hr hy (ih _ _ _ (inv.set hr hin) (by have := left_set hin hs hsz; omega) hM')
        have h1 := List.all_eq_true.1 hfr i (List.mem_range.2 hin)
        simp only [hlt, Bool.not_true, Bool.false_or, ho] at h1
        have h2 := List.all_eq_true.1 h1 j (List.mem_range.2 (Array.getElem?_eq_some_iff.1 hj).1)
        simp only [hj, Bool.or_eq_true, beq_iff_eq, hne, false_or] at h2
        rcases h2 with h2 | h2 | h2
        · obtain ⟨k, hk, he⟩ := Array.any_eq_true.1 h2
          simp only [Bool.and_eq_true, beq_iff_eq] at he
          have h3 := hdep _ (Array.getElem_mem hk) he.1
          rw [he.2, getD_both hun] at h3
          cases h3
        · obtain ⟨k, hk, he⟩ := Array.any_eq_true.1 h2
          simp only [Bool.and_eq_true, beq_iff_eq] at he
          exact absurd he.2 (hnb _ (Array.getElem_mem hk) he.1)
        · exact h2
      | false =>
        refine ⟨fun h => (by rw [h] at hr; cases hr), fun k hk => ?_⟩
        have hkn : k < n := by
          rcases Nat.lt_or_ge k n with h | h
          · exact h
          · rcases hsc with ⟨he, _⟩ | ⟨⟨hnlt, hsk⟩, hch⟩
            · obtain ⟨_, o, ho, _⟩ := mem_ready.1 hk
              exact absurd (Array.getElem?_eq_some_iff.1 ho).1 (by omega)
            · exact absurd hk (tail_waitsL hsk hch hnlt inv _ i rfl hin hlt hs k h)
        have hks := (mem_ready.1 hk).1
        have hksz : k < L.size := by rw [inv.size]; omega
        exact wpOp_mono (fun a' w' h' => ih _ a' w' (inv.set hk hkn) (by have := left_set hkn hks hksz; omega) h') (Mid2.step hdis hstep hM hk hkn)
  refine wp_region_any hm ?_
  have h0 : left n (Array.replicate ops.size false) = n := by
    unfold left
    have : (List.range n).filter (fun i => !(Array.replicate ops.size false).getD i true) = List.range n := by
      rw [List.filter_eq_self]
      intro i hi
      have := List.mem_range.1 hi
      have h2 : i < ops.size := by omega
      simp [h2]
    rw [this]; simp
  have := main n (Array.replicate ops.size false) a0 w0.drew ⟨by simp, fun j oj hj hl => (by rw [getD_replicate_false] at hl; cases hl), fun t h1 h2 => (by simp [h2])⟩ h0
    ⟨_, m0, (lay_self _ _).symm, (Ext.refl _).drew, Ext.refl _, ⟨hV0.os, hV0.tape, hV0.output, hV0.size, hV0.cell⟩, fun i o d _ _ _ hl => (by rw [getD_replicate_false] at hl; cases hl),
      fun i o d _ _ _ hl => (by rw [getD_replicate_false] at hl; cases hl), fun i j o p d c _ _ _ _ _ _ _ hl => (by rw [getD_replicate_false] at hl; cases hl)⟩
  rw [show n + (ops.size - n) = ops.size by omega] at this
  exact this

def allLate (C : Oper → Fct → Prop) : List Oper → List Fct → List Bool → Prop
  | o :: l, f :: m, b :: n => (b = true → C o f) ∧ allLate C l m n
  | [], _, _ => True
  | _, _, _ => False
theorem allLate_at {C : Oper → Fct → Prop} : ∀ {l : List Oper} {m : List Fct} {n : List Bool}, allLate C l m n → ∀ {i : Nat} {o : Oper}, l[i]? = some o → n.getD i false = true → C o (fct m i)
  | [], _, _, _, _, _, h, _ => by simp at h
  | o :: l, f :: m, b :: n, ⟨h0, hl⟩, 0, p, h, hb => by simp at h hb; subst h; exact h0 hb
  | o :: l, f :: m, b :: n, ⟨h0, hl⟩, i + 1, p, h, hb => by simp at h hb; exact allLate_at hl h (by simpa using hb)
  | o :: l, [], _, h, _, _, _, _ => by cases h
  | o :: l, f :: m, [], h, _, _, _, _ => by cases h

/-- Only the normal end. -/
def QN (Q : Exit → Act → World → Prop) (e : Exit) (a : Act) (w : World) : Prop := e = .normal ∧ Q .normal a w
theorem QN.mk {Q : Exit → Act → World → Prop} {a : Act} {w : World} (h : Q .normal a w) : QN Q .normal a w := ⟨rfl, h⟩
theorem wp_region_by2 {id : Nat} {a0 : Act} {w0 m0 : World} (n : Nat) (fl lt : List Bool) (Φ : List Fct) (hV0 : Vw m0 w0) (hm : P.follows .mixedOrders = true)
    (ds : List Nat) (A : (Nat → Value) → Act) (hds : dsts ops n = ds) (hA : ∀ vs, lay ds vs a0 = A vs) (hchk : (distinctB ops n && textB ops && lateB ops n (lt.getD · false)) = true)
    (hfl : ((List.range n).all fun i => !lt.getD i false || !fl.getD i false) = true) (hll : lt.length ≤ n)
    (hstep : allSteps2 (fun o f b => ∀ vs w m, Ext w0 w → Ext m0 m → Vw m w → depFacts ops n (fun j d => ∃ u um, Ext u w ∧ Ext um m ∧ fct Φ j (vs d) u um) o.after.toList →
      wpList P ops (One2 f b (A vs) o.dst w m) [o] (A vs) w) (ops.toList.take n) Φ fl)
    (hlate : allLate (fun o f => ∀ vs w m, Ext w0 w → Ext m0 m → Vw m w → depFacts ops n (fun j d => ∃ u um, Ext u w ∧ Ext um m ∧ fct Φ j (vs d) u um) o.after.toList →
      ∃ v, Yields P ops o v (A vs) ∧ f v w m) (ops.toList.take n) Φ lt)
    (hrest : ∀ vs w m, Ext w0 w → Ext m0 m → Vw m w → headFacts (fun j d => ∃ u um, Ext u w ∧ Ext um m ∧ fct Φ j (vs d) u um) 0 (ops.toList.take n) →
      (∀ i j o p d c, i < n → j < n → i ≠ j → ops[i]? = some o → ops[j]? = some p → o.dst = some d → p.dst = some c → fl.getD i false = true → fl.getD j false = true → ∀ k, blkOf (vs d) = some k → blkOf (vs c) ≠ some k) →
      wpList P ops (QN Q) (ops.toList.drop n) (A vs) w) : (Code.region id ops true).wp P Q a0 w0 := by
  refine Code.wp_mono (Q := QN Q) ?_ ?_
  · rintro e a w ⟨rfl, h⟩; exact h
  simp only [Bool.and_eq_true] at hchk
  refine wp_region_late (Q := QN Q) n (fl.getD · false) (lt.getD · false) (fct Φ) hV0 hm hchk.1.1 hchk.1.2 hchk.2 (fun c a w d v h => by cases h.1) ?_ ?_ ?_ ?_
  · intro i hi
    have hin : i < n := by
      rcases Nat.lt_or_ge i lt.length with h | h
      · omega
      · simp [List.getD, List.getElem?_eq_none h] at hi
    have := List.all_eq_true.1 hfl i (List.mem_range.2 hin)
    simp only [hi, Bool.not_true, Bool.false_or, Bool.not_eq_true'] at this
    exact this
  · intro i o hi ho vs w m hE hM hV hD
    rw [hds, hA]
    have ho' : (ops.toList.take n)[i]? = some o := by rw [List.getElem?_take_of_lt hi]; simpa using ho
    exact allSteps2_at hstep ho' vs w m hE hM hV (depFacts_of fun e he => hD e (by simpa using he))
  · intro i o hi hl ho vs w m hE hM hV hD
    rw [hds, hA]
    have ho' : (ops.toList.take n)[i]? = some o := by rw [List.getElem?_take_of_lt hi]; simpa using ho
    exact allLate_at hlate ho' hl vs w m hE hM hV (depFacts_of fun e he => hD e (by simpa using he))
  · intro vs w m hE hM hV hF hD
    rw [hds, hA]
    refine hrest vs w m hE hM hV (headFacts_of fun i o d ho hd => ?_) hD
    rw [Nat.zero_add]
    have hlt : i < (ops.toList.take n).length := (List.getElem?_eq_some_iff.1 ho).1
    have hi : i < n := by rw [List.length_take] at hlt; omega
    rw [List.getElem?_take_of_lt hi] at ho
    exact hF i o d hi (by simpa using ho) hd

theorem One2.still {Φ : Value → World → World → Prop} {a : Act} {dst : Option Nat} {w m : World} {v : Value} (hV : Vw m w) (h : Φ v w m) : One2 Φ false a dst w m .normal (a.put dst v) w :=
  ⟨rfl, Ext.refl _, m, v, Ext.refl _, hV, rfl, h, (fun h => by cases h)⟩
theorem One2.call {Φ : Value → World → World → Prop} {a : Act} {dst : Option Nat} {w m w' m' : World} {v : Value} (hE : Ext w w') (hM : Ext m m') (hV : Vw m' w') (h : Φ v w' m') : One2 Φ false a dst w m .normal (a.put dst v) w' :=
  ⟨rfl, hE, m', v, hM, hV, rfl, h, (fun h => by cases h)⟩
theorem one2_alloc {o : Oper} {a : Act} {dst : Option Nat} {B : Nat} {W1 m1 : World} {t : TypeId} {cs : Array Value} (hV : Vw m1 W1) (hE : B ≤ W1.heap.size) (hd : o.dst = dst) (hgd : o.guard = none) (ho : o.op = .alloc t) (hz : zc P t = some cs) :
    wpList P ops (One2 (NewBlk B t cs) true a dst W1 m1) [o] a W1 := by
  subst hd
  refine wpList_plain hgd fun _ hK => op_alloc ho hz (hK _ _ ?_)
  have h := (Loc.start hV).alloc cs t
  refine ⟨rfl, h.ext, _, _, h.mext, h.vw, rfl, ⟨W1.heap.size, rfl, hE, by simp [hV.size], h.at_ (n := 0) rfl, fun a ha => h.hid (W1.heap.size, t, cs) (by simp) a ha⟩, fun _ k hk => ?_⟩
  have e : W1.heap.size = k := Option.some.inj hk
  subst e
  exact ⟨Nat.le_refl _, by simp⟩
/-- v is a new slice of n elements. -/
def NewRow (B : Nat) (e : TypeId) (cs : Array Value) (n : Nat) (v : Value) (u um : World) : Prop :=
  ∃ g, v = .slice (some ⟨g, 0, none⟩) n n ∧ B ≤ g ∧ g < um.heap.size ∧ Blk u g e cs ∧ ∀ a : Addr, a.block = g → um.cell? a = none
theorem Loc.add2 {w0 m0 W m u um : World} {B : Nat} {Ls Lt : List Lo} (hB1 : ∀ x ∈ Ls, x.1 < B) (hB2 : w0.heap.size ≤ B) (hL : Loc w0 m0 W m (Lt ++ Ls)) {t : TypeId} {cs : Array Value} {g : Nat}
    (h1 : B ≤ g) (h2 : g < um.heap.size) (h3 : Blk u g t cs) (h4 : ∀ a : Addr, a.block = g → um.cell? a = none) (hu : Ext u W) (hum : Ext um m) (hne : ∀ x ∈ Lt, some g ≠ some x.1) : Loc w0 m0 W m (((g, t, cs) :: Lt) ++ Ls) := by
  refine ⟨hL.size0, hL.ext, hL.mext, hL.vw, ?_, ?_, ?_, ?_⟩
  · intro x hx
    rcases List.mem_cons.1 hx with rfl | hx
    · exact Nat.le_trans hB2 h1
    · exact hL.low x hx
  · intro x hx
    rcases List.mem_cons.1 hx with rfl | hx
    · exact h3.ext hu
    · exact hL.blk x hx
  · intro x hx a ha
    rcases List.mem_cons.1 hx with rfl | hx
    · rw [hum.cell (p := a) (by rw [ha]; exact h2)]
      exact h4 a ha
    · exact hL.hid x hx a ha
  · refine List.Pairwise.cons (fun y hy => ?_) hL.apart
    rcases List.mem_append.1 hy with hy | hy
    · intro e
      exact hne y hy (congrArg some e)
    · have := hB1 y hy
      show g ≠ y.1
      omega
theorem Loc.addB {w0 m0 W m u um : World} {B : Nat} {Ls Lt : List Lo} (hB1 : ∀ x ∈ Ls, x.1 < B) (hB2 : w0.heap.size ≤ B) (hL : Loc w0 m0 W m (Lt ++ Ls)) {t : TypeId} {cs : Array Value} {v : Value} (f : NewBlk B t cs v u um)
    (hu : Ext u W) (hum : Ext um m) (hne : ∀ x ∈ Lt, blkOf v ≠ some x.1) : ∃ g, v = .pointer (some ⟨g, 0, none⟩) ∧ Loc w0 m0 W m (((g, t, cs) :: Lt) ++ Ls) := by
  obtain ⟨g, rfl, h1, h2, h3, h4⟩ := f
  exact ⟨g, rfl, Loc.add2 hB1 hB2 hL h1 h2 h3 h4 hu hum hne⟩
theorem Loc.addR {w0 m0 W m u um : World} {B : Nat} {Ls Lt : List Lo} (hB1 : ∀ x ∈ Ls, x.1 < B) (hB2 : w0.heap.size ≤ B) (hL : Loc w0 m0 W m (Lt ++ Ls)) {e : TypeId} {cs : Array Value} {n : Nat} {v : Value} (f : NewRow B e cs n v u um)
    (hu : Ext u W) (hum : Ext um m) (hne : ∀ x ∈ Lt, blkOf v ≠ some x.1) : ∃ g, v = .slice (some ⟨g, 0, none⟩) n n ∧ Loc w0 m0 W m (((g, e, cs) :: Lt) ++ Ls) := by
  obtain ⟨g, rfl, h1, h2, h3, h4⟩ := f
  exact ⟨g, rfl, Loc.add2 hB1 hB2 hL h1 h2 h3 h4 hu hum hne⟩
theorem ad0 {v : Value} : ∀ y ∈ ([] : List Lo), blkOf v ≠ some y.1 := fun _ h => by cases h
theorem adS {v : Value} {x : Lo} {l : List Lo} (h : blkOf v ≠ some x.1) (k : ∀ y ∈ l, blkOf v ≠ some y.1) : ∀ y ∈ x :: l, blkOf v ≠ some y.1 := fun y hy => by
  rcases List.mem_cons.1 hy with rfl | hy
  · exact h
  · exact k y hy
end
end Go.Proofs.YtmhkmmmompediaaGreat

/- Rows that a function builds by append, hidden from the view until they are shown; slices of values under a view. No program. -/
namespace Go.Proofs.YtmhkmmmompediaaGreat
open Go.RowKit

/-- v is a slice of n elements (size cells each, together xs) in the one block of R, or nil and R empty. -/
def Row (e : TypeId) (size : Nat) (v : Value) (n : Nat) (xs : List Value) (R : List Lo) : Prop :=
  xs.length = n * size ∧
    ((v = .slice none 0 0 ∧ n = 0 ∧ R = []) ∨
      ∃ g cap cur, v = .slice (some ⟨g, 0, none⟩) n cap ∧ R = [(g, e, cur)] ∧ n ≤ cap ∧ cap ≤ maxLen ∧ cur.size = cap * size ∧ cur.toList.take (n * size) = xs)
theorem Row.nil (e : TypeId) (size : Nat) : Row e size (.slice none 0 0) 0 [] [] := ⟨by simp, .inl ⟨rfl, rfl, rfl⟩⟩
theorem Row.lit {e : TypeId} {size : Nat} {v : Value} {n : Nat} {xs : List Value} {R : List Lo} (h : Row e size v n xs R) : ∃ A c, v = .slice A n c ∧ n ≤ c := by
  obtain ⟨_, ⟨rfl, rfl, _⟩ | ⟨g, cap, cur, rfl, _, h, _⟩⟩ := h
  · exact ⟨_, _, rfl, Nat.le_refl _⟩
  · exact ⟨_, _, rfl, h⟩
theorem Row.len {e : TypeId} {size : Nat} {v : Value} {n : Nat} {xs : List Value} {R : List Lo} (h : Row e size v n xs R) : xs.length = n * size := h.1

theorem Loc.perm {w0 m0 W m : World} {A B : List Lo} (h : Loc w0 m0 W m A) (hp : A.Perm B) : Loc w0 m0 W m B :=
  ⟨h.size0, h.ext, h.mext, h.vw, fun x hx => h.low x (hp.mem_iff.2 hx), fun x hx => h.blk x (hp.mem_iff.2 hx), fun x hx => h.hid x (hp.mem_iff.2 hx),
    hp.pairwise h.apart fun h => fun e => h e.symm⟩
theorem Loc.tail {w0 m0 W m : World} {x : Lo} {A : List Lo} (h : Loc w0 m0 W m (x :: A)) : Loc w0 m0 W m A :=
  ⟨h.size0, h.ext, h.mext, h.vw, fun y hy => h.low y (List.mem_cons_of_mem _ hy), fun y hy => h.blk y (List.mem_cons_of_mem _ hy), fun y hy => h.hid y (List.mem_cons_of_mem _ hy), (List.pairwise_cons.1 h.apart).2⟩
theorem Loc.own {w0 m0 W m : World} {A R : List Lo} (hL : Loc w0 m0 W m (A ++ R)) {e : TypeId} {size : Nat} {v : Value} {n : Nat} {xs : List Value} (hR : Row e size v n xs R) : W.ownsRow w0.heap.size e size v n xs := by
  obtain ⟨h1, ⟨rfl, rfl, _⟩ | ⟨g, cap, cur, rfl, rfl, h⟩⟩ := hR
  · exact ⟨h1, .inl ⟨rfl, rfl⟩⟩
  · have hm : (g, e, cur) ∈ A ++ [(g, e, cur)] := by simp
    exact ⟨h1, .inr ⟨g, cap, cur, rfl, hL.low _ hm, hL.blk _ hm, h⟩⟩

/-- m with more blocks, which show nothing. -/
def hidTo (m : World) (n : Nat) : World := { m with heap := m.heap ++ Array.replicate (n - m.heap.size) (.cells #[] 0 (0, 0)) }
theorem hidTo_size {m : World} {n : Nat} (h : m.heap.size ≤ n) : (hidTo m n).heap.size = n := by simp [hidTo]; omega
theorem hidTo_old {m : World} {n k : Nat} (h : k < m.heap.size) : (hidTo m n).heap[k]? = m.heap[k]? := by simp [hidTo, Array.getElem?_append, h]
theorem hidTo_ext {m : World} {n : Nat} (h : m.heap.size ≤ n) : Ext m (hidTo m n) := ⟨rfl, rfl, rfl, by rw [hidTo_size h]; exact h, fun _ hk => hidTo_old hk⟩
theorem hidTo_new {m : World} {n : Nat} {a : Addr} (h : m.heap.size ≤ a.block) : (hidTo m n).cell? a = none := by
  obtain ⟨b, o, s⟩ := a
  simp only at h
  unfold World.cell?
  by_cases hb : b < n
  · have : (hidTo m n).heap[b]? = some (.cells #[] 0 (0, 0)) := by
      simp only [hidTo, Array.getElem?_append, Nat.not_lt.2 h, if_false]
      rw [Array.getElem?_replicate]; rw [if_pos (by omega)]
    rw [this]; cases s <;> simp
  · have : (hidTo m n).heap[b]? = none := by
      apply Array.getElem?_eq_none
      simp [hidTo]; omega
    rw [this]

theorem Loc.grown {w0 m0 W m W' : World} {A R R' : List Lo} (hL : Loc w0 m0 W m (A ++ R)) {row : Option Nat} (hg : W.grownBy W' row) (hrow : ∀ k, row = some k → ∃ x ∈ R, x.1 = k)
    (hR' : ∀ x ∈ R', Blk W' x.1 x.2.1 x.2.2 ∧ ((∃ y ∈ R, y.1 = x.1) ∨ x.1 = W.heap.size)) (hone : R'.length ≤ 1) : Loc w0 m0 W' (hidTo m W'.heap.size) (A ++ R') := by
  have hs : m.heap.size ≤ W'.heap.size := by rw [hL.vw.size]; exact hg.size
  have hrow' : ∀ k, row = some k → w0.heap.size ≤ k := fun k hk => by
    obtain ⟨x, hx, rfl⟩ := hrow k hk
    exact hL.low x (List.mem_append_right _ hx)
  have hap := List.pairwise_append.1 hL.apart
  refine ⟨hL.size0, hL.ext.grown hg hrow', hL.mext.trans (hidTo_ext hs), ⟨hL.vw.os.trans hg.os.symm, hL.vw.tape.trans hg.tape.symm, hL.vw.output.trans hg.output.symm, hidTo_size hs, fun a u hu => ?_⟩, ?_, ?_, ?_, ?_⟩
  · rcases Nat.lt_or_ge a.block m.heap.size with h | h
    · have h2 : (hidTo m W'.heap.size).cell? a = m.cell? a := cell_of_heap (hidTo_old h)
      rw [h2] at hu
      have hne : some a.block ≠ row := fun he => by
        obtain ⟨x, hx, hxa⟩ := hrow a.block he.symm
        rw [hL.hid x (List.mem_append_right _ hx) a hxa.symm] at hu; cases hu
      rw [cell_of_heap (hg.block a.block (by rw [← hL.vw.size]; exact h) hne)]
      exact hL.vw.cell _ _ hu
    · rw [hidTo_new h] at hu; cases hu
  · intro x hx
    rcases List.mem_append.1 hx with hx | hx
    · exact hL.low x (List.mem_append_left _ hx)
    · rcases (hR' x hx).2 with ⟨y, hy, e⟩ | e
      · rw [← e]; exact hL.low y (List.mem_append_right _ hy)
      · rw [e]; exact hL.ext.size
  · intro x hx
    rcases List.mem_append.1 hx with hx | hx
    · have hb := hL.blk x (List.mem_append_left _ hx)
      refine (hg.block x.1 hb.lt fun he => ?_).trans hb
      obtain ⟨y, hy, e⟩ := hrow x.1 he.symm
      exact hap.2.2 x hx y hy e.symm
    · exact (hR' x hx).1
  · intro x hx a ha
    have old : ∀ y ∈ A ++ R, y.1 = x.1 → (hidTo m W'.heap.size).cell? a = none := fun y hy e => by
      have hlt : a.block < m.heap.size := by rw [ha, ← e, hL.vw.size]; exact (hL.blk y hy).lt
      rw [cell_of_heap (hidTo_old hlt)]
      exact hL.hid y hy a (ha.trans e.symm)
    rcases List.mem_append.1 hx with hx | hx
    · exact old x (List.mem_append_left _ hx) rfl
    · rcases (hR' x hx).2 with ⟨y, hy, e⟩ | e
      · exact old y (List.mem_append_right _ hy) e
      · exact hidTo_new (by rw [ha, e, hL.vw.size]; exact Nat.le_refl _)
  · refine List.pairwise_append.2 ⟨hap.1, ?_, fun x hx y hy => ?_⟩
    · match R', hone with
      | [], _ => exact List.Pairwise.nil
      | [x], _ => exact List.pairwise_singleton _ _
    · rcases (hR' y hy).2 with ⟨z, hz, e⟩ | e
      · rw [← e]; exact hap.2.2 x hx z hz
      · have := (hL.blk x (List.mem_append_left _ hx)).lt
        rw [e]; exact Nat.ne_of_lt this

/-- Element type, cells and bytes of a slice type. -/
def apS (P : Program) (t : TypeId) : Option (TypeId × Nat × Nat × Nat) :=
  match P.underlying t with
  | some (.slice e) => (P.info? e).bind fun i => i.zero.map fun z => (e, i.size, i.bytes, z.cells.size)
  | _ => none
theorem ap_desc {P : Program} {t e : TypeId} {size bytes zs : Nat} (h : apS P t = some (e, size, bytes, zs)) : ∃ i z, P.underlying t = some (.slice e) ∧ P.info? e = some i ∧ i.zero = some z ∧ i.size = size ∧ i.bytes = bytes ∧ z.cells.size = zs := by
  unfold apS at h
  split at h
  · rename_i e' he
    cases hi : P.info? e' with
    | none => simp [hi] at h
    | some i =>
      cases hz : i.zero with
      | none => simp [hi, hz] at h
      | some z =>
        simp [hi, hz] at h
        obtain ⟨rfl, rfl, rfl, rfl⟩ := h
        exact ⟨i, z, he, hi, hz, rfl, rfl, rfl⟩
  · cases h

section
variable {P : Program} {ops : Array Oper} {Q : Exit → Act → World → Prop} {rest : List Oper} {o : Oper} {a : Act} {w0 m0 W m : World}
theorem wl_append {A R : List Lo} (hL : Loc w0 m0 W m (A ++ R)) {e : TypeId} {size : Nat} {v : Value} {n : Nat} {xs : List Value} (hR : Row e size v n xs R)
    (hw : Region.wanted o (yielded ops a.tmps) = true) {s x : Operand} {t : TypeId} (ho : o.op = .call { callee := .builtin .append, args := #[s, x], argTypes := #[t, t] })
    {bytes : Nat} (hap : apS P t = some (e, size, bytes, size)) (hsz : 0 < size) (hs : a.eval s = v) {B : Option Addr} {k c : Nat} (hx : a.eval x = .slice B k c) {news : List Value}
    (hl : news.length = k * size) (hr : Sl W B news) (h1 : news.all (·.oneCell') = true) (hn : n + k ≤ 1000000) (hb : bytes ≤ 1000000)
    (h : ∀ v' W' m' R', Loc w0 m0 W' m' (A ++ R') → Row e size v' (n + k) (xs ++ news) R' → Ext m m' → wpList P ops Q rest (a.put o.dst v') W') : wpList P ops Q (o :: rest) a W := by
  obtain ⟨i, z, ht, hi, hz, hs1, hb1, hz1⟩ := ap_desc hap
  refine wpList_wanted hw fun K hK => ?_
  have hbb : (n + k) * bytes ≤ 140737488355328 := Nat.le_trans (Nat.mul_le_mul hn hb) (by decide)
  refine wp_append_any W s x t ho w0.heap.size e i z size bytes ht hi hz hs1 hb1 hz1 hsz v n xs hs (hL.own hR) B k c news hx hl hr (fun u hu => List.all_eq_true.1 h1 u hu) (Nat.le_trans hn (by decide)) hbb hL.ext.size ?_
  intro v' W' ho' hg hob
  refine hK _ _ ?_
  have hrow : ∀ j, v.ownBlock = some j → ∃ x ∈ R, x.1 = j := by
    intro j hj
    obtain ⟨_, ⟨rfl, _, _⟩ | ⟨g, cap, cur, rfl, rfl, _⟩⟩ := hR
    · simp [Value.ownBlock] at hj
    · simp [Value.ownBlock] at hj
      exact ⟨_, List.mem_singleton.2 rfl, hj⟩
  have hE : Ext m (hidTo m W'.heap.size) := hidTo_ext (by rw [hL.vw.size]; exact hg.size)
  obtain ⟨hlen, ⟨rfl, h0⟩ | ⟨g, cap, cur, rfl, hge, hh, hnc, hcm, hcs, htk⟩⟩ := ho'
  · exact h _ W' _ [] (hL.grown hg hrow (fun x hx => by cases hx) (by simp)) ⟨hlen, .inl ⟨rfl, h0, rfl⟩⟩ hE
  · refine h _ W' _ [(g, e, cur)] (hL.grown hg hrow (fun x hx => ?_) (by simp)) ⟨hlen, .inr ⟨g, cap, cur, rfl, rfl, hnc, hcm, hcs, htk⟩⟩ hE
    rcases List.mem_singleton.1 hx with rfl
    refine ⟨hh, ?_⟩
    rcases hob with hob | hob
    · left
      obtain ⟨x, hx, hxe⟩ := hrow g (by rw [← hob]; rfl)
      exact ⟨x, hx, hxe⟩
    · right
      simpa [Value.ownBlock] using hob
end

/-- m, its block g showing cs. -/
def shown (m : World) (g : Nat) (t : TypeId) (cs : Array Value) : World := { m with heap := m.heap.setIfInBounds g (.cells cs t (0, 0)) }
theorem shown_size (m : World) (g : Nat) (t : TypeId) (cs : Array Value) : (shown m g t cs).heap.size = m.heap.size := by simp [shown]
theorem shown_other (m : World) {g k : Nat} (t : TypeId) (cs : Array Value) (h : k ≠ g) : (shown m g t cs).heap[k]? = m.heap[k]? := by
  simp only [shown, Array.getElem?_setIfInBounds]
  rw [if_neg (by omega)]
theorem shown_at (m : World) {g : Nat} (t : TypeId) (cs : Array Value) (h : g < m.heap.size) : Blk (shown m g t cs) g t cs := by
  unfold Blk shown
  simp [h]
theorem Loc.show1 {w0 m0 W m : World} {A : List Lo} {g : Nat} {t : TypeId} {cur : Array Value} (hL : Loc w0 m0 W m (A ++ [(g, t, cur)])) (k : Nat) :
    ∃ m', Loc w0 m0 W m' A ∧ Le m m' ∧ Sl m' (some ⟨g, 0, none⟩) (cur.toList.take k) := by
  have hm : (g, t, cur) ∈ A ++ [(g, t, cur)] := by simp
  have hb := hL.blk _ hm
  have hlt : g < m.heap.size := by rw [hL.vw.size]; exact hb.lt
  have hap := List.pairwise_append.1 hL.apart
  have hle : Le m (shown m g t (cur.toList.take k).toArray) := ⟨by rw [shown_size]; exact Nat.le_refl _, fun a u hu => by
    have hne : a.block ≠ g := fun e => by rw [hL.hid _ hm a e] at hu; cases hu
    rw [cell_of_heap (shown_other m t _ hne)]; exact hu⟩
  have hbs := shown_at m t (cur.toList.take k).toArray hlt
  refine ⟨shown m g t (cur.toList.take k).toArray, ⟨hL.size0, hL.ext, ⟨hL.mext.os, hL.mext.tape, hL.mext.output, by rw [shown_size]; exact hL.mext.size, fun j hj => ?_⟩, ⟨hL.vw.os, hL.vw.tape, hL.vw.output, by rw [shown_size]; exact hL.vw.size, fun a u hu => ?_⟩,
    fun x hx => hL.low x (List.mem_append_left _ hx), fun x hx => hL.blk x (List.mem_append_left _ hx), fun x hx a ha => ?_, hap.1⟩, hle, hbs.sl (n := k) (by simp [List.take_take])⟩
  · rw [shown_other m t _ (by have := hL.low _ hm; have := hL.size0; simp only at *; omega)]
    exact hL.mext.block j hj
  · by_cases e : a.block = g
    · obtain ⟨b, o, s⟩ := a
      simp only at e
      subst e
      unfold World.cell? at hu ⊢
      rw [hbs] at hu
      have hb' : W.heap[b]? = some (.cells cur t (0, 0)) := hb
      rw [hb']
      have key : ∀ v, (List.take k cur.toList).toArray[o]? = some v → cur[o]? = some v := fun v hv => by
        rw [List.getElem?_toArray, List.getElem?_take] at hv
        by_cases ho : o < k
        · rw [if_pos ho] at hv; simpa using hv
        · rw [if_neg ho] at hv; cases hv
      cases hq : (List.take k cur.toList).toArray[o]? with
      | none => cases s <;> simp [hq] at hu
      | some v =>
        have := key v hq
        simp only [hq] at hu
        simp only [this]
        exact hu
    · rw [cell_of_heap (shown_other m t _ e)] at hu
      exact hL.vw.cell _ _ hu
  · have hne : a.block ≠ g := by rw [ha]; exact hap.2.2 x hx _ (List.mem_singleton.2 rfl)
    rw [cell_of_heap (shown_other m t _ hne)]
    exact hL.hid x (List.mem_append_left _ hx) a ha
theorem Loc.show {w0 m0 W m : World} {A R : List Lo} (hL : Loc w0 m0 W m (A ++ R)) {e : TypeId} {size : Nat} {v : Value} {n : Nat} {xs : List Value} (hR : Row e size v n xs R) :
    ∃ m' B c, Loc w0 m0 W m' A ∧ Le m m' ∧ v = .slice B n c ∧ n ≤ c ∧ Sl m' B xs ∧ W.ownsRow w0.heap.size e size v n xs := by
  have ho := hL.own hR
  obtain ⟨h1, ⟨rfl, rfl, rfl⟩ | ⟨g, cap, cur, rfl, rfl, hn, _, _, ht⟩⟩ := hR
  · rw [List.append_nil] at hL
    have : xs = [] := List.eq_nil_of_length_eq_zero (by simpa using h1)
    subst this
    exact ⟨m, none, 0, hL, Le.refl _, rfl, Nat.le_refl _, Sl.nil, ho⟩
  · obtain ⟨m', h1, h2, h3⟩ := hL.show1 (n * size)
    rw [ht] at h3
    exact ⟨m', _, _, h1, h2, rfl, hn, h3, ho⟩

/-- What a call leaves, with a fact on the memory beside. -/
def RetW (w m : World) (R : World → World → Value → Prop) (e : Ending) (w' : World) : Prop :=
  ∃ v m', e = .returned v ∧ Ext w w' ∧ Ext m m' ∧ Vw m' w' ∧ R w' m' v
theorem RetW.mk {w m W m' : World} {R : World → World → Value → Prop} {v : Value} {Ls : List Lo} (hL : Loc w m W m' Ls) (h : R W m' v) : RetW w m R (.returned v) W := ⟨v, m', rfl, hL.ext, hL.mext, hL.vw, h⟩

/-- The cells of a list of values. -/
def cellsOf (vs : List Value) : List Value := vs.flatMap fun v => v.cells.toList
theorem cellsOf_append (a b : List Value) : cellsOf (a ++ b) = cellsOf a ++ cellsOf b := by simp [cellsOf]
theorem cellsOf_one (v : Value) : cellsOf [v] = v.cells.toList := by simp [cellsOf]
theorem cellsOf_at {size : Nat} : ∀ {vs : List Value} {k : Nat} {v : Value}, (∀ u ∈ vs, u.cells.size = size) → vs[k]? = some v → ∀ j, j < size → (cellsOf vs)[k * size + j]? = v.cells.toList[j]?
  | [], k, v, _, h, _, _ => by simp at h
  | u :: vs, 0, v, hs, h, j, hj => by
    simp at h; subst h
    have : j < u.cells.toList.length := by simpa [hs u (by simp)] using hj
    simp only [cellsOf, List.flatMap_cons, Nat.zero_mul, Nat.zero_add]
    rw [List.getElem?_append_left this]
  | u :: vs, k + 1, v, hs, h, j, hj => by
    simp at h
    have hl : u.cells.toList.length = size := by simpa using hs u (by simp)
    have ih := cellsOf_at (vs := vs) (k := k) (fun x hx => hs x (by simp [hx])) h j hj
    simp only [cellsOf, List.flatMap_cons]
    rw [List.getElem?_append_right (by rw [hl, Nat.succ_mul]; omega), hl, show (k + 1) * size + j - size = k * size + j by rw [Nat.succ_mul]; omega]
    exact ih
theorem cellsOf_length {size : Nat} : ∀ {vs : List Value}, (∀ u ∈ vs, u.cells.size = size) → (cellsOf vs).length = vs.length * size
  | [], _ => by simp [cellsOf]
  | u :: vs, h => by
    have ih := cellsOf_length (vs := vs) fun x hx => h x (by simp [hx])
    have hl : u.cells.toList.length = size := by simpa using h u (by simp)
    simp only [cellsOf, List.flatMap_cons, List.length_append, hl, List.length_cons, Nat.succ_mul]
    simp only [cellsOf] at ih
    omega

/-- R between two lists, one by one. -/
def All2 {α : Type} (R : Value → α → Prop) : List Value → List α → Prop
  | [], [] => True
  | v :: vs, x :: xs => R v x ∧ All2 R vs xs
  | _, _ => False
theorem All2.length {α : Type} {R : Value → α → Prop} : ∀ {vs : List Value} {xs : List α}, All2 R vs xs → vs.length = xs.length
  | [], [], _ => rfl
  | _ :: _, _ :: _, h => by simp [All2.length h.2]
  | [], _ :: _, h => h.elim
  | _ :: _, [], h => h.elim
theorem All2.at_ {α : Type} {R : Value → α → Prop} : ∀ {vs : List Value} {xs : List α}, All2 R vs xs → ∀ {k : Nat} {x : α}, xs[k]? = some x → ∃ v, vs[k]? = some v ∧ R v x
  | v :: vs, x :: xs, h, 0, y, e => by simp at e; subst e; exact ⟨v, rfl, h.1⟩
  | v :: vs, x :: xs, h, k + 1, y, e => by simp at e; simpa using All2.at_ h.2 e
  | [], [], _, _, _, e => by simp at e
  | [], _ :: _, h, _, _, _ => h.elim
  | _ :: _, [], h, _, _, _ => h.elim
theorem All2.left {α : Type} {R : Value → α → Prop} : ∀ {vs : List Value} {xs : List α}, All2 R vs xs → ∀ {k : Nat} {v : Value}, vs[k]? = some v → ∃ x, R v x
  | v :: vs, x :: xs, h, 0, y, e => by simp at e; subst e; exact ⟨x, h.1⟩
  | v :: vs, x :: xs, h, k + 1, y, e => by simp at e; exact All2.left h.2 e
  | [], [], _, _, _, e => by simp at e
  | [], _ :: _, h, _, _, _ => h.elim
  | _ :: _, [], h, _, _, _ => h.elim
theorem All2.mono {α : Type} {R S : Value → α → Prop} (hRS : ∀ v x, R v x → S v x) : ∀ {vs : List Value} {xs : List α}, All2 R vs xs → All2 S vs xs
  | [], [], _ => trivial
  | _ :: _, _ :: _, h => ⟨hRS _ _ h.1, All2.mono hRS h.2⟩
  | [], _ :: _, h => h.elim
  | _ :: _, [], h => h.elim
theorem All2.snoc {α : Type} {R : Value → α → Prop} {v : Value} {x : α} (hv : R v x) : ∀ {vs : List Value} {xs : List α}, All2 R vs xs → All2 R (vs ++ [v]) (xs ++ [x])
  | [], [], _ => ⟨hv, trivial⟩
  | _ :: _, _ :: _, h => ⟨h.1, All2.snoc hv h.2⟩
  | [], _ :: _, h => h.elim
  | _ :: _, [], h => h.elim

/-- v is a slice of values vs of size cells each, which stand to xs in R. -/
def ListV {α : Type} (size : Nat) (R : World → Value → α → Prop) (m : World) (v : Value) (xs : List α) : Prop :=
  ∃ A c vs, v = .slice A xs.length c ∧ xs.length ≤ c ∧ (∀ u ∈ vs, u.cells.size = size) ∧ Sl m A (cellsOf vs) ∧ All2 (R m) vs xs
theorem ListV.lit {α : Type} {size : Nat} {R : World → Value → α → Prop} {m : World} {v : Value} {xs : List α} (h : ListV size R m v xs) : ∃ A c, v = .slice A xs.length c ∧ xs.length ≤ c ∧ ListV size R m (.slice A xs.length c) xs := by
  have h' := h
  obtain ⟨A, c, vs, rfl, hc, _⟩ := h
  exact ⟨A, c, rfl, hc, h'⟩
theorem ListV.le {α : Type} {size : Nat} {R : World → Value → α → Prop} (hR : ∀ m m' v x, R m v x → Le m m' → R m' v x) {m m' : World} {v : Value} {xs : List α} (h : ListV size R m v xs) (hb : Le m m') : ListV size R m' v xs := by
  obtain ⟨A, c, vs, e, hc, h1, h2, h3⟩ := h
  exact ⟨A, c, vs, e, hc, h1, h2.le hb, h3.mono fun v x hv => hR m m' v x hv hb⟩
/-- The element at place k: where it lies, and what it is. -/
theorem ListV.at_ {α : Type} {size : Nat} {R : World → Value → α → Prop} {m : World} {A : Option Addr} {n c : Nat} {xs : List α} (h : ListV size R m (.slice A n c) xs) (h0 : 0 < size) {k : Nat} {x : α} (hk : xs[k]? = some x) :
    ∃ b off v, A = some ⟨b, off, none⟩ ∧ R m v x ∧ v.cells.size = size ∧ m.rangeAt b (off + k * size) v.cells.toList := by
  obtain ⟨A', c', vs, e, hc, h1, h2, h3⟩ := h
  injection e with e1 e2 e3
  subst e1
  obtain ⟨v, hv, hR⟩ := h3.at_ hk
  have hvm : v ∈ vs := List.mem_of_getElem? hv
  have hkl : k < vs.length := (List.getElem?_eq_some_iff.1 hv).1
  have hlen := cellsOf_length h1
  have hpos : 0 < (cellsOf vs).length := by rw [hlen]; exact Nat.mul_pos (by omega) h0
  obtain ⟨b, off, rfl, hlt, hcell⟩ := h2 hpos
  refine ⟨b, off, v, rfl, hR, h1 v hvm, fun j u hu => ?_⟩
  have hj : j < size := by
    have := (List.getElem?_eq_some_iff.1 hu).1
    simpa [h1 v hvm] using this
  rw [Nat.add_assoc]
  exact hcell (k * size + j) u ((cellsOf_at h1 hv j hj).trans hu)
theorem ListV.nil {α : Type} {size : Nat} {R : World → Value → α → Prop} {m : World} {A : Option Addr} {c : Nat} : ListV size R m (.slice A 0 c) [] := ⟨A, c, [], rfl, Nat.zero_le _, (fun _ h => by cases h), Sl.nil, trivial⟩
theorem ListV.mk {α : Type} {size : Nat} {R : World → Value → α → Prop} {m : World} {A : Option Addr} {n c : Nat} {vs : List Value} {xs : List α} (hn : n ≤ c) (hl : vs.length = n) (h1 : ∀ u ∈ vs, u.cells.size = size) (h2 : Sl m A (cellsOf vs)) (h3 : All2 (R m) vs xs) :
    ListV size R m (.slice A n c) xs := by
  have := h3.length
  have e : n = xs.length := by omega
  subst e
  exact ⟨A, c, vs, rfl, hn, h1, h2, h3⟩
class ApC (P : Program) (t : TypeId) (e : outParam TypeId) (size bytes : outParam Nat) : Prop where
  h : apS P t = some (e, size, bytes, size)
section
variable {P : Program} {ops : Array Oper} {Q : Exit → Act → World → Prop} {rest : List Oper} {o : Oper} {a : Act} {W m : World}
/-- A struct is read from the view. -/
theorem wl_loadV (hV : Vw m W) (hw : Region.wanted o (yielded ops a.tmps) = true) {ty : TypeId} {x : Operand} (ho : o.op = .load ty x) {g off : Nat} (hx : a.eval x = .pointer (some ⟨g, off, none⟩))
    {k : Nat} (hty : agS P ty = some k) {vs : List Value} (hr : m.rangeAt g off vs) (hk : vs.length = k)
    (h : wpList P ops Q rest (a.put o.dst (.agg vs.toArray)) W) : wpList P ops Q (o :: rest) a W :=
  wpList_wanted hw fun _ hK => op_load ho hx (vs := vs) (hk ▸ hty) (fun j v hv => hV.cell _ _ (hr j v hv)) (hK _ _ h)
theorem wl_loadV1 (hV : Vw m W) (hw : Region.wanted o (yielded ops a.tmps) = true) {ty : TypeId} {x : Operand} (ho : o.op = .load ty x) {g off : Nat} (hx : a.eval x = .pointer (some ⟨g, off, none⟩))
    (hty : lfB P ty = true) {v : Value} (hr : m.cell? ⟨g, off, none⟩ = some v)
    (h : wpList P ops Q rest (a.put o.dst v) W) : wpList P ops Q (o :: rest) a W :=
  wpList_wanted hw fun _ hK => op_load1 ho hx hty (hV.cell _ _ hr) (hK _ _ h)
theorem wl_indexAddr (hw : Region.wanted o (yielded ops a.tmps) = true) {t : TypeId} {s i : Operand} (ho : o.op = .indexAddr t s i) {e : TypeId} {size bytes zs : Nat} (hap : apS P t = some (e, size, bytes, zs))
    {b off n c k : Nat} {kd : IntKind} (hs : a.eval s = .slice (some ⟨b, off, none⟩) n c) (hi : a.eval i = .int kd k) (hk : k < n)
    (h : wpList P ops Q rest (a.put o.dst (.pointer (some ⟨b, off + k * size, none⟩))) W) : wpList P ops Q (o :: rest) a W := by
  obtain ⟨ti, z, ht, hti, hz, hs1, hb1, hz1⟩ := ap_desc hap
  have hrun : (Instr.indexAt t (.slice (some ⟨b, off, none⟩) n c) (.int kd k)).run P W = .ok (.pointer (some ⟨b, off + k * size, none⟩)) W := by
    unfold Instr.indexAt
    have h1 : (0 : Int) ≤ (k : Int) ∧ (k : Int) < n := by omega
    simp [asIntOf, Sem.run_bind, run_underlying ht, sizeOf, typeInfo, hti, hs1, h1, Addr.add, hk]
  refine wpList_wanted hw fun _ hK => ?_
  unfold Oper.wp execOp
  simp only [ho, hs, hi, Sem.run_bind, hrun, Result.andThen_ok, Sem.run_pure]
  exact hK _ _ h
theorem cell_le {m m' : World} {p : Addr} {v : Value} (h : m.cell? p = some v) (hl : Le m m') : m'.cell? p = some v := hl.cell _ _ h
theorem rangeAt_le {m m' : World} {g off : Nat} {vs : List Value} (h : m.rangeAt g off vs) (hl : Le m m') : m'.rangeAt g off vs := fun j v hv => hl.cell _ _ (h j v hv)
/-- Place of a struct's field that has cells. -/
def fdS (P : Program) (t : TypeId) (k : Nat) : Option Nat :=
  match P.underlying t with
  | some (.struct fs) => (fs[k]?).bind fun f => match P.info? f.type with | some i => if i.size = 0 then none else some f.offset | none => none
  | _ => none
theorem run_fieldAt {t : TypeId} {k fo : Nat} (hf : fdS P t k = some fo) (g off : Nat) (w : World) : (Instr.fieldAt t (.pointer (some ⟨g, off, none⟩)) k).run P w = .ok (.pointer (some ⟨g, off + fo, none⟩)) w := by
  unfold fdS at hf
  split at hf
  · rename_i fs hu
    cases hk : fs[k]? with
    | none => simp [hk] at hf
    | some f =>
      cases hi : P.info? f.type with
      | none => simp [hk, hi] at hf
      | some i =>
        simp only [hk, hi, Option.bind_some] at hf
        split at hf
        · cases hf
        · rename_i hne
          injection hf with hf
          subst hf
          unfold Instr.fieldAt fieldPlace
          rw [Sem.run_bind, run_underlying hu w]
          simp [hk, Instr.sureAddr, sizeOf, typeInfo, hi, hne, Addr.add]
  · cases hf
theorem wl_fieldAddr (hw : Region.wanted o (yielded ops a.tmps) = true) {t : TypeId} {x : Operand} {k : Nat} (ho : o.op = .fieldAddr t x k) {fo : Nat} (hf : fdS P t k = some (fo + 1)) {g off : Nat} (hx : a.eval x = .pointer (some ⟨g, off, none⟩))
    (h : wpList P ops Q rest (a.put o.dst (.pointer (some ⟨g, off + (fo + 1), none⟩))) W) : wpList P ops Q (o :: rest) a W := by
  refine wpList_wanted hw fun _ hK => ?_
  unfold Oper.wp execOp
  simp only [ho, hx, Sem.run_bind, run_fieldAt hf, Result.andThen_ok, Sem.run_pure]
  exact hK _ _ h
theorem wl_fieldAddr0 (hw : Region.wanted o (yielded ops a.tmps) = true) {t : TypeId} {x : Operand} {k : Nat} (ho : o.op = .fieldAddr t x k) (hf : fdS P t k = some 0) {g off : Nat} (hx : a.eval x = .pointer (some ⟨g, off, none⟩))
    (h : wpList P ops Q rest (a.put o.dst (.pointer (some ⟨g, off, none⟩))) W) : wpList P ops Q (o :: rest) a W := by
  refine wpList_wanted hw fun _ hK => ?_
  unfold Oper.wp execOp
  simp only [ho, hx, Sem.run_bind, run_fieldAt hf, Result.andThen_ok, Sem.run_pure, Nat.add_zero]
  exact hK _ _ h
theorem op_make {K : Act → World → Prop} {t : TypeId} {x : Operand} (ho : o.op = .makeSlice t x x) {e : TypeId} {size bytes : Nat} (hap : apS P t = some (e, size, bytes, size)) {z : Array Value} (hz : zc P e = some z) {n : Nat} (hx : a.eval x = .int .i64 n)
    (hn : n ≤ 1000000) (hb : bytes ≤ 1000000) (h : K (a.put o.dst (.slice (some ⟨W.heap.size, 0, none⟩) n n)) (W.alloc (.cells (madeCells z (n * size)) e))) : o.wp P a W K Q := by
  obtain ⟨i, z', ht, hi, hz', hs1, hb1, hz1⟩ := ap_desc hap
  have e1 : z = z'.cells := by
    unfold zc at hz
    rw [hi] at hz
    simp [hz'] at hz
    exact hz.symm
  subst e1
  have hbb : (i.bytes : Int) * (n : Int) ≤ 281474976710656 := by
    have : i.bytes * n ≤ 1000000 * 1000000 := Nat.mul_le_mul (by omega) hn
    have h2 : ((i.bytes * n : Nat) : Int) ≤ 281474976710656 := by omega
    rwa [Int.natCast_mul] at h2
  have hr := run_make (P := P) W t e i z' ht hi hz' .i64 .i64 n n (by omega) (Int.le_refl _) hbb (by omega)
  simp only [Int.toNat_natCast, hs1] at hr
  unfold Oper.wp execOp
  simp only [ho, hx, Sem.run_bind, hr, Result.andThen_ok, Sem.run_pure]
  exact h
theorem wl_make {w0 m0 : World} {Ls : List Lo} (hL : Loc w0 m0 W m Ls) (hw : Region.wanted o (yielded ops a.tmps) = true) {t : TypeId} {x : Operand} (ho : o.op = .makeSlice t x x) {e : TypeId} {size bytes : Nat} (hap : apS P t = some (e, size, bytes, size)) {z : Array Value} (hz : zc P e = some z)
    {n : Nat} (hx : a.eval x = .int .i64 n) (hn : n ≤ 1000000) (hb : bytes ≤ 1000000)
    (h : ∀ W' m', Loc w0 m0 W' m' ((W.heap.size, e, madeCells z (n * size)) :: Ls) → Ext m m' → wpList P ops Q rest (a.put o.dst (.slice (some ⟨W.heap.size, 0, none⟩) n n)) W') : wpList P ops Q (o :: rest) a W :=
  wpList_wanted hw fun _ hK => op_make ho hap hz hx hn hb (hK _ _ (h _ _ (hL.alloc _ e) (Ext.new _ _)))
theorem one2_make {b : Bool} {dst : Option Nat} {B : Nat} {W1 m1 : World} (hV : Vw m1 W1) (hE : B ≤ W1.heap.size) (hd : o.dst = dst) (hgd : o.guard = none) {t : TypeId} {x : Operand} (ho : o.op = .makeSlice t x x) {e : TypeId} {size bytes : Nat} (hap : apS P t = some (e, size, bytes, size)) {z : Array Value} (hz : zc P e = some z)
    {n : Nat} (hx : a.eval x = .int .i64 n) (hn : n ≤ 1000000) (hb : bytes ≤ 1000000) :
    wpList P ops (One2 (NewRow B e (madeCells z (n * size)) n) b a dst W1 m1) [o] a W1 := by
  subst hd
  refine wpList_plain hgd fun _ hK => op_make ho hap hz hx hn hb (hK _ _ ?_)
  have h := (Loc.start hV).alloc (madeCells z (n * size)) e
  refine ⟨rfl, h.ext, _, _, h.mext, h.vw, rfl, ⟨W1.heap.size, rfl, hE, by simp [hV.size], h.at_ (n := 0) rfl, fun a ha => h.hid (W1.heap.size, e, madeCells z (n * size)) (by simp) a ha⟩, fun _ k hk => ?_⟩
  have e : W1.heap.size = k := Option.some.inj hk
  subst e
  exact ⟨Nat.le_refl _, by simp⟩
theorem NewRow.ext {B : Nat} {e : TypeId} {cs : Array Value} {n : Nat} {v : Value} {u um u' um' : World} (h : NewRow B e cs n v u um) (hu : Ext u u') (hm : Ext um um') : NewRow B e cs n v u' um' := by
  obtain ⟨g, rfl, h1, h2, h3, h4⟩ := h
  exact ⟨g, rfl, h1, Nat.lt_of_lt_of_le h2 hm.size, h3.ext hu, fun a ha => by rw [hm.cell (p := a) (by rw [ha]; exact h2)]; exact h4 a ha⟩
theorem blk_ne {w : World} {g g' : Nat} {t t' : TypeId} {cs cs' : Array Value} (h : Blk w g t cs) (h' : Blk w g' t' cs') (hne : t ≠ t' ∨ cs.size ≠ cs'.size) : g ≠ g' := by
  rintro rfl
  unfold Blk at h h'
  rw [h] at h'
  simp only [Option.some.injEq, Obj.cells.injEq] at h'
  rcases hne with hne | hne
  · exact hne h'.2.1
  · exact hne (by rw [h'.1])
class FdC (P : Program) (t : TypeId) (k : Nat) (off : outParam Nat) : Prop where
  h : fdS P t k = some off
theorem t_ixa {t : TypeId} {s i : Operand} (ho : o.op = .indexAddr t s i) {e : TypeId} {size bytes : Nat} [hap : ApC P t e size bytes] {b off n c k : Nat} {kd : IntKind} (hs : a.eval s = .slice (some ⟨b, off, none⟩) n c) (hi : a.eval i = .int kd k)
    (h : wpList P ops Q rest (a.put o.dst (.pointer (some ⟨b, off + k * size, none⟩))) W) (hk : k < n := by first | with_reducible assumption | omega)
    (hw : Region.wanted o (yielded ops a.tmps) = true := by first | exact wanted_none rfl | exact wanted_some rfl rfl rfl rfl) : wpList P ops Q (o :: rest) a W := wl_indexAddr hw ho hap.h hs hi hk h
theorem t_fda {t : TypeId} {x : Operand} {k : Nat} (ho : o.op = .fieldAddr t x k) {fo : Nat} [hf : FdC P t k (fo + 1)] {g off : Nat} (hx : a.eval x = .pointer (some ⟨g, off, none⟩))
    (h : wpList P ops Q rest (a.put o.dst (.pointer (some ⟨g, off + (fo + 1), none⟩))) W)
    (hw : Region.wanted o (yielded ops a.tmps) = true := by first | exact wanted_none rfl | exact wanted_some rfl rfl rfl rfl) : wpList P ops Q (o :: rest) a W := wl_fieldAddr hw ho hf.h hx h
theorem t_fda0 {t : TypeId} {x : Operand} {k : Nat} (ho : o.op = .fieldAddr t x k) [hf : FdC P t k 0] {g off : Nat} (hx : a.eval x = .pointer (some ⟨g, off, none⟩))
    (h : wpList P ops Q rest (a.put o.dst (.pointer (some ⟨g, off, none⟩))) W)
    (hw : Region.wanted o (yielded ops a.tmps) = true := by first | exact wanted_none rfl | exact wanted_some rfl rfl rfl rfl) : wpList P ops Q (o :: rest) a W := wl_fieldAddr0 hw ho hf.h hx h
theorem t_loadV (hV : Vw m W) {ty : TypeId} {x : Operand} (ho : o.op = .load ty x) {g off : Nat} (hx : a.eval x = .pointer (some ⟨g, off, none⟩)) {k : Nat} [hty : AgC P ty k] {vs : List Value}
    (h : wpList P ops Q rest (a.put o.dst (.agg vs.toArray)) W) (hr : m.rangeAt g off vs ∧ vs.length = k := by refine ⟨?_, ?_⟩; exact rangeAt_le (by with_reducible assumption) (by repeat' (first | with_reducible exact Le.refl _ | (with_reducible refine Le.trans ?_ (Ext.le (by assumption))))); exact rfl)
    (hw : Region.wanted o (yielded ops a.tmps) = true := by first | exact wanted_none rfl | exact wanted_some rfl rfl rfl rfl) : wpList P ops Q (o :: rest) a W := wl_loadV hV hw ho hx hty.h hr.1 hr.2 h
theorem t_loadV1 (hV : Vw m W) {ty : TypeId} {x : Operand} (ho : o.op = .load ty x) {g off : Nat} (hx : a.eval x = .pointer (some ⟨g, off, none⟩)) [hty : LfC P ty] {v : Value}
    (h : wpList P ops Q rest (a.put o.dst v) W) (hr : m.cell? ⟨g, off, none⟩ = some v := by exact cell_le (by with_reducible assumption) (by repeat' (first | with_reducible exact Le.refl _ | (with_reducible refine Le.trans ?_ (Ext.le (by assumption))))))
    (hw : Region.wanted o (yielded ops a.tmps) = true := by first | exact wanted_none rfl | exact wanted_some rfl rfl rfl rfl) : wpList P ops Q (o :: rest) a W := wl_loadV1 hV hw ho hx hty.h hr h
end
end Go.Proofs.YtmhkmmmompediaaGreat

/- Facts on the program's types. -/
namespace Go.Proofs.YtmhkmmmompediaaGreat
open Go.RowKit

theorem ap_Fracs : apS Tryz.prog 28 = some (39, 4, 64, 4) := by kernel_rfl
instance iTy_1 : ApC Tryz.prog 28 39 4 64 := ⟨ap_Fracs⟩
theorem ap_ints : apS Tryz.prog 22 = some (3, 1, 8, 1) := by kernel_rfl
instance iTy_2 : ApC Tryz.prog 22 3 1 8 := ⟨ap_ints⟩
theorem ap_Cuts : apS Tryz.prog 24 = some (34, 2, 32, 2) := by kernel_rfl
instance iTy_3 : ApC Tryz.prog 24 34 2 32 := ⟨ap_Cuts⟩
theorem ap_Decs : apS Tryz.prog 29 = some (87, 3, 24, 3) := by kernel_rfl
instance iTy_4 : ApC Tryz.prog 29 87 3 24 := ⟨ap_Decs⟩
theorem ap_Cols : apS Tryz.prog 23 = some (72, 3, 48, 3) := by kernel_rfl
instance iTy_5 : ApC Tryz.prog 23 72 3 48 := ⟨ap_Cols⟩
theorem ag_Cut : agS Tryz.prog 34 = some 2 := by kernel_rfl
instance iTy_6 : AgC Tryz.prog 34 2 := ⟨ag_Cut⟩
theorem ag_Dec : agS Tryz.prog 87 = some 3 := by kernel_rfl
instance iTy_7 : AgC Tryz.prog 87 3 := ⟨ag_Dec⟩
theorem ag_Col : agS Tryz.prog 72 = some 3 := by kernel_rfl
instance iTy_8 : AgC Tryz.prog 72 3 := ⟨ag_Col⟩
theorem ag_Prices : agS Tryz.prog 31 = some 5 := by kernel_rfl
instance iTy_9 : AgC Tryz.prog 31 5 := ⟨ag_Prices⟩
theorem ag_Master : agS Tryz.prog 26 = some 5 := by kernel_rfl
instance iTy_10 : AgC Tryz.prog 26 5 := ⟨ag_Master⟩
theorem lf_ints : lfB Tryz.prog 22 = true := by kernel_rfl
instance iTy_11 : LfC Tryz.prog 22 := ⟨lf_ints⟩
theorem lf_Fracs : lfB Tryz.prog 28 = true := by kernel_rfl
instance iTy_12 : LfC Tryz.prog 28 := ⟨lf_Fracs⟩
theorem lf_Cuts : lfB Tryz.prog 24 = true := by kernel_rfl
instance iTy_13 : LfC Tryz.prog 24 := ⟨lf_Cuts⟩
theorem lf_Decs : lfB Tryz.prog 29 = true := by kernel_rfl
instance iTy_14 : LfC Tryz.prog 29 := ⟨lf_Decs⟩
theorem lf_Cols : lfB Tryz.prog 23 = true := by kernel_rfl
instance iTy_15 : LfC Tryz.prog 23 := ⟨lf_Cols⟩
theorem lf_Errno : lfB Tryz.prog 41 = true := by kernel_rfl
instance iTy_16 : LfC Tryz.prog 41 := ⟨lf_Errno⟩
theorem zc_Cut : zc Tryz.prog 34 = some #[.slice none 0 0, .int .i64 0] := by kernel_rfl
instance iTy_17 : ZcC Tryz.prog 34 #[.slice none 0 0, .int .i64 0] := ⟨zc_Cut⟩
theorem zc_Dec : zc Tryz.prog 87 = some #[.int .i64 0, .int .i64 0, .bool false] := by kernel_rfl
instance iTy_18 : ZcC Tryz.prog 87 #[.int .i64 0, .int .i64 0, .bool false] := ⟨zc_Dec⟩
theorem zc_Prices : zc Tryz.prog 31 = some #[.slice none 0 0, .slice none 0 0, .slice none 0 0, .slice none 0 0, .bool false] := by kernel_rfl
instance iTy_19 : ZcC Tryz.prog 31 #[.slice none 0 0, .slice none 0 0, .slice none 0 0, .slice none 0 0, .bool false] := ⟨zc_Prices⟩
theorem zc_Master : zc Tryz.prog 26 = some #[.int .i64 0, .slice none 0 0, .int .i64 0, .slice none 0 0, .slice none 0 0] := by kernel_rfl
instance iTy_20 : ZcC Tryz.prog 26 #[.int .i64 0, .slice none 0 0, .int .i64 0, .slice none 0 0, .slice none 0 0] := ⟨zc_Master⟩
theorem fd_Cut0 : fdS Tryz.prog 34 0 = some 0 := by kernel_rfl
instance iTy_21 : FdC Tryz.prog 34 0 0 := ⟨fd_Cut0⟩
theorem fd_Cut1 : fdS Tryz.prog 34 1 = some 1 := by kernel_rfl
instance iTy_22 : FdC Tryz.prog 34 1 1 := ⟨fd_Cut1⟩
theorem fd_Dec0 : fdS Tryz.prog 87 0 = some 0 := by kernel_rfl
instance iTy_23 : FdC Tryz.prog 87 0 0 := ⟨fd_Dec0⟩
theorem fd_Dec1 : fdS Tryz.prog 87 1 = some 1 := by kernel_rfl
instance iTy_24 : FdC Tryz.prog 87 1 1 := ⟨fd_Dec1⟩
theorem fd_Dec2 : fdS Tryz.prog 87 2 = some 2 := by kernel_rfl
instance iTy_25 : FdC Tryz.prog 87 2 2 := ⟨fd_Dec2⟩
theorem fd_Prices0 : fdS Tryz.prog 31 0 = some 0 := by kernel_rfl
instance iTy_26 : FdC Tryz.prog 31 0 0 := ⟨fd_Prices0⟩
theorem fd_Prices1 : fdS Tryz.prog 31 1 = some 1 := by kernel_rfl
instance iTy_27 : FdC Tryz.prog 31 1 1 := ⟨fd_Prices1⟩
theorem fd_Prices2 : fdS Tryz.prog 31 2 = some 2 := by kernel_rfl
instance iTy_28 : FdC Tryz.prog 31 2 2 := ⟨fd_Prices2⟩
theorem fd_Prices3 : fdS Tryz.prog 31 3 = some 3 := by kernel_rfl
instance iTy_29 : FdC Tryz.prog 31 3 3 := ⟨fd_Prices3⟩
theorem fd_Prices4 : fdS Tryz.prog 31 4 = some 4 := by kernel_rfl
instance iTy_30 : FdC Tryz.prog 31 4 4 := ⟨fd_Prices4⟩
theorem fd_Master0 : fdS Tryz.prog 26 0 = some 0 := by kernel_rfl
instance iTy_31 : FdC Tryz.prog 26 0 0 := ⟨fd_Master0⟩
theorem fd_Master1 : fdS Tryz.prog 26 1 = some 1 := by kernel_rfl
instance iTy_32 : FdC Tryz.prog 26 1 1 := ⟨fd_Master1⟩
theorem fd_Master2 : fdS Tryz.prog 26 2 = some 2 := by kernel_rfl
instance iTy_33 : FdC Tryz.prog 26 2 2 := ⟨fd_Master2⟩
theorem fd_Master3 : fdS Tryz.prog 26 3 = some 3 := by kernel_rfl
instance iTy_34 : FdC Tryz.prog 26 3 3 := ⟨fd_Master3⟩
theorem fd_Master4 : fdS Tryz.prog 26 4 = some 4 := by kernel_rfl
instance iTy_35 : FdC Tryz.prog 26 4 4 := ⟨fd_Master4⟩
theorem fd_Frac0 : fdS Tryz.prog 39 0 = some 0 := by kernel_rfl
instance iTy_36 : FdC Tryz.prog 39 0 0 := ⟨fd_Frac0⟩
theorem fd_Frac1 : fdS Tryz.prog 39 1 = some 2 := by kernel_rfl
instance iTy_37 : FdC Tryz.prog 39 1 2 := ⟨fd_Frac1⟩
theorem fd_Int0 : fdS Tryz.prog 37 0 = some 0 := by kernel_rfl
instance iTy_38 : FdC Tryz.prog 37 0 0 := ⟨fd_Int0⟩
theorem fd_Int1 : fdS Tryz.prog 37 1 = some 1 := by kernel_rfl
instance iTy_39 : FdC Tryz.prog 37 1 1 := ⟨fd_Int1⟩
end Go.Proofs.YtmhkmmmompediaaGreat

/- Contract of rational.Ceil where the negated numerator is not negative. -/
namespace Go.Proofs.YtmhkmmmompediaaGreat
open Go.RowKit

/-- What DivMod hands back. -/
def DMr (m : World) (v : Value) (x y : Int) : Prop := ∃ q r, v = .tuple #[q, r, .int .i64 0] ∧ IntC m q (x / y) ∧ IntC m r (x % y)
theorem DMr.le {m m' : World} {v : Value} {x y : Int} (h : DMr m v x y) (hb : Le m m') : DMr m' v x y := by
  obtain ⟨q, r, e, h1, h2⟩ := h
  exact ⟨q, r, e, h1.le hb, h2.le hb⟩
theorem i_DivModR (a b : Value) (x y : Int) (w m : World) (hV : Vw m w) (ha : IntV m a x) (hb : IntV m b y) (hx : x.natAbs < 18446744073709551616) (hy : y.natAbs < 18446744073709551616) (hy0 : 0 < y) (hxy : 0 ≤ x ∨ x % y = 0) :
    Calls Tryz.prog 146 #[a, b] w (RetV w m fun m' v => DMr m' v x y) := i_DivMod a b x y w m hV ha hb hx hy hy0 hxy

set_option maxRecDepth 100000 in
set_option maxHeartbeats 8000000 in
theorem q_Ceil (v : Value) (q : Rat) (w m : World) (hV : Vw m w) (h : FracC m v q) (hx : q.num.natAbs < 18446744073709551616) (hy : q.den < 18446744073709551616) (hq : 0 ≤ -q.num ∨ -q.num % (q.den : Int) = 0) :
    Calls Tryz.prog 88 #[v] w (RetV w m fun m' r => IntC m' r (cel q)) := by
  obtain ⟨g, A, n, c, g', B', n', c', rfl, h⟩ := h.lit
  have lx : (digs q.num.natAbs).length ≤ 1000 := Nat.le_trans (len2 hx) (by omega)
  have lx' : (digs (-q.num).natAbs).length ≤ 1000 := by rw [Int.natAbs_neg]; exact lx
  have ly : (digs (q.den : Int).natAbs).length ≤ 1000 := Nat.le_trans (len2 (by simpa using hy)) (by omega)
  have lq : (digs (-q.num / (q.den : Int)).natAbs).length ≤ 1000 := Nat.le_trans (length_digs_mono (Int.natAbs_ediv_le_natAbs _ _)) lx'
  have HX : Hid ((-q.num).natAbs < 18446744073709551616) := by show _ < _; rw [Int.natAbs_neg]; exact hx
  have HY : Hid ((q.den : Int).natAbs < 18446744073709551616) := by show _ < _; simpa using hy
  have HP : Hid ((0 : Int) < q.den) := by show _ < _; have := q.den_pos; omega
  have HQ := Lib.hid hq
  have E : Hid (cel q = -(-q.num / (q.den : Int))) := by show _ = _; simp [cel, flr, Rat.neg_num, Rat.neg_den]
  clear hx hy hq
  have hL := Loc.start hV
  clear hV
  go_enter Tryz.func88, Tryz.ntmps88
  go_wp2_with (first | ((with_reducible refine kAny ?_); go_skip) | ((first | refine tLo ?_ | (refine tSt ?_; clear hL; intro _ hL; simp only [splice, zq1, zq2, zq3] at hL) | (refine tBx ?_; clear hL; intro _ _ hL _) | (refine tAl ?_; clear hL; intro _ _ hL _)); simp only [Act.put, zq1, zq2, zq3]))
  refine (q_parts _ q _ _ hL.vw (h.le leX) ly).mono ?_
  rintro e W11 ⟨_, m11, rfl, hE, hM11, hV, va, vb, rfl, h1, h2⟩
  replace hL := hL.call hE (by assumption) hV; clear hE hV
  obtain ⟨g1, A1, n1, c1, rfl, h1⟩ := h1.lit
  obtain ⟨g2, A2, n2, c2, rfl, h2⟩ := h2.lit
  go_upto_region 2 with ((first | ((with_reducible refine kAny ?_); go_skip) | ((first | refine tLo ?_ | (refine tSt ?_; clear hL; intro _ hL; simp only [splice, zq1, zq2, zq3] at hL) | (refine tBx ?_; clear hL; intro _ _ hL _) | (refine tAl ?_; clear hL; intro _ _ hL _)); simp only [Act.put, zq1, zq2, zq3])))
  obtain ⟨B, hB1, hB2, hB3⟩ := hL.bound
  refine wp_region_by2 10 [false, false, false, false, false, false, false, false, true, true] [false, false, false, false, false, false, true, true, false, false] [(fun v _ _ => v = ?c2_0), Of (fun um v => IntC um v (-q.num)), (fun v _ _ => v = ?c2_2), Of (fun um v => DMr um v (-q.num) (q.den : Int)), Of (fun um v => DMr um v (-q.num) (q.den : Int)), Of (fun um v => IntC um v (-q.num / (q.den : Int))), Of (fun um v => IntC um v (-q.num % (q.den : Int))), Is (.int .i64 0), NewBlk B 37 #[.bool false, .slice none 0 0], NewBlk B 37 #[.bool false, .slice none 0 0]] hL.vw mixed [14, 15, 16, 17, 13, 18, 19, 20, 5, 6] _ (by kernel_rfl) (fun vs => by simp only [lay, Act.put, zq1, zq2, zq3]; rfl) (by kernel_rfl) (by decide) (by decide) ?s2 ?l2 ?r2
  case s2 =>
    refine ⟨?_, ?_, ?_, ?_, ?_, ?_, ?_, ?_, ?_, ?_, trivial⟩
    · intro vs W1 m1 hE hM hV hD
      clear hD
      replace hL := hL.call hE hM hV
      exact sLd
    · intro vs W1 m1 hE hM hV hD
      obtain ⟨⟨_, _, -, -, f14⟩, -⟩ := hD
      have f14 : vs 14 = _ := f14
      generalize vs 14 = x14 at f14 ⊢
      subst x14
      go_wp2_with fail
      refine (i_Negate _ q.num _ _ hV ((h1.toV lx).le leX)).mono ?_
      rintro e W2 ⟨v, m2, rfl, hE2, hM2, hV2, h⟩
      go_wp2_with fail
      refine One2.call hE2 hM2 hV2 ?_; first | exact h | exact rfl
    · intro vs W1 m1 hE hM hV hD
      clear hD
      replace hL := hL.call hE hM hV
      exact sLd
    · intro vs W1 m1 hE hM hV hD
      obtain ⟨⟨_, _, -, i15, f15⟩, ⟨_, _, -, -, f16⟩, -, -⟩ := hD
      have f16 : vs 16 = _ := f16
      generalize vs 16 = x16 at f16 ⊢
      subst x16
      have f15 : IntC _ (vs 15) (-q.num) := f15
      replace f15 := f15.le i15.le
      clear i15
      go_wp2_with fail
      refine (i_DivModR _ _ (-q.num) q.den _ _ hV (f15.toV lx') ((h2.toV ly).le leX) HX.out HY.out HP.out HQ.out).mono ?_
      rintro e W2 ⟨v, m2, rfl, hE2, hM2, hV2, h⟩
      go_wp2_with fail
      refine One2.call hE2 hM2 hV2 ?_; first | exact h | exact rfl
    · intro vs W1 m1 hE hM hV hD
      obtain ⟨⟨_, _, -, i17, f17⟩, -⟩ := hD
      have f17 : DMr _ (vs 17) (-q.num) (q.den : Int) := f17
      replace f17 := f17.le i17.le
      clear i17
      go_wp2_with fail
      refine One2.still hV ?_; exact f17
    · intro vs W1 m1 hE hM hV hD
      obtain ⟨⟨_, _, -, i13, f13⟩, -⟩ := hD
      have f13 : DMr _ (vs 13) (-q.num) (q.den : Int) := f13
      replace f13 := f13.le i13.le
      clear i13
      obtain ⟨q0, r0, e13, k1, k2⟩ := f13
      generalize vs 13 = x13 at e13 ⊢
      subst x13
      replace hL := hL.call hE hM hV
      go_wp2_with (first | ((with_reducible refine kAny ?_); go_skip) | ((first | refine tLo ?_ | (refine tSt ?_; clear hL; intro _ hL; simp only [splice, zq1, zq2, zq3] at hL) | (refine tBx ?_; clear hL; intro _ _ hL _) | (refine tAl ?_; clear hL; intro _ _ hL _)); simp only [Act.put, zq1, zq2, zq3]))
      refine One2.still hV ?_; exact k1
    · intro vs W1 m1 hE hM hV hD
      obtain ⟨⟨_, _, -, i13, f13⟩, -, -⟩ := hD
      have f13 : DMr _ (vs 13) (-q.num) (q.den : Int) := f13
      replace f13 := f13.le i13.le
      clear i13
      obtain ⟨q0, r0, e13, k1, k2⟩ := f13
      generalize vs 13 = x13 at e13 ⊢
      subst x13
      replace hL := hL.call hE hM hV
      go_wp2_with (first | ((with_reducible refine kAny ?_); go_skip) | ((first | refine tLo ?_ | (refine tSt ?_; clear hL; intro _ hL; simp only [splice, zq1, zq2, zq3] at hL) | (refine tBx ?_; clear hL; intro _ _ hL _) | (refine tAl ?_; clear hL; intro _ _ hL _)); simp only [Act.put, zq1, zq2, zq3]))
      refine One2.still hV ?_; exact k2
    · intro vs W1 m1 hE hM hV hD
      obtain ⟨⟨_, _, -, i13, f13⟩, -, -⟩ := hD
      have f13 : DMr _ (vs 13) (-q.num) (q.den : Int) := f13
      replace f13 := f13.le i13.le
      clear i13
      obtain ⟨q0, r0, e13, k1, k2⟩ := f13
      generalize vs 13 = x13 at e13 ⊢
      subst x13
      replace hL := hL.call hE hM hV
      go_wp2_with (first | ((with_reducible refine kAny ?_); go_skip) | ((first | refine tLo ?_ | (refine tSt ?_; clear hL; intro _ hL; simp only [splice, zq1, zq2, zq3] at hL) | (refine tBx ?_; clear hL; intro _ _ hL _) | (refine tAl ?_; clear hL; intro _ _ hL _)); simp only [Act.put, zq1, zq2, zq3]))
      refine One2.still hV ?_; exact rfl
    · intro vs W1 m1 hE hM hV hD
      clear hD
      exact one2_alloc hV (Nat.le_trans hB3 hE.size) rfl rfl rfl ZcC.h
    · intro vs W1 m1 hE hM hV hD
      clear hD
      exact one2_alloc hV (Nat.le_trans hB3 hE.size) rfl rfl rfl ZcC.h
  case l2 =>
    refine ⟨fun h => (by cases h), fun h => (by cases h), fun h => (by cases h), fun h => (by cases h), fun h => (by cases h), fun h => (by cases h), fun _ => ?_, fun _ => ?_, fun h => (by cases h), fun h => (by cases h), trivial⟩
    · intro vs W1 m1 hE hM hV hD
      obtain ⟨⟨_, _, -, i13, f13⟩, -, -⟩ := hD
      have f13 : DMr _ (vs 13) (-q.num) (q.den : Int) := f13
      replace f13 := f13.le i13.le
      clear i13
      obtain ⟨q0, r0, e13, k1, k2⟩ := f13
      generalize vs 13 = x13 at e13 ⊢
      subst x13
      exact ⟨_, Or.inl ⟨(by rfl), fun w => (by rfl)⟩, k2⟩
    · intro vs W1 m1 hE hM hV hD
      obtain ⟨⟨_, _, -, i13, f13⟩, -, -⟩ := hD
      have f13 : DMr _ (vs 13) (-q.num) (q.den : Int) := f13
      replace f13 := f13.le i13.le
      clear i13
      obtain ⟨q0, r0, e13, k1, k2⟩ := f13
      generalize vs 13 = x13 at e13 ⊢
      subst x13
      exact ⟨_, Or.inl ⟨(by rfl), fun w => (by rfl)⟩, rfl⟩
  intro vs W1 m1 hE hM hV hF hD
  obtain ⟨-, ⟨_, _, -, i15, f15⟩, -, ⟨_, _, -, i17, f17⟩, ⟨_, _, -, i13, f13⟩, ⟨_, _, -, i18, f18⟩, ⟨_, _, -, i19, f19⟩, ⟨_, _, -, -, f20⟩, ⟨_, _, j5, i5, f5⟩, ⟨_, _, j6, i6, f6⟩, -⟩ := hF
  replace hL := hL.call hE hM hV
  replace f15 : IntC _ (vs 15) (-q.num) := f15
  replace f15 := f15.le i15.le
  clear i15
  replace f17 : DMr _ (vs 17) (-q.num) (q.den : Int) := f17
  replace f17 := f17.le i17.le
  clear i17
  replace f13 : DMr _ (vs 13) (-q.num) (q.den : Int) := f13
  replace f13 := f13.le i13.le
  clear i13
  replace f18 : IntC _ (vs 18) (-q.num / (q.den : Int)) := f18
  replace f18 := f18.le i18.le
  clear i18
  obtain ⟨g18, A18, n18, c18, e18, f18⟩ := f18.lit
  generalize vs 18 = x18 at e18 ⊢
  subst x18
  replace f19 : IntC _ (vs 19) (-q.num % (q.den : Int)) := f19
  replace f19 := f19.le i19.le
  clear i19
  obtain ⟨g19, A19, n19, c19, e19, f19⟩ := f19.lit
  generalize vs 19 = x19 at e19 ⊢
  subst x19
  have f20 : vs 20 = _ := f20
  generalize vs 20 = x20 at f20 ⊢
  subst x20
  obtain ⟨b5, e5, hL⟩ := Loc.addB (Lt := []) hB1 hB2 hL f5 j5 i5 ad0
  obtain ⟨b6, e6, hL⟩ := Loc.addB (Lt := [_]) hB1 hB2 hL f6 j6 i6 (adS (by have h := hD 9 8 _ _ _ _ (by decide) (by decide) (by decide) rfl rfl rfl rfl rfl rfl; rw [e5] at h; exact fun hk => h _ hk rfl) ad0)
  simp only [e5, e6, List.cons_append, List.nil_append] at hL ⊢
  clear e5 f5 j5 i5 e6 f6 j6 i6
  clear hB1 hB2 hB3 hD
  clear hE hV
  simp only [List.drop_succ_cons, List.drop_zero]
  go_wp2_with (first | ((with_reducible refine kAny ?_); go_skip) | ((first | refine tLo ?_ | (refine tSt ?_; clear hL; intro _ hL; simp only [splice, zq1, zq2, zq3] at hL) | (refine tBx ?_; clear hL; intro _ _ hL _) | (refine tAl ?_; clear hL; intro _ _ hL _)); simp only [Act.put, zq1, zq2, zq3]))
  refine QN.mk ?_
  go_wp2_with (first | ((with_reducible refine kAny ?_); go_skip) | ((first | refine tLo ?_ | (refine tSt ?_; clear hL; intro _ hL; simp only [splice, zq1, zq2, zq3] at hL) | (refine tBx ?_; clear hL; intro _ _ hL _) | (refine tAl ?_; clear hL; intro _ _ hL _)); simp only [Act.put, zq1, zq2, zq3]))
  refine (i_Negate _ _ _ _ hL.vw ((f18.toV lq).le leX)).mono ?_
  rintro e W12 ⟨v12, m12, rfl, hE, hM12, hV, h12⟩
  replace hL := hL.call hE (by assumption) hV; clear hE hV
  obtain ⟨g12', A12', n12', c12', rfl, h12⟩ := h12.lit
  go_wp2_with (first | ((with_reducible refine kAny ?_); go_skip) | ((first | refine tLo ?_ | (refine tSt ?_; clear hL; intro _ hL; simp only [splice, zq1, zq2, zq3] at hL) | (refine tBx ?_; clear hL; intro _ _ hL _) | (refine tAl ?_; clear hL; intro _ _ hL _)); simp only [Act.put, zq1, zq2, zq3]))
  refine fin_agg hL Tryz.results88 rfl rfl loX AgC.h (by exact rfl) ?_
  rw [E.out]; exact h12
end Go.Proofs.YtmhkmmmompediaaGreat

/- Contracts of pairingref27.SameInts (equal lists). -/
namespace Go.Proofs.YtmhkmmmompediaaGreat
open Go.RowKit

def IsI (_ : World) (v : Value) (x : Int) : Prop := v = .int .i64 x
abbrev IntL := ListV (α := Int) 1 IsI
theorem IntL.le {m m' : World} {v : Value} {xs : List Int} (h : IntL m v xs) (hb : Le m m') : IntL m' v xs := ListV.le (fun _ _ _ _ h _ => h) h hb
theorem IntL.at_ {m : World} {A : Option Addr} {n c : Nat} {xs : List Int} (h : IntL m (.slice A n c) xs) {k : Nat} {x : Int} (hk : xs[k]? = some x) :
    ∃ b off, A = some ⟨b, off, none⟩ ∧ m.cell? ⟨b, off + k, none⟩ = some (.int .i64 x) := by
  obtain ⟨b, off, v, e, rfl, _, hr⟩ := ListV.at_ h (by omega) hk
  exact ⟨b, off, e, by simpa using hr 0 _ rfl⟩
theorem at_some {α : Type} {l : List α} {k n : Nat} (hn : Hid (l.length = n)) (hk : k < n) : ∃ x, l[k]? = some x := ⟨_, List.getElem?_eq_getElem (by rw [hn.out]; exact hk)⟩

set_option maxRecDepth 100000 in
set_option maxHeartbeats 8000000 in
theorem r_SameInts (a b : Value) (xs : List Int) (w m : World) (hV : Vw m w) (ha : IntL m a xs) (hb : IntL m b xs) (hl : xs.length ≤ 1000000) :
    Calls Tryz.prog 55 #[a, b] w (RetV w m fun _ r => r = .bool true) := by
  obtain ⟨A, c, rfl, hc, ha⟩ := ha.lit
  obtain ⟨B, d, rfl, hd, hb⟩ := hb.lit
  have hL := Loc.start hV
  clear hV
  generalize hn : xs.length = n at *
  have HN := Lib.hid hn
  clear hn
  have hnn : ((n : Int) != (n : Int)) = false := by simp
  go_enter Tryz.func55, Tryz.ntmps55
  go_wp2_with (first | ((with_reducible refine kAny ?_); go_skip) | ((first | refine tIn ?_ | refine tLn ?_); simp only [Act.put, zq1, zq2, zq3]))
  go_loopw [5] (fun i wr => ∃ (k : Nat) (mm : World), k ≤ n ∧ i = .int .i64 k ∧ Loc w m wr mm [] ∧ Ext m mm) (fun i _ => n - (intOf i).toNat)
  case atStart => exact ⟨0, m, Nat.zero_le _, rfl, hL, Ext.refl _⟩
  case round =>
    clear hL
    obtain ⟨k, mm, hk, rfl, hL, hM⟩ := hrel
    by_cases hlt : k < n
    · obtain ⟨x, hx⟩ := at_some HN hlt
      obtain ⟨b1, o1, rfl, hc1⟩ := IntL.at_ ha hx
      obtain ⟨b2, o2, rfl, hc2⟩ := IntL.at_ hb hx
      clear hx
      have hxx : ((x : Int) != (x : Int)) = false := by simp
      go_upto_region 6 with ((first | ((with_reducible refine kAny ?_); go_skip) | ((first | refine tIn ?_ | refine tLn ?_); simp only [Act.put, zq1, zq2, zq3])))
      (try simp only [eq_self] at *)
      refine wp_region_by2 9 [false, false, false, false, false, false, false, false, false] [false, false, false, false, false, false, false, false, false] [(fun v _ _ => v = ?c6_0), (fun v _ _ => v = ?c6_1), (fun v _ _ => v = ?c6_2), (fun v _ _ => v = ?c6_3), (fun v _ _ => v = ?c6_4), (fun v _ _ => v = ?c6_5), (fun v _ _ => v = ?c6_6), (fun v _ _ => v = ?c6_7), (fun v _ _ => v = ?c6_8)] hL.vw mixed [17, 18, 19, 20, 21, 22, 23, 24, 25] _ (by kernel_rfl) (fun vs => by simp only [lay, Act.put, zq1, zq2, zq3]; rfl) (by kernel_rfl) (by decide) (by decide) ?s6 ?l6 ?r6
      case s6 =>
        refine ⟨?_, ?_, ?_, ?_, ?_, ?_, ?_, ?_, ?_, trivial⟩
        · intro vs W1 m1 hE hM hV hD
          clear hD
          replace hL := hL.call hE hM hV
          exact sPu
        · intro vs W1 m1 hE hM hV hD
          clear hD
          replace hL := hL.call hE hM hV
          exact sPu
        · intro vs W1 m1 hE hM hV hD
          obtain ⟨⟨_, _, -, -, f17⟩, ⟨_, _, -, -, f18⟩, -⟩ := hD
          have f17 : vs 17 = _ := f17
          generalize vs 17 = x17 at f17 ⊢
          subst x17
          have f18 : vs 18 = _ := f18
          generalize vs 18 = x18 at f18 ⊢
          subst x18
          replace hL := hL.call hE hM hV
          exact sIx
        · intro vs W1 m1 hE hM hV hD
          obtain ⟨⟨_, _, -, -, f19⟩, -⟩ := hD
          have f19 : vs 19 = _ := f19
          generalize vs 19 = x19 at f19 ⊢
          subst x19
          replace hL := hL.call hE hM hV
          exact sLd
        · intro vs W1 m1 hE hM hV hD
          clear hD
          replace hL := hL.call hE hM hV
          exact sPu
        · intro vs W1 m1 hE hM hV hD
          clear hD
          replace hL := hL.call hE hM hV
          exact sPu
        · intro vs W1 m1 hE hM hV hD
          obtain ⟨⟨_, _, -, -, f21⟩, ⟨_, _, -, -, f22⟩, -⟩ := hD
          have f21 : vs 21 = _ := f21
          generalize vs 21 = x21 at f21 ⊢
          subst x21
          have f22 : vs 22 = _ := f22
          generalize vs 22 = x22 at f22 ⊢
          subst x22
          replace hL := hL.call hE hM hV
          exact sIx
        · intro vs W1 m1 hE hM hV hD
          obtain ⟨⟨_, _, -, -, f23⟩, -⟩ := hD
          have f23 : vs 23 = _ := f23
          generalize vs 23 = x23 at f23 ⊢
          subst x23
          replace hL := hL.call hE hM hV
          exact sLd
        · intro vs W1 m1 hE hM hV hD
          obtain ⟨⟨_, _, -, -, f20⟩, ⟨_, _, -, -, f24⟩, -⟩ := hD
          have f20 : vs 20 = _ := f20
          generalize vs 20 = x20 at f20 ⊢
          subst x20
          have f24 : vs 24 = _ := f24
          generalize vs 24 = x24 at f24 ⊢
          subst x24
          replace hL := hL.call hE hM hV
          exact sPu
      case l6 =>
        refine ⟨fun h => (by cases h), fun h => (by cases h), fun h => (by cases h), fun h => (by cases h), fun h => (by cases h), fun h => (by cases h), fun h => (by cases h), fun h => (by cases h), fun h => (by cases h), trivial⟩
      intro vs W1 m1 hE hM hV hF hD
      clear hD
      obtain ⟨⟨_, _, -, -, f17⟩, ⟨_, _, -, -, f18⟩, ⟨_, _, -, -, f19⟩, ⟨_, _, -, -, f20⟩, ⟨_, _, -, -, f21⟩, ⟨_, _, -, -, f22⟩, ⟨_, _, -, -, f23⟩, ⟨_, _, -, -, f24⟩, ⟨_, _, -, -, f25⟩, -⟩ := hF
      replace hL := hL.call hE hM hV
      have f17 : vs 17 = _ := f17
      generalize vs 17 = x17 at f17 ⊢
      subst x17
      have f18 : vs 18 = _ := f18
      generalize vs 18 = x18 at f18 ⊢
      subst x18
      have f19 : vs 19 = _ := f19
      generalize vs 19 = x19 at f19 ⊢
      subst x19
      have f20 : vs 20 = _ := f20
      generalize vs 20 = x20 at f20 ⊢
      subst x20
      have f21 : vs 21 = _ := f21
      generalize vs 21 = x21 at f21 ⊢
      subst x21
      have f22 : vs 22 = _ := f22
      generalize vs 22 = x22 at f22 ⊢
      subst x22
      have f23 : vs 23 = _ := f23
      generalize vs 23 = x23 at f23 ⊢
      subst x23
      have f24 : vs 24 = _ := f24
      generalize vs 24 = x24 at f24 ⊢
      subst x24
      have f25 : vs 25 = _ := f25
      generalize vs 25 = x25 at f25 ⊢
      subst x25
      clear hE hV
      simp only [List.drop_succ_cons, List.drop_zero]
      go_wp2_with (first | ((with_reducible refine kAny ?_); go_skip) | ((first | refine tIn ?_ | refine tLn ?_); simp only [Act.put, zq1, zq2, zq3]))
      refine QN.mk ?_
      go_wp2_with (first | ((with_reducible refine kAny ?_); go_skip) | ((first | refine tIn ?_ | refine tLn ?_); simp only [Act.put, zq1, zq2, zq3]))
      go_roundw
      case rel => exact ⟨k + 1, _, by omega, by go_num, hL, hL.mext⟩
      case measure => simp [intOf] <;> omega
    · go_wp2_with (first | ((with_reducible refine kAny ?_); go_skip) | ((first | refine tIn ?_ | refine tLn ?_); simp only [Act.put, zq1, zq2, zq3]))
      go_ret
      exact RetV.mk hL rfl
end Go.Proofs.YtmhkmmmompediaaGreat

/- Contract of pairingref25.SameList (equal lists). -/
namespace Go.Proofs.YtmhkmmmompediaaGreat
open Go.RowKit

abbrev FracL := ListV (α := Rat) 4 FracC
theorem FracL.le {m m' : World} {v : Value} {qs : List Rat} (h : FracL m v qs) (hb : Le m m') : FracL m' v qs := ListV.le (fun _ _ _ _ h hb => h.le hb) h hb
theorem FracL.at_ {m : World} {A : Option Addr} {n c : Nat} {qs : List Rat} (h : FracL m (.slice A n c) qs) {k : Nat} {q : Rat} (hk : qs[k]? = some q) :
    ∃ b off g A1 n1 c1 g' B k' d, A = some ⟨b, off, none⟩ ∧ FracC m (.agg #[.bool g, .slice A1 n1 c1, .bool g', .slice B k' d]) q ∧ m.rangeAt b (off + k * 4) [.bool g, .slice A1 n1 c1, .bool g', .slice B k' d] := by
  obtain ⟨b, off, v, e, hv, _, hr⟩ := ListV.at_ h (by omega) hk
  obtain ⟨g, A1, n1, c1, g', B, k', d, rfl, hv⟩ := hv.lit
  exact ⟨b, off, g, A1, n1, c1, g', B, k', d, e, hv, hr⟩

set_option maxRecDepth 100000 in
set_option maxHeartbeats 8000000 in
theorem r_SameList (a b : Value) (qs : List Rat) (w m : World) (hV : Vw m w) (ha : FracL m a qs) (hb : FracL m b qs) (hf : ∀ q ∈ qs, Fit 200 q) (hl : qs.length ≤ 1000000) :
    Calls Tryz.prog 91 #[a, b] w (RetV w m fun _ r => r = .bool true) := by
  obtain ⟨A, c, rfl, hc, ha⟩ := ha.lit
  obtain ⟨B, d, rfl, hd, hb⟩ := hb.lit
  have hL := Loc.start hV
  clear hV
  have HF := Lib.hid hf
  clear hf
  generalize hn : qs.length = n at *
  have HN := Lib.hid hn
  clear hn
  have hnn : ((n : Int) != (n : Int)) = false := by simp
  go_enter Tryz.func91, Tryz.ntmps91
  go_wp2_with (first | ((with_reducible refine kAny ?_); go_skip) | ((first | refine tIn ?_ | refine tLn ?_); simp only [Act.put, zq1, zq2, zq3]))
  go_loopw [5] (fun i wr => ∃ (k : Nat) (mm : World), k ≤ n ∧ i = .int .i64 k ∧ Loc w m wr mm [] ∧ Ext m mm) (fun i _ => n - (intOf i).toNat)
  case atStart => exact ⟨0, m, Nat.zero_le _, rfl, hL, Ext.refl _⟩
  case round =>
    clear hL
    obtain ⟨k, mm, hk, rfl, hL, hM⟩ := hrel
    by_cases hlt : k < n
    · obtain ⟨x, hx⟩ := at_some HN hlt
      obtain ⟨b1, o1, g1, A1, n1, c1, g1', B1, k1, d1, rfl, ha1, hr1⟩ := FracL.at_ ha hx
      obtain ⟨b2, o2, g2, A2, n2, c2, g2', B2, k2, d2, rfl, hb1, hr2⟩ := FracL.at_ hb hx
      have HX : Hid (Fit 200 x) := HF.out x (List.mem_of_getElem? hx)
      clear hx
      go_upto_region 6 with ((first | ((with_reducible refine kAny ?_); go_skip) | ((first | refine tIn ?_ | refine tLn ?_); simp only [Act.put, zq1, zq2, zq3])))
      (try simp only [eq_self] at *)
      refine wp_region_by2 10 [false, false, false, false, false, false, false, false, false, false] [false, false, false, false, false, false, false, false, false, false] [(fun v _ _ => v = ?c6_0), (fun v _ _ => v = ?c6_1), (fun v _ _ => v = ?c6_2), (fun v _ _ => v = ?c6_3), (fun v _ _ => v = ?c6_4), (fun v _ _ => v = ?c6_5), (fun v _ _ => v = ?c6_6), (fun v _ _ => v = ?c6_7), Is (.bool true), (fun v _ _ => v = ?c6_9)] hL.vw mixed [17, 18, 19, 20, 21, 22, 23, 24, 25, 26] _ (by kernel_rfl) (fun vs => by simp only [lay, Act.put, zq1, zq2, zq3]; rfl) (by kernel_rfl) (by decide) (by decide) ?s6 ?l6 ?r6
      case s6 =>
        refine ⟨?_, ?_, ?_, ?_, ?_, ?_, ?_, ?_, ?_, ?_, trivial⟩
        · intro vs W1 m1 hE hM hV hD
          clear hD
          replace hL := hL.call hE hM hV
          exact sPu
        · intro vs W1 m1 hE hM hV hD
          clear hD
          replace hL := hL.call hE hM hV
          exact sPu
        · intro vs W1 m1 hE hM hV hD
          obtain ⟨⟨_, _, -, -, f17⟩, ⟨_, _, -, -, f18⟩, -⟩ := hD
          have f17 : vs 17 = _ := f17
          generalize vs 17 = x17 at f17 ⊢
          subst x17
          have f18 : vs 18 = _ := f18
          generalize vs 18 = x18 at f18 ⊢
          subst x18
          replace hL := hL.call hE hM hV
          exact sIx
        · intro vs W1 m1 hE hM hV hD
          obtain ⟨⟨_, _, -, -, f19⟩, -⟩ := hD
          have f19 : vs 19 = _ := f19
          generalize vs 19 = x19 at f19 ⊢
          subst x19
          replace hL := hL.call hE hM hV
          exact sLd
        · intro vs W1 m1 hE hM hV hD
          clear hD
          replace hL := hL.call hE hM hV
          exact sPu
        · intro vs W1 m1 hE hM hV hD
          clear hD
          replace hL := hL.call hE hM hV
          exact sPu
        · intro vs W1 m1 hE hM hV hD
          obtain ⟨⟨_, _, -, -, f21⟩, ⟨_, _, -, -, f22⟩, -⟩ := hD
          have f21 : vs 21 = _ := f21
          generalize vs 21 = x21 at f21 ⊢
          subst x21
          have f22 : vs 22 = _ := f22
          generalize vs 22 = x22 at f22 ⊢
          subst x22
          replace hL := hL.call hE hM hV
          exact sIx
        · intro vs W1 m1 hE hM hV hD
          obtain ⟨⟨_, _, -, -, f23⟩, -⟩ := hD
          have f23 : vs 23 = _ := f23
          generalize vs 23 = x23 at f23 ⊢
          subst x23
          replace hL := hL.call hE hM hV
          exact sLd
        · intro vs W1 m1 hE hM hV hD
          obtain ⟨⟨_, _, -, -, f20⟩, ⟨_, _, -, -, f24⟩, -⟩ := hD
          have f20 : vs 20 = _ := f20
          generalize vs 20 = x20 at f20 ⊢
          subst x20
          have f24 : vs 24 = _ := f24
          generalize vs 24 = x24 at f24 ⊢
          subst x24
          go_wp2_with fail
          refine (r_Same _ _ x _ _ hV (ha1.le leX) (hb1.le leX) (HX.out.mono (by decide))).mono ?_
          rintro e W2 ⟨v, m2, rfl, hE2, hM2, hV2, h⟩
          go_wp2_with fail
          refine One2.call hE2 hM2 hV2 ?_; first | exact h | exact rfl
        · intro vs W1 m1 hE hM hV hD
          obtain ⟨⟨_, _, -, -, f25⟩, -⟩ := hD
          have f25 : vs 25 = _ := f25
          generalize vs 25 = x25 at f25 ⊢
          subst x25
          replace hL := hL.call hE hM hV
          exact sPu
      case l6 =>
        refine ⟨fun h => (by cases h), fun h => (by cases h), fun h => (by cases h), fun h => (by cases h), fun h => (by cases h), fun h => (by cases h), fun h => (by cases h), fun h => (by cases h), fun h => (by cases h), fun h => (by cases h), trivial⟩
      intro vs W1 m1 hE hM hV hF hD
      clear hD
      obtain ⟨⟨_, _, -, -, f17⟩, ⟨_, _, -, -, f18⟩, ⟨_, _, -, -, f19⟩, ⟨_, _, -, -, f20⟩, ⟨_, _, -, -, f21⟩, ⟨_, _, -, -, f22⟩, ⟨_, _, -, -, f23⟩, ⟨_, _, -, -, f24⟩, ⟨_, _, -, -, f25⟩, ⟨_, _, -, -, f26⟩, -⟩ := hF
      replace hL := hL.call hE hM hV
      have f17 : vs 17 = _ := f17
      generalize vs 17 = x17 at f17 ⊢
      subst x17
      have f18 : vs 18 = _ := f18
      generalize vs 18 = x18 at f18 ⊢
      subst x18
      have f19 : vs 19 = _ := f19
      generalize vs 19 = x19 at f19 ⊢
      subst x19
      have f20 : vs 20 = _ := f20
      generalize vs 20 = x20 at f20 ⊢
      subst x20
      have f21 : vs 21 = _ := f21
      generalize vs 21 = x21 at f21 ⊢
      subst x21
      have f22 : vs 22 = _ := f22
      generalize vs 22 = x22 at f22 ⊢
      subst x22
      have f23 : vs 23 = _ := f23
      generalize vs 23 = x23 at f23 ⊢
      subst x23
      have f24 : vs 24 = _ := f24
      generalize vs 24 = x24 at f24 ⊢
      subst x24
      have f25 : vs 25 = _ := f25
      generalize vs 25 = x25 at f25 ⊢
      subst x25
      have f26 : vs 26 = _ := f26
      generalize vs 26 = x26 at f26 ⊢
      subst x26
      clear hE hV
      simp only [List.drop_succ_cons, List.drop_zero]
      go_wp2_with (first | ((with_reducible refine kAny ?_); go_skip) | ((first | refine tIn ?_ | refine tLn ?_); simp only [Act.put, zq1, zq2, zq3]))
      refine QN.mk ?_
      go_wp2_with (first | ((with_reducible refine kAny ?_); go_skip) | ((first | refine tIn ?_ | refine tLn ?_); simp only [Act.put, zq1, zq2, zq3]))
      go_roundw
      case rel => exact ⟨k + 1, _, by omega, by go_num, hL, hL.mext⟩
      case measure => simp [intOf] <;> omega
    · go_wp2_with (first | ((with_reducible refine kAny ?_); go_skip) | ((first | refine tIn ?_ | refine tLn ?_); simp only [Act.put, zq1, zq2, zq3]))
      go_ret
      exact RetV.mk hL rfl
end Go.Proofs.YtmhkmmmompediaaGreat

/- Contracts of pairingref27.SameCuts (equal lists), SameDecisions. -/
namespace Go.Proofs.YtmhkmmmompediaaGreat
open Go.RowKit

abbrev Cut := List Int × Int
def CutR (m : World) (v : Value) (x : Cut) : Prop := ∃ s, v = .agg #[s, .int .i64 x.2] ∧ IntL m s x.1 ∧ x.1.length ≤ 1000000
abbrev CutL := ListV (α := Cut) 2 CutR
theorem CutR.le {m m' : World} {v : Value} {x : Cut} (h : CutR m v x) (hb : Le m m') : CutR m' v x := by
  obtain ⟨s, e, h, hl⟩ := h
  exact ⟨s, e, IntL.le h hb, hl⟩
theorem CutL.le {m m' : World} {v : Value} {xs : List Cut} (h : CutL m v xs) (hb : Le m m') : CutL m' v xs := ListV.le (fun _ _ _ _ h hb => h.le hb) h hb
theorem CutL.at_ {m : World} {A : Option Addr} {n c : Nat} {xs : List Cut} (h : CutL m (.slice A n c) xs) {k : Nat} {x : Cut} (hk : xs[k]? = some x) :
    ∃ b off A1 c1, A = some ⟨b, off, none⟩ ∧ IntL m (.slice A1 x.1.length c1) x.1 ∧ x.1.length ≤ 1000000 ∧ x.1.length ≤ c1 ∧ m.cell? ⟨b, off + k * 2, none⟩ = some (.slice A1 x.1.length c1) ∧ m.cell? ⟨b, off + k * 2 + 1, none⟩ = some (.int .i64 x.2) ∧
      m.rangeAt b (off + k * 2) [.slice A1 x.1.length c1, .int .i64 x.2] := by
  obtain ⟨b, off, v, e, ⟨s, rfl, hs, hl⟩, _, hr⟩ := ListV.at_ h (by omega) hk
  obtain ⟨A1, c1, rfl, hc1, hs⟩ := hs.lit
  exact ⟨b, off, A1, c1, e, hs, hl, hc1, by simpa using hr 0 _ rfl, hr 1 _ rfl, hr⟩

set_option maxRecDepth 100000 in
set_option maxHeartbeats 8000000 in
theorem r_SameCuts (a b : Value) (xs : List Cut) (w m : World) (hV : Vw m w) (ha : CutL m a xs) (hb : CutL m b xs) (hl : xs.length ≤ 1000000) :
    Calls Tryz.prog 41 #[a, b] w (RetV w m fun _ r => r = .bool true) := by
  obtain ⟨A, c, rfl, hc, ha⟩ := ha.lit
  obtain ⟨B, d, rfl, hd, hb⟩ := hb.lit
  have hL := Loc.start hV
  clear hV
  generalize hn : xs.length = n at *
  have HN := Lib.hid hn
  clear hn
  have hnn : ((n : Int) != (n : Int)) = false := by simp
  go_enter Tryz.func41, Tryz.ntmps41
  go_wp2_with (first | ((with_reducible refine kAny ?_); go_skip) | ((first | refine tIn ?_ | refine tFd ?_ | refine tLn ?_); simp only [Act.put, zq1, zq2, zq3]))
  go_loopw [5] (fun i wr => ∃ (k : Nat) (mm : World), k ≤ n ∧ i = .int .i64 k ∧ Loc w m wr mm [] ∧ Ext m mm) (fun i _ => n - (intOf i).toNat)
  case atStart => exact ⟨0, m, Nat.zero_le _, rfl, hL, Ext.refl _⟩
  case round =>
    clear hL
    obtain ⟨k, mm, hk, rfl, hL, hM⟩ := hrel
    by_cases hlt : k < n
    · obtain ⟨⟨r, dv⟩, hx⟩ := at_some HN hlt
      obtain ⟨b1, o1, A1, c1, rfl, hs1, hl1, hc1, hp1, hq1, -⟩ := CutL.at_ ha hx
      obtain ⟨b2, o2, A2, c2, rfl, hs2, hl2, hc2, hp2, hq2, -⟩ := CutL.at_ hb hx
      clear hx
      simp only at hs1 hl1 hc1 hp1 hq1 hs2 hl2 hc2 hp2 hq2
      have hxx : (dv != dv) = false := by simp
      have hll := Lib.hid hl1
      clear hl1 hl2
      go_upto_region 6 with ((first | ((with_reducible refine kAny ?_); go_skip) | ((first | refine tIn ?_ | refine tFd ?_ | refine tLn ?_); simp only [Act.put, zq1, zq2, zq3])))
      (try simp only [eq_self] at *)
      refine wp_region_by2 25 [false, false, false, false, false, false, false, false, false, false, false, false, false, false, false, false, false, false, false, false, false, false, false, false, false] [false, false, false, false, false, false, false, false, false, false, false, false, false, false, false, false, false, false, false, false, false, false, false, false, false] [(fun v _ _ => v = ?c6_0), (fun v _ _ => v = ?c6_1), (fun v _ _ => v = ?c6_2), (fun v _ _ => v = ?c6_3), (fun v _ _ => v = ?c6_4), (fun v _ _ => v = ?c6_5), (fun v _ _ => v = ?c6_6), (fun v _ _ => v = ?c6_7), (fun v _ _ => v = ?c6_8), (fun v _ _ => v = ?c6_9), (fun v _ _ => v = ?c6_10), (fun v _ _ => v = ?c6_11), (fun v _ _ => v = ?c6_12), (fun v _ _ => v = ?c6_13), (fun v _ _ => v = ?c6_14), (fun v _ _ => v = ?c6_15), (fun v _ _ => v = ?c6_16), (fun v _ _ => v = ?c6_17), (fun v _ _ => v = ?c6_18), (fun v _ _ => v = ?c6_19), (fun v _ _ => v = ?c6_20), (fun v _ _ => v = ?c6_21), Is (.bool true), (fun v _ _ => v = ?c6_23), (fun v _ _ => v = ?c6_24)] hL.vw mixed [17, 18, 19, 20, 21, 22, 23, 24, 25, 26, 27, 28, 29, 30, 31, 32, 33, 34, 35, 36, 37, 38, 39, 40, 41] _ (by kernel_rfl) (fun vs => by simp only [lay, Act.put, zq1, zq2, zq3]; rfl) (by kernel_rfl) (by decide) (by decide) ?s6 ?l6 ?r6
      case s6 =>
        refine ⟨?_, ?_, ?_, ?_, ?_, ?_, ?_, ?_, ?_, ?_, ?_, ?_, ?_, ?_, ?_, ?_, ?_, ?_, ?_, ?_, ?_, ?_, ?_, ?_, ?_, trivial⟩
        · intro vs W1 m1 hE hM hV hD
          clear hD
          replace hL := hL.call hE hM hV
          exact sPu
        · intro vs W1 m1 hE hM hV hD
          clear hD
          replace hL := hL.call hE hM hV
          exact sPu
        · intro vs W1 m1 hE hM hV hD
          obtain ⟨⟨_, _, -, -, f17⟩, ⟨_, _, -, -, f18⟩, -⟩ := hD
          have f17 : vs 17 = _ := f17
          generalize vs 17 = x17 at f17 ⊢
          subst x17
          have f18 : vs 18 = _ := f18
          generalize vs 18 = x18 at f18 ⊢
          subst x18
          replace hL := hL.call hE hM hV
          exact sIx
        · intro vs W1 m1 hE hM hV hD
          obtain ⟨⟨_, _, -, -, f19⟩, -⟩ := hD
          have f19 : vs 19 = _ := f19
          generalize vs 19 = x19 at f19 ⊢
          subst x19
          replace hL := hL.call hE hM hV
          exact sFd
        · intro vs W1 m1 hE hM hV hD
          obtain ⟨⟨_, _, -, -, f20⟩, -⟩ := hD
          have f20 : vs 20 = _ := f20
          generalize vs 20 = x20 at f20 ⊢
          subst x20
          replace hL := hL.call hE hM hV
          exact sLd
        · intro vs W1 m1 hE hM hV hD
          clear hD
          replace hL := hL.call hE hM hV
          exact sPu
        · intro vs W1 m1 hE hM hV hD
          clear hD
          replace hL := hL.call hE hM hV
          exact sPu
        · intro vs W1 m1 hE hM hV hD
          obtain ⟨⟨_, _, -, -, f22⟩, ⟨_, _, -, -, f23⟩, -⟩ := hD
          have f22 : vs 22 = _ := f22
          generalize vs 22 = x22 at f22 ⊢
          subst x22
          have f23 : vs 23 = _ := f23
          generalize vs 23 = x23 at f23 ⊢
          subst x23
          replace hL := hL.call hE hM hV
          exact sIx
        · intro vs W1 m1 hE hM hV hD
          obtain ⟨⟨_, _, -, -, f24⟩, -⟩ := hD
          have f24 : vs 24 = _ := f24
          generalize vs 24 = x24 at f24 ⊢
          subst x24
          replace hL := hL.call hE hM hV
          exact sFd
        · intro vs W1 m1 hE hM hV hD
          obtain ⟨⟨_, _, -, -, f25⟩, -⟩ := hD
          have f25 : vs 25 = _ := f25
          generalize vs 25 = x25 at f25 ⊢
          subst x25
          replace hL := hL.call hE hM hV
          exact sLd
        · intro vs W1 m1 hE hM hV hD
          obtain ⟨⟨_, _, -, -, f21⟩, ⟨_, _, -, -, f26⟩, -⟩ := hD
          have f21 : vs 21 = _ := f21
          generalize vs 21 = x21 at f21 ⊢
          subst x21
          have f26 : vs 26 = _ := f26
          generalize vs 26 = x26 at f26 ⊢
          subst x26
          replace hL := hL.call hE hM hV
          exact sPu
        · intro vs W1 m1 hE hM hV hD
          obtain ⟨⟨_, _, -, -, f27⟩, -⟩ := hD
          have f27 : vs 27 = _ := f27
          generalize vs 27 = x27 at f27 ⊢
          subst x27
          replace hL := hL.call hE hM hV
          exact sPu
        · intro vs W1 m1 hE hM hV hD
          obtain ⟨⟨_, _, -, -, f28⟩, -⟩ := hD
          have f28 : vs 28 = _ := f28
          generalize vs 28 = x28 at f28 ⊢
          subst x28
          replace hL := hL.call hE hM hV
          exact sPu
        · intro vs W1 m1 hE hM hV hD
          obtain ⟨⟨_, _, -, -, f28⟩, -⟩ := hD
          have f28 : vs 28 = _ := f28
          generalize vs 28 = x28 at f28 ⊢
          subst x28
          replace hL := hL.call hE hM hV
          exact sPu
        · intro vs W1 m1 hE hM hV hD
          obtain ⟨⟨_, _, -, -, f29⟩, ⟨_, _, -, -, f30⟩, ⟨_, _, -, -, f28⟩, -⟩ := hD
          have f29 : vs 29 = _ := f29
          generalize vs 29 = x29 at f29 ⊢
          subst x29
          have f30 : vs 30 = _ := f30
          generalize vs 30 = x30 at f30 ⊢
          subst x30
          have f28 : vs 28 = _ := f28
          generalize vs 28 = x28 at f28 ⊢
          subst x28
          replace hL := hL.call hE hM hV
          exact sIx
        · intro vs W1 m1 hE hM hV hD
          obtain ⟨⟨_, _, -, -, f31⟩, ⟨_, _, -, -, f28⟩, -⟩ := hD
          have f31 : vs 31 = _ := f31
          generalize vs 31 = x31 at f31 ⊢
          subst x31
          have f28 : vs 28 = _ := f28
          generalize vs 28 = x28 at f28 ⊢
          subst x28
          replace hL := hL.call hE hM hV
          exact sFd
        · intro vs W1 m1 hE hM hV hD
          obtain ⟨⟨_, _, -, -, f32⟩, ⟨_, _, -, -, f28⟩, -⟩ := hD
          have f32 : vs 32 = _ := f32
          generalize vs 32 = x32 at f32 ⊢
          subst x32
          have f28 : vs 28 = _ := f28
          generalize vs 28 = x28 at f28 ⊢
          subst x28
          replace hL := hL.call hE hM hV
          exact sLd
        · intro vs W1 m1 hE hM hV hD
          obtain ⟨⟨_, _, -, -, f28⟩, -⟩ := hD
          have f28 : vs 28 = _ := f28
          generalize vs 28 = x28 at f28 ⊢
          subst x28
          replace hL := hL.call hE hM hV
          exact sPu
        · intro vs W1 m1 hE hM hV hD
          obtain ⟨⟨_, _, -, -, f28⟩, -⟩ := hD
          have f28 : vs 28 = _ := f28
          generalize vs 28 = x28 at f28 ⊢
          subst x28
          replace hL := hL.call hE hM hV
          exact sPu
        · intro vs W1 m1 hE hM hV hD
          obtain ⟨⟨_, _, -, -, f34⟩, ⟨_, _, -, -, f35⟩, ⟨_, _, -, -, f28⟩, -⟩ := hD
          have f34 : vs 34 = _ := f34
          generalize vs 34 = x34 at f34 ⊢
          subst x34
          have f35 : vs 35 = _ := f35
          generalize vs 35 = x35 at f35 ⊢
          subst x35
          have f28 : vs 28 = _ := f28
          generalize vs 28 = x28 at f28 ⊢
          subst x28
          replace hL := hL.call hE hM hV
          exact sIx
        · intro vs W1 m1 hE hM hV hD
          obtain ⟨⟨_, _, -, -, f36⟩, ⟨_, _, -, -, f28⟩, -⟩ := hD
          have f36 : vs 36 = _ := f36
          generalize vs 36 = x36 at f36 ⊢
          subst x36
          have f28 : vs 28 = _ := f28
          generalize vs 28 = x28 at f28 ⊢
          subst x28
          replace hL := hL.call hE hM hV
          exact sFd
        · intro vs W1 m1 hE hM hV hD
          obtain ⟨⟨_, _, -, -, f37⟩, ⟨_, _, -, -, f28⟩, -⟩ := hD
          have f37 : vs 37 = _ := f37
          generalize vs 37 = x37 at f37 ⊢
          subst x37
          have f28 : vs 28 = _ := f28
          generalize vs 28 = x28 at f28 ⊢
          subst x28
          replace hL := hL.call hE hM hV
          exact sLd
        · intro vs W1 m1 hE hM hV hD
          obtain ⟨⟨_, _, -, -, f33⟩, ⟨_, _, -, -, f38⟩, ⟨_, _, -, -, f28⟩, -, -⟩ := hD
          have f33 : vs 33 = _ := f33
          generalize vs 33 = x33 at f33 ⊢
          subst x33
          have f38 : vs 38 = _ := f38
          generalize vs 38 = x38 at f38 ⊢
          subst x38
          have f28 : vs 28 = _ := f28
          generalize vs 28 = x28 at f28 ⊢
          subst x28
          go_wp2_with fail
          refine (r_SameInts _ _ r _ _ hV (IntL.le hs1 leX) (IntL.le hs2 leX) hll.out).mono ?_
          rintro e W2 ⟨v, m2, rfl, hE2, hM2, hV2, h⟩
          go_wp2_with fail
          refine One2.call hE2 hM2 hV2 ?_; first | exact h | exact rfl
        · intro vs W1 m1 hE hM hV hD
          obtain ⟨⟨_, _, -, -, f39⟩, ⟨_, _, -, -, f28⟩, -⟩ := hD
          have f39 : vs 39 = _ := f39
          generalize vs 39 = x39 at f39 ⊢
          subst x39
          have f28 : vs 28 = _ := f28
          generalize vs 28 = x28 at f28 ⊢
          subst x28
          replace hL := hL.call hE hM hV
          exact sPu
        · intro vs W1 m1 hE hM hV hD
          obtain ⟨⟨_, _, -, -, f28⟩, ⟨_, _, -, -, f40⟩, -⟩ := hD
          have f28 : vs 28 = _ := f28
          generalize vs 28 = x28 at f28 ⊢
          subst x28
          have f40 : vs 40 = _ := f40
          generalize vs 40 = x40 at f40 ⊢
          subst x40
          replace hL := hL.call hE hM hV
          exact sPu
      case l6 =>
        refine ⟨fun h => (by cases h), fun h => (by cases h), fun h => (by cases h), fun h => (by cases h), fun h => (by cases h), fun h => (by cases h), fun h => (by cases h), fun h => (by cases h), fun h => (by cases h), fun h => (by cases h), fun h => (by cases h), fun h => (by cases h), fun h => (by cases h), fun h => (by cases h), fun h => (by cases h), fun h => (by cases h), fun h => (by cases h), fun h => (by cases h), fun h => (by cases h), fun h => (by cases h), fun h => (by cases h), fun h => (by cases h), fun h => (by cases h), fun h => (by cases h), fun h => (by cases h), trivial⟩
      intro vs W1 m1 hE hM hV hF hD
      clear hD
      obtain ⟨⟨_, _, -, -, f17⟩, ⟨_, _, -, -, f18⟩, ⟨_, _, -, -, f19⟩, ⟨_, _, -, -, f20⟩, ⟨_, _, -, -, f21⟩, ⟨_, _, -, -, f22⟩, ⟨_, _, -, -, f23⟩, ⟨_, _, -, -, f24⟩, ⟨_, _, -, -, f25⟩, ⟨_, _, -, -, f26⟩, ⟨_, _, -, -, f27⟩, ⟨_, _, -, -, f28⟩, ⟨_, _, -, -, f29⟩, ⟨_, _, -, -, f30⟩, ⟨_, _, -, -, f31⟩, ⟨_, _, -, -, f32⟩, ⟨_, _, -, -, f33⟩, ⟨_, _, -, -, f34⟩, ⟨_, _, -, -, f35⟩, ⟨_, _, -, -, f36⟩, ⟨_, _, -, -, f37⟩, ⟨_, _, -, -, f38⟩, ⟨_, _, -, -, f39⟩, ⟨_, _, -, -, f40⟩, ⟨_, _, -, -, f41⟩, -⟩ := hF
      replace hL := hL.call hE hM hV
      have f17 : vs 17 = _ := f17
      generalize vs 17 = x17 at f17 ⊢
      subst x17
      have f18 : vs 18 = _ := f18
      generalize vs 18 = x18 at f18 ⊢
      subst x18
      have f19 : vs 19 = _ := f19
      generalize vs 19 = x19 at f19 ⊢
      subst x19
      have f20 : vs 20 = _ := f20
      generalize vs 20 = x20 at f20 ⊢
      subst x20
      have f21 : vs 21 = _ := f21
      generalize vs 21 = x21 at f21 ⊢
      subst x21
      have f22 : vs 22 = _ := f22
      generalize vs 22 = x22 at f22 ⊢
      subst x22
      have f23 : vs 23 = _ := f23
      generalize vs 23 = x23 at f23 ⊢
      subst x23
      have f24 : vs 24 = _ := f24
      generalize vs 24 = x24 at f24 ⊢
      subst x24
      have f25 : vs 25 = _ := f25
      generalize vs 25 = x25 at f25 ⊢
      subst x25
      have f26 : vs 26 = _ := f26
      generalize vs 26 = x26 at f26 ⊢
      subst x26
      have f27 : vs 27 = _ := f27
      generalize vs 27 = x27 at f27 ⊢
      subst x27
      have f28 : vs 28 = _ := f28
      generalize vs 28 = x28 at f28 ⊢
      subst x28
      have f29 : vs 29 = _ := f29
      generalize vs 29 = x29 at f29 ⊢
      subst x29
      have f30 : vs 30 = _ := f30
      generalize vs 30 = x30 at f30 ⊢
      subst x30
      have f31 : vs 31 = _ := f31
      generalize vs 31 = x31 at f31 ⊢
      subst x31
      have f32 : vs 32 = _ := f32
      generalize vs 32 = x32 at f32 ⊢
      subst x32
      have f33 : vs 33 = _ := f33
      generalize vs 33 = x33 at f33 ⊢
      subst x33
      have f34 : vs 34 = _ := f34
      generalize vs 34 = x34 at f34 ⊢
      subst x34
      have f35 : vs 35 = _ := f35
      generalize vs 35 = x35 at f35 ⊢
      subst x35
      have f36 : vs 36 = _ := f36
      generalize vs 36 = x36 at f36 ⊢
      subst x36
      have f37 : vs 37 = _ := f37
      generalize vs 37 = x37 at f37 ⊢
      subst x37
      have f38 : vs 38 = _ := f38
      generalize vs 38 = x38 at f38 ⊢
      subst x38
      have f39 : vs 39 = _ := f39
      generalize vs 39 = x39 at f39 ⊢
      subst x39
      have f40 : vs 40 = _ := f40
      generalize vs 40 = x40 at f40 ⊢
      subst x40
      have f41 : vs 41 = _ := f41
      generalize vs 41 = x41 at f41 ⊢
      subst x41
      clear hE hV
      simp only [List.drop_succ_cons, List.drop_zero]
      go_wp2_with (first | ((with_reducible refine kAny ?_); go_skip) | ((first | refine tIn ?_ | refine tFd ?_ | refine tLn ?_); simp only [Act.put, zq1, zq2, zq3]))
      refine QN.mk ?_
      go_wp2_with (first | ((with_reducible refine kAny ?_); go_skip) | ((first | refine tIn ?_ | refine tFd ?_ | refine tLn ?_); simp only [Act.put, zq1, zq2, zq3]))
      go_roundw
      case rel => exact ⟨k + 1, _, by omega, by go_num, hL, hL.mext⟩
      case measure => simp [intOf] <;> omega
    · go_wp2_with (first | ((with_reducible refine kAny ?_); go_skip) | ((first | refine tIn ?_ | refine tFd ?_ | refine tLn ?_); simp only [Act.put, zq1, zq2, zq3]))
      go_ret
      exact RetV.mk hL rfl
end Go.Proofs.YtmhkmmmompediaaGreat

/- Contracts of pairingref27.SameDecisions, slices.Equal. -/
namespace Go.Proofs.YtmhkmmmompediaaGreat
open Go.RowKit

abbrev Dec := Int × Int × Bool
def DecR (_ : World) (v : Value) (x : Dec) : Prop := v = .agg #[.int .i64 x.1, .int .i64 x.2.1, .bool x.2.2]
abbrev DecL := ListV (α := Dec) 3 DecR
theorem DecL.le {m m' : World} {v : Value} {xs : List Dec} (h : DecL m v xs) (hb : Le m m') : DecL m' v xs := ListV.le (fun _ _ _ _ h _ => h) h hb
theorem DecL.at_ {m : World} {A : Option Addr} {n c : Nat} {xs : List Dec} (h : DecL m (.slice A n c) xs) {k : Nat} {x : Dec} (hk : xs[k]? = some x) :
    ∃ b off, A = some ⟨b, off, none⟩ ∧ m.rangeAt b (off + k * 3) [.int .i64 x.1, .int .i64 x.2.1, .bool x.2.2] := by
  obtain ⟨b, off, v, e, rfl, _, hr⟩ := ListV.at_ h (by omega) hk
  exact ⟨b, off, e, hr⟩
theorem lists_step {α : Type} {xs ys : List α} {k : Nat} {x y : α} (h : ∀ j, j < k → xs[j]? = ys[j]?) (hx : xs[k]? = some x) (hy : ys[k]? = some y) (e : x = y) : ∀ j, j < k + 1 → xs[j]? = ys[j]? := by
  intro j hj
  by_cases hjk : j = k
  · subst hjk; rw [hx, hy, e]
  · exact h j (by omega)
theorem lists_eq {α : Type} {xs ys : List α} {k n : Nat} (hx : xs.length = n) (hy : ys.length = n) (hk : ¬ k < n) (h : ∀ j, j < k → xs[j]? = ys[j]?) : xs = ys := by
  apply List.ext_getElem?
  intro j
  by_cases hj : j < k
  · exact h j hj
  · rw [List.getElem?_eq_none (by omega), List.getElem?_eq_none (by omega)]

theorem dec_hS : Tryz.prog.underlying 87 = some (.struct (Tryz.prog.fieldsOf 87)) := by kernel_rfl
theorem dec_hp : Tryz.prog.stoodInHeld 87 = false := by kernel_rfl
theorem dec_hg : Tryz.prog.eqGuardType Tryz.prog.depth 87 = false := by kernel_rfl
theorem dec_eq (x1 x2 y1 y2 : Int) (x3 y3 : Bool) (w : World) : (Op.equalIn 10000 87 (.agg #[.int .i64 x1, .int .i64 x2, .bool x3]) (.agg #[.int .i64 y1, .int .i64 y2, .bool y3])).run Tryz.prog w = .ok (decide ((x1, x2, x3) = (y1, y2, y3))) w := by
  rw [show (10000 : Nat) = 9999 + 1 from rfl, run_equalIn_agg w 9999 87 _ _ dec_hS dec_hp]
  simp only [Program.fieldsOf, Tryz.underlying87]
  go_simp
  by_cases h1 : x1 = y1 <;> by_cases h2 : x2 = y2 <;> cases x3 <;> cases y3 <;> simp [h1, h2]
theorem dec_neq {x1 x2 y1 y2 : Int} {x3 y3 : Bool} {b : Bool} (h : decide ((x1, x2, x3) = (y1, y2, y3)) = !b) (w : World) : (binOp .neq 87 (.agg #[.int .i64 x1, .int .i64 x2, .bool x3]) (.agg #[.int .i64 y1, .int .i64 y2, .bool y3])).run Tryz.prog w = .ok (.bool b) w := by
  rw [run_neq_struct, dec_eq, h]
  simp

set_option maxRecDepth 100000 in
set_option maxHeartbeats 8000000 in
theorem r_SameDecisions (a b : Value) (xs ys : List Dec) (w m : World) (hV : Vw m w) (ha : DecL m a xs) (hb : DecL m b ys) (hl : xs.length ≤ 1000000) (hl' : ys.length ≤ 1000000) :
    Calls Tryz.prog 59 #[a, b] w (RetV w m fun _ r => r = .bool (decide (xs = ys))) := by
  obtain ⟨A, c, rfl, hc, ha⟩ := ha.lit
  obtain ⟨B, d, rfl, hd, hb⟩ := hb.lit
  have hL := Loc.start hV
  clear hV
  by_cases hne : xs.length = ys.length
  · rw [← hne] at hd hb ⊢
    clear hl'
    have HN' : Hid (ys.length = xs.length) := hne.symm
    clear hne
    generalize hn : xs.length = n at *
    have HN := Lib.hid hn
    clear hn
    have hnn : ((n : Int) != (n : Int)) = false := by simp
    go_enter Tryz.func59, Tryz.ntmps59
    go_wp2_with (first | ((with_reducible refine kAny ?_); go_skip) | ((first | refine tIn ?_ | refine tLn ?_); simp only [Act.put, zq1, zq2, zq3]))
    go_loopw [5] (fun i wr => ∃ (k : Nat) (mm : World), k ≤ n ∧ i = .int .i64 k ∧ Loc w m wr mm [] ∧ Hid (∀ j, j < k → xs[j]? = ys[j]?)) (fun i _ => n - (intOf i).toNat)
    case atStart => exact ⟨0, m, Nat.zero_le _, rfl, hL, fun j hj => by omega⟩
    case round =>
      clear hL
      obtain ⟨k, mm, hk, rfl, hL, HJ⟩ := hrel
      have hM := hL.mext
      by_cases hlt : k < n
      · obtain ⟨⟨x1, x2, x3⟩, hx⟩ := at_some HN hlt
        obtain ⟨⟨y1, y2, y3⟩, hy⟩ := at_some HN' hlt
        obtain ⟨b1, o1, rfl, hr1⟩ := DecL.at_ ha hx
        obtain ⟨b2, o2, rfl, hr2⟩ := DecL.at_ hb hy
        have HX := Lib.hid hx
        have HY := Lib.hid hy
        clear hx hy
        simp only at hr1 hr2
        have q2 : ∀ w x y xs ys, (eqGuard .neq 87 x y (.agg xs) (.agg ys)).run Tryz.prog w = .ok () w := fun w x y xs ys => run_eqGuard_agg w _ _ _ _ _ _ dec_hg
        by_cases he : (x1, x2, x3) = (y1, y2, y3)
        · have q1 := fun w => dec_neq (b := false) (decide_eq_true he) w
          have HE := Lib.hid he
          clear he
          go_upto_region 6 with ((first | ((with_reducible refine kAny ?_); go_skip) | ((first | refine tIn ?_ | refine tLn ?_); simp only [Act.put, zq1, zq2, zq3])))
          (try simp only [eq_self] at *)
          refine wp_region_by2 9 [false, false, false, false, false, false, false, false, false] [false, false, false, false, false, false, false, false, false] [(fun v _ _ => v = ?c6_0), (fun v _ _ => v = ?c6_1), (fun v _ _ => v = ?c6_2), (fun v _ _ => v = ?c6_3), (fun v _ _ => v = ?c6_4), (fun v _ _ => v = ?c6_5), (fun v _ _ => v = ?c6_6), (fun v _ _ => v = ?c6_7), (fun v _ _ => v = ?c6_8)] hL.vw mixed [17, 18, 19, 20, 21, 22, 23, 24, 25] _ (by kernel_rfl) (fun vs => by simp only [lay, Act.put, zq1, zq2, zq3]; rfl) (by kernel_rfl) (by decide) (by decide) ?s6 ?l6 ?r6
          case s6 =>
            refine ⟨?_, ?_, ?_, ?_, ?_, ?_, ?_, ?_, ?_, trivial⟩
            · intro vs W1 m1 hE hM hV hD
              clear hD
              replace hL := hL.call hE hM hV
              exact sPu
            · intro vs W1 m1 hE hM hV hD
              clear hD
              replace hL := hL.call hE hM hV
              exact sPu
            · intro vs W1 m1 hE hM hV hD
              obtain ⟨⟨_, _, -, -, f17⟩, ⟨_, _, -, -, f18⟩, -⟩ := hD
              have f17 : vs 17 = _ := f17
              generalize vs 17 = x17 at f17 ⊢
              subst x17
              have f18 : vs 18 = _ := f18
              generalize vs 18 = x18 at f18 ⊢
              subst x18
              replace hL := hL.call hE hM hV
              exact sIx
            · intro vs W1 m1 hE hM hV hD
              obtain ⟨⟨_, _, -, -, f19⟩, -⟩ := hD
              have f19 : vs 19 = _ := f19
              generalize vs 19 = x19 at f19 ⊢
              subst x19
              replace hL := hL.call hE hM hV
              exact sLd
            · intro vs W1 m1 hE hM hV hD
              clear hD
              replace hL := hL.call hE hM hV
              exact sPu
            · intro vs W1 m1 hE hM hV hD
              clear hD
              replace hL := hL.call hE hM hV
              exact sPu
            · intro vs W1 m1 hE hM hV hD
              obtain ⟨⟨_, _, -, -, f21⟩, ⟨_, _, -, -, f22⟩, -⟩ := hD
              have f21 : vs 21 = _ := f21
              generalize vs 21 = x21 at f21 ⊢
              subst x21
              have f22 : vs 22 = _ := f22
              generalize vs 22 = x22 at f22 ⊢
              subst x22
              replace hL := hL.call hE hM hV
              exact sIx
            · intro vs W1 m1 hE hM hV hD
              obtain ⟨⟨_, _, -, -, f23⟩, -⟩ := hD
              have f23 : vs 23 = _ := f23
              generalize vs 23 = x23 at f23 ⊢
              subst x23
              replace hL := hL.call hE hM hV
              exact sLd
            · intro vs W1 m1 hE hM hV hD
              obtain ⟨⟨_, _, -, -, f20⟩, ⟨_, _, -, -, f24⟩, -⟩ := hD
              have f20 : vs 20 = _ := f20
              generalize vs 20 = x20 at f20 ⊢
              subst x20
              have f24 : vs 24 = _ := f24
              generalize vs 24 = x24 at f24 ⊢
              subst x24
              replace hL := hL.call hE hM hV
              exact sPu
          case l6 =>
            refine ⟨fun h => (by cases h), fun h => (by cases h), fun h => (by cases h), fun h => (by cases h), fun h => (by cases h), fun h => (by cases h), fun h => (by cases h), fun h => (by cases h), fun h => (by cases h), trivial⟩
          intro vs W1 m1 hE hM hV hF hD
          clear hD
          obtain ⟨⟨_, _, -, -, f17⟩, ⟨_, _, -, -, f18⟩, ⟨_, _, -, -, f19⟩, ⟨_, _, -, -, f20⟩, ⟨_, _, -, -, f21⟩, ⟨_, _, -, -, f22⟩, ⟨_, _, -, -, f23⟩, ⟨_, _, -, -, f24⟩, ⟨_, _, -, -, f25⟩, -⟩ := hF
          replace hL := hL.call hE hM hV
          have f17 : vs 17 = _ := f17
          generalize vs 17 = x17 at f17 ⊢
          subst x17
          have f18 : vs 18 = _ := f18
          generalize vs 18 = x18 at f18 ⊢
          subst x18
          have f19 : vs 19 = _ := f19
          generalize vs 19 = x19 at f19 ⊢
          subst x19
          have f20 : vs 20 = _ := f20
          generalize vs 20 = x20 at f20 ⊢
          subst x20
          have f21 : vs 21 = _ := f21
          generalize vs 21 = x21 at f21 ⊢
          subst x21
          have f22 : vs 22 = _ := f22
          generalize vs 22 = x22 at f22 ⊢
          subst x22
          have f23 : vs 23 = _ := f23
          generalize vs 23 = x23 at f23 ⊢
          subst x23
          have f24 : vs 24 = _ := f24
          generalize vs 24 = x24 at f24 ⊢
          subst x24
          have f25 : vs 25 = _ := f25
          generalize vs 25 = x25 at f25 ⊢
          subst x25
          clear hE hV
          simp only [List.drop_succ_cons, List.drop_zero]
          go_wp2_with (first | ((with_reducible refine kAny ?_); go_skip) | ((first | refine tIn ?_ | refine tLn ?_); simp only [Act.put, zq1, zq2, zq3]))
          refine QN.mk ?_
          go_wp2_with (first | ((with_reducible refine kAny ?_); go_skip) | ((first | refine tIn ?_ | refine tLn ?_); simp only [Act.put, zq1, zq2, zq3]))
          go_roundw
          case rel => exact ⟨k + 1, _, by omega, by go_num, hL, lists_step HJ.out HX.out HY.out HE.out⟩
          case measure => simp [intOf] <;> omega
        · have q1 := fun w => dec_neq (b := true) (decide_eq_false he) w
          have E : Hid (decide (xs = ys) = false) := by
            show _ = _
            exact decide_eq_false fun h => he (Option.some.inj (by rw [← HX.out, ← HY.out, h]))
          clear he
          go_upto_region 6 with ((first | ((with_reducible refine kAny ?_); go_skip) | ((first | refine tIn ?_ | refine tLn ?_); simp only [Act.put, zq1, zq2, zq3])))
          (try simp only [eq_self] at *)
          refine wp_region_by2 9 [false, false, false, false, false, false, false, false, false] [false, false, false, false, false, false, false, false, false] [(fun v _ _ => v = ?c6_0b), (fun v _ _ => v = ?c6_1b), (fun v _ _ => v = ?c6_2b), (fun v _ _ => v = ?c6_3b), (fun v _ _ => v = ?c6_4b), (fun v _ _ => v = ?c6_5b), (fun v _ _ => v = ?c6_6b), (fun v _ _ => v = ?c6_7b), (fun v _ _ => v = ?c6_8b)] hL.vw mixed [17, 18, 19, 20, 21, 22, 23, 24, 25] _ (by kernel_rfl) (fun vs => by simp only [lay, Act.put, zq1, zq2, zq3]; rfl) (by kernel_rfl) (by decide) (by decide) ?s6b ?l6b ?r6b
          case s6b =>
            refine ⟨?_, ?_, ?_, ?_, ?_, ?_, ?_, ?_, ?_, trivial⟩
            · intro vs W1 m1 hE hM hV hD
              clear hD
              replace hL := hL.call hE hM hV
              exact sPu
            · intro vs W1 m1 hE hM hV hD
              clear hD
              replace hL := hL.call hE hM hV
              exact sPu
            · intro vs W1 m1 hE hM hV hD
              obtain ⟨⟨_, _, -, -, f17⟩, ⟨_, _, -, -, f18⟩, -⟩ := hD
              have f17 : vs 17 = _ := f17
              generalize vs 17 = x17 at f17 ⊢
              subst x17
              have f18 : vs 18 = _ := f18
              generalize vs 18 = x18 at f18 ⊢
              subst x18
              replace hL := hL.call hE hM hV
              exact sIx
            · intro vs W1 m1 hE hM hV hD
              obtain ⟨⟨_, _, -, -, f19⟩, -⟩ := hD
              have f19 : vs 19 = _ := f19
              generalize vs 19 = x19 at f19 ⊢
              subst x19
              replace hL := hL.call hE hM hV
              exact sLd
            · intro vs W1 m1 hE hM hV hD
              clear hD
              replace hL := hL.call hE hM hV
              exact sPu
            · intro vs W1 m1 hE hM hV hD
              clear hD
              replace hL := hL.call hE hM hV
              exact sPu
            · intro vs W1 m1 hE hM hV hD
              obtain ⟨⟨_, _, -, -, f21⟩, ⟨_, _, -, -, f22⟩, -⟩ := hD
              have f21 : vs 21 = _ := f21
              generalize vs 21 = x21 at f21 ⊢
              subst x21
              have f22 : vs 22 = _ := f22
              generalize vs 22 = x22 at f22 ⊢
              subst x22
              replace hL := hL.call hE hM hV
              exact sIx
            · intro vs W1 m1 hE hM hV hD
              obtain ⟨⟨_, _, -, -, f23⟩, -⟩ := hD
              have f23 : vs 23 = _ := f23
              generalize vs 23 = x23 at f23 ⊢
              subst x23
              replace hL := hL.call hE hM hV
              exact sLd
            · intro vs W1 m1 hE hM hV hD
              obtain ⟨⟨_, _, -, -, f20⟩, ⟨_, _, -, -, f24⟩, -⟩ := hD
              have f20 : vs 20 = _ := f20
              generalize vs 20 = x20 at f20 ⊢
              subst x20
              have f24 : vs 24 = _ := f24
              generalize vs 24 = x24 at f24 ⊢
              subst x24
              replace hL := hL.call hE hM hV
              exact sPu
          case l6b =>
            refine ⟨fun h => (by cases h), fun h => (by cases h), fun h => (by cases h), fun h => (by cases h), fun h => (by cases h), fun h => (by cases h), fun h => (by cases h), fun h => (by cases h), fun h => (by cases h), trivial⟩
          intro vs W1 m1 hE hM hV hF hD
          clear hD
          obtain ⟨⟨_, _, -, -, f17⟩, ⟨_, _, -, -, f18⟩, ⟨_, _, -, -, f19⟩, ⟨_, _, -, -, f20⟩, ⟨_, _, -, -, f21⟩, ⟨_, _, -, -, f22⟩, ⟨_, _, -, -, f23⟩, ⟨_, _, -, -, f24⟩, ⟨_, _, -, -, f25⟩, -⟩ := hF
          replace hL := hL.call hE hM hV
          have f17 : vs 17 = _ := f17
          generalize vs 17 = x17 at f17 ⊢
          subst x17
          have f18 : vs 18 = _ := f18
          generalize vs 18 = x18 at f18 ⊢
          subst x18
          have f19 : vs 19 = _ := f19
          generalize vs 19 = x19 at f19 ⊢
          subst x19
          have f20 : vs 20 = _ := f20
          generalize vs 20 = x20 at f20 ⊢
          subst x20
          have f21 : vs 21 = _ := f21
          generalize vs 21 = x21 at f21 ⊢
          subst x21
          have f22 : vs 22 = _ := f22
          generalize vs 22 = x22 at f22 ⊢
          subst x22
          have f23 : vs 23 = _ := f23
          generalize vs 23 = x23 at f23 ⊢
          subst x23
          have f24 : vs 24 = _ := f24
          generalize vs 24 = x24 at f24 ⊢
          subst x24
          have f25 : vs 25 = _ := f25
          generalize vs 25 = x25 at f25 ⊢
          subst x25
          clear hE hV
          simp only [List.drop_succ_cons, List.drop_zero]
          go_wp2_with (first | ((with_reducible refine kAny ?_); go_skip) | ((first | refine tIn ?_ | refine tLn ?_); simp only [Act.put, zq1, zq2, zq3]))
          refine QN.mk ?_
          go_wp2_with (first | ((with_reducible refine kAny ?_); go_skip) | ((first | refine tIn ?_ | refine tLn ?_); simp only [Act.put, zq1, zq2, zq3]))
          go_ret
          exact RetV.mk hL (congrArg Value.bool E.out.symm)
      · have E : Hid (decide (xs = ys) = true) := by show _ = _; exact decide_eq_true (lists_eq HN.out HN'.out hlt HJ.out)
        go_wp2_with (first | ((with_reducible refine kAny ?_); go_skip) | ((first | refine tIn ?_ | refine tLn ?_); simp only [Act.put, zq1, zq2, zq3]))
        go_ret
        exact RetV.mk hL (congrArg Value.bool E.out.symm)
  · have E : Hid (decide (xs = ys) = false) := by show _ = _; exact decide_eq_false (fun h => hne (by rw [h]))
    have hnn : ((xs.length : Int) != (ys.length : Int)) = true := by simp; omega
    generalize xs.length = n1 at *
    generalize ys.length = n2 at *
    clear hne
    go_enter Tryz.func59, Tryz.ntmps59
    go_wp2_with (first | ((with_reducible refine kAny ?_); go_skip) | ((first | refine tIn ?_ | refine tLn ?_); simp only [Act.put, zq1, zq2, zq3]))
    go_ret
    exact RetV.mk hL (congrArg Value.bool E.out.symm)
end Go.Proofs.YtmhkmmmompediaaGreat
