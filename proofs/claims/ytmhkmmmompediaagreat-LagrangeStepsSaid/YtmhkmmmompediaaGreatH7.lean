/- Part 7 of 7 of the proof: the law LagrangeSteps returns true for every input, and its arguments read as before; there is no condition. -/
import Derived.Test.YtmhkmmmompediaaGreatRows
import Derived.WalkKit
import Derived.ProofKit
import Derived.OpenShut
import Derived.Test.YtmhkmmmompediaaGreatH6
set_option linter.unusedVariables false
set_option linter.unusedSimpArgs false
/- The walk through the law LagrangeSteps. -/
namespace Go.Proofs.YtmhkmmmompediaaGreat
open Go.RowKit

theorem swapW {w m W Wg m' : World} {Ls : List Lo} {G : World → Prop} (hL : Loc w m W m' Ls) (e : W = Wg) (h : ∀ W', Loc w m W' m' Ls → G W') : G Wg := e ▸ h W hL
theorem prF_fit (l a : List Int) : (prF (masF l) a).fit := by
  have h := prF_ok l a
  have t := prF_tn (masF l) a
  exact ⟨fun q hq => (t.fl q hq).fit (by decide), fun q hq => (t.cd q hq).fit (by decide), h.nf, h.nc, h.nd, h.ne⟩
/-- The value of a wild fraction. -/
theorem wQ_tn (n : Int) : Tn 10 (Rat.divInt (wN n) (wD n)) := by
  have hd := (frF n).den_pos
  by_cases hk : wkF n = 0
  · unfold wN wD
    rw [hk]
    simp only [Int.mul_zero]
    exact ⟨by simp, by simp⟩
  · unfold wN wD
    rw [Rat.divInt_mul_right hk, Rat.num_divInt_den]
    exact frT n
/-- What is known of a wild fraction. -/
structure WF (x y : Int) : Prop where
  bx : x.natAbs ≤ 20
  by_ : y.natAbs ≤ 20
  q : Tn 10 (Rat.divInt x y)
theorem wild_wf (n : Int) : WF (wN n) (wD n) := ⟨wN_bd n, wD_bd n, wQ_tn n⟩
theorem WF.sm {x y : Int} (h : WF x y) : Sm x y := ⟨by have := h.bx; omega, by have := h.by_; omega⟩
theorem FrG.toV {m : World} {v : Value} {x y : Int} (h : FrG m v x y) : FracV m v (Rat.divInt x y) := by
  obtain ⟨⟨g, A, n, c, f, B, k, d, rfl, h1, h2⟩, -⟩ := h
  exact ⟨x, y, _, _, _, _, rfl, h1, h2, rfl⟩
theorem FracC.toFr {m : World} {v : Value} {q : Rat} (h : FracC m v q) {k : Nat} (hk : Fit k q) (hk' : k ≤ 1000) : FrV m v q.num q.den := by
  obtain ⟨g, A, n, c, f, B, j, d, rfl, h⟩ := h.lit
  obtain ⟨h1, h2⟩ := h.open_
  exact ⟨_, _, _, _, _, _, _, _, rfl, h1.toV (hk.num hk'), h2.toV (hk.den hk')⟩
theorem sub_fit {p q : Rat} (hp : Tn 10 p) (hq : Tn 10 q) : Fit 1000 (p - q) := by
  rw [Rat.sub_eq_add_neg]
  exact ((hp.add hq.neg).fit (by decide)).mono (by decide)
theorem cel_abs (x y : Int) : (cel (Rat.divInt x y)).natAbs ≤ x.natAbs := by
  rw [cel_div, Int.natAbs_neg]
  refine Nat.le_trans (Int.natAbs_ediv_le_natAbs _ _) ?_
  have := pN_abs x y
  omega
theorem ciR_lit (z : Int) : ∃ a b, ciR z = .tuple #[.int .i64 a, .int .i64 b] := by
  unfold ciR; split
  · exact ⟨_, _, rfl⟩
  · exact ⟨_, _, rfl⟩
theorem l_CeilIntX (v : Value) (x y z : Int) (q : Rat) (w m : World) (hV : Vw m w) (h : FrV m v x y) (hx : x.natAbs < 18446744073709551616) (hy : y.natAbs < 18446744073709551616) (hq : Rat.divInt x y = q) :
    Calls Tryz.prog 26 #[v] w (RetV w m fun _ r => r = ciR (cel q)) := by
  rw [← hq]; exact l_CeilIntV v x y w m hV h hx hy
/-- The great multiple. -/
def bigQ (x y : Int) : Rat := ((1152921504606846976 : Int) : Rat) * Rat.divInt x y
theorem big_tn {x y : Int} (h : WF x y) : Tn 11529215046068469760 (bigQ x y) := by
  have := (Tn.int (z := 1152921504606846976) (k := 1152921504606846976) (by decide) (by decide)).mul h.q
  exact this

set_option maxRecDepth 100000 in
set_option maxHeartbeats 32000000 in
theorem law_Steps (Al Aa Ab : Option Addr) (cl ca cb : Nat) (l a b : List Int) (n : Int) (w m : World) (hV : Vw m w) (hl : Sl m Al (l.map I64)) (ha : Sl m Aa (a.map I64)) (hb : Sl m Ab (b.map I64)) (n1 : -9223372036854775808 ≤ n) (n2 : n ≤ 9223372036854775807) :
    Calls Tryz.prog 4 #[.slice Al l.length cl, .slice Aa a.length ca, .slice Ab b.length cb, .int .i64 n] w (RetV w m fun _ r => r = .bool true) := by
  have KM : Hid (∀ w m', Vw m' w → Le m m' → Calls Tryz.prog 15 #[.slice Al l.length cl] w (RetV w m' fun m'' r => MasterR m'' r (masF l))) := by
    show ∀ w m', _
    exact fun w m' hV hle => d_Master Al cl l w m' hV (hl.le hle) trivial
  have HNF : Hid ((masF l).nf = 6) := rfl
  have HCU : Hid ((masF l).cuts.length ≤ 10) := by show _ ≤ _; have := masF_cuts l; omega
  have OP : Hid ((prF (masF l) a).ok) := prF_ok l a
  have OQ : Hid ((prF (masF l) b).ok) := prF_ok l b
  have FP : Hid ((prF (masF l) a).fit) := prF_fit l a
  have FQ : Hid ((prF (masF l) b).fit) := prF_fit l b
  have KW1 : Hid (∀ w m, Vw m w → Calls Tryz.prog 19 #[.int .i64 n] w (RetV w m fun m' r => FrG m' r (wN n) (wD n))) := by
    show ∀ w m, _
    exact fun w m hV => d_Wild n w m hV n1 n2
  have KW2 : Hid (∀ w m, Vw m w → Calls Tryz.prog 19 #[.int .i64 (n / 1024)] w (RetV w m fun m' r => FrG m' r (wN (n / 1024)) (wD (n / 1024)))) := by
    show ∀ w m, _
    exact fun w m hV => d_Wild _ w m hV (by omega) (by omega)
  have KW3 : Hid (∀ w m, Vw m w → Calls Tryz.prog 19 #[.int .i64 (n / 8)] w (RetV w m fun m' r => FrG m' r (wN (n / 8)) (wD (n / 8)))) := by
    show ∀ w m, _
    exact fun w m hV => d_Wild _ w m hV (by omega) (by omega)
  have WU := Lib.hid (wild_wf n)
  have WV := Lib.hid (wild_wf (n / 1024))
  have W3 := Lib.hid (wild_wf (n / 8))
  generalize wN n = xu at *
  generalize wD n = yu at *
  generalize wN (n / 1024) = xv at *
  generalize wD (n / 1024) = yv at *
  generalize wN (n / 8) = x3 at *
  generalize wD (n / 8) = y3 at *
  clear hl n1 n2
  generalize l.length = N1 at *
  generalize hN2 : a.length = N2
  generalize hN3 : b.length = N3
  have HN2 := Lib.hid hN2
  have HN3 := Lib.hid hN3
  have TR : Hid True := trivial
  clear hN2 hN3
  generalize masF l = ms at *
  have K2 : Hid (Fit 200 ((1152921504606846976 : Int) : Rat)) := Tn.fit2 (k := 1152921504606846976) (Tn.int (by decide) (by decide)) (by decide)
  have K3 : Hid (Fit 200 (Rat.divInt x3 y3)) := W3.out.q.fit (by decide)
  have TB := Lib.hid (big_tn W3.out)
  have hL := Loc.start hV
  clear hV
  by_cases hc : icmp (pN xv yv * pD yu) (pN xu yu * pD yv) > 0
  · have HC := Lib.hid hc
    clear hc
    go_enter Tryz.func4, Tryz.ntmps4
    go_wp2_with (first | ((with_reducible refine kAny ?_); go_skip) | (with_reducible refine stA ?_) | ((first | refine tLd ?_ | (refine tSr ?_; clear hL; intro _ hL; simp only [zq2, zq3] at hL) | (refine tSt ?_; clear hL; intro _ hL; simp only [splice, zq1, zq2, zq3] at hL) | (refine tAl ?_; clear hL; intro _ _ hL _)); simp only [Act.put, zq1, zq2, zq3]))
    refine (KM.out _ _ hL.vw leX).mono ?_
    rintro e Wc1 ⟨vc1, mc1, rfl, hE, hMc1, hV, hc1⟩
    replace hL := hL.call hE (by assumption) hV; clear hE hV
    obtain ⟨M1, q1, d1, M2, q2, d2, M3, q3, d3, rfl, hc1⟩ := hc1.lit
    go_upto_region 2 with ((first | ((with_reducible refine kAny ?_); go_skip) | (with_reducible refine stA ?_) | ((first | refine tLd ?_ | (refine tSr ?_; clear hL; intro _ hL; simp only [zq2, zq3] at hL) | (refine tSt ?_; clear hL; intro _ hL; simp only [splice, zq1, zq2, zq3] at hL) | (refine tAl ?_; clear hL; intro _ _ hL _)); simp only [Act.put, zq1, zq2, zq3])))
    obtain ⟨B, hB1, hB2, hB3⟩ := hL.bound
    refine wp_region_by2 8 [false, false, false, false, false, false, true, true] [false, false, false, false, false, false, false, false] [(fun v _ _ => v = ?c2_0a), (fun v _ _ => v = ?c2_1a), Of (fun um v => PricesR um v (prF ms a)), (fun v _ _ => v = ?c2_3a), (fun v _ _ => v = ?c2_4a), Of (fun um v => PricesR um v (prF ms b)), NewBlk B 31 #[.slice none 0 0, .slice none 0 0, .slice none 0 0, .slice none 0 0, .bool false], NewBlk B 31 #[.slice none 0 0, .slice none 0 0, .slice none 0 0, .slice none 0 0, .bool false]] hL.vw mixed [27, 28, 29, 30, 31, 32, 10, 11] _ (by kernel_rfl) (fun vs => by simp only [lay, Act.put, zq1, zq2, zq3]; rfl) (by kernel_rfl) (by decide) (by decide) ?s2a ?l2a ?r2a
    case s2a =>
      refine ⟨?_, ?_, ?_, ?_, ?_, ?_, ?_, ?_, trivial⟩
      · intro vs W1 m1 hE hM hV hD
        clear hD
        replace hL := hL.call hE hM hV
        exact sLd
      · intro vs W1 m1 hE hM hV hD
        clear hD
        replace hL := hL.call hE hM hV
        exact sPu
      · intro vs W1 m1 hE hM hV hD
        obtain ⟨⟨_, _, -, -, f27⟩, ⟨_, _, -, -, f28⟩, -⟩ := hD
        have f27 : vs 27 = _ := f27
        generalize vs 27 = x27 at f27 ⊢
        subst x27
        have f28 : vs 28 = _ := f28
        generalize vs 28 = x28 at f28 ⊢
        subst x28
        go_wp2_with fail
        refine (d_PricesY _ ms _ _ _ a _ _ hV (hc1.le leX) HNF HCU (ha.le leX) HN2 TR).mono ?_
        rintro e W2 ⟨v, m2, rfl, hE2, hM2, hV2, h⟩
        go_wp2_with fail
        refine One2.call hE2 hM2 hV2 ?_; first | exact h | exact rfl
      · intro vs W1 m1 hE hM hV hD
        clear hD
        replace hL := hL.call hE hM hV
        exact sLd
      · intro vs W1 m1 hE hM hV hD
        clear hD
        replace hL := hL.call hE hM hV
        exact sPu
      · intro vs W1 m1 hE hM hV hD
        obtain ⟨⟨_, _, -, -, f30⟩, ⟨_, _, -, -, f31⟩, -, -⟩ := hD
        have f30 : vs 30 = _ := f30
        generalize vs 30 = x30 at f30 ⊢
        subst x30
        have f31 : vs 31 = _ := f31
        generalize vs 31 = x31 at f31 ⊢
        subst x31
        go_wp2_with fail
        refine (d_PricesY _ ms _ _ _ b _ _ hV (hc1.le leX) HNF HCU (hb.le leX) HN3 TR).mono ?_
        rintro e W2 ⟨v, m2, rfl, hE2, hM2, hV2, h⟩
        go_wp2_with fail
        refine One2.call hE2 hM2 hV2 ?_; first | exact h | exact rfl
      · intro vs W1 m1 hE hM hV hD
        clear hD
        exact one2_alloc hV (Nat.le_trans hB3 hE.size) rfl rfl rfl ZcC.h
      · intro vs W1 m1 hE hM hV hD
        clear hD
        exact one2_alloc hV (Nat.le_trans hB3 hE.size) rfl rfl rfl ZcC.h
    case l2a =>
      refine ⟨fun h => (by cases h), fun h => (by cases h), fun h => (by cases h), fun h => (by cases h), fun h => (by cases h), fun h => (by cases h), fun h => (by cases h), fun h => (by cases h), trivial⟩
    intro vs W1 m1 hE hM hV hF hD
    obtain ⟨-, -, ⟨_, _, -, i29, f29⟩, -, -, ⟨_, _, -, i32, f32⟩, ⟨_, _, j10, i10, f10⟩, ⟨_, _, j11, i11, f11⟩, -⟩ := hF
    replace hL := hL.call hE hM hV
    replace f29 : PricesR _ (vs 29) (prF ms a) := f29
    replace f29 := f29.le i29.le
    clear i29
    replace f32 : PricesR _ (vs 32) (prF ms b) := f32
    replace f32 := f32.le i32.le
    clear i32
    obtain ⟨b10, e10, hL⟩ := Loc.addB (Lt := []) hB1 hB2 hL f10 j10 i10 ad0
    obtain ⟨b11, e11, hL⟩ := Loc.addB (Lt := [_]) hB1 hB2 hL f11 j11 i11 (adS (by have h := hD 7 6 _ _ _ _ (by decide) (by decide) (by decide) rfl rfl rfl rfl rfl rfl; rw [e10] at h; exact fun hk => h _ hk rfl) ad0)
    simp only [e10, e11, List.cons_append, List.nil_append] at hL ⊢
    clear e10 f10 j10 i10 e11 f11 j11 i11
    clear hB1 hB2 hB3 hD
    clear hE hV
    obtain ⟨A0, c0, A1, c1, A2, c2, A3, c3, e29, -, hx⟩ := f29.lit
    generalize vs 29 = x29 at e29 ⊢
    subst x29
    obtain ⟨B0, k0, B1, k1, B2, k2, B3, k3, e32, -, hy⟩ := f32.lit
    generalize vs 32 = x32 at e32 ⊢
    subst x32
    clear f29 f32
    simp only [List.drop_succ_cons, List.drop_zero]
    go_wp2_with (first | ((with_reducible refine kAny ?_); go_skip) | (with_reducible refine stA ?_) | ((first | refine tLd ?_ | (refine tSr ?_; clear hL; intro _ hL; simp only [zq2, zq3] at hL) | (refine tSt ?_; clear hL; intro _ hL; simp only [splice, zq1, zq2, zq3] at hL) | (refine tAl ?_; clear hL; intro _ _ hL _)); simp only [Act.put, zq1, zq2, zq3]))
    refine QN.mk ?_
    have HX := Lib.hid hx
    have HY := Lib.hid hy
    clear hx hy hc1
    generalize prF ms a = p at *
    generalize prF ms b = q at *
    go_wp2_with (first | ((with_reducible refine kAny ?_); go_skip) | (with_reducible refine stA ?_) | ((first | refine tLd ?_ | (refine tSr ?_; clear hL; intro _ hL; simp only [zq2, zq3] at hL) | (refine tSt ?_; clear hL; intro _ hL; simp only [splice, zq1, zq2, zq3] at hL) | (refine tAl ?_; clear hL; intro _ _ hL _)); simp only [Act.put, zq1, zq2, zq3]))
    refine (KW1.out _ _ hL.vw).mono ?_
    rintro e Wu1 ⟨vu1, mu1, rfl, hE, hMu1, hV, hu1⟩
    replace hL := hL.call hE (by assumption) hV; clear hE hV
    obtain ⟨g1, C1, j1, d1, g2, C2, j2, d2, rfl, hu1⟩ := hu1.lit
    have HU := Lib.hid hu1
    clear hu1
    go_wp2_with (first | ((with_reducible refine kAny ?_); go_skip) | (with_reducible refine stA ?_) | ((first | refine tLd ?_ | (refine tSr ?_; clear hL; intro _ hL; simp only [zq2, zq3] at hL) | (refine tSt ?_; clear hL; intro _ hL; simp only [splice, zq1, zq2, zq3] at hL) | (refine tAl ?_; clear hL; intro _ _ hL _)); simp only [Act.put, zq1, zq2, zq3]))
    refine (KW2.out _ _ hL.vw).mono ?_
    rintro e Wu2 ⟨vu2, mu2, rfl, hE, hMu2, hV, hu2⟩
    replace hL := hL.call hE (by assumption) hV; clear hE hV
    obtain ⟨f1, D1, i1, e1, f2, D2, i2, e2, rfl, hu2⟩ := hu2.lit
    have HU2 := Lib.hid hu2
    clear hu2
    go_wp2_with (first | ((with_reducible refine kAny ?_); go_skip) | (with_reducible refine stA ?_) | ((first | refine tLd ?_ | (refine tSr ?_; clear hL; intro _ hL; simp only [zq2, zq3] at hL) | (refine tSt ?_; clear hL; intro _ hL; simp only [splice, zq1, zq2, zq3] at hL) | (refine tAl ?_; clear hL; intro _ _ hL _)); simp only [Act.put, zq1, zq2, zq3]))
    refine (l_Step _ _ _ _ p q xu yu xv yv _ _ hL.vw (HX.out.le leX) (HY.out.le leX) (HU.out.le leX) (HU2.out.le leX) WU.out.sm WV.out.sm OP.out OQ.out).mono ?_
    rintro e Ws ⟨_, ms', rfl, hE, hMs, hV, _, _, rfl, hp, hz⟩
    replace hL := hL.call hE (by assumption) hV; clear hE hV
    rw [if_pos HC.out] at hp hz
    obtain ⟨E0, l0, E1, l1, E2, l2, E3, l3, rfl, -, hp⟩ := hp.lit
    obtain ⟨gz, Az, nz, cz, fz, Bz, kz, dz, rfl, hz⟩ := hz.lit
    have HP := Lib.hid hp
    have HZ := Lib.hid hz
    clear hp hz
    go_wp2_with (first | ((with_reducible refine kAny ?_); go_skip) | (with_reducible refine stA ?_) | ((first | refine tLd ?_ | (refine tSr ?_; clear hL; intro _ hL; simp only [zq2, zq3] at hL) | (refine tSt ?_; clear hL; intro _ hL; simp only [splice, zq1, zq2, zq3] at hL) | (refine tAl ?_; clear hL; intro _ _ hL _)); simp only [Act.put, zq1, zq2, zq3]))
    refine (r_Compare _ _ (Rat.divInt xv yv) (Rat.divInt xu yu) _ _ hL.vw (HU2.out.toV.le leX) (HU.out.toV.le leX) (WV.out.q.fit (by decide)) (WU.out.q.fit (by decide)) (sub_fit WV.out.q WU.out.q)).mono ?_
    rintro e Ws5 ⟨_, ms5, rfl, hE, hMs5, hV, rfl⟩
    replace hL := hL.call hE (by assumption) hV; clear hE hV
    rw [rs_cmp]
    have hc := HC.out
    generalize icmp (pN xv yv * pD yu) (pN xu yu * pD yv) = sg at *
    clear HC
    go_upto_region 6 with ((first | ((with_reducible refine kAny ?_); go_skip) | (with_reducible refine stA ?_) | ((first | refine tLd ?_ | (refine tSr ?_; clear hL; intro _ hL; simp only [zq2, zq3] at hL) | (refine tSt ?_; clear hL; intro _ hL; simp only [splice, zq1, zq2, zq3] at hL) | (refine tAl ?_; clear hL; intro _ _ hL _)); simp only [Act.put, zq1, zq2, zq3])))
    obtain ⟨vb, hvb, -⟩ : ∃ b, b = _ ∧ w.heap.size ≤ b := ⟨_, rfl, hL.low_at lo2⟩
    rw [← hvb] at hL ⊢
    clear hvb
    obtain ⟨p1, p2, p3, p4, -⟩ := (hL.at_ lo2).facts4
    obtain ⟨r1, r2, r3, r4, r5, -⟩ := (hL.at_ lo4).facts5
    obtain ⟨v1, v2, v3, v4, z1, z2, z3, z4⟩ := (hL.at_ lo3).facts4
    obtain ⟨u1, u2, u3, u4, u5, y1, y2, y3', y4, y5⟩ := (hL.at_ lo5).facts5
    obtain ⟨n1, n2⟩ := hL.ne lo2 lo3 (by omega)
    obtain ⟨n3, n4⟩ := hL.ne lo2 lo5 (by omega)
    obtain ⟨n5, n6⟩ := hL.ne lo3 lo4 (by omega)
    obtain ⟨n7, n8⟩ := hL.ne lo4 lo5 (by omega)
    obtain ⟨n9, n10⟩ := hL.ne lo3 lo5 (by omega)
    have HL := Lib.hid hL
    clear hL
    go_region_held3 (fun w' => w'.cell? ⟨vb, 0, none⟩ = some (.bool f1) ∧ w'.cell? ⟨vb, 1, none⟩ = some (.slice D1 i1 e1) ∧ w'.cell? ⟨vb, 2, none⟩ = some (.bool f2) ∧ w'.cell? ⟨vb, 3, none⟩ = some (.slice D2 i2 e2) ∧ w'.cell? ⟨b11, 0, none⟩ = some (.slice B0 q.fl.length k0) ∧ w'.cell? ⟨b11, 1, none⟩ = some (.slice B1 q.cu.length k1) ∧ w'.cell? ⟨b11, 2, none⟩ = some (.slice B2 q.cd.length k2) ∧ w'.cell? ⟨b11, 3, none⟩ = some (.slice B3 q.de.length k3) ∧ w'.cell? ⟨b11, 4, none⟩ = some (.bool q.fr)) (go_keep) (fail)
    rename_i hHd
    clear hHd p1 p2 p3 p4 r1 r2 r3 r4 r5 v1 v2 v3 v4 z1 z2 z3 z4 u1 u2 u3 u4 u5 y1 y2 y3' y4 y5 n1 n2 n3 n4 n5 n6 n7 n8 n9 n10
    refine swapW (G := Exit.then _ _ _ _) ((HL.out.store lo5 0 [.slice B0 q.fl.length k0, .slice B1 q.cu.length k1, .slice B2 q.cd.length k2, .slice B3 q.de.length k3, .bool q.fr]).store lo3 0 [.bool f1, .slice D1 i1 e1, .bool f2, .slice D2 i2 e2]).drew rfl ?_
    clear HL
    intro W8 hL
    simp only [splice, zq1, zq2, zq3] at hL
    go_wp2_with (first | ((with_reducible refine kAny ?_); go_skip) | (with_reducible refine stA ?_) | ((first | refine tLd ?_ | (refine tSr ?_; clear hL; intro _ hL; simp only [zq2, zq3] at hL) | (refine tSt ?_; clear hL; intro _ hL; simp only [splice, zq1, zq2, zq3] at hL) | (refine tAl ?_; clear hL; intro _ _ hL _)); simp only [Act.put, zq1, zq2, zq3]))
    refine (r_Int 1152921504606846976 _ _ hL.vw (by decide) (by decide)).mono ?_
    rintro e Wt1 ⟨vt1, mt1, rfl, hE, hMt1, hV, ht1⟩
    replace hL := hL.call hE (by assumption) hV; clear hE hV
    obtain ⟨gt1', At1', nt1', ct1', ht1', Bt1', kt1', dt1', rfl, ht1⟩ := ht1.lit
    go_wp2_with (first | ((with_reducible refine kAny ?_); go_skip) | (with_reducible refine stA ?_) | ((first | refine tLd ?_ | (refine tSr ?_; clear hL; intro _ hL; simp only [zq2, zq3] at hL) | (refine tSt ?_; clear hL; intro _ hL; simp only [splice, zq1, zq2, zq3] at hL) | (refine tAl ?_; clear hL; intro _ _ hL _)); simp only [Act.put, zq1, zq2, zq3]))
    refine (KW3.out _ _ hL.vw).mono ?_
    rintro e Wt2 ⟨vt2, mt2, rfl, hE, hMt2, hV, ht2⟩
    replace hL := hL.call hE (by assumption) hV; clear hE hV
    obtain ⟨r1, F1, s1, t1, r2, F2, s2, t2, rfl, ht2⟩ := ht2.lit
    go_wp2_with (first | ((with_reducible refine kAny ?_); go_skip) | (with_reducible refine stA ?_) | ((first | refine tLd ?_ | (refine tSr ?_; clear hL; intro _ hL; simp only [zq2, zq3] at hL) | (refine tSt ?_; clear hL; intro _ hL; simp only [splice, zq1, zq2, zq3] at hL) | (refine tAl ?_; clear hL; intro _ _ hL _)); simp only [Act.put, zq1, zq2, zq3]))
    refine (r_Mul _ _ ((1152921504606846976 : Int) : Rat) (Rat.divInt x3 y3) _ _ hL.vw ((ht1.toV K2.out (by decide)).le leX) (ht2.toV.le leX) K2.out K3.out).mono ?_
    rintro e Wt3 ⟨vt3, mt3, rfl, hE, hMt3, hV, ht3⟩
    replace hL := hL.call hE (by assumption) hV; clear hE hV
    obtain ⟨gt3', At3', nt3', ct3', ht3', Bt3', kt3', dt3', rfl, ht3⟩ := ht3.lit
    have HB3 : Hid (FracC mt3 (.agg #[.bool gt3', .slice At3' nt3' ct3', .bool ht3', .slice Bt3' kt3' dt3']) (bigQ x3 y3)) := ht3
    clear ht1 ht2 ht3
    have KB := Lib.hid (TB.out.fit2 (by decide))
    have hbn : Hid ((bigQ x3 y3).num.natAbs < 18446744073709551616) := by show _ < _; have := TB.out.1; omega
    have hbd : Hid (((bigQ x3 y3).den : Int).natAbs < 18446744073709551616) := by show _ < _; have := TB.out.2; simp only [Int.natAbs_natCast]; omega
    have hce : Hid ((cel (bigQ x3 y3)).natAbs < 18446744073709551616) := by
      show _ < _
      have h0 := cel_abs (bigQ x3 y3).num (bigQ x3 y3).den
      rw [Rat.num_divInt_den] at h0
      have := hbn.out
      omega
    obtain ⟨za, zb, hci⟩ := ciR_lit (cel (bigQ x3 y3))
    have HCI := Lib.hid hci
    clear hci
    go_wp2_with (first | ((with_reducible refine kAny ?_); go_skip) | (with_reducible refine stA ?_) | ((first | refine tLd ?_ | (refine tSr ?_; clear hL; intro _ hL; simp only [zq2, zq3] at hL) | (refine tSt ?_; clear hL; intro _ hL; simp only [splice, zq1, zq2, zq3] at hL) | (refine tAl ?_; clear hL; intro _ _ hL _)); simp only [Act.put, zq1, zq2, zq3]))
    refine (l_CeilIntX _ (bigQ x3 y3).num (bigQ x3 y3).den 0 (bigQ x3 y3) _ _ hL.vw ((HB3.out.toFr KB.out (by decide)).le leX) hbn.out hbd.out (Rat.num_divInt_den _)).mono ?_
    rintro e Wt4 ⟨_, mt4, rfl, hE, hMt4, hV, rfl⟩
    replace hL := hL.call hE (by assumption) hV; clear hE hV
    rw [HCI.out]
    go_wp2_with (first | ((with_reducible refine kAny ?_); go_skip) | (with_reducible refine stA ?_) | ((first | refine tLd ?_ | (refine tSr ?_; clear hL; intro _ hL; simp only [zq2, zq3] at hL) | (refine tSt ?_; clear hL; intro _ hL; simp only [splice, zq1, zq2, zq3] at hL) | (refine tAl ?_; clear hL; intro _ _ hL _)); simp only [Act.put, zq1, zq2, zq3]))
    refine (r_CeilInt _ (bigQ x3 y3) _ _ hL.vw ((HB3.out.toV KB.out (by decide)).le leX) (KB.out.mono (by decide)) hce.out).mono ?_
    rintro e Wt5 ⟨_, mt5, rfl, hE, hMt5, hV, rfl⟩
    replace hL := hL.call hE (by assumption) hV; clear hE hV
    rw [HCI.out]
    have K9 : Hid (Fit 200 (Rat.divInt xv yv)) := WV.out.q.fit (by decide)
    have hxn : Hid ((xv).natAbs < 18446744073709551616) := by show _ < _; have := WV.out.bx; omega
    have hyn : Hid ((yv).natAbs < 18446744073709551616) := by show _ < _; have := WV.out.by_; omega
    have hcx : Hid ((cel (Rat.divInt xv yv)).natAbs < 18446744073709551616) := by show _ < _; have := cel_abs xv yv; have := WV.out.bx; omega
    obtain ⟨zc, zd, hcj⟩ := ciR_lit (cel (Rat.divInt xv yv))
    have HCJ := Lib.hid hcj
    clear hcj HB3 KB hbn hbd hce
    go_wp2_with (first | ((with_reducible refine kAny ?_); go_skip) | (with_reducible refine stA ?_) | ((first | refine tLd ?_ | (refine tSr ?_; clear hL; intro _ hL; simp only [zq2, zq3] at hL) | (refine tSt ?_; clear hL; intro _ hL; simp only [splice, zq1, zq2, zq3] at hL) | (refine tAl ?_; clear hL; intro _ _ hL _)); simp only [Act.put, zq1, zq2, zq3]))
    refine (l_CeilIntX _ xv yv 0 (Rat.divInt xv yv) _ _ hL.vw (HU2.out.1.le leX) hxn.out hyn.out rfl).mono ?_
    rintro e Wt6 ⟨_, mt6, rfl, hE, hMt6, hV, rfl⟩
    replace hL := hL.call hE (by assumption) hV; clear hE hV
    rw [HCJ.out]
    go_wp2_with (first | ((with_reducible refine kAny ?_); go_skip) | (with_reducible refine stA ?_) | ((first | refine tLd ?_ | (refine tSr ?_; clear hL; intro _ hL; simp only [zq2, zq3] at hL) | (refine tSt ?_; clear hL; intro _ hL; simp only [splice, zq1, zq2, zq3] at hL) | (refine tAl ?_; clear hL; intro _ _ hL _)); simp only [Act.put, zq1, zq2, zq3]))
    refine (r_CeilInt _ (Rat.divInt xv yv) _ _ hL.vw (HU2.out.toV.le leX) (K9.out.mono (by decide)) hcx.out).mono ?_
    rintro e Wt7 ⟨_, mt7, rfl, hE, hMt7, hV, rfl⟩
    replace hL := hL.call hE (by assumption) hV; clear hE hV
    rw [HCJ.out]
    go_upto_region 12 with ((first | ((with_reducible refine kAny ?_); go_skip) | (with_reducible refine stA ?_) | ((first | refine tLd ?_ | (refine tSr ?_; clear hL; intro _ hL; simp only [zq2, zq3] at hL) | (refine tSt ?_; clear hL; intro _ hL; simp only [splice, zq1, zq2, zq3] at hL) | (refine tAl ?_; clear hL; intro _ _ hL _)); simp only [Act.put, zq1, zq2, zq3])))
    have hp := HP.out
    have hw := HY.out
    have hz := HZ.out
    have hwv := HU2.out.toV
    refine wp_region_by2 32 [false, false, false, false, false, false, false, false, false, false, false, false, false, false, false, false, false, false, false, false, false, false, false, false, false, false, false, false, false, false, false, false] [false, false, false, false, false, false, false, false, false, false, false, false, false, false, false, false, false, false, false, false, false, false, false, false, false, false, false, false, false, false, false, false] [(fun v _ _ => v = ?c12_0c), (fun v _ _ => v = ?c12_1c), Is (.bool true), (fun v _ _ => v = ?c12_3c), (fun v _ _ => v = ?c12_4c), (fun v _ _ => v = ?c12_5c), Of (fun um v => FracC um v (Rat.divInt xv yv)), Is (.bool true), (fun v _ _ => v = ?c12_8c), (fun v _ _ => v = ?c12_9c), (fun v _ _ => v = ?c12_10c), (fun v _ _ => v = ?c12_11c), (fun v _ _ => v = ?c12_12c), (fun v _ _ => v = ?c12_13c), (fun v _ _ => v = ?c12_14c), (fun v _ _ => v = ?c12_15c), (fun v _ _ => v = ?c12_16c), (fun v _ _ => v = ?c12_17c), (fun v _ _ => v = ?c12_18c), (fun v _ _ => v = ?c12_19c), (fun v _ _ => v = ?c12_20c), (fun v _ _ => v = ?c12_21c), (fun v _ _ => v = ?c12_22c), (fun v _ _ => v = ?c12_23c), (fun v _ _ => v = ?c12_24c), (fun v _ _ => v = ?c12_25c), (fun v _ _ => v = ?c12_26c), (fun v _ _ => v = ?c12_27c), (fun v _ _ => v = ?c12_28c), (fun v _ _ => v = ?c12_29c), Is (.bool true), (fun v _ _ => v = ?c12_31c)] hL.vw mixed [77, 78, 79, 80, 81, 82, 83, 84, 85, 86, 87, 88, 89, 90, 91, 92, 93, 94, 95, 96, 97, 98, 99, 100, 101, 102, 103, 104, 105, 106, 107, 108] _ (by kernel_rfl) (fun vs => by simp only [lay, Act.put, zq1, zq2, zq3]; rfl) (by kernel_rfl) (by decide) (by decide) ?s12c ?l12c ?r12c
    case s12c =>
      refine ⟨?_, ?_, ?_, ?_, ?_, ?_, ?_, ?_, ?_, ?_, ?_, ?_, ?_, ?_, ?_, ?_, ?_, ?_, ?_, ?_, ?_, ?_, ?_, ?_, ?_, ?_, ?_, ?_, ?_, ?_, ?_, ?_, trivial⟩
      · intro vs W1 m1 hE hM hV hD
        clear hD
        replace hL := hL.call hE hM hV
        exact sLd
      · intro vs W1 m1 hE hM hV hD
        clear hD
        replace hL := hL.call hE hM hV
        exact sLd
      · intro vs W1 m1 hE hM hV hD
        obtain ⟨⟨_, _, -, -, f77⟩, ⟨_, _, -, -, f78⟩, -⟩ := hD
        have f77 : vs 77 = _ := f77
        generalize vs 77 = x77 at f77 ⊢
        subst x77
        have f78 : vs 78 = _ := f78
        generalize vs 78 = x78 at f78 ⊢
        subst x78
        go_wp2_with fail
        refine (r_SamePrices _ _ q _ _ hV (hp.le leX) (hw.le leX) FQ.out).mono ?_
        rintro e W2 ⟨v, m2, rfl, hE2, hM2, hV2, h⟩
        go_wp2_with fail
        refine One2.call hE2 hM2 hV2 ?_; first | exact h | exact rfl
      · intro vs W1 m1 hE hM hV hD
        obtain ⟨⟨_, _, -, -, f79⟩, -, -⟩ := hD
        have f79 : vs 79 = _ := f79
        generalize vs 79 = x79 at f79 ⊢
        subst x79
        replace hL := hL.call hE hM hV
        exact sPu
      · intro vs W1 m1 hE hM hV hD
        obtain ⟨⟨_, _, -, -, f80⟩, -⟩ := hD
        have f80 : vs 80 = _ := f80
        generalize vs 80 = x80 at f80 ⊢
        subst x80
        replace hL := hL.call hE hM hV
        exact sLd
      · intro vs W1 m1 hE hM hV hD
        obtain ⟨⟨_, _, -, -, f80⟩, -⟩ := hD
        have f80 : vs 80 = _ := f80
        generalize vs 80 = x80 at f80 ⊢
        subst x80
        replace hL := hL.call hE hM hV
        exact sLd
      · intro vs W1 m1 hE hM hV hD
        obtain ⟨⟨_, _, -, -, f82⟩, ⟨_, _, -, -, f80⟩, -, -⟩ := hD
        have f82 : vs 82 = _ := f82
        generalize vs 82 = x82 at f82 ⊢
        subst x82
        have f80 : vs 80 = _ := f80
        generalize vs 80 = x80 at f80 ⊢
        subst x80
        go_wp2_with fail
        refine (r_Canon _ (Rat.divInt xv yv) _ _ hV (hwv.le leX)).mono ?_
        rintro e W2 ⟨v, m2, rfl, hE2, hM2, hV2, h⟩
        go_wp2_with fail
        refine One2.call hE2 hM2 hV2 ?_; first | exact h | exact rfl
      · intro vs W1 m1 hE hM hV hD
        obtain ⟨⟨_, _, -, -, f81⟩, ⟨_, _, -, i83, f83⟩, -, ⟨_, _, -, -, f80⟩, -⟩ := hD
        have f81 : vs 81 = _ := f81
        generalize vs 81 = x81 at f81 ⊢
        subst x81
        have f80 : vs 80 = _ := f80
        generalize vs 80 = x80 at f80 ⊢
        subst x80
        have f83 : FracC _ (vs 83) (Rat.divInt xv yv) := f83
        replace f83 := f83.le i83.le
        clear i83
        go_wp2_with fail
        refine (r_Same _ _ (Rat.divInt xv yv) _ _ hV (hz.le leX) f83 (K9.out.mono (by decide))).mono ?_
        rintro e W2 ⟨v, m2, rfl, hE2, hM2, hV2, h⟩
        go_wp2_with fail
        refine One2.call hE2 hM2 hV2 ?_; first | exact h | exact rfl
      · intro vs W1 m1 hE hM hV hD
        obtain ⟨⟨_, _, -, -, f80⟩, ⟨_, _, -, -, f84⟩, -⟩ := hD
        have f80 : vs 80 = _ := f80
        generalize vs 80 = x80 at f80 ⊢
        subst x80
        have f84 : vs 84 = _ := f84
        generalize vs 84 = x84 at f84 ⊢
        subst x84
        replace hL := hL.call hE hM hV
        exact sPu
      · intro vs W1 m1 hE hM hV hD
        obtain ⟨⟨_, _, -, -, f85⟩, -, -⟩ := hD
        have f85 : vs 85 = _ := f85
        generalize vs 85 = x85 at f85 ⊢
        subst x85
        replace hL := hL.call hE hM hV
        exact sPu
      · intro vs W1 m1 hE hM hV hD
        obtain ⟨⟨_, _, -, -, f86⟩, -⟩ := hD
        have f86 : vs 86 = _ := f86
        generalize vs 86 = x86 at f86 ⊢
        subst x86
        replace hL := hL.call hE hM hV
        exact sPu
      · intro vs W1 m1 hE hM hV hD
        obtain ⟨⟨_, _, -, -, f86⟩, -⟩ := hD
        have f86 : vs 86 = _ := f86
        generalize vs 86 = x86 at f86 ⊢
        subst x86
        replace hL := hL.call hE hM hV
        exact sPu
      · intro vs W1 m1 hE hM hV hD
        obtain ⟨⟨_, _, -, -, f87⟩, ⟨_, _, -, -, f88⟩, ⟨_, _, -, -, f86⟩, -⟩ := hD
        have f87 : vs 87 = _ := f87
        generalize vs 87 = x87 at f87 ⊢
        subst x87
        have f88 : vs 88 = _ := f88
        generalize vs 88 = x88 at f88 ⊢
        subst x88
        have f86 : vs 86 = _ := f86
        generalize vs 86 = x86 at f86 ⊢
        subst x86
        replace hL := hL.call hE hM hV
        exact sPu
      · intro vs W1 m1 hE hM hV hD
        obtain ⟨⟨_, _, -, -, f86⟩, ⟨_, _, -, -, f89⟩, -⟩ := hD
        have f86 : vs 86 = _ := f86
        generalize vs 86 = x86 at f86 ⊢
        subst x86
        have f89 : vs 89 = _ := f89
        generalize vs 89 = x89 at f89 ⊢
        subst x89
        replace hL := hL.call hE hM hV
        exact sPu
      · intro vs W1 m1 hE hM hV hD
        obtain ⟨⟨_, _, -, -, f90⟩, -, -⟩ := hD
        have f90 : vs 90 = _ := f90
        generalize vs 90 = x90 at f90 ⊢
        subst x90
        replace hL := hL.call hE hM hV
        exact sPu
      · intro vs W1 m1 hE hM hV hD
        obtain ⟨⟨_, _, -, -, f91⟩, -⟩ := hD
        have f91 : vs 91 = _ := f91
        generalize vs 91 = x91 at f91 ⊢
        subst x91
        replace hL := hL.call hE hM hV
        exact sPu
      · intro vs W1 m1 hE hM hV hD
        obtain ⟨⟨_, _, -, -, f91⟩, -⟩ := hD
        have f91 : vs 91 = _ := f91
        generalize vs 91 = x91 at f91 ⊢
        subst x91
        replace hL := hL.call hE hM hV
        exact sPu
      · intro vs W1 m1 hE hM hV hD
        obtain ⟨⟨_, _, -, -, f92⟩, ⟨_, _, -, -, f93⟩, ⟨_, _, -, -, f91⟩, -⟩ := hD
        have f92 : vs 92 = _ := f92
        generalize vs 92 = x92 at f92 ⊢
        subst x92
        have f93 : vs 93 = _ := f93
        generalize vs 93 = x93 at f93 ⊢
        subst x93
        have f91 : vs 91 = _ := f91
        generalize vs 91 = x91 at f91 ⊢
        subst x91
        replace hL := hL.call hE hM hV
        exact sPu
      · intro vs W1 m1 hE hM hV hD
        obtain ⟨⟨_, _, -, -, f91⟩, ⟨_, _, -, -, f94⟩, -⟩ := hD
        have f91 : vs 91 = _ := f91
        generalize vs 91 = x91 at f91 ⊢
        subst x91
        have f94 : vs 94 = _ := f94
        generalize vs 94 = x94 at f94 ⊢
        subst x94
        replace hL := hL.call hE hM hV
        exact sPu
      · intro vs W1 m1 hE hM hV hD
        obtain ⟨⟨_, _, -, -, f95⟩, -, -⟩ := hD
        have f95 : vs 95 = _ := f95
        generalize vs 95 = x95 at f95 ⊢
        subst x95
        replace hL := hL.call hE hM hV
        exact sPu
      · intro vs W1 m1 hE hM hV hD
        obtain ⟨⟨_, _, -, -, f96⟩, -⟩ := hD
        have f96 : vs 96 = _ := f96
        generalize vs 96 = x96 at f96 ⊢
        subst x96
        replace hL := hL.call hE hM hV
        exact sPu
      · intro vs W1 m1 hE hM hV hD
        obtain ⟨⟨_, _, -, -, f96⟩, -⟩ := hD
        have f96 : vs 96 = _ := f96
        generalize vs 96 = x96 at f96 ⊢
        subst x96
        replace hL := hL.call hE hM hV
        exact sPu
      · intro vs W1 m1 hE hM hV hD
        obtain ⟨⟨_, _, -, -, f97⟩, ⟨_, _, -, -, f98⟩, ⟨_, _, -, -, f96⟩, -⟩ := hD
        have f97 : vs 97 = _ := f97
        generalize vs 97 = x97 at f97 ⊢
        subst x97
        have f98 : vs 98 = _ := f98
        generalize vs 98 = x98 at f98 ⊢
        subst x98
        have f96 : vs 96 = _ := f96
        generalize vs 96 = x96 at f96 ⊢
        subst x96
        replace hL := hL.call hE hM hV
        exact sPu
      · intro vs W1 m1 hE hM hV hD
        obtain ⟨⟨_, _, -, -, f96⟩, ⟨_, _, -, -, f99⟩, -⟩ := hD
        have f96 : vs 96 = _ := f96
        generalize vs 96 = x96 at f96 ⊢
        subst x96
        have f99 : vs 99 = _ := f99
        generalize vs 99 = x99 at f99 ⊢
        subst x99
        replace hL := hL.call hE hM hV
        exact sPu
      · intro vs W1 m1 hE hM hV hD
        obtain ⟨⟨_, _, -, -, f100⟩, -, -⟩ := hD
        have f100 : vs 100 = _ := f100
        generalize vs 100 = x100 at f100 ⊢
        subst x100
        replace hL := hL.call hE hM hV
        exact sPu
      · intro vs W1 m1 hE hM hV hD
        obtain ⟨⟨_, _, -, -, f101⟩, -⟩ := hD
        have f101 : vs 101 = _ := f101
        generalize vs 101 = x101 at f101 ⊢
        subst x101
        replace hL := hL.call hE hM hV
        exact sPu
      · intro vs W1 m1 hE hM hV hD
        obtain ⟨⟨_, _, -, -, f101⟩, -⟩ := hD
        have f101 : vs 101 = _ := f101
        generalize vs 101 = x101 at f101 ⊢
        subst x101
        replace hL := hL.call hE hM hV
        exact sPu
      · intro vs W1 m1 hE hM hV hD
        obtain ⟨⟨_, _, -, -, f102⟩, ⟨_, _, -, -, f103⟩, ⟨_, _, -, -, f101⟩, -⟩ := hD
        have f102 : vs 102 = _ := f102
        generalize vs 102 = x102 at f102 ⊢
        subst x102
        have f103 : vs 103 = _ := f103
        generalize vs 103 = x103 at f103 ⊢
        subst x103
        have f101 : vs 101 = _ := f101
        generalize vs 101 = x101 at f101 ⊢
        subst x101
        replace hL := hL.call hE hM hV
        exact sPu
      · intro vs W1 m1 hE hM hV hD
        obtain ⟨⟨_, _, -, -, f101⟩, ⟨_, _, -, -, f104⟩, -⟩ := hD
        have f101 : vs 101 = _ := f101
        generalize vs 101 = x101 at f101 ⊢
        subst x101
        have f104 : vs 104 = _ := f104
        generalize vs 104 = x104 at f104 ⊢
        subst x104
        replace hL := hL.call hE hM hV
        exact sPu
      · intro vs W1 m1 hE hM hV hD
        obtain ⟨⟨_, _, -, -, f105⟩, -, -⟩ := hD
        have f105 : vs 105 = _ := f105
        generalize vs 105 = x105 at f105 ⊢
        subst x105
        replace hL := hL.call hE hM hV
        exact sPu
      · intro vs W1 m1 hE hM hV hD
        obtain ⟨⟨_, _, -, -, f106⟩, -, -⟩ := hD
        have f106 : vs 106 = _ := f106
        generalize vs 106 = x106 at f106 ⊢
        subst x106
        go_wp2_with fail
        refine (k_known _ _ hV).mono ?_
        rintro e W2 ⟨v, m2, rfl, hE2, hM2, hV2, h⟩
        go_wp2_with fail
        refine One2.call hE2 hM2 hV2 ?_; first | exact h | exact rfl
      · intro vs W1 m1 hE hM hV hD
        obtain ⟨⟨_, _, -, -, f106⟩, ⟨_, _, -, -, f107⟩, -⟩ := hD
        have f106 : vs 106 = _ := f106
        generalize vs 106 = x106 at f106 ⊢
        subst x106
        have f107 : vs 107 = _ := f107
        generalize vs 107 = x107 at f107 ⊢
        subst x107
        replace hL := hL.call hE hM hV
        exact sPu
    case l12c =>
      refine ⟨fun h => (by cases h), fun h => (by cases h), fun h => (by cases h), fun h => (by cases h), fun h => (by cases h), fun h => (by cases h), fun h => (by cases h), fun h => (by cases h), fun h => (by cases h), fun h => (by cases h), fun h => (by cases h), fun h => (by cases h), fun h => (by cases h), fun h => (by cases h), fun h => (by cases h), fun h => (by cases h), fun h => (by cases h), fun h => (by cases h), fun h => (by cases h), fun h => (by cases h), fun h => (by cases h), fun h => (by cases h), fun h => (by cases h), fun h => (by cases h), fun h => (by cases h), fun h => (by cases h), fun h => (by cases h), fun h => (by cases h), fun h => (by cases h), fun h => (by cases h), fun h => (by cases h), fun h => (by cases h), trivial⟩
    intro vs W1 m1 hE hM hV hF hD
    clear hD
    obtain ⟨-, -, -, -, -, -, ⟨_, _, -, i83, f83⟩, -, -, -, -, -, -, -, -, -, -, -, -, -, -, -, -, -, -, -, -, -, -, -, -, ⟨_, _, -, -, f108⟩, -⟩ := hF
    replace hL := hL.call hE hM hV
    replace f83 : FracC _ (vs 83) (Rat.divInt xv yv) := f83
    replace f83 := f83.le i83.le
    clear i83
    have f108 : vs 108 = _ := f108
    generalize vs 108 = x108 at f108 ⊢
    subst x108
    clear hE hV
    simp only [List.drop_succ_cons, List.drop_zero]
    go_wp2_with (first | ((with_reducible refine kAny ?_); go_skip) | (with_reducible refine stA ?_) | ((first | refine tLd ?_ | (refine tSr ?_; clear hL; intro _ hL; simp only [zq2, zq3] at hL) | (refine tSt ?_; clear hL; intro _ hL; simp only [splice, zq1, zq2, zq3] at hL) | (refine tAl ?_; clear hL; intro _ _ hL _)); simp only [Act.put, zq1, zq2, zq3]))
    refine QN.mk ?_
    go_wp2_with (first | ((with_reducible refine kAny ?_); go_skip) | (with_reducible refine stA ?_) | ((first | refine tLd ?_ | (refine tSr ?_; clear hL; intro _ hL; simp only [zq2, zq3] at hL) | (refine tSt ?_; clear hL; intro _ hL; simp only [splice, zq1, zq2, zq3] at hL) | (refine tAl ?_; clear hL; intro _ _ hL _)); simp only [Act.put, zq1, zq2, zq3]))
    go_ret
    exact RetV.mk hL rfl
  · have HC := Lib.hid hc
    clear hc
    go_enter Tryz.func4, Tryz.ntmps4
    go_wp2_with (first | ((with_reducible refine kAny ?_); go_skip) | (with_reducible refine stA ?_) | ((first | refine tLd ?_ | (refine tSr ?_; clear hL; intro _ hL; simp only [zq2, zq3] at hL) | (refine tSt ?_; clear hL; intro _ hL; simp only [splice, zq1, zq2, zq3] at hL) | (refine tAl ?_; clear hL; intro _ _ hL _)); simp only [Act.put, zq1, zq2, zq3]))
    refine (KM.out _ _ hL.vw leX).mono ?_
    rintro e Wc1 ⟨vc1, mc1, rfl, hE, hMc1, hV, hc1⟩
    replace hL := hL.call hE (by assumption) hV; clear hE hV
    obtain ⟨M1, q1, d1, M2, q2, d2, M3, q3, d3, rfl, hc1⟩ := hc1.lit
    go_upto_region 2 with ((first | ((with_reducible refine kAny ?_); go_skip) | (with_reducible refine stA ?_) | ((first | refine tLd ?_ | (refine tSr ?_; clear hL; intro _ hL; simp only [zq2, zq3] at hL) | (refine tSt ?_; clear hL; intro _ hL; simp only [splice, zq1, zq2, zq3] at hL) | (refine tAl ?_; clear hL; intro _ _ hL _)); simp only [Act.put, zq1, zq2, zq3])))
    obtain ⟨B, hB1, hB2, hB3⟩ := hL.bound
    refine wp_region_by2 8 [false, false, false, false, false, false, true, true] [false, false, false, false, false, false, false, false] [(fun v _ _ => v = ?c2_0b), (fun v _ _ => v = ?c2_1b), Of (fun um v => PricesR um v (prF ms a)), (fun v _ _ => v = ?c2_3b), (fun v _ _ => v = ?c2_4b), Of (fun um v => PricesR um v (prF ms b)), NewBlk B 31 #[.slice none 0 0, .slice none 0 0, .slice none 0 0, .slice none 0 0, .bool false], NewBlk B 31 #[.slice none 0 0, .slice none 0 0, .slice none 0 0, .slice none 0 0, .bool false]] hL.vw mixed [27, 28, 29, 30, 31, 32, 10, 11] _ (by kernel_rfl) (fun vs => by simp only [lay, Act.put, zq1, zq2, zq3]; rfl) (by kernel_rfl) (by decide) (by decide) ?s2b ?l2b ?r2b
    case s2b =>
      refine ⟨?_, ?_, ?_, ?_, ?_, ?_, ?_, ?_, trivial⟩
      · intro vs W1 m1 hE hM hV hD
        clear hD
        replace hL := hL.call hE hM hV
        exact sLd
      · intro vs W1 m1 hE hM hV hD
        clear hD
        replace hL := hL.call hE hM hV
        exact sPu
      · intro vs W1 m1 hE hM hV hD
        obtain ⟨⟨_, _, -, -, f27⟩, ⟨_, _, -, -, f28⟩, -⟩ := hD
        have f27 : vs 27 = _ := f27
        generalize vs 27 = x27 at f27 ⊢
        subst x27
        have f28 : vs 28 = _ := f28
        generalize vs 28 = x28 at f28 ⊢
        subst x28
        go_wp2_with fail
        refine (d_PricesY _ ms _ _ _ a _ _ hV (hc1.le leX) HNF HCU (ha.le leX) HN2 TR).mono ?_
        rintro e W2 ⟨v, m2, rfl, hE2, hM2, hV2, h⟩
        go_wp2_with fail
        refine One2.call hE2 hM2 hV2 ?_; first | exact h | exact rfl
      · intro vs W1 m1 hE hM hV hD
        clear hD
        replace hL := hL.call hE hM hV
        exact sLd
      · intro vs W1 m1 hE hM hV hD
        clear hD
        replace hL := hL.call hE hM hV
        exact sPu
      · intro vs W1 m1 hE hM hV hD
        obtain ⟨⟨_, _, -, -, f30⟩, ⟨_, _, -, -, f31⟩, -, -⟩ := hD
        have f30 : vs 30 = _ := f30
        generalize vs 30 = x30 at f30 ⊢
        subst x30
        have f31 : vs 31 = _ := f31
        generalize vs 31 = x31 at f31 ⊢
        subst x31
        go_wp2_with fail
        refine (d_PricesY _ ms _ _ _ b _ _ hV (hc1.le leX) HNF HCU (hb.le leX) HN3 TR).mono ?_
        rintro e W2 ⟨v, m2, rfl, hE2, hM2, hV2, h⟩
        go_wp2_with fail
        refine One2.call hE2 hM2 hV2 ?_; first | exact h | exact rfl
      · intro vs W1 m1 hE hM hV hD
        clear hD
        exact one2_alloc hV (Nat.le_trans hB3 hE.size) rfl rfl rfl ZcC.h
      · intro vs W1 m1 hE hM hV hD
        clear hD
        exact one2_alloc hV (Nat.le_trans hB3 hE.size) rfl rfl rfl ZcC.h
    case l2b =>
      refine ⟨fun h => (by cases h), fun h => (by cases h), fun h => (by cases h), fun h => (by cases h), fun h => (by cases h), fun h => (by cases h), fun h => (by cases h), fun h => (by cases h), trivial⟩
    intro vs W1 m1 hE hM hV hF hD
    obtain ⟨-, -, ⟨_, _, -, i29, f29⟩, -, -, ⟨_, _, -, i32, f32⟩, ⟨_, _, j10, i10, f10⟩, ⟨_, _, j11, i11, f11⟩, -⟩ := hF
    replace hL := hL.call hE hM hV
    replace f29 : PricesR _ (vs 29) (prF ms a) := f29
    replace f29 := f29.le i29.le
    clear i29
    replace f32 : PricesR _ (vs 32) (prF ms b) := f32
    replace f32 := f32.le i32.le
    clear i32
    obtain ⟨b10, e10, hL⟩ := Loc.addB (Lt := []) hB1 hB2 hL f10 j10 i10 ad0
    obtain ⟨b11, e11, hL⟩ := Loc.addB (Lt := [_]) hB1 hB2 hL f11 j11 i11 (adS (by have h := hD 7 6 _ _ _ _ (by decide) (by decide) (by decide) rfl rfl rfl rfl rfl rfl; rw [e10] at h; exact fun hk => h _ hk rfl) ad0)
    simp only [e10, e11, List.cons_append, List.nil_append] at hL ⊢
    clear e10 f10 j10 i10 e11 f11 j11 i11
    clear hB1 hB2 hB3 hD
    clear hE hV
    obtain ⟨A0, c0, A1, c1, A2, c2, A3, c3, e29, -, hx⟩ := f29.lit
    generalize vs 29 = x29 at e29 ⊢
    subst x29
    obtain ⟨B0, k0, B1, k1, B2, k2, B3, k3, e32, -, hy⟩ := f32.lit
    generalize vs 32 = x32 at e32 ⊢
    subst x32
    clear f29 f32
    simp only [List.drop_succ_cons, List.drop_zero]
    go_wp2_with (first | ((with_reducible refine kAny ?_); go_skip) | (with_reducible refine stA ?_) | ((first | refine tLd ?_ | (refine tSr ?_; clear hL; intro _ hL; simp only [zq2, zq3] at hL) | (refine tSt ?_; clear hL; intro _ hL; simp only [splice, zq1, zq2, zq3] at hL) | (refine tAl ?_; clear hL; intro _ _ hL _)); simp only [Act.put, zq1, zq2, zq3]))
    refine QN.mk ?_
    have HX := Lib.hid hx
    have HY := Lib.hid hy
    clear hx hy hc1
    generalize prF ms a = p at *
    generalize prF ms b = q at *
    go_wp2_with (first | ((with_reducible refine kAny ?_); go_skip) | (with_reducible refine stA ?_) | ((first | refine tLd ?_ | (refine tSr ?_; clear hL; intro _ hL; simp only [zq2, zq3] at hL) | (refine tSt ?_; clear hL; intro _ hL; simp only [splice, zq1, zq2, zq3] at hL) | (refine tAl ?_; clear hL; intro _ _ hL _)); simp only [Act.put, zq1, zq2, zq3]))
    refine (KW1.out _ _ hL.vw).mono ?_
    rintro e Wu1 ⟨vu1, mu1, rfl, hE, hMu1, hV, hu1⟩
    replace hL := hL.call hE (by assumption) hV; clear hE hV
    obtain ⟨g1, C1, j1, d1, g2, C2, j2, d2, rfl, hu1⟩ := hu1.lit
    have HU := Lib.hid hu1
    clear hu1
    go_wp2_with (first | ((with_reducible refine kAny ?_); go_skip) | (with_reducible refine stA ?_) | ((first | refine tLd ?_ | (refine tSr ?_; clear hL; intro _ hL; simp only [zq2, zq3] at hL) | (refine tSt ?_; clear hL; intro _ hL; simp only [splice, zq1, zq2, zq3] at hL) | (refine tAl ?_; clear hL; intro _ _ hL _)); simp only [Act.put, zq1, zq2, zq3]))
    refine (KW2.out _ _ hL.vw).mono ?_
    rintro e Wu2 ⟨vu2, mu2, rfl, hE, hMu2, hV, hu2⟩
    replace hL := hL.call hE (by assumption) hV; clear hE hV
    obtain ⟨f1, D1, i1, e1, f2, D2, i2, e2, rfl, hu2⟩ := hu2.lit
    have HU2 := Lib.hid hu2
    clear hu2
    go_wp2_with (first | ((with_reducible refine kAny ?_); go_skip) | (with_reducible refine stA ?_) | ((first | refine tLd ?_ | (refine tSr ?_; clear hL; intro _ hL; simp only [zq2, zq3] at hL) | (refine tSt ?_; clear hL; intro _ hL; simp only [splice, zq1, zq2, zq3] at hL) | (refine tAl ?_; clear hL; intro _ _ hL _)); simp only [Act.put, zq1, zq2, zq3]))
    refine (l_Step _ _ _ _ p q xu yu xv yv _ _ hL.vw (HX.out.le leX) (HY.out.le leX) (HU.out.le leX) (HU2.out.le leX) WU.out.sm WV.out.sm OP.out OQ.out).mono ?_
    rintro e Ws ⟨_, ms', rfl, hE, hMs, hV, _, _, rfl, hp, hz⟩
    replace hL := hL.call hE (by assumption) hV; clear hE hV
    rw [if_neg (Int.not_lt.2 HC.out)] at hp hz
    obtain ⟨E0, l0, E1, l1, E2, l2, E3, l3, rfl, -, hp⟩ := hp.lit
    obtain ⟨gz, Az, nz, cz, fz, Bz, kz, dz, rfl, hz⟩ := hz.lit
    have HP := Lib.hid hp
    have HZ := Lib.hid hz
    clear hp hz
    go_wp2_with (first | ((with_reducible refine kAny ?_); go_skip) | (with_reducible refine stA ?_) | ((first | refine tLd ?_ | (refine tSr ?_; clear hL; intro _ hL; simp only [zq2, zq3] at hL) | (refine tSt ?_; clear hL; intro _ hL; simp only [splice, zq1, zq2, zq3] at hL) | (refine tAl ?_; clear hL; intro _ _ hL _)); simp only [Act.put, zq1, zq2, zq3]))
    refine (r_Compare _ _ (Rat.divInt xv yv) (Rat.divInt xu yu) _ _ hL.vw (HU2.out.toV.le leX) (HU.out.toV.le leX) (WV.out.q.fit (by decide)) (WU.out.q.fit (by decide)) (sub_fit WV.out.q WU.out.q)).mono ?_
    rintro e Ws5 ⟨_, ms5, rfl, hE, hMs5, hV, rfl⟩
    replace hL := hL.call hE (by assumption) hV; clear hE hV
    rw [rs_cmp]
    have hc := HC.out
    generalize icmp (pN xv yv * pD yu) (pN xu yu * pD yv) = sg at *
    clear HC
    go_wp2_with (first | ((with_reducible refine kAny ?_); go_skip) | (with_reducible refine stA ?_) | ((first | refine tLd ?_ | (refine tSr ?_; clear hL; intro _ hL; simp only [zq2, zq3] at hL) | (refine tSt ?_; clear hL; intro _ hL; simp only [splice, zq1, zq2, zq3] at hL) | (refine tAl ?_; clear hL; intro _ _ hL _)); simp only [Act.put, zq1, zq2, zq3]))
    refine (r_Int 1152921504606846976 _ _ hL.vw (by decide) (by decide)).mono ?_
    rintro e Wt1 ⟨vt1, mt1, rfl, hE, hMt1, hV, ht1⟩
    replace hL := hL.call hE (by assumption) hV; clear hE hV
    obtain ⟨gt1', At1', nt1', ct1', ht1', Bt1', kt1', dt1', rfl, ht1⟩ := ht1.lit
    go_wp2_with (first | ((with_reducible refine kAny ?_); go_skip) | (with_reducible refine stA ?_) | ((first | refine tLd ?_ | (refine tSr ?_; clear hL; intro _ hL; simp only [zq2, zq3] at hL) | (refine tSt ?_; clear hL; intro _ hL; simp only [splice, zq1, zq2, zq3] at hL) | (refine tAl ?_; clear hL; intro _ _ hL _)); simp only [Act.put, zq1, zq2, zq3]))
    refine (KW3.out _ _ hL.vw).mono ?_
    rintro e Wt2 ⟨vt2, mt2, rfl, hE, hMt2, hV, ht2⟩
    replace hL := hL.call hE (by assumption) hV; clear hE hV
    obtain ⟨r1, F1, s1, t1, r2, F2, s2, t2, rfl, ht2⟩ := ht2.lit
    go_wp2_with (first | ((with_reducible refine kAny ?_); go_skip) | (with_reducible refine stA ?_) | ((first | refine tLd ?_ | (refine tSr ?_; clear hL; intro _ hL; simp only [zq2, zq3] at hL) | (refine tSt ?_; clear hL; intro _ hL; simp only [splice, zq1, zq2, zq3] at hL) | (refine tAl ?_; clear hL; intro _ _ hL _)); simp only [Act.put, zq1, zq2, zq3]))
    refine (r_Mul _ _ ((1152921504606846976 : Int) : Rat) (Rat.divInt x3 y3) _ _ hL.vw ((ht1.toV K2.out (by decide)).le leX) (ht2.toV.le leX) K2.out K3.out).mono ?_
    rintro e Wt3 ⟨vt3, mt3, rfl, hE, hMt3, hV, ht3⟩
    replace hL := hL.call hE (by assumption) hV; clear hE hV
    obtain ⟨gt3', At3', nt3', ct3', ht3', Bt3', kt3', dt3', rfl, ht3⟩ := ht3.lit
    have HB3 : Hid (FracC mt3 (.agg #[.bool gt3', .slice At3' nt3' ct3', .bool ht3', .slice Bt3' kt3' dt3']) (bigQ x3 y3)) := ht3
    clear ht1 ht2 ht3
    have KB := Lib.hid (TB.out.fit2 (by decide))
    have hbn : Hid ((bigQ x3 y3).num.natAbs < 18446744073709551616) := by show _ < _; have := TB.out.1; omega
    have hbd : Hid (((bigQ x3 y3).den : Int).natAbs < 18446744073709551616) := by show _ < _; have := TB.out.2; simp only [Int.natAbs_natCast]; omega
    have hce : Hid ((cel (bigQ x3 y3)).natAbs < 18446744073709551616) := by
      show _ < _
      have h0 := cel_abs (bigQ x3 y3).num (bigQ x3 y3).den
      rw [Rat.num_divInt_den] at h0
      have := hbn.out
      omega
    obtain ⟨za, zb, hci⟩ := ciR_lit (cel (bigQ x3 y3))
    have HCI := Lib.hid hci
    clear hci
    go_wp2_with (first | ((with_reducible refine kAny ?_); go_skip) | (with_reducible refine stA ?_) | ((first | refine tLd ?_ | (refine tSr ?_; clear hL; intro _ hL; simp only [zq2, zq3] at hL) | (refine tSt ?_; clear hL; intro _ hL; simp only [splice, zq1, zq2, zq3] at hL) | (refine tAl ?_; clear hL; intro _ _ hL _)); simp only [Act.put, zq1, zq2, zq3]))
    refine (l_CeilIntX _ (bigQ x3 y3).num (bigQ x3 y3).den 0 (bigQ x3 y3) _ _ hL.vw ((HB3.out.toFr KB.out (by decide)).le leX) hbn.out hbd.out (Rat.num_divInt_den _)).mono ?_
    rintro e Wt4 ⟨_, mt4, rfl, hE, hMt4, hV, rfl⟩
    replace hL := hL.call hE (by assumption) hV; clear hE hV
    rw [HCI.out]
    go_wp2_with (first | ((with_reducible refine kAny ?_); go_skip) | (with_reducible refine stA ?_) | ((first | refine tLd ?_ | (refine tSr ?_; clear hL; intro _ hL; simp only [zq2, zq3] at hL) | (refine tSt ?_; clear hL; intro _ hL; simp only [splice, zq1, zq2, zq3] at hL) | (refine tAl ?_; clear hL; intro _ _ hL _)); simp only [Act.put, zq1, zq2, zq3]))
    refine (r_CeilInt _ (bigQ x3 y3) _ _ hL.vw ((HB3.out.toV KB.out (by decide)).le leX) (KB.out.mono (by decide)) hce.out).mono ?_
    rintro e Wt5 ⟨_, mt5, rfl, hE, hMt5, hV, rfl⟩
    replace hL := hL.call hE (by assumption) hV; clear hE hV
    rw [HCI.out]
    have K9 : Hid (Fit 200 (Rat.divInt xu yu)) := WU.out.q.fit (by decide)
    have hxn : Hid ((xu).natAbs < 18446744073709551616) := by show _ < _; have := WU.out.bx; omega
    have hyn : Hid ((yu).natAbs < 18446744073709551616) := by show _ < _; have := WU.out.by_; omega
    have hcx : Hid ((cel (Rat.divInt xu yu)).natAbs < 18446744073709551616) := by show _ < _; have := cel_abs xu yu; have := WU.out.bx; omega
    obtain ⟨zc, zd, hcj⟩ := ciR_lit (cel (Rat.divInt xu yu))
    have HCJ := Lib.hid hcj
    clear hcj HB3 KB hbn hbd hce
    go_wp2_with (first | ((with_reducible refine kAny ?_); go_skip) | (with_reducible refine stA ?_) | ((first | refine tLd ?_ | (refine tSr ?_; clear hL; intro _ hL; simp only [zq2, zq3] at hL) | (refine tSt ?_; clear hL; intro _ hL; simp only [splice, zq1, zq2, zq3] at hL) | (refine tAl ?_; clear hL; intro _ _ hL _)); simp only [Act.put, zq1, zq2, zq3]))
    refine (l_CeilIntX _ xu yu 0 (Rat.divInt xu yu) _ _ hL.vw (HU.out.1.le leX) hxn.out hyn.out rfl).mono ?_
    rintro e Wt6 ⟨_, mt6, rfl, hE, hMt6, hV, rfl⟩
    replace hL := hL.call hE (by assumption) hV; clear hE hV
    rw [HCJ.out]
    go_wp2_with (first | ((with_reducible refine kAny ?_); go_skip) | (with_reducible refine stA ?_) | ((first | refine tLd ?_ | (refine tSr ?_; clear hL; intro _ hL; simp only [zq2, zq3] at hL) | (refine tSt ?_; clear hL; intro _ hL; simp only [splice, zq1, zq2, zq3] at hL) | (refine tAl ?_; clear hL; intro _ _ hL _)); simp only [Act.put, zq1, zq2, zq3]))
    refine (r_CeilInt _ (Rat.divInt xu yu) _ _ hL.vw (HU.out.toV.le leX) (K9.out.mono (by decide)) hcx.out).mono ?_
    rintro e Wt7 ⟨_, mt7, rfl, hE, hMt7, hV, rfl⟩
    replace hL := hL.call hE (by assumption) hV; clear hE hV
    rw [HCJ.out]
    go_upto_region 12 with ((first | ((with_reducible refine kAny ?_); go_skip) | (with_reducible refine stA ?_) | ((first | refine tLd ?_ | (refine tSr ?_; clear hL; intro _ hL; simp only [zq2, zq3] at hL) | (refine tSt ?_; clear hL; intro _ hL; simp only [splice, zq1, zq2, zq3] at hL) | (refine tAl ?_; clear hL; intro _ _ hL _)); simp only [Act.put, zq1, zq2, zq3])))
    have hp := HP.out
    have hw := HX.out
    have hz := HZ.out
    have hwv := HU.out.toV
    refine wp_region_by2 32 [false, false, false, false, false, false, false, false, false, false, false, false, false, false, false, false, false, false, false, false, false, false, false, false, false, false, false, false, false, false, false, false] [false, false, false, false, false, false, false, false, false, false, false, false, false, false, false, false, false, false, false, false, false, false, false, false, false, false, false, false, false, false, false, false] [(fun v _ _ => v = ?c12_0d), (fun v _ _ => v = ?c12_1d), Is (.bool true), (fun v _ _ => v = ?c12_3d), (fun v _ _ => v = ?c12_4d), (fun v _ _ => v = ?c12_5d), Of (fun um v => FracC um v (Rat.divInt xu yu)), Is (.bool true), (fun v _ _ => v = ?c12_8d), (fun v _ _ => v = ?c12_9d), (fun v _ _ => v = ?c12_10d), (fun v _ _ => v = ?c12_11d), (fun v _ _ => v = ?c12_12d), (fun v _ _ => v = ?c12_13d), (fun v _ _ => v = ?c12_14d), (fun v _ _ => v = ?c12_15d), (fun v _ _ => v = ?c12_16d), (fun v _ _ => v = ?c12_17d), (fun v _ _ => v = ?c12_18d), (fun v _ _ => v = ?c12_19d), (fun v _ _ => v = ?c12_20d), (fun v _ _ => v = ?c12_21d), (fun v _ _ => v = ?c12_22d), (fun v _ _ => v = ?c12_23d), (fun v _ _ => v = ?c12_24d), (fun v _ _ => v = ?c12_25d), (fun v _ _ => v = ?c12_26d), (fun v _ _ => v = ?c12_27d), (fun v _ _ => v = ?c12_28d), (fun v _ _ => v = ?c12_29d), Is (.bool true), (fun v _ _ => v = ?c12_31d)] hL.vw mixed [77, 78, 79, 80, 81, 82, 83, 84, 85, 86, 87, 88, 89, 90, 91, 92, 93, 94, 95, 96, 97, 98, 99, 100, 101, 102, 103, 104, 105, 106, 107, 108] _ (by kernel_rfl) (fun vs => by simp only [lay, Act.put, zq1, zq2, zq3]; rfl) (by kernel_rfl) (by decide) (by decide) ?s12d ?l12d ?r12d
    case s12d =>
      refine ⟨?_, ?_, ?_, ?_, ?_, ?_, ?_, ?_, ?_, ?_, ?_, ?_, ?_, ?_, ?_, ?_, ?_, ?_, ?_, ?_, ?_, ?_, ?_, ?_, ?_, ?_, ?_, ?_, ?_, ?_, ?_, ?_, trivial⟩
      · intro vs W1 m1 hE hM hV hD
        clear hD
        replace hL := hL.call hE hM hV
        exact sLd
      · intro vs W1 m1 hE hM hV hD
        clear hD
        replace hL := hL.call hE hM hV
        exact sLd
      · intro vs W1 m1 hE hM hV hD
        obtain ⟨⟨_, _, -, -, f77⟩, ⟨_, _, -, -, f78⟩, -⟩ := hD
        have f77 : vs 77 = _ := f77
        generalize vs 77 = x77 at f77 ⊢
        subst x77
        have f78 : vs 78 = _ := f78
        generalize vs 78 = x78 at f78 ⊢
        subst x78
        go_wp2_with fail
        refine (r_SamePrices _ _ p _ _ hV (hp.le leX) (hw.le leX) FP.out).mono ?_
        rintro e W2 ⟨v, m2, rfl, hE2, hM2, hV2, h⟩
        go_wp2_with fail
        refine One2.call hE2 hM2 hV2 ?_; first | exact h | exact rfl
      · intro vs W1 m1 hE hM hV hD
        obtain ⟨⟨_, _, -, -, f79⟩, -, -⟩ := hD
        have f79 : vs 79 = _ := f79
        generalize vs 79 = x79 at f79 ⊢
        subst x79
        replace hL := hL.call hE hM hV
        exact sPu
      · intro vs W1 m1 hE hM hV hD
        obtain ⟨⟨_, _, -, -, f80⟩, -⟩ := hD
        have f80 : vs 80 = _ := f80
        generalize vs 80 = x80 at f80 ⊢
        subst x80
        replace hL := hL.call hE hM hV
        exact sLd
      · intro vs W1 m1 hE hM hV hD
        obtain ⟨⟨_, _, -, -, f80⟩, -⟩ := hD
        have f80 : vs 80 = _ := f80
        generalize vs 80 = x80 at f80 ⊢
        subst x80
        replace hL := hL.call hE hM hV
        exact sLd
      · intro vs W1 m1 hE hM hV hD
        obtain ⟨⟨_, _, -, -, f82⟩, ⟨_, _, -, -, f80⟩, -, -⟩ := hD
        have f82 : vs 82 = _ := f82
        generalize vs 82 = x82 at f82 ⊢
        subst x82
        have f80 : vs 80 = _ := f80
        generalize vs 80 = x80 at f80 ⊢
        subst x80
        go_wp2_with fail
        refine (r_Canon _ (Rat.divInt xu yu) _ _ hV (hwv.le leX)).mono ?_
        rintro e W2 ⟨v, m2, rfl, hE2, hM2, hV2, h⟩
        go_wp2_with fail
        refine One2.call hE2 hM2 hV2 ?_; first | exact h | exact rfl
      · intro vs W1 m1 hE hM hV hD
        obtain ⟨⟨_, _, -, -, f81⟩, ⟨_, _, -, i83, f83⟩, -, ⟨_, _, -, -, f80⟩, -⟩ := hD
        have f81 : vs 81 = _ := f81
        generalize vs 81 = x81 at f81 ⊢
        subst x81
        have f80 : vs 80 = _ := f80
        generalize vs 80 = x80 at f80 ⊢
        subst x80
        have f83 : FracC _ (vs 83) (Rat.divInt xu yu) := f83
        replace f83 := f83.le i83.le
        clear i83
        go_wp2_with fail
        refine (r_Same _ _ (Rat.divInt xu yu) _ _ hV (hz.le leX) f83 (K9.out.mono (by decide))).mono ?_
        rintro e W2 ⟨v, m2, rfl, hE2, hM2, hV2, h⟩
        go_wp2_with fail
        refine One2.call hE2 hM2 hV2 ?_; first | exact h | exact rfl
      · intro vs W1 m1 hE hM hV hD
        obtain ⟨⟨_, _, -, -, f80⟩, ⟨_, _, -, -, f84⟩, -⟩ := hD
        have f80 : vs 80 = _ := f80
        generalize vs 80 = x80 at f80 ⊢
        subst x80
        have f84 : vs 84 = _ := f84
        generalize vs 84 = x84 at f84 ⊢
        subst x84
        replace hL := hL.call hE hM hV
        exact sPu
      · intro vs W1 m1 hE hM hV hD
        obtain ⟨⟨_, _, -, -, f85⟩, -, -⟩ := hD
        have f85 : vs 85 = _ := f85
        generalize vs 85 = x85 at f85 ⊢
        subst x85
        replace hL := hL.call hE hM hV
        exact sPu
      · intro vs W1 m1 hE hM hV hD
        obtain ⟨⟨_, _, -, -, f86⟩, -⟩ := hD
        have f86 : vs 86 = _ := f86
        generalize vs 86 = x86 at f86 ⊢
        subst x86
        replace hL := hL.call hE hM hV
        exact sPu
      · intro vs W1 m1 hE hM hV hD
        obtain ⟨⟨_, _, -, -, f86⟩, -⟩ := hD
        have f86 : vs 86 = _ := f86
        generalize vs 86 = x86 at f86 ⊢
        subst x86
        replace hL := hL.call hE hM hV
        exact sPu
      · intro vs W1 m1 hE hM hV hD
        obtain ⟨⟨_, _, -, -, f87⟩, ⟨_, _, -, -, f88⟩, ⟨_, _, -, -, f86⟩, -⟩ := hD
        have f87 : vs 87 = _ := f87
        generalize vs 87 = x87 at f87 ⊢
        subst x87
        have f88 : vs 88 = _ := f88
        generalize vs 88 = x88 at f88 ⊢
        subst x88
        have f86 : vs 86 = _ := f86
        generalize vs 86 = x86 at f86 ⊢
        subst x86
        replace hL := hL.call hE hM hV
        exact sPu
      · intro vs W1 m1 hE hM hV hD
        obtain ⟨⟨_, _, -, -, f86⟩, ⟨_, _, -, -, f89⟩, -⟩ := hD
        have f86 : vs 86 = _ := f86
        generalize vs 86 = x86 at f86 ⊢
        subst x86
        have f89 : vs 89 = _ := f89
        generalize vs 89 = x89 at f89 ⊢
        subst x89
        replace hL := hL.call hE hM hV
        exact sPu
      · intro vs W1 m1 hE hM hV hD
        obtain ⟨⟨_, _, -, -, f90⟩, -, -⟩ := hD
        have f90 : vs 90 = _ := f90
        generalize vs 90 = x90 at f90 ⊢
        subst x90
        replace hL := hL.call hE hM hV
        exact sPu
      · intro vs W1 m1 hE hM hV hD
        obtain ⟨⟨_, _, -, -, f91⟩, -⟩ := hD
        have f91 : vs 91 = _ := f91
        generalize vs 91 = x91 at f91 ⊢
        subst x91
        replace hL := hL.call hE hM hV
        exact sPu
      · intro vs W1 m1 hE hM hV hD
        obtain ⟨⟨_, _, -, -, f91⟩, -⟩ := hD
        have f91 : vs 91 = _ := f91
        generalize vs 91 = x91 at f91 ⊢
        subst x91
        replace hL := hL.call hE hM hV
        exact sPu
      · intro vs W1 m1 hE hM hV hD
        obtain ⟨⟨_, _, -, -, f92⟩, ⟨_, _, -, -, f93⟩, ⟨_, _, -, -, f91⟩, -⟩ := hD
        have f92 : vs 92 = _ := f92
        generalize vs 92 = x92 at f92 ⊢
        subst x92
        have f93 : vs 93 = _ := f93
        generalize vs 93 = x93 at f93 ⊢
        subst x93
        have f91 : vs 91 = _ := f91
        generalize vs 91 = x91 at f91 ⊢
        subst x91
        replace hL := hL.call hE hM hV
        exact sPu
      · intro vs W1 m1 hE hM hV hD
        obtain ⟨⟨_, _, -, -, f91⟩, ⟨_, _, -, -, f94⟩, -⟩ := hD
        have f91 : vs 91 = _ := f91
        generalize vs 91 = x91 at f91 ⊢
        subst x91
        have f94 : vs 94 = _ := f94
        generalize vs 94 = x94 at f94 ⊢
        subst x94
        replace hL := hL.call hE hM hV
        exact sPu
      · intro vs W1 m1 hE hM hV hD
        obtain ⟨⟨_, _, -, -, f95⟩, -, -⟩ := hD
        have f95 : vs 95 = _ := f95
        generalize vs 95 = x95 at f95 ⊢
        subst x95
        replace hL := hL.call hE hM hV
        exact sPu
      · intro vs W1 m1 hE hM hV hD
        obtain ⟨⟨_, _, -, -, f96⟩, -⟩ := hD
        have f96 : vs 96 = _ := f96
        generalize vs 96 = x96 at f96 ⊢
        subst x96
        replace hL := hL.call hE hM hV
        exact sPu
      · intro vs W1 m1 hE hM hV hD
        obtain ⟨⟨_, _, -, -, f96⟩, -⟩ := hD
        have f96 : vs 96 = _ := f96
        generalize vs 96 = x96 at f96 ⊢
        subst x96
        replace hL := hL.call hE hM hV
        exact sPu
      · intro vs W1 m1 hE hM hV hD
        obtain ⟨⟨_, _, -, -, f97⟩, ⟨_, _, -, -, f98⟩, ⟨_, _, -, -, f96⟩, -⟩ := hD
        have f97 : vs 97 = _ := f97
        generalize vs 97 = x97 at f97 ⊢
        subst x97
        have f98 : vs 98 = _ := f98
        generalize vs 98 = x98 at f98 ⊢
        subst x98
        have f96 : vs 96 = _ := f96
        generalize vs 96 = x96 at f96 ⊢
        subst x96
        replace hL := hL.call hE hM hV
        exact sPu
      · intro vs W1 m1 hE hM hV hD
        obtain ⟨⟨_, _, -, -, f96⟩, ⟨_, _, -, -, f99⟩, -⟩ := hD
        have f96 : vs 96 = _ := f96
        generalize vs 96 = x96 at f96 ⊢
        subst x96
        have f99 : vs 99 = _ := f99
        generalize vs 99 = x99 at f99 ⊢
        subst x99
        replace hL := hL.call hE hM hV
        exact sPu
      · intro vs W1 m1 hE hM hV hD
        obtain ⟨⟨_, _, -, -, f100⟩, -, -⟩ := hD
        have f100 : vs 100 = _ := f100
        generalize vs 100 = x100 at f100 ⊢
        subst x100
        replace hL := hL.call hE hM hV
        exact sPu
      · intro vs W1 m1 hE hM hV hD
        obtain ⟨⟨_, _, -, -, f101⟩, -⟩ := hD
        have f101 : vs 101 = _ := f101
        generalize vs 101 = x101 at f101 ⊢
        subst x101
        replace hL := hL.call hE hM hV
        exact sPu
      · intro vs W1 m1 hE hM hV hD
        obtain ⟨⟨_, _, -, -, f101⟩, -⟩ := hD
        have f101 : vs 101 = _ := f101
        generalize vs 101 = x101 at f101 ⊢
        subst x101
        replace hL := hL.call hE hM hV
        exact sPu
      · intro vs W1 m1 hE hM hV hD
        obtain ⟨⟨_, _, -, -, f102⟩, ⟨_, _, -, -, f103⟩, ⟨_, _, -, -, f101⟩, -⟩ := hD
        have f102 : vs 102 = _ := f102
        generalize vs 102 = x102 at f102 ⊢
        subst x102
        have f103 : vs 103 = _ := f103
        generalize vs 103 = x103 at f103 ⊢
        subst x103
        have f101 : vs 101 = _ := f101
        generalize vs 101 = x101 at f101 ⊢
        subst x101
        replace hL := hL.call hE hM hV
        exact sPu
      · intro vs W1 m1 hE hM hV hD
        obtain ⟨⟨_, _, -, -, f101⟩, ⟨_, _, -, -, f104⟩, -⟩ := hD
        have f101 : vs 101 = _ := f101
        generalize vs 101 = x101 at f101 ⊢
        subst x101
        have f104 : vs 104 = _ := f104
        generalize vs 104 = x104 at f104 ⊢
        subst x104
        replace hL := hL.call hE hM hV
        exact sPu
      · intro vs W1 m1 hE hM hV hD
        obtain ⟨⟨_, _, -, -, f105⟩, -, -⟩ := hD
        have f105 : vs 105 = _ := f105
        generalize vs 105 = x105 at f105 ⊢
        subst x105
        replace hL := hL.call hE hM hV
        exact sPu
      · intro vs W1 m1 hE hM hV hD
        obtain ⟨⟨_, _, -, -, f106⟩, -, -⟩ := hD
        have f106 : vs 106 = _ := f106
        generalize vs 106 = x106 at f106 ⊢
        subst x106
        go_wp2_with fail
        refine (k_known _ _ hV).mono ?_
        rintro e W2 ⟨v, m2, rfl, hE2, hM2, hV2, h⟩
        go_wp2_with fail
        refine One2.call hE2 hM2 hV2 ?_; first | exact h | exact rfl
      · intro vs W1 m1 hE hM hV hD
        obtain ⟨⟨_, _, -, -, f106⟩, ⟨_, _, -, -, f107⟩, -⟩ := hD
        have f106 : vs 106 = _ := f106
        generalize vs 106 = x106 at f106 ⊢
        subst x106
        have f107 : vs 107 = _ := f107
        generalize vs 107 = x107 at f107 ⊢
        subst x107
        replace hL := hL.call hE hM hV
        exact sPu
    case l12d =>
      refine ⟨fun h => (by cases h), fun h => (by cases h), fun h => (by cases h), fun h => (by cases h), fun h => (by cases h), fun h => (by cases h), fun h => (by cases h), fun h => (by cases h), fun h => (by cases h), fun h => (by cases h), fun h => (by cases h), fun h => (by cases h), fun h => (by cases h), fun h => (by cases h), fun h => (by cases h), fun h => (by cases h), fun h => (by cases h), fun h => (by cases h), fun h => (by cases h), fun h => (by cases h), fun h => (by cases h), fun h => (by cases h), fun h => (by cases h), fun h => (by cases h), fun h => (by cases h), fun h => (by cases h), fun h => (by cases h), fun h => (by cases h), fun h => (by cases h), fun h => (by cases h), fun h => (by cases h), fun h => (by cases h), trivial⟩
    intro vs W1 m1 hE hM hV hF hD
    clear hD
    obtain ⟨-, -, -, -, -, -, ⟨_, _, -, i83, f83⟩, -, -, -, -, -, -, -, -, -, -, -, -, -, -, -, -, -, -, -, -, -, -, -, -, ⟨_, _, -, -, f108⟩, -⟩ := hF
    replace hL := hL.call hE hM hV
    replace f83 : FracC _ (vs 83) (Rat.divInt xu yu) := f83
    replace f83 := f83.le i83.le
    clear i83
    have f108 : vs 108 = _ := f108
    generalize vs 108 = x108 at f108 ⊢
    subst x108
    clear hE hV
    simp only [List.drop_succ_cons, List.drop_zero]
    go_wp2_with (first | ((with_reducible refine kAny ?_); go_skip) | (with_reducible refine stA ?_) | ((first | refine tLd ?_ | (refine tSr ?_; clear hL; intro _ hL; simp only [zq2, zq3] at hL) | (refine tSt ?_; clear hL; intro _ hL; simp only [splice, zq1, zq2, zq3] at hL) | (refine tAl ?_; clear hL; intro _ _ hL _)); simp only [Act.put, zq1, zq2, zq3]))
    refine QN.mk ?_
    go_wp2_with (first | ((with_reducible refine kAny ?_); go_skip) | (with_reducible refine stA ?_) | ((first | refine tLd ?_ | (refine tSr ?_; clear hL; intro _ hL; simp only [zq2, zq3] at hL) | (refine tSt ?_; clear hL; intro _ hL; simp only [splice, zq1, zq2, zq3] at hL) | (refine tAl ?_; clear hL; intro _ _ hL _)); simp only [Act.put, zq1, zq2, zq3]))
    go_ret
    exact RetV.mk hL rfl
end Go.Proofs.YtmhkmmmompediaaGreat

/- LagrangeSteps: for every input the law returns true, and each argument reads afterwards as it read before. There is no condition. -/
namespace Go.Proofs.YtmhkmmmompediaaGreat
open Go.ChangeShapes Go.WideShapes Go.ChangeAt Go.RowKit

set_option maxRecDepth 100000 in
theorem steps_lifted (os : Os) (started : os.Started) (H : Type) (enc : TypeId × Value → H) :
    ReturnsInHanded {} Tryz.checked os 4 .any (Rows.lagrangeStepsSpec.pre6 enc Tryz.prog Tryz.f4 Rows.lagrangeStepsRow.domain false) (Rows.lagrangeStepsSpec.post enc Tryz.prog Tryz.f4 false true false false) := by
  refine returnsInHanded_of_change (C := Tryz.checked) ownK started (by kernel_rfl) Tryz.func4
    (ChangeSpec.witness6 (enc := enc) (C := Tryz.checked) false ⟨#[], #[.slice none 0 0, .slice none 0 0, .slice none 0 0, .int .i64 0], []⟩ 8 (by kernel_rfl) (by kernel_rfl) (by kernel_rfl) (by kernel_rfl)) ?_
  intro W base args ds gs before hval0 hW hcnd _
  have hval : ∀ (j : Nat) t v, Tryz.f4.params[j]? = some t → args[j]? = some v → Value.okWide Tryz.prog W .any base t v := hval0
  have hW' := hW
  obtain ⟨p, q, hA0, hV, rfl, hfz, hnd⟩ := hW
  have hA : DataW.TrodAll enc Tryz.prog W 0 (fun _ => true) true Tryz.f4.params.toList args.toList ds p := hA0
  rw [Tryz.params4] at hA hval
  obtain ⟨v0, vs0, d0, ds0, p0, q0, hargs, rfl, rfl, h0, r0⟩ := trodAll_cons hA
  obtain ⟨v1, vs1, d1, ds1, p1, q1, rfl, rfl, rfl, h1, r1⟩ := trodAll_cons r0
  obtain ⟨v2, vs2, d2, ds2, p2, q2, rfl, rfl, rfl, h2, r2⟩ := trodAll_cons r1
  obtain ⟨v3, vs3, d3, ds3, p3, q3, rfl, rfl, rfl, h3, r3⟩ := trodAll_cons r2
  obtain ⟨rfl, rfl, rfl⟩ := trodAll_nil r3
  obtain rfl : args = #[v0, v1, v2, v3] := by cases args; simp_all
  obtain ⟨rfl, rfl⟩ := trodVars_none hV
  obtain ⟨n, rfl, rfl, rfl, wn⟩ := open_int Tryz.underlying3 (hval 3 3 v3 rfl rfl) h3
  obtain ⟨A0, c0, l0, rfl, s0⟩ := arg_ints (hval 0 22 v0 rfl rfl) h0
  obtain ⟨A1, c1, l1, rfl, s1⟩ := arg_ints (hval 1 22 v1 rfl rfl) h1
  obtain ⟨A2, c2, l2, rfl, s2⟩ := arg_ints (hval 2 22 v2 rfl rfl) h2
  clear hA0 hval0 hA r0 r1 r2 r3 hargs
  refine (law_Steps A0 A1 A2 c0 c1 c2 l0 l1 l2 n W W (Vw.refl W) s0 s1 s2 (wf_bd wn).1 (wf_bd wn).2).mono fun e W' h => ?_
  obtain ⟨_, _, rfl, hE, _, _, rfl⟩ := h
  have hin : ∀ x ∈ p0 ++ (p1 ++ (p2 ++ ([] ++ []))) ++ [], x.block < W.heap.size := fun x hx => hW'.lt x hx
  have st : ∀ {t : TypeId} {v : Value} {d : DataW H} {ps : List MemPlace}, Tryz.prog.readableRec t = true → t < Tryz.prog.types.size → DataW.Trod enc Tryz.prog W 0 (fun _ => true) true t v d ps → (∀ x ∈ ps, x ∈ p0 ++ (p1 ++ (p2 ++ ([] ++ []))) ++ []) →
      DataW.Trod enc Tryz.prog W' 0 (fun b => decide (b < W.heap.size)) true t v d ps := fun hr ht h hx =>
    WideElems.Trod_stays laidO hr ht h (fun x hp => Below.same hE (hin x (hx x hp))) (fun x hp => by simpa using hin x (hx x hp))
  refine ⟨_, rfl, _, _, _, [], _, [], hW', ?_, trodAll_cons_mk (st (by kernel_rfl) (of_decide_eq_true (by kernel_rfl)) h0 ?_) (trodAll_cons_mk (st (by kernel_rfl) (of_decide_eq_true (by kernel_rfl)) h1 ?_) (trodAll_cons_mk (st (by kernel_rfl) (of_decide_eq_true (by kernel_rfl)) h2 ?_) (trodAll_cons_mk (shut_int Tryz.underlying3 wn) trodAll_mk0))), rfl, Below.frame hE _, fun h => by cases h⟩
  · exact trodAll_cons_mk (shut_bool Tryz.underlying4 _) trodAll_mk0
  all_goals (intro x hx; simp [hx])

theorem lagrangeSteps_holds : Rows.LagrangeStepsSaid :=
  OpenClaim.holds_of_wide 4 Tryz.f4 rfl rfl rfl rfl rfl rfl rfl ⟨rfl, rfl, rfl, rfl, rfl⟩ rfl rfl rfl rfl rfl (by kernel_rfl) Tryz.func4 (by kernel_rfl)
    (of_decide_eq_true (by kernel_rfl)) (by unfold Func.isWrapper; first | (rw [if_pos (by decide +kernel)]; kernel_rfl) | (rw [if_neg (by decide +kernel)]; exact ⟨rfl, rfl⟩))
    (fun os started H enc _ => steps_lifted os started H enc)
#print axioms lagrangeSteps_holds
end Go.Proofs.YtmhkmmmompediaaGreat
