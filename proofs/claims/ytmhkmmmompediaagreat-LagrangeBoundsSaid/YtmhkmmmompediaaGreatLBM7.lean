/- Part 7 of 8 of the proof: the law LagrangeBounds returns true for every input, and its arguments read as before; there is no condition. -/
import Derived.Test.YtmhkmmmompediaaGreatLBM6
set_option linter.unusedVariables false
set_option linter.unusedSimpArgs false
/- The walk through the law LagrangeBounds. -/
namespace Go.Proofs.YtmhkmmmompediaaGreat
open Go.RowKit


set_option maxRecDepth 100000 in
set_option maxHeartbeats 32000000 in
theorem law_BoundsA (Al Aa : Option Addr) (cl ca : Nat) (l a : List Int) (n : Int) (w m : World) (hV : Vw m w) (hl : Sl m Al (l.map I64)) (ha : Sl m Aa (a.map I64)) (n1 : -9223372036854775808 ≤ n) (n2 : n ≤ 9223372036854775807) (hs : n % 16 ≠ 2) :
    Calls Tryz.prog 3 #[.slice Al l.length cl, .slice Aa a.length ca, .int .i64 n] w (RetV w m fun _ r => r = .bool true) := by
  have KM : Hid (∀ w m', Vw m' w → Le m m' → Calls Tryz.prog 15 #[.slice Al l.length cl] w (RetV w m' fun m'' r => MasterR m'' r (masF l))) := by
    show ∀ w m', _
    exact fun w m' hV hle => d_Master Al cl l w m' hV (hl.le hle) trivial
  have HNF : Hid ((masF l).nf = 6) := rfl
  have HCU : Hid ((masF l).cuts.length ≤ 10) := by show _ ≤ _; have := masF_cuts l; omega
  have PB : Hid (∀ fr, BQ 6 (masF l) ⟨(prF (masF l) a).fl, (prF (masF l) a).cu, (prF (masF l) a).cd, (prF (masF l) a).de, fr⟩ (wN (n / 16), wD (n / 16))) := by show ∀ fr, _; exact fun fr => lag_bq l a _ fr
  have PX : Hid (BQ 6 (masF l) (prX (prF (masF l) a)) (wN (n / 16), wD (n / 16))) := lag_bqx l a _
  have MO := Lib.hid (masF_ok l)
  have PP : Hid (0 ≤ (masF l).pen ∧ (masF l).pen ≤ 1000) := by
    have := atF_bd l 0 (by omega)
    show 0 ≤ atF l 0 % 30 ∧ atF l 0 % 30 ≤ 1000
    omega
  have P6 : Hid ((prF (masF l) a).fl.length = 6) := flG_len a 6
  have PN : Hid ((prF (masF l) a).cd.length ≤ 10) := by show (cdG a _).length ≤ 10; rw [cdG_len]; have := masF_cuts l; omega
  have PM : Hid ((prF (masF l) a).cu.length ≤ 10) := by show (masF l).cuts.length ≤ 10; have := masF_cuts l; omega
  have KW1 : Hid (∀ w m, Vw m w → Calls Tryz.prog 19 #[.int .i64 (n / 16)] w (RetV w m fun m' r => FrG m' r (wN (n / 16)) (wD (n / 16)))) := by
    show ∀ w m, _
    exact fun w m hV => d_Wild _ w m hV (by omega) (by omega)
  generalize wN (n / 16) = xu at *
  generalize wD (n / 16) = yu at *
  have TR : Hid True := trivial
  clear hl n1 n2
  generalize l.length = N1 at *
  generalize hN2 : a.length = N2
  have HN2 := Lib.hid hN2
  clear hN2
  generalize masF l = ms at *
  have e1 := i64_and4 n
  generalize n % 16 = s at *
  have hL := Loc.start hV
  clear hV
  have b2 : (s == 2) = false := bf hs
  clear hs
  go_enter Tryz.func3, Tryz.ntmps3
  go_wp2_with (first | ((with_reducible refine kAny ?_); go_skip) | (with_reducible refine stA ?_) | ((first | refine tFd ?_ | refine tLd ?_ | ((first | refine tSr ?_ | refine tSt ?_); clear hL; intro _ hL; simp only [splice, zq1, zq2, zq3] at hL) | (refine tAl ?_; clear hL; intro _ _ hL _) | (refine tBs ?_; clear hL; intro _ _ hL _ hBs)); simp only [Act.put, zq1, zq2, zq3]))
  refine (KM.out _ _ hL.vw leX).mono ?_
  rintro e Wc1 ⟨vc1, mc1, rfl, hE, hMc1, hV, hc1⟩
  replace hL := hL.call hE (by assumption) hV; clear hE hV
  obtain ⟨M1, q1, d1, M2, q2, d2, M3, q3, d3, rfl, hc1⟩ := hc1.lit
  go_wp2_with (first | ((with_reducible refine kAny ?_); go_skip) | (with_reducible refine stA ?_) | ((first | refine tFd ?_ | refine tLd ?_ | ((first | refine tSr ?_ | refine tSt ?_); clear hL; intro _ hL; simp only [splice, zq1, zq2, zq3] at hL) | (refine tAl ?_; clear hL; intro _ _ hL _) | (refine tBs ?_; clear hL; intro _ _ hL _ hBs)); simp only [Act.put, zq1, zq2, zq3]))
  refine (d_PricesY _ ms _ _ _ a _ _ hL.vw (hc1.le leX) HNF HCU (ha.le leX) HN2 TR).mono ?_
  rintro e Wc2 ⟨vc2, mc2, rfl, hE, hMc2, hV, hc2⟩
  replace hL := hL.call hE (by assumption) hV; clear hE hV
  obtain ⟨A0, c0, A1, c1, A2, c2, A3, c3, rfl, hk0, hx⟩ := hc2.lit
  have HX := Lib.hid hx
  have HM : Hid (MasterR mc2 (.agg #[.int .i64 ms.nf, .slice M1 q1 d1, .int .i64 ms.pen, .slice M2 q2 d2, .slice M3 q3 d3]) ms) := hc1.le leX
  clear hx hc1 hc2
  generalize prF ms a = p at *
  by_cases h0 : s = 0
  · have b0 : (s == 0) = true := bt h0
    clear h0
    have KB : Hid (BothB mc2 (.agg #[.int .i64 ms.nf, .slice M1 q1 d1, .int .i64 ms.pen, .slice M2 q2 d2, .slice M3 q3 d3]) (.agg #[.slice A0 p.fl.length c0, .slice A1 p.cu.length c1, .slice A2 p.cd.length c2, .slice A3 p.de.length c3, .bool true]) (xu, yu)) := by
      obtain ⟨a, b, c, d, e, y1, y2, y3, y4⟩ := HX.out
      injection e with e
      injection e with e
      injection e with e1 e
      injection e with e2 e
      injection e with e3 e
      injection e with e4 e
      subst e1 e2 e3 e4
      exact bothB_ok HM.out (p := ⟨p.fl, p.cu, p.cd, p.de, true⟩) ⟨_, _, _, _, rfl, y1, y2, y3, y4⟩ (PB.out true)
    obtain ⟨x, y, e, l1, l2, k1, k2⟩ := KB.out
    have K1 := Lib.hid k1
    have K2 := Lib.hid k2
    have L1 := Lib.hid l1
    have L2 := Lib.hid l2
    have bee : ((e : Int) == e) = true := by simp
    clear k1 k2 l1 l2 KB
    go_upto_region 12 with ((first | ((with_reducible refine kAny ?_); go_skip) | (with_reducible refine stA ?_) | ((first | refine tFd ?_ | refine tLd ?_ | ((first | refine tSr ?_ | refine tSt ?_); clear hL; intro _ hL; simp only [splice, zq1, zq2, zq3] at hL) | (refine tAl ?_; clear hL; intro _ _ hL _) | (refine tBs ?_; clear hL; intro _ _ hL _ hBs)); simp only [Act.put, zq1, zq2, zq3])))
    obtain ⟨B, hB1, hB2, hB3⟩ := hL.bound
    refine wp_region_by2 10 [false, false, false, false, false, false, false, false, false, true] [false, false, false, false, false, false, false, false, true, false] [(fun v _ _ => v = ?c12_0a), (fun v _ _ => v = ?c12_1a), (fun v _ _ => v = ?c12_2a), (fun v _ _ => v = ?c12_3a), Of (fun um v => FrG um v xu yu), Of (fun um v => BvR um v x y e), Of (fun um v => BvR um v x y e), Of (fun um v => FracP um v x y), Is (.int .i64 e), NewBlk B 39 #[.bool false, .slice none 0 0, .bool false, .slice none 0 0]] hL.vw mixed [49, 50, 51, 52, 53, 54, 48, 55, 56, 9] _ (by kernel_rfl) (fun vs => by simp only [lay, Act.put, zq1, zq2, zq3]; rfl) (by kernel_rfl) (by decide) (by decide) ?s12a ?l12a ?r12a
    case s12a =>
      refine ⟨?_, ?_, ?_, ?_, ?_, ?_, ?_, ?_, ?_, ?_, trivial⟩
      · intro vs W1 m1 hE hM hV hD; clear hD; replace hL := hL.call hE hM hV
        exact sLd
      · intro vs W1 m1 hE hM hV hD; clear hD; replace hL := hL.call hE hM hV
        exact sLd
      · intro vs W1 m1 hE hM hV hD; clear hD; replace hL := hL.call hE hM hV
        exact sPu
      · intro vs W1 m1 hE hM hV hD; obtain ⟨⟨_, _, -, -, f51⟩, -⟩ := hD; have f51 : vs 51 = _ := f51; generalize vs 51 = x51 at f51 ⊢; subst x51; replace hL := hL.call hE hM hV
        exact sPu
      · intro vs W1 m1 hE hM hV hD; obtain ⟨⟨_, _, -, -, f52⟩, -⟩ := hD; have f52 : vs 52 = _ := f52; generalize vs 52 = x52 at f52 ⊢; subst x52
        go_wp2_with fail
        refine (KW1.out _ _ hV).mono ?_
        rintro e W2 ⟨v, m2, rfl, hE2, hM2, hV2, h⟩
        go_wp2_with fail
        refine One2.call hE2 hM2 hV2 ?_; first | exact h | exact rfl
      · intro vs W1 m1 hE hM hV hD; obtain ⟨⟨_, _, -, -, f49⟩, ⟨_, _, -, -, f50⟩, ⟨_, _, -, i53, f53⟩, -, -⟩ := hD; have f49 : vs 49 = _ := f49; generalize vs 49 = x49 at f49 ⊢; subst x49; have f50 : vs 50 = _ := f50; generalize vs 50 = x50 at f50 ⊢; subst x50; have f53 : FrG _ (vs 53) xu yu := f53; replace f53 := f53.le i53.le; clear i53
        go_wp2_with fail
        refine (K1.out _ _ _ hV leX f53).mono ?_
        rintro e W2 ⟨v, m2, rfl, hE2, hM2, hV2, h⟩
        go_wp2_with fail
        refine One2.call hE2 hM2 hV2 ?_; first | exact h | exact rfl
      · intro vs W1 m1 hE hM hV hD; obtain ⟨⟨_, _, -, i54, f54⟩, -⟩ := hD; have f54 : BvR _ (vs 54) x y e := f54; replace f54 := f54.le i54.le; clear i54
        go_wp2_with fail
        refine One2.still hV ?_; exact f54
      · intro vs W1 m1 hE hM hV hD; obtain ⟨⟨_, _, -, i48, f48⟩, -⟩ := hD; have f48 : BvR _ (vs 48) x y e := f48; replace f48 := f48.le i48.le; clear i48; obtain ⟨u0, e48, k⟩ := f48; generalize vs 48 = x48 at e48 ⊢; subst x48; replace hL := hL.call hE hM hV
        go_wp2_with (first | ((with_reducible refine kAny ?_); go_skip) | (with_reducible refine stA ?_) | ((first | refine tFd ?_ | refine tLd ?_ | ((first | refine tSr ?_ | refine tSt ?_); clear hL; intro _ hL; simp only [splice, zq1, zq2, zq3] at hL) | (refine tAl ?_; clear hL; intro _ _ hL _) | (refine tBs ?_; clear hL; intro _ _ hL _ hBs)); simp only [Act.put, zq1, zq2, zq3]))
        refine One2.still hV ?_; exact k
      · intro vs W1 m1 hE hM hV hD; obtain ⟨⟨_, _, -, i48, f48⟩, -, -⟩ := hD; have f48 : BvR _ (vs 48) x y e := f48; replace f48 := f48.le i48.le; clear i48; obtain ⟨u0, e48, k⟩ := f48; generalize vs 48 = x48 at e48 ⊢; subst x48; replace hL := hL.call hE hM hV
        go_wp2_with (first | ((with_reducible refine kAny ?_); go_skip) | (with_reducible refine stA ?_) | ((first | refine tFd ?_ | refine tLd ?_ | ((first | refine tSr ?_ | refine tSt ?_); clear hL; intro _ hL; simp only [splice, zq1, zq2, zq3] at hL) | (refine tAl ?_; clear hL; intro _ _ hL _) | (refine tBs ?_; clear hL; intro _ _ hL _ hBs)); simp only [Act.put, zq1, zq2, zq3]))
        refine One2.still hV ?_; exact rfl
      · intro vs W1 m1 hE hM hV hD; clear hD
        exact one2_alloc hV (Nat.le_trans hB3 hE.size) rfl rfl rfl ZcC.h
    case l12a =>
      refine ⟨fun h => (by cases h), fun h => (by cases h), fun h => (by cases h), fun h => (by cases h), fun h => (by cases h), fun h => (by cases h), fun h => (by cases h), fun h => (by cases h), fun _ => ?_, fun h => (by cases h), trivial⟩
      · intro vs W1 m1 hE hM hV hD; obtain ⟨⟨_, _, -, i48, f48⟩, -, -⟩ := hD; have f48 : BvR _ (vs 48) x y e := f48; replace f48 := f48.le i48.le; clear i48; obtain ⟨u0, e48, k⟩ := f48; generalize vs 48 = x48 at e48 ⊢; subst x48
        exact ⟨_, Or.inl ⟨(by rfl), fun w => (by rfl)⟩, rfl⟩
    intro vs W1 m1 hE hM hV hF hD
    obtain ⟨-, -, -, -, ⟨_, _, -, i53, f53⟩, ⟨_, _, -, i54, f54⟩, ⟨_, _, -, i48, f48⟩, ⟨_, _, -, i55, f55⟩, ⟨_, _, -, -, f56⟩, ⟨_, _, j9, i9, f9⟩, -⟩ := hF
    replace hL := hL.call hE hM hV
    replace f53 : FrG _ (vs 53) xu yu := f53
    replace f53 := f53.le i53.le
    clear i53
    replace f54 : BvR _ (vs 54) x y e := f54
    replace f54 := f54.le i54.le
    clear i54
    replace f48 : BvR _ (vs 48) x y e := f48
    replace f48 := f48.le i48.le
    clear i48
    replace f55 : FracP _ (vs 55) x y := f55
    replace f55 := f55.le i55.le
    clear i55
    obtain ⟨g55, A55, n55, c55, h55, B55, k55, d55, e55, f55⟩ := f55.lit
    generalize vs 55 = x55 at e55 ⊢
    subst x55
    have f56 : vs 56 = _ := f56
    generalize vs 56 = x56 at f56 ⊢
    subst x56
    obtain ⟨b9, e9, hL⟩ := Loc.addB (Lt := []) hB1 hB2 hL f9 j9 i9 ad0
    simp only [e9, List.cons_append, List.nil_append] at hL ⊢
    clear e9 f9 j9 i9
    clear hB1 hB2 hB3 hD
    clear hE hV
    simp only [List.drop_succ_cons, List.drop_zero]
    go_wp2_with (first | ((with_reducible refine kAny ?_); go_skip) | (with_reducible refine stA ?_) | ((first | refine tFd ?_ | refine tLd ?_ | ((first | refine tSr ?_ | refine tSt ?_); clear hL; intro _ hL; simp only [splice, zq1, zq2, zq3] at hL) | (refine tAl ?_; clear hL; intro _ _ hL _) | (refine tBs ?_; clear hL; intro _ _ hL _ hBs)); simp only [Act.put, zq1, zq2, zq3]))
    refine QN.mk ?_
    have HU := Lib.hid f55
    clear f55 f54 f53 f48
    go_upto_region 13 with ((first | ((with_reducible refine kAny ?_); go_skip) | (with_reducible refine stA ?_) | ((first | refine tFd ?_ | refine tLd ?_ | ((first | refine tSr ?_ | refine tSt ?_); clear hL; intro _ hL; simp only [splice, zq1, zq2, zq3] at hL) | (refine tAl ?_; clear hL; intro _ _ hL _) | (refine tBs ?_; clear hL; intro _ _ hL _ hBs)); simp only [Act.put, zq1, zq2, zq3])))
    obtain ⟨B, hB1, hB2, hB3⟩ := hL.bound
    refine wp_region_by2 10 [false, false, false, false, false, false, false, false, false, true] [false, false, false, false, false, false, false, false, true, false] [(fun v _ _ => v = ?c13_0a), (fun v _ _ => v = ?c13_1a), (fun v _ _ => v = ?c13_2a), (fun v _ _ => v = ?c13_3a), Of (fun um v => FrG um v xu yu), Of (fun um v => BvR um v x y e), Of (fun um v => BvR um v x y e), Of (fun um v => FracP um v x y), Is (.int .i64 e), NewBlk B 39 #[.bool false, .slice none 0 0, .bool false, .slice none 0 0]] hL.vw mixed [58, 59, 60, 61, 62, 63, 57, 64, 65, 11] _ (by kernel_rfl) (fun vs => by simp only [lay, Act.put, zq1, zq2, zq3]; rfl) (by kernel_rfl) (by decide) (by decide) ?s13a ?l13a ?r13a
    case s13a =>
      refine ⟨?_, ?_, ?_, ?_, ?_, ?_, ?_, ?_, ?_, ?_, trivial⟩
      · intro vs W1 m1 hE hM hV hD; clear hD; replace hL := hL.call hE hM hV
        exact sLd
      · intro vs W1 m1 hE hM hV hD; clear hD; replace hL := hL.call hE hM hV
        exact sLd
      · intro vs W1 m1 hE hM hV hD; clear hD; replace hL := hL.call hE hM hV
        exact sPu
      · intro vs W1 m1 hE hM hV hD; obtain ⟨⟨_, _, -, -, f60⟩, -⟩ := hD; have f60 : vs 60 = _ := f60; generalize vs 60 = x60 at f60 ⊢; subst x60; replace hL := hL.call hE hM hV
        exact sPu
      · intro vs W1 m1 hE hM hV hD; obtain ⟨⟨_, _, -, -, f61⟩, -⟩ := hD; have f61 : vs 61 = _ := f61; generalize vs 61 = x61 at f61 ⊢; subst x61
        go_wp2_with fail
        refine (KW1.out _ _ hV).mono ?_
        rintro e W2 ⟨v, m2, rfl, hE2, hM2, hV2, h⟩
        go_wp2_with fail
        refine One2.call hE2 hM2 hV2 ?_; first | exact h | exact rfl
      · intro vs W1 m1 hE hM hV hD; obtain ⟨⟨_, _, -, -, f58⟩, ⟨_, _, -, -, f59⟩, ⟨_, _, -, i62, f62⟩, -, -⟩ := hD; have f58 : vs 58 = _ := f58; generalize vs 58 = x58 at f58 ⊢; subst x58; have f59 : vs 59 = _ := f59; generalize vs 59 = x59 at f59 ⊢; subst x59; have f62 : FrG _ (vs 62) xu yu := f62; replace f62 := f62.le i62.le; clear i62
        go_wp2_with fail
        refine (K2.out _ _ _ hV leX f62).mono ?_
        rintro e W2 ⟨v, m2, rfl, hE2, hM2, hV2, h⟩
        go_wp2_with fail
        refine One2.call hE2 hM2 hV2 ?_; first | exact h | exact rfl
      · intro vs W1 m1 hE hM hV hD; obtain ⟨⟨_, _, -, i63, f63⟩, -⟩ := hD; have f63 : BvR _ (vs 63) x y e := f63; replace f63 := f63.le i63.le; clear i63
        go_wp2_with fail
        refine One2.still hV ?_; exact f63
      · intro vs W1 m1 hE hM hV hD; obtain ⟨⟨_, _, -, i57, f57⟩, -⟩ := hD; have f57 : BvR _ (vs 57) x y e := f57; replace f57 := f57.le i57.le; clear i57; obtain ⟨u0, e57, k⟩ := f57; generalize vs 57 = x57 at e57 ⊢; subst x57; replace hL := hL.call hE hM hV
        go_wp2_with (first | ((with_reducible refine kAny ?_); go_skip) | (with_reducible refine stA ?_) | ((first | refine tFd ?_ | refine tLd ?_ | ((first | refine tSr ?_ | refine tSt ?_); clear hL; intro _ hL; simp only [splice, zq1, zq2, zq3] at hL) | (refine tAl ?_; clear hL; intro _ _ hL _) | (refine tBs ?_; clear hL; intro _ _ hL _ hBs)); simp only [Act.put, zq1, zq2, zq3]))
        refine One2.still hV ?_; exact k
      · intro vs W1 m1 hE hM hV hD; obtain ⟨⟨_, _, -, i57, f57⟩, -, -⟩ := hD; have f57 : BvR _ (vs 57) x y e := f57; replace f57 := f57.le i57.le; clear i57; obtain ⟨u0, e57, k⟩ := f57; generalize vs 57 = x57 at e57 ⊢; subst x57; replace hL := hL.call hE hM hV
        go_wp2_with (first | ((with_reducible refine kAny ?_); go_skip) | (with_reducible refine stA ?_) | ((first | refine tFd ?_ | refine tLd ?_ | ((first | refine tSr ?_ | refine tSt ?_); clear hL; intro _ hL; simp only [splice, zq1, zq2, zq3] at hL) | (refine tAl ?_; clear hL; intro _ _ hL _) | (refine tBs ?_; clear hL; intro _ _ hL _ hBs)); simp only [Act.put, zq1, zq2, zq3]))
        refine One2.still hV ?_; exact rfl
      · intro vs W1 m1 hE hM hV hD; clear hD
        exact one2_alloc hV (Nat.le_trans hB3 hE.size) rfl rfl rfl ZcC.h
    case l13a =>
      refine ⟨fun h => (by cases h), fun h => (by cases h), fun h => (by cases h), fun h => (by cases h), fun h => (by cases h), fun h => (by cases h), fun h => (by cases h), fun h => (by cases h), fun _ => ?_, fun h => (by cases h), trivial⟩
      · intro vs W1 m1 hE hM hV hD; obtain ⟨⟨_, _, -, i57, f57⟩, -, -⟩ := hD; have f57 : BvR _ (vs 57) x y e := f57; replace f57 := f57.le i57.le; clear i57; obtain ⟨u0, e57, k⟩ := f57; generalize vs 57 = x57 at e57 ⊢; subst x57
        exact ⟨_, Or.inl ⟨(by rfl), fun w => (by rfl)⟩, rfl⟩
    intro vs W1 m1 hE hM hV hF hD
    obtain ⟨-, -, -, -, ⟨_, _, -, i62, f62⟩, ⟨_, _, -, i63, f63⟩, ⟨_, _, -, i57, f57⟩, ⟨_, _, -, i64, f64⟩, ⟨_, _, -, -, f65⟩, ⟨_, _, j11, i11, f11⟩, -⟩ := hF
    replace hL := hL.call hE hM hV
    replace f62 : FrG _ (vs 62) xu yu := f62
    replace f62 := f62.le i62.le
    clear i62
    replace f63 : BvR _ (vs 63) x y e := f63
    replace f63 := f63.le i63.le
    clear i63
    replace f57 : BvR _ (vs 57) x y e := f57
    replace f57 := f57.le i57.le
    clear i57
    replace f64 : FracP _ (vs 64) x y := f64
    replace f64 := f64.le i64.le
    clear i64
    obtain ⟨g64, A64, n64, c64, h64, B64, k64, d64, e64, f64⟩ := f64.lit
    generalize vs 64 = x64 at e64 ⊢
    subst x64
    have f65 : vs 65 = _ := f65
    generalize vs 65 = x65 at f65 ⊢
    subst x65
    obtain ⟨b11, e11, hL⟩ := Loc.addB (Lt := []) hB1 hB2 hL f11 j11 i11 ad0
    simp only [e11, List.cons_append, List.nil_append] at hL ⊢
    clear e11 f11 j11 i11
    clear hB1 hB2 hB3 hD
    clear hE hV
    simp only [List.drop_succ_cons, List.drop_zero]
    go_wp2_with (first | ((with_reducible refine kAny ?_); go_skip) | (with_reducible refine stA ?_) | ((first | refine tFd ?_ | refine tLd ?_ | ((first | refine tSr ?_ | refine tSt ?_); clear hL; intro _ hL; simp only [splice, zq1, zq2, zq3] at hL) | (refine tAl ?_; clear hL; intro _ _ hL _) | (refine tBs ?_; clear hL; intro _ _ hL _ hBs)); simp only [Act.put, zq1, zq2, zq3]))
    refine QN.mk ?_
    go_wp2_with (first | ((with_reducible refine kAny ?_); go_skip) | (with_reducible refine stA ?_) | ((first | refine tFd ?_ | refine tLd ?_ | ((first | refine tSr ?_ | refine tSt ?_); clear hL; intro _ hL; simp only [splice, zq1, zq2, zq3] at hL) | (refine tAl ?_; clear hL; intro _ _ hL _) | (refine tBs ?_; clear hL; intro _ _ hL _ hBs)); simp only [Act.put, zq1, zq2, zq3]))
    refine (r_SameP _ _ x y _ _ hL.vw (HU.out.le leX) (f64.le leX) L1.out L2.out).mono ?_
    rintro e Wc8 ⟨_, mc8, rfl, hE, hMc8, hV, rfl⟩
    replace hL := hL.call hE (by assumption) hV; clear hE hV
    go_wp2_with (first | ((with_reducible refine kAny ?_); go_skip) | (with_reducible refine stA ?_) | ((first | refine tFd ?_ | refine tLd ?_ | ((first | refine tSr ?_ | refine tSt ?_); clear hL; intro _ hL; simp only [splice, zq1, zq2, zq3] at hL) | (refine tAl ?_; clear hL; intro _ _ hL _) | (refine tBs ?_; clear hL; intro _ _ hL _ hBs)); simp only [Act.put, zq1, zq2, zq3]))
    refine (k_known _ _ hL.vw).mono ?_
    rintro e Wc9 ⟨_, mc9, rfl, hE, hMc9, hV, rfl⟩
    replace hL := hL.call hE (by assumption) hV; clear hE hV
    go_wp2_with (first | ((with_reducible refine kAny ?_); go_skip) | (with_reducible refine stA ?_) | ((first | refine tFd ?_ | refine tLd ?_ | ((first | refine tSr ?_ | refine tSt ?_); clear hL; intro _ hL; simp only [splice, zq1, zq2, zq3] at hL) | (refine tAl ?_; clear hL; intro _ _ hL _) | (refine tBs ?_; clear hL; intro _ _ hL _ hBs)); simp only [Act.put, zq1, zq2, zq3]))
    go_ret
    exact RetV.mk hL rfl
  have b0 : (s == 0) = false := bf h0
  clear h0
  by_cases h1 : s = 1
  · have b1 : (s == 1) = true := bt h1
    clear h1
    have hk1 : 1 ≤ p.fl.length := by rw [P6.out]; omega
    have hk9 : ¬ c0 = 1 := by rw [P6.out] at hk0; omega
    have hq6 : p.fl.length ≤ 1000 := by rw [P6.out]; omega
    obtain ⟨yb, yo, rfl⟩ : ∃ yb yo, A0 = some ⟨yb, yo, none⟩ := by
      obtain ⟨a, b, c, d, e, y1, -⟩ := HX.out
      injection e with e
      injection e with e
      injection e with e1 e
      subst e1
      have h0 : p.fl[0]? = some (p.fl[0]'(by omega)) := List.getElem?_eq_getElem _
      obtain ⟨b9, o9, _, _, _, _, _, _, _, _, e9, -⟩ := FracL.at_ y1 h0
      exact ⟨b9, o9, e9⟩
    have HNE : Hid (p.fl.length - 1 ≠ 6) := by show _ ≠ _; rw [P6.out]; omega
    clear PB PX HX P6
    generalize p.fl.length = qn at *
    have KB : Hid (BothB mc2 (.agg #[.int .i64 ms.nf, .slice M1 q1 d1, .int .i64 ms.pen, .slice M2 q2 d2, .slice M3 q3 d3]) (.agg #[.slice (some ⟨yb, yo + 4, none⟩) (qn - 1) (c0 - 1), .slice A1 p.cu.length c1, .slice A2 p.cd.length c2, .slice A3 p.de.length c3, .bool p.fr]) (xu, yu)) := bothB_len HM.out MO.out (nf := 6) HNF.out _ _ _ _ _ _ HNE.out (by omega) (by omega)
    obtain ⟨x, y, e, l1, l2, k1, k2⟩ := KB.out
    have K1 := Lib.hid k1
    have K2 := Lib.hid k2
    have L1 := Lib.hid l1
    have L2 := Lib.hid l2
    have bee : ((e : Int) == e) = true := by simp
    clear k1 k2 l1 l2 KB
    go_upto_region 12 with ((first | ((with_reducible refine kAny ?_); go_skip) | (with_reducible refine stA ?_) | ((first | refine tFd ?_ | refine tLd ?_ | ((first | refine tSr ?_ | refine tSt ?_); clear hL; intro _ hL; simp only [splice, zq1, zq2, zq3] at hL) | (refine tAl ?_; clear hL; intro _ _ hL _) | (refine tBs ?_; clear hL; intro _ _ hL _ hBs)); simp only [Act.put, zq1, zq2, zq3])))
    obtain ⟨B, hB1, hB2, hB3⟩ := hL.bound
    refine wp_region_by2 10 [false, false, false, false, false, false, false, false, false, true] [false, false, false, false, false, false, false, false, true, false] [(fun v _ _ => v = ?c12_0b), (fun v _ _ => v = ?c12_1b), (fun v _ _ => v = ?c12_2b), (fun v _ _ => v = ?c12_3b), Of (fun um v => FrG um v xu yu), Of (fun um v => BvR um v x y e), Of (fun um v => BvR um v x y e), Of (fun um v => FracP um v x y), Is (.int .i64 e), NewBlk B 39 #[.bool false, .slice none 0 0, .bool false, .slice none 0 0]] hL.vw mixed [49, 50, 51, 52, 53, 54, 48, 55, 56, 9] _ (by kernel_rfl) (fun vs => by simp only [lay, Act.put, zq1, zq2, zq3]; rfl) (by kernel_rfl) (by decide) (by decide) ?s12b ?l12b ?r12b
    case s12b =>
      refine ⟨?_, ?_, ?_, ?_, ?_, ?_, ?_, ?_, ?_, ?_, trivial⟩
      · intro vs W1 m1 hE hM hV hD; clear hD; replace hL := hL.call hE hM hV
        exact sLd
      · intro vs W1 m1 hE hM hV hD; clear hD; replace hL := hL.call hE hM hV
        exact sLd
      · intro vs W1 m1 hE hM hV hD; clear hD; replace hL := hL.call hE hM hV
        exact sPu
      · intro vs W1 m1 hE hM hV hD; obtain ⟨⟨_, _, -, -, f51⟩, -⟩ := hD; have f51 : vs 51 = _ := f51; generalize vs 51 = x51 at f51 ⊢; subst x51; replace hL := hL.call hE hM hV
        exact sPu
      · intro vs W1 m1 hE hM hV hD; obtain ⟨⟨_, _, -, -, f52⟩, -⟩ := hD; have f52 : vs 52 = _ := f52; generalize vs 52 = x52 at f52 ⊢; subst x52
        go_wp2_with fail
        refine (KW1.out _ _ hV).mono ?_
        rintro e W2 ⟨v, m2, rfl, hE2, hM2, hV2, h⟩
        go_wp2_with fail
        refine One2.call hE2 hM2 hV2 ?_; first | exact h | exact rfl
      · intro vs W1 m1 hE hM hV hD; obtain ⟨⟨_, _, -, -, f49⟩, ⟨_, _, -, -, f50⟩, ⟨_, _, -, i53, f53⟩, -, -⟩ := hD; have f49 : vs 49 = _ := f49; generalize vs 49 = x49 at f49 ⊢; subst x49; have f50 : vs 50 = _ := f50; generalize vs 50 = x50 at f50 ⊢; subst x50; have f53 : FrG _ (vs 53) xu yu := f53; replace f53 := f53.le i53.le; clear i53
        go_wp2_with fail
        refine (K1.out _ _ _ hV leX f53).mono ?_
        rintro e W2 ⟨v, m2, rfl, hE2, hM2, hV2, h⟩
        go_wp2_with fail
        refine One2.call hE2 hM2 hV2 ?_; first | exact h | exact rfl
      · intro vs W1 m1 hE hM hV hD; obtain ⟨⟨_, _, -, i54, f54⟩, -⟩ := hD; have f54 : BvR _ (vs 54) x y e := f54; replace f54 := f54.le i54.le; clear i54
        go_wp2_with fail
        refine One2.still hV ?_; exact f54
      · intro vs W1 m1 hE hM hV hD; obtain ⟨⟨_, _, -, i48, f48⟩, -⟩ := hD; have f48 : BvR _ (vs 48) x y e := f48; replace f48 := f48.le i48.le; clear i48; obtain ⟨u0, e48, k⟩ := f48; generalize vs 48 = x48 at e48 ⊢; subst x48; replace hL := hL.call hE hM hV
        go_wp2_with (first | ((with_reducible refine kAny ?_); go_skip) | (with_reducible refine stA ?_) | ((first | refine tFd ?_ | refine tLd ?_ | ((first | refine tSr ?_ | refine tSt ?_); clear hL; intro _ hL; simp only [splice, zq1, zq2, zq3] at hL) | (refine tAl ?_; clear hL; intro _ _ hL _) | (refine tBs ?_; clear hL; intro _ _ hL _ hBs)); simp only [Act.put, zq1, zq2, zq3]))
        refine One2.still hV ?_; exact k
      · intro vs W1 m1 hE hM hV hD; obtain ⟨⟨_, _, -, i48, f48⟩, -, -⟩ := hD; have f48 : BvR _ (vs 48) x y e := f48; replace f48 := f48.le i48.le; clear i48; obtain ⟨u0, e48, k⟩ := f48; generalize vs 48 = x48 at e48 ⊢; subst x48; replace hL := hL.call hE hM hV
        go_wp2_with (first | ((with_reducible refine kAny ?_); go_skip) | (with_reducible refine stA ?_) | ((first | refine tFd ?_ | refine tLd ?_ | ((first | refine tSr ?_ | refine tSt ?_); clear hL; intro _ hL; simp only [splice, zq1, zq2, zq3] at hL) | (refine tAl ?_; clear hL; intro _ _ hL _) | (refine tBs ?_; clear hL; intro _ _ hL _ hBs)); simp only [Act.put, zq1, zq2, zq3]))
        refine One2.still hV ?_; exact rfl
      · intro vs W1 m1 hE hM hV hD; clear hD
        exact one2_alloc hV (Nat.le_trans hB3 hE.size) rfl rfl rfl ZcC.h
    case l12b =>
      refine ⟨fun h => (by cases h), fun h => (by cases h), fun h => (by cases h), fun h => (by cases h), fun h => (by cases h), fun h => (by cases h), fun h => (by cases h), fun h => (by cases h), fun _ => ?_, fun h => (by cases h), trivial⟩
      · intro vs W1 m1 hE hM hV hD; obtain ⟨⟨_, _, -, i48, f48⟩, -, -⟩ := hD; have f48 : BvR _ (vs 48) x y e := f48; replace f48 := f48.le i48.le; clear i48; obtain ⟨u0, e48, k⟩ := f48; generalize vs 48 = x48 at e48 ⊢; subst x48
        exact ⟨_, Or.inl ⟨(by rfl), fun w => (by rfl)⟩, rfl⟩
    intro vs W1 m1 hE hM hV hF hD
    obtain ⟨-, -, -, -, ⟨_, _, -, i53, f53⟩, ⟨_, _, -, i54, f54⟩, ⟨_, _, -, i48, f48⟩, ⟨_, _, -, i55, f55⟩, ⟨_, _, -, -, f56⟩, ⟨_, _, j9, i9, f9⟩, -⟩ := hF
    replace hL := hL.call hE hM hV
    replace f53 : FrG _ (vs 53) xu yu := f53
    replace f53 := f53.le i53.le
    clear i53
    replace f54 : BvR _ (vs 54) x y e := f54
    replace f54 := f54.le i54.le
    clear i54
    replace f48 : BvR _ (vs 48) x y e := f48
    replace f48 := f48.le i48.le
    clear i48
    replace f55 : FracP _ (vs 55) x y := f55
    replace f55 := f55.le i55.le
    clear i55
    obtain ⟨g55, A55, n55, c55, h55, B55, k55, d55, e55, f55⟩ := f55.lit
    generalize vs 55 = x55 at e55 ⊢
    subst x55
    have f56 : vs 56 = _ := f56
    generalize vs 56 = x56 at f56 ⊢
    subst x56
    obtain ⟨b9, e9, hL⟩ := Loc.addB (Lt := []) hB1 hB2 hL f9 j9 i9 ad0
    simp only [e9, List.cons_append, List.nil_append] at hL ⊢
    clear e9 f9 j9 i9
    clear hB1 hB2 hB3 hD
    clear hE hV
    simp only [List.drop_succ_cons, List.drop_zero]
    go_wp2_with (first | ((with_reducible refine kAny ?_); go_skip) | (with_reducible refine stA ?_) | ((first | refine tFd ?_ | refine tLd ?_ | ((first | refine tSr ?_ | refine tSt ?_); clear hL; intro _ hL; simp only [splice, zq1, zq2, zq3] at hL) | (refine tAl ?_; clear hL; intro _ _ hL _) | (refine tBs ?_; clear hL; intro _ _ hL _ hBs)); simp only [Act.put, zq1, zq2, zq3]))
    refine QN.mk ?_
    have HU := Lib.hid f55
    clear f55 f54 f53 f48
    go_upto_region 13 with ((first | ((with_reducible refine kAny ?_); go_skip) | (with_reducible refine stA ?_) | ((first | refine tFd ?_ | refine tLd ?_ | ((first | refine tSr ?_ | refine tSt ?_); clear hL; intro _ hL; simp only [splice, zq1, zq2, zq3] at hL) | (refine tAl ?_; clear hL; intro _ _ hL _) | (refine tBs ?_; clear hL; intro _ _ hL _ hBs)); simp only [Act.put, zq1, zq2, zq3])))
    obtain ⟨B, hB1, hB2, hB3⟩ := hL.bound
    refine wp_region_by2 10 [false, false, false, false, false, false, false, false, false, true] [false, false, false, false, false, false, false, false, true, false] [(fun v _ _ => v = ?c13_0b), (fun v _ _ => v = ?c13_1b), (fun v _ _ => v = ?c13_2b), (fun v _ _ => v = ?c13_3b), Of (fun um v => FrG um v xu yu), Of (fun um v => BvR um v x y e), Of (fun um v => BvR um v x y e), Of (fun um v => FracP um v x y), Is (.int .i64 e), NewBlk B 39 #[.bool false, .slice none 0 0, .bool false, .slice none 0 0]] hL.vw mixed [58, 59, 60, 61, 62, 63, 57, 64, 65, 11] _ (by kernel_rfl) (fun vs => by simp only [lay, Act.put, zq1, zq2, zq3]; rfl) (by kernel_rfl) (by decide) (by decide) ?s13b ?l13b ?r13b
    case s13b =>
      refine ⟨?_, ?_, ?_, ?_, ?_, ?_, ?_, ?_, ?_, ?_, trivial⟩
      · intro vs W1 m1 hE hM hV hD; clear hD; replace hL := hL.call hE hM hV
        exact sLd
      · intro vs W1 m1 hE hM hV hD; clear hD; replace hL := hL.call hE hM hV
        exact sLd
      · intro vs W1 m1 hE hM hV hD; clear hD; replace hL := hL.call hE hM hV
        exact sPu
      · intro vs W1 m1 hE hM hV hD; obtain ⟨⟨_, _, -, -, f60⟩, -⟩ := hD; have f60 : vs 60 = _ := f60; generalize vs 60 = x60 at f60 ⊢; subst x60; replace hL := hL.call hE hM hV
        exact sPu
      · intro vs W1 m1 hE hM hV hD; obtain ⟨⟨_, _, -, -, f61⟩, -⟩ := hD; have f61 : vs 61 = _ := f61; generalize vs 61 = x61 at f61 ⊢; subst x61
        go_wp2_with fail
        refine (KW1.out _ _ hV).mono ?_
        rintro e W2 ⟨v, m2, rfl, hE2, hM2, hV2, h⟩
        go_wp2_with fail
        refine One2.call hE2 hM2 hV2 ?_; first | exact h | exact rfl
      · intro vs W1 m1 hE hM hV hD; obtain ⟨⟨_, _, -, -, f58⟩, ⟨_, _, -, -, f59⟩, ⟨_, _, -, i62, f62⟩, -, -⟩ := hD; have f58 : vs 58 = _ := f58; generalize vs 58 = x58 at f58 ⊢; subst x58; have f59 : vs 59 = _ := f59; generalize vs 59 = x59 at f59 ⊢; subst x59; have f62 : FrG _ (vs 62) xu yu := f62; replace f62 := f62.le i62.le; clear i62
        go_wp2_with fail
        refine (K2.out _ _ _ hV leX f62).mono ?_
        rintro e W2 ⟨v, m2, rfl, hE2, hM2, hV2, h⟩
        go_wp2_with fail
        refine One2.call hE2 hM2 hV2 ?_; first | exact h | exact rfl
      · intro vs W1 m1 hE hM hV hD; obtain ⟨⟨_, _, -, i63, f63⟩, -⟩ := hD; have f63 : BvR _ (vs 63) x y e := f63; replace f63 := f63.le i63.le; clear i63
        go_wp2_with fail
        refine One2.still hV ?_; exact f63
      · intro vs W1 m1 hE hM hV hD; obtain ⟨⟨_, _, -, i57, f57⟩, -⟩ := hD; have f57 : BvR _ (vs 57) x y e := f57; replace f57 := f57.le i57.le; clear i57; obtain ⟨u0, e57, k⟩ := f57; generalize vs 57 = x57 at e57 ⊢; subst x57; replace hL := hL.call hE hM hV
        go_wp2_with (first | ((with_reducible refine kAny ?_); go_skip) | (with_reducible refine stA ?_) | ((first | refine tFd ?_ | refine tLd ?_ | ((first | refine tSr ?_ | refine tSt ?_); clear hL; intro _ hL; simp only [splice, zq1, zq2, zq3] at hL) | (refine tAl ?_; clear hL; intro _ _ hL _) | (refine tBs ?_; clear hL; intro _ _ hL _ hBs)); simp only [Act.put, zq1, zq2, zq3]))
        refine One2.still hV ?_; exact k
      · intro vs W1 m1 hE hM hV hD; obtain ⟨⟨_, _, -, i57, f57⟩, -, -⟩ := hD; have f57 : BvR _ (vs 57) x y e := f57; replace f57 := f57.le i57.le; clear i57; obtain ⟨u0, e57, k⟩ := f57; generalize vs 57 = x57 at e57 ⊢; subst x57; replace hL := hL.call hE hM hV
        go_wp2_with (first | ((with_reducible refine kAny ?_); go_skip) | (with_reducible refine stA ?_) | ((first | refine tFd ?_ | refine tLd ?_ | ((first | refine tSr ?_ | refine tSt ?_); clear hL; intro _ hL; simp only [splice, zq1, zq2, zq3] at hL) | (refine tAl ?_; clear hL; intro _ _ hL _) | (refine tBs ?_; clear hL; intro _ _ hL _ hBs)); simp only [Act.put, zq1, zq2, zq3]))
        refine One2.still hV ?_; exact rfl
      · intro vs W1 m1 hE hM hV hD; clear hD
        exact one2_alloc hV (Nat.le_trans hB3 hE.size) rfl rfl rfl ZcC.h
    case l13b =>
      refine ⟨fun h => (by cases h), fun h => (by cases h), fun h => (by cases h), fun h => (by cases h), fun h => (by cases h), fun h => (by cases h), fun h => (by cases h), fun h => (by cases h), fun _ => ?_, fun h => (by cases h), trivial⟩
      · intro vs W1 m1 hE hM hV hD; obtain ⟨⟨_, _, -, i57, f57⟩, -, -⟩ := hD; have f57 : BvR _ (vs 57) x y e := f57; replace f57 := f57.le i57.le; clear i57; obtain ⟨u0, e57, k⟩ := f57; generalize vs 57 = x57 at e57 ⊢; subst x57
        exact ⟨_, Or.inl ⟨(by rfl), fun w => (by rfl)⟩, rfl⟩
    intro vs W1 m1 hE hM hV hF hD
    obtain ⟨-, -, -, -, ⟨_, _, -, i62, f62⟩, ⟨_, _, -, i63, f63⟩, ⟨_, _, -, i57, f57⟩, ⟨_, _, -, i64, f64⟩, ⟨_, _, -, -, f65⟩, ⟨_, _, j11, i11, f11⟩, -⟩ := hF
    replace hL := hL.call hE hM hV
    replace f62 : FrG _ (vs 62) xu yu := f62
    replace f62 := f62.le i62.le
    clear i62
    replace f63 : BvR _ (vs 63) x y e := f63
    replace f63 := f63.le i63.le
    clear i63
    replace f57 : BvR _ (vs 57) x y e := f57
    replace f57 := f57.le i57.le
    clear i57
    replace f64 : FracP _ (vs 64) x y := f64
    replace f64 := f64.le i64.le
    clear i64
    obtain ⟨g64, A64, n64, c64, h64, B64, k64, d64, e64, f64⟩ := f64.lit
    generalize vs 64 = x64 at e64 ⊢
    subst x64
    have f65 : vs 65 = _ := f65
    generalize vs 65 = x65 at f65 ⊢
    subst x65
    obtain ⟨b11, e11, hL⟩ := Loc.addB (Lt := []) hB1 hB2 hL f11 j11 i11 ad0
    simp only [e11, List.cons_append, List.nil_append] at hL ⊢
    clear e11 f11 j11 i11
    clear hB1 hB2 hB3 hD
    clear hE hV
    simp only [List.drop_succ_cons, List.drop_zero]
    go_wp2_with (first | ((with_reducible refine kAny ?_); go_skip) | (with_reducible refine stA ?_) | ((first | refine tFd ?_ | refine tLd ?_ | ((first | refine tSr ?_ | refine tSt ?_); clear hL; intro _ hL; simp only [splice, zq1, zq2, zq3] at hL) | (refine tAl ?_; clear hL; intro _ _ hL _) | (refine tBs ?_; clear hL; intro _ _ hL _ hBs)); simp only [Act.put, zq1, zq2, zq3]))
    refine QN.mk ?_
    go_wp2_with (first | ((with_reducible refine kAny ?_); go_skip) | (with_reducible refine stA ?_) | ((first | refine tFd ?_ | refine tLd ?_ | ((first | refine tSr ?_ | refine tSt ?_); clear hL; intro _ hL; simp only [splice, zq1, zq2, zq3] at hL) | (refine tAl ?_; clear hL; intro _ _ hL _) | (refine tBs ?_; clear hL; intro _ _ hL _ hBs)); simp only [Act.put, zq1, zq2, zq3]))
    refine (r_SameP _ _ x y _ _ hL.vw (HU.out.le leX) (f64.le leX) L1.out L2.out).mono ?_
    rintro e Wc8 ⟨_, mc8, rfl, hE, hMc8, hV, rfl⟩
    replace hL := hL.call hE (by assumption) hV; clear hE hV
    go_wp2_with (first | ((with_reducible refine kAny ?_); go_skip) | (with_reducible refine stA ?_) | ((first | refine tFd ?_ | refine tLd ?_ | ((first | refine tSr ?_ | refine tSt ?_); clear hL; intro _ hL; simp only [splice, zq1, zq2, zq3] at hL) | (refine tAl ?_; clear hL; intro _ _ hL _) | (refine tBs ?_; clear hL; intro _ _ hL _ hBs)); simp only [Act.put, zq1, zq2, zq3]))
    refine (k_known _ _ hL.vw).mono ?_
    rintro e Wc9 ⟨_, mc9, rfl, hE, hMc9, hV, rfl⟩
    replace hL := hL.call hE (by assumption) hV; clear hE hV
    go_wp2_with (first | ((with_reducible refine kAny ?_); go_skip) | (with_reducible refine stA ?_) | ((first | refine tFd ?_ | refine tLd ?_ | ((first | refine tSr ?_ | refine tSt ?_); clear hL; intro _ hL; simp only [splice, zq1, zq2, zq3] at hL) | (refine tAl ?_; clear hL; intro _ _ hL _) | (refine tBs ?_; clear hL; intro _ _ hL _ hBs)); simp only [Act.put, zq1, zq2, zq3]))
    go_ret
    exact RetV.mk hL rfl
  have b1 : (s == 1) = false := bf h1
  clear h1
  by_cases h3 : s = 3
  · have b3 : (s == 3) = true := bt h3
    clear h3
    have KB : Hid (BothB mc2 (.agg #[.int .i64 ms.nf, .slice none 0 0, .int .i64 ms.pen, .slice M2 q2 d2, .slice M3 q3 d3]) (.agg #[.slice A0 p.fl.length c0, .slice A1 p.cu.length c1, .slice A2 p.cd.length c2, .slice A3 p.de.length c3, .bool p.fr]) (xu, yu)) := by
      rw [HNF.out]
      exact bothB_none mc2 6 ms.pen none 0 _ _ _ _ _ _ _ _ (by omega) PP.out.1 PP.out.2
    obtain ⟨x, y, e, l1, l2, k1, k2⟩ := KB.out
    have K1 := Lib.hid k1
    have K2 := Lib.hid k2
    have L1 := Lib.hid l1
    have L2 := Lib.hid l2
    have bee : ((e : Int) == e) = true := by simp
    clear k1 k2 l1 l2 KB
    go_upto_region 12 with ((first | ((with_reducible refine kAny ?_); go_skip) | (with_reducible refine stA ?_) | ((first | refine tFd ?_ | refine tLd ?_ | ((first | refine tSr ?_ | refine tSt ?_); clear hL; intro _ hL; simp only [splice, zq1, zq2, zq3] at hL) | (refine tAl ?_; clear hL; intro _ _ hL _) | (refine tBs ?_; clear hL; intro _ _ hL _ hBs)); simp only [Act.put, zq1, zq2, zq3])))
    obtain ⟨B, hB1, hB2, hB3⟩ := hL.bound
    refine wp_region_by2 10 [false, false, false, false, false, false, false, false, false, true] [false, false, false, false, false, false, false, false, true, false] [(fun v _ _ => v = ?c12_0c), (fun v _ _ => v = ?c12_1c), (fun v _ _ => v = ?c12_2c), (fun v _ _ => v = ?c12_3c), Of (fun um v => FrG um v xu yu), Of (fun um v => BvR um v x y e), Of (fun um v => BvR um v x y e), Of (fun um v => FracP um v x y), Is (.int .i64 e), NewBlk B 39 #[.bool false, .slice none 0 0, .bool false, .slice none 0 0]] hL.vw mixed [49, 50, 51, 52, 53, 54, 48, 55, 56, 9] _ (by kernel_rfl) (fun vs => by simp only [lay, Act.put, zq1, zq2, zq3]; rfl) (by kernel_rfl) (by decide) (by decide) ?s12c ?l12c ?r12c
    case s12c =>
      refine ⟨?_, ?_, ?_, ?_, ?_, ?_, ?_, ?_, ?_, ?_, trivial⟩
      · intro vs W1 m1 hE hM hV hD; clear hD; replace hL := hL.call hE hM hV
        exact sLd
      · intro vs W1 m1 hE hM hV hD; clear hD; replace hL := hL.call hE hM hV
        exact sLd
      · intro vs W1 m1 hE hM hV hD; clear hD; replace hL := hL.call hE hM hV
        exact sPu
      · intro vs W1 m1 hE hM hV hD; obtain ⟨⟨_, _, -, -, f51⟩, -⟩ := hD; have f51 : vs 51 = _ := f51; generalize vs 51 = x51 at f51 ⊢; subst x51; replace hL := hL.call hE hM hV
        exact sPu
      · intro vs W1 m1 hE hM hV hD; obtain ⟨⟨_, _, -, -, f52⟩, -⟩ := hD; have f52 : vs 52 = _ := f52; generalize vs 52 = x52 at f52 ⊢; subst x52
        go_wp2_with fail
        refine (KW1.out _ _ hV).mono ?_
        rintro e W2 ⟨v, m2, rfl, hE2, hM2, hV2, h⟩
        go_wp2_with fail
        refine One2.call hE2 hM2 hV2 ?_; first | exact h | exact rfl
      · intro vs W1 m1 hE hM hV hD; obtain ⟨⟨_, _, -, -, f49⟩, ⟨_, _, -, -, f50⟩, ⟨_, _, -, i53, f53⟩, -, -⟩ := hD; have f49 : vs 49 = _ := f49; generalize vs 49 = x49 at f49 ⊢; subst x49; have f50 : vs 50 = _ := f50; generalize vs 50 = x50 at f50 ⊢; subst x50; have f53 : FrG _ (vs 53) xu yu := f53; replace f53 := f53.le i53.le; clear i53
        go_wp2_with fail
        refine (K1.out _ _ _ hV leX f53).mono ?_
        rintro e W2 ⟨v, m2, rfl, hE2, hM2, hV2, h⟩
        go_wp2_with fail
        refine One2.call hE2 hM2 hV2 ?_; first | exact h | exact rfl
      · intro vs W1 m1 hE hM hV hD; obtain ⟨⟨_, _, -, i54, f54⟩, -⟩ := hD; have f54 : BvR _ (vs 54) x y e := f54; replace f54 := f54.le i54.le; clear i54
        go_wp2_with fail
        refine One2.still hV ?_; exact f54
      · intro vs W1 m1 hE hM hV hD; obtain ⟨⟨_, _, -, i48, f48⟩, -⟩ := hD; have f48 : BvR _ (vs 48) x y e := f48; replace f48 := f48.le i48.le; clear i48; obtain ⟨u0, e48, k⟩ := f48; generalize vs 48 = x48 at e48 ⊢; subst x48; replace hL := hL.call hE hM hV
        go_wp2_with (first | ((with_reducible refine kAny ?_); go_skip) | (with_reducible refine stA ?_) | ((first | refine tFd ?_ | refine tLd ?_ | ((first | refine tSr ?_ | refine tSt ?_); clear hL; intro _ hL; simp only [splice, zq1, zq2, zq3] at hL) | (refine tAl ?_; clear hL; intro _ _ hL _) | (refine tBs ?_; clear hL; intro _ _ hL _ hBs)); simp only [Act.put, zq1, zq2, zq3]))
        refine One2.still hV ?_; exact k
      · intro vs W1 m1 hE hM hV hD; obtain ⟨⟨_, _, -, i48, f48⟩, -, -⟩ := hD; have f48 : BvR _ (vs 48) x y e := f48; replace f48 := f48.le i48.le; clear i48; obtain ⟨u0, e48, k⟩ := f48; generalize vs 48 = x48 at e48 ⊢; subst x48; replace hL := hL.call hE hM hV
        go_wp2_with (first | ((with_reducible refine kAny ?_); go_skip) | (with_reducible refine stA ?_) | ((first | refine tFd ?_ | refine tLd ?_ | ((first | refine tSr ?_ | refine tSt ?_); clear hL; intro _ hL; simp only [splice, zq1, zq2, zq3] at hL) | (refine tAl ?_; clear hL; intro _ _ hL _) | (refine tBs ?_; clear hL; intro _ _ hL _ hBs)); simp only [Act.put, zq1, zq2, zq3]))
        refine One2.still hV ?_; exact rfl
      · intro vs W1 m1 hE hM hV hD; clear hD
        exact one2_alloc hV (Nat.le_trans hB3 hE.size) rfl rfl rfl ZcC.h
    case l12c =>
      refine ⟨fun h => (by cases h), fun h => (by cases h), fun h => (by cases h), fun h => (by cases h), fun h => (by cases h), fun h => (by cases h), fun h => (by cases h), fun h => (by cases h), fun _ => ?_, fun h => (by cases h), trivial⟩
      · intro vs W1 m1 hE hM hV hD; obtain ⟨⟨_, _, -, i48, f48⟩, -, -⟩ := hD; have f48 : BvR _ (vs 48) x y e := f48; replace f48 := f48.le i48.le; clear i48; obtain ⟨u0, e48, k⟩ := f48; generalize vs 48 = x48 at e48 ⊢; subst x48
        exact ⟨_, Or.inl ⟨(by rfl), fun w => (by rfl)⟩, rfl⟩
    intro vs W1 m1 hE hM hV hF hD
    obtain ⟨-, -, -, -, ⟨_, _, -, i53, f53⟩, ⟨_, _, -, i54, f54⟩, ⟨_, _, -, i48, f48⟩, ⟨_, _, -, i55, f55⟩, ⟨_, _, -, -, f56⟩, ⟨_, _, j9, i9, f9⟩, -⟩ := hF
    replace hL := hL.call hE hM hV
    replace f53 : FrG _ (vs 53) xu yu := f53
    replace f53 := f53.le i53.le
    clear i53
    replace f54 : BvR _ (vs 54) x y e := f54
    replace f54 := f54.le i54.le
    clear i54
    replace f48 : BvR _ (vs 48) x y e := f48
    replace f48 := f48.le i48.le
    clear i48
    replace f55 : FracP _ (vs 55) x y := f55
    replace f55 := f55.le i55.le
    clear i55
    obtain ⟨g55, A55, n55, c55, h55, B55, k55, d55, e55, f55⟩ := f55.lit
    generalize vs 55 = x55 at e55 ⊢
    subst x55
    have f56 : vs 56 = _ := f56
    generalize vs 56 = x56 at f56 ⊢
    subst x56
    obtain ⟨b9, e9, hL⟩ := Loc.addB (Lt := []) hB1 hB2 hL f9 j9 i9 ad0
    simp only [e9, List.cons_append, List.nil_append] at hL ⊢
    clear e9 f9 j9 i9
    clear hB1 hB2 hB3 hD
    clear hE hV
    simp only [List.drop_succ_cons, List.drop_zero]
    go_wp2_with (first | ((with_reducible refine kAny ?_); go_skip) | (with_reducible refine stA ?_) | ((first | refine tFd ?_ | refine tLd ?_ | ((first | refine tSr ?_ | refine tSt ?_); clear hL; intro _ hL; simp only [splice, zq1, zq2, zq3] at hL) | (refine tAl ?_; clear hL; intro _ _ hL _) | (refine tBs ?_; clear hL; intro _ _ hL _ hBs)); simp only [Act.put, zq1, zq2, zq3]))
    refine QN.mk ?_
    have HU := Lib.hid f55
    clear f55 f54 f53 f48
    go_upto_region 13 with ((first | ((with_reducible refine kAny ?_); go_skip) | (with_reducible refine stA ?_) | ((first | refine tFd ?_ | refine tLd ?_ | ((first | refine tSr ?_ | refine tSt ?_); clear hL; intro _ hL; simp only [splice, zq1, zq2, zq3] at hL) | (refine tAl ?_; clear hL; intro _ _ hL _) | (refine tBs ?_; clear hL; intro _ _ hL _ hBs)); simp only [Act.put, zq1, zq2, zq3])))
    obtain ⟨B, hB1, hB2, hB3⟩ := hL.bound
    refine wp_region_by2 10 [false, false, false, false, false, false, false, false, false, true] [false, false, false, false, false, false, false, false, true, false] [(fun v _ _ => v = ?c13_0c), (fun v _ _ => v = ?c13_1c), (fun v _ _ => v = ?c13_2c), (fun v _ _ => v = ?c13_3c), Of (fun um v => FrG um v xu yu), Of (fun um v => BvR um v x y e), Of (fun um v => BvR um v x y e), Of (fun um v => FracP um v x y), Is (.int .i64 e), NewBlk B 39 #[.bool false, .slice none 0 0, .bool false, .slice none 0 0]] hL.vw mixed [58, 59, 60, 61, 62, 63, 57, 64, 65, 11] _ (by kernel_rfl) (fun vs => by simp only [lay, Act.put, zq1, zq2, zq3]; rfl) (by kernel_rfl) (by decide) (by decide) ?s13c ?l13c ?r13c
    case s13c =>
      refine ⟨?_, ?_, ?_, ?_, ?_, ?_, ?_, ?_, ?_, ?_, trivial⟩
      · intro vs W1 m1 hE hM hV hD; clear hD; replace hL := hL.call hE hM hV
        exact sLd
      · intro vs W1 m1 hE hM hV hD; clear hD; replace hL := hL.call hE hM hV
        exact sLd
      · intro vs W1 m1 hE hM hV hD; clear hD; replace hL := hL.call hE hM hV
        exact sPu
      · intro vs W1 m1 hE hM hV hD; obtain ⟨⟨_, _, -, -, f60⟩, -⟩ := hD; have f60 : vs 60 = _ := f60; generalize vs 60 = x60 at f60 ⊢; subst x60; replace hL := hL.call hE hM hV
        exact sPu
      · intro vs W1 m1 hE hM hV hD; obtain ⟨⟨_, _, -, -, f61⟩, -⟩ := hD; have f61 : vs 61 = _ := f61; generalize vs 61 = x61 at f61 ⊢; subst x61
        go_wp2_with fail
        refine (KW1.out _ _ hV).mono ?_
        rintro e W2 ⟨v, m2, rfl, hE2, hM2, hV2, h⟩
        go_wp2_with fail
        refine One2.call hE2 hM2 hV2 ?_; first | exact h | exact rfl
      · intro vs W1 m1 hE hM hV hD; obtain ⟨⟨_, _, -, -, f58⟩, ⟨_, _, -, -, f59⟩, ⟨_, _, -, i62, f62⟩, -, -⟩ := hD; have f58 : vs 58 = _ := f58; generalize vs 58 = x58 at f58 ⊢; subst x58; have f59 : vs 59 = _ := f59; generalize vs 59 = x59 at f59 ⊢; subst x59; have f62 : FrG _ (vs 62) xu yu := f62; replace f62 := f62.le i62.le; clear i62
        go_wp2_with fail
        refine (K2.out _ _ _ hV leX f62).mono ?_
        rintro e W2 ⟨v, m2, rfl, hE2, hM2, hV2, h⟩
        go_wp2_with fail
        refine One2.call hE2 hM2 hV2 ?_; first | exact h | exact rfl
      · intro vs W1 m1 hE hM hV hD; obtain ⟨⟨_, _, -, i63, f63⟩, -⟩ := hD; have f63 : BvR _ (vs 63) x y e := f63; replace f63 := f63.le i63.le; clear i63
        go_wp2_with fail
        refine One2.still hV ?_; exact f63
      · intro vs W1 m1 hE hM hV hD; obtain ⟨⟨_, _, -, i57, f57⟩, -⟩ := hD; have f57 : BvR _ (vs 57) x y e := f57; replace f57 := f57.le i57.le; clear i57; obtain ⟨u0, e57, k⟩ := f57; generalize vs 57 = x57 at e57 ⊢; subst x57; replace hL := hL.call hE hM hV
        go_wp2_with (first | ((with_reducible refine kAny ?_); go_skip) | (with_reducible refine stA ?_) | ((first | refine tFd ?_ | refine tLd ?_ | ((first | refine tSr ?_ | refine tSt ?_); clear hL; intro _ hL; simp only [splice, zq1, zq2, zq3] at hL) | (refine tAl ?_; clear hL; intro _ _ hL _) | (refine tBs ?_; clear hL; intro _ _ hL _ hBs)); simp only [Act.put, zq1, zq2, zq3]))
        refine One2.still hV ?_; exact k
      · intro vs W1 m1 hE hM hV hD; obtain ⟨⟨_, _, -, i57, f57⟩, -, -⟩ := hD; have f57 : BvR _ (vs 57) x y e := f57; replace f57 := f57.le i57.le; clear i57; obtain ⟨u0, e57, k⟩ := f57; generalize vs 57 = x57 at e57 ⊢; subst x57; replace hL := hL.call hE hM hV
        go_wp2_with (first | ((with_reducible refine kAny ?_); go_skip) | (with_reducible refine stA ?_) | ((first | refine tFd ?_ | refine tLd ?_ | ((first | refine tSr ?_ | refine tSt ?_); clear hL; intro _ hL; simp only [splice, zq1, zq2, zq3] at hL) | (refine tAl ?_; clear hL; intro _ _ hL _) | (refine tBs ?_; clear hL; intro _ _ hL _ hBs)); simp only [Act.put, zq1, zq2, zq3]))
        refine One2.still hV ?_; exact rfl
      · intro vs W1 m1 hE hM hV hD; clear hD
        exact one2_alloc hV (Nat.le_trans hB3 hE.size) rfl rfl rfl ZcC.h
    case l13c =>
      refine ⟨fun h => (by cases h), fun h => (by cases h), fun h => (by cases h), fun h => (by cases h), fun h => (by cases h), fun h => (by cases h), fun h => (by cases h), fun h => (by cases h), fun _ => ?_, fun h => (by cases h), trivial⟩
      · intro vs W1 m1 hE hM hV hD; obtain ⟨⟨_, _, -, i57, f57⟩, -, -⟩ := hD; have f57 : BvR _ (vs 57) x y e := f57; replace f57 := f57.le i57.le; clear i57; obtain ⟨u0, e57, k⟩ := f57; generalize vs 57 = x57 at e57 ⊢; subst x57
        exact ⟨_, Or.inl ⟨(by rfl), fun w => (by rfl)⟩, rfl⟩
    intro vs W1 m1 hE hM hV hF hD
    obtain ⟨-, -, -, -, ⟨_, _, -, i62, f62⟩, ⟨_, _, -, i63, f63⟩, ⟨_, _, -, i57, f57⟩, ⟨_, _, -, i64, f64⟩, ⟨_, _, -, -, f65⟩, ⟨_, _, j11, i11, f11⟩, -⟩ := hF
    replace hL := hL.call hE hM hV
    replace f62 : FrG _ (vs 62) xu yu := f62
    replace f62 := f62.le i62.le
    clear i62
    replace f63 : BvR _ (vs 63) x y e := f63
    replace f63 := f63.le i63.le
    clear i63
    replace f57 : BvR _ (vs 57) x y e := f57
    replace f57 := f57.le i57.le
    clear i57
    replace f64 : FracP _ (vs 64) x y := f64
    replace f64 := f64.le i64.le
    clear i64
    obtain ⟨g64, A64, n64, c64, h64, B64, k64, d64, e64, f64⟩ := f64.lit
    generalize vs 64 = x64 at e64 ⊢
    subst x64
    have f65 : vs 65 = _ := f65
    generalize vs 65 = x65 at f65 ⊢
    subst x65
    obtain ⟨b11, e11, hL⟩ := Loc.addB (Lt := []) hB1 hB2 hL f11 j11 i11 ad0
    simp only [e11, List.cons_append, List.nil_append] at hL ⊢
    clear e11 f11 j11 i11
    clear hB1 hB2 hB3 hD
    clear hE hV
    simp only [List.drop_succ_cons, List.drop_zero]
    go_wp2_with (first | ((with_reducible refine kAny ?_); go_skip) | (with_reducible refine stA ?_) | ((first | refine tFd ?_ | refine tLd ?_ | ((first | refine tSr ?_ | refine tSt ?_); clear hL; intro _ hL; simp only [splice, zq1, zq2, zq3] at hL) | (refine tAl ?_; clear hL; intro _ _ hL _) | (refine tBs ?_; clear hL; intro _ _ hL _ hBs)); simp only [Act.put, zq1, zq2, zq3]))
    refine QN.mk ?_
    go_wp2_with (first | ((with_reducible refine kAny ?_); go_skip) | (with_reducible refine stA ?_) | ((first | refine tFd ?_ | refine tLd ?_ | ((first | refine tSr ?_ | refine tSt ?_); clear hL; intro _ hL; simp only [splice, zq1, zq2, zq3] at hL) | (refine tAl ?_; clear hL; intro _ _ hL _) | (refine tBs ?_; clear hL; intro _ _ hL _ hBs)); simp only [Act.put, zq1, zq2, zq3]))
    refine (r_SameP _ _ x y _ _ hL.vw (HU.out.le leX) (f64.le leX) L1.out L2.out).mono ?_
    rintro e Wc8 ⟨_, mc8, rfl, hE, hMc8, hV, rfl⟩
    replace hL := hL.call hE (by assumption) hV; clear hE hV
    go_wp2_with (first | ((with_reducible refine kAny ?_); go_skip) | (with_reducible refine stA ?_) | ((first | refine tFd ?_ | refine tLd ?_ | ((first | refine tSr ?_ | refine tSt ?_); clear hL; intro _ hL; simp only [splice, zq1, zq2, zq3] at hL) | (refine tAl ?_; clear hL; intro _ _ hL _) | (refine tBs ?_; clear hL; intro _ _ hL _ hBs)); simp only [Act.put, zq1, zq2, zq3]))
    refine (k_known _ _ hL.vw).mono ?_
    rintro e Wc9 ⟨_, mc9, rfl, hE, hMc9, hV, rfl⟩
    replace hL := hL.call hE (by assumption) hV; clear hE hV
    go_wp2_with (first | ((with_reducible refine kAny ?_); go_skip) | (with_reducible refine stA ?_) | ((first | refine tFd ?_ | refine tLd ?_ | ((first | refine tSr ?_ | refine tSt ?_); clear hL; intro _ hL; simp only [splice, zq1, zq2, zq3] at hL) | (refine tAl ?_; clear hL; intro _ _ hL _) | (refine tBs ?_; clear hL; intro _ _ hL _ hBs)); simp only [Act.put, zq1, zq2, zq3]))
    go_ret
    exact RetV.mk hL rfl
  have b3 : (s == 3) = false := bf h3
  clear h3
  have KB : Hid (BothB mc2 (.agg #[.int .i64 ms.nf, .slice M1 q1 d1, .int .i64 ms.pen, .slice M2 q2 d2, .slice M3 q3 d3]) (.agg #[.slice A0 p.fl.length c0, .slice A1 p.cu.length c1, .slice A2 p.cd.length c2, .slice A3 p.de.length c3, .bool p.fr]) (xu, yu)) := bothB_ok HM.out HX.out (PB.out p.fr)
  obtain ⟨x, y, e, l1, l2, k1, k2⟩ := KB.out
  have K1 := Lib.hid k1
  have K2 := Lib.hid k2
  have L1 := Lib.hid l1
  have L2 := Lib.hid l2
  have bee : ((e : Int) == e) = true := by simp
  clear k1 k2 l1 l2 KB
  go_upto_region 12 with ((first | ((with_reducible refine kAny ?_); go_skip) | (with_reducible refine stA ?_) | ((first | refine tFd ?_ | refine tLd ?_ | ((first | refine tSr ?_ | refine tSt ?_); clear hL; intro _ hL; simp only [splice, zq1, zq2, zq3] at hL) | (refine tAl ?_; clear hL; intro _ _ hL _) | (refine tBs ?_; clear hL; intro _ _ hL _ hBs)); simp only [Act.put, zq1, zq2, zq3])))
  obtain ⟨B, hB1, hB2, hB3⟩ := hL.bound
  refine wp_region_by2 10 [false, false, false, false, false, false, false, false, false, true] [false, false, false, false, false, false, false, false, true, false] [(fun v _ _ => v = ?c12_0d), (fun v _ _ => v = ?c12_1d), (fun v _ _ => v = ?c12_2d), (fun v _ _ => v = ?c12_3d), Of (fun um v => FrG um v xu yu), Of (fun um v => BvR um v x y e), Of (fun um v => BvR um v x y e), Of (fun um v => FracP um v x y), Is (.int .i64 e), NewBlk B 39 #[.bool false, .slice none 0 0, .bool false, .slice none 0 0]] hL.vw mixed [49, 50, 51, 52, 53, 54, 48, 55, 56, 9] _ (by kernel_rfl) (fun vs => by simp only [lay, Act.put, zq1, zq2, zq3]; rfl) (by kernel_rfl) (by decide) (by decide) ?s12d ?l12d ?r12d
  case s12d =>
    refine ⟨?_, ?_, ?_, ?_, ?_, ?_, ?_, ?_, ?_, ?_, trivial⟩
    · intro vs W1 m1 hE hM hV hD; clear hD; replace hL := hL.call hE hM hV
      exact sLd
    · intro vs W1 m1 hE hM hV hD; clear hD; replace hL := hL.call hE hM hV
      exact sLd
    · intro vs W1 m1 hE hM hV hD; clear hD; replace hL := hL.call hE hM hV
      exact sPu
    · intro vs W1 m1 hE hM hV hD; obtain ⟨⟨_, _, -, -, f51⟩, -⟩ := hD; have f51 : vs 51 = _ := f51; generalize vs 51 = x51 at f51 ⊢; subst x51; replace hL := hL.call hE hM hV
      exact sPu
    · intro vs W1 m1 hE hM hV hD; obtain ⟨⟨_, _, -, -, f52⟩, -⟩ := hD; have f52 : vs 52 = _ := f52; generalize vs 52 = x52 at f52 ⊢; subst x52
      go_wp2_with fail
      refine (KW1.out _ _ hV).mono ?_
      rintro e W2 ⟨v, m2, rfl, hE2, hM2, hV2, h⟩
      go_wp2_with fail
      refine One2.call hE2 hM2 hV2 ?_; first | exact h | exact rfl
    · intro vs W1 m1 hE hM hV hD; obtain ⟨⟨_, _, -, -, f49⟩, ⟨_, _, -, -, f50⟩, ⟨_, _, -, i53, f53⟩, -, -⟩ := hD; have f49 : vs 49 = _ := f49; generalize vs 49 = x49 at f49 ⊢; subst x49; have f50 : vs 50 = _ := f50; generalize vs 50 = x50 at f50 ⊢; subst x50; have f53 : FrG _ (vs 53) xu yu := f53; replace f53 := f53.le i53.le; clear i53
      go_wp2_with fail
      refine (K1.out _ _ _ hV leX f53).mono ?_
      rintro e W2 ⟨v, m2, rfl, hE2, hM2, hV2, h⟩
      go_wp2_with fail
      refine One2.call hE2 hM2 hV2 ?_; first | exact h | exact rfl
    · intro vs W1 m1 hE hM hV hD; obtain ⟨⟨_, _, -, i54, f54⟩, -⟩ := hD; have f54 : BvR _ (vs 54) x y e := f54; replace f54 := f54.le i54.le; clear i54
      go_wp2_with fail
      refine One2.still hV ?_; exact f54
    · intro vs W1 m1 hE hM hV hD; obtain ⟨⟨_, _, -, i48, f48⟩, -⟩ := hD; have f48 : BvR _ (vs 48) x y e := f48; replace f48 := f48.le i48.le; clear i48; obtain ⟨u0, e48, k⟩ := f48; generalize vs 48 = x48 at e48 ⊢; subst x48; replace hL := hL.call hE hM hV
      go_wp2_with (first | ((with_reducible refine kAny ?_); go_skip) | (with_reducible refine stA ?_) | ((first | refine tFd ?_ | refine tLd ?_ | ((first | refine tSr ?_ | refine tSt ?_); clear hL; intro _ hL; simp only [splice, zq1, zq2, zq3] at hL) | (refine tAl ?_; clear hL; intro _ _ hL _) | (refine tBs ?_; clear hL; intro _ _ hL _ hBs)); simp only [Act.put, zq1, zq2, zq3]))
      refine One2.still hV ?_; exact k
    · intro vs W1 m1 hE hM hV hD; obtain ⟨⟨_, _, -, i48, f48⟩, -, -⟩ := hD; have f48 : BvR _ (vs 48) x y e := f48; replace f48 := f48.le i48.le; clear i48; obtain ⟨u0, e48, k⟩ := f48; generalize vs 48 = x48 at e48 ⊢; subst x48; replace hL := hL.call hE hM hV
      go_wp2_with (first | ((with_reducible refine kAny ?_); go_skip) | (with_reducible refine stA ?_) | ((first | refine tFd ?_ | refine tLd ?_ | ((first | refine tSr ?_ | refine tSt ?_); clear hL; intro _ hL; simp only [splice, zq1, zq2, zq3] at hL) | (refine tAl ?_; clear hL; intro _ _ hL _) | (refine tBs ?_; clear hL; intro _ _ hL _ hBs)); simp only [Act.put, zq1, zq2, zq3]))
      refine One2.still hV ?_; exact rfl
    · intro vs W1 m1 hE hM hV hD; clear hD
      exact one2_alloc hV (Nat.le_trans hB3 hE.size) rfl rfl rfl ZcC.h
  case l12d =>
    refine ⟨fun h => (by cases h), fun h => (by cases h), fun h => (by cases h), fun h => (by cases h), fun h => (by cases h), fun h => (by cases h), fun h => (by cases h), fun h => (by cases h), fun _ => ?_, fun h => (by cases h), trivial⟩
    · intro vs W1 m1 hE hM hV hD; obtain ⟨⟨_, _, -, i48, f48⟩, -, -⟩ := hD; have f48 : BvR _ (vs 48) x y e := f48; replace f48 := f48.le i48.le; clear i48; obtain ⟨u0, e48, k⟩ := f48; generalize vs 48 = x48 at e48 ⊢; subst x48
      exact ⟨_, Or.inl ⟨(by rfl), fun w => (by rfl)⟩, rfl⟩
  intro vs W1 m1 hE hM hV hF hD
  obtain ⟨-, -, -, -, ⟨_, _, -, i53, f53⟩, ⟨_, _, -, i54, f54⟩, ⟨_, _, -, i48, f48⟩, ⟨_, _, -, i55, f55⟩, ⟨_, _, -, -, f56⟩, ⟨_, _, j9, i9, f9⟩, -⟩ := hF
  replace hL := hL.call hE hM hV
  replace f53 : FrG _ (vs 53) xu yu := f53
  replace f53 := f53.le i53.le
  clear i53
  replace f54 : BvR _ (vs 54) x y e := f54
  replace f54 := f54.le i54.le
  clear i54
  replace f48 : BvR _ (vs 48) x y e := f48
  replace f48 := f48.le i48.le
  clear i48
  replace f55 : FracP _ (vs 55) x y := f55
  replace f55 := f55.le i55.le
  clear i55
  obtain ⟨g55, A55, n55, c55, h55, B55, k55, d55, e55, f55⟩ := f55.lit
  generalize vs 55 = x55 at e55 ⊢
  subst x55
  have f56 : vs 56 = _ := f56
  generalize vs 56 = x56 at f56 ⊢
  subst x56
  obtain ⟨b9, e9, hL⟩ := Loc.addB (Lt := []) hB1 hB2 hL f9 j9 i9 ad0
  simp only [e9, List.cons_append, List.nil_append] at hL ⊢
  clear e9 f9 j9 i9
  clear hB1 hB2 hB3 hD
  clear hE hV
  simp only [List.drop_succ_cons, List.drop_zero]
  go_wp2_with (first | ((with_reducible refine kAny ?_); go_skip) | (with_reducible refine stA ?_) | ((first | refine tFd ?_ | refine tLd ?_ | ((first | refine tSr ?_ | refine tSt ?_); clear hL; intro _ hL; simp only [splice, zq1, zq2, zq3] at hL) | (refine tAl ?_; clear hL; intro _ _ hL _) | (refine tBs ?_; clear hL; intro _ _ hL _ hBs)); simp only [Act.put, zq1, zq2, zq3]))
  refine QN.mk ?_
  have HU := Lib.hid f55
  clear f55 f54 f53 f48
  go_upto_region 13 with ((first | ((with_reducible refine kAny ?_); go_skip) | (with_reducible refine stA ?_) | ((first | refine tFd ?_ | refine tLd ?_ | ((first | refine tSr ?_ | refine tSt ?_); clear hL; intro _ hL; simp only [splice, zq1, zq2, zq3] at hL) | (refine tAl ?_; clear hL; intro _ _ hL _) | (refine tBs ?_; clear hL; intro _ _ hL _ hBs)); simp only [Act.put, zq1, zq2, zq3])))
  obtain ⟨B, hB1, hB2, hB3⟩ := hL.bound
  refine wp_region_by2 10 [false, false, false, false, false, false, false, false, false, true] [false, false, false, false, false, false, false, false, true, false] [(fun v _ _ => v = ?c13_0d), (fun v _ _ => v = ?c13_1d), (fun v _ _ => v = ?c13_2d), (fun v _ _ => v = ?c13_3d), Of (fun um v => FrG um v xu yu), Of (fun um v => BvR um v x y e), Of (fun um v => BvR um v x y e), Of (fun um v => FracP um v x y), Is (.int .i64 e), NewBlk B 39 #[.bool false, .slice none 0 0, .bool false, .slice none 0 0]] hL.vw mixed [58, 59, 60, 61, 62, 63, 57, 64, 65, 11] _ (by kernel_rfl) (fun vs => by simp only [lay, Act.put, zq1, zq2, zq3]; rfl) (by kernel_rfl) (by decide) (by decide) ?s13d ?l13d ?r13d
  case s13d =>
    refine ⟨?_, ?_, ?_, ?_, ?_, ?_, ?_, ?_, ?_, ?_, trivial⟩
    · intro vs W1 m1 hE hM hV hD; clear hD; replace hL := hL.call hE hM hV
      exact sLd
    · intro vs W1 m1 hE hM hV hD; clear hD; replace hL := hL.call hE hM hV
      exact sLd
    · intro vs W1 m1 hE hM hV hD; clear hD; replace hL := hL.call hE hM hV
      exact sPu
    · intro vs W1 m1 hE hM hV hD; obtain ⟨⟨_, _, -, -, f60⟩, -⟩ := hD; have f60 : vs 60 = _ := f60; generalize vs 60 = x60 at f60 ⊢; subst x60; replace hL := hL.call hE hM hV
      exact sPu
    · intro vs W1 m1 hE hM hV hD; obtain ⟨⟨_, _, -, -, f61⟩, -⟩ := hD; have f61 : vs 61 = _ := f61; generalize vs 61 = x61 at f61 ⊢; subst x61
      go_wp2_with fail
      refine (KW1.out _ _ hV).mono ?_
      rintro e W2 ⟨v, m2, rfl, hE2, hM2, hV2, h⟩
      go_wp2_with fail
      refine One2.call hE2 hM2 hV2 ?_; first | exact h | exact rfl
    · intro vs W1 m1 hE hM hV hD; obtain ⟨⟨_, _, -, -, f58⟩, ⟨_, _, -, -, f59⟩, ⟨_, _, -, i62, f62⟩, -, -⟩ := hD; have f58 : vs 58 = _ := f58; generalize vs 58 = x58 at f58 ⊢; subst x58; have f59 : vs 59 = _ := f59; generalize vs 59 = x59 at f59 ⊢; subst x59; have f62 : FrG _ (vs 62) xu yu := f62; replace f62 := f62.le i62.le; clear i62
      go_wp2_with fail
      refine (K2.out _ _ _ hV leX f62).mono ?_
      rintro e W2 ⟨v, m2, rfl, hE2, hM2, hV2, h⟩
      go_wp2_with fail
      refine One2.call hE2 hM2 hV2 ?_; first | exact h | exact rfl
    · intro vs W1 m1 hE hM hV hD; obtain ⟨⟨_, _, -, i63, f63⟩, -⟩ := hD; have f63 : BvR _ (vs 63) x y e := f63; replace f63 := f63.le i63.le; clear i63
      go_wp2_with fail
      refine One2.still hV ?_; exact f63
    · intro vs W1 m1 hE hM hV hD; obtain ⟨⟨_, _, -, i57, f57⟩, -⟩ := hD; have f57 : BvR _ (vs 57) x y e := f57; replace f57 := f57.le i57.le; clear i57; obtain ⟨u0, e57, k⟩ := f57; generalize vs 57 = x57 at e57 ⊢; subst x57; replace hL := hL.call hE hM hV
      go_wp2_with (first | ((with_reducible refine kAny ?_); go_skip) | (with_reducible refine stA ?_) | ((first | refine tFd ?_ | refine tLd ?_ | ((first | refine tSr ?_ | refine tSt ?_); clear hL; intro _ hL; simp only [splice, zq1, zq2, zq3] at hL) | (refine tAl ?_; clear hL; intro _ _ hL _) | (refine tBs ?_; clear hL; intro _ _ hL _ hBs)); simp only [Act.put, zq1, zq2, zq3]))
      refine One2.still hV ?_; exact k
    · intro vs W1 m1 hE hM hV hD; obtain ⟨⟨_, _, -, i57, f57⟩, -, -⟩ := hD; have f57 : BvR _ (vs 57) x y e := f57; replace f57 := f57.le i57.le; clear i57; obtain ⟨u0, e57, k⟩ := f57; generalize vs 57 = x57 at e57 ⊢; subst x57; replace hL := hL.call hE hM hV
      go_wp2_with (first | ((with_reducible refine kAny ?_); go_skip) | (with_reducible refine stA ?_) | ((first | refine tFd ?_ | refine tLd ?_ | ((first | refine tSr ?_ | refine tSt ?_); clear hL; intro _ hL; simp only [splice, zq1, zq2, zq3] at hL) | (refine tAl ?_; clear hL; intro _ _ hL _) | (refine tBs ?_; clear hL; intro _ _ hL _ hBs)); simp only [Act.put, zq1, zq2, zq3]))
      refine One2.still hV ?_; exact rfl
    · intro vs W1 m1 hE hM hV hD; clear hD
      exact one2_alloc hV (Nat.le_trans hB3 hE.size) rfl rfl rfl ZcC.h
  case l13d =>
    refine ⟨fun h => (by cases h), fun h => (by cases h), fun h => (by cases h), fun h => (by cases h), fun h => (by cases h), fun h => (by cases h), fun h => (by cases h), fun h => (by cases h), fun _ => ?_, fun h => (by cases h), trivial⟩
    · intro vs W1 m1 hE hM hV hD; obtain ⟨⟨_, _, -, i57, f57⟩, -, -⟩ := hD; have f57 : BvR _ (vs 57) x y e := f57; replace f57 := f57.le i57.le; clear i57; obtain ⟨u0, e57, k⟩ := f57; generalize vs 57 = x57 at e57 ⊢; subst x57
      exact ⟨_, Or.inl ⟨(by rfl), fun w => (by rfl)⟩, rfl⟩
  intro vs W1 m1 hE hM hV hF hD
  obtain ⟨-, -, -, -, ⟨_, _, -, i62, f62⟩, ⟨_, _, -, i63, f63⟩, ⟨_, _, -, i57, f57⟩, ⟨_, _, -, i64, f64⟩, ⟨_, _, -, -, f65⟩, ⟨_, _, j11, i11, f11⟩, -⟩ := hF
  replace hL := hL.call hE hM hV
  replace f62 : FrG _ (vs 62) xu yu := f62
  replace f62 := f62.le i62.le
  clear i62
  replace f63 : BvR _ (vs 63) x y e := f63
  replace f63 := f63.le i63.le
  clear i63
  replace f57 : BvR _ (vs 57) x y e := f57
  replace f57 := f57.le i57.le
  clear i57
  replace f64 : FracP _ (vs 64) x y := f64
  replace f64 := f64.le i64.le
  clear i64
  obtain ⟨g64, A64, n64, c64, h64, B64, k64, d64, e64, f64⟩ := f64.lit
  generalize vs 64 = x64 at e64 ⊢
  subst x64
  have f65 : vs 65 = _ := f65
  generalize vs 65 = x65 at f65 ⊢
  subst x65
  obtain ⟨b11, e11, hL⟩ := Loc.addB (Lt := []) hB1 hB2 hL f11 j11 i11 ad0
  simp only [e11, List.cons_append, List.nil_append] at hL ⊢
  clear e11 f11 j11 i11
  clear hB1 hB2 hB3 hD
  clear hE hV
  simp only [List.drop_succ_cons, List.drop_zero]
  go_wp2_with (first | ((with_reducible refine kAny ?_); go_skip) | (with_reducible refine stA ?_) | ((first | refine tFd ?_ | refine tLd ?_ | ((first | refine tSr ?_ | refine tSt ?_); clear hL; intro _ hL; simp only [splice, zq1, zq2, zq3] at hL) | (refine tAl ?_; clear hL; intro _ _ hL _) | (refine tBs ?_; clear hL; intro _ _ hL _ hBs)); simp only [Act.put, zq1, zq2, zq3]))
  refine QN.mk ?_
  go_wp2_with (first | ((with_reducible refine kAny ?_); go_skip) | (with_reducible refine stA ?_) | ((first | refine tFd ?_ | refine tLd ?_ | ((first | refine tSr ?_ | refine tSt ?_); clear hL; intro _ hL; simp only [splice, zq1, zq2, zq3] at hL) | (refine tAl ?_; clear hL; intro _ _ hL _) | (refine tBs ?_; clear hL; intro _ _ hL _ hBs)); simp only [Act.put, zq1, zq2, zq3]))
  refine (r_SameP _ _ x y _ _ hL.vw (HU.out.le leX) (f64.le leX) L1.out L2.out).mono ?_
  rintro e Wc8 ⟨_, mc8, rfl, hE, hMc8, hV, rfl⟩
  replace hL := hL.call hE (by assumption) hV; clear hE hV
  go_wp2_with (first | ((with_reducible refine kAny ?_); go_skip) | (with_reducible refine stA ?_) | ((first | refine tFd ?_ | refine tLd ?_ | ((first | refine tSr ?_ | refine tSt ?_); clear hL; intro _ hL; simp only [splice, zq1, zq2, zq3] at hL) | (refine tAl ?_; clear hL; intro _ _ hL _) | (refine tBs ?_; clear hL; intro _ _ hL _ hBs)); simp only [Act.put, zq1, zq2, zq3]))
  refine (k_known _ _ hL.vw).mono ?_
  rintro e Wc9 ⟨_, mc9, rfl, hE, hMc9, hV, rfl⟩
  replace hL := hL.call hE (by assumption) hV; clear hE hV
  go_wp2_with (first | ((with_reducible refine kAny ?_); go_skip) | (with_reducible refine stA ?_) | ((first | refine tFd ?_ | refine tLd ?_ | ((first | refine tSr ?_ | refine tSt ?_); clear hL; intro _ hL; simp only [splice, zq1, zq2, zq3] at hL) | (refine tAl ?_; clear hL; intro _ _ hL _) | (refine tBs ?_; clear hL; intro _ _ hL _ hBs)); simp only [Act.put, zq1, zq2, zq3]))
  go_ret
  exact RetV.mk hL rfl
end Go.Proofs.YtmhkmmmompediaaGreat

/- The walk through the law LagrangeBounds with one cut more, and the law whole. -/
namespace Go.Proofs.YtmhkmmmompediaaGreat
open Go.RowKit

theorem Loc.app0 {w0 m0 W m : World} {A : List Lo} (h : Loc w0 m0 W m A) : Loc w0 m0 W m (A ++ []) := by rw [List.append_nil]; exact h
theorem d_PricesP (v : Value) (x : Ms) (A : Option Addr) (c N : Nat) (l : List Int) (w m : World) (hV : Vw m w) (hm : MasterR m v x) (hnf : Hid (x.nf = 6)) (hcu : Hid (x.cuts.length ≤ 10)) (h : Sl m A (l.map I64)) (hN : Hid (l.length = N)) :
    Calls Tryz.prog 16 #[v, .slice A N c] w (PricesPost w m (prF x l)) := by
  obtain rfl := hN.out
  exact d_Prices v x A c l w m hV hm hnf.out hcu.out h trivial
theorem keep5 {w : World} {g : Nat} {t : TypeId} {v0 v1 v2 v3 v4 : Value} (h : Blk w g t #[v0, v1, v2, v3, v4]) : w.cell? ⟨g, 1, none⟩ = some v1 ∧ w.cell? ⟨g, 2, none⟩ = some v2 ∧ w.frozen? ⟨g, 1, none⟩ = false ∧ w.frozen? ⟨g, 2, none⟩ = false := by
  obtain ⟨-, c1, c2, -, -, -, f1, f2, -, -⟩ := h.facts5
  exact ⟨c1, c2, f1, f2⟩
theorem cut_cells {m : World} : ∀ {vs : List Value} {xs : List Cut}, All2 (CutR m) vs xs → (cellsOf vs).length = xs.length * 2 ∧ (cellsOf vs).all (·.oneCell') = true
  | [], [], _ => ⟨rfl, rfl⟩
  | v :: vs, x :: xs, h => by
    obtain ⟨i1, i2⟩ := cut_cells h.2
    obtain ⟨s, e, hs, -⟩ := h.1
    subst e
    obtain ⟨A, c, e2, -⟩ := hs.lit
    subst e2
    refine ⟨?_, ?_⟩
    · show (_ :: _ :: cellsOf vs).length = (xs.length + 1) * 2
      simp only [List.length_cons]; omega
    · show (_ :: _ :: cellsOf vs).all _ = true
      simp only [List.all_cons, i2]; rfl
  | [], _ :: _, h => h.elim
  | _ :: _, [], h => h.elim

set_option maxRecDepth 100000 in
set_option maxHeartbeats 32000000 in
theorem law_BoundsB (Al Aa : Option Addr) (cl ca : Nat) (l a : List Int) (n : Int) (w m : World) (hV : Vw m w) (hl : Sl m Al (l.map I64)) (ha : Sl m Aa (a.map I64)) (n1 : -9223372036854775808 ≤ n) (n2 : n ≤ 9223372036854775807) (hs : n % 16 = 2) :
    Calls Tryz.prog 3 #[.slice Al l.length cl, .slice Aa a.length ca, .int .i64 n] w (RetV w m fun _ r => r = .bool true) := by
  have KM : Hid (∀ w m', Vw m' w → Le m m' → Calls Tryz.prog 15 #[.slice Al l.length cl] w (RetV w m' fun m'' r => MasterR m'' r (masF l))) := by
    show ∀ w m', _
    exact fun w m' hV hle => d_Master Al cl l w m' hV (hl.le hle) trivial
  have HNF : Hid ((masF l).nf = 6) := rfl
  have HCU : Hid ((masF l).cuts.length ≤ 10) := by show _ ≤ _; have := masF_cuts l; omega
  have PB : Hid (∀ fr, BQ 6 (masF l) ⟨(prF (masF l) a).fl, (prF (masF l) a).cu, (prF (masF l) a).cd, (prF (masF l) a).de, fr⟩ (wN (n / 16), wD (n / 16))) := by show ∀ fr, _; exact fun fr => lag_bq l a _ fr
  have PX : Hid (BQ 6 (masF l) (prX (prF (masF l) a)) (wN (n / 16), wD (n / 16))) := lag_bqx l a _
  have MO := Lib.hid (masF_ok l)
  have PP : Hid (0 ≤ (masF l).pen ∧ (masF l).pen ≤ 1000) := by
    have := atF_bd l 0 (by omega)
    show 0 ≤ atF l 0 % 30 ∧ atF l 0 % 30 ≤ 1000
    omega
  have P6 : Hid ((prF (masF l) a).fl.length = 6) := flG_len a 6
  have PN : Hid ((prF (masF l) a).cd.length ≤ 10) := by show (cdG a _).length ≤ 10; rw [cdG_len]; have := masF_cuts l; omega
  have PM : Hid ((prF (masF l) a).cu.length ≤ 10) := by show (masF l).cuts.length ≤ 10; have := masF_cuts l; omega
  have KW1 : Hid (∀ w m, Vw m w → Calls Tryz.prog 19 #[.int .i64 (n / 16)] w (RetV w m fun m' r => FrG m' r (wN (n / 16)) (wD (n / 16)))) := by
    show ∀ w m, _
    exact fun w m hV => d_Wild _ w m hV (by omega) (by omega)
  generalize wN (n / 16) = xu at *
  generalize wD (n / 16) = yu at *
  have TR : Hid True := trivial
  clear hl n1 n2
  generalize l.length = N1 at *
  generalize hN2 : a.length = N2
  have HN2 := Lib.hid hN2
  clear hN2
  generalize masF l = ms at *
  have e1 := i64_and4 n
  generalize n % 16 = s at *
  have hL := Loc.start hV
  clear hV
  have b0 : (s == 0) = false := bf (by omega)
  have b1 : (s == 1) = false := bf (by omega)
  have b2 : (s == 2) = true := bt hs
  have b3 : (s == 3) = false := bf (by omega)
  clear hs
  go_enter Tryz.func3, Tryz.ntmps3
  go_wp2_with (first | ((with_reducible refine kAny ?_); go_skip) | (with_reducible refine stA ?_) | ((first | refine tFd ?_ | refine tLd ?_ | ((first | refine tSr ?_ | refine tSt ?_); clear hL; intro _ hL; simp only [splice, zq1, zq2, zq3] at hL) | (refine tAl ?_; clear hL; intro _ _ hL _) | (refine tBs ?_; clear hL; intro _ _ hL _ hBs)); simp only [Act.put, zq1, zq2, zq3]))
  refine (KM.out _ _ hL.vw leX).mono ?_
  rintro e Wc1 ⟨vc1, mc1, rfl, hE, hMc1, hV, hc1⟩
  replace hL := hL.call hE (by assumption) hV; clear hE hV
  obtain ⟨M1, q1, d1, M2, q2, d2, M3, q3, d3, rfl, hc1⟩ := hc1.lit
  go_wp2_with (first | ((with_reducible refine kAny ?_); go_skip) | (with_reducible refine stA ?_) | ((first | refine tFd ?_ | refine tLd ?_ | ((first | refine tSr ?_ | refine tSt ?_); clear hL; intro _ hL; simp only [splice, zq1, zq2, zq3] at hL) | (refine tAl ?_; clear hL; intro _ _ hL _) | (refine tBs ?_; clear hL; intro _ _ hL _ hBs)); simp only [Act.put, zq1, zq2, zq3]))
  refine (d_PricesP _ ms _ _ _ a _ _ hL.vw (hc1.le leX) HNF HCU (ha.le leX) HN2).mono ?_
  rintro e Wp ⟨mc2, pa, pb, ps, A2, c2, R, rfl, hk, hfl, hcu, hrow, hde⟩
  have hM2 := hk.mext
  have HM : Hid (MasterR mc2 (.agg #[.int .i64 ms.nf, .slice M1 q1 d1, .int .i64 ms.pen, .slice M2 q2 d2, .slice M3 q3 d3]) ms) := hc1.le leX
  have hL2 := (hL.callL hk).perm List.perm_append_comm
  clear hL hk hM2 hc1
  have hL := hL2
  clear hL2
  simp only [List.cons_append, List.nil_append] at hL
  obtain ⟨A0, c0, rfl, -, hfl⟩ := hfl.lit
  obtain ⟨A1, c1, vs1, rfl, hc1, h1, h2, h3⟩ := hcu
  obtain ⟨A3, c3, rfl, -, hde⟩ := hde.lit
  obtain ⟨vs2, r2, z2, y2, l2⟩ := hrow
  obtain ⟨n1, o1⟩ := cut_cells h3
  have ly : vs1.length = (prF ms a).cu.length := h3.length
  have HFL := Lib.hid hfl
  have HDE := Lib.hid hde
  have H1 := Lib.hid h1
  have H2 := Lib.hid h2
  have H3 := Lib.hid h3
  have N1' := Lib.hid n1
  have O1 := Lib.hid o1
  have LY := Lib.hid ly
  have R2 := Lib.hid r2
  have Z2 := Lib.hid z2
  have Y2 := Lib.hid y2
  have L2 := Lib.hid l2
  have pn := PN.out
  have pm := PM.out
  have HFR : (prF ms a).fr = false := rfl
  clear hfl hde h1 h2 h3 n1 o1 ly r2 z2 y2 l2 hc1
  generalize prF ms a = p at *
  rw [HFR]
  clear HFR
  generalize hnd : p.cd.length = nd at *
  generalize hnu : p.cu.length = nu at *
  have HND := Lib.hid hnd
  have HNU := Lib.hid hnu
  clear hnd hnu
  go_upto_region 9 with ((first | ((with_reducible refine kAny ?_); go_skip) | (with_reducible refine stA ?_) | ((first | refine tFd ?_ | refine tLd ?_ | ((first | refine tSr ?_ | refine tSt ?_); clear hL; intro _ hL; simp only [splice, zq1, zq2, zq3] at hL) | (refine tAl ?_; clear hL; intro _ _ hL _) | (refine tBs ?_; clear hL; intro _ _ hL _ hBs)); simp only [Act.put, zq1, zq2, zq3])))
  refine wp_region_L 13 (fun w' => w'.cell? ⟨Wp.heap.size, 1, none⟩ = some (.slice A1 nu c1) ∧ w'.cell? ⟨Wp.heap.size, 2, none⟩ = some (.slice A2 nd c2) ∧ w'.frozen? ⟨Wp.heap.size, 1, none⟩ = false ∧ w'.frozen? ⟨Wp.heap.size, 2, none⟩ = false) (by kernel_rfl) ?_
  have hL9 := hL.drew
  clear hL
  have hL := hL9
  clear hL9
  refine wpL_take 0 0 (v := ?_) rfl (by kernel_rfl) (fun _ _ _ h => h) (keep5 (hL.at_ lo0)) (by rfl) ?yld ?_
  case yld => (intro w' hSw; obtain ⟨s1, s2, s3, s4⟩ := hSw; go_simp; try with_reducible rfl)
  simp only [Act.put, zq1, zq2, zq3]
  refine wpL_take 1 1 (v := ?_) rfl (by kernel_rfl) (fun _ _ _ h => h) (keep5 (hL.at_ lo0)) (by rfl) ?yld ?_
  case yld => (intro w' hSw; obtain ⟨s1, s2, s3, s4⟩ := hSw; go_simp; try with_reducible rfl)
  simp only [Act.put, zq1, zq2, zq3]
  refine wpL_take 7 7 (v := ?_) rfl (by kernel_rfl) (fun _ _ _ h => h) (keep5 (hL.at_ lo0)) (by rfl) ?yld ?_
  case yld => (intro w' hSw; obtain ⟨s1, s2, s3, s4⟩ := hSw; go_simp; try with_reducible rfl)
  simp only [Act.put, zq1, zq2, zq3]
  refine wpL_take 8 8 (v := ?_) rfl (by kernel_rfl) (fun _ _ _ h => h) (keep5 (hL.at_ lo0)) (by rfl) ?yld ?_
  case yld => (intro w' hSw; obtain ⟨s1, s2, s3, s4⟩ := hSw; go_simp; try with_reducible rfl)
  simp only [Act.put, zq1, zq2, zq3]
  refine wpL_two 2 3 (by kernel_rfl) rfl rfl ?_ ?_
  · refine wl_append hL.app0 (Row.nil _ 2) (wanted_none rfl) rfl ap_Cuts (by omega) rfl rfl (news := cellsOf vs1) N1'.out (H2.out.le (Le.trans leX hL.vw.le)) O1.out (by omega) (by omega) ?_
    clear hL
    intro v33 W33 m33 R33 hL r33 e33
    obtain ⟨A33, c33, rfl, -⟩ := r33.lit
    simp only [List.cons_append] at hL
    simp only [Nat.zero_add, List.nil_append] at r33 ⊢
    simp only [Act.put, zq1, zq2, zq3]
    refine StepL.mk (keep5 (hL.at_ lo0)) ?_
    refine wpL_one 3 (by kernel_rfl) rfl ?_
    refine wl_bslice hL (wanted_none rfl) rfl (n := 2) (cs := #[.int .i64 0, .int .i64 5]) (e := 3) (fun w => by go_simp) ?_
    clear hL
    intro W34 m34 hL e34 hb34
    simp only [Act.put, zq1, zq2, zq3]
    refine StepL.mk (keep5 (hL.at_ lo0)) ?_
    refine wpL_one 4 (by kernel_rfl) rfl ?_
    go_wp2_with (first | ((with_reducible refine kAny ?_); go_skip) | (with_reducible refine stA ?_) | ((first | refine tFd ?_ | refine tLd ?_ | ((first | refine tSr ?_ | refine tSt ?_); clear hL; intro _ hL; simp only [splice, zq1, zq2, zq3] at hL) | (refine tAl ?_; clear hL; intro _ _ hL _) | (refine tBs ?_; clear hL; intro _ _ hL _ hBs)); simp only [Act.put, zq1, zq2, zq3]))
    refine StepL.mk (keep5 (hL.at_ lo0)) ?_
    refine wpL_one 5 (by kernel_rfl) rfl ?_
    refine t_bsA hL rfl rfl ?_
    clear hL
    intro _ _ hL _ hb36
    simp only [Act.put, zq1, zq2, zq3]
    refine StepL.mk (keep5 (hL.at_ lo0)) ?_
    refine wpL_one 6 (by kernel_rfl) rfl ?_
    refine wl_append (A := _ :: _ :: R) hL r33 (wanted_none rfl) rfl ap_Cuts (by omega) rfl rfl (news := [.slice (some ⟨_, 0, none⟩) 2 2, .int .i64 2]) rfl ((Blk.sl hb36 (n := 2) rfl).le (Le.trans leX hL.vw.le)) rfl (by omega) (by omega) ?_
    clear hL
    intro v37 W37 m37 R37 hL r37 e37
    obtain ⟨A37, c37, rfl, -⟩ := r37.lit
    have h05 : IntL m37 (.slice (some ⟨_, 0, none⟩) 2 2) [0, 5] := ListV.mk (vs := [.int .i64 0, .int .i64 5]) (by omega) rfl (fun u hu => by simp at hu; rcases hu with rfl | rfl <;> rfl) ((Blk.sl hb34 (n := 2) rfl).le leX) ⟨rfl, rfl, trivial⟩
    have ra37 := RowA.snoc (R := CutR) (m := m37) (x := ([0, 5], 2)) r37 H1.out (H3.out.mono fun v x hv => CutR.mono _ _ _ _ hv leX) LY.out rfl ⟨_, rfl, h05, by simp⟩
    obtain ⟨m38, hL38, hle38, hcu38, -⟩ := RowA.show (A := _ :: _ :: R) CutR.mono hL ra37
    have hle39 : Le mc2 m38 := Le.trans leX hle38
    clear hL r33 r37 ra37 h05 hb34 hb36
    have hL := hL38
    clear hL38
    simp only [Act.put, zq1, zq2, zq3]
    refine StepL.mk (keep5 (hL.at_ lo0)) ?_
    refine wpL_take 12 12 (v := ?_) rfl (by kernel_rfl) (fun _ _ _ h => h) (keep5 (hL.at_ lo0)) (by rfl) ?yld ?_
    case yld => (intro w' hSw; obtain ⟨s1, s2, s3, s4⟩ := hSw; go_simp; try with_reducible rfl)
    simp only [Act.put, zq1, zq2, zq3]
    refine wpL_one 9 (by kernel_rfl) rfl ?_
    go_wp2_with (first | ((with_reducible refine kAny ?_); go_skip) | (with_reducible refine stA ?_) | ((first | refine tFd ?_ | refine tLd ?_ | ((first | refine tSr ?_ | refine tSt ?_); clear hL; intro _ hL; simp only [splice, zq1, zq2, zq3] at hL) | (refine tAl ?_; clear hL; intro _ _ hL _) | (refine tBs ?_; clear hL; intro _ _ hL _ hBs)); simp only [Act.put, zq1, zq2, zq3]))
    refine (r_Int (-1) _ _ hL.vw (by decide) (by decide)).mono ?_
    rintro e Wi1 ⟨vi1, mi1, rfl, hE, hMi1, hV, hi1⟩
    replace hL := hL.call hE (by assumption) hV; clear hE hV
    obtain ⟨gi1', Ai1', ni1', ci1', hi1', Bi1', ki1', di1', rfl, hi1⟩ := hi1.lit
    go_wp2_with (first | ((with_reducible refine kAny ?_); go_skip) | (with_reducible refine stA ?_) | ((first | refine tFd ?_ | refine tLd ?_ | ((first | refine tSr ?_ | refine tSt ?_); clear hL; intro _ hL; simp only [splice, zq1, zq2, zq3] at hL) | (refine tAl ?_; clear hL; intro _ _ hL _) | (refine tBs ?_; clear hL; intro _ _ hL _ hBs)); simp only [Act.put, zq1, zq2, zq3]))
    refine StepL.mk (keep5 (hL.at_ lo0)) ?_
    refine wpL_one 10 (by kernel_rfl) rfl ?_
    refine t_bsA hL rfl rfl ?_
    clear hL
    intro _ _ hL _ hb41
    simp only [Act.put, zq1, zq2, zq3]
    refine StepL.mk (keep5 (hL.at_ lo0)) ?_
    refine wpL_one 11 (by kernel_rfl) rfl ?_
    refine wl_append (A := [_, _]) hL R2.out (wanted_none rfl) rfl ap_Fracs (by omega) rfl rfl (news := [.bool gi1', .slice Ai1' ni1' ci1', .bool hi1', .slice Bi1' ki1' di1']) rfl ((Blk.sl hb41 (n := 4) rfl).le (Le.trans leX hL.vw.le)) rfl (by omega) (by omega) ?_
    clear hL
    intro v42 W42 m42 R42 hL r42 e42
    obtain ⟨A42, c42, rfl, -⟩ := r42.lit
    have hle42 : Le mc2 m42 := Le.trans hle39 leX
    have ra42 := RowA.snoc (R := FracC) (m := m42) (x := ((-1 : Int) : Rat)) r42 Z2.out (Y2.out.mono fun v x hv => FracC.mono _ _ _ _ hv hle42) L2.out rfl (hi1.le leX)
    obtain ⟨m43, hL43, hle43, hcd43, -⟩ := RowA.show (A := [_, _]) FracC.mono hL ra42
    have hcu43 := CutL.le hcu38 (Le.trans (leX : Le m38 m42) hle43)
    have hle44 := Le.trans hle42 hle43
    clear hL r42 ra42 hb41 hi1
    have hL := hL43
    clear hL43
    simp only [Act.put, zq1, zq2, zq3]
    refine StepL.mk (keep5 (hL.at_ lo0)) ?_
    refine wpL_one 13 (by kernel_rfl) rfl ?_
    go_wp2_with (first | ((with_reducible refine kAny ?_); go_skip) | (with_reducible refine stA ?_) | ((first | refine tFd ?_ | refine tLd ?_ | ((first | refine tSr ?_ | refine tSt ?_); clear hL; intro _ hL; simp only [splice, zq1, zq2, zq3] at hL) | (refine tAl ?_; clear hL; intro _ _ hL _) | (refine tBs ?_; clear hL; intro _ _ hL _ hBs)); simp only [Act.put, zq1, zq2, zq3]))
    refine StepL.mkL (by kernel_rfl) ?_
    refine wpL_one 14 (by kernel_rfl) rfl ?_
    go_wp2_with (first | ((with_reducible refine kAny ?_); go_skip) | (with_reducible refine stA ?_) | ((first | refine tFd ?_ | refine tLd ?_ | ((first | refine tSr ?_ | refine tSt ?_); clear hL; intro _ hL; simp only [splice, zq1, zq2, zq3] at hL) | (refine tAl ?_; clear hL; intro _ _ hL _) | (refine tBs ?_; clear hL; intro _ _ hL _ hBs)); simp only [Act.put, zq1, zq2, zq3]))
    refine StepL.mkL (by kernel_rfl) ?_
    refine wpL_one 15 (by kernel_rfl) rfl ?_
    go_wp2_with (first | ((with_reducible refine kAny ?_); go_skip) | (with_reducible refine stA ?_) | ((first | refine tFd ?_ | refine tLd ?_ | ((first | refine tSr ?_ | refine tSt ?_); clear hL; intro _ hL; simp only [splice, zq1, zq2, zq3] at hL) | (refine tAl ?_; clear hL; intro _ _ hL _) | (refine tBs ?_; clear hL; intro _ _ hL _ hBs)); simp only [Act.put, zq1, zq2, zq3]))
    refine StepL.mkL (by kernel_rfl) ?_
    refine wpL_done (by kernel_rfl) ?_ _
    refine NoPanic.normal ?_
    have KB : Hid (BothB m43 (.agg #[.int .i64 ms.nf, .slice M1 q1 d1, .int .i64 ms.pen, .slice M2 q2 d2, .slice M3 q3 d3]) (.agg #[.slice A0 p.fl.length c0, .slice A37 (nu + 1) c37, .slice A42 (nd + 1) c42, .slice A3 p.de.length c3, .bool false]) (xu, yu)) :=
      bothB_ok (HM.out.le hle44) (p := prX p) ⟨_, _, _, _, rfl, FracL.le HFL.out hle44, hcu43, hcd43, DecL.le HDE.out hle44⟩ PX.out
    clear HFL HDE hcu43 hcd43 HM hcu38 hle39 hle38 hle42 hle43 hle44 H1 H2 H3 O1 Z2 Y2 R2 N1' LY L2 PN PM PX PB P6 MO PP HNF HCU hfl hde pn pm HND HNU
    generalize nu + 1 = nu1 at *
    generalize nd + 1 = nd1 at *
    obtain ⟨x, y, e, l1, l2, k1, k2⟩ := KB.out
    have K1 := Lib.hid k1
    have K2 := Lib.hid k2
    have L1 := Lib.hid l1
    have L2 := Lib.hid l2
    have bee : ((e : Int) == e) = true := by simp
    clear k1 k2 l1 l2 KB
    go_upto_region 12 with ((first | ((with_reducible refine kAny ?_); go_skip) | (with_reducible refine stA ?_) | ((first | refine tFd ?_ | refine tLd ?_ | ((first | refine tSr ?_ | refine tSt ?_); clear hL; intro _ hL; simp only [splice, zq1, zq2, zq3] at hL) | (refine tAl ?_; clear hL; intro _ _ hL _) | (refine tBs ?_; clear hL; intro _ _ hL _ hBs)); simp only [Act.put, zq1, zq2, zq3])))
    obtain ⟨B, hB1, hB2, hB3⟩ := hL.bound
    refine wp_region_by2 10 [false, false, false, false, false, false, false, false, false, true] [false, false, false, false, false, false, false, false, true, false] [(fun v _ _ => v = ?c12_0a), (fun v _ _ => v = ?c12_1a), (fun v _ _ => v = ?c12_2a), (fun v _ _ => v = ?c12_3a), Of (fun um v => FrG um v xu yu), Of (fun um v => BvR um v x y e), Of (fun um v => BvR um v x y e), Of (fun um v => FracP um v x y), Is (.int .i64 e), NewBlk B 39 #[.bool false, .slice none 0 0, .bool false, .slice none 0 0]] hL.vw mixed [49, 50, 51, 52, 53, 54, 48, 55, 56, 9] _ (by kernel_rfl) (fun vs => by simp only [lay, Act.put, zq1, zq2, zq3]; rfl) (by kernel_rfl) (by decide) (by decide) ?s12a ?l12a ?r12a
    case s12a =>
      refine ⟨?_, ?_, ?_, ?_, ?_, ?_, ?_, ?_, ?_, ?_, trivial⟩
      · intro vs W1 m1 hE hM hV hD; clear hD; replace hL := hL.call hE hM hV
        exact sLd
      · intro vs W1 m1 hE hM hV hD; clear hD; replace hL := hL.call hE hM hV
        exact sLd
      · intro vs W1 m1 hE hM hV hD; clear hD; replace hL := hL.call hE hM hV
        exact sPu
      · intro vs W1 m1 hE hM hV hD; obtain ⟨⟨_, _, -, -, f51⟩, -⟩ := hD; have f51 : vs 51 = _ := f51; generalize vs 51 = x51 at f51 ⊢; subst x51; replace hL := hL.call hE hM hV
        exact sPu
      · intro vs W1 m1 hE hM hV hD; obtain ⟨⟨_, _, -, -, f52⟩, -⟩ := hD; have f52 : vs 52 = _ := f52; generalize vs 52 = x52 at f52 ⊢; subst x52
        go_wp2_with fail
        refine (KW1.out _ _ hV).mono ?_
        rintro e W2 ⟨v, m2, rfl, hE2, hM2, hV2, h⟩
        go_wp2_with fail
        refine One2.call hE2 hM2 hV2 ?_; first | exact h | exact rfl
      · intro vs W1 m1 hE hM hV hD; obtain ⟨⟨_, _, -, -, f49⟩, ⟨_, _, -, -, f50⟩, ⟨_, _, -, i53, f53⟩, -, -⟩ := hD; have f49 : vs 49 = _ := f49; generalize vs 49 = x49 at f49 ⊢; subst x49; have f50 : vs 50 = _ := f50; generalize vs 50 = x50 at f50 ⊢; subst x50; have f53 : FrG _ (vs 53) xu yu := f53; replace f53 := f53.le i53.le; clear i53
        go_wp2_with fail
        refine (K1.out _ _ _ hV leX f53).mono ?_
        rintro e W2 ⟨v, m2, rfl, hE2, hM2, hV2, h⟩
        go_wp2_with fail
        refine One2.call hE2 hM2 hV2 ?_; first | exact h | exact rfl
      · intro vs W1 m1 hE hM hV hD; obtain ⟨⟨_, _, -, i54, f54⟩, -⟩ := hD; have f54 : BvR _ (vs 54) x y e := f54; replace f54 := f54.le i54.le; clear i54
        go_wp2_with fail
        refine One2.still hV ?_; exact f54
      · intro vs W1 m1 hE hM hV hD; obtain ⟨⟨_, _, -, i48, f48⟩, -⟩ := hD; have f48 : BvR _ (vs 48) x y e := f48; replace f48 := f48.le i48.le; clear i48; obtain ⟨u0, e48, k⟩ := f48; generalize vs 48 = x48 at e48 ⊢; subst x48; replace hL := hL.call hE hM hV
        go_wp2_with (first | ((with_reducible refine kAny ?_); go_skip) | (with_reducible refine stA ?_) | ((first | refine tFd ?_ | refine tLd ?_ | ((first | refine tSr ?_ | refine tSt ?_); clear hL; intro _ hL; simp only [splice, zq1, zq2, zq3] at hL) | (refine tAl ?_; clear hL; intro _ _ hL _) | (refine tBs ?_; clear hL; intro _ _ hL _ hBs)); simp only [Act.put, zq1, zq2, zq3]))
        refine One2.still hV ?_; exact k
      · intro vs W1 m1 hE hM hV hD; obtain ⟨⟨_, _, -, i48, f48⟩, -, -⟩ := hD; have f48 : BvR _ (vs 48) x y e := f48; replace f48 := f48.le i48.le; clear i48; obtain ⟨u0, e48, k⟩ := f48; generalize vs 48 = x48 at e48 ⊢; subst x48; replace hL := hL.call hE hM hV
        go_wp2_with (first | ((with_reducible refine kAny ?_); go_skip) | (with_reducible refine stA ?_) | ((first | refine tFd ?_ | refine tLd ?_ | ((first | refine tSr ?_ | refine tSt ?_); clear hL; intro _ hL; simp only [splice, zq1, zq2, zq3] at hL) | (refine tAl ?_; clear hL; intro _ _ hL _) | (refine tBs ?_; clear hL; intro _ _ hL _ hBs)); simp only [Act.put, zq1, zq2, zq3]))
        refine One2.still hV ?_; exact rfl
      · intro vs W1 m1 hE hM hV hD; clear hD
        exact one2_alloc hV (Nat.le_trans hB3 hE.size) rfl rfl rfl ZcC.h
    case l12a =>
      refine ⟨fun h => (by cases h), fun h => (by cases h), fun h => (by cases h), fun h => (by cases h), fun h => (by cases h), fun h => (by cases h), fun h => (by cases h), fun h => (by cases h), fun _ => ?_, fun h => (by cases h), trivial⟩
      · intro vs W1 m1 hE hM hV hD; obtain ⟨⟨_, _, -, i48, f48⟩, -, -⟩ := hD; have f48 : BvR _ (vs 48) x y e := f48; replace f48 := f48.le i48.le; clear i48; obtain ⟨u0, e48, k⟩ := f48; generalize vs 48 = x48 at e48 ⊢; subst x48
        exact ⟨_, Or.inl ⟨(by rfl), fun w => (by rfl)⟩, rfl⟩
    intro vs W1 m1 hE hM hV hF hD
    obtain ⟨-, -, -, -, ⟨_, _, -, i53, f53⟩, ⟨_, _, -, i54, f54⟩, ⟨_, _, -, i48, f48⟩, ⟨_, _, -, i55, f55⟩, ⟨_, _, -, -, f56⟩, ⟨_, _, j9, i9, f9⟩, -⟩ := hF
    replace hL := hL.call hE hM hV
    replace f53 : FrG _ (vs 53) xu yu := f53
    replace f53 := f53.le i53.le
    clear i53
    replace f54 : BvR _ (vs 54) x y e := f54
    replace f54 := f54.le i54.le
    clear i54
    replace f48 : BvR _ (vs 48) x y e := f48
    replace f48 := f48.le i48.le
    clear i48
    replace f55 : FracP _ (vs 55) x y := f55
    replace f55 := f55.le i55.le
    clear i55
    obtain ⟨g55, A55, n55, c55, h55, B55, k55, d55, e55, f55⟩ := f55.lit
    generalize vs 55 = x55 at e55 ⊢
    subst x55
    have f56 : vs 56 = _ := f56
    generalize vs 56 = x56 at f56 ⊢
    subst x56
    obtain ⟨b9, e9, hL⟩ := Loc.addB (Lt := []) hB1 hB2 hL f9 j9 i9 ad0
    simp only [e9, List.cons_append, List.nil_append] at hL ⊢
    clear e9 f9 j9 i9
    clear hB1 hB2 hB3 hD
    clear hE hV
    simp only [List.drop_succ_cons, List.drop_zero]
    go_wp2_with (first | ((with_reducible refine kAny ?_); go_skip) | (with_reducible refine stA ?_) | ((first | refine tFd ?_ | refine tLd ?_ | ((first | refine tSr ?_ | refine tSt ?_); clear hL; intro _ hL; simp only [splice, zq1, zq2, zq3] at hL) | (refine tAl ?_; clear hL; intro _ _ hL _) | (refine tBs ?_; clear hL; intro _ _ hL _ hBs)); simp only [Act.put, zq1, zq2, zq3]))
    refine QN.mk ?_
    have HU := Lib.hid f55
    clear f55 f54 f53 f48
    go_upto_region 13 with ((first | ((with_reducible refine kAny ?_); go_skip) | (with_reducible refine stA ?_) | ((first | refine tFd ?_ | refine tLd ?_ | ((first | refine tSr ?_ | refine tSt ?_); clear hL; intro _ hL; simp only [splice, zq1, zq2, zq3] at hL) | (refine tAl ?_; clear hL; intro _ _ hL _) | (refine tBs ?_; clear hL; intro _ _ hL _ hBs)); simp only [Act.put, zq1, zq2, zq3])))
    obtain ⟨B, hB1, hB2, hB3⟩ := hL.bound
    refine wp_region_by2 10 [false, false, false, false, false, false, false, false, false, true] [false, false, false, false, false, false, false, false, true, false] [(fun v _ _ => v = ?c13_0a), (fun v _ _ => v = ?c13_1a), (fun v _ _ => v = ?c13_2a), (fun v _ _ => v = ?c13_3a), Of (fun um v => FrG um v xu yu), Of (fun um v => BvR um v x y e), Of (fun um v => BvR um v x y e), Of (fun um v => FracP um v x y), Is (.int .i64 e), NewBlk B 39 #[.bool false, .slice none 0 0, .bool false, .slice none 0 0]] hL.vw mixed [58, 59, 60, 61, 62, 63, 57, 64, 65, 11] _ (by kernel_rfl) (fun vs => by simp only [lay, Act.put, zq1, zq2, zq3]; rfl) (by kernel_rfl) (by decide) (by decide) ?s13a ?l13a ?r13a
    case s13a =>
      refine ⟨?_, ?_, ?_, ?_, ?_, ?_, ?_, ?_, ?_, ?_, trivial⟩
      · intro vs W1 m1 hE hM hV hD; clear hD; replace hL := hL.call hE hM hV
        exact sLd
      · intro vs W1 m1 hE hM hV hD; clear hD; replace hL := hL.call hE hM hV
        exact sLd
      · intro vs W1 m1 hE hM hV hD; clear hD; replace hL := hL.call hE hM hV
        exact sPu
      · intro vs W1 m1 hE hM hV hD; obtain ⟨⟨_, _, -, -, f60⟩, -⟩ := hD; have f60 : vs 60 = _ := f60; generalize vs 60 = x60 at f60 ⊢; subst x60; replace hL := hL.call hE hM hV
        exact sPu
      · intro vs W1 m1 hE hM hV hD; obtain ⟨⟨_, _, -, -, f61⟩, -⟩ := hD; have f61 : vs 61 = _ := f61; generalize vs 61 = x61 at f61 ⊢; subst x61
        go_wp2_with fail
        refine (KW1.out _ _ hV).mono ?_
        rintro e W2 ⟨v, m2, rfl, hE2, hM2, hV2, h⟩
        go_wp2_with fail
        refine One2.call hE2 hM2 hV2 ?_; first | exact h | exact rfl
      · intro vs W1 m1 hE hM hV hD; obtain ⟨⟨_, _, -, -, f58⟩, ⟨_, _, -, -, f59⟩, ⟨_, _, -, i62, f62⟩, -, -⟩ := hD; have f58 : vs 58 = _ := f58; generalize vs 58 = x58 at f58 ⊢; subst x58; have f59 : vs 59 = _ := f59; generalize vs 59 = x59 at f59 ⊢; subst x59; have f62 : FrG _ (vs 62) xu yu := f62; replace f62 := f62.le i62.le; clear i62
        go_wp2_with fail
        refine (K2.out _ _ _ hV leX f62).mono ?_
        rintro e W2 ⟨v, m2, rfl, hE2, hM2, hV2, h⟩
        go_wp2_with fail
        refine One2.call hE2 hM2 hV2 ?_; first | exact h | exact rfl
      · intro vs W1 m1 hE hM hV hD; obtain ⟨⟨_, _, -, i63, f63⟩, -⟩ := hD; have f63 : BvR _ (vs 63) x y e := f63; replace f63 := f63.le i63.le; clear i63
        go_wp2_with fail
        refine One2.still hV ?_; exact f63
      · intro vs W1 m1 hE hM hV hD; obtain ⟨⟨_, _, -, i57, f57⟩, -⟩ := hD; have f57 : BvR _ (vs 57) x y e := f57; replace f57 := f57.le i57.le; clear i57; obtain ⟨u0, e57, k⟩ := f57; generalize vs 57 = x57 at e57 ⊢; subst x57; replace hL := hL.call hE hM hV
        go_wp2_with (first | ((with_reducible refine kAny ?_); go_skip) | (with_reducible refine stA ?_) | ((first | refine tFd ?_ | refine tLd ?_ | ((first | refine tSr ?_ | refine tSt ?_); clear hL; intro _ hL; simp only [splice, zq1, zq2, zq3] at hL) | (refine tAl ?_; clear hL; intro _ _ hL _) | (refine tBs ?_; clear hL; intro _ _ hL _ hBs)); simp only [Act.put, zq1, zq2, zq3]))
        refine One2.still hV ?_; exact k
      · intro vs W1 m1 hE hM hV hD; obtain ⟨⟨_, _, -, i57, f57⟩, -, -⟩ := hD; have f57 : BvR _ (vs 57) x y e := f57; replace f57 := f57.le i57.le; clear i57; obtain ⟨u0, e57, k⟩ := f57; generalize vs 57 = x57 at e57 ⊢; subst x57; replace hL := hL.call hE hM hV
        go_wp2_with (first | ((with_reducible refine kAny ?_); go_skip) | (with_reducible refine stA ?_) | ((first | refine tFd ?_ | refine tLd ?_ | ((first | refine tSr ?_ | refine tSt ?_); clear hL; intro _ hL; simp only [splice, zq1, zq2, zq3] at hL) | (refine tAl ?_; clear hL; intro _ _ hL _) | (refine tBs ?_; clear hL; intro _ _ hL _ hBs)); simp only [Act.put, zq1, zq2, zq3]))
        refine One2.still hV ?_; exact rfl
      · intro vs W1 m1 hE hM hV hD; clear hD
        exact one2_alloc hV (Nat.le_trans hB3 hE.size) rfl rfl rfl ZcC.h
    case l13a =>
      refine ⟨fun h => (by cases h), fun h => (by cases h), fun h => (by cases h), fun h => (by cases h), fun h => (by cases h), fun h => (by cases h), fun h => (by cases h), fun h => (by cases h), fun _ => ?_, fun h => (by cases h), trivial⟩
      · intro vs W1 m1 hE hM hV hD; obtain ⟨⟨_, _, -, i57, f57⟩, -, -⟩ := hD; have f57 : BvR _ (vs 57) x y e := f57; replace f57 := f57.le i57.le; clear i57; obtain ⟨u0, e57, k⟩ := f57; generalize vs 57 = x57 at e57 ⊢; subst x57
        exact ⟨_, Or.inl ⟨(by rfl), fun w => (by rfl)⟩, rfl⟩
    intro vs W1 m1 hE hM hV hF hD
    obtain ⟨-, -, -, -, ⟨_, _, -, i62, f62⟩, ⟨_, _, -, i63, f63⟩, ⟨_, _, -, i57, f57⟩, ⟨_, _, -, i64, f64⟩, ⟨_, _, -, -, f65⟩, ⟨_, _, j11, i11, f11⟩, -⟩ := hF
    replace hL := hL.call hE hM hV
    replace f62 : FrG _ (vs 62) xu yu := f62
    replace f62 := f62.le i62.le
    clear i62
    replace f63 : BvR _ (vs 63) x y e := f63
    replace f63 := f63.le i63.le
    clear i63
    replace f57 : BvR _ (vs 57) x y e := f57
    replace f57 := f57.le i57.le
    clear i57
    replace f64 : FracP _ (vs 64) x y := f64
    replace f64 := f64.le i64.le
    clear i64
    obtain ⟨g64, A64, n64, c64, h64, B64, k64, d64, e64, f64⟩ := f64.lit
    generalize vs 64 = x64 at e64 ⊢
    subst x64
    have f65 : vs 65 = _ := f65
    generalize vs 65 = x65 at f65 ⊢
    subst x65
    obtain ⟨b11, e11, hL⟩ := Loc.addB (Lt := []) hB1 hB2 hL f11 j11 i11 ad0
    simp only [e11, List.cons_append, List.nil_append] at hL ⊢
    clear e11 f11 j11 i11
    clear hB1 hB2 hB3 hD
    clear hE hV
    simp only [List.drop_succ_cons, List.drop_zero]
    go_wp2_with (first | ((with_reducible refine kAny ?_); go_skip) | (with_reducible refine stA ?_) | ((first | refine tFd ?_ | refine tLd ?_ | ((first | refine tSr ?_ | refine tSt ?_); clear hL; intro _ hL; simp only [splice, zq1, zq2, zq3] at hL) | (refine tAl ?_; clear hL; intro _ _ hL _) | (refine tBs ?_; clear hL; intro _ _ hL _ hBs)); simp only [Act.put, zq1, zq2, zq3]))
    refine QN.mk ?_
    go_wp2_with (first | ((with_reducible refine kAny ?_); go_skip) | (with_reducible refine stA ?_) | ((first | refine tFd ?_ | refine tLd ?_ | ((first | refine tSr ?_ | refine tSt ?_); clear hL; intro _ hL; simp only [splice, zq1, zq2, zq3] at hL) | (refine tAl ?_; clear hL; intro _ _ hL _) | (refine tBs ?_; clear hL; intro _ _ hL _ hBs)); simp only [Act.put, zq1, zq2, zq3]))
    refine (r_SameP _ _ x y _ _ hL.vw (HU.out.le leX) (f64.le leX) L1.out L2.out).mono ?_
    rintro e Wc8 ⟨_, mc8, rfl, hE, hMc8, hV, rfl⟩
    replace hL := hL.call hE (by assumption) hV; clear hE hV
    go_wp2_with (first | ((with_reducible refine kAny ?_); go_skip) | (with_reducible refine stA ?_) | ((first | refine tFd ?_ | refine tLd ?_ | ((first | refine tSr ?_ | refine tSt ?_); clear hL; intro _ hL; simp only [splice, zq1, zq2, zq3] at hL) | (refine tAl ?_; clear hL; intro _ _ hL _) | (refine tBs ?_; clear hL; intro _ _ hL _ hBs)); simp only [Act.put, zq1, zq2, zq3]))
    refine (k_known _ _ hL.vw).mono ?_
    rintro e Wc9 ⟨_, mc9, rfl, hE, hMc9, hV, rfl⟩
    replace hL := hL.call hE (by assumption) hV; clear hE hV
    go_wp2_with (first | ((with_reducible refine kAny ?_); go_skip) | (with_reducible refine stA ?_) | ((first | refine tFd ?_ | refine tLd ?_ | ((first | refine tSr ?_ | refine tSt ?_); clear hL; intro _ hL; simp only [splice, zq1, zq2, zq3] at hL) | (refine tAl ?_; clear hL; intro _ _ hL _) | (refine tBs ?_; clear hL; intro _ _ hL _ hBs)); simp only [Act.put, zq1, zq2, zq3]))
    go_ret
    exact RetV.mk hL rfl
  · refine wl_bslice hL (wanted_none rfl) rfl (n := 2) (cs := #[.int .i64 0, .int .i64 5]) (e := 3) (fun w => by go_simp) ?_
    clear hL
    intro W34 m34 hL e34 hb34
    simp only [Act.put, zq1, zq2, zq3]
    refine StepL.mk (keep5 (hL.at_ lo0)) ?_
    refine wpL_two 2 4 (by kernel_rfl) rfl rfl ?_ ?_
    · refine wl_append hL.app0 (Row.nil _ 2) (wanted_none rfl) rfl ap_Cuts (by omega) rfl rfl (news := cellsOf vs1) N1'.out (H2.out.le (Le.trans leX hL.vw.le)) O1.out (by omega) (by omega) ?_
      clear hL
      intro v33 W33 m33 R33 hL r33 e33
      obtain ⟨A33, c33, rfl, -⟩ := r33.lit
      simp only [List.cons_append] at hL
      simp only [Nat.zero_add, List.nil_append] at r33 ⊢
      simp only [Act.put, zq1, zq2, zq3]
      refine StepL.mk (keep5 (hL.at_ lo0)) ?_
      refine wpL_one 4 (by kernel_rfl) rfl ?_
      go_wp2_with (first | ((with_reducible refine kAny ?_); go_skip) | (with_reducible refine stA ?_) | ((first | refine tFd ?_ | refine tLd ?_ | ((first | refine tSr ?_ | refine tSt ?_); clear hL; intro _ hL; simp only [splice, zq1, zq2, zq3] at hL) | (refine tAl ?_; clear hL; intro _ _ hL _) | (refine tBs ?_; clear hL; intro _ _ hL _ hBs)); simp only [Act.put, zq1, zq2, zq3]))
      refine StepL.mk (keep5 (hL.at_ lo0)) ?_
      refine wpL_one 5 (by kernel_rfl) rfl ?_
      refine t_bsA hL rfl rfl ?_
      clear hL
      intro _ _ hL _ hb36
      simp only [Act.put, zq1, zq2, zq3]
      refine StepL.mk (keep5 (hL.at_ lo0)) ?_
      refine wpL_one 6 (by kernel_rfl) rfl ?_
      refine wl_append (A := _ :: _ :: R) hL r33 (wanted_none rfl) rfl ap_Cuts (by omega) rfl rfl (news := [.slice (some ⟨_, 0, none⟩) 2 2, .int .i64 2]) rfl ((Blk.sl hb36 (n := 2) rfl).le (Le.trans leX hL.vw.le)) rfl (by omega) (by omega) ?_
      clear hL
      intro v37 W37 m37 R37 hL r37 e37
      obtain ⟨A37, c37, rfl, -⟩ := r37.lit
      have h05 : IntL m37 (.slice (some ⟨_, 0, none⟩) 2 2) [0, 5] := ListV.mk (vs := [.int .i64 0, .int .i64 5]) (by omega) rfl (fun u hu => by simp at hu; rcases hu with rfl | rfl <;> rfl) ((Blk.sl hb34 (n := 2) rfl).le leX) ⟨rfl, rfl, trivial⟩
      have ra37 := RowA.snoc (R := CutR) (m := m37) (x := ([0, 5], 2)) r37 H1.out (H3.out.mono fun v x hv => CutR.mono _ _ _ _ hv leX) LY.out rfl ⟨_, rfl, h05, by simp⟩
      obtain ⟨m38, hL38, hle38, hcu38, -⟩ := RowA.show (A := _ :: _ :: R) CutR.mono hL ra37
      have hle39 : Le mc2 m38 := Le.trans leX hle38
      clear hL r33 r37 ra37 h05 hb34 hb36
      have hL := hL38
      clear hL38
      simp only [Act.put, zq1, zq2, zq3]
      refine StepL.mk (keep5 (hL.at_ lo0)) ?_
      refine wpL_take 12 12 (v := ?_) rfl (by kernel_rfl) (fun _ _ _ h => h) (keep5 (hL.at_ lo0)) (by rfl) ?yld ?_
      case yld => (intro w' hSw; obtain ⟨s1, s2, s3, s4⟩ := hSw; go_simp; try with_reducible rfl)
      simp only [Act.put, zq1, zq2, zq3]
      refine wpL_one 9 (by kernel_rfl) rfl ?_
      go_wp2_with (first | ((with_reducible refine kAny ?_); go_skip) | (with_reducible refine stA ?_) | ((first | refine tFd ?_ | refine tLd ?_ | ((first | refine tSr ?_ | refine tSt ?_); clear hL; intro _ hL; simp only [splice, zq1, zq2, zq3] at hL) | (refine tAl ?_; clear hL; intro _ _ hL _) | (refine tBs ?_; clear hL; intro _ _ hL _ hBs)); simp only [Act.put, zq1, zq2, zq3]))
      refine (r_Int (-1) _ _ hL.vw (by decide) (by decide)).mono ?_
      rintro e Wi1 ⟨vi1, mi1, rfl, hE, hMi1, hV, hi1⟩
      replace hL := hL.call hE (by assumption) hV; clear hE hV
      obtain ⟨gi1', Ai1', ni1', ci1', hi1', Bi1', ki1', di1', rfl, hi1⟩ := hi1.lit
      go_wp2_with (first | ((with_reducible refine kAny ?_); go_skip) | (with_reducible refine stA ?_) | ((first | refine tFd ?_ | refine tLd ?_ | ((first | refine tSr ?_ | refine tSt ?_); clear hL; intro _ hL; simp only [splice, zq1, zq2, zq3] at hL) | (refine tAl ?_; clear hL; intro _ _ hL _) | (refine tBs ?_; clear hL; intro _ _ hL _ hBs)); simp only [Act.put, zq1, zq2, zq3]))
      refine StepL.mk (keep5 (hL.at_ lo0)) ?_
      refine wpL_one 10 (by kernel_rfl) rfl ?_
      refine t_bsA hL rfl rfl ?_
      clear hL
      intro _ _ hL _ hb41
      simp only [Act.put, zq1, zq2, zq3]
      refine StepL.mk (keep5 (hL.at_ lo0)) ?_
      refine wpL_one 11 (by kernel_rfl) rfl ?_
      refine wl_append (A := [_, _]) hL R2.out (wanted_none rfl) rfl ap_Fracs (by omega) rfl rfl (news := [.bool gi1', .slice Ai1' ni1' ci1', .bool hi1', .slice Bi1' ki1' di1']) rfl ((Blk.sl hb41 (n := 4) rfl).le (Le.trans leX hL.vw.le)) rfl (by omega) (by omega) ?_
      clear hL
      intro v42 W42 m42 R42 hL r42 e42
      obtain ⟨A42, c42, rfl, -⟩ := r42.lit
      have hle42 : Le mc2 m42 := Le.trans hle39 leX
      have ra42 := RowA.snoc (R := FracC) (m := m42) (x := ((-1 : Int) : Rat)) r42 Z2.out (Y2.out.mono fun v x hv => FracC.mono _ _ _ _ hv hle42) L2.out rfl (hi1.le leX)
      obtain ⟨m43, hL43, hle43, hcd43, -⟩ := RowA.show (A := [_, _]) FracC.mono hL ra42
      have hcu43 := CutL.le hcu38 (Le.trans (leX : Le m38 m42) hle43)
      have hle44 := Le.trans hle42 hle43
      clear hL r42 ra42 hb41 hi1
      have hL := hL43
      clear hL43
      simp only [Act.put, zq1, zq2, zq3]
      refine StepL.mk (keep5 (hL.at_ lo0)) ?_
      refine wpL_one 13 (by kernel_rfl) rfl ?_
      go_wp2_with (first | ((with_reducible refine kAny ?_); go_skip) | (with_reducible refine stA ?_) | ((first | refine tFd ?_ | refine tLd ?_ | ((first | refine tSr ?_ | refine tSt ?_); clear hL; intro _ hL; simp only [splice, zq1, zq2, zq3] at hL) | (refine tAl ?_; clear hL; intro _ _ hL _) | (refine tBs ?_; clear hL; intro _ _ hL _ hBs)); simp only [Act.put, zq1, zq2, zq3]))
      refine StepL.mkL (by kernel_rfl) ?_
      refine wpL_one 14 (by kernel_rfl) rfl ?_
      go_wp2_with (first | ((with_reducible refine kAny ?_); go_skip) | (with_reducible refine stA ?_) | ((first | refine tFd ?_ | refine tLd ?_ | ((first | refine tSr ?_ | refine tSt ?_); clear hL; intro _ hL; simp only [splice, zq1, zq2, zq3] at hL) | (refine tAl ?_; clear hL; intro _ _ hL _) | (refine tBs ?_; clear hL; intro _ _ hL _ hBs)); simp only [Act.put, zq1, zq2, zq3]))
      refine StepL.mkL (by kernel_rfl) ?_
      refine wpL_one 15 (by kernel_rfl) rfl ?_
      go_wp2_with (first | ((with_reducible refine kAny ?_); go_skip) | (with_reducible refine stA ?_) | ((first | refine tFd ?_ | refine tLd ?_ | ((first | refine tSr ?_ | refine tSt ?_); clear hL; intro _ hL; simp only [splice, zq1, zq2, zq3] at hL) | (refine tAl ?_; clear hL; intro _ _ hL _) | (refine tBs ?_; clear hL; intro _ _ hL _ hBs)); simp only [Act.put, zq1, zq2, zq3]))
      refine StepL.mkL (by kernel_rfl) ?_
      refine wpL_done (by kernel_rfl) ?_ _
      refine NoPanic.normal ?_
      have KB : Hid (BothB m43 (.agg #[.int .i64 ms.nf, .slice M1 q1 d1, .int .i64 ms.pen, .slice M2 q2 d2, .slice M3 q3 d3]) (.agg #[.slice A0 p.fl.length c0, .slice A37 (nu + 1) c37, .slice A42 (nd + 1) c42, .slice A3 p.de.length c3, .bool false]) (xu, yu)) :=
        bothB_ok (HM.out.le hle44) (p := prX p) ⟨_, _, _, _, rfl, FracL.le HFL.out hle44, hcu43, hcd43, DecL.le HDE.out hle44⟩ PX.out
      clear HFL HDE hcu43 hcd43 HM hcu38 hle39 hle38 hle42 hle43 hle44 H1 H2 H3 O1 Z2 Y2 R2 N1' LY L2 PN PM PX PB P6 MO PP HNF HCU hfl hde pn pm HND HNU
      generalize nu + 1 = nu1 at *
      generalize nd + 1 = nd1 at *
      obtain ⟨x, y, e, l1, l2, k1, k2⟩ := KB.out
      have K1 := Lib.hid k1
      have K2 := Lib.hid k2
      have L1 := Lib.hid l1
      have L2 := Lib.hid l2
      have bee : ((e : Int) == e) = true := by simp
      clear k1 k2 l1 l2 KB
      go_upto_region 12 with ((first | ((with_reducible refine kAny ?_); go_skip) | (with_reducible refine stA ?_) | ((first | refine tFd ?_ | refine tLd ?_ | ((first | refine tSr ?_ | refine tSt ?_); clear hL; intro _ hL; simp only [splice, zq1, zq2, zq3] at hL) | (refine tAl ?_; clear hL; intro _ _ hL _) | (refine tBs ?_; clear hL; intro _ _ hL _ hBs)); simp only [Act.put, zq1, zq2, zq3])))
      obtain ⟨B, hB1, hB2, hB3⟩ := hL.bound
      refine wp_region_by2 10 [false, false, false, false, false, false, false, false, false, true] [false, false, false, false, false, false, false, false, true, false] [(fun v _ _ => v = ?c12_0b), (fun v _ _ => v = ?c12_1b), (fun v _ _ => v = ?c12_2b), (fun v _ _ => v = ?c12_3b), Of (fun um v => FrG um v xu yu), Of (fun um v => BvR um v x y e), Of (fun um v => BvR um v x y e), Of (fun um v => FracP um v x y), Is (.int .i64 e), NewBlk B 39 #[.bool false, .slice none 0 0, .bool false, .slice none 0 0]] hL.vw mixed [49, 50, 51, 52, 53, 54, 48, 55, 56, 9] _ (by kernel_rfl) (fun vs => by simp only [lay, Act.put, zq1, zq2, zq3]; rfl) (by kernel_rfl) (by decide) (by decide) ?s12b ?l12b ?r12b
      case s12b =>
        refine ⟨?_, ?_, ?_, ?_, ?_, ?_, ?_, ?_, ?_, ?_, trivial⟩
        · intro vs W1 m1 hE hM hV hD; clear hD; replace hL := hL.call hE hM hV
          exact sLd
        · intro vs W1 m1 hE hM hV hD; clear hD; replace hL := hL.call hE hM hV
          exact sLd
        · intro vs W1 m1 hE hM hV hD; clear hD; replace hL := hL.call hE hM hV
          exact sPu
        · intro vs W1 m1 hE hM hV hD; obtain ⟨⟨_, _, -, -, f51⟩, -⟩ := hD; have f51 : vs 51 = _ := f51; generalize vs 51 = x51 at f51 ⊢; subst x51; replace hL := hL.call hE hM hV
          exact sPu
        · intro vs W1 m1 hE hM hV hD; obtain ⟨⟨_, _, -, -, f52⟩, -⟩ := hD; have f52 : vs 52 = _ := f52; generalize vs 52 = x52 at f52 ⊢; subst x52
          go_wp2_with fail
          refine (KW1.out _ _ hV).mono ?_
          rintro e W2 ⟨v, m2, rfl, hE2, hM2, hV2, h⟩
          go_wp2_with fail
          refine One2.call hE2 hM2 hV2 ?_; first | exact h | exact rfl
        · intro vs W1 m1 hE hM hV hD; obtain ⟨⟨_, _, -, -, f49⟩, ⟨_, _, -, -, f50⟩, ⟨_, _, -, i53, f53⟩, -, -⟩ := hD; have f49 : vs 49 = _ := f49; generalize vs 49 = x49 at f49 ⊢; subst x49; have f50 : vs 50 = _ := f50; generalize vs 50 = x50 at f50 ⊢; subst x50; have f53 : FrG _ (vs 53) xu yu := f53; replace f53 := f53.le i53.le; clear i53
          go_wp2_with fail
          refine (K1.out _ _ _ hV leX f53).mono ?_
          rintro e W2 ⟨v, m2, rfl, hE2, hM2, hV2, h⟩
          go_wp2_with fail
          refine One2.call hE2 hM2 hV2 ?_; first | exact h | exact rfl
        · intro vs W1 m1 hE hM hV hD; obtain ⟨⟨_, _, -, i54, f54⟩, -⟩ := hD; have f54 : BvR _ (vs 54) x y e := f54; replace f54 := f54.le i54.le; clear i54
          go_wp2_with fail
          refine One2.still hV ?_; exact f54
        · intro vs W1 m1 hE hM hV hD; obtain ⟨⟨_, _, -, i48, f48⟩, -⟩ := hD; have f48 : BvR _ (vs 48) x y e := f48; replace f48 := f48.le i48.le; clear i48; obtain ⟨u0, e48, k⟩ := f48; generalize vs 48 = x48 at e48 ⊢; subst x48; replace hL := hL.call hE hM hV
          go_wp2_with (first | ((with_reducible refine kAny ?_); go_skip) | (with_reducible refine stA ?_) | ((first | refine tFd ?_ | refine tLd ?_ | ((first | refine tSr ?_ | refine tSt ?_); clear hL; intro _ hL; simp only [splice, zq1, zq2, zq3] at hL) | (refine tAl ?_; clear hL; intro _ _ hL _) | (refine tBs ?_; clear hL; intro _ _ hL _ hBs)); simp only [Act.put, zq1, zq2, zq3]))
          refine One2.still hV ?_; exact k
        · intro vs W1 m1 hE hM hV hD; obtain ⟨⟨_, _, -, i48, f48⟩, -, -⟩ := hD; have f48 : BvR _ (vs 48) x y e := f48; replace f48 := f48.le i48.le; clear i48; obtain ⟨u0, e48, k⟩ := f48; generalize vs 48 = x48 at e48 ⊢; subst x48; replace hL := hL.call hE hM hV
          go_wp2_with (first | ((with_reducible refine kAny ?_); go_skip) | (with_reducible refine stA ?_) | ((first | refine tFd ?_ | refine tLd ?_ | ((first | refine tSr ?_ | refine tSt ?_); clear hL; intro _ hL; simp only [splice, zq1, zq2, zq3] at hL) | (refine tAl ?_; clear hL; intro _ _ hL _) | (refine tBs ?_; clear hL; intro _ _ hL _ hBs)); simp only [Act.put, zq1, zq2, zq3]))
          refine One2.still hV ?_; exact rfl
        · intro vs W1 m1 hE hM hV hD; clear hD
          exact one2_alloc hV (Nat.le_trans hB3 hE.size) rfl rfl rfl ZcC.h
      case l12b =>
        refine ⟨fun h => (by cases h), fun h => (by cases h), fun h => (by cases h), fun h => (by cases h), fun h => (by cases h), fun h => (by cases h), fun h => (by cases h), fun h => (by cases h), fun _ => ?_, fun h => (by cases h), trivial⟩
        · intro vs W1 m1 hE hM hV hD; obtain ⟨⟨_, _, -, i48, f48⟩, -, -⟩ := hD; have f48 : BvR _ (vs 48) x y e := f48; replace f48 := f48.le i48.le; clear i48; obtain ⟨u0, e48, k⟩ := f48; generalize vs 48 = x48 at e48 ⊢; subst x48
          exact ⟨_, Or.inl ⟨(by rfl), fun w => (by rfl)⟩, rfl⟩
      intro vs W1 m1 hE hM hV hF hD
      obtain ⟨-, -, -, -, ⟨_, _, -, i53, f53⟩, ⟨_, _, -, i54, f54⟩, ⟨_, _, -, i48, f48⟩, ⟨_, _, -, i55, f55⟩, ⟨_, _, -, -, f56⟩, ⟨_, _, j9, i9, f9⟩, -⟩ := hF
      replace hL := hL.call hE hM hV
      replace f53 : FrG _ (vs 53) xu yu := f53
      replace f53 := f53.le i53.le
      clear i53
      replace f54 : BvR _ (vs 54) x y e := f54
      replace f54 := f54.le i54.le
      clear i54
      replace f48 : BvR _ (vs 48) x y e := f48
      replace f48 := f48.le i48.le
      clear i48
      replace f55 : FracP _ (vs 55) x y := f55
      replace f55 := f55.le i55.le
      clear i55
      obtain ⟨g55, A55, n55, c55, h55, B55, k55, d55, e55, f55⟩ := f55.lit
      generalize vs 55 = x55 at e55 ⊢
      subst x55
      have f56 : vs 56 = _ := f56
      generalize vs 56 = x56 at f56 ⊢
      subst x56
      obtain ⟨b9, e9, hL⟩ := Loc.addB (Lt := []) hB1 hB2 hL f9 j9 i9 ad0
      simp only [e9, List.cons_append, List.nil_append] at hL ⊢
      clear e9 f9 j9 i9
      clear hB1 hB2 hB3 hD
      clear hE hV
      simp only [List.drop_succ_cons, List.drop_zero]
      go_wp2_with (first | ((with_reducible refine kAny ?_); go_skip) | (with_reducible refine stA ?_) | ((first | refine tFd ?_ | refine tLd ?_ | ((first | refine tSr ?_ | refine tSt ?_); clear hL; intro _ hL; simp only [splice, zq1, zq2, zq3] at hL) | (refine tAl ?_; clear hL; intro _ _ hL _) | (refine tBs ?_; clear hL; intro _ _ hL _ hBs)); simp only [Act.put, zq1, zq2, zq3]))
      refine QN.mk ?_
      have HU := Lib.hid f55
      clear f55 f54 f53 f48
      go_upto_region 13 with ((first | ((with_reducible refine kAny ?_); go_skip) | (with_reducible refine stA ?_) | ((first | refine tFd ?_ | refine tLd ?_ | ((first | refine tSr ?_ | refine tSt ?_); clear hL; intro _ hL; simp only [splice, zq1, zq2, zq3] at hL) | (refine tAl ?_; clear hL; intro _ _ hL _) | (refine tBs ?_; clear hL; intro _ _ hL _ hBs)); simp only [Act.put, zq1, zq2, zq3])))
      obtain ⟨B, hB1, hB2, hB3⟩ := hL.bound
      refine wp_region_by2 10 [false, false, false, false, false, false, false, false, false, true] [false, false, false, false, false, false, false, false, true, false] [(fun v _ _ => v = ?c13_0b), (fun v _ _ => v = ?c13_1b), (fun v _ _ => v = ?c13_2b), (fun v _ _ => v = ?c13_3b), Of (fun um v => FrG um v xu yu), Of (fun um v => BvR um v x y e), Of (fun um v => BvR um v x y e), Of (fun um v => FracP um v x y), Is (.int .i64 e), NewBlk B 39 #[.bool false, .slice none 0 0, .bool false, .slice none 0 0]] hL.vw mixed [58, 59, 60, 61, 62, 63, 57, 64, 65, 11] _ (by kernel_rfl) (fun vs => by simp only [lay, Act.put, zq1, zq2, zq3]; rfl) (by kernel_rfl) (by decide) (by decide) ?s13b ?l13b ?r13b
      case s13b =>
        refine ⟨?_, ?_, ?_, ?_, ?_, ?_, ?_, ?_, ?_, ?_, trivial⟩
        · intro vs W1 m1 hE hM hV hD; clear hD; replace hL := hL.call hE hM hV
          exact sLd
        · intro vs W1 m1 hE hM hV hD; clear hD; replace hL := hL.call hE hM hV
          exact sLd
        · intro vs W1 m1 hE hM hV hD; clear hD; replace hL := hL.call hE hM hV
          exact sPu
        · intro vs W1 m1 hE hM hV hD; obtain ⟨⟨_, _, -, -, f60⟩, -⟩ := hD; have f60 : vs 60 = _ := f60; generalize vs 60 = x60 at f60 ⊢; subst x60; replace hL := hL.call hE hM hV
          exact sPu
        · intro vs W1 m1 hE hM hV hD; obtain ⟨⟨_, _, -, -, f61⟩, -⟩ := hD; have f61 : vs 61 = _ := f61; generalize vs 61 = x61 at f61 ⊢; subst x61
          go_wp2_with fail
          refine (KW1.out _ _ hV).mono ?_
          rintro e W2 ⟨v, m2, rfl, hE2, hM2, hV2, h⟩
          go_wp2_with fail
          refine One2.call hE2 hM2 hV2 ?_; first | exact h | exact rfl
        · intro vs W1 m1 hE hM hV hD; obtain ⟨⟨_, _, -, -, f58⟩, ⟨_, _, -, -, f59⟩, ⟨_, _, -, i62, f62⟩, -, -⟩ := hD; have f58 : vs 58 = _ := f58; generalize vs 58 = x58 at f58 ⊢; subst x58; have f59 : vs 59 = _ := f59; generalize vs 59 = x59 at f59 ⊢; subst x59; have f62 : FrG _ (vs 62) xu yu := f62; replace f62 := f62.le i62.le; clear i62
          go_wp2_with fail
          refine (K2.out _ _ _ hV leX f62).mono ?_
          rintro e W2 ⟨v, m2, rfl, hE2, hM2, hV2, h⟩
          go_wp2_with fail
          refine One2.call hE2 hM2 hV2 ?_; first | exact h | exact rfl
        · intro vs W1 m1 hE hM hV hD; obtain ⟨⟨_, _, -, i63, f63⟩, -⟩ := hD; have f63 : BvR _ (vs 63) x y e := f63; replace f63 := f63.le i63.le; clear i63
          go_wp2_with fail
          refine One2.still hV ?_; exact f63
        · intro vs W1 m1 hE hM hV hD; obtain ⟨⟨_, _, -, i57, f57⟩, -⟩ := hD; have f57 : BvR _ (vs 57) x y e := f57; replace f57 := f57.le i57.le; clear i57; obtain ⟨u0, e57, k⟩ := f57; generalize vs 57 = x57 at e57 ⊢; subst x57; replace hL := hL.call hE hM hV
          go_wp2_with (first | ((with_reducible refine kAny ?_); go_skip) | (with_reducible refine stA ?_) | ((first | refine tFd ?_ | refine tLd ?_ | ((first | refine tSr ?_ | refine tSt ?_); clear hL; intro _ hL; simp only [splice, zq1, zq2, zq3] at hL) | (refine tAl ?_; clear hL; intro _ _ hL _) | (refine tBs ?_; clear hL; intro _ _ hL _ hBs)); simp only [Act.put, zq1, zq2, zq3]))
          refine One2.still hV ?_; exact k
        · intro vs W1 m1 hE hM hV hD; obtain ⟨⟨_, _, -, i57, f57⟩, -, -⟩ := hD; have f57 : BvR _ (vs 57) x y e := f57; replace f57 := f57.le i57.le; clear i57; obtain ⟨u0, e57, k⟩ := f57; generalize vs 57 = x57 at e57 ⊢; subst x57; replace hL := hL.call hE hM hV
          go_wp2_with (first | ((with_reducible refine kAny ?_); go_skip) | (with_reducible refine stA ?_) | ((first | refine tFd ?_ | refine tLd ?_ | ((first | refine tSr ?_ | refine tSt ?_); clear hL; intro _ hL; simp only [splice, zq1, zq2, zq3] at hL) | (refine tAl ?_; clear hL; intro _ _ hL _) | (refine tBs ?_; clear hL; intro _ _ hL _ hBs)); simp only [Act.put, zq1, zq2, zq3]))
          refine One2.still hV ?_; exact rfl
        · intro vs W1 m1 hE hM hV hD; clear hD
          exact one2_alloc hV (Nat.le_trans hB3 hE.size) rfl rfl rfl ZcC.h
      case l13b =>
        refine ⟨fun h => (by cases h), fun h => (by cases h), fun h => (by cases h), fun h => (by cases h), fun h => (by cases h), fun h => (by cases h), fun h => (by cases h), fun h => (by cases h), fun _ => ?_, fun h => (by cases h), trivial⟩
        · intro vs W1 m1 hE hM hV hD; obtain ⟨⟨_, _, -, i57, f57⟩, -, -⟩ := hD; have f57 : BvR _ (vs 57) x y e := f57; replace f57 := f57.le i57.le; clear i57; obtain ⟨u0, e57, k⟩ := f57; generalize vs 57 = x57 at e57 ⊢; subst x57
          exact ⟨_, Or.inl ⟨(by rfl), fun w => (by rfl)⟩, rfl⟩
      intro vs W1 m1 hE hM hV hF hD
      obtain ⟨-, -, -, -, ⟨_, _, -, i62, f62⟩, ⟨_, _, -, i63, f63⟩, ⟨_, _, -, i57, f57⟩, ⟨_, _, -, i64, f64⟩, ⟨_, _, -, -, f65⟩, ⟨_, _, j11, i11, f11⟩, -⟩ := hF
      replace hL := hL.call hE hM hV
      replace f62 : FrG _ (vs 62) xu yu := f62
      replace f62 := f62.le i62.le
      clear i62
      replace f63 : BvR _ (vs 63) x y e := f63
      replace f63 := f63.le i63.le
      clear i63
      replace f57 : BvR _ (vs 57) x y e := f57
      replace f57 := f57.le i57.le
      clear i57
      replace f64 : FracP _ (vs 64) x y := f64
      replace f64 := f64.le i64.le
      clear i64
      obtain ⟨g64, A64, n64, c64, h64, B64, k64, d64, e64, f64⟩ := f64.lit
      generalize vs 64 = x64 at e64 ⊢
      subst x64
      have f65 : vs 65 = _ := f65
      generalize vs 65 = x65 at f65 ⊢
      subst x65
      obtain ⟨b11, e11, hL⟩ := Loc.addB (Lt := []) hB1 hB2 hL f11 j11 i11 ad0
      simp only [e11, List.cons_append, List.nil_append] at hL ⊢
      clear e11 f11 j11 i11
      clear hB1 hB2 hB3 hD
      clear hE hV
      simp only [List.drop_succ_cons, List.drop_zero]
      go_wp2_with (first | ((with_reducible refine kAny ?_); go_skip) | (with_reducible refine stA ?_) | ((first | refine tFd ?_ | refine tLd ?_ | ((first | refine tSr ?_ | refine tSt ?_); clear hL; intro _ hL; simp only [splice, zq1, zq2, zq3] at hL) | (refine tAl ?_; clear hL; intro _ _ hL _) | (refine tBs ?_; clear hL; intro _ _ hL _ hBs)); simp only [Act.put, zq1, zq2, zq3]))
      refine QN.mk ?_
      go_wp2_with (first | ((with_reducible refine kAny ?_); go_skip) | (with_reducible refine stA ?_) | ((first | refine tFd ?_ | refine tLd ?_ | ((first | refine tSr ?_ | refine tSt ?_); clear hL; intro _ hL; simp only [splice, zq1, zq2, zq3] at hL) | (refine tAl ?_; clear hL; intro _ _ hL _) | (refine tBs ?_; clear hL; intro _ _ hL _ hBs)); simp only [Act.put, zq1, zq2, zq3]))
      refine (r_SameP _ _ x y _ _ hL.vw (HU.out.le leX) (f64.le leX) L1.out L2.out).mono ?_
      rintro e Wc8 ⟨_, mc8, rfl, hE, hMc8, hV, rfl⟩
      replace hL := hL.call hE (by assumption) hV; clear hE hV
      go_wp2_with (first | ((with_reducible refine kAny ?_); go_skip) | (with_reducible refine stA ?_) | ((first | refine tFd ?_ | refine tLd ?_ | ((first | refine tSr ?_ | refine tSt ?_); clear hL; intro _ hL; simp only [splice, zq1, zq2, zq3] at hL) | (refine tAl ?_; clear hL; intro _ _ hL _) | (refine tBs ?_; clear hL; intro _ _ hL _ hBs)); simp only [Act.put, zq1, zq2, zq3]))
      refine (k_known _ _ hL.vw).mono ?_
      rintro e Wc9 ⟨_, mc9, rfl, hE, hMc9, hV, rfl⟩
      replace hL := hL.call hE (by assumption) hV; clear hE hV
      go_wp2_with (first | ((with_reducible refine kAny ?_); go_skip) | (with_reducible refine stA ?_) | ((first | refine tFd ?_ | refine tLd ?_ | ((first | refine tSr ?_ | refine tSt ?_); clear hL; intro _ hL; simp only [splice, zq1, zq2, zq3] at hL) | (refine tAl ?_; clear hL; intro _ _ hL _) | (refine tBs ?_; clear hL; intro _ _ hL _ hBs)); simp only [Act.put, zq1, zq2, zq3]))
      go_ret
      exact RetV.mk hL rfl
    · go_wp2_with (first | ((with_reducible refine kAny ?_); go_skip) | (with_reducible refine stA ?_) | ((first | refine tFd ?_ | refine tLd ?_ | ((first | refine tSr ?_ | refine tSt ?_); clear hL; intro _ hL; simp only [splice, zq1, zq2, zq3] at hL) | (refine tAl ?_; clear hL; intro _ _ hL _) | (refine tBs ?_; clear hL; intro _ _ hL _ hBs)); simp only [Act.put, zq1, zq2, zq3]))
      refine StepL.mk (keep5 (hL.at_ lo0)) ?_
      refine wpL_two 2 5 (by kernel_rfl) rfl rfl ?_ ?_
      · refine wl_append hL.app0 (Row.nil _ 2) (wanted_none rfl) rfl ap_Cuts (by omega) rfl rfl (news := cellsOf vs1) N1'.out (H2.out.le (Le.trans leX hL.vw.le)) O1.out (by omega) (by omega) ?_
        clear hL
        intro v33 W33 m33 R33 hL r33 e33
        obtain ⟨A33, c33, rfl, -⟩ := r33.lit
        simp only [List.cons_append] at hL
        simp only [Nat.zero_add, List.nil_append] at r33 ⊢
        simp only [Act.put, zq1, zq2, zq3]
        refine StepL.mk (keep5 (hL.at_ lo0)) ?_
        refine wpL_one 5 (by kernel_rfl) rfl ?_
        refine t_bsA hL rfl rfl ?_
        clear hL
        intro _ _ hL _ hb36
        simp only [Act.put, zq1, zq2, zq3]
        refine StepL.mk (keep5 (hL.at_ lo0)) ?_
        refine wpL_one 6 (by kernel_rfl) rfl ?_
        refine wl_append (A := _ :: _ :: R) hL r33 (wanted_none rfl) rfl ap_Cuts (by omega) rfl rfl (news := [.slice (some ⟨_, 0, none⟩) 2 2, .int .i64 2]) rfl ((Blk.sl hb36 (n := 2) rfl).le (Le.trans leX hL.vw.le)) rfl (by omega) (by omega) ?_
        clear hL
        intro v37 W37 m37 R37 hL r37 e37
        obtain ⟨A37, c37, rfl, -⟩ := r37.lit
        have h05 : IntL m37 (.slice (some ⟨_, 0, none⟩) 2 2) [0, 5] := ListV.mk (vs := [.int .i64 0, .int .i64 5]) (by omega) rfl (fun u hu => by simp at hu; rcases hu with rfl | rfl <;> rfl) ((Blk.sl hb34 (n := 2) rfl).le leX) ⟨rfl, rfl, trivial⟩
        have ra37 := RowA.snoc (R := CutR) (m := m37) (x := ([0, 5], 2)) r37 H1.out (H3.out.mono fun v x hv => CutR.mono _ _ _ _ hv leX) LY.out rfl ⟨_, rfl, h05, by simp⟩
        obtain ⟨m38, hL38, hle38, hcu38, -⟩ := RowA.show (A := _ :: _ :: R) CutR.mono hL ra37
        have hle39 : Le mc2 m38 := Le.trans leX hle38
        clear hL r33 r37 ra37 h05 hb34 hb36
        have hL := hL38
        clear hL38
        simp only [Act.put, zq1, zq2, zq3]
        refine StepL.mk (keep5 (hL.at_ lo0)) ?_
        refine wpL_take 12 12 (v := ?_) rfl (by kernel_rfl) (fun _ _ _ h => h) (keep5 (hL.at_ lo0)) (by rfl) ?yld ?_
        case yld => (intro w' hSw; obtain ⟨s1, s2, s3, s4⟩ := hSw; go_simp; try with_reducible rfl)
        simp only [Act.put, zq1, zq2, zq3]
        refine wpL_one 9 (by kernel_rfl) rfl ?_
        go_wp2_with (first | ((with_reducible refine kAny ?_); go_skip) | (with_reducible refine stA ?_) | ((first | refine tFd ?_ | refine tLd ?_ | ((first | refine tSr ?_ | refine tSt ?_); clear hL; intro _ hL; simp only [splice, zq1, zq2, zq3] at hL) | (refine tAl ?_; clear hL; intro _ _ hL _) | (refine tBs ?_; clear hL; intro _ _ hL _ hBs)); simp only [Act.put, zq1, zq2, zq3]))
        refine (r_Int (-1) _ _ hL.vw (by decide) (by decide)).mono ?_
        rintro e Wi1 ⟨vi1, mi1, rfl, hE, hMi1, hV, hi1⟩
        replace hL := hL.call hE (by assumption) hV; clear hE hV
        obtain ⟨gi1', Ai1', ni1', ci1', hi1', Bi1', ki1', di1', rfl, hi1⟩ := hi1.lit
        go_wp2_with (first | ((with_reducible refine kAny ?_); go_skip) | (with_reducible refine stA ?_) | ((first | refine tFd ?_ | refine tLd ?_ | ((first | refine tSr ?_ | refine tSt ?_); clear hL; intro _ hL; simp only [splice, zq1, zq2, zq3] at hL) | (refine tAl ?_; clear hL; intro _ _ hL _) | (refine tBs ?_; clear hL; intro _ _ hL _ hBs)); simp only [Act.put, zq1, zq2, zq3]))
        refine StepL.mk (keep5 (hL.at_ lo0)) ?_
        refine wpL_one 10 (by kernel_rfl) rfl ?_
        refine t_bsA hL rfl rfl ?_
        clear hL
        intro _ _ hL _ hb41
        simp only [Act.put, zq1, zq2, zq3]
        refine StepL.mk (keep5 (hL.at_ lo0)) ?_
        refine wpL_one 11 (by kernel_rfl) rfl ?_
        refine wl_append (A := [_, _]) hL R2.out (wanted_none rfl) rfl ap_Fracs (by omega) rfl rfl (news := [.bool gi1', .slice Ai1' ni1' ci1', .bool hi1', .slice Bi1' ki1' di1']) rfl ((Blk.sl hb41 (n := 4) rfl).le (Le.trans leX hL.vw.le)) rfl (by omega) (by omega) ?_
        clear hL
        intro v42 W42 m42 R42 hL r42 e42
        obtain ⟨A42, c42, rfl, -⟩ := r42.lit
        have hle42 : Le mc2 m42 := Le.trans hle39 leX
        have ra42 := RowA.snoc (R := FracC) (m := m42) (x := ((-1 : Int) : Rat)) r42 Z2.out (Y2.out.mono fun v x hv => FracC.mono _ _ _ _ hv hle42) L2.out rfl (hi1.le leX)
        obtain ⟨m43, hL43, hle43, hcd43, -⟩ := RowA.show (A := [_, _]) FracC.mono hL ra42
        have hcu43 := CutL.le hcu38 (Le.trans (leX : Le m38 m42) hle43)
        have hle44 := Le.trans hle42 hle43
        clear hL r42 ra42 hb41 hi1
        have hL := hL43
        clear hL43
        simp only [Act.put, zq1, zq2, zq3]
        refine StepL.mk (keep5 (hL.at_ lo0)) ?_
        refine wpL_one 13 (by kernel_rfl) rfl ?_
        go_wp2_with (first | ((with_reducible refine kAny ?_); go_skip) | (with_reducible refine stA ?_) | ((first | refine tFd ?_ | refine tLd ?_ | ((first | refine tSr ?_ | refine tSt ?_); clear hL; intro _ hL; simp only [splice, zq1, zq2, zq3] at hL) | (refine tAl ?_; clear hL; intro _ _ hL _) | (refine tBs ?_; clear hL; intro _ _ hL _ hBs)); simp only [Act.put, zq1, zq2, zq3]))
        refine StepL.mkL (by kernel_rfl) ?_
        refine wpL_one 14 (by kernel_rfl) rfl ?_
        go_wp2_with (first | ((with_reducible refine kAny ?_); go_skip) | (with_reducible refine stA ?_) | ((first | refine tFd ?_ | refine tLd ?_ | ((first | refine tSr ?_ | refine tSt ?_); clear hL; intro _ hL; simp only [splice, zq1, zq2, zq3] at hL) | (refine tAl ?_; clear hL; intro _ _ hL _) | (refine tBs ?_; clear hL; intro _ _ hL _ hBs)); simp only [Act.put, zq1, zq2, zq3]))
        refine StepL.mkL (by kernel_rfl) ?_
        refine wpL_one 15 (by kernel_rfl) rfl ?_
        go_wp2_with (first | ((with_reducible refine kAny ?_); go_skip) | (with_reducible refine stA ?_) | ((first | refine tFd ?_ | refine tLd ?_ | ((first | refine tSr ?_ | refine tSt ?_); clear hL; intro _ hL; simp only [splice, zq1, zq2, zq3] at hL) | (refine tAl ?_; clear hL; intro _ _ hL _) | (refine tBs ?_; clear hL; intro _ _ hL _ hBs)); simp only [Act.put, zq1, zq2, zq3]))
        refine StepL.mkL (by kernel_rfl) ?_
        refine wpL_done (by kernel_rfl) ?_ _
        refine NoPanic.normal ?_
        have KB : Hid (BothB m43 (.agg #[.int .i64 ms.nf, .slice M1 q1 d1, .int .i64 ms.pen, .slice M2 q2 d2, .slice M3 q3 d3]) (.agg #[.slice A0 p.fl.length c0, .slice A37 (nu + 1) c37, .slice A42 (nd + 1) c42, .slice A3 p.de.length c3, .bool false]) (xu, yu)) :=
          bothB_ok (HM.out.le hle44) (p := prX p) ⟨_, _, _, _, rfl, FracL.le HFL.out hle44, hcu43, hcd43, DecL.le HDE.out hle44⟩ PX.out
        clear HFL HDE hcu43 hcd43 HM hcu38 hle39 hle38 hle42 hle43 hle44 H1 H2 H3 O1 Z2 Y2 R2 N1' LY L2 PN PM PX PB P6 MO PP HNF HCU hfl hde pn pm HND HNU
        generalize nu + 1 = nu1 at *
        generalize nd + 1 = nd1 at *
        obtain ⟨x, y, e, l1, l2, k1, k2⟩ := KB.out
        have K1 := Lib.hid k1
        have K2 := Lib.hid k2
        have L1 := Lib.hid l1
        have L2 := Lib.hid l2
        have bee : ((e : Int) == e) = true := by simp
        clear k1 k2 l1 l2 KB
        go_upto_region 12 with ((first | ((with_reducible refine kAny ?_); go_skip) | (with_reducible refine stA ?_) | ((first | refine tFd ?_ | refine tLd ?_ | ((first | refine tSr ?_ | refine tSt ?_); clear hL; intro _ hL; simp only [splice, zq1, zq2, zq3] at hL) | (refine tAl ?_; clear hL; intro _ _ hL _) | (refine tBs ?_; clear hL; intro _ _ hL _ hBs)); simp only [Act.put, zq1, zq2, zq3])))
        obtain ⟨B, hB1, hB2, hB3⟩ := hL.bound
        refine wp_region_by2 10 [false, false, false, false, false, false, false, false, false, true] [false, false, false, false, false, false, false, false, true, false] [(fun v _ _ => v = ?c12_0c), (fun v _ _ => v = ?c12_1c), (fun v _ _ => v = ?c12_2c), (fun v _ _ => v = ?c12_3c), Of (fun um v => FrG um v xu yu), Of (fun um v => BvR um v x y e), Of (fun um v => BvR um v x y e), Of (fun um v => FracP um v x y), Is (.int .i64 e), NewBlk B 39 #[.bool false, .slice none 0 0, .bool false, .slice none 0 0]] hL.vw mixed [49, 50, 51, 52, 53, 54, 48, 55, 56, 9] _ (by kernel_rfl) (fun vs => by simp only [lay, Act.put, zq1, zq2, zq3]; rfl) (by kernel_rfl) (by decide) (by decide) ?s12c ?l12c ?r12c
        case s12c =>
          refine ⟨?_, ?_, ?_, ?_, ?_, ?_, ?_, ?_, ?_, ?_, trivial⟩
          · intro vs W1 m1 hE hM hV hD; clear hD; replace hL := hL.call hE hM hV
            exact sLd
          · intro vs W1 m1 hE hM hV hD; clear hD; replace hL := hL.call hE hM hV
            exact sLd
          · intro vs W1 m1 hE hM hV hD; clear hD; replace hL := hL.call hE hM hV
            exact sPu
          · intro vs W1 m1 hE hM hV hD; obtain ⟨⟨_, _, -, -, f51⟩, -⟩ := hD; have f51 : vs 51 = _ := f51; generalize vs 51 = x51 at f51 ⊢; subst x51; replace hL := hL.call hE hM hV
            exact sPu
          · intro vs W1 m1 hE hM hV hD; obtain ⟨⟨_, _, -, -, f52⟩, -⟩ := hD; have f52 : vs 52 = _ := f52; generalize vs 52 = x52 at f52 ⊢; subst x52
            go_wp2_with fail
            refine (KW1.out _ _ hV).mono ?_
            rintro e W2 ⟨v, m2, rfl, hE2, hM2, hV2, h⟩
            go_wp2_with fail
            refine One2.call hE2 hM2 hV2 ?_; first | exact h | exact rfl
          · intro vs W1 m1 hE hM hV hD; obtain ⟨⟨_, _, -, -, f49⟩, ⟨_, _, -, -, f50⟩, ⟨_, _, -, i53, f53⟩, -, -⟩ := hD; have f49 : vs 49 = _ := f49; generalize vs 49 = x49 at f49 ⊢; subst x49; have f50 : vs 50 = _ := f50; generalize vs 50 = x50 at f50 ⊢; subst x50; have f53 : FrG _ (vs 53) xu yu := f53; replace f53 := f53.le i53.le; clear i53
            go_wp2_with fail
            refine (K1.out _ _ _ hV leX f53).mono ?_
            rintro e W2 ⟨v, m2, rfl, hE2, hM2, hV2, h⟩
            go_wp2_with fail
            refine One2.call hE2 hM2 hV2 ?_; first | exact h | exact rfl
          · intro vs W1 m1 hE hM hV hD; obtain ⟨⟨_, _, -, i54, f54⟩, -⟩ := hD; have f54 : BvR _ (vs 54) x y e := f54; replace f54 := f54.le i54.le; clear i54
            go_wp2_with fail
            refine One2.still hV ?_; exact f54
          · intro vs W1 m1 hE hM hV hD; obtain ⟨⟨_, _, -, i48, f48⟩, -⟩ := hD; have f48 : BvR _ (vs 48) x y e := f48; replace f48 := f48.le i48.le; clear i48; obtain ⟨u0, e48, k⟩ := f48; generalize vs 48 = x48 at e48 ⊢; subst x48; replace hL := hL.call hE hM hV
            go_wp2_with (first | ((with_reducible refine kAny ?_); go_skip) | (with_reducible refine stA ?_) | ((first | refine tFd ?_ | refine tLd ?_ | ((first | refine tSr ?_ | refine tSt ?_); clear hL; intro _ hL; simp only [splice, zq1, zq2, zq3] at hL) | (refine tAl ?_; clear hL; intro _ _ hL _) | (refine tBs ?_; clear hL; intro _ _ hL _ hBs)); simp only [Act.put, zq1, zq2, zq3]))
            refine One2.still hV ?_; exact k
          · intro vs W1 m1 hE hM hV hD; obtain ⟨⟨_, _, -, i48, f48⟩, -, -⟩ := hD; have f48 : BvR _ (vs 48) x y e := f48; replace f48 := f48.le i48.le; clear i48; obtain ⟨u0, e48, k⟩ := f48; generalize vs 48 = x48 at e48 ⊢; subst x48; replace hL := hL.call hE hM hV
            go_wp2_with (first | ((with_reducible refine kAny ?_); go_skip) | (with_reducible refine stA ?_) | ((first | refine tFd ?_ | refine tLd ?_ | ((first | refine tSr ?_ | refine tSt ?_); clear hL; intro _ hL; simp only [splice, zq1, zq2, zq3] at hL) | (refine tAl ?_; clear hL; intro _ _ hL _) | (refine tBs ?_; clear hL; intro _ _ hL _ hBs)); simp only [Act.put, zq1, zq2, zq3]))
            refine One2.still hV ?_; exact rfl
          · intro vs W1 m1 hE hM hV hD; clear hD
            exact one2_alloc hV (Nat.le_trans hB3 hE.size) rfl rfl rfl ZcC.h
        case l12c =>
          refine ⟨fun h => (by cases h), fun h => (by cases h), fun h => (by cases h), fun h => (by cases h), fun h => (by cases h), fun h => (by cases h), fun h => (by cases h), fun h => (by cases h), fun _ => ?_, fun h => (by cases h), trivial⟩
          · intro vs W1 m1 hE hM hV hD; obtain ⟨⟨_, _, -, i48, f48⟩, -, -⟩ := hD; have f48 : BvR _ (vs 48) x y e := f48; replace f48 := f48.le i48.le; clear i48; obtain ⟨u0, e48, k⟩ := f48; generalize vs 48 = x48 at e48 ⊢; subst x48
            exact ⟨_, Or.inl ⟨(by rfl), fun w => (by rfl)⟩, rfl⟩
        intro vs W1 m1 hE hM hV hF hD
        obtain ⟨-, -, -, -, ⟨_, _, -, i53, f53⟩, ⟨_, _, -, i54, f54⟩, ⟨_, _, -, i48, f48⟩, ⟨_, _, -, i55, f55⟩, ⟨_, _, -, -, f56⟩, ⟨_, _, j9, i9, f9⟩, -⟩ := hF
        replace hL := hL.call hE hM hV
        replace f53 : FrG _ (vs 53) xu yu := f53
        replace f53 := f53.le i53.le
        clear i53
        replace f54 : BvR _ (vs 54) x y e := f54
        replace f54 := f54.le i54.le
        clear i54
        replace f48 : BvR _ (vs 48) x y e := f48
        replace f48 := f48.le i48.le
        clear i48
        replace f55 : FracP _ (vs 55) x y := f55
        replace f55 := f55.le i55.le
        clear i55
        obtain ⟨g55, A55, n55, c55, h55, B55, k55, d55, e55, f55⟩ := f55.lit
        generalize vs 55 = x55 at e55 ⊢
        subst x55
        have f56 : vs 56 = _ := f56
        generalize vs 56 = x56 at f56 ⊢
        subst x56
        obtain ⟨b9, e9, hL⟩ := Loc.addB (Lt := []) hB1 hB2 hL f9 j9 i9 ad0
        simp only [e9, List.cons_append, List.nil_append] at hL ⊢
        clear e9 f9 j9 i9
        clear hB1 hB2 hB3 hD
        clear hE hV
        simp only [List.drop_succ_cons, List.drop_zero]
        go_wp2_with (first | ((with_reducible refine kAny ?_); go_skip) | (with_reducible refine stA ?_) | ((first | refine tFd ?_ | refine tLd ?_ | ((first | refine tSr ?_ | refine tSt ?_); clear hL; intro _ hL; simp only [splice, zq1, zq2, zq3] at hL) | (refine tAl ?_; clear hL; intro _ _ hL _) | (refine tBs ?_; clear hL; intro _ _ hL _ hBs)); simp only [Act.put, zq1, zq2, zq3]))
        refine QN.mk ?_
        have HU := Lib.hid f55
        clear f55 f54 f53 f48
        go_upto_region 13 with ((first | ((with_reducible refine kAny ?_); go_skip) | (with_reducible refine stA ?_) | ((first | refine tFd ?_ | refine tLd ?_ | ((first | refine tSr ?_ | refine tSt ?_); clear hL; intro _ hL; simp only [splice, zq1, zq2, zq3] at hL) | (refine tAl ?_; clear hL; intro _ _ hL _) | (refine tBs ?_; clear hL; intro _ _ hL _ hBs)); simp only [Act.put, zq1, zq2, zq3])))
        obtain ⟨B, hB1, hB2, hB3⟩ := hL.bound
        refine wp_region_by2 10 [false, false, false, false, false, false, false, false, false, true] [false, false, false, false, false, false, false, false, true, false] [(fun v _ _ => v = ?c13_0c), (fun v _ _ => v = ?c13_1c), (fun v _ _ => v = ?c13_2c), (fun v _ _ => v = ?c13_3c), Of (fun um v => FrG um v xu yu), Of (fun um v => BvR um v x y e), Of (fun um v => BvR um v x y e), Of (fun um v => FracP um v x y), Is (.int .i64 e), NewBlk B 39 #[.bool false, .slice none 0 0, .bool false, .slice none 0 0]] hL.vw mixed [58, 59, 60, 61, 62, 63, 57, 64, 65, 11] _ (by kernel_rfl) (fun vs => by simp only [lay, Act.put, zq1, zq2, zq3]; rfl) (by kernel_rfl) (by decide) (by decide) ?s13c ?l13c ?r13c
        case s13c =>
          refine ⟨?_, ?_, ?_, ?_, ?_, ?_, ?_, ?_, ?_, ?_, trivial⟩
          · intro vs W1 m1 hE hM hV hD; clear hD; replace hL := hL.call hE hM hV
            exact sLd
          · intro vs W1 m1 hE hM hV hD; clear hD; replace hL := hL.call hE hM hV
            exact sLd
          · intro vs W1 m1 hE hM hV hD; clear hD; replace hL := hL.call hE hM hV
            exact sPu
          · intro vs W1 m1 hE hM hV hD; obtain ⟨⟨_, _, -, -, f60⟩, -⟩ := hD; have f60 : vs 60 = _ := f60; generalize vs 60 = x60 at f60 ⊢; subst x60; replace hL := hL.call hE hM hV
            exact sPu
          · intro vs W1 m1 hE hM hV hD; obtain ⟨⟨_, _, -, -, f61⟩, -⟩ := hD; have f61 : vs 61 = _ := f61; generalize vs 61 = x61 at f61 ⊢; subst x61
            go_wp2_with fail
            refine (KW1.out _ _ hV).mono ?_
            rintro e W2 ⟨v, m2, rfl, hE2, hM2, hV2, h⟩
            go_wp2_with fail
            refine One2.call hE2 hM2 hV2 ?_; first | exact h | exact rfl
          · intro vs W1 m1 hE hM hV hD; obtain ⟨⟨_, _, -, -, f58⟩, ⟨_, _, -, -, f59⟩, ⟨_, _, -, i62, f62⟩, -, -⟩ := hD; have f58 : vs 58 = _ := f58; generalize vs 58 = x58 at f58 ⊢; subst x58; have f59 : vs 59 = _ := f59; generalize vs 59 = x59 at f59 ⊢; subst x59; have f62 : FrG _ (vs 62) xu yu := f62; replace f62 := f62.le i62.le; clear i62
            go_wp2_with fail
            refine (K2.out _ _ _ hV leX f62).mono ?_
            rintro e W2 ⟨v, m2, rfl, hE2, hM2, hV2, h⟩
            go_wp2_with fail
            refine One2.call hE2 hM2 hV2 ?_; first | exact h | exact rfl
          · intro vs W1 m1 hE hM hV hD; obtain ⟨⟨_, _, -, i63, f63⟩, -⟩ := hD; have f63 : BvR _ (vs 63) x y e := f63; replace f63 := f63.le i63.le; clear i63
            go_wp2_with fail
            refine One2.still hV ?_; exact f63
          · intro vs W1 m1 hE hM hV hD; obtain ⟨⟨_, _, -, i57, f57⟩, -⟩ := hD; have f57 : BvR _ (vs 57) x y e := f57; replace f57 := f57.le i57.le; clear i57; obtain ⟨u0, e57, k⟩ := f57; generalize vs 57 = x57 at e57 ⊢; subst x57; replace hL := hL.call hE hM hV
            go_wp2_with (first | ((with_reducible refine kAny ?_); go_skip) | (with_reducible refine stA ?_) | ((first | refine tFd ?_ | refine tLd ?_ | ((first | refine tSr ?_ | refine tSt ?_); clear hL; intro _ hL; simp only [splice, zq1, zq2, zq3] at hL) | (refine tAl ?_; clear hL; intro _ _ hL _) | (refine tBs ?_; clear hL; intro _ _ hL _ hBs)); simp only [Act.put, zq1, zq2, zq3]))
            refine One2.still hV ?_; exact k
          · intro vs W1 m1 hE hM hV hD; obtain ⟨⟨_, _, -, i57, f57⟩, -, -⟩ := hD; have f57 : BvR _ (vs 57) x y e := f57; replace f57 := f57.le i57.le; clear i57; obtain ⟨u0, e57, k⟩ := f57; generalize vs 57 = x57 at e57 ⊢; subst x57; replace hL := hL.call hE hM hV
            go_wp2_with (first | ((with_reducible refine kAny ?_); go_skip) | (with_reducible refine stA ?_) | ((first | refine tFd ?_ | refine tLd ?_ | ((first | refine tSr ?_ | refine tSt ?_); clear hL; intro _ hL; simp only [splice, zq1, zq2, zq3] at hL) | (refine tAl ?_; clear hL; intro _ _ hL _) | (refine tBs ?_; clear hL; intro _ _ hL _ hBs)); simp only [Act.put, zq1, zq2, zq3]))
            refine One2.still hV ?_; exact rfl
          · intro vs W1 m1 hE hM hV hD; clear hD
            exact one2_alloc hV (Nat.le_trans hB3 hE.size) rfl rfl rfl ZcC.h
        case l13c =>
          refine ⟨fun h => (by cases h), fun h => (by cases h), fun h => (by cases h), fun h => (by cases h), fun h => (by cases h), fun h => (by cases h), fun h => (by cases h), fun h => (by cases h), fun _ => ?_, fun h => (by cases h), trivial⟩
          · intro vs W1 m1 hE hM hV hD; obtain ⟨⟨_, _, -, i57, f57⟩, -, -⟩ := hD; have f57 : BvR _ (vs 57) x y e := f57; replace f57 := f57.le i57.le; clear i57; obtain ⟨u0, e57, k⟩ := f57; generalize vs 57 = x57 at e57 ⊢; subst x57
            exact ⟨_, Or.inl ⟨(by rfl), fun w => (by rfl)⟩, rfl⟩
        intro vs W1 m1 hE hM hV hF hD
        obtain ⟨-, -, -, -, ⟨_, _, -, i62, f62⟩, ⟨_, _, -, i63, f63⟩, ⟨_, _, -, i57, f57⟩, ⟨_, _, -, i64, f64⟩, ⟨_, _, -, -, f65⟩, ⟨_, _, j11, i11, f11⟩, -⟩ := hF
        replace hL := hL.call hE hM hV
        replace f62 : FrG _ (vs 62) xu yu := f62
        replace f62 := f62.le i62.le
        clear i62
        replace f63 : BvR _ (vs 63) x y e := f63
        replace f63 := f63.le i63.le
        clear i63
        replace f57 : BvR _ (vs 57) x y e := f57
        replace f57 := f57.le i57.le
        clear i57
        replace f64 : FracP _ (vs 64) x y := f64
        replace f64 := f64.le i64.le
        clear i64
        obtain ⟨g64, A64, n64, c64, h64, B64, k64, d64, e64, f64⟩ := f64.lit
        generalize vs 64 = x64 at e64 ⊢
        subst x64
        have f65 : vs 65 = _ := f65
        generalize vs 65 = x65 at f65 ⊢
        subst x65
        obtain ⟨b11, e11, hL⟩ := Loc.addB (Lt := []) hB1 hB2 hL f11 j11 i11 ad0
        simp only [e11, List.cons_append, List.nil_append] at hL ⊢
        clear e11 f11 j11 i11
        clear hB1 hB2 hB3 hD
        clear hE hV
        simp only [List.drop_succ_cons, List.drop_zero]
        go_wp2_with (first | ((with_reducible refine kAny ?_); go_skip) | (with_reducible refine stA ?_) | ((first | refine tFd ?_ | refine tLd ?_ | ((first | refine tSr ?_ | refine tSt ?_); clear hL; intro _ hL; simp only [splice, zq1, zq2, zq3] at hL) | (refine tAl ?_; clear hL; intro _ _ hL _) | (refine tBs ?_; clear hL; intro _ _ hL _ hBs)); simp only [Act.put, zq1, zq2, zq3]))
        refine QN.mk ?_
        go_wp2_with (first | ((with_reducible refine kAny ?_); go_skip) | (with_reducible refine stA ?_) | ((first | refine tFd ?_ | refine tLd ?_ | ((first | refine tSr ?_ | refine tSt ?_); clear hL; intro _ hL; simp only [splice, zq1, zq2, zq3] at hL) | (refine tAl ?_; clear hL; intro _ _ hL _) | (refine tBs ?_; clear hL; intro _ _ hL _ hBs)); simp only [Act.put, zq1, zq2, zq3]))
        refine (r_SameP _ _ x y _ _ hL.vw (HU.out.le leX) (f64.le leX) L1.out L2.out).mono ?_
        rintro e Wc8 ⟨_, mc8, rfl, hE, hMc8, hV, rfl⟩
        replace hL := hL.call hE (by assumption) hV; clear hE hV
        go_wp2_with (first | ((with_reducible refine kAny ?_); go_skip) | (with_reducible refine stA ?_) | ((first | refine tFd ?_ | refine tLd ?_ | ((first | refine tSr ?_ | refine tSt ?_); clear hL; intro _ hL; simp only [splice, zq1, zq2, zq3] at hL) | (refine tAl ?_; clear hL; intro _ _ hL _) | (refine tBs ?_; clear hL; intro _ _ hL _ hBs)); simp only [Act.put, zq1, zq2, zq3]))
        refine (k_known _ _ hL.vw).mono ?_
        rintro e Wc9 ⟨_, mc9, rfl, hE, hMc9, hV, rfl⟩
        replace hL := hL.call hE (by assumption) hV; clear hE hV
        go_wp2_with (first | ((with_reducible refine kAny ?_); go_skip) | (with_reducible refine stA ?_) | ((first | refine tFd ?_ | refine tLd ?_ | ((first | refine tSr ?_ | refine tSt ?_); clear hL; intro _ hL; simp only [splice, zq1, zq2, zq3] at hL) | (refine tAl ?_; clear hL; intro _ _ hL _) | (refine tBs ?_; clear hL; intro _ _ hL _ hBs)); simp only [Act.put, zq1, zq2, zq3]))
        go_ret
        exact RetV.mk hL rfl
      · refine t_bsA hL rfl rfl ?_
        clear hL
        intro _ _ hL _ hb36
        simp only [Act.put, zq1, zq2, zq3]
        refine StepL.mk (keep5 (hL.at_ lo0)) ?_
        refine wpL_one 2 (by kernel_rfl) rfl ?_
        refine wl_append hL.app0 (Row.nil _ 2) (wanted_none rfl) rfl ap_Cuts (by omega) rfl rfl (news := cellsOf vs1) N1'.out (H2.out.le (Le.trans leX hL.vw.le)) O1.out (by omega) (by omega) ?_
        clear hL
        intro v33 W33 m33 R33 hL r33 e33
        obtain ⟨A33, c33, rfl, -⟩ := r33.lit
        simp only [List.cons_append] at hL
        simp only [Nat.zero_add, List.nil_append] at r33 ⊢
        simp only [Act.put, zq1, zq2, zq3]
        refine StepL.mk (keep5 (hL.at_ lo0)) ?_
        refine wpL_one 6 (by kernel_rfl) rfl ?_
        refine wl_append (A := _ :: _ :: R) hL r33 (wanted_none rfl) rfl ap_Cuts (by omega) rfl rfl (news := [.slice (some ⟨_, 0, none⟩) 2 2, .int .i64 2]) rfl ((Blk.sl hb36 (n := 2) rfl).le (Le.trans leX hL.vw.le)) rfl (by omega) (by omega) ?_
        clear hL
        intro v37 W37 m37 R37 hL r37 e37
        obtain ⟨A37, c37, rfl, -⟩ := r37.lit
        have h05 : IntL m37 (.slice (some ⟨_, 0, none⟩) 2 2) [0, 5] := ListV.mk (vs := [.int .i64 0, .int .i64 5]) (by omega) rfl (fun u hu => by simp at hu; rcases hu with rfl | rfl <;> rfl) ((Blk.sl hb34 (n := 2) rfl).le leX) ⟨rfl, rfl, trivial⟩
        have ra37 := RowA.snoc (R := CutR) (m := m37) (x := ([0, 5], 2)) r37 H1.out (H3.out.mono fun v x hv => CutR.mono _ _ _ _ hv leX) LY.out rfl ⟨_, rfl, h05, by simp⟩
        obtain ⟨m38, hL38, hle38, hcu38, -⟩ := RowA.show (A := _ :: _ :: R) CutR.mono hL ra37
        have hle39 : Le mc2 m38 := Le.trans leX hle38
        clear hL r33 r37 ra37 h05 hb34 hb36
        have hL := hL38
        clear hL38
        simp only [Act.put, zq1, zq2, zq3]
        refine StepL.mk (keep5 (hL.at_ lo0)) ?_
        refine wpL_take 12 12 (v := ?_) rfl (by kernel_rfl) (fun _ _ _ h => h) (keep5 (hL.at_ lo0)) (by rfl) ?yld ?_
        case yld => (intro w' hSw; obtain ⟨s1, s2, s3, s4⟩ := hSw; go_simp; try with_reducible rfl)
        simp only [Act.put, zq1, zq2, zq3]
        refine wpL_one 9 (by kernel_rfl) rfl ?_
        go_wp2_with (first | ((with_reducible refine kAny ?_); go_skip) | (with_reducible refine stA ?_) | ((first | refine tFd ?_ | refine tLd ?_ | ((first | refine tSr ?_ | refine tSt ?_); clear hL; intro _ hL; simp only [splice, zq1, zq2, zq3] at hL) | (refine tAl ?_; clear hL; intro _ _ hL _) | (refine tBs ?_; clear hL; intro _ _ hL _ hBs)); simp only [Act.put, zq1, zq2, zq3]))
        refine (r_Int (-1) _ _ hL.vw (by decide) (by decide)).mono ?_
        rintro e Wi1 ⟨vi1, mi1, rfl, hE, hMi1, hV, hi1⟩
        replace hL := hL.call hE (by assumption) hV; clear hE hV
        obtain ⟨gi1', Ai1', ni1', ci1', hi1', Bi1', ki1', di1', rfl, hi1⟩ := hi1.lit
        go_wp2_with (first | ((with_reducible refine kAny ?_); go_skip) | (with_reducible refine stA ?_) | ((first | refine tFd ?_ | refine tLd ?_ | ((first | refine tSr ?_ | refine tSt ?_); clear hL; intro _ hL; simp only [splice, zq1, zq2, zq3] at hL) | (refine tAl ?_; clear hL; intro _ _ hL _) | (refine tBs ?_; clear hL; intro _ _ hL _ hBs)); simp only [Act.put, zq1, zq2, zq3]))
        refine StepL.mk (keep5 (hL.at_ lo0)) ?_
        refine wpL_one 10 (by kernel_rfl) rfl ?_
        refine t_bsA hL rfl rfl ?_
        clear hL
        intro _ _ hL _ hb41
        simp only [Act.put, zq1, zq2, zq3]
        refine StepL.mk (keep5 (hL.at_ lo0)) ?_
        refine wpL_one 11 (by kernel_rfl) rfl ?_
        refine wl_append (A := [_, _]) hL R2.out (wanted_none rfl) rfl ap_Fracs (by omega) rfl rfl (news := [.bool gi1', .slice Ai1' ni1' ci1', .bool hi1', .slice Bi1' ki1' di1']) rfl ((Blk.sl hb41 (n := 4) rfl).le (Le.trans leX hL.vw.le)) rfl (by omega) (by omega) ?_
        clear hL
        intro v42 W42 m42 R42 hL r42 e42
        obtain ⟨A42, c42, rfl, -⟩ := r42.lit
        have hle42 : Le mc2 m42 := Le.trans hle39 leX
        have ra42 := RowA.snoc (R := FracC) (m := m42) (x := ((-1 : Int) : Rat)) r42 Z2.out (Y2.out.mono fun v x hv => FracC.mono _ _ _ _ hv hle42) L2.out rfl (hi1.le leX)
        obtain ⟨m43, hL43, hle43, hcd43, -⟩ := RowA.show (A := [_, _]) FracC.mono hL ra42
        have hcu43 := CutL.le hcu38 (Le.trans (leX : Le m38 m42) hle43)
        have hle44 := Le.trans hle42 hle43
        clear hL r42 ra42 hb41 hi1
        have hL := hL43
        clear hL43
        simp only [Act.put, zq1, zq2, zq3]
        refine StepL.mk (keep5 (hL.at_ lo0)) ?_
        refine wpL_one 13 (by kernel_rfl) rfl ?_
        go_wp2_with (first | ((with_reducible refine kAny ?_); go_skip) | (with_reducible refine stA ?_) | ((first | refine tFd ?_ | refine tLd ?_ | ((first | refine tSr ?_ | refine tSt ?_); clear hL; intro _ hL; simp only [splice, zq1, zq2, zq3] at hL) | (refine tAl ?_; clear hL; intro _ _ hL _) | (refine tBs ?_; clear hL; intro _ _ hL _ hBs)); simp only [Act.put, zq1, zq2, zq3]))
        refine StepL.mkL (by kernel_rfl) ?_
        refine wpL_one 14 (by kernel_rfl) rfl ?_
        go_wp2_with (first | ((with_reducible refine kAny ?_); go_skip) | (with_reducible refine stA ?_) | ((first | refine tFd ?_ | refine tLd ?_ | ((first | refine tSr ?_ | refine tSt ?_); clear hL; intro _ hL; simp only [splice, zq1, zq2, zq3] at hL) | (refine tAl ?_; clear hL; intro _ _ hL _) | (refine tBs ?_; clear hL; intro _ _ hL _ hBs)); simp only [Act.put, zq1, zq2, zq3]))
        refine StepL.mkL (by kernel_rfl) ?_
        refine wpL_one 15 (by kernel_rfl) rfl ?_
        go_wp2_with (first | ((with_reducible refine kAny ?_); go_skip) | (with_reducible refine stA ?_) | ((first | refine tFd ?_ | refine tLd ?_ | ((first | refine tSr ?_ | refine tSt ?_); clear hL; intro _ hL; simp only [splice, zq1, zq2, zq3] at hL) | (refine tAl ?_; clear hL; intro _ _ hL _) | (refine tBs ?_; clear hL; intro _ _ hL _ hBs)); simp only [Act.put, zq1, zq2, zq3]))
        refine StepL.mkL (by kernel_rfl) ?_
        refine wpL_done (by kernel_rfl) ?_ _
        refine NoPanic.normal ?_
        have KB : Hid (BothB m43 (.agg #[.int .i64 ms.nf, .slice M1 q1 d1, .int .i64 ms.pen, .slice M2 q2 d2, .slice M3 q3 d3]) (.agg #[.slice A0 p.fl.length c0, .slice A37 (nu + 1) c37, .slice A42 (nd + 1) c42, .slice A3 p.de.length c3, .bool false]) (xu, yu)) :=
          bothB_ok (HM.out.le hle44) (p := prX p) ⟨_, _, _, _, rfl, FracL.le HFL.out hle44, hcu43, hcd43, DecL.le HDE.out hle44⟩ PX.out
        clear HFL HDE hcu43 hcd43 HM hcu38 hle39 hle38 hle42 hle43 hle44 H1 H2 H3 O1 Z2 Y2 R2 N1' LY L2 PN PM PX PB P6 MO PP HNF HCU hfl hde pn pm HND HNU
        generalize nu + 1 = nu1 at *
        generalize nd + 1 = nd1 at *
        obtain ⟨x, y, e, l1, l2, k1, k2⟩ := KB.out
        have K1 := Lib.hid k1
        have K2 := Lib.hid k2
        have L1 := Lib.hid l1
        have L2 := Lib.hid l2
        have bee : ((e : Int) == e) = true := by simp
        clear k1 k2 l1 l2 KB
        go_upto_region 12 with ((first | ((with_reducible refine kAny ?_); go_skip) | (with_reducible refine stA ?_) | ((first | refine tFd ?_ | refine tLd ?_ | ((first | refine tSr ?_ | refine tSt ?_); clear hL; intro _ hL; simp only [splice, zq1, zq2, zq3] at hL) | (refine tAl ?_; clear hL; intro _ _ hL _) | (refine tBs ?_; clear hL; intro _ _ hL _ hBs)); simp only [Act.put, zq1, zq2, zq3])))
        obtain ⟨B, hB1, hB2, hB3⟩ := hL.bound
        refine wp_region_by2 10 [false, false, false, false, false, false, false, false, false, true] [false, false, false, false, false, false, false, false, true, false] [(fun v _ _ => v = ?c12_0d), (fun v _ _ => v = ?c12_1d), (fun v _ _ => v = ?c12_2d), (fun v _ _ => v = ?c12_3d), Of (fun um v => FrG um v xu yu), Of (fun um v => BvR um v x y e), Of (fun um v => BvR um v x y e), Of (fun um v => FracP um v x y), Is (.int .i64 e), NewBlk B 39 #[.bool false, .slice none 0 0, .bool false, .slice none 0 0]] hL.vw mixed [49, 50, 51, 52, 53, 54, 48, 55, 56, 9] _ (by kernel_rfl) (fun vs => by simp only [lay, Act.put, zq1, zq2, zq3]; rfl) (by kernel_rfl) (by decide) (by decide) ?s12d ?l12d ?r12d
        case s12d =>
          refine ⟨?_, ?_, ?_, ?_, ?_, ?_, ?_, ?_, ?_, ?_, trivial⟩
          · intro vs W1 m1 hE hM hV hD; clear hD; replace hL := hL.call hE hM hV
            exact sLd
          · intro vs W1 m1 hE hM hV hD; clear hD; replace hL := hL.call hE hM hV
            exact sLd
          · intro vs W1 m1 hE hM hV hD; clear hD; replace hL := hL.call hE hM hV
            exact sPu
          · intro vs W1 m1 hE hM hV hD; obtain ⟨⟨_, _, -, -, f51⟩, -⟩ := hD; have f51 : vs 51 = _ := f51; generalize vs 51 = x51 at f51 ⊢; subst x51; replace hL := hL.call hE hM hV
            exact sPu
          · intro vs W1 m1 hE hM hV hD; obtain ⟨⟨_, _, -, -, f52⟩, -⟩ := hD; have f52 : vs 52 = _ := f52; generalize vs 52 = x52 at f52 ⊢; subst x52
            go_wp2_with fail
            refine (KW1.out _ _ hV).mono ?_
            rintro e W2 ⟨v, m2, rfl, hE2, hM2, hV2, h⟩
            go_wp2_with fail
            refine One2.call hE2 hM2 hV2 ?_; first | exact h | exact rfl
          · intro vs W1 m1 hE hM hV hD; obtain ⟨⟨_, _, -, -, f49⟩, ⟨_, _, -, -, f50⟩, ⟨_, _, -, i53, f53⟩, -, -⟩ := hD; have f49 : vs 49 = _ := f49; generalize vs 49 = x49 at f49 ⊢; subst x49; have f50 : vs 50 = _ := f50; generalize vs 50 = x50 at f50 ⊢; subst x50; have f53 : FrG _ (vs 53) xu yu := f53; replace f53 := f53.le i53.le; clear i53
            go_wp2_with fail
            refine (K1.out _ _ _ hV leX f53).mono ?_
            rintro e W2 ⟨v, m2, rfl, hE2, hM2, hV2, h⟩
            go_wp2_with fail
            refine One2.call hE2 hM2 hV2 ?_; first | exact h | exact rfl
          · intro vs W1 m1 hE hM hV hD; obtain ⟨⟨_, _, -, i54, f54⟩, -⟩ := hD; have f54 : BvR _ (vs 54) x y e := f54; replace f54 := f54.le i54.le; clear i54
            go_wp2_with fail
            refine One2.still hV ?_; exact f54
          · intro vs W1 m1 hE hM hV hD; obtain ⟨⟨_, _, -, i48, f48⟩, -⟩ := hD; have f48 : BvR _ (vs 48) x y e := f48; replace f48 := f48.le i48.le; clear i48; obtain ⟨u0, e48, k⟩ := f48; generalize vs 48 = x48 at e48 ⊢; subst x48; replace hL := hL.call hE hM hV
            go_wp2_with (first | ((with_reducible refine kAny ?_); go_skip) | (with_reducible refine stA ?_) | ((first | refine tFd ?_ | refine tLd ?_ | ((first | refine tSr ?_ | refine tSt ?_); clear hL; intro _ hL; simp only [splice, zq1, zq2, zq3] at hL) | (refine tAl ?_; clear hL; intro _ _ hL _) | (refine tBs ?_; clear hL; intro _ _ hL _ hBs)); simp only [Act.put, zq1, zq2, zq3]))
            refine One2.still hV ?_; exact k
          · intro vs W1 m1 hE hM hV hD; obtain ⟨⟨_, _, -, i48, f48⟩, -, -⟩ := hD; have f48 : BvR _ (vs 48) x y e := f48; replace f48 := f48.le i48.le; clear i48; obtain ⟨u0, e48, k⟩ := f48; generalize vs 48 = x48 at e48 ⊢; subst x48; replace hL := hL.call hE hM hV
            go_wp2_with (first | ((with_reducible refine kAny ?_); go_skip) | (with_reducible refine stA ?_) | ((first | refine tFd ?_ | refine tLd ?_ | ((first | refine tSr ?_ | refine tSt ?_); clear hL; intro _ hL; simp only [splice, zq1, zq2, zq3] at hL) | (refine tAl ?_; clear hL; intro _ _ hL _) | (refine tBs ?_; clear hL; intro _ _ hL _ hBs)); simp only [Act.put, zq1, zq2, zq3]))
            refine One2.still hV ?_; exact rfl
          · intro vs W1 m1 hE hM hV hD; clear hD
            exact one2_alloc hV (Nat.le_trans hB3 hE.size) rfl rfl rfl ZcC.h
        case l12d =>
          refine ⟨fun h => (by cases h), fun h => (by cases h), fun h => (by cases h), fun h => (by cases h), fun h => (by cases h), fun h => (by cases h), fun h => (by cases h), fun h => (by cases h), fun _ => ?_, fun h => (by cases h), trivial⟩
          · intro vs W1 m1 hE hM hV hD; obtain ⟨⟨_, _, -, i48, f48⟩, -, -⟩ := hD; have f48 : BvR _ (vs 48) x y e := f48; replace f48 := f48.le i48.le; clear i48; obtain ⟨u0, e48, k⟩ := f48; generalize vs 48 = x48 at e48 ⊢; subst x48
            exact ⟨_, Or.inl ⟨(by rfl), fun w => (by rfl)⟩, rfl⟩
        intro vs W1 m1 hE hM hV hF hD
        obtain ⟨-, -, -, -, ⟨_, _, -, i53, f53⟩, ⟨_, _, -, i54, f54⟩, ⟨_, _, -, i48, f48⟩, ⟨_, _, -, i55, f55⟩, ⟨_, _, -, -, f56⟩, ⟨_, _, j9, i9, f9⟩, -⟩ := hF
        replace hL := hL.call hE hM hV
        replace f53 : FrG _ (vs 53) xu yu := f53
        replace f53 := f53.le i53.le
        clear i53
        replace f54 : BvR _ (vs 54) x y e := f54
        replace f54 := f54.le i54.le
        clear i54
        replace f48 : BvR _ (vs 48) x y e := f48
        replace f48 := f48.le i48.le
        clear i48
        replace f55 : FracP _ (vs 55) x y := f55
        replace f55 := f55.le i55.le
        clear i55
        obtain ⟨g55, A55, n55, c55, h55, B55, k55, d55, e55, f55⟩ := f55.lit
        generalize vs 55 = x55 at e55 ⊢
        subst x55
        have f56 : vs 56 = _ := f56
        generalize vs 56 = x56 at f56 ⊢
        subst x56
        obtain ⟨b9, e9, hL⟩ := Loc.addB (Lt := []) hB1 hB2 hL f9 j9 i9 ad0
        simp only [e9, List.cons_append, List.nil_append] at hL ⊢
        clear e9 f9 j9 i9
        clear hB1 hB2 hB3 hD
        clear hE hV
        simp only [List.drop_succ_cons, List.drop_zero]
        go_wp2_with (first | ((with_reducible refine kAny ?_); go_skip) | (with_reducible refine stA ?_) | ((first | refine tFd ?_ | refine tLd ?_ | ((first | refine tSr ?_ | refine tSt ?_); clear hL; intro _ hL; simp only [splice, zq1, zq2, zq3] at hL) | (refine tAl ?_; clear hL; intro _ _ hL _) | (refine tBs ?_; clear hL; intro _ _ hL _ hBs)); simp only [Act.put, zq1, zq2, zq3]))
        refine QN.mk ?_
        have HU := Lib.hid f55
        clear f55 f54 f53 f48
        go_upto_region 13 with ((first | ((with_reducible refine kAny ?_); go_skip) | (with_reducible refine stA ?_) | ((first | refine tFd ?_ | refine tLd ?_ | ((first | refine tSr ?_ | refine tSt ?_); clear hL; intro _ hL; simp only [splice, zq1, zq2, zq3] at hL) | (refine tAl ?_; clear hL; intro _ _ hL _) | (refine tBs ?_; clear hL; intro _ _ hL _ hBs)); simp only [Act.put, zq1, zq2, zq3])))
        obtain ⟨B, hB1, hB2, hB3⟩ := hL.bound
        refine wp_region_by2 10 [false, false, false, false, false, false, false, false, false, true] [false, false, false, false, false, false, false, false, true, false] [(fun v _ _ => v = ?c13_0d), (fun v _ _ => v = ?c13_1d), (fun v _ _ => v = ?c13_2d), (fun v _ _ => v = ?c13_3d), Of (fun um v => FrG um v xu yu), Of (fun um v => BvR um v x y e), Of (fun um v => BvR um v x y e), Of (fun um v => FracP um v x y), Is (.int .i64 e), NewBlk B 39 #[.bool false, .slice none 0 0, .bool false, .slice none 0 0]] hL.vw mixed [58, 59, 60, 61, 62, 63, 57, 64, 65, 11] _ (by kernel_rfl) (fun vs => by simp only [lay, Act.put, zq1, zq2, zq3]; rfl) (by kernel_rfl) (by decide) (by decide) ?s13d ?l13d ?r13d
        case s13d =>
          refine ⟨?_, ?_, ?_, ?_, ?_, ?_, ?_, ?_, ?_, ?_, trivial⟩
          · intro vs W1 m1 hE hM hV hD; clear hD; replace hL := hL.call hE hM hV
            exact sLd
          · intro vs W1 m1 hE hM hV hD; clear hD; replace hL := hL.call hE hM hV
            exact sLd
          · intro vs W1 m1 hE hM hV hD; clear hD; replace hL := hL.call hE hM hV
            exact sPu
          · intro vs W1 m1 hE hM hV hD; obtain ⟨⟨_, _, -, -, f60⟩, -⟩ := hD; have f60 : vs 60 = _ := f60; generalize vs 60 = x60 at f60 ⊢; subst x60; replace hL := hL.call hE hM hV
            exact sPu
          · intro vs W1 m1 hE hM hV hD; obtain ⟨⟨_, _, -, -, f61⟩, -⟩ := hD; have f61 : vs 61 = _ := f61; generalize vs 61 = x61 at f61 ⊢; subst x61
            go_wp2_with fail
            refine (KW1.out _ _ hV).mono ?_
            rintro e W2 ⟨v, m2, rfl, hE2, hM2, hV2, h⟩
            go_wp2_with fail
            refine One2.call hE2 hM2 hV2 ?_; first | exact h | exact rfl
          · intro vs W1 m1 hE hM hV hD; obtain ⟨⟨_, _, -, -, f58⟩, ⟨_, _, -, -, f59⟩, ⟨_, _, -, i62, f62⟩, -, -⟩ := hD; have f58 : vs 58 = _ := f58; generalize vs 58 = x58 at f58 ⊢; subst x58; have f59 : vs 59 = _ := f59; generalize vs 59 = x59 at f59 ⊢; subst x59; have f62 : FrG _ (vs 62) xu yu := f62; replace f62 := f62.le i62.le; clear i62
            go_wp2_with fail
            refine (K2.out _ _ _ hV leX f62).mono ?_
            rintro e W2 ⟨v, m2, rfl, hE2, hM2, hV2, h⟩
            go_wp2_with fail
            refine One2.call hE2 hM2 hV2 ?_; first | exact h | exact rfl
          · intro vs W1 m1 hE hM hV hD; obtain ⟨⟨_, _, -, i63, f63⟩, -⟩ := hD; have f63 : BvR _ (vs 63) x y e := f63; replace f63 := f63.le i63.le; clear i63
            go_wp2_with fail
            refine One2.still hV ?_; exact f63
          · intro vs W1 m1 hE hM hV hD; obtain ⟨⟨_, _, -, i57, f57⟩, -⟩ := hD; have f57 : BvR _ (vs 57) x y e := f57; replace f57 := f57.le i57.le; clear i57; obtain ⟨u0, e57, k⟩ := f57; generalize vs 57 = x57 at e57 ⊢; subst x57; replace hL := hL.call hE hM hV
            go_wp2_with (first | ((with_reducible refine kAny ?_); go_skip) | (with_reducible refine stA ?_) | ((first | refine tFd ?_ | refine tLd ?_ | ((first | refine tSr ?_ | refine tSt ?_); clear hL; intro _ hL; simp only [splice, zq1, zq2, zq3] at hL) | (refine tAl ?_; clear hL; intro _ _ hL _) | (refine tBs ?_; clear hL; intro _ _ hL _ hBs)); simp only [Act.put, zq1, zq2, zq3]))
            refine One2.still hV ?_; exact k
          · intro vs W1 m1 hE hM hV hD; obtain ⟨⟨_, _, -, i57, f57⟩, -, -⟩ := hD; have f57 : BvR _ (vs 57) x y e := f57; replace f57 := f57.le i57.le; clear i57; obtain ⟨u0, e57, k⟩ := f57; generalize vs 57 = x57 at e57 ⊢; subst x57; replace hL := hL.call hE hM hV
            go_wp2_with (first | ((with_reducible refine kAny ?_); go_skip) | (with_reducible refine stA ?_) | ((first | refine tFd ?_ | refine tLd ?_ | ((first | refine tSr ?_ | refine tSt ?_); clear hL; intro _ hL; simp only [splice, zq1, zq2, zq3] at hL) | (refine tAl ?_; clear hL; intro _ _ hL _) | (refine tBs ?_; clear hL; intro _ _ hL _ hBs)); simp only [Act.put, zq1, zq2, zq3]))
            refine One2.still hV ?_; exact rfl
          · intro vs W1 m1 hE hM hV hD; clear hD
            exact one2_alloc hV (Nat.le_trans hB3 hE.size) rfl rfl rfl ZcC.h
        case l13d =>
          refine ⟨fun h => (by cases h), fun h => (by cases h), fun h => (by cases h), fun h => (by cases h), fun h => (by cases h), fun h => (by cases h), fun h => (by cases h), fun h => (by cases h), fun _ => ?_, fun h => (by cases h), trivial⟩
          · intro vs W1 m1 hE hM hV hD; obtain ⟨⟨_, _, -, i57, f57⟩, -, -⟩ := hD; have f57 : BvR _ (vs 57) x y e := f57; replace f57 := f57.le i57.le; clear i57; obtain ⟨u0, e57, k⟩ := f57; generalize vs 57 = x57 at e57 ⊢; subst x57
            exact ⟨_, Or.inl ⟨(by rfl), fun w => (by rfl)⟩, rfl⟩
        intro vs W1 m1 hE hM hV hF hD
        obtain ⟨-, -, -, -, ⟨_, _, -, i62, f62⟩, ⟨_, _, -, i63, f63⟩, ⟨_, _, -, i57, f57⟩, ⟨_, _, -, i64, f64⟩, ⟨_, _, -, -, f65⟩, ⟨_, _, j11, i11, f11⟩, -⟩ := hF
        replace hL := hL.call hE hM hV
        replace f62 : FrG _ (vs 62) xu yu := f62
        replace f62 := f62.le i62.le
        clear i62
        replace f63 : BvR _ (vs 63) x y e := f63
        replace f63 := f63.le i63.le
        clear i63
        replace f57 : BvR _ (vs 57) x y e := f57
        replace f57 := f57.le i57.le
        clear i57
        replace f64 : FracP _ (vs 64) x y := f64
        replace f64 := f64.le i64.le
        clear i64
        obtain ⟨g64, A64, n64, c64, h64, B64, k64, d64, e64, f64⟩ := f64.lit
        generalize vs 64 = x64 at e64 ⊢
        subst x64
        have f65 : vs 65 = _ := f65
        generalize vs 65 = x65 at f65 ⊢
        subst x65
        obtain ⟨b11, e11, hL⟩ := Loc.addB (Lt := []) hB1 hB2 hL f11 j11 i11 ad0
        simp only [e11, List.cons_append, List.nil_append] at hL ⊢
        clear e11 f11 j11 i11
        clear hB1 hB2 hB3 hD
        clear hE hV
        simp only [List.drop_succ_cons, List.drop_zero]
        go_wp2_with (first | ((with_reducible refine kAny ?_); go_skip) | (with_reducible refine stA ?_) | ((first | refine tFd ?_ | refine tLd ?_ | ((first | refine tSr ?_ | refine tSt ?_); clear hL; intro _ hL; simp only [splice, zq1, zq2, zq3] at hL) | (refine tAl ?_; clear hL; intro _ _ hL _) | (refine tBs ?_; clear hL; intro _ _ hL _ hBs)); simp only [Act.put, zq1, zq2, zq3]))
        refine QN.mk ?_
        go_wp2_with (first | ((with_reducible refine kAny ?_); go_skip) | (with_reducible refine stA ?_) | ((first | refine tFd ?_ | refine tLd ?_ | ((first | refine tSr ?_ | refine tSt ?_); clear hL; intro _ hL; simp only [splice, zq1, zq2, zq3] at hL) | (refine tAl ?_; clear hL; intro _ _ hL _) | (refine tBs ?_; clear hL; intro _ _ hL _ hBs)); simp only [Act.put, zq1, zq2, zq3]))
        refine (r_SameP _ _ x y _ _ hL.vw (HU.out.le leX) (f64.le leX) L1.out L2.out).mono ?_
        rintro e Wc8 ⟨_, mc8, rfl, hE, hMc8, hV, rfl⟩
        replace hL := hL.call hE (by assumption) hV; clear hE hV
        go_wp2_with (first | ((with_reducible refine kAny ?_); go_skip) | (with_reducible refine stA ?_) | ((first | refine tFd ?_ | refine tLd ?_ | ((first | refine tSr ?_ | refine tSt ?_); clear hL; intro _ hL; simp only [splice, zq1, zq2, zq3] at hL) | (refine tAl ?_; clear hL; intro _ _ hL _) | (refine tBs ?_; clear hL; intro _ _ hL _ hBs)); simp only [Act.put, zq1, zq2, zq3]))
        refine (k_known _ _ hL.vw).mono ?_
        rintro e Wc9 ⟨_, mc9, rfl, hE, hMc9, hV, rfl⟩
        replace hL := hL.call hE (by assumption) hV; clear hE hV
        go_wp2_with (first | ((with_reducible refine kAny ?_); go_skip) | (with_reducible refine stA ?_) | ((first | refine tFd ?_ | refine tLd ?_ | ((first | refine tSr ?_ | refine tSt ?_); clear hL; intro _ hL; simp only [splice, zq1, zq2, zq3] at hL) | (refine tAl ?_; clear hL; intro _ _ hL _) | (refine tBs ?_; clear hL; intro _ _ hL _ hBs)); simp only [Act.put, zq1, zq2, zq3]))
        go_ret
        exact RetV.mk hL rfl

theorem law_Bounds (Al Aa : Option Addr) (cl ca : Nat) (l a : List Int) (n : Int) (w m : World) (hV : Vw m w) (hl : Sl m Al (l.map I64)) (ha : Sl m Aa (a.map I64)) (n1 : -9223372036854775808 ≤ n) (n2 : n ≤ 9223372036854775807) :
    Calls Tryz.prog 3 #[.slice Al l.length cl, .slice Aa a.length ca, .int .i64 n] w (RetV w m fun _ r => r = .bool true) := by
  by_cases hs : n % 16 = 2
  · exact law_BoundsB Al Aa cl ca l a n w m hV hl ha n1 n2 hs
  · exact law_BoundsA Al Aa cl ca l a n w m hV hl ha n1 n2 hs
end Go.Proofs.YtmhkmmmompediaaGreat
