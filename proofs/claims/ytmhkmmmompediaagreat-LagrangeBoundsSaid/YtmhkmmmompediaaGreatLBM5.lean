/- Part 5 of 7 of the proof: the law LagrangeBounds returns true for every input, and its arguments read as before; there is no condition. -/
import Derived.Maps.Own
import Derived.Maps.Views
import Derived.Test.YtmhkmmmompediaaGreatLBM4
set_option linter.unusedVariables false
set_option linter.unusedSimpArgs false
/- Contract of pairingdata.Wild where no digit is appended. -/
namespace Go.Proofs.YtmhkmmmompediaaGreat
open Go.RowKit

def wkT : List Int := [1, -1, 2, 0]
def wkF (n : Int) : Int := wkT.getD (n / 64 % 4).toNat 0
def wN (n : Int) : Int := (frF n).num * wkF n
def wD (n : Int) : Int := ((frF n).den : Int) * wkF n
theorem wkT_bd : ∀ j : Fin 4, (wkT.getD j.val 0).natAbs ≤ 2 := by decide
theorem wkF_bd (n : Int) : (wkF n).natAbs ≤ 2 := wkT_bd ⟨(n / 64 % 4).toNat, by omega⟩
theorem prod20 {a b : Int} (ha : a.natAbs ≤ 10) (hb : b.natAbs ≤ 2) : (a * b).natAbs ≤ 20 := by
  rw [Int.natAbs_mul]; exact Nat.mul_le_mul ha hb
theorem wN_bd (n : Int) : (wN n).natAbs ≤ 20 := prod20 (frT n).1 (wkF_bd n)
theorem wD_bd (n : Int) : (wD n).natAbs ≤ 20 := prod20 (by simpa using (frT n).2) (wkF_bd n)
theorem wk_cell {m : World} {g : Nat} {t : TypeId} {j : Nat} (h : Blk m g t #[.int .i64 1, .int .i64 (-1), .int .i64 2, .int .i64 0]) (hj : j < 4) : m.cell? ⟨g, 0 + j, none⟩ = some (.int .i64 (wkT.getD j 0)) := by
  rw [Nat.zero_add, h.cell]
  match j, hj with
  | 0, _ => rfl
  | 1, _ => rfl
  | 2, _ => rfl
  | 3, _ => rfl
theorem d_timesV (a b : Value) (x y : Int) (w m : World) (hV : Vw m w) (ha : IntV m a x) (hb : IntV m b y) (hx : x.natAbs < 4294967296) (hy : y.natAbs < 4294967296) :
    Calls Tryz.prog 75 #[a, b] w (RetV w m fun m' v => IntC m' v (x * y)) := by
  refine (d_times a b x y w m hV ha hb hx hy).mono ?_
  rintro e w' ⟨v, m', rfl, h1, h2, h3, h4⟩
  exact ⟨v, m', rfl, h1, h2, h3, h4.1⟩
theorem len_small {z : Int} (h : z.natAbs ≤ 20) : (digs z.natAbs).length ≤ 1000 := Nat.le_trans (len2 (by omega)) (by decide)
theorem frG_small {m : World} {a b c d : Value} {x y : Int} (h1 : IntC m (.agg #[a, b]) x) (h2 : IntC m (.agg #[c, d]) y) (b1 : x.natAbs ≤ 20) (b2 : y.natAbs ≤ 20) : FrG m (.agg #[a, b, c, d]) x y := by
  obtain ⟨g, A, n, c1, rfl, rfl⟩ := h1.parts
  obtain ⟨h, B, k, d1, rfl, rfl⟩ := h2.parts
  exact ⟨⟨_, _, _, _, _, _, _, _, rfl, h1.toV (len_small b1), h2.toV (len_small b2)⟩, .inl ⟨_, _, _, _, rfl, h1.toS (by omega), h2.toS (by omega), by omega, by omega⟩⟩

set_option maxRecDepth 100000 in
set_option maxHeartbeats 8000000 in
theorem d_WildA (n : Int) (w m : World) (hV : Vw m w) (h1 : -9223372036854775808 ≤ n) (h2 : n ≤ 9223372036854775807) (h8 : n / 256 % 4 ≠ 3) :
    Calls Tryz.prog 19 #[.int .i64 n] w (RetV w m fun m' r => FrG m' r (wN n) (wD n)) := by
  obtain ⟨j, hj⟩ : ∃ j : Nat, n / 64 % 4 = j := ⟨(n / 64 % 4).toNat, by omega⟩
  have j4 : j < 4 := by omega
  have e1 : bits .and .i64 (n / 64) 3 = (j : Int) := (i64_and2 (n / 64)).trans hj
  have e2 := i64_and2 (n / 256)
  have b8 : (n / 256 % 4 == 3) = false := by simp; omega
  have HW : Hid (wkF n = wkT.getD j 0) := by show wkT.getD _ 0 = _; rw [hj]; rfl
  have HK : Hid ((wkT.getD j 0).natAbs ≤ 2) := wkT_bd ⟨j, j4⟩
  have HF := Lib.hid (frT n)
  have KF : Hid (∀ w m, Vw m w → Calls Tryz.prog 64 #[.int .i64 n] w (RetV w m fun m' r => FracC m' r (frF n))) := by
    show ∀ w m, _
    exact fun w m hV => d_Frac n w m hV h1 h2
  have WN : Hid (wN n = (frF n).num * wkT.getD j 0) := by show (frF n).num * wkF n = _; rw [HW.out]
  have WD : Hid (wD n = ((frF n).den : Int) * wkT.getD j 0) := by show ((frF n).den : Int) * wkF n = _; rw [HW.out]
  have BN := Lib.hid (wN_bd n)
  have BD := Lib.hid (wD_bd n)
  generalize hk : wkT.getD j 0 = kk at *
  have HKK := Lib.hid hk
  have KI : Hid (∀ w m, Vw m w → Calls Tryz.prog 17 #[.int .i64 kk] w (RetV w m fun m' r => FracC m' r (kk : Rat))) := by
    show ∀ w m, _
    exact fun w m hV => r_Int kk w m hV (by have := HK.out; omega) (by have := HK.out; omega)
  have LK : Hid ((digs kk.natAbs).length ≤ 1000) := len_small (by have := HK.out; omega)
  have B1 : Hid ((frF n).num.natAbs < 4294967296) := by show _ < _; have := HF.out.1; omega
  have B2 : Hid (((frF n).den : Int).natAbs < 4294967296) := by show _ < _; have := HF.out.2; omega
  have B3 : Hid (kk.natAbs < 4294967296) := by show _ < _; have := HK.out; omega
  have L1 : Hid ((digs (frF n).num.natAbs).length ≤ 1000) := Nat.le_trans (len2 (by have := B1.out; omega)) (by decide)
  have L2 : Hid ((digs ((frF n).den : Int).natAbs).length ≤ 1000) := Nat.le_trans (len2 (by have := B2.out; omega)) (by decide)
  have hL := Loc.start hV
  clear hV h1 h2 h8 hj hk
  go_enter Tryz.func19, Tryz.ntmps19
  go_wp2_with (first | ((with_reducible refine kAny ?_); go_skip) | (with_reducible refine stA ?_) | ((first | refine tIx ?_ | refine tFd ?_ | refine tLd ?_ | ((first | refine tSr ?_ | refine tSt ?_); clear hL; intro _ hL; simp only [splice, zq1, zq2, zq3] at hL) | (refine tAl ?_; clear hL; intro _ _ hL _) | refine tFl ?_ | (refine tBs ?_; clear hL; intro _ _ hL _ hBs)); simp only [Act.put, zq1, zq2, zq3]))
  refine (KF.out _ _ hL.vw).mono ?_
  rintro e Wc1 ⟨vc1, mc1, rfl, hE, hMc1, hV, hc1⟩
  replace hL := hL.call hE (by assumption) hV; clear hE hV
  obtain ⟨gc1', Ac1', nc1', cc1', hc1', Bc1', kc1', dc1', rfl, hc1⟩ := hc1.lit
  go_upto_region 2 with ((first | ((with_reducible refine kAny ?_); go_skip) | (with_reducible refine stA ?_) | ((first | refine tIx ?_ | refine tFd ?_ | refine tLd ?_ | ((first | refine tSr ?_ | refine tSt ?_); clear hL; intro _ hL; simp only [splice, zq1, zq2, zq3] at hL) | (refine tAl ?_; clear hL; intro _ _ hL _) | refine tFl ?_ | (refine tBs ?_; clear hL; intro _ _ hL _ hBs)); simp only [Act.put, zq1, zq2, zq3])))
  refine wp_region_lit ?_
  refine wl_bslice hL (wanted_none rfl) rfl (n := 4) (cs := #[.int .i64 1, .int .i64 (-1), .int .i64 2, .int .i64 0]) (e := 3) (fun w => by go_simp) ?_
  clear hL
  intro Wa ma hL ea hab
  simp only [Act.put, zq1, zq2, zq3]
  have hj1 := wk_cell hab j4
  rw [HKK.out] at hj1
  clear hab
  go_wp2_with (first | ((with_reducible refine kAny ?_); go_skip) | (with_reducible refine stA ?_) | ((first | refine tIx ?_ | refine tFd ?_ | refine tLd ?_ | ((first | refine tSr ?_ | refine tSt ?_); clear hL; intro _ hL; simp only [splice, zq1, zq2, zq3] at hL) | (refine tAl ?_; clear hL; intro _ _ hL _) | refine tFl ?_ | (refine tBs ?_; clear hL; intro _ _ hL _ hBs)); simp only [Act.put, zq1, zq2, zq3]))
  refine (KI.out _ _ hL.vw).mono ?_
  rintro e Wc2 ⟨vc2, mc2, rfl, hE, hMc2, hV, hc2⟩
  replace hL := hL.call hE (by assumption) hV; clear hE hV
  obtain ⟨gc2', Ac2', nc2', cc2', hc2', Bc2', kc2', dc2', rfl, hc2⟩ := hc2.lit
  clear hj1
  go_upto_region 3 with ((first | ((with_reducible refine kAny ?_); go_skip) | (with_reducible refine stA ?_) | ((first | refine tIx ?_ | refine tFd ?_ | refine tLd ?_ | ((first | refine tSr ?_ | refine tSt ?_); clear hL; intro _ hL; simp only [splice, zq1, zq2, zq3] at hL) | (refine tAl ?_; clear hL; intro _ _ hL _) | refine tFl ?_ | (refine tBs ?_; clear hL; intro _ _ hL _ hBs)); simp only [Act.put, zq1, zq2, zq3])))
  refine wp_region_lit ?_
  refine wl_bslice hL (wanted_none rfl) rfl (n := 4) (cs := #[.int .i64 1, .int .i64 (-1), .int .i64 2, .int .i64 0]) (e := 3) (fun w => by go_simp) ?_
  clear hL
  intro Wb mb hL eb hbb
  simp only [Act.put, zq1, zq2, zq3]
  have hj2 := wk_cell hbb j4
  rw [HKK.out] at hj2
  clear hbb
  go_wp2_with (first | ((with_reducible refine kAny ?_); go_skip) | (with_reducible refine stA ?_) | ((first | refine tIx ?_ | refine tFd ?_ | refine tLd ?_ | ((first | refine tSr ?_ | refine tSt ?_); clear hL; intro _ hL; simp only [splice, zq1, zq2, zq3] at hL) | (refine tAl ?_; clear hL; intro _ _ hL _) | refine tFl ?_ | (refine tBs ?_; clear hL; intro _ _ hL _ hBs)); simp only [Act.put, zq1, zq2, zq3]))
  refine (KI.out _ _ hL.vw).mono ?_
  rintro e Wc3 ⟨vc3, mc3, rfl, hE, hMc3, hV, hc3⟩
  replace hL := hL.call hE (by assumption) hV; clear hE hV
  obtain ⟨gc3', Ac3', nc3', cc3', hc3', Bc3', kc3', dc3', rfl, hc3⟩ := hc3.lit
  clear hj2
  obtain ⟨f1, f2⟩ := hc1.open_
  obtain ⟨q1, -⟩ := hc2.open_
  obtain ⟨q2, -⟩ := hc3.open_
  clear hc1 hc2 hc3 e1 e2
  have e2 := i64_and2 (n / 256)
  go_upto_region 4 with ((first | ((with_reducible refine kAny ?_); go_skip) | (with_reducible refine stA ?_) | ((first | refine tIx ?_ | refine tFd ?_ | refine tLd ?_ | ((first | refine tSr ?_ | refine tSt ?_); clear hL; intro _ hL; simp only [splice, zq1, zq2, zq3] at hL) | (refine tAl ?_; clear hL; intro _ _ hL _) | refine tFl ?_ | (refine tBs ?_; clear hL; intro _ _ hL _ hBs)); simp only [Act.put, zq1, zq2, zq3])))
  refine wp_region_by2 9 [false, false, false, false, false, false, false, false, false] [false, false, false, false, false, false, false, false, false] [(fun v _ _ => v = ?c4_0), (fun v _ _ => v = ?c4_1), (fun v _ _ => v = ?c4_2), Of (fun um v => IntC um v ((frF n).num * kk)), (fun v _ _ => v = ?c4_4), (fun v _ _ => v = ?c4_5), (fun v _ _ => v = ?c4_6), Of (fun um v => IntC um v (((frF n).den : Int) * kk)), (fun v _ _ => v = ?c4_8)] hL.vw mixed [24, 25, 26, 27, 28, 29, 30, 31, 32] _ (by kernel_rfl) (fun vs => by simp only [lay, Act.put, zq1, zq2, zq3]; rfl) (by kernel_rfl) (by decide) (by decide) ?s4 ?l4 ?r4
  case s4 =>
    refine ⟨?_, ?_, ?_, ?_, ?_, ?_, ?_, ?_, ?_, trivial⟩
    · intro vs W1 m1 hE hM hV hD; clear hD; replace hL := hL.call hE hM hV
      exact sFd
    · intro vs W1 m1 hE hM hV hD; obtain ⟨⟨_, _, -, -, f24⟩, -⟩ := hD; have f24 : vs 24 = _ := f24; generalize vs 24 = x24 at f24 ⊢; subst x24; replace hL := hL.call hE hM hV
      exact sLd
    · intro vs W1 m1 hE hM hV hD; clear hD; replace hL := hL.call hE hM hV
      exact sLd
    · intro vs W1 m1 hE hM hV hD; obtain ⟨⟨_, _, -, -, f25⟩, ⟨_, _, -, -, f26⟩, -⟩ := hD; have f25 : vs 25 = _ := f25; generalize vs 25 = x25 at f25 ⊢; subst x25; have f26 : vs 26 = _ := f26; generalize vs 26 = x26 at f26 ⊢; subst x26
      go_wp2_with fail
      refine (d_timesV _ _ _ kk _ _ hV ((f1.toV L1.out).le leX) ((q1.toV LK.out).le leX) B1.out B3.out).mono ?_
      rintro e W2 ⟨v, m2, rfl, hE2, hM2, hV2, h⟩
      go_wp2_with fail
      refine One2.call hE2 hM2 hV2 ?_; first | exact h | exact rfl
    · intro vs W1 m1 hE hM hV hD; clear hD; replace hL := hL.call hE hM hV
      exact sFd
    · intro vs W1 m1 hE hM hV hD; obtain ⟨⟨_, _, -, -, f28⟩, -⟩ := hD; have f28 : vs 28 = _ := f28; generalize vs 28 = x28 at f28 ⊢; subst x28; replace hL := hL.call hE hM hV
      exact sLd
    · intro vs W1 m1 hE hM hV hD; clear hD; replace hL := hL.call hE hM hV
      exact sLd
    · intro vs W1 m1 hE hM hV hD; obtain ⟨⟨_, _, -, -, f29⟩, ⟨_, _, -, -, f30⟩, -, -⟩ := hD; have f29 : vs 29 = _ := f29; generalize vs 29 = x29 at f29 ⊢; subst x29; have f30 : vs 30 = _ := f30; generalize vs 30 = x30 at f30 ⊢; subst x30
      go_wp2_with fail
      refine (d_timesV _ _ _ kk _ _ hV ((f2.toV L2.out).le leX) ((q2.toV LK.out).le leX) B2.out B3.out).mono ?_
      rintro e W2 ⟨v, m2, rfl, hE2, hM2, hV2, h⟩
      go_wp2_with fail
      refine One2.call hE2 hM2 hV2 ?_; first | exact h | exact rfl
    · intro vs W1 m1 hE hM hV hD; clear hD; replace hL := hL.call hE hM hV
      exact sFd
  case l4 =>
    refine ⟨fun h => (by cases h), fun h => (by cases h), fun h => (by cases h), fun h => (by cases h), fun h => (by cases h), fun h => (by cases h), fun h => (by cases h), fun h => (by cases h), fun h => (by cases h), trivial⟩
  intro vs W1 m1 hE hM hV hF hD
  clear hD
  obtain ⟨-, -, -, ⟨_, _, -, i27, f27⟩, -, -, -, ⟨_, _, -, i31, f31⟩, ⟨_, _, -, -, f32⟩, -⟩ := hF
  replace hL := hL.call hE hM hV
  replace f27 : IntC _ (vs 27) ((frF n).num * kk) := f27
  replace f27 := f27.le i27.le
  clear i27
  obtain ⟨g27, A27, n27, c27, e27, f27⟩ := f27.lit
  generalize vs 27 = x27 at e27 ⊢
  subst x27
  replace f31 : IntC _ (vs 31) (((frF n).den : Int) * kk) := f31
  replace f31 := f31.le i31.le
  clear i31
  obtain ⟨g31, A31, n31, c31, e31, f31⟩ := f31.lit
  generalize vs 31 = x31 at e31 ⊢
  subst x31
  have f32 : vs 32 = _ := f32
  generalize vs 32 = x32 at f32 ⊢
  subst x32
  clear hE hV
  simp only [List.drop_succ_cons, List.drop_zero]
  go_wp2_with (first | ((with_reducible refine kAny ?_); go_skip) | (with_reducible refine stA ?_) | ((first | refine tIx ?_ | refine tFd ?_ | refine tLd ?_ | ((first | refine tSr ?_ | refine tSt ?_); clear hL; intro _ hL; simp only [splice, zq1, zq2, zq3] at hL) | (refine tAl ?_; clear hL; intro _ _ hL _) | refine tFl ?_ | (refine tBs ?_; clear hL; intro _ _ hL _ hBs)); simp only [Act.put, zq1, zq2, zq3]))
  refine QN.mk ?_
  go_wp2_with (first | ((with_reducible refine kAny ?_); go_skip) | (with_reducible refine stA ?_) | ((first | refine tIx ?_ | refine tFd ?_ | refine tLd ?_ | ((first | refine tSr ?_ | refine tSt ?_); clear hL; intro _ hL; simp only [splice, zq1, zq2, zq3] at hL) | (refine tAl ?_; clear hL; intro _ _ hL _) | refine tFl ?_ | (refine tBs ?_; clear hL; intro _ _ hL _ hBs)); simp only [Act.put, zq1, zq2, zq3]))
  refine fin_agg hL Tryz.results19 rfl rfl loX AgC.h (by exact rfl) ?_
  rw [← WN.out] at f27
  rw [← WD.out] at f31
  exact frG_small (f27.le leX) (f31.le leX) BN.out BD.out
end Go.Proofs.YtmhkmmmompediaaGreat

/- Regions that draw their order and store, late, into cells that they load before: the loads are taken first under a condition that holds till the first store. No program. -/
namespace Go.Proofs.YtmhkmmmompediaaGreat
open Go.RowKit
section
variable {P : Program} {ops : Array Oper} {Q : Exit → Act → World → Prop} {S : World → Prop}

def wpL (P : Program) (ops : Array Oper) (Q : Exit → Act → World → Prop) (S : World → Prop) (s : Nat) : Nat → Array Bool → Act → World → Prop
  | 0, listed, a, w => Region.ready .any ops listed = [] ∧ Q .normal a w
  | fuel + 1, listed, a, w =>
    (Region.ready .any ops listed = [] → Q .normal a w) ∧
    ∀ i ∈ Region.ready .any ops listed, wpOp P ops Q i (fun a' w' => ((listed.setIfInBounds i true).getD s false = false → S w') ∧ wpL P ops Q S s fuel (listed.setIfInBounds i true) a' w') a w
theorem wpAny_of_L {s : Nat} : ∀ (fuel : Nat) (listed : Array Bool) (a : Act) (w : World), wpL P ops Q S s fuel listed a w → wpAny P .any ops Q fuel listed a w
  | 0, _, _, _, h => h
  | fuel + 1, _, _, _, h => ⟨h.1, fun i hi => wpOp_mono (fun a' w' h' => wpAny_of_L fuel _ a' w' h'.2) (h.2 i hi)⟩
theorem wpL_first {s i k : Nat} {oi os : Oper} {v : Value} (hi : ops[i]? = some oi) (hos : ops[s]? = some os) (hw : ∃ e ∈ os.after, Region.binds .any e = true ∧ e.on = k) (hk : k = i ∨ ∃ ok, ops[k]? = some ok ∧ ∃ e ∈ ok.after, Region.binds .any e = true ∧ e.on = i) (hsi : s ≠ i)
    (hsel : ∀ (j : Nat) (o : Oper) cs b, ops[j]? = some o → o.op ≠ .select cs b) (hQ : ∀ c a w, Q (.panic c) (a.put oi.dst v) w → Q (.panic c) a w) :
    ∀ (fuel : Nat) (listed : Array Bool) (a : Act) (w : World),
      (∀ j oj, ops[j]? = some oj → j ≠ i → listed.getD j true = false → (∀ e ∈ oj.after, Region.binds .any e = true → e.on ≠ i) → oi.apart ops oj = true) →
      i ∈ Region.ready .any ops listed → listed.getD s false = false → listed.getD k false = false → YieldsIf P ops S oi v a → S w →
      wpL P ops Q S s fuel (listed.setIfInBounds i true) (a.put oi.dst v) w → wpL P ops Q S s (fuel + 1) listed a w := by
  intro fuel
  induction fuel with
  | zero =>
    intro listed a w _ hr _ _ hy hS H
    refine ⟨fun h => (by rw [h] at hr; cases hr), fun j hj => ?_⟩
    by_cases hji : j = i
    · subst hji; exact hy.wpOp hi hS ⟨fun _ => hS, H⟩
    · have := ready_mono hj hji
      rw [H.1] at this
      cases this
  | succ fuel ih =>
    intro listed a w hfree hr hsl hkl hy hS H
    refine ⟨fun h => (by rw [h] at hr; cases hr), fun j hj => ?_⟩
    by_cases hji : j = i
    · subst hji; exact hy.wpOp hi hS ⟨fun _ => hS, H⟩
    · have h1 := H.2 j (ready_mono hj hji)
      obtain ⟨hjun, oj, hoj, hall⟩ := mem_ready.1 hj
      have hnot : ∀ e ∈ oj.after, Region.binds .any e = true → e.on ≠ i := fun e he hb heq => by
        have h1 := hall e he hb
        have h0 := (mem_ready.1 hr).1
        rw [heq] at h1
        rcases Nat.lt_or_ge i listed.size with h' | h'
        · simp [h'] at h0 h1; rw [h0] at h1; cases h1
        · simp [Array.getElem?_eq_none h'] at h1
      have hjs : j ≠ s := by
        rintro rfl
        rw [hos] at hoj
        obtain rfl := Option.some.inj hoj
        obtain ⟨e, he, hb, heq⟩ := hw
        have h9 := hall e he hb
        rw [heq, hkl] at h9
        cases h9
      have hjk : j ≠ k := by
        rintro rfl
        rcases hk with hk | ⟨ok, hok, e, he, hb, heq⟩
        · exact hji hk
        · rw [hok] at hoj
          obtain rfl := Option.some.inj hoj
          exact hnot e he hb heq
      have hkl' : (listed.setIfInBounds j true).getD k false = false := by rw [Go.getD_set_ne false hjk]; exact hkl
      have hsl' : (listed.setIfInBounds j true).getD s false = false := by rw [Go.getD_set_ne false hjs]; exact hsl
      have hsl2 : ((listed.setIfInBounds i true).setIfInBounds j true).getD s false = false := by rw [Go.getD_set_ne false hjs, Go.getD_set_ne false (Ne.symm hsi)]; exact hsl
      have h2 := wpOp_putIf hoj (hfree j oj hoj hji hjun hnot) (fun cs b => hsel i oi cs b hi) (fun cs b => hsel j oj cs b hoj) hQ hy h1
      have hfree' : ∀ k ok, ops[k]? = some ok → k ≠ i → (listed.setIfInBounds j true).getD k true = false →
          (∀ e ∈ ok.after, Region.binds .any e = true → e.on ≠ i) → oi.apart ops ok = true := fun k ok hk hki hun hno => by
        refine hfree k ok hk hki ?_ hno
        by_cases hjk : j = k
        · subst hjk; exact hjun
        · rw [Go.getD_set_ne true hjk] at hun; exact hun
      refine wpOp_mono (fun a' w' h3 => ⟨fun _ => h3.2.1 hsl2, ih (listed.setIfInBounds j true) a' w' hfree' (ready_mono hr (Ne.symm hji)) hsl' hkl' h3.1 (h3.2.1 hsl2) ?_⟩) h2
      rw [Array.setIfInBounds_comm _ _ hji]
      exact h3.2.2
def waits (ops : Array Oper) (s i : Nat) : Bool := match ops[s]? with
  | some o => o.after.any fun e => Region.binds .any e && e.on == i
  | none => false
theorem waits_spec {s i : Nat} (h : waits ops s i = true) : ∃ os, ops[s]? = some os ∧ ∃ e ∈ os.after, Region.binds .any e = true ∧ e.on = i := by
  unfold waits at h
  cases ho : ops[s]? with
  | none => rw [ho] at h; cases h
  | some os =>
    rw [ho] at h
    obtain ⟨k, hk, he⟩ := Array.any_eq_true.1 h
    simp only [Bool.and_eq_true, beq_iff_eq] at he
    exact ⟨os, rfl, _, Array.getElem_mem hk, he.1, he.2⟩
theorem wpL_take {s : Nat} (i k : Nat) {oi : Oper} {v : Value} {fuel : Nat} {listed : Array Bool} {a : Act} {w : World} (hi : ops[i]? = some oi)
    (hc : (Region.noSelect ops && Region.free .any ops listed i && (Region.ready .any ops listed).contains i && waits ops s k && (k == i || waits ops k i) && !listed.getD k false && !listed.getD s false && s != i) = true)
    (hQ : ∀ c a w, Q (.panic c) (a.put oi.dst v) w → Q (.panic c) a w) (hS : S w) (hw : Region.wanted oi (yielded ops a.tmps) = true) (hy : ∀ w, S w → (execOp a.eval oi).run P w = .ok (.value v) w)
    (h : wpL P ops Q S s fuel (listed.setIfInBounds i true) (a.put oi.dst v) w) : wpL P ops Q S s (fuel + 1) listed a w := by
  simp only [Bool.and_eq_true, Bool.or_eq_true, beq_iff_eq, Bool.not_eq_true', bne_iff_ne] at hc
  obtain ⟨⟨⟨⟨⟨⟨⟨h1, h2⟩, h3⟩, h4⟩, h7⟩, h8⟩, h5⟩, h6⟩ := hc
  obtain ⟨os, hos, hwt⟩ := waits_spec h4
  exact wpL_first hi hos hwt (h7.imp id waits_spec) h6 (Region.noSelect_spec h1) hQ fuel listed a w (Region.free_spec hi h2) (by simpa using h3) h5 h8 (.inl ⟨hw, hy⟩) hS h
def AllL (P : Program) (ops : Array Oper) (Q : Exit → Act → World → Prop) (S : World → Prop) (s fuel : Nat) (listed : Array Bool) (a : Act) (w : World) (rs : List Nat) : Prop :=
  ∀ i ∈ rs, wpOp P ops Q i (fun a' w' => ((listed.setIfInBounds i true).getD s false = false → S w') ∧ wpL P ops Q S s fuel (listed.setIfInBounds i true) a' w') a w
theorem AllL.nil {s fuel : Nat} {listed : Array Bool} {a : Act} {w : World} : AllL P ops Q S s fuel listed a w [] := fun _ h => by cases h
theorem AllL.cons {s fuel : Nat} {listed : Array Bool} {a : Act} {w : World} {i : Nat} {o : Oper} {rs : List Nat} (ho : ops[i]? = some o)
    (h : ∀ K' : Act → World → Prop, Shut (∀ a w, S w → (S w → wpL P ops Q S s fuel (listed.setIfInBounds i true) a w) → K' a w) → if Region.wanted o (yielded ops a.tmps) = true then Oper.wp P o a w K' Q else K' (a.put o.dst undef) w)
    (hs : AllL P ops Q S s fuel listed a w rs) : AllL P ops Q S s fuel listed a w (i :: rs) := fun j hj => by
  rcases List.mem_cons.1 hj with rfl | hj
  · exact wpOp_step ho (fun K' hK => h K' (fun a w hS hW => hK a w ⟨fun _ => hS, hW hS⟩))
  · exact hs j hj
theorem AllL.last {s fuel : Nat} {listed : Array Bool} {a : Act} {w : World} {i : Nat} {o : Oper} {rs : List Nat} (ho : ops[i]? = some o) (hsl : (listed.setIfInBounds i true).getD s false = true)
    (h : ∀ K' : Act → World → Prop, Shut (∀ a w, wpL P ops Q S s fuel (listed.setIfInBounds i true) a w → K' a w) → if Region.wanted o (yielded ops a.tmps) = true then Oper.wp P o a w K' Q else K' (a.put o.dst undef) w)
    (hs : AllL P ops Q S s fuel listed a w rs) : AllL P ops Q S s fuel listed a w (i :: rs) := fun j hj => by
  rcases List.mem_cons.1 hj with rfl | hj
  · exact wpOp_step ho (fun K' hK => h K' (fun a w hW => hK a w ⟨fun h0 => (by rw [hsl] at h0; cases h0), hW⟩))
  · exact hs j hj
theorem wpL_ready {s : Nat} (rs : List Nat) {fuel : Nat} {listed : Array Bool} {a : Act} {w : World} (hr : Region.ready .any ops listed = rs) (hne : rs ≠ [])
    (h : AllL P ops Q S s fuel listed a w rs) : wpL P ops Q S s (fuel + 1) listed a w := ⟨fun h0 => absurd (hr ▸ h0) hne, hr ▸ h⟩
theorem wpL_done {s : Nat} {listed : Array Bool} {a : Act} {w : World} (hr : Region.ready .any ops listed = []) (h : Q .normal a w) : ∀ fuel, wpL P ops Q S s fuel listed a w
  | 0 => ⟨hr, h⟩
  | _ + 1 => ⟨fun _ => h, by rw [hr]; simp⟩
theorem wp_region_L {id : Nat} {a : Act} {w : World} (s : Nat) (S : World → Prop) (hm : P.follows .mixedOrders = true) (h : wpL P ops (NoPanic Q) S s ops.size (Array.replicate ops.size false) a w.drew) : (Code.region id ops true).wp P Q a w :=
  wp_region_noPanic (wp_region_any hm (wpAny_of_L _ _ _ _ h))
end
end Go.Proofs.YtmhkmmmompediaaGreat

/- Contract of pairingdata.Wild where a digit is appended. -/
namespace Go.Proofs.YtmhkmmmompediaaGreat
open Go.RowKit

theorem own_ne_blk {w : World} {b : Nat} {e : TypeId} {size : Nat} {v : Value} {n : Nat} {xs : List Value} (h : w.ownsRow b e size v n xs) {g : Nat} {t : TypeId} {cs : Array Value} (hb : Blk w g t cs) (ht : t ≠ e) : some g ≠ v.ownBlock := by
  obtain ⟨-, ⟨rfl, -⟩ | ⟨g', cap, cur, rfl, -, h5, -⟩⟩ := h
  · intro h; cases h
  · intro h
    have e : g = g' := Option.some.inj h
    subst e
    exact blk_ne hb h5 (.inl ht) rfl
theorem Blk.grown {w w' : World} {g : Nat} {t : TypeId} {cs : Array Value} {row : Option Nat} (h : Blk w g t cs) (hg : w.grownBy w' row) (hne : some g ≠ row) : Blk w' g t cs := (hg.block g h.lt hne).trans h
theorem own_grown {w w' : World} {b : Nat} {e : TypeId} {size : Nat} {v : Value} {n : Nat} {xs : List Value} {row : Option Nat} (h : w.ownsRow b e size v n xs) (hg : w.grownBy w' row) (hne : ∀ k, v.ownBlock = some k → some k ≠ row) : w'.ownsRow b e size v n xs := by
  obtain ⟨h1, h2 | ⟨g, cap, cur, rfl, h4, h5, h6⟩⟩ := h
  · exact ⟨h1, .inl h2⟩
  · exact ⟨h1, .inr ⟨g, cap, cur, rfl, h4, Blk.grown h5 hg (hne g rfl), h6⟩⟩
theorem own_set {w : World} {b : Nat} {e : TypeId} {size : Nat} {v : Value} {n : Nat} {xs : List Value} (h : w.ownsRow b e size v n xs) {p : Addr} (hne : some p.block ≠ v.ownBlock) (u : Value) : (w.setCell p u).ownsRow b e size v n xs := by
  obtain ⟨h1, h2 | ⟨g, cap, cur, rfl, h4, h5, h6⟩⟩ := h
  · exact ⟨h1, .inl h2⟩
  · exact ⟨h1, .inr ⟨g, cap, cur, rfl, h4, Blk.far h5 (fun e => hne (congrArg some e.symm)) u, h6⟩⟩
theorem own_lt {w : World} {b : Nat} {e : TypeId} {size : Nat} {v : Value} {n : Nat} {xs : List Value} (h : w.ownsRow b e size v n xs) : ∀ k, v.ownBlock = some k → b ≤ k ∧ k < w.heap.size := by
  obtain ⟨-, ⟨rfl, -⟩ | ⟨g, cap, cur, rfl, h4, h5, -⟩⟩ := h
  · intro k h; cases h
  · intro k h
    have e : g = k := Option.some.inj h
    subst e
    exact ⟨h4, Blk.lt h5⟩
theorem Loc.raw {w m W : World} (hV : Vw m w) (hE : Ext w W) {Ls : List Lo} (h1 : ∀ x ∈ Ls, w.heap.size ≤ x.1 ∧ Blk W x.1 x.2.1 x.2.2) (h2 : Ls.Pairwise (fun x y => x.1 ≠ y.1)) : Loc w m W (hidTo m W.heap.size) Ls := by
  have hs : m.heap.size ≤ W.heap.size := by rw [hV.size]; exact hE.size
  refine ⟨hV.size, hE, hidTo_ext hs, ⟨hV.os.trans hE.os.symm, hV.tape.trans hE.tape.symm, hV.output.trans hE.output.symm, hidTo_size hs, fun a u hu => ?_⟩, fun x hx => (h1 x hx).1, fun x hx => (h1 x hx).2, fun x hx a ha => ?_, h2⟩
  · rcases Nat.lt_or_ge a.block m.heap.size with h | h
    · rw [cell_of_heap (hidTo_old h)] at hu
      rw [hE.cell (p := a) (by rw [← hV.size]; exact h)]
      exact hV.cell _ _ hu
    · rw [hidTo_new h] at hu; cases hu
  · refine hidTo_new ?_
    rw [ha, hV.size]
    exact (h1 x hx).1
theorem keepS {w w' : World} {f : Nat} {a b : Bool} {s1 s2 : Value} (hE : Ext w w') (h : Blk w' f 39 #[.bool a, s1, .bool b, s2]) (hr : Blk w' w.heap.size 39 #[.bool false, .slice none 0 0, .bool false, .slice none 0 0]) :
    w'.cell? ⟨f, 1, none⟩ = some s1 ∧ w'.cell? ⟨f, 3, none⟩ = some s2 ∧ w'.frozen? ⟨f, 1, none⟩ = false ∧ w'.frozen? ⟨f, 3, none⟩ = false ∧ Ext w w' ∧ Blk w' f 39 #[.bool a, s1, .bool b, s2] ∧ Blk w' w.heap.size 39 #[.bool false, .slice none 0 0, .bool false, .slice none 0 0] := by
  obtain ⟨-, p6, -, p8, -, z6, -, z8⟩ := h.facts4
  exact ⟨p6, p8, z6, z8, hE, h, hr⟩
theorem rows_apart {w0 m0 W m : World} {A R1 R2 : List Lo} (hL : Loc w0 m0 W m (A ++ (R1 ++ R2))) {e : TypeId} {size : Nat} {v1 v2 : Value} {n1 n2 : Nat} {xs1 xs2 : List Value} (h1 : Row e size v1 n1 xs1 R1) (h2 : Row e size v2 n2 xs2 R2) : ∀ k, v1.ownBlock = some k → v2.ownBlock ≠ some k := by
  obtain ⟨-, ⟨rfl, -, -⟩ | ⟨g, cap, cur, rfl, rfl, -⟩⟩ := h1
  · intro k h; cases h
  · obtain ⟨-, ⟨rfl, -, -⟩ | ⟨g', cap', cur', rfl, rfl, -⟩⟩ := h2
    · intro k _ h; cases h
    · intro k h h'
      have e1 : g = k := Option.some.inj h
      have e2 : g' = k := Option.some.inj h'
      have hap := (List.pairwise_append.1 (List.pairwise_append.1 hL.apart).2.1).2.2 (g, e, cur) (by simp) (g', e, cur') (by simp)
      exact hap (e1.trans e2.symm)
theorem keepD {w w' : World} {f : Nat} {a b : Bool} {s1 s2 : Value} (h : w'.cell? ⟨f, 1, none⟩ = some s1 ∧ w'.cell? ⟨f, 3, none⟩ = some s2 ∧ w'.frozen? ⟨f, 1, none⟩ = false ∧ w'.frozen? ⟨f, 3, none⟩ = false ∧ Ext w w' ∧ Blk w' f 39 #[.bool a, s1, .bool b, s2] ∧ Blk w' w.heap.size 39 #[.bool false, .slice none 0 0, .bool false, .slice none 0 0]) :
    w'.drew.cell? ⟨f, 1, none⟩ = some s1 ∧ w'.drew.cell? ⟨f, 3, none⟩ = some s2 ∧ w'.drew.frozen? ⟨f, 1, none⟩ = false ∧ w'.drew.frozen? ⟨f, 3, none⟩ = false ∧ Ext w w'.drew ∧ Blk w'.drew f 39 #[.bool a, s1, .bool b, s2] ∧ Blk w'.drew w.heap.size 39 #[.bool false, .slice none 0 0, .bool false, .slice none 0 0] :=
  keepS h.2.2.2.2.1.drew h.2.2.2.2.2.1.drew h.2.2.2.2.2.2.drew
theorem wZ {n : Int} (h : wD n = 0) : wN n = 0 := by
  have hd := (frF n).den_pos
  have hk : wkF n = 0 := by
    rcases Int.mul_eq_zero.1 h with h | h
    · omega
    · exact h
  show (frF n).num * wkF n = 0
  rw [hk, Int.mul_zero]
theorem val_zero_end (z : Int) : sgn (decide (z < 0)) (val (digs z.natAbs ++ [0])) = z := by
  rw [val_snoc, Nat.mul_zero, Nat.add_zero, val_digs]; exact sgn_canon z
theorem dg_zero_end (z : Int) : Dg (digs z.natAbs ++ [0]) := (Dg_digs _).append (Dg.cons (by decide) Dg.nil)
theorem map_zero_end (z : Int) : (digs z.natAbs ++ [0]).map U = (digs z.natAbs).map U ++ [.int .u32 0] := by rw [List.map_append]; rfl
theorem frG_app {m : World} {A B : Option Addr} {n1 n2 c1 c2 : Nat} {x y : Int} (h1 : Sl m A ((digs x.natAbs).map U ++ [.int .u32 0])) (h2 : Sl m B ((digs y.natAbs).map U ++ [.int .u32 0])) (k1 : (digs x.natAbs).length + 1 ≤ c1) (k2 : (digs y.natAbs).length + 1 ≤ c2)
    (e1 : (digs x.natAbs).length = n1) (e2 : (digs y.natAbs).length = n2) (b1 : x.natAbs ≤ 20) (b2 : y.natAbs ≤ 20) (hz : y = 0 → x = 0) : FrG m (.agg #[.bool (decide (x < 0)), .slice A (n1 + 1) c1, .bool (decide (y < 0)), .slice B (n2 + 1) c2]) x y := by
  subst e1 e2
  have l1 := len_small b1
  have l2 := len_small b2
  have q1 : (digs x.natAbs).length ≤ 2 := len2 (by omega)
  have q2 : (digs y.natAbs).length ≤ 2 := len2 (by omega)
  rw [← map_zero_end] at h1 h2
  have f1 : IntV m (.agg #[.bool (decide (x < 0)), .slice A ((digs x.natAbs).length + 1) c1]) x := ⟨_, A, c1, digs x.natAbs ++ [0], by simp, by simpa using k1, h1, dg_zero_end x, by simp; omega, (val_zero_end x).symm⟩
  have f2 : IntV m (.agg #[.bool (decide (y < 0)), .slice B ((digs y.natAbs).length + 1) c2]) y := ⟨_, B, c2, digs y.natAbs ++ [0], by simp, by simpa using k2, h2, dg_zero_end y, by simp; omega, (val_zero_end y).symm⟩
  refine ⟨⟨_, _, _, _, _, _, _, _, rfl, f1, f2⟩, ?_⟩
  by_cases hy : y = 0
  · obtain rfl := hz hy
    subst hy
    have g : ∀ (C : Option Addr) (c : Nat), Sl m C ((digs (0 : Int).natAbs ++ [0]).map U) → (digs (0 : Int).natAbs).length + 1 ≤ c → IntS m (.agg #[.bool (decide ((0 : Int) < 0)), .slice C ((digs (0 : Int).natAbs).length + 1) c]) 0 := fun C c h k =>
      ⟨_, C, c, digs (0 : Int).natAbs ++ [0], by simp, by simpa using k, h, dg_zero_end 0, by simp [digs_zero], (val_zero_end 0).symm⟩
    exact .inl ⟨_, _, _, _, rfl, g A c1 h1 k1, g B c2 h2 k2, by decide, by decide⟩
  · exact .inr ⟨_, _, _, _, _, _, _, _, rfl, by have := digs_len_pos (n := y.natAbs) (by omega); omega⟩
theorem timesF {B : Nat} {z : Int} {a : Act} {dst : Option Nat} {w m w' m' : World} {v : Value} (hE : Ext w w') (hM : Ext m m') (hV : Vw m' w') (h : IntW w.heap.size z v w' m') (hB : B ≤ w.heap.size) : One2 (IntW B z) true a dst w m .normal (a.put dst v) w' := by
  refine ⟨rfl, hE, m', v, hM, hV, rfl, h.base hB, fun _ k hk => ?_⟩
  obtain ⟨s, rfl, h1, h2⟩ := h.2
  rcases h2 with ⟨rfl, -⟩ | ⟨g, cap, cur, rfl, h3, h4, -⟩
  · cases hk
  · have e : g = k := Option.some.inj hk
    subst e
    exact ⟨h3, Blk.lt h4⟩
theorem Loc.reown2 {w0 m0 W m : World} {Ls : List Lo} (hL : Loc w0 m0 W m Ls) {B1 B2 : Nat} {e : TypeId} {size : Nat} {g1 g2 : Bool} {v1 v2 : Value} {n1 n2 : Nat} {xs1 xs2 : List Value} (ho1 : W.ownsRow B1 e size v1 n1 xs1) (ho2 : W.ownsRow B2 e size v2 n2 xs2) (hB1 : w0.heap.size ≤ B1) (hB2 : w0.heap.size ≤ B2)
    (hap : ∀ k, blkOf (.agg #[.bool g1, v1]) = some k → blkOf (.agg #[.bool g2, v2]) ≠ some k) (hne : ∀ x ∈ Ls, x.2.1 ≠ e) :
    ∃ R1 R2 m', Loc w0 m0 W m' (Ls ++ (R1 ++ R2)) ∧ Row e size v1 n1 xs1 R1 ∧ Row e size v2 n2 xs2 R2 := by
  have hs : m0.heap.size ≤ W.heap.size := by rw [hL.size0]; exact hL.ext.size
  have key : ∀ R : List Lo, (∀ x ∈ R, w0.heap.size ≤ x.1 ∧ Blk W x.1 x.2.1 x.2.2 ∧ x.2.1 = e) → R.Pairwise (fun x y => x.1 ≠ y.1) → Loc w0 m0 W (hidTo m0 W.heap.size) (Ls ++ R) := by
    intro R hR h1
    refine ⟨hL.size0, hL.ext, hidTo_ext hs, ⟨hL.mext.os.symm.trans hL.vw.os, hL.mext.tape.symm.trans hL.vw.tape, hL.mext.output.symm.trans hL.vw.output, hidTo_size hs, fun a u hu => ?_⟩, fun x hx => ?_, fun x hx => ?_, fun x hx a ha => ?_, ?_⟩
    · rcases Nat.lt_or_ge a.block m0.heap.size with h | h
      · rw [cell_of_heap (hidTo_old h)] at hu
        exact hL.vw.cell _ _ (hL.mext.le.cell _ _ hu)
      · rw [hidTo_new h] at hu; cases hu
    · rcases List.mem_append.1 hx with hx | hx
      · exact hL.low x hx
      · exact (hR x hx).1
    · rcases List.mem_append.1 hx with hx | hx
      · exact hL.blk x hx
      · exact (hR x hx).2.1
    · refine hidTo_new ?_
      rw [ha, hL.size0]
      rcases List.mem_append.1 hx with hx | hx
      · exact hL.low x hx
      · exact (hR x hx).1
    · refine List.pairwise_append.2 ⟨hL.apart, h1, fun x hx y hy => ?_⟩
      refine blk_ne (hL.blk x hx) (hR y hy).2.1 (.inl ?_)
      rw [(hR y hy).2.2]
      exact hne x hx
  obtain ⟨h1, ⟨rfl, rfl⟩ | ⟨g, cap, cur, rfl, h4, h5, h6⟩⟩ := ho1 <;> obtain ⟨k1, ⟨rfl, rfl⟩ | ⟨g', cap', cur', rfl, k4, k5, k6⟩⟩ := ho2
  · exact ⟨[], [], _, key [] (fun _ h => by cases h) List.Pairwise.nil, ⟨h1, .inl ⟨rfl, rfl, rfl⟩⟩, ⟨k1, .inl ⟨rfl, rfl, rfl⟩⟩⟩
  · refine ⟨[], [(g', e, cur')], _, key _ (fun x hx => ?_) (List.pairwise_singleton _ _), ⟨h1, .inl ⟨rfl, rfl, rfl⟩⟩, ⟨k1, .inr ⟨g', cap', cur', rfl, rfl, k6⟩⟩⟩
    rcases List.mem_singleton.1 hx with rfl
    exact ⟨Nat.le_trans hB2 k4, k5, rfl⟩
  · refine ⟨[(g, e, cur)], [], _, key _ (fun x hx => ?_) (List.pairwise_singleton _ _), ⟨h1, .inr ⟨g, cap, cur, rfl, rfl, h6⟩⟩, ⟨k1, .inl ⟨rfl, rfl, rfl⟩⟩⟩
    rcases List.mem_singleton.1 hx with rfl
    exact ⟨Nat.le_trans hB1 h4, h5, rfl⟩
  · refine ⟨[(g, e, cur)], [(g', e, cur')], _, key _ (fun x hx => ?_) (List.Pairwise.cons (fun y hy => ?_) (List.pairwise_singleton _ _)), ⟨h1, .inr ⟨g, cap, cur, rfl, rfl, h6⟩⟩, ⟨k1, .inr ⟨g', cap', cur', rfl, rfl, k6⟩⟩⟩
    · rcases List.mem_cons.1 hx with rfl | hx
      · exact ⟨Nat.le_trans hB1 h4, h5, rfl⟩
      · rcases List.mem_singleton.1 hx with rfl
        exact ⟨Nat.le_trans hB2 k4, k5, rfl⟩
    · rcases List.mem_singleton.1 hy with rfl
      exact fun h => hap g rfl (congrArg some h.symm)

set_option maxRecDepth 100000 in
set_option maxHeartbeats 8000000 in
theorem d_WildB (n : Int) (w m : World) (hV : Vw m w) (h1 : -9223372036854775808 ≤ n) (h2 : n ≤ 9223372036854775807) (h8 : n / 256 % 4 = 3) :
    Calls Tryz.prog 19 #[.int .i64 n] w (RetV w m fun m' r => FrG m' r (wN n) (wD n)) := by
  obtain ⟨j, hj⟩ : ∃ j : Nat, n / 64 % 4 = j := ⟨(n / 64 % 4).toNat, by omega⟩
  have j4 : j < 4 := by omega
  have e1 : bits .and .i64 (n / 64) 3 = (j : Int) := (i64_and2 (n / 64)).trans hj
  have e2 := i64_and2 (n / 256)
  have b8 : (n / 256 % 4 == 3) = true := by simp; omega
  have HW : Hid (wkF n = wkT.getD j 0) := by show wkT.getD _ 0 = _; rw [hj]; rfl
  have HK : Hid ((wkT.getD j 0).natAbs ≤ 2) := wkT_bd ⟨j, j4⟩
  have HF := Lib.hid (frT n)
  have KF : Hid (∀ w m, Vw m w → Calls Tryz.prog 64 #[.int .i64 n] w (RetV w m fun m' r => FracC m' r (frF n))) := by
    show ∀ w m, _
    exact fun w m hV => d_Frac n w m hV h1 h2
  have WN : Hid (wN n = (frF n).num * wkT.getD j 0) := by show (frF n).num * wkF n = _; rw [HW.out]
  have WD : Hid (wD n = ((frF n).den : Int) * wkT.getD j 0) := by show ((frF n).den : Int) * wkF n = _; rw [HW.out]
  have BN := Lib.hid (wN_bd n)
  have BD := Lib.hid (wD_bd n)
  generalize hk : wkT.getD j 0 = kk at *
  have HKK := Lib.hid hk
  have KI : Hid (∀ w m, Vw m w → Calls Tryz.prog 17 #[.int .i64 kk] w (RetV w m fun m' r => FracC m' r (kk : Rat))) := by
    show ∀ w m, _
    exact fun w m hV => r_Int kk w m hV (by have := HK.out; omega) (by have := HK.out; omega)
  have LK : Hid ((digs kk.natAbs).length ≤ 1000) := len_small (by have := HK.out; omega)
  have B1 : Hid ((frF n).num.natAbs < 4294967296) := by show _ < _; have := HF.out.1; omega
  have B2 : Hid (((frF n).den : Int).natAbs < 4294967296) := by show _ < _; have := HF.out.2; omega
  have B3 : Hid (kk.natAbs < 4294967296) := by show _ < _; have := HK.out; omega
  have L1 : Hid ((digs (frF n).num.natAbs).length ≤ 1000) := Nat.le_trans (len2 (by have := B1.out; omega)) (by decide)
  have L2 : Hid ((digs ((frF n).den : Int).natAbs).length ≤ 1000) := Nat.le_trans (len2 (by have := B2.out; omega)) (by decide)
  obtain ⟨zn, hzn⟩ : ∃ z, z = (frF n).num * kk := ⟨_, rfl⟩
  obtain ⟨zd, hzd⟩ : ∃ z, z = ((frF n).den : Int) * kk := ⟨_, rfl⟩
  have ZN := Lib.hid hzn
  have ZD := Lib.hid hzd
  have EN : Hid (wN n = zn) := WN.out.trans hzn.symm
  have ED : Hid (wD n = zd) := WD.out.trans hzd.symm
  have hL := Loc.start hV
  have HV := Lib.hid hV
  clear hV h1 h2 h8 hj hk hzn hzd WN WD
  go_enter Tryz.func19, Tryz.ntmps19
  go_wp2_with (first | ((with_reducible refine kAny ?_); go_skip) | (with_reducible refine stA ?_) | ((first | refine tIx ?_ | refine tFd ?_ | refine tLd ?_ | ((first | refine tSr ?_ | refine tSt ?_); clear hL; intro _ hL; simp only [splice, zq1, zq2, zq3] at hL) | (refine tAl ?_; clear hL; intro _ _ hL _) | refine tFl ?_ | (refine tBs ?_; clear hL; intro _ _ hL _ hBs)); simp only [Act.put, zq1, zq2, zq3]))
  refine (KF.out _ _ hL.vw).mono ?_
  rintro e Wc1 ⟨vc1, mc1, rfl, hE, hMc1, hV, hc1⟩
  replace hL := hL.call hE (by assumption) hV; clear hE hV
  obtain ⟨gc1', Ac1', nc1', cc1', hc1', Bc1', kc1', dc1', rfl, hc1⟩ := hc1.lit
  go_upto_region 2 with ((first | ((with_reducible refine kAny ?_); go_skip) | (with_reducible refine stA ?_) | ((first | refine tIx ?_ | refine tFd ?_ | refine tLd ?_ | ((first | refine tSr ?_ | refine tSt ?_); clear hL; intro _ hL; simp only [splice, zq1, zq2, zq3] at hL) | (refine tAl ?_; clear hL; intro _ _ hL _) | refine tFl ?_ | (refine tBs ?_; clear hL; intro _ _ hL _ hBs)); simp only [Act.put, zq1, zq2, zq3])))
  refine wp_region_lit ?_
  refine wl_bslice hL (wanted_none rfl) rfl (n := 4) (cs := #[.int .i64 1, .int .i64 (-1), .int .i64 2, .int .i64 0]) (e := 3) (fun w => by go_simp) ?_
  clear hL
  intro Wa ma hL ea hab
  simp only [Act.put, zq1, zq2, zq3]
  have hj1 := wk_cell hab j4
  rw [HKK.out] at hj1
  clear hab
  go_wp2_with (first | ((with_reducible refine kAny ?_); go_skip) | (with_reducible refine stA ?_) | ((first | refine tIx ?_ | refine tFd ?_ | refine tLd ?_ | ((first | refine tSr ?_ | refine tSt ?_); clear hL; intro _ hL; simp only [splice, zq1, zq2, zq3] at hL) | (refine tAl ?_; clear hL; intro _ _ hL _) | refine tFl ?_ | (refine tBs ?_; clear hL; intro _ _ hL _ hBs)); simp only [Act.put, zq1, zq2, zq3]))
  refine (KI.out _ _ hL.vw).mono ?_
  rintro e Wc2 ⟨vc2, mc2, rfl, hE, hMc2, hV, hc2⟩
  replace hL := hL.call hE (by assumption) hV; clear hE hV
  obtain ⟨gc2', Ac2', nc2', cc2', hc2', Bc2', kc2', dc2', rfl, hc2⟩ := hc2.lit
  clear hj1
  go_upto_region 3 with ((first | ((with_reducible refine kAny ?_); go_skip) | (with_reducible refine stA ?_) | ((first | refine tIx ?_ | refine tFd ?_ | refine tLd ?_ | ((first | refine tSr ?_ | refine tSt ?_); clear hL; intro _ hL; simp only [splice, zq1, zq2, zq3] at hL) | (refine tAl ?_; clear hL; intro _ _ hL _) | refine tFl ?_ | (refine tBs ?_; clear hL; intro _ _ hL _ hBs)); simp only [Act.put, zq1, zq2, zq3])))
  refine wp_region_lit ?_
  refine wl_bslice hL (wanted_none rfl) rfl (n := 4) (cs := #[.int .i64 1, .int .i64 (-1), .int .i64 2, .int .i64 0]) (e := 3) (fun w => by go_simp) ?_
  clear hL
  intro Wb mb hL eb hbb
  simp only [Act.put, zq1, zq2, zq3]
  have hj2 := wk_cell hbb j4
  rw [HKK.out] at hj2
  clear hbb
  go_wp2_with (first | ((with_reducible refine kAny ?_); go_skip) | (with_reducible refine stA ?_) | ((first | refine tIx ?_ | refine tFd ?_ | refine tLd ?_ | ((first | refine tSr ?_ | refine tSt ?_); clear hL; intro _ hL; simp only [splice, zq1, zq2, zq3] at hL) | (refine tAl ?_; clear hL; intro _ _ hL _) | refine tFl ?_ | (refine tBs ?_; clear hL; intro _ _ hL _ hBs)); simp only [Act.put, zq1, zq2, zq3]))
  refine (KI.out _ _ hL.vw).mono ?_
  rintro e Wc3 ⟨vc3, mc3, rfl, hE, hMc3, hV, hc3⟩
  replace hL := hL.call hE (by assumption) hV; clear hE hV
  obtain ⟨gc3', Ac3', nc3', cc3', hc3', Bc3', kc3', dc3', rfl, hc3⟩ := hc3.lit
  clear hj2
  obtain ⟨f1, f2⟩ := hc1.open_
  obtain ⟨q1, -⟩ := hc2.open_
  obtain ⟨q2, -⟩ := hc3.open_
  clear hc1 hc2 hc3 e1 e2
  have e2 := i64_and2 (n / 256)
  go_upto_region 4 with ((first | ((with_reducible refine kAny ?_); go_skip) | (with_reducible refine stA ?_) | ((first | refine tIx ?_ | refine tFd ?_ | refine tLd ?_ | ((first | refine tSr ?_ | refine tSt ?_); clear hL; intro _ hL; simp only [splice, zq1, zq2, zq3] at hL) | (refine tAl ?_; clear hL; intro _ _ hL _) | refine tFl ?_ | (refine tBs ?_; clear hL; intro _ _ hL _ hBs)); simp only [Act.put, zq1, zq2, zq3])))
  refine wp_region_by2 9 [false, false, false, true, false, false, false, true, false] [false, false, false, false, false, false, false, false, false] [(fun v _ _ => v = ?c4_0), (fun v _ _ => v = ?c4_1), (fun v _ _ => v = ?c4_2), (IntW w.heap.size zn), (fun v _ _ => v = ?c4_4), (fun v _ _ => v = ?c4_5), (fun v _ _ => v = ?c4_6), (IntW w.heap.size zd), (fun v _ _ => v = ?c4_8)] hL.vw mixed [24, 25, 26, 27, 28, 29, 30, 31, 32] _ (by kernel_rfl) (fun vs => by simp only [lay, Act.put, zq1, zq2, zq3]; rfl) (by kernel_rfl) (by decide) (by decide) ?s4 ?l4 ?r4
  case s4 =>
    refine ⟨?_, ?_, ?_, ?_, ?_, ?_, ?_, ?_, ?_, trivial⟩
    · intro vs W1 m1 hE hM hV hD; clear hD; replace hL := hL.call hE hM hV
      exact sFd
    · intro vs W1 m1 hE hM hV hD; obtain ⟨⟨_, _, -, -, f24⟩, -⟩ := hD; have f24 : vs 24 = _ := f24; generalize vs 24 = x24 at f24 ⊢; subst x24; replace hL := hL.call hE hM hV
      exact sLd
    · intro vs W1 m1 hE hM hV hD; clear hD; replace hL := hL.call hE hM hV
      exact sLd
    · intro vs W1 m1 hE hM hV hD; obtain ⟨⟨_, _, -, -, f25⟩, ⟨_, _, -, -, f26⟩, -⟩ := hD; have f25 : vs 25 = _ := f25; generalize vs 25 = x25 at f25 ⊢; subst x25; have f26 : vs 26 = _ := f26; generalize vs 26 = x26 at f26 ⊢; subst x26
      (go_wp2_with fail; refine (d_times _ _ (frF n).num kk _ _ hV ((f1.toV L1.out).le leX) ((q1.toV LK.out).le leX) B1.out B3.out).mono ?_; rintro e W2 ⟨v, m2, rfl, hE2, hM2, hV2, h⟩; go_wp2_with fail; exact timesF hE2 hM2 hV2 (by first | (rw [ZN.out]; exact h) | (rw [ZD.out]; exact h)) (Nat.le_trans hL.ext.size hE.size))
    · intro vs W1 m1 hE hM hV hD; clear hD; replace hL := hL.call hE hM hV
      exact sFd
    · intro vs W1 m1 hE hM hV hD; obtain ⟨⟨_, _, -, -, f28⟩, -⟩ := hD; have f28 : vs 28 = _ := f28; generalize vs 28 = x28 at f28 ⊢; subst x28; replace hL := hL.call hE hM hV
      exact sLd
    · intro vs W1 m1 hE hM hV hD; clear hD; replace hL := hL.call hE hM hV
      exact sLd
    · intro vs W1 m1 hE hM hV hD; obtain ⟨⟨_, _, -, -, f29⟩, ⟨_, _, -, -, f30⟩, -, -⟩ := hD; have f29 : vs 29 = _ := f29; generalize vs 29 = x29 at f29 ⊢; subst x29; have f30 : vs 30 = _ := f30; generalize vs 30 = x30 at f30 ⊢; subst x30
      (go_wp2_with fail; refine (d_times _ _ ((frF n).den : Int) kk _ _ hV ((f2.toV L2.out).le leX) ((q2.toV LK.out).le leX) B2.out B3.out).mono ?_; rintro e W2 ⟨v, m2, rfl, hE2, hM2, hV2, h⟩; go_wp2_with fail; exact timesF hE2 hM2 hV2 (by first | (rw [ZN.out]; exact h) | (rw [ZD.out]; exact h)) (Nat.le_trans hL.ext.size hE.size))
    · intro vs W1 m1 hE hM hV hD; clear hD; replace hL := hL.call hE hM hV
      exact sFd
  case l4 =>
    refine ⟨fun h => (by cases h), fun h => (by cases h), fun h => (by cases h), fun h => (by cases h), fun h => (by cases h), fun h => (by cases h), fun h => (by cases h), fun h => (by cases h), fun h => (by cases h), trivial⟩
  intro vs W1 m1 hE hM hV hF hD
  obtain ⟨-, -, -, ⟨_, _, j27, i27, f27⟩, -, -, -, ⟨_, _, j31, i31, f31⟩, ⟨_, _, -, -, f32⟩, -⟩ := hF
  replace hL := hL.call hE hM hV
  have f32 : vs 32 = _ := f32
  generalize vs 32 = x32 at f32 ⊢
  subst x32
  clear hE hV
  have hap := hD 3 7 _ _ _ _ (by decide) (by decide) (by decide) rfl rfl rfl rfl rfl rfl
  obtain ⟨A27, c27, e27, o27⟩ := IntO.litE f27.2 j27
  obtain ⟨A31, c31, e31, o31⟩ := IntO.litE f31.2 j31
  rw [e27, e31] at hap
  generalize vs 27 = x27 at e27 ⊢
  subst x27
  generalize vs 31 = x31 at e31 ⊢
  subst x31
  obtain ⟨R1, R2, m3, hL3, row1, row2⟩ := hL.reown2 o27 o31 (Nat.le_refl _) (Nat.le_refl _) hap (by simp)
  simp only [List.cons_append, List.nil_append] at hL3
  clear hL o27 o31 hap hD f27 f31 i27 j27 i31 j31
  have hL := hL3
  clear hL3
  simp only [List.drop_succ_cons, List.drop_zero]
  go_wp2_with (first | ((with_reducible refine kAny ?_); go_skip) | (with_reducible refine stA ?_) | ((first | refine tIx ?_ | refine tFd ?_ | refine tLd ?_ | ((first | refine tSr ?_ | refine tSt ?_); clear hL; intro _ hL; simp only [splice, zq1, zq2, zq3] at hL) | (refine tAl ?_; clear hL; intro _ _ hL _) | refine tFl ?_ | (refine tBs ?_; clear hL; intro _ _ hL _ hBs)); simp only [Act.put, zq1, zq2, zq3]))
  refine QN.mk ?_
  have ROW1 := Lib.hid row1
  have ROW2 := Lib.hid row2
  have LN1 : Hid (∀ z, z = zn → (digs z.natAbs).length ≤ 1000) := fun z h => by rw [h, ← EN.out]; exact len_small BN.out
  have LN2 : Hid (∀ z, z = zd → (digs z.natAbs).length ≤ 1000) := fun z h => by rw [h, ← ED.out]; exact len_small BD.out
  have y1 := LN1.out _ rfl
  have y2 := LN2.out _ rfl
  clear row1 row2 f1 f2 q1 q2 KF KI HW HF HK B1 B2 B3 L1 L2 LK HKK j4 hc1 hc2 hc3 hM f32 ZN ZD
  generalize hn1 : (digs zn.natAbs).length = n1 at *
  generalize hn2 : (digs zd.natAbs).length = n2 at *
  have HN1 := Lib.hid hn1
  have HN2 := Lib.hid hn2
  clear hn1 hn2
  go_upto_region 6 with ((first | ((with_reducible refine kAny ?_); go_skip) | (with_reducible refine stA ?_) | ((first | refine tIx ?_ | refine tFd ?_ | refine tLd ?_ | ((first | refine tSr ?_ | refine tSt ?_); clear hL; intro _ hL; simp only [splice, zq1, zq2, zq3] at hL) | (refine tAl ?_; clear hL; intro _ _ hL _) | refine tFl ?_ | (refine tBs ?_; clear hL; intro _ _ hL _ hBs)); simp only [Act.put, zq1, zq2, zq3])))
  rename_i W9 _
  have O1 := hL.ownS (R := R1) (fun x hx => by simp [hx]) ROW1.out
  have O2 := hL.ownS (R := R2) (fun x hx => by simp [hx]) ROW2.out
  have HO1 := Lib.hid O1
  have HO2 := Lib.hid O2
  have hbs := hL.ext.size
  have hs0 := keepS hL.ext (hL.at_ lo2) (hL.at_ lo3)
  have hlow := hL.low_at lo2
  have hfr := (hL.ne lo2 lo3 (by omega)).1
  have ne1 := Lib.hid (own_ne_blk O1 (hL.at_ lo2) (by decide))
  have ne2 := Lib.hid (own_ne_blk O2 (hL.at_ lo2) (by decide))
  have nr1 := Lib.hid (own_ne_blk O1 (hL.at_ lo3) (by decide))
  have nr2 := Lib.hid (own_ne_blk O2 (hL.at_ lo3) (by decide))
  have lt1 := Lib.hid (own_lt O1)
  have lt2 := Lib.hid (own_lt O2)
  have AP : Hid (∀ k, (Value.slice A27 n1 c27).ownBlock = some k → (Value.slice A31 n2 c31).ownBlock ≠ some k) := rows_apart (A := [_, _, _, _]) hL ROW1.out ROW2.out
  clear hL O1 O2 e2 b8 ROW1 ROW2
  obtain ⟨i0, hi0, hz0, hz1, hz2⟩ := info_parts u32_info
  have HH := Lib.hid (keepD hs0)
  have HB1 := Lib.hid hs0.2.2.2.2.1
  have HB2 := Lib.hid hs0.2.2.2.2.2.1
  have HB3 := Lib.hid hs0.2.2.2.2.2.2
  clear hs0
  refine wp_region_L 12 (fun w' => w'.cell? ⟨Wc1.heap.size, 1, none⟩ = some (.slice A27 n1 c27) ∧ w'.cell? ⟨Wc1.heap.size, 3, none⟩ = some (.slice A31 n2 c31) ∧ w'.frozen? ⟨Wc1.heap.size, 1, none⟩ = false ∧ w'.frozen? ⟨Wc1.heap.size, 3, none⟩ = false ∧ Ext w w' ∧ Blk w' Wc1.heap.size 39 #[.bool (decide (zn < 0)), .slice A27 n1 c27, .bool (decide (zd < 0)), .slice A31 n2 c31] ∧ Blk w' w.heap.size 39 #[.bool false, .slice none 0 0, .bool false, .slice none 0 0]) (by kernel_rfl) ?_
  refine wpL_take 0 0 (v := ?_) rfl (by kernel_rfl) (fun _ _ _ h => h) HH.out (by rfl) ?yld ?_
  case yld => (intro w' hSw; obtain ⟨s1, s2, s3, s4, -⟩ := hSw; go_simp; try with_reducible rfl)
  (try simp only [Act.put, List.setIfInBounds_toArray, List.set_cons_zero, List.set_cons_succ])
  refine wpL_take 1 1 (v := ?_) rfl (by kernel_rfl) (fun _ _ _ h => h) HH.out (by rfl) ?yld ?_
  case yld => (intro w' hSw; obtain ⟨s1, s2, s3, s4, -⟩ := hSw; go_simp; try with_reducible rfl)
  (try simp only [Act.put, List.setIfInBounds_toArray, List.set_cons_zero, List.set_cons_succ])
  refine wpL_take 2 2 (v := ?_) rfl (by kernel_rfl) (fun _ _ _ h => h) HH.out (by rfl) ?yld ?_
  case yld => (intro w' hSw; obtain ⟨s1, s2, s3, s4, -⟩ := hSw; go_simp; try with_reducible rfl)
  (try simp only [Act.put, List.setIfInBounds_toArray, List.set_cons_zero, List.set_cons_succ])
  refine wpL_take 5 5 (v := ?_) rfl (by kernel_rfl) (fun _ _ _ h => h) HH.out (by rfl) ?yld ?_
  case yld => (intro w' hSw; obtain ⟨s1, s2, s3, s4, -⟩ := hSw; go_simp; try with_reducible rfl)
  (try simp only [Act.put, List.setIfInBounds_toArray, List.set_cons_zero, List.set_cons_succ])
  refine wpL_take 6 6 (v := ?_) rfl (by kernel_rfl) (fun _ _ _ h => h) HH.out (by rfl) ?yld ?_
  case yld => (intro w' hSw; obtain ⟨s1, s2, s3, s4, -⟩ := hSw; go_simp; try with_reducible rfl)
  (try simp only [Act.put, List.setIfInBounds_toArray, List.set_cons_zero, List.set_cons_succ])
  refine wpL_take 7 7 (v := ?_) rfl (by kernel_rfl) (fun _ _ _ h => h) HH.out (by rfl) ?yld ?_
  case yld => (intro w' hSw; obtain ⟨s1, s2, s3, s4, -⟩ := hSw; go_simp; try with_reducible rfl)
  (try simp only [Act.put, List.setIfInBounds_toArray, List.set_cons_zero, List.set_cons_succ])
  refine wpL_ready [3, 8] (by kernel_rfl) (by simp) ?_
  refine AllL.cons rfl (fun K hK => ?_) ?_
  · go_simp
    refine hK.out _ _ ?_ (fun hHeld => ?_)
    · (try dsimp only); (refine keepS ?_ ?_ ?_ <;> repeat (first | with_reducible exact HC1.out | with_reducible exact HC2.out | with_reducible exact HC3.out | with_reducible exact HB1.out | with_reducible exact HB2.out | with_reducible exact HB3.out | with_reducible refine Ext.drew ?_ | with_reducible refine Ext.alloc ?_ _ | with_reducible refine Blk.drew ?_ | with_reducible refine Blk.alloc ?_ _ | with_reducible refine Blk.grown ?_ hgrow2 ne2.out | with_reducible refine Blk.grown ?_ hgrow2 nr2.out | with_reducible refine Blk.grown ?_ hgrow1 ne1.out | with_reducible refine Blk.grown ?_ hgrow1 nr1.out | with_reducible refine Ext.grown ?_ hgrow2 (fun k hk => (lt2.out k hk).1) | with_reducible refine Ext.grown ?_ hgrow1 (fun k hk => (lt1.out k hk).1)))
    clear HH
    have HH := Lib.hid hHeld
    clear hHeld
    clear hK K
    (try simp only [Act.put, List.setIfInBounds_toArray, List.set_cons_zero, List.set_cons_succ])
    refine wpL_ready [4, 8] (by kernel_rfl) (by simp) ?_
    refine AllL.cons rfl (fun K hK => ?_) ?_
    · (refine step_append_lies _ (by rfl) _ _ _ (by rfl) w.heap.size 102 i0 _ 1 4 Tryz.underlying35 hi0 hz0 hz1 hz2 rfl (by omega) (.slice A27 n1 c27) n1 ((digs zn.natAbs).map U) (by rfl) (by repeat (first | with_reducible exact HO1.out | with_reducible refine World.ownsRow.drew ?_ | with_reducible refine World.ownsRow.alloc ?_ _)) ⟨_, 0, none⟩ 1 1 [.int .u32 0] (by rfl) (by rfl) (World.news_of_block (cs := #[.int .u32 0]) (t := 102) (fr := (0, 0)) (by show Blk _ _ _ _; repeat (first | with_reducible exact Blk.new _ _ _ | ((with_reducible refine Blk.new' ?_); simp; done) | with_reducible refine Blk.drew ?_ | with_reducible refine Blk.alloc ?_ _))) (by simp [Value.oneCell']) (by omega) (by simp only [maxLen]; omega) (by omega) (by simp; omega) _ (by rfl) ?_; intro g1 cap1 w1 hown1 hgrow1 hat1 hlt1)
      refine hK.out _ _ ?_ (fun hHeld => ?_)
      · (try dsimp only); (refine keepS ?_ ?_ ?_ <;> repeat (first | with_reducible exact HC1.out | with_reducible exact HC2.out | with_reducible exact HC3.out | with_reducible exact HB1.out | with_reducible exact HB2.out | with_reducible exact HB3.out | with_reducible refine Ext.drew ?_ | with_reducible refine Ext.alloc ?_ _ | with_reducible refine Blk.drew ?_ | with_reducible refine Blk.alloc ?_ _ | with_reducible refine Blk.grown ?_ hgrow2 ne2.out | with_reducible refine Blk.grown ?_ hgrow2 nr2.out | with_reducible refine Blk.grown ?_ hgrow1 ne1.out | with_reducible refine Blk.grown ?_ hgrow1 nr1.out | with_reducible refine Ext.grown ?_ hgrow2 (fun k hk => (lt2.out k hk).1) | with_reducible refine Ext.grown ?_ hgrow1 (fun k hk => (lt1.out k hk).1)))
      clear HH
      have HH := Lib.hid hHeld
      clear hHeld
      have HC1 := Lib.hid HH.out.2.2.2.2.1
      have HC2 := Lib.hid HH.out.2.2.2.2.2.1
      have HC3 := Lib.hid HH.out.2.2.2.2.2.2
      clear hK K
      (try simp only [Act.put, List.setIfInBounds_toArray, List.set_cons_zero, List.set_cons_succ])
      refine wpL_take 10 11 (v := ?_) rfl (by kernel_rfl) (fun _ _ _ h => h) HH.out (by rfl) ?yld ?_
      case yld => (intro w' hSw; obtain ⟨s1, s2, s3, s4, -⟩ := hSw; go_simp; try with_reducible rfl)
      (try simp only [Act.put, List.setIfInBounds_toArray, List.set_cons_zero, List.set_cons_succ])
      refine wpL_take 11 11 (v := ?_) rfl (by kernel_rfl) (fun _ _ _ h => h) HH.out (by rfl) ?yld ?_
      case yld => (intro w' hSw; obtain ⟨s1, s2, s3, s4, -⟩ := hSw; go_simp; try with_reducible rfl)
      (try simp only [Act.put, List.setIfInBounds_toArray, List.set_cons_zero, List.set_cons_succ])
      refine wpL_ready [8] (by kernel_rfl) (by simp) ?_
      refine AllL.cons rfl (fun K hK => ?_) ?_
      · go_simp
        refine hK.out _ _ ?_ (fun hHeld => ?_)
        · (try dsimp only); (refine keepS ?_ ?_ ?_ <;> repeat (first | with_reducible exact HC1.out | with_reducible exact HC2.out | with_reducible exact HC3.out | with_reducible exact HB1.out | with_reducible exact HB2.out | with_reducible exact HB3.out | with_reducible refine Ext.drew ?_ | with_reducible refine Ext.alloc ?_ _ | with_reducible refine Blk.drew ?_ | with_reducible refine Blk.alloc ?_ _ | with_reducible refine Blk.grown ?_ hgrow2 ne2.out | with_reducible refine Blk.grown ?_ hgrow2 nr2.out | with_reducible refine Blk.grown ?_ hgrow1 ne1.out | with_reducible refine Blk.grown ?_ hgrow1 nr1.out | with_reducible refine Ext.grown ?_ hgrow2 (fun k hk => (lt2.out k hk).1) | with_reducible refine Ext.grown ?_ hgrow1 (fun k hk => (lt1.out k hk).1)))
        clear HH
        have HH := Lib.hid hHeld
        clear hHeld
        clear hK K
        (try simp only [Act.put, List.setIfInBounds_toArray, List.set_cons_zero, List.set_cons_succ])
        refine wpL_ready [9] (by kernel_rfl) (by simp) ?_
        refine AllL.cons rfl (fun K hK => ?_) ?_
        · (refine step_append_lies _ (by rfl) _ _ _ (by rfl) w.heap.size 102 i0 _ 1 4 Tryz.underlying35 hi0 hz0 hz1 hz2 rfl (by omega) (.slice A31 n2 c31) n2 ((digs zd.natAbs).map U) (by rfl) (by repeat (first | with_reducible exact HO2.out | with_reducible refine World.ownsRow.drew ?_ | with_reducible refine World.ownsRow.alloc ?_ _ | refine own_grown ?_ hgrow1 (fun k h1 h2 => AP.out k h2.symm h1))) ⟨_, 0, none⟩ 1 1 [.int .u32 0] (by rfl) (by rfl) (World.news_of_block (cs := #[.int .u32 0]) (t := 102) (fr := (0, 0)) (by show Blk _ _ _ _; repeat (first | with_reducible exact Blk.new _ _ _ | ((with_reducible refine Blk.new' ?_); simp; done) | with_reducible refine Blk.drew ?_ | with_reducible refine Blk.alloc ?_ _ | refine Blk.grown ?_ hgrow1 (fun h => by have := (lt1.out _ h.symm).2; first | omega | (simp at this; done) | (simp at this; omega))))) (by simp [Value.oneCell']) (by omega) (by simp only [maxLen]; omega) (by omega) (by have := hgrow1.size; simp at this ⊢; omega) _ (by rfl) ?_; intro g2 cap2 w2 hown2 hgrow2 hat2 hlt2)
          refine hK.out _ _ ?_ (fun hHeld => ?_)
          · (try dsimp only); (refine keepS ?_ ?_ ?_ <;> repeat (first | with_reducible exact HC1.out | with_reducible exact HC2.out | with_reducible exact HC3.out | with_reducible exact HB1.out | with_reducible exact HB2.out | with_reducible exact HB3.out | with_reducible refine Ext.drew ?_ | with_reducible refine Ext.alloc ?_ _ | with_reducible refine Blk.drew ?_ | with_reducible refine Blk.alloc ?_ _ | with_reducible refine Blk.grown ?_ hgrow2 ne2.out | with_reducible refine Blk.grown ?_ hgrow2 nr2.out | with_reducible refine Blk.grown ?_ hgrow1 ne1.out | with_reducible refine Blk.grown ?_ hgrow1 nr1.out | with_reducible refine Ext.grown ?_ hgrow2 (fun k hk => (lt2.out k hk).1) | with_reducible refine Ext.grown ?_ hgrow1 (fun k hk => (lt1.out k hk).1)))
          clear HH
          have HH := Lib.hid hHeld
          clear hHeld
          clear hK K
          (try simp only [Act.put, List.setIfInBounds_toArray, List.set_cons_zero, List.set_cons_succ])
          have P1 : Hid (some g1 ≠ (Value.slice A31 n2 c31).ownBlock) := fun h => by
            rcases hat1 with h1 | h1
            · exact AP.out g1 h1 h.symm
            · have := (lt2.out g1 h.symm).2
              (try simp at h1); omega
          have P2 : Hid (g1 ≠ g2) := fun h => by
            rcases hat2 with h2 | h2
            · exact P1.out (by rw [h]; exact h2.symm)
            · (try simp at h2); omega
          have OW1 : Hid (w2.ownsRow w.heap.size 102 1 (.slice (some ⟨g1, 0, none⟩) (n1 + 1) cap1) (n1 + 1) ((digs zn.natAbs).map U ++ [.int .u32 0])) := by
            show World.ownsRow _ _ _ _ _ _ _
            refine own_grown ?_ hgrow2 (fun k h1 h2 => P1.out (by rw [show g1 = k from Option.some.inj h1]; exact h2))
            repeat (first | with_reducible exact hown1 | with_reducible refine World.ownsRow.drew ?_ | with_reducible refine World.ownsRow.alloc ?_ _)
          have OW2 := Lib.hid hown2
          obtain ⟨s1, s2, s3, s4, HE, HF, HR⟩ := HH.out
          have E2 := Lib.hid HE
          have BF2 := Lib.hid HF
          have BR2 := Lib.hid HR
          have G1 := Lib.hid (own_ne_blk OW1.out HF (by decide))
          have G2 := Lib.hid (own_ne_blk OW2.out HF (by decide))
          clear HE HF HR HH hown1 hgrow1 hat1 hlt1 hown2 hgrow2 hat2 hlt2 lt1 lt2 ne1 ne2 nr1 nr2 AP P1 HB1 HB2 HB3 HC1 HC2 HC3 HO1 HO2 hi0 hz0 hz1 hz2
          refine wpL_ready [12] (by kernel_rfl) (by simp) ?_
          refine AllL.last rfl (by kernel_rfl) (fun K hK => ?_) AllL.nil
          go_simp
          refine hK.out _ _ ?_
          clear hK K
          (try simp only [Act.put, List.setIfInBounds_toArray, List.set_cons_zero, List.set_cons_succ])
          refine wpL_ready [13] (by kernel_rfl) (by simp) ?_
          refine AllL.last rfl (by kernel_rfl) (fun K hK => ?_) AllL.nil
          go_simp
          refine hK.out _ _ ?_
          clear hK K
          (try simp only [Act.put, List.setIfInBounds_toArray, List.set_cons_zero, List.set_cons_succ])
          refine wpL_ready [14] (by kernel_rfl) (by simp) ?_
          refine AllL.last rfl (by kernel_rfl) (fun K hK => ?_) AllL.nil
          go_simp
          refine hK.out _ _ ?_
          clear hK K
          (try simp only [Act.put, List.setIfInBounds_toArray, List.set_cons_zero, List.set_cons_succ])
          refine wpL_ready [15] (by kernel_rfl) (by simp) ?_
          refine AllL.last rfl (by kernel_rfl) (fun K hK => ?_) AllL.nil
          go_simp
          refine hK.out _ _ ?_
          clear hK K
          (try simp only [Act.put, List.setIfInBounds_toArray, List.set_cons_zero, List.set_cons_succ])
          refine wpL_done (by kernel_rfl) ?_ _
          refine NoPanic.normal ?_
          have hL0 := Loc.raw HV.out ((E2.out.setCell (p := ⟨Wc1.heap.size, 1, none⟩) hlow (.slice (some ⟨g1, 0, none⟩) (n1 + 1) cap1)).setCell (p := ⟨Wc1.heap.size, 3, none⟩) hlow (.slice (some ⟨g2, 0, none⟩) (n2 + 1) cap2)) (Ls := [(Wc1.heap.size, 39, #[.bool (decide (zn < 0)), .slice (some ⟨g1, 0, none⟩) (n1 + 1) cap1, .bool (decide (zd < 0)), .slice (some ⟨g2, 0, none⟩) (n2 + 1) cap2]), (w.heap.size, 39, #[.bool false, .slice none 0 0, .bool false, .slice none 0 0])])
            (fun x hx => by
              rcases List.mem_cons.1 hx with rfl | hx
              · exact ⟨hlow, (BF2.out.set_ 1 _).set_ 3 _⟩
              · rcases List.mem_singleton.1 hx with rfl
                exact ⟨Nat.le_refl _, (BR2.out.far (Ne.symm hfr) _).far (Ne.symm hfr) _⟩)
            (List.Pairwise.cons (fun y hy => by rcases List.mem_singleton.1 hy with rfl; exact hfr) (List.pairwise_singleton _ _))
          obtain ⟨R3, R4, m9, hL, row1, row2⟩ := hL0.reown2 (g1 := false) (g2 := false) (own_set (own_set OW1.out G1.out _) G1.out _) (own_set (own_set OW2.out G2.out _) G2.out _) (Nat.le_refl _) (Nat.le_refl _) (fun k h1 h2 => P2.out ((Option.some.inj h1).trans (Option.some.inj h2).symm)) (by simp)
          simp only [List.cons_append, List.nil_append] at hL
          have ROW1 := Lib.hid row1
          have ROW2 := Lib.hid row2
          clear hL0 row1 row2 s1 s2 s3 s4 E2 BF2 BR2 OW1 OW2 G1 G2 P2
          go_wp2_with (first | ((with_reducible refine kAny ?_); go_skip) | (with_reducible refine stA ?_) | ((first | refine tIx ?_ | refine tFd ?_ | refine tLd ?_ | ((first | refine tSr ?_ | refine tSt ?_); clear hL; intro _ hL; simp only [splice, zq1, zq2, zq3] at hL) | (refine tAl ?_; clear hL; intro _ _ hL _) | refine tFl ?_ | (refine tBs ?_; clear hL; intro _ _ hL _ hBs)); simp only [Act.put, zq1, zq2, zq3]))
          obtain ⟨m10, B4, c4, hL10, hle10, e4, hc4, hs4, -⟩ := Loc.show (A := _ :: _ :: R3) hL ROW2.out
          obtain ⟨m11, B3, c3, hL11, hle11, e3, hc3, hs3, -⟩ := Loc.show (A := [_, _]) hL10 ROW1.out
          injection e3 with x1 x2 x3
          subst x1 x3
          injection e4 with x1 x2 x3
          subst x1 x3
          refine fin_aggR hL Tryz.results19 rfl rfl loX ag_Frac rfl hL11 ?_
          rw [EN.out, ED.out]
          exact frG_app hs3 (hs4.le hle11) (by rw [HN1.out]; exact hc3) (by rw [HN2.out]; exact hc4) HN1.out HN2.out (by rw [← EN.out]; exact BN.out) (by rw [← ED.out]; exact BD.out) (fun h => by rw [← EN.out]; exact wZ (ED.out.trans h))
        exact AllL.nil
      exact AllL.nil
    refine AllL.cons rfl (fun K hK => ?_) ?_
    · go_simp
      refine hK.out _ _ ?_ (fun hHeld => ?_)
      · (try dsimp only); (refine keepS ?_ ?_ ?_ <;> repeat (first | with_reducible exact HC1.out | with_reducible exact HC2.out | with_reducible exact HC3.out | with_reducible exact HB1.out | with_reducible exact HB2.out | with_reducible exact HB3.out | with_reducible refine Ext.drew ?_ | with_reducible refine Ext.alloc ?_ _ | with_reducible refine Blk.drew ?_ | with_reducible refine Blk.alloc ?_ _ | with_reducible refine Blk.grown ?_ hgrow2 ne2.out | with_reducible refine Blk.grown ?_ hgrow2 nr2.out | with_reducible refine Blk.grown ?_ hgrow1 ne1.out | with_reducible refine Blk.grown ?_ hgrow1 nr1.out | with_reducible refine Ext.grown ?_ hgrow2 (fun k hk => (lt2.out k hk).1) | with_reducible refine Ext.grown ?_ hgrow1 (fun k hk => (lt1.out k hk).1)))
      clear HH
      have HH := Lib.hid hHeld
      clear hHeld
      clear hK K
      (try simp only [Act.put, List.setIfInBounds_toArray, List.set_cons_zero, List.set_cons_succ])
      refine wpL_ready [4] (by kernel_rfl) (by simp) ?_
      refine AllL.cons rfl (fun K hK => ?_) ?_
      · (refine step_append_lies _ (by rfl) _ _ _ (by rfl) w.heap.size 102 i0 _ 1 4 Tryz.underlying35 hi0 hz0 hz1 hz2 rfl (by omega) (.slice A27 n1 c27) n1 ((digs zn.natAbs).map U) (by rfl) (by repeat (first | with_reducible exact HO1.out | with_reducible refine World.ownsRow.drew ?_ | with_reducible refine World.ownsRow.alloc ?_ _)) ⟨_, 0, none⟩ 1 1 [.int .u32 0] (by rfl) (by rfl) (World.news_of_block (cs := #[.int .u32 0]) (t := 102) (fr := (0, 0)) (by show Blk _ _ _ _; repeat (first | with_reducible exact Blk.new _ _ _ | ((with_reducible refine Blk.new' ?_); simp; done) | with_reducible refine Blk.drew ?_ | with_reducible refine Blk.alloc ?_ _))) (by simp [Value.oneCell']) (by omega) (by simp only [maxLen]; omega) (by omega) (by simp; omega) _ (by rfl) ?_; intro g1 cap1 w1 hown1 hgrow1 hat1 hlt1)
        refine hK.out _ _ ?_ (fun hHeld => ?_)
        · (try dsimp only); (refine keepS ?_ ?_ ?_ <;> repeat (first | with_reducible exact HC1.out | with_reducible exact HC2.out | with_reducible exact HC3.out | with_reducible exact HB1.out | with_reducible exact HB2.out | with_reducible exact HB3.out | with_reducible refine Ext.drew ?_ | with_reducible refine Ext.alloc ?_ _ | with_reducible refine Blk.drew ?_ | with_reducible refine Blk.alloc ?_ _ | with_reducible refine Blk.grown ?_ hgrow2 ne2.out | with_reducible refine Blk.grown ?_ hgrow2 nr2.out | with_reducible refine Blk.grown ?_ hgrow1 ne1.out | with_reducible refine Blk.grown ?_ hgrow1 nr1.out | with_reducible refine Ext.grown ?_ hgrow2 (fun k hk => (lt2.out k hk).1) | with_reducible refine Ext.grown ?_ hgrow1 (fun k hk => (lt1.out k hk).1)))
        clear HH
        have HH := Lib.hid hHeld
        clear hHeld
        have HC1 := Lib.hid HH.out.2.2.2.2.1
        have HC2 := Lib.hid HH.out.2.2.2.2.2.1
        have HC3 := Lib.hid HH.out.2.2.2.2.2.2
        clear hK K
        (try simp only [Act.put, List.setIfInBounds_toArray, List.set_cons_zero, List.set_cons_succ])
        refine wpL_take 10 11 (v := ?_) rfl (by kernel_rfl) (fun _ _ _ h => h) HH.out (by rfl) ?yld ?_
        case yld => (intro w' hSw; obtain ⟨s1, s2, s3, s4, -⟩ := hSw; go_simp; try with_reducible rfl)
        (try simp only [Act.put, List.setIfInBounds_toArray, List.set_cons_zero, List.set_cons_succ])
        refine wpL_take 11 11 (v := ?_) rfl (by kernel_rfl) (fun _ _ _ h => h) HH.out (by rfl) ?yld ?_
        case yld => (intro w' hSw; obtain ⟨s1, s2, s3, s4, -⟩ := hSw; go_simp; try with_reducible rfl)
        (try simp only [Act.put, List.setIfInBounds_toArray, List.set_cons_zero, List.set_cons_succ])
        refine wpL_ready [9] (by kernel_rfl) (by simp) ?_
        refine AllL.cons rfl (fun K hK => ?_) ?_
        · (refine step_append_lies _ (by rfl) _ _ _ (by rfl) w.heap.size 102 i0 _ 1 4 Tryz.underlying35 hi0 hz0 hz1 hz2 rfl (by omega) (.slice A31 n2 c31) n2 ((digs zd.natAbs).map U) (by rfl) (by repeat (first | with_reducible exact HO2.out | with_reducible refine World.ownsRow.drew ?_ | with_reducible refine World.ownsRow.alloc ?_ _ | refine own_grown ?_ hgrow1 (fun k h1 h2 => AP.out k h2.symm h1))) ⟨_, 0, none⟩ 1 1 [.int .u32 0] (by rfl) (by rfl) (World.news_of_block (cs := #[.int .u32 0]) (t := 102) (fr := (0, 0)) (by show Blk _ _ _ _; repeat (first | with_reducible exact Blk.new _ _ _ | ((with_reducible refine Blk.new' ?_); simp; done) | with_reducible refine Blk.drew ?_ | with_reducible refine Blk.alloc ?_ _ | refine Blk.grown ?_ hgrow1 (fun h => by have := (lt1.out _ h.symm).2; first | omega | (simp at this; done) | (simp at this; omega))))) (by simp [Value.oneCell']) (by omega) (by simp only [maxLen]; omega) (by omega) (by have := hgrow1.size; simp at this ⊢; omega) _ (by rfl) ?_; intro g2 cap2 w2 hown2 hgrow2 hat2 hlt2)
          refine hK.out _ _ ?_ (fun hHeld => ?_)
          · (try dsimp only); (refine keepS ?_ ?_ ?_ <;> repeat (first | with_reducible exact HC1.out | with_reducible exact HC2.out | with_reducible exact HC3.out | with_reducible exact HB1.out | with_reducible exact HB2.out | with_reducible exact HB3.out | with_reducible refine Ext.drew ?_ | with_reducible refine Ext.alloc ?_ _ | with_reducible refine Blk.drew ?_ | with_reducible refine Blk.alloc ?_ _ | with_reducible refine Blk.grown ?_ hgrow2 ne2.out | with_reducible refine Blk.grown ?_ hgrow2 nr2.out | with_reducible refine Blk.grown ?_ hgrow1 ne1.out | with_reducible refine Blk.grown ?_ hgrow1 nr1.out | with_reducible refine Ext.grown ?_ hgrow2 (fun k hk => (lt2.out k hk).1) | with_reducible refine Ext.grown ?_ hgrow1 (fun k hk => (lt1.out k hk).1)))
          clear HH
          have HH := Lib.hid hHeld
          clear hHeld
          clear hK K
          (try simp only [Act.put, List.setIfInBounds_toArray, List.set_cons_zero, List.set_cons_succ])
          have P1 : Hid (some g1 ≠ (Value.slice A31 n2 c31).ownBlock) := fun h => by
            rcases hat1 with h1 | h1
            · exact AP.out g1 h1 h.symm
            · have := (lt2.out g1 h.symm).2
              (try simp at h1); omega
          have P2 : Hid (g1 ≠ g2) := fun h => by
            rcases hat2 with h2 | h2
            · exact P1.out (by rw [h]; exact h2.symm)
            · (try simp at h2); omega
          have OW1 : Hid (w2.ownsRow w.heap.size 102 1 (.slice (some ⟨g1, 0, none⟩) (n1 + 1) cap1) (n1 + 1) ((digs zn.natAbs).map U ++ [.int .u32 0])) := by
            show World.ownsRow _ _ _ _ _ _ _
            refine own_grown ?_ hgrow2 (fun k h1 h2 => P1.out (by rw [show g1 = k from Option.some.inj h1]; exact h2))
            repeat (first | with_reducible exact hown1 | with_reducible refine World.ownsRow.drew ?_ | with_reducible refine World.ownsRow.alloc ?_ _)
          have OW2 := Lib.hid hown2
          obtain ⟨s1, s2, s3, s4, HE, HF, HR⟩ := HH.out
          have E2 := Lib.hid HE
          have BF2 := Lib.hid HF
          have BR2 := Lib.hid HR
          have G1 := Lib.hid (own_ne_blk OW1.out HF (by decide))
          have G2 := Lib.hid (own_ne_blk OW2.out HF (by decide))
          clear HE HF HR HH hown1 hgrow1 hat1 hlt1 hown2 hgrow2 hat2 hlt2 lt1 lt2 ne1 ne2 nr1 nr2 AP P1 HB1 HB2 HB3 HC1 HC2 HC3 HO1 HO2 hi0 hz0 hz1 hz2
          refine wpL_ready [12] (by kernel_rfl) (by simp) ?_
          refine AllL.last rfl (by kernel_rfl) (fun K hK => ?_) AllL.nil
          go_simp
          refine hK.out _ _ ?_
          clear hK K
          (try simp only [Act.put, List.setIfInBounds_toArray, List.set_cons_zero, List.set_cons_succ])
          refine wpL_ready [13] (by kernel_rfl) (by simp) ?_
          refine AllL.last rfl (by kernel_rfl) (fun K hK => ?_) AllL.nil
          go_simp
          refine hK.out _ _ ?_
          clear hK K
          (try simp only [Act.put, List.setIfInBounds_toArray, List.set_cons_zero, List.set_cons_succ])
          refine wpL_ready [14] (by kernel_rfl) (by simp) ?_
          refine AllL.last rfl (by kernel_rfl) (fun K hK => ?_) AllL.nil
          go_simp
          refine hK.out _ _ ?_
          clear hK K
          (try simp only [Act.put, List.setIfInBounds_toArray, List.set_cons_zero, List.set_cons_succ])
          refine wpL_ready [15] (by kernel_rfl) (by simp) ?_
          refine AllL.last rfl (by kernel_rfl) (fun K hK => ?_) AllL.nil
          go_simp
          refine hK.out _ _ ?_
          clear hK K
          (try simp only [Act.put, List.setIfInBounds_toArray, List.set_cons_zero, List.set_cons_succ])
          refine wpL_done (by kernel_rfl) ?_ _
          refine NoPanic.normal ?_
          have hL0 := Loc.raw HV.out ((E2.out.setCell (p := ⟨Wc1.heap.size, 1, none⟩) hlow (.slice (some ⟨g1, 0, none⟩) (n1 + 1) cap1)).setCell (p := ⟨Wc1.heap.size, 3, none⟩) hlow (.slice (some ⟨g2, 0, none⟩) (n2 + 1) cap2)) (Ls := [(Wc1.heap.size, 39, #[.bool (decide (zn < 0)), .slice (some ⟨g1, 0, none⟩) (n1 + 1) cap1, .bool (decide (zd < 0)), .slice (some ⟨g2, 0, none⟩) (n2 + 1) cap2]), (w.heap.size, 39, #[.bool false, .slice none 0 0, .bool false, .slice none 0 0])])
            (fun x hx => by
              rcases List.mem_cons.1 hx with rfl | hx
              · exact ⟨hlow, (BF2.out.set_ 1 _).set_ 3 _⟩
              · rcases List.mem_singleton.1 hx with rfl
                exact ⟨Nat.le_refl _, (BR2.out.far (Ne.symm hfr) _).far (Ne.symm hfr) _⟩)
            (List.Pairwise.cons (fun y hy => by rcases List.mem_singleton.1 hy with rfl; exact hfr) (List.pairwise_singleton _ _))
          obtain ⟨R3, R4, m9, hL, row1, row2⟩ := hL0.reown2 (g1 := false) (g2 := false) (own_set (own_set OW1.out G1.out _) G1.out _) (own_set (own_set OW2.out G2.out _) G2.out _) (Nat.le_refl _) (Nat.le_refl _) (fun k h1 h2 => P2.out ((Option.some.inj h1).trans (Option.some.inj h2).symm)) (by simp)
          simp only [List.cons_append, List.nil_append] at hL
          have ROW1 := Lib.hid row1
          have ROW2 := Lib.hid row2
          clear hL0 row1 row2 s1 s2 s3 s4 E2 BF2 BR2 OW1 OW2 G1 G2 P2
          go_wp2_with (first | ((with_reducible refine kAny ?_); go_skip) | (with_reducible refine stA ?_) | ((first | refine tIx ?_ | refine tFd ?_ | refine tLd ?_ | ((first | refine tSr ?_ | refine tSt ?_); clear hL; intro _ hL; simp only [splice, zq1, zq2, zq3] at hL) | (refine tAl ?_; clear hL; intro _ _ hL _) | refine tFl ?_ | (refine tBs ?_; clear hL; intro _ _ hL _ hBs)); simp only [Act.put, zq1, zq2, zq3]))
          obtain ⟨m10, B4, c4, hL10, hle10, e4, hc4, hs4, -⟩ := Loc.show (A := _ :: _ :: R3) hL ROW2.out
          obtain ⟨m11, B3, c3, hL11, hle11, e3, hc3, hs3, -⟩ := Loc.show (A := [_, _]) hL10 ROW1.out
          injection e3 with x1 x2 x3
          subst x1 x3
          injection e4 with x1 x2 x3
          subst x1 x3
          refine fin_aggR hL Tryz.results19 rfl rfl loX ag_Frac rfl hL11 ?_
          rw [EN.out, ED.out]
          exact frG_app hs3 (hs4.le hle11) (by rw [HN1.out]; exact hc3) (by rw [HN2.out]; exact hc4) HN1.out HN2.out (by rw [← EN.out]; exact BN.out) (by rw [← ED.out]; exact BD.out) (fun h => by rw [← EN.out]; exact wZ (ED.out.trans h))
        exact AllL.nil
      exact AllL.nil
    exact AllL.nil
  refine AllL.cons rfl (fun K hK => ?_) ?_
  · go_simp
    refine hK.out _ _ ?_ (fun hHeld => ?_)
    · (try dsimp only); (refine keepS ?_ ?_ ?_ <;> repeat (first | with_reducible exact HC1.out | with_reducible exact HC2.out | with_reducible exact HC3.out | with_reducible exact HB1.out | with_reducible exact HB2.out | with_reducible exact HB3.out | with_reducible refine Ext.drew ?_ | with_reducible refine Ext.alloc ?_ _ | with_reducible refine Blk.drew ?_ | with_reducible refine Blk.alloc ?_ _ | with_reducible refine Blk.grown ?_ hgrow2 ne2.out | with_reducible refine Blk.grown ?_ hgrow2 nr2.out | with_reducible refine Blk.grown ?_ hgrow1 ne1.out | with_reducible refine Blk.grown ?_ hgrow1 nr1.out | with_reducible refine Ext.grown ?_ hgrow2 (fun k hk => (lt2.out k hk).1) | with_reducible refine Ext.grown ?_ hgrow1 (fun k hk => (lt1.out k hk).1)))
    clear HH
    have HH := Lib.hid hHeld
    clear hHeld
    clear hK K
    (try simp only [Act.put, List.setIfInBounds_toArray, List.set_cons_zero, List.set_cons_succ])
    refine wpL_ready [3] (by kernel_rfl) (by simp) ?_
    refine AllL.cons rfl (fun K hK => ?_) ?_
    · go_simp
      refine hK.out _ _ ?_ (fun hHeld => ?_)
      · (try dsimp only); (refine keepS ?_ ?_ ?_ <;> repeat (first | with_reducible exact HC1.out | with_reducible exact HC2.out | with_reducible exact HC3.out | with_reducible exact HB1.out | with_reducible exact HB2.out | with_reducible exact HB3.out | with_reducible refine Ext.drew ?_ | with_reducible refine Ext.alloc ?_ _ | with_reducible refine Blk.drew ?_ | with_reducible refine Blk.alloc ?_ _ | with_reducible refine Blk.grown ?_ hgrow2 ne2.out | with_reducible refine Blk.grown ?_ hgrow2 nr2.out | with_reducible refine Blk.grown ?_ hgrow1 ne1.out | with_reducible refine Blk.grown ?_ hgrow1 nr1.out | with_reducible refine Ext.grown ?_ hgrow2 (fun k hk => (lt2.out k hk).1) | with_reducible refine Ext.grown ?_ hgrow1 (fun k hk => (lt1.out k hk).1)))
      clear HH
      have HH := Lib.hid hHeld
      clear hHeld
      clear hK K
      (try simp only [Act.put, List.setIfInBounds_toArray, List.set_cons_zero, List.set_cons_succ])
      refine wpL_ready [4] (by kernel_rfl) (by simp) ?_
      refine AllL.cons rfl (fun K hK => ?_) ?_
      · (refine step_append_lies _ (by rfl) _ _ _ (by rfl) w.heap.size 102 i0 _ 1 4 Tryz.underlying35 hi0 hz0 hz1 hz2 rfl (by omega) (.slice A27 n1 c27) n1 ((digs zn.natAbs).map U) (by rfl) (by repeat (first | with_reducible exact HO1.out | with_reducible refine World.ownsRow.drew ?_ | with_reducible refine World.ownsRow.alloc ?_ _)) ⟨_, 0, none⟩ 1 1 [.int .u32 0] (by rfl) (by rfl) (World.news_of_block (cs := #[.int .u32 0]) (t := 102) (fr := (0, 0)) (by show Blk _ _ _ _; repeat (first | with_reducible exact Blk.new _ _ _ | ((with_reducible refine Blk.new' ?_); simp; done) | with_reducible refine Blk.drew ?_ | with_reducible refine Blk.alloc ?_ _))) (by simp [Value.oneCell']) (by omega) (by simp only [maxLen]; omega) (by omega) (by simp; omega) _ (by rfl) ?_; intro g1 cap1 w1 hown1 hgrow1 hat1 hlt1)
        refine hK.out _ _ ?_ (fun hHeld => ?_)
        · (try dsimp only); (refine keepS ?_ ?_ ?_ <;> repeat (first | with_reducible exact HC1.out | with_reducible exact HC2.out | with_reducible exact HC3.out | with_reducible exact HB1.out | with_reducible exact HB2.out | with_reducible exact HB3.out | with_reducible refine Ext.drew ?_ | with_reducible refine Ext.alloc ?_ _ | with_reducible refine Blk.drew ?_ | with_reducible refine Blk.alloc ?_ _ | with_reducible refine Blk.grown ?_ hgrow2 ne2.out | with_reducible refine Blk.grown ?_ hgrow2 nr2.out | with_reducible refine Blk.grown ?_ hgrow1 ne1.out | with_reducible refine Blk.grown ?_ hgrow1 nr1.out | with_reducible refine Ext.grown ?_ hgrow2 (fun k hk => (lt2.out k hk).1) | with_reducible refine Ext.grown ?_ hgrow1 (fun k hk => (lt1.out k hk).1)))
        clear HH
        have HH := Lib.hid hHeld
        clear hHeld
        have HC1 := Lib.hid HH.out.2.2.2.2.1
        have HC2 := Lib.hid HH.out.2.2.2.2.2.1
        have HC3 := Lib.hid HH.out.2.2.2.2.2.2
        clear hK K
        (try simp only [Act.put, List.setIfInBounds_toArray, List.set_cons_zero, List.set_cons_succ])
        refine wpL_take 10 11 (v := ?_) rfl (by kernel_rfl) (fun _ _ _ h => h) HH.out (by rfl) ?yld ?_
        case yld => (intro w' hSw; obtain ⟨s1, s2, s3, s4, -⟩ := hSw; go_simp; try with_reducible rfl)
        (try simp only [Act.put, List.setIfInBounds_toArray, List.set_cons_zero, List.set_cons_succ])
        refine wpL_take 11 11 (v := ?_) rfl (by kernel_rfl) (fun _ _ _ h => h) HH.out (by rfl) ?yld ?_
        case yld => (intro w' hSw; obtain ⟨s1, s2, s3, s4, -⟩ := hSw; go_simp; try with_reducible rfl)
        (try simp only [Act.put, List.setIfInBounds_toArray, List.set_cons_zero, List.set_cons_succ])
        refine wpL_ready [9] (by kernel_rfl) (by simp) ?_
        refine AllL.cons rfl (fun K hK => ?_) ?_
        · (refine step_append_lies _ (by rfl) _ _ _ (by rfl) w.heap.size 102 i0 _ 1 4 Tryz.underlying35 hi0 hz0 hz1 hz2 rfl (by omega) (.slice A31 n2 c31) n2 ((digs zd.natAbs).map U) (by rfl) (by repeat (first | with_reducible exact HO2.out | with_reducible refine World.ownsRow.drew ?_ | with_reducible refine World.ownsRow.alloc ?_ _ | refine own_grown ?_ hgrow1 (fun k h1 h2 => AP.out k h2.symm h1))) ⟨_, 0, none⟩ 1 1 [.int .u32 0] (by rfl) (by rfl) (World.news_of_block (cs := #[.int .u32 0]) (t := 102) (fr := (0, 0)) (by show Blk _ _ _ _; repeat (first | with_reducible exact Blk.new _ _ _ | ((with_reducible refine Blk.new' ?_); simp; done) | with_reducible refine Blk.drew ?_ | with_reducible refine Blk.alloc ?_ _ | refine Blk.grown ?_ hgrow1 (fun h => by have := (lt1.out _ h.symm).2; first | omega | (simp at this; done) | (simp at this; omega))))) (by simp [Value.oneCell']) (by omega) (by simp only [maxLen]; omega) (by omega) (by have := hgrow1.size; simp at this ⊢; omega) _ (by rfl) ?_; intro g2 cap2 w2 hown2 hgrow2 hat2 hlt2)
          refine hK.out _ _ ?_ (fun hHeld => ?_)
          · (try dsimp only); (refine keepS ?_ ?_ ?_ <;> repeat (first | with_reducible exact HC1.out | with_reducible exact HC2.out | with_reducible exact HC3.out | with_reducible exact HB1.out | with_reducible exact HB2.out | with_reducible exact HB3.out | with_reducible refine Ext.drew ?_ | with_reducible refine Ext.alloc ?_ _ | with_reducible refine Blk.drew ?_ | with_reducible refine Blk.alloc ?_ _ | with_reducible refine Blk.grown ?_ hgrow2 ne2.out | with_reducible refine Blk.grown ?_ hgrow2 nr2.out | with_reducible refine Blk.grown ?_ hgrow1 ne1.out | with_reducible refine Blk.grown ?_ hgrow1 nr1.out | with_reducible refine Ext.grown ?_ hgrow2 (fun k hk => (lt2.out k hk).1) | with_reducible refine Ext.grown ?_ hgrow1 (fun k hk => (lt1.out k hk).1)))
          clear HH
          have HH := Lib.hid hHeld
          clear hHeld
          clear hK K
          (try simp only [Act.put, List.setIfInBounds_toArray, List.set_cons_zero, List.set_cons_succ])
          have P1 : Hid (some g1 ≠ (Value.slice A31 n2 c31).ownBlock) := fun h => by
            rcases hat1 with h1 | h1
            · exact AP.out g1 h1 h.symm
            · have := (lt2.out g1 h.symm).2
              (try simp at h1); omega
          have P2 : Hid (g1 ≠ g2) := fun h => by
            rcases hat2 with h2 | h2
            · exact P1.out (by rw [h]; exact h2.symm)
            · (try simp at h2); omega
          have OW1 : Hid (w2.ownsRow w.heap.size 102 1 (.slice (some ⟨g1, 0, none⟩) (n1 + 1) cap1) (n1 + 1) ((digs zn.natAbs).map U ++ [.int .u32 0])) := by
            show World.ownsRow _ _ _ _ _ _ _
            refine own_grown ?_ hgrow2 (fun k h1 h2 => P1.out (by rw [show g1 = k from Option.some.inj h1]; exact h2))
            repeat (first | with_reducible exact hown1 | with_reducible refine World.ownsRow.drew ?_ | with_reducible refine World.ownsRow.alloc ?_ _)
          have OW2 := Lib.hid hown2
          obtain ⟨s1, s2, s3, s4, HE, HF, HR⟩ := HH.out
          have E2 := Lib.hid HE
          have BF2 := Lib.hid HF
          have BR2 := Lib.hid HR
          have G1 := Lib.hid (own_ne_blk OW1.out HF (by decide))
          have G2 := Lib.hid (own_ne_blk OW2.out HF (by decide))
          clear HE HF HR HH hown1 hgrow1 hat1 hlt1 hown2 hgrow2 hat2 hlt2 lt1 lt2 ne1 ne2 nr1 nr2 AP P1 HB1 HB2 HB3 HC1 HC2 HC3 HO1 HO2 hi0 hz0 hz1 hz2
          refine wpL_ready [12] (by kernel_rfl) (by simp) ?_
          refine AllL.last rfl (by kernel_rfl) (fun K hK => ?_) AllL.nil
          go_simp
          refine hK.out _ _ ?_
          clear hK K
          (try simp only [Act.put, List.setIfInBounds_toArray, List.set_cons_zero, List.set_cons_succ])
          refine wpL_ready [13] (by kernel_rfl) (by simp) ?_
          refine AllL.last rfl (by kernel_rfl) (fun K hK => ?_) AllL.nil
          go_simp
          refine hK.out _ _ ?_
          clear hK K
          (try simp only [Act.put, List.setIfInBounds_toArray, List.set_cons_zero, List.set_cons_succ])
          refine wpL_ready [14] (by kernel_rfl) (by simp) ?_
          refine AllL.last rfl (by kernel_rfl) (fun K hK => ?_) AllL.nil
          go_simp
          refine hK.out _ _ ?_
          clear hK K
          (try simp only [Act.put, List.setIfInBounds_toArray, List.set_cons_zero, List.set_cons_succ])
          refine wpL_ready [15] (by kernel_rfl) (by simp) ?_
          refine AllL.last rfl (by kernel_rfl) (fun K hK => ?_) AllL.nil
          go_simp
          refine hK.out _ _ ?_
          clear hK K
          (try simp only [Act.put, List.setIfInBounds_toArray, List.set_cons_zero, List.set_cons_succ])
          refine wpL_done (by kernel_rfl) ?_ _
          refine NoPanic.normal ?_
          have hL0 := Loc.raw HV.out ((E2.out.setCell (p := ⟨Wc1.heap.size, 1, none⟩) hlow (.slice (some ⟨g1, 0, none⟩) (n1 + 1) cap1)).setCell (p := ⟨Wc1.heap.size, 3, none⟩) hlow (.slice (some ⟨g2, 0, none⟩) (n2 + 1) cap2)) (Ls := [(Wc1.heap.size, 39, #[.bool (decide (zn < 0)), .slice (some ⟨g1, 0, none⟩) (n1 + 1) cap1, .bool (decide (zd < 0)), .slice (some ⟨g2, 0, none⟩) (n2 + 1) cap2]), (w.heap.size, 39, #[.bool false, .slice none 0 0, .bool false, .slice none 0 0])])
            (fun x hx => by
              rcases List.mem_cons.1 hx with rfl | hx
              · exact ⟨hlow, (BF2.out.set_ 1 _).set_ 3 _⟩
              · rcases List.mem_singleton.1 hx with rfl
                exact ⟨Nat.le_refl _, (BR2.out.far (Ne.symm hfr) _).far (Ne.symm hfr) _⟩)
            (List.Pairwise.cons (fun y hy => by rcases List.mem_singleton.1 hy with rfl; exact hfr) (List.pairwise_singleton _ _))
          obtain ⟨R3, R4, m9, hL, row1, row2⟩ := hL0.reown2 (g1 := false) (g2 := false) (own_set (own_set OW1.out G1.out _) G1.out _) (own_set (own_set OW2.out G2.out _) G2.out _) (Nat.le_refl _) (Nat.le_refl _) (fun k h1 h2 => P2.out ((Option.some.inj h1).trans (Option.some.inj h2).symm)) (by simp)
          simp only [List.cons_append, List.nil_append] at hL
          have ROW1 := Lib.hid row1
          have ROW2 := Lib.hid row2
          clear hL0 row1 row2 s1 s2 s3 s4 E2 BF2 BR2 OW1 OW2 G1 G2 P2
          go_wp2_with (first | ((with_reducible refine kAny ?_); go_skip) | (with_reducible refine stA ?_) | ((first | refine tIx ?_ | refine tFd ?_ | refine tLd ?_ | ((first | refine tSr ?_ | refine tSt ?_); clear hL; intro _ hL; simp only [splice, zq1, zq2, zq3] at hL) | (refine tAl ?_; clear hL; intro _ _ hL _) | refine tFl ?_ | (refine tBs ?_; clear hL; intro _ _ hL _ hBs)); simp only [Act.put, zq1, zq2, zq3]))
          obtain ⟨m10, B4, c4, hL10, hle10, e4, hc4, hs4, -⟩ := Loc.show (A := _ :: _ :: R3) hL ROW2.out
          obtain ⟨m11, B3, c3, hL11, hle11, e3, hc3, hs3, -⟩ := Loc.show (A := [_, _]) hL10 ROW1.out
          injection e3 with x1 x2 x3
          subst x1 x3
          injection e4 with x1 x2 x3
          subst x1 x3
          refine fin_aggR hL Tryz.results19 rfl rfl loX ag_Frac rfl hL11 ?_
          rw [EN.out, ED.out]
          exact frG_app hs3 (hs4.le hle11) (by rw [HN1.out]; exact hc3) (by rw [HN2.out]; exact hc4) HN1.out HN2.out (by rw [← EN.out]; exact BN.out) (by rw [← ED.out]; exact BD.out) (fun h => by rw [← EN.out]; exact wZ (ED.out.trans h))
        exact AllL.nil
      exact AllL.nil
    exact AllL.nil
  exact AllL.nil
end Go.Proofs.YtmhkmmmompediaaGreat

/- Contracts of pairingdata.Wild whole, lagrange.copyPrices as a value, and lagrange.Step. -/
namespace Go.Proofs.YtmhkmmmompediaaGreat
open Go.RowKit

theorem d_Wild (n : Int) (w m : World) (hV : Vw m w) (h1 : -9223372036854775808 ≤ n) (h2 : n ≤ 9223372036854775807) :
    Calls Tryz.prog 19 #[.int .i64 n] w (RetV w m fun m' r => FrG m' r (wN n) (wD n)) := by
  by_cases h : n / 256 % 4 = 3
  · exact d_WildB n w m hV h1 h2 h
  · exact d_WildA n w m hV h1 h2 h
theorem FrG.lit {m : World} {v : Value} {x y : Int} (h : FrG m v x y) : ∃ g A n c f B k d, v = .agg #[.bool g, .slice A n c, .bool f, .slice B k d] ∧ FrG m (.agg #[.bool g, .slice A n c, .bool f, .slice B k d]) x y := by
  have h' := h
  obtain ⟨⟨g, A, n, c, f, B, k, d, rfl, -, -⟩, -⟩ := h
  exact ⟨_, _, _, _, _, _, _, _, rfl, h'⟩

end Go.Proofs.YtmhkmmmompediaaGreat

/- The walk through the law LagrangeSteps. -/
namespace Go.Proofs.YtmhkmmmompediaaGreat
open Go.RowKit

theorem wQ_tn (n : Int) : Tn 10 (Rat.divInt (wN n) (wD n)) := by
  have hd := (frF n).den_pos
  by_cases hk : wkF n = 0
  · unfold wN wD
    rw [hk]
    simp only [Int.mul_zero]
    exact ⟨by simp, by simp⟩
  · unfold wN wD
    rw [Rat.divInt_mul_right hk, Rat.num_divInt_den]
    exact frT n
structure WF (x y : Int) : Prop where
  bx : x.natAbs ≤ 20
  by_ : y.natAbs ≤ 20
  q : Tn 10 (Rat.divInt x y)
theorem wild_wf (n : Int) : WF (wN n) (wD n) := ⟨wN_bd n, wD_bd n, wQ_tn n⟩
theorem WF.sm {x y : Int} (h : WF x y) : Sm x y := ⟨by have := h.bx; omega, by have := h.by_; omega⟩
theorem FrG.toV {m : World} {v : Value} {x y : Int} (h : FrG m v x y) : FracV m v (Rat.divInt x y) := by
  obtain ⟨⟨g, A, n, c, f, B, k, d, rfl, h1, h2⟩, -⟩ := h
  exact ⟨x, y, _, _, _, _, rfl, h1, h2, rfl⟩
theorem FracC.toFr {m : World} {v : Value} {q : Rat} (h : FracC m v q) {k : Nat} (hk : Fit k q) (hk' : k ≤ 1000) : FrV m v q.num q.den := by
  obtain ⟨g, A, n, c, f, B, j, d, rfl, h⟩ := h.lit
  obtain ⟨h1, h2⟩ := h.open_
  exact ⟨_, _, _, _, _, _, _, _, rfl, h1.toV (hk.num hk'), h2.toV (hk.den hk')⟩
end Go.Proofs.YtmhkmmmompediaaGreat

/- Contracts on lists of numbers: pairingref27.Has, count, within, ascending; slices.Index, Contains, BinarySearch; cmp.Less. -/
namespace Go.Proofs.YtmhkmmmompediaaGreat
open Go.RowKit

theorem has_step {xs : List Int} {t x : Int} {k : Nat} (h : ∀ j, j < k → xs[j]? ≠ some t) (hx : xs[k]? = some x) (he : ¬ x = t) : ∀ j, j < k + 1 → xs[j]? ≠ some t := by
  intro j hj
  rcases Nat.lt_or_ge j k with h1 | h1
  · exact h j h1
  · obtain rfl : j = k := by omega
    rw [hx]
    exact fun e => he (Option.some.inj e)
theorem has_end {xs : List Int} {t : Int} {k n : Nat} (hn : xs.length = n) (hk : ¬ k < n) (h : ∀ j, j < k → xs[j]? ≠ some t) : decide (t ∈ xs) = false := by
  refine decide_eq_false fun hm => ?_
  obtain ⟨j, hj⟩ := List.mem_iff_getElem?.1 hm
  have := (List.getElem?_eq_some_iff.1 hj).1
  exact h j (by omega) hj

set_option maxRecDepth 100000 in
set_option maxHeartbeats 8000000 in
theorem r_Has (a : Value) (xs : List Int) (t : Int) (w m : World) (hV : Vw m w) (ha : IntL m a xs) (hl : xs.length ≤ 1000000) :
    Calls Tryz.prog 44 #[a, .int .i64 t] w (RetV w m fun _ r => r = .bool (decide (t ∈ xs))) := by
  obtain ⟨A, c, rfl, hc, ha⟩ := ha.lit
  have hL := Loc.start hV
  clear hV
  generalize hn : xs.length = n at *
  have HN := Lib.hid hn
  clear hn
  go_enter Tryz.func44, Tryz.ntmps44
  go_wp2_with (first | ((with_reducible refine kAny ?_); go_skip) | (with_reducible refine stA ?_) | ((first | refine tIx ?_ | refine tLd ?_); simp only [Act.put, zq1, zq2, zq3]))
  go_loopw [5] (fun i wr => ∃ (k : Nat) (mm : World), k ≤ n ∧ i = .int .i64 k ∧ Loc w m wr mm [] ∧ Hid (∀ j, j < k → xs[j]? ≠ some t)) (fun i _ => n - (intOf i).toNat)
  case atStart => exact ⟨0, m, Nat.zero_le _, rfl, hL, fun j hj => by omega⟩
  case round =>
    clear hL
    obtain ⟨k, mm, hk, rfl, hL, HJ⟩ := hrel
    have hM := hL.mext
    by_cases hlt : k < n
    · obtain ⟨x, hx⟩ := at_some HN hlt
      obtain ⟨b1, o1, rfl, hc1⟩ := IntL.at_ ha hx
      by_cases he : x = t
      · have E : Hid (decide (t ∈ xs) = true) := decide_eq_true (he ▸ List.mem_of_getElem? hx)
        have bb : (x == t) = true := by simp [he]
        clear hx he
        go_wp2_with (first | ((with_reducible refine kAny ?_); go_skip) | (with_reducible refine stA ?_) | ((first | refine tIx ?_ | refine tLd ?_); simp only [Act.put, zq1, zq2, zq3]))
        go_ret
        exact RetV.mk hL (congrArg Value.bool E.out.symm)
      · have bb : (x == t) = false := by simp [he]
        have HS := Lib.hid (has_step HJ.out hx he)
        clear hx he
        go_wp2_with (first | ((with_reducible refine kAny ?_); go_skip) | (with_reducible refine stA ?_) | ((first | refine tIx ?_ | refine tLd ?_); simp only [Act.put, zq1, zq2, zq3]))
        go_roundw
        case rel => exact ⟨k + 1, _, by omega, by go_num, hL, HS.out⟩
        case measure => simp [intOf] <;> omega
    · have E := Lib.hid (has_end HN.out hlt HJ.out)
      go_wp2_with (first | ((with_reducible refine kAny ?_); go_skip) | (with_reducible refine stA ?_) | ((first | refine tIx ?_ | refine tLd ?_); simp only [Act.put, zq1, zq2, zq3]))
      go_ret
      exact RetV.mk hL (congrArg Value.bool E.out.symm)

theorem count_step {xs : List Int} {t x : Int} {k : Nat} (hx : xs[k]? = some x) : (xs.take (k + 1)).count t = (xs.take k).count t + (if x = t then 1 else 0) := by
  rw [List.take_add_one, hx, List.count_append]
  by_cases h : x = t
  · subst h; simp
  · simp [h]
set_option maxRecDepth 100000 in
set_option maxHeartbeats 8000000 in
theorem r_count (a : Value) (xs : List Int) (t : Int) (w m : World) (hV : Vw m w) (ha : IntL m a xs) (hl : xs.length ≤ 1000000) :
    Calls Tryz.prog 122 #[a, .int .i64 t] w (RetV w m fun _ r => r = .int .i64 ((xs.count t : Nat) : Int)) := by
  obtain ⟨A, c, rfl, hc, ha⟩ := ha.lit
  have hL := Loc.start hV
  clear hV
  generalize hn : xs.length = n at *
  have HN := Lib.hid hn
  clear hn
  go_enter Tryz.func122, Tryz.ntmps122
  go_wp2_with (first | ((with_reducible refine kAny ?_); go_skip) | (with_reducible refine stA ?_) | ((first | refine tIx ?_ | refine tLd ?_); simp only [Act.put, zq1, zq2, zq3]))
  go_loopw [5, 6] (fun cc i wr => ∃ (k q : Nat) (mm : World), k ≤ n ∧ q ≤ k ∧ i = .int .i64 k ∧ cc = .int .i64 q ∧ Loc w m wr mm [] ∧ Hid (q = (xs.take k).count t)) (fun _ i _ => n - (intOf i).toNat)
  case atStart => exact ⟨0, 0, m, Nat.zero_le _, Nat.zero_le _, rfl, rfl, hL, rfl⟩
  case round =>
    clear hL
    obtain ⟨k, q, mm, hk, hq, rfl, rfl, hL, HJ⟩ := hrel
    have hM := hL.mext
    by_cases hlt : k < n
    · obtain ⟨x, hx⟩ := at_some HN hlt
      obtain ⟨b1, o1, rfl, hc1⟩ := IntL.at_ ha hx
      have HS := Lib.hid (count_step (t := t) hx)
      by_cases he : x = t
      · have bb : (x == t) = true := by simp [he]
        have HE : Hid (q + 1 = (xs.take (k + 1)).count t) := by show _ = _; rw [HS.out, if_pos he, HJ.out]
        clear hx he
        go_wp2_with (first | ((with_reducible refine kAny ?_); go_skip) | (with_reducible refine stA ?_) | ((first | refine tIx ?_ | refine tLd ?_); simp only [Act.put, zq1, zq2, zq3]))
        go_roundw
        case rel => exact ⟨k + 1, q + 1, _, by omega, by omega, by go_num, by go_num, hL, HE.out⟩
        case measure => simp [intOf] <;> omega
      · have bb : (x == t) = false := by simp [he]
        have HE : Hid (q = (xs.take (k + 1)).count t) := by show _ = _; rw [HS.out, if_neg he, HJ.out]; rfl
        clear hx he
        go_wp2_with (first | ((with_reducible refine kAny ?_); go_skip) | (with_reducible refine stA ?_) | ((first | refine tIx ?_ | refine tLd ?_); simp only [Act.put, zq1, zq2, zq3]))
        go_roundw
        case rel => exact ⟨k + 1, q, _, by omega, by omega, by go_num, rfl, hL, HE.out⟩
        case measure => simp [intOf] <;> omega
    · have E : Hid (q = xs.count t) := by
        show _ = _
        have := HJ.out
        rwa [List.take_of_length_le (by rw [HN.out]; omega)] at this
      go_wp2_with (first | ((with_reducible refine kAny ?_); go_skip) | (with_reducible refine stA ?_) | ((first | refine tIx ?_ | refine tLd ?_); simp only [Act.put, zq1, zq2, zq3]))
      go_ret
      exact RetV.mk hL (congrArg (fun z : Nat => Value.int .i64 (z : Int)) E.out)

theorem within_step {xs ys : List Int} {x : Int} {k : Nat} (h : ∀ j y, j < k → xs[j]? = some y → y ∈ ys) (hx : xs[k]? = some x) (he : x ∈ ys) : ∀ j y, j < k + 1 → xs[j]? = some y → y ∈ ys := by
  intro j y hj hy
  rcases Nat.lt_or_ge j k with h1 | h1
  · exact h j y h1 hy
  · obtain rfl : j = k := by omega
    rw [hx] at hy
    exact Option.some.inj hy ▸ he
theorem within_end {xs ys : List Int} {k n : Nat} (hn : xs.length = n) (hk : ¬ k < n) (h : ∀ j y, j < k → xs[j]? = some y → y ∈ ys) : decide (∀ x ∈ xs, x ∈ ys) = true := by
  refine decide_eq_true fun x hm => ?_
  obtain ⟨j, hj⟩ := List.mem_iff_getElem?.1 hm
  have := (List.getElem?_eq_some_iff.1 hj).1
  exact h j x (by omega) hj

set_option maxRecDepth 100000 in
set_option maxHeartbeats 8000000 in
theorem r_within (a b : Value) (xs ys : List Int) (w m : World) (hV : Vw m w) (ha : IntL m a xs) (hb : IntL m b ys) (hl : xs.length ≤ 1000000) (hl' : ys.length ≤ 1000000) :
    Calls Tryz.prog 78 #[a, b] w (RetV w m fun _ r => r = .bool (decide (∀ x ∈ xs, x ∈ ys))) := by
  obtain ⟨A, c, rfl, hc, ha⟩ := ha.lit
  obtain ⟨B, d, rfl, hd, hb⟩ := hb.lit
  have HB := Lib.hid hb
  have HL' := Lib.hid hl'
  have hL := Loc.start hV
  clear hV hb
  generalize hn2 : ys.length = n2 at *
  have HN2 := Lib.hid hn2
  clear hn2
  generalize hn : xs.length = n at *
  have HN := Lib.hid hn
  clear hn
  go_enter Tryz.func78, Tryz.ntmps78
  go_wp2_with (first | ((with_reducible refine kAny ?_); go_skip) | (with_reducible refine stA ?_) | ((first | refine tIx ?_ | refine tLd ?_); simp only [Act.put, zq1, zq2, zq3]))
  go_loopw [5] (fun i wr => ∃ (k : Nat) (mm : World), k ≤ n ∧ i = .int .i64 k ∧ Loc w m wr mm [] ∧ Hid (∀ j y, j < k → xs[j]? = some y → y ∈ ys)) (fun i _ => n - (intOf i).toNat)
  case atStart => exact ⟨0, m, Nat.zero_le _, rfl, hL, fun j _ hj => by omega⟩
  case round =>
    clear hL
    obtain ⟨k, mm, hk, rfl, hL, HJ⟩ := hrel
    have hM := hL.mext
    by_cases hlt : k < n
    · obtain ⟨x, hx⟩ := at_some HN hlt
      obtain ⟨b1, o1, rfl, hc1⟩ := IntL.at_ ha hx
      have HX := Lib.hid hx
      clear hx
      go_wp2_with (first | ((with_reducible refine kAny ?_); go_skip) | (with_reducible refine stA ?_) | ((first | refine tIx ?_ | refine tLd ?_); simp only [Act.put, zq1, zq2, zq3]))
      refine (r_Has _ ys x _ _ hL.vw (IntL.le HB.out leX) (by rw [HN2.out]; exact HL'.out)).mono ?_
      rintro e Wh1 ⟨_, mh1, rfl, hE, hMh1, hV, rfl⟩
      replace hL := hL.call hE (by assumption) hV; clear hE hV
      by_cases he : x ∈ ys
      · have HS := Lib.hid (within_step HJ.out HX.out he)
        rw [decide_eq_true he]
        clear he
        go_wp2_with (first | ((with_reducible refine kAny ?_); go_skip) | (with_reducible refine stA ?_) | ((first | refine tIx ?_ | refine tLd ?_); simp only [Act.put, zq1, zq2, zq3]))
        go_roundw
        case rel => exact ⟨k + 1, _, by omega, by go_num, hL, HS.out⟩
        case measure => simp [intOf] <;> omega
      · have E : Hid (decide (∀ x ∈ xs, x ∈ ys) = false) := decide_eq_false fun h => he (h x (List.mem_of_getElem? HX.out))
        rw [decide_eq_false he]
        clear he
        go_wp2_with (first | ((with_reducible refine kAny ?_); go_skip) | (with_reducible refine stA ?_) | ((first | refine tIx ?_ | refine tLd ?_); simp only [Act.put, zq1, zq2, zq3]))
        go_ret
        exact RetV.mk hL (congrArg Value.bool E.out.symm)
    · have E := Lib.hid (within_end HN.out hlt HJ.out)
      go_wp2_with (first | ((with_reducible refine kAny ?_); go_skip) | (with_reducible refine stA ?_) | ((first | refine tIx ?_ | refine tLd ?_); simp only [Act.put, zq1, zq2, zq3]))
      go_ret
      exact RetV.mk hL (congrArg Value.bool E.out.symm)

def AscP (xs : List Int) : Prop := ∀ (j : Nat) (x y : Int), xs[j]? = some x → xs[j + 1]? = some y → x < y
theorem AscP.lt {xs : List Int} (h : AscP xs) : ∀ (d j : Nat) (x y : Int), xs[j]? = some x → xs[j + d + 1]? = some y → x < y := by
  intro d
  induction d with
  | zero => intro j x y hx hy; exact h j x y hx hy
  | succ d ih =>
    intro j x y hx hy
    have hl := (List.getElem?_eq_some_iff.1 hy).1
    obtain ⟨z, hz⟩ : ∃ z, xs[j + d + 1]? = some z := ⟨_, List.getElem?_eq_getElem (by omega)⟩
    have h1 := ih j x z hx hz
    have h2 := h (j + d + 1) z y hz (by rw [show j + d + 1 + 1 = j + (d + 1) + 1 by omega]; exact hy)
    omega

set_option maxRecDepth 100000 in
set_option maxHeartbeats 8000000 in
theorem r_ascT (a : Value) (xs : List Int) (w m : World) (hV : Vw m w) (ha : IntL m a xs) (hl : xs.length ≤ 1000000) (hasc : AscP xs) :
    Calls Tryz.prog 140 #[a] w (RetV w m fun _ r => r = .bool true) := by
  obtain ⟨A, c, rfl, hc, ha⟩ := ha.lit
  have HA := Lib.hid hasc
  have hL := Loc.start hV
  clear hV hasc
  generalize hn : xs.length = n at *
  have HN := Lib.hid hn
  clear hn
  go_enter Tryz.func140, Tryz.ntmps140
  go_wp2_with (first | ((with_reducible refine kAny ?_); go_skip) | (with_reducible refine stA ?_) | ((first | refine tIx ?_ | refine tLd ?_); simp only [Act.put, zq1, zq2, zq3]))
  go_loopw [3] (fun i wr => ∃ (k : Nat) (mm : World), k ≤ n ∧ i = .int .i64 ((k : Int) + 1) ∧ Loc w m wr mm []) (fun i _ => n + 1 - (intOf i).toNat)
  case atStart => exact ⟨0, m, Nat.zero_le _, rfl, hL⟩
  case round =>
    clear hL
    obtain ⟨k, mm, hk, rfl, hL⟩ := hrel
    have hM := hL.mext
    by_cases hlt : k + 1 < n
    · obtain ⟨x, hx⟩ := at_some HN (show k < n by omega)
      obtain ⟨y, hy⟩ := at_some HN hlt
      obtain ⟨b1, o1, rfl, hc1⟩ := IntL.at_ ha hx
      obtain ⟨b2, o2, e2, hc2⟩ := IntL.at_ ha hy
      obtain ⟨rfl, rfl⟩ : b1 = b2 ∧ o1 = o2 := by simpa using e2
      have hxy : x < y := HA.out k x y hx hy
      have hkn : k < n := by omega
      have e3 : ((k : Int) + 1) = ((k + 1 : Nat) : Int) := by omega
      rw [e3]
      clear hx hy e2 e3 hk
      obtain ⟨k1, hk1⟩ : ∃ k1, k1 = k + 1 := ⟨_, rfl⟩
      rw [← hk1] at hc2 hlt ⊢
      have e1 : (k1 : Int) - 1 = (k : Int) := by omega
      have e4 : wrap64 ((k1 : Int) - 1) = (k : Int) := by unfold wrap64; omega
      have HK := Lib.hid hk1
      have HXY := Lib.hid hxy
      clear hk1 hxy
      go_upto_region 4 with ((first | ((with_reducible refine kAny ?_); go_skip) | (with_reducible refine stA ?_) | ((first | refine tIx ?_ | refine tLd ?_); simp only [Act.put, zq1, zq2, zq3])))
      (try simp only [eq_self] at *)
      refine wp_region_by2 10 [false, false, false, false, false, false, false, false, false, false] [false, false, false, false, false, false, false, false, false, false] [(fun v _ _ => v = ?c4_0), (fun v _ _ => v = ?c4_1), (fun v _ _ => v = ?c4_2), (fun v _ _ => v = ?c4_3), (fun v _ _ => v = ?c4_4), (fun v _ _ => v = ?c4_5), (fun v _ _ => v = ?c4_6), (fun v _ _ => v = ?c4_7), (fun v _ _ => v = ?c4_8), (fun v _ _ => v = ?c4_9)] hL.vw mixed [10, 11, 12, 13, 14, 15, 16, 17, 18, 19] _ (by kernel_rfl) (fun vs => by simp only [lay, Act.put, zq1, zq2, zq3]; rfl) (by kernel_rfl) (by decide) (by decide) ?s4 ?l4 ?r4
      case s4 =>
        refine ⟨?_, ?_, ?_, ?_, ?_, ?_, ?_, ?_, ?_, ?_, trivial⟩
        · intro vs W1 m1 hE hM hV hD; clear hD; replace hL := hL.call hE hM hV
          exact sPu
        · intro vs W1 m1 hE hM hV hD; clear hD; replace hL := hL.call hE hM hV
          exact sPu
        · intro vs W1 m1 hE hM hV hD; obtain ⟨⟨_, _, -, -, f10⟩, ⟨_, _, -, -, f11⟩, -⟩ := hD; have f10 : vs 10 = _ := f10; generalize vs 10 = x10 at f10 ⊢; subst x10; have f11 : vs 11 = _ := f11; generalize vs 11 = x11 at f11 ⊢; subst x11; replace hL := hL.call hE hM hV
          exact sIx
        · intro vs W1 m1 hE hM hV hD; obtain ⟨⟨_, _, -, -, f12⟩, -⟩ := hD; have f12 : vs 12 = _ := f12; generalize vs 12 = x12 at f12 ⊢; subst x12; replace hL := hL.call hE hM hV
          exact sLd
        · intro vs W1 m1 hE hM hV hD; clear hD; replace hL := hL.call hE hM hV
          exact sPu
        · intro vs W1 m1 hE hM hV hD; clear hD; replace hL := hL.call hE hM hV
          exact sPu
        · intro vs W1 m1 hE hM hV hD; obtain ⟨⟨_, _, -, -, f15⟩, -⟩ := hD; have f15 : vs 15 = _ := f15; generalize vs 15 = x15 at f15 ⊢; subst x15; replace hL := hL.call hE hM hV
          exact sPu
        · intro vs W1 m1 hE hM hV hD; obtain ⟨⟨_, _, -, -, f14⟩, ⟨_, _, -, -, f16⟩, -⟩ := hD; have f14 : vs 14 = _ := f14; generalize vs 14 = x14 at f14 ⊢; subst x14; have f16 : vs 16 = _ := f16; generalize vs 16 = x16 at f16 ⊢; subst x16; replace hL := hL.call hE hM hV
          exact sIx
        · intro vs W1 m1 hE hM hV hD; obtain ⟨⟨_, _, -, -, f17⟩, -⟩ := hD; have f17 : vs 17 = _ := f17; generalize vs 17 = x17 at f17 ⊢; subst x17; replace hL := hL.call hE hM hV
          exact sLd
        · intro vs W1 m1 hE hM hV hD; obtain ⟨⟨_, _, -, -, f13⟩, ⟨_, _, -, -, f18⟩, -⟩ := hD; have f13 : vs 13 = _ := f13; generalize vs 13 = x13 at f13 ⊢; subst x13; have f18 : vs 18 = _ := f18; generalize vs 18 = x18 at f18 ⊢; subst x18; replace hL := hL.call hE hM hV
          exact sPu
      case l4 =>
        refine ⟨fun h => (by cases h), fun h => (by cases h), fun h => (by cases h), fun h => (by cases h), fun h => (by cases h), fun h => (by cases h), fun h => (by cases h), fun h => (by cases h), fun h => (by cases h), fun h => (by cases h), trivial⟩
      intro vs W1 m1 hE hM hV hF hD
      clear hD
      obtain ⟨⟨_, _, -, -, f10⟩, ⟨_, _, -, -, f11⟩, ⟨_, _, -, -, f12⟩, ⟨_, _, -, -, f13⟩, ⟨_, _, -, -, f14⟩, ⟨_, _, -, -, f15⟩, ⟨_, _, -, -, f16⟩, ⟨_, _, -, -, f17⟩, ⟨_, _, -, -, f18⟩, ⟨_, _, -, -, f19⟩, -⟩ := hF
      replace hL := hL.call hE hM hV
      have f10 : vs 10 = _ := f10
      generalize vs 10 = x10 at f10 ⊢
      subst x10
      have f11 : vs 11 = _ := f11
      generalize vs 11 = x11 at f11 ⊢
      subst x11
      have f12 : vs 12 = _ := f12
      generalize vs 12 = x12 at f12 ⊢
      subst x12
      have f13 : vs 13 = _ := f13
      generalize vs 13 = x13 at f13 ⊢
      subst x13
      have f14 : vs 14 = _ := f14
      generalize vs 14 = x14 at f14 ⊢
      subst x14
      have f15 : vs 15 = _ := f15
      generalize vs 15 = x15 at f15 ⊢
      subst x15
      have f16 : vs 16 = _ := f16
      generalize vs 16 = x16 at f16 ⊢
      subst x16
      have f17 : vs 17 = _ := f17
      generalize vs 17 = x17 at f17 ⊢
      subst x17
      have f18 : vs 18 = _ := f18
      generalize vs 18 = x18 at f18 ⊢
      subst x18
      have f19 : vs 19 = _ := f19
      generalize vs 19 = x19 at f19 ⊢
      subst x19
      clear hE hV
      simp only [List.drop_succ_cons, List.drop_zero]
      go_wp2_with (first | ((with_reducible refine kAny ?_); go_skip) | (with_reducible refine stA ?_) | ((first | refine tIx ?_ | refine tLd ?_); simp only [Act.put, zq1, zq2, zq3]))
      refine QN.mk ?_
      have hxy : ¬ y ≤ x := by have := HXY.out; omega
      go_wp2_with (first | ((with_reducible refine kAny ?_); go_skip) | (with_reducible refine stA ?_) | ((first | refine tIx ?_ | refine tLd ?_); simp only [Act.put, zq1, zq2, zq3]))
      go_roundw
      case rel => exact ⟨k1, _, by omega, by go_num, hL⟩
      case measure => have := HK.out; simp [intOf] <;> omega
    · have h0 : ¬ (k : Int) + 1 < (n : Int) := by omega
      go_wp2_with (first | ((with_reducible refine kAny ?_); go_skip) | (with_reducible refine stA ?_) | ((first | refine tIx ?_ | refine tLd ?_); simp only [Act.put, zq1, zq2, zq3]))
      go_ret
      exact RetV.mk hL rfl
end Go.Proofs.YtmhkmmmompediaaGreat

/- Contracts of slices.Index, Contains, BinarySearch and cmp.Less for int. -/
namespace Go.Proofs.YtmhkmmmompediaaGreat
open Go.RowKit

set_option maxRecDepth 100000 in
set_option maxHeartbeats 8000000 in
theorem s_Index (a : Value) (xs : List Int) (t : Int) (w m : World) (hV : Vw m w) (ha : IntL m a xs) (hl : xs.length ≤ 1000000) :
    Calls Tryz.prog 132 #[a, .int .i64 t] w (RetV w m fun _ r => ∃ z : Int, r = .int .i64 z ∧ decide (z ≥ 0) = decide (t ∈ xs)) := by
  obtain ⟨A, c, rfl, hc, ha⟩ := ha.lit
  have hL := Loc.start hV
  clear hV
  generalize hn : xs.length = n at *
  have HN := Lib.hid hn
  clear hn
  go_enter Tryz.func132, Tryz.ntmps132
  go_wp2_with (first | ((with_reducible refine kAny ?_); go_skip) | (with_reducible refine stA ?_) | ((first | refine tIx ?_ | refine tLd ?_); simp only [Act.put, zq1, zq2, zq3]))
  go_loopw [8] (fun i wr => ∃ (k : Nat) (mm : World), k ≤ n ∧ i = .int .i64 k ∧ Loc w m wr mm [] ∧ Hid (∀ j, j < k → xs[j]? ≠ some t)) (fun i _ => n - (intOf i).toNat)
  case atStart => exact ⟨0, m, Nat.zero_le _, rfl, hL, fun j hj => by omega⟩
  case round =>
    clear hL
    obtain ⟨k, mm, hk, rfl, hL, HJ⟩ := hrel
    have hM := hL.mext
    by_cases hlt : k < n
    · obtain ⟨x, hx⟩ := at_some HN hlt
      obtain ⟨b1, o1, rfl, hc1⟩ := IntL.at_ ha hx
      by_cases he : x = t
      · have E : Hid (decide (((k : Int)) ≥ 0) = decide (t ∈ xs)) := by
          show _ = _
          rw [decide_eq_true (show (k : Int) ≥ 0 by omega), decide_eq_true (he ▸ List.mem_of_getElem? hx)]
        have bb : (t == x) = true := by simp [he]
        clear hx he
        go_wp2_with (first | ((with_reducible refine kAny ?_); go_skip) | (with_reducible refine stA ?_) | ((first | refine tIx ?_ | refine tLd ?_); simp only [Act.put, zq1, zq2, zq3]))
        go_ret
        exact RetV.mk hL ⟨_, rfl, E.out⟩
      · have bb : (t == x) = false := by simp; exact fun h => he h.symm
        have HS := Lib.hid (has_step HJ.out hx he)
        clear hx he
        go_wp2_with (first | ((with_reducible refine kAny ?_); go_skip) | (with_reducible refine stA ?_) | ((first | refine tIx ?_ | refine tLd ?_); simp only [Act.put, zq1, zq2, zq3]))
        go_roundw
        case rel => exact ⟨k + 1, _, by omega, by go_num, hL, HS.out⟩
        case measure => simp [intOf] <;> omega
    · have E : Hid (decide ((-1 : Int) ≥ 0) = decide (t ∈ xs)) := by
        show _ = _
        rw [has_end HN.out hlt HJ.out]; rfl
      go_wp2_with (first | ((with_reducible refine kAny ?_); go_skip) | (with_reducible refine stA ?_) | ((first | refine tIx ?_ | refine tLd ?_); simp only [Act.put, zq1, zq2, zq3]))
      go_ret
      exact RetV.mk hL ⟨_, rfl, E.out⟩

set_option maxRecDepth 100000 in
set_option maxHeartbeats 8000000 in
theorem s_Contains (a : Value) (xs : List Int) (t : Int) (w m : World) (hV : Vw m w) (ha : IntL m a xs) (hl : xs.length ≤ 1000000) :
    Calls Tryz.prog 70 #[a, .int .i64 t] w (RetV w m fun _ r => r = .bool (decide (t ∈ xs))) := by
  obtain ⟨A, c, rfl, hc, ha⟩ := ha.lit
  have HA := Lib.hid ha
  have HL := Lib.hid hl
  have hL := Loc.start hV
  clear hV ha hl
  generalize hn : xs.length = n at *
  have HN := Lib.hid hn
  clear hn
  go_enter Tryz.func70, Tryz.ntmps70
  go_wp2_with ((with_reducible refine kAny ?_); go_skip)
  refine (s_Index _ xs t _ _ hL.vw (IntL.le HA.out leX) (by rw [HN.out]; exact HL.out)).mono ?_
  rintro e W1 ⟨_, m1, rfl, hE, hM1, hV, z, rfl, hz⟩
  replace hL := hL.call hE (by assumption) hV; clear hE hV
  have HZ := Lib.hid hz
  clear hz
  go_wp2_with ((with_reducible refine kAny ?_); go_skip)
  go_ret
  exact RetV.mk hL (congrArg Value.bool HZ.out)

set_option maxRecDepth 100000 in
set_option maxHeartbeats 8000000 in
theorem s_isNaNc (x : Int) (w m : World) (hV : Vw m w) : Calls Tryz.prog 198 #[.int .i64 x] w (RetV w m fun _ r => r = .bool false) := by
  have hL := Loc.start hV
  clear hV
  have bb : (x != x) = false := by simp
  go_enter Tryz.func198, Tryz.ntmps198
  go_wp2_with ((with_reducible refine kAny ?_); go_skip)
  go_ret
  exact RetV.mk hL rfl
set_option maxRecDepth 100000 in
set_option maxHeartbeats 8000000 in
theorem s_isNaN (x : Int) (w m : World) (hV : Vw m w) : Calls Tryz.prog 176 #[.int .i64 x] w (RetV w m fun _ r => r = .bool false) := by
  have hL := Loc.start hV
  clear hV
  have bb : (x != x) = false := by simp
  go_enter Tryz.func176, Tryz.ntmps176
  go_wp2_with ((with_reducible refine kAny ?_); go_skip)
  go_ret
  exact RetV.mk hL rfl
set_option maxRecDepth 100000 in
set_option maxHeartbeats 8000000 in
theorem s_Less (x y : Int) (w m : World) (hV : Vw m w) : Calls Tryz.prog 175 #[.int .i64 x, .int .i64 y] w (RetV w m fun _ r => r = .bool (decide (x < y))) := by
  have hL := Loc.start hV
  clear hV
  go_enter Tryz.func175, Tryz.ntmps175
  go_wp2_with ((with_reducible refine kAny ?_); go_skip)
  refine (s_isNaNc x _ _ hL.vw).mono ?_
  rintro e Wc1 ⟨_, mc1, rfl, hE, hMc1, hV, rfl⟩
  replace hL := hL.call hE (by assumption) hV; clear hE hV
  go_wp2_with ((with_reducible refine kAny ?_); go_skip)
  go_ret
  exact RetV.mk hL rfl

def Bs (xs : List Int) (t : Int) (i j : Nat) : Prop := (∀ p x, p < i → xs[p]? = some x → x < t) ∧ (∀ p x, j ≤ p → xs[p]? = some x → t ≤ x)
theorem Bs.start (xs : List Int) (t : Int) : Bs xs t 0 xs.length := ⟨fun p _ hp => by omega, fun p x hp hx => by have := (List.getElem?_eq_some_iff.1 hx).1; omega⟩
theorem Bs.up {xs : List Int} {t x : Int} {i j h : Nat} (ha : AscP xs) (hb : Bs xs t i j) (hx : xs[h]? = some x) (hl : x < t) : Bs xs t (h + 1) j := by
  refine ⟨fun p y hp hy => ?_, hb.2⟩
  rcases Nat.lt_or_ge p h with h1 | h1
  · have := ha.lt (h - p - 1) p y x hy (by rw [show p + (h - p - 1) + 1 = h by omega]; exact hx)
    omega
  · obtain rfl : p = h := by omega
    rw [hx] at hy
    have := Option.some.inj hy
    omega
theorem Bs.down {xs : List Int} {t x : Int} {i j h : Nat} (ha : AscP xs) (hb : Bs xs t i j) (hx : xs[h]? = some x) (hl : ¬ x < t) : Bs xs t i h := by
  refine ⟨hb.1, fun p y hp hy => ?_⟩
  rcases Nat.lt_or_ge h p with h1 | h1
  · have := ha.lt (p - h - 1) h x y hx (by rw [show h + (p - h - 1) + 1 = p by omega]; exact hy)
    omega
  · obtain rfl : p = h := by omega
    rw [hx] at hy
    have := Option.some.inj hy
    omega
theorem Bs.found {xs : List Int} {t x : Int} {i : Nat} (ha : AscP xs) (hb : Bs xs t i i) (hx : xs[i]? = some x) : decide (t ∈ xs) = decide (x = t) := by
  by_cases he : x = t
  · rw [decide_eq_true he, decide_eq_true (he ▸ List.mem_of_getElem? hx)]
  · rw [decide_eq_false he]
    refine decide_eq_false fun hm => ?_
    obtain ⟨p, hp⟩ := List.mem_iff_getElem?.1 hm
    rcases Nat.lt_trichotomy p i with h | h | h
    · have := hb.1 p t h hp; omega
    · subst h; rw [hx] at hp; exact he (Option.some.inj hp)
    · have h1 := hb.2 i x (Nat.le_refl _) hx
      have h2 := ha.lt (p - i - 1) i x t hx (by rw [show i + (p - i - 1) + 1 = p by omega]; exact hp)
      omega
theorem Bs.none {xs : List Int} {t : Int} {i n : Nat} (hb : Bs xs t i i) (hn : xs.length = n) (hi : ¬ i < n) : decide (t ∈ xs) = false := by
  refine decide_eq_false fun hm => ?_
  obtain ⟨p, hp⟩ := List.mem_iff_getElem?.1 hm
  have := (List.getElem?_eq_some_iff.1 hp).1
  have := hb.1 p t (by omega) hp
  omega
set_option maxRecDepth 100000 in
set_option maxHeartbeats 8000000 in
theorem s_BinarySearch (a : Value) (xs : List Int) (t : Int) (w m : World) (hV : Vw m w) (ha : IntL m a xs) (hl : xs.length ≤ 1000000) (hasc : AscP xs) :
    Calls Tryz.prog 130 #[a, .int .i64 t] w (RetV w m fun _ r => ∃ i : Nat, r = .tuple #[.int .i64 i, .bool (decide (t ∈ xs))] ∧ (t ∈ xs → xs[i]? = some t)) := by
  obtain ⟨A, c, rfl, hc, ha⟩ := ha.lit
  have HA := Lib.hid hasc
  have HS := Lib.hid (Bs.start xs t)
  have hL := Loc.start hV
  clear hV hasc
  generalize hn : xs.length = n at *
  have HN := Lib.hid hn
  clear hn
  go_enter Tryz.func130, Tryz.ntmps130
  go_wp2_with (first | ((with_reducible refine kAny ?_); go_skip) | (with_reducible refine stA ?_) | ((first | refine tIx ?_ | refine tLd ?_); simp only [Act.put, zq1, zq2, zq3]))
  go_loopw [7, 8] (fun si sj wr => ∃ (i j : Nat) (mm : World), i ≤ j ∧ j ≤ n ∧ si = .int .i64 i ∧ sj = .int .i64 j ∧ Loc w m wr mm [] ∧ Hid (Bs xs t i j)) (fun si sj _ => (intOf sj).toNat - (intOf si).toNat)
  case atStart => exact ⟨0, n, m, Nat.zero_le _, Nat.le_refl _, rfl, rfl, hL, HS⟩
  case round =>
    clear hL HS
    obtain ⟨i, j, mm, hij, hj, rfl, rfl, hL, HB⟩ := hrel
    have hM := hL.mext
    by_cases hlt : i < j
    · have h1 : i ≤ (i + j) / 2 := by omega
      have h2 : (i + j) / 2 < j := by omega
      obtain ⟨x, hx⟩ := at_some HN (show (i + j) / 2 < n by omega)
      obtain ⟨b1, o1, rfl, hc1⟩ := IntL.at_ ha hx
      have HX := Lib.hid hx
      clear hx
      go_wp2_with (first | ((with_reducible refine kAny ?_); go_skip) | (with_reducible refine stA ?_) | ((first | refine tIx ?_ | refine tLd ?_); simp only [Act.put, zq1, zq2, zq3]))
      refine (s_Less x t _ _ hL.vw).mono ?_
      rintro e Wc1 ⟨_, mc1, rfl, hE, hMc1, hV, rfl⟩
      replace hL := hL.call hE (by assumption) hV; clear hE hV
      by_cases hc : x < t
      · have HU := Lib.hid (HB.out.up HA.out HX.out hc)
        rw [decide_eq_true hc]
        clear hc
        go_wp2_with (first | ((with_reducible refine kAny ?_); go_skip) | (with_reducible refine stA ?_) | ((first | refine tIx ?_ | refine tLd ?_); simp only [Act.put, zq1, zq2, zq3]))
        go_roundw
        case rel => exact ⟨(i + j) / 2 + 1, j, _, by omega, hj, by go_num, rfl, hL, HU⟩
        case measure => simp [intOf] <;> omega
      · have HU := Lib.hid (HB.out.down HA.out HX.out hc)
        rw [decide_eq_false hc]
        clear hc
        go_wp2_with (first | ((with_reducible refine kAny ?_); go_skip) | (with_reducible refine stA ?_) | ((first | refine tIx ?_ | refine tLd ?_); simp only [Act.put, zq1, zq2, zq3]))
        go_roundw
        case rel => exact ⟨i, (i + j) / 2, _, by omega, by omega, rfl, by go_num, hL, HU⟩
        case measure => simp [intOf] <;> omega
    · obtain rfl : i = j := by omega
      by_cases hin : i < n
      · obtain ⟨x, hx⟩ := at_some HN hin
        obtain ⟨b1, o1, rfl, hc1⟩ := IntL.at_ ha hx
        have HF := Lib.hid (HB.out.found HA.out hx)
        by_cases he : x = t
        · have bb : (x == t) = true := by simp [he]
          have E : Hid (decide (t ∈ xs) = true ∧ (t ∈ xs → xs[i]? = some t)) := ⟨by rw [HF.out, decide_eq_true he], fun _ => by rw [hx, he]⟩
          clear hx he HF
          go_wp2_with (first | ((with_reducible refine kAny ?_); go_skip) | (with_reducible refine stA ?_) | ((first | refine tIx ?_ | refine tLd ?_); simp only [Act.put, zq1, zq2, zq3]))
          go_ret2
          exact RetV.mk hL ⟨i, by rw [E.out.1]; rfl, E.out.2⟩
        · have bb : (x == t) = false := by simp [he]
          have E : Hid (decide (t ∈ xs) = false) := by show _ = _; rw [HF.out, decide_eq_false he]
          clear hx he HF
          go_wp2_with (first | ((with_reducible refine kAny ?_); go_skip) | (with_reducible refine stA ?_) | ((first | refine tIx ?_ | refine tLd ?_); simp only [Act.put, zq1, zq2, zq3]))
          refine (s_isNaN x _ _ hL.vw).mono ?_
          rintro e Wc2 ⟨_, mc2, rfl, hE, hMc2, hV, rfl⟩
          replace hL := hL.call hE (by assumption) hV; clear hE hV
          go_wp2_with (first | ((with_reducible refine kAny ?_); go_skip) | (with_reducible refine stA ?_) | ((first | refine tIx ?_ | refine tLd ?_); simp only [Act.put, zq1, zq2, zq3]))
          go_ret2
          exact RetV.mk hL ⟨i, by rw [E.out]; rfl, fun h => by rw [decide_eq_true h] at E; cases E.out⟩
      · have E := Lib.hid (HB.out.none HN.out hin)
        go_wp2_with (first | ((with_reducible refine kAny ?_); go_skip) | (with_reducible refine stA ?_) | ((first | refine tIx ?_ | refine tLd ?_); simp only [Act.put, zq1, zq2, zq3]))
        go_ret2
        exact RetV.mk hL ⟨i, by rw [E.out]; rfl, fun h => by have := E.out; rw [decide_eq_true h] at this; cases this⟩
end Go.Proofs.YtmhkmmmompediaaGreat

/- Contracts of enumerate.Operated and pairingref27.Operated. -/
namespace Go.Proofs.YtmhkmmmompediaaGreat
open Go.RowKit

theorem zc_Task : zc Tryz.prog 111 = some #[.int .i64 0, .bool false] := by kernel_rfl
instance iAB3_1 : ZcC Tryz.prog 111 #[.int .i64 0, .bool false] := ⟨zc_Task⟩
theorem fd_Task0 : fdS Tryz.prog 111 0 = some 0 := by kernel_rfl
instance iAB3_2 : FdC Tryz.prog 111 0 0 := ⟨fd_Task0⟩
theorem fd_Task1 : fdS Tryz.prog 111 1 = some 1 := by kernel_rfl
instance iAB3_3 : FdC Tryz.prog 111 1 1 := ⟨fd_Task1⟩
theorem fd_Pair1 : fdS Tryz.prog 70 1 = some 1 := by kernel_rfl
instance iAB3_4 : FdC Tryz.prog 70 1 1 := ⟨fd_Pair1⟩
theorem lf_Duties : lfB Tryz.prog 68 = true := by kernel_rfl
instance iAB3_5 : LfC Tryz.prog 68 := ⟨lf_Duties⟩
theorem lf_Duty : lfB Tryz.prog 113 = true := by kernel_rfl
instance iAB3_6 : LfC Tryz.prog 113 := ⟨lf_Duty⟩
theorem ag_Pair : agS Tryz.prog 70 = some 2 := by kernel_rfl
instance iAB3_7 : AgC Tryz.prog 70 2 := ⟨ag_Pair⟩
theorem fd_Col0 : fdS Tryz.prog 72 0 = some 0 := by kernel_rfl
instance iAB3_8 : FdC Tryz.prog 72 0 0 := ⟨fd_Col0⟩
theorem fd_Col1 : fdS Tryz.prog 72 1 = some 2 := by kernel_rfl
instance iAB3_9 : FdC Tryz.prog 72 1 2 := ⟨fd_Col1⟩

def opT (ts : List Task) : List Int := ts.filterMap fun t => if t.2 then none else some t.1
def opF (ds : List (List Task)) : List Int := ds.flatMap opT
theorem opT_len (ts : List Task) : (opT ts).length ≤ ts.length := List.length_filterMap_le _ _
theorem opT_in {ts : List Task} {j : Nat} {x : Int} (h : ts[j]? = some (x, false)) : opT (ts.take (j + 1)) = opT (ts.take j) ++ [x] := by
  rw [← take_snoc h]; simp [opT, List.filterMap_append]
theorem opT_out {ts : List Task} {j : Nat} {x : Int} (h : ts[j]? = some (x, true)) : opT (ts.take (j + 1)) = opT (ts.take j) := by
  rw [← take_snoc h]; simp [opT, List.filterMap_append]
theorem opF_next {ds : List (List Task)} {k : Nat} {d : List Task} (h : ds[k]? = some d) : opF (ds.take (k + 1)) = opF (ds.take k) ++ opT d := by
  rw [← take_snoc h]; simp [opF, List.flatMap_append]
theorem opF_len {ds : List (List Task)} (h : ∀ d ∈ ds, d.length ≤ 100) : (opF ds).length ≤ 100 * ds.length := by
  induction ds with
  | nil => simp [opF]
  | cons d ds ih =>
    have h1 := ih fun x hx => h x (List.mem_cons_of_mem _ hx)
    have h2 := opT_len d
    have h3 := h d (by simp)
    simp only [opF, List.flatMap_cons, List.length_append, List.length_cons] at *
    omega
theorem opF_take {ds : List (List Task)} (h : ∀ d ∈ ds, d.length ≤ 100) (k : Nat) (hk : k ≤ 100) : (opF (ds.take k)).length ≤ 10000 := by
  have h1 := opF_len (ds := ds.take k) fun d hd => h d (List.mem_of_mem_take hd)
  have h2 : (ds.take k).length ≤ k := by simp; omega
  omega
theorem DutsL.at_ {m : World} {A : Option Addr} {n c : Nat} {ds : List (List Task)} (h : DutsL m (.slice A n c) ds) {k : Nat} {d : List Task} (hk : ds[k]? = some d) :
    ∃ b off A' c', A = some ⟨b, off, none⟩ ∧ DutL m (.slice A' d.length c') d ∧ m.cell? ⟨b, off + k, none⟩ = some (.slice A' d.length c') := by
  obtain ⟨b, off, v, e, hv, _, hr⟩ := ListV.at_ h (by omega) hk
  obtain ⟨A', c', rfl, _, hv⟩ := hv.lit
  exact ⟨b, off, A', c', e, hv, by simpa using hr 0 _ rfl⟩
theorem DutL.at_ {m : World} {A : Option Addr} {n c : Nat} {ts : List Task} (h : DutL m (.slice A n c) ts) {k : Nat} {x : Int} {g : Bool} (hk : ts[k]? = some (x, g)) :
    ∃ b off, A = some ⟨b, off, none⟩ ∧ m.rangeAt b (off + k * 2) [.int .i64 x, .bool g] := by
  obtain ⟨b, off, v, e, rfl, _, hr⟩ := ListV.at_ h (by omega) hk
  exact ⟨b, off, e, hr⟩
theorem isI_mono (m m' : World) (v : Value) (x : Int) (h : IsI m v x) (_ : Le m m') : IsI m' v x := h

set_option maxRecDepth 100000 in
set_option maxHeartbeats 16000000 in
theorem e_Operated (s : ByteArray) (v : Value) (ds : List (List Task)) (w m : World) (hV : Vw m w) (h : DutsL m v ds) (h1 : ds.length ≤ 100) (h2 : ∀ d ∈ ds, d.length ≤ 100) :
    Calls Tryz.prog 129 #[.agg #[.string s, v]] w (RetV w m fun m' r => IntL m' r (opF ds)) := by
  obtain ⟨D, cd, rfl, hcd, h⟩ := h.lit
  have H2 := Lib.hid h2
  have hL := Loc.start hV
  clear hV h2
  generalize hq : ds.length = nd at *
  have HQ := Lib.hid hq
  clear hq
  go_enter Tryz.func129, Tryz.ntmps129
  go_upto_region 0 with (fail)
  refine wp_region_lit ?_
  refine t_box hL rfl rfl ?_; clear hL; intro Wh1 mh1 hL eh1; simp only [Act.put, zq1, zq2, zq3]
  go_wp2_with (first | ((with_reducible refine kAny ?_); go_skip) | (with_reducible refine stA ?_) | ((first | refine tIx ?_ | refine tFd ?_ | refine tLd ?_ | ((first | refine tSr ?_ | refine tSt ?_); clear hL; intro _ hL; simp only [splice, zq1, zq2, zq3] at hL) | ((first | refine tBx ?_ | refine tAl ?_); clear hL; intro _ _ hL _) | (refine tBs ?_; clear hL; intro _ _ hL _ hBs)); simp only [Act.put, zq1, zq2, zq3]))
  go_loopw [3, 11] (fun out i wr => ∃ (k : Nat) (mm : World) (n3 : Nat) (R3 : List Lo), k ≤ nd ∧ i = .int .i64 k ∧ Loc w m wr mm ((w.heap.size, 70, #[.string s, .slice D nd cd]) :: R3) ∧ Hid (RowA 3 1 IsI mm out n3 (opF (ds.take k)) R3)) (fun _ i _ => nd - (intOf i).toNat)
  case atStart => exact ⟨0, _, 0, [], Nat.zero_le _, rfl, hL, RowA.nil⟩
  case round =>
    clear hL
    obtain ⟨k, mm, n3, R3, hk, rfl, hL, row⟩ := hrel
    have hM := hL.mext
    obtain ⟨A3, c3, rfl, row1⟩ := row.out.lit
    have ROW := Lib.hid row1
    clear row row1
    by_cases hlt : k < nd
    · obtain ⟨d, hd⟩ := at_some HQ hlt
      obtain ⟨b1, o1, A4, c4, rfl, hdu, hc1⟩ := DutsL.at_ h hd
      have HD := Lib.hid (opF_next hd)
      have hdl : d.length ≤ 100 := H2.out d (List.mem_of_getElem? hd)
      have HT := Lib.hid (opF_take H2.out k (by omega))
      clear hd
      generalize hq2 : d.length = nt at *
      have HQ2 := Lib.hid hq2
      clear hq2
      go_wp2_with (first | ((with_reducible refine kAny ?_); go_skip) | (with_reducible refine stA ?_) | ((first | refine tIx ?_ | refine tFd ?_ | refine tLd ?_ | ((first | refine tSr ?_ | refine tSt ?_); clear hL; intro _ hL; simp only [splice, zq1, zq2, zq3] at hL) | ((first | refine tBx ?_ | refine tAl ?_); clear hL; intro _ _ hL _) | (refine tBs ?_; clear hL; intro _ _ hL _ hBs)); simp only [Act.put, zq1, zq2, zq3]))
      go_loopw [3, 17] (fun out i wr => ∃ (j : Nat) (m2 : World) (n4 : Nat) (R4 : List Lo), j ≤ nt ∧ i = .int .i64 j ∧ Loc w m wr m2 ((w.heap.size, 70, #[.string s, .slice (some ⟨b1, o1, none⟩) nd cd]) :: R4) ∧ Hid (RowA 3 1 IsI m2 out n4 (opF (ds.take k) ++ opT (d.take j)) R4)) (fun _ i _ => nt - (intOf i).toNat)
      case atStart => exact ⟨0, mm, n3, R3, Nat.zero_le _, rfl, hL, by show RowA _ _ _ _ _ _ _ _; simpa [opT] using ROW.out⟩
      case round =>
        clear hL ROW hM
        obtain ⟨j, m2, n4, R4, hj, rfl, hL, row⟩ := hrel
        have hM := hL.mext
        obtain ⟨A5, c5, rfl, row1⟩ := row.out.lit
        have hn4 : n4 ≤ 10100 := by
          have e := row1.len
          rw [List.length_append] at e
          have := HT.out
          have := opT_len (d.take j)
          have : (d.take j).length ≤ j := by simp; omega
          omega
        have ROW := Lib.hid row1
        clear row row1
        by_cases hlt2 : j < nt
        · obtain ⟨⟨x, g⟩, hx⟩ := at_some HQ2 hlt2
          obtain ⟨b2, o2, rfl, hr2⟩ := DutL.at_ hdu hx
          cases g
          · have HS := Lib.hid (opT_in hx)
            clear hx
            go_wp2_with (first | ((with_reducible refine kAny ?_); go_skip) | (with_reducible refine stA ?_) | ((first | refine tIx ?_ | refine tFd ?_ | refine tLd ?_ | ((first | refine tSr ?_ | refine tSt ?_); clear hL; intro _ hL; simp only [splice, zq1, zq2, zq3] at hL) | ((first | refine tBx ?_ | refine tAl ?_); clear hL; intro _ _ hL _) | (refine tBs ?_; clear hL; intro _ _ hL _ hBs)); simp only [Act.put, zq1, zq2, zq3]))
            refine goA ?_
            obtain ⟨vs7, r7, z7, y7, l7⟩ := ROW.out
            refine wl_append (A := [_, _]) hL r7 (wanted_none rfl) rfl ap_ints (by omega) rfl rfl (news := [.int .i64 x]) rfl ((Blk.sl hBs (n := 1) rfl).le hL.vw.le) rfl (by omega) (by omega) ?_
            clear hL
            intro v1 W5 m5 R5 hL r8 e8
            obtain ⟨A9, c9, rfl, -⟩ := r8.lit
            simp only [List.cons_append, List.nil_append] at hL
            have rd2 := RowA.snocV (R := IsI) (m := m5) (x := x) r8 z7 (y7.mono fun _ _ hv => hv) l7 rfl rfl rfl
            simp only [Act.put, zq1, zq2, zq3]
            go_wp2_with (first | ((with_reducible refine kAny ?_); go_skip) | (with_reducible refine stA ?_) | ((first | refine tIx ?_ | refine tFd ?_ | refine tLd ?_ | ((first | refine tSr ?_ | refine tSt ?_); clear hL; intro _ hL; simp only [splice, zq1, zq2, zq3] at hL) | ((first | refine tBx ?_ | refine tAl ?_); clear hL; intro _ _ hL _) | (refine tBs ?_; clear hL; intro _ _ hL _ hBs)); simp only [Act.put, zq1, zq2, zq3]))
            go_roundw
            case rel => exact ⟨j + 1, m5, n4 + 1, R5, by omega, by go_num, hL.tail, by rw [HS.out, ← List.append_assoc]; exact rd2⟩
            case measure => simp [intOf] <;> omega
          · have HS := Lib.hid (opT_out hx)
            clear hx
            go_wp2_with (first | ((with_reducible refine kAny ?_); go_skip) | (with_reducible refine stA ?_) | ((first | refine tIx ?_ | refine tFd ?_ | refine tLd ?_ | ((first | refine tSr ?_ | refine tSt ?_); clear hL; intro _ hL; simp only [splice, zq1, zq2, zq3] at hL) | ((first | refine tBx ?_ | refine tAl ?_); clear hL; intro _ _ hL _) | (refine tBs ?_; clear hL; intro _ _ hL _ hBs)); simp only [Act.put, zq1, zq2, zq3]))
            go_roundw
            case rel => exact ⟨j + 1, _, n4, R4, by omega, by go_num, hL.tail, by rw [HS.out]; exact RowA.le isI_mono ROW.out leX⟩
            case measure => simp [intOf] <;> omega
        · have E : Hid (opF (ds.take k) ++ opT (d.take j) = opF (ds.take (k + 1))) := by
            show _ = _
            rw [HD.out, List.take_of_length_le (l := d) (by rw [HQ2.out]; omega)]
          go_wp2_with (first | ((with_reducible refine kAny ?_); go_skip) | (with_reducible refine stA ?_) | ((first | refine tIx ?_ | refine tFd ?_ | refine tLd ?_ | ((first | refine tSr ?_ | refine tSt ?_); clear hL; intro _ hL; simp only [splice, zq1, zq2, zq3] at hL) | ((first | refine tBx ?_ | refine tAl ?_); clear hL; intro _ _ hL _) | (refine tBs ?_; clear hL; intro _ _ hL _ hBs)); simp only [Act.put, zq1, zq2, zq3]))
          go_roundw
          case rel => exact ⟨k + 1, m2, n4, R4, by omega, by go_num, hL, by rw [← E.out]; exact ROW.out⟩
          case measure => simp [intOf] <;> omega
    · have E : Hid (opF (ds.take k) = opF ds) := by show _ = _; rw [List.take_of_length_le (by rw [HQ.out]; omega)]
      go_wp2_with (first | ((with_reducible refine kAny ?_); go_skip) | (with_reducible refine stA ?_) | ((first | refine tIx ?_ | refine tFd ?_ | refine tLd ?_ | ((first | refine tSr ?_ | refine tSt ?_); clear hL; intro _ hL; simp only [splice, zq1, zq2, zq3] at hL) | ((first | refine tBx ?_ | refine tAl ?_); clear hL; intro _ _ hL _) | (refine tBs ?_; clear hL; intro _ _ hL _ hBs)); simp only [Act.put, zq1, zq2, zq3]))
      have row2 := ROW.out
      rw [E.out] at row2
      obtain ⟨m9, hL9, hle9, hl9, -⟩ := RowA.show (A := [_]) isI_mono hL row2
      go_ret
      exact RetV.mk hL9 hl9

set_option maxRecDepth 100000 in
set_option maxHeartbeats 16000000 in
theorem r_Operated (s : ByteArray) (v : Value) (ds : List (List Task)) (w m : World) (hV : Vw m w) (h : DutsL m v ds) (h1 : ds.length ≤ 100) (h2 : ∀ d ∈ ds, d.length ≤ 100) :
    Calls Tryz.prog 43 #[.agg #[.string s, v]] w (RetV w m fun m' r => IntL m' r (opF ds)) := by
  obtain ⟨D, cd, rfl, hcd, h⟩ := h.lit
  have H2 := Lib.hid h2
  have hL := Loc.start hV
  clear hV h2
  generalize hq : ds.length = nd at *
  have HQ := Lib.hid hq
  clear hq
  go_enter Tryz.func43, Tryz.ntmps43
  go_upto_region 0 with (fail)
  refine wp_region_lit ?_
  refine t_box hL rfl rfl ?_; clear hL; intro Wh1 mh1 hL eh1; simp only [Act.put, zq1, zq2, zq3]
  go_wp2_with (first | ((with_reducible refine kAny ?_); go_skip) | (with_reducible refine stA ?_) | ((first | refine tIx ?_ | refine tFd ?_ | refine tLd ?_ | (refine tBx ?_; clear hL; intro _ _ hL _) | (refine tBs ?_; clear hL; intro _ _ hL _ hBs)); simp only [Act.put, zq1, zq2, zq3]))
  go_loopw [3, 4] (fun out i wr => ∃ (k : Nat) (mm : World) (n3 : Nat) (R3 : List Lo), k ≤ nd ∧ i = .int .i64 k ∧ Loc w m wr mm ((w.heap.size, 70, #[.string s, .slice D nd cd]) :: R3) ∧ Hid (RowA 3 1 IsI mm out n3 (opF (ds.take k)) R3)) (fun _ i _ => nd - (intOf i).toNat)
  case atStart => exact ⟨0, _, 0, [], Nat.zero_le _, rfl, hL, RowA.nil⟩
  case round =>
    clear hL
    obtain ⟨k, mm, n3, R3, hk, rfl, hL, row⟩ := hrel
    have hM := hL.mext
    obtain ⟨A3, c3, rfl, row1⟩ := row.out.lit
    have ROW := Lib.hid row1
    clear row row1
    by_cases hlt : k < nd
    · obtain ⟨d, hd⟩ := at_some HQ hlt
      obtain ⟨b1, o1, A4, c4, rfl, hdu, hc1⟩ := DutsL.at_ h hd
      have HD := Lib.hid (opF_next hd)
      have hdl : d.length ≤ 100 := H2.out d (List.mem_of_getElem? hd)
      have HT := Lib.hid (opF_take H2.out k (by omega))
      clear hd
      generalize hq2 : d.length = nt at *
      have HQ2 := Lib.hid hq2
      clear hq2
      go_wp2_with (first | ((with_reducible refine kAny ?_); go_skip) | (with_reducible refine stA ?_) | ((first | refine tIx ?_ | refine tFd ?_ | refine tLd ?_ | (refine tBx ?_; clear hL; intro _ _ hL _) | (refine tBs ?_; clear hL; intro _ _ hL _ hBs)); simp only [Act.put, zq1, zq2, zq3]))
      go_loopw [3, 5] (fun out i wr => ∃ (j : Nat) (m2 : World) (n4 : Nat) (R4 : List Lo), j ≤ nt ∧ i = .int .i64 j ∧ Loc w m wr m2 ((w.heap.size, 70, #[.string s, .slice (some ⟨b1, o1, none⟩) nd cd]) :: R4) ∧ Hid (RowA 3 1 IsI m2 out n4 (opF (ds.take k) ++ opT (d.take j)) R4)) (fun _ i _ => nt - (intOf i).toNat)
      case atStart => exact ⟨0, mm, n3, R3, Nat.zero_le _, rfl, hL, by show RowA _ _ _ _ _ _ _ _; simpa [opT] using ROW.out⟩
      case round =>
        clear hL ROW hM
        obtain ⟨j, m2, n4, R4, hj, rfl, hL, row⟩ := hrel
        have hM := hL.mext
        obtain ⟨A5, c5, rfl, row1⟩ := row.out.lit
        have hn4 : n4 ≤ 10100 := by
          have e := row1.len
          rw [List.length_append] at e
          have := HT.out
          have := opT_len (d.take j)
          have : (d.take j).length ≤ j := by simp; omega
          omega
        have ROW := Lib.hid row1
        clear row row1
        by_cases hlt2 : j < nt
        · obtain ⟨⟨x, g⟩, hx⟩ := at_some HQ2 hlt2
          obtain ⟨b2, o2, rfl, hr2⟩ := DutL.at_ hdu hx
          have hx0 := hr2 0 _ rfl
          have hx1 := hr2 1 _ rfl
          rw [Nat.add_zero] at hx0
          cases g
          · have HS := Lib.hid (opT_in hx)
            clear hx hr2
            go_wp2_with (first | ((with_reducible refine kAny ?_); go_skip) | (with_reducible refine stA ?_) | ((first | refine tIx ?_ | refine tFd ?_ | refine tLd ?_ | (refine tBx ?_; clear hL; intro _ _ hL _) | (refine tBs ?_; clear hL; intro _ _ hL _ hBs)); simp only [Act.put, zq1, zq2, zq3]))
            refine goA ?_
            obtain ⟨vs7, r7, z7, y7, l7⟩ := ROW.out
            refine wl_append (A := [_]) hL r7 (wanted_none rfl) rfl ap_ints (by omega) rfl rfl (news := [.int .i64 x]) rfl ((Blk.sl hBs (n := 1) rfl).le hL.vw.le) rfl (by omega) (by omega) ?_
            clear hL
            intro v1 W5 m5 R5 hL r8 e8
            obtain ⟨A9, c9, rfl, -⟩ := r8.lit
            simp only [List.cons_append, List.nil_append] at hL
            have rd2 := RowA.snocV (R := IsI) (m := m5) (x := x) r8 z7 (y7.mono fun _ _ hv => hv) l7 rfl rfl rfl
            simp only [Act.put, zq1, zq2, zq3]
            go_wp2_with (first | ((with_reducible refine kAny ?_); go_skip) | (with_reducible refine stA ?_) | ((first | refine tIx ?_ | refine tFd ?_ | refine tLd ?_ | (refine tBx ?_; clear hL; intro _ _ hL _) | (refine tBs ?_; clear hL; intro _ _ hL _ hBs)); simp only [Act.put, zq1, zq2, zq3]))
            go_roundw
            case rel => exact ⟨j + 1, m5, n4 + 1, R5, by omega, by go_num, hL, by rw [HS.out, ← List.append_assoc]; exact rd2⟩
            case measure => simp [intOf] <;> omega
          · have HS := Lib.hid (opT_out hx)
            clear hx hr2
            go_wp2_with (first | ((with_reducible refine kAny ?_); go_skip) | (with_reducible refine stA ?_) | ((first | refine tIx ?_ | refine tFd ?_ | refine tLd ?_ | (refine tBx ?_; clear hL; intro _ _ hL _) | (refine tBs ?_; clear hL; intro _ _ hL _ hBs)); simp only [Act.put, zq1, zq2, zq3]))
            go_roundw
            case rel => exact ⟨j + 1, _, n4, R4, by omega, by go_num, hL, by rw [HS.out]; exact ROW.out⟩
            case measure => simp [intOf] <;> omega
        · have E : Hid (opF (ds.take k) ++ opT (d.take j) = opF (ds.take (k + 1))) := by
            show _ = _
            rw [HD.out, List.take_of_length_le (l := d) (by rw [HQ2.out]; omega)]
          go_wp2_with (first | ((with_reducible refine kAny ?_); go_skip) | (with_reducible refine stA ?_) | ((first | refine tIx ?_ | refine tFd ?_ | refine tLd ?_ | (refine tBx ?_; clear hL; intro _ _ hL _) | (refine tBs ?_; clear hL; intro _ _ hL _ hBs)); simp only [Act.put, zq1, zq2, zq3]))
          go_roundw
          case rel => exact ⟨k + 1, m2, n4, R4, by omega, by go_num, hL, by rw [← E.out]; exact ROW.out⟩
          case measure => simp [intOf] <;> omega
    · have E : Hid (opF (ds.take k) = opF ds) := by show _ = _; rw [List.take_of_length_le (by rw [HQ.out]; omega)]
      go_wp2_with (first | ((with_reducible refine kAny ?_); go_skip) | (with_reducible refine stA ?_) | ((first | refine tIx ?_ | refine tFd ?_ | refine tLd ?_ | (refine tBx ?_; clear hL; intro _ _ hL _) | (refine tBs ?_; clear hL; intro _ _ hL _ hBs)); simp only [Act.put, zq1, zq2, zq3]))
      have row2 := ROW.out
      rw [E.out] at row2
      obtain ⟨m9, hL9, hle9, hl9, -⟩ := RowA.show (A := [_]) isI_mono hL row2
      go_ret
      exact RetV.mk hL9 hl9
end Go.Proofs.YtmhkmmmompediaaGreat

/- Sets of numbers as maps to bool, beside the view; contracts of master.validCut and pairingref27.ValidCut for valid cuts. -/
namespace Go.Proofs.YtmhkmmmompediaaGreat
open Go.RowKit Go.Maps

theorem Loc.allocM {w0 m0 W m : World} {Ls : List Lo} (h : Loc w0 m0 W m Ls) (o : Obj) : Loc w0 m0 (W.alloc o) (hidTo m (W.alloc o).heap.size) Ls := by
  have hs : m.heap.size ≤ (W.alloc o).heap.size := by rw [h.vw.size]; simp
  refine ⟨h.size0, h.ext.alloc _, h.mext.trans (hidTo_ext hs), ⟨h.vw.os, h.vw.tape, h.vw.output, hidTo_size hs, fun a u hu => ?_⟩, h.low, fun x hx => (h.blk x hx).alloc _, fun x hx a ha => ?_, h.apart⟩
  · rcases Nat.lt_or_ge a.block m.heap.size with hb | hb
    · rw [cell_of_heap (hidTo_old hb)] at hu
      exact cell_alloc_old (h.vw.cell _ _ hu)
    · rw [hidTo_new hb] at hu; cases hu
  · have hb : a.block < m.heap.size := by rw [ha, h.vw.size]; exact (h.blk x hx).lt
    rw [cell_of_heap (hidTo_old hb)]
    exact h.hid x hx a ha
theorem Loc.mapTurn {w0 m0 W m W' : World} {Ls : List Lo} (h : Loc w0 m0 W m Ls) {b : Nat} (hg : W.grownBy W' (some b)) (hb : w0.heap.size ≤ b) (hm : ∀ cs t fr, W.heap[b]? ≠ some (.cells cs t fr)) : Loc w0 m0 W' (hidTo m W'.heap.size) Ls := by
  have hs : m.heap.size ≤ W'.heap.size := by rw [h.vw.size]; exact hg.size
  refine ⟨h.size0, h.ext.grown hg (fun k hk => by cases hk; exact hb), h.mext.trans (hidTo_ext hs), ⟨h.vw.os.trans hg.os.symm, h.vw.tape.trans hg.tape.symm, h.vw.output.trans hg.output.symm, hidTo_size hs, fun a u hu => ?_⟩, h.low, fun x hx => ?_, fun x hx a ha => ?_, h.apart⟩
  · rcases Nat.lt_or_ge a.block m.heap.size with hlt | hlt
    · rw [cell_of_heap (hidTo_old hlt)] at hu
      have hc := h.vw.cell _ _ hu
      have hne : some a.block ≠ some b := by
        intro e
        have e' := Option.some.inj e
        unfold World.cell? at hc
        cases ho : W.heap[a.block]? with
        | none => rw [ho] at hc; cases hc
        | some ob =>
          rw [ho] at hc
          cases ob with
          | cells cs t fr => exact hm cs t fr (by rw [← e', ho])
          | _ => cases hc
      rw [World.cell?_of_block (hg.block _ (by rw [← h.vw.size]; exact hlt) hne)]
      exact hc
    · rw [hidTo_new hlt] at hu; cases hu
  · have hbk := h.blk x hx
    refine (hg.block _ hbk.lt fun e => ?_).trans hbk
    exact hm _ _ _ (by rw [← Option.some.inj e]; exact hbk)
  · have hlt : a.block < m.heap.size := by rw [ha, h.vw.size]; exact (h.blk x hx).lt
    rw [cell_of_heap (hidTo_old hlt)]
    exact h.hid x hx a ha

theorem keyI : Keyed Tryz.prog 3 := int_keyed Tryz.underlying3
def BSet (W : World) (b : Nat) (xs : List Int) : Prop := ∃ n, n ≤ xs.length ∧ W.ownsMap (H := Unit) Tryz.prog 3 (plainElem Tryz.prog 4) b n (setOf (.lit (.bool true)) (xs.map (Lit.int .i64)))
theorem BSet.made (W : World) : BSet (W.alloc (.map #[] 0)) W.heap.size [] := ⟨0, Nat.le_refl _, World.ownsMap_made _ _ _ _⟩
theorem BSet.ext {W W' : World} {b : Nat} {xs : List Int} (h : BSet W b xs) (hE : Ext W W') : BSet W' b xs := by
  obtain ⟨n, hn, es, clock, hb, h⟩ := h
  have hlt : b < W.heap.size := (Array.getElem?_eq_some_iff.1 hb).1
  exact ⟨n, hn, es, clock, (hE.block b hlt).trans hb, h⟩
theorem BSet.notCells {W : World} {b : Nat} {xs : List Int} (h : BSet W b xs) : ∀ cs t fr, W.heap[b]? ≠ some (.cells cs t fr) := by
  obtain ⟨n, hn, es, clock, hb, h⟩ := h
  intro cs t fr e
  rw [hb] at e
  cases e
theorem setOf_at (u z : DataW Unit) (k : Lit) (hk : WideAt.IsKeyLit k) : ∀ (acc : List Lit), (∀ x ∈ acc, WideAt.IsKeyLit x) → (k ∈ acc → (setOf u acc.reverse).atKey k z = u) ∧ (k ∉ acc → (setOf u acc.reverse).atKey k z = z)
  | [], _ => ⟨fun h => absurd h List.not_mem_nil, fun _ => rfl⟩
  | x :: acc, h => by
    rw [List.reverse_cons, setOf_snoc]
    have ih := setOf_at u z k hk acc fun y hy => h y (List.mem_cons_of_mem _ hy)
    have hm : IsMap (setOf u acc.reverse) := (tidy_setOf u acc.reverse fun y hy => h y (List.mem_cons_of_mem _ (List.mem_reverse.1 hy))).isMap
    by_cases e : k = x
    · subst e
      rw [atKey_put_same hm hk]
      exact ⟨fun _ => rfl, fun hn => absurd (List.mem_cons_self) hn⟩
    · rw [atKey_put_other e]
      refine ⟨fun hx => ih.1 ?_, fun hn => ih.2 fun hx => hn (List.mem_cons_of_mem _ hx)⟩
      rcases List.mem_cons.1 hx with h1 | h1
      · exact absurd h1 e
      · exact h1
theorem isKey_int (x : Int) : WideAt.IsKeyLit (.int .i64 x) := trivial
theorem setOf_atI (xs : List Int) (x : Int) : (setOf (H := Unit) (.lit (.bool true)) (xs.map (Lit.int .i64))).atKey (.int .i64 x) (.lit (.bool false)) = .lit (.bool (decide (x ∈ xs))) := by
  have h := setOf_at (.lit (.bool true)) (.lit (.bool false)) (.int .i64 x) (isKey_int x) ((xs.map (Lit.int .i64)).reverse) (fun y hy => by
    simp only [List.mem_reverse, List.mem_map] at hy
    obtain ⟨z, _, rfl⟩ := hy
    exact isKey_int z)
  rw [List.reverse_reverse] at h
  by_cases hx : x ∈ xs
  · rw [h.1 (List.mem_reverse.2 (List.mem_map.2 ⟨x, hx, rfl⟩)), decide_eq_true hx]
  · rw [h.2 fun hm => ?_, decide_eq_false hx]
    obtain ⟨y, hy, e⟩ := List.mem_map.1 (List.mem_reverse.1 hm)
    cases e
    exact hx hy
theorem zeroB (w : World) : (zeroValue 4).run Tryz.prog w = .ok (.bool false) w := by kernel_rfl
set_option maxRecDepth 100000 in
theorem plainElem_bool_inv {v : Value} {z : DataW Unit × List MemPlace} (h : plainElem Tryz.prog 4 v = some z) : ∃ x, v = .bool x ∧ z = (.lit (.bool x), []) := by
  unfold plainElem at h
  rw [Tryz.underlying4] at h
  cases v <;> simp at h
  exact ⟨_, rfl, h.symm⟩
theorem BSet.look {W : World} {b : Nat} {xs : List Int} (h : BSet W b xs) {x : Int} (hw : (Lit.int .i64 x).wf = true) : (Instr.lookup 149 (.map (some b)) (.int .i64 x) false).run Tryz.prog W = .ok (.bool (decide (x ∈ xs))) W := by
  obtain ⟨n, hn, h⟩ := h
  obtain ⟨v, ps, hrun, hv⟩ := h.lookup keyI Tryz.underlying149 (zeroB W) (plainElem_bool Tryz.underlying4 false) (keyOf_int_mk Tryz.underlying3 hw)
  rw [setOf_atI] at hv
  obtain ⟨c, rfl, hc⟩ := plainElem_bool_inv hv
  simp only [Prod.mk.injEq, DataW.lit.injEq, Lit.bool.injEq] at hc
  rw [hrun, ← hc.1]
theorem BSet.up {W : World} {b : Nat} {xs : List Int} (h : BSet W b xs) (hl : xs.length ≤ 1000000) {x : Int} (hw : (Lit.int .i64 x).wf = true) :
    ∃ W', (Instr.mapUpdate 149 (.map (some b)) (.int .i64 x) (.bool true)).run Tryz.prog W = .ok () W' ∧ BSet W' b (xs ++ [x]) ∧ W.grownBy W' (some b) := by
  obtain ⟨n, hn, h⟩ := h
  obtain ⟨W', h1, h2, h3⟩ := h.update keyI Tryz.underlying149 (by unfold maxLen; omega) (keyOf_int_mk Tryz.underlying3 hw) (plainElem_bool Tryz.underlying4 true)
  refine ⟨W', h1, ⟨n + 1, by simp; omega, ?_⟩, h3⟩
  rw [List.map_append, List.map_cons, List.map_nil, setOf_snoc]
  exact h2
theorem wf_small {x : Int} (h1 : -1000000 ≤ x) (h2 : x ≤ 1000000) : (Lit.int .i64 x).wf = true := WalkArith.wf_i64 (by omega)

theorem Loc.world {w0 m0 W m : World} {Ls : List Lo} (_ : Loc w0 m0 W m Ls) : ∃ x, x = W := ⟨W, rfl⟩
structure CutOk (rs : List Int) (x : Cut) : Prop where
  asc : AscP x.1
  sub : ∀ r ∈ x.1, r ∈ rs
  two : 2 ≤ x.2
  le : x.2 ≤ (x.1.length : Int)
  len : x.1.length ≤ 1000000
end Go.Proofs.YtmhkmmmompediaaGreat

/- Contracts of master.validCut and pairingref27.ValidCut for valid cuts. -/
namespace Go.Proofs.YtmhkmmmompediaaGreat
open Go.RowKit

theorem asc_prev {xs : List Int} (h : AscP xs) {j : Nat} {x y : Int} (hy : xs[j]? = some y) (hx : xs[j + 1]? = some x) : ¬ x ≤ y := by
  have := h j y x hy hx; omega

set_option maxRecDepth 100000 in
set_option maxHeartbeats 16000000 in
theorem m_validCut (rv v : Value) (rs : List Int) (x : Cut) (w m : World) (hV : Vw m w) (hr : IntL m rv rs) (hv : CutR m v x) (hrl : rs.length ≤ 1000000) (hra : AscP rs) (ok : CutOk rs x) :
    Calls Tryz.prog 131 #[rv, v] w (RetV w m fun _ r => r = .bool true) := by
  obtain ⟨xs, dv⟩ := x
  obtain ⟨sv, rfl, hs, -⟩ := hv
  simp only at hs
  obtain ⟨B, d, rfl, hd, hr⟩ := hr.lit
  obtain ⟨A, c, rfl, hc, ha⟩ := hs.lit
  obtain ⟨o1, o2, o3, o4, o5⟩ := ok
  simp only at o1 o2 o3 o4 o5
  have HR := Lib.hid hr
  have HRL := Lib.hid hrl
  have HRA := Lib.hid hra
  have HA := Lib.hid o1
  have HS := Lib.hid o2
  have hL := Loc.start hV
  clear hV hr hra o1 o2 hrl
  generalize hn2 : rs.length = n2 at *
  have HN2 := Lib.hid hn2
  clear hn2
  generalize hn : xs.length = n at *
  have HN := Lib.hid hn
  clear hn
  have d1 : dv ≥ 2 := by omega
  have d2 : dv ≤ (n : Int) := o4
  go_enter Tryz.func131, Tryz.ntmps131
  go_upto_region 0 with (fail)
  refine wp_region_lit ?_
  refine t_box hL rfl rfl ?_; clear hL; intro Wh3 mh3 hL eh3; simp only [Act.put, zq1, zq2, zq3]
  go_wp2_with (first | ((with_reducible refine kAny ?_); go_skip) | (with_reducible refine stA ?_) | ((first | refine tIx ?_ | refine tFd ?_ | refine tLd ?_ | (refine tBx ?_; clear hL; intro _ _ hL _)); simp only [Act.put, zq1, zq2, zq3]))
  go_loopw [12] (fun i wr => ∃ (k : Nat) (mm : World), k ≤ n ∧ i = .int .i64 k ∧ Loc w m wr mm [(w.heap.size, 34, #[.slice A n c, .int .i64 dv])]) (fun i _ => n - (intOf i).toNat)
  case atStart => exact ⟨0, _, Nat.zero_le _, rfl, hL⟩
  case round =>
    clear hL
    obtain ⟨k, mm, hk, rfl, hL⟩ := hrel
    have hM := hL.mext
    by_cases hlt : k < n
    · obtain ⟨x, hx⟩ := at_some HN hlt
      obtain ⟨b1, o1, rfl, hc1⟩ := IntL.at_ ha hx
      have hin : x ∈ rs := HS.out x (List.mem_of_getElem? hx)
      have HIN := Lib.hid hin
      by_cases h0 : k = 0
      · subst h0
        clear hx hin
        go_wp2_with (first | ((with_reducible refine kAny ?_); go_skip) | (with_reducible refine stA ?_) | ((first | refine tIx ?_ | refine tFd ?_ | refine tLd ?_ | (refine tBx ?_; clear hL; intro _ _ hL _)); simp only [Act.put, zq1, zq2, zq3]))
        refine (s_BinarySearch _ rs x _ _ hL.vw (IntL.le HR.out leX) (by rw [HN2.out]; exact HRL.out) HRA.out).mono ?_
        rintro e W2 ⟨_, m2, rfl, hE, hM2, hV, i, rfl, -⟩
        replace hL := hL.call hE (by assumption) hV; clear hE hV
        rw [decide_eq_true HIN.out]
        go_wp2_with (first | ((with_reducible refine kAny ?_); go_skip) | (with_reducible refine stA ?_) | ((first | refine tIx ?_ | refine tFd ?_ | refine tLd ?_ | (refine tBx ?_; clear hL; intro _ _ hL _)); simp only [Act.put, zq1, zq2, zq3]))
        go_roundw
        case rel => exact ⟨1, _, by omega, by go_num, hL⟩
        case measure => simp [intOf] <;> omega
      · obtain ⟨j, rfl⟩ : ∃ j, k = j + 1 := ⟨k - 1, by omega⟩
        obtain ⟨y, hy⟩ := at_some HN (show j < n by omega)
        obtain ⟨b2, o2, e2, hc2⟩ := IntL.at_ ha hy
        obtain ⟨rfl, rfl⟩ : b1 = b2 ∧ o1 = o2 := by simpa using e2
        have hk0 : ((j + 1 : Nat) : Int) > 0 := by omega
        have hyx := asc_prev HA.out hy hx
        have hj3 : (j : Int) + 1 - 1 = (j : Int) := by omega
        have hjn : j < n := by omega
        clear hx hy hin e2 h0
        go_wp2_with (first | ((with_reducible refine kAny ?_); go_skip) | (with_reducible refine stA ?_) | ((first | refine tIx ?_ | refine tFd ?_ | refine tLd ?_ | (refine tBx ?_; clear hL; intro _ _ hL _)); simp only [Act.put, zq1, zq2, zq3]))
        refine (s_BinarySearch _ rs x _ _ hL.vw (IntL.le HR.out leX) (by rw [HN2.out]; exact HRL.out) HRA.out).mono ?_
        rintro e W2 ⟨_, m2, rfl, hE, hM2, hV, i, rfl, -⟩
        replace hL := hL.call hE (by assumption) hV; clear hE hV
        rw [decide_eq_true HIN.out]
        go_wp2_with (first | ((with_reducible refine kAny ?_); go_skip) | (with_reducible refine stA ?_) | ((first | refine tIx ?_ | refine tFd ?_ | refine tLd ?_ | (refine tBx ?_; clear hL; intro _ _ hL _)); simp only [Act.put, zq1, zq2, zq3]))
        go_roundw
        case rel => exact ⟨j + 1 + 1, _, by omega, by go_num, hL⟩
        case measure => simp [intOf] <;> omega
    · go_wp2_with (first | ((with_reducible refine kAny ?_); go_skip) | (with_reducible refine stA ?_) | ((first | refine tIx ?_ | refine tFd ?_ | refine tLd ?_ | (refine tBx ?_; clear hL; intro _ _ hL _)); simp only [Act.put, zq1, zq2, zq3]))
      go_ret
      exact RetV.mk hL rfl

set_option maxRecDepth 100000 in
set_option maxHeartbeats 16000000 in
theorem r_ValidCut (rv v : Value) (rs : List Int) (x : Cut) (w m : World) (hV : Vw m w) (hr : IntL m rv rs) (hv : CutR m v x) (hrl : rs.length ≤ 1000000) (ok : CutOk rs x) :
    Calls Tryz.prog 96 #[rv, v] w (RetV w m fun _ r => r = .bool true) := by
  obtain ⟨xs, dv⟩ := x
  obtain ⟨sv, rfl, hs, -⟩ := hv
  simp only at hs
  obtain ⟨B, d, rfl, hd, hr⟩ := hr.lit
  obtain ⟨A, c, rfl, hc, ha⟩ := hs.lit
  obtain ⟨o1, o2, o3, o4, o5⟩ := ok
  simp only at o1 o2 o3 o4 o5
  have HR := Lib.hid hr
  have HRL := Lib.hid hrl
  have HA := Lib.hid o1
  have HX := Lib.hid ha
  have H5 := Lib.hid o5
  have HS : Hid (decide (∀ r ∈ xs, r ∈ rs) = true) := decide_eq_true o2
  have hL := Loc.start hV
  clear hV hr o1 o2 hrl ha
  generalize hn2 : rs.length = n2 at *
  have HN2 := Lib.hid hn2
  clear hn2
  generalize hn : xs.length = n at *
  have HN := Lib.hid hn
  clear hn
  have d1 : dv ≥ 2 := by omega
  have d2 : dv ≤ (n : Int) := o4
  go_enter Tryz.func96, Tryz.ntmps96
  go_upto_region 0 with (fail)
  refine wp_region_lit ?_
  refine t_box hL rfl rfl ?_; clear hL; intro Wh3 mh3 hL eh3; simp only [Act.put, zq1, zq2, zq3]
  go_wp2_with (first | ((with_reducible refine kAny ?_); go_skip) | (with_reducible refine stA ?_) | ((first | refine tFd ?_ | refine tLd ?_ | (refine tBx ?_; clear hL; intro _ _ hL _)); simp only [Act.put, zq1, zq2, zq3]))
  refine (r_ascT _ xs _ _ hL.vw (IntL.le HX.out leX) (by rw [HN.out]; exact H5.out) HA.out).mono ?_
  rintro e Wc1 ⟨_, mc1, rfl, hE, hMc1, hV, rfl⟩
  replace hL := hL.call hE (by assumption) hV; clear hE hV
  go_wp2_with (first | ((with_reducible refine kAny ?_); go_skip) | (with_reducible refine stA ?_) | ((first | refine tFd ?_ | refine tLd ?_ | (refine tBx ?_; clear hL; intro _ _ hL _)); simp only [Act.put, zq1, zq2, zq3]))
  refine (r_within _ _ xs rs _ _ hL.vw (IntL.le HX.out leX) (IntL.le HR.out leX) (by rw [HN.out]; exact H5.out) (by rw [HN2.out]; exact HRL.out)).mono ?_
  rintro e Wc2 ⟨_, mc2, rfl, hE, hMc2, hV, rfl⟩
  replace hL := hL.call hE (by assumption) hV; clear hE hV
  rw [HS.out]
  go_wp2_with (first | ((with_reducible refine kAny ?_); go_skip) | (with_reducible refine stA ?_) | ((first | refine tFd ?_ | refine tLd ?_ | (refine tBx ?_; clear hL; intro _ _ hL _)); simp only [Act.put, zq1, zq2, zq3]))
  go_ret
  exact RetV.mk hL rfl
end Go.Proofs.YtmhkmmmompediaaGreat

/- Contract of master.ValidateMaster for valid master problems. -/
namespace Go.Proofs.YtmhkmmmompediaaGreat
open Go.RowKit

structure ColOk (rs : List Int) (x : Col) : Prop where
  c1 : -1125899906842624 ≤ x.2.2
  c2 : x.2.2 ≤ 1125899906842624
  nd : x.2.1.length ≤ 100
  nt : ∀ d ∈ x.2.1, d.length ≤ 100
  pos : 0 < (opF x.2.1).length
  sub : ∀ f ∈ opF x.2.1, f ∈ rs
  nodup : (opF x.2.1).Nodup
structure MsOk (x : Ms) : Prop where
  f0 : 0 ≤ x.nf
  f1 : x.nf ≤ 200
  p0 : 0 ≤ x.pen
  p1 : x.pen ≤ 4294967296
  r0 : 1 ≤ x.rows.length
  r1 : x.rows.length ≤ 32
  asc : AscP x.rows
  low : ∀ r ∈ x.rows, 0 ≤ r ∧ r < x.nf
  k1 : x.cols.length ≤ 1000
  cols : ∀ c ∈ x.cols, ColOk x.rows c
  k2 : x.cuts.length ≤ 32
  cuts : ∀ c ∈ x.cuts, CutOk x.rows c
theorem ColL.at_ {m : World} {A : Option Addr} {n c : Nat} {cs : List Col} (h : ColL m (.slice A n c) cs) {k : Nat} {x : Col} (hk : cs[k]? = some x) :
    ∃ b off D cd, A = some ⟨b, off, none⟩ ∧ DutsL m (.slice D x.2.1.length cd) x.2.1 ∧ m.rangeAt b (off + k * 3) [.string x.1, .slice D x.2.1.length cd, .int .i64 x.2.2] := by
  obtain ⟨b, off, v, e, ⟨s, rfl, hs⟩, _, hr⟩ := ListV.at_ h (by omega) hk
  obtain ⟨D, cd, rfl, _, hs⟩ := hs.lit
  exact ⟨b, off, D, cd, e, hs, hr⟩
theorem CutL.at_' {m : World} {A : Option Addr} {n c : Nat} {cs : List Cut} (h : CutL m (.slice A n c) cs) {k : Nat} {x : Cut} (hk : cs[k]? = some x) :
    ∃ b off D cd, A = some ⟨b, off, none⟩ ∧ CutR m (.agg #[.slice D x.1.length cd, .int .i64 x.2]) x ∧ m.rangeAt b (off + k * 2) [.slice D x.1.length cd, .int .i64 x.2] := by
  obtain ⟨b, off, v, e, hc, _, hr⟩ := ListV.at_ h (by omega) hk
  have hc' := hc
  obtain ⟨s, rfl, hs, hl⟩ := hc
  obtain ⟨D, cd, rfl, _, hs⟩ := hs.lit
  exact ⟨b, off, D, cd, e, hc', hr⟩
theorem nodup_new {xs : List Int} (h : xs.Nodup) {j : Nat} {x : Int} (hx : xs[j]? = some x) : decide (x ∈ xs.take j) = false := by
  refine decide_eq_false fun hm => ?_
  obtain ⟨p, hp⟩ := List.mem_iff_getElem?.1 hm
  rw [List.getElem?_take] at hp
  by_cases hpj : p < j
  · rw [if_pos hpj] at hp
    obtain ⟨h1, e1⟩ := List.getElem?_eq_some_iff.1 hp
    obtain ⟨h2, e2⟩ := List.getElem?_eq_some_iff.1 hx
    exact List.pairwise_iff_getElem.1 h p j h1 h2 hpj (e1.trans e2.symm)
  · rw [if_neg hpj] at hp; cases hp

set_option maxRecDepth 100000 in
set_option maxHeartbeats 32000000 in
theorem m_ValidateMaster (v : Value) (x : Ms) (w m : World) (hV : Vw m w) (hv : MasterR m v x) (ok : MsOk x) :
    Calls Tryz.prog 68 #[v] w (RetV w m fun _ r => r = .int .i64 0) := by
  obtain ⟨nf, rs, pen, cols, cuts⟩ := x
  obtain ⟨va, vb, vc, rfl, ha, hb, hc⟩ := hv
  simp only at ha hb hc
  obtain ⟨A, ca, rfl, hca, ha⟩ := ha.lit
  obtain ⟨B, cb, rfl, hcb, hb⟩ := hb.lit
  obtain ⟨C, cc, rfl, hcc, hc⟩ := hc.lit
  obtain ⟨f0, f1, p0, p1, r0, r1, o1, o2, k1, o3, k2, o4⟩ := ok
  simp only at f0 f1 p0 p1 r0 r1 o1 o2 k1 o3 k2 o4
  have HR := Lib.hid ha
  have HA := Lib.hid o1
  have HO := Lib.hid o2
  have HC := Lib.hid o3
  have HK := Lib.hid o4
  have HCO := Lib.hid hb
  have HCU := Lib.hid hc
  have HRL : Hid (rs.length ≤ 1000000) := by show _ ≤ _; omega
  have hL := Loc.start hV
  clear hV o1 o2 o3 o4 hb hc
  generalize hn : rs.length = n at *
  have HN := Lib.hid hn
  clear hn
  generalize hn1 : cols.length = nc at *
  have HN1 := Lib.hid hn1
  clear hn1
  generalize hn2 : cuts.length = nk at *
  have HN2 := Lib.hid hn2
  clear hn2
  have q1 : ¬ nf > 200 := by omega
  have q2 : ¬ nf < 0 := by omega
  have q3 : ¬ (n : Int) < 1 := by omega
  have q4 : ¬ (n : Int) > 32 := by omega
  have q5 : ¬ pen < 0 := by omega
  have q6 : ¬ pen > 4294967296 := by omega
  have q7 : ¬ (nc : Int) > 1000 := by omega
  have q8 : ¬ (nk : Int) > 32 := by omega
  go_enter Tryz.func68, Tryz.ntmps68
  go_wp2_with (first | ((with_reducible refine kAny ?_); go_skip) | (with_reducible refine stA ?_) | ((first | refine tIx ?_ | refine tFd ?_ | refine tLd ?_ | ((first | refine tSr ?_ | refine tSt ?_); clear hL; intro _ hL; simp only [splice, zq1, zq2, zq3] at hL) | ((first | refine tBx ?_ | refine tAl ?_); clear hL; intro _ _ hL _)); simp only [Act.put, zq1, zq2, zq3]))
  go_loopw [58] (fun i wr => ∃ (k : Nat) (mm : World), k ≤ n ∧ i = .int .i64 k ∧ Loc w m wr mm [(w.heap.size, 26, #[.int .i64 nf, .slice A n ca, .int .i64 pen, .slice B nc cb, .slice C nk cc])]) (fun i _ => n - (intOf i).toNat)
  case atStart => exact ⟨0, _, Nat.zero_le _, rfl, hL⟩
  case round =>
    clear hL
    obtain ⟨k, mm, hk, rfl, hL⟩ := hrel
    have hM := hL.mext
    by_cases hlt : k < n
    · obtain ⟨x, hx⟩ := at_some HN hlt
      obtain ⟨b1, o1, hA, hc1⟩ := IntL.at_ ha hx
      replace hA := Lib.hid hA
      obtain ⟨x1, x2⟩ := HO.out x (List.mem_of_getElem? hx)
      have x1' : ¬ x < 0 := by omega
      have x2' : ¬ x ≥ nf := by omega
      by_cases h0 : k = 0
      · subst h0
        clear hx x1 x2
        go_wp2_with (first | ((with_reducible refine kAny ?_); go_skip) | (with_reducible refine stA ?_) | ((first | refine tIx ?_ | refine tFd ?_ | refine tLd ?_ | ((first | refine tSr ?_ | refine tSt ?_); clear hL; intro _ hL; simp only [splice, zq1, zq2, zq3] at hL) | ((first | refine tBx ?_ | refine tAl ?_); clear hL; intro _ _ hL _)); simp only [Act.put, zq1, zq2, zq3]))
        go_roundw
        case rel => exact ⟨1, _, by omega, by go_num, hL⟩
        case measure => simp [intOf] <;> omega
      · obtain ⟨j, rfl⟩ : ∃ j, k = j + 1 := ⟨k - 1, by omega⟩
        have hk0 : ((j + 1 : Nat) : Int) > 0 := by omega
        have hjn : j < n := by omega
        obtain ⟨y, hy⟩ := at_some HN hjn
        obtain ⟨b2, o2, hA2, hc2⟩ := IntL.at_ ha hy
        have hyx := asc_prev HA.out hy hx
        have e12 : b2 = b1 ∧ o2 = o1 := by
          have := hA.out
          rw [hA2] at this
          simp only [Option.some.injEq, Addr.mk.injEq, and_true] at this
          exact this
        obtain ⟨rfl, rfl⟩ := e12
        have hj1 : ((j + 1 : Nat) : Int) - 1 = (j : Int) := by omega
        have hj2 : wrap64 (((j + 1 : Nat) : Int) - 1) = (j : Int) := by unfold wrap64; omega
        have hj3 : (j : Int) + 1 - 1 = (j : Int) := by omega
        clear hx hy x1 x2 hA2 h0
        go_wp2_with (first | ((with_reducible refine kAny ?_); go_skip) | (with_reducible refine stA ?_) | ((first | refine tIx ?_ | refine tFd ?_ | refine tLd ?_ | ((first | refine tSr ?_ | refine tSt ?_); clear hL; intro _ hL; simp only [splice, zq1, zq2, zq3] at hL) | ((first | refine tBx ?_ | refine tAl ?_); clear hL; intro _ _ hL _)); simp only [Act.put, zq1, zq2, zq3]))
        go_roundw
        case rel => exact ⟨j + 1 + 1, _, by omega, by go_num, hL⟩
        case measure => simp [intOf] <;> omega
    · have hmm := @run_makeMap Tryz.prog
      have HMM := Lib.hid hmm
      clear hmm
      go_wp2_with (first | ((with_reducible refine kAny ?_); go_skip) | (with_reducible refine stA ?_) | ((first | refine tIx ?_ | refine tFd ?_ | refine tLd ?_ | ((first | refine tSr ?_ | refine tSt ?_); clear hL; intro _ hL; simp only [splice, zq1, zq2, zq3] at hL) | ((first | refine tBx ?_ | refine tAl ?_); clear hL; intro _ _ hL _)); simp only [Act.put, zq1, zq2, zq3]))
      clear hlt hk
      go_loopw [89] (fun i wr => ∃ (k : Nat) (mm : World), k ≤ nc ∧ i = .int .i64 k ∧ Loc w m wr mm [(w.heap.size, 26, #[.int .i64 nf, .slice A n ca, .int .i64 pen, .slice B nc cb, .slice C nk cc])]) (fun i _ => nc - (intOf i).toNat)
      case atStart => exact ⟨0, _, Nat.zero_le _, rfl, hL⟩
      case round =>
        clear hL hM
        obtain ⟨k, mm, hk, rfl, hL⟩ := hrel
        obtain ⟨wq, rfl⟩ := hL.world
        have hM := hL.mext
        by_cases hlt : k < nc
        · obtain ⟨⟨s, ds, cost⟩, hx⟩ := at_some HN1 hlt
          have hco := HCO.out
          obtain ⟨b1, o1, D, cd, rfl, hds, hr1⟩ := ColL.at_ hco hx
          obtain ⟨i1, i2, i3, i4, i5, i6, i7⟩ := HC.out _ (List.mem_of_getElem? hx)
          simp only at hds hr1 i1 i2 i3 i4 i5 i6 i7
          have c1 : ¬ cost < -1125899906842624 := by omega
          have c2 : ¬ cost > 1125899906842624 := by omega
          have HD := Lib.hid hds
          have H3 := Lib.hid i3
          have H4 := Lib.hid i4
          have H6 := Lib.hid i6
          have H7 := Lib.hid i7
          have H5 := Lib.hid i5
          have H8 := Lib.hid (opF_len i4)
          clear hx hds i1 i2 i3 i4 i5 i6 i7 hco
          generalize hnd : ds.length = nd at *
          have HND := Lib.hid hnd
          clear hnd
          go_wp2_with (first | ((with_reducible refine kAny ?_); go_skip) | (with_reducible refine stA ?_) | ((first | refine tIx ?_ | refine tFd ?_ | refine tLd ?_ | ((first | refine tSr ?_ | refine tSt ?_); clear hL; intro _ hL; simp only [splice, zq1, zq2, zq3] at hL) | ((first | refine tBx ?_ | refine tAl ?_); clear hL; intro _ _ hL _)); simp only [Act.put, zq1, zq2, zq3]))
          refine (e_Operated s _ ds _ _ hL.vw (DutsL.le HD.out leX) (by rw [HND.out]; exact H3.out) H4.out).mono ?_
          rintro e Wo1 ⟨vo1, mo1, rfl, hE, hMo1, hV, ho1⟩
          replace hL := hL.call hE (by assumption) hV; clear hE hV
          obtain ⟨Ao, co, rfl, hco, ho1⟩ := ho1.lit
          have HOP := Lib.hid ho1
          have h5 := H5.out
          have h8 : (opF ds).length ≤ 100000 := by have := H8.out; have := H3.out; omega
          clear ho1 hr1
          generalize hno : (opF ds).length = no at *
          have HNO := Lib.hid hno
          clear hno
          have q9 : ¬ (no : Int) < 1 := by omega
          have hmb := hL.ext.size
          have hmm := HMM.out
          go_wp2_with (first | ((with_reducible refine kAny ?_); go_skip) | (with_reducible refine stA ?_) | ((first | refine tIx ?_ | refine tFd ?_ | refine tLd ?_ | ((first | refine tSr ?_ | refine tSt ?_); clear hL; intro _ hL; simp only [splice, zq1, zq2, zq3] at hL) | ((first | refine tBx ?_ | refine tAl ?_); clear hL; intro _ _ hL _)); simp only [Act.put, zq1, zq2, zq3]))
          go_loopw [110] (fun i wr => ∃ (j : Nat) (m2 : World), j ≤ no ∧ i = .int .i64 j ∧ Loc w m wr m2 [(wq.heap.size, 72, #[.string s, .slice D nd cd, .int .i64 cost]), (w.heap.size, 26, #[.int .i64 nf, .slice A n ca, .int .i64 pen, .slice (some ⟨b1, o1, none⟩) nc cb, .slice C nk cc])] ∧ Hid (BSet wr Wo1.heap.size ((opF ds).take j)) ∧ Hid (Ext mo1 m2)) (fun i _ => no - (intOf i).toNat)
          case atStart => exact ⟨0, _, Nat.zero_le _, rfl, hL.allocM _, BSet.made _, hidTo_ext (by rw [hL.vw.size]; simp)⟩
          case round =>
            clear hL hM hmm
            obtain ⟨j, m2, hj, rfl, hL, HB, HX⟩ := hrel
            have hM := hL.mext
            by_cases hlt2 : j < no
            · obtain ⟨f, hf⟩ := at_some HNO hlt2
              obtain ⟨b3, o3, rfl, hc3⟩ := IntL.at_ HOP.out hf
              replace hc3 := HX.out.le.cell _ _ hc3
              have hin : f ∈ rs := H6.out f (List.mem_of_getElem? hf)
              have HIN := Lib.hid hin
              have HNW := Lib.hid (nodup_new H7.out hf)
              obtain ⟨lo, hi⟩ := HO.out f hin
              have HWF : Hid ((Lit.int .i64 f).wf = true) := wf_small (by omega) (by omega)
              have HT : Hid ((opF ds).take j ++ [f] = (opF ds).take (j + 1)) := take_snoc hf
              have HLN : Hid (((opF ds).take j).length ≤ 1000000) := by show _ ≤ _; simp; omega
              clear hf hin lo hi
              go_wp2_with (first | ((with_reducible refine kAny ?_); go_skip) | (with_reducible refine stA ?_) | ((first | refine tIx ?_ | refine tFd ?_ | refine tLd ?_ | ((first | refine tSr ?_ | refine tSt ?_); clear hL; intro _ hL; simp only [splice, zq1, zq2, zq3] at hL) | ((first | refine tBx ?_ | refine tAl ?_); clear hL; intro _ _ hL _)); simp only [Act.put, zq1, zq2, zq3]))
              refine (s_BinarySearch _ rs f _ _ hL.vw (IntL.le HR.out leX) (by rw [HN.out]; exact HRL.out) HA.out).mono ?_
              rintro e W2 ⟨_, m3, rfl, hE, hM3, hV, i, rfl, -⟩
              have HB2 := HB.out.ext hE
              have HX3 : Hid (Ext mo1 m3) := HX.out.trans hM3
              replace hL := hL.call hE (by assumption) hV; clear hE hV
              rw [decide_eq_true HIN.out]
              have hlk := HB2.look HWF.out
              rw [HNW.out] at hlk
              obtain ⟨W9, hup, hb9, hg9⟩ := HB2.up HLN.out HWF.out
              have HB9 := Lib.hid hb9
              have HG9 := Lib.hid hg9
              have HNC := Lib.hid HB2.notCells
              clear hb9 hg9 HB2
              go_wp2_with (first | ((with_reducible refine kAny ?_); go_skip) | (with_reducible refine stA ?_) | ((first | refine tIx ?_ | refine tFd ?_ | refine tLd ?_ | ((first | refine tSr ?_ | refine tSt ?_); clear hL; intro _ hL; simp only [splice, zq1, zq2, zq3] at hL) | ((first | refine tBx ?_ | refine tAl ?_); clear hL; intro _ _ hL _)); simp only [Act.put, zq1, zq2, zq3]))
              go_roundw
              case rel => exact ⟨j + 1, _, by omega, by go_num, hL.mapTurn HG9.out hmb HNC.out, by rw [← HT.out]; exact HB9.out, HX3.out.trans (hidTo_ext (by rw [hL.vw.size]; exact HG9.out.size))⟩
              case measure => simp [intOf] <;> omega
            · go_wp2_with (first | ((with_reducible refine kAny ?_); go_skip) | (with_reducible refine stA ?_) | ((first | refine tIx ?_ | refine tFd ?_ | refine tLd ?_ | ((first | refine tSr ?_ | refine tSt ?_); clear hL; intro _ hL; simp only [splice, zq1, zq2, zq3] at hL) | ((first | refine tBx ?_ | refine tAl ?_); clear hL; intro _ _ hL _)); simp only [Act.put, zq1, zq2, zq3]))
              go_roundw
              case rel => exact ⟨k + 1, _, by omega, by go_num, hL.tail⟩
              case measure => simp [intOf] <;> omega
        · go_wp2_with (first | ((with_reducible refine kAny ?_); go_skip) | (with_reducible refine stA ?_) | ((first | refine tIx ?_ | refine tFd ?_ | refine tLd ?_ | ((first | refine tSr ?_ | refine tSt ?_); clear hL; intro _ hL; simp only [splice, zq1, zq2, zq3] at hL) | ((first | refine tBx ?_ | refine tAl ?_); clear hL; intro _ _ hL _)); simp only [Act.put, zq1, zq2, zq3]))
          clear hlt hk
          go_loopw [135] (fun i wr => ∃ (k : Nat) (mm : World), k ≤ nk ∧ i = .int .i64 k ∧ Loc w m wr mm [(w.heap.size, 26, #[.int .i64 nf, .slice A n ca, .int .i64 pen, .slice B nc cb, .slice C nk cc])]) (fun i _ => nk - (intOf i).toNat)
          case atStart => exact ⟨0, _, Nat.zero_le _, rfl, hL⟩
          case round =>
            clear hL hM
            obtain ⟨k, mm, hk, rfl, hL⟩ := hrel
            have hM := hL.mext
            by_cases hlt : k < nk
            · obtain ⟨⟨xs, dv⟩, hx⟩ := at_some HN2 hlt
              have hcu := HCU.out
              obtain ⟨b1, o1, D, cd, rfl, hcr, hr1⟩ := CutL.at_' hcu hx
              have HOK := Lib.hid (HK.out _ (List.mem_of_getElem? hx))
              have HCR := Lib.hid hcr
              clear hx hcu hcr
              simp only at hr1
              go_wp2_with (first | ((with_reducible refine kAny ?_); go_skip) | (with_reducible refine stA ?_) | ((first | refine tIx ?_ | refine tFd ?_ | refine tLd ?_ | ((first | refine tSr ?_ | refine tSt ?_); clear hL; intro _ hL; simp only [splice, zq1, zq2, zq3] at hL) | ((first | refine tBx ?_ | refine tAl ?_); clear hL; intro _ _ hL _)); simp only [Act.put, zq1, zq2, zq3]))
              refine (m_validCut _ _ rs (xs, dv) _ _ hL.vw (IntL.le HR.out leX) (HCR.out.le leX) (by rw [HN.out]; exact HRL.out) HA.out HOK.out).mono ?_
              rintro e Wv1 ⟨_, mv1, rfl, hE, hMv1, hV, rfl⟩
              replace hL := hL.call hE (by assumption) hV; clear hE hV
              go_wp2_with (first | ((with_reducible refine kAny ?_); go_skip) | (with_reducible refine stA ?_) | ((first | refine tIx ?_ | refine tFd ?_ | refine tLd ?_ | ((first | refine tSr ?_ | refine tSt ?_); clear hL; intro _ hL; simp only [splice, zq1, zq2, zq3] at hL) | ((first | refine tBx ?_ | refine tAl ?_); clear hL; intro _ _ hL _)); simp only [Act.put, zq1, zq2, zq3]))
              go_roundw
              case rel => exact ⟨k + 1, _, by omega, by go_num, hL.tail⟩
              case measure => simp [intOf] <;> omega
            · go_wp2_with (first | ((with_reducible refine kAny ?_); go_skip) | (with_reducible refine stA ?_) | ((first | refine tIx ?_ | refine tFd ?_ | refine tLd ?_ | ((first | refine tSr ?_ | refine tSt ?_); clear hL; intro _ hL; simp only [splice, zq1, zq2, zq3] at hL) | ((first | refine tBx ?_ | refine tAl ?_); clear hL; intro _ _ hL _)); simp only [Act.put, zq1, zq2, zq3]))
              go_ret
              exact RetV.mk hL rfl
end Go.Proofs.YtmhkmmmompediaaGreat

/- Contract of pairingref27.ValidateMaster for valid master problems. -/
namespace Go.Proofs.YtmhkmmmompediaaGreat
open Go.RowKit

theorem count_one {xs : List Int} (h : xs.Nodup) {j : Nat} {x : Int} (hx : xs[j]? = some x) : xs.count x = 1 := by
  have h1 := List.nodup_iff_count.1 h x
  have h2 : 0 < xs.count x := List.count_pos_iff.2 (List.mem_of_getElem? hx)
  omega
set_option maxRecDepth 100000 in
set_option maxHeartbeats 32000000 in
theorem r_ValidateMaster (v : Value) (x : Ms) (w m : World) (hV : Vw m w) (hv : MasterR m v x) (ok : MsOk x) :
    Calls Tryz.prog 76 #[v] w (RetV w m fun _ r => r = .int .i64 0) := by
  obtain ⟨nf, rs, pen, cols, cuts⟩ := x
  obtain ⟨va, vb, vc, rfl, ha, hb, hc⟩ := hv
  simp only at ha hb hc
  obtain ⟨A, ca, rfl, hca, ha⟩ := ha.lit
  obtain ⟨B, cb, rfl, hcb, hb⟩ := hb.lit
  obtain ⟨C, cc, rfl, hcc, hc⟩ := hc.lit
  obtain ⟨f0, f1, p0, p1, r0, r1, o1, o2, k1, o3, k2, o4⟩ := ok
  simp only at f0 f1 p0 p1 r0 r1 o1 o2 k1 o3 k2 o4
  have HR := Lib.hid ha
  have HA := Lib.hid o1
  have HO := Lib.hid o2
  have HC := Lib.hid o3
  have HK := Lib.hid o4
  have HCO := Lib.hid hb
  have HCU := Lib.hid hc
  have HRL : Hid (rs.length ≤ 1000000) := by show _ ≤ _; omega
  have hL := Loc.start hV
  clear hV o1 o2 o3 o4 hb hc
  generalize hn : rs.length = n at *
  have HN := Lib.hid hn
  clear hn
  generalize hn1 : cols.length = nc at *
  have HN1 := Lib.hid hn1
  clear hn1
  generalize hn2 : cuts.length = nk at *
  have HN2 := Lib.hid hn2
  clear hn2
  obtain ⟨n', hn'⟩ : ∃ n', n = n' + 1 := ⟨n - 1, by omega⟩
  obtain ⟨y0, hy0⟩ := at_some HN (show 0 < n by omega)
  obtain ⟨y1, hy1⟩ := at_some HN (show n' < n by omega)
  obtain ⟨b0, of, rfl, hc0⟩ := IntL.at_ ha hy0
  obtain ⟨b0', of', e0, hc1⟩ := IntL.at_ ha hy1
  obtain ⟨rfl, rfl⟩ : b0 = b0' ∧ of = of' := by simpa using e0
  rw [Nat.add_zero] at hc0
  have l0 := (HO.out y0 (List.mem_of_getElem? hy0)).1
  have l1 := (HO.out y1 (List.mem_of_getElem? hy1)).2
  have q1 : ¬ nf > 200 := by omega
  have q2 : ¬ nf < 0 := by omega
  have q3 : ((n : Int) == 0) = false := by simp; omega
  have q4 : ¬ (n : Int) > 32 := by omega
  have q5 : ¬ pen < 0 := by omega
  have q6 : ¬ pen > 4294967296 := by omega
  have q7 : ¬ (nc : Int) > 1000 := by omega
  have q8 : ¬ (nk : Int) > 32 := by omega
  have Q9 : Hid (decide (y0 < 0) = false) := decide_eq_false (by omega)
  have Q10 : Hid (decide (y1 ≥ nf) = false) := decide_eq_false (by omega)
  have q11 : (n : Int) - 1 = (n' : Int) := by omega
  have q12 : 0 < n := by omega
  have q13 : n' < n := by omega
  clear hy0 hy1 e0 l0 l1 ha hn'
  go_enter Tryz.func76, Tryz.ntmps76
  go_upto_region 0 with (fail)
  refine wp_region_lit ?_
  refine t_box hL rfl rfl ?_; clear hL; intro Wh1 mh1 hL eh1; simp only [Act.put, zq1, zq2, zq3]
  go_upto_region 5 with ((first | ((with_reducible refine kAny ?_); go_skip) | (with_reducible refine stA ?_) | ((first | refine tIx ?_ | refine tFd ?_ | refine tLd ?_ | (refine tBx ?_; clear hL; intro _ _ hL _)); simp only [Act.put, zq1, zq2, zq3])))
  clear q1 q2 q4 q5 q6 q7 q8
  have hr := HR.out
  have q9 := Q9.out
  have q10 := Q10.out
  refine wp_region_by2 24 [false, false, false, false, false, false, false, false, false, false, false, false, false, false, false, false, false, false, false, false, false, false, false, false] [false, false, false, false, false, false, false, false, false, false, false, false, false, false, false, false, false, false, false, false, false, false, false, false] [(fun v _ _ => v = ?c5_0), (fun v _ _ => v = ?c5_1), Is (.bool true), (fun v _ _ => v = ?c5_3), (fun v _ _ => v = ?c5_4), (fun v _ _ => v = ?c5_5), (fun v _ _ => v = ?c5_6), (fun v _ _ => v = ?c5_7), (fun v _ _ => v = ?c5_8), (fun v _ _ => v = ?c5_9), (fun v _ _ => v = ?c5_10), (fun v _ _ => v = ?c5_11), (fun v _ _ => v = ?c5_12), (fun v _ _ => v = ?c5_13), (fun v _ _ => v = ?c5_14), (fun v _ _ => v = ?c5_15), (fun v _ _ => v = ?c5_16), (fun v _ _ => v = ?c5_17), (fun v _ _ => v = ?c5_18), (fun v _ _ => v = ?c5_19), (fun v _ _ => v = ?c5_20), (fun v _ _ => v = ?c5_21), (fun v _ _ => v = ?c5_22), (fun v _ _ => v = ?c5_23)] hL.vw mixed [47, 48, 49, 50, 51, 52, 53, 54, 55, 56, 57, 58, 59, 60, 61, 62, 63, 64, 65, 66, 67, 68, 69, 70] _ (by kernel_rfl) (fun vs => by simp only [lay, Act.put, zq1, zq2, zq3]; rfl) (by kernel_rfl) (by decide) (by decide) ?s5 ?l5 ?r5
  case s5 =>
    refine ⟨?_, ?_, ?_, ?_, ?_, ?_, ?_, ?_, ?_, ?_, ?_, ?_, ?_, ?_, ?_, ?_, ?_, ?_, ?_, ?_, ?_, ?_, ?_, ?_, trivial⟩
    · intro vs W1 m1 hE hM hV hD; clear hD; replace hL := hL.call hE hM hV
      exact sFd
    · intro vs W1 m1 hE hM hV hD; obtain ⟨⟨_, _, -, -, f47⟩, -⟩ := hD; have f47 : vs 47 = _ := f47; generalize vs 47 = x47 at f47 ⊢; subst x47; replace hL := hL.call hE hM hV
      exact sLd
    · intro vs W1 m1 hE hM hV hD; obtain ⟨⟨_, _, -, -, f48⟩, -⟩ := hD; have f48 : vs 48 = _ := f48; generalize vs 48 = x48 at f48 ⊢; subst x48
      go_wp2_with fail
      refine (r_ascT _ rs _ _ hV (IntL.le hr leX) (by rw [HN.out]; exact HRL.out) HA.out).mono ?_
      rintro e W2 ⟨v, m2, rfl, hE2, hM2, hV2, h⟩
      go_wp2_with fail
      refine One2.call hE2 hM2 hV2 ?_; first | exact h | exact rfl
    · intro vs W1 m1 hE hM hV hD; obtain ⟨⟨_, _, -, -, f49⟩, -⟩ := hD; have f49 : vs 49 = _ := f49; generalize vs 49 = x49 at f49 ⊢; subst x49; replace hL := hL.call hE hM hV
      exact sPu
    · intro vs W1 m1 hE hM hV hD; obtain ⟨⟨_, _, -, -, f50⟩, -, -⟩ := hD; have f50 : vs 50 = _ := f50; generalize vs 50 = x50 at f50 ⊢; subst x50; replace hL := hL.call hE hM hV
      exact sPu
    · intro vs W1 m1 hE hM hV hD; obtain ⟨⟨_, _, -, -, f51⟩, -⟩ := hD; have f51 : vs 51 = _ := f51; generalize vs 51 = x51 at f51 ⊢; subst x51; replace hL := hL.call hE hM hV
      exact sFd
    · intro vs W1 m1 hE hM hV hD; obtain ⟨⟨_, _, -, -, f52⟩, ⟨_, _, -, -, f51⟩, -⟩ := hD; have f52 : vs 52 = _ := f52; generalize vs 52 = x52 at f52 ⊢; subst x52; have f51 : vs 51 = _ := f51; generalize vs 51 = x51 at f51 ⊢; subst x51; replace hL := hL.call hE hM hV
      exact sLd
    · intro vs W1 m1 hE hM hV hD; obtain ⟨⟨_, _, -, -, f53⟩, ⟨_, _, -, -, f51⟩, -⟩ := hD; have f53 : vs 53 = _ := f53; generalize vs 53 = x53 at f53 ⊢; subst x53; have f51 : vs 51 = _ := f51; generalize vs 51 = x51 at f51 ⊢; subst x51; replace hL := hL.call hE hM hV
      exact sIz
    · intro vs W1 m1 hE hM hV hD; obtain ⟨⟨_, _, -, -, f54⟩, ⟨_, _, -, -, f51⟩, -⟩ := hD; have f54 : vs 54 = _ := f54; generalize vs 54 = x54 at f54 ⊢; subst x54; have f51 : vs 51 = _ := f51; generalize vs 51 = x51 at f51 ⊢; subst x51; replace hL := hL.call hE hM hV
      exact sLd
    · intro vs W1 m1 hE hM hV hD; obtain ⟨⟨_, _, -, -, f55⟩, ⟨_, _, -, -, f51⟩, -⟩ := hD; have f55 : vs 55 = _ := f55; generalize vs 55 = x55 at f55 ⊢; subst x55; have f51 : vs 51 = _ := f51; generalize vs 51 = x51 at f51 ⊢; subst x51; replace hL := hL.call hE hM hV
      exact sPu
    · intro vs W1 m1 hE hM hV hD; obtain ⟨⟨_, _, -, -, f51⟩, ⟨_, _, -, -, f56⟩, -⟩ := hD; have f51 : vs 51 = _ := f51; generalize vs 51 = x51 at f51 ⊢; subst x51; have f56 : vs 56 = _ := f56; generalize vs 56 = x56 at f56 ⊢; subst x56; replace hL := hL.call hE hM hV
      exact sPu
    · intro vs W1 m1 hE hM hV hD; obtain ⟨⟨_, _, -, -, f57⟩, -, -⟩ := hD; have f57 : vs 57 = _ := f57; generalize vs 57 = x57 at f57 ⊢; subst x57; replace hL := hL.call hE hM hV
      exact sPu
    · intro vs W1 m1 hE hM hV hD; obtain ⟨⟨_, _, -, -, f58⟩, -⟩ := hD; have f58 : vs 58 = _ := f58; generalize vs 58 = x58 at f58 ⊢; subst x58; replace hL := hL.call hE hM hV
      exact sFd
    · intro vs W1 m1 hE hM hV hD; obtain ⟨⟨_, _, -, -, f59⟩, ⟨_, _, -, -, f58⟩, -⟩ := hD; have f59 : vs 59 = _ := f59; generalize vs 59 = x59 at f59 ⊢; subst x59; have f58 : vs 58 = _ := f58; generalize vs 58 = x58 at f58 ⊢; subst x58; replace hL := hL.call hE hM hV
      exact sLd
    · intro vs W1 m1 hE hM hV hD; obtain ⟨⟨_, _, -, -, f58⟩, -⟩ := hD; have f58 : vs 58 = _ := f58; generalize vs 58 = x58 at f58 ⊢; subst x58; replace hL := hL.call hE hM hV
      exact sFd
    · intro vs W1 m1 hE hM hV hD; obtain ⟨⟨_, _, -, -, f61⟩, ⟨_, _, -, -, f58⟩, -⟩ := hD; have f61 : vs 61 = _ := f61; generalize vs 61 = x61 at f61 ⊢; subst x61; have f58 : vs 58 = _ := f58; generalize vs 58 = x58 at f58 ⊢; subst x58; replace hL := hL.call hE hM hV
      exact sLd
    · intro vs W1 m1 hE hM hV hD; obtain ⟨⟨_, _, -, -, f62⟩, ⟨_, _, -, -, f58⟩, -⟩ := hD; have f62 : vs 62 = _ := f62; generalize vs 62 = x62 at f62 ⊢; subst x62; have f58 : vs 58 = _ := f58; generalize vs 58 = x58 at f58 ⊢; subst x58; replace hL := hL.call hE hM hV
      go_wp2_with (first | ((with_reducible refine kAny ?_); go_skip) | (with_reducible refine stA ?_) | ((first | refine tIx ?_ | refine tFd ?_ | refine tLd ?_ | (refine tBx ?_; clear hL; intro _ _ hL _)); simp only [Act.put, zq1, zq2, zq3]))
      refine One2.still hV ?_; exact rfl
    · intro vs W1 m1 hE hM hV hD; obtain ⟨⟨_, _, -, -, f63⟩, ⟨_, _, -, -, f58⟩, -⟩ := hD; have f63 : vs 63 = _ := f63; generalize vs 63 = x63 at f63 ⊢; subst x63; have f58 : vs 58 = _ := f58; generalize vs 58 = x58 at f58 ⊢; subst x58; replace hL := hL.call hE hM hV
      exact sPu
    · intro vs W1 m1 hE hM hV hD; obtain ⟨⟨_, _, -, -, f60⟩, ⟨_, _, -, -, f64⟩, ⟨_, _, -, -, f58⟩, -⟩ := hD; have f60 : vs 60 = _ := f60; generalize vs 60 = x60 at f60 ⊢; subst x60; have f64 : vs 64 = _ := f64; generalize vs 64 = x64 at f64 ⊢; subst x64; have f58 : vs 58 = _ := f58; generalize vs 58 = x58 at f58 ⊢; subst x58; replace hL := hL.call hE hM hV
      exact sIx
    · intro vs W1 m1 hE hM hV hD; obtain ⟨⟨_, _, -, -, f65⟩, ⟨_, _, -, -, f58⟩, -⟩ := hD; have f65 : vs 65 = _ := f65; generalize vs 65 = x65 at f65 ⊢; subst x65; have f58 : vs 58 = _ := f58; generalize vs 58 = x58 at f58 ⊢; subst x58; replace hL := hL.call hE hM hV
      exact sLd
    · intro vs W1 m1 hE hM hV hD; obtain ⟨⟨_, _, -, -, f58⟩, -⟩ := hD; have f58 : vs 58 = _ := f58; generalize vs 58 = x58 at f58 ⊢; subst x58; replace hL := hL.call hE hM hV
      exact sFd
    · intro vs W1 m1 hE hM hV hD; obtain ⟨⟨_, _, -, -, f67⟩, ⟨_, _, -, -, f58⟩, -⟩ := hD; have f67 : vs 67 = _ := f67; generalize vs 67 = x67 at f67 ⊢; subst x67; have f58 : vs 58 = _ := f58; generalize vs 58 = x58 at f58 ⊢; subst x58; replace hL := hL.call hE hM hV
      exact sLd
    · intro vs W1 m1 hE hM hV hD; obtain ⟨⟨_, _, -, -, f66⟩, ⟨_, _, -, -, f68⟩, ⟨_, _, -, -, f58⟩, -⟩ := hD; have f66 : vs 66 = _ := f66; generalize vs 66 = x66 at f66 ⊢; subst x66; have f68 : vs 68 = _ := f68; generalize vs 68 = x68 at f68 ⊢; subst x68; have f58 : vs 58 = _ := f58; generalize vs 58 = x58 at f58 ⊢; subst x58; replace hL := hL.call hE hM hV
      exact sPu
    · intro vs W1 m1 hE hM hV hD; obtain ⟨⟨_, _, -, -, f58⟩, ⟨_, _, -, -, f69⟩, -⟩ := hD; have f58 : vs 58 = _ := f58; generalize vs 58 = x58 at f58 ⊢; subst x58; have f69 : vs 69 = _ := f69; generalize vs 69 = x69 at f69 ⊢; subst x69; replace hL := hL.call hE hM hV
      exact sPu
  case l5 =>
    refine ⟨fun h => (by cases h), fun h => (by cases h), fun h => (by cases h), fun h => (by cases h), fun h => (by cases h), fun h => (by cases h), fun h => (by cases h), fun h => (by cases h), fun h => (by cases h), fun h => (by cases h), fun h => (by cases h), fun h => (by cases h), fun h => (by cases h), fun h => (by cases h), fun h => (by cases h), fun h => (by cases h), fun h => (by cases h), fun h => (by cases h), fun h => (by cases h), fun h => (by cases h), fun h => (by cases h), fun h => (by cases h), fun h => (by cases h), fun h => (by cases h), trivial⟩
  intro vs W1 m1 hE hM hV hF hD
  clear hD
  obtain ⟨⟨_, _, -, -, f47⟩, ⟨_, _, -, -, f48⟩, ⟨_, _, -, -, f49⟩, ⟨_, _, -, -, f50⟩, ⟨_, _, -, -, f51⟩, ⟨_, _, -, -, f52⟩, ⟨_, _, -, -, f53⟩, ⟨_, _, -, -, f54⟩, ⟨_, _, -, -, f55⟩, ⟨_, _, -, -, f56⟩, ⟨_, _, -, -, f57⟩, ⟨_, _, -, -, f58⟩, ⟨_, _, -, -, f59⟩, ⟨_, _, -, -, f60⟩, ⟨_, _, -, -, f61⟩, ⟨_, _, -, -, f62⟩, ⟨_, _, -, -, f63⟩, ⟨_, _, -, -, f64⟩, ⟨_, _, -, -, f65⟩, ⟨_, _, -, -, f66⟩, ⟨_, _, -, -, f67⟩, ⟨_, _, -, -, f68⟩, ⟨_, _, -, -, f69⟩, ⟨_, _, -, -, f70⟩, -⟩ := hF
  replace hL := hL.call hE hM hV
  have f47 : vs 47 = _ := f47
  generalize vs 47 = x47 at f47 ⊢
  subst x47
  have f48 : vs 48 = _ := f48
  generalize vs 48 = x48 at f48 ⊢
  subst x48
  have f49 : vs 49 = _ := f49
  generalize vs 49 = x49 at f49 ⊢
  subst x49
  have f50 : vs 50 = _ := f50
  generalize vs 50 = x50 at f50 ⊢
  subst x50
  have f51 : vs 51 = _ := f51
  generalize vs 51 = x51 at f51 ⊢
  subst x51
  have f52 : vs 52 = _ := f52
  generalize vs 52 = x52 at f52 ⊢
  subst x52
  have f53 : vs 53 = _ := f53
  generalize vs 53 = x53 at f53 ⊢
  subst x53
  have f54 : vs 54 = _ := f54
  generalize vs 54 = x54 at f54 ⊢
  subst x54
  have f55 : vs 55 = _ := f55
  generalize vs 55 = x55 at f55 ⊢
  subst x55
  have f56 : vs 56 = _ := f56
  generalize vs 56 = x56 at f56 ⊢
  subst x56
  have f57 : vs 57 = _ := f57
  generalize vs 57 = x57 at f57 ⊢
  subst x57
  have f58 : vs 58 = _ := f58
  generalize vs 58 = x58 at f58 ⊢
  subst x58
  have f59 : vs 59 = _ := f59
  generalize vs 59 = x59 at f59 ⊢
  subst x59
  have f60 : vs 60 = _ := f60
  generalize vs 60 = x60 at f60 ⊢
  subst x60
  have f61 : vs 61 = _ := f61
  generalize vs 61 = x61 at f61 ⊢
  subst x61
  have f62 : vs 62 = _ := f62
  generalize vs 62 = x62 at f62 ⊢
  subst x62
  have f63 : vs 63 = _ := f63
  generalize vs 63 = x63 at f63 ⊢
  subst x63
  have f64 : vs 64 = _ := f64
  generalize vs 64 = x64 at f64 ⊢
  subst x64
  have f65 : vs 65 = _ := f65
  generalize vs 65 = x65 at f65 ⊢
  subst x65
  have f66 : vs 66 = _ := f66
  generalize vs 66 = x66 at f66 ⊢
  subst x66
  have f67 : vs 67 = _ := f67
  generalize vs 67 = x67 at f67 ⊢
  subst x67
  have f68 : vs 68 = _ := f68
  generalize vs 68 = x68 at f68 ⊢
  subst x68
  have f69 : vs 69 = _ := f69
  generalize vs 69 = x69 at f69 ⊢
  subst x69
  have f70 : vs 70 = _ := f70
  generalize vs 70 = x70 at f70 ⊢
  subst x70
  clear hE hV
  simp only [List.drop_succ_cons, List.drop_zero]
  go_wp2_with (first | ((with_reducible refine kAny ?_); go_skip) | (with_reducible refine stA ?_) | ((first | refine tIx ?_ | refine tFd ?_ | refine tLd ?_ | (refine tBx ?_; clear hL; intro _ _ hL _)); simp only [Act.put, zq1, zq2, zq3]))
  refine QN.mk ?_
  clear hr hc0 hc1
  go_wp2_with (first | ((with_reducible refine kAny ?_); go_skip) | (with_reducible refine stA ?_) | ((first | refine tIx ?_ | refine tFd ?_ | refine tLd ?_ | (refine tBx ?_; clear hL; intro _ _ hL _)); simp only [Act.put, zq1, zq2, zq3]))
  go_loopw [3] (fun i wr => ∃ (k : Nat) (mm : World), k ≤ nc ∧ i = .int .i64 k ∧ Loc w m wr mm [(w.heap.size, 26, #[.int .i64 nf, .slice (some ⟨b0, of, none⟩) n ca, .int .i64 pen, .slice B nc cb, .slice C nk cc])]) (fun i _ => nc - (intOf i).toNat)
  case atStart => exact ⟨0, _, Nat.zero_le _, rfl, hL⟩
  case round =>
    clear hL
    obtain ⟨k, mm, hk, rfl, hL⟩ := hrel
    have hM := hL.mext
    by_cases hlt : k < nc
    · obtain ⟨⟨s, ds, cost⟩, hx⟩ := at_some HN1 hlt
      obtain ⟨b1, o1, D, cd, rfl, hds, hr1⟩ := ColL.at_ HCO.out hx
      obtain ⟨i1, i2, i3, i4, i5, i6, i7⟩ := HC.out _ (List.mem_of_getElem? hx)
      simp only at hds hr1 i1 i2 i3 i4 i5 i6 i7
      have c1 : ¬ cost < -1125899906842624 := by omega
      have c2 : ¬ cost > 1125899906842624 := by omega
      have HD := Lib.hid hds
      have H3 := Lib.hid i3
      have H4 := Lib.hid i4
      have H6 : Hid (decide (∀ f ∈ opF ds, f ∈ rs) = true) := decide_eq_true i6
      have H7 := Lib.hid i7
      have H5 := Lib.hid i5
      have H8 := Lib.hid (opF_len i4)
      have hx2 := hr1 2 _ rfl
      have hr2 : m.rangeAt b1 (o1 + k * 3) [.string s, .slice D ds.length cd] := fun j u hu => hr1 j u (by
        match j, hu with
        | 0, hu => exact hu
        | 1, hu => exact hu)
      clear hx hds i1 i2 i3 i4 i5 i6 i7 hr1
      generalize hnd : ds.length = nd at *
      have HND := Lib.hid hnd
      clear hnd
      go_wp2_with (first | ((with_reducible refine kAny ?_); go_skip) | (with_reducible refine stA ?_) | ((first | refine tIx ?_ | refine tFd ?_ | refine tLd ?_ | (refine tBx ?_; clear hL; intro _ _ hL _)); simp only [Act.put, zq1, zq2, zq3]))
      refine (r_Operated s _ ds _ _ hL.vw (DutsL.le HD.out leX) (by rw [HND.out]; exact H3.out) H4.out).mono ?_
      rintro e Wo1 ⟨vo1, mo1, rfl, hE, hMo1, hV, ho1⟩
      replace hL := hL.call hE (by assumption) hV; clear hE hV
      obtain ⟨Ao, co, rfl, hco, ho1⟩ := ho1.lit
      have HOP := Lib.hid ho1
      have h5 := H5.out
      have h8 : (opF ds).length ≤ 100000 := by have := H8.out; have := H3.out; omega
      clear ho1 hr2 hx2
      generalize hno : (opF ds).length = no at *
      have HNO := Lib.hid hno
      clear hno
      have q14 : ((no : Int) == 0) = false := by simp; omega
      go_wp2_with (first | ((with_reducible refine kAny ?_); go_skip) | (with_reducible refine stA ?_) | ((first | refine tIx ?_ | refine tFd ?_ | refine tLd ?_ | (refine tBx ?_; clear hL; intro _ _ hL _)); simp only [Act.put, zq1, zq2, zq3]))
      refine (r_within _ _ (opF ds) rs _ _ hL.vw (IntL.le HOP.out leX) (IntL.le HR.out leX) (by rw [HNO.out]; omega) (by rw [HN.out]; exact HRL.out)).mono ?_
      rintro e Wo2 ⟨_, mo2, rfl, hE, hMo2, hV, rfl⟩
      replace hL := hL.call hE (by assumption) hV; clear hE hV
      rw [H6.out]
      go_wp2_with (first | ((with_reducible refine kAny ?_); go_skip) | (with_reducible refine stA ?_) | ((first | refine tIx ?_ | refine tFd ?_ | refine tLd ?_ | (refine tBx ?_; clear hL; intro _ _ hL _)); simp only [Act.put, zq1, zq2, zq3]))
      go_loopw [5] (fun i wr => ∃ (j : Nat) (m2 : World), j ≤ no ∧ i = .int .i64 j ∧ Loc w m wr m2 [(w.heap.size, 26, #[.int .i64 nf, .slice (some ⟨b0, of, none⟩) n ca, .int .i64 pen, .slice (some ⟨b1, o1, none⟩) nc cb, .slice C nk cc])] ∧ Hid (Ext mo1 m2)) (fun i _ => no - (intOf i).toNat)
      case atStart => exact ⟨0, _, Nat.zero_le _, rfl, hL, exX⟩
      case round =>
        clear hL hM
        obtain ⟨j, m2, hj, rfl, hL, HX⟩ := hrel
        have hM := hL.mext
        by_cases hlt2 : j < no
        · obtain ⟨f, hf⟩ := at_some HNO hlt2
          obtain ⟨b3, o3, rfl, hc3⟩ := IntL.at_ HOP.out hf
          replace hc3 := HX.out.le.cell _ _ hc3
          have HC1 := Lib.hid (count_one H7.out hf)
          have HO2 : Hid (IntL m2 (.slice (some ⟨b3, o3, none⟩) no co) (opF ds)) := IntL.le HOP.out HX.out.le
          clear hf
          go_wp2_with (first | ((with_reducible refine kAny ?_); go_skip) | (with_reducible refine stA ?_) | ((first | refine tIx ?_ | refine tFd ?_ | refine tLd ?_ | (refine tBx ?_; clear hL; intro _ _ hL _)); simp only [Act.put, zq1, zq2, zq3]))
          refine (r_count _ (opF ds) f _ _ hL.vw (IntL.le HO2.out leX) (by rw [HNO.out]; omega)).mono ?_
          rintro e Wn1 ⟨_, mn1, rfl, hE, hMn1, hV, rfl⟩
          replace hL := hL.call hE (by assumption) hV; clear hE hV
          have HX3 : Hid (Ext mo1 mn1) := HX.out.trans hMn1
          rw [HC1.out]
          go_wp2_with (first | ((with_reducible refine kAny ?_); go_skip) | (with_reducible refine stA ?_) | ((first | refine tIx ?_ | refine tFd ?_ | refine tLd ?_ | (refine tBx ?_; clear hL; intro _ _ hL _)); simp only [Act.put, zq1, zq2, zq3]))
          go_roundw
          case rel => exact ⟨j + 1, _, by omega, by go_num, hL, HX3.out⟩
          case measure => simp [intOf] <;> omega
        · go_wp2_with (first | ((with_reducible refine kAny ?_); go_skip) | (with_reducible refine stA ?_) | ((first | refine tIx ?_ | refine tFd ?_ | refine tLd ?_ | (refine tBx ?_; clear hL; intro _ _ hL _)); simp only [Act.put, zq1, zq2, zq3]))
          go_roundw
          case rel => exact ⟨k + 1, _, by omega, by go_num, hL⟩
          case measure => simp [intOf] <;> omega
    · go_wp2_with (first | ((with_reducible refine kAny ?_); go_skip) | (with_reducible refine stA ?_) | ((first | refine tIx ?_ | refine tFd ?_ | refine tLd ?_ | (refine tBx ?_; clear hL; intro _ _ hL _)); simp only [Act.put, zq1, zq2, zq3]))
      clear hlt hk
      go_loopw [6] (fun i wr => ∃ (k : Nat) (mm : World), k ≤ nk ∧ i = .int .i64 k ∧ Loc w m wr mm [(w.heap.size, 26, #[.int .i64 nf, .slice (some ⟨b0, of, none⟩) n ca, .int .i64 pen, .slice B nc cb, .slice C nk cc])]) (fun i _ => nk - (intOf i).toNat)
      case atStart => exact ⟨0, _, Nat.zero_le _, rfl, hL⟩
      case round =>
        clear hL hM
        obtain ⟨k, mm, hk, rfl, hL⟩ := hrel
        have hM := hL.mext
        by_cases hlt : k < nk
        · obtain ⟨⟨xs, dv⟩, hx⟩ := at_some HN2 hlt
          obtain ⟨b1, o1, D, cd, rfl, hcr, hr1⟩ := CutL.at_' HCU.out hx
          have HOK := Lib.hid (HK.out _ (List.mem_of_getElem? hx))
          simp only at hr1
          have hra := HR.out
          clear hx
          go_upto_region 23 with ((first | ((with_reducible refine kAny ?_); go_skip) | (with_reducible refine stA ?_) | ((first | refine tIx ?_ | refine tFd ?_ | refine tLd ?_ | (refine tBx ?_; clear hL; intro _ _ hL _)); simp only [Act.put, zq1, zq2, zq3])))
          (try simp only [eq_self] at *)
          refine wp_region_by2 9 [false, false, false, false, false, false, false, false, false] [false, false, false, false, false, false, false, false, false] [(fun v _ _ => v = ?c23_0), (fun v _ _ => v = ?c23_1), (fun v _ _ => v = ?c23_2), (fun v _ _ => v = ?c23_3), (fun v _ _ => v = ?c23_4), (fun v _ _ => v = ?c23_5), (fun v _ _ => v = ?c23_6), Is (.bool true), (fun v _ _ => v = ?c23_8)] hL.vw mixed [131, 132, 133, 134, 135, 136, 137, 138, 139] _ (by kernel_rfl) (fun vs => by simp only [lay, Act.put, zq1, zq2, zq3]; rfl) (by kernel_rfl) (by decide) (by decide) ?s23 ?l23 ?r23
          case s23 =>
            refine ⟨?_, ?_, ?_, ?_, ?_, ?_, ?_, ?_, ?_, trivial⟩
            · intro vs W1 m1 hE hM hV hD; clear hD; replace hL := hL.call hE hM hV
              exact sFd
            · intro vs W1 m1 hE hM hV hD; obtain ⟨⟨_, _, -, -, f131⟩, -⟩ := hD; have f131 : vs 131 = _ := f131; generalize vs 131 = x131 at f131 ⊢; subst x131; replace hL := hL.call hE hM hV
              exact sLd
            · intro vs W1 m1 hE hM hV hD; clear hD; replace hL := hL.call hE hM hV
              exact sFd
            · intro vs W1 m1 hE hM hV hD; obtain ⟨⟨_, _, -, -, f133⟩, -⟩ := hD; have f133 : vs 133 = _ := f133; generalize vs 133 = x133 at f133 ⊢; subst x133; replace hL := hL.call hE hM hV
              exact sLd
            · intro vs W1 m1 hE hM hV hD; clear hD; replace hL := hL.call hE hM hV
              exact sPu
            · intro vs W1 m1 hE hM hV hD; obtain ⟨⟨_, _, -, -, f134⟩, ⟨_, _, -, -, f135⟩, -⟩ := hD; have f134 : vs 134 = _ := f134; generalize vs 134 = x134 at f134 ⊢; subst x134; have f135 : vs 135 = _ := f135; generalize vs 135 = x135 at f135 ⊢; subst x135; replace hL := hL.call hE hM hV
              exact sIx
            · intro vs W1 m1 hE hM hV hD; obtain ⟨⟨_, _, -, -, f136⟩, -⟩ := hD; have f136 : vs 136 = _ := f136; generalize vs 136 = x136 at f136 ⊢; subst x136; replace hL := hL.call hE hM hV
              exact sLd
            · intro vs W1 m1 hE hM hV hD; obtain ⟨⟨_, _, -, -, f132⟩, ⟨_, _, -, -, f137⟩, -⟩ := hD; have f132 : vs 132 = _ := f132; generalize vs 132 = x132 at f132 ⊢; subst x132; have f137 : vs 137 = _ := f137; generalize vs 137 = x137 at f137 ⊢; subst x137
              go_wp2_with fail
              refine (r_ValidCut _ _ rs (xs, dv) _ _ hV (IntL.le hra leX) (hcr.le leX) (by rw [HN.out]; exact HRL.out) HOK.out).mono ?_
              rintro e W2 ⟨v, m2, rfl, hE2, hM2, hV2, h⟩
              go_wp2_with fail
              refine One2.call hE2 hM2 hV2 ?_; first | exact h | exact rfl
            · intro vs W1 m1 hE hM hV hD; obtain ⟨⟨_, _, -, -, f138⟩, -⟩ := hD; have f138 : vs 138 = _ := f138; generalize vs 138 = x138 at f138 ⊢; subst x138; replace hL := hL.call hE hM hV
              exact sPu
          case l23 =>
            refine ⟨fun h => (by cases h), fun h => (by cases h), fun h => (by cases h), fun h => (by cases h), fun h => (by cases h), fun h => (by cases h), fun h => (by cases h), fun h => (by cases h), fun h => (by cases h), trivial⟩
          intro vs W1 m1 hE hM hV hF hD
          clear hD
          obtain ⟨⟨_, _, -, -, f131⟩, ⟨_, _, -, -, f132⟩, ⟨_, _, -, -, f133⟩, ⟨_, _, -, -, f134⟩, ⟨_, _, -, -, f135⟩, ⟨_, _, -, -, f136⟩, ⟨_, _, -, -, f137⟩, ⟨_, _, -, -, f138⟩, ⟨_, _, -, -, f139⟩, -⟩ := hF
          replace hL := hL.call hE hM hV
          have f131 : vs 131 = _ := f131
          generalize vs 131 = x131 at f131 ⊢
          subst x131
          have f132 : vs 132 = _ := f132
          generalize vs 132 = x132 at f132 ⊢
          subst x132
          have f133 : vs 133 = _ := f133
          generalize vs 133 = x133 at f133 ⊢
          subst x133
          have f134 : vs 134 = _ := f134
          generalize vs 134 = x134 at f134 ⊢
          subst x134
          have f135 : vs 135 = _ := f135
          generalize vs 135 = x135 at f135 ⊢
          subst x135
          have f136 : vs 136 = _ := f136
          generalize vs 136 = x136 at f136 ⊢
          subst x136
          have f137 : vs 137 = _ := f137
          generalize vs 137 = x137 at f137 ⊢
          subst x137
          have f138 : vs 138 = _ := f138
          generalize vs 138 = x138 at f138 ⊢
          subst x138
          have f139 : vs 139 = _ := f139
          generalize vs 139 = x139 at f139 ⊢
          subst x139
          clear hE hV
          simp only [List.drop_succ_cons, List.drop_zero]
          go_wp2_with (first | ((with_reducible refine kAny ?_); go_skip) | (with_reducible refine stA ?_) | ((first | refine tIx ?_ | refine tFd ?_ | refine tLd ?_ | (refine tBx ?_; clear hL; intro _ _ hL _)); simp only [Act.put, zq1, zq2, zq3]))
          refine QN.mk ?_
          go_wp2_with (first | ((with_reducible refine kAny ?_); go_skip) | (with_reducible refine stA ?_) | ((first | refine tIx ?_ | refine tFd ?_ | refine tLd ?_ | (refine tBx ?_; clear hL; intro _ _ hL _)); simp only [Act.put, zq1, zq2, zq3]))
          go_roundw
          case rel => exact ⟨k + 1, _, by omega, by go_num, hL⟩
          case measure => simp [intOf] <;> omega
        · go_wp2_with (first | ((with_reducible refine kAny ?_); go_skip) | (with_reducible refine stA ?_) | ((first | refine tIx ?_ | refine tFd ?_ | refine tLd ?_ | (refine tBx ?_; clear hL; intro _ _ hL _)); simp only [Act.put, zq1, zq2, zq3]))
          go_ret
          exact RetV.mk hL rfl
end Go.Proofs.YtmhkmmmompediaaGreat

/- Contracts of rational.Sign, and of rational.Mul and lagrange.smaller for fractions of any form. -/
namespace Go.Proofs.YtmhkmmmompediaaGreat
open Go.RowKit

theorem icmp_den (q : Rat) : icmp (q.den : Int) 0 = 1 := by
  have := q.den_pos
  unfold icmp
  rw [if_neg (by omega), if_neg (by omega)]

set_option maxRecDepth 100000 in
set_option maxHeartbeats 8000000 in
theorem q_Sign (v : Value) (q : Rat) (w m : World) (hV : Vw m w) (h : FracC m v q) (k : Fit 200 q) :
    Calls Tryz.prog 103 #[v] w (RetV w m fun _ r => r = .int .i64 (icmp q.num 0)) := by
  obtain ⟨_, _, _, _, rfl, h1, h2⟩ := h
  have i1 := h1.toV (k.num (by decide))
  have i2 := h2.toV (k.den (by decide))
  obtain ⟨g1, A1, n1, c1, rfl, rfl⟩ := h1.parts'
  obtain ⟨g2, A2, n2, c2, rfl, rfl⟩ := h2.parts'
  have K2 : Hid (∀ w m', Vw m' w → Le m m' → Calls Tryz.prog 162 #[.agg #[.bool g2, .slice A2 n2 c2]] w (RetV w m' fun _ r => r = .int .i64 1)) := by
    show ∀ w m', _
    intro w m' hV hle
    rw [← icmp_den q]
    exact i_Sign _ _ w m' hV (i2.le hle)
  have K1 : Hid (∀ w m', Vw m' w → Le m m' → Calls Tryz.prog 162 #[.agg #[.bool g1, .slice A1 n1 c1]] w (RetV w m' fun _ r => r = .int .i64 (icmp q.num 0))) := by
    show ∀ w m', _
    intro w m' hV hle
    exact i_Sign _ _ w m' hV (i1.le hle)
  have hs : -1 ≤ icmp q.num 0 ∧ icmp q.num 0 ≤ 1 := by unfold icmp; split <;> (try split) <;> omega
  have hL := Loc.start hV
  clear hV h1 h2 i1 i2 k
  generalize icmp q.num 0 = s at *
  obtain ⟨s1, s2⟩ := hs
  go_enter Tryz.func103, Tryz.ntmps103
  go_upto_region 1 with ((first | ((with_reducible refine kAny ?_); go_skip) | (with_reducible refine stA ?_) | ((first | refine tFd ?_ | refine tLd ?_ | (refine tBx ?_; clear hL; intro _ _ hL _)); simp only [Act.put, zq1, zq2, zq3])))
  refine wp_region_by2 7 [false, false, false, false, false, false, false] [false, false, false, false, false, false, false] [(fun v _ _ => v = ?c1_0), (fun v _ _ => v = ?c1_1), Is (.int .i64 s), (fun v _ _ => v = ?c1_3), (fun v _ _ => v = ?c1_4), Is (.int .i64 1), (fun v _ _ => v = ?c1_6)] hL.vw mixed [3, 4, 5, 6, 7, 8, 9] _ (by kernel_rfl) (fun vs => by simp only [lay, Act.put, zq1, zq2, zq3]; rfl) (by kernel_rfl) (by decide) (by decide) ?s1 ?l1 ?r1
  case s1 =>
    refine ⟨?_, ?_, ?_, ?_, ?_, ?_, ?_, trivial⟩
    · intro vs W1 m1 hE hM hV hD; clear hD; replace hL := hL.call hE hM hV
      exact sFd
    · intro vs W1 m1 hE hM hV hD; obtain ⟨⟨_, _, -, -, f3⟩, -⟩ := hD; have f3 : vs 3 = _ := f3; generalize vs 3 = x3 at f3 ⊢; subst x3; replace hL := hL.call hE hM hV
      exact sLd
    · intro vs W1 m1 hE hM hV hD; obtain ⟨⟨_, _, -, -, f4⟩, -⟩ := hD; have f4 : vs 4 = _ := f4; generalize vs 4 = x4 at f4 ⊢; subst x4
      go_wp2_with fail
      refine (K1.out _ _ hV leX).mono ?_
      rintro e W2 ⟨v, m2, rfl, hE2, hM2, hV2, h⟩
      go_wp2_with fail
      refine One2.call hE2 hM2 hV2 ?_; first | exact h | exact rfl
    · intro vs W1 m1 hE hM hV hD; clear hD; replace hL := hL.call hE hM hV
      exact sFd
    · intro vs W1 m1 hE hM hV hD; obtain ⟨⟨_, _, -, -, f6⟩, -⟩ := hD; have f6 : vs 6 = _ := f6; generalize vs 6 = x6 at f6 ⊢; subst x6; replace hL := hL.call hE hM hV
      exact sLd
    · intro vs W1 m1 hE hM hV hD; obtain ⟨⟨_, _, -, -, f7⟩, -, -⟩ := hD; have f7 : vs 7 = _ := f7; generalize vs 7 = x7 at f7 ⊢; subst x7
      go_wp2_with fail
      refine (K2.out _ _ hV leX).mono ?_
      rintro e W2 ⟨v, m2, rfl, hE2, hM2, hV2, h⟩
      go_wp2_with fail
      refine One2.call hE2 hM2 hV2 ?_; first | exact h | exact rfl
    · intro vs W1 m1 hE hM hV hD; obtain ⟨⟨_, _, -, -, f5⟩, ⟨_, _, -, -, f8⟩, -⟩ := hD; have f5 : vs 5 = _ := f5; generalize vs 5 = x5 at f5 ⊢; subst x5; have f8 : vs 8 = _ := f8; generalize vs 8 = x8 at f8 ⊢; subst x8; replace hL := hL.call hE hM hV
      exact sPu
  case l1 =>
    refine ⟨fun h => (by cases h), fun h => (by cases h), fun h => (by cases h), fun h => (by cases h), fun h => (by cases h), fun h => (by cases h), fun h => (by cases h), trivial⟩
  intro vs W1 m1 hE hM hV hF hD
  clear hD
  obtain ⟨-, -, -, -, -, -, ⟨_, _, -, -, f9⟩, -⟩ := hF
  replace hL := hL.call hE hM hV
  have f9 : vs 9 = _ := f9
  generalize vs 9 = x9 at f9 ⊢
  subst x9
  clear hE hV
  simp only [List.drop_succ_cons, List.drop_zero]
  go_wp2_with (first | ((with_reducible refine kAny ?_); go_skip) | (with_reducible refine stA ?_) | ((first | refine tFd ?_ | refine tLd ?_ | (refine tBx ?_; clear hL; intro _ _ hL _)); simp only [Act.put, zq1, zq2, zq3]))
  refine QN.mk ?_
  go_wp2_with (first | ((with_reducible refine kAny ?_); go_skip) | (with_reducible refine stA ?_) | ((first | refine tFd ?_ | refine tLd ?_ | (refine tBx ?_; clear hL; intro _ _ hL _)); simp only [Act.put, zq1, zq2, zq3]))
  go_ret
  exact RetV.mk hL (by go_num)

set_option maxRecDepth 100000 in
set_option maxHeartbeats 8000000 in
theorem q_MulL (a b : Value) (x y x' y' : Int) (p q p' q' : Int) (w m : World) (hV : Vw m w) (ha : FrV m a x y) (hb : FrV m b x' y') (hs : Sm x y) (hs' : Sm x' y')
    (hk : ∀ w m', Vw m' w → Le m m' → Calls Tryz.prog 133 #[a, b] w (RetV w m' fun _ r => r = .tuple #[.agg #[.int .i64 p, .int .i64 q], .agg #[.int .i64 p', .int .i64 q'], .bool false])) :
    Calls Tryz.prog 74 #[a, b] w (RetV w m fun m' r => FracC m' r (Rat.divInt x y * Rat.divInt x' y')) := by
  have KS := Lib.hid hk
  clear hk
  have FA := Lib.hid ha
  have FB := Lib.hid hb
  obtain ⟨g, A, n, c, g', B, k, d, rfl, -, -⟩ := ha
  obtain ⟨f, A', n', c', f', B', k', d', rfl, -, -⟩ := hb
  obtain ⟨u1, u2, u3, u4⟩ := pN_spec hs
  obtain ⟨v1, v2, v3, v4⟩ := pN_spec hs'
  have p1 := prod_bd u1 v1
  have p3 := prod_bd u3 v3
  have U1 : Hid ((pN x y).natAbs < 4294967296) := by show _ < _; omega
  have U3 : Hid ((pD y).natAbs < 4294967296) := by show _ < _; omega
  have V1 : Hid ((pN x' y').natAbs < 4294967296) := by show _ < _; omega
  have V3 : Hid ((pD y').natAbs < 4294967296) := by show _ < _; omega
  have Q1 : Hid ((pN x y * pN x' y').natAbs < 18446744073709551616) := by show _ < _; omega
  have Q3 : Hid ((pD y * pD y').natAbs < 18446744073709551616) := by show _ < _; omega
  have P2 := Lib.hid (Int.mul_pos u2 v2)
  have L1 := Lib.hid (len_prod u1 v1)
  have L3 := Lib.hid (len_prod u3 v3)
  have E : Hid (Rat.divInt (pN x y * pN x' y') (pD y * pD y') = Rat.divInt x y * Rat.divInt x' y') := by
    show _ = _; rw [← u4, ← v4, Rat.divInt_mul_divInt]
  have hL := Loc.start hV
  clear hV u1 u2 u3 u4 v1 v2 v3 v4 hs hs' p1 p3
  go_enter Tryz.func74, Tryz.ntmps74
  go_wp2_with (first | ((with_reducible refine kAny ?_); go_skip) | (with_reducible refine stA ?_) | ((first | refine tFd ?_ | refine tLd ?_ | ((first | refine tSr ?_ | refine tSt ?_); clear hL; intro _ hL; simp only [splice, zq1, zq2, zq3] at hL) | ((first | refine tBx ?_ | refine tAl ?_); clear hL; intro _ _ hL _)); simp only [Act.put, zq1, zq2, zq3]))
  refine (KS.out _ _ hL.vw leX).mono ?_
  rintro e W1 ⟨_, m1, rfl, hE, hM1, hV, rfl⟩
  replace hL := hL.call hE (by assumption) hV; clear hE hV
  go_wp2_with (first | ((with_reducible refine kAny ?_); go_skip) | (with_reducible refine stA ?_) | ((first | refine tFd ?_ | refine tLd ?_ | ((first | refine tSr ?_ | refine tSt ?_); clear hL; intro _ hL; simp only [splice, zq1, zq2, zq3] at hL) | ((first | refine tBx ?_ | refine tAl ?_); clear hL; intro _ _ hL _)); simp only [Act.put, zq1, zq2, zq3]))
  refine (q_partsV _ x y _ _ hL.vw (FA.out.le leX)).mono ?_
  rintro e W2 ⟨_, m2, rfl, hE, hM2, hV, g2, A2, n2, c2, g3, A3, n3, c3, rfl, h1, h2⟩
  replace hL := hL.call hE (by assumption) hV; clear hE hV
  go_wp2_with (first | ((with_reducible refine kAny ?_); go_skip) | (with_reducible refine stA ?_) | ((first | refine tFd ?_ | refine tLd ?_ | ((first | refine tSr ?_ | refine tSt ?_); clear hL; intro _ hL; simp only [splice, zq1, zq2, zq3] at hL) | ((first | refine tBx ?_ | refine tAl ?_); clear hL; intro _ _ hL _)); simp only [Act.put, zq1, zq2, zq3]))
  refine (q_partsV _ x' y' _ _ hL.vw (FB.out.le leX)).mono ?_
  rintro e W4 ⟨_, m4, rfl, hE, hM4, hV, g4, A4, n4, c4, g5, A5, n5, c5, rfl, h3, h4⟩
  replace hL := hL.call hE (by assumption) hV; clear hE hV
  go_upto_region 6 with ((first | ((with_reducible refine kAny ?_); go_skip) | (with_reducible refine stA ?_) | ((first | refine tFd ?_ | refine tLd ?_ | ((first | refine tSr ?_ | refine tSt ?_); clear hL; intro _ hL; simp only [splice, zq1, zq2, zq3] at hL) | ((first | refine tBx ?_ | refine tAl ?_); clear hL; intro _ _ hL _)); simp only [Act.put, zq1, zq2, zq3])))
  refine wp_region_by2 7 [false, false, false, false, false, false, false] [false, false, false, false, false, false, false] [(fun v _ _ => v = ?c6_0), (fun v _ _ => v = ?c6_1), Of (fun um v => IntC um v (pN x y * pN x' y')), (fun v _ _ => v = ?c6_3), (fun v _ _ => v = ?c6_4), Of (fun um v => IntC um v (pD y * pD y')), Of (fun um v => FracC um v (Rat.divInt (pN x y * pN x' y') (pD y * pD y')))] hL.vw mixed [41, 42, 43, 44, 45, 46, 47] _ (by kernel_rfl) (fun vs => by simp only [lay, Act.put, zq1, zq2, zq3]; rfl) (by kernel_rfl) (by decide) (by decide) ?s6 ?l6 ?r6
  case s6 =>
    refine ⟨?_, ?_, ?_, ?_, ?_, ?_, ?_, trivial⟩
    · intro vs W1 m1 hE hM hV hD; clear hD; replace hL := hL.call hE hM hV
      exact sLd
    · intro vs W1 m1 hE hM hV hD; clear hD; replace hL := hL.call hE hM hV
      exact sLd
    · intro vs W1 m1 hE hM hV hD; obtain ⟨⟨_, _, -, -, f41⟩, ⟨_, _, -, -, f42⟩, -⟩ := hD; have f41 : vs 41 = _ := f41; generalize vs 41 = x41 at f41 ⊢; subst x41; have f42 : vs 42 = _ := f42; generalize vs 42 = x42 at f42 ⊢; subst x42
      go_wp2_with fail
      refine (i_Mul _ _ _ _ _ _ hV (h1.le leX) (h3.le leX) U1.out V1.out).mono ?_
      rintro e W2 ⟨v, m2, rfl, hE2, hM2, hV2, h⟩
      go_wp2_with fail
      refine One2.call hE2 hM2 hV2 ?_; first | exact h | exact rfl
    · intro vs W1 m1 hE hM hV hD; clear hD; replace hL := hL.call hE hM hV
      exact sLd
    · intro vs W1 m1 hE hM hV hD; clear hD; replace hL := hL.call hE hM hV
      exact sLd
    · intro vs W1 m1 hE hM hV hD; obtain ⟨⟨_, _, -, -, f44⟩, ⟨_, _, -, -, f45⟩, -, -⟩ := hD; have f44 : vs 44 = _ := f44; generalize vs 44 = x44 at f44 ⊢; subst x44; have f45 : vs 45 = _ := f45; generalize vs 45 = x45 at f45 ⊢; subst x45
      go_wp2_with fail
      refine (i_Mul _ _ _ _ _ _ hV (h2.le leX) (h4.le leX) U3.out V3.out).mono ?_
      rintro e W2 ⟨v, m2, rfl, hE2, hM2, hV2, h⟩
      go_wp2_with fail
      refine One2.call hE2 hM2 hV2 ?_; first | exact h | exact rfl
    · intro vs W1 m1 hE hM hV hD; obtain ⟨⟨_, _, -, i43, f43⟩, ⟨_, _, -, i46, f46⟩, -, -⟩ := hD; have f43 : IntC _ (vs 43) (pN x y * pN x' y') := f43; replace f43 := f43.le i43.le; clear i43; have f46 : IntC _ (vs 46) (pD y * pD y') := f46; replace f46 := f46.le i46.le; clear i46
      go_wp2_with fail
      refine (q_reduce _ _ _ _ _ _ hV (f43.toV L1.out) (f46.toV L3.out) Q1.out Q3.out P2.out).mono ?_
      rintro e W2 ⟨v, m2, rfl, hE2, hM2, hV2, h⟩
      go_wp2_with fail
      refine One2.call hE2 hM2 hV2 ?_; first | exact h | exact rfl
  case l6 =>
    refine ⟨fun h => (by cases h), fun h => (by cases h), fun h => (by cases h), fun h => (by cases h), fun h => (by cases h), fun h => (by cases h), fun h => (by cases h), trivial⟩
  intro vs W1 m1 hE hM hV hF hD
  clear hD
  obtain ⟨-, -, ⟨_, _, -, i43, f43⟩, -, -, ⟨_, _, -, i46, f46⟩, ⟨_, _, -, i47, f47⟩, -⟩ := hF
  replace hL := hL.call hE hM hV
  replace f43 : IntC _ (vs 43) (pN x y * pN x' y') := f43
  replace f43 := f43.le i43.le
  clear i43
  replace f46 : IntC _ (vs 46) (pD y * pD y') := f46
  replace f46 := f46.le i46.le
  clear i46
  replace f47 : FracC _ (vs 47) (Rat.divInt (pN x y * pN x' y') (pD y * pD y')) := f47
  replace f47 := f47.le i47.le
  clear i47
  obtain ⟨g47, A47, n47, c47, h47, B47, k47, d47, e47, f47⟩ := f47.lit
  generalize vs 47 = x47 at e47 ⊢
  subst x47
  clear hE hV
  simp only [List.drop_succ_cons, List.drop_zero]
  go_wp2_with (first | ((with_reducible refine kAny ?_); go_skip) | (with_reducible refine stA ?_) | ((first | refine tFd ?_ | refine tLd ?_ | ((first | refine tSr ?_ | refine tSt ?_); clear hL; intro _ hL; simp only [splice, zq1, zq2, zq3] at hL) | ((first | refine tBx ?_ | refine tAl ?_); clear hL; intro _ _ hL _)); simp only [Act.put, zq1, zq2, zq3]))
  refine QN.mk ?_
  go_wp2_with (first | ((with_reducible refine kAny ?_); go_skip) | (with_reducible refine stA ?_) | ((first | refine tFd ?_ | refine tLd ?_ | ((first | refine tSr ?_ | refine tSt ?_); clear hL; intro _ hL; simp only [splice, zq1, zq2, zq3] at hL) | ((first | refine tBx ?_ | refine tAl ?_); clear hL; intro _ _ hL _)); simp only [Act.put, zq1, zq2, zq3]))
  refine fin_agg hL Tryz.results74 rfl rfl loX AgC.h (by exact rfl) ?_
  rw [← E.out]; exact f47
theorem q_MulG (a b : Value) (x y x' y' : Int) (w m : World) (hV : Vw m w) (ha : FrG m a x y) (hb : FrG m b x' y') (hs : Sm x y) (hs' : Sm x' y') :
    Calls Tryz.prog 74 #[a, b] w (RetV w m fun m' r => FracC m' r (Rat.divInt x y * Rat.divInt x' y')) := by
  by_cases hn : NoS a ∨ NoS b
  · obtain ⟨p, q, p', q', hk⟩ := small_no ha hb hn
    exact q_MulL a b x y x' y' p q p' q' w m hV ha.1 hb.1 hs hs' hk
  · exact q_Mul a b x y x' y' w m hV (ha.2.resolve_right fun h => hn (.inl h)) (hb.2.resolve_right fun h => hn (.inr h)) hs hs'

set_option maxRecDepth 100000 in
set_option maxHeartbeats 8000000 in
theorem l_smallerG (a b : Value) (p q : SF) (w m : World) (hV : Vw m w) (ha : FrG m a p.1 p.2) (hb : FrG m b q.1 q.2) (hp : Sm p.1 p.2) (hq : Sm q.1 q.2) :
    Calls Tryz.prog 73 #[a, b] w (RetV w m fun m' r => FrG m' r (minS p q).1 (minS p q).2) := by
  obtain ⟨g1, A1, n1, c1, h1, B1, k1, d1, rfl, ha⟩ := ha.lit
  obtain ⟨g2, A2, n2, c2, h2, B2, k2, d2, rfl, hb⟩ := hb.lit
  have hL := Loc.start hV
  clear hV
  go_enter Tryz.func73, Tryz.ntmps73
  go_wp2_with (first | ((with_reducible refine kAny ?_); go_skip) | (with_reducible refine stA ?_) | ((first | refine tLd ?_ | ((first | refine tSr ?_ | refine tSt ?_); clear hL; intro _ hL; simp only [splice, zq1, zq2, zq3] at hL) | ((first | refine tBx ?_ | refine tAl ?_); clear hL; intro _ _ hL _)); simp only [Act.put, zq1, zq2, zq3]))
  refine (q_CompareG _ _ q.1 q.2 p.1 p.2 _ _ hL.vw (hb.le leX) (ha.le leX) hq hp).mono ?_
  rintro e W11 ⟨_, m11, rfl, hE, hM11, hV, rfl⟩
  replace hL := hL.call hE (by assumption) hV; clear hE hV
  by_cases hc : pN q.1 q.2 * pD p.2 < pN p.1 p.2 * pD q.2
  · rw [icmp_lt hc]
    have E : Hid (minS p q = q) := if_pos hc
    clear hc
    go_wp2_with (first | ((with_reducible refine kAny ?_); go_skip) | (with_reducible refine stA ?_) | ((first | refine tLd ?_ | ((first | refine tSr ?_ | refine tSt ?_); clear hL; intro _ hL; simp only [splice, zq1, zq2, zq3] at hL) | ((first | refine tBx ?_ | refine tAl ?_); clear hL; intro _ _ hL _)); simp only [Act.put, zq1, zq2, zq3]))
    refine fin_agg hL Tryz.results73 rfl rfl loX AgC.h (by exact rfl) ?_
    rw [E.out]; exact hb.le leX
  · have E : Hid (minS p q = p) := if_neg hc
    have hn : ¬ icmp (pN q.1 q.2 * pD p.2) (pN p.1 p.2 * pD q.2) < 0 := by
      unfold icmp; rw [if_neg hc]; split <;> omega
    generalize icmp (pN q.1 q.2 * pD p.2) (pN p.1 p.2 * pD q.2) = s at *
    clear hc
    go_wp2_with (first | ((with_reducible refine kAny ?_); go_skip) | (with_reducible refine stA ?_) | ((first | refine tLd ?_ | ((first | refine tSr ?_ | refine tSt ?_); clear hL; intro _ hL; simp only [splice, zq1, zq2, zq3] at hL) | ((first | refine tBx ?_ | refine tAl ?_); clear hL; intro _ _ hL _)); simp only [Act.put, zq1, zq2, zq3]))
    refine fin_agg hL Tryz.results73 rfl rfl loX AgC.h (by exact rfl) ?_
    rw [E.out]; exact ha.le leX
end Go.Proofs.YtmhkmmmompediaaGreat

/- Contracts of enumerate.ValidatePrices and pairingref27.ValidatePrices for valid prices, and where the number of prices is another one. -/
namespace Go.Proofs.YtmhkmmmompediaaGreat
open Go.RowKit

structure PcOk (nf : Nat) (x : Cut) : Prop where
  low : ∀ r ∈ x.1, 0 ≤ r ∧ r < nf
  asc : AscP x.1
  two : 2 ≤ x.2
  le : x.2 ≤ (x.1.length : Int)
structure PrOk (nf : Nat) (p : Pr) : Prop where
  fl : p.fl.length = nf
  f1 : nf ≤ 1000
  cd : p.cd.length = p.cu.length
  k1 : p.cu.length ≤ 32
  k2 : p.de.length ≤ 32
  cuts : ∀ c ∈ p.cu, PcOk nf c
  neg : ∀ q ∈ p.cd, Fit 200 q ∧ rs q ≤ 0
  des : ∀ d ∈ p.de, 0 ≤ d.1 ∧ d.1 < nf ∧ 0 ≤ d.2.1 ∧ d.2.1 < nf ∧ d.1 ≠ d.2.1

set_option maxRecDepth 100000 in
set_option maxHeartbeats 16000000 in
theorem e_ValidatePrices_len (A : Option Addr) (nf n c : Nat) (b1 b2 b3 b4 : Value) (w m : World) (hV : Vw m w) (hn : n ≠ nf) (h1 : nf ≤ 1000) (h2 : n ≤ 1000) :
    Calls Tryz.prog 69 #[.int .i64 nf, .agg #[.slice A n c, b1, b2, b3, b4]] w (RetV w m fun _ r => r = .int .i64 12) := by
  have hL := Loc.start hV
  clear hV
  have e0 : ¬ (nf : Int) < 0 := by omega
  have e1 : ((n : Int) != (nf : Int)) = true := by simp; omega
  go_enter Tryz.func69, Tryz.ntmps69
  go_wp2_with (first | ((with_reducible refine kAny ?_); go_skip) | (with_reducible refine stA ?_) | ((first | refine tIx ?_ | refine tFd ?_ | refine tLd ?_ | ((first | refine tSr ?_ | refine tSt ?_); clear hL; intro _ hL; simp only [splice, zq1, zq2, zq3] at hL) | ((first | refine tBx ?_ | refine tAl ?_); clear hL; intro _ _ hL _)); simp only [Act.put, zq1, zq2, zq3]))
  go_ret
  exact RetV.mk hL rfl

set_option maxRecDepth 100000 in
set_option maxHeartbeats 16000000 in
theorem r_ValidatePrices_len (A : Option Addr) (nf n c : Nat) (b1 b2 b3 b4 : Value) (w m : World) (hV : Vw m w) (hn : n ≠ nf) (h1 : nf ≤ 1000) (h2 : n ≤ 1000) :
    Calls Tryz.prog 77 #[.int .i64 nf, .agg #[.slice A n c, b1, b2, b3, b4]] w (RetV w m fun _ r => r = .int .i64 12) := by
  have hL := Loc.start hV
  clear hV
  have e0 : ¬ (nf : Int) < 0 := by omega
  have e1 : ((n : Int) != (nf : Int)) = true := by simp; omega
  go_enter Tryz.func77, Tryz.ntmps77
  go_wp2_with (first | ((with_reducible refine kAny ?_); go_skip) | (with_reducible refine stA ?_) | ((first | refine tIx ?_ | refine tFd ?_ | refine tLd ?_ | ((first | refine tSr ?_ | refine tSt ?_); clear hL; intro _ hL; simp only [splice, zq1, zq2, zq3] at hL) | ((first | refine tBx ?_ | refine tAl ?_); clear hL; intro _ _ hL _)); simp only [Act.put, zq1, zq2, zq3]))
  go_ret
  exact RetV.mk hL rfl

set_option maxRecDepth 100000 in
set_option maxHeartbeats 32000000 in
theorem e_ValidatePrices (nf : Nat) (v : Value) (p : Pr) (w m : World) (hV : Vw m w) (hv : PricesR m v p) (ok : PrOk nf p) :
    Calls Tryz.prog 69 #[.int .i64 nf, v] w (RetV w m fun _ r => r = .int .i64 0) := by
  obtain ⟨fl, cu, cd, de, fr⟩ := p
  obtain ⟨va, vb, vc, vd, rfl, ha, hb, hc, hd⟩ := hv
  simp only at ha hb hc hd
  obtain ⟨A, ca, rfl, hca, ha⟩ := ha.lit
  obtain ⟨B, cb, rfl, hcb, hb⟩ := hb.lit
  obtain ⟨C, cc, rfl, hcc, hc⟩ := hc.lit
  obtain ⟨D, cx, rfl, hcx, hd⟩ := hd.lit
  obtain ⟨o1, f1, o2, k1, k2, o3, o4, o5⟩ := ok
  simp only at o1 o2 k1 k2 o3 o4 o5
  rw [o1] at ha hca ⊢
  rw [o2] at hc hcc ⊢
  have HB := Lib.hid hb
  have HCD := Lib.hid hc
  have HDE := Lib.hid hd
  have H3 := Lib.hid o3
  have H4 := Lib.hid o4
  have H5 := Lib.hid o5
  have HN2 := Lib.hid o2
  have hL := Loc.start hV
  clear hV o1 o3 o4 o5 hb hc hd
  generalize hn1 : cu.length = nc at *
  have HN1 := Lib.hid hn1
  clear hn1 o2
  generalize hn3 : de.length = nd at *
  have HN3 := Lib.hid hn3
  clear hn3
  have q0 : ¬ (nf : Int) < 0 := by omega
  have q1 : ((nf : Int) != (nf : Int)) = false := by simp
  have q2 : ((nc : Int) != (nc : Int)) = false := by simp
  have q3 : ¬ (nc : Int) > 32 := by omega
  have q4 : ¬ (nd : Int) > 32 := by omega
  go_enter Tryz.func69, Tryz.ntmps69
  go_wp2_with (first | ((with_reducible refine kAny ?_); go_skip) | (with_reducible refine stA ?_) | ((first | refine tIx ?_ | refine tFd ?_ | refine tLd ?_ | ((first | refine tSr ?_ | refine tSt ?_); clear hL; intro _ hL; simp only [splice, zq1, zq2, zq3] at hL) | ((first | refine tBx ?_ | refine tAl ?_); clear hL; intro _ _ hL _)); simp only [Act.put, zq1, zq2, zq3]))
  go_loopw [42] (fun i wr => ∃ (k : Nat) (mm : World), k ≤ nc ∧ i = .int .i64 k ∧ Loc w m wr mm [(w.heap.size, 31, #[.slice A nf ca, .slice B nc cb, .slice C nc cc, .slice D nd cx, .bool fr])]) (fun i _ => nc - (intOf i).toNat)
  case atStart => exact ⟨0, _, Nat.zero_le _, rfl, hL⟩
  case round =>
    clear hL
    obtain ⟨k, mm, hk, rfl, hL⟩ := hrel
    obtain ⟨wq, rfl⟩ := hL.world
    have hM := hL.mext
    by_cases hlt : k < nc
    · obtain ⟨⟨xs, dv⟩, hx⟩ := at_some HN1 hlt
      obtain ⟨q, hq⟩ := at_some HN2 hlt
      have hb := HB.out
      obtain ⟨b1, o1, A1, c1, rfl, hi1, hl1, hlc1, -, -, hr1⟩ := CutL.at_ hb hx
      obtain ⟨i1, i2, i3, i4⟩ := H3.out _ (List.mem_of_getElem? hx)
      obtain ⟨j1, j2⟩ := H4.out _ (List.mem_of_getElem? hq)
      have hc := HCD.out
      obtain ⟨b2, o2, g2, A2, n2, c2, h2, B2, k2', d2, hA2, hp2, hr2⟩ := FracL.at_ hc hq
      simp only at hi1 hl1 hlc1 hr1 i1 i2 i3 i4
      replace hA2 := Lib.hid hA2
      have I1 := Lib.hid i1
      have I2 := Lib.hid i2
      have J1 := Lib.hid j1
      have HI := Lib.hid hi1
      have HP2 := Lib.hid hp2
      have e3 : ¬ dv < 2 := by omega
      have e4 : ¬ dv > (xs.length : Int) := by omega
      have e5 : Hid (rs q ≤ 0) := j2
      clear hx hq hb hc i1 i2 j1 j2 i3 i4 hi1 hp2
      generalize hnx : xs.length = nx at *
      have HNX := Lib.hid hnx
      clear hnx
      go_wp2_with (first | ((with_reducible refine kAny ?_); go_skip) | (with_reducible refine stA ?_) | ((first | refine tIx ?_ | refine tFd ?_ | refine tLd ?_ | ((first | refine tSr ?_ | refine tSt ?_); clear hL; intro _ hL; simp only [splice, zq1, zq2, zq3] at hL) | ((first | refine tBx ?_ | refine tAl ?_); clear hL; intro _ _ hL _)); simp only [Act.put, zq1, zq2, zq3]))
      go_loopw [50] (fun i wr => ∃ (j : Nat) (m2 : World), j ≤ nx ∧ i = .int .i64 j ∧ Loc w m wr m2 [(wq.heap.size, 34, #[.slice A1 nx c1, .int .i64 dv]), (w.heap.size, 31, #[.slice A nf ca, .slice (some ⟨b1, o1, none⟩) nc cb, .slice C nc cc, .slice D nd cx, .bool fr])]) (fun i _ => nx - (intOf i).toNat)
      case atStart => exact ⟨0, _, Nat.zero_le _, rfl, hL⟩
      case round =>
        clear hL hM
        obtain ⟨j, m2, hj, rfl, hL⟩ := hrel
        have hM := hL.mext
        by_cases hlt2 : j < nx
        · obtain ⟨x, hx⟩ := at_some HNX hlt2
          obtain ⟨b3, o3, rfl, hc3⟩ := IntL.at_ HI.out hx
          obtain ⟨x1, x2⟩ := I1.out x (List.mem_of_getElem? hx)
          have x1' : ¬ x < 0 := by omega
          have x2' : ¬ x ≥ nf := by omega
          by_cases h0 : j = 0
          · subst h0
            clear hx x1 x2
            go_wp2_with (first | ((with_reducible refine kAny ?_); go_skip) | (with_reducible refine stA ?_) | ((first | refine tIx ?_ | refine tFd ?_ | refine tLd ?_ | ((first | refine tSr ?_ | refine tSt ?_); clear hL; intro _ hL; simp only [splice, zq1, zq2, zq3] at hL) | ((first | refine tBx ?_ | refine tAl ?_); clear hL; intro _ _ hL _)); simp only [Act.put, zq1, zq2, zq3]))
            go_roundw
            case rel => exact ⟨1, _, by omega, by go_num, hL⟩
            case measure => simp [intOf] <;> omega
          · obtain ⟨i, rfl⟩ : ∃ i, j = i + 1 := ⟨j - 1, by omega⟩
            obtain ⟨y, hy⟩ := at_some HNX (show i < nx by omega)
            obtain ⟨b4, o4, e4', hc4⟩ := IntL.at_ HI.out hy
            obtain ⟨rfl, rfl⟩ : b3 = b4 ∧ o3 = o4 := by simpa using e4'
            have hk0 : ((i + 1 : Nat) : Int) > 0 := by omega
            have hyx := asc_prev I2.out hy hx
            have hj3 : (i : Int) + 1 - 1 = (i : Int) := by omega
            have hjn : i < nx := by omega
            clear hx hy e4' h0 x1 x2
            go_wp2_with (first | ((with_reducible refine kAny ?_); go_skip) | (with_reducible refine stA ?_) | ((first | refine tIx ?_ | refine tFd ?_ | refine tLd ?_ | ((first | refine tSr ?_ | refine tSt ?_); clear hL; intro _ hL; simp only [splice, zq1, zq2, zq3] at hL) | ((first | refine tBx ?_ | refine tAl ?_); clear hL; intro _ _ hL _)); simp only [Act.put, zq1, zq2, zq3]))
            go_roundw
            case rel => exact ⟨i + 1 + 1, _, by omega, by go_num, hL⟩
            case measure => simp [intOf] <;> omega
        · have e3' : ¬ dv < 2 := by omega
          have e4' : ¬ dv > (nx : Int) := by omega
          have hp2 := HP2.out
          have hA3 := hA2.out
          subst hA3
          go_wp2_with (first | ((with_reducible refine kAny ?_); go_skip) | (with_reducible refine stA ?_) | ((first | refine tIx ?_ | refine tFd ?_ | refine tLd ?_ | ((first | refine tSr ?_ | refine tSt ?_); clear hL; intro _ hL; simp only [splice, zq1, zq2, zq3] at hL) | ((first | refine tBx ?_ | refine tAl ?_); clear hL; intro _ _ hL _)); simp only [Act.put, zq1, zq2, zq3]))
          refine (q_Sign _ q _ _ hL.vw (hp2.le leX) J1.out).mono ?_
          rintro e Ws1 ⟨_, ms1, rfl, hE, hMs1, hV, rfl⟩
          replace hL := hL.call hE (by assumption) hV; clear hE hV
          have e6 : ¬ icmp q.num 0 > 0 := by have h := e5.out; unfold rs at h; omega
          generalize icmp q.num 0 = s at *
          go_wp2_with (first | ((with_reducible refine kAny ?_); go_skip) | (with_reducible refine stA ?_) | ((first | refine tIx ?_ | refine tFd ?_ | refine tLd ?_ | ((first | refine tSr ?_ | refine tSt ?_); clear hL; intro _ hL; simp only [splice, zq1, zq2, zq3] at hL) | ((first | refine tBx ?_ | refine tAl ?_); clear hL; intro _ _ hL _)); simp only [Act.put, zq1, zq2, zq3]))
          go_roundw
          case rel => exact ⟨k + 1, _, by omega, by go_num, hL.tail⟩
          case measure => simp [intOf] <;> omega
    · go_wp2_with (first | ((with_reducible refine kAny ?_); go_skip) | (with_reducible refine stA ?_) | ((first | refine tIx ?_ | refine tFd ?_ | refine tLd ?_ | ((first | refine tSr ?_ | refine tSt ?_); clear hL; intro _ hL; simp only [splice, zq1, zq2, zq3] at hL) | ((first | refine tBx ?_ | refine tAl ?_); clear hL; intro _ _ hL _)); simp only [Act.put, zq1, zq2, zq3]))
      clear hlt hk
      go_loopw [99] (fun i wr => ∃ (k : Nat) (mm : World), k ≤ nd ∧ i = .int .i64 k ∧ Loc w m wr mm [(w.heap.size, 31, #[.slice A nf ca, .slice B nc cb, .slice C nc cc, .slice D nd cx, .bool fr])]) (fun i _ => nd - (intOf i).toNat)
      case atStart => exact ⟨0, _, Nat.zero_le _, rfl, hL⟩
      case round =>
        clear hL hM
        obtain ⟨k, mm, hk, rfl, hL⟩ := hrel
        have hM := hL.mext
        by_cases hlt : k < nd
        · obtain ⟨⟨x, y, s⟩, hx⟩ := at_some HN3 hlt
          have hd := HDE.out
          obtain ⟨b1, o1, rfl, hr1⟩ := DecL.at_ hd hx
          obtain ⟨i1, i2, i3, i4, i5⟩ := H5.out _ (List.mem_of_getElem? hx)
          simp only at hr1 i1 i2 i3 i4 i5
          have x1 : ¬ x < 0 := by omega
          have x2 : ¬ x ≥ nf := by omega
          have x3 : ¬ y < 0 := by omega
          have x4 : ¬ y ≥ nf := by omega
          have x5 : (x == y) = false := by simp; omega
          clear hx hd i1 i2 i3 i4 i5
          go_wp2_with (first | ((with_reducible refine kAny ?_); go_skip) | (with_reducible refine stA ?_) | ((first | refine tIx ?_ | refine tFd ?_ | refine tLd ?_ | ((first | refine tSr ?_ | refine tSt ?_); clear hL; intro _ hL; simp only [splice, zq1, zq2, zq3] at hL) | ((first | refine tBx ?_ | refine tAl ?_); clear hL; intro _ _ hL _)); simp only [Act.put, zq1, zq2, zq3]))
          go_roundw
          case rel => exact ⟨k + 1, _, by omega, by go_num, hL.tail⟩
          case measure => simp [intOf] <;> omega
        · go_wp2_with (first | ((with_reducible refine kAny ?_); go_skip) | (with_reducible refine stA ?_) | ((first | refine tIx ?_ | refine tFd ?_ | refine tLd ?_ | ((first | refine tSr ?_ | refine tSt ?_); clear hL; intro _ hL; simp only [splice, zq1, zq2, zq3] at hL) | ((first | refine tBx ?_ | refine tAl ?_); clear hL; intro _ _ hL _)); simp only [Act.put, zq1, zq2, zq3]))
          go_ret
          exact RetV.mk hL rfl
end Go.Proofs.YtmhkmmmompediaaGreat

/- The bound of prices, in plain numbers: sums of fractions whose denominators divide 12. -/
namespace Go.Proofs.YtmhkmmmompediaaGreat
open Go.RowKit

theorem vS_min (p q : SF) : vS (minS p q) = rmin (vS p) (vS q) := by
  unfold rmin
  have e : rs (vS p - vS q) = icmp (pN p.1 p.2 * pD q.2) (pN q.1 q.2 * pD p.2) := rs_cmp p.1 p.2 q.1 q.2
  rw [e]
  unfold minS icmp
  generalize pN p.1 p.2 * pD q.2 = a
  generalize pN q.1 q.2 * pD p.2 = b
  by_cases h : b < a
  · rw [if_pos h, if_neg (show ¬ a < b by omega), if_neg (show ¬ a = b by omega), if_neg (by decide)]
  · rw [if_neg h]
    by_cases h1 : a < b
    · rw [if_pos h1, if_pos (by decide)]
    · rw [if_neg h1, if_pos (show a = b by omega), if_pos (by decide)]

def Tw (B : Nat) (q : Rat) : Prop := ∃ z : Int, q = Rat.divInt z 12 ∧ z.natAbs ≤ B
theorem Tw.mono {B C : Nat} {q : Rat} (h : Tw B q) (hb : B ≤ C) : Tw C q := by
  obtain ⟨z, e, hz⟩ := h
  exact ⟨z, e, by omega⟩
theorem Tw.add {B C : Nat} {p q : Rat} (h : Tw B p) (h' : Tw C q) : Tw (B + C) (p + q) := by
  obtain ⟨z, rfl, hz⟩ := h
  obtain ⟨y, rfl, hy⟩ := h'
  exact ⟨z + y, (add_same (by decide)).symm, by omega⟩
theorem Tw.mulI {B K : Nat} {q : Rat} {k : Int} (h : Tw B q) (hk : k.natAbs ≤ K) : Tw (B * K) (q * (k : Rat)) := by
  obtain ⟨z, rfl, hz⟩ := h
  refine ⟨z * k, ?_, ?_⟩
  · rw [← rat_one k, Rat.divInt_mul_divInt]; rfl
  · rw [Int.natAbs_mul]; exact Nat.mul_le_mul hz hk
theorem Tw.int {K : Nat} {k : Int} (hk : k.natAbs ≤ K) : Tw (K * 12) (k : Rat) := by
  refine ⟨k * 12, ?_, by rw [Int.natAbs_mul]; exact Nat.mul_le_mul_right _ hk⟩
  rw [← rat_one k, ← Rat.divInt_mul_right (n := k) (d := 1) (a := 12) (by decide)]; rfl
theorem Tw.tn {B k : Nat} {q : Rat} (h : Tw B q) (h1 : B ≤ k) (h2 : 12 ≤ k) : Tn k q := by
  obtain ⟨z, rfl, hz⟩ := h
  exact Tn.divInt (by decide) (by omega) (by omega)
theorem Tw.min {B : Nat} {p q : Rat} (h : Tw B p) (h' : Tw B q) : Tw B (rmin p q) := by
  unfold rmin; split
  · exact h
  · exact h'
theorem Tw.neg {B : Nat} {q : Rat} (h : Tw B q) : Tw B (-q) := by
  obtain ⟨z, rfl, hz⟩ := h
  exact ⟨-z, by rw [Rat.neg_divInt], by omega⟩
theorem Tw.negF {B : Nat} {q : Rat} (h : Tw B q) : Tw B (negF q) := by
  unfold Go.Proofs.YtmhkmmmompediaaGreat.negF
  split
  · exact h.neg
  · exact h
theorem frF_tw (n : Int) : Tw 120 (frF n) := by
  have h1 := fN_bd n
  have h2 := fD_bd n
  unfold frF
  rw [div_mix]
  generalize fN n = a at *
  generalize fD n = d at *
  obtain rfl | rfl | rfl | rfl : d = 1 ∨ d = 2 ∨ d = 3 ∨ d = 4 := by omega
  · exact ⟨a * 12, by rw [← Rat.divInt_mul_right (n := a) (d := 1) (a := 12) (by decide)]; rfl, by omega⟩
  · exact ⟨a * 6, by rw [← Rat.divInt_mul_right (n := a) (d := 2) (a := 6) (by decide)]; rfl, by omega⟩
  · exact ⟨a * 4, by rw [← Rat.divInt_mul_right (n := a) (d := 3) (a := 4) (by decide)]; rfl, by omega⟩
  · exact ⟨a * 3, by rw [← Rat.divInt_mul_right (n := a) (d := 4) (a := 3) (by decide)]; rfl, by omega⟩
theorem wild_tw (n : Int) : Tw 120 (vS (wN n, wD n)) := by
  unfold vS wN wD
  by_cases h : wkF n = 0
  · simp only [h, Int.mul_zero]
    exact ⟨0, by simp, by decide⟩
  · simp only []
    rw [Rat.divInt_mul_right h, Rat.num_divInt_den]
    exact frF_tw n

def psum (s : Rat) (ts : List Rat) (k : Nat) : Rat := (ts.take k).foldl (· + ·) s
theorem psum_zero (s : Rat) (ts : List Rat) : psum s ts 0 = s := rfl
theorem psum_step {s : Rat} {ts : List Rat} {k : Nat} {t : Rat} (h : ts[k]? = some t) : psum s ts (k + 1) = psum s ts k + t := by
  unfold psum
  rw [List.take_add_one, h]
  simp [List.foldl_append]
theorem psum_tw {B C : Nat} {s : Rat} {ts : List Rat} (hs : Tw C s) (ht : ∀ t ∈ ts, Tw B t) : ∀ k, k ≤ ts.length → Tw (C + k * B) (psum s ts k) := by
  intro k
  induction k with
  | zero => intro _; rw [psum_zero]; exact hs.mono (by omega)
  | succ k ih =>
    intro hk
    have hx : ts[k]? = some (ts[k]'(by omega)) := List.getElem?_eq_getElem (by omega)
    rw [psum_step hx]
    refine ((ih (by omega)).add (ht _ (List.getElem_mem _))).mono ?_
    rw [Nat.succ_mul]; omega
theorem foldl_shift (s t : Rat) (ts : List Rat) : ts.foldl (· + ·) (s + t) = s + ts.foldl (· + ·) t := by
  induction ts generalizing t with
  | nil => rfl
  | cons x ts ih => simp only [List.foldl_cons]; rw [Rat.add_assoc, ih]
theorem psum_shift (s : Rat) (ts : List Rat) (k : Nat) : psum s ts k = psum 0 ts k + s := by
  unfold psum
  have := foldl_shift s 0 (ts.take k)
  rw [Rat.add_zero] at this
  rw [this, Rat.add_comm]

def rowT (pen : Int) (fl : List Rat) (rs : List Int) : List Rat := rs.map fun r => rmin (fl.getD r.toNat 0) (pen : Rat)
def ctT (cu : List Cut) (cd : List Rat) : List Rat := List.zipWith (fun c d => d * (((c.1.length : Int) / c.2 : Int) : Rat)) cu cd
theorem rowT_at {pen : Int} {fl : List Rat} {rs : List Int} {k j : Nat} {q : Rat} (h : rs[k]? = some (j : Int)) (hq : fl[j]? = some q) : (rowT pen fl rs)[k]? = some (rmin q (pen : Rat)) := by
  unfold rowT
  rw [List.getElem?_map, h]
  simp [List.getD, hq]
theorem ctT_at {cu : List Cut} {cd : List Rat} {k : Nat} {c : Cut} {d : Rat} (h : cu[k]? = some c) (hd : cd[k]? = some d) : (ctT cu cd)[k]? = some (d * (((c.1.length : Int) / c.2 : Int) : Rat)) := by
  unfold ctT
  rw [List.getElem?_zipWith, h, hd]
theorem rowT_len (pen : Int) (fl : List Rat) (rs : List Int) : (rowT pen fl rs).length = rs.length := by simp [rowT]
theorem ctT_len {cu : List Cut} {cd : List Rat} (h : cd.length = cu.length) : (ctT cu cd).length = cu.length := by simp [ctT, h]
def AllIn (cu : List Cut) (rs : List Int) : Prop := ∀ c ∈ cu, ∀ r ∈ c.1, r ∈ rs
def bTerms (x : Ms) (p : Pr) : List Rat := rowT x.pen p.fl x.rows ++ ctT p.cu p.cd
def bTail (x : Ms) (l : SF) : Rat := ((x.rows.length : Int) : Rat) * rmin (vS l) ((0 : Int) : Rat)
def bnd (x : Ms) (p : Pr) (l : SF) : Rat := psum ((0 : Int) : Rat) (bTerms x p) (x.rows.length + p.cu.length) + bTail x l
end Go.Proofs.YtmhkmmmompediaaGreat
