/- Part 5 of 8 of the proof: the laws CutsTight and CutsViolation return true for every input, and its arguments read as before; there is no condition. -/
import Derived.Test.YtmhkmmmompediaaGreatCT4
set_option linter.unusedVariables false
set_option linter.unusedSimpArgs false
/- Contract of pairingdata.Values. -/
namespace Go.Proofs.YtmhkmmmompediaaGreat
open Go.RowKit

def valT (a : Int) : Rat := if a % 29 = 28 then Rat.divInt (-1) 3 else Rat.divInt (a % 4) (2 + a / 4 % 2)
def valsF (l : List Int) (n : Nat) : List Rat := (List.range n).map fun i => valT (atF l i)
theorem valsF_snoc (l : List Int) (j : Nat) {a : Int} (h : Hid (atF l j = a)) : valsF l j ++ [valT a] = valsF l (j + 1) := by
  unfold valsF; rw [List.range_succ, List.map_append, ← h.out]; rfl
theorem valT_tw (a : Int) : Tw 18 (valT a) := by
  unfold valT
  split
  · exact ⟨-4, by rw [← Rat.divInt_mul_right (n := -1) (d := 3) (a := 4) (by decide)]; rfl, by decide⟩
  · rcases (by omega : a / 4 % 2 = 0 ∨ a / 4 % 2 = 1) with e | e
    · rw [e]
      exact ⟨a % 4 * 6, by rw [← Rat.divInt_mul_right (n := a % 4) (d := 2 + 0) (a := 6) (by decide)]; rfl, by omega⟩
    · rw [e]
      exact ⟨a % 4 * 4, by rw [← Rat.divInt_mul_right (n := a % 4) (d := 2 + 1) (a := 4) (by decide)]; rfl, by omega⟩
theorem valsF_tw (l : List Int) (n : Nat) : ∀ v ∈ valsF l n, Tw 18 v := by
  intro v hv
  obtain ⟨i, -, rfl⟩ := List.mem_map.1 hv
  exact valT_tw _

set_option maxRecDepth 100000 in
set_option maxHeartbeats 32000000 in
theorem d_Values (A : Option Addr) (c : Nat) (l : List Int) (n : Nat) (z : Int) (w m : World) (hV : Vw m w) (h : Sl m A (l.map I64)) (hz : z = n) (hn : n ≤ 1000) :
    Calls Tryz.prog 36 #[.slice A l.length c, .int .i64 z] w (RetV w m fun m' r => FracL m' r (valsF l n)) := by
  subst hz
  have HL : Hid True := trivial
  generalize hN : l.length = N
  have HN := Lib.hid hN
  clear hN
  have hL := Loc.start hV
  clear hV
  go_enter Tryz.func36, Tryz.ntmps36
  go_wp2_with (first | ((with_reducible refine kAny ?_); go_skip) | (with_reducible refine stA ?_) | ((first | refine tLd ?_ | ((first | refine tSr ?_ | refine tSt ?_); clear hL; intro _ hL; simp only [splice, zq1, zq2, zq3] at hL) | (refine tAl ?_; clear hL; intro _ _ hL _) | (refine tBs ?_; clear hL; intro _ _ hL _ hBs)); simp only [Act.put, zq1, zq2, zq3]))
  go_loopw [5, 6] (fun ov i wr => ∃ (j : Nat) (mm : World) (Rr : List Lo), j ≤ n ∧ i = .int .i64 j ∧ Loc w m wr mm Rr ∧ Hid (RowA 39 4 FracC mm ov j (valsF l j) Rr)) (fun _ i _ => n - (intOf i).toNat)
  case atStart => exact ⟨0, _, [], Nat.zero_le _, rfl, hL, RowA.nil⟩
  case round =>
    clear hL
    obtain ⟨j, mm, Rr, hj, rfl, hL, row⟩ := hrel
    have hM := hL.mext
    have hA := h.le hM.le
    obtain ⟨A7, c7, rfl, row1⟩ := row.out.lit
    have ROW := Lib.hid row1
    clear row row1 hM
    by_cases hlt : j < n
    · obtain ⟨a, Ea, pa, pa'⟩ := atX l j (by omega)
      have hlt' : (j : Int) < (n : Int) := by omega
      have e1 := i64_and1 (a / 4)
      have VT := Lib.hid (valsF_snoc l j Ea)
      have F0 : Hid (Fit 200 ((a % 4 : Int) : Rat)) := (Tn.int (k := 1000) (by omega) (by decide)).fit (by decide)
      have F1 : Hid (Fit 200 ((2 + a / 4 % 2 : Int) : Rat)) := (Tn.int (k := 1000) (by omega) (by decide)).fit (by decide)
      have F2 : Hid (Fit 200 ((-1 : Int) : Rat)) := (Tn.int (k := 1000) (by decide) (by decide)).fit (by decide)
      have F3 : Hid (Fit 200 ((3 : Int) : Rat)) := (Tn.int (k := 1000) (by decide) (by decide)).fit (by decide)
      go_wp2_with (first | ((with_reducible refine kAny ?_); go_skip) | (with_reducible refine stA ?_) | ((first | refine tLd ?_ | ((first | refine tSr ?_ | refine tSt ?_); clear hL; intro _ hL; simp only [splice, zq1, zq2, zq3] at hL) | (refine tAl ?_; clear hL; intro _ _ hL _) | (refine tBs ?_; clear hL; intro _ _ hL _ hBs)); simp only [Act.put, zq1, zq2, zq3]))
      refine (d_AtE _ _ _ l _ j a _ _ hL.vw (hA.le leX) HN HL Ea rfl (by omega)).mono ?_
      rintro e Wc1 ⟨_, mc1, rfl, hE, hMc1, hV, rfl⟩
      replace hL := hL.call hE (by assumption) hV; clear hE hV
      go_wp2_with (first | ((with_reducible refine kAny ?_); go_skip) | (with_reducible refine stA ?_) | ((first | refine tLd ?_ | ((first | refine tSr ?_ | refine tSt ?_); clear hL; intro _ hL; simp only [splice, zq1, zq2, zq3] at hL) | (refine tAl ?_; clear hL; intro _ _ hL _) | (refine tBs ?_; clear hL; intro _ _ hL _ hBs)); simp only [Act.put, zq1, zq2, zq3]))
      refine (r_Int (a % 4) _ _ hL.vw (by omega) (by omega)).mono ?_
      rintro e Wc2 ⟨vc2, mc2, rfl, hE, hMc2, hV, hc2⟩
      replace hL := hL.call hE (by assumption) hV; clear hE hV
      obtain ⟨gc2', Ac2', nc2', cc2', hc2', Bc2', kc2', dc2', rfl, hc2⟩ := hc2.lit
      go_wp2_with (first | ((with_reducible refine kAny ?_); go_skip) | (with_reducible refine stA ?_) | ((first | refine tLd ?_ | ((first | refine tSr ?_ | refine tSt ?_); clear hL; intro _ hL; simp only [splice, zq1, zq2, zq3] at hL) | (refine tAl ?_; clear hL; intro _ _ hL _) | (refine tBs ?_; clear hL; intro _ _ hL _ hBs)); simp only [Act.put, zq1, zq2, zq3]))
      refine (r_Int (2 + a / 4 % 2) _ _ hL.vw (by omega) (by omega)).mono ?_
      rintro e Wc3 ⟨vc3, mc3, rfl, hE, hMc3, hV, hc3⟩
      replace hL := hL.call hE (by assumption) hV; clear hE hV
      obtain ⟨gc3', Ac3', nc3', cc3', hc3', Bc3', kc3', dc3', rfl, hc3⟩ := hc3.lit
      go_wp2_with (first | ((with_reducible refine kAny ?_); go_skip) | (with_reducible refine stA ?_) | ((first | refine tLd ?_ | ((first | refine tSr ?_ | refine tSt ?_); clear hL; intro _ hL; simp only [splice, zq1, zq2, zq3] at hL) | (refine tAl ?_; clear hL; intro _ _ hL _) | (refine tBs ?_; clear hL; intro _ _ hL _ hBs)); simp only [Act.put, zq1, zq2, zq3]))
      refine (r_DivC _ _ _ _ _ _ hL.vw (hc2.le leX) hc3 F0.out F1.out).mono ?_
      rintro e Wc4 ⟨vc4, mc4, rfl, hE, hMc4, hV, hc4⟩
      replace hL := hL.call hE (by assumption) hV; clear hE hV
      obtain ⟨gc4', Ac4', nc4', cc4', hc4', Bc4', kc4', dc4', rfl, hc4⟩ := hc4.lit
      rw [div_mix] at hc4
      clear hc2 hc3
      by_cases h29 : a % 29 = 28
      · have b1 := bt h29
        have HW : Hid (valT a = Rat.divInt (-1) 3) := by show _ = _; unfold valT; rw [if_pos h29]
        clear h29 hc4
        go_wp2_with (first | ((with_reducible refine kAny ?_); go_skip) | (with_reducible refine stA ?_) | ((first | refine tLd ?_ | ((first | refine tSr ?_ | refine tSt ?_); clear hL; intro _ hL; simp only [splice, zq1, zq2, zq3] at hL) | (refine tAl ?_; clear hL; intro _ _ hL _) | (refine tBs ?_; clear hL; intro _ _ hL _ hBs)); simp only [Act.put, zq1, zq2, zq3]))
        refine (r_Int (-1) _ _ hL.vw (by decide) (by decide)).mono ?_
        rintro e Wc5 ⟨vc5, mc5, rfl, hE, hMc5, hV, hc5⟩
        replace hL := hL.call hE (by assumption) hV; clear hE hV
        obtain ⟨gc5', Ac5', nc5', cc5', hc5', Bc5', kc5', dc5', rfl, hc5⟩ := hc5.lit
        go_wp2_with (first | ((with_reducible refine kAny ?_); go_skip) | (with_reducible refine stA ?_) | ((first | refine tLd ?_ | ((first | refine tSr ?_ | refine tSt ?_); clear hL; intro _ hL; simp only [splice, zq1, zq2, zq3] at hL) | (refine tAl ?_; clear hL; intro _ _ hL _) | (refine tBs ?_; clear hL; intro _ _ hL _ hBs)); simp only [Act.put, zq1, zq2, zq3]))
        refine (r_Int 3 _ _ hL.vw (by decide) (by decide)).mono ?_
        rintro e Wc6 ⟨vc6, mc6, rfl, hE, hMc6, hV, hc6⟩
        replace hL := hL.call hE (by assumption) hV; clear hE hV
        obtain ⟨gc6', Ac6', nc6', cc6', hc6', Bc6', kc6', dc6', rfl, hc6⟩ := hc6.lit
        go_wp2_with (first | ((with_reducible refine kAny ?_); go_skip) | (with_reducible refine stA ?_) | ((first | refine tLd ?_ | ((first | refine tSr ?_ | refine tSt ?_); clear hL; intro _ hL; simp only [splice, zq1, zq2, zq3] at hL) | (refine tAl ?_; clear hL; intro _ _ hL _) | (refine tBs ?_; clear hL; intro _ _ hL _ hBs)); simp only [Act.put, zq1, zq2, zq3]))
        refine (r_DivC _ _ _ _ _ _ hL.vw (hc5.le leX) hc6 F2.out F3.out).mono ?_
        rintro e Wc4 ⟨vc4, mc4, rfl, hE, hMc4, hV, hc4⟩
        replace hL := hL.call hE (by assumption) hV; clear hE hV
        obtain ⟨gc4', Ac4', nc4', cc4', hc4', Bc4', kc4', dc4', rfl, hc4⟩ := hc4.lit
        rw [div_mix] at hc4
        have HC4 : Hid (FracC mc4 (.agg #[.bool gc4', .slice Ac4' nc4' cc4', .bool hc4', .slice Bc4' kc4' dc4']) (valT a)) := by rw [HW.out]; exact hc4
        clear hc5 hc6 hc4
        go_wp2_with (first | ((with_reducible refine kAny ?_); go_skip) | (with_reducible refine stA ?_) | ((first | refine tLd ?_ | ((first | refine tSr ?_ | refine tSt ?_); clear hL; intro _ hL; simp only [splice, zq1, zq2, zq3] at hL) | (refine tAl ?_; clear hL; intro _ _ hL _) | (refine tBs ?_; clear hL; intro _ _ hL _ hBs)); simp only [Act.put, zq1, zq2, zq3]))
        refine goA ?_
        obtain ⟨vs7, r7, z7, y7, l7⟩ := ROW.out
        refine wl_append (A := [_]) hL r7 (wanted_none rfl) rfl ap_Fracs (by omega) rfl rfl (news := [.bool gc4', .slice Ac4' nc4' cc4', .bool hc4', .slice Bc4' kc4' dc4']) rfl ((Blk.sl hBs (n := 4) rfl).le hL.vw.le) rfl (by omega) (by omega) ?_
        clear hL
        intro v1 W5 m5 R5 hL r8 e8
        obtain ⟨A9, c9, rfl, -⟩ := r8.lit
        simp only [List.cons_append, List.nil_append] at hL
        have rd := RowA.snoc (R := FracC) (m := m5) (x := valT a) r8 z7 (y7.mono fun v x hv => hv.le (leX : Le mm m5)) l7 rfl (HC4.out.le leX)
        rw [VT.out] at rd
        have RD := Lib.hid rd
        clear rd r8 r7 z7 y7 l7
        simp only [Act.put, zq1, zq2, zq3]
        go_wp2_with (first | ((with_reducible refine kAny ?_); go_skip) | (with_reducible refine stA ?_) | ((first | refine tLd ?_ | ((first | refine tSr ?_ | refine tSt ?_); clear hL; intro _ hL; simp only [splice, zq1, zq2, zq3] at hL) | (refine tAl ?_; clear hL; intro _ _ hL _) | (refine tBs ?_; clear hL; intro _ _ hL _ hBs)); simp only [Act.put, zq1, zq2, zq3]))
        go_roundw
        case rel => exact ⟨j + 1, m5, R5, by omega, by go_num, hL.tail, RD.out⟩
        case measure => simp [intOf] <;> omega
      · have b1 := bf h29
        have HW : Hid (valT a = Rat.divInt (a % 4) (2 + a / 4 % 2)) := by show _ = _; unfold valT; rw [if_neg h29]
        have HC4 : Hid (FracC mc4 (.agg #[.bool gc4', .slice Ac4' nc4' cc4', .bool hc4', .slice Bc4' kc4' dc4']) (valT a)) := by rw [HW.out]; exact hc4
        clear h29 hc4
        go_wp2_with (first | ((with_reducible refine kAny ?_); go_skip) | (with_reducible refine stA ?_) | ((first | refine tLd ?_ | ((first | refine tSr ?_ | refine tSt ?_); clear hL; intro _ hL; simp only [splice, zq1, zq2, zq3] at hL) | (refine tAl ?_; clear hL; intro _ _ hL _) | (refine tBs ?_; clear hL; intro _ _ hL _ hBs)); simp only [Act.put, zq1, zq2, zq3]))
        refine goA ?_
        obtain ⟨vs7, r7, z7, y7, l7⟩ := ROW.out
        refine wl_append (A := [_]) hL r7 (wanted_none rfl) rfl ap_Fracs (by omega) rfl rfl (news := [.bool gc4', .slice Ac4' nc4' cc4', .bool hc4', .slice Bc4' kc4' dc4']) rfl ((Blk.sl hBs (n := 4) rfl).le hL.vw.le) rfl (by omega) (by omega) ?_
        clear hL
        intro v1 W5 m5 R5 hL r8 e8
        obtain ⟨A9, c9, rfl, -⟩ := r8.lit
        simp only [List.cons_append, List.nil_append] at hL
        have rd := RowA.snoc (R := FracC) (m := m5) (x := valT a) r8 z7 (y7.mono fun v x hv => hv.le (leX : Le mm m5)) l7 rfl (HC4.out.le leX)
        rw [VT.out] at rd
        have RD := Lib.hid rd
        clear rd r8 r7 z7 y7 l7
        simp only [Act.put, zq1, zq2, zq3]
        go_wp2_with (first | ((with_reducible refine kAny ?_); go_skip) | (with_reducible refine stA ?_) | ((first | refine tLd ?_ | ((first | refine tSr ?_ | refine tSt ?_); clear hL; intro _ hL; simp only [splice, zq1, zq2, zq3] at hL) | (refine tAl ?_; clear hL; intro _ _ hL _) | (refine tBs ?_; clear hL; intro _ _ hL _ hBs)); simp only [Act.put, zq1, zq2, zq3]))
        go_roundw
        case rel => exact ⟨j + 1, m5, R5, by omega, by go_num, hL.tail, RD.out⟩
        case measure => simp [intOf] <;> omega
    · have hjn : j = n := by omega
      subst hjn
      go_wp2_with (first | ((with_reducible refine kAny ?_); go_skip) | (with_reducible refine stA ?_) | ((first | refine tLd ?_ | ((first | refine tSr ?_ | refine tSt ?_); clear hL; intro _ hL; simp only [splice, zq1, zq2, zq3] at hL) | (refine tAl ?_; clear hL; intro _ _ hL _) | (refine tBs ?_; clear hL; intro _ _ hL _ hBs)); simp only [Act.put, zq1, zq2, zq3]))
      obtain ⟨m5, hL5, hle5, hfl, -⟩ := RowA.show (A := []) FracC.mono hL ROW.out
      go_ret
      exact RetV.mk hL5 hfl
end Go.Proofs.YtmhkmmmompediaaGreat

/- Coefficients of cuts: contracts of enumerate.coefficient, enumerate.Coefficient and pairingref27.Coefficient. -/
namespace Go.Proofs.YtmhkmmmompediaaGreat
open Go.RowKit

def coefN (rs l : List Int) : Nat := (l.filter fun f => decide (f ∈ rs)).length
def coefF (c : Cut) (l : List Int) : Int := (coefN c.1 l : Int) / c.2
theorem coefN_step {rs l : List Int} {j : Nat} {f : Int} (h : l[j]? = some f) : coefN rs (l.take (j + 1)) = if f ∈ rs then coefN rs (l.take j) + 1 else coefN rs (l.take j) := by
  unfold coefN
  rw [← take_snoc h, List.filter_append, List.length_append]
  by_cases hf : f ∈ rs
  · rw [if_pos hf]; simp [hf]
  · rw [if_neg hf]; simp [hf]
theorem coefN_end {rs l : List Int} {j : Nat} (h : l.length ≤ j) : coefN rs (l.take j) = coefN rs l := by rw [List.take_of_length_le h]
theorem coefN_le (rs l : List Int) : coefN rs l ≤ l.length := List.length_filter_le _ _
theorem quoE {n : Nat} {d : Int} (hd : 1 ≤ d) (hn : n ≤ 1000000) : wrap64 ((n : Int).tdiv d) = (n : Int) / d ∧ wrap64 ((n : Int) / d) = (n : Int) / d ∧ (n : Int).tdiv d = (n : Int) / d := by
  have e : (n : Int).tdiv d = (n : Int) / d := Int.tdiv_eq_ediv_of_nonneg (by omega)
  have h1 : ((n : Int) / d).natAbs ≤ n := by have := Int.natAbs_ediv_le_natAbs (n : Int) d; simpa using this
  have h2 : wrap64 ((n : Int) / d) = (n : Int) / d := by unfold wrap64; omega
  exact ⟨by rw [e]; exact h2, h2, e⟩
theorem run_makeMapH (n : Int) (w : World) : (Instr.makeMap 149 (some (.int .i64 n))).run Tryz.prog w = .ok (.map (some w.heap.size)) (w.alloc (.map #[] 0)) := by
  simp [Instr.makeMap, Sem.run_bind, run_underlying Tryz.underlying149 w, asInt, asIntOf, run_newObj_alloc, Result.andThen]

set_option maxRecDepth 100000 in
set_option maxHeartbeats 32000000 in
theorem e_coefficient (xv v : Value) (x : Cut) (l : List Int) (w m : World) (hV : Vw m w) (hx : CutR m xv x) (h : IntL m v l) (h1 : x.1.length ≤ 1000000) (h2 : l.length ≤ 1000000) (hd : 1 ≤ x.2)
    (hw1 : ∀ r ∈ x.1, (Lit.int .i64 r).wf = true) (hw2 : ∀ f ∈ l, (Lit.int .i64 f).wf = true) :
    Calls Tryz.prog 190 #[xv, v] w (RetV w m fun _ r => r = .int .i64 (coefF x l)) := by
  obtain ⟨rs, d⟩ := x
  obtain ⟨s, rfl, hs, hsl⟩ := hx
  simp only at hs h1 hd hw1
  obtain ⟨A, ca, rfl, hca, hs⟩ := hs.lit
  obtain ⟨B, cb, rfl, hcb, h⟩ := h.lit
  have HS := Lib.hid hs
  have HB := Lib.hid h
  have HW1 := Lib.hid hw1
  have HW2 := Lib.hid hw2
  have HNB : Hid (coefN rs l ≤ 1000000) := Nat.le_trans (coefN_le rs l) h2
  have hL := Loc.start hV
  clear hV hs h hsl hw1 hw2
  simp only
  generalize hn : rs.length = n at *
  have HN := Lib.hid hn
  clear hn
  generalize hk : l.length = k at *
  have HK := Lib.hid hk
  clear hk
  have hmm := run_makeMapH
  go_enter Tryz.func190, Tryz.ntmps190
  go_upto_region 0 with (fail)
  refine wp_region_lit ?_
  refine t_box hL rfl rfl ?_; clear hL; intro Wh2 mh2 hL eh2; simp only [Act.put, zq1, zq2, zq3]
  go_upto_region 2 with ((first | ((with_reducible refine kAny ?_); go_skip) | (with_reducible refine stA ?_) | ((first | refine tIx ?_ | refine tFd ?_ | refine tLd ?_ | (refine tBx ?_; clear hL; intro _ _ hL _)); simp only [Act.put, zq1, zq2, zq3])))
  clear hmm
  have hlow : w.heap.size ≤ Wh2.heap.size := hL.ext.size
  have hsz := hL.vw.size
  have hL9 := hL.allocM (.map #[] 0)
  clear hL
  have hL := hL9
  clear hL9
  refine wp_region_lit ?_
  go_wp2_with (first | ((with_reducible refine kAny ?_); go_skip) | (with_reducible refine stA ?_) | ((first | refine tIx ?_ | refine tFd ?_ | refine tLd ?_ | (refine tBx ?_; clear hL; intro _ _ hL _)); simp only [Act.put, zq1, zq2, zq3]))
  go_loopw [18] (fun i wr => ∃ (j : Nat) (mm : World), j ≤ n ∧ i = .int .i64 j ∧ Loc w m wr mm [(w.heap.size, 34, #[.slice A n ca, .int .i64 d])] ∧ Hid (BSet wr Wh2.heap.size (rs.take j))) (fun i _ => n - (intOf i).toNat)
  case atStart => exact ⟨0, _, Nat.zero_le _, rfl, hL, BSet.made _⟩
  case round =>
    clear hL
    obtain ⟨j, mm, hj, rfl, hL, HBS⟩ := hrel
    have hM := hL.mext
    by_cases hlt : j < n
    · obtain ⟨f, hf⟩ := at_some HN hlt
      obtain ⟨b3, o3, rfl, hc3⟩ := IntL.at_ HS.out hf
      have HT : Hid (rs.take j ++ [f] = rs.take (j + 1)) := take_snoc hf
      have HLN : Hid ((rs.take j).length ≤ 1000000) := by show _ ≤ _; simp; omega
      have hlt' : (j : Int) < (n : Int) := by omega
      obtain ⟨W9, hup, hb9, hg9⟩ := HBS.out.up HLN.out (HW1.out f (List.mem_of_getElem? hf))
      have HB9 := Lib.hid hb9
      have HG9 := Lib.hid hg9
      have HNC := Lib.hid HBS.out.notCells
      clear hf hb9 hg9
      go_wp2_with (first | ((with_reducible refine kAny ?_); go_skip) | (with_reducible refine stA ?_) | ((first | refine tIx ?_ | refine tFd ?_ | refine tLd ?_ | (refine tBx ?_; clear hL; intro _ _ hL _)); simp only [Act.put, zq1, zq2, zq3]))
      go_roundw
      case rel => exact ⟨j + 1, _, by omega, by go_num, hL.mapTurn HG9.out hlow HNC.out, by rw [← HT.out]; exact HB9.out⟩
      case measure => simp [intOf] <;> omega
    · have HBR : Hid (BSet wr Wh2.heap.size rs) := by
        show BSet _ _ _
        have := HBS.out
        rwa [List.take_of_length_le (by rw [HN.out]; omega)] at this
      have h9 : (n : Int) ≤ (j : Int) := by omega
      clear HBS
      go_wp2_with (first | ((with_reducible refine kAny ?_); go_skip) | (with_reducible refine stA ?_) | ((first | refine tIx ?_ | refine tFd ?_ | refine tLd ?_ | (refine tBx ?_; clear hL; intro _ _ hL _)); simp only [Act.put, zq1, zq2, zq3]))
      clear h9 hlt hj
      go_loopw [8, 27] (fun nn i w2 => ∃ (j : Nat) (mm : World), j ≤ k ∧ i = .int .i64 j ∧ nn = .int .i64 (coefN rs (l.take j) : Nat) ∧ Loc w m w2 mm [(w.heap.size, 34, #[.slice A n ca, .int .i64 d])] ∧ Hid (BSet w2 Wh2.heap.size rs)) (fun _ i _ => k - (intOf i).toNat)
      case atStart => exact ⟨0, _, Nat.zero_le _, rfl, rfl, hL, HBR.out⟩
      case round =>
        clear hL hM HBR
        obtain ⟨j, mm, hj, rfl, rfl, hL, HBS⟩ := hrel
        have hM := hL.mext
        by_cases hlt : j < k
        · obtain ⟨f, hf⟩ := at_some HK hlt
          obtain ⟨b4, o4, rfl, hc4⟩ := IntL.at_ HB.out hf
          have HST := Lib.hid (coefN_step (rs := rs) hf)
          have hlt' : (j : Int) < (k : Int) := by omega
          have hlk := HBS.out.look (HW2.out f (List.mem_of_getElem? hf))
          have HCL : coefN rs (l.take j) ≤ 1000000 := by
            have h1 := coefN_le rs (l.take j)
            have h2 : (l.take j).length ≤ j := by simp; omega
            omega
          clear hf
          generalize hcn : coefN rs (l.take j) = cn at *
          have HCN := Lib.hid hcn
          clear hcn
          by_cases hin : f ∈ rs
          · rw [decide_eq_true hin] at hlk
            rw [if_pos hin] at HST
            clear hin
            go_wp2_with (first | ((with_reducible refine kAny ?_); go_skip) | (with_reducible refine stA ?_) | ((first | refine tIx ?_ | refine tFd ?_ | refine tLd ?_ | (refine tBx ?_; clear hL; intro _ _ hL _)); simp only [Act.put, zq1, zq2, zq3]))
            go_roundw
            case rel => exact ⟨j + 1, _, by omega, by go_num, by rw [HST.out]; go_num, hL, HBS.out⟩
            case measure => simp [intOf] <;> omega
          · rw [decide_eq_false hin] at hlk
            rw [if_neg hin] at HST
            clear hin
            go_wp2_with (first | ((with_reducible refine kAny ?_); go_skip) | (with_reducible refine stA ?_) | ((first | refine tIx ?_ | refine tFd ?_ | refine tLd ?_ | (refine tBx ?_; clear hL; intro _ _ hL _)); simp only [Act.put, zq1, zq2, zq3]))
            go_roundw
            case rel => exact ⟨j + 1, _, by omega, by go_num, by rw [HST.out], hL, HBS.out⟩
            case measure => simp [intOf] <;> omega
        · have HE : Hid (coefN rs (l.take j) = coefN rs l) := coefN_end (by rw [HK.out]; omega)
          rw [HE.out]
          have h9 : (k : Int) ≤ (j : Int) := by omega
          have HQ := Lib.hid (quoE hd HNB.out)
          have hd0 : d ≠ 0 := by omega
          have HCF : Hid (coefF (rs, d) l = ((coefN rs l : Nat) : Int) / d) := rfl
          generalize coefN rs l = cn at *
          go_wp2_with (first | ((with_reducible refine kAny ?_); go_skip) | (with_reducible refine stA ?_) | ((first | refine tIx ?_ | refine tFd ?_ | refine tLd ?_ | (refine tBx ?_; clear hL; intro _ _ hL _)); simp only [Act.put, zq1, zq2, zq3]))
          go_ret
          exact RetV.mk hL (by rw [HCF.out]; exact congrArg (Value.int .i64) HQ.out.2.1)

set_option maxRecDepth 100000 in
set_option maxHeartbeats 16000000 in
theorem r_Coefficient (xv v : Value) (x : Cut) (l : List Int) (w m : World) (hV : Vw m w) (hx : CutR m xv x) (h : IntL m v l) (h1 : x.1.length ≤ 1000000) (h2 : l.length ≤ 1000000) (hd : 1 ≤ x.2) :
    Calls Tryz.prog 46 #[xv, v] w (RetV w m fun _ r => r = .int .i64 (coefF x l)) := by
  obtain ⟨rs, d⟩ := x
  obtain ⟨s, rfl, hs, hsl⟩ := hx
  simp only at hs h1 hd
  obtain ⟨A, ca, rfl, hca, hs⟩ := hs.lit
  obtain ⟨B, cb, rfl, hcb, h⟩ := h.lit
  have HS := Lib.hid hs
  have HB := Lib.hid h
  have HNB : Hid (coefN rs l ≤ 1000000) := Nat.le_trans (coefN_le rs l) h2
  have H1 := Lib.hid h1
  have hL := Loc.start hV
  clear hV hs h hsl
  simp only
  generalize hn : rs.length = n at *
  generalize hk : l.length = k at *
  have HK := Lib.hid hk
  clear hk
  have HN := Lib.hid hn
  clear hn
  go_enter Tryz.func46, Tryz.ntmps46
  go_upto_region 0 with (fail)
  refine wp_region_lit ?_
  refine t_box hL rfl rfl ?_; clear hL; intro Wh2 mh2 hL eh2; simp only [Act.put, zq1, zq2, zq3]
  go_wp2_with (first | ((with_reducible refine kAny ?_); go_skip) | (with_reducible refine stA ?_) | ((first | refine tIx ?_ | refine tFd ?_ | refine tLd ?_ | (refine tBx ?_; clear hL; intro _ _ hL _)); simp only [Act.put, zq1, zq2, zq3]))
  go_loopw [5, 6] (fun nn i w2 => ∃ (j : Nat) (mm : World), j ≤ k ∧ i = .int .i64 j ∧ nn = .int .i64 (coefN rs (l.take j) : Nat) ∧ Loc w m w2 mm [(w.heap.size, 34, #[.slice A n ca, .int .i64 d])]) (fun _ i _ => k - (intOf i).toNat)
  case atStart => exact ⟨0, _, Nat.zero_le _, rfl, rfl, hL⟩
  case round =>
    clear hL
    obtain ⟨j, mm, hj, rfl, rfl, hL⟩ := hrel
    have hM := hL.mext
    by_cases hlt : j < k
    · obtain ⟨f, hf⟩ := at_some HK hlt
      obtain ⟨b4, o4, rfl, hc4⟩ := IntL.at_ HB.out hf
      have HST := Lib.hid (coefN_step (rs := rs) hf)
      have hlt' : (j : Int) < (k : Int) := by omega
      have HCL : coefN rs (l.take j) ≤ 1000000 := by
        have h1 := coefN_le rs (l.take j)
        have h2 : (l.take j).length ≤ j := by simp; omega
        omega
      clear hf
      generalize hcn : coefN rs (l.take j) = cn at *
      have HCN := Lib.hid hcn
      clear hcn
      by_cases hin : f ∈ rs
      · rw [if_pos hin] at HST
        have HIN : Hid (decide (f ∈ rs) = true) := decide_eq_true hin
        clear hin
        go_upto_region 5 with ((first | ((with_reducible refine kAny ?_); go_skip) | (with_reducible refine stA ?_) | ((first | refine tIx ?_ | refine tFd ?_ | refine tLd ?_ | (refine tBx ?_; clear hL; intro _ _ hL _)); simp only [Act.put, zq1, zq2, zq3])))
        (try simp only [eq_self] at *)
        refine wp_region_by2 7 [false, false, false, false, false, false, false] [false, false, false, false, false, false, false] [(fun v _ _ => v = ?c5_0a), (fun v _ _ => v = ?c5_1a), (fun v _ _ => v = ?c5_2a), (fun v _ _ => v = ?c5_3a), (fun v _ _ => v = ?c5_4a), (fun v _ _ => v = ?c5_5a), Is (.bool (decide (f ∈ rs)))] hL.vw mixed [13, 14, 15, 16, 17, 18, 19] _ (by kernel_rfl) (fun vs => by simp only [lay, Act.put, zq1, zq2, zq3]; rfl) (by kernel_rfl) (by decide) (by decide) ?s5a ?l5a ?r5a
        case s5a =>
          refine ⟨?_, ?_, ?_, ?_, ?_, ?_, ?_, trivial⟩
          · intro vs W1 m1 hE hM hV hD; clear hD; replace hL := hL.call hE hM hV
            exact sFd
          · intro vs W1 m1 hE hM hV hD; obtain ⟨⟨_, _, -, -, f13⟩, -⟩ := hD; have f13 : vs 13 = _ := f13; generalize vs 13 = x13 at f13 ⊢; subst x13; replace hL := hL.call hE hM hV
            exact sLd
          · intro vs W1 m1 hE hM hV hD; clear hD; replace hL := hL.call hE hM hV
            exact sPu
          · intro vs W1 m1 hE hM hV hD; clear hD; replace hL := hL.call hE hM hV
            exact sPu
          · intro vs W1 m1 hE hM hV hD; obtain ⟨⟨_, _, -, -, f15⟩, ⟨_, _, -, -, f16⟩, -⟩ := hD; have f15 : vs 15 = _ := f15; generalize vs 15 = x15 at f15 ⊢; subst x15; have f16 : vs 16 = _ := f16; generalize vs 16 = x16 at f16 ⊢; subst x16; replace hL := hL.call hE hM hV
            exact sIx
          · intro vs W1 m1 hE hM hV hD; obtain ⟨⟨_, _, -, -, f17⟩, -⟩ := hD; have f17 : vs 17 = _ := f17; generalize vs 17 = x17 at f17 ⊢; subst x17; replace hL := hL.call hE hM hV
            exact sLd
          · intro vs W1 m1 hE hM hV hD; obtain ⟨⟨_, _, -, -, f14⟩, ⟨_, _, -, -, f18⟩, -⟩ := hD; have f14 : vs 14 = _ := f14; generalize vs 14 = x14 at f14 ⊢; subst x14; have f18 : vs 18 = _ := f18; generalize vs 18 = x18 at f18 ⊢; subst x18
            go_wp2_with fail
            refine (r_Has _ rs f _ _ hV (IntL.le HS.out leX) (by rw [HN.out]; exact H1.out)).mono ?_
            rintro e W2 ⟨v, m2, rfl, hE2, hM2, hV2, h⟩
            go_wp2_with fail
            refine One2.call hE2 hM2 hV2 ?_; first | exact h | exact rfl
        case l5a =>
          refine ⟨fun h => (by cases h), fun h => (by cases h), fun h => (by cases h), fun h => (by cases h), fun h => (by cases h), fun h => (by cases h), fun h => (by cases h), trivial⟩
        intro vs W1 m1 hE hM hV hF hD
        clear hD
        obtain ⟨⟨_, _, -, -, f13⟩, ⟨_, _, -, -, f14⟩, ⟨_, _, -, -, f15⟩, ⟨_, _, -, -, f16⟩, ⟨_, _, -, -, f17⟩, ⟨_, _, -, -, f18⟩, ⟨_, _, -, -, f19⟩, -⟩ := hF
        replace hL := hL.call hE hM hV
        have f13 : vs 13 = _ := f13
        generalize vs 13 = x13 at f13 ⊢
        subst x13
        have f14 : vs 14 = _ := f14
        generalize vs 14 = x14 at f14 ⊢
        subst x14
        have f15 : vs 15 = _ := f15
        generalize vs 15 = x15 at f15 ⊢
        subst x15
        have f16 : vs 16 = _ := f16
        generalize vs 16 = x16 at f16 ⊢
        subst x16
        have f17 : vs 17 = _ := f17
        generalize vs 17 = x17 at f17 ⊢
        subst x17
        have f18 : vs 18 = _ := f18
        generalize vs 18 = x18 at f18 ⊢
        subst x18
        have f19 : vs 19 = _ := f19
        generalize vs 19 = x19 at f19 ⊢
        subst x19
        clear hE hV
        simp only [List.drop_succ_cons, List.drop_zero]
        go_wp2_with (first | ((with_reducible refine kAny ?_); go_skip) | (with_reducible refine stA ?_) | ((first | refine tIx ?_ | refine tFd ?_ | refine tLd ?_ | (refine tBx ?_; clear hL; intro _ _ hL _)); simp only [Act.put, zq1, zq2, zq3]))
        refine QN.mk ?_
        rw [HIN.out]
        go_wp2_with (first | ((with_reducible refine kAny ?_); go_skip) | (with_reducible refine stA ?_) | ((first | refine tIx ?_ | refine tFd ?_ | refine tLd ?_ | (refine tBx ?_; clear hL; intro _ _ hL _)); simp only [Act.put, zq1, zq2, zq3]))
        go_roundw
        case rel => exact ⟨j + 1, _, by omega, by go_num, by rw [HST.out]; go_num, hL⟩
        case measure => simp [intOf] <;> omega
      · rw [if_neg hin] at HST
        have HIN : Hid (decide (f ∈ rs) = false) := decide_eq_false hin
        clear hin
        go_upto_region 5 with ((first | ((with_reducible refine kAny ?_); go_skip) | (with_reducible refine stA ?_) | ((first | refine tIx ?_ | refine tFd ?_ | refine tLd ?_ | (refine tBx ?_; clear hL; intro _ _ hL _)); simp only [Act.put, zq1, zq2, zq3])))
        (try simp only [eq_self] at *)
        refine wp_region_by2 7 [false, false, false, false, false, false, false] [false, false, false, false, false, false, false] [(fun v _ _ => v = ?c5_0b), (fun v _ _ => v = ?c5_1b), (fun v _ _ => v = ?c5_2b), (fun v _ _ => v = ?c5_3b), (fun v _ _ => v = ?c5_4b), (fun v _ _ => v = ?c5_5b), Is (.bool (decide (f ∈ rs)))] hL.vw mixed [13, 14, 15, 16, 17, 18, 19] _ (by kernel_rfl) (fun vs => by simp only [lay, Act.put, zq1, zq2, zq3]; rfl) (by kernel_rfl) (by decide) (by decide) ?s5b ?l5b ?r5b
        case s5b =>
          refine ⟨?_, ?_, ?_, ?_, ?_, ?_, ?_, trivial⟩
          · intro vs W1 m1 hE hM hV hD; clear hD; replace hL := hL.call hE hM hV
            exact sFd
          · intro vs W1 m1 hE hM hV hD; obtain ⟨⟨_, _, -, -, f13⟩, -⟩ := hD; have f13 : vs 13 = _ := f13; generalize vs 13 = x13 at f13 ⊢; subst x13; replace hL := hL.call hE hM hV
            exact sLd
          · intro vs W1 m1 hE hM hV hD; clear hD; replace hL := hL.call hE hM hV
            exact sPu
          · intro vs W1 m1 hE hM hV hD; clear hD; replace hL := hL.call hE hM hV
            exact sPu
          · intro vs W1 m1 hE hM hV hD; obtain ⟨⟨_, _, -, -, f15⟩, ⟨_, _, -, -, f16⟩, -⟩ := hD; have f15 : vs 15 = _ := f15; generalize vs 15 = x15 at f15 ⊢; subst x15; have f16 : vs 16 = _ := f16; generalize vs 16 = x16 at f16 ⊢; subst x16; replace hL := hL.call hE hM hV
            exact sIx
          · intro vs W1 m1 hE hM hV hD; obtain ⟨⟨_, _, -, -, f17⟩, -⟩ := hD; have f17 : vs 17 = _ := f17; generalize vs 17 = x17 at f17 ⊢; subst x17; replace hL := hL.call hE hM hV
            exact sLd
          · intro vs W1 m1 hE hM hV hD; obtain ⟨⟨_, _, -, -, f14⟩, ⟨_, _, -, -, f18⟩, -⟩ := hD; have f14 : vs 14 = _ := f14; generalize vs 14 = x14 at f14 ⊢; subst x14; have f18 : vs 18 = _ := f18; generalize vs 18 = x18 at f18 ⊢; subst x18
            go_wp2_with fail
            refine (r_Has _ rs f _ _ hV (IntL.le HS.out leX) (by rw [HN.out]; exact H1.out)).mono ?_
            rintro e W2 ⟨v, m2, rfl, hE2, hM2, hV2, h⟩
            go_wp2_with fail
            refine One2.call hE2 hM2 hV2 ?_; first | exact h | exact rfl
        case l5b =>
          refine ⟨fun h => (by cases h), fun h => (by cases h), fun h => (by cases h), fun h => (by cases h), fun h => (by cases h), fun h => (by cases h), fun h => (by cases h), trivial⟩
        intro vs W1 m1 hE hM hV hF hD
        clear hD
        obtain ⟨⟨_, _, -, -, f13⟩, ⟨_, _, -, -, f14⟩, ⟨_, _, -, -, f15⟩, ⟨_, _, -, -, f16⟩, ⟨_, _, -, -, f17⟩, ⟨_, _, -, -, f18⟩, ⟨_, _, -, -, f19⟩, -⟩ := hF
        replace hL := hL.call hE hM hV
        have f13 : vs 13 = _ := f13
        generalize vs 13 = x13 at f13 ⊢
        subst x13
        have f14 : vs 14 = _ := f14
        generalize vs 14 = x14 at f14 ⊢
        subst x14
        have f15 : vs 15 = _ := f15
        generalize vs 15 = x15 at f15 ⊢
        subst x15
        have f16 : vs 16 = _ := f16
        generalize vs 16 = x16 at f16 ⊢
        subst x16
        have f17 : vs 17 = _ := f17
        generalize vs 17 = x17 at f17 ⊢
        subst x17
        have f18 : vs 18 = _ := f18
        generalize vs 18 = x18 at f18 ⊢
        subst x18
        have f19 : vs 19 = _ := f19
        generalize vs 19 = x19 at f19 ⊢
        subst x19
        clear hE hV
        simp only [List.drop_succ_cons, List.drop_zero]
        go_wp2_with (first | ((with_reducible refine kAny ?_); go_skip) | (with_reducible refine stA ?_) | ((first | refine tIx ?_ | refine tFd ?_ | refine tLd ?_ | (refine tBx ?_; clear hL; intro _ _ hL _)); simp only [Act.put, zq1, zq2, zq3]))
        refine QN.mk ?_
        rw [HIN.out]
        go_wp2_with (first | ((with_reducible refine kAny ?_); go_skip) | (with_reducible refine stA ?_) | ((first | refine tIx ?_ | refine tFd ?_ | refine tLd ?_ | (refine tBx ?_; clear hL; intro _ _ hL _)); simp only [Act.put, zq1, zq2, zq3]))
        go_roundw
        case rel => exact ⟨j + 1, _, by omega, by go_num, by rw [HST.out], hL⟩
        case measure => simp [intOf] <;> omega
    · have HE : Hid (coefN rs (l.take j) = coefN rs l) := coefN_end (by rw [HK.out]; omega)
      rw [HE.out]
      have h9 : (k : Int) ≤ (j : Int) := by omega
      have HQ := Lib.hid (quoE hd HNB.out)
      have hd0 : d ≠ 0 := by omega
      have HCF : Hid (coefF (rs, d) l = ((coefN rs l : Nat) : Int) / d) := rfl
      generalize coefN rs l = cn at *
      go_wp2_with (first | ((with_reducible refine kAny ?_); go_skip) | (with_reducible refine stA ?_) | ((first | refine tIx ?_ | refine tFd ?_ | refine tLd ?_ | (refine tBx ?_; clear hL; intro _ _ hL _)); simp only [Act.put, zq1, zq2, zq3]))
      go_ret
      exact RetV.mk hL (by rw [HCF.out]; exact congrArg (Value.int .i64) HQ.out.2.1)

set_option maxRecDepth 100000 in
set_option maxHeartbeats 16000000 in
theorem e_Coefficient (xv v : Value) (x : Cut) (s : ByteArray) (ds : List (List Task)) (w m : World) (hV : Vw m w) (hx : CutR m xv x) (h : DutsL m v ds) (h1 : x.1.length ≤ 1000000) (h2 : ds.length ≤ 100) (h3 : ∀ d ∈ ds, d.length ≤ 100) (h4 : (opF ds).length ≤ 1000000) (hd : 2 ≤ x.2)
    (hw1 : ∀ r ∈ x.1, (Lit.int .i64 r).wf = true) (hw2 : ∀ f ∈ opF ds, (Lit.int .i64 f).wf = true) :
    Calls Tryz.prog 155 #[xv, .agg #[.string s, v]] w (RetV w m fun _ r => r = .tuple #[.int .i64 (coefF x (opF ds)), .int .i64 0]) := by
  have HX := Lib.hid hx
  obtain ⟨rs, d⟩ := x
  obtain ⟨s', rfl, hs, hsl⟩ := hx
  simp only at hs h1 hd hw1
  obtain ⟨A, ca, rfl, hca, hs⟩ := hs.lit
  obtain ⟨D, cd, rfl, hcd, h⟩ := h.lit
  have HD := Lib.hid h
  have H2 := Lib.hid h2
  have H3 := Lib.hid h3
  have H4 := Lib.hid h4
  have HK : Hid (∀ v w m', Vw m' w → Le m m' → IntL m' v (opF ds) → Calls Tryz.prog 190 #[.agg #[.slice A rs.length ca, .int .i64 d], v] w (RetV w m' fun _ r => r = .int .i64 (coefF (rs, d) (opF ds)))) := by
    show ∀ v w m', _
    exact fun v w m' hV hle hl => e_coefficient _ v (rs, d) (opF ds) w m' hV (HX.out.le hle) hl h1 H4.out (by show 1 ≤ d; omega) hw1 hw2
  have hL := Loc.start hV
  clear hV hs h hsl h1 h2 h3 h4 hw1 hw2 HX
  generalize coefF (rs, d) (opF ds) = z at *
  generalize rs.length = n at *
  generalize hnd : ds.length = nd at *
  have HND := Lib.hid hnd
  clear hnd
  go_enter Tryz.func155, Tryz.ntmps155
  go_upto_region 0 with (fail)
  refine wp_region_lit ?_
  refine t_box hL rfl rfl ?_; clear hL; intro Wh2 mh2 hL eh2; simp only [Act.put, zq1, zq2, zq3]
  refine t_box hL rfl rfl ?_; clear hL; intro Wh3 mh3 hL eh3; simp only [Act.put, zq1, zq2, zq3]
  go_upto_region 3 with ((first | ((with_reducible refine kAny ?_); go_skip) | (with_reducible refine stA ?_) | ((first | refine tFd ?_ | refine tLd ?_ | (refine tBx ?_; clear hL; intro _ _ hL _)); simp only [Act.put, zq1, zq2, zq3])))
  refine wp_region_by2 6 [false, false, false, false, false, false] [false, false, false, false, false, false] [(fun v _ _ => v = ?c3_0), (fun v _ _ => v = ?c3_1), Of (fun um v => IntL um v (opF ds)), Is (.int .i64 z), (fun v _ _ => v = ?c3_4), (fun v _ _ => v = ?c3_5)] hL.vw mixed [9, 10, 11, 12, 4, 5] _ (by kernel_rfl) (fun vs => by simp only [lay, Act.put, zq1, zq2, zq3]; rfl) (by kernel_rfl) (by decide) (by decide) ?s3 ?l3 ?r3
  case s3 =>
    refine ⟨?_, ?_, ?_, ?_, ?_, ?_, trivial⟩
    · intro vs W1 m1 hE hM hV hD; clear hD; replace hL := hL.call hE hM hV
      exact sLd
    · intro vs W1 m1 hE hM hV hD; clear hD; replace hL := hL.call hE hM hV
      exact sLd
    · intro vs W1 m1 hE hM hV hD; obtain ⟨⟨_, _, -, -, f10⟩, -⟩ := hD; have f10 : vs 10 = _ := f10; generalize vs 10 = x10 at f10 ⊢; subst x10
      go_wp2_with fail
      refine (e_Operated s _ ds _ _ hV (DutsL.le HD.out leX) (by rw [HND.out]; exact H2.out) H3.out).mono ?_
      rintro e W2 ⟨v, m2, rfl, hE2, hM2, hV2, h⟩
      go_wp2_with fail
      refine One2.call hE2 hM2 hV2 ?_; first | exact h | exact rfl
    · intro vs W1 m1 hE hM hV hD; obtain ⟨⟨_, _, -, -, f9⟩, ⟨_, _, -, i11, f11⟩, -, -⟩ := hD; have f9 : vs 9 = _ := f9; generalize vs 9 = x9 at f9 ⊢; subst x9; have f11 : IntL _ (vs 11) (opF ds) := f11; replace f11 := f11.le i11.le; clear i11
      go_wp2_with fail
      refine (HK.out _ _ _ hV leX f11).mono ?_
      rintro e W2 ⟨v, m2, rfl, hE2, hM2, hV2, h⟩
      go_wp2_with fail
      refine One2.call hE2 hM2 hV2 ?_; first | exact h | exact rfl
    · intro vs W1 m1 hE hM hV hD; obtain ⟨⟨_, _, -, -, f12⟩, -, -, -, -, -, -⟩ := hD; have f12 : vs 12 = _ := f12; generalize vs 12 = x12 at f12 ⊢; subst x12; replace hL := hL.call hE hM hV
      go_wp2_with (first | ((with_reducible refine kAny ?_); go_skip) | (with_reducible refine stA ?_) | ((first | refine tFd ?_ | refine tLd ?_ | (refine tBx ?_; clear hL; intro _ _ hL _)); simp only [Act.put, zq1, zq2, zq3]))
      refine One2.still hV ?_; exact rfl
    · intro vs W1 m1 hE hM hV hD; clear hD; replace hL := hL.call hE hM hV
      go_wp2_with (first | ((with_reducible refine kAny ?_); go_skip) | (with_reducible refine stA ?_) | ((first | refine tFd ?_ | refine tLd ?_ | (refine tBx ?_; clear hL; intro _ _ hL _)); simp only [Act.put, zq1, zq2, zq3]))
      refine One2.still hV ?_; exact rfl
  case l3 =>
    refine ⟨fun h => (by cases h), fun h => (by cases h), fun h => (by cases h), fun h => (by cases h), fun h => (by cases h), fun h => (by cases h), trivial⟩
  intro vs W1 m1 hE hM hV hF hD
  clear hD
  obtain ⟨⟨_, _, -, -, f9⟩, ⟨_, _, -, -, f10⟩, ⟨_, _, -, i11, f11⟩, ⟨_, _, -, -, f12⟩, ⟨_, _, -, -, f4⟩, ⟨_, _, -, -, f5⟩, -⟩ := hF
  replace hL := hL.call hE hM hV
  have f9 : vs 9 = _ := f9
  generalize vs 9 = x9 at f9 ⊢
  subst x9
  have f10 : vs 10 = _ := f10
  generalize vs 10 = x10 at f10 ⊢
  subst x10
  replace f11 : IntL _ (vs 11) (opF ds) := f11
  replace f11 := f11.le i11.le
  clear i11
  have f12 : vs 12 = _ := f12
  generalize vs 12 = x12 at f12 ⊢
  subst x12
  have f4 : vs 4 = _ := f4
  generalize vs 4 = x4 at f4 ⊢
  subst x4
  have f5 : vs 5 = _ := f5
  generalize vs 5 = x5 at f5 ⊢
  subst x5
  clear hE hV
  simp only [List.drop_succ_cons, List.drop_zero]
  go_wp2_with (first | ((with_reducible refine kAny ?_); go_skip) | (with_reducible refine stA ?_) | ((first | refine tFd ?_ | refine tLd ?_ | (refine tBx ?_; clear hL; intro _ _ hL _)); simp only [Act.put, zq1, zq2, zq3]))
  refine QN.mk ?_
  go_wp2_with (first | ((with_reducible refine kAny ?_); go_skip) | (with_reducible refine stA ?_) | ((first | refine tFd ?_ | refine tLd ?_ | (refine tBx ?_; clear hL; intro _ _ hL _)); simp only [Act.put, zq1, zq2, zq3]))
  go_ret2
  exact RetV.mk hL rfl
end Go.Proofs.YtmhkmmmompediaaGreat

/- Violations of cuts: contracts of cuts.whole, cuts.RightSide, cuts.violation and pairingref27.violation. -/
namespace Go.Proofs.YtmhkmmmompediaaGreat
open Go.RowKit

def vioT (x : Cut) (cols : List Col) (us : List Rat) (k : Nat) : Rat := ((cols.zip us).take k).foldl (fun s e => s + ((coefF x (opF e.1.2.1) : Int) : Rat) * e.2) ((-((x.1.length : Int) / x.2) : Int) : Rat)
def vioF (x : Cut) (cols : List Col) (us : List Rat) : Rat := vioT x cols us cols.length
theorem vioT_step {x : Cut} {cols : List Col} {us : List Rat} {k : Nat} {c : Col} {q : Rat} (hc : cols[k]? = some c) (hq : us[k]? = some q) : vioT x cols us (k + 1) = vioT x cols us k + ((coefF x (opF c.2.1) : Int) : Rat) * q := by
  unfold vioT
  have h : (cols.zip us)[k]? = some (c, q) := List.getElem?_zip_eq_some.2 ⟨hc, hq⟩
  rw [← take_snoc h, List.foldl_append]; rfl
theorem coefF_le (x : Cut) (l : List Int) : (coefF x l).natAbs ≤ l.length := by
  have h1 : (coefF x l).natAbs ≤ coefN x.1 l := by have := Int.natAbs_ediv_le_natAbs (coefN x.1 l : Int) x.2; simpa [coefF] using this
  exact Nat.le_trans h1 (coefN_le _ _)
theorem right_le {x : Cut} (h : x.1.length ≤ 32) : ((-((x.1.length : Int) / x.2) : Int)).natAbs ≤ 32 := by
  have h1 := Int.natAbs_ediv_le_natAbs (x.1.length : Int) x.2
  rw [Int.natAbs_neg]
  simp at h1
  omega
theorem vioT_tw {x : Cut} {cols : List Col} {us : List Rat} (h : x.1.length ≤ 32) (hc : ∀ c ∈ cols, (opF c.2.1).length ≤ 32) (hu : ∀ v ∈ us, Tw 18 v) : ∀ k, Tw (384 + 576 * k) (vioT x cols us k) := by
  intro k
  induction k with
  | zero => exact (Tw.int (K := 32) (right_le h)).mono (by decide)
  | succ k ih =>
    cases hk : (cols.zip us)[k]? with
    | none =>
      have h1 := List.getElem?_eq_none_iff.1 hk
      have e : vioT x cols us (k + 1) = vioT x cols us k := by
        unfold vioT
        rw [List.take_of_length_le (by omega), List.take_of_length_le (by omega)]
      rw [e]; exact ih.mono (by omega)
    | some e =>
      obtain ⟨c, q⟩ := e
      obtain ⟨h1, h2⟩ := List.getElem?_zip_eq_some.1 hk
      rw [vioT_step h1 h2, Rat.mul_comm]
      have h3 := (hu q (List.mem_of_getElem? h2)).mulI (K := 32) (Nat.le_trans (coefF_le x (opF c.2.1)) (hc c (List.mem_of_getElem? h1)))
      exact (ih.add h3).mono (by omega)
theorem vioT_tw' {x : Cut} {cols : List Col} {us : List Rat} (h : x.1.length ≤ 32) (hc : ∀ c ∈ cols, (opF c.2.1).length ≤ 32) (hu : ∀ v ∈ us, Tw 18 v) (hl : cols.length ≤ 100) (k : Nat) (hk : k ≤ cols.length) : Tw 60000 (vioT x cols us k) := (vioT_tw h hc hu k).mono (by omega)
theorem CutOk.len32 {rs : List Int} {x : Cut} (h : CutOk rs x) (hr : rs.length ≤ 32) : x.1.length ≤ 32 :=
  Nat.le_trans (nodup_length ((asc_pw h.asc).imp (fun hab e => by omega)) h.sub) hr
theorem VOk.wf {x : Ms} {us : List Rat} (ok : VOk x us) {r : Int} (h : r ∈ x.rows) : (Lit.int .i64 r).wf = true := by
  have h1 := ok.ms.low r h
  have h2 := ok.ms.f1
  exact wf_small (by omega) (by omega)

set_option maxRecDepth 100000 in
set_option maxHeartbeats 8000000 in
theorem u_whole (z : Int) (w m : World) (hV : Vw m w) (h1 : z.natAbs < 1073741824) :
    Calls Tryz.prog 154 #[.int .i64 z] w (RetV w m fun m' r => FracC m' r (z : Rat)) := by
  have hq : Hid (Rat.divInt z 1 = (z : Rat)) := by show _ = _; rw [← Rat.num_divInt_den (z : Rat)]; simp
  have K : Hid (∀ w m, Vw m w → Calls Tryz.prog 94 #[.int .i64 z, .int .i64 1] w (RetV w m fun m' v => ∃ r, v = .tuple #[r, .int .i64 0] ∧ FracC m' r (Rat.divInt z 1))) := by
    show ∀ w m, _
    exact fun w m hV => q_FromInts z 1 w m hV (by omega) (by decide) (by omega)
  have hL := Loc.start hV
  clear hV h1
  go_enter Tryz.func154, Tryz.ntmps154
  go_wp2_with (first | ((with_reducible refine kAny ?_); go_skip) | (with_reducible refine stA ?_) | ((first | refine tLd ?_ | ((first | refine tSr ?_ | refine tSt ?_); clear hL; intro _ hL; simp only [splice, zq1, zq2, zq3] at hL) | (refine tAl ?_; clear hL; intro _ _ hL _)); simp only [Act.put, zq1, zq2, zq3]))
  refine (K.out _ _ hL.vw).mono ?_
  rintro e W11 ⟨_, m11, rfl, hE, hM11, hV, va, rfl, h1⟩
  replace hL := hL.call hE (by assumption) hV; clear hE hV
  obtain ⟨g, A, n, c, g', B', n', c', rfl, h1⟩ := h1.lit
  go_wp2_with (first | ((with_reducible refine kAny ?_); go_skip) | (with_reducible refine stA ?_) | ((first | refine tLd ?_ | ((first | refine tSr ?_ | refine tSt ?_); clear hL; intro _ hL; simp only [splice, zq1, zq2, zq3] at hL) | (refine tAl ?_; clear hL; intro _ _ hL _)); simp only [Act.put, zq1, zq2, zq3]))
  refine fin_agg hL Tryz.results154 rfl rfl loX AgC.h (by exact rfl) ?_
  rw [← hq.out]; exact h1.le leX

set_option maxRecDepth 100000 in
set_option maxHeartbeats 8000000 in
theorem u_RightSide (xv : Value) (x : Cut) (w m : World) (hV : Vw m w) (hx : CutR m xv x) (hl : x.1.length ≤ 1000000) :
    Calls Tryz.prog 35 #[xv] w (RetV w m fun _ r => r = .int .i64 (if x.2 < 1 then 0 else (x.1.length : Int) / x.2)) := by
  obtain ⟨rs, d⟩ := x
  obtain ⟨s, rfl, hs, hsl⟩ := hx
  simp only at hs hl
  obtain ⟨A, ca, rfl, hca, hs⟩ := hs.lit
  have hL := Loc.start hV
  clear hV hs hsl
  simp only
  generalize rs.length = n at *
  by_cases hd : d < 1
  · rw [if_pos hd]
    go_enter Tryz.func35, Tryz.ntmps35
    go_upto_region 0 with (fail)
    refine wp_region_lit ?_
    refine t_box hL rfl rfl ?_; clear hL; intro Wh1 mh1 hL eh1; simp only [Act.put, zq1, zq2, zq3]
    go_wp2_with (first | ((with_reducible refine kAny ?_); go_skip) | (with_reducible refine stA ?_) | ((first | refine tFd ?_ | refine tLd ?_ | (refine tBx ?_; clear hL; intro _ _ hL _)); simp only [Act.put, zq1, zq2, zq3]))
    go_ret
    exact RetV.mk hL rfl
  · rw [if_neg hd]
    have HQ := Lib.hid (quoE (by omega : 1 ≤ d) hl)
    have hd0 : d ≠ 0 := by omega
    have hd1 : 1 ≤ d := by omega
    go_enter Tryz.func35, Tryz.ntmps35
    go_upto_region 0 with (fail)
    refine wp_region_lit ?_
    refine t_box hL rfl rfl ?_; clear hL; intro Wh1 mh1 hL eh1; simp only [Act.put, zq1, zq2, zq3]
    go_wp2_with (first | ((with_reducible refine kAny ?_); go_skip) | (with_reducible refine stA ?_) | ((first | refine tFd ?_ | refine tLd ?_ | (refine tBx ?_; clear hL; intro _ _ hL _)); simp only [Act.put, zq1, zq2, zq3]))
    go_ret
    exact RetV.mk hL (congrArg (Value.int .i64) HQ.out.2.1)

set_option maxRecDepth 100000 in
set_option maxHeartbeats 32000000 in
theorem u_violation (mv xv vv : Value) (ms : Ms) (x : Cut) (us : List Rat) (w m : World) (hV : Vw m w) (hm : MasterR m mv ms) (hx : CutR m xv x) (hvv : FracL m vv us) (ok : VOk ms us) (hc : CutOk ms.rows x) :
    Calls Tryz.prog 97 #[mv, xv, vv] w (RetV w m fun m' r => FracC m' r (vioF x ms.cols us)) := by
  have HX := Lib.hid hx
  obtain ⟨nf, rws, pen, cols, cuts⟩ := ms
  obtain ⟨va, vb, vc, rfl, ha, hb, hcu⟩ := hm
  simp only at ha hb hcu
  obtain ⟨A, ca, rfl, hca, ha⟩ := ha.lit
  obtain ⟨B, cb, rfl, hcb, hb⟩ := hb.lit
  obtain ⟨C, cc, rfl, hcc, hcu⟩ := hcu.lit
  obtain ⟨V, cv, rfl, hcv, hvv⟩ := hvv.lit
  obtain ⟨xr, xd⟩ := x
  obtain ⟨s, rfl, hs, hsl⟩ := hx
  simp only at hs hsl
  obtain ⟨X, cx, rfl, hcx, hs⟩ := hs.lit
  have HCO := Lib.hid hb
  have HVA := Lib.hid hvv
  have h32 : xr.length ≤ 32 := hc.len32 ok.ms.r1
  have h2 : 2 ≤ xd := hc.two
  have HC : Hid (∀ c ∈ cols, ColOk rws c) := ok.ms.cols
  have HT : Hid (∀ v ∈ us, Tw 18 v) := ok.tw
  have HLN : Hid (∀ c ∈ cols, (opF c.2.1).length ≤ 32) := by
    show ∀ c ∈ cols, _
    exact fun c hc => ok.col_len hc
  have hfew : cols.length ≤ 100 := ok.few
  have hlen : us.length = cols.length := ok.len
  have HTW : Hid (∀ k, k ≤ cols.length → Tw 60000 (vioT (xr, xd) cols us k)) := by
    show ∀ k, _
    exact fun k hk => vioT_tw' h32 HLN.out HT.out hfew k hk
  have KC : Hid (∀ (s : ByteArray) v ds w m', Vw m' w → Le m m' → DutsL m' v ds → ds.length ≤ 100 → (∀ d ∈ ds, d.length ≤ 100) → (opF ds).length ≤ 32 → (∀ f ∈ opF ds, f ∈ rws) → Calls Tryz.prog 155 #[.agg #[.slice X xr.length cx, .int .i64 xd], .agg #[.string s, v]] w (RetV w m' fun _ r => r = .tuple #[.int .i64 (coefF (xr, xd) (opF ds)), .int .i64 0])) := by
    show ∀ s v ds w m', _
    exact fun s v ds w m' hV hle h h3 h4 h5 h6 => e_Coefficient _ v (xr, xd) s ds w m' hV (HX.out.le hle) h (by show xr.length ≤ 1000000; omega) h3 h4 (by omega) h2 (fun r hr => ok.wf (hc.sub r hr)) (fun f hf => ok.wf (h6 f hf))
  have KR : Hid (∀ w m', Vw m' w → Le m m' → Calls Tryz.prog 35 #[.agg #[.slice X xr.length cx, .int .i64 xd]] w (RetV w m' fun _ r => r = .int .i64 ((xr.length : Int) / xd))) := by
    show ∀ w m', _
    intro w m' hV hle
    have h := u_RightSide _ (xr, xd) w m' hV (HX.out.le hle) (by show xr.length ≤ 1000000; omega)
    rwa [if_neg (by show ¬ xd < 1; omega)] at h
  have hz := right_le (x := (xr, xd)) h32
  have HZ : Hid (vioT (xr, xd) cols us 0 = ((-((xr.length : Int) / xd) : Int) : Rat)) := rfl
  simp only at hz
  have hL := Loc.start hV
  clear hV ok ha hb hcu hvv hs hsl HX hc h2
  unfold vioF
  rw [hlen] at HVA hcv
  have HNV := Lib.hid hlen
  rw [hlen]
  clear hlen
  simp only
  generalize (xr.length : Int) / xd = z0 at *
  generalize hxx : ((xr, xd) : Cut) = x at *
  clear hxx
  generalize hn1 : cols.length = nc at *
  have HN1 := Lib.hid hn1
  clear hn1
  generalize rws.length = nr at *
  generalize cuts.length = nk at *
  generalize xr.length = nx at *
  have hng : wrap64 (-z0) = -z0 := by unfold wrap64; omega
  go_enter Tryz.func97, Tryz.ntmps97
  go_upto_region 0 with (fail)
  refine wp_region_lit ?_
  refine t_box hL rfl rfl ?_; clear hL; intro Wh3 mh3 hL eh3; simp only [Act.put, zq1, zq2, zq3]
  refine t_box hL rfl rfl ?_; clear hL; intro Wh4 mh4 hL eh4; simp only [Act.put, zq1, zq2, zq3]
  refine t_alloc hL rfl ?_; clear hL; intro Wh6 mh6 hL eh6; simp only [Act.put, zq1, zq2, zq3]
  go_wp2_with (first | ((with_reducible refine kAny ?_); go_skip) | (with_reducible refine stA ?_) | ((first | refine tIx ?_ | refine tFd ?_ | refine tLd ?_ | ((first | refine tSr ?_ | refine tSt ?_); clear hL; intro _ hL; simp only [splice, zq1, zq2, zq3] at hL) | ((first | refine tBx ?_ | refine tAl ?_); clear hL; intro _ _ hL _)); simp only [Act.put, zq1, zq2, zq3]))
  refine (KR.out _ _ hL.vw leX).mono ?_
  rintro e Wc1 ⟨_, mc1, rfl, hE, hMc1, hV, rfl⟩
  replace hL := hL.call hE (by assumption) hV; clear hE hV
  go_wp2_with (first | ((with_reducible refine kAny ?_); go_skip) | (with_reducible refine stA ?_) | ((first | refine tIx ?_ | refine tFd ?_ | refine tLd ?_ | ((first | refine tSr ?_ | refine tSt ?_); clear hL; intro _ hL; simp only [splice, zq1, zq2, zq3] at hL) | ((first | refine tBx ?_ | refine tAl ?_); clear hL; intro _ _ hL _)); simp only [Act.put, zq1, zq2, zq3]))
  refine (u_whole (-z0) _ _ hL.vw (by omega)).mono ?_
  rintro e Wc2 ⟨vc2, mc2, rfl, hE, hMc2, hV, hc2⟩
  replace hL := hL.call hE (by assumption) hV; clear hE hV
  obtain ⟨gc2', Ac2', nc2', cc2', hc2', Bc2', kc2', dc2', rfl, hc2⟩ := hc2.lit
  clear hng
  go_wp2_with (first | ((with_reducible refine kAny ?_); go_skip) | (with_reducible refine stA ?_) | ((first | refine tIx ?_ | refine tFd ?_ | refine tLd ?_ | ((first | refine tSr ?_ | refine tSt ?_); clear hL; intro _ hL; simp only [splice, zq1, zq2, zq3] at hL) | ((first | refine tBx ?_ | refine tAl ?_); clear hL; intro _ _ hL _)); simp only [Act.put, zq1, zq2, zq3]))
  go_loopw [19] (fun i wr => ∃ (k : Nat) (mm : World) (gs fs : Bool) (As Bs : Option Addr) (ns cs ps qs : Nat), k ≤ nc ∧ i = .int .i64 k ∧ Loc w m wr mm [(Wc2.heap.size, 39, #[.bool gs, .slice As ns cs, .bool fs, .slice Bs ps qs]), (Wh4.heap.size, 39, #[.bool false, .slice none 0 0, .bool false, .slice none 0 0]), (Wh3.heap.size, 34, #[.slice X nx cx, .int .i64 xd]), (w.heap.size, 26, #[.int .i64 nf, .slice A nr ca, .int .i64 pen, .slice B nc cb, .slice C nk cc])] ∧ Hid (FracC mm (.agg #[.bool gs, .slice As ns cs, .bool fs, .slice Bs ps qs]) (vioT x cols us k))) (fun i _ => nc - (intOf i).toNat)
  case atStart => exact ⟨0, _, _, _, _, _, _, _, _, _, Nat.zero_le _, rfl, hL, by rw [HZ.out]; exact hc2.le leX⟩
  case round =>
    clear hL hc2
    obtain ⟨k, mm, gs, fs, As, Bs, ns, cs, ps, qs, hk, rfl, hL, HS⟩ := hrel
    have hM := hL.mext
    by_cases hlt : k < nc
    · have hlt' : (k : Int) < (nc : Int) := by omega
      obtain ⟨⟨s, ds, cost⟩, hx⟩ := at_some HN1 hlt
      obtain ⟨q, hq⟩ := at_some HNV hlt
      have hco := HCO.out
      have hva := HVA.out
      obtain ⟨b1, o1, D, cd, rfl, hds, hr1⟩ := ColL.at_ hco hx
      obtain ⟨b2, o2, g2, A2, n2, c2, h2, B2, k2, d2, rfl, hp2, hr2⟩ := FracL.at_ hva hq
      obtain ⟨i1, i2, i3, i4, i5, i6, i7⟩ := HC.out _ (List.mem_of_getElem? hx)
      simp only at hds hr1 i1 i2 i3 i4 i5 i6 i7
      have HD := Lib.hid hds
      have H3 := Lib.hid i3
      have H4 := Lib.hid i4
      have H6 := Lib.hid i6
      have HP2 := Lib.hid hp2
      have HTQ : Hid (Tw 18 q) := HT.out q (List.mem_of_getElem? hq)
      have H32 : Hid ((opF ds).length ≤ 32) := HLN.out _ (List.mem_of_getElem? hx)
      have HST := Lib.hid (vioT_step (x := x) hx hq)
      simp only at HST
      clear hx hq hds hp2 i1 i2 i3 i4 i5 i6 i7 hco hva
      generalize hnd : ds.length = nd at *
      have HND := Lib.hid hnd
      clear hnd
      have hcb := Nat.le_trans (coefF_le x (opF ds)) H32.out
      have HTS : Hid (Tw 60000 (vioT x cols us k)) := HTW.out k hk
      go_wp2_with (first | ((with_reducible refine kAny ?_); go_skip) | (with_reducible refine stA ?_) | ((first | refine tIx ?_ | refine tFd ?_ | refine tLd ?_ | ((first | refine tSr ?_ | refine tSt ?_); clear hL; intro _ hL; simp only [splice, zq1, zq2, zq3] at hL) | ((first | refine tBx ?_ | refine tAl ?_); clear hL; intro _ _ hL _)); simp only [Act.put, zq1, zq2, zq3]))
      refine (KC.out s _ ds _ _ hL.vw leX (DutsL.le HD.out leX) (by rw [HND.out]; exact H3.out) H4.out H32.out H6.out).mono ?_
      rintro e Wc3 ⟨_, mc3, rfl, hE, hMc3, hV, rfl⟩
      replace hL := hL.call hE (by assumption) hV; clear hE hV
      have HTM : Hid (Tw 576 (((coefF x (opF ds) : Int) : Rat) * q)) := by
        show Tw _ _
        rw [Rat.mul_comm]
        exact HTQ.out.mulI (K := 32) hcb
      generalize coefF x (opF ds) = z at *
      by_cases h0 : z = 0
      · subst h0
        have HE : Hid (vioT x cols us (k + 1) = vioT x cols us k) := by
          show _ = _
          rw [HST.out]
          simp
          exact Rat.add_zero _
        clear HST hcb HTM
        go_wp2_with (first | ((with_reducible refine kAny ?_); go_skip) | (with_reducible refine stA ?_) | ((first | refine tIx ?_ | refine tFd ?_ | refine tLd ?_ | ((first | refine tSr ?_ | refine tSt ?_); clear hL; intro _ hL; simp only [splice, zq1, zq2, zq3] at hL) | ((first | refine tBx ?_ | refine tAl ?_); clear hL; intro _ _ hL _)); simp only [Act.put, zq1, zq2, zq3]))
        go_roundw
        case rel => exact ⟨k + 1, _, gs, fs, As, Bs, ns, cs, ps, qs, by omega, by go_num, hL.tail, by rw [HE.out]; exact HS.out.le leX⟩
        case measure => simp [intOf] <;> omega
      · have hz2 : (z != 0) = true := by simpa using h0
        have SZ : Hid (Sm ((z : Int) : Rat).num ((z : Int) : Rat).den) := (Tw.int (K := 32) hcb).sm (by decide)
        have SQ : Hid (Sm q.num q.den) := HTQ.out.sm (by decide)
        have SM : Hid (Sm (((z : Int) : Rat) * q).num (((z : Int) : Rat) * q).den) := HTM.out.sm (by decide)
        have SS : Hid (Sm (vioT x cols us k).num (vioT x cols us k).den) := HTS.out.sm (by decide)
        have hz3 : z.natAbs < 1073741824 := by omega
        clear h0 hcb
        go_upto_region 7 with ((first | ((with_reducible refine kAny ?_); go_skip) | (with_reducible refine stA ?_) | ((first | refine tIx ?_ | refine tFd ?_ | refine tLd ?_ | ((first | refine tSr ?_ | refine tSt ?_); clear hL; intro _ hL; simp only [splice, zq1, zq2, zq3] at hL) | ((first | refine tBx ?_ | refine tAl ?_); clear hL; intro _ _ hL _)); simp only [Act.put, zq1, zq2, zq3])))
        clear hz2
        (try simp only [eq_self] at *)
        refine wp_region_by2 9 [false, false, false, false, false, false, false, false, false] [false, false, false, false, false, false, false, false, false] [(fun v _ _ => v = ?c7_0), (fun v _ _ => v = ?c7_1), Of (fun um v => FracC um v ((z : Int) : Rat)), (fun v _ _ => v = ?c7_3), (fun v _ _ => v = ?c7_4), (fun v _ _ => v = ?c7_5), (fun v _ _ => v = ?c7_6), Of (fun um v => FracC um v (((z : Int) : Rat) * q)), Of (fun um v => FracC um v (vioT x cols us k + ((z : Int) : Rat) * q))] hL.vw mixed [33, 34, 35, 36, 37, 38, 39, 40, 41] _ (by kernel_rfl) (fun vs => by simp only [lay, Act.put, zq1, zq2, zq3]; rfl) (by kernel_rfl) (by decide) (by decide) ?s7 ?l7 ?r7
        case s7 =>
          refine ⟨?_, ?_, ?_, ?_, ?_, ?_, ?_, ?_, ?_, trivial⟩
          · intro vs W1 m1 hE hM hV hD; clear hD; replace hL := hL.call hE hM hV
            exact sLd
          · intro vs W1 m1 hE hM hV hD; clear hD; replace hL := hL.call hE hM hV
            exact sPu
          · intro vs W1 m1 hE hM hV hD; obtain ⟨⟨_, _, -, -, f34⟩, -⟩ := hD; have f34 : vs 34 = _ := f34; generalize vs 34 = x34 at f34 ⊢; subst x34
            go_wp2_with fail
            refine (u_whole z _ _ hV hz3).mono ?_
            rintro e W2 ⟨v, m2, rfl, hE2, hM2, hV2, h⟩
            go_wp2_with fail
            refine One2.call hE2 hM2 hV2 ?_; first | exact h | exact rfl
          · intro vs W1 m1 hE hM hV hD; clear hD; replace hL := hL.call hE hM hV
            exact sPu
          · intro vs W1 m1 hE hM hV hD; clear hD; replace hL := hL.call hE hM hV
            exact sPu
          · intro vs W1 m1 hE hM hV hD; obtain ⟨⟨_, _, -, -, f36⟩, ⟨_, _, -, -, f37⟩, -⟩ := hD; have f36 : vs 36 = _ := f36; generalize vs 36 = x36 at f36 ⊢; subst x36; have f37 : vs 37 = _ := f37; generalize vs 37 = x37 at f37 ⊢; subst x37; replace hL := hL.call hE hM hV
            exact sIx
          · intro vs W1 m1 hE hM hV hD; obtain ⟨⟨_, _, -, -, f38⟩, -⟩ := hD; have f38 : vs 38 = _ := f38; generalize vs 38 = x38 at f38 ⊢; subst x38; replace hL := hL.call hE hM hV
            exact sLd
          · intro vs W1 m1 hE hM hV hD; obtain ⟨⟨_, _, -, i35, f35⟩, ⟨_, _, -, -, f39⟩, -, -⟩ := hD; have f39 : vs 39 = _ := f39; generalize vs 39 = x39 at f39 ⊢; subst x39; have f35 : FracC _ (vs 35) ((z : Int) : Rat) := f35; replace f35 := f35.le i35.le; clear i35
            go_wp2_with fail
            refine (q_MulC _ _ _ _ _ _ hV f35 (HP2.out.le leX) SZ.out SQ.out).mono ?_
            rintro e W2 ⟨v, m2, rfl, hE2, hM2, hV2, h⟩
            go_wp2_with fail
            refine One2.call hE2 hM2 hV2 ?_; first | exact h | exact rfl
          · intro vs W1 m1 hE hM hV hD; obtain ⟨⟨_, _, -, -, f33⟩, ⟨_, _, -, i40, f40⟩, -, -⟩ := hD; have f33 : vs 33 = _ := f33; generalize vs 33 = x33 at f33 ⊢; subst x33; have f40 : FracC _ (vs 40) (((z : Int) : Rat) * q) := f40; replace f40 := f40.le i40.le; clear i40
            go_wp2_with fail
            refine (q_AddC _ _ _ _ _ _ hV (HS.out.le leX) f40 SS.out SM.out).mono ?_
            rintro e W2 ⟨v, m2, rfl, hE2, hM2, hV2, h⟩
            go_wp2_with fail
            refine One2.call hE2 hM2 hV2 ?_; first | exact h | exact rfl
        case l7 =>
          refine ⟨fun h => (by cases h), fun h => (by cases h), fun h => (by cases h), fun h => (by cases h), fun h => (by cases h), fun h => (by cases h), fun h => (by cases h), fun h => (by cases h), fun h => (by cases h), trivial⟩
        intro vs W1 m1 hE hM hV hF hD
        clear hD
        obtain ⟨-, -, ⟨_, _, -, i35, f35⟩, -, -, -, -, ⟨_, _, -, i40, f40⟩, ⟨_, _, -, i41, f41⟩, -⟩ := hF
        replace hL := hL.call hE hM hV
        replace f35 : FracC _ (vs 35) ((z : Int) : Rat) := f35
        replace f35 := f35.le i35.le
        clear i35
        replace f40 : FracC _ (vs 40) (((z : Int) : Rat) * q) := f40
        replace f40 := f40.le i40.le
        clear i40
        replace f41 : FracC _ (vs 41) (vioT x cols us k + ((z : Int) : Rat) * q) := f41
        replace f41 := f41.le i41.le
        clear i41
        obtain ⟨g41, A41, n41, c41, h41, B41, k41, d41, e41, f41⟩ := f41.lit
        generalize vs 41 = x41 at e41 ⊢
        subst x41
        clear hE hV
        simp only [List.drop_succ_cons, List.drop_zero]
        go_wp2_with (first | ((with_reducible refine kAny ?_); go_skip) | (with_reducible refine stA ?_) | ((first | refine tIx ?_ | refine tFd ?_ | refine tLd ?_ | ((first | refine tSr ?_ | refine tSt ?_); clear hL; intro _ hL; simp only [splice, zq1, zq2, zq3] at hL) | ((first | refine tBx ?_ | refine tAl ?_); clear hL; intro _ _ hL _)); simp only [Act.put, zq1, zq2, zq3]))
        refine QN.mk ?_
        go_wp2_with (first | ((with_reducible refine kAny ?_); go_skip) | (with_reducible refine stA ?_) | ((first | refine tIx ?_ | refine tFd ?_ | refine tLd ?_ | ((first | refine tSr ?_ | refine tSt ?_); clear hL; intro _ hL; simp only [splice, zq1, zq2, zq3] at hL) | ((first | refine tBx ?_ | refine tAl ?_); clear hL; intro _ _ hL _)); simp only [Act.put, zq1, zq2, zq3]))
        go_roundw
        case rel => exact ⟨k + 1, _, _, _, _, _, _, _, _, _, by omega, by go_num, hL.tail, by rw [HST.out]; exact f41.le leX⟩
        case measure => simp [intOf] <;> omega
    · have hkn : k = nc := by omega
      subst hkn
      have h9 : (k : Int) ≤ (k : Int) := Int.le_refl _
      go_wp2_with (first | ((with_reducible refine kAny ?_); go_skip) | (with_reducible refine stA ?_) | ((first | refine tIx ?_ | refine tFd ?_ | refine tLd ?_ | ((first | refine tSr ?_ | refine tSt ?_); clear hL; intro _ hL; simp only [splice, zq1, zq2, zq3] at hL) | ((first | refine tBx ?_ | refine tAl ?_); clear hL; intro _ _ hL _)); simp only [Act.put, zq1, zq2, zq3]))
      refine fin_agg hL Tryz.results97 rfl rfl loX AgC.h (by exact rfl) ?_
      exact HS.out.le leX
end Go.Proofs.YtmhkmmmompediaaGreat

/- Contract of pairingref27.violation. -/
namespace Go.Proofs.YtmhkmmmompediaaGreat
open Go.RowKit

set_option maxRecDepth 100000 in
set_option maxHeartbeats 32000000 in
theorem r_violation (mv xv vv : Value) (ms : Ms) (x : Cut) (us : List Rat) (w m : World) (hV : Vw m w) (hm : MasterR m mv ms) (hx : CutR m xv x) (hvv : FracL m vv us) (ok : VOk ms us) (hc : CutOk ms.rows x) :
    Calls Tryz.prog 98 #[mv, xv, vv] w (RetV w m fun m' r => FracC m' r (vioF x ms.cols us)) := by
  have HX := Lib.hid hx
  obtain ⟨nf, rws, pen, cols, cuts⟩ := ms
  obtain ⟨va, vb, vc, rfl, ha, hb, hcu⟩ := hm
  simp only at ha hb hcu
  obtain ⟨A, ca, rfl, hca, ha⟩ := ha.lit
  obtain ⟨B, cb, rfl, hcb, hb⟩ := hb.lit
  obtain ⟨C, cc, rfl, hcc, hcu⟩ := hcu.lit
  obtain ⟨V, cv, rfl, hcv, hvv⟩ := hvv.lit
  obtain ⟨xr, xd⟩ := x
  obtain ⟨s, rfl, hs, hsl⟩ := hx
  simp only at hs hsl
  obtain ⟨X, cx, rfl, hcx, hs⟩ := hs.lit
  have HCO := Lib.hid hb
  have HVA := Lib.hid hvv
  have h32 : xr.length ≤ 32 := hc.len32 ok.ms.r1
  have h2 : 2 ≤ xd := hc.two
  have HC : Hid (∀ c ∈ cols, ColOk rws c) := ok.ms.cols
  have HT : Hid (∀ v ∈ us, Tw 18 v) := ok.tw
  have HLN : Hid (∀ c ∈ cols, (opF c.2.1).length ≤ 32) := by
    show ∀ c ∈ cols, _
    exact fun c hc => ok.col_len hc
  have hfew : cols.length ≤ 100 := ok.few
  have hlen : us.length = cols.length := ok.len
  have HTW : Hid (∀ k, k ≤ cols.length → Tw 60000 (vioT (xr, xd) cols us k)) := by
    show ∀ k, _
    exact fun k hk => vioT_tw' h32 HLN.out HT.out hfew k hk
  have KC : Hid (∀ v l w m', Vw m' w → Le m m' → IntL m' v l → l.length ≤ 1000000 → Calls Tryz.prog 46 #[.agg #[.slice X xr.length cx, .int .i64 xd], v] w (RetV w m' fun _ r => r = .int .i64 (coefF (xr, xd) l))) := by
    show ∀ v l w m', _
    exact fun v l w m' hV hle h h5 => r_Coefficient _ v (xr, xd) l w m' hV (HX.out.le hle) h (by show xr.length ≤ 1000000; omega) h5 (by show 1 ≤ xd; omega)
  have HQ := Lib.hid (quoE (by omega : 1 ≤ xd) (by omega : xr.length ≤ 1000000))
  have KI : Hid (∀ z w m', Vw m' w → (z = wrap64 (-wrap64 ((xr.length : Int).tdiv xd)) ∨ z = wrap64 (-((xr.length : Int).tdiv xd)) ∨ z = wrap64 (-((xr.length : Int) / xd)) ∨ z = -((xr.length : Int) / xd) ∨ z = wrap64 (-wrap64 ((xr.length : Int) / xd)) ∨ z = -((xr.length : Int).tdiv xd)) → Calls Tryz.prog 17 #[.int .i64 z] w (RetV w m' fun m' r => FracC m' r ((-((xr.length : Int) / xd) : Int) : Rat))) := by
    show ∀ z w m', _
    intro z w m' hV hz
    have hz0 := right_le (x := (xr, xd)) h32
    simp only at hz0
    have e : z = -((xr.length : Int) / xd) := by
      obtain ⟨q1, q2, q3⟩ := HQ.out
      rw [q1, q2, q3] at hz
      generalize (xr.length : Int) / xd = y at *
      have : wrap64 (-y) = -y := by unfold wrap64; omega
      rw [this] at hz
      omega
    rw [e]
    exact r_Int _ w m' hV (by omega) (by omega)
  have hz := right_le (x := (xr, xd)) h32
  have HZ : Hid (vioT (xr, xd) cols us 0 = ((-((xr.length : Int) / xd) : Int) : Rat)) := rfl
  simp only at hz
  have hL := Loc.start hV
  clear hV ok ha hb hcu hvv hs hsl HX hc
  unfold vioF
  rw [hlen] at HVA hcv
  have HNV := Lib.hid hlen
  rw [hlen]
  clear hlen
  simp only
  generalize hxx : ((xr, xd) : Cut) = x at *
  clear hxx
  generalize hn1 : cols.length = nc at *
  have HN1 := Lib.hid hn1
  clear hn1
  generalize rws.length = nr at *
  generalize cuts.length = nk at *
  have hd0 : xd ≠ 0 := by omega
  have hd1 : 1 ≤ xd := by omega
  clear hz h32
  generalize xr.length = nx at *
  go_enter Tryz.func98, Tryz.ntmps98
  go_upto_region 0 with (fail)
  refine wp_region_lit ?_
  refine t_box hL rfl rfl ?_; clear hL; intro Wh3 mh3 hL eh3; simp only [Act.put, zq1, zq2, zq3]
  refine t_box hL rfl rfl ?_; clear hL; intro Wh4 mh4 hL eh4; simp only [Act.put, zq1, zq2, zq3]
  refine t_alloc hL rfl ?_; clear hL; intro Wh6 mh6 hL eh6; simp only [Act.put, zq1, zq2, zq3]
  go_wp2_with (first | ((with_reducible refine kAny ?_); go_skip) | (with_reducible refine stA ?_) | ((first | refine tIx ?_ | refine tFd ?_ | refine tLd ?_ | ((first | refine tSr ?_ | refine tSt ?_); clear hL; intro _ hL; simp only [splice, zq1, zq2, zq3] at hL) | ((first | refine tBx ?_ | refine tAl ?_); clear hL; intro _ _ hL _)); simp only [Act.put, zq1, zq2, zq3]))
  refine (KI.out _ _ _ hL.vw (by first | exact .inl rfl | exact .inr (.inl rfl) | exact .inr (.inr (.inl rfl)) | exact .inr (.inr (.inr (.inl rfl))) | exact .inr (.inr (.inr (.inr (.inl rfl)))) | exact .inr (.inr (.inr (.inr (.inr rfl)))))).mono ?_
  rintro e Wc2 ⟨_, mc2, rfl, hE, hMc2, hV, hc2⟩
  replace hL := hL.call hE (by assumption) hV; clear hE hV
  obtain ⟨gc2', Ac2', nc2', cc2', hc2', Bc2', kc2', dc2', rfl, hc2⟩ := hc2.lit
  clear HQ KI hd0 hd1
  go_wp2_with (first | ((with_reducible refine kAny ?_); go_skip) | (with_reducible refine stA ?_) | ((first | refine tIx ?_ | refine tFd ?_ | refine tLd ?_ | ((first | refine tSr ?_ | refine tSt ?_); clear hL; intro _ hL; simp only [splice, zq1, zq2, zq3] at hL) | ((first | refine tBx ?_ | refine tAl ?_); clear hL; intro _ _ hL _)); simp only [Act.put, zq1, zq2, zq3]))
  go_loopw [8] (fun i wr => ∃ (k : Nat) (mm : World) (gs fs : Bool) (As Bs : Option Addr) (ns cs ps qs : Nat), k ≤ nc ∧ i = .int .i64 k ∧ Loc w m wr mm [(Wc2.heap.size, 39, #[.bool gs, .slice As ns cs, .bool fs, .slice Bs ps qs]), (Wh4.heap.size, 39, #[.bool false, .slice none 0 0, .bool false, .slice none 0 0]), (Wh3.heap.size, 34, #[.slice X nx cx, .int .i64 xd]), (w.heap.size, 26, #[.int .i64 nf, .slice A nr ca, .int .i64 pen, .slice B nc cb, .slice C nk cc])] ∧ Hid (FracC mm (.agg #[.bool gs, .slice As ns cs, .bool fs, .slice Bs ps qs]) (vioT x cols us k))) (fun i _ => nc - (intOf i).toNat)
  case atStart => exact ⟨0, _, _, _, _, _, _, _, _, _, Nat.zero_le _, rfl, hL, by rw [HZ.out]; exact hc2.le leX⟩
  case round =>
    clear hL hc2
    obtain ⟨k, mm, gs, fs, As, Bs, ns, cs, ps, qs, hk, rfl, hL, HS⟩ := hrel
    have hM := hL.mext
    by_cases hlt : k < nc
    · have hlt' : (k : Int) < (nc : Int) := by omega
      obtain ⟨⟨s, ds, cost⟩, hx⟩ := at_some HN1 hlt
      obtain ⟨q, hq⟩ := at_some HNV hlt
      have hco := HCO.out
      have hva := HVA.out
      obtain ⟨b1, o1, D, cd, rfl, hds, hr1⟩ := ColL.at_ hco hx
      obtain ⟨b2, o2, g2, A2, n2, c2, h2, B2, k2, d2, rfl, hp2, hr2⟩ := FracL.at_ hva hq
      obtain ⟨i1, i2, i3, i4, i5, i6, i7⟩ := HC.out _ (List.mem_of_getElem? hx)
      simp only at hds hr1 i1 i2 i3 i4 i5 i6 i7
      have hr3 := range_two hr1
      have HD := Lib.hid hds
      have H3 := Lib.hid i3
      have H4 := Lib.hid i4
      have H6 := Lib.hid i6
      have HP2 := Lib.hid hp2
      have HTQ : Hid (Tw 18 q) := HT.out q (List.mem_of_getElem? hq)
      have H32 : Hid ((opF ds).length ≤ 32) := HLN.out _ (List.mem_of_getElem? hx)
      have HST := Lib.hid (vioT_step (x := x) hx hq)
      simp only at HST
      clear hx hq hds hp2 i1 i2 i3 i4 i5 i6 i7 hco hva hr1
      generalize hnd : ds.length = nd at *
      have HND := Lib.hid hnd
      clear hnd
      have hcb := Nat.le_trans (coefF_le x (opF ds)) H32.out
      have HTS : Hid (Tw 60000 (vioT x cols us k)) := HTW.out k hk
      have HTM : Hid (Tw 576 (((coefF x (opF ds) : Int) : Rat) * q)) := by
        show Tw _ _
        rw [Rat.mul_comm]
        exact HTQ.out.mulI (K := 32) hcb
      have SZ : Hid (Fit 200 ((coefF x (opF ds) : Int) : Rat)) := (Tw.int (K := 32) hcb).fit (by decide)
      have SQ : Hid (Fit 200 q) := HTQ.out.fit (by decide)
      have SM : Hid (Fit 200 (((coefF x (opF ds) : Int) : Rat) * q)) := HTM.out.fit (by decide)
      have SS : Hid (Fit 200 (vioT x cols us k)) := HTS.out.fit (by decide)
      have HCB := Lib.hid hcb
      have HB1 : Hid (-9223372036854775808 ≤ coefF x (opF ds) ∧ coefF x (opF ds) ≤ 9223372036854775807) := by show _ ∧ _; omega
      clear hcb
      go_upto_region 5 with ((first | ((with_reducible refine kAny ?_); go_skip) | (with_reducible refine stA ?_) | ((first | refine tIx ?_ | refine tFd ?_ | refine tLd ?_ | ((first | refine tSr ?_ | refine tSt ?_); clear hL; intro _ hL; simp only [splice, zq1, zq2, zq3] at hL) | ((first | refine tBx ?_ | refine tAl ?_); clear hL; intro _ _ hL _)); simp only [Act.put, zq1, zq2, zq3])))
      (try simp only [eq_self] at *)
      refine wp_region_by2 17 [false, false, false, false, false, false, false, false, false, false, false, false, false, false, false, false, false] [false, false, false, false, false, false, false, false, false, false, false, false, false, false, false, false, false] [(fun v _ _ => v = ?c5_0), (fun v _ _ => v = ?c5_1), (fun v _ _ => v = ?c5_2), (fun v _ _ => v = ?c5_3), (fun v _ _ => v = ?c5_4), (fun v _ _ => v = ?c5_5), (fun v _ _ => v = ?c5_6), (fun v _ _ => v = ?c5_7), Of (fun um v => IntL um v (opF ds)), Is (.int .i64 (coefF x (opF ds))), Of (fun um v => FracC um v ((coefF x (opF ds) : Int) : Rat)), (fun v _ _ => v = ?c5_11), (fun v _ _ => v = ?c5_12), (fun v _ _ => v = ?c5_13), (fun v _ _ => v = ?c5_14), Of (fun um v => FracC um v (((coefF x (opF ds) : Int) : Rat) * q)), Of (fun um v => FracC um v (vioT x cols us k + ((coefF x (opF ds) : Int) : Rat) * q))] hL.vw mixed [23, 24, 25, 26, 27, 28, 29, 30, 31, 32, 33, 34, 35, 36, 37, 38, 39] _ (by kernel_rfl) (fun vs => by simp only [lay, Act.put, zq1, zq2, zq3]; rfl) (by kernel_rfl) (by decide) (by decide) ?s5 ?l5 ?r5
      case s5 =>
        refine ⟨?_, ?_, ?_, ?_, ?_, ?_, ?_, ?_, ?_, ?_, ?_, ?_, ?_, ?_, ?_, ?_, ?_, trivial⟩
        · intro vs W1 m1 hE hM hV hD; clear hD; replace hL := hL.call hE hM hV
          exact sLd
        · intro vs W1 m1 hE hM hV hD; clear hD; replace hL := hL.call hE hM hV
          exact sLd
        · intro vs W1 m1 hE hM hV hD; clear hD; replace hL := hL.call hE hM hV
          exact sFd
        · intro vs W1 m1 hE hM hV hD; obtain ⟨⟨_, _, -, -, f25⟩, -⟩ := hD; have f25 : vs 25 = _ := f25; generalize vs 25 = x25 at f25 ⊢; subst x25; replace hL := hL.call hE hM hV
          exact sLd
        · intro vs W1 m1 hE hM hV hD; clear hD; replace hL := hL.call hE hM hV
          exact sPu
        · intro vs W1 m1 hE hM hV hD; obtain ⟨⟨_, _, -, -, f26⟩, ⟨_, _, -, -, f27⟩, -⟩ := hD; have f26 : vs 26 = _ := f26; generalize vs 26 = x26 at f26 ⊢; subst x26; have f27 : vs 27 = _ := f27; generalize vs 27 = x27 at f27 ⊢; subst x27; replace hL := hL.call hE hM hV
          exact sIx
        · intro vs W1 m1 hE hM hV hD; obtain ⟨⟨_, _, -, -, f28⟩, -⟩ := hD; have f28 : vs 28 = _ := f28; generalize vs 28 = x28 at f28 ⊢; subst x28; replace hL := hL.call hE hM hV
          exact sFd
        · intro vs W1 m1 hE hM hV hD; obtain ⟨⟨_, _, -, -, f29⟩, -⟩ := hD; have f29 : vs 29 = _ := f29; generalize vs 29 = x29 at f29 ⊢; subst x29; replace hL := hL.call hE hM hV
          exact sLd
        · intro vs W1 m1 hE hM hV hD; obtain ⟨⟨_, _, -, -, f30⟩, -⟩ := hD; have f30 : vs 30 = _ := f30; generalize vs 30 = x30 at f30 ⊢; subst x30
          go_wp2_with fail
          refine (r_Operated s _ ds _ _ hV (DutsL.le HD.out leX) (by rw [HND.out]; exact H3.out) H4.out).mono ?_
          rintro e W2 ⟨v, m2, rfl, hE2, hM2, hV2, h⟩
          go_wp2_with fail
          refine One2.call hE2 hM2 hV2 ?_; first | exact h | exact rfl
        · intro vs W1 m1 hE hM hV hD; obtain ⟨⟨_, _, -, -, f24⟩, ⟨_, _, -, i31, f31⟩, -, -⟩ := hD; have f24 : vs 24 = _ := f24; generalize vs 24 = x24 at f24 ⊢; subst x24; have f31 : IntL _ (vs 31) (opF ds) := f31; replace f31 := f31.le i31.le; clear i31
          go_wp2_with fail
          refine (KC.out _ _ _ _ hV leX f31 (Nat.le_trans H32.out (by decide))).mono ?_
          rintro e W2 ⟨v, m2, rfl, hE2, hM2, hV2, h⟩
          go_wp2_with fail
          refine One2.call hE2 hM2 hV2 ?_; first | exact h | exact rfl
        · intro vs W1 m1 hE hM hV hD; obtain ⟨⟨_, _, -, -, f32⟩, -, -⟩ := hD; have f32 : vs 32 = _ := f32; generalize vs 32 = x32 at f32 ⊢; subst x32
          go_wp2_with fail
          refine (r_Int (coefF x (opF ds)) _ _ hV HB1.out.1 HB1.out.2).mono ?_
          rintro e W2 ⟨v, m2, rfl, hE2, hM2, hV2, h⟩
          go_wp2_with fail
          refine One2.call hE2 hM2 hV2 ?_; first | exact h | exact rfl
        · intro vs W1 m1 hE hM hV hD; clear hD; replace hL := hL.call hE hM hV
          exact sPu
        · intro vs W1 m1 hE hM hV hD; clear hD; replace hL := hL.call hE hM hV
          exact sPu
        · intro vs W1 m1 hE hM hV hD; obtain ⟨⟨_, _, -, -, f34⟩, ⟨_, _, -, -, f35⟩, -⟩ := hD; have f34 : vs 34 = _ := f34; generalize vs 34 = x34 at f34 ⊢; subst x34; have f35 : vs 35 = _ := f35; generalize vs 35 = x35 at f35 ⊢; subst x35; replace hL := hL.call hE hM hV
          exact sIx
        · intro vs W1 m1 hE hM hV hD; obtain ⟨⟨_, _, -, -, f36⟩, -⟩ := hD; have f36 : vs 36 = _ := f36; generalize vs 36 = x36 at f36 ⊢; subst x36; replace hL := hL.call hE hM hV
          exact sLd
        · intro vs W1 m1 hE hM hV hD; obtain ⟨⟨_, _, -, i33, f33⟩, ⟨_, _, -, -, f37⟩, -, -⟩ := hD; have f37 : vs 37 = _ := f37; generalize vs 37 = x37 at f37 ⊢; subst x37; have f33 : FracC _ (vs 33) ((coefF x (opF ds) : Int) : Rat) := f33; replace f33 := f33.le i33.le; clear i33
          go_wp2_with fail
          refine (r_MulC _ _ _ _ _ _ hV f33 (HP2.out.le leX) SZ.out SQ.out).mono ?_
          rintro e W2 ⟨v, m2, rfl, hE2, hM2, hV2, h⟩
          go_wp2_with fail
          refine One2.call hE2 hM2 hV2 ?_; first | exact h | exact rfl
        · intro vs W1 m1 hE hM hV hD; obtain ⟨⟨_, _, -, -, f23⟩, ⟨_, _, -, i38, f38⟩, -, -⟩ := hD; have f23 : vs 23 = _ := f23; generalize vs 23 = x23 at f23 ⊢; subst x23; have f38 : FracC _ (vs 38) (((coefF x (opF ds) : Int) : Rat) * q) := f38; replace f38 := f38.le i38.le; clear i38
          go_wp2_with fail
          refine (r_AddC _ _ _ _ _ _ hV (HS.out.le leX) f38 SS.out SM.out).mono ?_
          rintro e W2 ⟨v, m2, rfl, hE2, hM2, hV2, h⟩
          go_wp2_with fail
          refine One2.call hE2 hM2 hV2 ?_; first | exact h | exact rfl
      case l5 =>
        refine ⟨fun h => (by cases h), fun h => (by cases h), fun h => (by cases h), fun h => (by cases h), fun h => (by cases h), fun h => (by cases h), fun h => (by cases h), fun h => (by cases h), fun h => (by cases h), fun h => (by cases h), fun h => (by cases h), fun h => (by cases h), fun h => (by cases h), fun h => (by cases h), fun h => (by cases h), fun h => (by cases h), fun h => (by cases h), trivial⟩
      intro vs W1 m1 hE hM hV hF hD
      clear hD
      obtain ⟨-, -, -, -, -, -, -, -, ⟨_, _, -, i31, f31⟩, -, ⟨_, _, -, i33, f33⟩, -, -, -, -, ⟨_, _, -, i38, f38⟩, ⟨_, _, -, i39, f39⟩, -⟩ := hF
      replace hL := hL.call hE hM hV
      replace f31 : IntL _ (vs 31) (opF ds) := f31
      replace f31 := f31.le i31.le
      clear i31
      replace f33 : FracC _ (vs 33) ((coefF x (opF ds) : Int) : Rat) := f33
      replace f33 := f33.le i33.le
      clear i33
      replace f38 : FracC _ (vs 38) (((coefF x (opF ds) : Int) : Rat) * q) := f38
      replace f38 := f38.le i38.le
      clear i38
      replace f39 : FracC _ (vs 39) (vioT x cols us k + ((coefF x (opF ds) : Int) : Rat) * q) := f39
      replace f39 := f39.le i39.le
      clear i39
      obtain ⟨g39, A39, n39, c39, h39, B39, k39, d39, e39, f39⟩ := f39.lit
      generalize vs 39 = x39 at e39 ⊢
      subst x39
      clear hE hV
      simp only [List.drop_succ_cons, List.drop_zero]
      go_wp2_with (first | ((with_reducible refine kAny ?_); go_skip) | (with_reducible refine stA ?_) | ((first | refine tIx ?_ | refine tFd ?_ | refine tLd ?_ | ((first | refine tSr ?_ | refine tSt ?_); clear hL; intro _ hL; simp only [splice, zq1, zq2, zq3] at hL) | ((first | refine tBx ?_ | refine tAl ?_); clear hL; intro _ _ hL _)); simp only [Act.put, zq1, zq2, zq3]))
      refine QN.mk ?_
      go_wp2_with (first | ((with_reducible refine kAny ?_); go_skip) | (with_reducible refine stA ?_) | ((first | refine tIx ?_ | refine tFd ?_ | refine tLd ?_ | ((first | refine tSr ?_ | refine tSt ?_); clear hL; intro _ hL; simp only [splice, zq1, zq2, zq3] at hL) | ((first | refine tBx ?_ | refine tAl ?_); clear hL; intro _ _ hL _)); simp only [Act.put, zq1, zq2, zq3]))
      go_roundw
      case rel => exact ⟨k + 1, _, _, _, _, _, _, _, _, _, by omega, by go_num, hL, by rw [HST.out]; exact f39.le leX⟩
      case measure => simp [intOf] <;> omega
    · have hkn : k = nc := by omega
      subst hkn
      have h9 : (k : Int) ≤ (k : Int) := Int.le_refl _
      go_wp2_with (first | ((with_reducible refine kAny ?_); go_skip) | (with_reducible refine stA ?_) | ((first | refine tIx ?_ | refine tFd ?_ | refine tLd ?_ | ((first | refine tSr ?_ | refine tSt ?_); clear hL; intro _ hL; simp only [splice, zq1, zq2, zq3] at hL) | ((first | refine tBx ?_ | refine tAl ?_); clear hL; intro _ _ hL _)); simp only [Act.put, zq1, zq2, zq3]))
      refine fin_agg hL Tryz.results98 rfl rfl loX AgC.h (by exact rfl) ?_
      exact HS.out.le leX
end Go.Proofs.YtmhkmmmompediaaGreat

/- Validity of cuts of any form: contracts of pairingref27.ascending, ValidCut and ValidateCut, and of cuts.Validate. -/
namespace Go.Proofs.YtmhkmmmompediaaGreat
open Go.RowKit

def cutB (rws : List Int) (x : Cut) : Bool := decide (x.1.Pairwise (· < ·)) && decide (∀ r ∈ x.1, r ∈ rws) && decide (2 ≤ x.2) && decide (x.2 ≤ (x.1.length : Int))
theorem pw_step {xs : List Int} {k : Nat} {x y : Int} (h : ∀ (j : Nat) (x y : Int), j < k → xs[j]? = some x → xs[j + 1]? = some y → x < y) (hx : xs[k]? = some x) (hy : xs[k + 1]? = some y) (hxy : x < y) :
    ∀ (j : Nat) (x y : Int), j < k + 1 → xs[j]? = some x → xs[j + 1]? = some y → x < y := by
  intro j x' y' hj hx' hy'
  rcases Nat.lt_succ_iff_lt_or_eq.1 hj with h' | rfl
  · exact h j x' y' h' hx' hy'
  · rw [hx] at hx'; rw [hy] at hy'; cases hx'; cases hy'; exact hxy
theorem pw_end {xs : List Int} {k n : Nat} (hn : xs.length = n) (hk : n ≤ k + 1) (h : ∀ (j : Nat) (x y : Int), j < k → xs[j]? = some x → xs[j + 1]? = some y → x < y) : xs.Pairwise (· < ·) := by
  refine asc_pw fun j x y hx hy => h j x y ?_ hx hy
  have := (List.getElem?_eq_some_iff.1 hy).1
  omega
theorem pw_not {xs : List Int} {k : Nat} {x y : Int} (hx : xs[k]? = some x) (hy : xs[k + 1]? = some y) (hyx : y ≤ x) : ¬ xs.Pairwise (· < ·) := fun h => by
  have := ascP_of h k x y hx hy; omega

set_option maxRecDepth 100000 in
set_option maxHeartbeats 16000000 in
theorem r_ascB (a : Value) (xs : List Int) (w m : World) (hV : Vw m w) (ha : IntL m a xs) (hl : xs.length ≤ 1000000) :
    Calls Tryz.prog 140 #[a] w (RetV w m fun _ r => r = .bool (decide (xs.Pairwise (· < ·)))) := by
  obtain ⟨A, c, rfl, hc, ha⟩ := ha.lit
  have hL := Loc.start hV
  clear hV
  generalize hn : xs.length = n at *
  have HN := Lib.hid hn
  clear hn
  go_enter Tryz.func140, Tryz.ntmps140
  go_wp2_with (first | ((with_reducible refine kAny ?_); go_skip) | (with_reducible refine stA ?_) | ((first | refine tIx ?_ | refine tLd ?_); simp only [Act.put, zq1, zq2, zq3]))
  go_loopw [3] (fun i wr => ∃ (k : Nat) (mm : World), k ≤ n ∧ i = .int .i64 ((k : Int) + 1) ∧ Loc w m wr mm [] ∧ Hid (∀ (j : Nat) (x y : Int), j < k → xs[j]? = some x → xs[j + 1]? = some y → x < y)) (fun i _ => n + 1 - (intOf i).toNat)
  case atStart => exact ⟨0, m, Nat.zero_le _, rfl, hL, (fun _ _ _ h => absurd h (Nat.not_lt_zero _))⟩
  case round =>
    clear hL
    obtain ⟨k, mm, hk, rfl, hL, HJ⟩ := hrel
    have hM := hL.mext
    by_cases hlt : k + 1 < n
    · obtain ⟨x, hx⟩ := at_some HN (show k < n by omega)
      obtain ⟨y, hy⟩ := at_some HN hlt
      obtain ⟨b1, o1, rfl, hc1⟩ := IntL.at_ ha hx
      obtain ⟨b2, o2, e2, hc2⟩ := IntL.at_ ha hy
      obtain ⟨rfl, rfl⟩ : b1 = b2 ∧ o1 = o2 := by simpa using e2
      have HX := Lib.hid hx
      have HY := Lib.hid hy
      have hkn : k < n := by omega
      have e3 : ((k : Int) + 1) = ((k + 1 : Nat) : Int) := by omega
      rw [e3]
      clear hx hy e2 e3 hk
      obtain ⟨k1, hk1⟩ : ∃ k1, k1 = k + 1 := ⟨_, rfl⟩
      rw [← hk1] at hc2 hlt ⊢
      have e1 : (k1 : Int) - 1 = (k : Int) := by omega
      have e4 : wrap64 ((k1 : Int) - 1) = (k : Int) := by unfold wrap64; omega
      have HK := Lib.hid hk1
      clear hk1
      go_upto_region 4 with ((first | ((with_reducible refine kAny ?_); go_skip) | (with_reducible refine stA ?_) | ((first | refine tIx ?_ | refine tLd ?_); simp only [Act.put, zq1, zq2, zq3])))
      (try simp only [eq_self] at *)
      refine wp_region_by2 10 [false, false, false, false, false, false, false, false, false, false] [false, false, false, false, false, false, false, false, false, false] [(fun v _ _ => v = ?c4_0), (fun v _ _ => v = ?c4_1), (fun v _ _ => v = ?c4_2), (fun v _ _ => v = ?c4_3), (fun v _ _ => v = ?c4_4), (fun v _ _ => v = ?c4_5), (fun v _ _ => v = ?c4_6), (fun v _ _ => v = ?c4_7), (fun v _ _ => v = ?c4_8), (fun v _ _ => v = ?c4_9)] hL.vw mixed [10, 11, 12, 13, 14, 15, 16, 17, 18, 19] _ (by kernel_rfl) (fun vs => by simp only [lay, Act.put, zq1, zq2, zq3]; rfl) (by kernel_rfl) (by decide) (by decide) ?s4 ?l4 ?r4
      case s4 =>
        refine ⟨?_, ?_, ?_, ?_, ?_, ?_, ?_, ?_, ?_, ?_, trivial⟩
        · intro vs W1 m1 hE hM hV hD; clear hD; replace hL := hL.call hE hM hV
          exact sPu
        · intro vs W1 m1 hE hM hV hD; clear hD; replace hL := hL.call hE hM hV
          exact sPu
        · intro vs W1 m1 hE hM hV hD; obtain ⟨⟨_, _, -, -, f10⟩, ⟨_, _, -, -, f11⟩, -⟩ := hD; have f10 : vs 10 = _ := f10; generalize vs 10 = x10 at f10 ⊢; subst x10; have f11 : vs 11 = _ := f11; generalize vs 11 = x11 at f11 ⊢; subst x11; replace hL := hL.call hE hM hV
          exact sIx
        · intro vs W1 m1 hE hM hV hD; obtain ⟨⟨_, _, -, -, f12⟩, -⟩ := hD; have f12 : vs 12 = _ := f12; generalize vs 12 = x12 at f12 ⊢; subst x12; replace hL := hL.call hE hM hV
          exact sLd
        · intro vs W1 m1 hE hM hV hD; clear hD; replace hL := hL.call hE hM hV
          exact sPu
        · intro vs W1 m1 hE hM hV hD; clear hD; replace hL := hL.call hE hM hV
          exact sPu
        · intro vs W1 m1 hE hM hV hD; obtain ⟨⟨_, _, -, -, f15⟩, -⟩ := hD; have f15 : vs 15 = _ := f15; generalize vs 15 = x15 at f15 ⊢; subst x15; replace hL := hL.call hE hM hV
          exact sPu
        · intro vs W1 m1 hE hM hV hD; obtain ⟨⟨_, _, -, -, f14⟩, ⟨_, _, -, -, f16⟩, -⟩ := hD; have f14 : vs 14 = _ := f14; generalize vs 14 = x14 at f14 ⊢; subst x14; have f16 : vs 16 = _ := f16; generalize vs 16 = x16 at f16 ⊢; subst x16; replace hL := hL.call hE hM hV
          exact sIx
        · intro vs W1 m1 hE hM hV hD; obtain ⟨⟨_, _, -, -, f17⟩, -⟩ := hD; have f17 : vs 17 = _ := f17; generalize vs 17 = x17 at f17 ⊢; subst x17; replace hL := hL.call hE hM hV
          exact sLd
        · intro vs W1 m1 hE hM hV hD; obtain ⟨⟨_, _, -, -, f13⟩, ⟨_, _, -, -, f18⟩, -⟩ := hD; have f13 : vs 13 = _ := f13; generalize vs 13 = x13 at f13 ⊢; subst x13; have f18 : vs 18 = _ := f18; generalize vs 18 = x18 at f18 ⊢; subst x18; replace hL := hL.call hE hM hV
          exact sPu
      case l4 =>
        refine ⟨fun h => (by cases h), fun h => (by cases h), fun h => (by cases h), fun h => (by cases h), fun h => (by cases h), fun h => (by cases h), fun h => (by cases h), fun h => (by cases h), fun h => (by cases h), fun h => (by cases h), trivial⟩
      intro vs W1 m1 hE hM hV hF hD
      clear hD
      obtain ⟨⟨_, _, -, -, f10⟩, ⟨_, _, -, -, f11⟩, ⟨_, _, -, -, f12⟩, ⟨_, _, -, -, f13⟩, ⟨_, _, -, -, f14⟩, ⟨_, _, -, -, f15⟩, ⟨_, _, -, -, f16⟩, ⟨_, _, -, -, f17⟩, ⟨_, _, -, -, f18⟩, ⟨_, _, -, -, f19⟩, -⟩ := hF
      replace hL := hL.call hE hM hV
      have f10 : vs 10 = _ := f10
      generalize vs 10 = x10 at f10 ⊢
      subst x10
      have f11 : vs 11 = _ := f11
      generalize vs 11 = x11 at f11 ⊢
      subst x11
      have f12 : vs 12 = _ := f12
      generalize vs 12 = x12 at f12 ⊢
      subst x12
      have f13 : vs 13 = _ := f13
      generalize vs 13 = x13 at f13 ⊢
      subst x13
      have f14 : vs 14 = _ := f14
      generalize vs 14 = x14 at f14 ⊢
      subst x14
      have f15 : vs 15 = _ := f15
      generalize vs 15 = x15 at f15 ⊢
      subst x15
      have f16 : vs 16 = _ := f16
      generalize vs 16 = x16 at f16 ⊢
      subst x16
      have f17 : vs 17 = _ := f17
      generalize vs 17 = x17 at f17 ⊢
      subst x17
      have f18 : vs 18 = _ := f18
      generalize vs 18 = x18 at f18 ⊢
      subst x18
      have f19 : vs 19 = _ := f19
      generalize vs 19 = x19 at f19 ⊢
      subst x19
      clear hE hV
      simp only [List.drop_succ_cons, List.drop_zero]
      go_wp2_with (first | ((with_reducible refine kAny ?_); go_skip) | (with_reducible refine stA ?_) | ((first | refine tIx ?_ | refine tLd ?_); simp only [Act.put, zq1, zq2, zq3]))
      refine QN.mk ?_
      by_cases hyx : y ≤ x
      · have HP : Hid (decide (xs.Pairwise (· < ·)) = false) := decide_eq_false (pw_not HX.out HY.out hyx)
        go_wp2_with (first | ((with_reducible refine kAny ?_); go_skip) | (with_reducible refine stA ?_) | ((first | refine tIx ?_ | refine tLd ?_); simp only [Act.put, zq1, zq2, zq3]))
        go_ret
        exact RetV.mk hL (by rw [HP.out]; rfl)
      · have HJ2 := Lib.hid (pw_step HJ.out HX.out HY.out (by omega))
        have hxy : x < y := by omega
        clear hyx
        go_wp2_with (first | ((with_reducible refine kAny ?_); go_skip) | (with_reducible refine stA ?_) | ((first | refine tIx ?_ | refine tLd ?_); simp only [Act.put, zq1, zq2, zq3]))
        go_roundw
        case rel => exact ⟨k1, _, by omega, by go_num, hL, by rw [HK.out]; exact HJ2.out⟩
        case measure => have := HK.out; simp [intOf] <;> omega
    · have h0 : ¬ (k : Int) + 1 < (n : Int) := by omega
      have HP : Hid (decide (xs.Pairwise (· < ·)) = true) := decide_eq_true (pw_end HN.out (by omega) HJ.out)
      go_wp2_with (first | ((with_reducible refine kAny ?_); go_skip) | (with_reducible refine stA ?_) | ((first | refine tIx ?_ | refine tLd ?_); simp only [Act.put, zq1, zq2, zq3]))
      go_ret
      exact RetV.mk hL (by rw [HP.out]; rfl)

set_option maxRecDepth 100000 in
set_option maxHeartbeats 16000000 in
theorem r_ValidCutB (rv v : Value) (rs : List Int) (x : Cut) (w m : World) (hV : Vw m w) (hr : IntL m rv rs) (hv : CutR m v x) (hrl : rs.length ≤ 1000000) :
    Calls Tryz.prog 96 #[rv, v] w (RetV w m fun _ r => r = .bool (cutB rs x)) := by
  obtain ⟨xs, dv⟩ := x
  obtain ⟨sv, rfl, hs, o5⟩ := hv
  simp only at hs o5
  obtain ⟨B, d, rfl, hd, hr⟩ := hr.lit
  obtain ⟨A, c, rfl, hc, ha⟩ := hs.lit
  have HR := Lib.hid hr
  have HRL := Lib.hid hrl
  have HX := Lib.hid ha
  have H5 := Lib.hid o5
  have HE : Hid (cutB rs (xs, dv) = (decide (xs.Pairwise (· < ·)) && decide (∀ r ∈ xs, r ∈ rs) && decide (2 ≤ dv) && decide (dv ≤ (xs.length : Int)))) := rfl
  have KA : Hid (∀ v w m', Vw m' w → IntL m' v xs → Calls Tryz.prog 140 #[v] w (RetV w m' fun _ r => r = .bool (decide (xs.Pairwise (· < ·))))) := by
    show ∀ v w m', _
    exact fun v w m' hV h => r_ascB v xs w m' hV h H5.out
  have KW : Hid (∀ a b w m', Vw m' w → IntL m' a xs → IntL m' b rs → Calls Tryz.prog 78 #[a, b] w (RetV w m' fun _ r => r = .bool (decide (∀ r ∈ xs, r ∈ rs)))) := by
    show ∀ a b w m', _
    exact fun a b w m' hV ha hb => r_within a b xs rs w m' hV ha hb H5.out HRL.out
  have hL := Loc.start hV
  clear hV hr hrl ha hs
  rw [HE.out]
  generalize decide (xs.Pairwise (· < ·)) = p1 at *
  generalize decide (∀ r ∈ xs, r ∈ rs) = p2 at *
  generalize rs.length = n2 at *
  generalize xs.length = n at *
  cases p1 with
  | false =>
    go_enter Tryz.func96, Tryz.ntmps96
    go_upto_region 0 with (fail)
    refine wp_region_lit ?_
    refine t_box hL rfl rfl ?_; clear hL; intro Wh3 mh3 hL eh3; simp only [Act.put, zq1, zq2, zq3]
    go_wp2_with (first | ((with_reducible refine kAny ?_); go_skip) | (with_reducible refine stA ?_) | ((first | refine tFd ?_ | refine tLd ?_ | (refine tBx ?_; clear hL; intro _ _ hL _)); simp only [Act.put, zq1, zq2, zq3]))
    refine (KA.out _ _ _ hL.vw (IntL.le HX.out leX)).mono ?_
    rintro e Wc1 ⟨_, mc1, rfl, hE, hMc1, hV, rfl⟩
    replace hL := hL.call hE (by assumption) hV; clear hE hV
    go_wp2_with (first | ((with_reducible refine kAny ?_); go_skip) | (with_reducible refine stA ?_) | ((first | refine tFd ?_ | refine tLd ?_ | (refine tBx ?_; clear hL; intro _ _ hL _)); simp only [Act.put, zq1, zq2, zq3]))
    go_ret
    exact RetV.mk hL rfl
  | true =>
    cases p2 with
    | false =>
      go_enter Tryz.func96, Tryz.ntmps96
      go_upto_region 0 with (fail)
      refine wp_region_lit ?_
      refine t_box hL rfl rfl ?_; clear hL; intro Wh3 mh3 hL eh3; simp only [Act.put, zq1, zq2, zq3]
      go_wp2_with (first | ((with_reducible refine kAny ?_); go_skip) | (with_reducible refine stA ?_) | ((first | refine tFd ?_ | refine tLd ?_ | (refine tBx ?_; clear hL; intro _ _ hL _)); simp only [Act.put, zq1, zq2, zq3]))
      refine (KA.out _ _ _ hL.vw (IntL.le HX.out leX)).mono ?_
      rintro e Wc1 ⟨_, mc1, rfl, hE, hMc1, hV, rfl⟩
      replace hL := hL.call hE (by assumption) hV; clear hE hV
      go_wp2_with (first | ((with_reducible refine kAny ?_); go_skip) | (with_reducible refine stA ?_) | ((first | refine tFd ?_ | refine tLd ?_ | (refine tBx ?_; clear hL; intro _ _ hL _)); simp only [Act.put, zq1, zq2, zq3]))
      refine (KW.out _ _ _ _ hL.vw (IntL.le HX.out leX) (IntL.le HR.out leX)).mono ?_
      rintro e Wc2 ⟨_, mc2, rfl, hE, hMc2, hV, rfl⟩
      replace hL := hL.call hE (by assumption) hV; clear hE hV
      go_wp2_with (first | ((with_reducible refine kAny ?_); go_skip) | (with_reducible refine stA ?_) | ((first | refine tFd ?_ | refine tLd ?_ | (refine tBx ?_; clear hL; intro _ _ hL _)); simp only [Act.put, zq1, zq2, zq3]))
      go_ret
      exact RetV.mk hL rfl
    | true =>
      by_cases d1 : 2 ≤ dv
      · by_cases d2 : dv ≤ (n : Int)
        · rw [decide_eq_true d1, decide_eq_true d2]
          go_enter Tryz.func96, Tryz.ntmps96
          go_upto_region 0 with (fail)
          refine wp_region_lit ?_
          refine t_box hL rfl rfl ?_; clear hL; intro Wh3 mh3 hL eh3; simp only [Act.put, zq1, zq2, zq3]
          go_wp2_with (first | ((with_reducible refine kAny ?_); go_skip) | (with_reducible refine stA ?_) | ((first | refine tFd ?_ | refine tLd ?_ | (refine tBx ?_; clear hL; intro _ _ hL _)); simp only [Act.put, zq1, zq2, zq3]))
          refine (KA.out _ _ _ hL.vw (IntL.le HX.out leX)).mono ?_
          rintro e Wc1 ⟨_, mc1, rfl, hE, hMc1, hV, rfl⟩
          replace hL := hL.call hE (by assumption) hV; clear hE hV
          go_wp2_with (first | ((with_reducible refine kAny ?_); go_skip) | (with_reducible refine stA ?_) | ((first | refine tFd ?_ | refine tLd ?_ | (refine tBx ?_; clear hL; intro _ _ hL _)); simp only [Act.put, zq1, zq2, zq3]))
          refine (KW.out _ _ _ _ hL.vw (IntL.le HX.out leX) (IntL.le HR.out leX)).mono ?_
          rintro e Wc2 ⟨_, mc2, rfl, hE, hMc2, hV, rfl⟩
          replace hL := hL.call hE (by assumption) hV; clear hE hV
          go_wp2_with (first | ((with_reducible refine kAny ?_); go_skip) | (with_reducible refine stA ?_) | ((first | refine tFd ?_ | refine tLd ?_ | (refine tBx ?_; clear hL; intro _ _ hL _)); simp only [Act.put, zq1, zq2, zq3]))
          go_ret
          exact RetV.mk hL rfl
        · rw [decide_eq_true d1, decide_eq_false d2]
          have b2 : decide (dv ≤ (n : Int)) = false := decide_eq_false d2
          go_enter Tryz.func96, Tryz.ntmps96
          go_upto_region 0 with (fail)
          refine wp_region_lit ?_
          refine t_box hL rfl rfl ?_; clear hL; intro Wh3 mh3 hL eh3; simp only [Act.put, zq1, zq2, zq3]
          go_wp2_with (first | ((with_reducible refine kAny ?_); go_skip) | (with_reducible refine stA ?_) | ((first | refine tFd ?_ | refine tLd ?_ | (refine tBx ?_; clear hL; intro _ _ hL _)); simp only [Act.put, zq1, zq2, zq3]))
          refine (KA.out _ _ _ hL.vw (IntL.le HX.out leX)).mono ?_
          rintro e Wc1 ⟨_, mc1, rfl, hE, hMc1, hV, rfl⟩
          replace hL := hL.call hE (by assumption) hV; clear hE hV
          go_wp2_with (first | ((with_reducible refine kAny ?_); go_skip) | (with_reducible refine stA ?_) | ((first | refine tFd ?_ | refine tLd ?_ | (refine tBx ?_; clear hL; intro _ _ hL _)); simp only [Act.put, zq1, zq2, zq3]))
          refine (KW.out _ _ _ _ hL.vw (IntL.le HX.out leX) (IntL.le HR.out leX)).mono ?_
          rintro e Wc2 ⟨_, mc2, rfl, hE, hMc2, hV, rfl⟩
          replace hL := hL.call hE (by assumption) hV; clear hE hV
          go_wp2_with (first | ((with_reducible refine kAny ?_); go_skip) | (with_reducible refine stA ?_) | ((first | refine tFd ?_ | refine tLd ?_ | (refine tBx ?_; clear hL; intro _ _ hL _)); simp only [Act.put, zq1, zq2, zq3]))
          go_ret
          exact RetV.mk hL rfl
      · rw [decide_eq_false d1]
        have b1 : decide (dv ≥ 2) = false := decide_eq_false d1
        have b1' : dv < 2 := by omega
        clear d1
        go_enter Tryz.func96, Tryz.ntmps96
        go_upto_region 0 with (fail)
        refine wp_region_lit ?_
        refine t_box hL rfl rfl ?_; clear hL; intro Wh3 mh3 hL eh3; simp only [Act.put, zq1, zq2, zq3]
        go_wp2_with (first | ((with_reducible refine kAny ?_); go_skip) | (with_reducible refine stA ?_) | ((first | refine tFd ?_ | refine tLd ?_ | (refine tBx ?_; clear hL; intro _ _ hL _)); simp only [Act.put, zq1, zq2, zq3]))
        refine (KA.out _ _ _ hL.vw (IntL.le HX.out leX)).mono ?_
        rintro e Wc1 ⟨_, mc1, rfl, hE, hMc1, hV, rfl⟩
        replace hL := hL.call hE (by assumption) hV; clear hE hV
        go_wp2_with (first | ((with_reducible refine kAny ?_); go_skip) | (with_reducible refine stA ?_) | ((first | refine tFd ?_ | refine tLd ?_ | (refine tBx ?_; clear hL; intro _ _ hL _)); simp only [Act.put, zq1, zq2, zq3]))
        refine (KW.out _ _ _ _ hL.vw (IntL.le HX.out leX) (IntL.le HR.out leX)).mono ?_
        rintro e Wc2 ⟨_, mc2, rfl, hE, hMc2, hV, rfl⟩
        replace hL := hL.call hE (by assumption) hV; clear hE hV
        go_wp2_with (first | ((with_reducible refine kAny ?_); go_skip) | (with_reducible refine stA ?_) | ((first | refine tFd ?_ | refine tLd ?_ | (refine tBx ?_; clear hL; intro _ _ hL _)); simp only [Act.put, zq1, zq2, zq3]))
        go_ret
        exact RetV.mk hL rfl

set_option maxRecDepth 100000 in
set_option maxHeartbeats 16000000 in
theorem r_ValidateCut (mv xv : Value) (ms : Ms) (x : Cut) (w m : World) (hV : Vw m w) (hm : MasterR m mv ms) (hx : CutR m xv x) (ok : MsOk ms) :
    Calls Tryz.prog 34 #[mv, xv] w (RetV w m fun _ r => r = .int .i64 (if cutB ms.rows x then 0 else 5)) := by
  have HM := Lib.hid hm
  have HX := Lib.hid hx
  have OK := Lib.hid ok
  obtain ⟨A, nr, ca, B, nc, cb, C, nk, cc, rfl, hm1⟩ := hm.lit
  obtain ⟨sv, rfl, hs, o5⟩ := hx
  obtain ⟨X, c, rfl, hc, hs⟩ := hs.lit
  obtain ⟨va, vb, vc, e, ha, -, -⟩ := hm1
  simp only [Value.agg.injEq, Array.mk.injEq, List.cons.injEq, and_true, true_and] at e
  obtain ⟨rfl, rfl, rfl⟩ := e
  have KV : Hid (∀ w m', Vw m' w → Le m m' → Calls Tryz.prog 76 #[.agg #[.int .i64 ms.nf, .slice A nr ca, .int .i64 ms.pen, .slice B nc cb, .slice C nk cc]] w (RetV w m' fun _ r => r = .int .i64 0)) := by
    show ∀ w m', _
    exact fun w m' hV hle => r_ValidateMaster _ ms w m' hV (HM.out.le hle) OK.out
  have hr32 : ms.rows.length ≤ 32 := ok.r1
  have KC : Hid (∀ w m', Vw m' w → Le m m' → Calls Tryz.prog 96 #[.slice A nr ca, .agg #[.slice X x.1.length c, .int .i64 x.2]] w (RetV w m' fun _ r => r = .bool (cutB ms.rows x))) := by
    show ∀ w m', _
    exact fun w m' hV hle => r_ValidCutB _ _ ms.rows x w m' hV (IntL.le ha hle) (HX.out.le hle) (by omega)
  have hL := Loc.start hV
  clear hV ha hs ok o5 hr32
  generalize ms.nf = nf at *
  generalize ms.pen = pen at *
  generalize x.1.length = nx at *
  generalize x.2 = dv at *
  generalize cutB ms.rows x = cb1 at *
  cases cb1 with
  | false =>
    go_enter Tryz.func34, Tryz.ntmps34
    go_upto_region 0 with (fail)
    refine wp_region_lit ?_
    refine t_box hL rfl rfl ?_; clear hL; intro Wh2 mh2 hL eh2; simp only [Act.put, zq1, zq2, zq3]
    refine t_box hL rfl rfl ?_; clear hL; intro Wh3 mh3 hL eh3; simp only [Act.put, zq1, zq2, zq3]
    go_wp2_with (first | ((with_reducible refine kAny ?_); go_skip) | (with_reducible refine stA ?_) | ((first | refine tFd ?_ | refine tLd ?_ | (refine tBx ?_; clear hL; intro _ _ hL _)); simp only [Act.put, zq1, zq2, zq3]))
    refine (KV.out _ _ hL.vw leX).mono ?_
    rintro e Wc1 ⟨_, mc1, rfl, hE, hMc1, hV, rfl⟩
    replace hL := hL.call hE (by assumption) hV; clear hE hV
    go_wp2_with (first | ((with_reducible refine kAny ?_); go_skip) | (with_reducible refine stA ?_) | ((first | refine tFd ?_ | refine tLd ?_ | (refine tBx ?_; clear hL; intro _ _ hL _)); simp only [Act.put, zq1, zq2, zq3]))
    refine (KC.out _ _ hL.vw leX).mono ?_
    rintro e Wc2 ⟨_, mc2, rfl, hE, hMc2, hV, rfl⟩
    replace hL := hL.call hE (by assumption) hV; clear hE hV
    go_wp2_with (first | ((with_reducible refine kAny ?_); go_skip) | (with_reducible refine stA ?_) | ((first | refine tFd ?_ | refine tLd ?_ | (refine tBx ?_; clear hL; intro _ _ hL _)); simp only [Act.put, zq1, zq2, zq3]))
    go_ret
    exact RetV.mk hL rfl
  | true =>
    go_enter Tryz.func34, Tryz.ntmps34
    go_upto_region 0 with (fail)
    refine wp_region_lit ?_
    refine t_box hL rfl rfl ?_; clear hL; intro Wh2 mh2 hL eh2; simp only [Act.put, zq1, zq2, zq3]
    refine t_box hL rfl rfl ?_; clear hL; intro Wh3 mh3 hL eh3; simp only [Act.put, zq1, zq2, zq3]
    go_wp2_with (first | ((with_reducible refine kAny ?_); go_skip) | (with_reducible refine stA ?_) | ((first | refine tFd ?_ | refine tLd ?_ | (refine tBx ?_; clear hL; intro _ _ hL _)); simp only [Act.put, zq1, zq2, zq3]))
    refine (KV.out _ _ hL.vw leX).mono ?_
    rintro e Wc1 ⟨_, mc1, rfl, hE, hMc1, hV, rfl⟩
    replace hL := hL.call hE (by assumption) hV; clear hE hV
    go_wp2_with (first | ((with_reducible refine kAny ?_); go_skip) | (with_reducible refine stA ?_) | ((first | refine tFd ?_ | refine tLd ?_ | (refine tBx ?_; clear hL; intro _ _ hL _)); simp only [Act.put, zq1, zq2, zq3]))
    refine (KC.out _ _ hL.vw leX).mono ?_
    rintro e Wc2 ⟨_, mc2, rfl, hE, hMc2, hV, rfl⟩
    replace hL := hL.call hE (by assumption) hV; clear hE hV
    go_wp2_with (first | ((with_reducible refine kAny ?_); go_skip) | (with_reducible refine stA ?_) | ((first | refine tFd ?_ | refine tLd ?_ | (refine tBx ?_; clear hL; intro _ _ hL _)); simp only [Act.put, zq1, zq2, zq3]))
    go_ret
    exact RetV.mk hL rfl
end Go.Proofs.YtmhkmmmompediaaGreat

/- Contract of cuts.Validate for cuts of any form. -/
namespace Go.Proofs.YtmhkmmmompediaaGreat
open Go.RowKit

theorem cutB_no1 {rws : List Int} {x : Cut} {r : Int} (h : r ∈ x.1) (h' : r ∉ rws) : cutB rws x = false := by
  unfold cutB
  rw [decide_eq_false (fun hh : ∀ r ∈ x.1, r ∈ rws => h' (hh r h))]
  simp
theorem cutB_no2 {rws : List Int} {x : Cut} (h : ¬ x.1.Pairwise (· < ·)) : cutB rws x = false := by
  unfold cutB
  rw [decide_eq_false h]
  simp
theorem cutB_end {rws : List Int} {x : Cut} (h : x.1.Pairwise (· < ·)) (h' : ∀ r ∈ x.1, r ∈ rws) : cutB rws x = (decide (2 ≤ x.2) && decide (x.2 ≤ (x.1.length : Int))) := by
  unfold cutB
  rw [decide_eq_true h, decide_eq_true h']
  simp
theorem allR_step {rws xs : List Int} {k : Nat} {r : Int} (h : ∀ (j : Nat) (r : Int), j < k → xs[j]? = some r → r ∈ rws) (hx : xs[k]? = some r) (hr : r ∈ rws) : ∀ (j : Nat) (r : Int), j < k + 1 → xs[j]? = some r → r ∈ rws := by
  intro j r' hj hr'
  rcases Nat.lt_succ_iff_lt_or_eq.1 hj with h' | rfl
  · exact h j r' h' hr'
  · rw [hx] at hr'; cases hr'; exact hr
theorem allR_end {rws xs : List Int} {k : Nat} (hk : xs.length ≤ k) (h : ∀ (j : Nat) (r : Int), j < k → xs[j]? = some r → r ∈ rws) : ∀ r ∈ xs, r ∈ rws := by
  intro r hr
  obtain ⟨j, hj⟩ := List.mem_iff_getElem?.1 hr
  exact h j r (by have := (List.getElem?_eq_some_iff.1 hj).1; omega) hj

set_option maxRecDepth 100000 in
set_option maxHeartbeats 32000000 in
theorem u_Validate (mv xv : Value) (ms : Ms) (x : Cut) (w m : World) (hV : Vw m w) (hm : MasterR m mv ms) (hx : CutR m xv x) (ok : MsOk ms) :
    Calls Tryz.prog 33 #[mv, xv] w (RetV w m fun _ r => r = .int .i64 (if cutB ms.rows x then 0 else 5)) := by
  have HM := Lib.hid hm
  have OK := Lib.hid ok
  obtain ⟨A, nr, ca, B, nc, cb, C, nk, cc, rfl, hm1⟩ := hm.lit
  obtain ⟨xs, dv⟩ := x
  obtain ⟨sv, rfl, hs, o5⟩ := hx
  simp only at hs o5
  obtain ⟨X, c, rfl, hc, hs⟩ := hs.lit
  obtain ⟨va, vb, vc, e, ha, -, -⟩ := hm1
  simp only [Value.agg.injEq, Array.mk.injEq, List.cons.injEq, and_true, true_and] at e
  obtain ⟨rfl, rfl, rfl⟩ := e
  have KV : Hid (∀ w m', Vw m' w → Le m m' → Calls Tryz.prog 68 #[.agg #[.int .i64 ms.nf, .slice A nr ca, .int .i64 ms.pen, .slice B nc cb, .slice C nk cc]] w (RetV w m' fun _ r => r = .int .i64 0)) := by
    show ∀ w m', _
    exact fun w m' hV hle => m_ValidateMaster _ ms w m' hV (HM.out.le hle) OK.out
  have hr32 : ms.rows.length ≤ 32 := ok.r1
  have KC : Hid (∀ (t : Int) w m', Vw m' w → Le m m' → Calls Tryz.prog 70 #[.slice A nr ca, .int .i64 t] w (RetV w m' fun _ r => r = .bool (decide (t ∈ ms.rows)))) := by
    show ∀ t w m', _
    exact fun t w m' hV hle => s_Contains _ ms.rows t w m' hV (IntL.le ha hle) (by omega)
  have HS := Lib.hid hs
  have hL := Loc.start hV
  clear hV ha hs ok hr32 HM OK
  generalize ms.nf = nf at *
  generalize ms.pen = pen at *
  generalize ms.rows = rws at *
  have HE := Lib.hid (@cutB_end rws (xs, dv))
  obtain ⟨ez, hez⟩ : ∃ ez : Int, ez = (if cutB rws (xs, dv) then 0 else 5) := ⟨_, rfl⟩
  rw [← hez]
  have HEZ := Lib.hid hez
  clear hez
  simp only at HE
  generalize hn : xs.length = n at *
  have HN := Lib.hid hn
  clear hn
  go_enter Tryz.func33, Tryz.ntmps33
  go_upto_region 0 with (fail)
  refine wp_region_lit ?_
  refine t_box hL rfl rfl ?_; clear hL; intro Wh2 mh2 hL eh2; simp only [Act.put, zq1, zq2, zq3]
  refine t_box hL rfl rfl ?_; clear hL; intro Wh3 mh3 hL eh3; simp only [Act.put, zq1, zq2, zq3]
  go_wp2_with (first | ((with_reducible refine kAny ?_); go_skip) | (with_reducible refine stA ?_) | ((first | refine tIx ?_ | refine tFd ?_ | refine tLd ?_ | (refine tBx ?_; clear hL; intro _ _ hL _)); simp only [Act.put, zq1, zq2, zq3]))
  refine (KV.out _ _ hL.vw leX).mono ?_
  rintro e Wc1 ⟨_, mc1, rfl, hE, hMc1, hV, rfl⟩
  replace hL := hL.call hE (by assumption) hV; clear hE hV
  go_wp2_with (first | ((with_reducible refine kAny ?_); go_skip) | (with_reducible refine stA ?_) | ((first | refine tIx ?_ | refine tFd ?_ | refine tLd ?_ | (refine tBx ?_; clear hL; intro _ _ hL _)); simp only [Act.put, zq1, zq2, zq3]))
  go_loopw [16] (fun i wr => ∃ (k : Nat) (mm : World), k ≤ n ∧ i = .int .i64 k ∧ Loc w m wr mm [(Wh2.heap.size, 34, #[.slice X n c, .int .i64 dv]), (w.heap.size, 26, #[.int .i64 nf, .slice A nr ca, .int .i64 pen, .slice B nc cb, .slice C nk cc])] ∧ Hid (∀ (j : Nat) (r : Int), j < k → xs[j]? = some r → r ∈ rws) ∧ Hid (∀ (j : Nat) (x y : Int), j < k - 1 → xs[j]? = some x → xs[j + 1]? = some y → x < y)) (fun i _ => n - (intOf i).toNat)
  case atStart => exact ⟨0, _, Nat.zero_le _, rfl, hL, (fun _ _ h => absurd h (Nat.not_lt_zero _)), (fun _ _ _ h => absurd h (Nat.not_lt_zero _))⟩
  case round =>
    clear hL
    obtain ⟨k, mm, hk, rfl, hL, HJ, HP⟩ := hrel
    have hM := hL.mext
    by_cases hlt : k < n
    · obtain ⟨r, hr⟩ := at_some HN hlt
      obtain ⟨b1, o1, rfl, hc1⟩ := IntL.at_ HS.out hr
      have hlt' : (k : Int) < (n : Int) := by omega
      have HR := Lib.hid hr
      by_cases hin : r ∈ rws
      · have HJ2 := Lib.hid (allR_step HJ.out hr hin)
        have HIN : Hid (decide (r ∈ rws) = true) := decide_eq_true hin
        clear hr hin
        by_cases h0 : k = 0
        · subst h0
          go_wp2_with (first | ((with_reducible refine kAny ?_); go_skip) | (with_reducible refine stA ?_) | ((first | refine tIx ?_ | refine tFd ?_ | refine tLd ?_ | (refine tBx ?_; clear hL; intro _ _ hL _)); simp only [Act.put, zq1, zq2, zq3]))
          refine (KC.out r _ _ hL.vw leX).mono ?_
          rintro e Wc2 ⟨_, mc2, rfl, hE, hMc2, hV, rfl⟩
          replace hL := hL.call hE (by assumption) hV; clear hE hV
          rw [HIN.out]
          go_wp2_with (first | ((with_reducible refine kAny ?_); go_skip) | (with_reducible refine stA ?_) | ((first | refine tIx ?_ | refine tFd ?_ | refine tLd ?_ | (refine tBx ?_; clear hL; intro _ _ hL _)); simp only [Act.put, zq1, zq2, zq3]))
          go_roundw
          case rel => exact ⟨1, _, by omega, by go_num, hL, HJ2.out, (fun _ _ _ h => absurd h (Nat.not_lt_zero _))⟩
          case measure => simp [intOf] <;> omega
        · obtain ⟨j, rfl⟩ : ∃ j, k = j + 1 := ⟨k - 1, by omega⟩
          have hk0 : ((j + 1 : Nat) : Int) > 0 := by omega
          have hjn : j < n := by omega
          obtain ⟨y, hy⟩ := at_some HN hjn
          obtain ⟨b2, o2, e2, hc2⟩ := IntL.at_ HS.out hy
          obtain ⟨rfl, rfl⟩ : b1 = b2 ∧ o1 = o2 := by simpa using e2
          have hj1 : ((j + 1 : Nat) : Int) - 1 = (j : Int) := by omega
          have hj2 : wrap64 (((j + 1 : Nat) : Int) - 1) = (j : Int) := by unfold wrap64; omega
          have hj3 : (j : Int) + 1 - 1 = (j : Int) := by omega
          have HY := Lib.hid hy
          clear hy e2 h0
          by_cases hry : r ≤ y
          · have HF : Hid (cutB rws (xs, dv) = false) := cutB_no2 (pw_not HY.out HR.out hry)
            go_wp2_with (first | ((with_reducible refine kAny ?_); go_skip) | (with_reducible refine stA ?_) | ((first | refine tIx ?_ | refine tFd ?_ | refine tLd ?_ | (refine tBx ?_; clear hL; intro _ _ hL _)); simp only [Act.put, zq1, zq2, zq3]))
            refine (KC.out r _ _ hL.vw leX).mono ?_
            rintro e Wc2 ⟨_, mc2, rfl, hE, hMc2, hV, rfl⟩
            replace hL := hL.call hE (by assumption) hV; clear hE hV
            rw [HIN.out]
            go_wp2_with (first | ((with_reducible refine kAny ?_); go_skip) | (with_reducible refine stA ?_) | ((first | refine tIx ?_ | refine tFd ?_ | refine tLd ?_ | (refine tBx ?_; clear hL; intro _ _ hL _)); simp only [Act.put, zq1, zq2, zq3]))
            go_ret
            exact RetV.mk hL (by rw [HEZ.out, HF.out]; rfl)
          · have HP2 := Lib.hid (pw_step (k := j) (by have h := HP.out; simpa using h) HY.out HR.out (by omega))
            have hry' : y < r := by omega
            clear hry
            go_wp2_with (first | ((with_reducible refine kAny ?_); go_skip) | (with_reducible refine stA ?_) | ((first | refine tIx ?_ | refine tFd ?_ | refine tLd ?_ | (refine tBx ?_; clear hL; intro _ _ hL _)); simp only [Act.put, zq1, zq2, zq3]))
            refine (KC.out r _ _ hL.vw leX).mono ?_
            rintro e Wc2 ⟨_, mc2, rfl, hE, hMc2, hV, rfl⟩
            replace hL := hL.call hE (by assumption) hV; clear hE hV
            rw [HIN.out]
            go_wp2_with (first | ((with_reducible refine kAny ?_); go_skip) | (with_reducible refine stA ?_) | ((first | refine tIx ?_ | refine tFd ?_ | refine tLd ?_ | (refine tBx ?_; clear hL; intro _ _ hL _)); simp only [Act.put, zq1, zq2, zq3]))
            go_roundw
            case rel => exact ⟨j + 1 + 1, _, by omega, by go_num, hL, HJ2.out, HP2.out⟩
            case measure => simp [intOf] <;> omega
      · have HF : Hid (cutB rws (xs, dv) = false) := cutB_no1 (List.mem_of_getElem? hr) hin
        have HIN : Hid (decide (r ∈ rws) = false) := decide_eq_false hin
        clear hr hin
        go_wp2_with (first | ((with_reducible refine kAny ?_); go_skip) | (with_reducible refine stA ?_) | ((first | refine tIx ?_ | refine tFd ?_ | refine tLd ?_ | (refine tBx ?_; clear hL; intro _ _ hL _)); simp only [Act.put, zq1, zq2, zq3]))
        refine (KC.out r _ _ hL.vw leX).mono ?_
        rintro e Wc2 ⟨_, mc2, rfl, hE, hMc2, hV, rfl⟩
        replace hL := hL.call hE (by assumption) hV; clear hE hV
        rw [HIN.out]
        go_wp2_with (first | ((with_reducible refine kAny ?_); go_skip) | (with_reducible refine stA ?_) | ((first | refine tIx ?_ | refine tFd ?_ | refine tLd ?_ | (refine tBx ?_; clear hL; intro _ _ hL _)); simp only [Act.put, zq1, zq2, zq3]))
        go_ret
        exact RetV.mk hL (by rw [HEZ.out, HF.out]; rfl)
    · have hkn : k = n := by omega
      subst hkn
      have HC := Lib.hid (HE.out (pw_end HN.out (by omega) HP.out) (allR_end (by rw [HN.out]; omega) HJ.out))
      have h9 : (k : Int) ≤ (k : Int) := Int.le_refl _
      clear HJ HP HE
      by_cases d1 : 2 ≤ dv
      · have b1 : decide (dv < 2) = false := decide_eq_false (by omega)
        by_cases d2 : dv ≤ (k : Int)
        · rw [decide_eq_true d1, decide_eq_true d2] at HC
          have b2 : decide (dv > (k : Int)) = false := decide_eq_false (by omega)
          go_wp2_with (first | ((with_reducible refine kAny ?_); go_skip) | (with_reducible refine stA ?_) | ((first | refine tIx ?_ | refine tFd ?_ | refine tLd ?_ | (refine tBx ?_; clear hL; intro _ _ hL _)); simp only [Act.put, zq1, zq2, zq3]))
          go_ret
          exact RetV.mk hL (by rw [HEZ.out, HC.out]; rfl)
        · rw [decide_eq_true d1, decide_eq_false d2] at HC
          have d2' : dv > (k : Int) := by omega
          have b2 : decide (dv > (k : Int)) = true := decide_eq_true d2'
          clear d2
          go_wp2_with (first | ((with_reducible refine kAny ?_); go_skip) | (with_reducible refine stA ?_) | ((first | refine tIx ?_ | refine tFd ?_ | refine tLd ?_ | (refine tBx ?_; clear hL; intro _ _ hL _)); simp only [Act.put, zq1, zq2, zq3]))
          go_ret
          exact RetV.mk hL (by rw [HEZ.out, HC.out]; rfl)
      · rw [decide_eq_false d1] at HC
        have d1' : dv < 2 := by omega
        have b1 : decide (dv < 2) = true := decide_eq_true d1'
        clear d1
        go_wp2_with (first | ((with_reducible refine kAny ?_); go_skip) | (with_reducible refine stA ?_) | ((first | refine tIx ?_ | refine tFd ?_ | refine tLd ?_ | (refine tBx ?_; clear hL; intro _ _ hL _)); simp only [Act.put, zq1, zq2, zq3]))
        go_ret
        exact RetV.mk hL (by rw [HEZ.out, HC.out]; rfl)
end Go.Proofs.YtmhkmmmompediaaGreat

/- Contracts of cuts.Violation and pairingref27.Violation. -/
namespace Go.Proofs.YtmhkmmmompediaaGreat
open Go.RowKit

theorem cutB_ok {rws : List Int} {x : Cut} (h : cutB rws x = true) (hl : x.1.length ≤ 1000000) : CutOk rws x := by
  unfold cutB at h
  simp only [Bool.and_eq_true, decide_eq_true_eq] at h
  exact ⟨ascP_of h.1.1.1, h.1.1.2, h.1.2, h.2, hl⟩

set_option maxRecDepth 100000 in
set_option maxHeartbeats 16000000 in
theorem u_Violation_bad (mv xv : Value) (ms : Ms) (x : Cut) (V : Option Addr) (n c : Nat) (w m : World) (hV : Vw m w) (hm : MasterR m mv ms) (hx : CutR m xv x) (ok : MsOk ms) (hc : cutB ms.rows x = false) :
    Calls Tryz.prog 37 #[mv, xv, .slice V n c] w (RetV w m fun m' r => BvR m' r 0 0 5) := by
  have HM := Lib.hid hm
  have HX := Lib.hid hx
  obtain ⟨A, nr, ca, B, nc, cb, C, nk, cc, rfl, hm1⟩ := hm.lit
  have hnc := master_nc hm1
  obtain ⟨xs, dv⟩ := x
  obtain ⟨sv, rfl, hs, o5⟩ := hx
  simp only at hs o5
  obtain ⟨X, c9, rfl, hc9, hs⟩ := hs.lit
  have KV : Hid (∀ w m', Vw m' w → Le m m' → Calls Tryz.prog 33 #[.agg #[.int .i64 ms.nf, .slice A nr ca, .int .i64 ms.pen, .slice B nc cb, .slice C nk cc], .agg #[.slice X xs.length c9, .int .i64 dv]] w (RetV w m' fun _ r => r = .int .i64 5)) := by
    show ∀ w m', _
    intro w m' hV hle
    have h := u_Validate _ _ ms (xs, dv) w m' hV (HM.out.le hle) (HX.out.le hle) ok
    rw [if_neg (by rw [hc]; exact Bool.false_ne_true)] at h
    exact h
  have hL := Loc.start hV
  clear hV hs hm1 HM HX hc o5 ok hnc
  generalize ms.nf = nf at *
  generalize ms.pen = pen at *
  generalize xs.length = nx at *
  go_enter Tryz.func37, Tryz.ntmps37
  go_upto_region 0 with (fail)
  refine wp_region_lit ?_
  refine t_box hL rfl rfl ?_; clear hL; intro Wh3 mh3 hL eh3; simp only [Act.put, zq1, zq2, zq3]
  refine t_box hL rfl rfl ?_; clear hL; intro Wh4 mh4 hL eh4; simp only [Act.put, zq1, zq2, zq3]
  refine t_alloc hL rfl ?_; clear hL; intro Wh6 mh6 hL eh6; simp only [Act.put, zq1, zq2, zq3]
  go_wp2_with (first | ((with_reducible refine kAny ?_); go_skip) | (with_reducible refine stA ?_) | ((first | refine tFd ?_ | refine tLd ?_ | ((first | refine tSr ?_ | refine tSt ?_); clear hL; intro _ hL; simp only [splice, zq1, zq2, zq3] at hL) | ((first | refine tBx ?_ | refine tAl ?_); clear hL; intro _ _ hL _)); simp only [Act.put, zq1, zq2, zq3]))
  refine (KV.out _ _ hL.vw leX).mono ?_
  rintro e Wc1 ⟨_, mc1, rfl, hE, hMc1, hV, rfl⟩
  replace hL := hL.call hE (by assumption) hV; clear hE hV
  go_wp2_with (first | ((with_reducible refine kAny ?_); go_skip) | (with_reducible refine stA ?_) | ((first | refine tFd ?_ | refine tLd ?_ | ((first | refine tSr ?_ | refine tSt ?_); clear hL; intro _ hL; simp only [splice, zq1, zq2, zq3] at hL) | ((first | refine tBx ?_ | refine tAl ?_); clear hL; intro _ _ hL _)); simp only [Act.put, zq1, zq2, zq3]))
  refine fin_aggT hL Tryz.results37 rfl rfl loX ag_Frac (by exact rfl) rfl (hL.sub (List.nil_sublist _)) ?_
  exact eR_R _ _

set_option maxRecDepth 100000 in
set_option maxHeartbeats 16000000 in
theorem u_Violation_len (mv xv : Value) (ms : Ms) (x : Cut) (V : Option Addr) (n c : Nat) (w m : World) (hV : Vw m w) (hm : MasterR m mv ms) (hx : CutR m xv x) (ok : MsOk ms) (hc : cutB ms.rows x = true) (hn : n ≠ ms.cols.length) :
    Calls Tryz.prog 37 #[mv, xv, .slice V n c] w (RetV w m fun m' r => BvR m' r 0 0 12) := by
  have HM := Lib.hid hm
  have HX := Lib.hid hx
  obtain ⟨A, nr, ca, B, nc, cb, C, nk, cc, rfl, hm1⟩ := hm.lit
  have hnc := master_nc hm1
  obtain ⟨xs, dv⟩ := x
  obtain ⟨sv, rfl, hs, o5⟩ := hx
  simp only at hs o5
  obtain ⟨X, c9, rfl, hc9, hs⟩ := hs.lit
  have KV : Hid (∀ w m', Vw m' w → Le m m' → Calls Tryz.prog 33 #[.agg #[.int .i64 ms.nf, .slice A nr ca, .int .i64 ms.pen, .slice B nc cb, .slice C nk cc], .agg #[.slice X xs.length c9, .int .i64 dv]] w (RetV w m' fun _ r => r = .int .i64 0)) := by
    show ∀ w m', _
    intro w m' hV hle
    have h := u_Validate _ _ ms (xs, dv) w m' hV (HM.out.le hle) (HX.out.le hle) ok
    rw [if_pos hc] at h
    exact h
  have hL := Loc.start hV
  clear hV hs hm1 HM HX hc o5 ok
  generalize ms.nf = nf at *
  generalize ms.pen = pen at *
  generalize xs.length = nx at *
  have h2 : ((n : Int) != (nc : Int)) = true := by simp; omega
  clear hn hnc
  go_enter Tryz.func37, Tryz.ntmps37
  go_upto_region 0 with (fail)
  refine wp_region_lit ?_
  refine t_box hL rfl rfl ?_; clear hL; intro Wh3 mh3 hL eh3; simp only [Act.put, zq1, zq2, zq3]
  refine t_box hL rfl rfl ?_; clear hL; intro Wh4 mh4 hL eh4; simp only [Act.put, zq1, zq2, zq3]
  refine t_alloc hL rfl ?_; clear hL; intro Wh6 mh6 hL eh6; simp only [Act.put, zq1, zq2, zq3]
  go_wp2_with (first | ((with_reducible refine kAny ?_); go_skip) | (with_reducible refine stA ?_) | ((first | refine tFd ?_ | refine tLd ?_ | ((first | refine tSr ?_ | refine tSt ?_); clear hL; intro _ hL; simp only [splice, zq1, zq2, zq3] at hL) | ((first | refine tBx ?_ | refine tAl ?_); clear hL; intro _ _ hL _)); simp only [Act.put, zq1, zq2, zq3]))
  refine (KV.out _ _ hL.vw leX).mono ?_
  rintro e Wc1 ⟨_, mc1, rfl, hE, hMc1, hV, rfl⟩
  replace hL := hL.call hE (by assumption) hV; clear hE hV
  go_wp2_with (first | ((with_reducible refine kAny ?_); go_skip) | (with_reducible refine stA ?_) | ((first | refine tFd ?_ | refine tLd ?_ | ((first | refine tSr ?_ | refine tSt ?_); clear hL; intro _ hL; simp only [splice, zq1, zq2, zq3] at hL) | ((first | refine tBx ?_ | refine tAl ?_); clear hL; intro _ _ hL _)); simp only [Act.put, zq1, zq2, zq3]))
  refine fin_aggT hL Tryz.results37 rfl rfl loX ag_Frac (by exact rfl) rfl (hL.sub (List.nil_sublist _)) ?_
  exact eR_R _ _

set_option maxRecDepth 100000 in
set_option maxHeartbeats 16000000 in
theorem u_Violation_ok (mv xv : Value) (ms : Ms) (x : Cut) (vv : Value) (us : List Rat) (w m : World) (hV : Vw m w) (hm : MasterR m mv ms) (hx : CutR m xv x) (hvv : FracL m vv us) (ok : VOk ms us) (hc : cutB ms.rows x = true) :
    Calls Tryz.prog 37 #[mv, xv, vv] w (RetV w m fun m' r => BvR m' r (vioF x ms.cols us).num (vioF x ms.cols us).den 0) := by
  have HM := Lib.hid hm
  have HX := Lib.hid hx
  obtain ⟨A, nr, ca, B, nc, cb, C, nk, cc, rfl, hm1⟩ := hm.lit
  have hnc := master_nc hm1
  obtain ⟨xs, dv⟩ := x
  obtain ⟨sv, rfl, hs, o5⟩ := hx
  simp only at hs o5
  obtain ⟨X, c9, rfl, hc9, hs⟩ := hs.lit
  have HVV := Lib.hid hvv
  obtain ⟨V, cv, rfl, hcv, hvv⟩ := hvv.lit
  have hcl := cutB_ok hc o5
  have KV : Hid (∀ w m', Vw m' w → Le m m' → Calls Tryz.prog 33 #[.agg #[.int .i64 ms.nf, .slice A nr ca, .int .i64 ms.pen, .slice B nc cb, .slice C nk cc], .agg #[.slice X xs.length c9, .int .i64 dv]] w (RetV w m' fun _ r => r = .int .i64 0)) := by
    show ∀ w m', _
    intro w m' hV hle
    have h := u_Validate _ _ ms (xs, dv) w m' hV (HM.out.le hle) (HX.out.le hle) ok.ms
    rw [if_pos hc] at h
    exact h
  have KW : Hid (∀ w m', Vw m' w → Le m m' → Calls Tryz.prog 97 #[.agg #[.int .i64 ms.nf, .slice A nr ca, .int .i64 ms.pen, .slice B nc cb, .slice C nk cc], .agg #[.slice X xs.length c9, .int .i64 dv], .slice V us.length cv] w (RetV w m' fun m' r => FracC m' r (vioF (xs, dv) ms.cols us))) := by
    show ∀ w m', _
    exact fun w m' hV hle => u_violation _ _ _ ms (xs, dv) us w m' hV (HM.out.le hle) (HX.out.le hle) (FracL.le HVV.out hle) ok hcl
  have hul : us.length = nc := ok.len.trans hnc.symm
  rw [hul] at KW hcv ⊢
  have hL := Loc.start hV
  clear hV hs hm1 HM HX hc o5 ok hvv hcl HVV hul hnc
  generalize ms.nf = nf at *
  generalize ms.pen = pen at *
  generalize xs.length = nx at *
  generalize vioF (xs, dv) ms.cols us = q at *
  go_enter Tryz.func37, Tryz.ntmps37
  go_upto_region 0 with (fail)
  refine wp_region_lit ?_
  refine t_box hL rfl rfl ?_; clear hL; intro Wh3 mh3 hL eh3; simp only [Act.put, zq1, zq2, zq3]
  refine t_box hL rfl rfl ?_; clear hL; intro Wh4 mh4 hL eh4; simp only [Act.put, zq1, zq2, zq3]
  refine t_alloc hL rfl ?_; clear hL; intro Wh6 mh6 hL eh6; simp only [Act.put, zq1, zq2, zq3]
  go_wp2_with (first | ((with_reducible refine kAny ?_); go_skip) | (with_reducible refine stA ?_) | ((first | refine tFd ?_ | refine tLd ?_ | ((first | refine tSr ?_ | refine tSt ?_); clear hL; intro _ hL; simp only [splice, zq1, zq2, zq3] at hL) | ((first | refine tBx ?_ | refine tAl ?_); clear hL; intro _ _ hL _)); simp only [Act.put, zq1, zq2, zq3]))
  refine (KV.out _ _ hL.vw leX).mono ?_
  rintro e Wc1 ⟨_, mc1, rfl, hE, hMc1, hV, rfl⟩
  replace hL := hL.call hE (by assumption) hV; clear hE hV
  go_wp2_with (first | ((with_reducible refine kAny ?_); go_skip) | (with_reducible refine stA ?_) | ((first | refine tFd ?_ | refine tLd ?_ | ((first | refine tSr ?_ | refine tSt ?_); clear hL; intro _ hL; simp only [splice, zq1, zq2, zq3] at hL) | ((first | refine tBx ?_ | refine tAl ?_); clear hL; intro _ _ hL _)); simp only [Act.put, zq1, zq2, zq3]))
  refine (KW.out _ _ hL.vw leX).mono ?_
  rintro e Wc2 ⟨vc2, mc2, rfl, hE, hMc2, hV, hc2⟩
  replace hL := hL.call hE (by assumption) hV; clear hE hV
  obtain ⟨gc2', Ac2', nc2', cc2', hc2', Bc2', kc2', dc2', rfl, hc2⟩ := hc2.lit
  go_wp2_with (first | ((with_reducible refine kAny ?_); go_skip) | (with_reducible refine stA ?_) | ((first | refine tFd ?_ | refine tLd ?_ | ((first | refine tSr ?_ | refine tSt ?_); clear hL; intro _ hL; simp only [splice, zq1, zq2, zq3] at hL) | ((first | refine tBx ?_ | refine tAl ?_); clear hL; intro _ _ hL _)); simp only [Act.put, zq1, zq2, zq3]))
  refine fin_aggT hL Tryz.results37 rfl rfl loX ag_Frac (by exact rfl) rfl (hL.sub (List.nil_sublist _)) ?_
  exact ⟨_, rfl, (hc2.le leX).toP⟩

set_option maxRecDepth 100000 in
set_option maxHeartbeats 16000000 in
theorem r_Violation_bad (mv xv : Value) (ms : Ms) (x : Cut) (V : Option Addr) (n c : Nat) (w m : World) (hV : Vw m w) (hm : MasterR m mv ms) (hx : CutR m xv x) (ok : MsOk ms) (hc : cutB ms.rows x = false) :
    Calls Tryz.prog 38 #[mv, xv, .slice V n c] w (RetV w m fun m' r => BvR m' r 0 0 5) := by
  have HM := Lib.hid hm
  have HX := Lib.hid hx
  obtain ⟨A, nr, ca, B, nc, cb, C, nk, cc, rfl, hm1⟩ := hm.lit
  have hnc := master_nc hm1
  obtain ⟨xs, dv⟩ := x
  obtain ⟨sv, rfl, hs, o5⟩ := hx
  simp only at hs o5
  obtain ⟨X, c9, rfl, hc9, hs⟩ := hs.lit
  have KV : Hid (∀ w m', Vw m' w → Le m m' → Calls Tryz.prog 34 #[.agg #[.int .i64 ms.nf, .slice A nr ca, .int .i64 ms.pen, .slice B nc cb, .slice C nk cc], .agg #[.slice X xs.length c9, .int .i64 dv]] w (RetV w m' fun _ r => r = .int .i64 5)) := by
    show ∀ w m', _
    intro w m' hV hle
    have h := r_ValidateCut _ _ ms (xs, dv) w m' hV (HM.out.le hle) (HX.out.le hle) ok
    rw [if_neg (by rw [hc]; exact Bool.false_ne_true)] at h
    exact h
  have hL := Loc.start hV
  clear hV hs hm1 HM HX hc o5 ok hnc
  generalize ms.nf = nf at *
  generalize ms.pen = pen at *
  generalize xs.length = nx at *
  go_enter Tryz.func38, Tryz.ntmps38
  go_upto_region 0 with (fail)
  refine wp_region_lit ?_
  refine t_box hL rfl rfl ?_; clear hL; intro Wh3 mh3 hL eh3; simp only [Act.put, zq1, zq2, zq3]
  refine t_box hL rfl rfl ?_; clear hL; intro Wh4 mh4 hL eh4; simp only [Act.put, zq1, zq2, zq3]
  refine t_alloc hL rfl ?_; clear hL; intro Wh6 mh6 hL eh6; simp only [Act.put, zq1, zq2, zq3]
  go_wp2_with (first | ((with_reducible refine kAny ?_); go_skip) | (with_reducible refine stA ?_) | ((first | refine tFd ?_ | refine tLd ?_ | ((first | refine tSr ?_ | refine tSt ?_); clear hL; intro _ hL; simp only [splice, zq1, zq2, zq3] at hL) | ((first | refine tBx ?_ | refine tAl ?_); clear hL; intro _ _ hL _)); simp only [Act.put, zq1, zq2, zq3]))
  refine (KV.out _ _ hL.vw leX).mono ?_
  rintro e Wc1 ⟨_, mc1, rfl, hE, hMc1, hV, rfl⟩
  replace hL := hL.call hE (by assumption) hV; clear hE hV
  go_wp2_with (first | ((with_reducible refine kAny ?_); go_skip) | (with_reducible refine stA ?_) | ((first | refine tFd ?_ | refine tLd ?_ | ((first | refine tSr ?_ | refine tSt ?_); clear hL; intro _ hL; simp only [splice, zq1, zq2, zq3] at hL) | ((first | refine tBx ?_ | refine tAl ?_); clear hL; intro _ _ hL _)); simp only [Act.put, zq1, zq2, zq3]))
  refine fin_aggT hL Tryz.results38 rfl rfl loX ag_Frac (by exact rfl) rfl (hL.sub (List.nil_sublist _)) ?_
  exact eR_R _ _

set_option maxRecDepth 100000 in
set_option maxHeartbeats 16000000 in
theorem r_Violation_len (mv xv : Value) (ms : Ms) (x : Cut) (V : Option Addr) (n c : Nat) (w m : World) (hV : Vw m w) (hm : MasterR m mv ms) (hx : CutR m xv x) (ok : MsOk ms) (hc : cutB ms.rows x = true) (hn : n ≠ ms.cols.length) :
    Calls Tryz.prog 38 #[mv, xv, .slice V n c] w (RetV w m fun m' r => BvR m' r 0 0 12) := by
  have HM := Lib.hid hm
  have HX := Lib.hid hx
  obtain ⟨A, nr, ca, B, nc, cb, C, nk, cc, rfl, hm1⟩ := hm.lit
  have hnc := master_nc hm1
  obtain ⟨xs, dv⟩ := x
  obtain ⟨sv, rfl, hs, o5⟩ := hx
  simp only at hs o5
  obtain ⟨X, c9, rfl, hc9, hs⟩ := hs.lit
  have KV : Hid (∀ w m', Vw m' w → Le m m' → Calls Tryz.prog 34 #[.agg #[.int .i64 ms.nf, .slice A nr ca, .int .i64 ms.pen, .slice B nc cb, .slice C nk cc], .agg #[.slice X xs.length c9, .int .i64 dv]] w (RetV w m' fun _ r => r = .int .i64 0)) := by
    show ∀ w m', _
    intro w m' hV hle
    have h := r_ValidateCut _ _ ms (xs, dv) w m' hV (HM.out.le hle) (HX.out.le hle) ok
    rw [if_pos hc] at h
    exact h
  have hL := Loc.start hV
  clear hV hs hm1 HM HX hc o5 ok
  generalize ms.nf = nf at *
  generalize ms.pen = pen at *
  generalize xs.length = nx at *
  have h2 : ((n : Int) != (nc : Int)) = true := by simp; omega
  clear hn hnc
  go_enter Tryz.func38, Tryz.ntmps38
  go_upto_region 0 with (fail)
  refine wp_region_lit ?_
  refine t_box hL rfl rfl ?_; clear hL; intro Wh3 mh3 hL eh3; simp only [Act.put, zq1, zq2, zq3]
  refine t_box hL rfl rfl ?_; clear hL; intro Wh4 mh4 hL eh4; simp only [Act.put, zq1, zq2, zq3]
  refine t_alloc hL rfl ?_; clear hL; intro Wh6 mh6 hL eh6; simp only [Act.put, zq1, zq2, zq3]
  go_wp2_with (first | ((with_reducible refine kAny ?_); go_skip) | (with_reducible refine stA ?_) | ((first | refine tFd ?_ | refine tLd ?_ | ((first | refine tSr ?_ | refine tSt ?_); clear hL; intro _ hL; simp only [splice, zq1, zq2, zq3] at hL) | ((first | refine tBx ?_ | refine tAl ?_); clear hL; intro _ _ hL _)); simp only [Act.put, zq1, zq2, zq3]))
  refine (KV.out _ _ hL.vw leX).mono ?_
  rintro e Wc1 ⟨_, mc1, rfl, hE, hMc1, hV, rfl⟩
  replace hL := hL.call hE (by assumption) hV; clear hE hV
  go_wp2_with (first | ((with_reducible refine kAny ?_); go_skip) | (with_reducible refine stA ?_) | ((first | refine tFd ?_ | refine tLd ?_ | ((first | refine tSr ?_ | refine tSt ?_); clear hL; intro _ hL; simp only [splice, zq1, zq2, zq3] at hL) | ((first | refine tBx ?_ | refine tAl ?_); clear hL; intro _ _ hL _)); simp only [Act.put, zq1, zq2, zq3]))
  refine fin_aggT hL Tryz.results38 rfl rfl loX ag_Frac (by exact rfl) rfl (hL.sub (List.nil_sublist _)) ?_
  exact eR_R _ _

set_option maxRecDepth 100000 in
set_option maxHeartbeats 16000000 in
theorem r_Violation_ok (mv xv : Value) (ms : Ms) (x : Cut) (vv : Value) (us : List Rat) (w m : World) (hV : Vw m w) (hm : MasterR m mv ms) (hx : CutR m xv x) (hvv : FracL m vv us) (ok : VOk ms us) (hc : cutB ms.rows x = true) :
    Calls Tryz.prog 38 #[mv, xv, vv] w (RetV w m fun m' r => BvR m' r (vioF x ms.cols us).num (vioF x ms.cols us).den 0) := by
  have HM := Lib.hid hm
  have HX := Lib.hid hx
  obtain ⟨A, nr, ca, B, nc, cb, C, nk, cc, rfl, hm1⟩ := hm.lit
  have hnc := master_nc hm1
  obtain ⟨xs, dv⟩ := x
  obtain ⟨sv, rfl, hs, o5⟩ := hx
  simp only at hs o5
  obtain ⟨X, c9, rfl, hc9, hs⟩ := hs.lit
  have HVV := Lib.hid hvv
  obtain ⟨V, cv, rfl, hcv, hvv⟩ := hvv.lit
  have hcl := cutB_ok hc o5
  have KV : Hid (∀ w m', Vw m' w → Le m m' → Calls Tryz.prog 34 #[.agg #[.int .i64 ms.nf, .slice A nr ca, .int .i64 ms.pen, .slice B nc cb, .slice C nk cc], .agg #[.slice X xs.length c9, .int .i64 dv]] w (RetV w m' fun _ r => r = .int .i64 0)) := by
    show ∀ w m', _
    intro w m' hV hle
    have h := r_ValidateCut _ _ ms (xs, dv) w m' hV (HM.out.le hle) (HX.out.le hle) ok.ms
    rw [if_pos hc] at h
    exact h
  have KW : Hid (∀ w m', Vw m' w → Le m m' → Calls Tryz.prog 98 #[.agg #[.int .i64 ms.nf, .slice A nr ca, .int .i64 ms.pen, .slice B nc cb, .slice C nk cc], .agg #[.slice X xs.length c9, .int .i64 dv], .slice V us.length cv] w (RetV w m' fun m' r => FracC m' r (vioF (xs, dv) ms.cols us))) := by
    show ∀ w m', _
    exact fun w m' hV hle => r_violation _ _ _ ms (xs, dv) us w m' hV (HM.out.le hle) (HX.out.le hle) (FracL.le HVV.out hle) ok hcl
  have hul : us.length = nc := ok.len.trans hnc.symm
  rw [hul] at KW hcv ⊢
  have hL := Loc.start hV
  clear hV hs hm1 HM HX hc o5 ok hvv hcl HVV hul hnc
  generalize ms.nf = nf at *
  generalize ms.pen = pen at *
  generalize xs.length = nx at *
  generalize vioF (xs, dv) ms.cols us = q at *
  go_enter Tryz.func38, Tryz.ntmps38
  go_upto_region 0 with (fail)
  refine wp_region_lit ?_
  refine t_box hL rfl rfl ?_; clear hL; intro Wh3 mh3 hL eh3; simp only [Act.put, zq1, zq2, zq3]
  refine t_box hL rfl rfl ?_; clear hL; intro Wh4 mh4 hL eh4; simp only [Act.put, zq1, zq2, zq3]
  refine t_alloc hL rfl ?_; clear hL; intro Wh6 mh6 hL eh6; simp only [Act.put, zq1, zq2, zq3]
  go_wp2_with (first | ((with_reducible refine kAny ?_); go_skip) | (with_reducible refine stA ?_) | ((first | refine tFd ?_ | refine tLd ?_ | ((first | refine tSr ?_ | refine tSt ?_); clear hL; intro _ hL; simp only [splice, zq1, zq2, zq3] at hL) | ((first | refine tBx ?_ | refine tAl ?_); clear hL; intro _ _ hL _)); simp only [Act.put, zq1, zq2, zq3]))
  refine (KV.out _ _ hL.vw leX).mono ?_
  rintro e Wc1 ⟨_, mc1, rfl, hE, hMc1, hV, rfl⟩
  replace hL := hL.call hE (by assumption) hV; clear hE hV
  go_wp2_with (first | ((with_reducible refine kAny ?_); go_skip) | (with_reducible refine stA ?_) | ((first | refine tFd ?_ | refine tLd ?_ | ((first | refine tSr ?_ | refine tSt ?_); clear hL; intro _ hL; simp only [splice, zq1, zq2, zq3] at hL) | ((first | refine tBx ?_ | refine tAl ?_); clear hL; intro _ _ hL _)); simp only [Act.put, zq1, zq2, zq3]))
  refine (KW.out _ _ hL.vw leX).mono ?_
  rintro e Wc2 ⟨vc2, mc2, rfl, hE, hMc2, hV, hc2⟩
  replace hL := hL.call hE (by assumption) hV; clear hE hV
  obtain ⟨gc2', Ac2', nc2', cc2', hc2', Bc2', kc2', dc2', rfl, hc2⟩ := hc2.lit
  go_wp2_with (first | ((with_reducible refine kAny ?_); go_skip) | (with_reducible refine stA ?_) | ((first | refine tFd ?_ | refine tLd ?_ | ((first | refine tSr ?_ | refine tSt ?_); clear hL; intro _ hL; simp only [splice, zq1, zq2, zq3] at hL) | ((first | refine tBx ?_ | refine tAl ?_); clear hL; intro _ _ hL _)); simp only [Act.put, zq1, zq2, zq3]))
  refine fin_aggT hL Tryz.results38 rfl rfl loX ag_Frac (by exact rfl) rfl (hL.sub (List.nil_sublist _)) ?_
  exact ⟨_, rfl, (hc2.le leX).toP⟩
end Go.Proofs.YtmhkmmmompediaaGreat

/- Contracts of cuts.Tight and pairingref27.Tight. -/
namespace Go.Proofs.YtmhkmmmompediaaGreat
open Go.RowKit

def tiT (cuts : List Cut) (cols : List Col) (us : List Rat) : Nat → List Int
  | 0 => []
  | k + 1 => tiT cuts cols us k ++ (match cuts[k]? with | some c => if vioF c cols us = 0 then [(k : Int)] else [] | none => [])
theorem tiT_yes {cuts : List Cut} {cols : List Col} {us : List Rat} {k : Nat} {c : Cut} (h : cuts[k]? = some c) (h0 : vioF c cols us = 0) : tiT cuts cols us (k + 1) = tiT cuts cols us k ++ [(k : Int)] := by simp [tiT, h, h0]
theorem tiT_no {cuts : List Cut} {cols : List Col} {us : List Rat} {k : Nat} {c : Cut} (h : cuts[k]? = some c) (h0 : ¬ vioF c cols us = 0) : tiT cuts cols us (k + 1) = tiT cuts cols us k := by simp [tiT, h, h0]
theorem tiT_len (cuts : List Cut) (cols : List Col) (us : List Rat) : ∀ k, (tiT cuts cols us k).length ≤ k
  | 0 => Nat.le_refl _
  | k + 1 => by
    have h := tiT_len cuts cols us k
    unfold tiT
    rw [List.length_append]
    split
    · split <;> simp <;> omega
    · simp; omega
theorem VOk.vio {x : Ms} {us : List Rat} (ok : VOk x us) {c : Cut} (hc : CutOk x.rows c) : Tw 60000 (vioF c x.cols us) :=
  vioT_tw' (hc.len32 ok.ms.r1) (fun _ h => ok.col_len h) ok.tw ok.few _ (Nat.le_refl _)

set_option maxRecDepth 100000 in
set_option maxHeartbeats 16000000 in
theorem u_Tight_len (mv : Value) (ms : Ms) (V : Option Addr) (n c : Nat) (w m : World) (hV : Vw m w) (hm : MasterR m mv ms) (ok : MsOk ms) (hn : n ≠ ms.cols.length) :
    Calls Tryz.prog 53 #[mv, .slice V n c] w (RetV w m fun _ r => r = .tuple #[.slice none 0 0, .int .i64 12]) := by
  have HM := Lib.hid hm
  obtain ⟨A, nr, ca, B, nc, cb, C, nk, cc, rfl, hm1⟩ := hm.lit
  have hnc := master_nc hm1
  have KV : Hid (∀ w m', Vw m' w → Le m m' → Calls Tryz.prog 68 #[.agg #[.int .i64 ms.nf, .slice A nr ca, .int .i64 ms.pen, .slice B nc cb, .slice C nk cc]] w (RetV w m' fun _ r => r = .int .i64 0)) := by
    show ∀ w m', _
    exact fun w m' hV hle => m_ValidateMaster _ ms w m' hV (HM.out.le hle) ok
  have h2 : ((n : Int) != (nc : Int)) = true := by simp; omega
  have hL := Loc.start hV
  clear hV hm1 HM ok hn hnc
  generalize ms.nf = nf at *
  generalize ms.pen = pen at *
  go_enter Tryz.func53, Tryz.ntmps53
  go_upto_region 0 with (fail)
  refine wp_region_lit ?_
  refine t_box hL rfl rfl ?_; clear hL; intro Wh2 mh2 hL eh2; simp only [Act.put, zq1, zq2, zq3]
  go_wp2_with (first | ((with_reducible refine kAny ?_); go_skip) | (with_reducible refine stA ?_) | ((first | refine tIx ?_ | refine tFd ?_ | refine tLd ?_ | ((first | refine tSr ?_ | refine tSt ?_); clear hL; intro _ hL; simp only [splice, zq1, zq2, zq3] at hL) | ((first | refine tBx ?_ | refine tAl ?_); clear hL; intro _ _ hL _) | (refine tBs ?_; clear hL; intro _ _ hL _ hBs)); simp only [Act.put, zq1, zq2, zq3]))
  refine (KV.out _ _ hL.vw leX).mono ?_
  rintro e Wc1 ⟨_, mc1, rfl, hE, hMc1, hV, rfl⟩
  replace hL := hL.call hE (by assumption) hV; clear hE hV
  go_wp2_with (first | ((with_reducible refine kAny ?_); go_skip) | (with_reducible refine stA ?_) | ((first | refine tIx ?_ | refine tFd ?_ | refine tLd ?_ | ((first | refine tSr ?_ | refine tSt ?_); clear hL; intro _ hL; simp only [splice, zq1, zq2, zq3] at hL) | ((first | refine tBx ?_ | refine tAl ?_); clear hL; intro _ _ hL _) | (refine tBs ?_; clear hL; intro _ _ hL _ hBs)); simp only [Act.put, zq1, zq2, zq3]))
  go_ret2
  exact RetV.mk hL rfl

set_option maxRecDepth 100000 in
set_option maxHeartbeats 16000000 in
theorem r_Tight_len (mv : Value) (ms : Ms) (V : Option Addr) (n c : Nat) (w m : World) (hV : Vw m w) (hm : MasterR m mv ms) (ok : MsOk ms) (hn : n ≠ ms.cols.length) :
    Calls Tryz.prog 54 #[mv, .slice V n c] w (RetV w m fun _ r => r = .tuple #[.slice none 0 0, .int .i64 12]) := by
  have HM := Lib.hid hm
  obtain ⟨A, nr, ca, B, nc, cb, C, nk, cc, rfl, hm1⟩ := hm.lit
  have KV : Hid (∀ w m', Vw m' w → Le m m' → Calls Tryz.prog 107 #[.agg #[.int .i64 ms.nf, .slice A nr ca, .int .i64 ms.pen, .slice B nc cb, .slice C nk cc], .slice V n c] w (RetV w m' fun _ r => r = .int .i64 12)) := by
    show ∀ w m', _
    exact fun w m' hV hle => r_valued _ ms V n c 12 w m' hV (HM.out.le hle) ok (by rw [if_neg hn])
  have hL := Loc.start hV
  clear hV hm1 HM ok hn
  generalize ms.nf = nf at *
  generalize ms.pen = pen at *
  go_enter Tryz.func54, Tryz.ntmps54
  go_upto_region 0 with (fail)
  refine wp_region_lit ?_
  refine t_box hL rfl rfl ?_; clear hL; intro Wh2 mh2 hL eh2; simp only [Act.put, zq1, zq2, zq3]
  go_wp2_with (first | ((with_reducible refine kAny ?_); go_skip) | (with_reducible refine stA ?_) | ((first | refine tIx ?_ | refine tFd ?_ | refine tLd ?_ | (refine tBx ?_; clear hL; intro _ _ hL _) | (refine tBs ?_; clear hL; intro _ _ hL _ hBs)); simp only [Act.put, zq1, zq2, zq3]))
  refine (KV.out _ _ hL.vw leX).mono ?_
  rintro e Wc1 ⟨_, mc1, rfl, hE, hMc1, hV, rfl⟩
  replace hL := hL.call hE (by assumption) hV; clear hE hV
  go_wp2_with (first | ((with_reducible refine kAny ?_); go_skip) | (with_reducible refine stA ?_) | ((first | refine tIx ?_ | refine tFd ?_ | refine tLd ?_ | (refine tBx ?_; clear hL; intro _ _ hL _) | (refine tBs ?_; clear hL; intro _ _ hL _ hBs)); simp only [Act.put, zq1, zq2, zq3]))
  go_ret2
  exact RetV.mk hL rfl

set_option maxRecDepth 100000 in
set_option maxHeartbeats 32000000 in
theorem u_Tight (mv vv : Value) (ms : Ms) (us : List Rat) (w m : World) (hV : Vw m w) (hm : MasterR m mv ms) (hvv : FracL m vv us) (ok : VOk ms us) :
    Calls Tryz.prog 53 #[mv, vv] w (RetV w m fun m' r => ∃ v, r = .tuple #[v, .int .i64 0] ∧ IntL m' v (tiT ms.cuts ms.cols us ms.cuts.length)) := by
  have HM := Lib.hid hm
  have HVV := Lib.hid hvv
  obtain ⟨V, cv, rfl, hcv, hvv⟩ := hvv.lit
  obtain ⟨nf, rws, pen, cols, cuts⟩ := ms
  obtain ⟨va, vb, vc, rfl, ha, hb, hcu⟩ := hm
  simp only at ha hb hcu
  obtain ⟨A, ca, rfl, hca, ha⟩ := ha.lit
  obtain ⟨B, cb, rfl, hcb, hb⟩ := hb.lit
  obtain ⟨C, cc, rfl, hcc, hcu⟩ := hcu.lit
  have hul : us.length = cols.length := ok.len
  have KV : Hid (∀ w m', Vw m' w → Le m m' → Calls Tryz.prog 68 #[.agg #[.int .i64 nf, .slice A rws.length ca, .int .i64 pen, .slice B cols.length cb, .slice C cuts.length cc]] w (RetV w m' fun _ r => r = .int .i64 0)) := by
    show ∀ w m', _
    exact fun w m' hV hle => m_ValidateMaster _ _ w m' hV (HM.out.le hle) ok.ms
  have KW : Hid (∀ xv c w m', Vw m' w → Le m m' → CutR m' xv c → c ∈ cuts → Calls Tryz.prog 97 #[.agg #[.int .i64 nf, .slice A rws.length ca, .int .i64 pen, .slice B cols.length cb, .slice C cuts.length cc], xv, .slice V us.length cv] w (RetV w m' fun m' r => FracC m' r (vioF c cols us))) := by
    show ∀ xv c w m', _
    exact fun xv c w m' hV hle hx hc => u_violation _ xv _ _ c us w m' hV (HM.out.le hle) hx (FracL.le HVV.out hle) ok (ok.ms.cuts c hc)
  have HF : Hid (∀ c ∈ cuts, Fit 200 (vioF c cols us)) := by
    show ∀ c ∈ cuts, _
    exact fun c hc => (ok.vio (ok.ms.cuts c hc)).fit (by decide)
  have HCU := Lib.hid hcu
  have hk32 : cuts.length ≤ 32 := ok.ms.k2
  have hL := Loc.start hV
  clear hV ok ha hb hcu hvv HM HVV
  rw [hul] at KW hcv ⊢
  clear hul
  simp only
  generalize cols.length = nc at *
  generalize rws.length = nr at *
  generalize hn2 : cuts.length = nk at *
  have HN2 := Lib.hid hn2
  clear hn2
  go_enter Tryz.func53, Tryz.ntmps53
  go_upto_region 0 with (fail)
  refine wp_region_lit ?_
  refine t_box hL rfl rfl ?_; clear hL; intro Wh2 mh2 hL eh2; simp only [Act.put, zq1, zq2, zq3]
  go_wp2_with (first | ((with_reducible refine kAny ?_); go_skip) | (with_reducible refine stA ?_) | ((first | refine tIx ?_ | refine tFd ?_ | refine tLd ?_ | ((first | refine tSr ?_ | refine tSt ?_); clear hL; intro _ hL; simp only [splice, zq1, zq2, zq3] at hL) | ((first | refine tBx ?_ | refine tAl ?_); clear hL; intro _ _ hL _) | (refine tBs ?_; clear hL; intro _ _ hL _ hBs)); simp only [Act.put, zq1, zq2, zq3]))
  refine (KV.out _ _ hL.vw leX).mono ?_
  rintro e Wc1 ⟨_, mc1, rfl, hE, hMc1, hV, rfl⟩
  replace hL := hL.call hE (by assumption) hV; clear hE hV
  go_wp2_with (first | ((with_reducible refine kAny ?_); go_skip) | (with_reducible refine stA ?_) | ((first | refine tIx ?_ | refine tFd ?_ | refine tLd ?_ | ((first | refine tSr ?_ | refine tSt ?_); clear hL; intro _ hL; simp only [splice, zq1, zq2, zq3] at hL) | ((first | refine tBx ?_ | refine tAl ?_); clear hL; intro _ _ hL _) | (refine tBs ?_; clear hL; intro _ _ hL _ hBs)); simp only [Act.put, zq1, zq2, zq3]))
  go_loopw [7, 24] (fun ov i wr => ∃ (k : Nat) (mm : World) (q : Nat) (Rr : List Lo), k ≤ nk ∧ i = .int .i64 k ∧ Loc w m wr mm ((w.heap.size, 26, #[.int .i64 nf, .slice A nr ca, .int .i64 pen, .slice B nc cb, .slice C nk cc]) :: Rr) ∧ Hid (RowA 3 1 IsI mm ov q (tiT cuts cols us k) Rr)) (fun _ i _ => nk - (intOf i).toNat)
  case atStart => exact ⟨0, _, 0, [], Nat.zero_le _, rfl, hL, RowA.nil⟩
  case round =>
    clear hL
    obtain ⟨k, mm, q, Rr, hk, rfl, hL, row⟩ := hrel
    have hM := hL.mext
    obtain ⟨A3, c3, rfl, row1⟩ := row.out.lit
    have hq : q ≤ 32 := by
      have h1 := row1.len
      have h2 := tiT_len cuts cols us k
      omega
    have ROW := Lib.hid row1
    clear row row1
    by_cases hlt : k < nk
    · have hlt' : (k : Int) < (nk : Int) := by omega
      obtain ⟨⟨xs, dv⟩, hx⟩ := at_some HN2 hlt
      have hcu := HCU.out
      obtain ⟨b1, o1, D, cd, rfl, hcx, hr1⟩ := CutL.at_' hcu hx
      have HCX := Lib.hid hcx
      have HX := Lib.hid hx
      have HIN := Lib.hid (List.mem_of_getElem? hx)
      have HFX : Hid (Fit 200 (vioF (xs, dv) cols us)) := HF.out _ HIN.out
      simp only at hr1
      clear hx hcx hcu
      generalize xs.length = nx at *
      go_wp2_with (first | ((with_reducible refine kAny ?_); go_skip) | (with_reducible refine stA ?_) | ((first | refine tIx ?_ | refine tFd ?_ | refine tLd ?_ | ((first | refine tSr ?_ | refine tSt ?_); clear hL; intro _ hL; simp only [splice, zq1, zq2, zq3] at hL) | ((first | refine tBx ?_ | refine tAl ?_); clear hL; intro _ _ hL _) | (refine tBs ?_; clear hL; intro _ _ hL _ hBs)); simp only [Act.put, zq1, zq2, zq3]))
      refine (KW.out _ (xs, dv) _ _ hL.vw leX (HCX.out.le leX) HIN.out).mono ?_
      rintro e Wc2 ⟨vc2, mc2, rfl, hE, hMc2, hV, hc2⟩
      replace hL := hL.call hE (by assumption) hV; clear hE hV
      obtain ⟨gc2', Ac2', nc2', cc2', hc2', Bc2', kc2', dc2', rfl, hc2⟩ := hc2.lit
      go_wp2_with (first | ((with_reducible refine kAny ?_); go_skip) | (with_reducible refine stA ?_) | ((first | refine tIx ?_ | refine tFd ?_ | refine tLd ?_ | ((first | refine tSr ?_ | refine tSt ?_); clear hL; intro _ hL; simp only [splice, zq1, zq2, zq3] at hL) | ((first | refine tBx ?_ | refine tAl ?_); clear hL; intro _ _ hL _) | (refine tBs ?_; clear hL; intro _ _ hL _ hBs)); simp only [Act.put, zq1, zq2, zq3]))
      refine (q_Sign _ (vioF (xs, dv) cols us) _ _ hL.vw (hc2.le leX) HFX.out).mono ?_
      rintro e Wc3 ⟨_, mc3, rfl, hE, hMc3, hV, rfl⟩
      replace hL := hL.call hE (by assumption) hV; clear hE hV
      by_cases h0 : vioF (xs, dv) cols us = 0
      · have hz : icmp (vioF (xs, dv) cols us).num 0 = 0 := by rw [h0]; rfl
        have HT := Lib.hid (tiT_yes HX.out h0)
        rw [hz]
        clear h0 hz
        go_wp2_with (first | ((with_reducible refine kAny ?_); go_skip) | (with_reducible refine stA ?_) | ((first | refine tIx ?_ | refine tFd ?_ | refine tLd ?_ | ((first | refine tSr ?_ | refine tSt ?_); clear hL; intro _ hL; simp only [splice, zq1, zq2, zq3] at hL) | ((first | refine tBx ?_ | refine tAl ?_); clear hL; intro _ _ hL _) | (refine tBs ?_; clear hL; intro _ _ hL _ hBs)); simp only [Act.put, zq1, zq2, zq3]))
        refine goA ?_
        obtain ⟨vs7, r7, z7, y7, l7⟩ := ROW.out
        refine wl_append (A := [_, _]) hL r7 (wanted_none rfl) rfl ap_ints (by omega) rfl rfl (news := [.int .i64 (k : Int)]) rfl ((Blk.sl hBs (n := 1) rfl).le hL.vw.le) rfl (by omega) (by omega) ?_
        clear hL
        intro v1 W5 m5 R5 hL r8 e8
        obtain ⟨A11, c11, rfl, -⟩ := r8.lit
        simp only [List.cons_append, List.nil_append] at hL
        have rd := RowA.snocV (R := IsI) (m := m5) (x := (k : Int)) r8 z7 (y7.mono fun _ _ hv => hv) l7 rfl rfl rfl
        rw [← HT.out] at rd
        have RD := Lib.hid rd
        clear rd r8 r7 z7 y7 l7
        simp only [Act.put, zq1, zq2, zq3]
        go_wp2_with (first | ((with_reducible refine kAny ?_); go_skip) | (with_reducible refine stA ?_) | ((first | refine tIx ?_ | refine tFd ?_ | refine tLd ?_ | ((first | refine tSr ?_ | refine tSt ?_); clear hL; intro _ hL; simp only [splice, zq1, zq2, zq3] at hL) | ((first | refine tBx ?_ | refine tAl ?_); clear hL; intro _ _ hL _) | (refine tBs ?_; clear hL; intro _ _ hL _ hBs)); simp only [Act.put, zq1, zq2, zq3]))
        go_roundw
        case rel => exact ⟨k + 1, m5, q + 1, R5, by omega, by go_num, hL.tail, RD.out⟩
        case measure => simp [intOf] <;> omega
      · have hz : ¬ icmp (vioF (xs, dv) cols us).num 0 = 0 := icmp_ne h0
        have hz2 : (icmp (vioF (xs, dv) cols us).num 0 == 0) = false := by simpa using hz
        have HT := Lib.hid (tiT_no HX.out h0)
        clear h0
        generalize icmp (vioF (xs, dv) cols us).num 0 = zz at *
        go_wp2_with (first | ((with_reducible refine kAny ?_); go_skip) | (with_reducible refine stA ?_) | ((first | refine tIx ?_ | refine tFd ?_ | refine tLd ?_ | ((first | refine tSr ?_ | refine tSt ?_); clear hL; intro _ hL; simp only [splice, zq1, zq2, zq3] at hL) | ((first | refine tBx ?_ | refine tAl ?_); clear hL; intro _ _ hL _) | (refine tBs ?_; clear hL; intro _ _ hL _ hBs)); simp only [Act.put, zq1, zq2, zq3]))
        go_roundw
        case rel => exact ⟨k + 1, _, q, Rr, by omega, by go_num, hL.tail, by rw [HT.out]; exact RowA.le IsI.mono ROW.out leX⟩
        case measure => simp [intOf] <;> omega
    · have hkn : k = nk := by omega
      subst hkn
      have h9 : (k : Int) ≤ (k : Int) := Int.le_refl _
      obtain ⟨m9, hL9, hle9, hl9, -⟩ := RowA.show (A := [_]) IsI.mono hL ROW.out
      clear hL
      have hL := hL9
      have HL9 := Lib.hid hl9
      clear hL9 hl9 ROW
      go_wp2_with (first | ((with_reducible refine kAny ?_); go_skip) | (with_reducible refine stA ?_) | ((first | refine tIx ?_ | refine tFd ?_ | refine tLd ?_ | ((first | refine tSr ?_ | refine tSt ?_); clear hL; intro _ hL; simp only [splice, zq1, zq2, zq3] at hL) | ((first | refine tBx ?_ | refine tAl ?_); clear hL; intro _ _ hL _) | (refine tBs ?_; clear hL; intro _ _ hL _ hBs)); simp only [Act.put, zq1, zq2, zq3]))
      go_ret2
      exact RetV.mk hL ⟨_, rfl, HL9.out⟩
set_option maxRecDepth 100000 in
set_option maxHeartbeats 32000000 in
theorem r_Tight (mv vv : Value) (ms : Ms) (us : List Rat) (w m : World) (hV : Vw m w) (hm : MasterR m mv ms) (hvv : FracL m vv us) (ok : VOk ms us) :
    Calls Tryz.prog 54 #[mv, vv] w (RetV w m fun m' r => ∃ v, r = .tuple #[v, .int .i64 0] ∧ IntL m' v (tiT ms.cuts ms.cols us ms.cuts.length)) := by
  have HM := Lib.hid hm
  have HVV := Lib.hid hvv
  obtain ⟨V, cv, rfl, hcv, hvv⟩ := hvv.lit
  obtain ⟨nf, rws, pen, cols, cuts⟩ := ms
  obtain ⟨va, vb, vc, rfl, ha, hb, hcu⟩ := hm
  simp only at ha hb hcu
  obtain ⟨A, ca, rfl, hca, ha⟩ := ha.lit
  obtain ⟨B, cb, rfl, hcb, hb⟩ := hb.lit
  obtain ⟨C, cc, rfl, hcc, hcu⟩ := hcu.lit
  have hul : us.length = cols.length := ok.len
  have KV : Hid (∀ w m', Vw m' w → Le m m' → Calls Tryz.prog 107 #[.agg #[.int .i64 nf, .slice A rws.length ca, .int .i64 pen, .slice B cols.length cb, .slice C cuts.length cc], .slice V us.length cv] w (RetV w m' fun _ r => r = .int .i64 0)) := by
    show ∀ w m', _
    exact fun w m' hV hle => r_valued _ _ V us.length cv 0 w m' hV (HM.out.le hle) ok.ms (by rw [if_pos hul])
  have KW : Hid (∀ xv c w m', Vw m' w → Le m m' → CutR m' xv c → c ∈ cuts → Calls Tryz.prog 98 #[.agg #[.int .i64 nf, .slice A rws.length ca, .int .i64 pen, .slice B cols.length cb, .slice C cuts.length cc], xv, .slice V us.length cv] w (RetV w m' fun m' r => FracC m' r (vioF c cols us))) := by
    show ∀ xv c w m', _
    exact fun xv c w m' hV hle hx hc => r_violation _ xv _ _ c us w m' hV (HM.out.le hle) hx (FracL.le HVV.out hle) ok (ok.ms.cuts c hc)
  have HF : Hid (∀ c ∈ cuts, Fit 200 (vioF c cols us)) := by
    show ∀ c ∈ cuts, _
    exact fun c hc => (ok.vio (ok.ms.cuts c hc)).fit (by decide)
  have HCU := Lib.hid hcu
  have hk32 : cuts.length ≤ 32 := ok.ms.k2
  have hL := Loc.start hV
  clear hV ok ha hb hcu hvv HM HVV
  rw [hul] at KW KV hcv ⊢
  clear hul
  simp only
  generalize cols.length = nc at *
  generalize rws.length = nr at *
  generalize hn2 : cuts.length = nk at *
  have HN2 := Lib.hid hn2
  clear hn2
  go_enter Tryz.func54, Tryz.ntmps54
  go_upto_region 0 with (fail)
  refine wp_region_lit ?_
  refine t_box hL rfl rfl ?_; clear hL; intro Wh2 mh2 hL eh2; simp only [Act.put, zq1, zq2, zq3]
  go_wp2_with (first | ((with_reducible refine kAny ?_); go_skip) | (with_reducible refine stA ?_) | ((first | refine tIx ?_ | refine tFd ?_ | refine tLd ?_ | (refine tBx ?_; clear hL; intro _ _ hL _) | (refine tBs ?_; clear hL; intro _ _ hL _ hBs)); simp only [Act.put, zq1, zq2, zq3]))
  refine (KV.out _ _ hL.vw leX).mono ?_
  rintro e Wc1 ⟨_, mc1, rfl, hE, hMc1, hV, rfl⟩
  replace hL := hL.call hE (by assumption) hV; clear hE hV
  go_wp2_with (first | ((with_reducible refine kAny ?_); go_skip) | (with_reducible refine stA ?_) | ((first | refine tIx ?_ | refine tFd ?_ | refine tLd ?_ | (refine tBx ?_; clear hL; intro _ _ hL _) | (refine tBs ?_; clear hL; intro _ _ hL _ hBs)); simp only [Act.put, zq1, zq2, zq3]))
  go_loopw [7, 8] (fun ov i wr => ∃ (k : Nat) (mm : World) (q : Nat) (Rr : List Lo), k ≤ nk ∧ i = .int .i64 k ∧ Loc w m wr mm ((w.heap.size, 26, #[.int .i64 nf, .slice A nr ca, .int .i64 pen, .slice B nc cb, .slice C nk cc]) :: Rr) ∧ Hid (RowA 3 1 IsI mm ov q (tiT cuts cols us k) Rr)) (fun _ i _ => nk - (intOf i).toNat)
  case atStart => exact ⟨0, _, 0, [], Nat.zero_le _, rfl, hL, RowA.nil⟩
  case round =>
    clear hL
    obtain ⟨k, mm, q, Rr, hk, rfl, hL, row⟩ := hrel
    have hM := hL.mext
    obtain ⟨A3, c3, rfl, row1⟩ := row.out.lit
    have hq : q ≤ 32 := by
      have h1 := row1.len
      have h2 := tiT_len cuts cols us k
      omega
    have ROW := Lib.hid row1
    clear row row1
    by_cases hlt : k < nk
    · have hlt' : (k : Int) < (nk : Int) := by omega
      obtain ⟨⟨xs, dv⟩, hx⟩ := at_some HN2 hlt
      have hcu := HCU.out
      obtain ⟨b1, o1, D, cd, rfl, hcx, hr1⟩ := CutL.at_' hcu hx
      have HCX := Lib.hid hcx
      have HX := Lib.hid hx
      have HIN := Lib.hid (List.mem_of_getElem? hx)
      have HFX : Hid (Fit 200 (vioF (xs, dv) cols us)) := HF.out _ HIN.out
      simp only at hr1
      clear hx hcx hcu
      generalize xs.length = nx at *
      have HF2 : Hid (Fit 1000 (vioF (xs, dv) cols us)) := HFX.out.mono (by decide)
      have KS : Hid (∀ v w m', Vw m' w → FracC m' v (vioF (xs, dv) cols us) → Calls Tryz.prog 45 #[v] w (RetV w m' fun _ r => r = .int .i64 (rs (vioF (xs, dv) cols us)))) := by
        show ∀ v w m', _
        exact fun v w m' hV h => r_Sign v _ w m' hV (h.toV HFX.out (by decide)) HF2.out
      by_cases h0 : vioF (xs, dv) cols us = 0
      · have hz : rs (vioF (xs, dv) cols us) = 0 := by rw [h0]; rfl
        have HT := Lib.hid (tiT_yes HX.out h0)
        rw [hz] at KS
        clear h0 hz
        go_upto_region 8 with ((first | ((with_reducible refine kAny ?_); go_skip) | (with_reducible refine stA ?_) | ((first | refine tIx ?_ | refine tFd ?_ | refine tLd ?_ | (refine tBx ?_; clear hL; intro _ _ hL _) | (refine tBs ?_; clear hL; intro _ _ hL _ hBs)); simp only [Act.put, zq1, zq2, zq3])))
        (try simp only [eq_self] at *)
        refine wp_region_by2 10 [false, false, false, false, false, false, false, false, false, false] [false, false, false, false, false, false, false, false, false, false] [(fun v _ _ => v = ?c8_0a), (fun v _ _ => v = ?c8_1a), (fun v _ _ => v = ?c8_2a), (fun v _ _ => v = ?c8_3a), (fun v _ _ => v = ?c8_4a), (fun v _ _ => v = ?c8_5a), (fun v _ _ => v = ?c8_6a), Of (fun um v => FracC um v (vioF (xs, dv) cols us)), Is (.int .i64 0), (fun v _ _ => v = ?c8_9a)] hL.vw mixed [22, 23, 24, 25, 26, 27, 28, 29, 30, 31] _ (by kernel_rfl) (fun vs => by simp only [lay, Act.put, zq1, zq2, zq3]; rfl) (by kernel_rfl) (by decide) (by decide) ?s8a ?l8a ?r8a
        case s8a =>
          refine ⟨?_, ?_, ?_, ?_, ?_, ?_, ?_, ?_, ?_, ?_, trivial⟩
          · intro vs W1 m1 hE hM hV hD; clear hD; replace hL := hL.call hE hM hV
            exact sLd
          · intro vs W1 m1 hE hM hV hD; clear hD; replace hL := hL.call hE hM hV
            exact sFd
          · intro vs W1 m1 hE hM hV hD; obtain ⟨⟨_, _, -, -, f23⟩, -⟩ := hD; have f23 : vs 23 = _ := f23; generalize vs 23 = x23 at f23 ⊢; subst x23; replace hL := hL.call hE hM hV
            exact sLd
          · intro vs W1 m1 hE hM hV hD; clear hD; replace hL := hL.call hE hM hV
            exact sPu
          · intro vs W1 m1 hE hM hV hD; obtain ⟨⟨_, _, -, -, f24⟩, ⟨_, _, -, -, f25⟩, -⟩ := hD; have f24 : vs 24 = _ := f24; generalize vs 24 = x24 at f24 ⊢; subst x24; have f25 : vs 25 = _ := f25; generalize vs 25 = x25 at f25 ⊢; subst x25; replace hL := hL.call hE hM hV
            exact sIx
          · intro vs W1 m1 hE hM hV hD; obtain ⟨⟨_, _, -, -, f26⟩, -⟩ := hD; have f26 : vs 26 = _ := f26; generalize vs 26 = x26 at f26 ⊢; subst x26; replace hL := hL.call hE hM hV
            exact sLd
          · intro vs W1 m1 hE hM hV hD; clear hD; replace hL := hL.call hE hM hV
            exact sPu
          · intro vs W1 m1 hE hM hV hD; obtain ⟨⟨_, _, -, -, f22⟩, ⟨_, _, -, -, f27⟩, ⟨_, _, -, -, f28⟩, -⟩ := hD; have f22 : vs 22 = _ := f22; generalize vs 22 = x22 at f22 ⊢; subst x22; have f27 : vs 27 = _ := f27; generalize vs 27 = x27 at f27 ⊢; subst x27; have f28 : vs 28 = _ := f28; generalize vs 28 = x28 at f28 ⊢; subst x28
            go_wp2_with fail
            refine (KW.out _ (xs, dv) _ _ hV leX (HCX.out.le leX) HIN.out).mono ?_
            rintro e W2 ⟨v, m2, rfl, hE2, hM2, hV2, h⟩
            go_wp2_with fail
            refine One2.call hE2 hM2 hV2 ?_; first | exact h | exact rfl
          · intro vs W1 m1 hE hM hV hD; obtain ⟨⟨_, _, -, i29, f29⟩, -, -⟩ := hD; have f29 : FracC _ (vs 29) (vioF (xs, dv) cols us) := f29; replace f29 := f29.le i29.le; clear i29
            go_wp2_with fail
            refine (KS.out _ _ _ hV f29).mono ?_
            rintro e W2 ⟨v, m2, rfl, hE2, hM2, hV2, h⟩
            go_wp2_with fail
            refine One2.call hE2 hM2 hV2 ?_; first | exact h | exact rfl
          · intro vs W1 m1 hE hM hV hD; obtain ⟨⟨_, _, -, -, f30⟩, -⟩ := hD; have f30 : vs 30 = _ := f30; generalize vs 30 = x30 at f30 ⊢; subst x30; replace hL := hL.call hE hM hV
            exact sPu
        case l8a =>
          refine ⟨fun h => (by cases h), fun h => (by cases h), fun h => (by cases h), fun h => (by cases h), fun h => (by cases h), fun h => (by cases h), fun h => (by cases h), fun h => (by cases h), fun h => (by cases h), fun h => (by cases h), trivial⟩
        intro vs W1 m1 hE hM hV hF hD
        clear hD
        obtain ⟨⟨_, _, -, -, f22⟩, ⟨_, _, -, -, f23⟩, ⟨_, _, -, -, f24⟩, ⟨_, _, -, -, f25⟩, ⟨_, _, -, -, f26⟩, ⟨_, _, -, -, f27⟩, ⟨_, _, -, -, f28⟩, ⟨_, _, -, i29, f29⟩, ⟨_, _, -, -, f30⟩, ⟨_, _, -, -, f31⟩, -⟩ := hF
        replace hL := hL.call hE hM hV
        have f22 : vs 22 = _ := f22
        generalize vs 22 = x22 at f22 ⊢
        subst x22
        have f23 : vs 23 = _ := f23
        generalize vs 23 = x23 at f23 ⊢
        subst x23
        have f24 : vs 24 = _ := f24
        generalize vs 24 = x24 at f24 ⊢
        subst x24
        have f25 : vs 25 = _ := f25
        generalize vs 25 = x25 at f25 ⊢
        subst x25
        have f26 : vs 26 = _ := f26
        generalize vs 26 = x26 at f26 ⊢
        subst x26
        have f27 : vs 27 = _ := f27
        generalize vs 27 = x27 at f27 ⊢
        subst x27
        have f28 : vs 28 = _ := f28
        generalize vs 28 = x28 at f28 ⊢
        subst x28
        replace f29 : FracC _ (vs 29) (vioF (xs, dv) cols us) := f29
        replace f29 := f29.le i29.le
        clear i29
        have f30 : vs 30 = _ := f30
        generalize vs 30 = x30 at f30 ⊢
        subst x30
        have f31 : vs 31 = _ := f31
        generalize vs 31 = x31 at f31 ⊢
        subst x31
        clear hE hV
        simp only [List.drop_succ_cons, List.drop_zero]
        go_wp2_with (first | ((with_reducible refine kAny ?_); go_skip) | (with_reducible refine stA ?_) | ((first | refine tIx ?_ | refine tFd ?_ | refine tLd ?_ | (refine tBx ?_; clear hL; intro _ _ hL _) | (refine tBs ?_; clear hL; intro _ _ hL _ hBs)); simp only [Act.put, zq1, zq2, zq3]))
        refine QN.mk ?_
        go_wp2_with (first | ((with_reducible refine kAny ?_); go_skip) | (with_reducible refine stA ?_) | ((first | refine tIx ?_ | refine tFd ?_ | refine tLd ?_ | (refine tBx ?_; clear hL; intro _ _ hL _) | (refine tBs ?_; clear hL; intro _ _ hL _ hBs)); simp only [Act.put, zq1, zq2, zq3]))
        refine goA ?_
        obtain ⟨vs7, r7, z7, y7, l7⟩ := ROW.out
        refine wl_append (A := [_]) hL r7 (wanted_none rfl) rfl ap_ints (by omega) rfl rfl (news := [.int .i64 (k : Int)]) rfl ((Blk.sl hBs (n := 1) rfl).le hL.vw.le) rfl (by omega) (by omega) ?_
        clear hL
        intro v1 W5 m5 R5 hL r8 e8
        obtain ⟨A11, c11, rfl, -⟩ := r8.lit
        simp only [List.cons_append, List.nil_append] at hL
        have rd := RowA.snocV (R := IsI) (m := m5) (x := (k : Int)) r8 z7 (y7.mono fun _ _ hv => hv) l7 rfl rfl rfl
        rw [← HT.out] at rd
        have RD := Lib.hid rd
        clear rd r8 r7 z7 y7 l7
        simp only [Act.put, zq1, zq2, zq3]
        go_wp2_with (first | ((with_reducible refine kAny ?_); go_skip) | (with_reducible refine stA ?_) | ((first | refine tIx ?_ | refine tFd ?_ | refine tLd ?_ | (refine tBx ?_; clear hL; intro _ _ hL _) | (refine tBs ?_; clear hL; intro _ _ hL _ hBs)); simp only [Act.put, zq1, zq2, zq3]))
        go_roundw
        case rel => exact ⟨k + 1, m5, q + 1, R5, by omega, by go_num, hL, RD.out⟩
        case measure => simp [intOf] <;> omega
      · have hz : ¬ rs (vioF (xs, dv) cols us) = 0 := fun h => icmp_ne h0 h
        have HT := Lib.hid (tiT_no HX.out h0)
        clear h0
        obtain ⟨zz, hzz⟩ : ∃ zz, rs (vioF (xs, dv) cols us) = zz := ⟨_, rfl⟩
        rw [hzz] at KS hz
        have hz2 : (zz == 0) = false := by simpa using hz
        clear hzz hz
        go_upto_region 8 with ((first | ((with_reducible refine kAny ?_); go_skip) | (with_reducible refine stA ?_) | ((first | refine tIx ?_ | refine tFd ?_ | refine tLd ?_ | (refine tBx ?_; clear hL; intro _ _ hL _) | (refine tBs ?_; clear hL; intro _ _ hL _ hBs)); simp only [Act.put, zq1, zq2, zq3])))
        (try simp only [eq_self] at *)
        refine wp_region_by2 10 [false, false, false, false, false, false, false, false, false, false] [false, false, false, false, false, false, false, false, false, false] [(fun v _ _ => v = ?c8_0b), (fun v _ _ => v = ?c8_1b), (fun v _ _ => v = ?c8_2b), (fun v _ _ => v = ?c8_3b), (fun v _ _ => v = ?c8_4b), (fun v _ _ => v = ?c8_5b), (fun v _ _ => v = ?c8_6b), Of (fun um v => FracC um v (vioF (xs, dv) cols us)), Is (.int .i64 zz), (fun v _ _ => v = ?c8_9b)] hL.vw mixed [22, 23, 24, 25, 26, 27, 28, 29, 30, 31] _ (by kernel_rfl) (fun vs => by simp only [lay, Act.put, zq1, zq2, zq3]; rfl) (by kernel_rfl) (by decide) (by decide) ?s8b ?l8b ?r8b
        case s8b =>
          refine ⟨?_, ?_, ?_, ?_, ?_, ?_, ?_, ?_, ?_, ?_, trivial⟩
          · intro vs W1 m1 hE hM hV hD; clear hD; replace hL := hL.call hE hM hV
            exact sLd
          · intro vs W1 m1 hE hM hV hD; clear hD; replace hL := hL.call hE hM hV
            exact sFd
          · intro vs W1 m1 hE hM hV hD; obtain ⟨⟨_, _, -, -, f23⟩, -⟩ := hD; have f23 : vs 23 = _ := f23; generalize vs 23 = x23 at f23 ⊢; subst x23; replace hL := hL.call hE hM hV
            exact sLd
          · intro vs W1 m1 hE hM hV hD; clear hD; replace hL := hL.call hE hM hV
            exact sPu
          · intro vs W1 m1 hE hM hV hD; obtain ⟨⟨_, _, -, -, f24⟩, ⟨_, _, -, -, f25⟩, -⟩ := hD; have f24 : vs 24 = _ := f24; generalize vs 24 = x24 at f24 ⊢; subst x24; have f25 : vs 25 = _ := f25; generalize vs 25 = x25 at f25 ⊢; subst x25; replace hL := hL.call hE hM hV
            exact sIx
          · intro vs W1 m1 hE hM hV hD; obtain ⟨⟨_, _, -, -, f26⟩, -⟩ := hD; have f26 : vs 26 = _ := f26; generalize vs 26 = x26 at f26 ⊢; subst x26; replace hL := hL.call hE hM hV
            exact sLd
          · intro vs W1 m1 hE hM hV hD; clear hD; replace hL := hL.call hE hM hV
            exact sPu
          · intro vs W1 m1 hE hM hV hD; obtain ⟨⟨_, _, -, -, f22⟩, ⟨_, _, -, -, f27⟩, ⟨_, _, -, -, f28⟩, -⟩ := hD; have f22 : vs 22 = _ := f22; generalize vs 22 = x22 at f22 ⊢; subst x22; have f27 : vs 27 = _ := f27; generalize vs 27 = x27 at f27 ⊢; subst x27; have f28 : vs 28 = _ := f28; generalize vs 28 = x28 at f28 ⊢; subst x28
            go_wp2_with fail
            refine (KW.out _ (xs, dv) _ _ hV leX (HCX.out.le leX) HIN.out).mono ?_
            rintro e W2 ⟨v, m2, rfl, hE2, hM2, hV2, h⟩
            go_wp2_with fail
            refine One2.call hE2 hM2 hV2 ?_; first | exact h | exact rfl
          · intro vs W1 m1 hE hM hV hD; obtain ⟨⟨_, _, -, i29, f29⟩, -, -⟩ := hD; have f29 : FracC _ (vs 29) (vioF (xs, dv) cols us) := f29; replace f29 := f29.le i29.le; clear i29
            go_wp2_with fail
            refine (KS.out _ _ _ hV f29).mono ?_
            rintro e W2 ⟨v, m2, rfl, hE2, hM2, hV2, h⟩
            go_wp2_with fail
            refine One2.call hE2 hM2 hV2 ?_; first | exact h | exact rfl
          · intro vs W1 m1 hE hM hV hD; obtain ⟨⟨_, _, -, -, f30⟩, -⟩ := hD; have f30 : vs 30 = _ := f30; generalize vs 30 = x30 at f30 ⊢; subst x30; replace hL := hL.call hE hM hV
            exact sPu
        case l8b =>
          refine ⟨fun h => (by cases h), fun h => (by cases h), fun h => (by cases h), fun h => (by cases h), fun h => (by cases h), fun h => (by cases h), fun h => (by cases h), fun h => (by cases h), fun h => (by cases h), fun h => (by cases h), trivial⟩
        intro vs W1 m1 hE hM hV hF hD
        clear hD
        obtain ⟨⟨_, _, -, -, f22⟩, ⟨_, _, -, -, f23⟩, ⟨_, _, -, -, f24⟩, ⟨_, _, -, -, f25⟩, ⟨_, _, -, -, f26⟩, ⟨_, _, -, -, f27⟩, ⟨_, _, -, -, f28⟩, ⟨_, _, -, i29, f29⟩, ⟨_, _, -, -, f30⟩, ⟨_, _, -, -, f31⟩, -⟩ := hF
        replace hL := hL.call hE hM hV
        have f22 : vs 22 = _ := f22
        generalize vs 22 = x22 at f22 ⊢
        subst x22
        have f23 : vs 23 = _ := f23
        generalize vs 23 = x23 at f23 ⊢
        subst x23
        have f24 : vs 24 = _ := f24
        generalize vs 24 = x24 at f24 ⊢
        subst x24
        have f25 : vs 25 = _ := f25
        generalize vs 25 = x25 at f25 ⊢
        subst x25
        have f26 : vs 26 = _ := f26
        generalize vs 26 = x26 at f26 ⊢
        subst x26
        have f27 : vs 27 = _ := f27
        generalize vs 27 = x27 at f27 ⊢
        subst x27
        have f28 : vs 28 = _ := f28
        generalize vs 28 = x28 at f28 ⊢
        subst x28
        replace f29 : FracC _ (vs 29) (vioF (xs, dv) cols us) := f29
        replace f29 := f29.le i29.le
        clear i29
        have f30 : vs 30 = _ := f30
        generalize vs 30 = x30 at f30 ⊢
        subst x30
        have f31 : vs 31 = _ := f31
        generalize vs 31 = x31 at f31 ⊢
        subst x31
        clear hE hV
        simp only [List.drop_succ_cons, List.drop_zero]
        go_wp2_with (first | ((with_reducible refine kAny ?_); go_skip) | (with_reducible refine stA ?_) | ((first | refine tIx ?_ | refine tFd ?_ | refine tLd ?_ | (refine tBx ?_; clear hL; intro _ _ hL _) | (refine tBs ?_; clear hL; intro _ _ hL _ hBs)); simp only [Act.put, zq1, zq2, zq3]))
        refine QN.mk ?_
        go_wp2_with (first | ((with_reducible refine kAny ?_); go_skip) | (with_reducible refine stA ?_) | ((first | refine tIx ?_ | refine tFd ?_ | refine tLd ?_ | (refine tBx ?_; clear hL; intro _ _ hL _) | (refine tBs ?_; clear hL; intro _ _ hL _ hBs)); simp only [Act.put, zq1, zq2, zq3]))
        go_roundw
        case rel => exact ⟨k + 1, _, q, Rr, by omega, by go_num, hL, by rw [HT.out]; exact RowA.le IsI.mono ROW.out leX⟩
        case measure => simp [intOf] <;> omega
    · have hkn : k = nk := by omega
      subst hkn
      have h9 : (k : Int) ≤ (k : Int) := Int.le_refl _
      obtain ⟨m9, hL9, hle9, hl9, -⟩ := RowA.show (A := [_]) IsI.mono hL ROW.out
      clear hL
      have hL := hL9
      have HL9 := Lib.hid hl9
      clear hL9 hl9 ROW
      go_wp2_with (first | ((with_reducible refine kAny ?_); go_skip) | (with_reducible refine stA ?_) | ((first | refine tIx ?_ | refine tFd ?_ | refine tLd ?_ | (refine tBx ?_; clear hL; intro _ _ hL _) | (refine tBs ?_; clear hL; intro _ _ hL _ hBs)); simp only [Act.put, zq1, zq2, zq3]))
      go_ret2
      exact RetV.mk hL ⟨_, rfl, HL9.out⟩
end Go.Proofs.YtmhkmmmompediaaGreat

/- Contract of cuts.known: a cut is among others. -/
namespace Go.Proofs.YtmhkmmmompediaaGreat
open Go.RowKit

theorem eq_of_first {xs ys : List Int} {n : Nat} (h1 : xs.length = n) (h2 : ys.length = n) (h : ∀ (j : Nat) (x y : Int), j < n → xs[j]? = some x → ys[j]? = some y → x = y) : xs = ys := by
  refine List.ext_getElem? fun j => ?_
  by_cases hj : j < n
  · have e1 := List.getElem?_eq_getElem (l := xs) (i := j) (by omega)
    have e2 := List.getElem?_eq_getElem (l := ys) (i := j) (by omega)
    rw [e1, e2, h j _ _ hj e1 e2]
  · rw [List.getElem?_eq_none (by omega), List.getElem?_eq_none (by omega)]

set_option maxRecDepth 100000 in
set_option maxHeartbeats 16000000 in
theorem s_EqualB (a b : Value) (xs ys : List Int) (w m : World) (hV : Vw m w) (ha : IntL m a xs) (hb : IntL m b ys) (hl : xs.length ≤ 1000000) :
    Calls Tryz.prog 151 #[a, b] w (RetV w m fun _ r => r = .bool (decide (xs = ys))) := by
  obtain ⟨A, c, rfl, hc, ha⟩ := ha.lit
  obtain ⟨B, d, rfl, hd, hb⟩ := hb.lit
  have hL := Loc.start hV
  clear hV
  obtain ⟨ez, hez⟩ : ∃ ez : Bool, ez = decide (xs = ys) := ⟨_, rfl⟩
  rw [← hez]
  have HEZ := Lib.hid hez
  clear hez
  generalize hn : xs.length = n at *
  have HN := Lib.hid hn
  clear hn
  generalize hn2 : ys.length = n2 at *
  have HN2 := Lib.hid hn2
  clear hn2
  by_cases hnn : n = n2
  · subst hnn
    have hnn : ((n : Int) != (n : Int)) = false := by simp
    go_enter Tryz.func151, Tryz.ntmps151
    go_wp2_with (first | ((with_reducible refine kAny ?_); go_skip) | (with_reducible refine stA ?_) | ((first | refine tIx ?_ | refine tLd ?_); simp only [Act.put, zq1, zq2, zq3]))
    go_loopw [13] (fun i wr => ∃ (k : Nat) (mm : World), k ≤ n ∧ i = .int .i64 k ∧ Loc w m wr mm [] ∧ Hid (∀ (j : Nat) (x y : Int), j < k → xs[j]? = some x → ys[j]? = some y → x = y)) (fun i _ => n - (intOf i).toNat)
    case atStart => exact ⟨0, m, Nat.zero_le _, rfl, hL, (fun _ _ _ h => absurd h (Nat.not_lt_zero _))⟩
    case round =>
      clear hL
      obtain ⟨k, mm, hk, rfl, hL, HJ⟩ := hrel
      have hM := hL.mext
      by_cases hlt : k < n
      · obtain ⟨x, hx⟩ := at_some HN hlt
        obtain ⟨y, hy⟩ := at_some HN2 hlt
        obtain ⟨b1, o1, rfl, hc1⟩ := IntL.at_ ha hx
        obtain ⟨b2, o2, rfl, hc2⟩ := IntL.at_ hb hy
        have HX := Lib.hid hx
        have HY := Lib.hid hy
        clear hx hy
        by_cases hxy : x = y
        · subst hxy
          have hxx : (x != x) = false := by simp
          have HJ2 : Hid (∀ (j : Nat) (x y : Int), j < k + 1 → xs[j]? = some x → ys[j]? = some y → x = y) := by
            show ∀ j x y, _
            intro j x' y' hj hx' hy'
            rcases Nat.lt_succ_iff_lt_or_eq.1 hj with h' | rfl
            · exact HJ.out j x' y' h' hx' hy'
            · rw [HX.out] at hx'; rw [HY.out] at hy'; cases hx'; cases hy'; rfl
          go_upto_region 6 with ((first | ((with_reducible refine kAny ?_); go_skip) | (with_reducible refine stA ?_) | ((first | refine tIx ?_ | refine tLd ?_); simp only [Act.put, zq1, zq2, zq3])))
          (try simp only [eq_self] at *)
          refine wp_region_by2 9 [false, false, false, false, false, false, false, false, false] [false, false, false, false, false, false, false, false, false] [(fun v _ _ => v = ?c6_0a), (fun v _ _ => v = ?c6_1a), (fun v _ _ => v = ?c6_2a), (fun v _ _ => v = ?c6_3a), (fun v _ _ => v = ?c6_4a), (fun v _ _ => v = ?c6_5a), (fun v _ _ => v = ?c6_6a), (fun v _ _ => v = ?c6_7a), (fun v _ _ => v = ?c6_8a)] hL.vw mixed [16, 17, 18, 19, 20, 21, 22, 23, 24] _ (by kernel_rfl) (fun vs => by simp only [lay, Act.put, zq1, zq2, zq3]; rfl) (by kernel_rfl) (by decide) (by decide) ?s6a ?l6a ?r6a
          case s6a =>
            refine ⟨?_, ?_, ?_, ?_, ?_, ?_, ?_, ?_, ?_, trivial⟩
            · intro vs W1 m1 hE hM hV hD; clear hD; replace hL := hL.call hE hM hV
              exact sPu
            · intro vs W1 m1 hE hM hV hD; clear hD; replace hL := hL.call hE hM hV
              exact sPu
            · intro vs W1 m1 hE hM hV hD; obtain ⟨⟨_, _, -, -, f16⟩, ⟨_, _, -, -, f17⟩, -⟩ := hD; have f16 : vs 16 = _ := f16; generalize vs 16 = x16 at f16 ⊢; subst x16; have f17 : vs 17 = _ := f17; generalize vs 17 = x17 at f17 ⊢; subst x17; replace hL := hL.call hE hM hV
              exact sIx
            · intro vs W1 m1 hE hM hV hD; obtain ⟨⟨_, _, -, -, f18⟩, -⟩ := hD; have f18 : vs 18 = _ := f18; generalize vs 18 = x18 at f18 ⊢; subst x18; replace hL := hL.call hE hM hV
              exact sLd
            · intro vs W1 m1 hE hM hV hD; clear hD; replace hL := hL.call hE hM hV
              exact sPu
            · intro vs W1 m1 hE hM hV hD; clear hD; replace hL := hL.call hE hM hV
              exact sPu
            · intro vs W1 m1 hE hM hV hD; obtain ⟨⟨_, _, -, -, f20⟩, ⟨_, _, -, -, f21⟩, -⟩ := hD; have f20 : vs 20 = _ := f20; generalize vs 20 = x20 at f20 ⊢; subst x20; have f21 : vs 21 = _ := f21; generalize vs 21 = x21 at f21 ⊢; subst x21; replace hL := hL.call hE hM hV
              exact sIx
            · intro vs W1 m1 hE hM hV hD; obtain ⟨⟨_, _, -, -, f22⟩, -⟩ := hD; have f22 : vs 22 = _ := f22; generalize vs 22 = x22 at f22 ⊢; subst x22; replace hL := hL.call hE hM hV
              exact sLd
            · intro vs W1 m1 hE hM hV hD; obtain ⟨⟨_, _, -, -, f19⟩, ⟨_, _, -, -, f23⟩, -⟩ := hD; have f19 : vs 19 = _ := f19; generalize vs 19 = x19 at f19 ⊢; subst x19; have f23 : vs 23 = _ := f23; generalize vs 23 = x23 at f23 ⊢; subst x23; replace hL := hL.call hE hM hV
              exact sPu
          case l6a =>
            refine ⟨fun h => (by cases h), fun h => (by cases h), fun h => (by cases h), fun h => (by cases h), fun h => (by cases h), fun h => (by cases h), fun h => (by cases h), fun h => (by cases h), fun h => (by cases h), trivial⟩
          intro vs W1 m1 hE hM hV hF hD
          clear hD
          obtain ⟨⟨_, _, -, -, f16⟩, ⟨_, _, -, -, f17⟩, ⟨_, _, -, -, f18⟩, ⟨_, _, -, -, f19⟩, ⟨_, _, -, -, f20⟩, ⟨_, _, -, -, f21⟩, ⟨_, _, -, -, f22⟩, ⟨_, _, -, -, f23⟩, ⟨_, _, -, -, f24⟩, -⟩ := hF
          replace hL := hL.call hE hM hV
          have f16 : vs 16 = _ := f16
          generalize vs 16 = x16 at f16 ⊢
          subst x16
          have f17 : vs 17 = _ := f17
          generalize vs 17 = x17 at f17 ⊢
          subst x17
          have f18 : vs 18 = _ := f18
          generalize vs 18 = x18 at f18 ⊢
          subst x18
          have f19 : vs 19 = _ := f19
          generalize vs 19 = x19 at f19 ⊢
          subst x19
          have f20 : vs 20 = _ := f20
          generalize vs 20 = x20 at f20 ⊢
          subst x20
          have f21 : vs 21 = _ := f21
          generalize vs 21 = x21 at f21 ⊢
          subst x21
          have f22 : vs 22 = _ := f22
          generalize vs 22 = x22 at f22 ⊢
          subst x22
          have f23 : vs 23 = _ := f23
          generalize vs 23 = x23 at f23 ⊢
          subst x23
          have f24 : vs 24 = _ := f24
          generalize vs 24 = x24 at f24 ⊢
          subst x24
          clear hE hV
          simp only [List.drop_succ_cons, List.drop_zero]
          go_wp2_with (first | ((with_reducible refine kAny ?_); go_skip) | (with_reducible refine stA ?_) | ((first | refine tIx ?_ | refine tLd ?_); simp only [Act.put, zq1, zq2, zq3]))
          refine QN.mk ?_
          go_wp2_with (first | ((with_reducible refine kAny ?_); go_skip) | (with_reducible refine stA ?_) | ((first | refine tIx ?_ | refine tLd ?_); simp only [Act.put, zq1, zq2, zq3]))
          go_roundw
          case rel => exact ⟨k + 1, _, by omega, by go_num, hL, HJ2.out⟩
          case measure => simp [intOf] <;> omega
        · have hxx : (x != y) = true := by simpa using hxy
          have HF : Hid (ez = false) := by
            show _ = _
            rw [HEZ.out]
            refine decide_eq_false fun e => hxy ?_
            have h1 := HX.out
            rw [e, HY.out] at h1
            cases h1; rfl
          clear hxy
          go_upto_region 6 with ((first | ((with_reducible refine kAny ?_); go_skip) | (with_reducible refine stA ?_) | ((first | refine tIx ?_ | refine tLd ?_); simp only [Act.put, zq1, zq2, zq3])))
          (try simp only [eq_self] at *)
          refine wp_region_by2 9 [false, false, false, false, false, false, false, false, false] [false, false, false, false, false, false, false, false, false] [(fun v _ _ => v = ?c6_0b), (fun v _ _ => v = ?c6_1b), (fun v _ _ => v = ?c6_2b), (fun v _ _ => v = ?c6_3b), (fun v _ _ => v = ?c6_4b), (fun v _ _ => v = ?c6_5b), (fun v _ _ => v = ?c6_6b), (fun v _ _ => v = ?c6_7b), (fun v _ _ => v = ?c6_8b)] hL.vw mixed [16, 17, 18, 19, 20, 21, 22, 23, 24] _ (by kernel_rfl) (fun vs => by simp only [lay, Act.put, zq1, zq2, zq3]; rfl) (by kernel_rfl) (by decide) (by decide) ?s6b ?l6b ?r6b
          case s6b =>
            refine ⟨?_, ?_, ?_, ?_, ?_, ?_, ?_, ?_, ?_, trivial⟩
            · intro vs W1 m1 hE hM hV hD; clear hD; replace hL := hL.call hE hM hV
              exact sPu
            · intro vs W1 m1 hE hM hV hD; clear hD; replace hL := hL.call hE hM hV
              exact sPu
            · intro vs W1 m1 hE hM hV hD; obtain ⟨⟨_, _, -, -, f16⟩, ⟨_, _, -, -, f17⟩, -⟩ := hD; have f16 : vs 16 = _ := f16; generalize vs 16 = x16 at f16 ⊢; subst x16; have f17 : vs 17 = _ := f17; generalize vs 17 = x17 at f17 ⊢; subst x17; replace hL := hL.call hE hM hV
              exact sIx
            · intro vs W1 m1 hE hM hV hD; obtain ⟨⟨_, _, -, -, f18⟩, -⟩ := hD; have f18 : vs 18 = _ := f18; generalize vs 18 = x18 at f18 ⊢; subst x18; replace hL := hL.call hE hM hV
              exact sLd
            · intro vs W1 m1 hE hM hV hD; clear hD; replace hL := hL.call hE hM hV
              exact sPu
            · intro vs W1 m1 hE hM hV hD; clear hD; replace hL := hL.call hE hM hV
              exact sPu
            · intro vs W1 m1 hE hM hV hD; obtain ⟨⟨_, _, -, -, f20⟩, ⟨_, _, -, -, f21⟩, -⟩ := hD; have f20 : vs 20 = _ := f20; generalize vs 20 = x20 at f20 ⊢; subst x20; have f21 : vs 21 = _ := f21; generalize vs 21 = x21 at f21 ⊢; subst x21; replace hL := hL.call hE hM hV
              exact sIx
            · intro vs W1 m1 hE hM hV hD; obtain ⟨⟨_, _, -, -, f22⟩, -⟩ := hD; have f22 : vs 22 = _ := f22; generalize vs 22 = x22 at f22 ⊢; subst x22; replace hL := hL.call hE hM hV
              exact sLd
            · intro vs W1 m1 hE hM hV hD; obtain ⟨⟨_, _, -, -, f19⟩, ⟨_, _, -, -, f23⟩, -⟩ := hD; have f19 : vs 19 = _ := f19; generalize vs 19 = x19 at f19 ⊢; subst x19; have f23 : vs 23 = _ := f23; generalize vs 23 = x23 at f23 ⊢; subst x23; replace hL := hL.call hE hM hV
              exact sPu
          case l6b =>
            refine ⟨fun h => (by cases h), fun h => (by cases h), fun h => (by cases h), fun h => (by cases h), fun h => (by cases h), fun h => (by cases h), fun h => (by cases h), fun h => (by cases h), fun h => (by cases h), trivial⟩
          intro vs W1 m1 hE hM hV hF hD
          clear hD
          obtain ⟨⟨_, _, -, -, f16⟩, ⟨_, _, -, -, f17⟩, ⟨_, _, -, -, f18⟩, ⟨_, _, -, -, f19⟩, ⟨_, _, -, -, f20⟩, ⟨_, _, -, -, f21⟩, ⟨_, _, -, -, f22⟩, ⟨_, _, -, -, f23⟩, ⟨_, _, -, -, f24⟩, -⟩ := hF
          replace hL := hL.call hE hM hV
          have f16 : vs 16 = _ := f16
          generalize vs 16 = x16 at f16 ⊢
          subst x16
          have f17 : vs 17 = _ := f17
          generalize vs 17 = x17 at f17 ⊢
          subst x17
          have f18 : vs 18 = _ := f18
          generalize vs 18 = x18 at f18 ⊢
          subst x18
          have f19 : vs 19 = _ := f19
          generalize vs 19 = x19 at f19 ⊢
          subst x19
          have f20 : vs 20 = _ := f20
          generalize vs 20 = x20 at f20 ⊢
          subst x20
          have f21 : vs 21 = _ := f21
          generalize vs 21 = x21 at f21 ⊢
          subst x21
          have f22 : vs 22 = _ := f22
          generalize vs 22 = x22 at f22 ⊢
          subst x22
          have f23 : vs 23 = _ := f23
          generalize vs 23 = x23 at f23 ⊢
          subst x23
          have f24 : vs 24 = _ := f24
          generalize vs 24 = x24 at f24 ⊢
          subst x24
          clear hE hV
          simp only [List.drop_succ_cons, List.drop_zero]
          go_wp2_with (first | ((with_reducible refine kAny ?_); go_skip) | (with_reducible refine stA ?_) | ((first | refine tIx ?_ | refine tLd ?_); simp only [Act.put, zq1, zq2, zq3]))
          refine QN.mk ?_
          go_wp2_with (first | ((with_reducible refine kAny ?_); go_skip) | (with_reducible refine stA ?_) | ((first | refine tIx ?_ | refine tLd ?_); simp only [Act.put, zq1, zq2, zq3]))
          go_ret
          exact RetV.mk hL (by rw [HF.out]; rfl)
      · have hkn : k = n := by omega
        subst hkn
        have HT : Hid (ez = true) := by
          show _ = _
          rw [HEZ.out]
          exact decide_eq_true (eq_of_first HN.out HN2.out HJ.out)
        have h9 : (k : Int) ≤ (k : Int) := Int.le_refl _
        go_wp2_with (first | ((with_reducible refine kAny ?_); go_skip) | (with_reducible refine stA ?_) | ((first | refine tIx ?_ | refine tLd ?_); simp only [Act.put, zq1, zq2, zq3]))
        go_ret
        exact RetV.mk hL (by rw [HT.out]; rfl)
  · have h2 : ((n : Int) != (n2 : Int)) = true := by simp; omega
    have HF : Hid (ez = false) := by
      show _ = _
      rw [HEZ.out]
      refine decide_eq_false fun e => hnn ?_
      rw [← HN.out, ← HN2.out, e]
    clear hnn
    go_enter Tryz.func151, Tryz.ntmps151
    go_wp2_with (first | ((with_reducible refine kAny ?_); go_skip) | (with_reducible refine stA ?_) | ((first | refine tIx ?_ | refine tLd ?_); simp only [Act.put, zq1, zq2, zq3]))
    go_ret
    exact RetV.mk hL (by rw [HF.out]; rfl)

set_option maxRecDepth 100000 in
set_option maxHeartbeats 16000000 in
theorem u_known1 (yv : Value) (y x : Cut) (g c : Nat) (X : Option Addr) (w m : World) (hV : Vw m w) (hy : CutR m yv y) (hx : IntL m (.slice X x.1.length c) x.1) (hc0 : m.cell? ⟨g, 0, none⟩ = some (.slice X x.1.length c)) (hc1 : m.cell? ⟨g, 1, none⟩ = some (.int .i64 x.2)) :
    Calls Tryz.prog 164 #[yv, .pointer (some ⟨g, 0, none⟩)] w (RetV w m fun _ r => r = .bool (decide (y = x))) := by
  obtain ⟨ys, yd⟩ := y
  obtain ⟨xs, xd⟩ := x
  obtain ⟨sv, rfl, hs, hsl⟩ := hy
  simp only at hs hsl hx hc0 hc1
  obtain ⟨Y, cy, rfl, hcy, hs⟩ := hs.lit
  have HS := Lib.hid hs
  have HX := Lib.hid hx
  have HYL := Lib.hid hsl
  obtain ⟨ez, hez⟩ : ∃ ez : Bool, ez = decide (((ys, yd) : Cut) = (xs, xd)) := ⟨_, rfl⟩
  rw [← hez]
  have HEZ := Lib.hid hez
  have KE : Hid (∀ w m', Vw m' w → Le m m' → Calls Tryz.prog 151 #[.slice Y ys.length cy, .slice X xs.length c] w (RetV w m' fun _ r => r = .bool (decide (ys = xs)))) := by
    show ∀ w m', _
    exact fun w m' hV hle => s_EqualB _ _ ys xs w m' hV (IntL.le HS.out hle) (IntL.le HX.out hle) HYL.out
  have hL := Loc.start hV
  clear hV hez hs hx hsl
  generalize ys.length = ny at *
  generalize xs.length = nx at *
  by_cases hd : yd = xd
  · subst hd
    have hdd : (yd == yd) = true := by simp
    have HE : Hid (ez = decide (ys = xs)) := by
      show _ = _
      rw [HEZ.out]
      simp
    go_enter Tryz.func164, Tryz.ntmps164
    go_upto_region 0 with (fail)
    refine wp_region_lit ?_
    refine t_box hL rfl rfl ?_; clear hL; intro Wh2 mh2 hL eh2; simp only [Act.put, zq1, zq2, zq3]
    go_wp2_with (first | ((with_reducible refine kAny ?_); go_skip) | (with_reducible refine stA ?_) | ((first | refine tFd ?_ | refine tLd ?_ | (refine tBx ?_; clear hL; intro _ _ hL _)); simp only [Act.put, zq1, zq2, zq3]))
    refine (KE.out _ _ hL.vw leX).mono ?_
    rintro e Wc1 ⟨_, mc1, rfl, hE, hMc1, hV, rfl⟩
    replace hL := hL.call hE (by assumption) hV; clear hE hV
    go_wp2_with (first | ((with_reducible refine kAny ?_); go_skip) | (with_reducible refine stA ?_) | ((first | refine tFd ?_ | refine tLd ?_ | (refine tBx ?_; clear hL; intro _ _ hL _)); simp only [Act.put, zq1, zq2, zq3]))
    go_ret
    exact RetV.mk hL (by rw [HE.out]; rfl)
  · have hdd : (yd == xd) = false := by simpa using hd
    have HE : Hid (ez = false) := by
      show _ = _
      rw [HEZ.out]
      exact decide_eq_false fun e => hd (congrArg Prod.snd e)
    clear hd
    go_enter Tryz.func164, Tryz.ntmps164
    go_upto_region 0 with (fail)
    refine wp_region_lit ?_
    refine t_box hL rfl rfl ?_; clear hL; intro Wh2 mh2 hL eh2; simp only [Act.put, zq1, zq2, zq3]
    go_wp2_with (first | ((with_reducible refine kAny ?_); go_skip) | (with_reducible refine stA ?_) | ((first | refine tFd ?_ | refine tLd ?_ | (refine tBx ?_; clear hL; intro _ _ hL _)); simp only [Act.put, zq1, zq2, zq3]))
    go_ret
    exact RetV.mk hL (by rw [HE.out]; rfl)

set_option maxRecDepth 100000 in
set_option maxHeartbeats 16000000 in
theorem s_IndexCut (lv : Value) (cs : List Cut) (x : Cut) (g c : Nat) (X : Option Addr) (w m : World) (hV : Vw m w) (hl : CutL m lv cs) (hx : IntL m (.slice X x.1.length c) x.1) (hc0 : m.cell? ⟨g, 0, none⟩ = some (.slice X x.1.length c)) (hc1 : m.cell? ⟨g, 1, none⟩ = some (.int .i64 x.2)) (hn : cs.length ≤ 1000000) :
    Calls Tryz.prog 193 #[lv, .func (.func 164) #[] #[.pointer (some ⟨g, 0, none⟩)]] w (RetV w m fun _ r => ∃ z : Int, r = .int .i64 z ∧ decide (z ≥ 0) = decide (x ∈ cs)) := by
  obtain ⟨A, cl, rfl, hcl, hl⟩ := hl.lit
  have HL := Lib.hid hl
  have KE : Hid (∀ yv y w m', Vw m' w → Le m m' → CutR m' yv y → Calls Tryz.prog 164 #[yv, .pointer (some ⟨g, 0, none⟩)] w (RetV w m' fun _ r => r = .bool (decide (y = x)))) := by
    show ∀ yv y w m', _
    exact fun yv y w m' hV hle hy => u_known1 yv y x g c X w m' hV hy (IntL.le hx hle) (hle.cell _ _ hc0) (hle.cell _ _ hc1)
  have hL := Loc.start hV
  clear hV hl hx hc0 hc1
  generalize hn1 : cs.length = n at *
  have HN := Lib.hid hn1
  clear hn1
  go_enter Tryz.func193, Tryz.ntmps193
  go_wp2_with (first | ((with_reducible refine kAny ?_); go_skip) | (with_reducible refine stA ?_) | ((first | refine tIx ?_ | refine tLd ?_); simp only [Act.put, zq1, zq2, zq3]))
  go_loopw [8] (fun i wr => ∃ (k : Nat) (mm : World), k ≤ n ∧ i = .int .i64 k ∧ Loc w m wr mm [] ∧ Hid (∀ (j : Nat) (y : Cut), j < k → cs[j]? = some y → y ≠ x)) (fun i _ => n - (intOf i).toNat)
  case atStart => exact ⟨0, m, Nat.zero_le _, rfl, hL, (fun _ _ h => absurd h (Nat.not_lt_zero _))⟩
  case round =>
    clear hL
    obtain ⟨k, mm, hk, rfl, hL, HJ⟩ := hrel
    have hM := hL.mext
    by_cases hlt : k < n
    · have hlt' : (k : Int) < (n : Int) := by omega
      obtain ⟨⟨ys, yd⟩, hx⟩ := at_some HN hlt
      have hcu := HL.out
      obtain ⟨b1, o1, D, cd, rfl, hcx, hr1⟩ := CutL.at_' hcu hx
      have HCX := Lib.hid hcx
      have HX := Lib.hid hx
      simp only at hr1
      clear hx hcx hcu
      go_wp2_with (first | ((with_reducible refine kAny ?_); go_skip) | (with_reducible refine stA ?_) | ((first | refine tIx ?_ | refine tLd ?_); simp only [Act.put, zq1, zq2, zq3]))
      refine (KE.out _ (ys, yd) _ _ hL.vw leX (HCX.out.le leX)).mono ?_
      rintro e Wc2 ⟨_, mc2, rfl, hE, hMc2, hV, rfl⟩
      replace hL := hL.call hE (by assumption) hV; clear hE hV
      by_cases hyx : ((ys, yd) : Cut) = x
      · have HM : Hid (decide (x ∈ cs) = true) := decide_eq_true (hyx ▸ List.mem_of_getElem? HX.out)
        rw [decide_eq_true hyx]
        clear hyx
        go_wp2_with (first | ((with_reducible refine kAny ?_); go_skip) | (with_reducible refine stA ?_) | ((first | refine tIx ?_ | refine tLd ?_); simp only [Act.put, zq1, zq2, zq3]))
        go_ret
        exact RetV.mk hL ⟨(k : Int), rfl, by rw [HM.out]; exact decide_eq_true (by omega)⟩
      · have HJ2 : Hid (∀ (j : Nat) (y : Cut), j < k + 1 → cs[j]? = some y → y ≠ x) := by
          show ∀ j y, _
          intro j y hj hy
          rcases Nat.lt_succ_iff_lt_or_eq.1 hj with h' | rfl
          · exact HJ.out j y h' hy
          · rw [HX.out] at hy; cases hy; exact hyx
        rw [decide_eq_false hyx]
        clear hyx
        go_wp2_with (first | ((with_reducible refine kAny ?_); go_skip) | (with_reducible refine stA ?_) | ((first | refine tIx ?_ | refine tLd ?_); simp only [Act.put, zq1, zq2, zq3]))
        go_roundw
        case rel => exact ⟨k + 1, _, by omega, by go_num, hL, HJ2.out⟩
        case measure => simp [intOf] <;> omega
    · have HM : Hid (decide (x ∈ cs) = false) := by
        refine decide_eq_false fun h => ?_
        obtain ⟨j, hj⟩ := List.mem_iff_getElem?.1 h
        have h1 := (List.getElem?_eq_some_iff.1 hj).1
        have h2 := HN.out
        exact HJ.out j x (by omega) hj rfl
      have h9 : (n : Int) ≤ (k : Int) := by omega
      go_wp2_with (first | ((with_reducible refine kAny ?_); go_skip) | (with_reducible refine stA ?_) | ((first | refine tIx ?_ | refine tLd ?_); simp only [Act.put, zq1, zq2, zq3]))
      go_ret
      exact RetV.mk hL ⟨-1, rfl, by rw [HM.out]; rfl⟩
end Go.Proofs.YtmhkmmmompediaaGreat

/- Contract of cuts.known. -/
namespace Go.Proofs.YtmhkmmmompediaaGreat
open Go.RowKit

set_option maxRecDepth 100000 in
set_option maxHeartbeats 16000000 in
theorem s_ContainsCut (lv : Value) (cs : List Cut) (x : Cut) (g c : Nat) (X : Option Addr) (w m : World) (hV : Vw m w) (hl : CutL m lv cs) (hx : IntL m (.slice X x.1.length c) x.1) (hc0 : m.cell? ⟨g, 0, none⟩ = some (.slice X x.1.length c)) (hc1 : m.cell? ⟨g, 1, none⟩ = some (.int .i64 x.2)) (hn : cs.length ≤ 1000000) :
    Calls Tryz.prog 163 #[lv, .func (.func 164) #[] #[.pointer (some ⟨g, 0, none⟩)]] w (RetV w m fun _ r => r = .bool (decide (x ∈ cs))) := by
  obtain ⟨A, cl, rfl, hcl, hl⟩ := hl.lit
  have KE : Hid (∀ w m', Vw m' w → Le m m' → Calls Tryz.prog 193 #[.slice A cs.length cl, .func (.func 164) #[] #[.pointer (some ⟨g, 0, none⟩)]] w (RetV w m' fun _ r => ∃ z : Int, r = .int .i64 z ∧ decide (z ≥ 0) = decide (x ∈ cs))) := by
    show ∀ w m', _
    exact fun w m' hV hle => s_IndexCut _ cs x g c X w m' hV (CutL.le hl hle) (IntL.le hx hle) (hle.cell _ _ hc0) (hle.cell _ _ hc1) hn
  have hL := Loc.start hV
  clear hV hl hx hc0 hc1
  obtain ⟨ez, hez⟩ : ∃ ez : Bool, ez = decide (x ∈ cs) := ⟨_, rfl⟩
  rw [← hez] at KE ⊢
  clear hez
  generalize cs.length = n at *
  go_enter Tryz.func163, Tryz.ntmps163
  go_wp2_with ((with_reducible refine kAny ?_); go_skip)
  refine (KE.out _ _ hL.vw leX).mono ?_
  rintro e W2 ⟨_, m2, rfl, hE, hM2, hV, z, rfl, hz⟩
  replace hL := hL.call hE (by assumption) hV; clear hE hV
  have HZ := Lib.hid hz
  clear hz
  go_wp2_with ((with_reducible refine kAny ?_); go_skip)
  go_ret
  exact RetV.mk hL (by rw [← HZ.out]; rfl)

theorem Sl.cell {m : World} {g : Nat} {cs : List Value} (h : Sl m (some ⟨g, 0, none⟩) cs) {j : Nat} {v : Value} (hj : cs[j]? = some v) : m.cell? ⟨g, j, none⟩ = some v := by
  obtain ⟨b, off, e, _, hc⟩ := h (by have := (List.getElem?_eq_some_iff.1 hj).1; omega)
  cases e
  have := hc j v hj
  rwa [Nat.zero_add] at this

set_option maxRecDepth 100000 in
set_option maxHeartbeats 16000000 in
theorem u_known (lv xv : Value) (cs : List Cut) (x : Cut) (w m : World) (hV : Vw m w) (hl : CutL m lv cs) (hx : CutR m xv x) (hn : cs.length ≤ 1000000) :
    Calls Tryz.prog 104 #[lv, xv] w (RetV w m fun _ r => r = .bool (decide (x ∈ cs))) := by
  obtain ⟨A, cl, rfl, hcl, hl⟩ := hl.lit
  obtain ⟨sv, rfl, hs, hsl⟩ := hx
  obtain ⟨X, c, rfl, hc, hs⟩ := hs.lit
  have KE : Hid (∀ g w m', Vw m' w → Le m m' → m'.cell? ⟨g, 0, none⟩ = some (.slice X x.1.length c) → m'.cell? ⟨g, 1, none⟩ = some (.int .i64 x.2) → Calls Tryz.prog 163 #[.slice A cs.length cl, .func (.func 164) #[] #[.pointer (some ⟨g, 0, none⟩)]] w (RetV w m' fun _ r => r = .bool (decide (x ∈ cs)))) := by
    show ∀ g w m', _
    exact fun g w m' hV hle h0 h1 => s_ContainsCut _ cs x g c X w m' hV (CutL.le hl hle) (IntL.le hs hle) h0 h1 hn
  have hL := Loc.start hV
  clear hV hl hs hsl hcl hc hn
  generalize decide (x ∈ cs) = ez at *
  generalize cs.length = n at *
  generalize x.1.length = nx at *
  generalize x.2 = dv at *
  go_enter Tryz.func104, Tryz.ntmps104
  go_upto_region 0 with (fail)
  refine wp_region_lit ?_
  refine t_box hL rfl rfl ?_; clear hL; intro Wh3 mh3 hL eh3; simp only [Act.put, zq1, zq2, zq3]
  obtain ⟨m2, hL2, hle, hsl⟩ := Loc.show1 (A := []) hL 2
  have h0 := hsl.cell (j := 0) rfl
  have h1 := hsl.cell (j := 1) rfl
  have H0 := Lib.hid h0
  have H1 := Lib.hid h1
  have HLE : Hid (Le m m2) := Le.trans leX hle
  clear hL hsl h0 h1
  have hL := hL2
  clear hL2
  go_wp2_with (first | ((with_reducible refine kAny ?_); go_skip) | (with_reducible refine stA ?_) | ((first | (refine tBx ?_; clear hL; intro _ _ hL _)); simp only [Act.put, zq1, zq2, zq3]))
  refine (KE.out _ _ _ hL.vw (Le.trans HLE.out leX) H0.out H1.out).mono ?_
  rintro e Wc1 ⟨_, mc1, rfl, hE, hMc1, hV, rfl⟩
  replace hL := hL.call hE (by assumption) hV; clear hE hV
  go_wp2_with (first | ((with_reducible refine kAny ?_); go_skip) | (with_reducible refine stA ?_) | ((first | (refine tBx ?_; clear hL; intro _ _ hL _)); simp only [Act.put, zq1, zq2, zq3]))
  go_ret
  exact RetV.mk hL rfl
end Go.Proofs.YtmhkmmmompediaaGreat

/- Contract of math/bits.OnesCount32 for small numbers. -/
namespace Go.Proofs.YtmhkmmmompediaaGreat
open Go.RowKit

def popF (n : Nat) : Nat := (List.range 5).countP fun i => n.testBit i
theorem pop_tab : ∀ x : Fin 32, (Lib.pop8 0 + Lib.pop8 0 + Lib.pop8 0 + Lib.pop8 (x.1 : Int)) % 256 = (popF x.1 : Int) := by decide +kernel
theorem and_255 : ∀ x : Fin 32, bits .and .u32 (x.1 : Int) 255 = (x.1 : Int) := by decide +kernel
theorem and_32 : ∀ x y : Fin 32, bits .and .u32 (x.1 : Int) (y.1 : Int) = ((x.1 &&& y.1 : Nat) : Int) := by decide +kernel
theorem popF_le : ∀ x : Fin 32, popF x.1 ≤ 5 := by decide +kernel

set_option maxRecDepth 100000 in
set_option maxHeartbeats 16000000 in
theorem u_ones (n : Nat) (hn : n < 32) (w m : World) (hV : Vw m w) : Calls Tryz.prog 161 #[.int .u32 n] w (RetV w m fun _ r => r = .int .i64 (popF n : Nat)) := by
  have HP := Lib.hid (pop_tab ⟨n, hn⟩)
  have a1 : bits .and .u32 (n : Int) 255 = (n : Int) := and_255 ⟨n, hn⟩
  have hL := Loc.start hV
  clear hV
  simp only at HP
  obtain ⟨x, hx⟩ : ∃ x : Int, x = (n : Int) := ⟨_, rfl⟩
  rw [← hx] at a1 HP ⊢
  have a0 : bits .and .u32 0 255 = 0 := rfl
  have h0 : 0 ≤ x := by omega
  have h255 : x ≤ 255 := by omega
  have s1 : x / 16777216 = 0 := by omega
  have s2 : x / 65536 = 0 := by omega
  have s3 : x / 256 = 0 := by omega
  clear hx hn
  go_enter Tryz.func161, Tryz.ntmps161
  go_upto_region 1 with (((with_reducible refine kAny ?_); go_skip))
  refine wp_region_by2 18 [false, false, false, false, false, false, false, false, false, false, false, false, false, false, false, false, false, false] [false, false, false, false, false, false, false, false, false, false, false, false, false, false, false, false, false, false] [(fun v _ _ => v = ?c1_0), (fun v _ _ => v = ?c1_1), (fun v _ _ => v = ?c1_2), (fun v _ _ => v = ?c1_3), (fun v _ _ => v = ?c1_4), (fun v _ _ => v = ?c1_5), (fun v _ _ => v = ?c1_6), (fun v _ _ => v = ?c1_7), (fun v _ _ => v = ?c1_8), (fun v _ _ => v = ?c1_9), (fun v _ _ => v = ?c1_10), (fun v _ _ => v = ?c1_11), (fun v _ _ => v = ?c1_12), (fun v _ _ => v = ?c1_13), (fun v _ _ => v = ?c1_14), (fun v _ _ => v = ?c1_15), (fun v _ _ => v = ?c1_16), (fun v _ _ => v = ?c1_17)] hL.vw mixed [3, 4, 5, 6, 7, 8, 9, 10, 11, 12, 13, 14, 15, 16, 17, 18, 19, 20] _ (by kernel_rfl) (fun vs => by simp only [lay, Act.put, zq1, zq2, zq3]; rfl) (by kernel_rfl) (by decide) (by decide) ?s1 ?l1 ?r1
  case s1 =>
    refine ⟨?_, ?_, ?_, ?_, ?_, ?_, ?_, ?_, ?_, ?_, ?_, ?_, ?_, ?_, ?_, ?_, ?_, ?_, trivial⟩
    · intro vs W1 m1 hE hM hV hD; clear hD; replace hL := hL.call hE hM hV
      exact sPu
    · intro vs W1 m1 hE hM hV hD; obtain ⟨⟨_, _, -, -, f3⟩, -⟩ := hD; have f3 : vs 3 = _ := f3; generalize vs 3 = x3 at f3 ⊢; subst x3; replace hL := hL.call hE hM hV
      exact sPu
    · intro vs W1 m1 hE hM hV hD; obtain ⟨⟨_, _, -, -, f4⟩, -⟩ := hD; have f4 : vs 4 = _ := f4; generalize vs 4 = x4 at f4 ⊢; subst x4; replace hL := hL.call hE hM hV
      go_wp2_with ((with_reducible refine kAny ?_); go_skip)
      refine One2.still hV ?_; exact rfl
    · intro vs W1 m1 hE hM hV hD; clear hD; replace hL := hL.call hE hM hV
      exact sPu
    · intro vs W1 m1 hE hM hV hD; obtain ⟨⟨_, _, -, -, f6⟩, -⟩ := hD; have f6 : vs 6 = _ := f6; generalize vs 6 = x6 at f6 ⊢; subst x6; replace hL := hL.call hE hM hV
      exact sPu
    · intro vs W1 m1 hE hM hV hD; obtain ⟨⟨_, _, -, -, f7⟩, -⟩ := hD; have f7 : vs 7 = _ := f7; generalize vs 7 = x7 at f7 ⊢; subst x7; replace hL := hL.call hE hM hV
      exact sPu
    · intro vs W1 m1 hE hM hV hD; obtain ⟨⟨_, _, -, -, f8⟩, -⟩ := hD; have f8 : vs 8 = _ := f8; generalize vs 8 = x8 at f8 ⊢; subst x8; replace hL := hL.call hE hM hV
      go_wp2_with ((with_reducible refine kAny ?_); go_skip)
      refine One2.still hV ?_; exact rfl
    · intro vs W1 m1 hE hM hV hD; obtain ⟨⟨_, _, -, -, f5⟩, ⟨_, _, -, -, f9⟩, -⟩ := hD; have f5 : vs 5 = _ := f5; generalize vs 5 = x5 at f5 ⊢; subst x5; have f9 : vs 9 = _ := f9; generalize vs 9 = x9 at f9 ⊢; subst x9; replace hL := hL.call hE hM hV
      exact sPu
    · intro vs W1 m1 hE hM hV hD; clear hD; replace hL := hL.call hE hM hV
      exact sPu
    · intro vs W1 m1 hE hM hV hD; obtain ⟨⟨_, _, -, -, f11⟩, -⟩ := hD; have f11 : vs 11 = _ := f11; generalize vs 11 = x11 at f11 ⊢; subst x11; replace hL := hL.call hE hM hV
      exact sPu
    · intro vs W1 m1 hE hM hV hD; obtain ⟨⟨_, _, -, -, f12⟩, -⟩ := hD; have f12 : vs 12 = _ := f12; generalize vs 12 = x12 at f12 ⊢; subst x12; replace hL := hL.call hE hM hV
      exact sPu
    · intro vs W1 m1 hE hM hV hD; obtain ⟨⟨_, _, -, -, f13⟩, -⟩ := hD; have f13 : vs 13 = _ := f13; generalize vs 13 = x13 at f13 ⊢; subst x13; replace hL := hL.call hE hM hV
      go_wp2_with ((with_reducible refine kAny ?_); go_skip)
      refine One2.still hV ?_; exact rfl
    · intro vs W1 m1 hE hM hV hD; obtain ⟨⟨_, _, -, -, f10⟩, ⟨_, _, -, -, f14⟩, -⟩ := hD; have f10 : vs 10 = _ := f10; generalize vs 10 = x10 at f10 ⊢; subst x10; have f14 : vs 14 = _ := f14; generalize vs 14 = x14 at f14 ⊢; subst x14; replace hL := hL.call hE hM hV
      exact sPu
    · intro vs W1 m1 hE hM hV hD; clear hD; replace hL := hL.call hE hM hV
      exact sPu
    · intro vs W1 m1 hE hM hV hD; obtain ⟨⟨_, _, -, -, f16⟩, -⟩ := hD; have f16 : vs 16 = _ := f16; generalize vs 16 = x16 at f16 ⊢; subst x16; replace hL := hL.call hE hM hV
      exact sPu
    · intro vs W1 m1 hE hM hV hD; obtain ⟨⟨_, _, -, -, f17⟩, -⟩ := hD; have f17 : vs 17 = _ := f17; generalize vs 17 = x17 at f17 ⊢; subst x17; replace hL := hL.call hE hM hV
      go_wp2_with ((with_reducible refine kAny ?_); go_skip)
      refine One2.still hV ?_; exact rfl
    · intro vs W1 m1 hE hM hV hD; obtain ⟨⟨_, _, -, -, f15⟩, ⟨_, _, -, -, f18⟩, -⟩ := hD; have f15 : vs 15 = _ := f15; generalize vs 15 = x15 at f15 ⊢; subst x15; have f18 : vs 18 = _ := f18; generalize vs 18 = x18 at f18 ⊢; subst x18; replace hL := hL.call hE hM hV
      exact sPu
    · intro vs W1 m1 hE hM hV hD; obtain ⟨⟨_, _, -, -, f19⟩, -⟩ := hD; have f19 : vs 19 = _ := f19; generalize vs 19 = x19 at f19 ⊢; subst x19; replace hL := hL.call hE hM hV
      exact sPu
  case l1 =>
    refine ⟨fun h => (by cases h), fun h => (by cases h), fun h => (by cases h), fun h => (by cases h), fun h => (by cases h), fun h => (by cases h), fun h => (by cases h), fun h => (by cases h), fun h => (by cases h), fun h => (by cases h), fun h => (by cases h), fun h => (by cases h), fun h => (by cases h), fun h => (by cases h), fun h => (by cases h), fun h => (by cases h), fun h => (by cases h), fun h => (by cases h), trivial⟩
  intro vs W1 m1 hE hM hV hF hD
  clear hD
  obtain ⟨-, -, -, -, -, -, -, -, -, -, -, -, -, -, -, -, -, ⟨_, _, -, -, f20⟩, -⟩ := hF
  replace hL := hL.call hE hM hV
  have f20 : vs 20 = _ := f20
  generalize vs 20 = x20 at f20 ⊢
  subst x20
  clear hE hV
  simp only [List.drop_succ_cons, List.drop_zero]
  go_wp2_with ((with_reducible refine kAny ?_); go_skip)
  refine QN.mk ?_
  go_wp2_with ((with_reducible refine kAny ?_); go_skip)
  go_ret
  exact RetV.mk hL (by rw [← HP.out]; rfl)
end Go.Proofs.YtmhkmmmompediaaGreat

/- Rows that append built: an element is read, a part of an element is written. Groups of columns. No program but for the types. -/
namespace Go.Proofs.YtmhkmmmompediaaGreat
open Go.RowKit

theorem RowA.block {α : Type} {e : TypeId} {size : Nat} {R : World → Value → α → Prop} {m : World} {v : Value} {n : Nat} {xs : List α} {Rr : List Lo} (h : RowA e size R m v n xs Rr) (hn : 0 < n) :
    ∃ g cap cur, v = .slice (some ⟨g, 0, none⟩) n cap ∧ Rr = [(g, e, cur)] ∧ n ≤ cap ∧ cur.size = cap * size := by
  obtain ⟨vs, ⟨h0, h1⟩, h2, h3, h4⟩ := h
  rcases h1 with ⟨-, h1, -⟩ | ⟨g, cap, cur, e1, e2, h5, -, h6, -⟩
  · omega
  · exact ⟨g, cap, cur, e1, e2, h5, h6⟩
theorem RowA.at_ {α : Type} {e : TypeId} {size : Nat} {R : World → Value → α → Prop} {m : World} {v : Value} {n g : Nat} {cur : Array Value} {xs : List α} (h : RowA e size R m v n xs [(g, e, cur)]) {k : Nat} {x : α} (hk : xs[k]? = some x) :
    ∃ u, R m u x ∧ u.cells.size = size ∧ ∀ j, j < size → cur[0 + k * size + j]? = u.cells[j]? := by
  obtain ⟨vs, ⟨h0, h1⟩, h2, h3, h4⟩ := h
  obtain ⟨u, hu, hR⟩ := h3.at_ hk
  refine ⟨u, hR, h2 u (List.mem_of_getElem? hu), fun j hj => ?_⟩
  have hc := cellsOf_at h2 hu j hj
  rcases h1 with ⟨-, -, h1⟩ | ⟨g', cap, cur', e1, e2, h5, -, h6, h7⟩
  · cases h1
  · cases e2
    rw [← h7, List.getElem?_take] at hc
    have hkn : k < n := by rw [← h4]; exact (List.getElem?_eq_some_iff.1 hu).1
    have hlt : k * size + j < n * size := by
      have : (k + 1) * size ≤ n * size := Nat.mul_le_mul_right _ hkn
      rw [Nat.succ_mul] at this; omega
    rw [if_pos hlt, Array.getElem?_toList] at hc
    rw [Nat.zero_add, hc, Array.getElem?_toList]
theorem RowA.put {α : Type} {e : TypeId} {size : Nat} {R : World → Value → α → Prop} {m : World} {v : Value} {n g : Nat} {cur : Array Value} {xs : List α} (h : RowA e size R m v n xs [(g, e, cur)]) {k o : Nat} {x : α} {ws cs : List Value} (hk : k < xs.length) (ho : o + ws.length ≤ size)
    (hcs : cs.length = size) (hc : ∀ j, j < size → cs[j]? = if o ≤ j ∧ j < o + ws.length then ws[j - o]? else cur[0 + k * size + j]?) (hR : R m (.agg cs.toArray) x) :
    RowA e size R m v n (xs.set k x) [(g, e, splice cur (k * size + o) ws)] := by
  obtain ⟨vs, ⟨h0, h1⟩, h2, h3, h4⟩ := h
  have hl := h3.length
  have hkn : k < n := by omega
  have hle : (k + 1) * size ≤ n * size := Nat.mul_le_mul_right _ hkn
  rw [Nat.succ_mul] at hle
  rcases h1 with ⟨-, h1, -⟩ | ⟨g', cap, cur', e1, e2, h5, h5', h6, h7⟩
  · omega
  · cases e2
    have hcap : n * size ≤ cap * size := Nat.mul_le_mul_right _ h5
    have hset : ∀ j, (cellsOf (vs.set k (.agg cs.toArray)))[j]? = if k * size ≤ j ∧ j < k * size + size then cs[j - k * size]? else (cellsOf vs)[j]? := cellsOf_set h2 hcs (by omega)
    refine ⟨vs.set k (.agg cs.toArray), ⟨?_, .inr ⟨g, cap, _, e1, rfl, h5, h5', by rw [splice_size]; exact h6, ?_⟩⟩, ?_, h3.set hR, by simpa using h4⟩
    · have h8 := cellsOf_length (vs := vs.set k (.agg cs.toArray)) (size := size) (by
        intro u hu
        rcases List.mem_or_eq_of_mem_set hu with hu | rfl
        · exact h2 u hu
        · simpa [Value.cells] using hcs)
      rw [h8]; simp [h4]
    · apply List.ext_getElem?
      intro j
      rw [List.getElem?_take, Array.getElem?_toList, splice_at ws _ _ (by rw [h6]; omega), hset, ← h7]
      by_cases hj : j < n * size
      · rw [if_pos hj, List.getElem?_take, if_pos hj, Array.getElem?_toList]
        by_cases h9 : k * size ≤ j ∧ j < k * size + size
        · rw [if_pos h9, hc _ (by omega)]
          by_cases h10 : k * size + o ≤ j ∧ j < k * size + o + ws.length
          · rw [if_pos h10, if_pos (by omega), show j - (k * size + o) = j - k * size - o by omega]; simp
          · rw [if_neg h10, if_neg (by omega), show 0 + k * size + (j - k * size) = j by omega]
        · rw [if_neg h9, if_neg (by omega)]; simp
      · rw [if_neg hj, if_neg (by omega), List.getElem?_take, if_neg hj]
    · intro u hu
      rcases List.mem_or_eq_of_mem_set hu with hu | rfl
      · exact h2 u hu
      · simpa [Value.cells] using hcs

abbrev Grp := Nat × Rat × Int
def GrpR (m : World) (v : Value) (x : Grp) : Prop := ∃ g A n c h B k d, v = .agg #[.int .u32 x.1, .bool g, .slice A n c, .bool h, .slice B k d, .int .i64 x.2.2] ∧ FracC m (.agg #[.bool g, .slice A n c, .bool h, .slice B k d]) x.2.1
theorem GrpR.mono (m m' : World) (v : Value) (x : Grp) (h : GrpR m v x) (hl : Le m m') : GrpR m' v x := by
  obtain ⟨g, A, n, c, h', B, k, d, e, hf⟩ := h
  exact ⟨g, A, n, c, h', B, k, d, e, hf.le hl⟩
abbrev GrpL := ListV (α := Grp) 6 GrpR
theorem GrpL.le {m m' : World} {v : Value} {xs : List Grp} (h : GrpL m v xs) (hl : Le m m') : GrpL m' v xs := ListV.le GrpR.mono h hl
theorem GrpL.at_ {m : World} {A : Option Addr} {n c : Nat} {xs : List Grp} (h : GrpL m (.slice A n c) xs) {k : Nat} {x : Grp} (hk : xs[k]? = some x) :
    ∃ b off g A' n' c' f B p q, A = some ⟨b, off, none⟩ ∧ FracC m (.agg #[.bool g, .slice A' n' c', .bool f, .slice B p q]) x.2.1 ∧ m.rangeAt b (off + k * 6) [.int .u32 x.1, .bool g, .slice A' n' c', .bool f, .slice B p q, .int .i64 x.2.2] := by
  obtain ⟨b, off, v, e, ⟨g, A', n', c', f, B, p, q, rfl, hf⟩, _, hr⟩ := ListV.at_ h (by omega) hk
  exact ⟨b, off, g, A', n', c', f, B, p, q, e, hf, hr⟩
theorem ap_Grps : apS Tryz.prog 117 = some (171, 6, 80, 6) := by kernel_rfl
instance iAE2_1 : ApC Tryz.prog 117 171 6 80 := ⟨ap_Grps⟩
theorem zc_Grp : zc Tryz.prog 171 = some #[.int .u32 0, .bool false, .slice none 0 0, .bool false, .slice none 0 0, .int .i64 0] := by kernel_rfl
instance iAE2_2 : ZcC Tryz.prog 171 #[.int .u32 0, .bool false, .slice none 0 0, .bool false, .slice none 0 0, .int .i64 0] := ⟨zc_Grp⟩
theorem ag_Grp : agS Tryz.prog 171 = some 6 := by kernel_rfl
instance iAE2_3 : AgC Tryz.prog 171 6 := ⟨ag_Grp⟩
theorem fd_Grp0 : fdS Tryz.prog 171 0 = some 0 := by kernel_rfl
instance iAE2_4 : FdC Tryz.prog 171 0 0 := ⟨fd_Grp0⟩
theorem fd_Grp1 : fdS Tryz.prog 171 1 = some 1 := by kernel_rfl
instance iAE2_5 : FdC Tryz.prog 171 1 1 := ⟨fd_Grp1⟩
theorem fd_Grp2 : fdS Tryz.prog 171 2 = some 5 := by kernel_rfl
instance iAE2_6 : FdC Tryz.prog 171 2 5 := ⟨fd_Grp2⟩
end Go.Proofs.YtmhkmmmompediaaGreat

/- Contract of cuts.excess for groups that are scaled (small values). -/
namespace Go.Proofs.YtmhkmmmompediaaGreat
open Go.RowKit

def grN (mk d : Nat) (x : Grp) : Int := ((popF (x.1 &&& mk) : Nat) : Int) / (d : Int)
def exT (ls : List Grp) (mk sz d : Nat) (cm : Int) (k : Nat) : Int := (ls.take k).foldl (fun s x => s + grN mk d x * x.2.2) (-((sz : Int) / (d : Int)) * cm)
def exI (ls : List Grp) (mk sz d : Nat) (cm : Int) : Int := exT ls mk sz d cm ls.length
theorem exT_step {ls : List Grp} {mk sz d : Nat} {cm : Int} {k : Nat} {x : Grp} (h : ls[k]? = some x) : exT ls mk sz d cm (k + 1) = exT ls mk sz d cm k + grN mk d x * x.2.2 := by
  unfold exT; rw [← take_snoc h, List.foldl_append]; rfl
theorem and_lt32 {a b : Nat} (h : a < 32) : a &&& b < 32 := Nat.lt_of_le_of_lt Nat.and_le_left h
theorem grN_le {mk d : Nat} {x : Grp} (h : x.1 < 32) : 0 ≤ grN mk d x ∧ grN mk d x ≤ 5 := by
  have h1 := popF_le ⟨x.1 &&& mk, and_lt32 h⟩
  simp only at h1
  have h2 := Int.natAbs_ediv_le_natAbs ((popF (x.1 &&& mk) : Nat) : Int) (d : Int)
  have h3 : 0 ≤ ((popF (x.1 &&& mk) : Nat) : Int) / (d : Int) := Int.ediv_nonneg (by omega) (by omega)
  unfold grN
  simp at h2
  omega
theorem mul_le5 {a b : Int} (h1 : 0 ≤ a) (h2 : a ≤ 5) (h3 : b.natAbs ≤ 1000) : (a * b).natAbs ≤ 5000 := by
  rw [Int.natAbs_mul]
  have h4 : a.natAbs ≤ 5 := by omega
  exact Nat.mul_le_mul h4 h3
theorem exT_le {ls : List Grp} {mk sz d : Nat} {cm : Int} (hm : ∀ x ∈ ls, x.1 < 32) (hs : ∀ x ∈ ls, x.2.2.natAbs ≤ 1000) (h1 : sz ≤ 5) (h2 : cm.natAbs ≤ 1000) : ∀ k, (exT ls mk sz d cm k).natAbs ≤ 5000 + 5000 * k := by
  intro k
  induction k with
  | zero =>
    have h3 := Int.natAbs_ediv_le_natAbs (sz : Int) (d : Int)
    simp at h3
    have h4 : ((-((sz : Int) / (d : Int))) * cm).natAbs ≤ 5 * 1000 := by
      rw [Int.natAbs_mul, Int.natAbs_neg]
      exact Nat.mul_le_mul (by omega) h2
    show ((-((sz : Int) / (d : Int))) * cm).natAbs ≤ _
    omega
  | succ k ih =>
    cases hk : ls[k]? with
    | none =>
      have h3 := List.getElem?_eq_none_iff.1 hk
      have e : exT ls mk sz d cm (k + 1) = exT ls mk sz d cm k := by
        unfold exT
        rw [List.take_of_length_le (by omega), List.take_of_length_le (by omega)]
      rw [e]; omega
    | some x =>
      rw [exT_step hk]
      have hx := List.mem_of_getElem? hk
      obtain ⟨g1, g2⟩ := grN_le (mk := mk) (d := d) (hm x hx)
      have h3 := mul_le5 g1 g2 (hs x hx)
      generalize grN mk d x * x.2.2 = z at *
      omega

def ExR (m : World) (v : Value) (s cm : Int) : Prop := (s ≤ 0 ∧ v = .agg #[.bool false, .slice none 0 0, .bool false, .slice none 0 0]) ∨ (0 < s ∧ FracC m v (Rat.divInt s cm))

set_option maxRecDepth 100000 in
set_option maxHeartbeats 32000000 in
theorem u_excess (lv : Value) (ls : List Grp) (mk sz d : Nat) (cm : Int) (w m : World) (hV : Vw m w) (hl : GrpL m lv ls) (hm : ∀ x ∈ ls, x.1 < 32) (hs : ∀ x ∈ ls, x.2.2.natAbs ≤ 1000) (hk : mk < 32) (hz : sz ≤ 5) (hd : 2 ≤ d) (hd2 : d ≤ 5) (hc : 1 ≤ cm) (hc2 : cm ≤ 1000) (hn : ls.length ≤ 100) :
    Calls Tryz.prog 102 #[lv, .int .u32 mk, .int .i64 sz, .int .i64 d, .int .i64 cm, .bool true] w (RetV w m fun m' r => ExR m' r (exI ls mk sz d cm) cm) := by
  obtain ⟨A, c, rfl, hca, hl⟩ := hl.lit
  have HLL := Lib.hid hl
  have HM := Lib.hid hm
  have HS := Lib.hid hs
  have HT : Hid (∀ k, (exT ls mk sz d cm k).natAbs ≤ 5000 + 5000 * k) := by
    show ∀ k, _
    exact exT_le hm hs hz (by omega)
  have h0 : (exT ls mk sz d cm 0) = -((sz : Int) / (d : Int)) * cm := rfl
  have h0b := HT.out 0
  rw [h0] at h0b
  have H0 := Lib.hid h0
  have hq0 : wrap64 ((sz : Int) / (d : Int)) = (sz : Int) / (d : Int) := (quoE (by omega) (by omega)).2.1
  have hq1 : wrap64 (-((sz : Int) / (d : Int))) = -((sz : Int) / (d : Int)) := by
    have h3 := Int.natAbs_ediv_le_natAbs (sz : Int) (d : Int)
    simp at h3
    unfold wrap64; omega
  have hq2 : wrap64 (-((sz : Int) / (d : Int)) * cm) = -((sz : Int) / (d : Int)) * cm := by unfold wrap64; omega
  have HW0 : Hid (wrap64 (wrap64 (-wrap64 ((sz : Int) / (d : Int))) * cm) = exT ls mk sz d cm 0) := by
    show _ = _
    rw [hq0, hq1, hq2, h0]
  have hd0 : (d : Int) ≠ 0 := by omega
  have HQ : Hid (∀ n : Nat, n ≤ 5 → wrap64 ((n : Int) / (d : Int)) = (n : Int) / (d : Int)) := by
    show ∀ n : Nat, _
    exact fun n hn => (quoE (by omega) (by omega)).2.1
  unfold exI
  have hL := Loc.start hV
  clear hV hl hm hs h0 h0b hq0 hq1 hq2 H0
  generalize hn1 : ls.length = n at *
  have HN := Lib.hid hn1
  clear hn1
  have hd1 : 0 < (d : Int) := by omega
  go_enter Tryz.func102, Tryz.ntmps102
  go_upto_region 0 with (fail)
  refine wp_region_lit ?_
  refine t_alloc hL rfl ?_; clear hL; intro Wh12 mh12 hL eh12; simp only [Act.put, zq1, zq2, zq3]
  go_wp2_with (first | ((with_reducible refine kAny ?_); go_skip) | (with_reducible refine stA ?_) | ((first | refine tIx ?_ | refine tFd ?_ | refine tLd ?_ | ((first | refine tSr ?_ | refine tSt ?_); clear hL; intro _ hL; simp only [splice, zq1, zq2, zq3] at hL) | (refine tAl ?_; clear hL; intro _ _ hL _)); simp only [Act.put, zq1, zq2, zq3]))
  go_loopw [13, 30] (fun sm i wr => ∃ (k : Nat) (mm : World), k ≤ n ∧ i = .int .i64 k ∧ sm = .int .i64 (exT ls mk sz d cm k) ∧ Loc w m wr mm [(w.heap.size, 39, #[.bool false, .slice none 0 0, .bool false, .slice none 0 0])]) (fun _ i _ => n - (intOf i).toNat)
  case atStart => exact ⟨0, _, Nat.zero_le _, rfl, by rw [← HW0.out], hL⟩
  case round =>
    clear hL
    obtain ⟨k, mm, hkn, rfl, rfl, hL⟩ := hrel
    have hM := hL.mext
    by_cases hlt : k < n
    · have hlt' : (k : Int) < (n : Int) := by omega
      obtain ⟨x, hx⟩ := at_some HN hlt
      obtain ⟨b1, o1, g1, A1, n1, c1, f1, B1, p1, q1, rfl, -, hr1⟩ := GrpL.at_ HLL.out hx
      have hxm := HM.out x (List.mem_of_getElem? hx)
      have hxs := HS.out x (List.mem_of_getElem? hx)
      have HST := Lib.hid (exT_step (mk := mk) (sz := sz) (d := d) (cm := cm) hx)
      have hb1 := HT.out k
      have hb2 := HT.out (k + 1)
      obtain ⟨gr1, gr2⟩ := grN_le (mk := mk) (d := d) hxm
      have hmu := mul_le5 gr1 gr2 hxs
      have hpl := popF_le ⟨x.1 &&& mk, and_lt32 hxm⟩
      simp only at hpl
      have hqq := HQ.out _ hpl
      have HAL := and_lt32 (b := mk) hxm
      have hand : bits .and .u32 ((x.1 : Nat) : Int) (mk : Int) = ((x.1 &&& mk : Nat) : Int) := and_32 ⟨x.1, hxm⟩ ⟨mk, hk⟩
      rw [HST.out] at hb2
      have hgr : ((popF (x.1 &&& mk) : Nat) : Int) / (d : Int) = grN mk d x := rfl
      rw [hgr] at hqq
      have hw1 : wrap64 (grN mk d x * x.2.2) = grN mk d x * x.2.2 := by unfold wrap64; omega
      have hw2 : wrap64 (exT ls mk sz d cm k + grN mk d x * x.2.2) = exT ls mk sz d cm k + grN mk d x * x.2.2 := by unfold wrap64; omega
      have HW : Hid (wrap64 (exT ls mk sz d cm k + wrap64 (grN mk d x * x.2.2)) = exT ls mk sz d cm (k + 1)) := by
        show _ = _
        rw [hw1, hw2, HST.out]
      have KO : Hid (∀ w m', Vw m' w → Calls Tryz.prog 161 #[.int .u32 ((x.1 &&& mk : Nat) : Int)] w (RetV w m' fun _ r => r = .int .i64 (popF (x.1 &&& mk) : Nat))) := by
        show ∀ w m', _
        exact fun w m' hV => u_ones _ HAL w m' hV
      have hc1 : m.cell? ⟨b1, o1 + k * 6, none⟩ = some (.int .u32 x.1) := hr1 0 _ rfl
      have hc2 : m.cell? ⟨b1, o1 + k * 6 + 5, none⟩ = some (.int .i64 x.2.2) := hr1 5 _ rfl
      obtain ⟨xm, xq, xs⟩ := x
      simp only at *
      clear hw1 hw2 HST hx hr1 hb1 hb2 gr1 gr2 hmu hpl HAL hxm hxs
      generalize grN mk d (xm, xq, xs) = gn at *
      generalize popF (xm &&& mk) = pn at *
      generalize (xm &&& mk) = an at *
      go_upto_region 6 with ((first | ((with_reducible refine kAny ?_); go_skip) | (with_reducible refine stA ?_) | ((first | refine tIx ?_ | refine tFd ?_ | refine tLd ?_ | ((first | refine tSr ?_ | refine tSt ?_); clear hL; intro _ hL; simp only [splice, zq1, zq2, zq3] at hL) | (refine tAl ?_; clear hL; intro _ _ hL _)); simp only [Act.put, zq1, zq2, zq3])))
      (try simp only [eq_self] at *)
      refine wp_region_by2 18 [false, false, false, false, false, false, false, false, false, false, false, false, false, false, false, false, false, false] [false, false, false, false, false, false, false, false, false, false, false, false, false, false, false, false, false, false] [(fun v _ _ => v = ?c6_0), (fun v _ _ => v = ?c6_1), (fun v _ _ => v = ?c6_2), (fun v _ _ => v = ?c6_3), (fun v _ _ => v = ?c6_4), (fun v _ _ => v = ?c6_5), (fun v _ _ => v = ?c6_6), (fun v _ _ => v = ?c6_7), Is (.int .i64 (pn : Int)), (fun v _ _ => v = ?c6_9), (fun v _ _ => v = ?c6_10), (fun v _ _ => v = ?c6_11), (fun v _ _ => v = ?c6_12), (fun v _ _ => v = ?c6_13), (fun v _ _ => v = ?c6_14), (fun v _ _ => v = ?c6_15), (fun v _ _ => v = ?c6_16), (fun v _ _ => v = ?c6_17)] hL.vw mixed [33, 34, 35, 36, 37, 38, 39, 40, 41, 42, 43, 44, 45, 46, 47, 48, 49, 50] _ (by kernel_rfl) (fun vs => by simp only [lay, Act.put, zq1, zq2, zq3]; rfl) (by kernel_rfl) (by decide) (by decide) ?s6 ?l6 ?r6
      case s6 =>
        refine ⟨?_, ?_, ?_, ?_, ?_, ?_, ?_, ?_, ?_, ?_, ?_, ?_, ?_, ?_, ?_, ?_, ?_, ?_, trivial⟩
        · intro vs W1 m1 hE hM hV hD; clear hD; replace hL := hL.call hE hM hV
          exact sPu
        · intro vs W1 m1 hE hM hV hD; clear hD; replace hL := hL.call hE hM hV
          exact sPu
        · intro vs W1 m1 hE hM hV hD; clear hD; replace hL := hL.call hE hM hV
          exact sPu
        · intro vs W1 m1 hE hM hV hD; obtain ⟨⟨_, _, -, -, f34⟩, ⟨_, _, -, -, f35⟩, -⟩ := hD; have f34 : vs 34 = _ := f34; generalize vs 34 = x34 at f34 ⊢; subst x34; have f35 : vs 35 = _ := f35; generalize vs 35 = x35 at f35 ⊢; subst x35; replace hL := hL.call hE hM hV
          exact sIx
        · intro vs W1 m1 hE hM hV hD; obtain ⟨⟨_, _, -, -, f36⟩, -⟩ := hD; have f36 : vs 36 = _ := f36; generalize vs 36 = x36 at f36 ⊢; subst x36; replace hL := hL.call hE hM hV
          exact sFd
        · intro vs W1 m1 hE hM hV hD; obtain ⟨⟨_, _, -, -, f37⟩, -⟩ := hD; have f37 : vs 37 = _ := f37; generalize vs 37 = x37 at f37 ⊢; subst x37; replace hL := hL.call hE hM hV
          exact sLd
        · intro vs W1 m1 hE hM hV hD; clear hD; replace hL := hL.call hE hM hV
          exact sPu
        · intro vs W1 m1 hE hM hV hD; obtain ⟨⟨_, _, -, -, f38⟩, ⟨_, _, -, -, f39⟩, -⟩ := hD; have f38 : vs 38 = _ := f38; generalize vs 38 = x38 at f38 ⊢; subst x38; have f39 : vs 39 = _ := f39; generalize vs 39 = x39 at f39 ⊢; subst x39; replace hL := hL.call hE hM hV
          exact sPu
        · intro vs W1 m1 hE hM hV hD; obtain ⟨⟨_, _, -, -, f40⟩, -⟩ := hD; have f40 : vs 40 = _ := f40; generalize vs 40 = x40 at f40 ⊢; subst x40
          go_wp2_with fail
          refine (KO.out _ _ hV).mono ?_
          rintro e W2 ⟨v, m2, rfl, hE2, hM2, hV2, h⟩
          go_wp2_with fail
          refine One2.call hE2 hM2 hV2 ?_; first | exact h | exact rfl
        · intro vs W1 m1 hE hM hV hD; clear hD; replace hL := hL.call hE hM hV
          exact sPu
        · intro vs W1 m1 hE hM hV hD; obtain ⟨⟨_, _, -, -, f41⟩, ⟨_, _, -, -, f42⟩, -⟩ := hD; have f41 : vs 41 = _ := f41; generalize vs 41 = x41 at f41 ⊢; subst x41; have f42 : vs 42 = _ := f42; generalize vs 42 = x42 at f42 ⊢; subst x42; replace hL := hL.call hE hM hV
          exact sPu
        · intro vs W1 m1 hE hM hV hD; clear hD; replace hL := hL.call hE hM hV
          exact sPu
        · intro vs W1 m1 hE hM hV hD; clear hD; replace hL := hL.call hE hM hV
          exact sPu
        · intro vs W1 m1 hE hM hV hD; obtain ⟨⟨_, _, -, -, f44⟩, ⟨_, _, -, -, f45⟩, -⟩ := hD; have f44 : vs 44 = _ := f44; generalize vs 44 = x44 at f44 ⊢; subst x44; have f45 : vs 45 = _ := f45; generalize vs 45 = x45 at f45 ⊢; subst x45; replace hL := hL.call hE hM hV
          exact sIx
        · intro vs W1 m1 hE hM hV hD; obtain ⟨⟨_, _, -, -, f46⟩, -⟩ := hD; have f46 : vs 46 = _ := f46; generalize vs 46 = x46 at f46 ⊢; subst x46; replace hL := hL.call hE hM hV
          exact sFd
        · intro vs W1 m1 hE hM hV hD; obtain ⟨⟨_, _, -, -, f47⟩, -⟩ := hD; have f47 : vs 47 = _ := f47; generalize vs 47 = x47 at f47 ⊢; subst x47; replace hL := hL.call hE hM hV
          exact sLd
        · intro vs W1 m1 hE hM hV hD; obtain ⟨⟨_, _, -, -, f43⟩, ⟨_, _, -, -, f48⟩, -⟩ := hD; have f43 : vs 43 = _ := f43; generalize vs 43 = x43 at f43 ⊢; subst x43; have f48 : vs 48 = _ := f48; generalize vs 48 = x48 at f48 ⊢; subst x48; replace hL := hL.call hE hM hV
          exact sPu
        · intro vs W1 m1 hE hM hV hD; obtain ⟨⟨_, _, -, -, f33⟩, ⟨_, _, -, -, f49⟩, -⟩ := hD; have f33 : vs 33 = _ := f33; generalize vs 33 = x33 at f33 ⊢; subst x33; have f49 : vs 49 = _ := f49; generalize vs 49 = x49 at f49 ⊢; subst x49; replace hL := hL.call hE hM hV
          exact sPu
      case l6 =>
        refine ⟨fun h => (by cases h), fun h => (by cases h), fun h => (by cases h), fun h => (by cases h), fun h => (by cases h), fun h => (by cases h), fun h => (by cases h), fun h => (by cases h), fun h => (by cases h), fun h => (by cases h), fun h => (by cases h), fun h => (by cases h), fun h => (by cases h), fun h => (by cases h), fun h => (by cases h), fun h => (by cases h), fun h => (by cases h), fun h => (by cases h), trivial⟩
      intro vs W1 m1 hE hM hV hF hD
      clear hD
      obtain ⟨-, -, -, -, -, -, -, -, -, -, -, -, -, -, -, -, -, ⟨_, _, -, -, f50⟩, -⟩ := hF
      replace hL := hL.call hE hM hV
      have f50 : vs 50 = _ := f50
      generalize vs 50 = x50 at f50 ⊢
      subst x50
      clear hE hV
      simp only [List.drop_succ_cons, List.drop_zero]
      go_wp2_with (first | ((with_reducible refine kAny ?_); go_skip) | (with_reducible refine stA ?_) | ((first | refine tIx ?_ | refine tFd ?_ | refine tLd ?_ | ((first | refine tSr ?_ | refine tSt ?_); clear hL; intro _ hL; simp only [splice, zq1, zq2, zq3] at hL) | (refine tAl ?_; clear hL; intro _ _ hL _)); simp only [Act.put, zq1, zq2, zq3]))
      refine QN.mk ?_
      go_wp2_with (first | ((with_reducible refine kAny ?_); go_skip) | (with_reducible refine stA ?_) | ((first | refine tIx ?_ | refine tFd ?_ | refine tLd ?_ | ((first | refine tSr ?_ | refine tSt ?_); clear hL; intro _ hL; simp only [splice, zq1, zq2, zq3] at hL) | (refine tAl ?_; clear hL; intro _ _ hL _)); simp only [Act.put, zq1, zq2, zq3]))
      go_roundw
      case rel => exact ⟨k + 1, _, by omega, by go_num, by rw [← HW.out], hL⟩
      case measure => simp [intOf] <;> omega
    · have hkn' : k = n := by omega
      subst hkn'
      have h9 : (k : Int) ≤ (k : Int) := Int.le_refl _
      have hb := HT.out k
      generalize hS0 : exT ls mk sz d cm k = S0 at *
      have HS0 := Lib.hid hS0
      clear hS0
      by_cases hs0 : S0 ≤ 0
      · go_wp2_with (first | ((with_reducible refine kAny ?_); go_skip) | (with_reducible refine stA ?_) | ((first | refine tIx ?_ | refine tFd ?_ | refine tLd ?_ | ((first | refine tSr ?_ | refine tSt ?_); clear hL; intro _ hL; simp only [splice, zq1, zq2, zq3] at hL) | (refine tAl ?_; clear hL; intro _ _ hL _)); simp only [Act.put, zq1, zq2, zq3]))
        refine fin_agg hL Tryz.results102 rfl rfl loX AgC.h (by exact rfl) ?_
        exact .inl ⟨by rw [HS0.out]; exact hs0, rfl⟩
      · have hs1 : 0 < S0 := by omega
        have KF : Hid (∀ w m, Vw m w → Calls Tryz.prog 94 #[.int .i64 S0, .int .i64 cm] w (RetV w m fun m' v => ∃ r, v = .tuple #[r, .int .i64 0] ∧ FracC m' r (Rat.divInt S0 cm))) := by
          show ∀ w m, _
          exact fun w m hV => q_FromInts S0 cm w m hV (by omega) (by omega) (by omega)
        clear hb hs0
        go_wp2_with (first | ((with_reducible refine kAny ?_); go_skip) | (with_reducible refine stA ?_) | ((first | refine tIx ?_ | refine tFd ?_ | refine tLd ?_ | ((first | refine tSr ?_ | refine tSt ?_); clear hL; intro _ hL; simp only [splice, zq1, zq2, zq3] at hL) | (refine tAl ?_; clear hL; intro _ _ hL _)); simp only [Act.put, zq1, zq2, zq3]))
        refine (KF.out _ _ hL.vw).mono ?_
        rintro e W11 ⟨_, m11, rfl, hE, hM11, hV, va, rfl, h1⟩
        replace hL := hL.call hE (by assumption) hV; clear hE hV
        obtain ⟨g, A', n', c', g', B', n2, c2, rfl, h1⟩ := h1.lit
        go_wp2_with (first | ((with_reducible refine kAny ?_); go_skip) | (with_reducible refine stA ?_) | ((first | refine tIx ?_ | refine tFd ?_ | refine tLd ?_ | ((first | refine tSr ?_ | refine tSt ?_); clear hL; intro _ hL; simp only [splice, zq1, zq2, zq3] at hL) | (refine tAl ?_; clear hL; intro _ _ hL _)); simp only [Act.put, zq1, zq2, zq3]))
        refine fin_agg hL Tryz.results102 rfl rfl loX AgC.h (by exact rfl) ?_
        exact .inr (by rw [HS0.out]; exact ⟨hs1, h1.le leX⟩)
end Go.Proofs.YtmhkmmmompediaaGreat

/- The closure of cuts.groups and slices.IndexFunc of groups: over a row that lies hidden among the caller's blocks. -/
namespace Go.Proofs.YtmhkmmmompediaaGreat
open Go.RowKit

theorem ld41 (a v0 v1 v2 v3 b : Value) : ∀ j, j < 4 → (#[a, v0, v1, v2, v3, b] : Array Value)[1 + j]? = [v0, v1, v2, v3][j]? := by
  intro j hj
  match j, hj with
  | 0, _ => rfl
  | 1, _ => rfl
  | 2, _ => rfl
  | 3, _ => rfl
set_option maxRecDepth 100000 in
set_option maxHeartbeats 16000000 in
theorem u_groups1 (v : Value) (x : Grp) (w m : World) (hV : Vw m w) (hx : GrpR m v x) (hf : Fit 200 x.2.1) :
    Calls Tryz.prog 157 #[v] w (RetV w m fun _ r => r = .bool (decide (x.2.1 = 0))) := by
  obtain ⟨xm, xq, xs⟩ := x
  obtain ⟨g, A, n, c, h', B, k, d, rfl, hq⟩ := hx
  simp only at hq hf
  have HQ := Lib.hid hq
  have HF := Lib.hid hf
  have h14 := ld41 (.int .u32 (xm : Int)) (.bool g) (.slice A n c) (.bool h') (.slice B k d) (.int .i64 xs)
  have hL := Loc.start hV
  clear hV hq hf
  by_cases h0 : xq = 0
  · have KS : Hid (∀ v w m', Vw m' w → FracC m' v xq → Calls Tryz.prog 103 #[v] w (RetV w m' fun _ r => r = .int .i64 0)) := by
      show ∀ v w m', _
      intro v w m' hV h
      have h1 := q_Sign v xq w m' hV h HF.out
      rwa [show icmp xq.num 0 = 0 by rw [h0]; rfl] at h1
    have HD : Hid (decide (xq = 0) = true) := decide_eq_true h0
    clear h0
    go_enter Tryz.func157, Tryz.ntmps157
    go_upto_region 0 with (fail)
    refine wp_region_lit ?_
    refine t_box hL rfl rfl ?_; clear hL; intro Wh1 mh1 hL eh1; simp only [Act.put, zq1, zq2, zq3]
    go_wp2_with (first | ((with_reducible refine kAny ?_); go_skip) | (with_reducible refine stA ?_) | ((first | refine tFd ?_ | refine tLd ?_ | (refine tBx ?_; clear hL; intro _ _ hL _)); simp only [Act.put, zq1, zq2, zq3]))
    refine (KS.out _ _ _ hL.vw (HQ.out.le leX)).mono ?_
    rintro e Wc1 ⟨_, mc1, rfl, hE, hMc1, hV, rfl⟩
    replace hL := hL.call hE (by assumption) hV; clear hE hV
    go_wp2_with (first | ((with_reducible refine kAny ?_); go_skip) | (with_reducible refine stA ?_) | ((first | refine tFd ?_ | refine tLd ?_ | (refine tBx ?_; clear hL; intro _ _ hL _)); simp only [Act.put, zq1, zq2, zq3]))
    go_ret
    exact RetV.mk hL (by rw [HD.out]; rfl)
  · obtain ⟨zz, hzz⟩ : ∃ zz, icmp xq.num 0 = zz := ⟨_, rfl⟩
    have hz : ¬ zz = 0 := fun h => icmp_ne h0 (hzz.trans h)
    have hz2 : (zz == 0) = false := by simpa using hz
    have KS : Hid (∀ v w m', Vw m' w → FracC m' v xq → Calls Tryz.prog 103 #[v] w (RetV w m' fun _ r => r = .int .i64 zz)) := by
      show ∀ v w m', _
      intro v w m' hV h
      have h1 := q_Sign v xq w m' hV h HF.out
      rwa [hzz] at h1
    have HD : Hid (decide (xq = 0) = false) := decide_eq_false h0
    clear h0 hzz hz
    go_enter Tryz.func157, Tryz.ntmps157
    go_upto_region 0 with (fail)
    refine wp_region_lit ?_
    refine t_box hL rfl rfl ?_; clear hL; intro Wh1 mh1 hL eh1; simp only [Act.put, zq1, zq2, zq3]
    go_wp2_with (first | ((with_reducible refine kAny ?_); go_skip) | (with_reducible refine stA ?_) | ((first | refine tFd ?_ | refine tLd ?_ | (refine tBx ?_; clear hL; intro _ _ hL _)); simp only [Act.put, zq1, zq2, zq3]))
    refine (KS.out _ _ _ hL.vw (HQ.out.le leX)).mono ?_
    rintro e Wc1 ⟨_, mc1, rfl, hE, hMc1, hV, rfl⟩
    replace hL := hL.call hE (by assumption) hV; clear hE hV
    go_wp2_with (first | ((with_reducible refine kAny ?_); go_skip) | (with_reducible refine stA ?_) | ((first | refine tFd ?_ | refine tLd ?_ | (refine tBx ?_; clear hL; intro _ _ hL _)); simp only [Act.put, zq1, zq2, zq3]))
    go_ret
    exact RetV.mk hL (by rw [HD.out]; rfl)

theorem grp_at {m : World} {v : Value} {n g : Nat} {cur : Array Value} {xs : List Grp} {e : TypeId} (h : RowA e 6 GrpR m v n xs [(g, e, cur)]) {k : Nat} {x : Grp} (hk : xs[k]? = some x) :
    ∃ gv A' n' c' f B p q, FracC m (.agg #[.bool gv, .slice A' n' c', .bool f, .slice B p q]) x.2.1 ∧ ∀ j, j < 6 → cur[0 + k * 6 + j]? = [.int .u32 (x.1 : Int), .bool gv, .slice A' n' c', .bool f, .slice B p q, .int .i64 x.2.2][j]? := by
  obtain ⟨u, ⟨gv, A', n', c', f, B, p, q, rfl, hf⟩, -, hr⟩ := h.at_ hk
  refine ⟨gv, A', n', c', f, B, p, q, hf, fun j hj => ?_⟩
  rw [hr j hj]
  simp [Value.cells]

set_option maxRecDepth 100000 in
set_option maxHeartbeats 16000000 in
theorem s_IndexGrp {w0 m0 W m : World} {A : List Lo} {g n cap : Nat} {cur : Array Value} {xs : List Grp} (hL : Loc w0 m0 W m ((g, 171, cur) :: A)) (row : RowA 171 6 GrpR m (.slice (some ⟨g, 0, none⟩) n cap) n xs [(g, 171, cur)]) (hn : n ≤ 1000) (hf : ∀ x ∈ xs, Fit 200 x.2.1) :
    Calls Tryz.prog 191 #[.slice (some ⟨g, 0, none⟩) n cap, .func (.func 157) #[] #[]] W (fun e W' => ∃ (m' : World) (z : Int), e = .returned (.int .i64 z) ∧ Loc w0 m0 W' m' ((g, 171, cur) :: A) ∧ Ext m m' ∧
      ((z = -1 ∧ ∀ x ∈ xs, x.2.1 ≠ 0) ∨ ∃ (i : Nat) (x : Grp), z = i ∧ xs[i]? = some x ∧ x.2.1 = 0 ∧ ∀ (j : Nat) (y : Grp), j < i → xs[j]? = some y → y.2.1 ≠ 0)) := by
  have hlen := row.len
  have HN : Hid (xs.length = n) := hlen.symm
  have ROW := Lib.hid row
  have HF := Lib.hid hf
  have hX0 : Ext m m := Ext.refl _
  clear row hf hlen
  go_enter Tryz.func191, Tryz.ntmps191
  go_wp2_with (first | ((with_reducible refine kAny ?_); go_skip) | (with_reducible refine stA ?_) | ((first | refine tIx ?_ | refine tLd ?_); simp only [Act.put, zq1, zq2, zq3]))
  go_loopw [8] (fun i wr => ∃ (k : Nat) (mm : World), k ≤ n ∧ i = .int .i64 k ∧ Loc w0 m0 wr mm ((g, 171, cur) :: A) ∧ Ext m mm ∧ Hid (∀ (j : Nat) (y : Grp), j < k → xs[j]? = some y → y.2.1 ≠ 0)) (fun i _ => n - (intOf i).toNat)
  case atStart => exact ⟨0, m, Nat.zero_le _, rfl, hL, hX0, (fun _ _ h => absurd h (Nat.not_lt_zero _))⟩
  case round =>
    clear hL hX0
    obtain ⟨k, mm, hk, rfl, hL, hX, HJ⟩ := hrel
    by_cases hlt : k < n
    · have hlt' : (k : Int) < (n : Int) := by omega
      obtain ⟨⟨xm, xq, xsc⟩, hx⟩ := at_some HN hlt
      obtain ⟨gv, A1, n1, c1, f1, B1, p1, q1, hq1, hr1⟩ := grp_at ROW.out hx
      simp only at hq1 hr1
      have HFX : Hid (Fit 200 xq) := HF.out _ (List.mem_of_getElem? hx)
      have HX := Lib.hid hx
      have HQ1 := Lib.hid hq1
      have KG : Hid (∀ w m', Vw m' w → Le m m' → Calls Tryz.prog 157 #[.agg #[.int .u32 (xm : Int), .bool gv, .slice A1 n1 c1, .bool f1, .slice B1 p1 q1, .int .i64 xsc]] w (RetV w m' fun _ r => r = .bool (decide (xq = 0)))) := by
        show ∀ w m', _
        exact fun w m' hV hle => u_groups1 _ (xm, xq, xsc) w m' hV ⟨gv, A1, n1, c1, f1, B1, p1, q1, rfl, HQ1.out.le hle⟩ HFX.out
      clear hx hq1
      go_wp2_with (first | ((with_reducible refine kAny ?_); go_skip) | (with_reducible refine stA ?_) | ((first | refine tIx ?_ | refine tLd ?_); simp only [Act.put, zq1, zq2, zq3]))
      refine (KG.out _ _ hL.vw leX).mono ?_
      rintro e Wc2 ⟨_, mc2, rfl, hE, hMc2, hV, rfl⟩
      replace hL := hL.call hE (by assumption) hV; clear hE hV
      by_cases h0 : xq = 0
      · rw [decide_eq_true h0]
        have H0 := Lib.hid h0
        clear h0
        go_wp2_with (first | ((with_reducible refine kAny ?_); go_skip) | (with_reducible refine stA ?_) | ((first | refine tIx ?_ | refine tLd ?_); simp only [Act.put, zq1, zq2, zq3]))
        go_ret
        exact ⟨_, (k : Int), rfl, hL, exX, .inr ⟨k, (xm, xq, xsc), rfl, HX.out, H0.out, HJ.out⟩⟩
      · have HJ2 : Hid (∀ (j : Nat) (y : Grp), j < k + 1 → xs[j]? = some y → y.2.1 ≠ 0) := by
          show ∀ j y, _
          intro j y hj hy
          rcases Nat.lt_succ_iff_lt_or_eq.1 hj with h' | rfl
          · exact HJ.out j y h' hy
          · rw [HX.out] at hy; cases hy; exact h0
        rw [decide_eq_false h0]
        clear h0
        go_wp2_with (first | ((with_reducible refine kAny ?_); go_skip) | (with_reducible refine stA ?_) | ((first | refine tIx ?_ | refine tLd ?_); simp only [Act.put, zq1, zq2, zq3]))
        go_roundw
        case rel => exact ⟨k + 1, _, by omega, by go_num, hL, exX, HJ2.out⟩
        case measure => simp [intOf] <;> omega
    · have HA : Hid (∀ x ∈ xs, x.2.1 ≠ 0) := by
        show ∀ x ∈ xs, _
        intro x hx
        obtain ⟨j, hj⟩ := List.mem_iff_getElem?.1 hx
        have h1 := (List.getElem?_eq_some_iff.1 hj).1
        have h2 := HN.out
        exact HJ.out j x (by omega) hj
      have h9 : (n : Int) ≤ (k : Int) := by omega
      go_wp2_with (first | ((with_reducible refine kAny ?_); go_skip) | (with_reducible refine stA ?_) | ((first | refine tIx ?_ | refine tLd ?_); simp only [Act.put, zq1, zq2, zq3]))
      go_ret
      exact ⟨_, -1, rfl, hL, exX, .inl ⟨rfl, HA.out⟩⟩
end Go.Proofs.YtmhkmmmompediaaGreat
