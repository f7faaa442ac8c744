/- Part 6 of 7 of the proof: the law LagrangeBounds returns true for every input, and its arguments read as before; there is no condition. -/
import Derived.Test.YtmhkmmmompediaaGreatLBM5
set_option linter.unusedVariables false
set_option linter.unusedSimpArgs false
/- What lagrange.Bound and pairingref27.Bound answer (plain). -/
namespace Go.Proofs.YtmhkmmmompediaaGreat
open Go.RowKit

structure BQ (nf : Nat) (x : Ms) (p : Pr) (l : SF) : Prop where
  nfe : x.nf = nf
  ms : MsOk x
  pr : PrOk nf p
  pen : x.pen ≤ 1000
  fl : ∀ q ∈ p.fl, Tw 1000 q
  cd : ∀ q ∈ p.cd, Tw 1000 q
  cu : ∀ c ∈ p.cu, c.1.length ≤ 1000
  lo : Tw 1000 (vS l)
  sl : Sm l.1 l.2
def eR (e : Int) : Value := .tuple #[.agg #[.bool false, .slice none 0 0, .bool false, .slice none 0 0], .int .i64 e]
def BoR (m : World) (r : Value) (x : Ms) (p : Pr) (l : SF) : Prop :=
  (¬ AllIn p.cu x.rows ∧ r = eR 5) ∨ (AllIn p.cu x.rows ∧ p.fr = true ∧ r = eR 16) ∨ (AllIn p.cu x.rows ∧ p.fr = false ∧ ∃ v, r = .tuple #[v, .int .i64 0] ∧ FracC m v (bnd x p l))
theorem tw0 : Tw 0 ((0 : Int) : Rat) := ⟨0, by simp, by decide⟩
theorem BQ.row_tw {nf : Nat} {x : Ms} {p : Pr} {l : SF} (h : BQ nf x p l) : ∀ t ∈ rowT x.pen p.fl x.rows, Tw 12000 t := by
  intro t ht
  unfold rowT at ht
  obtain ⟨r, hr, rfl⟩ := List.mem_map.1 ht
  obtain ⟨r0, r1⟩ := h.ms.low r hr
  have h1 := h.pr.fl
  have h2 := h.nfe
  have hlt : r.toNat < p.fl.length := by omega
  have h0 := h.ms.p0
  have hp := h.pen
  refine Tw.min ?_ (Tw.int (K := 1000) (by omega))
  rw [List.getD, List.getElem?_eq_getElem hlt]
  exact (h.fl _ (List.getElem_mem hlt)).mono (by decide)
theorem BQ.cut_tw {nf : Nat} {x : Ms} {p : Pr} {l : SF} (h : BQ nf x p l) : ∀ t ∈ ctT p.cu p.cd, Tw 1000000 t := by
  intro t ht
  obtain ⟨k, hk⟩ := List.mem_iff_getElem?.1 ht
  have hl : k < (ctT p.cu p.cd).length := (List.getElem?_eq_some_iff.1 hk).1
  rw [ctT_len h.pr.cd] at hl
  have hl2 : k < p.cd.length := by rw [h.pr.cd]; exact hl
  rw [ctT_at (List.getElem?_eq_getElem hl) (List.getElem?_eq_getElem hl2)] at hk
  cases hk
  have h1 := h.cu _ (List.getElem_mem hl)
  have h2 := (h.pr.cuts _ (List.getElem_mem hl)).two
  refine Tw.mulI (K := 1000) (h.cd _ (List.getElem_mem hl2)) ?_
  refine Nat.le_trans (Int.natAbs_ediv_le_natAbs _ _) (by simpa using h1)
theorem BQ.terms_tw {nf : Nat} {x : Ms} {p : Pr} {l : SF} (h : BQ nf x p l) : ∀ t ∈ bTerms x p, Tw 1000000 t := by
  intro t ht
  rcases List.mem_append.1 ht with h1 | h1
  · exact (h.row_tw t h1).mono (by decide)
  · exact h.cut_tw t h1
theorem BQ.terms_len {nf : Nat} {x : Ms} {p : Pr} {l : SF} (h : BQ nf x p l) : (bTerms x p).length = x.rows.length + p.cu.length := by
  unfold bTerms; rw [List.length_append, rowT_len, ctT_len h.pr.cd]
theorem BQ.psum_tw {nf : Nat} {x : Ms} {p : Pr} {l : SF} (h : BQ nf x p l) {C : Nat} {s : Rat} (hs : Tw C s) (k : Nat) (hk : k ≤ x.rows.length + p.cu.length) : Tw (C + 64000000) (psum s (bTerms x p) k) := by
  have h1 := h.ms.r1
  have h2 := h.pr.k1
  have := Go.Proofs.YtmhkmmmompediaaGreat.psum_tw hs h.terms_tw k (by rw [h.terms_len]; exact hk)
  exact this.mono (by have : k * 1000000 ≤ 64 * 1000000 := Nat.mul_le_mul_right _ (by omega); omega)
theorem BQ.tail_tw {nf : Nat} {x : Ms} {p : Pr} {l : SF} (h : BQ nf x p l) : Tw 32000 (bTail x l) := by
  unfold bTail
  have h1 := h.ms.r1
  rw [Rat.mul_comm]
  exact Tw.mulI (B := 1000) (K := 32) (h.lo.min (tw0.mono (by decide))) (by simpa using h1)
theorem Tw.sm {B : Nat} {q : Rat} (h : Tw B q) (hb : B ≤ 100000000) : Sm q.num q.den := (h.tn hb (by decide)).sm (by decide)
theorem Tw.fit {B : Nat} {q : Rat} (h : Tw B q) (hb : B ≤ 100000000) : Fit 200 q := (h.tn hb (by decide)).fit (by decide)
theorem minS_sm {p q : SF} (hp : Sm p.1 p.2) (hq : Sm q.1 q.2) : Sm (minS p q).1 (minS p q).2 := by
  unfold minS; split
  · exact hq
  · exact hp
theorem vS_rat (q : Rat) : vS (q.num, (q.den : Int)) = q := Rat.num_divInt_den q
theorem vS_int (z : Int) : vS (z, 1) = (z : Rat) := rat_one z
theorem term_row {x : Ms} {p : Pr} {k j : Nat} {q : Rat} (h : x.rows[k]? = some (j : Int)) (hq : p.fl[j]? = some q) : (bTerms x p)[k]? = some (rmin q (x.pen : Rat)) := by
  unfold bTerms
  rw [List.getElem?_append_left (by rw [rowT_len]; exact (List.getElem?_eq_some_iff.1 h).1)]
  exact rowT_at h hq
theorem term_cut {x : Ms} {p : Pr} {k : Nat} {c : Cut} {d : Rat} (h : p.cu[k]? = some c) (hd : p.cd[k]? = some d) : (bTerms x p)[x.rows.length + k]? = some (d * (((c.1.length : Int) / c.2 : Int) : Rat)) := by
  unfold bTerms
  rw [List.getElem?_append_right (by rw [rowT_len]; omega), rowT_len, Nat.add_sub_cancel_left]
  exact ctT_at h hd
theorem allIn_of {cu : List Cut} {rws : List Int} {n : Nat} (hn : cu.length ≤ n) (h : ∀ (j : Nat) (y : Cut), j < n → cu[j]? = some y → ∀ r ∈ y.1, r ∈ rws) : AllIn cu rws := by
  intro c hc r hr
  obtain ⟨j, hj⟩ := List.mem_iff_getElem?.1 hc
  exact h j c (Nat.lt_of_lt_of_le (List.getElem?_eq_some_iff.1 hj).1 hn) hj r hr
theorem allIn_not {cu : List Cut} {rws : List Int} {k j : Nat} {c : Cut} {r : Int} (hc : cu[k]? = some c) (hr : c.1[j]? = some r) (h : r ∉ rws) : ¬ AllIn cu rws :=
  fun H => h (H c (List.mem_of_getElem? hc) r (List.mem_of_getElem? hr))
theorem firsts {α : Type} {P : α → Prop} {xs : List α} {k : Nat} {x : α} (h : ∀ (j : Nat) (y : α), j < k → xs[j]? = some y → P y) (hx : xs[k]? = some x) (hp : P x) : ∀ (j : Nat) (y : α), j < k + 1 → xs[j]? = some y → P y := by
  intro j y hj hy
  by_cases e : j = k
  · subst e; rw [hx] at hy; cases hy; exact hp
  · exact h j y (by omega) hy
end Go.Proofs.YtmhkmmmompediaaGreat

/- Contract of pairingref27.ValidatePrices for valid prices. -/
namespace Go.Proofs.YtmhkmmmompediaaGreat
open Go.RowKit

set_option maxRecDepth 100000 in
set_option maxHeartbeats 32000000 in
theorem r_ValidatePrices (nf : Nat) (v : Value) (p : Pr) (w m : World) (hV : Vw m w) (hv : PricesR m v p) (ok : PrOk nf p) :
    Calls Tryz.prog 77 #[.int .i64 nf, v] w (RetV w m fun _ r => r = .int .i64 0) := by
  obtain ⟨fl, cu, cd, de, fr⟩ := p
  obtain ⟨va, vb, vc, vd, rfl, ha, hb, hc, hd⟩ := hv
  simp only at ha hb hc hd
  obtain ⟨A, ca, rfl, hca, ha⟩ := ha.lit
  obtain ⟨B, cb, rfl, hcb, hb⟩ := hb.lit
  obtain ⟨C, cc, rfl, hcc, hc⟩ := hc.lit
  obtain ⟨D, cx, rfl, hcx, hd⟩ := hd.lit
  obtain ⟨o1, f1, o2, k1, k2, o3, o4, o5⟩ := ok
  simp only at o1 o2 k1 k2 o3 o4 o5
  rw [o1] at ha hca ⊢
  rw [o2] at hc hcc ⊢
  have HB := Lib.hid hb
  have HCD := Lib.hid hc
  have HDE := Lib.hid hd
  have H3 := Lib.hid o3
  have H4 := Lib.hid o4
  have H5 := Lib.hid o5
  have HN2 := Lib.hid o2
  have hL := Loc.start hV
  clear hV o1 o3 o4 o5 hb hc hd
  generalize hn1 : cu.length = nc at *
  have HN1 := Lib.hid hn1
  clear hn1 o2
  generalize hn3 : de.length = nd at *
  have HN3 := Lib.hid hn3
  clear hn3
  have q0 : ¬ (nf : Int) < 0 := by omega
  have q1 : ((nf : Int) != (nf : Int)) = false := by simp
  have q2 : ((nc : Int) != (nc : Int)) = false := by simp
  have q3 : ¬ (nc : Int) > 32 := by omega
  have q4 : ¬ (nd : Int) > 32 := by omega
  go_enter Tryz.func77, Tryz.ntmps77
  go_wp2_with (first | ((with_reducible refine kAny ?_); go_skip) | (with_reducible refine stA ?_) | ((first | refine tIx ?_ | refine tFd ?_ | refine tLd ?_ | ((first | refine tSr ?_ | refine tSt ?_); clear hL; intro _ hL; simp only [splice, zq1, zq2, zq3] at hL) | ((first | refine tBx ?_ | refine tAl ?_); clear hL; intro _ _ hL _)); simp only [Act.put, zq1, zq2, zq3]))
  go_loopw [5] (fun i wr => ∃ (k : Nat) (mm : World), k ≤ nc ∧ i = .int .i64 k ∧ Loc w m wr mm [(w.heap.size, 31, #[.slice A nf ca, .slice B nc cb, .slice C nc cc, .slice D nd cx, .bool fr])]) (fun i _ => nc - (intOf i).toNat)
  case atStart => exact ⟨0, _, Nat.zero_le _, rfl, hL⟩
  case round =>
    clear hL
    obtain ⟨k, mm, hk, rfl, hL⟩ := hrel
    have hM := hL.mext
    by_cases hlt : k < nc
    · obtain ⟨⟨xs, dv⟩, hx⟩ := at_some HN1 hlt
      obtain ⟨q, hq⟩ := at_some HN2 hlt
      have hb := HB.out
      obtain ⟨b1, o1, A1, c1, rfl, hi1, hl1, hlc1, hca1, hcb1, -⟩ := CutL.at_ hb hx
      obtain ⟨i1, i2, i3, i4⟩ := H3.out _ (List.mem_of_getElem? hx)
      obtain ⟨j1, j2⟩ := H4.out _ (List.mem_of_getElem? hq)
      have hc := HCD.out
      obtain ⟨b2, o2, g2, A2, n2, c2, h2, B2, k2', d2, hA2, hp2, hr2⟩ := FracL.at_ hc hq
      simp only at hi1 hl1 hlc1 hca1 hcb1 i1 i2 i3 i4
      subst hA2
      have I1 := Lib.hid i1
      have I2 := Lib.hid i2
      have J1 := Lib.hid j1
      have HI := Lib.hid hi1
      have HP2 := Lib.hid hp2
      have e3 : ¬ dv < 2 := by omega
      have e4 : ¬ dv > (xs.length : Int) := by omega
      have e5 : Hid (rs q ≤ 0) := j2
      clear hx hq hb hc i1 i2 j1 j2 i3 i4 hi1 hp2
      generalize hnx : xs.length = nx at *
      have HNX := Lib.hid hnx
      clear hnx
      go_wp2_with (first | ((with_reducible refine kAny ?_); go_skip) | (with_reducible refine stA ?_) | ((first | refine tIx ?_ | refine tFd ?_ | refine tLd ?_ | ((first | refine tSr ?_ | refine tSt ?_); clear hL; intro _ hL; simp only [splice, zq1, zq2, zq3] at hL) | ((first | refine tBx ?_ | refine tAl ?_); clear hL; intro _ _ hL _)); simp only [Act.put, zq1, zq2, zq3]))
      go_loopw [7] (fun i wr => ∃ (j : Nat) (m2 : World), j ≤ nx ∧ i = .int .i64 j ∧ Loc w m wr m2 [(w.heap.size, 31, #[.slice A nf ca, .slice (some ⟨b1, o1, none⟩) nc cb, .slice (some ⟨b2, o2, none⟩) nc cc, .slice D nd cx, .bool fr])]) (fun i _ => nx - (intOf i).toNat)
      case atStart => exact ⟨0, _, Nat.zero_le _, rfl, hL⟩
      case round =>
        clear hL hM
        obtain ⟨j, m2, hj, rfl, hL⟩ := hrel
        have hM := hL.mext
        by_cases hlt2 : j < nx
        · obtain ⟨x, hx⟩ := at_some HNX hlt2
          obtain ⟨b3, o3, rfl, hc3⟩ := IntL.at_ HI.out hx
          obtain ⟨x1, x2⟩ := I1.out x (List.mem_of_getElem? hx)
          have x1' : ¬ x < 0 := by omega
          have x2' : ¬ x ≥ nf := by omega
          by_cases h0 : j = 0
          · subst h0
            clear hx x1 x2
            go_upto_region 14 with ((first | ((with_reducible refine kAny ?_); go_skip) | (with_reducible refine stA ?_) | ((first | refine tIx ?_ | refine tFd ?_ | refine tLd ?_ | ((first | refine tSr ?_ | refine tSt ?_); clear hL; intro _ hL; simp only [splice, zq1, zq2, zq3] at hL) | ((first | refine tBx ?_ | refine tAl ?_); clear hL; intro _ _ hL _)); simp only [Act.put, zq1, zq2, zq3])))
            clear x1' x2'
            refine wp_region_by2 14 [false, false, false, false, false, false, false, false, false, false, false, false, false, false] [false, false, false, false, false, false, false, false, false, false, false, false, false, false] [(fun v _ _ => v = ?c14_0), (fun v _ _ => v = ?c14_1), (fun v _ _ => v = ?c14_2), (fun v _ _ => v = ?c14_3), (fun v _ _ => v = ?c14_4), (fun v _ _ => v = ?c14_5), (fun v _ _ => v = ?c14_6), (fun v _ _ => v = ?c14_7), (fun v _ _ => v = ?c14_8), (fun v _ _ => v = ?c14_9), (fun v _ _ => v = ?c14_10), (fun v _ _ => v = ?c14_11), (fun v _ _ => v = ?c14_12), (fun v _ _ => v = ?c14_13)] hL.vw mixed [70, 71, 72, 73, 74, 75, 76, 77, 78, 79, 80, 81, 82, 83] _ (by kernel_rfl) (fun vs => by simp only [lay, Act.put, zq1, zq2, zq3]; rfl) (by kernel_rfl) (by decide) (by decide) ?s14 ?l14 ?r14
            case s14 =>
              refine ⟨?_, ?_, ?_, ?_, ?_, ?_, ?_, ?_, ?_, ?_, ?_, ?_, ?_, ?_, trivial⟩
              · intro vs W1 m1 hE hM hV hD; clear hD; replace hL := hL.call hE hM hV
                exact sPu
              · intro vs W1 m1 hE hM hV hD; obtain ⟨⟨_, _, -, -, f70⟩, -⟩ := hD; have f70 : vs 70 = _ := f70; generalize vs 70 = x70 at f70 ⊢; subst x70; replace hL := hL.call hE hM hV
                exact sPu
              · intro vs W1 m1 hE hM hV hD; obtain ⟨⟨_, _, -, -, f71⟩, -⟩ := hD; have f71 : vs 71 = _ := f71; generalize vs 71 = x71 at f71 ⊢; subst x71; replace hL := hL.call hE hM hV
                exact sPu
              · intro vs W1 m1 hE hM hV hD; obtain ⟨⟨_, _, -, -, f72⟩, -⟩ := hD; have f72 : vs 72 = _ := f72; generalize vs 72 = x72 at f72 ⊢; subst x72; replace hL := hL.call hE hM hV
                exact sPu
              · intro vs W1 m1 hE hM hV hD; obtain ⟨⟨_, _, -, -, f72⟩, -⟩ := hD; have f72 : vs 72 = _ := f72; generalize vs 72 = x72 at f72 ⊢; subst x72; replace hL := hL.call hE hM hV
                exact sPu
              · intro vs W1 m1 hE hM hV hD; obtain ⟨⟨_, _, -, -, f73⟩, ⟨_, _, -, -, f74⟩, ⟨_, _, -, -, f72⟩, -⟩ := hD; have f73 : vs 73 = _ := f73; generalize vs 73 = x73 at f73 ⊢; subst x73; have f74 : vs 74 = _ := f74; generalize vs 74 = x74 at f74 ⊢; subst x74; have f72 : vs 72 = _ := f72; generalize vs 72 = x72 at f72 ⊢; subst x72; replace hL := hL.call hE hM hV
                exact sPu
              · intro vs W1 m1 hE hM hV hD; obtain ⟨⟨_, _, -, -, f75⟩, ⟨_, _, -, -, f72⟩, -⟩ := hD; have f75 : vs 75 = _ := f75; generalize vs 75 = x75 at f75 ⊢; subst x75; have f72 : vs 72 = _ := f72; generalize vs 72 = x72 at f72 ⊢; subst x72; replace hL := hL.call hE hM hV
                exact sPu
              · intro vs W1 m1 hE hM hV hD; obtain ⟨⟨_, _, -, -, f72⟩, -⟩ := hD; have f72 : vs 72 = _ := f72; generalize vs 72 = x72 at f72 ⊢; subst x72; replace hL := hL.call hE hM hV
                exact sPu
              · intro vs W1 m1 hE hM hV hD; obtain ⟨⟨_, _, -, -, f72⟩, -⟩ := hD; have f72 : vs 72 = _ := f72; generalize vs 72 = x72 at f72 ⊢; subst x72; replace hL := hL.call hE hM hV
                exact sPu
              · intro vs W1 m1 hE hM hV hD; obtain ⟨⟨_, _, -, -, f78⟩, ⟨_, _, -, -, f72⟩, -⟩ := hD; have f78 : vs 78 = _ := f78; generalize vs 78 = x78 at f78 ⊢; subst x78; have f72 : vs 72 = _ := f72; generalize vs 72 = x72 at f72 ⊢; subst x72; replace hL := hL.call hE hM hV
                exact sPu
              · intro vs W1 m1 hE hM hV hD; obtain ⟨⟨_, _, -, -, f77⟩, ⟨_, _, -, -, f79⟩, ⟨_, _, -, -, f72⟩, -⟩ := hD; have f77 : vs 77 = _ := f77; generalize vs 77 = x77 at f77 ⊢; subst x77; have f79 : vs 79 = _ := f79; generalize vs 79 = x79 at f79 ⊢; subst x79; have f72 : vs 72 = _ := f72; generalize vs 72 = x72 at f72 ⊢; subst x72; replace hL := hL.call hE hM hV
                exact sPu
              · intro vs W1 m1 hE hM hV hD; obtain ⟨⟨_, _, -, -, f80⟩, ⟨_, _, -, -, f72⟩, -⟩ := hD; have f80 : vs 80 = _ := f80; generalize vs 80 = x80 at f80 ⊢; subst x80; have f72 : vs 72 = _ := f72; generalize vs 72 = x72 at f72 ⊢; subst x72; replace hL := hL.call hE hM hV
                exact sPu
              · intro vs W1 m1 hE hM hV hD; obtain ⟨⟨_, _, -, -, f76⟩, ⟨_, _, -, -, f81⟩, ⟨_, _, -, -, f72⟩, -⟩ := hD; have f76 : vs 76 = _ := f76; generalize vs 76 = x76 at f76 ⊢; subst x76; have f81 : vs 81 = _ := f81; generalize vs 81 = x81 at f81 ⊢; subst x81; have f72 : vs 72 = _ := f72; generalize vs 72 = x72 at f72 ⊢; subst x72; replace hL := hL.call hE hM hV
                exact sPu
              · intro vs W1 m1 hE hM hV hD; obtain ⟨⟨_, _, -, -, f72⟩, ⟨_, _, -, -, f82⟩, -⟩ := hD; have f72 : vs 72 = _ := f72; generalize vs 72 = x72 at f72 ⊢; subst x72; have f82 : vs 82 = _ := f82; generalize vs 82 = x82 at f82 ⊢; subst x82; replace hL := hL.call hE hM hV
                exact sPu
            case l14 =>
              refine ⟨fun h => (by cases h), fun h => (by cases h), fun h => (by cases h), fun h => (by cases h), fun h => (by cases h), fun h => (by cases h), fun h => (by cases h), fun h => (by cases h), fun h => (by cases h), fun h => (by cases h), fun h => (by cases h), fun h => (by cases h), fun h => (by cases h), fun h => (by cases h), trivial⟩
            intro vs W1 m1 hE hM hV hF hD
            clear hD
            obtain ⟨⟨_, _, -, -, f70⟩, ⟨_, _, -, -, f71⟩, ⟨_, _, -, -, f72⟩, ⟨_, _, -, -, f73⟩, ⟨_, _, -, -, f74⟩, ⟨_, _, -, -, f75⟩, ⟨_, _, -, -, f76⟩, ⟨_, _, -, -, f77⟩, ⟨_, _, -, -, f78⟩, ⟨_, _, -, -, f79⟩, ⟨_, _, -, -, f80⟩, ⟨_, _, -, -, f81⟩, ⟨_, _, -, -, f82⟩, ⟨_, _, -, -, f83⟩, -⟩ := hF
            replace hL := hL.call hE hM hV
            have f70 : vs 70 = _ := f70
            generalize vs 70 = x70 at f70 ⊢
            subst x70
            have f71 : vs 71 = _ := f71
            generalize vs 71 = x71 at f71 ⊢
            subst x71
            have f72 : vs 72 = _ := f72
            generalize vs 72 = x72 at f72 ⊢
            subst x72
            have f73 : vs 73 = _ := f73
            generalize vs 73 = x73 at f73 ⊢
            subst x73
            have f74 : vs 74 = _ := f74
            generalize vs 74 = x74 at f74 ⊢
            subst x74
            have f75 : vs 75 = _ := f75
            generalize vs 75 = x75 at f75 ⊢
            subst x75
            have f76 : vs 76 = _ := f76
            generalize vs 76 = x76 at f76 ⊢
            subst x76
            have f77 : vs 77 = _ := f77
            generalize vs 77 = x77 at f77 ⊢
            subst x77
            have f78 : vs 78 = _ := f78
            generalize vs 78 = x78 at f78 ⊢
            subst x78
            have f79 : vs 79 = _ := f79
            generalize vs 79 = x79 at f79 ⊢
            subst x79
            have f80 : vs 80 = _ := f80
            generalize vs 80 = x80 at f80 ⊢
            subst x80
            have f81 : vs 81 = _ := f81
            generalize vs 81 = x81 at f81 ⊢
            subst x81
            have f82 : vs 82 = _ := f82
            generalize vs 82 = x82 at f82 ⊢
            subst x82
            have f83 : vs 83 = _ := f83
            generalize vs 83 = x83 at f83 ⊢
            subst x83
            clear hE hV
            simp only [List.drop_succ_cons, List.drop_zero]
            go_wp2_with (first | ((with_reducible refine kAny ?_); go_skip) | (with_reducible refine stA ?_) | ((first | refine tIx ?_ | refine tFd ?_ | refine tLd ?_ | ((first | refine tSr ?_ | refine tSt ?_); clear hL; intro _ hL; simp only [splice, zq1, zq2, zq3] at hL) | ((first | refine tBx ?_ | refine tAl ?_); clear hL; intro _ _ hL _)); simp only [Act.put, zq1, zq2, zq3]))
            refine QN.mk ?_
            go_wp2_with (first | ((with_reducible refine kAny ?_); go_skip) | (with_reducible refine stA ?_) | ((first | refine tIx ?_ | refine tFd ?_ | refine tLd ?_ | ((first | refine tSr ?_ | refine tSt ?_); clear hL; intro _ hL; simp only [splice, zq1, zq2, zq3] at hL) | ((first | refine tBx ?_ | refine tAl ?_); clear hL; intro _ _ hL _)); simp only [Act.put, zq1, zq2, zq3]))
            go_roundw
            case rel => exact ⟨1, _, by omega, by go_num, hL⟩
            case measure => simp [intOf] <;> omega
          · obtain ⟨i, hji⟩ : ∃ i : Nat, (j : Int) - 1 = (i : Int) := ⟨j - 1, by omega⟩
            obtain ⟨y, hy⟩ := at_some HNX (show i < nx by omega)
            obtain ⟨b4, o4, e4', hc4⟩ := IntL.at_ HI.out hy
            obtain ⟨rfl, rfl⟩ : b3 = b4 ∧ o3 = o4 := by simpa using e4'
            have hk0 : 0 < j := by omega
            have hyx := asc_prev I2.out hy (show xs[i + 1]? = some x by rw [show i + 1 = j by omega]; exact hx)
            have hjn : i < nx := by omega
            have HYX : Hid (y < x) := by show _ < _; omega
            clear hx hy e4' h0 x1 x2 hyx
            go_upto_region 14 with ((first | ((with_reducible refine kAny ?_); go_skip) | (with_reducible refine stA ?_) | ((first | refine tIx ?_ | refine tFd ?_ | refine tLd ?_ | ((first | refine tSr ?_ | refine tSt ?_); clear hL; intro _ hL; simp only [splice, zq1, zq2, zq3] at hL) | ((first | refine tBx ?_ | refine tAl ?_); clear hL; intro _ _ hL _)); simp only [Act.put, zq1, zq2, zq3])))
            clear x1' x2'
            refine wp_region_by2 14 [false, false, false, false, false, false, false, false, false, false, false, false, false, false] [false, false, false, false, false, false, false, false, false, false, false, false, false, false] [(fun v _ _ => v = ?c14_0b), (fun v _ _ => v = ?c14_1b), (fun v _ _ => v = ?c14_2b), (fun v _ _ => v = ?c14_3b), (fun v _ _ => v = ?c14_4b), (fun v _ _ => v = ?c14_5b), (fun v _ _ => v = ?c14_6b), (fun v _ _ => v = ?c14_7b), (fun v _ _ => v = ?c14_8b), (fun v _ _ => v = ?c14_9b), (fun v _ _ => v = ?c14_10b), (fun v _ _ => v = ?c14_11b), (fun v _ _ => v = ?c14_12b), (fun v _ _ => v = ?c14_13b)] hL.vw mixed [70, 71, 72, 73, 74, 75, 76, 77, 78, 79, 80, 81, 82, 83] _ (by kernel_rfl) (fun vs => by simp only [lay, Act.put, zq1, zq2, zq3]; rfl) (by kernel_rfl) (by decide) (by decide) ?s14b ?l14b ?r14b
            case s14b =>
              refine ⟨?_, ?_, ?_, ?_, ?_, ?_, ?_, ?_, ?_, ?_, ?_, ?_, ?_, ?_, trivial⟩
              · intro vs W1 m1 hE hM hV hD; clear hD; replace hL := hL.call hE hM hV
                exact sPu
              · intro vs W1 m1 hE hM hV hD; obtain ⟨⟨_, _, -, -, f70⟩, -⟩ := hD; have f70 : vs 70 = _ := f70; generalize vs 70 = x70 at f70 ⊢; subst x70; replace hL := hL.call hE hM hV
                exact sPu
              · intro vs W1 m1 hE hM hV hD; obtain ⟨⟨_, _, -, -, f71⟩, -⟩ := hD; have f71 : vs 71 = _ := f71; generalize vs 71 = x71 at f71 ⊢; subst x71; replace hL := hL.call hE hM hV
                exact sPu
              · intro vs W1 m1 hE hM hV hD; obtain ⟨⟨_, _, -, -, f72⟩, -⟩ := hD; have f72 : vs 72 = _ := f72; generalize vs 72 = x72 at f72 ⊢; subst x72; replace hL := hL.call hE hM hV
                exact sPu
              · intro vs W1 m1 hE hM hV hD; obtain ⟨⟨_, _, -, -, f72⟩, -⟩ := hD; have f72 : vs 72 = _ := f72; generalize vs 72 = x72 at f72 ⊢; subst x72; replace hL := hL.call hE hM hV
                exact sPu
              · intro vs W1 m1 hE hM hV hD; obtain ⟨⟨_, _, -, -, f73⟩, ⟨_, _, -, -, f74⟩, ⟨_, _, -, -, f72⟩, -⟩ := hD; have f73 : vs 73 = _ := f73; generalize vs 73 = x73 at f73 ⊢; subst x73; have f74 : vs 74 = _ := f74; generalize vs 74 = x74 at f74 ⊢; subst x74; have f72 : vs 72 = _ := f72; generalize vs 72 = x72 at f72 ⊢; subst x72; replace hL := hL.call hE hM hV
                exact sIx
              · intro vs W1 m1 hE hM hV hD; obtain ⟨⟨_, _, -, -, f75⟩, ⟨_, _, -, -, f72⟩, -⟩ := hD; have f75 : vs 75 = _ := f75; generalize vs 75 = x75 at f75 ⊢; subst x75; have f72 : vs 72 = _ := f72; generalize vs 72 = x72 at f72 ⊢; subst x72; replace hL := hL.call hE hM hV
                exact sLd
              · intro vs W1 m1 hE hM hV hD; obtain ⟨⟨_, _, -, -, f72⟩, -⟩ := hD; have f72 : vs 72 = _ := f72; generalize vs 72 = x72 at f72 ⊢; subst x72; replace hL := hL.call hE hM hV
                exact sPu
              · intro vs W1 m1 hE hM hV hD; obtain ⟨⟨_, _, -, -, f72⟩, -⟩ := hD; have f72 : vs 72 = _ := f72; generalize vs 72 = x72 at f72 ⊢; subst x72; replace hL := hL.call hE hM hV
                exact sPu
              · intro vs W1 m1 hE hM hV hD; obtain ⟨⟨_, _, -, -, f78⟩, ⟨_, _, -, -, f72⟩, -⟩ := hD; have f78 : vs 78 = _ := f78; generalize vs 78 = x78 at f78 ⊢; subst x78; have f72 : vs 72 = _ := f72; generalize vs 72 = x72 at f72 ⊢; subst x72; replace hL := hL.call hE hM hV
                exact sPu
              · intro vs W1 m1 hE hM hV hD; obtain ⟨⟨_, _, -, -, f77⟩, ⟨_, _, -, -, f79⟩, ⟨_, _, -, -, f72⟩, -⟩ := hD; have f77 : vs 77 = _ := f77; generalize vs 77 = x77 at f77 ⊢; subst x77; have f79 : vs 79 = _ := f79; generalize vs 79 = x79 at f79 ⊢; subst x79; have f72 : vs 72 = _ := f72; generalize vs 72 = x72 at f72 ⊢; subst x72; replace hL := hL.call hE hM hV
                exact sIx
              · intro vs W1 m1 hE hM hV hD; obtain ⟨⟨_, _, -, -, f80⟩, ⟨_, _, -, -, f72⟩, -⟩ := hD; have f80 : vs 80 = _ := f80; generalize vs 80 = x80 at f80 ⊢; subst x80; have f72 : vs 72 = _ := f72; generalize vs 72 = x72 at f72 ⊢; subst x72; replace hL := hL.call hE hM hV
                exact sLd
              · intro vs W1 m1 hE hM hV hD; obtain ⟨⟨_, _, -, -, f76⟩, ⟨_, _, -, -, f81⟩, ⟨_, _, -, -, f72⟩, -⟩ := hD; have f76 : vs 76 = _ := f76; generalize vs 76 = x76 at f76 ⊢; subst x76; have f81 : vs 81 = _ := f81; generalize vs 81 = x81 at f81 ⊢; subst x81; have f72 : vs 72 = _ := f72; generalize vs 72 = x72 at f72 ⊢; subst x72; replace hL := hL.call hE hM hV
                exact sPu
              · intro vs W1 m1 hE hM hV hD; obtain ⟨⟨_, _, -, -, f72⟩, ⟨_, _, -, -, f82⟩, -⟩ := hD; have f72 : vs 72 = _ := f72; generalize vs 72 = x72 at f72 ⊢; subst x72; have f82 : vs 82 = _ := f82; generalize vs 82 = x82 at f82 ⊢; subst x82; replace hL := hL.call hE hM hV
                exact sPu
            case l14b =>
              refine ⟨fun h => (by cases h), fun h => (by cases h), fun h => (by cases h), fun h => (by cases h), fun h => (by cases h), fun h => (by cases h), fun h => (by cases h), fun h => (by cases h), fun h => (by cases h), fun h => (by cases h), fun h => (by cases h), fun h => (by cases h), fun h => (by cases h), fun h => (by cases h), trivial⟩
            intro vs W1 m1 hE hM hV hF hD
            clear hD
            obtain ⟨⟨_, _, -, -, f70⟩, ⟨_, _, -, -, f71⟩, ⟨_, _, -, -, f72⟩, ⟨_, _, -, -, f73⟩, ⟨_, _, -, -, f74⟩, ⟨_, _, -, -, f75⟩, ⟨_, _, -, -, f76⟩, ⟨_, _, -, -, f77⟩, ⟨_, _, -, -, f78⟩, ⟨_, _, -, -, f79⟩, ⟨_, _, -, -, f80⟩, ⟨_, _, -, -, f81⟩, ⟨_, _, -, -, f82⟩, ⟨_, _, -, -, f83⟩, -⟩ := hF
            replace hL := hL.call hE hM hV
            have f70 : vs 70 = _ := f70
            generalize vs 70 = x70 at f70 ⊢
            subst x70
            have f71 : vs 71 = _ := f71
            generalize vs 71 = x71 at f71 ⊢
            subst x71
            have f72 : vs 72 = _ := f72
            generalize vs 72 = x72 at f72 ⊢
            subst x72
            have f73 : vs 73 = _ := f73
            generalize vs 73 = x73 at f73 ⊢
            subst x73
            have f74 : vs 74 = _ := f74
            generalize vs 74 = x74 at f74 ⊢
            subst x74
            have f75 : vs 75 = _ := f75
            generalize vs 75 = x75 at f75 ⊢
            subst x75
            have f76 : vs 76 = _ := f76
            generalize vs 76 = x76 at f76 ⊢
            subst x76
            have f77 : vs 77 = _ := f77
            generalize vs 77 = x77 at f77 ⊢
            subst x77
            have f78 : vs 78 = _ := f78
            generalize vs 78 = x78 at f78 ⊢
            subst x78
            have f79 : vs 79 = _ := f79
            generalize vs 79 = x79 at f79 ⊢
            subst x79
            have f80 : vs 80 = _ := f80
            generalize vs 80 = x80 at f80 ⊢
            subst x80
            have f81 : vs 81 = _ := f81
            generalize vs 81 = x81 at f81 ⊢
            subst x81
            have f82 : vs 82 = _ := f82
            generalize vs 82 = x82 at f82 ⊢
            subst x82
            have f83 : vs 83 = _ := f83
            generalize vs 83 = x83 at f83 ⊢
            subst x83
            clear hE hV
            simp only [List.drop_succ_cons, List.drop_zero]
            go_wp2_with (first | ((with_reducible refine kAny ?_); go_skip) | (with_reducible refine stA ?_) | ((first | refine tIx ?_ | refine tFd ?_ | refine tLd ?_ | ((first | refine tSr ?_ | refine tSt ?_); clear hL; intro _ hL; simp only [splice, zq1, zq2, zq3] at hL) | ((first | refine tBx ?_ | refine tAl ?_); clear hL; intro _ _ hL _)); simp only [Act.put, zq1, zq2, zq3]))
            refine QN.mk ?_
            have hyx : ¬ x ≤ y := by have := HYX.out; omega
            go_wp2_with (first | ((with_reducible refine kAny ?_); go_skip) | (with_reducible refine stA ?_) | ((first | refine tIx ?_ | refine tFd ?_ | refine tLd ?_ | ((first | refine tSr ?_ | refine tSt ?_); clear hL; intro _ hL; simp only [splice, zq1, zq2, zq3] at hL) | ((first | refine tBx ?_ | refine tAl ?_); clear hL; intro _ _ hL _)); simp only [Act.put, zq1, zq2, zq3]))
            go_roundw
            case rel => exact ⟨j + 1, _, by omega, by go_num, hL⟩
            case measure => simp [intOf] <;> omega
        · have e3' : ¬ dv < 2 := by omega
          have e4' : ¬ dv > (nx : Int) := by omega
          have hp2 := HP2.out
          go_wp2_with (first | ((with_reducible refine kAny ?_); go_skip) | (with_reducible refine stA ?_) | ((first | refine tIx ?_ | refine tFd ?_ | refine tLd ?_ | ((first | refine tSr ?_ | refine tSt ?_); clear hL; intro _ hL; simp only [splice, zq1, zq2, zq3] at hL) | ((first | refine tBx ?_ | refine tAl ?_); clear hL; intro _ _ hL _)); simp only [Act.put, zq1, zq2, zq3]))
          refine (r_Sign _ q _ _ hL.vw ((hp2.toV J1.out (by decide)).le leX) (J1.out.mono (by decide))).mono ?_
          rintro e Ws1 ⟨_, ms1, rfl, hE, hMs1, hV, rfl⟩
          replace hL := hL.call hE (by assumption) hV; clear hE hV
          have e6 : ¬ rs q > 0 := by have h := e5.out; omega
          generalize rs q = s at *
          go_wp2_with (first | ((with_reducible refine kAny ?_); go_skip) | (with_reducible refine stA ?_) | ((first | refine tIx ?_ | refine tFd ?_ | refine tLd ?_ | ((first | refine tSr ?_ | refine tSt ?_); clear hL; intro _ hL; simp only [splice, zq1, zq2, zq3] at hL) | ((first | refine tBx ?_ | refine tAl ?_); clear hL; intro _ _ hL _)); simp only [Act.put, zq1, zq2, zq3]))
          go_roundw
          case rel => exact ⟨k + 1, _, by omega, by go_num, hL⟩
          case measure => simp [intOf] <;> omega
    · go_wp2_with (first | ((with_reducible refine kAny ?_); go_skip) | (with_reducible refine stA ?_) | ((first | refine tIx ?_ | refine tFd ?_ | refine tLd ?_ | ((first | refine tSr ?_ | refine tSt ?_); clear hL; intro _ hL; simp only [splice, zq1, zq2, zq3] at hL) | ((first | refine tBx ?_ | refine tAl ?_); clear hL; intro _ _ hL _)); simp only [Act.put, zq1, zq2, zq3]))
      clear hlt hk
      go_loopw [8] (fun i wr => ∃ (k : Nat) (mm : World), k ≤ nd ∧ i = .int .i64 k ∧ Loc w m wr mm [(w.heap.size, 31, #[.slice A nf ca, .slice B nc cb, .slice C nc cc, .slice D nd cx, .bool fr])]) (fun i _ => nd - (intOf i).toNat)
      case atStart => exact ⟨0, _, Nat.zero_le _, rfl, hL⟩
      case round =>
        clear hL hM
        obtain ⟨k, mm, hk, rfl, hL⟩ := hrel
        have hM := hL.mext
        by_cases hlt : k < nd
        · obtain ⟨⟨x, y, s⟩, hx⟩ := at_some HN3 hlt
          have hd := HDE.out
          obtain ⟨b1, o1, rfl, hr1⟩ := DecL.at_ hd hx
          obtain ⟨i1, i2, i3, i4, i5⟩ := H5.out _ (List.mem_of_getElem? hx)
          simp only at hr1 i1 i2 i3 i4 i5
          have x1 : ¬ x < 0 := by omega
          have x2 : ¬ x ≥ nf := by omega
          have x3 : ¬ y < 0 := by omega
          have x4 : ¬ y ≥ nf := by omega
          have x5 : (x == y) = false := by simp; omega
          clear hx hd i1 i2 i3 i4 i5
          go_wp2_with (first | ((with_reducible refine kAny ?_); go_skip) | (with_reducible refine stA ?_) | ((first | refine tIx ?_ | refine tFd ?_ | refine tLd ?_ | ((first | refine tSr ?_ | refine tSt ?_); clear hL; intro _ hL; simp only [splice, zq1, zq2, zq3] at hL) | ((first | refine tBx ?_ | refine tAl ?_); clear hL; intro _ _ hL _)); simp only [Act.put, zq1, zq2, zq3]))
          go_roundw
          case rel => exact ⟨k + 1, _, by omega, by go_num, hL.tail⟩
          case measure => simp [intOf] <;> omega
        · go_wp2_with (first | ((with_reducible refine kAny ?_); go_skip) | (with_reducible refine stA ?_) | ((first | refine tIx ?_ | refine tFd ?_ | refine tLd ?_ | ((first | refine tSr ?_ | refine tSt ?_); clear hL; intro _ hL; simp only [splice, zq1, zq2, zq3] at hL) | ((first | refine tBx ?_ | refine tAl ?_); clear hL; intro _ _ hL _)); simp only [Act.put, zq1, zq2, zq3]))
          go_ret
          exact RetV.mk hL rfl
end Go.Proofs.YtmhkmmmompediaaGreat

/- Contract of lagrange.Bound for valid master problems and prices. -/
namespace Go.Proofs.YtmhkmmmompediaaGreat
open Go.RowKit

theorem FracC.toG {m : World} {v : Value} {q : Rat} (h : FracC m v q) (hs : Sm q.num q.den) : FrG m v q.num q.den := by
  refine ⟨h.toFr (k := 200) ⟨?_, ?_⟩ (by decide), .inl (h.toS hs)⟩
  · exact Nat.lt_of_lt_of_le hs.1 (Nat.le_trans (show 1073741824 ≤ 4294967296 ^ 1 by decide) (Nat.pow_le_pow_right (by decide) (by decide)))
  · have := hs.2
    simp only [Int.natAbs_natCast] at this
    exact Nat.lt_of_lt_of_le this (Nat.le_trans (show 1073741824 ≤ 4294967296 ^ 1 by decide) (Nat.pow_le_pow_right (by decide) (by decide)))
theorem toGI {m : World} {v : Value} {z : Int} (h : FracC m v (z : Rat)) (hz : z.natAbs < 1073741824) : FrG m v z 1 := by
  have := h.toG ⟨by simpa using hz, by simp⟩
  simpa using this
theorem q_MulI (a b : Value) (z : Int) (p : SF) (w m : World) (hV : Vw m w) (ha : FracC m a (z : Rat)) (hb : FrG m b p.1 p.2) (hs : Sm (z : Rat).num (z : Rat).den) (hs' : Sm p.1 p.2) :
    Calls Tryz.prog 74 #[a, b] w (RetV w m fun m' r => FracC m' r ((z : Rat) * vS p)) := by
  have h := q_MulG a b _ _ p.1 p.2 w m hV (ha.toG hs) hb hs hs'
  rwa [Rat.num_divInt_den] at h
theorem whole_quo {n : Nat} {d : Int} (hd : 2 ≤ d) (hn : n ≤ 1000) : ∀ (z : Int) (w m : World), Vw m w → (z = wrap64 ((n : Int).tdiv d) ∨ z = wrap64 ((n : Int) / d) ∨ z = (n : Int) / d ∨ z = (n : Int).tdiv d) →
    Calls Tryz.prog 71 #[.int .i64 z] w (RetV w m fun m' r => FracC m' r (((n : Int) / d : Int) : Rat)) := by
  intro z w m hV hz
  have e : (n : Int).tdiv d = (n : Int) / d := Int.tdiv_eq_ediv_of_nonneg (by omega)
  have h1 : ((n : Int) / d).natAbs ≤ n := by have := Int.natAbs_ediv_le_natAbs (n : Int) d; simpa using this
  have hz' : z = (n : Int) / d := by
    rw [e] at hz
    generalize (n : Int) / d = y at *
    have : wrap64 y = y := by unfold wrap64; omega
    rcases hz with h | h | h | h <;> omega
  subst hz'
  exact l_whole _ w m hV (by omega)

set_option maxRecDepth 100000 in
set_option maxHeartbeats 32000000 in
theorem l_Bound (xv pv lv : Value) (nf : Nat) (x : Ms) (p : Pr) (lp : SF) (w m : World) (hV : Vw m w) (hx : MasterR m xv x) (hp : PricesR m pv p) (hlv : FrG m lv lp.1 lp.2) (ok : BQ nf x p lp) :
    Calls Tryz.prog 18 #[xv, pv, lv] w (RetV w m fun m' r => BoR m' r x p lp) := by
  obtain ⟨xnf, rws, pen, cols, cuts⟩ := x
  obtain ⟨fl, cu, cd, de, fr⟩ := p
  obtain ⟨g9, A9, n9, c9, h9, B9, k9, d9, rfl, hlv⟩ := hlv.lit
  have e0 := ok.nfe
  simp only at e0
  subst e0
  have HX := Lib.hid hx
  have HPV := Lib.hid hp
  obtain ⟨va, vb, vc, rfl, ha, hb, hc⟩ := hx
  simp only at ha hb hc
  obtain ⟨A, ca, rfl, hca, ha⟩ := ha.lit
  obtain ⟨B, cb, rfl, hcb, hb⟩ := hb.lit
  obtain ⟨C, cc, rfl, hcc, hc⟩ := hc.lit
  obtain ⟨vf, vu, vd, ve, rfl, pf, pu, pd, pe⟩ := hp
  simp only at pf pu pd pe
  obtain ⟨F, cf, rfl, hcf, pf⟩ := pf.lit
  obtain ⟨D, du, rfl, hdu, pu⟩ := pu.lit
  obtain ⟨E, ed, rfl, hed, pd⟩ := pd.lit
  obtain ⟨G, ge, rfl, hge, pe⟩ := pe.lit
  have KV : Hid (∀ w m', Vw m' w → Le m m' → Calls Tryz.prog 68 #[.agg #[.int .i64 nf, .slice A rws.length ca, .int .i64 pen, .slice B cols.length cb, .slice C cuts.length cc]] w (RetV w m' fun _ r => r = .int .i64 0)) := by
    show ∀ w m', _
    exact fun w m' hV hle => m_ValidateMaster _ _ w m' hV (HX.out.le hle) ok.ms
  have KP : Hid (∀ w m', Vw m' w → Le m m' → Calls Tryz.prog 69 #[.int .i64 nf, .agg #[.slice F fl.length cf, .slice D cu.length du, .slice E cd.length ed, .slice G de.length ge, .bool fr]] w (RetV w m' fun _ r => r = .int .i64 0)) := by
    show ∀ w m', _
    exact fun w m' hV hle => e_ValidatePrices nf _ _ w m' hV (HPV.out.le hle) ok.pr
  clear HX HPV hb hc pe hcb hcc hge hcf hed hdu hca
  have o1 : fl.length = nf := ok.pr.fl
  have o2 : cd.length = cu.length := ok.pr.cd
  have r1 : rws.length ≤ 32 := ok.ms.r1
  have p0 : 0 ≤ pen := ok.ms.p0
  have p1 : pen ≤ 1000 := ok.pen
  have k1 : cu.length ≤ 32 := ok.pr.k1
  have f1 : nf ≤ 1000 := ok.pr.f1
  have HN0 : Hid (∃ ts, bTerms ⟨nf, rws, pen, cols, cuts⟩ ⟨fl, cu, cd, de, fr⟩ = ts) := ⟨_, rfl⟩
  obtain ⟨ts, hts⟩ := HN0.out
  have HTR : Hid (∀ (k j : Nat) (q : Rat), rws[k]? = some (j : Int) → fl[j]? = some q → ts[k]? = some (rmin q (pen : Rat))) := by
    show ∀ _, _
    intro k j q h1 h2
    rw [← hts]; exact term_row (x := ⟨nf, rws, pen, cols, cuts⟩) (p := ⟨fl, cu, cd, de, fr⟩) h1 h2
  have HTC : Hid (∀ (k : Nat) (c : Cut) (d : Rat), cu[k]? = some c → cd[k]? = some d → ts[rws.length + k]? = some (d * (((c.1.length : Int) / c.2 : Int) : Rat))) := by
    show ∀ _, _
    intro k c d h1 h2
    rw [← hts]; exact term_cut (x := ⟨nf, rws, pen, cols, cuts⟩) (p := ⟨fl, cu, cd, de, fr⟩) h1 h2
  have HTS : Hid (∀ k, k ≤ rws.length + cu.length → Sm (psum ((0 : Int) : Rat) ts k).num (psum ((0 : Int) : Rat) ts k).den) := by
    show ∀ _, _
    intro k hk
    rw [← hts]; exact (ok.psum_tw tw0 k hk).sm (by decide)
  have HCS : Hid (∀ t ∈ ts, Sm t.num t.den) := by show ∀ _, _; rw [← hts]; exact fun t ht => (ok.terms_tw t ht).sm (by decide)
  have HLOW : Hid (∀ r ∈ rws, 0 ≤ r ∧ r < (nf : Int)) := ok.ms.low
  have HFL : Hid (∀ q ∈ fl, Sm q.num q.den) := by show ∀ _, _; exact fun q hq => (ok.fl q hq).sm (by decide)
  have HCD : Hid (∀ q ∈ cd, Sm q.num q.den) := by show ∀ _, _; exact fun q hq => (ok.cd q hq).sm (by decide)
  have HCU : Hid (∀ c ∈ cu, 2 ≤ c.2 ∧ c.1.length ≤ 1000) := by show ∀ _, _; exact fun c hc => ⟨(ok.pr.cuts c hc).two, ok.cu c hc⟩
  have HBND : Hid (bnd ⟨nf, rws, pen, cols, cuts⟩ ⟨fl, cu, cd, de, fr⟩ lp = psum ((0 : Int) : Rat) ts (rws.length + cu.length) + ((rws.length : Int) : Rat) * vS (minS lp (0, 1))) := by
    show _ = _
    unfold bnd bTail
    rw [hts, vS_min, vS_int]
  have H1 : Hid (Sm lp.1 lp.2) := ok.sl
  have H2 : Hid (Sm (minS lp (0, 1)).1 (minS lp (0, 1)).2) := minS_sm ok.sl ⟨by decide, by decide⟩
  have H3 : Hid (Sm (((rws.length : Int) : Rat) * vS (minS lp (0, 1))).num (((rws.length : Int) : Rat) * vS (minS lp (0, 1))).den) := by
    have h := ok.tail_tw.sm (by decide)
    unfold bTail at h
    rw [← vS_int 0, ← vS_min] at h
    exact h
  have Hpen : Hid (pen.natAbs < 1073741824) := by show _ < _; omega
  have KW : Hid (∀ w m', Vw m' w → Calls Tryz.prog 71 #[.int .i64 pen] w (RetV w m' fun m' r => FracC m' r (pen : Rat))) := by
    show ∀ w m', _
    exact fun w m' hV => l_whole pen w m' hV (by omega)
  have KN : Hid (∀ w m', Vw m' w → Calls Tryz.prog 71 #[.int .i64 rws.length] w (RetV w m' fun m' r => FracC m' r ((rws.length : Int) : Rat))) := by
    show ∀ w m', _
    exact fun w m' hV => l_whole _ w m' hV (by omega)
  have hL := Loc.start hV
  have HR := Lib.hid ha
  have HPU := Lib.hid pu
  have HPD := Lib.hid pd
  have HPF := Lib.hid pf
  have HRL : Hid (rws.length ≤ 1000000) := by show _ ≤ _; omega
  rw [o1] at pf KP
  rw [o2] at pd KP
  rw [o1] at HPF
  rw [o2] at HPD
  have HNF := Lib.hid o1
  have HNC0 := Lib.hid o2
  clear hV ok HN0 hts pu pd pf p0 p1 o1 o2
  rw [HNF.out, HNC0.out]
  have hn6 : rws.length ≤ 1000 := by omega
  have hc6 : cu.length ≤ 1000 := by omega
  clear r1 k1
  generalize hn : rws.length = n at *
  have HN := Lib.hid hn
  clear hn
  generalize hn1 : cu.length = nc at *
  have HNU := Lib.hid hn1
  have HND := HNC0
  clear hn1 HNC0
  generalize cols.length = ncol at *
  generalize cuts.length = ncut at *
  generalize de.length = nd at *
  go_enter Tryz.func18, Tryz.ntmps18
  go_upto_region 0 with (fail)
  refine wp_region_lit ?_
  refine t_box hL rfl rfl ?_; clear hL; intro Wh3 mh3 hL eh3; simp only [Act.put, zq1, zq2, zq3]
  refine t_box hL rfl rfl ?_; clear hL; intro Wh4 mh4 hL eh4; simp only [Act.put, zq1, zq2, zq3]
  refine t_box hL rfl rfl ?_; clear hL; intro Wh5 mh5 hL eh5; simp only [Act.put, zq1, zq2, zq3]
  refine t_alloc hL rfl ?_; clear hL; intro Wh6 mh6 hL eh6; simp only [Act.put, zq1, zq2, zq3]
  go_wp2_with (first | ((with_reducible refine kAny ?_); go_skip) | (with_reducible refine stA ?_) | ((first | refine tIx ?_ | refine tFd ?_ | refine tLd ?_ | ((first | refine tSr ?_ | refine tSt ?_); clear hL; intro _ hL; simp only [splice, zq1, zq2, zq3] at hL) | ((first | refine tBx ?_ | refine tAl ?_); clear hL; intro _ _ hL _)); simp only [Act.put, zq1, zq2, zq3]))
  refine (KV.out _ _ hL.vw leX).mono ?_
  rintro e Wc1 ⟨_, mc1, rfl, hE, hMc1, hV, rfl⟩
  replace hL := hL.call hE (by assumption) hV; clear hE hV
  go_wp2_with (first | ((with_reducible refine kAny ?_); go_skip) | (with_reducible refine stA ?_) | ((first | refine tIx ?_ | refine tFd ?_ | refine tLd ?_ | ((first | refine tSr ?_ | refine tSt ?_); clear hL; intro _ hL; simp only [splice, zq1, zq2, zq3] at hL) | ((first | refine tBx ?_ | refine tAl ?_); clear hL; intro _ _ hL _)); simp only [Act.put, zq1, zq2, zq3]))
  refine (KP.out _ _ hL.vw leX).mono ?_
  rintro e Wc2 ⟨_, mc2, rfl, hE, hMc2, hV, rfl⟩
  replace hL := hL.call hE (by assumption) hV; clear hE hV
  go_wp2_with (first | ((with_reducible refine kAny ?_); go_skip) | (with_reducible refine stA ?_) | ((first | refine tIx ?_ | refine tFd ?_ | refine tLd ?_ | ((first | refine tSr ?_ | refine tSt ?_); clear hL; intro _ hL; simp only [splice, zq1, zq2, zq3] at hL) | ((first | refine tBx ?_ | refine tAl ?_); clear hL; intro _ _ hL _)); simp only [Act.put, zq1, zq2, zq3]))
  go_loopw [37] (fun i wr => ∃ (k : Nat) (mm : World), k ≤ nc ∧ i = .int .i64 k ∧ Loc w m wr mm [(Wh5.heap.size, 39, #[.bool false, .slice none 0 0, .bool false, .slice none 0 0]), (Wh4.heap.size, 39, #[.bool g9, .slice A9 n9 c9, .bool h9, .slice B9 k9 d9]), (Wh3.heap.size, 31, #[.slice F nf cf, .slice D nc du, .slice E nc ed, .slice G nd ge, .bool fr]), (w.heap.size, 26, #[.int .i64 nf, .slice A n ca, .int .i64 pen, .slice B ncol cb, .slice C ncut cc])] ∧ Hid (∀ (j : Nat) (y : Cut), j < k → cu[j]? = some y → ∀ r ∈ y.1, r ∈ rws)) (fun i _ => nc - (intOf i).toNat)
  case atStart => exact ⟨0, _, Nat.zero_le _, rfl, hL, fun _ _ h => absurd h (Nat.not_lt_zero _)⟩
  case round =>
    clear hL
    obtain ⟨k, mm, hk, rfl, hL, HIN⟩ := hrel
    obtain ⟨wq, rfl⟩ := hL.world
    have hM := hL.mext
    by_cases hlt : k < nc
    · obtain ⟨⟨xs, dv⟩, hx⟩ := at_some HNU hlt
      have hu := HPU.out
      obtain ⟨b1, o1, A1, c1, rfl, hi1, hl1, hlc1, -, -, hr1⟩ := CutL.at_ hu hx
      have HXC := Lib.hid hx
      simp only at hi1 hl1 hlc1 hr1
      have HI := Lib.hid hi1
      clear hx hu hi1 KV KP KW KN
      generalize hnx : xs.length = nx at *
      have HNX := Lib.hid hnx
      clear hnx
      go_wp2_with (first | ((with_reducible refine kAny ?_); go_skip) | (with_reducible refine stA ?_) | ((first | refine tIx ?_ | refine tFd ?_ | refine tLd ?_ | ((first | refine tSr ?_ | refine tSt ?_); clear hL; intro _ hL; simp only [splice, zq1, zq2, zq3] at hL) | ((first | refine tBx ?_ | refine tAl ?_); clear hL; intro _ _ hL _)); simp only [Act.put, zq1, zq2, zq3]))
      go_loopw [44] (fun i wr => ∃ (j : Nat) (m2 : World), j ≤ nx ∧ i = .int .i64 j ∧ Loc w m wr m2 [(wq.heap.size, 34, #[.slice A1 nx c1, .int .i64 dv]), (Wh5.heap.size, 39, #[.bool false, .slice none 0 0, .bool false, .slice none 0 0]), (Wh4.heap.size, 39, #[.bool g9, .slice A9 n9 c9, .bool h9, .slice B9 k9 d9]), (Wh3.heap.size, 31, #[.slice F nf cf, .slice (some ⟨b1, o1, none⟩) nc du, .slice E nc ed, .slice G nd ge, .bool fr]), (w.heap.size, 26, #[.int .i64 nf, .slice A n ca, .int .i64 pen, .slice B ncol cb, .slice C ncut cc])] ∧ Hid (∀ (i : Nat) (r : Int), i < j → xs[i]? = some r → r ∈ rws)) (fun i _ => nx - (intOf i).toNat)
      case atStart => exact ⟨0, _, Nat.zero_le _, rfl, hL, fun _ _ h => absurd h (Nat.not_lt_zero _)⟩
      case round =>
        clear hL hM
        obtain ⟨j, m2, hj, rfl, hL, HJN⟩ := hrel
        have hM := hL.mext
        by_cases hlt2 : j < nx
        · obtain ⟨r, hr⟩ := at_some HNX hlt2
          obtain ⟨b3, o3, rfl, hc3⟩ := IntL.at_ HI.out hr
          have HRX := Lib.hid hr
          clear hr
          by_cases hin : r ∈ rws
          · have HD : Hid (decide (r ∈ rws) = true) := decide_eq_true hin
            have HIN2 := Lib.hid (firsts HJN.out HRX.out hin)
            clear hin HJN
            go_wp2_with (first | ((with_reducible refine kAny ?_); go_skip) | (with_reducible refine stA ?_) | ((first | refine tIx ?_ | refine tFd ?_ | refine tLd ?_ | ((first | refine tSr ?_ | refine tSt ?_); clear hL; intro _ hL; simp only [splice, zq1, zq2, zq3] at hL) | ((first | refine tBx ?_ | refine tAl ?_); clear hL; intro _ _ hL _)); simp only [Act.put, zq1, zq2, zq3]))
            refine (s_Contains _ rws r _ _ hL.vw (IntL.le HR.out leX) (by rw [HN.out]; exact HRL.out)).mono ?_
            rintro e Ws1 ⟨_, ms1, rfl, hE, hMs1, hV, rfl⟩
            replace hL := hL.call hE (by assumption) hV; clear hE hV
            rw [HD.out]
            go_wp2_with (first | ((with_reducible refine kAny ?_); go_skip) | (with_reducible refine stA ?_) | ((first | refine tIx ?_ | refine tFd ?_ | refine tLd ?_ | ((first | refine tSr ?_ | refine tSt ?_); clear hL; intro _ hL; simp only [splice, zq1, zq2, zq3] at hL) | ((first | refine tBx ?_ | refine tAl ?_); clear hL; intro _ _ hL _)); simp only [Act.put, zq1, zq2, zq3]))
            go_roundw
            case rel => exact ⟨j + 1, _, by omega, by go_num, hL, HIN2.out⟩
            case measure => simp [intOf] <;> omega
          · have HD : Hid (decide (r ∈ rws) = false) := decide_eq_false hin
            have HNO : Hid (¬ AllIn cu rws) := allIn_not HXC.out HRX.out hin
            clear hin HJN
            go_wp2_with (first | ((with_reducible refine kAny ?_); go_skip) | (with_reducible refine stA ?_) | ((first | refine tIx ?_ | refine tFd ?_ | refine tLd ?_ | ((first | refine tSr ?_ | refine tSt ?_); clear hL; intro _ hL; simp only [splice, zq1, zq2, zq3] at hL) | ((first | refine tBx ?_ | refine tAl ?_); clear hL; intro _ _ hL _)); simp only [Act.put, zq1, zq2, zq3]))
            refine (s_Contains _ rws r _ _ hL.vw (IntL.le HR.out leX) (by rw [HN.out]; exact HRL.out)).mono ?_
            rintro e Ws1 ⟨_, ms1, rfl, hE, hMs1, hV, rfl⟩
            replace hL := hL.call hE (by assumption) hV; clear hE hV
            rw [HD.out]
            go_wp2_with (first | ((with_reducible refine kAny ?_); go_skip) | (with_reducible refine stA ?_) | ((first | refine tIx ?_ | refine tFd ?_ | refine tLd ?_ | ((first | refine tSr ?_ | refine tSt ?_); clear hL; intro _ hL; simp only [splice, zq1, zq2, zq3] at hL) | ((first | refine tBx ?_ | refine tAl ?_); clear hL; intro _ _ hL _)); simp only [Act.put, zq1, zq2, zq3]))
            refine fin_aggT hL Tryz.results18 rfl rfl loX ag_Frac (by exact rfl) rfl (hL.sub (List.nil_sublist _)) ?_
            exact .inl ⟨HNO.out, rfl⟩
        · have HIN2 := Lib.hid (firsts HIN.out HXC.out (fun r hr => by
            obtain ⟨i, hi⟩ := List.mem_iff_getElem?.1 hr
            have h1 := (List.getElem?_eq_some_iff.1 hi).1
            have h2 := HNX.out
            simp only at h1
            exact HJN.out i r (by omega) hi))
          clear HIN HJN
          go_wp2_with (first | ((with_reducible refine kAny ?_); go_skip) | (with_reducible refine stA ?_) | ((first | refine tIx ?_ | refine tFd ?_ | refine tLd ?_ | ((first | refine tSr ?_ | refine tSt ?_); clear hL; intro _ hL; simp only [splice, zq1, zq2, zq3] at hL) | ((first | refine tBx ?_ | refine tAl ?_); clear hL; intro _ _ hL _)); simp only [Act.put, zq1, zq2, zq3]))
          go_roundw
          case rel => exact ⟨k + 1, _, by omega, by go_num, hL.tail, HIN2.out⟩
          case measure => simp [intOf] <;> omega
    · have HALL : Hid (AllIn cu rws) := allIn_of (n := k) (by rw [HNU.out]; omega) HIN.out
      clear HIN
      cases fr with
      | true =>
        go_wp2_with (first | ((with_reducible refine kAny ?_); go_skip) | (with_reducible refine stA ?_) | ((first | refine tIx ?_ | refine tFd ?_ | refine tLd ?_ | ((first | refine tSr ?_ | refine tSt ?_); clear hL; intro _ hL; simp only [splice, zq1, zq2, zq3] at hL) | ((first | refine tBx ?_ | refine tAl ?_); clear hL; intro _ _ hL _)); simp only [Act.put, zq1, zq2, zq3]))
        refine fin_aggT hL Tryz.results18 rfl rfl loX ag_Frac (by exact rfl) rfl (hL.sub (List.nil_sublist _)) ?_
        exact .inr (.inl ⟨HALL.out, rfl, rfl⟩)
      | false =>
        go_wp2_with (first | ((with_reducible refine kAny ?_); go_skip) | (with_reducible refine stA ?_) | ((first | refine tIx ?_ | refine tFd ?_ | refine tLd ?_ | ((first | refine tSr ?_ | refine tSt ?_); clear hL; intro _ hL; simp only [splice, zq1, zq2, zq3] at hL) | ((first | refine tBx ?_ | refine tAl ?_); clear hL; intro _ _ hL _)); simp only [Act.put, zq1, zq2, zq3]))
        refine (KW.out _ _ hL.vw).mono ?_
        rintro e Wc3 ⟨vc3, mc3, rfl, hE, hMc3, hV, hc3⟩
        replace hL := hL.call hE (by assumption) hV; clear hE hV
        obtain ⟨gc3', Ac3', nc3', cc3', hc3', Bc3', kc3', dc3', rfl, hc3⟩ := hc3.lit
        go_wp2_with (first | ((with_reducible refine kAny ?_); go_skip) | (with_reducible refine stA ?_) | ((first | refine tIx ?_ | refine tFd ?_ | refine tLd ?_ | ((first | refine tSr ?_ | refine tSt ?_); clear hL; intro _ hL; simp only [splice, zq1, zq2, zq3] at hL) | ((first | refine tBx ?_ | refine tAl ?_); clear hL; intro _ _ hL _)); simp only [Act.put, zq1, zq2, zq3]))
        refine (l_whole 0 _ _ hL.vw (by decide)).mono ?_
        rintro e Wc4 ⟨vc4, mc4, rfl, hE, hMc4, hV, hc4⟩
        replace hL := hL.call hE (by assumption) hV; clear hE hV
        obtain ⟨gc4', Ac4', nc4', cc4', hc4', Bc4', kc4', dc4', rfl, hc4⟩ := hc4.lit
        go_wp2_with (first | ((with_reducible refine kAny ?_); go_skip) | (with_reducible refine stA ?_) | ((first | refine tIx ?_ | refine tFd ?_ | refine tLd ?_ | ((first | refine tSr ?_ | refine tSt ?_); clear hL; intro _ hL; simp only [splice, zq1, zq2, zq3] at hL) | ((first | refine tBx ?_ | refine tAl ?_); clear hL; intro _ _ hL _)); simp only [Act.put, zq1, zq2, zq3]))
        have hp3 : FracS mc4 _ pen 1 := (toSI hc3 Hpen.out).le leX
        have hz4 : Hid (FracC mc4 (.agg #[.bool gc4', .slice Ac4' nc4' cc4', .bool hc4', .slice Bc4' kc4' dc4']) (psum ((0 : Int) : Rat) ts 0)) := hc4
        clear hlt hk hM
        go_loopw [66] (fun i wr => ∃ (k : Nat) (mm : World) (g5 h5 : Bool) (A5 B5 : Option Addr) (n5 c5 k5 d5 : Nat), k ≤ n ∧ i = .int .i64 k ∧ Loc w m wr mm [(Wc4.heap.size, 39, #[.bool g5, .slice A5 n5 c5, .bool h5, .slice B5 k5 d5]), (Wc3.heap.size, 39, #[.bool gc3', .slice Ac3' nc3' cc3', .bool hc3', .slice Bc3' kc3' dc3']), (Wh5.heap.size, 39, #[.bool false, .slice none 0 0, .bool false, .slice none 0 0]), (Wh4.heap.size, 39, #[.bool g9, .slice A9 n9 c9, .bool h9, .slice B9 k9 d9]), (Wh3.heap.size, 31, #[.slice F nf cf, .slice D nc du, .slice E nc ed, .slice G nd ge, .bool false]), (w.heap.size, 26, #[.int .i64 nf, .slice A n ca, .int .i64 pen, .slice B ncol cb, .slice C ncut cc])] ∧ Hid (FracC mm (.agg #[.bool g5, .slice A5 n5 c5, .bool h5, .slice B5 k5 d5]) (psum ((0 : Int) : Rat) ts k)) ∧ Ext mc4 mm) (fun i _ => n - (intOf i).toNat)
        case atStart =>
          refine ⟨0, _, _, _, _, _, _, _, _, _, Nat.zero_le _, rfl, hL, ?_, ?_⟩
          · exact hz4.out.le leX
          · exact exX
        case round =>
          clear hL hz4
          obtain ⟨k, mm, g5, h5, A5, B5, n5, c5, k5, d5, hk, rfl, hL, hs, hX⟩ := hrel
          have hM := hL.mext
          by_cases hlt : k < n
          · obtain ⟨r, hx⟩ := at_some HN hlt
            obtain ⟨x1, x2⟩ := HLOW.out r (List.mem_of_getElem? hx)
            obtain ⟨j, rfl⟩ : ∃ j : Nat, r = (j : Int) := ⟨r.toNat, by omega⟩
            have hj : j < nf := by omega
            obtain ⟨q, hq⟩ := at_some HNF hj
            have har := HR.out
            have hpf := HPF.out
            obtain ⟨b1, o1, rfl, hc1⟩ := IntL.at_ har hx
            obtain ⟨b2, o2, g2, A2, n2, c2, h2, B2, k2, d2, rfl, hp2, hr2⟩ := FracL.at_ hpf hq
            obtain ⟨s, hs2⟩ : ∃ s : SF, s = (q.num, (q.den : Int)) := ⟨_, rfl⟩
            have S1 : Hid (Sm s.1 s.2) := by rw [hs2]; exact HFL.out q (List.mem_of_getElem? hq)
            have S3 : Hid (Sm pen 1) := ⟨Hpen.out, by decide⟩
            have S2 : Hid (Sm (minS s (pen, 1)).1 (minS s (pen, 1)).2) := minS_sm S1.out S3.out
            have S4 : Hid (Sm (psum ((0 : Int) : Rat) ts k).num (psum ((0 : Int) : Rat) ts k).den) := HTS.out k (by omega)
            have HB : Hid (psum ((0 : Int) : Rat) ts (k + 1) = psum ((0 : Int) : Rat) ts k + vS (minS s (pen, 1))) := by
              show _ = _
              rw [psum_step (HTR.out k j q hx hq), vS_min, hs2, vS_rat, vS_int]
            have hp2' : FracS m (.agg #[.bool g2, .slice A2 n2 c2, .bool h2, .slice B2 k2 d2]) s.1 s.2 := by
              rw [hs2]; exact hp2.toS (HFL.out q (List.mem_of_getElem? hq))
            have hs1 := hs.out
            replace hp3 := hp3.le hX.le
            clear hx hq x1 x2 hs KV KP KW KN HTS har hpf hp2 hs2
            go_upto_region 24 with ((first | ((with_reducible refine kAny ?_); go_skip) | (with_reducible refine stA ?_) | ((first | refine tIx ?_ | refine tFd ?_ | refine tLd ?_ | ((first | refine tSr ?_ | refine tSt ?_); clear hL; intro _ hL; simp only [splice, zq1, zq2, zq3] at hL) | ((first | refine tBx ?_ | refine tAl ?_); clear hL; intro _ _ hL _)); simp only [Act.put, zq1, zq2, zq3])))
            (try simp only [eq_self] at *)
            refine wp_region_by2 9 [false, false, false, false, false, false, false, false, false] [false, false, false, false, false, false, false, false, false] [(fun v _ _ => v = ?c24_0), (fun v _ _ => v = ?c24_1), (fun v _ _ => v = ?c24_2), (fun v _ _ => v = ?c24_3), (fun v _ _ => v = ?c24_4), (fun v _ _ => v = ?c24_5), (fun v _ _ => v = ?c24_6), Of (fun um v => FracS um v (minS s (pen, 1)).1 (minS s (pen, 1)).2), Of (fun um v => FracC um v (psum ((0 : Int) : Rat) ts k + vS (minS s (pen, 1))))] hL.vw mixed [70, 71, 72, 73, 74, 75, 76, 77, 78] _ (by kernel_rfl) (fun vs => by simp only [lay, Act.put, zq1, zq2, zq3]; rfl) (by kernel_rfl) (by decide) (by decide) ?s24 ?l24 ?r24
            case s24 =>
              refine ⟨?_, ?_, ?_, ?_, ?_, ?_, ?_, ?_, ?_, trivial⟩
              · intro vs W1 m1 hE hM hV hD; clear hD; replace hL := hL.call hE hM hV
                exact sLd
              · intro vs W1 m1 hE hM hV hD; clear hD; replace hL := hL.call hE hM hV
                exact sFd
              · intro vs W1 m1 hE hM hV hD; obtain ⟨⟨_, _, -, -, f71⟩, -⟩ := hD; have f71 : vs 71 = _ := f71; generalize vs 71 = x71 at f71 ⊢; subst x71; replace hL := hL.call hE hM hV
                exact sLd
              · intro vs W1 m1 hE hM hV hD; clear hD; replace hL := hL.call hE hM hV
                exact sPu
              · intro vs W1 m1 hE hM hV hD; obtain ⟨⟨_, _, -, -, f72⟩, ⟨_, _, -, -, f73⟩, -⟩ := hD; have f72 : vs 72 = _ := f72; generalize vs 72 = x72 at f72 ⊢; subst x72; have f73 : vs 73 = _ := f73; generalize vs 73 = x73 at f73 ⊢; subst x73; replace hL := hL.call hE hM hV
                exact sIx
              · intro vs W1 m1 hE hM hV hD; obtain ⟨⟨_, _, -, -, f74⟩, -⟩ := hD; have f74 : vs 74 = _ := f74; generalize vs 74 = x74 at f74 ⊢; subst x74; replace hL := hL.call hE hM hV
                exact sLd
              · intro vs W1 m1 hE hM hV hD; clear hD; replace hL := hL.call hE hM hV
                exact sLd
              · intro vs W1 m1 hE hM hV hD; obtain ⟨⟨_, _, -, -, f75⟩, ⟨_, _, -, -, f76⟩, -⟩ := hD; have f75 : vs 75 = _ := f75; generalize vs 75 = x75 at f75 ⊢; subst x75; have f76 : vs 76 = _ := f76; generalize vs 76 = x76 at f76 ⊢; subst x76
                go_wp2_with fail
                refine (l_smallerS _ _ s (pen, 1) _ _ hV (hp2'.le leX) (hp3.le leX) S1.out S3.out).mono ?_
                rintro e W2 ⟨v, m2, rfl, hE2, hM2, hV2, h⟩
                go_wp2_with fail
                refine One2.call hE2 hM2 hV2 ?_; first | exact h | exact rfl
              · intro vs W1 m1 hE hM hV hD; obtain ⟨⟨_, _, -, -, f70⟩, ⟨_, _, -, i77, f77⟩, -, -⟩ := hD; have f70 : vs 70 = _ := f70; generalize vs 70 = x70 at f70 ⊢; subst x70; have f77 : FracS _ (vs 77) (minS s (pen, 1)).1 (minS s (pen, 1)).2 := f77; replace f77 := f77.le i77.le; clear i77
                go_wp2_with fail
                refine (q_AddS _ _ (psum ((0 : Int) : Rat) ts k) (minS s (pen, 1)) _ _ hV (hs1.le leX) f77 S4.out S2.out).mono ?_
                rintro e W2 ⟨v, m2, rfl, hE2, hM2, hV2, h⟩
                go_wp2_with fail
                refine One2.call hE2 hM2 hV2 ?_; first | exact h | exact rfl
            case l24 =>
              refine ⟨fun h => (by cases h), fun h => (by cases h), fun h => (by cases h), fun h => (by cases h), fun h => (by cases h), fun h => (by cases h), fun h => (by cases h), fun h => (by cases h), fun h => (by cases h), trivial⟩
            intro vs W1 m1 hE hM hV hF hD
            clear hD
            obtain ⟨-, -, -, -, -, -, -, ⟨_, _, -, i77, f77⟩, ⟨_, _, -, i78, f78⟩, -⟩ := hF
            replace hL := hL.call hE hM hV
            replace f77 : FracS _ (vs 77) (minS s (pen, 1)).1 (minS s (pen, 1)).2 := f77
            replace f77 := f77.le i77.le
            clear i77
            replace f78 : FracC _ (vs 78) (psum ((0 : Int) : Rat) ts k + vS (minS s (pen, 1))) := f78
            replace f78 := f78.le i78.le
            clear i78
            obtain ⟨g78, A78, n78, c78, h78, B78, k78, d78, e78, f78⟩ := f78.lit
            generalize vs 78 = x78 at e78 ⊢
            subst x78
            clear hE hV
            simp only [List.drop_succ_cons, List.drop_zero]
            go_wp2_with (first | ((with_reducible refine kAny ?_); go_skip) | (with_reducible refine stA ?_) | ((first | refine tIx ?_ | refine tFd ?_ | refine tLd ?_ | ((first | refine tSr ?_ | refine tSt ?_); clear hL; intro _ hL; simp only [splice, zq1, zq2, zq3] at hL) | ((first | refine tBx ?_ | refine tAl ?_); clear hL; intro _ _ hL _)); simp only [Act.put, zq1, zq2, zq3]))
            refine QN.mk ?_
            go_wp2_with (first | ((with_reducible refine kAny ?_); go_skip) | (with_reducible refine stA ?_) | ((first | refine tIx ?_ | refine tFd ?_ | refine tLd ?_ | ((first | refine tSr ?_ | refine tSt ?_); clear hL; intro _ hL; simp only [splice, zq1, zq2, zq3] at hL) | ((first | refine tBx ?_ | refine tAl ?_); clear hL; intro _ _ hL _)); simp only [Act.put, zq1, zq2, zq3]))
            go_roundw
            case rel =>
              refine ⟨k + 1, _, _, _, _, _, _, _, _, _, by omega, by go_num, hL, ?_, exX⟩
              rw [← HB.out] at f78
              exact f78
            case measure => simp [intOf] <;> omega
          · have hkn : k = n := by omega
            subst hkn
            have hz5 : Hid (FracC mm (.agg #[.bool g5, .slice A5 n5 c5, .bool h5, .slice B5 k5 d5]) (psum ((0 : Int) : Rat) ts (k + 0))) := hs
            clear hs hp3 hX
            go_wp2_with (first | ((with_reducible refine kAny ?_); go_skip) | (with_reducible refine stA ?_) | ((first | refine tIx ?_ | refine tFd ?_ | refine tLd ?_ | ((first | refine tSr ?_ | refine tSt ?_); clear hL; intro _ hL; simp only [splice, zq1, zq2, zq3] at hL) | ((first | refine tBx ?_ | refine tAl ?_); clear hL; intro _ _ hL _)); simp only [Act.put, zq1, zq2, zq3]))
            clear hM hlt hk
            go_loopw [83] (fun i wr => ∃ (j : Nat) (m3 : World) (g6 h6 : Bool) (A6 B6 : Option Addr) (n6 c6 k6 d6 : Nat), j ≤ nc ∧ i = .int .i64 j ∧ Loc w m wr m3 [(Wc4.heap.size, 39, #[.bool g6, .slice A6 n6 c6, .bool h6, .slice B6 k6 d6]), (Wc3.heap.size, 39, #[.bool gc3', .slice Ac3' nc3' cc3', .bool hc3', .slice Bc3' kc3' dc3']), (Wh5.heap.size, 39, #[.bool false, .slice none 0 0, .bool false, .slice none 0 0]), (Wh4.heap.size, 39, #[.bool g9, .slice A9 n9 c9, .bool h9, .slice B9 k9 d9]), (Wh3.heap.size, 31, #[.slice F nf cf, .slice D nc du, .slice E nc ed, .slice G nd ge, .bool false]), (w.heap.size, 26, #[.int .i64 nf, .slice A k ca, .int .i64 pen, .slice B ncol cb, .slice C ncut cc])] ∧ Hid (FracC m3 (.agg #[.bool g6, .slice A6 n6 c6, .bool h6, .slice B6 k6 d6]) (psum ((0 : Int) : Rat) ts (k + j)))) (fun i _ => nc - (intOf i).toNat)
            case atStart =>
              exact ⟨0, _, _, _, _, _, _, _, _, _, Nat.zero_le _, rfl, hL, hz5⟩
            case round =>
              clear hL hz5
              obtain ⟨j, m3, g6, h6, A6, B6, n6, c6, k6, d6, hj, rfl, hL, hs⟩ := hrel
              obtain ⟨wq, rfl⟩ := hL.world
              have hM := hL.mext
              have S4 : Hid (Sm (psum ((0 : Int) : Rat) ts (k + j)).num (psum ((0 : Int) : Rat) ts (k + j)).den) := HTS.out (k + j) (by omega)
              have hs1 := hs.out
              clear hs HTS
              by_cases hlt : j < nc
              · obtain ⟨⟨xs, dv⟩, hx⟩ := at_some HNU hlt
                obtain ⟨q, hq⟩ := at_some HND hlt
                have hu := HPU.out
                have hd := HPD.out
                obtain ⟨b1, o1, A1, c1, rfl, hi1, hl1, hlc1, hcx1, hcx2, hr1⟩ := CutL.at_ hu hx
                obtain ⟨b2, o2, g2, A2, n2, c2, h2, B2, k2, d2, rfl, hp2, hr2⟩ := FracL.at_ hd hq
                simp only at hi1 hl1 hlc1 hr1 hcx1 hcx2
                obtain ⟨dv2, hln⟩ := HCU.out _ (List.mem_of_getElem? hx)
                simp only at dv2 hln
                have S5 : Hid (Sm q.num q.den) := HCD.out q (List.mem_of_getElem? hq)
                have HB := Lib.hid (psum_step (s := ((0 : Int) : Rat)) (HTC.out j _ _ hx hq))
                have S7 := Lib.hid (HCS.out _ (List.mem_of_getElem? (HTC.out j _ _ hx hq)))
                simp only at HB S7
                clear hx hq hu hd hi1 KV KP KW KN
                generalize hnx : xs.length = nx at *
                clear hnx
                have KQ := Lib.hid (whole_quo dv2 hln)
                have S6 : Hid (Sm ((((nx : Int) / dv : Int) : Rat)).num ((((nx : Int) / dv : Int) : Rat)).den) := by
                  have h1 : ((nx : Int) / dv).natAbs ≤ nx := by have := Int.natAbs_ediv_le_natAbs (nx : Int) dv; simpa using this
                  exact ⟨by simp; omega, by simp⟩
                have dv0 : (dv == 0) = false := by simp; omega
                have dv1 : ¬ dv = 0 := by omega
                generalize hzz : (((nx : Int) / dv : Int) : Rat) = zz at *
                have HZZ := Lib.hid hzz
                clear hzz
                go_upto_region 29 with ((first | ((with_reducible refine kAny ?_); go_skip) | (with_reducible refine stA ?_) | ((first | refine tIx ?_ | refine tFd ?_ | refine tLd ?_ | ((first | refine tSr ?_ | refine tSt ?_); clear hL; intro _ hL; simp only [splice, zq1, zq2, zq3] at hL) | ((first | refine tBx ?_ | refine tAl ?_); clear hL; intro _ _ hL _)); simp only [Act.put, zq1, zq2, zq3])))
                (try simp only [eq_self] at *)
                refine wp_region_by2 15 [false, false, false, false, false, false, false, false, false, false, false, false, false, false, false] [false, false, false, false, false, false, false, false, false, false, false, false, false, false, false] [(fun v _ _ => v = ?c29_0), (fun v _ _ => v = ?c29_1), (fun v _ _ => v = ?c29_2), (fun v _ _ => v = ?c29_3), (fun v _ _ => v = ?c29_4), (fun v _ _ => v = ?c29_5), (fun v _ _ => v = ?c29_6), (fun v _ _ => v = ?c29_7), (fun v _ _ => v = ?c29_8), (fun v _ _ => v = ?c29_9), (fun v _ _ => v = ?c29_10), (fun v _ _ => v = ?c29_11), Of (fun um v => FracC um v zz), Of (fun um v => FracC um v (q * zz)), Of (fun um v => FracC um v (psum ((0 : Int) : Rat) ts (k + j) + q * zz))] hL.vw mixed [88, 89, 90, 91, 92, 93, 94, 95, 96, 97, 98, 99, 100, 101, 102] _ (by kernel_rfl) (fun vs => by simp only [lay, Act.put, zq1, zq2, zq3]; rfl) (by kernel_rfl) (by decide) (by decide) ?s29 ?l29 ?r29
                case s29 =>
                  refine ⟨?_, ?_, ?_, ?_, ?_, ?_, ?_, ?_, ?_, ?_, ?_, ?_, ?_, ?_, ?_, trivial⟩
                  · intro vs W1 m1 hE hM hV hD; clear hD; replace hL := hL.call hE hM hV
                    exact sLd
                  · intro vs W1 m1 hE hM hV hD; clear hD; replace hL := hL.call hE hM hV
                    exact sFd
                  · intro vs W1 m1 hE hM hV hD; obtain ⟨⟨_, _, -, -, f89⟩, -⟩ := hD; have f89 : vs 89 = _ := f89; generalize vs 89 = x89 at f89 ⊢; subst x89; replace hL := hL.call hE hM hV
                    exact sLd
                  · intro vs W1 m1 hE hM hV hD; clear hD; replace hL := hL.call hE hM hV
                    exact sPu
                  · intro vs W1 m1 hE hM hV hD; obtain ⟨⟨_, _, -, -, f90⟩, ⟨_, _, -, -, f91⟩, -⟩ := hD; have f90 : vs 90 = _ := f90; generalize vs 90 = x90 at f90 ⊢; subst x90; have f91 : vs 91 = _ := f91; generalize vs 91 = x91 at f91 ⊢; subst x91; replace hL := hL.call hE hM hV
                    exact sIx
                  · intro vs W1 m1 hE hM hV hD; obtain ⟨⟨_, _, -, -, f92⟩, -⟩ := hD; have f92 : vs 92 = _ := f92; generalize vs 92 = x92 at f92 ⊢; subst x92; replace hL := hL.call hE hM hV
                    exact sLd
                  · intro vs W1 m1 hE hM hV hD; clear hD; replace hL := hL.call hE hM hV
                    exact sFd
                  · intro vs W1 m1 hE hM hV hD; obtain ⟨⟨_, _, -, -, f94⟩, -⟩ := hD; have f94 : vs 94 = _ := f94; generalize vs 94 = x94 at f94 ⊢; subst x94; replace hL := hL.call hE hM hV
                    exact sLd
                  · intro vs W1 m1 hE hM hV hD; obtain ⟨⟨_, _, -, -, f95⟩, -⟩ := hD; have f95 : vs 95 = _ := f95; generalize vs 95 = x95 at f95 ⊢; subst x95; replace hL := hL.call hE hM hV
                    go_wp2_with (first | ((with_reducible refine kAny ?_); go_skip) | (with_reducible refine stA ?_) | ((first | refine tIx ?_ | refine tFd ?_ | refine tLd ?_ | ((first | refine tSr ?_ | refine tSt ?_); clear hL; intro _ hL; simp only [splice, zq1, zq2, zq3] at hL) | ((first | refine tBx ?_ | refine tAl ?_); clear hL; intro _ _ hL _)); simp only [Act.put, zq1, zq2, zq3]))
                    refine One2.still hV ?_; exact rfl
                  · intro vs W1 m1 hE hM hV hD; clear hD; replace hL := hL.call hE hM hV
                    exact sFd
                  · intro vs W1 m1 hE hM hV hD; obtain ⟨⟨_, _, -, -, f97⟩, -⟩ := hD; have f97 : vs 97 = _ := f97; generalize vs 97 = x97 at f97 ⊢; subst x97; replace hL := hL.call hE hM hV
                    exact sLd
                  · intro vs W1 m1 hE hM hV hD; obtain ⟨⟨_, _, -, -, f96⟩, ⟨_, _, -, -, f98⟩, -⟩ := hD; have f96 : vs 96 = _ := f96; generalize vs 96 = x96 at f96 ⊢; subst x96; have f98 : vs 98 = _ := f98; generalize vs 98 = x98 at f98 ⊢; subst x98; replace hL := hL.call hE hM hV
                    exact sPu
                  · intro vs W1 m1 hE hM hV hD; obtain ⟨⟨_, _, -, -, f99⟩, -⟩ := hD; have f99 : vs 99 = _ := f99; generalize vs 99 = x99 at f99 ⊢; subst x99
                    go_wp2_with fail
                    refine (KQ.out _ _ _ hV (by first | exact .inl rfl | exact .inr (.inl rfl) | exact .inr (.inr (.inl rfl)) | exact .inr (.inr (.inr rfl)))).mono ?_
                    rintro e W2 ⟨v, m2, rfl, hE2, hM2, hV2, h⟩
                    go_wp2_with fail
                    refine One2.call hE2 hM2 hV2 ?_; first | exact h | exact rfl
                  · intro vs W1 m1 hE hM hV hD; obtain ⟨⟨_, _, -, -, f93⟩, ⟨_, _, -, i100, f100⟩, -, -⟩ := hD; have f93 : vs 93 = _ := f93; generalize vs 93 = x93 at f93 ⊢; subst x93; have f100 : FracC _ (vs 100) zz := f100; replace f100 := f100.le i100.le; clear i100
                    go_wp2_with fail
                    refine (q_MulC _ _ q zz _ _ hV (hp2.le leX) f100 S5.out S6.out).mono ?_
                    rintro e W2 ⟨v, m2, rfl, hE2, hM2, hV2, h⟩
                    go_wp2_with fail
                    refine One2.call hE2 hM2 hV2 ?_; first | exact h | exact rfl
                  · intro vs W1 m1 hE hM hV hD; obtain ⟨⟨_, _, -, -, f88⟩, ⟨_, _, -, i101, f101⟩, -, -⟩ := hD; have f88 : vs 88 = _ := f88; generalize vs 88 = x88 at f88 ⊢; subst x88; have f101 : FracC _ (vs 101) (q * zz) := f101; replace f101 := f101.le i101.le; clear i101
                    go_wp2_with fail
                    refine (q_AddC _ _ (psum ((0 : Int) : Rat) ts (k + j)) (q * zz) _ _ hV (hs1.le leX) f101 S4.out S7.out).mono ?_
                    rintro e W2 ⟨v, m2, rfl, hE2, hM2, hV2, h⟩
                    go_wp2_with fail
                    refine One2.call hE2 hM2 hV2 ?_; first | exact h | exact rfl
                case l29 =>
                  refine ⟨fun h => (by cases h), fun h => (by cases h), fun h => (by cases h), fun h => (by cases h), fun h => (by cases h), fun h => (by cases h), fun h => (by cases h), fun h => (by cases h), fun h => (by cases h), fun h => (by cases h), fun h => (by cases h), fun h => (by cases h), fun h => (by cases h), fun h => (by cases h), fun h => (by cases h), trivial⟩
                intro vs W1 m1 hE hM hV hF hD
                clear hD
                obtain ⟨-, -, -, -, -, -, -, -, -, -, -, -, ⟨_, _, -, i100, f100⟩, ⟨_, _, -, i101, f101⟩, ⟨_, _, -, i102, f102⟩, -⟩ := hF
                replace hL := hL.call hE hM hV
                replace f100 : FracC _ (vs 100) zz := f100
                replace f100 := f100.le i100.le
                clear i100
                replace f101 : FracC _ (vs 101) (q * zz) := f101
                replace f101 := f101.le i101.le
                clear i101
                replace f102 : FracC _ (vs 102) (psum ((0 : Int) : Rat) ts (k + j) + q * zz) := f102
                replace f102 := f102.le i102.le
                clear i102
                obtain ⟨g102, A102, n102, c102, h102, B102, k102, d102, e102, f102⟩ := f102.lit
                generalize vs 102 = x102 at e102 ⊢
                subst x102
                clear hE hV
                simp only [List.drop_succ_cons, List.drop_zero]
                go_wp2_with (first | ((with_reducible refine kAny ?_); go_skip) | (with_reducible refine stA ?_) | ((first | refine tIx ?_ | refine tFd ?_ | refine tLd ?_ | ((first | refine tSr ?_ | refine tSt ?_); clear hL; intro _ hL; simp only [splice, zq1, zq2, zq3] at hL) | ((first | refine tBx ?_ | refine tAl ?_); clear hL; intro _ _ hL _)); simp only [Act.put, zq1, zq2, zq3]))
                refine QN.mk ?_
                go_wp2_with (first | ((with_reducible refine kAny ?_); go_skip) | (with_reducible refine stA ?_) | ((first | refine tIx ?_ | refine tFd ?_ | refine tLd ?_ | ((first | refine tSr ?_ | refine tSt ?_); clear hL; intro _ hL; simp only [splice, zq1, zq2, zq3] at hL) | ((first | refine tBx ?_ | refine tAl ?_); clear hL; intro _ _ hL _)); simp only [Act.put, zq1, zq2, zq3]))
                go_roundw
                case rel =>
                  refine ⟨j + 1, _, _, _, _, _, _, _, _, _, by omega, by go_num, hL.tail, ?_⟩
                  rw [← HB.out] at f102
                  exact f102
                case measure => simp [intOf] <;> omega
              · have hjn : Hid (j = nc) := by show _ = _; omega
                have hlv2 := hlv.le hM.le
                have S5 : Hid (Sm ((k : Int) : Rat).num ((k : Int) : Rat).den) := ⟨by simp; omega, by simp⟩
                clear KV KP KW
                go_upto_region 31 with ((first | ((with_reducible refine kAny ?_); go_skip) | (with_reducible refine stA ?_) | ((first | refine tIx ?_ | refine tFd ?_ | refine tLd ?_ | ((first | refine tSr ?_ | refine tSt ?_); clear hL; intro _ hL; simp only [splice, zq1, zq2, zq3] at hL) | ((first | refine tBx ?_ | refine tAl ?_); clear hL; intro _ _ hL _)); simp only [Act.put, zq1, zq2, zq3])))
                (try simp only [eq_self] at *)
                refine wp_region_by2 10 [false, false, false, false, false, false, false, false, false, false] [false, false, false, false, false, false, false, false, false, false] [(fun v _ _ => v = ?c31_0), (fun v _ _ => v = ?c31_1), (fun v _ _ => v = ?c31_2), (fun v _ _ => v = ?c31_3), Of (fun um v => FracC um v ((k : Int) : Rat)), (fun v _ _ => v = ?c31_5), Of (fun um v => FracC um v ((0 : Int) : Rat)), Of (fun um v => FrG um v (minS lp (0, 1)).1 (minS lp (0, 1)).2), Of (fun um v => FracC um v (((k : Int) : Rat) * vS (minS lp (0, 1)))), Of (fun um v => FracC um v (psum ((0 : Int) : Rat) ts (k + j) + ((k : Int) : Rat) * vS (minS lp (0, 1))))] hL.vw mixed [104, 105, 106, 107, 108, 109, 110, 111, 112, 113] _ (by kernel_rfl) (fun vs => by simp only [lay, Act.put, zq1, zq2, zq3]; rfl) (by kernel_rfl) (by decide) (by decide) ?s31 ?l31 ?r31
                case s31 =>
                  refine ⟨?_, ?_, ?_, ?_, ?_, ?_, ?_, ?_, ?_, ?_, trivial⟩
                  · intro vs W1 m1 hE hM hV hD; clear hD; replace hL := hL.call hE hM hV
                    exact sLd
                  · intro vs W1 m1 hE hM hV hD; clear hD; replace hL := hL.call hE hM hV
                    exact sFd
                  · intro vs W1 m1 hE hM hV hD; obtain ⟨⟨_, _, -, -, f105⟩, -⟩ := hD; have f105 : vs 105 = _ := f105; generalize vs 105 = x105 at f105 ⊢; subst x105; replace hL := hL.call hE hM hV
                    exact sLd
                  · intro vs W1 m1 hE hM hV hD; obtain ⟨⟨_, _, -, -, f106⟩, -⟩ := hD; have f106 : vs 106 = _ := f106; generalize vs 106 = x106 at f106 ⊢; subst x106; replace hL := hL.call hE hM hV
                    go_wp2_with (first | ((with_reducible refine kAny ?_); go_skip) | (with_reducible refine stA ?_) | ((first | refine tIx ?_ | refine tFd ?_ | refine tLd ?_ | ((first | refine tSr ?_ | refine tSt ?_); clear hL; intro _ hL; simp only [splice, zq1, zq2, zq3] at hL) | ((first | refine tBx ?_ | refine tAl ?_); clear hL; intro _ _ hL _)); simp only [Act.put, zq1, zq2, zq3]))
                    refine One2.still hV ?_; exact rfl
                  · intro vs W1 m1 hE hM hV hD; obtain ⟨⟨_, _, -, -, f107⟩, -⟩ := hD; have f107 : vs 107 = _ := f107; generalize vs 107 = x107 at f107 ⊢; subst x107
                    go_wp2_with fail
                    refine (KN.out _ _ hV).mono ?_
                    rintro e W2 ⟨v, m2, rfl, hE2, hM2, hV2, h⟩
                    go_wp2_with fail
                    refine One2.call hE2 hM2 hV2 ?_; first | exact h | exact rfl
                  · intro vs W1 m1 hE hM hV hD; clear hD; replace hL := hL.call hE hM hV
                    exact sLd
                  · intro vs W1 m1 hE hM hV hD; clear hD
                    go_wp2_with fail
                    refine (l_whole 0 _ _ hV (by decide)).mono ?_
                    rintro e W2 ⟨v, m2, rfl, hE2, hM2, hV2, h⟩
                    go_wp2_with fail
                    refine One2.call hE2 hM2 hV2 ?_; first | exact h | exact rfl
                  · intro vs W1 m1 hE hM hV hD; obtain ⟨⟨_, _, -, -, f109⟩, ⟨_, _, -, i110, f110⟩, -, -⟩ := hD; have f109 : vs 109 = _ := f109; generalize vs 109 = x109 at f109 ⊢; subst x109; have f110 : FracC _ (vs 110) ((0 : Int) : Rat) := f110; replace f110 := f110.le i110.le; clear i110
                    go_wp2_with fail
                    refine (l_smallerG _ _ lp (0, 1) _ _ hV (hlv2.le leX) (toGI f110 (by decide)) H1.out ⟨by decide, by decide⟩).mono ?_
                    rintro e W2 ⟨v, m2, rfl, hE2, hM2, hV2, h⟩
                    go_wp2_with fail
                    refine One2.call hE2 hM2 hV2 ?_; first | exact h | exact rfl
                  · intro vs W1 m1 hE hM hV hD; obtain ⟨⟨_, _, -, i108, f108⟩, ⟨_, _, -, i111, f111⟩, -, -⟩ := hD; have f108 : FracC _ (vs 108) ((k : Int) : Rat) := f108; replace f108 := f108.le i108.le; clear i108; have f111 : FrG _ (vs 111) (minS lp (0, 1)).1 (minS lp (0, 1)).2 := f111; replace f111 := f111.le i111.le; clear i111
                    go_wp2_with fail
                    refine (q_MulI _ _ k (minS lp (0, 1)) _ _ hV f108 f111 S5.out H2.out).mono ?_
                    rintro e W2 ⟨v, m2, rfl, hE2, hM2, hV2, h⟩
                    go_wp2_with fail
                    refine One2.call hE2 hM2 hV2 ?_; first | exact h | exact rfl
                  · intro vs W1 m1 hE hM hV hD; obtain ⟨⟨_, _, -, -, f104⟩, ⟨_, _, -, i112, f112⟩, -, -⟩ := hD; have f104 : vs 104 = _ := f104; generalize vs 104 = x104 at f104 ⊢; subst x104; have f112 : FracC _ (vs 112) (((k : Int) : Rat) * vS (minS lp (0, 1))) := f112; replace f112 := f112.le i112.le; clear i112
                    go_wp2_with fail
                    refine (q_AddC _ _ (psum ((0 : Int) : Rat) ts (k + j)) (((k : Int) : Rat) * vS (minS lp (0, 1))) _ _ hV (hs1.le leX) f112 S4.out H3.out).mono ?_
                    rintro e W2 ⟨v, m2, rfl, hE2, hM2, hV2, h⟩
                    go_wp2_with fail
                    refine One2.call hE2 hM2 hV2 ?_; first | exact h | exact rfl
                case l31 =>
                  refine ⟨fun h => (by cases h), fun h => (by cases h), fun h => (by cases h), fun h => (by cases h), fun h => (by cases h), fun h => (by cases h), fun h => (by cases h), fun h => (by cases h), fun h => (by cases h), fun h => (by cases h), trivial⟩
                intro vs W1 m1 hE hM hV hF hD
                clear hD
                obtain ⟨-, -, -, -, ⟨_, _, -, i108, f108⟩, -, ⟨_, _, -, i110, f110⟩, ⟨_, _, -, i111, f111⟩, ⟨_, _, -, i112, f112⟩, ⟨_, _, -, i113, f113⟩, -⟩ := hF
                replace hL := hL.call hE hM hV
                replace f108 : FracC _ (vs 108) ((k : Int) : Rat) := f108
                replace f108 := f108.le i108.le
                clear i108
                replace f110 : FracC _ (vs 110) ((0 : Int) : Rat) := f110
                replace f110 := f110.le i110.le
                clear i110
                replace f111 : FrG _ (vs 111) (minS lp (0, 1)).1 (minS lp (0, 1)).2 := f111
                replace f111 := f111.le i111.le
                clear i111
                replace f112 : FracC _ (vs 112) (((k : Int) : Rat) * vS (minS lp (0, 1))) := f112
                replace f112 := f112.le i112.le
                clear i112
                replace f113 : FracC _ (vs 113) (psum ((0 : Int) : Rat) ts (k + j) + ((k : Int) : Rat) * vS (minS lp (0, 1))) := f113
                replace f113 := f113.le i113.le
                clear i113
                obtain ⟨g113, A113, n113, c113, h113, B113, k113, d113, e113, f113⟩ := f113.lit
                generalize vs 113 = x113 at e113 ⊢
                subst x113
                clear hE hV
                simp only [List.drop_succ_cons, List.drop_zero]
                go_wp2_with (first | ((with_reducible refine kAny ?_); go_skip) | (with_reducible refine stA ?_) | ((first | refine tIx ?_ | refine tFd ?_ | refine tLd ?_ | ((first | refine tSr ?_ | refine tSt ?_); clear hL; intro _ hL; simp only [splice, zq1, zq2, zq3] at hL) | ((first | refine tBx ?_ | refine tAl ?_); clear hL; intro _ _ hL _)); simp only [Act.put, zq1, zq2, zq3]))
                refine QN.mk ?_
                go_wp2_with (first | ((with_reducible refine kAny ?_); go_skip) | (with_reducible refine stA ?_) | ((first | refine tIx ?_ | refine tFd ?_ | refine tLd ?_ | ((first | refine tSr ?_ | refine tSt ?_); clear hL; intro _ hL; simp only [splice, zq1, zq2, zq3] at hL) | ((first | refine tBx ?_ | refine tAl ?_); clear hL; intro _ _ hL _)); simp only [Act.put, zq1, zq2, zq3]))
                refine fin_aggT hL Tryz.results18 rfl rfl loX ag_Frac (by exact rfl) rfl (hL.sub (List.nil_sublist _)) ?_
                refine .inr (.inr ⟨HALL.out, rfl, _, rfl, ?_⟩)
                rw [HBND.out, ← hjn.out]
                exact f113.le leX
end Go.Proofs.YtmhkmmmompediaaGreat

/- Contract of pairingref27.Bound for valid master problems and prices. -/
namespace Go.Proofs.YtmhkmmmompediaaGreat
open Go.RowKit

theorem int_quo {n : Nat} {d : Int} (hd : 2 ≤ d) (hn : n ≤ 1000) : ∀ (z : Int) (w m : World), Vw m w → (z = wrap64 ((n : Int).tdiv d) ∨ z = wrap64 ((n : Int) / d) ∨ z = (n : Int) / d ∨ z = (n : Int).tdiv d) →
    Calls Tryz.prog 17 #[.int .i64 z] w (RetV w m fun m' r => FracC m' r (((n : Int) / d : Int) : Rat)) := by
  intro z w m hV hz
  have e : (n : Int).tdiv d = (n : Int) / d := Int.tdiv_eq_ediv_of_nonneg (by omega)
  have h1 : ((n : Int) / d).natAbs ≤ n := by have := Int.natAbs_ediv_le_natAbs (n : Int) d; simpa using this
  have hz' : z = (n : Int) / d := by
    rw [e] at hz
    generalize (n : Int) / d = y at *
    have : wrap64 y = y := by unfold wrap64; omega
    rcases hz with h | h | h | h <;> omega
  subst hz'
  exact r_Int _ w m hV (by omega) (by omega)
theorem Tw.sub {B C : Nat} {p q : Rat} (h : Tw B p) (h' : Tw C q) : Tw (B + C) (p - q) := by
  rw [Rat.sub_eq_add_neg]; exact h.add h'.neg

set_option maxRecDepth 100000 in
set_option maxHeartbeats 32000000 in
theorem r_Bound (xv pv lv : Value) (nf : Nat) (x : Ms) (p : Pr) (lp : SF) (w m : World) (hV : Vw m w) (hx : MasterR m xv x) (hp : PricesR m pv p) (hlv : FrG m lv lp.1 lp.2) (ok : BQ nf x p lp) :
    Calls Tryz.prog 20 #[xv, pv, lv] w (RetV w m fun m' r => BoR m' r x p lp) := by
  obtain ⟨xnf, rws, pen, cols, cuts⟩ := x
  obtain ⟨fl, cu, cd, de, fr⟩ := p
  obtain ⟨g9, A9, n9, c9, h9, B9, k9, d9, rfl, hlv⟩ := hlv.lit
  have e0 := ok.nfe
  simp only at e0
  subst e0
  have HX := Lib.hid hx
  have HPV := Lib.hid hp
  obtain ⟨va, vb, vc, rfl, ha, hb, hc⟩ := hx
  simp only at ha hb hc
  obtain ⟨A, ca, rfl, hca, ha⟩ := ha.lit
  obtain ⟨Bc, cb, rfl, hcb, hb⟩ := hb.lit
  obtain ⟨C, cc, rfl, hcc, hc⟩ := hc.lit
  obtain ⟨vf, vu, vd, ve, rfl, pf, pu, pd, pe⟩ := hp
  simp only at pf pu pd pe
  obtain ⟨F, cf, rfl, hcf, pf⟩ := pf.lit
  obtain ⟨D, du, rfl, hdu, pu⟩ := pu.lit
  obtain ⟨E, ed, rfl, hed, pd⟩ := pd.lit
  obtain ⟨G, ge, rfl, hge, pe⟩ := pe.lit
  have KV : Hid (∀ w m', Vw m' w → Le m m' → Calls Tryz.prog 76 #[.agg #[.int .i64 nf, .slice A rws.length ca, .int .i64 pen, .slice Bc cols.length cb, .slice C cuts.length cc]] w (RetV w m' fun _ r => r = .int .i64 0)) := by
    show ∀ w m', _
    exact fun w m' hV hle => r_ValidateMaster _ _ w m' hV (HX.out.le hle) ok.ms
  have KP : Hid (∀ w m', Vw m' w → Le m m' → Calls Tryz.prog 77 #[.int .i64 nf, .agg #[.slice F fl.length cf, .slice D cu.length du, .slice E cd.length ed, .slice G de.length ge, .bool fr]] w (RetV w m' fun _ r => r = .int .i64 0)) := by
    show ∀ w m', _
    exact fun w m' hV hle => r_ValidatePrices nf _ _ w m' hV (HPV.out.le hle) ok.pr
  clear HX HPV hb hc pe hcb hcc hge hcf hed hdu hca
  have o1 : fl.length = nf := ok.pr.fl
  have o2 : cd.length = cu.length := ok.pr.cd
  have r1 : rws.length ≤ 32 := ok.ms.r1
  have p0 : 0 ≤ pen := ok.ms.p0
  have p1 : pen ≤ 1000 := ok.pen
  have k1 : cu.length ≤ 32 := ok.pr.k1
  have f1 : nf ≤ 1000 := ok.pr.f1
  have HN0 : Hid (∃ ts, bTerms ⟨nf, rws, pen, cols, cuts⟩ ⟨fl, cu, cd, de, fr⟩ = ts) := ⟨_, rfl⟩
  obtain ⟨ts, hts⟩ := HN0.out
  have HS0 : Hid (∃ s0, ((rws.length : Int) : Rat) * rmin (vS lp) ((0 : Int) : Rat) = s0) := ⟨_, rfl⟩
  obtain ⟨s0, hs0⟩ := HS0.out
  have HTR : Hid (∀ (k j : Nat) (q : Rat), rws[k]? = some (j : Int) → fl[j]? = some q → ts[k]? = some (rmin q (pen : Rat))) := by
    show ∀ _, _
    intro k j q h1 h2
    rw [← hts]; exact term_row (x := ⟨nf, rws, pen, cols, cuts⟩) (p := ⟨fl, cu, cd, de, fr⟩) h1 h2
  have HTC : Hid (∀ (k : Nat) (c : Cut) (d : Rat), cu[k]? = some c → cd[k]? = some d → ts[rws.length + k]? = some (d * (((c.1.length : Int) / c.2 : Int) : Rat))) := by
    show ∀ _, _
    intro k c d h1 h2
    rw [← hts]; exact term_cut (x := ⟨nf, rws, pen, cols, cuts⟩) (p := ⟨fl, cu, cd, de, fr⟩) h1 h2
  have HTS : Hid (∀ k, k ≤ rws.length + cu.length → Fit 200 (psum s0 ts k)) := by
    show ∀ _, _
    intro k hk
    rw [← hts, ← hs0]; exact (ok.psum_tw ok.tail_tw k hk).fit (by decide)
  have HCS : Hid (∀ t ∈ ts, Fit 200 t) := by show ∀ _, _; rw [← hts]; exact fun t ht => (ok.terms_tw t ht).fit (by decide)
  have HLOW : Hid (∀ r ∈ rws, 0 ≤ r ∧ r < (nf : Int)) := ok.ms.low
  have tpen : Tw 12000 (pen : Rat) := Tw.int (K := 1000) (by omega)
  have HPF1 : Hid (Fit 200 (pen : Rat)) := tpen.fit (by decide)
  have HFL : Hid (∀ q ∈ fl, Fit 200 q ∧ Fit 1000 (q - (pen : Rat)) ∧ Fit 200 (rmin q (pen : Rat))) := by
    show ∀ _, _
    exact fun q hq => ⟨(ok.fl q hq).fit (by decide), (((ok.fl q hq).sub tpen).fit (by decide)).mono (by decide), ((((ok.fl q hq).mono (by decide)).min tpen).fit (by decide))⟩
  have HCD : Hid (∀ q ∈ cd, Fit 200 q) := by show ∀ _, _; exact fun q hq => (ok.cd q hq).fit (by decide)
  have HCU : Hid (∀ c ∈ cu, 2 ≤ c.2 ∧ c.1.length ≤ 1000) := by show ∀ _, _; exact fun c hc => ⟨(ok.pr.cuts c hc).two, ok.cu c hc⟩
  have HBND : Hid (bnd ⟨nf, rws, pen, cols, cuts⟩ ⟨fl, cu, cd, de, fr⟩ lp = psum s0 ts (rws.length + cu.length)) := by
    show _ = _
    unfold bnd bTail
    rw [hts, psum_shift s0, ← hs0]
    rfl
  have H1 : Hid (Fit 200 (vS lp)) := ok.lo.fit (by decide)
  have H2 : Hid (Fit 200 ((0 : Int) : Rat)) := tw0.fit (by decide)
  have H3 : Hid (Fit 1000 (vS lp - ((0 : Int) : Rat))) := ((ok.lo.sub tw0).fit (by decide)).mono (by decide)
  have H4 : Hid (Fit 200 (rmin (vS lp) ((0 : Int) : Rat))) := (ok.lo.min (tw0.mono (by decide))).fit (by decide)
  have H5 : Hid (Fit 200 ((rws.length : Int) : Rat)) := (Tw.int (K := 1000) (by omega)).fit (by decide)
  have KW : Hid (∀ w m', Vw m' w → Calls Tryz.prog 17 #[.int .i64 pen] w (RetV w m' fun m' r => FracC m' r (pen : Rat))) := by
    show ∀ w m', _
    exact fun w m' hV => r_Int pen w m' hV (by omega) (by omega)
  have KN : Hid (∀ w m', Vw m' w → Calls Tryz.prog 17 #[.int .i64 rws.length] w (RetV w m' fun m' r => FracC m' r ((rws.length : Int) : Rat))) := by
    show ∀ w m', _
    exact fun w m' hV => r_Int _ w m' hV (by omega) (by omega)
  have HLV : Hid (FracV m (.agg #[.bool g9, .slice A9 n9 c9, .bool h9, .slice B9 k9 d9]) (vS lp)) := hlv.toV
  have hL := Loc.start hV
  have HR := Lib.hid ha
  have HPU := Lib.hid pu
  have HPD := Lib.hid pd
  have HPF := Lib.hid pf
  have HRL : Hid (rws.length ≤ 1000000) := by show _ ≤ _; omega
  rw [o1] at KP HPF
  rw [o2] at KP HPD
  have HNF := Lib.hid o1
  have HND := Lib.hid o2
  have HSZ := Lib.hid hs0
  clear hV ok HN0 hts pu pd pf p0 p1 o1 o2 HS0 hs0 tpen hlv ha
  rw [HNF.out, HND.out]
  have hn6 : rws.length ≤ 1000 := by omega
  have hc6 : cu.length ≤ 1000 := by omega
  clear r1 k1
  generalize hn : rws.length = n at *
  have HN := Lib.hid hn
  clear hn
  generalize hn1 : cu.length = nc at *
  have HNU := Lib.hid hn1
  clear hn1
  generalize cols.length = ncol at *
  generalize cuts.length = ncut at *
  generalize de.length = nd at *
  go_enter Tryz.func20, Tryz.ntmps20
  go_upto_region 0 with (fail)
  refine wp_region_lit ?_
  refine t_box hL rfl rfl ?_; clear hL; intro Wh3 mh3 hL eh3; simp only [Act.put, zq1, zq2, zq3]
  refine t_box hL rfl rfl ?_; clear hL; intro Wh4 mh4 hL eh4; simp only [Act.put, zq1, zq2, zq3]
  refine t_box hL rfl rfl ?_; clear hL; intro Wh5 mh5 hL eh5; simp only [Act.put, zq1, zq2, zq3]
  refine t_alloc hL rfl ?_; clear hL; intro Wh6 mh6 hL eh6; simp only [Act.put, zq1, zq2, zq3]
  go_wp2_with (first | ((with_reducible refine kAny ?_); go_skip) | (with_reducible refine stA ?_) | ((first | refine tIx ?_ | refine tFd ?_ | refine tLd ?_ | ((first | refine tSr ?_ | refine tSt ?_); clear hL; intro _ hL; simp only [splice, zq1, zq2, zq3] at hL) | ((first | refine tBx ?_ | refine tAl ?_); clear hL; intro _ _ hL _)); simp only [Act.put, zq1, zq2, zq3]))
  refine (KV.out _ _ hL.vw leX).mono ?_
  rintro e Wc1 ⟨_, mc1, rfl, hE, hMc1, hV, rfl⟩
  replace hL := hL.call hE (by assumption) hV; clear hE hV
  go_wp2_with (first | ((with_reducible refine kAny ?_); go_skip) | (with_reducible refine stA ?_) | ((first | refine tIx ?_ | refine tFd ?_ | refine tLd ?_ | ((first | refine tSr ?_ | refine tSt ?_); clear hL; intro _ hL; simp only [splice, zq1, zq2, zq3] at hL) | ((first | refine tBx ?_ | refine tAl ?_); clear hL; intro _ _ hL _)); simp only [Act.put, zq1, zq2, zq3]))
  refine (KP.out _ _ hL.vw leX).mono ?_
  rintro e Wc2 ⟨_, mc2, rfl, hE, hMc2, hV, rfl⟩
  replace hL := hL.call hE (by assumption) hV; clear hE hV
  go_wp2_with (first | ((with_reducible refine kAny ?_); go_skip) | (with_reducible refine stA ?_) | ((first | refine tIx ?_ | refine tFd ?_ | refine tLd ?_ | ((first | refine tSr ?_ | refine tSt ?_); clear hL; intro _ hL; simp only [splice, zq1, zq2, zq3] at hL) | ((first | refine tBx ?_ | refine tAl ?_); clear hL; intro _ _ hL _)); simp only [Act.put, zq1, zq2, zq3]))
  go_loopw [10] (fun i wr => ∃ (k : Nat) (mm : World), k ≤ nc ∧ i = .int .i64 k ∧ Loc w m wr mm [(Wh5.heap.size, 39, #[.bool false, .slice none 0 0, .bool false, .slice none 0 0]), (Wh4.heap.size, 39, #[.bool g9, .slice A9 n9 c9, .bool h9, .slice B9 k9 d9]), (Wh3.heap.size, 31, #[.slice F nf cf, .slice D nc du, .slice E nc ed, .slice G nd ge, .bool fr]), (w.heap.size, 26, #[.int .i64 nf, .slice A n ca, .int .i64 pen, .slice Bc ncol cb, .slice C ncut cc])] ∧ Hid (∀ (j : Nat) (y : Cut), j < k → cu[j]? = some y → ∀ r ∈ y.1, r ∈ rws)) (fun i _ => nc - (intOf i).toNat)
  case atStart => exact ⟨0, _, Nat.zero_le _, rfl, hL, fun _ _ h => absurd h (Nat.not_lt_zero _)⟩
  case round =>
    clear hL
    obtain ⟨k, mm, hk, rfl, hL, HIN⟩ := hrel
    have hM := hL.mext
    by_cases hlt : k < nc
    · obtain ⟨⟨xs, dv⟩, hx⟩ := at_some HNU hlt
      have hu := HPU.out
      obtain ⟨b1, o1, A1, c1, rfl, hi1, hl1, hlc1, hcx1, hcx2, hr1⟩ := CutL.at_ hu hx
      have HXC := Lib.hid hx
      simp only at hi1 hl1 hlc1 hr1 hcx1 hcx2
      have HI := Lib.hid hi1
      have HXL := Lib.hid hl1
      clear hx hu hi1 KV KP KW KN hr1 hcx2 hl1
      generalize hnx : xs.length = nx at *
      have HNX := Lib.hid hnx
      clear hnx
      by_cases hin : ∀ r ∈ xs, r ∈ rws
      · have HD : Hid (decide (∀ r ∈ xs, r ∈ rws) = true) := decide_eq_true hin
        have HIN2 := Lib.hid (firsts HIN.out HXC.out hin)
        clear hin HIN
        go_upto_region 10 with ((first | ((with_reducible refine kAny ?_); go_skip) | (with_reducible refine stA ?_) | ((first | refine tIx ?_ | refine tFd ?_ | refine tLd ?_ | ((first | refine tSr ?_ | refine tSt ?_); clear hL; intro _ hL; simp only [splice, zq1, zq2, zq3] at hL) | ((first | refine tBx ?_ | refine tAl ?_); clear hL; intro _ _ hL _)); simp only [Act.put, zq1, zq2, zq3])))
        (try simp only [eq_self] at *)
        refine wp_region_by2 10 [false, false, false, false, false, false, false, false, false, false] [false, false, false, false, false, false, false, false, false, false] [(fun v _ _ => v = ?c10_0a), (fun v _ _ => v = ?c10_1a), (fun v _ _ => v = ?c10_2a), (fun v _ _ => v = ?c10_3a), (fun v _ _ => v = ?c10_4a), (fun v _ _ => v = ?c10_5a), (fun v _ _ => v = ?c10_6a), (fun v _ _ => v = ?c10_7a), Is (.bool (decide (∀ r ∈ xs, r ∈ rws))), (fun v _ _ => v = ?c10_9a)] hL.vw mixed [35, 36, 37, 38, 39, 40, 41, 42, 43, 44] _ (by kernel_rfl) (fun vs => by simp only [lay, Act.put, zq1, zq2, zq3]; rfl) (by kernel_rfl) (by decide) (by decide) ?s10a ?l10a ?r10a
        case s10a =>
          refine ⟨?_, ?_, ?_, ?_, ?_, ?_, ?_, ?_, ?_, ?_, trivial⟩
          · intro vs W1 m1 hE hM hV hD; clear hD; replace hL := hL.call hE hM hV
            exact sFd
          · intro vs W1 m1 hE hM hV hD; obtain ⟨⟨_, _, -, -, f35⟩, -⟩ := hD; have f35 : vs 35 = _ := f35; generalize vs 35 = x35 at f35 ⊢; subst x35; replace hL := hL.call hE hM hV
            exact sLd
          · intro vs W1 m1 hE hM hV hD; clear hD; replace hL := hL.call hE hM hV
            exact sPu
          · intro vs W1 m1 hE hM hV hD; obtain ⟨⟨_, _, -, -, f36⟩, ⟨_, _, -, -, f37⟩, -⟩ := hD; have f36 : vs 36 = _ := f36; generalize vs 36 = x36 at f36 ⊢; subst x36; have f37 : vs 37 = _ := f37; generalize vs 37 = x37 at f37 ⊢; subst x37; replace hL := hL.call hE hM hV
            exact sIx
          · intro vs W1 m1 hE hM hV hD; obtain ⟨⟨_, _, -, -, f38⟩, -⟩ := hD; have f38 : vs 38 = _ := f38; generalize vs 38 = x38 at f38 ⊢; subst x38; replace hL := hL.call hE hM hV
            exact sFd
          · intro vs W1 m1 hE hM hV hD; obtain ⟨⟨_, _, -, -, f39⟩, -⟩ := hD; have f39 : vs 39 = _ := f39; generalize vs 39 = x39 at f39 ⊢; subst x39; replace hL := hL.call hE hM hV
            exact sLd
          · intro vs W1 m1 hE hM hV hD; clear hD; replace hL := hL.call hE hM hV
            exact sFd
          · intro vs W1 m1 hE hM hV hD; obtain ⟨⟨_, _, -, -, f41⟩, -⟩ := hD; have f41 : vs 41 = _ := f41; generalize vs 41 = x41 at f41 ⊢; subst x41; replace hL := hL.call hE hM hV
            exact sLd
          · intro vs W1 m1 hE hM hV hD; obtain ⟨⟨_, _, -, -, f40⟩, ⟨_, _, -, -, f42⟩, -⟩ := hD; have f40 : vs 40 = _ := f40; generalize vs 40 = x40 at f40 ⊢; subst x40; have f42 : vs 42 = _ := f42; generalize vs 42 = x42 at f42 ⊢; subst x42
            go_wp2_with fail
            refine (r_within _ _ xs rws _ _ hV (IntL.le HI.out leX) (IntL.le HR.out leX) (by rw [HNX.out]; exact HXL.out) (by rw [HN.out]; exact HRL.out)).mono ?_
            rintro e W2 ⟨v, m2, rfl, hE2, hM2, hV2, h⟩
            go_wp2_with fail
            refine One2.call hE2 hM2 hV2 ?_; first | exact h | exact rfl
          · intro vs W1 m1 hE hM hV hD; obtain ⟨⟨_, _, -, -, f43⟩, -⟩ := hD; have f43 : vs 43 = _ := f43; generalize vs 43 = x43 at f43 ⊢; subst x43; replace hL := hL.call hE hM hV
            exact sPu
        case l10a =>
          refine ⟨fun h => (by cases h), fun h => (by cases h), fun h => (by cases h), fun h => (by cases h), fun h => (by cases h), fun h => (by cases h), fun h => (by cases h), fun h => (by cases h), fun h => (by cases h), fun h => (by cases h), trivial⟩
        intro vs W1 m1 hE hM hV hF hD
        clear hD
        obtain ⟨⟨_, _, -, -, f35⟩, ⟨_, _, -, -, f36⟩, ⟨_, _, -, -, f37⟩, ⟨_, _, -, -, f38⟩, ⟨_, _, -, -, f39⟩, ⟨_, _, -, -, f40⟩, ⟨_, _, -, -, f41⟩, ⟨_, _, -, -, f42⟩, ⟨_, _, -, -, f43⟩, ⟨_, _, -, -, f44⟩, -⟩ := hF
        replace hL := hL.call hE hM hV
        have f35 : vs 35 = _ := f35
        generalize vs 35 = x35 at f35 ⊢
        subst x35
        have f36 : vs 36 = _ := f36
        generalize vs 36 = x36 at f36 ⊢
        subst x36
        have f37 : vs 37 = _ := f37
        generalize vs 37 = x37 at f37 ⊢
        subst x37
        have f38 : vs 38 = _ := f38
        generalize vs 38 = x38 at f38 ⊢
        subst x38
        have f39 : vs 39 = _ := f39
        generalize vs 39 = x39 at f39 ⊢
        subst x39
        have f40 : vs 40 = _ := f40
        generalize vs 40 = x40 at f40 ⊢
        subst x40
        have f41 : vs 41 = _ := f41
        generalize vs 41 = x41 at f41 ⊢
        subst x41
        have f42 : vs 42 = _ := f42
        generalize vs 42 = x42 at f42 ⊢
        subst x42
        have f43 : vs 43 = _ := f43
        generalize vs 43 = x43 at f43 ⊢
        subst x43
        have f44 : vs 44 = _ := f44
        generalize vs 44 = x44 at f44 ⊢
        subst x44
        clear hE hV
        simp only [List.drop_succ_cons, List.drop_zero]
        go_wp2_with (first | ((with_reducible refine kAny ?_); go_skip) | (with_reducible refine stA ?_) | ((first | refine tIx ?_ | refine tFd ?_ | refine tLd ?_ | ((first | refine tSr ?_ | refine tSt ?_); clear hL; intro _ hL; simp only [splice, zq1, zq2, zq3] at hL) | ((first | refine tBx ?_ | refine tAl ?_); clear hL; intro _ _ hL _)); simp only [Act.put, zq1, zq2, zq3]))
        refine QN.mk ?_
        rw [HD.out]
        go_wp2_with (first | ((with_reducible refine kAny ?_); go_skip) | (with_reducible refine stA ?_) | ((first | refine tIx ?_ | refine tFd ?_ | refine tLd ?_ | ((first | refine tSr ?_ | refine tSt ?_); clear hL; intro _ hL; simp only [splice, zq1, zq2, zq3] at hL) | ((first | refine tBx ?_ | refine tAl ?_); clear hL; intro _ _ hL _)); simp only [Act.put, zq1, zq2, zq3]))
        go_roundw
        case rel => exact ⟨k + 1, _, by omega, by go_num, hL, HIN2.out⟩
        case measure => simp [intOf] <;> omega
      · have HD : Hid (decide (∀ r ∈ xs, r ∈ rws) = false) := decide_eq_false hin
        have HNO : Hid (¬ AllIn cu rws) := fun h => hin (h _ (List.mem_of_getElem? HXC.out))
        clear hin HIN
        go_upto_region 10 with ((first | ((with_reducible refine kAny ?_); go_skip) | (with_reducible refine stA ?_) | ((first | refine tIx ?_ | refine tFd ?_ | refine tLd ?_ | ((first | refine tSr ?_ | refine tSt ?_); clear hL; intro _ hL; simp only [splice, zq1, zq2, zq3] at hL) | ((first | refine tBx ?_ | refine tAl ?_); clear hL; intro _ _ hL _)); simp only [Act.put, zq1, zq2, zq3])))
        (try simp only [eq_self] at *)
        refine wp_region_by2 10 [false, false, false, false, false, false, false, false, false, false] [false, false, false, false, false, false, false, false, false, false] [(fun v _ _ => v = ?c10_0b), (fun v _ _ => v = ?c10_1b), (fun v _ _ => v = ?c10_2b), (fun v _ _ => v = ?c10_3b), (fun v _ _ => v = ?c10_4b), (fun v _ _ => v = ?c10_5b), (fun v _ _ => v = ?c10_6b), (fun v _ _ => v = ?c10_7b), Is (.bool (decide (∀ r ∈ xs, r ∈ rws))), (fun v _ _ => v = ?c10_9b)] hL.vw mixed [35, 36, 37, 38, 39, 40, 41, 42, 43, 44] _ (by kernel_rfl) (fun vs => by simp only [lay, Act.put, zq1, zq2, zq3]; rfl) (by kernel_rfl) (by decide) (by decide) ?s10b ?l10b ?r10b
        case s10b =>
          refine ⟨?_, ?_, ?_, ?_, ?_, ?_, ?_, ?_, ?_, ?_, trivial⟩
          · intro vs W1 m1 hE hM hV hD; clear hD; replace hL := hL.call hE hM hV
            exact sFd
          · intro vs W1 m1 hE hM hV hD; obtain ⟨⟨_, _, -, -, f35⟩, -⟩ := hD; have f35 : vs 35 = _ := f35; generalize vs 35 = x35 at f35 ⊢; subst x35; replace hL := hL.call hE hM hV
            exact sLd
          · intro vs W1 m1 hE hM hV hD; clear hD; replace hL := hL.call hE hM hV
            exact sPu
          · intro vs W1 m1 hE hM hV hD; obtain ⟨⟨_, _, -, -, f36⟩, ⟨_, _, -, -, f37⟩, -⟩ := hD; have f36 : vs 36 = _ := f36; generalize vs 36 = x36 at f36 ⊢; subst x36; have f37 : vs 37 = _ := f37; generalize vs 37 = x37 at f37 ⊢; subst x37; replace hL := hL.call hE hM hV
            exact sIx
          · intro vs W1 m1 hE hM hV hD; obtain ⟨⟨_, _, -, -, f38⟩, -⟩ := hD; have f38 : vs 38 = _ := f38; generalize vs 38 = x38 at f38 ⊢; subst x38; replace hL := hL.call hE hM hV
            exact sFd
          · intro vs W1 m1 hE hM hV hD; obtain ⟨⟨_, _, -, -, f39⟩, -⟩ := hD; have f39 : vs 39 = _ := f39; generalize vs 39 = x39 at f39 ⊢; subst x39; replace hL := hL.call hE hM hV
            exact sLd
          · intro vs W1 m1 hE hM hV hD; clear hD; replace hL := hL.call hE hM hV
            exact sFd
          · intro vs W1 m1 hE hM hV hD; obtain ⟨⟨_, _, -, -, f41⟩, -⟩ := hD; have f41 : vs 41 = _ := f41; generalize vs 41 = x41 at f41 ⊢; subst x41; replace hL := hL.call hE hM hV
            exact sLd
          · intro vs W1 m1 hE hM hV hD; obtain ⟨⟨_, _, -, -, f40⟩, ⟨_, _, -, -, f42⟩, -⟩ := hD; have f40 : vs 40 = _ := f40; generalize vs 40 = x40 at f40 ⊢; subst x40; have f42 : vs 42 = _ := f42; generalize vs 42 = x42 at f42 ⊢; subst x42
            go_wp2_with fail
            refine (r_within _ _ xs rws _ _ hV (IntL.le HI.out leX) (IntL.le HR.out leX) (by rw [HNX.out]; exact HXL.out) (by rw [HN.out]; exact HRL.out)).mono ?_
            rintro e W2 ⟨v, m2, rfl, hE2, hM2, hV2, h⟩
            go_wp2_with fail
            refine One2.call hE2 hM2 hV2 ?_; first | exact h | exact rfl
          · intro vs W1 m1 hE hM hV hD; obtain ⟨⟨_, _, -, -, f43⟩, -⟩ := hD; have f43 : vs 43 = _ := f43; generalize vs 43 = x43 at f43 ⊢; subst x43; replace hL := hL.call hE hM hV
            exact sPu
        case l10b =>
          refine ⟨fun h => (by cases h), fun h => (by cases h), fun h => (by cases h), fun h => (by cases h), fun h => (by cases h), fun h => (by cases h), fun h => (by cases h), fun h => (by cases h), fun h => (by cases h), fun h => (by cases h), trivial⟩
        intro vs W1 m1 hE hM hV hF hD
        clear hD
        obtain ⟨⟨_, _, -, -, f35⟩, ⟨_, _, -, -, f36⟩, ⟨_, _, -, -, f37⟩, ⟨_, _, -, -, f38⟩, ⟨_, _, -, -, f39⟩, ⟨_, _, -, -, f40⟩, ⟨_, _, -, -, f41⟩, ⟨_, _, -, -, f42⟩, ⟨_, _, -, -, f43⟩, ⟨_, _, -, -, f44⟩, -⟩ := hF
        replace hL := hL.call hE hM hV
        have f35 : vs 35 = _ := f35
        generalize vs 35 = x35 at f35 ⊢
        subst x35
        have f36 : vs 36 = _ := f36
        generalize vs 36 = x36 at f36 ⊢
        subst x36
        have f37 : vs 37 = _ := f37
        generalize vs 37 = x37 at f37 ⊢
        subst x37
        have f38 : vs 38 = _ := f38
        generalize vs 38 = x38 at f38 ⊢
        subst x38
        have f39 : vs 39 = _ := f39
        generalize vs 39 = x39 at f39 ⊢
        subst x39
        have f40 : vs 40 = _ := f40
        generalize vs 40 = x40 at f40 ⊢
        subst x40
        have f41 : vs 41 = _ := f41
        generalize vs 41 = x41 at f41 ⊢
        subst x41
        have f42 : vs 42 = _ := f42
        generalize vs 42 = x42 at f42 ⊢
        subst x42
        have f43 : vs 43 = _ := f43
        generalize vs 43 = x43 at f43 ⊢
        subst x43
        have f44 : vs 44 = _ := f44
        generalize vs 44 = x44 at f44 ⊢
        subst x44
        clear hE hV
        simp only [List.drop_succ_cons, List.drop_zero]
        go_wp2_with (first | ((with_reducible refine kAny ?_); go_skip) | (with_reducible refine stA ?_) | ((first | refine tIx ?_ | refine tFd ?_ | refine tLd ?_ | ((first | refine tSr ?_ | refine tSt ?_); clear hL; intro _ hL; simp only [splice, zq1, zq2, zq3] at hL) | ((first | refine tBx ?_ | refine tAl ?_); clear hL; intro _ _ hL _)); simp only [Act.put, zq1, zq2, zq3]))
        refine QN.mk ?_
        rw [HD.out]
        go_wp2_with (first | ((with_reducible refine kAny ?_); go_skip) | (with_reducible refine stA ?_) | ((first | refine tIx ?_ | refine tFd ?_ | refine tLd ?_ | ((first | refine tSr ?_ | refine tSt ?_); clear hL; intro _ hL; simp only [splice, zq1, zq2, zq3] at hL) | ((first | refine tBx ?_ | refine tAl ?_); clear hL; intro _ _ hL _)); simp only [Act.put, zq1, zq2, zq3]))
        refine fin_aggT hL Tryz.results20 rfl rfl loX ag_Frac (by exact rfl) rfl (hL.sub (List.nil_sublist _)) ?_
        exact .inl ⟨HNO.out, rfl⟩
    · have HALL : Hid (AllIn cu rws) := allIn_of (n := k) (by rw [HNU.out]; omega) HIN.out
      clear HIN
      cases fr with
      | true =>
        go_wp2_with (first | ((with_reducible refine kAny ?_); go_skip) | (with_reducible refine stA ?_) | ((first | refine tIx ?_ | refine tFd ?_ | refine tLd ?_ | ((first | refine tSr ?_ | refine tSt ?_); clear hL; intro _ hL; simp only [splice, zq1, zq2, zq3] at hL) | ((first | refine tBx ?_ | refine tAl ?_); clear hL; intro _ _ hL _)); simp only [Act.put, zq1, zq2, zq3]))
        refine fin_aggT hL Tryz.results20 rfl rfl loX ag_Frac (by exact rfl) rfl (hL.sub (List.nil_sublist _)) ?_
        exact .inr (.inl ⟨HALL.out, rfl, rfl⟩)
      | false =>
        have hlv2 := HLV.out.le hM.le
        go_upto_region 14 with ((first | ((with_reducible refine kAny ?_); go_skip) | (with_reducible refine stA ?_) | ((first | refine tIx ?_ | refine tFd ?_ | refine tLd ?_ | ((first | refine tSr ?_ | refine tSt ?_); clear hL; intro _ hL; simp only [splice, zq1, zq2, zq3] at hL) | ((first | refine tBx ?_ | refine tAl ?_); clear hL; intro _ _ hL _)); simp only [Act.put, zq1, zq2, zq3])))
        (try simp only [eq_self] at *)
        obtain ⟨B, hB1, hB2, hB3⟩ := hL.bound
        refine wp_region_by2 9 [false, false, false, false, false, false, false, false, true] [false, false, false, false, false, false, false, false, false] [(fun v _ _ => v = ?c14_0), (fun v _ _ => v = ?c14_1), (fun v _ _ => v = ?c14_2), Of (fun um v => FracC um v ((n : Int) : Rat)), (fun v _ _ => v = ?c14_4), Of (fun um v => FracC um v ((0 : Int) : Rat)), Of (fun um v => FracC um v (rmin (vS lp) ((0 : Int) : Rat))), Of (fun um v => FracC um v (((n : Int) : Rat) * rmin (vS lp) ((0 : Int) : Rat))), NewBlk B 39 #[.bool false, .slice none 0 0, .bool false, .slice none 0 0]] hL.vw mixed [49, 50, 51, 52, 53, 54, 55, 56, 11] _ (by kernel_rfl) (fun vs => by simp only [lay, Act.put, zq1, zq2, zq3]; rfl) (by kernel_rfl) (by decide) (by decide) ?s14 ?l14 ?r14
        case s14 =>
          refine ⟨?_, ?_, ?_, ?_, ?_, ?_, ?_, ?_, ?_, trivial⟩
          · intro vs W1 m1 hE hM hV hD; clear hD; replace hL := hL.call hE hM hV
            exact sFd
          · intro vs W1 m1 hE hM hV hD; obtain ⟨⟨_, _, -, -, f49⟩, -⟩ := hD; have f49 : vs 49 = _ := f49; generalize vs 49 = x49 at f49 ⊢; subst x49; replace hL := hL.call hE hM hV
            exact sLd
          · intro vs W1 m1 hE hM hV hD; obtain ⟨⟨_, _, -, -, f50⟩, -⟩ := hD; have f50 : vs 50 = _ := f50; generalize vs 50 = x50 at f50 ⊢; subst x50; replace hL := hL.call hE hM hV
            go_wp2_with (first | ((with_reducible refine kAny ?_); go_skip) | (with_reducible refine stA ?_) | ((first | refine tIx ?_ | refine tFd ?_ | refine tLd ?_ | ((first | refine tSr ?_ | refine tSt ?_); clear hL; intro _ hL; simp only [splice, zq1, zq2, zq3] at hL) | ((first | refine tBx ?_ | refine tAl ?_); clear hL; intro _ _ hL _)); simp only [Act.put, zq1, zq2, zq3]))
            refine One2.still hV ?_; exact rfl
          · intro vs W1 m1 hE hM hV hD; obtain ⟨⟨_, _, -, -, f51⟩, -⟩ := hD; have f51 : vs 51 = _ := f51; generalize vs 51 = x51 at f51 ⊢; subst x51
            go_wp2_with fail
            refine (KN.out _ _ hV).mono ?_
            rintro e W2 ⟨v, m2, rfl, hE2, hM2, hV2, h⟩
            go_wp2_with fail
            refine One2.call hE2 hM2 hV2 ?_; first | exact h | exact rfl
          · intro vs W1 m1 hE hM hV hD; clear hD; replace hL := hL.call hE hM hV
            exact sLd
          · intro vs W1 m1 hE hM hV hD; clear hD
            go_wp2_with fail
            refine (r_Int 0 _ _ hV (by decide) (by decide)).mono ?_
            rintro e W2 ⟨v, m2, rfl, hE2, hM2, hV2, h⟩
            go_wp2_with fail
            refine One2.call hE2 hM2 hV2 ?_; first | exact h | exact rfl
          · intro vs W1 m1 hE hM hV hD; obtain ⟨⟨_, _, -, -, f53⟩, ⟨_, _, -, i54, f54⟩, -, -⟩ := hD; have f53 : vs 53 = _ := f53; generalize vs 53 = x53 at f53 ⊢; subst x53; have f54 : FracC _ (vs 54) ((0 : Int) : Rat) := f54; replace f54 := f54.le i54.le; clear i54
            go_wp2_with fail
            refine (r_Min _ _ (vS lp) ((0 : Int) : Rat) _ _ hV (hlv2.le leX) (f54.toV H2.out (by decide)) H1.out H2.out H3.out).mono ?_
            rintro e W2 ⟨v, m2, rfl, hE2, hM2, hV2, h⟩
            go_wp2_with fail
            refine One2.call hE2 hM2 hV2 ?_; first | exact h | exact rfl
          · intro vs W1 m1 hE hM hV hD; obtain ⟨⟨_, _, -, i52, f52⟩, ⟨_, _, -, i55, f55⟩, -, -⟩ := hD; have f52 : FracC _ (vs 52) ((n : Int) : Rat) := f52; replace f52 := f52.le i52.le; clear i52; have f55 : FracC _ (vs 55) (rmin (vS lp) ((0 : Int) : Rat)) := f55; replace f55 := f55.le i55.le; clear i55
            go_wp2_with fail
            refine (r_MulC _ _ ((n : Int) : Rat) (rmin (vS lp) ((0 : Int) : Rat)) _ _ hV f52 f55 H5.out H4.out).mono ?_
            rintro e W2 ⟨v, m2, rfl, hE2, hM2, hV2, h⟩
            go_wp2_with fail
            refine One2.call hE2 hM2 hV2 ?_; first | exact h | exact rfl
          · intro vs W1 m1 hE hM hV hD; clear hD
            exact one2_alloc hV (Nat.le_trans hB3 hE.size) rfl rfl rfl ZcC.h
        case l14 =>
          refine ⟨fun h => (by cases h), fun h => (by cases h), fun h => (by cases h), fun h => (by cases h), fun h => (by cases h), fun h => (by cases h), fun h => (by cases h), fun h => (by cases h), fun h => (by cases h), trivial⟩
        intro vs W1 m1 hE hM hV hF hD
        obtain ⟨-, -, -, ⟨_, _, -, i52, f52⟩, -, ⟨_, _, -, i54, f54⟩, ⟨_, _, -, i55, f55⟩, ⟨_, _, -, i56, f56⟩, ⟨_, _, j11, i11, f11⟩, -⟩ := hF
        replace hL := hL.call hE hM hV
        replace f52 : FracC _ (vs 52) ((n : Int) : Rat) := f52
        replace f52 := f52.le i52.le
        clear i52
        replace f54 : FracC _ (vs 54) ((0 : Int) : Rat) := f54
        replace f54 := f54.le i54.le
        clear i54
        replace f55 : FracC _ (vs 55) (rmin (vS lp) ((0 : Int) : Rat)) := f55
        replace f55 := f55.le i55.le
        clear i55
        replace f56 : FracC _ (vs 56) (((n : Int) : Rat) * rmin (vS lp) ((0 : Int) : Rat)) := f56
        replace f56 := f56.le i56.le
        clear i56
        obtain ⟨g56, A56, n56, c56, h56, B56, k56, d56, e56, f56⟩ := f56.lit
        generalize vs 56 = x56 at e56 ⊢
        subst x56
        obtain ⟨b11, e11, hL⟩ := Loc.addB (Lt := []) hB1 hB2 hL f11 j11 i11 ad0
        simp only [e11, List.cons_append, List.nil_append] at hL ⊢
        clear e11 f11 j11 i11
        clear hB1 hB2 hB3 hD
        clear hE hV
        simp only [List.drop_succ_cons, List.drop_zero]
        go_wp2_with (first | ((with_reducible refine kAny ?_); go_skip) | (with_reducible refine stA ?_) | ((first | refine tIx ?_ | refine tFd ?_ | refine tLd ?_ | ((first | refine tSr ?_ | refine tSt ?_); clear hL; intro _ hL; simp only [splice, zq1, zq2, zq3] at hL) | ((first | refine tBx ?_ | refine tAl ?_); clear hL; intro _ _ hL _)); simp only [Act.put, zq1, zq2, zq3]))
        refine QN.mk ?_
        rw [HSZ.out] at f56
        have HZ : Hid (FracC _ _ (psum s0 ts 0)) := f56
        clear f56 f52 f54 f55 hlt hk hM
        go_wp2_with (first | ((with_reducible refine kAny ?_); go_skip) | (with_reducible refine stA ?_) | ((first | refine tIx ?_ | refine tFd ?_ | refine tLd ?_ | ((first | refine tSr ?_ | refine tSt ?_); clear hL; intro _ hL; simp only [splice, zq1, zq2, zq3] at hL) | ((first | refine tBx ?_ | refine tAl ?_); clear hL; intro _ _ hL _)); simp only [Act.put, zq1, zq2, zq3]))
        go_loopw [12] (fun i wr => ∃ (k : Nat) (mm : World) (g5 h5 : Bool) (A5 B5 : Option Addr) (n5 c5 k5 d5 : Nat), k ≤ n ∧ i = .int .i64 k ∧ Loc w m wr mm [(b11, 39, #[.bool g5, .slice A5 n5 c5, .bool h5, .slice B5 k5 d5]), (Wh5.heap.size, 39, #[.bool false, .slice none 0 0, .bool false, .slice none 0 0]), (Wh4.heap.size, 39, #[.bool g9, .slice A9 n9 c9, .bool h9, .slice B9 k9 d9]), (Wh3.heap.size, 31, #[.slice F nf cf, .slice D nc du, .slice E nc ed, .slice G nd ge, .bool false]), (w.heap.size, 26, #[.int .i64 nf, .slice A n ca, .int .i64 pen, .slice Bc ncol cb, .slice C ncut cc])] ∧ Hid (FracC mm (.agg #[.bool g5, .slice A5 n5 c5, .bool h5, .slice B5 k5 d5]) (psum s0 ts k))) (fun i _ => n - (intOf i).toNat)
        case atStart => exact ⟨0, _, _, _, _, _, _, _, _, _, Nat.zero_le _, rfl, hL, HZ.out.le leX⟩
        case round =>
          clear hL HZ
          obtain ⟨k, mm, g5, h5, A5, B5, n5, c5, k5, d5, hk, rfl, hL, hs⟩ := hrel
          have hM := hL.mext
          by_cases hlt : k < n
          · obtain ⟨r, hx⟩ := at_some HN hlt
            obtain ⟨x1, x2⟩ := HLOW.out r (List.mem_of_getElem? hx)
            obtain ⟨j, rfl⟩ : ∃ j : Nat, r = (j : Int) := ⟨r.toNat, by omega⟩
            have hj : j < nf := by omega
            obtain ⟨q, hq⟩ := at_some HNF hj
            have har := HR.out
            have hpf := HPF.out
            obtain ⟨b1, o1, rfl, hc1⟩ := IntL.at_ har hx
            obtain ⟨b2, o2, g2, A2, n2, c2, h2, B2, k2, d2, rfl, hp2, hr2⟩ := FracL.at_ hpf hq
            obtain ⟨s1, s2, s3⟩ := HFL.out q (List.mem_of_getElem? hq)
            have S1 := Lib.hid s1
            have S2 := Lib.hid s2
            have S3 := Lib.hid s3
            have S4 : Hid (Fit 200 (psum s0 ts k)) := HTS.out k (by omega)
            have HB : Hid (psum s0 ts (k + 1) = psum s0 ts k + rmin q (pen : Rat)) := psum_step (HTR.out k j q hx hq)
            have hs1 := hs.out
            clear hx hq x1 x2 hs KV KP KN HTS har hpf s1 s2 s3
            go_upto_region 18 with ((first | ((with_reducible refine kAny ?_); go_skip) | (with_reducible refine stA ?_) | ((first | refine tIx ?_ | refine tFd ?_ | refine tLd ?_ | ((first | refine tSr ?_ | refine tSt ?_); clear hL; intro _ hL; simp only [splice, zq1, zq2, zq3] at hL) | ((first | refine tBx ?_ | refine tAl ?_); clear hL; intro _ _ hL _)); simp only [Act.put, zq1, zq2, zq3])))
            (try simp only [eq_self] at *)
            refine wp_region_by2 15 [false, false, false, false, false, false, false, false, false, false, false, false, false, false, false] [false, false, false, false, false, false, false, false, false, false, false, false, false, false, false] [(fun v _ _ => v = ?c18_0), (fun v _ _ => v = ?c18_1), (fun v _ _ => v = ?c18_2), (fun v _ _ => v = ?c18_3), (fun v _ _ => v = ?c18_4), (fun v _ _ => v = ?c18_5), (fun v _ _ => v = ?c18_6), (fun v _ _ => v = ?c18_7), (fun v _ _ => v = ?c18_8), (fun v _ _ => v = ?c18_9), (fun v _ _ => v = ?c18_10), (fun v _ _ => v = ?c18_11), Of (fun um v => FracC um v (pen : Rat)), Of (fun um v => FracC um v (rmin q (pen : Rat))), Of (fun um v => FracC um v (psum s0 ts k + rmin q (pen : Rat)))] hL.vw mixed [64, 65, 66, 67, 68, 69, 70, 71, 72, 73, 74, 75, 76, 77, 78] _ (by kernel_rfl) (fun vs => by simp only [lay, Act.put, zq1, zq2, zq3]; rfl) (by kernel_rfl) (by decide) (by decide) ?s18 ?l18 ?r18
            case s18 =>
              refine ⟨?_, ?_, ?_, ?_, ?_, ?_, ?_, ?_, ?_, ?_, ?_, ?_, ?_, ?_, ?_, trivial⟩
              · intro vs W1 m1 hE hM hV hD; clear hD; replace hL := hL.call hE hM hV
                exact sLd
              · intro vs W1 m1 hE hM hV hD; clear hD; replace hL := hL.call hE hM hV
                exact sFd
              · intro vs W1 m1 hE hM hV hD; obtain ⟨⟨_, _, -, -, f65⟩, -⟩ := hD; have f65 : vs 65 = _ := f65; generalize vs 65 = x65 at f65 ⊢; subst x65; replace hL := hL.call hE hM hV
                exact sLd
              · intro vs W1 m1 hE hM hV hD; clear hD; replace hL := hL.call hE hM hV
                exact sFd
              · intro vs W1 m1 hE hM hV hD; obtain ⟨⟨_, _, -, -, f67⟩, -⟩ := hD; have f67 : vs 67 = _ := f67; generalize vs 67 = x67 at f67 ⊢; subst x67; replace hL := hL.call hE hM hV
                exact sLd
              · intro vs W1 m1 hE hM hV hD; clear hD; replace hL := hL.call hE hM hV
                exact sPu
              · intro vs W1 m1 hE hM hV hD; obtain ⟨⟨_, _, -, -, f68⟩, ⟨_, _, -, -, f69⟩, -⟩ := hD; have f68 : vs 68 = _ := f68; generalize vs 68 = x68 at f68 ⊢; subst x68; have f69 : vs 69 = _ := f69; generalize vs 69 = x69 at f69 ⊢; subst x69; replace hL := hL.call hE hM hV
                exact sIx
              · intro vs W1 m1 hE hM hV hD; obtain ⟨⟨_, _, -, -, f70⟩, -⟩ := hD; have f70 : vs 70 = _ := f70; generalize vs 70 = x70 at f70 ⊢; subst x70; replace hL := hL.call hE hM hV
                exact sLd
              · intro vs W1 m1 hE hM hV hD; obtain ⟨⟨_, _, -, -, f66⟩, ⟨_, _, -, -, f71⟩, -⟩ := hD; have f66 : vs 66 = _ := f66; generalize vs 66 = x66 at f66 ⊢; subst x66; have f71 : vs 71 = _ := f71; generalize vs 71 = x71 at f71 ⊢; subst x71; replace hL := hL.call hE hM hV
                exact sIx
              · intro vs W1 m1 hE hM hV hD; obtain ⟨⟨_, _, -, -, f72⟩, -⟩ := hD; have f72 : vs 72 = _ := f72; generalize vs 72 = x72 at f72 ⊢; subst x72; replace hL := hL.call hE hM hV
                exact sLd
              · intro vs W1 m1 hE hM hV hD; clear hD; replace hL := hL.call hE hM hV
                exact sFd
              · intro vs W1 m1 hE hM hV hD; obtain ⟨⟨_, _, -, -, f74⟩, -⟩ := hD; have f74 : vs 74 = _ := f74; generalize vs 74 = x74 at f74 ⊢; subst x74; replace hL := hL.call hE hM hV
                exact sLd
              · intro vs W1 m1 hE hM hV hD; obtain ⟨⟨_, _, -, -, f75⟩, -⟩ := hD; have f75 : vs 75 = _ := f75; generalize vs 75 = x75 at f75 ⊢; subst x75
                go_wp2_with fail
                refine (KW.out _ _ hV).mono ?_
                rintro e W2 ⟨v, m2, rfl, hE2, hM2, hV2, h⟩
                go_wp2_with fail
                refine One2.call hE2 hM2 hV2 ?_; first | exact h | exact rfl
              · intro vs W1 m1 hE hM hV hD; obtain ⟨⟨_, _, -, -, f73⟩, ⟨_, _, -, i76, f76⟩, -, -⟩ := hD; have f73 : vs 73 = _ := f73; generalize vs 73 = x73 at f73 ⊢; subst x73; have f76 : FracC _ (vs 76) (pen : Rat) := f76; replace f76 := f76.le i76.le; clear i76
                go_wp2_with fail
                refine (r_Min _ _ q (pen : Rat) _ _ hV ((hp2.toV S1.out (by decide)).le leX) (f76.toV HPF1.out (by decide)) S1.out HPF1.out S2.out).mono ?_
                rintro e W2 ⟨v, m2, rfl, hE2, hM2, hV2, h⟩
                go_wp2_with fail
                refine One2.call hE2 hM2 hV2 ?_; first | exact h | exact rfl
              · intro vs W1 m1 hE hM hV hD; obtain ⟨⟨_, _, -, -, f64⟩, ⟨_, _, -, i77, f77⟩, -, -⟩ := hD; have f64 : vs 64 = _ := f64; generalize vs 64 = x64 at f64 ⊢; subst x64; have f77 : FracC _ (vs 77) (rmin q (pen : Rat)) := f77; replace f77 := f77.le i77.le; clear i77
                go_wp2_with fail
                refine (r_AddC _ _ (psum s0 ts k) (rmin q (pen : Rat)) _ _ hV (hs1.le leX) f77 S4.out S3.out).mono ?_
                rintro e W2 ⟨v, m2, rfl, hE2, hM2, hV2, h⟩
                go_wp2_with fail
                refine One2.call hE2 hM2 hV2 ?_; first | exact h | exact rfl
            case l18 =>
              refine ⟨fun h => (by cases h), fun h => (by cases h), fun h => (by cases h), fun h => (by cases h), fun h => (by cases h), fun h => (by cases h), fun h => (by cases h), fun h => (by cases h), fun h => (by cases h), fun h => (by cases h), fun h => (by cases h), fun h => (by cases h), fun h => (by cases h), fun h => (by cases h), fun h => (by cases h), trivial⟩
            intro vs W1 m1 hE hM hV hF hD
            clear hD
            obtain ⟨-, -, -, -, -, -, -, -, -, -, -, -, ⟨_, _, -, i76, f76⟩, ⟨_, _, -, i77, f77⟩, ⟨_, _, -, i78, f78⟩, -⟩ := hF
            replace hL := hL.call hE hM hV
            replace f76 : FracC _ (vs 76) (pen : Rat) := f76
            replace f76 := f76.le i76.le
            clear i76
            replace f77 : FracC _ (vs 77) (rmin q (pen : Rat)) := f77
            replace f77 := f77.le i77.le
            clear i77
            replace f78 : FracC _ (vs 78) (psum s0 ts k + rmin q (pen : Rat)) := f78
            replace f78 := f78.le i78.le
            clear i78
            obtain ⟨g78, A78, n78, c78, h78, B78, k78, d78, e78, f78⟩ := f78.lit
            generalize vs 78 = x78 at e78 ⊢
            subst x78
            clear hE hV
            simp only [List.drop_succ_cons, List.drop_zero]
            go_wp2_with (first | ((with_reducible refine kAny ?_); go_skip) | (with_reducible refine stA ?_) | ((first | refine tIx ?_ | refine tFd ?_ | refine tLd ?_ | ((first | refine tSr ?_ | refine tSt ?_); clear hL; intro _ hL; simp only [splice, zq1, zq2, zq3] at hL) | ((first | refine tBx ?_ | refine tAl ?_); clear hL; intro _ _ hL _)); simp only [Act.put, zq1, zq2, zq3]))
            refine QN.mk ?_
            go_wp2_with (first | ((with_reducible refine kAny ?_); go_skip) | (with_reducible refine stA ?_) | ((first | refine tIx ?_ | refine tFd ?_ | refine tLd ?_ | ((first | refine tSr ?_ | refine tSt ?_); clear hL; intro _ hL; simp only [splice, zq1, zq2, zq3] at hL) | ((first | refine tBx ?_ | refine tAl ?_); clear hL; intro _ _ hL _)); simp only [Act.put, zq1, zq2, zq3]))
            go_roundw
            case rel =>
              refine ⟨k + 1, _, _, _, _, _, _, _, _, _, by omega, by go_num, hL, ?_⟩
              rw [← HB.out] at f78
              exact f78
            case measure => simp [intOf] <;> omega
          · have hkn : k = n := by omega
            subst hkn
            have hz5 : Hid (FracC mm (.agg #[.bool g5, .slice A5 n5 c5, .bool h5, .slice B5 k5 d5]) (psum s0 ts (k + 0))) := hs
            clear hs
            go_wp2_with (first | ((with_reducible refine kAny ?_); go_skip) | (with_reducible refine stA ?_) | ((first | refine tIx ?_ | refine tFd ?_ | refine tLd ?_ | ((first | refine tSr ?_ | refine tSt ?_); clear hL; intro _ hL; simp only [splice, zq1, zq2, zq3] at hL) | ((first | refine tBx ?_ | refine tAl ?_); clear hL; intro _ _ hL _)); simp only [Act.put, zq1, zq2, zq3]))
            clear hM hlt hk
            go_loopw [13] (fun i wr => ∃ (j : Nat) (m3 : World) (g6 h6 : Bool) (A6 B6 : Option Addr) (n6 c6 k6 d6 : Nat), j ≤ nc ∧ i = .int .i64 j ∧ Loc w m wr m3 [(b11, 39, #[.bool g6, .slice A6 n6 c6, .bool h6, .slice B6 k6 d6]), (Wh5.heap.size, 39, #[.bool false, .slice none 0 0, .bool false, .slice none 0 0]), (Wh4.heap.size, 39, #[.bool g9, .slice A9 n9 c9, .bool h9, .slice B9 k9 d9]), (Wh3.heap.size, 31, #[.slice F nf cf, .slice D nc du, .slice E nc ed, .slice G nd ge, .bool false]), (w.heap.size, 26, #[.int .i64 nf, .slice A k ca, .int .i64 pen, .slice Bc ncol cb, .slice C ncut cc])] ∧ Hid (FracC m3 (.agg #[.bool g6, .slice A6 n6 c6, .bool h6, .slice B6 k6 d6]) (psum s0 ts (k + j)))) (fun i _ => nc - (intOf i).toNat)
            case atStart =>
              exact ⟨0, _, _, _, _, _, _, _, _, _, Nat.zero_le _, rfl, hL, hz5⟩
            case round =>
              clear hL hz5
              obtain ⟨j, m3, g6, h6, A6, B6, n6, c6, k6, d6, hj, rfl, hL, hs⟩ := hrel
              have hM := hL.mext
              have S4 : Hid (Fit 200 (psum s0 ts (k + j))) := HTS.out (k + j) (by omega)
              have hs1 := hs.out
              clear hs HTS
              by_cases hlt : j < nc
              · obtain ⟨⟨xs, dv⟩, hx⟩ := at_some HNU hlt
                obtain ⟨q, hq⟩ := at_some HND hlt
                have hu := HPU.out
                have hd := HPD.out
                obtain ⟨b1, o1, A1, c1, rfl, hi1, hl1, hlc1, hcx1, hcx2, hr1⟩ := CutL.at_ hu hx
                obtain ⟨b2, o2, g2, A2, n2, c2, h2, B2, k2, d2, rfl, hp2, hr2⟩ := FracL.at_ hd hq
                simp only at hi1 hl1 hlc1 hr1 hcx1 hcx2
                obtain ⟨dv2, hln⟩ := HCU.out _ (List.mem_of_getElem? hx)
                simp only at dv2 hln
                have S5 : Hid (Fit 200 q) := HCD.out q (List.mem_of_getElem? hq)
                have HB := Lib.hid (psum_step (s := s0) (HTC.out j _ _ hx hq))
                have S7 := Lib.hid (HCS.out _ (List.mem_of_getElem? (HTC.out j _ _ hx hq)))
                simp only at HB S7
                clear hx hq hu hd hi1 KV KP KW KN hr1
                generalize hnx : xs.length = nx at *
                clear hnx
                have KQ := Lib.hid (int_quo dv2 hln)
                have S6 : Hid (Fit 200 (((nx : Int) / dv : Int) : Rat)) := by
                  have h1 : ((nx : Int) / dv).natAbs ≤ nx := by have := Int.natAbs_ediv_le_natAbs (nx : Int) dv; simpa using this
                  exact (Tw.int (K := 1000) (by omega)).fit (by decide)
                have dv0 : (dv == 0) = false := by simp; omega
                have dv1 : ¬ dv = 0 := by omega
                generalize hzz : (((nx : Int) / dv : Int) : Rat) = zz at *
                clear hzz
                go_upto_region 22 with ((first | ((with_reducible refine kAny ?_); go_skip) | (with_reducible refine stA ?_) | ((first | refine tIx ?_ | refine tFd ?_ | refine tLd ?_ | ((first | refine tSr ?_ | refine tSt ?_); clear hL; intro _ hL; simp only [splice, zq1, zq2, zq3] at hL) | ((first | refine tBx ?_ | refine tAl ?_); clear hL; intro _ _ hL _)); simp only [Act.put, zq1, zq2, zq3])))
                (try simp only [eq_self] at *)
                refine wp_region_by2 23 [false, false, false, false, false, false, false, false, false, false, false, false, false, false, false, false, false, false, false, false, false, false, false] [false, false, false, false, false, false, false, false, false, false, false, false, false, false, false, false, false, false, false, false, false, false, false] [(fun v _ _ => v = ?c22_0), (fun v _ _ => v = ?c22_1), (fun v _ _ => v = ?c22_2), (fun v _ _ => v = ?c22_3), (fun v _ _ => v = ?c22_4), (fun v _ _ => v = ?c22_5), (fun v _ _ => v = ?c22_6), (fun v _ _ => v = ?c22_7), (fun v _ _ => v = ?c22_8), (fun v _ _ => v = ?c22_9), (fun v _ _ => v = ?c22_10), (fun v _ _ => v = ?c22_11), (fun v _ _ => v = ?c22_12), (fun v _ _ => v = ?c22_13), (fun v _ _ => v = ?c22_14), (fun v _ _ => v = ?c22_15), (fun v _ _ => v = ?c22_16), (fun v _ _ => v = ?c22_17), (fun v _ _ => v = ?c22_18), (fun v _ _ => v = ?c22_19), Of (fun um v => FracC um v zz), Of (fun um v => FracC um v (q * zz)), Of (fun um v => FracC um v (psum s0 ts (k + j) + q * zz))] hL.vw mixed [86, 87, 88, 89, 90, 91, 92, 93, 94, 95, 96, 97, 98, 99, 100, 101, 102, 103, 104, 105, 106, 107, 108] _ (by kernel_rfl) (fun vs => by simp only [lay, Act.put, zq1, zq2, zq3]; rfl) (by kernel_rfl) (by decide) (by decide) ?s22 ?l22 ?r22
                case s22 =>
                  refine ⟨?_, ?_, ?_, ?_, ?_, ?_, ?_, ?_, ?_, ?_, ?_, ?_, ?_, ?_, ?_, ?_, ?_, ?_, ?_, ?_, ?_, ?_, ?_, trivial⟩
                  · intro vs W1 m1 hE hM hV hD; clear hD; replace hL := hL.call hE hM hV
                    exact sLd
                  · intro vs W1 m1 hE hM hV hD; clear hD; replace hL := hL.call hE hM hV
                    exact sFd
                  · intro vs W1 m1 hE hM hV hD; obtain ⟨⟨_, _, -, -, f87⟩, -⟩ := hD; have f87 : vs 87 = _ := f87; generalize vs 87 = x87 at f87 ⊢; subst x87; replace hL := hL.call hE hM hV
                    exact sLd
                  · intro vs W1 m1 hE hM hV hD; clear hD; replace hL := hL.call hE hM hV
                    exact sPu
                  · intro vs W1 m1 hE hM hV hD; obtain ⟨⟨_, _, -, -, f88⟩, ⟨_, _, -, -, f89⟩, -⟩ := hD; have f88 : vs 88 = _ := f88; generalize vs 88 = x88 at f88 ⊢; subst x88; have f89 : vs 89 = _ := f89; generalize vs 89 = x89 at f89 ⊢; subst x89; replace hL := hL.call hE hM hV
                    exact sIx
                  · intro vs W1 m1 hE hM hV hD; obtain ⟨⟨_, _, -, -, f90⟩, -⟩ := hD; have f90 : vs 90 = _ := f90; generalize vs 90 = x90 at f90 ⊢; subst x90; replace hL := hL.call hE hM hV
                    exact sLd
                  · intro vs W1 m1 hE hM hV hD; clear hD; replace hL := hL.call hE hM hV
                    exact sFd
                  · intro vs W1 m1 hE hM hV hD; obtain ⟨⟨_, _, -, -, f92⟩, -⟩ := hD; have f92 : vs 92 = _ := f92; generalize vs 92 = x92 at f92 ⊢; subst x92; replace hL := hL.call hE hM hV
                    exact sLd
                  · intro vs W1 m1 hE hM hV hD; clear hD; replace hL := hL.call hE hM hV
                    exact sPu
                  · intro vs W1 m1 hE hM hV hD; obtain ⟨⟨_, _, -, -, f93⟩, ⟨_, _, -, -, f94⟩, -⟩ := hD; have f93 : vs 93 = _ := f93; generalize vs 93 = x93 at f93 ⊢; subst x93; have f94 : vs 94 = _ := f94; generalize vs 94 = x94 at f94 ⊢; subst x94; replace hL := hL.call hE hM hV
                    exact sIx
                  · intro vs W1 m1 hE hM hV hD; obtain ⟨⟨_, _, -, -, f95⟩, -⟩ := hD; have f95 : vs 95 = _ := f95; generalize vs 95 = x95 at f95 ⊢; subst x95; replace hL := hL.call hE hM hV
                    exact sFd
                  · intro vs W1 m1 hE hM hV hD; obtain ⟨⟨_, _, -, -, f96⟩, -⟩ := hD; have f96 : vs 96 = _ := f96; generalize vs 96 = x96 at f96 ⊢; subst x96; replace hL := hL.call hE hM hV
                    exact sLd
                  · intro vs W1 m1 hE hM hV hD; obtain ⟨⟨_, _, -, -, f97⟩, -⟩ := hD; have f97 : vs 97 = _ := f97; generalize vs 97 = x97 at f97 ⊢; subst x97; replace hL := hL.call hE hM hV
                    go_wp2_with (first | ((with_reducible refine kAny ?_); go_skip) | (with_reducible refine stA ?_) | ((first | refine tIx ?_ | refine tFd ?_ | refine tLd ?_ | ((first | refine tSr ?_ | refine tSt ?_); clear hL; intro _ hL; simp only [splice, zq1, zq2, zq3] at hL) | ((first | refine tBx ?_ | refine tAl ?_); clear hL; intro _ _ hL _)); simp only [Act.put, zq1, zq2, zq3]))
                    refine One2.still hV ?_; exact rfl
                  · intro vs W1 m1 hE hM hV hD; clear hD; replace hL := hL.call hE hM hV
                    exact sFd
                  · intro vs W1 m1 hE hM hV hD; obtain ⟨⟨_, _, -, -, f99⟩, -⟩ := hD; have f99 : vs 99 = _ := f99; generalize vs 99 = x99 at f99 ⊢; subst x99; replace hL := hL.call hE hM hV
                    exact sLd
                  · intro vs W1 m1 hE hM hV hD; clear hD; replace hL := hL.call hE hM hV
                    exact sPu
                  · intro vs W1 m1 hE hM hV hD; obtain ⟨⟨_, _, -, -, f100⟩, ⟨_, _, -, -, f101⟩, -⟩ := hD; have f100 : vs 100 = _ := f100; generalize vs 100 = x100 at f100 ⊢; subst x100; have f101 : vs 101 = _ := f101; generalize vs 101 = x101 at f101 ⊢; subst x101; replace hL := hL.call hE hM hV
                    exact sIx
                  · intro vs W1 m1 hE hM hV hD; obtain ⟨⟨_, _, -, -, f102⟩, -⟩ := hD; have f102 : vs 102 = _ := f102; generalize vs 102 = x102 at f102 ⊢; subst x102; replace hL := hL.call hE hM hV
                    exact sFd
                  · intro vs W1 m1 hE hM hV hD; obtain ⟨⟨_, _, -, -, f103⟩, -⟩ := hD; have f103 : vs 103 = _ := f103; generalize vs 103 = x103 at f103 ⊢; subst x103; replace hL := hL.call hE hM hV
                    exact sLd
                  · intro vs W1 m1 hE hM hV hD; obtain ⟨⟨_, _, -, -, f98⟩, ⟨_, _, -, -, f104⟩, -⟩ := hD; have f98 : vs 98 = _ := f98; generalize vs 98 = x98 at f98 ⊢; subst x98; have f104 : vs 104 = _ := f104; generalize vs 104 = x104 at f104 ⊢; subst x104; replace hL := hL.call hE hM hV
                    exact sPu
                  · intro vs W1 m1 hE hM hV hD; obtain ⟨⟨_, _, -, -, f105⟩, -⟩ := hD; have f105 : vs 105 = _ := f105; generalize vs 105 = x105 at f105 ⊢; subst x105
                    go_wp2_with fail
                    refine (KQ.out _ _ _ hV (by first | exact .inl rfl | exact .inr (.inl rfl) | exact .inr (.inr (.inl rfl)) | exact .inr (.inr (.inr rfl)))).mono ?_
                    rintro e W2 ⟨v, m2, rfl, hE2, hM2, hV2, h⟩
                    go_wp2_with fail
                    refine One2.call hE2 hM2 hV2 ?_; first | exact h | exact rfl
                  · intro vs W1 m1 hE hM hV hD; obtain ⟨⟨_, _, -, -, f91⟩, ⟨_, _, -, i106, f106⟩, -, -⟩ := hD; have f91 : vs 91 = _ := f91; generalize vs 91 = x91 at f91 ⊢; subst x91; have f106 : FracC _ (vs 106) zz := f106; replace f106 := f106.le i106.le; clear i106
                    go_wp2_with fail
                    refine (r_MulC _ _ q zz _ _ hV (hp2.le leX) f106 S5.out S6.out).mono ?_
                    rintro e W2 ⟨v, m2, rfl, hE2, hM2, hV2, h⟩
                    go_wp2_with fail
                    refine One2.call hE2 hM2 hV2 ?_; first | exact h | exact rfl
                  · intro vs W1 m1 hE hM hV hD; obtain ⟨⟨_, _, -, -, f86⟩, ⟨_, _, -, i107, f107⟩, -, -⟩ := hD; have f86 : vs 86 = _ := f86; generalize vs 86 = x86 at f86 ⊢; subst x86; have f107 : FracC _ (vs 107) (q * zz) := f107; replace f107 := f107.le i107.le; clear i107
                    go_wp2_with fail
                    refine (r_AddC _ _ (psum s0 ts (k + j)) (q * zz) _ _ hV (hs1.le leX) f107 S4.out S7.out).mono ?_
                    rintro e W2 ⟨v, m2, rfl, hE2, hM2, hV2, h⟩
                    go_wp2_with fail
                    refine One2.call hE2 hM2 hV2 ?_; first | exact h | exact rfl
                case l22 =>
                  refine ⟨fun h => (by cases h), fun h => (by cases h), fun h => (by cases h), fun h => (by cases h), fun h => (by cases h), fun h => (by cases h), fun h => (by cases h), fun h => (by cases h), fun h => (by cases h), fun h => (by cases h), fun h => (by cases h), fun h => (by cases h), fun h => (by cases h), fun h => (by cases h), fun h => (by cases h), fun h => (by cases h), fun h => (by cases h), fun h => (by cases h), fun h => (by cases h), fun h => (by cases h), fun h => (by cases h), fun h => (by cases h), fun h => (by cases h), trivial⟩
                intro vs W1 m1 hE hM hV hF hD
                clear hD
                obtain ⟨-, -, -, -, -, -, -, -, -, -, -, -, -, -, -, -, -, -, -, -, ⟨_, _, -, i106, f106⟩, ⟨_, _, -, i107, f107⟩, ⟨_, _, -, i108, f108⟩, -⟩ := hF
                replace hL := hL.call hE hM hV
                replace f106 : FracC _ (vs 106) zz := f106
                replace f106 := f106.le i106.le
                clear i106
                replace f107 : FracC _ (vs 107) (q * zz) := f107
                replace f107 := f107.le i107.le
                clear i107
                replace f108 : FracC _ (vs 108) (psum s0 ts (k + j) + q * zz) := f108
                replace f108 := f108.le i108.le
                clear i108
                obtain ⟨g108, A108, n108, c108, h108, B108, k108, d108, e108, f108⟩ := f108.lit
                generalize vs 108 = x108 at e108 ⊢
                subst x108
                clear hE hV
                simp only [List.drop_succ_cons, List.drop_zero]
                go_wp2_with (first | ((with_reducible refine kAny ?_); go_skip) | (with_reducible refine stA ?_) | ((first | refine tIx ?_ | refine tFd ?_ | refine tLd ?_ | ((first | refine tSr ?_ | refine tSt ?_); clear hL; intro _ hL; simp only [splice, zq1, zq2, zq3] at hL) | ((first | refine tBx ?_ | refine tAl ?_); clear hL; intro _ _ hL _)); simp only [Act.put, zq1, zq2, zq3]))
                refine QN.mk ?_
                go_wp2_with (first | ((with_reducible refine kAny ?_); go_skip) | (with_reducible refine stA ?_) | ((first | refine tIx ?_ | refine tFd ?_ | refine tLd ?_ | ((first | refine tSr ?_ | refine tSt ?_); clear hL; intro _ hL; simp only [splice, zq1, zq2, zq3] at hL) | ((first | refine tBx ?_ | refine tAl ?_); clear hL; intro _ _ hL _)); simp only [Act.put, zq1, zq2, zq3]))
                go_roundw
                case rel =>
                  refine ⟨j + 1, _, _, _, _, _, _, _, _, _, by omega, by go_num, hL, ?_⟩
                  rw [← HB.out] at f108
                  exact f108
                case measure => simp [intOf] <;> omega
              · have hjn : Hid (j = nc) := by show _ = _; omega
                clear KV KP KW
                go_wp2_with (first | ((with_reducible refine kAny ?_); go_skip) | (with_reducible refine stA ?_) | ((first | refine tIx ?_ | refine tFd ?_ | refine tLd ?_ | ((first | refine tSr ?_ | refine tSt ?_); clear hL; intro _ hL; simp only [splice, zq1, zq2, zq3] at hL) | ((first | refine tBx ?_ | refine tAl ?_); clear hL; intro _ _ hL _)); simp only [Act.put, zq1, zq2, zq3]))
                refine fin_aggT hL Tryz.results20 rfl rfl loX ag_Frac (by exact rfl) rfl (hL.sub (List.nil_sublist _)) ?_
                refine .inr (.inr ⟨HALL.out, rfl, _, rfl, ?_⟩)
                rw [HBND.out, ← hjn.out]
                exact hs1.le leX
end Go.Proofs.YtmhkmmmompediaaGreat

/- The master problems and prices of the laws are valid (plain). -/
namespace Go.Proofs.YtmhkmmmompediaaGreat
open Go.RowKit

theorem ascP_of {xs : List Int} (h : xs.Pairwise (· < ·)) : AscP xs := by
  intro j x y hx hy
  obtain ⟨h1, e1⟩ := List.getElem?_eq_some_iff.1 hx
  obtain ⟨h2, e2⟩ := List.getElem?_eq_some_iff.1 hy
  have := List.pairwise_iff_getElem.1 h j (j + 1) h1 h2 (by omega)
  rw [e1, e2] at this
  exact this
def selF (rs : List Int) (n k : Int) (i : Nat) : List Int := (List.range i).filterMap fun j => if csBit n j then some (csF rs k j) else none
theorem opT_app (a b : List Task) : opT (a ++ b) = opT a ++ opT b := by simp [opT, List.filterMap_append]
theorem opF_app (a b : List (List Task)) : opF (a ++ b) = opF a ++ opF b := by simp [opF, List.flatMap_append]
theorem opF_one (a : List Task) : opF [a] = opT a := by simp [opF]
theorem opT_one (f : Int) : opT [(f, false)] = [f] := rfl
theorem opT_nil : opT [] = [] := rfl
theorem selF_in {rs : List Int} {n k : Int} {i : Nat} (h : csBit n i = true) : selF rs n k (i + 1) = selF rs n k i ++ [csF rs k i] := by
  unfold selF
  rw [List.range_succ, List.filterMap_append]
  simp [h]
theorem selF_out {rs : List Int} {n k : Int} {i : Nat} (h : csBit n i = false) : selF rs n k (i + 1) = selF rs n k i := by
  unfold selF
  rw [List.range_succ, List.filterMap_append]
  simp [h]
theorem cs_sel (rs : List Int) (n k : Int) : ∀ i, opF (csAt rs n k i).l ++ opT (csAt rs n k i).d = selF rs n k i ∧ ((csAt rs n k i).s = false → selF rs n k i = []) ∧ ((csAt rs n k i).s = true → selF rs n k i ≠ [])
  | 0 => by
    refine ⟨?_, fun _ => rfl, fun h => by simp [csAt] at h⟩
    show opF [] ++ opT (if k % 2 = 1 then [(0, true)] else []) = []
    split <;> rfl
  | i + 1 => by
    obtain ⟨h1, h2, h3⟩ := cs_sel rs n k i
    by_cases hb : csBit n i = true
    · rw [selF_in hb, ← h1]
      simp only [csAt, csStep, hb, if_true]
      split
      · simp [opF_app, opF_one, opT_app, opT_one, opT_nil]
      · simp [opT_app, opT_one]
    · have hb' : csBit n i = false := by simpa using hb
      rw [selF_out hb']
      simp only [csAt, csStep, hb', Bool.false_eq_true, if_false]
      exact ⟨h1, h2, h3⟩
theorem cs_short (rs : List Int) (n k : Int) : ∀ i, ∀ d ∈ (csAt rs n k i).l, d.length ≤ i + 1
  | 0 => by intro d hd; simp [csAt] at hd
  | i + 1 => by
    intro d hd
    have ih := cs_short rs n k i
    have hl := (csAt_len rs n k i).1
    simp only [csAt, csStep] at hd
    split at hd
    · split at hd
      · rcases List.mem_append.1 hd with h | h
        · have := ih d h; omega
        · rcases List.mem_singleton.1 h with rfl
          simp; omega
      · have := ih d hd; omega
    · have := ih d hd; omega
theorem opF_csL (rs : List Int) (n k : Int) : opF (csL rs n k) = if (csAt rs n k rs.length).s then selF rs n k rs.length else [rs.getD (n / 64 % rs.length).toNat 0] := by
  obtain ⟨h1, h2, -⟩ := cs_sel rs n k rs.length
  have hD : opF (csL rs n k) = opF (csAt rs n k rs.length).l ++ opT (csD rs n k) := by
    unfold csL
    split
    · rw [opF_app, opF_one]
    · have : csD rs n k = [] := List.length_eq_zero_iff.1 (by omega)
      rw [this, opT_nil, List.append_nil]
  rw [hD]
  unfold csD
  by_cases hs : (csAt rs n k rs.length).s = true
  · rw [if_pos hs, if_pos hs, h1]
  · rw [if_neg hs, if_neg hs, opT_app, opT_one, ← List.append_assoc, h1, h2 (by simpa using hs)]
    rfl
theorem csF_get {rs : List Int} {k : Int} {j : Nat} (hj : j < rs.length) : ∃ i, i < rs.length ∧ csF rs k j = rs.getD i 0 ∧ (i = j ∨ i = rs.length - 1 - j) ∧ (i = if k / 2 % 8 = 7 then rs.length - 1 - j else j) := by
  unfold csF
  split
  · exact ⟨rs.length - 1 - j, by omega, rfl, .inr rfl, rfl⟩
  · exact ⟨j, hj, rfl, .inl rfl, rfl⟩
theorem getD_mem {rs : List Int} {i : Nat} (h : i < rs.length) : rs.getD i 0 ∈ rs := by
  rw [List.getD_eq_getElem?_getD, List.getElem?_eq_getElem h]
  exact List.getElem_mem h
theorem getD_inj {rs : List Int} (hn : rs.Nodup) {i j : Nat} (hi : i < rs.length) (hj : j < rs.length) (e : rs.getD i 0 = rs.getD j 0) : i = j := by
  rw [List.getD_eq_getElem?_getD, List.getElem?_eq_getElem hi, List.getD_eq_getElem?_getD, List.getElem?_eq_getElem hj] at e
  exact (List.getElem_inj hn).1 e
theorem csF_inj {rs : List Int} {k : Int} (hn : rs.Nodup) {i j : Nat} (hi : i < rs.length) (hj : j < rs.length) (e : csF rs k i = csF rs k j) : i = j := by
  unfold csF at e
  split at e
  · have := getD_inj hn (by omega) (by omega) e
    omega
  · exact getD_inj hn hi hj e
theorem selF_mem {rs : List Int} {n k f : Int} {i : Nat} (h : f ∈ selF rs n k i) : ∃ j, j < i ∧ f = csF rs k j := by
  unfold selF at h
  obtain ⟨j, hj, e⟩ := List.mem_filterMap.1 h
  split at e
  · exact ⟨j, List.mem_range.1 hj, (Option.some.inj e).symm⟩
  · cases e
theorem selF_nodup {rs : List Int} {n k : Int} (hn : rs.Nodup) : ∀ i, i ≤ rs.length → (selF rs n k i).Nodup
  | 0, _ => List.Pairwise.nil
  | i + 1, hi => by
    have ih := selF_nodup (n := n) (k := k) hn i (by omega)
    by_cases hb : csBit n i = true
    · rw [selF_in hb]
      refine List.nodup_append.2 ⟨ih, List.pairwise_singleton _ _, fun a ha b hb' e => ?_⟩
      rcases List.mem_singleton.1 hb' with rfl
      obtain ⟨j, hj, e'⟩ := selF_mem ha
      have := csF_inj (k := k) hn (by omega) (by omega) (e'.symm.trans e)
      omega
    · rw [selF_out (by simpa using hb)]
      exact ih
theorem colF_ok {rs : List Int} {n k : Int} (hn : rs.Nodup) (h1 : 1 ≤ rs.length) (h6 : rs.length ≤ 6) (n0 : 0 ≤ n) : ColOk rs (colF rs n k) := by
  have hl := csAt_len rs n k rs.length
  have hsh := cs_short rs n k rs.length
  have hD : (csD rs n k).length ≤ 8 := by
    unfold csD; split
    · omega
    · simp; omega
  have hop := opF_csL rs n k
  obtain ⟨-, -, h3⟩ := cs_sel rs n k rs.length
  refine ⟨?_, ?_, ?_, ?_, ?_, ?_, ?_⟩
  · show _ ≤ n / 32 % 41 - 5; omega
  · show n / 32 % 41 - 5 ≤ _; omega
  · show (csL rs n k).length ≤ 100
    unfold csL; split
    · simp; omega
    · omega
  · show ∀ d ∈ csL rs n k, d.length ≤ 100
    intro d hd
    unfold csL at hd
    split at hd
    · rcases List.mem_append.1 hd with h | h
      · have := hsh d h; omega
      · rcases List.mem_singleton.1 h with rfl; omega
    · have := hsh d hd; omega
  · show 0 < (opF (csL rs n k)).length
    rw [hop]; split
    · exact List.length_pos_iff.2 (h3 (by assumption))
    · simp
  · show ∀ f ∈ opF (csL rs n k), f ∈ rs
    intro f hf
    rw [hop] at hf
    split at hf
    · obtain ⟨j, hj, rfl⟩ := selF_mem hf
      obtain ⟨i, hi, e, -, -⟩ := csF_get (rs := rs) (k := k) hj
      rw [e]; exact getD_mem hi
    · rcases List.mem_singleton.1 hf with rfl
      have : n / 64 % (rs.length : Int) < rs.length := Int.emod_lt_of_pos _ (by omega)
      exact getD_mem (by omega)
  · show (opF (csL rs n k)).Nodup
    rw [hop]; split
    · exact selF_nodup hn _ (Nat.le_refl _)
    · exact List.pairwise_singleton _ _
theorem rowsT_ok : ∀ i : Fin 6, (rowsT.getD i.1 []).Pairwise (· < ·) ∧ (∀ r ∈ rowsT.getD i.1 [], 0 ≤ r ∧ r < 6) ∧ (rowsT.getD i.1 []).Nodup := by decide
theorem cutT_ok : ∀ i : Fin 6, ∀ s : Fin 5, s.1 < (rowsT.getD i.1 []).length → (cutT (rowsT.getD i.1 []) s.1 (rowsT.getD i.1 []).length).Pairwise (· < ·) ∧ ∀ r ∈ cutT (rowsT.getD i.1 []) s.1 (rowsT.getD i.1 []).length, r ∈ rowsT.getD i.1 [] := by decide
structure RowsOk (rs : List Int) : Prop where
  asc : AscP rs
  low : ∀ r ∈ rs, 0 ≤ r ∧ r < 6
  nd : rs.Nodup
  l3 : 3 ≤ rs.length
  l5 : rs.length ≤ 5
theorem rowsF_ok (l : List Int) : RowsOk (rowsF l) := by
  have h0 := atF_bd l 1 (by omega)
  have h1 : (atF l 1 % 6).toNat < 6 := by omega
  obtain ⟨a, b, c⟩ := rowsT_ok ⟨_, h1⟩
  obtain ⟨d, e⟩ := rowsT_len ⟨_, h1⟩
  exact ⟨ascP_of a, b, c, d, e⟩
structure CutM (rs : List Int) (c : Cut) : Prop where
  asc : AscP c.1
  sub : ∀ r ∈ c.1, r ∈ rs
  two : 2 ≤ c.2
  le : c.2 ≤ (c.1.length : Int)
  l5 : c.1.length ≤ 5
theorem masF_cutM (l : List Int) : ∀ c ∈ (masF l).cuts, CutM (rowsF l) c := by
  intro c hc
  obtain ⟨k, hk, rfl⟩ := List.mem_map.1 hc
  have h0 := atF_bd l 1 (by omega)
  have h3 := atF_bd l 3 (by omega)
  have hk' := List.mem_range.1 hk
  have h20 := atF_bd l (20 + k) (by omega)
  have h1 : (atF l 1 % 6).toNat < 6 := by omega
  have hr := rowsF_ok l
  have hl5 := hr.l5
  have hl3 := hr.l3
  have hs : atF l (20 + k) % ((rowsF l).length : Int) < (rowsF l).length := Int.emod_lt_of_pos _ (by omega)
  have hs0 : 0 ≤ atF l (20 + k) % ((rowsF l).length : Int) := Int.emod_nonneg _ (by omega)
  have hs1 : (atF l (20 + k) % ((rowsF l).length : Int)).toNat < (rowsF l).length := by omega
  have hs5 : (atF l (20 + k) % ((rowsF l).length : Int)).toNat < 5 := by omega
  obtain ⟨a, b⟩ := cutT_ok ⟨_, h1⟩ ⟨_, hs5⟩ hs1
  have c := cutT_long ⟨_, h1⟩ ⟨_, hs5⟩ hs1
  refine ⟨ascP_of a, b, ?_, ?_, Nat.le_trans (cutT_len _ _ _) hl5⟩
  · show 2 ≤ (if atF l (24 + k) % 2 = 1 then (3 : Int) else 2); split <;> decide
  · have c' : 2 < (cutF (rowsF l) l k).1.length := c
    show (if atF l (24 + k) % 2 = 1 then (3 : Int) else 2) ≤ _
    split <;> omega
theorem masF_ok (l : List Int) : MsOk (masF l) := by
  have hr := rowsF_ok l
  have h0 := atF_bd l 0 (by omega)
  have h2 := atF_bd l 2 (by omega)
  have hl5 := hr.l5
  have hl3 := hr.l3
  have hc := masF_cuts l
  refine ⟨by show (0 : Int) ≤ 6; decide, by show (6 : Int) ≤ 200; decide, by show 0 ≤ atF l 0 % 30; omega, by show atF l 0 % 30 ≤ _; omega, by show 1 ≤ (rowsF l).length; omega, by show (rowsF l).length ≤ 32; omega, hr.asc, hr.low, ?_, ?_, by omega, ?_⟩
  · show ((List.range _).map _).length ≤ 1000
    simp only [List.length_map, List.length_range]
    omega
  · intro c hc
    obtain ⟨j, hj, rfl⟩ := List.mem_map.1 hc
    have hj' := List.mem_range.1 hj
    exact colF_ok (rs := rowsF l) hr.nd (by omega) (by omega) (atF_bd l (5 + 2 * j) (by omega)).1
  · intro c hc
    have h := masF_cutM l c hc
    exact ⟨h.asc, h.sub, h.two, h.le, by have := h.l5; omega⟩
theorem rs_negF (q : Rat) : rs (negF q) ≤ 0 := by
  unfold negF
  by_cases h : rs q > 0
  · rw [if_pos h]
    have h1 : 0 < q.num := by
      unfold rs icmp at h
      split at h
      · omega
      · split at h <;> omega
    unfold rs icmp
    rw [Rat.neg_num, if_pos (by omega)]
    decide
  · rw [if_neg h]; omega
theorem deG_des (l : List Int) (n : Nat) (hn : n ≤ 10) : ∀ d ∈ deG l n, 0 ≤ d.1 ∧ d.1 < (6 : Nat) ∧ 0 ≤ d.2.1 ∧ d.2.1 < (6 : Nat) ∧ d.1 ≠ d.2.1 := by
  intro d hd
  unfold deG at hd
  obtain ⟨k, hk, e⟩ := List.mem_filterMap.1 hd
  have hk' := List.mem_range.1 hk
  have h := atF_bd l (21 + k) (by omega)
  unfold deO at e
  split at e
  · cases e
  · cases e
    refine ⟨?_, ?_, ?_, ?_, ?_⟩ <;> simp only <;> omega
theorem prF_prOk (l a : List Int) : PrOk 6 (prF (masF l) a) := by
  have hc := masF_cuts l
  have h20 := atF_bd a 20 (by omega)
  have hde := prF_de (masF l) a
  have hr := rowsF_ok l
  refine ⟨flG_len a 6, by decide, cdG_len a _, by show (masF l).cuts.length ≤ 32; omega, by omega, ?_, ?_, ?_⟩
  · intro c hc
    have h := masF_cutM l c hc
    exact ⟨fun r hx => hr.low r (h.sub r hx), h.asc, h.two, h.le⟩
  · intro q hq
    refine ⟨((prF_tn (masF l) a).cd q hq).fit (by decide), ?_⟩
    obtain ⟨k, _, rfl⟩ := List.mem_map.1 hq
    exact rs_negF _
  · exact deG_des a _ (by omega)
theorem frF3_tw (n : Int) : Tw 1000 (((3 : Int) : Rat) * frF n) := by
  rw [Rat.mul_comm]
  exact ((frF_tw n).mulI (k := 3) (K := 3) (by decide)).mono (by decide)
theorem lag_bq (l a : List Int) (n : Int) (fr : Bool) : BQ 6 (masF l) ⟨(prF (masF l) a).fl, (prF (masF l) a).cu, (prF (masF l) a).cd, (prF (masF l) a).de, fr⟩ (wN n, wD n) := by
  have h0 := atF_bd l 0 (by omega)
  have hp := prF_prOk l a
  have hw := wild_wf n
  refine ⟨rfl, masF_ok l, ⟨hp.fl, hp.f1, hp.cd, hp.k1, hp.k2, hp.cuts, hp.neg, hp.des⟩, by show atF l 0 % 30 ≤ 1000; omega, ?_, ?_, ?_, (wild_tw n).mono (by decide), hw.sm⟩
  · intro q hq
    obtain ⟨i, _, rfl⟩ := List.mem_map.1 hq
    exact frF3_tw _
  · intro q hq
    obtain ⟨i, _, rfl⟩ := List.mem_map.1 hq
    exact (frF_tw _).negF.mono (by decide)
  · intro c hc
    have := (masF_cuts l).2 c hc
    omega
end Go.Proofs.YtmhkmmmompediaaGreat

/- Both bounds alike: the errors, and what the law compares. -/
namespace Go.Proofs.YtmhkmmmompediaaGreat
open Go.RowKit

set_option maxRecDepth 100000 in
set_option maxHeartbeats 16000000 in
theorem m_ValidateMaster_none (nf : Nat) (pen : Int) (A : Option Addr) (c : Nat) (b c' : Value) (w m : World) (hV : Vw m w) (f1 : nf ≤ 200) (p0 : 0 ≤ pen) (p1 : pen ≤ 1000) :
    Calls Tryz.prog 68 #[.agg #[.int .i64 nf, .slice A 0 c, .int .i64 pen, b, c']] w (RetV w m fun _ r => r = .int .i64 10) := by
  have hL := Loc.start hV
  clear hV
  have q1 : ¬ (nf : Int) > 200 := by omega
  have q2 : ¬ (nf : Int) < 0 := by omega
  have q5 : ¬ pen < 0 := by omega
  have q6 : ¬ pen > 4294967296 := by omega
  go_enter Tryz.func68, Tryz.ntmps68
  go_wp2_with (first | ((with_reducible refine kAny ?_); go_skip) | (with_reducible refine stA ?_) | ((first | refine tIx ?_ | refine tFd ?_ | refine tLd ?_ | ((first | refine tSr ?_ | refine tSt ?_); clear hL; intro _ hL; simp only [splice, zq1, zq2, zq3] at hL) | ((first | refine tBx ?_ | refine tAl ?_); clear hL; intro _ _ hL _)); simp only [Act.put, zq1, zq2, zq3]))
  go_ret
  exact RetV.mk hL rfl

set_option maxRecDepth 100000 in
set_option maxHeartbeats 16000000 in
theorem r_ValidateMaster_none (nf : Nat) (pen : Int) (A : Option Addr) (c : Nat) (b c' : Value) (w m : World) (hV : Vw m w) (f1 : nf ≤ 200) (p0 : 0 ≤ pen) (p1 : pen ≤ 1000) :
    Calls Tryz.prog 76 #[.agg #[.int .i64 nf, .slice A 0 c, .int .i64 pen, b, c']] w (RetV w m fun _ r => r = .int .i64 10) := by
  have hL := Loc.start hV
  clear hV
  have q1 : ¬ (nf : Int) > 200 := by omega
  have q2 : ¬ (nf : Int) < 0 := by omega
  have q5 : ¬ pen < 0 := by omega
  have q6 : ¬ pen > 4294967296 := by omega
  go_enter Tryz.func76, Tryz.ntmps76
  go_upto_region 0 with (fail)
  refine wp_region_lit ?_
  refine t_box hL rfl rfl ?_; clear hL; intro Wh1 mh1 hL eh1; simp only [Act.put, zq1, zq2, zq3]
  go_wp2_with (first | ((with_reducible refine kAny ?_); go_skip) | (with_reducible refine stA ?_) | ((first | refine tIx ?_ | refine tFd ?_ | refine tLd ?_ | (refine tBx ?_; clear hL; intro _ _ hL _)); simp only [Act.put, zq1, zq2, zq3]))
  go_ret
  exact RetV.mk hL rfl

set_option maxRecDepth 100000 in
set_option maxHeartbeats 16000000 in
theorem l_Bound_m (a0 a1 a2 a3 a4 b0 b1 b2 b3 b4 l0 l1 l2 l3 : Value) (e : Int) (he : e ≠ 0) (w m : World) (hV : Vw m w)
    (hk : ∀ w m', Vw m' w → Le m m' → Calls Tryz.prog 68 #[.agg #[a0, a1, a2, a3, a4]] w (RetV w m' fun _ r => r = .int .i64 e)) :
    Calls Tryz.prog 18 #[.agg #[a0, a1, a2, a3, a4], .agg #[b0, b1, b2, b3, b4], .agg #[l0, l1, l2, l3]] w (RetV w m fun _ r => r = eR e) := by
  have hL := Loc.start hV
  have KV := Lib.hid hk
  have h1 : (e != 0) = true := by simp; omega
  clear hV hk he
  go_enter Tryz.func18, Tryz.ntmps18
  go_upto_region 0 with (fail)
  refine wp_region_lit ?_
  refine t_box hL rfl rfl ?_; clear hL; intro Wh3 mh3 hL eh3; simp only [Act.put, zq1, zq2, zq3]
  refine t_box hL rfl rfl ?_; clear hL; intro Wh4 mh4 hL eh4; simp only [Act.put, zq1, zq2, zq3]
  refine t_box hL rfl rfl ?_; clear hL; intro Wh5 mh5 hL eh5; simp only [Act.put, zq1, zq2, zq3]
  refine t_alloc hL rfl ?_; clear hL; intro Wh6 mh6 hL eh6; simp only [Act.put, zq1, zq2, zq3]
  go_wp2_with (first | ((with_reducible refine kAny ?_); go_skip) | (with_reducible refine stA ?_) | ((first | refine tIx ?_ | refine tFd ?_ | refine tLd ?_ | ((first | refine tSr ?_ | refine tSt ?_); clear hL; intro _ hL; simp only [splice, zq1, zq2, zq3] at hL) | ((first | refine tBx ?_ | refine tAl ?_); clear hL; intro _ _ hL _)); simp only [Act.put, zq1, zq2, zq3]))
  refine (KV.out _ _ hL.vw leX).mono ?_
  rintro e Wc1 ⟨_, mc1, rfl, hE, hMc1, hV, rfl⟩
  replace hL := hL.call hE (by assumption) hV; clear hE hV
  go_wp2_with (first | ((with_reducible refine kAny ?_); go_skip) | (with_reducible refine stA ?_) | ((first | refine tIx ?_ | refine tFd ?_ | refine tLd ?_ | ((first | refine tSr ?_ | refine tSt ?_); clear hL; intro _ hL; simp only [splice, zq1, zq2, zq3] at hL) | ((first | refine tBx ?_ | refine tAl ?_); clear hL; intro _ _ hL _)); simp only [Act.put, zq1, zq2, zq3]))
  refine fin_aggT hL Tryz.results18 rfl rfl loX ag_Frac (by exact rfl) rfl (hL.sub (List.nil_sublist _)) ?_
  rfl

set_option maxRecDepth 100000 in
set_option maxHeartbeats 16000000 in
theorem l_Bound_p (a0 a1 a2 a3 a4 b0 b1 b2 b3 b4 l0 l1 l2 l3 : Value) (e : Int) (he : e ≠ 0) (w m : World) (hV : Vw m w)
    (hk : ∀ w m', Vw m' w → Le m m' → Calls Tryz.prog 68 #[.agg #[a0, a1, a2, a3, a4]] w (RetV w m' fun _ r => r = .int .i64 0))
    (hk' : ∀ w m', Vw m' w → Le m m' → Calls Tryz.prog 69 #[a0, .agg #[b0, b1, b2, b3, b4]] w (RetV w m' fun _ r => r = .int .i64 e)) :
    Calls Tryz.prog 18 #[.agg #[a0, a1, a2, a3, a4], .agg #[b0, b1, b2, b3, b4], .agg #[l0, l1, l2, l3]] w (RetV w m fun _ r => r = eR e) := by
  have hL := Loc.start hV
  have KV := Lib.hid hk
  have KP := Lib.hid hk'
  have h1 : (e != 0) = true := by simp; omega
  clear hV hk hk' he
  go_enter Tryz.func18, Tryz.ntmps18
  go_upto_region 0 with (fail)
  refine wp_region_lit ?_
  refine t_box hL rfl rfl ?_; clear hL; intro Wh3 mh3 hL eh3; simp only [Act.put, zq1, zq2, zq3]
  refine t_box hL rfl rfl ?_; clear hL; intro Wh4 mh4 hL eh4; simp only [Act.put, zq1, zq2, zq3]
  refine t_box hL rfl rfl ?_; clear hL; intro Wh5 mh5 hL eh5; simp only [Act.put, zq1, zq2, zq3]
  refine t_alloc hL rfl ?_; clear hL; intro Wh6 mh6 hL eh6; simp only [Act.put, zq1, zq2, zq3]
  go_wp2_with (first | ((with_reducible refine kAny ?_); go_skip) | (with_reducible refine stA ?_) | ((first | refine tIx ?_ | refine tFd ?_ | refine tLd ?_ | ((first | refine tSr ?_ | refine tSt ?_); clear hL; intro _ hL; simp only [splice, zq1, zq2, zq3] at hL) | ((first | refine tBx ?_ | refine tAl ?_); clear hL; intro _ _ hL _)); simp only [Act.put, zq1, zq2, zq3]))
  refine (KV.out _ _ hL.vw leX).mono ?_
  rintro e Wc1 ⟨_, mc1, rfl, hE, hMc1, hV, rfl⟩
  replace hL := hL.call hE (by assumption) hV; clear hE hV
  go_wp2_with (first | ((with_reducible refine kAny ?_); go_skip) | (with_reducible refine stA ?_) | ((first | refine tIx ?_ | refine tFd ?_ | refine tLd ?_ | ((first | refine tSr ?_ | refine tSt ?_); clear hL; intro _ hL; simp only [splice, zq1, zq2, zq3] at hL) | ((first | refine tBx ?_ | refine tAl ?_); clear hL; intro _ _ hL _)); simp only [Act.put, zq1, zq2, zq3]))
  refine (KP.out _ _ hL.vw leX).mono ?_
  rintro e Wc2 ⟨_, mc2, rfl, hE, hMc2, hV, rfl⟩
  replace hL := hL.call hE (by assumption) hV; clear hE hV
  go_wp2_with (first | ((with_reducible refine kAny ?_); go_skip) | (with_reducible refine stA ?_) | ((first | refine tIx ?_ | refine tFd ?_ | refine tLd ?_ | ((first | refine tSr ?_ | refine tSt ?_); clear hL; intro _ hL; simp only [splice, zq1, zq2, zq3] at hL) | ((first | refine tBx ?_ | refine tAl ?_); clear hL; intro _ _ hL _)); simp only [Act.put, zq1, zq2, zq3]))
  refine fin_aggT hL Tryz.results18 rfl rfl loX ag_Frac (by exact rfl) rfl (hL.sub (List.nil_sublist _)) ?_
  rfl

set_option maxRecDepth 100000 in
set_option maxHeartbeats 16000000 in
theorem r_Bound_m (a0 a1 a2 a3 a4 b0 b1 b2 b3 b4 l0 l1 l2 l3 : Value) (e : Int) (he : e ≠ 0) (w m : World) (hV : Vw m w)
    (hk : ∀ w m', Vw m' w → Le m m' → Calls Tryz.prog 76 #[.agg #[a0, a1, a2, a3, a4]] w (RetV w m' fun _ r => r = .int .i64 e)) :
    Calls Tryz.prog 20 #[.agg #[a0, a1, a2, a3, a4], .agg #[b0, b1, b2, b3, b4], .agg #[l0, l1, l2, l3]] w (RetV w m fun _ r => r = eR e) := by
  have hL := Loc.start hV
  have KV := Lib.hid hk
  have h1 : (e != 0) = true := by simp; omega
  clear hV hk he
  go_enter Tryz.func20, Tryz.ntmps20
  go_upto_region 0 with (fail)
  refine wp_region_lit ?_
  refine t_box hL rfl rfl ?_; clear hL; intro Wh3 mh3 hL eh3; simp only [Act.put, zq1, zq2, zq3]
  refine t_box hL rfl rfl ?_; clear hL; intro Wh4 mh4 hL eh4; simp only [Act.put, zq1, zq2, zq3]
  refine t_box hL rfl rfl ?_; clear hL; intro Wh5 mh5 hL eh5; simp only [Act.put, zq1, zq2, zq3]
  refine t_alloc hL rfl ?_; clear hL; intro Wh6 mh6 hL eh6; simp only [Act.put, zq1, zq2, zq3]
  go_wp2_with (first | ((with_reducible refine kAny ?_); go_skip) | (with_reducible refine stA ?_) | ((first | refine tIx ?_ | refine tFd ?_ | refine tLd ?_ | ((first | refine tSr ?_ | refine tSt ?_); clear hL; intro _ hL; simp only [splice, zq1, zq2, zq3] at hL) | ((first | refine tBx ?_ | refine tAl ?_); clear hL; intro _ _ hL _)); simp only [Act.put, zq1, zq2, zq3]))
  refine (KV.out _ _ hL.vw leX).mono ?_
  rintro e Wc1 ⟨_, mc1, rfl, hE, hMc1, hV, rfl⟩
  replace hL := hL.call hE (by assumption) hV; clear hE hV
  go_wp2_with (first | ((with_reducible refine kAny ?_); go_skip) | (with_reducible refine stA ?_) | ((first | refine tIx ?_ | refine tFd ?_ | refine tLd ?_ | ((first | refine tSr ?_ | refine tSt ?_); clear hL; intro _ hL; simp only [splice, zq1, zq2, zq3] at hL) | ((first | refine tBx ?_ | refine tAl ?_); clear hL; intro _ _ hL _)); simp only [Act.put, zq1, zq2, zq3]))
  refine fin_aggT hL Tryz.results20 rfl rfl loX ag_Frac (by exact rfl) rfl (hL.sub (List.nil_sublist _)) ?_
  rfl

set_option maxRecDepth 100000 in
set_option maxHeartbeats 16000000 in
theorem r_Bound_p (a0 a1 a2 a3 a4 b0 b1 b2 b3 b4 l0 l1 l2 l3 : Value) (e : Int) (he : e ≠ 0) (w m : World) (hV : Vw m w)
    (hk : ∀ w m', Vw m' w → Le m m' → Calls Tryz.prog 76 #[.agg #[a0, a1, a2, a3, a4]] w (RetV w m' fun _ r => r = .int .i64 0))
    (hk' : ∀ w m', Vw m' w → Le m m' → Calls Tryz.prog 77 #[a0, .agg #[b0, b1, b2, b3, b4]] w (RetV w m' fun _ r => r = .int .i64 e)) :
    Calls Tryz.prog 20 #[.agg #[a0, a1, a2, a3, a4], .agg #[b0, b1, b2, b3, b4], .agg #[l0, l1, l2, l3]] w (RetV w m fun _ r => r = eR e) := by
  have hL := Loc.start hV
  have KV := Lib.hid hk
  have KP := Lib.hid hk'
  have h1 : (e != 0) = true := by simp; omega
  clear hV hk hk' he
  go_enter Tryz.func20, Tryz.ntmps20
  go_upto_region 0 with (fail)
  refine wp_region_lit ?_
  refine t_box hL rfl rfl ?_; clear hL; intro Wh3 mh3 hL eh3; simp only [Act.put, zq1, zq2, zq3]
  refine t_box hL rfl rfl ?_; clear hL; intro Wh4 mh4 hL eh4; simp only [Act.put, zq1, zq2, zq3]
  refine t_box hL rfl rfl ?_; clear hL; intro Wh5 mh5 hL eh5; simp only [Act.put, zq1, zq2, zq3]
  refine t_alloc hL rfl ?_; clear hL; intro Wh6 mh6 hL eh6; simp only [Act.put, zq1, zq2, zq3]
  go_wp2_with (first | ((with_reducible refine kAny ?_); go_skip) | (with_reducible refine stA ?_) | ((first | refine tIx ?_ | refine tFd ?_ | refine tLd ?_ | ((first | refine tSr ?_ | refine tSt ?_); clear hL; intro _ hL; simp only [splice, zq1, zq2, zq3] at hL) | ((first | refine tBx ?_ | refine tAl ?_); clear hL; intro _ _ hL _)); simp only [Act.put, zq1, zq2, zq3]))
  refine (KV.out _ _ hL.vw leX).mono ?_
  rintro e Wc1 ⟨_, mc1, rfl, hE, hMc1, hV, rfl⟩
  replace hL := hL.call hE (by assumption) hV; clear hE hV
  go_wp2_with (first | ((with_reducible refine kAny ?_); go_skip) | (with_reducible refine stA ?_) | ((first | refine tIx ?_ | refine tFd ?_ | refine tLd ?_ | ((first | refine tSr ?_ | refine tSt ?_); clear hL; intro _ hL; simp only [splice, zq1, zq2, zq3] at hL) | ((first | refine tBx ?_ | refine tAl ?_); clear hL; intro _ _ hL _)); simp only [Act.put, zq1, zq2, zq3]))
  refine (KP.out _ _ hL.vw leX).mono ?_
  rintro e Wc2 ⟨_, mc2, rfl, hE, hMc2, hV, rfl⟩
  replace hL := hL.call hE (by assumption) hV; clear hE hV
  go_wp2_with (first | ((with_reducible refine kAny ?_); go_skip) | (with_reducible refine stA ?_) | ((first | refine tIx ?_ | refine tFd ?_ | refine tLd ?_ | ((first | refine tSr ?_ | refine tSt ?_); clear hL; intro _ hL; simp only [splice, zq1, zq2, zq3] at hL) | ((first | refine tBx ?_ | refine tAl ?_); clear hL; intro _ _ hL _)); simp only [Act.put, zq1, zq2, zq3]))
  refine fin_aggT hL Tryz.results20 rfl rfl loX ag_Frac (by exact rfl) rfl (hL.sub (List.nil_sublist _)) ?_
  rfl

def FracP (m : World) (v : Value) (x y : Int) : Prop := ∃ g A n c g' B k d, v = .agg #[.bool g, .slice A n c, .bool g', .slice B k d] ∧ IntC m (.agg #[.bool g, .slice A n c]) x ∧ IntC m (.agg #[.bool g', .slice B k d]) y
theorem FracP.le {m m' : World} {v : Value} {x y : Int} (h : FracP m v x y) (hb : Le m m') : FracP m' v x y := by
  obtain ⟨g, A, n, c, g', B, k, d, e, h1, h2⟩ := h
  exact ⟨g, A, n, c, g', B, k, d, e, h1.le hb, h2.le hb⟩
theorem FracP.lit {m : World} {v : Value} {x y : Int} (h : FracP m v x y) : ∃ g A n c g' B k d, v = .agg #[.bool g, .slice A n c, .bool g', .slice B k d] ∧ FracP m (.agg #[.bool g, .slice A n c, .bool g', .slice B k d]) x y := by
  have h' := h
  obtain ⟨g, A, n, c, g', B, k, d, rfl, -, -⟩ := h
  exact ⟨_, _, _, _, _, _, _, _, rfl, h'⟩
theorem FracP.zero (m : World) : FracP m (.agg #[.bool false, .slice none 0 0, .bool false, .slice none 0 0]) 0 0 := ⟨_, _, _, _, _, _, _, _, rfl, IntC.nil, IntC.nil⟩
theorem FracC.toP {m : World} {v : Value} {q : Rat} (h : FracC m v q) : FracP m v q.num q.den := by
  obtain ⟨g1, A1, n1, c1, h1, B1, k1, d1, rfl, ha⟩ := h.lit
  obtain ⟨a1, a2⟩ := ha.open_
  exact ⟨_, _, _, _, _, _, _, _, rfl, a1, a2⟩

set_option maxRecDepth 100000 in
set_option maxHeartbeats 8000000 in
theorem r_SameP (a b : Value) (x y : Int) (w m : World) (hV : Vw m w) (ha : FracP m a x y) (hb : FracP m b x y) (l1 : (digs x.natAbs).length ≤ 1000) (l2 : (digs y.natAbs).length ≤ 1000) :
    Calls Tryz.prog 21 #[a, b] w (RetV w m fun _ r => r = .bool true) := by
  obtain ⟨g1, A1, n1, c1, h1, B1, k1, d1, rfl, a1, a2⟩ := ha
  obtain ⟨g2, A2, n2, c2, h2, B2, k2, d2, rfl, b1, b2⟩ := hb
  have hL := Loc.start hV
  clear hV
  go_enter Tryz.func21, Tryz.ntmps21
  go_wp2_with (first | ((with_reducible refine kAny ?_); go_skip) | (with_reducible refine stA ?_) | ((first | refine tFd ?_ | refine tLd ?_ | (refine tBx ?_; clear hL; intro _ _ hL _)); simp only [Act.put, zq1, zq2, zq3]))
  refine (c_SameInt _ _ x _ _ hL.vw (a1.le leX) (b1.le leX) l1).mono ?_
  rintro e W1 ⟨_, m1, rfl, hE, hM1, hV, rfl⟩
  replace hL := hL.call hE (by assumption) hV; clear hE hV
  go_wp2_with (first | ((with_reducible refine kAny ?_); go_skip) | (with_reducible refine stA ?_) | ((first | refine tFd ?_ | refine tLd ?_ | (refine tBx ?_; clear hL; intro _ _ hL _)); simp only [Act.put, zq1, zq2, zq3]))
  refine (c_SameInt _ _ y _ _ hL.vw (a2.le leX) (b2.le leX) l2).mono ?_
  rintro e W2 ⟨_, m2, rfl, hE, hM2, hV, rfl⟩
  replace hL := hL.call hE (by assumption) hV; clear hE hV
  go_wp2_with (first | ((with_reducible refine kAny ?_); go_skip) | (with_reducible refine stA ?_) | ((first | refine tFd ?_ | refine tLd ?_ | (refine tBx ?_; clear hL; intro _ _ hL _)); simp only [Act.put, zq1, zq2, zq3]))
  go_ret
  exact RetV.mk hL rfl

def BvR (m : World) (r : Value) (x y e : Int) : Prop := ∃ v, r = .tuple #[v, .int .i64 e] ∧ FracP m v x y
theorem BvR.le {m m' : World} {r : Value} {x y e : Int} (h : BvR m r x y e) (hb : Le m m') : BvR m' r x y e := by
  obtain ⟨v, h1, h2⟩ := h
  exact ⟨v, h1, h2.le hb⟩
theorem eR_R (m : World) (e : Int) : BvR m (eR e) 0 0 e := ⟨_, rfl, FracP.zero m⟩
def BothB (m : World) (xv pv : Value) (lp : SF) : Prop := ∃ x y e : Int, (digs x.natAbs).length ≤ 1000 ∧ (digs y.natAbs).length ≤ 1000 ∧
  (∀ w m' lv, Vw m' w → Le m m' → FrG m' lv lp.1 lp.2 → Calls Tryz.prog 18 #[xv, pv, lv] w (RetV w m' fun m'' r => BvR m'' r x y e)) ∧
  (∀ w m' lv, Vw m' w → Le m m' → FrG m' lv lp.1 lp.2 → Calls Tryz.prog 20 #[xv, pv, lv] w (RetV w m' fun m'' r => BvR m'' r x y e))
theorem z_len : (digs (0 : Int).natAbs).length ≤ 1000 := by simp [digs_zero]
theorem RetV.imp {w m : World} {R R' : World → Value → Prop} {e : Ending} {w' : World} (h : RetV w m R e w') (hi : ∀ m' r, R m' r → R' m' r) : RetV w m R' e w' := by
  obtain ⟨v, m', h1, h2, h3, h4, h5⟩ := h
  exact ⟨v, m', h1, h2, h3, h4, hi _ _ h5⟩
theorem bothB_ok {m : World} {xv pv : Value} {nf : Nat} {x : Ms} {p : Pr} {lp : SF} (hx : MasterR m xv x) (hp : PricesR m pv p) (ok : BQ nf x p lp) : BothB m xv pv lp := by
  have k1 := fun w m' lv (hV : Vw m' w) (hl : Le m m') hlv => l_Bound xv pv lv nf x p lp w m' hV (hx.le hl) (hp.le hl) hlv ok
  have k2 := fun w m' lv (hV : Vw m' w) (hl : Le m m') hlv => r_Bound xv pv lv nf x p lp w m' hV (hx.le hl) (hp.le hl) hlv ok
  by_cases h : AllIn p.cu x.rows
  · by_cases hf : p.fr = true
    · have key : ∀ m' r, BoR m' r x p lp → BvR m' r 0 0 16 := by
        rintro m' r (⟨h', -⟩ | ⟨-, -, rfl⟩ | ⟨-, h', -⟩)
        · exact absurd h h'
        · exact eR_R _ _
        · rw [hf] at h'; cases h'
      exact ⟨0, 0, 16, z_len, z_len, fun w m' lv hV hl hlv => (k1 w m' lv hV hl hlv).mono fun _ _ h => h.imp key, fun w m' lv hV hl hlv => (k2 w m' lv hV hl hlv).mono fun _ _ h => h.imp key⟩
    · have key : ∀ m' r, BoR m' r x p lp → BvR m' r (bnd x p lp).num (bnd x p lp).den 0 := by
        rintro m' r (⟨h', -⟩ | ⟨-, h', -⟩ | ⟨-, -, v, rfl, hv⟩)
        · exact absurd h h'
        · exact absurd h' hf
        · exact ⟨v, rfl, hv.toP⟩
      have hfit : Fit 200 (bnd x p lp) := by
        unfold bnd
        exact ((ok.psum_tw tw0 _ (Nat.le_refl _)).add ok.tail_tw).fit (by decide)
      exact ⟨_, _, 0, hfit.num (by decide), hfit.den (by decide), fun w m' lv hV hl hlv => (k1 w m' lv hV hl hlv).mono fun _ _ h => h.imp key, fun w m' lv hV hl hlv => (k2 w m' lv hV hl hlv).mono fun _ _ h => h.imp key⟩
  · have key : ∀ m' r, BoR m' r x p lp → BvR m' r 0 0 5 := by
      rintro m' r (⟨-, rfl⟩ | ⟨h', -⟩ | ⟨h', -⟩)
      · exact eR_R _ _
      · exact absurd h' h
      · exact absurd h' h
    exact ⟨0, 0, 5, z_len, z_len, fun w m' lv hV hl hlv => (k1 w m' lv hV hl hlv).mono fun _ _ h => h.imp key, fun w m' lv hV hl hlv => (k2 w m' lv hV hl hlv).mono fun _ _ h => h.imp key⟩
theorem bothB_len {m : World} {xv : Value} {x : Ms} {lp : SF} (hx : MasterR m xv x) (ok : MsOk x) {nf n : Nat} (hnf : x.nf = nf) (A : Option Addr) (c : Nat) (b1 b2 b3 b4 : Value) (hn : n ≠ nf) (h1 : nf ≤ 1000) (h2 : n ≤ 1000) : BothB m xv (.agg #[.slice A n c, b1, b2, b3, b4]) lp := by
  have k1 := fun w m' (hV : Vw m' w) (hl : Le m m') => m_ValidateMaster xv x w m' hV (hx.le hl) ok
  have k2 := fun w m' (hV : Vw m' w) (hl : Le m m') => r_ValidateMaster xv x w m' hV (hx.le hl) ok
  obtain ⟨a, b, c', rfl, -, -, -⟩ := hx
  rw [hnf] at k1 k2 ⊢
  refine ⟨0, 0, 12, z_len, z_len, fun w m' lv hV hl hlv => ?_, fun w m' lv hV hl hlv => ?_⟩
  · obtain ⟨g, A9, n9, c9, f, B9, k9, d9, rfl, -⟩ := hlv.lit
    refine (l_Bound_p _ _ _ _ _ _ _ _ _ _ _ _ _ _ 12 (by decide) w m' hV (fun w m'' hV h => k1 w m'' hV (hl.trans h)) (fun w m'' hV h => e_ValidatePrices_len A nf n c b1 b2 b3 b4 w m'' hV hn h1 h2)).mono fun _ _ h => h.imp ?_
    rintro m3 r rfl
    exact eR_R _ _
  · obtain ⟨g, A9, n9, c9, f, B9, k9, d9, rfl, -⟩ := hlv.lit
    refine (r_Bound_p _ _ _ _ _ _ _ _ _ _ _ _ _ _ 12 (by decide) w m' hV (fun w m'' hV h => k2 w m'' hV (hl.trans h)) (fun w m'' hV h => r_ValidatePrices_len A nf n c b1 b2 b3 b4 w m'' hV hn h1 h2)).mono fun _ _ h => h.imp ?_
    rintro m3 r rfl
    exact eR_R _ _
theorem bothB_none (m : World) (nf : Nat) (pen : Int) (A : Option Addr) (c : Nat) (b c' b0 b1 b2 b3 b4 : Value) (lp : SF) (f1 : nf ≤ 200) (p0 : 0 ≤ pen) (p1 : pen ≤ 1000) : BothB m (.agg #[.int .i64 nf, .slice A 0 c, .int .i64 pen, b, c']) (.agg #[b0, b1, b2, b3, b4]) lp := by
  refine ⟨0, 0, 10, z_len, z_len, fun w m' lv hV hl hlv => ?_, fun w m' lv hV hl hlv => ?_⟩
  · obtain ⟨g, A9, n9, c9, f, B9, k9, d9, rfl, -⟩ := hlv.lit
    refine (l_Bound_m _ _ _ _ _ _ _ _ _ _ _ _ _ _ 10 (by decide) w m' hV (fun w m'' hV h => m_ValidateMaster_none nf pen A c b c' w m'' hV f1 p0 p1)).mono fun _ _ h => h.imp ?_
    rintro m3 r rfl
    exact eR_R _ _
  · obtain ⟨g, A9, n9, c9, f, B9, k9, d9, rfl, -⟩ := hlv.lit
    refine (r_Bound_m _ _ _ _ _ _ _ _ _ _ _ _ _ _ 10 (by decide) w m' hV (fun w m'' hV h => r_ValidateMaster_none nf pen A c b c' w m'' hV f1 p0 p1)).mono fun _ _ h => h.imp ?_
    rintro m3 r rfl
    exact eR_R _ _
def prX (p : Pr) : Pr := ⟨p.fl, p.cu ++ [([0, 5], 2)], p.cd ++ [((-1 : Int) : Rat)], p.de, false⟩
theorem neg1_rs : rs ((-1 : Int) : Rat) = -1 := by decide
theorem lag_bqx (l a : List Int) (n : Int) : BQ 6 (masF l) (prX (prF (masF l) a)) (wN n, wD n) := by
  have h := lag_bq l a n false
  have hc := masF_cuts l
  have hp := h.pr
  have t1 : Tw 12 ((-1 : Int) : Rat) := Tw.int (K := 1) (by decide)
  refine ⟨rfl, h.ms, ⟨hp.fl, hp.f1, ?_, ?_, hp.k2, ?_, ?_, hp.des⟩, h.pen, h.fl, ?_, ?_, h.lo, h.sl⟩
  · show ((prF (masF l) a).cd ++ [_]).length = ((prF (masF l) a).cu ++ [_]).length
    rw [List.length_append, List.length_append]
    exact congrArg (· + 1) hp.cd
  · show ((masF l).cuts ++ [_]).length ≤ 32
    simp; omega
  · intro c hc
    rcases List.mem_append.1 hc with hc | hc
    · exact hp.cuts c hc
    · rcases List.mem_singleton.1 hc with rfl
      exact ⟨by decide, ascP_of (by decide), by decide, by decide⟩
  · intro q hq
    rcases List.mem_append.1 hq with hq | hq
    · exact hp.neg q hq
    · rcases List.mem_singleton.1 hq with rfl
      exact ⟨t1.fit (by decide), by rw [neg1_rs]; decide⟩
  · intro q hq
    rcases List.mem_append.1 hq with hq | hq
    · exact h.cd q hq
    · rcases List.mem_singleton.1 hq with rfl
      exact t1.mono (by decide)
  · intro c hc
    rcases List.mem_append.1 hc with hc | hc
    · exact h.cu c hc
    · rcases List.mem_singleton.1 hc with rfl
      decide
end Go.Proofs.YtmhkmmmompediaaGreat

/- One operation of a region that draws its order, walked by the laws over a list of known blocks. No program. -/
namespace Go.Proofs.YtmhkmmmompediaaGreat
open Go.RowKit
section
variable {P : Program} {ops : Array Oper} {Q : Exit → Act → World → Prop} {S : World → Prop}
def StepL (P : Program) (ops : Array Oper) (Q : Exit → Act → World → Prop) (S : World → Prop) (s fuel : Nat) (listed : Array Bool) (i : Nat) (e : Exit) (a : Act) (w : World) : Prop :=
  e = .normal ∧ ((listed.setIfInBounds i true).getD s false = false → S w) ∧ wpL P ops Q S s fuel (listed.setIfInBounds i true) a w
theorem StepL.mk {s fuel i : Nat} {listed : Array Bool} {a : Act} {w : World} (hS : S w) (h : wpL P ops Q S s fuel (listed.setIfInBounds i true) a w) : StepL P ops Q S s fuel listed i .normal a w := ⟨rfl, fun _ => hS, h⟩
theorem StepL.mkL {s fuel i : Nat} {listed : Array Bool} {a : Act} {w : World} (hs : (listed.setIfInBounds i true).getD s false = true) (h : wpL P ops Q S s fuel (listed.setIfInBounds i true) a w) : StepL P ops Q S s fuel listed i .normal a w :=
  ⟨rfl, (fun h0 => by rw [hs] at h0; cases h0), h⟩
theorem AllL.one {s fuel : Nat} {listed : Array Bool} {a : Act} {w : World} {i : Nat} {o : Oper} {rs : List Nat} (ho : ops.toList[i]? = some o)
    (h : wpList P ops (StepL P ops Q S s fuel listed i) [o] a w) (hs : AllL P ops Q S s fuel listed a w rs) : AllL P ops Q S s fuel listed a w (i :: rs) := fun j hj => by
  rcases List.mem_cons.1 hj with rfl | hj
  · exact wpOp_of_one (by rw [← Array.getElem?_toList]; exact ho) (fun _ _ _ h => h.1) (fun _ _ h => h.2) h
  · exact hs j hj
theorem wpL_one {s : Nat} (i : Nat) {o : Oper} {fuel : Nat} {listed : Array Bool} {a : Act} {w : World} (hr : Region.ready .any ops listed = [i]) (ho : ops.toList[i]? = some o)
    (h : wpList P ops (StepL P ops Q S s fuel listed i) [o] a w) : wpL P ops Q S s (fuel + 1) listed a w := wpL_ready [i] hr (by simp) (AllL.one ho h AllL.nil)
theorem wpL_two {s : Nat} (i j : Nat) {o p : Oper} {fuel : Nat} {listed : Array Bool} {a : Act} {w : World} (hr : Region.ready .any ops listed = [i, j]) (ho : ops.toList[i]? = some o) (hp : ops.toList[j]? = some p)
    (h : wpList P ops (StepL P ops Q S s fuel listed i) [o] a w) (h' : wpList P ops (StepL P ops Q S s fuel listed j) [p] a w) : wpL P ops Q S s (fuel + 1) listed a w := wpL_ready [i, j] hr (by simp) (AllL.one ho h (AllL.one hp h' AllL.nil))
end
end Go.Proofs.YtmhkmmmompediaaGreat
