/- Part 5 of 7 of the proof: the laws BranchChildren and BranchFits return true for every input, and its arguments read as before; there is no condition. -/
import Derived.Test.YtmhkmmmompediaaGreatBR4
set_option linter.unusedVariables false
set_option linter.unusedSimpArgs false
/- Contract of branch.Choose. -/
namespace Go.Proofs.YtmhkmmmompediaaGreat
open Go.RowKit

theorem results_tmp4 {fn : Func} {t u v x : Tmp} (h : fn.results = #[.tmp t, .tmp u, .tmp v, .tmp x]) (tmps : Array Value) (P : Program) (w : World) :
    (results fn tmps).run P w = .ok (.tuple #[tmps.getD t undef, tmps.getD u undef, tmps.getD v undef, tmps.getD x undef]) w := by
  simp [results, h]

theorem zc_Fol : zc Tryz.prog 139 = some #[.int .i64 0, .int .i64 0, .bool false, .slice none 0 0, .bool false, .slice none 0 0] := by kernel_rfl
instance iAC10_1 : ZcC Tryz.prog 139 #[.int .i64 0, .int .i64 0, .bool false, .slice none 0 0, .bool false, .slice none 0 0] := ⟨zc_Fol⟩
theorem fd_Fol0 : fdS Tryz.prog 139 0 = some 0 := by kernel_rfl
instance iAC10_2 : FdC Tryz.prog 139 0 0 := ⟨fd_Fol0⟩
theorem fd_Fol1 : fdS Tryz.prog 139 1 = some 1 := by kernel_rfl
instance iAC10_3 : FdC Tryz.prog 139 1 1 := ⟨fd_Fol1⟩
theorem fd_Fol2 : fdS Tryz.prog 139 2 = some 2 := by kernel_rfl
instance iAC10_4 : FdC Tryz.prog 139 2 2 := ⟨fd_Fol2⟩
theorem ld4 (a b v0 v1 v2 v3 : Value) : ∀ j, j < 4 → (#[a, b, v0, v1, v2, v3] : Array Value)[2 + j]? = [v0, v1, v2, v3][j]? := by
  intro j hj
  match j, hj with
  | 0, _ => rfl
  | 1, _ => rfl
  | 2, _ => rfl
  | 3, _ => rfl

def partR (q : Rat) : Rat := q - (flr q : Rat)
def halfR : Rat := Rat.divInt 1 2
def distR (q : Rat) : Rat := absR (partR q - halfR)
structure Pk where
  f : Int
  n : Int
  s : Bool
  b : Rat
def pickS (p : Pk) (y : PQ) : Pk :=
  if rs (partR y.2) = 0 then p else if p.s = false ∨ rs (distR y.2 - p.b) < 0 then ⟨y.1.1, y.1.2, true, distR y.2⟩ else p
def pickF (ys : List PQ) : Pk := ys.foldl pickS ⟨0, 0, false, 0⟩
def pickT (ys : List PQ) (k : Nat) : Pk := pickF (ys.take k)
theorem pickT_step {ys : List PQ} {k : Nat} {y : PQ} (h : ys[k]? = some y) : pickT ys (k + 1) = pickS (pickT ys k) y := by
  unfold pickT pickF
  rw [← take_snoc h, List.foldl_append]; rfl
theorem pickT_end {ys : List PQ} {k : Nat} (h : ys.length ≤ k) : pickT ys k = pickF ys := by unfold pickT; rw [List.take_of_length_le h]
theorem half_tw : Tw 6 halfR := ⟨6, by unfold halfR; rw [← Rat.divInt_mul_right (n := 1) (d := 2) (a := 6) (by decide)]; rfl, by decide⟩
theorem flr_le (q : Rat) : (flr q).natAbs ≤ q.num.natAbs := Int.natAbs_ediv_le_natAbs _ _
theorem Tw.num_le {B : Nat} {q : Rat} (h : Tw B q) : q.num.natAbs ≤ B := by
  obtain ⟨z, rfl, hz⟩ := h
  rw [(frac_pos (by decide)).1]
  exact Nat.le_trans (Int.natAbs_ediv_le_natAbs _ _) hz
theorem Tw.part {B : Nat} {q : Rat} (h : Tw B q) : Tw (B + B * 12) (partR q) := h.sub (Tw.int (Nat.le_trans (flr_le q) h.num_le))
theorem absR_or (q : Rat) : absR q = q ∨ absR q = -q := by
  unfold absR
  by_cases h : q.num < 0
  · right
    have : (q.num.natAbs : Int) = -q.num := by omega
    rw [this, ← Rat.neg_divInt, Rat.num_divInt_den]
  · left
    have : (q.num.natAbs : Int) = q.num := by omega
    rw [this, Rat.num_divInt_den]
theorem Tw.abs {B : Nat} {q : Rat} (h : Tw B q) : Tw B (absR q) := by
  rcases absR_or q with e | e <;> rw [e]
  · exact h
  · exact h.neg
theorem Tw.dist {B : Nat} {q : Rat} (h : Tw B q) : Tw (B + B * 12 + 6) (distR q) := (h.part.sub half_tw).abs
theorem pick_tw {ys : List PQ} (h : ∀ y ∈ ys, Tw 117000 y.2) : ∀ k, (pickT ys k).s = true → Tw 1600000 (pickT ys k).b := by
  intro k
  induction k with
  | zero => intro h0; simp [pickT, pickF] at h0
  | succ k ih =>
    intro hs
    cases hk : ys[k]? with
    | none =>
      have e : pickT ys (k + 1) = pickT ys k := by
        unfold pickT
        have := List.getElem?_eq_none_iff.1 hk
        rw [List.take_of_length_le (by omega), List.take_of_length_le (by omega)]
      rw [e] at hs ⊢; exact ih hs
    | some y =>
      rw [pickT_step hk] at hs ⊢
      unfold pickS at hs ⊢
      split at hs
      · rw [if_pos (by assumption)]; exact ih hs
      · rw [if_neg (by assumption)]
        split at hs
        · rw [if_pos (by assumption)]
          exact (h y (List.mem_of_getElem? hk)).dist.mono (by decide)
        · rw [if_neg (by assumption)]; exact ih hs
theorem q_CompareC (a b : Value) (p q : Rat) (w m : World) (hV : Vw m w) (ha : FracC m a p) (hb : FracC m b q) (hs : Sm p.num p.den) (hs' : Sm q.num q.den) :
    Calls Tryz.prog 83 #[a, b] w (RetV w m fun _ r => r = .int .i64 (rs (p - q))) := by
  have h := q_Compare a b p.num p.den q.num q.den w m hV (ha.toS hs) (hb.toS hs') hs hs'
  rw [← rs_cmp, Rat.num_divInt_den, Rat.num_divInt_den] at h
  exact h
theorem FolL.at_ {m : World} {A : Option Addr} {n c : Nat} {ys : List PQ} (h : FolL m (.slice A n c) ys) {k : Nat} {y : PQ} (hk : ys[k]? = some y) :
    ∃ b off g A' n' c' f B p q, A = some ⟨b, off, none⟩ ∧ FracC m (.agg #[.bool g, .slice A' n' c', .bool f, .slice B p q]) y.2 ∧ m.rangeAt b (off + k * 6) [.int .i64 y.1.1, .int .i64 y.1.2, .bool g, .slice A' n' c', .bool f, .slice B p q] := by
  obtain ⟨b, off, v, e, ⟨f, rfl, e1, e2, hf⟩, _, hr⟩ := ListV.at_ h (by omega) hk
  refine ⟨b, off, _, _, _, _, _, _, _, _, e, hf, ?_⟩
  rw [← e1, ← e2]
  exact hr
theorem pick_some {ys : List PQ} {k : Nat} {y : PQ} (h : ys[k]? = some y) (h0 : ¬ rs (partR y.2) = 0) (h1 : (pickT ys k).s = false ∨ rs (distR y.2 - (pickT ys k).b) < 0) : pickT ys (k + 1) = ⟨y.1.1, y.1.2, true, distR y.2⟩ := by
  rw [pickT_step h]; unfold pickS; rw [if_neg h0, if_pos h1]
theorem pick_same {ys : List PQ} {k : Nat} {y : PQ} (h : ys[k]? = some y) (h0 : rs (partR y.2) = 0 ∨ ((pickT ys k).s = true ∧ ¬ rs (distR y.2 - (pickT ys k).b) < 0)) : pickT ys (k + 1) = pickT ys k := by
  rw [pickT_step h]; unfold pickS
  rcases h0 with h0 | ⟨h1, h2⟩
  · rw [if_pos h0]
  · split
    · rfl
    · rw [if_neg (by rw [h1]; simpa using h2)]

set_option maxRecDepth 100000 in
set_option maxHeartbeats 32000000 in
theorem b_Choose (xv vv : Value) (x : Ms) (vs : List Rat) (w m : World) (hV : Vw m w) (hx : MasterR m xv x) (hvv : FracL m vv vs) (ok : VOk x vs) :
    Calls Tryz.prog 49 #[xv, vv] w (RetV w m fun _ r => ∃ ys, IsFol (entS x.cols vs x.cols.length) ys ∧ r = .tuple #[.int .i64 (pickF ys).f, .int .i64 (pickF ys).n, .bool (pickF ys).s, .int .i64 0]) := by
  have HX := Lib.hid hx
  have HVV := Lib.hid hvv
  obtain ⟨A, nr, ca, B, nc, cb, C, nk, cc, rfl, hx1⟩ := hx.lit
  obtain ⟨V, cv, rfl, hcv, hvv1⟩ := hvv.lit
  have KV : Hid (∀ w m', Vw m' w → Le m m' → Calls Tryz.prog 112 #[.agg #[.int .i64 x.nf, .slice A nr ca, .int .i64 x.pen, .slice B nc cb, .slice C nk cc], .slice V vs.length cv] w (RetV w m' fun _ r => r = .int .i64 0)) := by
    show ∀ w m', _
    exact fun w m' hV hle => b_check _ x V vs.length cv 0 w m' hV (HX.out.le hle) ok.ms (by rw [if_pos ok.len])
  have KF : Hid (∀ w m', Vw m' w → Le m m' → Calls Tryz.prog 113 #[.agg #[.int .i64 x.nf, .slice A nr ca, .int .i64 x.pen, .slice B nc cb, .slice C nk cc], .slice V vs.length cv] w (RetV w m' fun m' r => ∃ ys, IsFol (entS x.cols vs x.cols.length) ys ∧ FolL m' r ys)) := by
    show ∀ w m', _
    exact fun w m' hV hle => b_follows _ _ x vs w m' hV (HX.out.le hle) (FracL.le HVV.out hle) ok
  have HTW : Hid (∀ ys, IsFol (entS x.cols vs x.cols.length) ys → ∀ y ∈ ys, Tw 117000 y.2) := by
    show ∀ ys, _
    intro ys h y hy
    rw [((h.2 y).1 hy).1]
    exact sum_tw (fun e he => (ok.entS_mem he).1) (Nat.le_trans (ok.entS_len _) (by decide)) _
  have HLN : Hid (∀ ys, IsFol (entS x.cols vs x.cols.length) ys → ys.length ≤ 1000000) := by
    show ∀ ys, _
    intro ys h
    have h1 : (ys.map Prod.fst).Nodup := by
      refine List.pairwise_map.2 (h.1.imp_of_mem fun {a b} ha hb hab e => ?_)
      unfold ltP at hab; rw [e] at hab; omega
    have h2 : ys.length ≤ (entS x.cols vs x.cols.length).length := by
      have h3 : ∀ p ∈ ys.map Prod.fst, p ∈ (entS x.cols vs x.cols.length).map Prod.fst := fun p hp => by
        obtain ⟨y, hy, rfl⟩ := List.mem_map.1 hp
        obtain ⟨e1, e2⟩ := (h.2 y).1 hy
        by_cases he : ∃ e ∈ entS x.cols vs x.cols.length, e.1 = y.1
        · obtain ⟨e, he, e3⟩ := he
          exact List.mem_map.2 ⟨e, he, e3⟩
        · exact absurd (e1.trans (sumAt_none fun e h h' => he ⟨e, h, h'⟩)) e2
      have := nodup_lengthP h1 h3
      simpa using this
    exact Nat.le_trans h2 (Nat.le_trans (ok.entS_len _) (by decide))
  have hL := Loc.start hV
  clear hV hx1 HX hvv1 HVV ok
  generalize x.nf = nf at *
  generalize x.pen = pen at *
  generalize vs.length = nv at *
  generalize entS x.cols vs x.cols.length = SS at *
  go_enter Tryz.func49, Tryz.ntmps49
  go_upto_region 0 with (fail)
  refine wp_region_lit ?_
  refine t_box hL rfl rfl ?_; clear hL; intro Wh2 mh2 hL eh2; simp only [Act.put, zq1, zq2, zq3]
  go_wp2_with (first | ((with_reducible refine kAny ?_); go_skip) | (with_reducible refine stA ?_) | ((first | refine tIx ?_ | refine tFd ?_ | refine tLd ?_ | ((first | refine tSr ?_ | refine tSt ?_); clear hL; intro _ hL; simp only [splice, zq1, zq2, zq3] at hL) | ((first | refine tBx ?_ | refine tAl ?_); clear hL; intro _ _ hL _)); simp only [Act.put, zq1, zq2, zq3]))
  refine (KV.out _ _ hL.vw leX).mono ?_
  rintro e Wc1 ⟨_, mc1, rfl, hE, hMc1, hV, rfl⟩
  replace hL := hL.call hE (by assumption) hV; clear hE hV
  go_wp2_with (first | ((with_reducible refine kAny ?_); go_skip) | (with_reducible refine stA ?_) | ((first | refine tIx ?_ | refine tFd ?_ | refine tLd ?_ | ((first | refine tSr ?_ | refine tSt ?_); clear hL; intro _ hL; simp only [splice, zq1, zq2, zq3] at hL) | ((first | refine tBx ?_ | refine tAl ?_); clear hL; intro _ _ hL _)); simp only [Act.put, zq1, zq2, zq3]))
  refine (q_FromInts 1 2 _ _ hL.vw (by decide) (by decide) (by decide)).mono ?_
  rintro e Wc2 ⟨_, mc2, rfl, hE, hMc2, hV, vh, rfl, hvh⟩
  replace hL := hL.call hE (by assumption) hV; clear hE hV
  obtain ⟨gh, Ah, nh, ch, fh, Bh, ph, qh, rfl, hvh⟩ := hvh.lit
  have HH : Hid (FracC mc2 (.agg #[.bool gh, .slice Ah nh ch, .bool fh, .slice Bh ph qh]) halfR) := hvh
  clear hvh
  go_upto_region 5 with ((first | ((with_reducible refine kAny ?_); go_skip) | (with_reducible refine stA ?_) | ((first | refine tIx ?_ | refine tFd ?_ | refine tLd ?_ | ((first | refine tSr ?_ | refine tSt ?_); clear hL; intro _ hL; simp only [splice, zq1, zq2, zq3] at hL) | ((first | refine tBx ?_ | refine tAl ?_); clear hL; intro _ _ hL _)); simp only [Act.put, zq1, zq2, zq3])))
  obtain ⟨w5, rfl⟩ := hL.world
  go_wp2_with (first | ((with_reducible refine kAny ?_); go_skip) | (with_reducible refine stA ?_) | ((first | refine tIx ?_ | refine tFd ?_ | refine tLd ?_ | ((first | refine tSr ?_ | refine tSt ?_); clear hL; intro _ hL; simp only [splice, zq1, zq2, zq3] at hL) | ((first | refine tBx ?_ | refine tAl ?_); clear hL; intro _ _ hL _)); simp only [Act.put, zq1, zq2, zq3]))
  refine (KF.out _ _ hL.vw leX).mono ?_
  rintro e Wc3 ⟨vc3, mc3, rfl, hE, hMc3, hV, hc3⟩
  replace hL := hL.call hE (by assumption) hV; clear hE hV
  obtain ⟨ys, hf, hl⟩ := hc3
  obtain ⟨Y, cy, rfl, hcy, hl⟩ := hl.lit
  have HF := Lib.hid hf
  have HY := Lib.hid hl
  have HT := Lib.hid (HTW.out ys hf)
  have HPT : Hid (∀ k, (pickT ys k).s = true → Tw 1600000 (pickT ys k).b) := by show ∀ k, _; exact pick_tw HT.out
  have hny := HLN.out ys hf
  have HH3 : Hid (FracC mc3 (.agg #[.bool gh, .slice Ah nh ch, .bool fh, .slice Bh ph qh]) halfR) := HH.out.le leX
  clear hf hl KV KF HTW HLN HH
  generalize hn : ys.length = ny at *
  have HN := Lib.hid hn
  clear hn
  go_wp2_with (first | ((with_reducible refine kAny ?_); go_skip) | (with_reducible refine stA ?_) | ((first | refine tIx ?_ | refine tFd ?_ | refine tLd ?_ | ((first | refine tSr ?_ | refine tSt ?_); clear hL; intro _ hL; simp only [splice, zq1, zq2, zq3] at hL) | ((first | refine tBx ?_ | refine tAl ?_); clear hL; intro _ _ hL _)); simp only [Act.put, zq1, zq2, zq3]))
  go_loopw [30, 4, 5, 6] (fun i f n s wr => ∃ (k : Nat) (mm : World) (gb fb : Bool) (Ab Bb : Option Addr) (nb cb' pb qb : Nat), k ≤ ny ∧ i = .int .i64 k ∧ f = .int .i64 (pickT ys k).f ∧ n = .int .i64 (pickT ys k).n ∧ s = .bool (pickT ys k).s ∧ Loc w m wr mm [(w5.heap.size, 39, #[.bool gb, .slice Ab nb cb', .bool fb, .slice Bb pb qb]), (Wc2.heap.size, 39, #[.bool gh, .slice Ah nh ch, .bool fh, .slice Bh ph qh]), (w.heap.size, 26, #[.int .i64 nf, .slice A nr ca, .int .i64 pen, .slice B nc cb, .slice C nk cc])] ∧ Hid ((pickT ys k).s = true → FracC mm (.agg #[.bool gb, .slice Ab nb cb', .bool fb, .slice Bb pb qb]) (pickT ys k).b) ∧ Ext mc3 mm) (fun i _ _ _ _ => ny - (intOf i).toNat)
  case atStart => exact ⟨0, _, _, _, _, _, _, _, _, _, Nat.zero_le _, rfl, rfl, rfl, rfl, hL, (fun h => by cases h), exX⟩
  case round =>
    clear hL
    obtain ⟨k, mm, gb, fb, Ab, Bb, nb, cb', pb, qb, hk, rfl, rfl, rfl, rfl, hL, HB, hX⟩ := hrel
    by_cases hlt : k < ny
    · obtain ⟨⟨⟨a, c⟩, q⟩, hy⟩ := at_some HN hlt
      obtain ⟨b1, o1, g1, A1, n1, c1, f1, B1, p1, q1, rfl, hq1, hr1⟩ := FolL.at_ HY.out hy
      simp only at hq1 hr1
      have htq : Tw 117000 q := HT.out _ (List.mem_of_getElem? hy)
      have HQ1 := Lib.hid hq1
      have HYK := Lib.hid hy
      have HSQ : Hid (Sm q.num q.den) := htq.sm (by decide)
      have HFQ : Hid (q.num.natAbs < 18446744073709551616 ∧ q.den < 18446744073709551616) := by
        have h := htq.sm (by decide)
        show _ ∧ _
        have h1 := h.1
        have h2 := h.2
        simp only [Int.natAbs_natCast] at h2
        exact ⟨by omega, by omega⟩
      have HFL : Hid ((flr q).natAbs < 18446744073709551616) := Nat.lt_of_le_of_lt (flr_le q) HFQ.out.1
      have HSF : Hid (Sm ((flr q : Int) : Rat).num ((flr q : Int) : Rat).den) := (Tw.int (K := 117000) (Nat.le_trans (flr_le q) htq.num_le)).sm (by decide)
      have HFP : Hid (Fit 200 (partR q)) := htq.part.fit (by decide)
      have HSP : Hid (Sm (partR q).num (partR q).den) := htq.part.sm (by decide)
      have HSH : Hid (Sm halfR.num halfR.den) := half_tw.sm (by decide)
      have HPH : Hid ((partR q - halfR).num.natAbs < 18446744073709551616 ∧ (partR q - halfR).den < 18446744073709551616) := by
        have h := (htq.part.sub half_tw).sm (by decide)
        show _ ∧ _
        have h1 := h.1
        have h2 := h.2
        simp only [Int.natAbs_natCast] at h2
        exact ⟨by omega, by omega⟩
      have HSD : Hid (Sm (distR q).num (distR q).den) := htq.dist.sm (by decide)
      clear hy hq1 htq
      have h24 := ld4 (.int .i64 a) (.int .i64 c) (.bool g1) (.slice A1 n1 c1) (.bool f1) (.slice B1 p1 q1)
      generalize hpk : pickT ys k = pk at *
      have HPK := Lib.hid hpk
      clear hpk
      obtain ⟨pf, pn, ps, pb9⟩ := pk
      simp only at HB ⊢
      go_upto_region 9 with ((first | ((with_reducible refine kAny ?_); go_skip) | (with_reducible refine stA ?_) | ((first | refine tIx ?_ | refine tFd ?_ | refine tLd ?_ | ((first | refine tSr ?_ | refine tSt ?_); clear hL; intro _ hL; simp only [splice, zq1, zq2, zq3] at hL) | ((first | refine tBx ?_ | refine tAl ?_); clear hL; intro _ _ hL _)); simp only [Act.put, zq1, zq2, zq3])))
      obtain ⟨B, hB1, hB2, hB3⟩ := hL.bound
      refine wp_region_by2 8 [false, false, false, false, false, false, false, true] [false, false, false, false, false, false, false, false] [(fun v _ _ => v = ?c9_0), (fun v _ _ => v = ?c9_1), (fun v _ _ => v = ?c9_2), (fun v _ _ => v = ?c9_3), Of (fun um v => IntC um v (flr q)), Of (fun um v => FracC um v ((flr q : Int) : Rat)), Of (fun um v => FracC um v (partR q)), NewBlk B 39 #[.bool false, .slice none 0 0, .bool false, .slice none 0 0]] hL.vw mixed [34, 35, 36, 37, 38, 39, 40, 14] _ (by kernel_rfl) (fun vs => by simp only [lay, Act.put, zq1, zq2, zq3]; rfl) (by kernel_rfl) (by decide) (by decide) ?s9 ?l9 ?r9
      case s9 =>
        refine ⟨?_, ?_, ?_, ?_, ?_, ?_, ?_, ?_, trivial⟩
        · intro vs W1 m1 hE hM hV hD; clear hD; replace hL := hL.call hE hM hV
          exact sFd
        · intro vs W1 m1 hE hM hV hD; obtain ⟨⟨_, _, -, -, f34⟩, -⟩ := hD; have f34 : vs 34 = _ := f34; generalize vs 34 = x34 at f34 ⊢; subst x34; replace hL := hL.call hE hM hV
          exact sLd
        · intro vs W1 m1 hE hM hV hD; clear hD; replace hL := hL.call hE hM hV
          exact sFd
        · intro vs W1 m1 hE hM hV hD; obtain ⟨⟨_, _, -, -, f36⟩, -⟩ := hD; have f36 : vs 36 = _ := f36; generalize vs 36 = x36 at f36 ⊢; subst x36; replace hL := hL.call hE hM hV
          exact sLd
        · intro vs W1 m1 hE hM hV hD; obtain ⟨⟨_, _, -, -, f37⟩, -⟩ := hD; have f37 : vs 37 = _ := f37; generalize vs 37 = x37 at f37 ⊢; subst x37
          go_wp2_with fail
          refine (q_Floor _ q _ _ hV (HQ1.out.le leX) HFQ.out.1 HFQ.out.2).mono ?_
          rintro e W2 ⟨v, m2, rfl, hE2, hM2, hV2, h⟩
          go_wp2_with fail
          refine One2.call hE2 hM2 hV2 ?_; first | exact h | exact rfl
        · intro vs W1 m1 hE hM hV hD; obtain ⟨⟨_, _, -, i38, f38⟩, -, -⟩ := hD; have f38 : IntC _ (vs 38) (flr q) := f38; replace f38 := f38.le i38.le; clear i38
          go_wp2_with fail
          refine (q_FromInt _ _ _ _ hV f38 HFL.out).mono ?_
          rintro e W2 ⟨v, m2, rfl, hE2, hM2, hV2, h⟩
          go_wp2_with fail
          refine One2.call hE2 hM2 hV2 ?_; first | exact h | exact rfl
        · intro vs W1 m1 hE hM hV hD; obtain ⟨⟨_, _, -, -, f35⟩, ⟨_, _, -, i39, f39⟩, -, -⟩ := hD; have f35 : vs 35 = _ := f35; generalize vs 35 = x35 at f35 ⊢; subst x35; have f39 : FracC _ (vs 39) ((flr q : Int) : Rat) := f39; replace f39 := f39.le i39.le; clear i39
          go_wp2_with fail
          refine (q_SubC _ _ q _ _ _ hV (HQ1.out.le leX) f39 HSQ.out HSF.out).mono ?_
          rintro e W2 ⟨v, m2, rfl, hE2, hM2, hV2, h⟩
          go_wp2_with fail
          refine One2.call hE2 hM2 hV2 ?_; first | exact h | exact rfl
        · intro vs W1 m1 hE hM hV hD; clear hD
          exact one2_alloc hV (Nat.le_trans hB3 hE.size) rfl rfl rfl ZcC.h
      case l9 =>
        refine ⟨fun h => (by cases h), fun h => (by cases h), fun h => (by cases h), fun h => (by cases h), fun h => (by cases h), fun h => (by cases h), fun h => (by cases h), fun h => (by cases h), trivial⟩
      intro vs W1 m1 hE hM hV hF hD
      obtain ⟨-, -, -, -, ⟨_, _, -, i38, f38⟩, ⟨_, _, -, i39, f39⟩, ⟨_, _, -, i40, f40⟩, ⟨_, _, j14, i14, f14⟩, -⟩ := hF
      replace hL := hL.call hE hM hV
      replace f38 : IntC _ (vs 38) (flr q) := f38
      replace f38 := f38.le i38.le
      clear i38
      obtain ⟨g38, A38, n38, c38, e38, f38⟩ := f38.lit
      generalize vs 38 = x38 at e38 ⊢
      subst x38
      replace f39 : FracC _ (vs 39) ((flr q : Int) : Rat) := f39
      replace f39 := f39.le i39.le
      clear i39
      obtain ⟨g39, A39, n39, c39, h39, B39, k39, d39, e39, f39⟩ := f39.lit
      generalize vs 39 = x39 at e39 ⊢
      subst x39
      replace f40 : FracC _ (vs 40) (partR q) := f40
      replace f40 := f40.le i40.le
      clear i40
      obtain ⟨g40, A40, n40, c40, h40, B40, k40, d40, e40, f40⟩ := f40.lit
      generalize vs 40 = x40 at e40 ⊢
      subst x40
      obtain ⟨b14, e14, hL⟩ := Loc.addB (Lt := []) hB1 hB2 hL f14 j14 i14 ad0
      simp only [e14, List.cons_append, List.nil_append] at hL ⊢
      clear e14 f14 j14 i14
      clear hB1 hB2 hB3 hD
      clear hE hV
      simp only [List.drop_succ_cons, List.drop_zero]
      go_wp2_with (first | ((with_reducible refine kAny ?_); go_skip) | (with_reducible refine stA ?_) | ((first | refine tIx ?_ | refine tFd ?_ | refine tLd ?_ | ((first | refine tSr ?_ | refine tSt ?_); clear hL; intro _ hL; simp only [splice, zq1, zq2, zq3] at hL) | ((first | refine tBx ?_ | refine tAl ?_); clear hL; intro _ _ hL _)); simp only [Act.put, zq1, zq2, zq3]))
      refine QN.mk ?_
      have HPART := Lib.hid f40
      have HH4 : Hid (FracC mm (.agg #[.bool gh, .slice Ah nh ch, .bool fh, .slice Bh ph qh]) halfR) := HH3.out.le hX.le
      clear f38 f39 f40
      go_wp2_with (first | ((with_reducible refine kAny ?_); go_skip) | (with_reducible refine stA ?_) | ((first | refine tIx ?_ | refine tFd ?_ | refine tLd ?_ | ((first | refine tSr ?_ | refine tSt ?_); clear hL; intro _ hL; simp only [splice, zq1, zq2, zq3] at hL) | ((first | refine tBx ?_ | refine tAl ?_); clear hL; intro _ _ hL _)); simp only [Act.put, zq1, zq2, zq3]))
      refine (q_Sign _ (partR q) _ _ hL.vw (HPART.out.le leX) HFP.out).mono ?_
      rintro e Ws1 ⟨_, ms1, rfl, hE, hMs1, hV, rfl⟩
      replace hL := hL.call hE (by assumption) hV; clear hE hV
      by_cases h0 : rs (partR q) = 0
      · have HS := Lib.hid (pick_same HYK.out (.inl h0))
        have h0' : icmp (partR q).num 0 = 0 := h0
        rw [h0']
        clear h0 h0'
        go_wp2_with (first | ((with_reducible refine kAny ?_); go_skip) | (with_reducible refine stA ?_) | ((first | refine tIx ?_ | refine tFd ?_ | refine tLd ?_ | ((first | refine tSr ?_ | refine tSt ?_); clear hL; intro _ hL; simp only [splice, zq1, zq2, zq3] at hL) | ((first | refine tBx ?_ | refine tAl ?_); clear hL; intro _ _ hL _)); simp only [Act.put, zq1, zq2, zq3]))
        go_roundw
        case rel => exact ⟨k + 1, _, gb, fb, Ab, Bb, nb, cb', pb, qb, by omega, by go_num, by rw [HS.out, HPK.out], by rw [HS.out, HPK.out], by rw [HS.out, HPK.out], hL.tail.tail, (fun h => by rw [HS.out, HPK.out] at h ⊢; exact (HB.out h).le leX), exX⟩
        case measure => simp [intOf] <;> omega
      · have H0 := Lib.hid h0
        have h0' : ¬ icmp (partR q).num 0 = 0 := h0
        have h02 : (icmp (partR q).num 0 == 0) = false := by simpa using h0'
        clear h0
        generalize icmp (partR q).num 0 = zz at *
        go_wp2_with (first | ((with_reducible refine kAny ?_); go_skip) | (with_reducible refine stA ?_) | ((first | refine tIx ?_ | refine tFd ?_ | refine tLd ?_ | ((first | refine tSr ?_ | refine tSt ?_); clear hL; intro _ hL; simp only [splice, zq1, zq2, zq3] at hL) | ((first | refine tBx ?_ | refine tAl ?_); clear hL; intro _ _ hL _)); simp only [Act.put, zq1, zq2, zq3]))
        refine (q_SubC _ _ (partR q) halfR _ _ hL.vw (HPART.out.le leX) (HH4.out.le leX) HSP.out HSH.out).mono ?_
        rintro e Ws2 ⟨vs2, ms2, rfl, hE, hMs2, hV, hs2⟩
        replace hL := hL.call hE (by assumption) hV; clear hE hV
        obtain ⟨gs2', As2', ns2', cs2', hs2', Bs2', ks2', ds2', rfl, hs2⟩ := hs2.lit
        go_wp2_with (first | ((with_reducible refine kAny ?_); go_skip) | (with_reducible refine stA ?_) | ((first | refine tIx ?_ | refine tFd ?_ | refine tLd ?_ | ((first | refine tSr ?_ | refine tSt ?_); clear hL; intro _ hL; simp only [splice, zq1, zq2, zq3] at hL) | ((first | refine tBx ?_ | refine tAl ?_); clear hL; intro _ _ hL _)); simp only [Act.put, zq1, zq2, zq3]))
        refine (q_Abs _ (partR q - halfR) _ _ hL.vw (hs2.le leX) HPH.out.1 HPH.out.2).mono ?_
        rintro e Ws3 ⟨vs3, ms3, rfl, hE, hMs3, hV, hs3⟩
        replace hL := hL.call hE (by assumption) hV; clear hE hV
        obtain ⟨gs3', As3', ns3', cs3', hs3', Bs3', ks3', ds3', rfl, hs3⟩ := hs3.lit
        have HD3 : Hid (FracC ms3 (.agg #[.bool gs3', .slice As3' ns3' cs3', .bool hs3', .slice Bs3' ks3' ds3']) (distR q)) := hs3
        clear hs2 hs3 h0' h02
        cases ps with
        | false =>
          have HS := Lib.hid (pick_some HYK.out H0.out (.inl (by rw [HPK.out])))
          simp only at HS
          go_wp2_with (first | ((with_reducible refine kAny ?_); go_skip) | (with_reducible refine stA ?_) | ((first | refine tIx ?_ | refine tFd ?_ | refine tLd ?_ | ((first | refine tSr ?_ | refine tSt ?_); clear hL; intro _ hL; simp only [splice, zq1, zq2, zq3] at hL) | ((first | refine tBx ?_ | refine tAl ?_); clear hL; intro _ _ hL _)); simp only [Act.put, zq1, zq2, zq3]))
          go_upto_region 13 with ((first | ((with_reducible refine kAny ?_); go_skip) | (with_reducible refine stA ?_) | ((first | refine tIx ?_ | refine tFd ?_ | refine tLd ?_ | ((first | refine tSr ?_ | refine tSt ?_); clear hL; intro _ hL; simp only [splice, zq1, zq2, zq3] at hL) | ((first | refine tBx ?_ | refine tAl ?_); clear hL; intro _ _ hL _)); simp only [Act.put, zq1, zq2, zq3])))
          refine wp_region_by2 8 [false, false, false, false, false, false, false, false] [false, false, false, false, false, false, false, false] [(fun v _ _ => v = ?c13_0a), (fun v _ _ => v = ?c13_1a), (fun v _ _ => v = ?c13_2a), (fun v _ _ => v = ?c13_3a), (fun v _ _ => v = ?c13_4a), (fun v _ _ => v = ?c13_5a), (fun v _ _ => v = ?c13_6a), (fun v _ _ => v = ?c13_7a)] hL.vw mixed [56, 57, 58, 59, 60, 4, 5, 6] _ (by kernel_rfl) (fun vs => by simp only [lay, Act.put, zq1, zq2, zq3]; rfl) (by kernel_rfl) (by decide) (by decide) ?s13a ?l13a ?r13a
          case s13a =>
            refine ⟨?_, ?_, ?_, ?_, ?_, ?_, ?_, ?_, trivial⟩
            · intro vs W1 m1 hE hM hV hD; clear hD; replace hL := hL.call hE hM hV
              exact sFd
            · intro vs W1 m1 hE hM hV hD; obtain ⟨⟨_, _, -, -, f56⟩, -⟩ := hD; have f56 : vs 56 = _ := f56; generalize vs 56 = x56 at f56 ⊢; subst x56; replace hL := hL.call hE hM hV
              exact sLd
            · intro vs W1 m1 hE hM hV hD; clear hD; replace hL := hL.call hE hM hV
              exact sFd
            · intro vs W1 m1 hE hM hV hD; obtain ⟨⟨_, _, -, -, f58⟩, -, -⟩ := hD; have f58 : vs 58 = _ := f58; generalize vs 58 = x58 at f58 ⊢; subst x58; replace hL := hL.call hE hM hV
              exact sLd
            · intro vs W1 m1 hE hM hV hD; clear hD; replace hL := hL.call hE hM hV
              exact sLd
            · intro vs W1 m1 hE hM hV hD; obtain ⟨⟨_, _, -, -, f57⟩, -, -, -, -, -, -⟩ := hD; have f57 : vs 57 = _ := f57; generalize vs 57 = x57 at f57 ⊢; subst x57; replace hL := hL.call hE hM hV
              go_wp2_with (first | ((with_reducible refine kAny ?_); go_skip) | (with_reducible refine stA ?_) | ((first | refine tIx ?_ | refine tFd ?_ | refine tLd ?_ | ((first | refine tSr ?_ | refine tSt ?_); clear hL; intro _ hL; simp only [splice, zq1, zq2, zq3] at hL) | ((first | refine tBx ?_ | refine tAl ?_); clear hL; intro _ _ hL _)); simp only [Act.put, zq1, zq2, zq3]))
              refine One2.still hV ?_; exact rfl
            · intro vs W1 m1 hE hM hV hD; obtain ⟨⟨_, _, -, -, f59⟩, -, -, -, -, -, -, -, -⟩ := hD; have f59 : vs 59 = _ := f59; generalize vs 59 = x59 at f59 ⊢; subst x59; replace hL := hL.call hE hM hV
              go_wp2_with (first | ((with_reducible refine kAny ?_); go_skip) | (with_reducible refine stA ?_) | ((first | refine tIx ?_ | refine tFd ?_ | refine tLd ?_ | ((first | refine tSr ?_ | refine tSt ?_); clear hL; intro _ hL; simp only [splice, zq1, zq2, zq3] at hL) | ((first | refine tBx ?_ | refine tAl ?_); clear hL; intro _ _ hL _)); simp only [Act.put, zq1, zq2, zq3]))
              refine One2.still hV ?_; exact rfl
            · intro vs W1 m1 hE hM hV hD; clear hD; replace hL := hL.call hE hM hV
              go_wp2_with (first | ((with_reducible refine kAny ?_); go_skip) | (with_reducible refine stA ?_) | ((first | refine tIx ?_ | refine tFd ?_ | refine tLd ?_ | ((first | refine tSr ?_ | refine tSt ?_); clear hL; intro _ hL; simp only [splice, zq1, zq2, zq3] at hL) | ((first | refine tBx ?_ | refine tAl ?_); clear hL; intro _ _ hL _)); simp only [Act.put, zq1, zq2, zq3]))
              refine One2.still hV ?_; exact rfl
          case l13a =>
            refine ⟨fun h => (by cases h), fun h => (by cases h), fun h => (by cases h), fun h => (by cases h), fun h => (by cases h), fun h => (by cases h), fun h => (by cases h), fun h => (by cases h), trivial⟩
          intro vs W1 m1 hE hM hV hF hD
          clear hD
          obtain ⟨-, -, -, -, ⟨_, _, -, -, f60⟩, ⟨_, _, -, -, f4⟩, ⟨_, _, -, -, f5⟩, ⟨_, _, -, -, f6⟩, -⟩ := hF
          replace hL := hL.call hE hM hV
          have f60 : vs 60 = _ := f60
          generalize vs 60 = x60 at f60 ⊢
          subst x60
          have f4 : vs 4 = _ := f4
          generalize vs 4 = x4 at f4 ⊢
          subst x4
          have f5 : vs 5 = _ := f5
          generalize vs 5 = x5 at f5 ⊢
          subst x5
          have f6 : vs 6 = _ := f6
          generalize vs 6 = x6 at f6 ⊢
          subst x6
          clear hE hV
          simp only [List.drop_succ_cons, List.drop_zero]
          go_wp2_with (first | ((with_reducible refine kAny ?_); go_skip) | (with_reducible refine stA ?_) | ((first | refine tIx ?_ | refine tFd ?_ | refine tLd ?_ | ((first | refine tSr ?_ | refine tSt ?_); clear hL; intro _ hL; simp only [splice, zq1, zq2, zq3] at hL) | ((first | refine tBx ?_ | refine tAl ?_); clear hL; intro _ _ hL _)); simp only [Act.put, zq1, zq2, zq3]))
          refine QN.mk ?_
          go_wp2_with (first | ((with_reducible refine kAny ?_); go_skip) | (with_reducible refine stA ?_) | ((first | refine tIx ?_ | refine tFd ?_ | refine tLd ?_ | ((first | refine tSr ?_ | refine tSt ?_); clear hL; intro _ hL; simp only [splice, zq1, zq2, zq3] at hL) | ((first | refine tBx ?_ | refine tAl ?_); clear hL; intro _ _ hL _)); simp only [Act.put, zq1, zq2, zq3]))
          go_roundw
          case rel => exact ⟨k + 1, _, _, _, _, _, _, _, _, _, by omega, by go_num, by rw [HS.out], by rw [HS.out], by rw [HS.out], hL.tail.tail.tail, (fun _ => by rw [HS.out]; exact HD3.out.le leX), exX⟩
          case measure => simp [intOf] <;> omega
        | true =>
          have HBB : Hid (FracC mm (.agg #[.bool gb, .slice Ab nb cb', .bool fb, .slice Bb pb qb]) pb9) := HB.out rfl
          have HSB : Hid (Sm pb9.num pb9.den) := by
            have h := (HPT.out k (by rw [HPK.out])).sm (by decide)
            rw [HPK.out] at h
            exact h
          go_wp2_with (first | ((with_reducible refine kAny ?_); go_skip) | (with_reducible refine stA ?_) | ((first | refine tIx ?_ | refine tFd ?_ | refine tLd ?_ | ((first | refine tSr ?_ | refine tSt ?_); clear hL; intro _ hL; simp only [splice, zq1, zq2, zq3] at hL) | ((first | refine tBx ?_ | refine tAl ?_); clear hL; intro _ _ hL _)); simp only [Act.put, zq1, zq2, zq3]))
          refine (q_CompareC _ _ (distR q) pb9 _ _ hL.vw (HD3.out.le leX) (HBB.out.le leX) HSD.out HSB.out).mono ?_
          rintro e Ws4 ⟨_, ms4, rfl, hE, hMs4, hV, rfl⟩
          replace hL := hL.call hE (by assumption) hV; clear hE hV
          by_cases h1 : rs (distR q - pb9) < 0
          · have HS := Lib.hid (pick_some HYK.out H0.out (.inr (by rw [HPK.out]; exact h1)))
            simp only at HS
            generalize rs (distR q - pb9) = zc at *
            go_wp2_with (first | ((with_reducible refine kAny ?_); go_skip) | (with_reducible refine stA ?_) | ((first | refine tIx ?_ | refine tFd ?_ | refine tLd ?_ | ((first | refine tSr ?_ | refine tSt ?_); clear hL; intro _ hL; simp only [splice, zq1, zq2, zq3] at hL) | ((first | refine tBx ?_ | refine tAl ?_); clear hL; intro _ _ hL _)); simp only [Act.put, zq1, zq2, zq3]))
            go_upto_region 13 with ((first | ((with_reducible refine kAny ?_); go_skip) | (with_reducible refine stA ?_) | ((first | refine tIx ?_ | refine tFd ?_ | refine tLd ?_ | ((first | refine tSr ?_ | refine tSt ?_); clear hL; intro _ hL; simp only [splice, zq1, zq2, zq3] at hL) | ((first | refine tBx ?_ | refine tAl ?_); clear hL; intro _ _ hL _)); simp only [Act.put, zq1, zq2, zq3])))
            refine wp_region_by2 8 [false, false, false, false, false, false, false, false] [false, false, false, false, false, false, false, false] [(fun v _ _ => v = ?c13_0b), (fun v _ _ => v = ?c13_1b), (fun v _ _ => v = ?c13_2b), (fun v _ _ => v = ?c13_3b), (fun v _ _ => v = ?c13_4b), (fun v _ _ => v = ?c13_5b), (fun v _ _ => v = ?c13_6b), (fun v _ _ => v = ?c13_7b)] hL.vw mixed [56, 57, 58, 59, 60, 4, 5, 6] _ (by kernel_rfl) (fun vs => by simp only [lay, Act.put, zq1, zq2, zq3]; rfl) (by kernel_rfl) (by decide) (by decide) ?s13b ?l13b ?r13b
            case s13b =>
              refine ⟨?_, ?_, ?_, ?_, ?_, ?_, ?_, ?_, trivial⟩
              · intro vs W1 m1 hE hM hV hD; clear hD; replace hL := hL.call hE hM hV
                exact sFd
              · intro vs W1 m1 hE hM hV hD; obtain ⟨⟨_, _, -, -, f56⟩, -⟩ := hD; have f56 : vs 56 = _ := f56; generalize vs 56 = x56 at f56 ⊢; subst x56; replace hL := hL.call hE hM hV
                exact sLd
              · intro vs W1 m1 hE hM hV hD; clear hD; replace hL := hL.call hE hM hV
                exact sFd
              · intro vs W1 m1 hE hM hV hD; obtain ⟨⟨_, _, -, -, f58⟩, -, -⟩ := hD; have f58 : vs 58 = _ := f58; generalize vs 58 = x58 at f58 ⊢; subst x58; replace hL := hL.call hE hM hV
                exact sLd
              · intro vs W1 m1 hE hM hV hD; clear hD; replace hL := hL.call hE hM hV
                exact sLd
              · intro vs W1 m1 hE hM hV hD; obtain ⟨⟨_, _, -, -, f57⟩, -, -, -, -, -, -⟩ := hD; have f57 : vs 57 = _ := f57; generalize vs 57 = x57 at f57 ⊢; subst x57; replace hL := hL.call hE hM hV
                go_wp2_with (first | ((with_reducible refine kAny ?_); go_skip) | (with_reducible refine stA ?_) | ((first | refine tIx ?_ | refine tFd ?_ | refine tLd ?_ | ((first | refine tSr ?_ | refine tSt ?_); clear hL; intro _ hL; simp only [splice, zq1, zq2, zq3] at hL) | ((first | refine tBx ?_ | refine tAl ?_); clear hL; intro _ _ hL _)); simp only [Act.put, zq1, zq2, zq3]))
                refine One2.still hV ?_; exact rfl
              · intro vs W1 m1 hE hM hV hD; obtain ⟨⟨_, _, -, -, f59⟩, -, -, -, -, -, -, -, -⟩ := hD; have f59 : vs 59 = _ := f59; generalize vs 59 = x59 at f59 ⊢; subst x59; replace hL := hL.call hE hM hV
                go_wp2_with (first | ((with_reducible refine kAny ?_); go_skip) | (with_reducible refine stA ?_) | ((first | refine tIx ?_ | refine tFd ?_ | refine tLd ?_ | ((first | refine tSr ?_ | refine tSt ?_); clear hL; intro _ hL; simp only [splice, zq1, zq2, zq3] at hL) | ((first | refine tBx ?_ | refine tAl ?_); clear hL; intro _ _ hL _)); simp only [Act.put, zq1, zq2, zq3]))
                refine One2.still hV ?_; exact rfl
              · intro vs W1 m1 hE hM hV hD; clear hD; replace hL := hL.call hE hM hV
                go_wp2_with (first | ((with_reducible refine kAny ?_); go_skip) | (with_reducible refine stA ?_) | ((first | refine tIx ?_ | refine tFd ?_ | refine tLd ?_ | ((first | refine tSr ?_ | refine tSt ?_); clear hL; intro _ hL; simp only [splice, zq1, zq2, zq3] at hL) | ((first | refine tBx ?_ | refine tAl ?_); clear hL; intro _ _ hL _)); simp only [Act.put, zq1, zq2, zq3]))
                refine One2.still hV ?_; exact rfl
            case l13b =>
              refine ⟨fun h => (by cases h), fun h => (by cases h), fun h => (by cases h), fun h => (by cases h), fun h => (by cases h), fun h => (by cases h), fun h => (by cases h), fun h => (by cases h), trivial⟩
            intro vs W1 m1 hE hM hV hF hD
            clear hD
            obtain ⟨-, -, -, -, ⟨_, _, -, -, f60⟩, ⟨_, _, -, -, f4⟩, ⟨_, _, -, -, f5⟩, ⟨_, _, -, -, f6⟩, -⟩ := hF
            replace hL := hL.call hE hM hV
            have f60 : vs 60 = _ := f60
            generalize vs 60 = x60 at f60 ⊢
            subst x60
            have f4 : vs 4 = _ := f4
            generalize vs 4 = x4 at f4 ⊢
            subst x4
            have f5 : vs 5 = _ := f5
            generalize vs 5 = x5 at f5 ⊢
            subst x5
            have f6 : vs 6 = _ := f6
            generalize vs 6 = x6 at f6 ⊢
            subst x6
            clear hE hV
            simp only [List.drop_succ_cons, List.drop_zero]
            go_wp2_with (first | ((with_reducible refine kAny ?_); go_skip) | (with_reducible refine stA ?_) | ((first | refine tIx ?_ | refine tFd ?_ | refine tLd ?_ | ((first | refine tSr ?_ | refine tSt ?_); clear hL; intro _ hL; simp only [splice, zq1, zq2, zq3] at hL) | ((first | refine tBx ?_ | refine tAl ?_); clear hL; intro _ _ hL _)); simp only [Act.put, zq1, zq2, zq3]))
            refine QN.mk ?_
            go_wp2_with (first | ((with_reducible refine kAny ?_); go_skip) | (with_reducible refine stA ?_) | ((first | refine tIx ?_ | refine tFd ?_ | refine tLd ?_ | ((first | refine tSr ?_ | refine tSt ?_); clear hL; intro _ hL; simp only [splice, zq1, zq2, zq3] at hL) | ((first | refine tBx ?_ | refine tAl ?_); clear hL; intro _ _ hL _)); simp only [Act.put, zq1, zq2, zq3]))
            go_roundw
            case rel => exact ⟨k + 1, _, _, _, _, _, _, _, _, _, by omega, by go_num, by rw [HS.out], by rw [HS.out], by rw [HS.out], hL.tail.tail.tail, (fun _ => by rw [HS.out]; exact HD3.out.le leX), exX⟩
            case measure => simp [intOf] <;> omega
          · have HS := Lib.hid (pick_same HYK.out (.inr ⟨by rw [HPK.out], by rw [HPK.out]; exact h1⟩))
            generalize rs (distR q - pb9) = zc at *
            have h1' : 0 ≤ zc := by omega
            go_wp2_with (first | ((with_reducible refine kAny ?_); go_skip) | (with_reducible refine stA ?_) | ((first | refine tIx ?_ | refine tFd ?_ | refine tLd ?_ | ((first | refine tSr ?_ | refine tSt ?_); clear hL; intro _ hL; simp only [splice, zq1, zq2, zq3] at hL) | ((first | refine tBx ?_ | refine tAl ?_); clear hL; intro _ _ hL _)); simp only [Act.put, zq1, zq2, zq3]))
            go_roundw
            case rel => exact ⟨k + 1, _, gb, fb, Ab, Bb, nb, cb', pb, qb, by omega, by go_num, by rw [HS.out, HPK.out], by rw [HS.out, HPK.out], by rw [HS.out, HPK.out], hL.tail.tail.tail, (fun _ => by rw [HS.out, HPK.out]; exact HBB.out.le leX), exX⟩
            case measure => simp [intOf] <;> omega
    · have HE : Hid (pickT ys k = pickF ys) := pickT_end (by rw [HN.out]; omega)
      go_wp2_with (first | ((with_reducible refine kAny ?_); go_skip) | (with_reducible refine stA ?_) | ((first | refine tIx ?_ | refine tFd ?_ | refine tLd ?_ | ((first | refine tSr ?_ | refine tSt ?_); clear hL; intro _ hL; simp only [splice, zq1, zq2, zq3] at hL) | ((first | refine tBx ?_ | refine tAl ?_); clear hL; intro _ _ hL _)); simp only [Act.put, zq1, zq2, zq3]))
      (try simp only [Exit.inBlock, Exit.then])
      refine bodyPost_ret (results_tmp4 rfl _ _ _) rfl ?_
      exact RetV.mk hL ⟨ys, HF.out, by rw [HE.out]; rfl⟩
end Go.Proofs.YtmhkmmmompediaaGreat

/- Contract of pairinglaw30.known. -/
namespace Go.Proofs.YtmhkmmmompediaaGreat
open Go.RowKit

theorem t_ix1 {P : Program} {ops : Array Oper} {Q : Exit → Act → World → Prop} {rest : List Oper} {o : Oper} {a : Act} {W : World} {t : TypeId} {s i : Operand} (ho : o.op = .indexAddr t s i) {e : TypeId} {size bytes : Nat} [hap : ApC P t e size bytes] {b off n c : Nat} {kd : IntKind} (hs : a.eval s = .slice (some ⟨b, off, none⟩) n c) (hi : a.eval i = .int kd 1)
    (h : wpList P ops Q rest (a.put o.dst (.pointer (some ⟨b, off + 1 * size, none⟩))) W) (hk : 1 < n := by omega)
    (hw : Region.wanted o (yielded ops a.tmps) = true := by first | exact wanted_none rfl | exact wanted_some rfl rfl rfl rfl) : wpList P ops Q (o :: rest) a W :=
  wl_indexAddr (k := 1) hw ho hap.h hs hi hk h
theorem sI1 {G : Prop} (h : G := by refine t_ix1 rfl rfl rfl ?_; simp only [Act.put, zq1, zq2, zq3]; refine One2.still hV ?_; exact rfl) : G := h
theorem stB {P : Program} {ops : Array Oper} {Q : Exit → Act → World → Prop} {rest : List Oper} {a : Act} {W : World} {d : Option Tmp} {ty t : TypeId} {pos : String} {af : Array Edge} {gd : Option (Nat × Bool)} {p q : Nat × Operand}
    (h : Hid (wpList P ops Q (⟨d, .buildSlice t 2 #[p, q], ty, pos, af, gd⟩ :: rest) a W)) : wpList P ops Q (⟨d, .buildSlice t 2 #[p, q], ty, pos, af, gd⟩ :: rest) a W := h

def kCol (i : Int) : Col := (⟨#[]⟩, [[(0, false)], [(1, true), (i, false)]], 0)
def kCols : List Col := [kCol 1, kCol 2]
def kMs : Ms := ⟨3, [0, 1, 2], 10, kCols, []⟩
def kVs : List Rat := [halfR, halfR]
def kYs : List PQ := [((0, 1), halfR), ((0, 2), halfR)]
theorem kEnt : entS kMs.cols kVs kMs.cols.length = kYs := rfl
theorem kMsOk : MsOk kMs := by
  refine ⟨by decide, by decide, by decide, by decide, by decide, by decide, ?_, by decide, by decide, ?_, by decide, (fun _ h => by cases h)⟩
  · exact ascP_of (by decide)
  · intro c hc
    have : c = kCol 1 ∨ c = kCol 2 := by simpa [kMs, kCols] using hc
    rcases this with rfl | rfl <;> exact ⟨by decide, by decide, by decide, by decide, by decide, by decide, by decide⟩
theorem kVOk : VOk kMs kVs := ⟨kMsOk, rfl, fun v hv => by
  have : v = halfR := by simpa [kVs] using hv
  rw [this]; exact half_tw.mono (by decide), by decide⟩
theorem kSum1 : sumAt kYs (0, 1) = halfR := by kernel_rfl
theorem kSum2 : sumAt kYs (0, 2) = halfR := by kernel_rfl
theorem half_ne : halfR ≠ 0 := by decide
theorem kIs : IsFol kYs kYs := by
  refine ⟨?_, fun y => ⟨fun hy => ?_, fun ⟨h1, h2⟩ => ?_⟩⟩
  · refine List.pairwise_cons.2 ⟨fun y hy => ?_, List.pairwise_singleton _ _⟩
    rcases List.mem_singleton.1 hy with rfl
    exact .inr ⟨rfl, by decide⟩
  · have : y = ((0, 1), halfR) ∨ y = ((0, 2), halfR) := by simpa [kYs] using hy
    rcases this with rfl | rfl
    · exact ⟨kSum1.symm, half_ne⟩
    · exact ⟨kSum2.symm, half_ne⟩
  · obtain ⟨p, q⟩ := y
    simp only at h1 h2
    by_cases e1 : p = (0, 1)
    · subst e1; rw [kSum1] at h1; subst h1; simp [kYs]
    · by_cases e2 : p = (0, 2)
      · subst e2; rw [kSum2] at h1; subst h1; simp [kYs]
      · refine absurd (h1.trans (sumAt_none fun e he => ?_)) h2
        have : e = ((0, 1), halfR) ∨ e = ((0, 2), halfR) := by simpa [kYs] using he
        rcases this with rfl | rfl
        · exact fun h => e1 h.symm
        · exact fun h => e2 h.symm
theorem kPick : (pickF kYs).f = 0 ∧ (pickF kYs).n = 1 ∧ (pickF kYs).s = true := ⟨by kernel_rfl, by kernel_rfl, by kernel_rfl⟩
theorem kb_Follows (xv vv : Value) (w m : World) (hV : Vw m w) (hx : MasterR m xv kMs) (hv : FracL m vv kVs) :
    Calls Tryz.prog 47 #[xv, vv] w (RetV w m fun m' r => ∃ v, r = .tuple #[v, .int .i64 0] ∧ FolL m' v kYs) := by
  refine (b_Follows xv vv kMs kVs w m hV hx hv kVOk).mono ?_
  rintro e W' ⟨r, m', rfl, hE, hM, hV', v, ys, rfl, h1, h2⟩
  rw [kEnt] at h1
  rw [h1.unique kIs] at h2
  exact ⟨_, m', rfl, hE, hM, hV', v, rfl, h2⟩
theorem kb_Choose (xv vv : Value) (w m : World) (hV : Vw m w) (hx : MasterR m xv kMs) (hv : FracL m vv kVs) :
    Calls Tryz.prog 49 #[xv, vv] w (RetV w m fun _ r => r = .tuple #[.int .i64 0, .int .i64 1, .bool true, .int .i64 0]) := by
  refine (b_Choose xv vv kMs kVs w m hV hx hv kVOk).mono ?_
  rintro e W' ⟨r, m', rfl, hE, hM, hV', ys, h1, rfl⟩
  rw [kEnt] at h1
  refine ⟨_, m', rfl, hE, hM, hV', ?_⟩
  rw [h1.unique kIs, kPick.1, kPick.2.1, kPick.2.2]

set_option maxRecDepth 100000 in
set_option maxHeartbeats 32000000 in
theorem kb_known (w m : World) (hV : Vw m w) : Calls Tryz.prog 52 #[] w (RetV w m fun _ r => r = .bool true) := by
  have hL := Loc.start hV
  clear hV
  go_enter Tryz.func52, Tryz.ntmps52
  go_wp2_with (first | ((with_reducible refine kAny ?_); go_skip) | (with_reducible refine stA ?_) | ((first | refine tIx ?_ | refine tFd ?_ | refine tLd ?_ | ((first | refine tSr ?_ | refine tSt ?_); clear hL; intro _ hL; simp only [splice, zq1, zq2, zq3] at hL) | (refine tAl ?_; clear hL; intro _ _ hL _) | (refine tBs ?_; clear hL; intro _ _ hL _ hBs)); simp only [Act.put, zq1, zq2, zq3]))
  refine (r_Int 1 _ _ hL.vw (by decide) (by decide)).mono ?_
  rintro e Wc1 ⟨vc1, mc1, rfl, hE, hMc1, hV, hc1⟩
  replace hL := hL.call hE (by assumption) hV; clear hE hV
  obtain ⟨gc1', Ac1', nc1', cc1', hc1', Bc1', kc1', dc1', rfl, hc1⟩ := hc1.lit
  go_wp2_with (first | ((with_reducible refine kAny ?_); go_skip) | (with_reducible refine stA ?_) | ((first | refine tIx ?_ | refine tFd ?_ | refine tLd ?_ | ((first | refine tSr ?_ | refine tSt ?_); clear hL; intro _ hL; simp only [splice, zq1, zq2, zq3] at hL) | (refine tAl ?_; clear hL; intro _ _ hL _) | (refine tBs ?_; clear hL; intro _ _ hL _ hBs)); simp only [Act.put, zq1, zq2, zq3]))
  refine (r_Int 2 _ _ hL.vw (by decide) (by decide)).mono ?_
  rintro e Wc2 ⟨vc2, mc2, rfl, hE, hMc2, hV, hc2⟩
  replace hL := hL.call hE (by assumption) hV; clear hE hV
  obtain ⟨gc2', Ac2', nc2', cc2', hc2', Bc2', kc2', dc2', rfl, hc2⟩ := hc2.lit
  go_wp2_with (first | ((with_reducible refine kAny ?_); go_skip) | (with_reducible refine stA ?_) | ((first | refine tIx ?_ | refine tFd ?_ | refine tLd ?_ | ((first | refine tSr ?_ | refine tSt ?_); clear hL; intro _ hL; simp only [splice, zq1, zq2, zq3] at hL) | (refine tAl ?_; clear hL; intro _ _ hL _) | (refine tBs ?_; clear hL; intro _ _ hL _ hBs)); simp only [Act.put, zq1, zq2, zq3]))
  refine (r_DivC _ _ _ _ _ _ hL.vw (hc1.le leX) hc2 ((Tn.int (k := 1000) (by decide) (by decide)).fit (by decide)) ((Tn.int (k := 1000) (by decide) (by decide)).fit (by decide))).mono ?_
  rintro e Wc3 ⟨vc3, mc3, rfl, hE, hMc3, hV, hc3⟩
  replace hL := hL.call hE (by assumption) hV; clear hE hV
  obtain ⟨gc3', Ac3', nc3', cc3', hc3', Bc3', kc3', dc3', rfl, hc3⟩ := hc3.lit
  rw [div_mix] at hc3
  have HH : Hid (FracC mc3 (.agg #[.bool gc3', .slice Ac3' nc3' cc3', .bool hc3', .slice Bc3' kc3' dc3']) halfR) := hc3
  clear hc1 hc2 hc3
  go_upto_region 2 with ((first | ((with_reducible refine kAny ?_); go_skip) | (with_reducible refine stA ?_) | ((first | refine tIx ?_ | refine tFd ?_ | refine tLd ?_ | ((first | refine tSr ?_ | refine tSt ?_); clear hL; intro _ hL; simp only [splice, zq1, zq2, zq3] at hL) | (refine tAl ?_; clear hL; intro _ _ hL _) | (refine tBs ?_; clear hL; intro _ _ hL _ hBs)); simp only [Act.put, zq1, zq2, zq3])))
  obtain ⟨w2, rfl⟩ := hL.world
  go_upto_region 3 with ((first | (refine wl_bslice hL (wanted_none rfl) rfl (n := 3) (cs := #[.int .i64 0, .int .i64 1, .int .i64 2]) (e := 3) (fun w => by go_simp) ?_; clear hL; intro Wb mb hL eb hbb; simp only [Act.put, zq1, zq2, zq3]) | (first | ((with_reducible refine kAny ?_); go_skip) | (with_reducible refine stA ?_) | ((first | refine tIx ?_ | refine tFd ?_ | refine tLd ?_ | ((first | refine tSr ?_ | refine tSt ?_); clear hL; intro _ hL; simp only [splice, zq1, zq2, zq3] at hL) | (refine tAl ?_; clear hL; intro _ _ hL _) | (refine tBs ?_; clear hL; intro _ _ hL _ hBs)); simp only [Act.put, zq1, zq2, zq3]))))
  have HR : Hid (IntL mb (.slice (some ⟨w2.heap.size, 0, none⟩) 3 3) [0, 1, 2]) := ListV.mk (vs := [.int .i64 0, .int .i64 1, .int .i64 2]) (by omega) rfl (fun u hu => by simp at hu; rcases hu with rfl | rfl | rfl <;> rfl) (Blk.sl hbb (n := 3) rfl) ⟨rfl, rfl, rfl, trivial⟩
  clear hbb
  go_wp2_with (first | ((with_reducible refine kAny ?_); go_skip) | (with_reducible refine stA ?_) | ((first | refine tIx ?_ | refine tFd ?_ | refine tLd ?_ | ((first | refine tSr ?_ | refine tSt ?_); clear hL; intro _ hL; simp only [splice, zq1, zq2, zq3] at hL) | (refine tAl ?_; clear hL; intro _ _ hL _) | (refine tBs ?_; clear hL; intro _ _ hL _ hBs)); simp only [Act.put, zq1, zq2, zq3]))
  go_loopw [3] (fun i wr => ∃ (j : Nat) (mm : World) (A7 : Option Addr) (c7 : Nat) (Rr : List Lo), j ≤ 2 ∧ i = .int .i64 ((j : Int) + 1) ∧ Loc w m wr mm ((Wb.heap.size, 26, #[.int .i64 3, .slice (some ⟨w2.heap.size, 0, none⟩) 3 3, .int .i64 10, .slice A7 j c7, .slice none 0 0]) :: (Wc3.heap.size, 39, #[.bool gc3', .slice Ac3' nc3' cc3', .bool hc3', .slice Bc3' kc3' dc3']) :: Rr) ∧ Hid (RowA 72 3 ColR mm (.slice A7 j c7) j (kCols.take j) Rr) ∧ Hid (Ext mb mm)) (fun i _ => 3 - (intOf i).toNat)
  case atStart => exact ⟨0, _, none, 0, [], Nat.zero_le _, rfl, hL, RowA.nil, exX⟩
  case round =>
    have HMB := Lib.hid hL.mext
    clear hL
    obtain ⟨j, mm, A7, c7, Rr, hj, rfl, hL, ROW, HX⟩ := hrel
    have hX := HX.out
    by_cases hlt : j < 2
    · have h3 : (j : Int) + 1 < 3 := by omega
      have HCJ : Hid (kCols.take j ++ [kCol ((j : Int) + 1)] = kCols.take (j + 1)) := by
        show _ = _
        match j, hlt with
        | 0, _ => rfl
        | 1, _ => rfl
      go_wp2_with (first | (with_reducible refine stB ?_) | (first | ((with_reducible refine kAny ?_); go_skip) | (with_reducible refine stA ?_) | ((first | refine tIx ?_ | refine tFd ?_ | refine tLd ?_ | ((first | refine tSr ?_ | refine tSt ?_); clear hL; intro _ hL; simp only [splice, zq1, zq2, zq3] at hL) | (refine tAl ?_; clear hL; intro _ _ hL _) | (refine tBs ?_; clear hL; intro _ _ hL _ hBs)); simp only [Act.put, zq1, zq2, zq3])))
      refine goA ?_
      have H22 := Lib.hid hBs
      clear hBs
      obtain ⟨wA, rfl⟩ := hL.world
      refine wl_bslice hL (wanted_none rfl) rfl (n := 2) (cs := #[.int .i64 1, .bool true, .int .i64 ((j : Int) + 1), .bool false]) (e := 111) (fun w => by go_simp) ?_
      clear hL
      intro W26 m26 hL e26 hb26
      have H26 := Lib.hid hb26
      clear hb26
      simp only [Act.put, zq1, zq2, zq3]
      go_wp2_with (first | (with_reducible refine stB ?_) | (first | ((with_reducible refine kAny ?_); go_skip) | (with_reducible refine stA ?_) | ((first | refine tIx ?_ | refine tFd ?_ | refine tLd ?_ | ((first | refine tSr ?_ | refine tSt ?_); clear hL; intro _ hL; simp only [splice, zq1, zq2, zq3] at hL) | (refine tAl ?_; clear hL; intro _ _ hL _) | (refine tBs ?_; clear hL; intro _ _ hL _ hBs)); simp only [Act.put, zq1, zq2, zq3])))
      refine goA ?_
      refine wl_bslice hL (wanted_none rfl) rfl (n := 2) (cs := #[.slice (some ⟨wr.heap.size, 0, none⟩) 1 1, .slice (some ⟨wA.heap.size, 0, none⟩) 2 2]) (e := 113) (fun w => by go_simp) ?_
      clear hL
      intro W27 m27 hL e27 hb27
      simp only [Act.put, zq1, zq2, zq3]
      have h22 := H22.out
      have h26 := H26.out
      have HDU : Hid (ColR m27 (.agg #[.string ⟨#[]⟩, .slice (some ⟨W26.heap.size, 0, none⟩) 2 2, .int .i64 0]) (kCol ((j : Int) + 1))) := by
        refine ⟨_, rfl, ListV.mk (vs := [.slice (some ⟨wr.heap.size, 0, none⟩) 1 1, .slice (some ⟨wA.heap.size, 0, none⟩) 2 2]) (by omega) rfl (fun u hu => by simp at hu; rcases hu with rfl | rfl <;> rfl) (Blk.sl hb27 (n := 2) rfl) ⟨?_, ?_, trivial⟩⟩
        · exact DutL.le (ListV.mk (vs := [.agg #[.int .i64 0, .bool false]]) (by omega) rfl (fun u hu => by simp at hu; subst hu; rfl) (Blk.sl h22 (n := 2) rfl) ⟨rfl, trivial⟩) (Le.trans e26.le e27.le)
        · exact DutL.le (ListV.mk (vs := [.agg #[.int .i64 1, .bool true], .agg #[.int .i64 ((j : Int) + 1), .bool false]]) (by omega) rfl (fun u hu => by simp at hu; rcases hu with rfl | rfl <;> rfl) (Blk.sl h26 (n := 4) rfl) ⟨rfl, rfl, trivial⟩) e27.le
      clear h22 h26 hb27 H22 H26
      go_wp2_with (first | ((with_reducible refine kAny ?_); go_skip) | (with_reducible refine stA ?_) | ((first | refine tIx ?_ | refine tFd ?_ | refine tLd ?_ | ((first | refine tSr ?_ | refine tSt ?_); clear hL; intro _ hL; simp only [splice, zq1, zq2, zq3] at hL) | (refine tAl ?_; clear hL; intro _ _ hL _) | (refine tBs ?_; clear hL; intro _ _ hL _ hBs)); simp only [Act.put, zq1, zq2, zq3]))
      refine goA ?_
      obtain ⟨vs7, r7, z7, y7, l7⟩ := ROW.out
      refine wl_append (A := [_, _]) hL r7 (wanted_none rfl) rfl ap_Cols (by omega) rfl rfl (news := [.string ⟨#[]⟩, .slice (some ⟨W26.heap.size, 0, none⟩) 2 2, .int .i64 0]) rfl ((Blk.sl hBs (n := 3) rfl).le hL.vw.le) rfl (by omega) (by omega) ?_
      clear hL
      intro v1 W5 m5 R5 hL r8 e8
      obtain ⟨A9, c9, rfl, -⟩ := r8.lit
      simp only [List.cons_append, List.nil_append] at hL
      have rd := RowA.snoc (R := ColR) (m := m5) (x := kCol ((j : Int) + 1)) r8 z7 (y7.mono fun v x hv => ColR.mono _ _ _ _ hv leX) l7 rfl (ColR.mono _ _ _ _ HDU.out leX)
      rw [HCJ.out] at rd
      have RD := Lib.hid rd
      clear rd r8 r7 z7 y7 l7
      simp only [Act.put, zq1, zq2, zq3]
      go_wp2_with (first | ((with_reducible refine kAny ?_); go_skip) | (with_reducible refine stA ?_) | ((first | refine tIx ?_ | refine tFd ?_ | refine tLd ?_ | ((first | refine tSr ?_ | refine tSt ?_); clear hL; intro _ hL; simp only [splice, zq1, zq2, zq3] at hL) | (refine tAl ?_; clear hL; intro _ _ hL _) | (refine tBs ?_; clear hL; intro _ _ hL _ hBs)); simp only [Act.put, zq1, zq2, zq3]))
      go_roundw
      case rel => exact ⟨j + 1, _, A9, c9, R5, by omega, by go_num, hL, RD.out, exX⟩
      case measure => simp [intOf] <;> omega
    · obtain rfl : j = 2 := by omega
      have h3 : ¬ ((2 : Nat) : Int) + 1 < 3 := by decide
      obtain ⟨m9, hL9, hle9, hl9, -⟩ := RowA.show (A := [_, _]) ColR.mono hL ROW.out
      have HMS : Hid (MasterR m9 (.agg #[.int .i64 3, .slice (some ⟨w2.heap.size, 0, none⟩) 3 3, .int .i64 10, .slice A7 2 c7, .slice none 0 0]) kMs) := ⟨_, _, _, rfl, IntL.le HR.out (Le.trans leX hle9), hl9, ListV.nil⟩
      have HHF : Hid (FracC m9 (.agg #[.bool gc3', .slice Ac3' nc3' cc3', .bool hc3', .slice Bc3' kc3' dc3']) halfR) := HH.out.le (Le.trans leX hle9)
      clear hL ROW
      have hL := hL9
      clear hL9 hl9
      go_upto_region 7 with ((first | ((with_reducible refine kAny ?_); go_skip) | (with_reducible refine stA ?_) | ((first | refine tIx ?_ | refine tFd ?_ | refine tLd ?_ | ((first | refine tSr ?_ | refine tSt ?_); clear hL; intro _ hL; simp only [splice, zq1, zq2, zq3] at hL) | (refine tAl ?_; clear hL; intro _ _ hL _) | (refine tBs ?_; clear hL; intro _ _ hL _ hBs)); simp only [Act.put, zq1, zq2, zq3])))
      obtain ⟨w7, rfl⟩ := hL.world
      go_wp2_with (first | (with_reducible refine stB ?_) | (first | ((with_reducible refine kAny ?_); go_skip) | (with_reducible refine stA ?_) | ((first | refine tIx ?_ | refine tFd ?_ | refine tLd ?_ | ((first | refine tSr ?_ | refine tSt ?_); clear hL; intro _ hL; simp only [splice, zq1, zq2, zq3] at hL) | (refine tAl ?_; clear hL; intro _ _ hL _) | (refine tBs ?_; clear hL; intro _ _ hL _ hBs)); simp only [Act.put, zq1, zq2, zq3])))
      refine goA ?_
      refine wl_bslice hL (wanted_none rfl) rfl (n := 2) (cs := #[.bool gc3', .slice Ac3' nc3' cc3', .bool hc3', .slice Bc3' kc3' dc3', .bool gc3', .slice Ac3' nc3' cc3', .bool hc3', .slice Bc3' kc3' dc3']) (e := 39) (fun w => by go_simp) ?_
      clear hL
      intro W37 m37 hL e37 hb37
      simp only [Act.put, zq1, zq2, zq3]
      have hfl : FracL m37 (.slice (some ⟨w7.heap.size, 0, none⟩) 2 2) kVs := ListV.mk (vs := [.agg #[.bool gc3', .slice Ac3' nc3' cc3', .bool hc3', .slice Bc3' kc3' dc3'], .agg #[.bool gc3', .slice Ac3' nc3' cc3', .bool hc3', .slice Bc3' kc3' dc3']]) (by omega) rfl (fun u hu => by simp at hu; subst hu; rfl) (Blk.sl hb37 (n := 8) rfl) ⟨HHF.out.le leX, HHF.out.le leX, trivial⟩
      have HFL := Lib.hid hfl
      clear hfl hb37
      go_wp2_with (first | ((with_reducible refine kAny ?_); go_skip) | (with_reducible refine stA ?_) | ((first | refine tIx ?_ | refine tFd ?_ | refine tLd ?_ | ((first | refine tSr ?_ | refine tSt ?_); clear hL; intro _ hL; simp only [splice, zq1, zq2, zq3] at hL) | (refine tAl ?_; clear hL; intro _ _ hL _) | (refine tBs ?_; clear hL; intro _ _ hL _ hBs)); simp only [Act.put, zq1, zq2, zq3]))
      refine (kb_Follows _ _ _ _ hL.vw (HMS.out.le leX) (FracL.le HFL.out leX)).mono ?_
      rintro e Wc7 ⟨_, mc7, rfl, hE, hMc7, hV, v7, rfl, hv7⟩
      replace hL := hL.call hE (by assumption) hV; clear hE hV
      obtain ⟨Y7, cy7, rfl, hcy7, hv7⟩ := hv7.lit
      obtain ⟨b0, o0, g0, A0, n0, c0, f0, B0, p0, q0, rfl, hq0, hr0⟩ := FolL.at_ hv7 (show kYs[0]? = some ((0, 1), halfR) from rfl)
      obtain ⟨b1, o1, g1, A1, n1, c1, f1, B1, p1, q1, e1, -, hr1⟩ := FolL.at_ hv7 (show kYs[1]? = some ((0, 2), halfR) from rfl)
      obtain ⟨rfl, rfl⟩ : b0 = b1 ∧ o0 = o1 := by simpa using e1
      simp only at hq0 hr0 hr1
      have h10 : mc7.cell? ⟨b0, o0 + 1 * 6, none⟩ = some (.int .i64 0) := hr1 0 _ rfl
      have h11 : mc7.cell? ⟨b0, o0 + 1 * 6 + 1, none⟩ = some (.int .i64 2) := hr1 1 _ rfl
      have h02 : mc7.rangeAt b0 (o0 + 2) [.bool g0, .slice A0 n0 c0, .bool f0, .slice B0 p0 q0] := fun j v hv => by
        have h := hr0 (j + 2) v (by simpa using hv)
        rw [Nat.zero_mul, Nat.add_zero, Nat.add_comm j 2, ← Nat.add_assoc] at h
        exact h
      have HQ0 := Lib.hid hq0
      have HMS7 : Hid (MasterR mc7 (.agg #[.int .i64 3, .slice (some ⟨w2.heap.size, 0, none⟩) 3 3, .int .i64 10, .slice A7 2 c7, .slice none 0 0]) kMs) := HMS.out.le leX
      have HFT : Hid (Fit 1000 halfR) := (half_tw.fit (by decide)).mono (by decide)
      clear hv7 hr0 hr1 e1 hq0 HMS
      have hyl : kYs.length = 2 := rfl
      rw [hyl]
      clear hyl hcy7
      go_upto_region 8 with ((first | ((with_reducible refine kAny ?_); go_skip) | (with_reducible refine stA ?_) | ((first | refine tIx ?_ | refine tFd ?_ | refine tLd ?_ | ((first | refine tSr ?_ | refine tSt ?_); clear hL; intro _ hL; simp only [splice, zq1, zq2, zq3] at hL) | (refine tAl ?_; clear hL; intro _ _ hL _) | (refine tBs ?_; clear hL; intro _ _ hL _ hBs)); simp only [Act.put, zq1, zq2, zq3])))
      obtain ⟨w8, rfl⟩ := hL.world
      go_wp2_with (first | (with_reducible refine stB ?_) | (first | ((with_reducible refine kAny ?_); go_skip) | (with_reducible refine stA ?_) | ((first | refine tIx ?_ | refine tFd ?_ | refine tLd ?_ | ((first | refine tSr ?_ | refine tSt ?_); clear hL; intro _ hL; simp only [splice, zq1, zq2, zq3] at hL) | (refine tAl ?_; clear hL; intro _ _ hL _) | (refine tBs ?_; clear hL; intro _ _ hL _ hBs)); simp only [Act.put, zq1, zq2, zq3])))
      refine goA ?_
      refine wl_bslice hL (wanted_none rfl) rfl (n := 2) (cs := #[.bool gc3', .slice Ac3' nc3' cc3', .bool hc3', .slice Bc3' kc3' dc3', .bool gc3', .slice Ac3' nc3' cc3', .bool hc3', .slice Bc3' kc3' dc3']) (e := 39) (fun w => by go_simp) ?_
      clear hL
      intro W38 m38 hL e38 hb38
      simp only [Act.put, zq1, zq2, zq3]
      have hfl : FracL m38 (.slice (some ⟨w8.heap.size, 0, none⟩) 2 2) kVs := ListV.mk (vs := [.agg #[.bool gc3', .slice Ac3' nc3' cc3', .bool hc3', .slice Bc3' kc3' dc3'], .agg #[.bool gc3', .slice Ac3' nc3' cc3', .bool hc3', .slice Bc3' kc3' dc3']]) (by omega) rfl (fun u hu => by simp at hu; subst hu; rfl) (Blk.sl hb38 (n := 8) rfl) ⟨HHF.out.le leX, HHF.out.le leX, trivial⟩
      have HFL8 := Lib.hid hfl
      clear hfl hb38
      go_wp2_with (first | ((with_reducible refine kAny ?_); go_skip) | (with_reducible refine stA ?_) | ((first | refine tIx ?_ | refine tFd ?_ | refine tLd ?_ | ((first | refine tSr ?_ | refine tSt ?_); clear hL; intro _ hL; simp only [splice, zq1, zq2, zq3] at hL) | (refine tAl ?_; clear hL; intro _ _ hL _) | (refine tBs ?_; clear hL; intro _ _ hL _ hBs)); simp only [Act.put, zq1, zq2, zq3]))
      refine (kb_Choose _ _ _ _ hL.vw (HMS7.out.le leX) (FracL.le HFL8.out leX)).mono ?_
      rintro e Wc8 ⟨_, mc8, rfl, hE, hMc8, hV, rfl⟩
      replace hL := hL.call hE (by assumption) hV; clear hE hV
      go_upto_region 9 with ((first | ((with_reducible refine kAny ?_); go_skip) | (with_reducible refine stA ?_) | ((first | refine tIx ?_ | refine tFd ?_ | refine tLd ?_ | ((first | refine tSr ?_ | refine tSt ?_); clear hL; intro _ hL; simp only [splice, zq1, zq2, zq3] at hL) | (refine tAl ?_; clear hL; intro _ _ hL _) | (refine tBs ?_; clear hL; intro _ _ hL _ hBs)); simp only [Act.put, zq1, zq2, zq3])))
      refine wp_region_by2 44 [false, false, false, false, false, false, false, false, false, false, false, false, false, false, false, false, false, false, false, false, false, false, false, false, false, false, false, false, false, false, false, false, false, false, false, false, false, false, false, false, false, false, false, false] [false, false, false, false, false, false, false, false, false, false, false, false, false, false, false, false, false, false, false, false, false, false, false, false, false, false, false, false, false, false, false, false, false, false, false, false, false, false, false, false, false, false, false, false] [(fun v _ _ => v = ?c9_0), (fun v _ _ => v = ?c9_1), (fun v _ _ => v = ?c9_2), (fun v _ _ => v = ?c9_3), (fun v _ _ => v = ?c9_4), (fun v _ _ => v = ?c9_5), (fun v _ _ => v = ?c9_6), (fun v _ _ => v = ?c9_7), (fun v _ _ => v = ?c9_8), (fun v _ _ => v = ?c9_9), (fun v _ _ => v = ?c9_10), (fun v _ _ => v = ?c9_11), (fun v _ _ => v = ?c9_12), (fun v _ _ => v = ?c9_13), (fun v _ _ => v = ?c9_14), (fun v _ _ => v = ?c9_15), (fun v _ _ => v = ?c9_16), (fun v _ _ => v = ?c9_17), (fun v _ _ => v = ?c9_18), (fun v _ _ => v = ?c9_19), (fun v _ _ => v = ?c9_20), (fun v _ _ => v = ?c9_21), (fun v _ _ => v = ?c9_22), (fun v _ _ => v = ?c9_23), (fun v _ _ => v = ?c9_24), (fun v _ _ => v = ?c9_25), (fun v _ _ => v = ?c9_26), (fun v _ _ => v = ?c9_27), (fun v _ _ => v = ?c9_28), (fun v _ _ => v = ?c9_29), (fun v _ _ => v = ?c9_30), (fun v _ _ => v = ?c9_31), (fun v _ _ => v = ?c9_32), (fun v _ _ => v = ?c9_33), (fun v _ _ => v = ?c9_34), (fun v _ _ => v = ?c9_35), (fun v _ _ => v = ?c9_36), (fun v _ _ => v = ?c9_37), (fun v _ _ => v = ?c9_38), (fun v _ _ => v = ?c9_39), (fun v _ _ => v = ?c9_40), (fun v _ _ => v = ?c9_41), Is (.bool true), (fun v _ _ => v = ?c9_43)] hL.vw mixed [51, 52, 53, 54, 55, 56, 57, 58, 59, 60, 61, 62, 63, 64, 65, 66, 67, 68, 69, 70, 71, 72, 73, 74, 75, 76, 77, 78, 79, 80, 81, 82, 83, 84, 85, 86, 87, 88, 89, 90, 91, 92, 93, 94] _ (by kernel_rfl) (fun vs => by simp only [lay, Act.put, zq1, zq2, zq3]; rfl) (by kernel_rfl) (by decide) (by decide) ?s9 ?l9 ?r9
      case s9 =>
        refine ⟨?_, ?_, ?_, ?_, ?_, ?_, ?_, ?_, ?_, ?_, ?_, ?_, ?_, ?_, ?_, ?_, ?_, ?_, ?_, ?_, ?_, ?_, ?_, ?_, ?_, ?_, ?_, ?_, ?_, ?_, ?_, ?_, ?_, ?_, ?_, ?_, ?_, ?_, ?_, ?_, ?_, ?_, ?_, ?_, trivial⟩
        · intro vs W1 m1 hE hM hV hD; clear hD; replace hL := hL.call hE hM hV
          exact sPu
        · intro vs W1 m1 hE hM hV hD; obtain ⟨⟨_, _, -, -, f51⟩, -⟩ := hD; have f51 : vs 51 = _ := f51; generalize vs 51 = x51 at f51 ⊢; subst x51; replace hL := hL.call hE hM hV
          exact sPu
        · intro vs W1 m1 hE hM hV hD; obtain ⟨⟨_, _, -, -, f52⟩, -⟩ := hD; have f52 : vs 52 = _ := f52; generalize vs 52 = x52 at f52 ⊢; subst x52; replace hL := hL.call hE hM hV
          exact sPu
        · intro vs W1 m1 hE hM hV hD; obtain ⟨⟨_, _, -, -, f53⟩, -⟩ := hD; have f53 : vs 53 = _ := f53; generalize vs 53 = x53 at f53 ⊢; subst x53; replace hL := hL.call hE hM hV
          exact sPu
        · intro vs W1 m1 hE hM hV hD; obtain ⟨⟨_, _, -, -, f54⟩, ⟨_, _, -, -, f53⟩, -⟩ := hD; have f54 : vs 54 = _ := f54; generalize vs 54 = x54 at f54 ⊢; subst x54; have f53 : vs 53 = _ := f53; generalize vs 53 = x53 at f53 ⊢; subst x53; replace hL := hL.call hE hM hV
          exact sPu
        · intro vs W1 m1 hE hM hV hD; obtain ⟨⟨_, _, -, -, f53⟩, ⟨_, _, -, -, f55⟩, -⟩ := hD; have f53 : vs 53 = _ := f53; generalize vs 53 = x53 at f53 ⊢; subst x53; have f55 : vs 55 = _ := f55; generalize vs 55 = x55 at f55 ⊢; subst x55; replace hL := hL.call hE hM hV
          exact sPu
        · intro vs W1 m1 hE hM hV hD; obtain ⟨⟨_, _, -, -, f56⟩, -, -⟩ := hD; have f56 : vs 56 = _ := f56; generalize vs 56 = x56 at f56 ⊢; subst x56; replace hL := hL.call hE hM hV
          exact sPu
        · intro vs W1 m1 hE hM hV hD; obtain ⟨⟨_, _, -, -, f57⟩, -⟩ := hD; have f57 : vs 57 = _ := f57; generalize vs 57 = x57 at f57 ⊢; subst x57; replace hL := hL.call hE hM hV
          exact sPu
        · intro vs W1 m1 hE hM hV hD; obtain ⟨⟨_, _, -, -, f57⟩, ⟨_, _, -, -, f58⟩, -⟩ := hD; have f57 : vs 57 = _ := f57; generalize vs 57 = x57 at f57 ⊢; subst x57; have f58 : vs 58 = _ := f58; generalize vs 58 = x58 at f58 ⊢; subst x58; replace hL := hL.call hE hM hV
          exact sPu
        · intro vs W1 m1 hE hM hV hD; obtain ⟨⟨_, _, -, -, f59⟩, -, -⟩ := hD; have f59 : vs 59 = _ := f59; generalize vs 59 = x59 at f59 ⊢; subst x59; replace hL := hL.call hE hM hV
          exact sPu
        · intro vs W1 m1 hE hM hV hD; obtain ⟨⟨_, _, -, -, f60⟩, -⟩ := hD; have f60 : vs 60 = _ := f60; generalize vs 60 = x60 at f60 ⊢; subst x60; replace hL := hL.call hE hM hV
          exact sPu
        · intro vs W1 m1 hE hM hV hD; obtain ⟨⟨_, _, -, -, f61⟩, ⟨_, _, -, -, f60⟩, -⟩ := hD; have f61 : vs 61 = _ := f61; generalize vs 61 = x61 at f61 ⊢; subst x61; have f60 : vs 60 = _ := f60; generalize vs 60 = x60 at f60 ⊢; subst x60; replace hL := hL.call hE hM hV
          exact sPu
        · intro vs W1 m1 hE hM hV hD; obtain ⟨⟨_, _, -, -, f60⟩, ⟨_, _, -, -, f62⟩, -⟩ := hD; have f60 : vs 60 = _ := f60; generalize vs 60 = x60 at f60 ⊢; subst x60; have f62 : vs 62 = _ := f62; generalize vs 62 = x62 at f62 ⊢; subst x62; replace hL := hL.call hE hM hV
          exact sPu
        · intro vs W1 m1 hE hM hV hD; obtain ⟨⟨_, _, -, -, f63⟩, -, -⟩ := hD; have f63 : vs 63 = _ := f63; generalize vs 63 = x63 at f63 ⊢; subst x63; replace hL := hL.call hE hM hV
          exact sPu
        · intro vs W1 m1 hE hM hV hD; obtain ⟨⟨_, _, -, -, f64⟩, -⟩ := hD; have f64 : vs 64 = _ := f64; generalize vs 64 = x64 at f64 ⊢; subst x64; replace hL := hL.call hE hM hV
          exact sPu
        · intro vs W1 m1 hE hM hV hD; obtain ⟨⟨_, _, -, -, f65⟩, ⟨_, _, -, -, f64⟩, -⟩ := hD; have f65 : vs 65 = _ := f65; generalize vs 65 = x65 at f65 ⊢; subst x65; have f64 : vs 64 = _ := f64; generalize vs 64 = x64 at f64 ⊢; subst x64; replace hL := hL.call hE hM hV
          exact sPu
        · intro vs W1 m1 hE hM hV hD; obtain ⟨⟨_, _, -, -, f64⟩, ⟨_, _, -, -, f66⟩, -⟩ := hD; have f64 : vs 64 = _ := f64; generalize vs 64 = x64 at f64 ⊢; subst x64; have f66 : vs 66 = _ := f66; generalize vs 66 = x66 at f66 ⊢; subst x66; replace hL := hL.call hE hM hV
          exact sPu
        · intro vs W1 m1 hE hM hV hD; obtain ⟨⟨_, _, -, -, f67⟩, -, -⟩ := hD; have f67 : vs 67 = _ := f67; generalize vs 67 = x67 at f67 ⊢; subst x67; replace hL := hL.call hE hM hV
          exact sPu
        · intro vs W1 m1 hE hM hV hD; obtain ⟨⟨_, _, -, -, f68⟩, -⟩ := hD; have f68 : vs 68 = _ := f68; generalize vs 68 = x68 at f68 ⊢; subst x68; replace hL := hL.call hE hM hV
          exact sPu
        · intro vs W1 m1 hE hM hV hD; obtain ⟨⟨_, _, -, -, f69⟩, ⟨_, _, -, -, f68⟩, -⟩ := hD; have f69 : vs 69 = _ := f69; generalize vs 69 = x69 at f69 ⊢; subst x69; have f68 : vs 68 = _ := f68; generalize vs 68 = x68 at f68 ⊢; subst x68; replace hL := hL.call hE hM hV
          go_wp2_with (first | ((with_reducible refine kAny ?_); go_skip) | (with_reducible refine stA ?_) | ((first | refine tIx ?_ | refine tFd ?_ | refine tLd ?_ | ((first | refine tSr ?_ | refine tSt ?_); clear hL; intro _ hL; simp only [splice, zq1, zq2, zq3] at hL) | (refine tAl ?_; clear hL; intro _ _ hL _) | (refine tBs ?_; clear hL; intro _ _ hL _ hBs)); simp only [Act.put, zq1, zq2, zq3]))
          refine One2.still hV ?_; exact rfl
        · intro vs W1 m1 hE hM hV hD; obtain ⟨⟨_, _, -, -, f70⟩, ⟨_, _, -, -, f68⟩, -⟩ := hD; have f70 : vs 70 = _ := f70; generalize vs 70 = x70 at f70 ⊢; subst x70; have f68 : vs 68 = _ := f68; generalize vs 68 = x68 at f68 ⊢; subst x68; replace hL := hL.call hE hM hV
          exact sPu
        · intro vs W1 m1 hE hM hV hD; obtain ⟨⟨_, _, -, -, f68⟩, ⟨_, _, -, -, f71⟩, -⟩ := hD; have f68 : vs 68 = _ := f68; generalize vs 68 = x68 at f68 ⊢; subst x68; have f71 : vs 71 = _ := f71; generalize vs 71 = x71 at f71 ⊢; subst x71; replace hL := hL.call hE hM hV
          exact sPu
        · intro vs W1 m1 hE hM hV hD; obtain ⟨⟨_, _, -, -, f72⟩, -, -⟩ := hD; have f72 : vs 72 = _ := f72; generalize vs 72 = x72 at f72 ⊢; subst x72; replace hL := hL.call hE hM hV
          exact sPu
        · intro vs W1 m1 hE hM hV hD; obtain ⟨⟨_, _, -, -, f73⟩, -⟩ := hD; have f73 : vs 73 = _ := f73; generalize vs 73 = x73 at f73 ⊢; subst x73; replace hL := hL.call hE hM hV
          exact sPu
        · intro vs W1 m1 hE hM hV hD; obtain ⟨⟨_, _, -, -, f74⟩, ⟨_, _, -, -, f73⟩, -⟩ := hD; have f74 : vs 74 = _ := f74; generalize vs 74 = x74 at f74 ⊢; subst x74; have f73 : vs 73 = _ := f73; generalize vs 73 = x73 at f73 ⊢; subst x73; replace hL := hL.call hE hM hV
          exact sI1
        · intro vs W1 m1 hE hM hV hD; obtain ⟨⟨_, _, -, -, f75⟩, ⟨_, _, -, -, f73⟩, -⟩ := hD; have f75 : vs 75 = _ := f75; generalize vs 75 = x75 at f75 ⊢; subst x75; have f73 : vs 73 = _ := f73; generalize vs 73 = x73 at f73 ⊢; subst x73; replace hL := hL.call hE hM hV
          exact sFd
        · intro vs W1 m1 hE hM hV hD; obtain ⟨⟨_, _, -, -, f76⟩, ⟨_, _, -, -, f73⟩, -⟩ := hD; have f76 : vs 76 = _ := f76; generalize vs 76 = x76 at f76 ⊢; subst x76; have f73 : vs 73 = _ := f73; generalize vs 73 = x73 at f73 ⊢; subst x73; replace hL := hL.call hE hM hV
          exact sLd
        · intro vs W1 m1 hE hM hV hD; obtain ⟨⟨_, _, -, -, f77⟩, ⟨_, _, -, -, f73⟩, -⟩ := hD; have f77 : vs 77 = _ := f77; generalize vs 77 = x77 at f77 ⊢; subst x77; have f73 : vs 73 = _ := f73; generalize vs 73 = x73 at f73 ⊢; subst x73; replace hL := hL.call hE hM hV
          exact sPu
        · intro vs W1 m1 hE hM hV hD; obtain ⟨⟨_, _, -, -, f73⟩, ⟨_, _, -, -, f78⟩, -⟩ := hD; have f73 : vs 73 = _ := f73; generalize vs 73 = x73 at f73 ⊢; subst x73; have f78 : vs 78 = _ := f78; generalize vs 78 = x78 at f78 ⊢; subst x78; replace hL := hL.call hE hM hV
          exact sPu
        · intro vs W1 m1 hE hM hV hD; obtain ⟨⟨_, _, -, -, f79⟩, -, -⟩ := hD; have f79 : vs 79 = _ := f79; generalize vs 79 = x79 at f79 ⊢; subst x79; replace hL := hL.call hE hM hV
          exact sPu
        · intro vs W1 m1 hE hM hV hD; obtain ⟨⟨_, _, -, -, f80⟩, -⟩ := hD; have f80 : vs 80 = _ := f80; generalize vs 80 = x80 at f80 ⊢; subst x80; replace hL := hL.call hE hM hV
          exact sPu
        · intro vs W1 m1 hE hM hV hD; obtain ⟨⟨_, _, -, -, f81⟩, ⟨_, _, -, -, f80⟩, -⟩ := hD; have f81 : vs 81 = _ := f81; generalize vs 81 = x81 at f81 ⊢; subst x81; have f80 : vs 80 = _ := f80; generalize vs 80 = x80 at f80 ⊢; subst x80; replace hL := hL.call hE hM hV
          exact sI1
        · intro vs W1 m1 hE hM hV hD; obtain ⟨⟨_, _, -, -, f82⟩, ⟨_, _, -, -, f80⟩, -⟩ := hD; have f82 : vs 82 = _ := f82; generalize vs 82 = x82 at f82 ⊢; subst x82; have f80 : vs 80 = _ := f80; generalize vs 80 = x80 at f80 ⊢; subst x80; replace hL := hL.call hE hM hV
          exact sFd
        · intro vs W1 m1 hE hM hV hD; obtain ⟨⟨_, _, -, -, f83⟩, ⟨_, _, -, -, f80⟩, -⟩ := hD; have f83 : vs 83 = _ := f83; generalize vs 83 = x83 at f83 ⊢; subst x83; have f80 : vs 80 = _ := f80; generalize vs 80 = x80 at f80 ⊢; subst x80; replace hL := hL.call hE hM hV
          exact sLd
        · intro vs W1 m1 hE hM hV hD; obtain ⟨⟨_, _, -, -, f84⟩, ⟨_, _, -, -, f80⟩, -⟩ := hD; have f84 : vs 84 = _ := f84; generalize vs 84 = x84 at f84 ⊢; subst x84; have f80 : vs 80 = _ := f80; generalize vs 80 = x80 at f80 ⊢; subst x80; replace hL := hL.call hE hM hV
          exact sPu
        · intro vs W1 m1 hE hM hV hD; obtain ⟨⟨_, _, -, -, f80⟩, ⟨_, _, -, -, f85⟩, -⟩ := hD; have f80 : vs 80 = _ := f80; generalize vs 80 = x80 at f80 ⊢; subst x80; have f85 : vs 85 = _ := f85; generalize vs 85 = x85 at f85 ⊢; subst x85; replace hL := hL.call hE hM hV
          exact sPu
        · intro vs W1 m1 hE hM hV hD; obtain ⟨⟨_, _, -, -, f86⟩, -, -⟩ := hD; have f86 : vs 86 = _ := f86; generalize vs 86 = x86 at f86 ⊢; subst x86; replace hL := hL.call hE hM hV
          exact sPu
        · intro vs W1 m1 hE hM hV hD; obtain ⟨⟨_, _, -, -, f87⟩, -⟩ := hD; have f87 : vs 87 = _ := f87; generalize vs 87 = x87 at f87 ⊢; subst x87; replace hL := hL.call hE hM hV
          exact sPu
        · intro vs W1 m1 hE hM hV hD; obtain ⟨⟨_, _, -, -, f88⟩, ⟨_, _, -, -, f87⟩, -⟩ := hD; have f88 : vs 88 = _ := f88; generalize vs 88 = x88 at f88 ⊢; subst x88; have f87 : vs 87 = _ := f87; generalize vs 87 = x87 at f87 ⊢; subst x87; replace hL := hL.call hE hM hV
          exact sIz
        · intro vs W1 m1 hE hM hV hD; obtain ⟨⟨_, _, -, -, f89⟩, ⟨_, _, -, -, f87⟩, -⟩ := hD; have f89 : vs 89 = _ := f89; generalize vs 89 = x89 at f89 ⊢; subst x89; have f87 : vs 87 = _ := f87; generalize vs 87 = x87 at f87 ⊢; subst x87; replace hL := hL.call hE hM hV
          exact sFd
        · intro vs W1 m1 hE hM hV hD; obtain ⟨⟨_, _, -, -, f90⟩, ⟨_, _, -, -, f87⟩, -⟩ := hD; have f90 : vs 90 = _ := f90; generalize vs 90 = x90 at f90 ⊢; subst x90; have f87 : vs 87 = _ := f87; generalize vs 87 = x87 at f87 ⊢; subst x87; replace hL := hL.call hE hM hV
          exact sLd
        · intro vs W1 m1 hE hM hV hD; obtain ⟨⟨_, _, -, -, f87⟩, -⟩ := hD; have f87 : vs 87 = _ := f87; generalize vs 87 = x87 at f87 ⊢; subst x87; replace hL := hL.call hE hM hV
          exact sLd
        · intro vs W1 m1 hE hM hV hD; obtain ⟨⟨_, _, -, -, f91⟩, ⟨_, _, -, -, f92⟩, ⟨_, _, -, -, f87⟩, -, -⟩ := hD; have f91 : vs 91 = _ := f91; generalize vs 91 = x91 at f91 ⊢; subst x91; have f92 : vs 92 = _ := f92; generalize vs 92 = x92 at f92 ⊢; subst x92; have f87 : vs 87 = _ := f87; generalize vs 87 = x87 at f87 ⊢; subst x87
          go_wp2_with fail
          refine (r_Same _ _ halfR _ _ hV (HQ0.out.le leX) (HHF.out.le leX) HFT.out).mono ?_
          rintro e W2 ⟨v, m2, rfl, hE2, hM2, hV2, h⟩
          go_wp2_with fail
          refine One2.call hE2 hM2 hV2 ?_; first | exact h | exact rfl
        · intro vs W1 m1 hE hM hV hD; obtain ⟨⟨_, _, -, -, f87⟩, ⟨_, _, -, -, f93⟩, -⟩ := hD; have f87 : vs 87 = _ := f87; generalize vs 87 = x87 at f87 ⊢; subst x87; have f93 : vs 93 = _ := f93; generalize vs 93 = x93 at f93 ⊢; subst x93; replace hL := hL.call hE hM hV
          exact sPu
      case l9 =>
        refine ⟨fun h => (by cases h), fun h => (by cases h), fun h => (by cases h), fun h => (by cases h), fun h => (by cases h), fun h => (by cases h), fun h => (by cases h), fun h => (by cases h), fun h => (by cases h), fun h => (by cases h), fun h => (by cases h), fun h => (by cases h), fun h => (by cases h), fun h => (by cases h), fun h => (by cases h), fun h => (by cases h), fun h => (by cases h), fun h => (by cases h), fun h => (by cases h), fun h => (by cases h), fun h => (by cases h), fun h => (by cases h), fun h => (by cases h), fun h => (by cases h), fun h => (by cases h), fun h => (by cases h), fun h => (by cases h), fun h => (by cases h), fun h => (by cases h), fun h => (by cases h), fun h => (by cases h), fun h => (by cases h), fun h => (by cases h), fun h => (by cases h), fun h => (by cases h), fun h => (by cases h), fun h => (by cases h), fun h => (by cases h), fun h => (by cases h), fun h => (by cases h), fun h => (by cases h), fun h => (by cases h), fun h => (by cases h), fun h => (by cases h), trivial⟩
      intro vs W1 m1 hE hM hV hF hD
      clear hD
      obtain ⟨-, -, -, -, -, -, -, -, -, -, -, -, -, -, -, -, -, -, -, -, -, -, -, -, -, -, -, -, -, -, -, -, -, -, -, -, -, -, -, -, -, -, -, ⟨_, _, -, -, f94⟩, -⟩ := hF
      replace hL := hL.call hE hM hV
      have f94 : vs 94 = _ := f94
      generalize vs 94 = x94 at f94 ⊢
      subst x94
      clear hE hV
      simp only [List.drop_succ_cons, List.drop_zero]
      go_wp2_with (first | ((with_reducible refine kAny ?_); go_skip) | (with_reducible refine stA ?_) | ((first | refine tIx ?_ | refine tFd ?_ | refine tLd ?_ | ((first | refine tSr ?_ | refine tSt ?_); clear hL; intro _ hL; simp only [splice, zq1, zq2, zq3] at hL) | (refine tAl ?_; clear hL; intro _ _ hL _) | (refine tBs ?_; clear hL; intro _ _ hL _ hBs)); simp only [Act.put, zq1, zq2, zq3]))
      refine QN.mk ?_
      go_wp2_with (first | ((with_reducible refine kAny ?_); go_skip) | (with_reducible refine stA ?_) | ((first | refine tIx ?_ | refine tFd ?_ | refine tLd ?_ | ((first | refine tSr ?_ | refine tSt ?_); clear hL; intro _ hL; simp only [splice, zq1, zq2, zq3] at hL) | (refine tAl ?_; clear hL; intro _ _ hL _) | (refine tBs ?_; clear hL; intro _ _ hL _ hBs)); simp only [Act.put, zq1, zq2, zq3]))
      go_ret
      exact RetV.mk hL rfl
end Go.Proofs.YtmhkmmmompediaaGreat

/- Contract of pairinglaw30.decisions; slices.Clone of decisions whose row stays the caller's. -/
namespace Go.Proofs.YtmhkmmmompediaaGreat
open Go.RowKit

def RowPost {α : Type} (e : TypeId) (size : Nat) (R : World → Value → α → Prop) (w m : World) (xs : List α) (en : Ending) (w' : World) : Prop :=
  ∃ v m' Rr, en = .returned v ∧ Loc w m w' m' Rr ∧ RowA e size R m' v xs.length xs Rr
abbrev DecPost := RowPost (α := Dec) 87 3 DecR
def decT (z : Int) : Dec := (z % 4, z / 4 % 4, z / 16 % 2 == 1)
def decF (l : List Int) : List Dec := (l.take 4).map decT
theorem decF_len (l : List Int) : (decF l).length ≤ 4 := by unfold decF; simp; omega
theorem dec_step {l : List Int} {k : Nat} {z : Int} (h : l[k]? = some z) : (l.take k).map decT ++ [decT z] = (l.take (k + 1)).map decT := by
  rw [← take_snoc h]; simp

set_option maxRecDepth 100000 in
set_option maxHeartbeats 16000000 in
theorem d_decisions (A : Option Addr) (c : Nat) (l : List Int) (w m : World) (hV : Vw m w) (h : Sl m A (l.map I64)) :
    Calls Tryz.prog 56 #[.slice A l.length c] w (DecPost w m (decF l)) := by
  have HS := Lib.hid h
  have hL := Loc.start hV
  clear hV h
  have HPO : Hid (∀ k, (k = 4 ∨ l.length ≤ k) → k ≤ 4 → (l.take k).map decT = decF l) := by
    show ∀ k, _
    intro k hk h4
    unfold decF
    rcases hk with rfl | hk
    · rfl
    · rw [List.take_of_length_le hk, List.take_of_length_le (by omega)]
  generalize hn : l.length = n at *
  have HN := Lib.hid hn
  clear hn
  go_enter Tryz.func56, Tryz.ntmps56
  go_wp2_with (first | ((with_reducible refine kAny ?_); go_skip) | (with_reducible refine stA ?_) | ((first | refine tIx ?_ | refine tLd ?_ | (refine tBs ?_; clear hL; intro _ _ hL _ hBs)); simp only [Act.put, zq1, zq2, zq3]))
  go_loopw [3, 4] (fun out i wr => ∃ (k : Nat) (mm : World) (R3 : List Lo), k ≤ 4 ∧ k ≤ n ∧ i = .int .i64 k ∧ Loc w m wr mm R3 ∧ Hid (RowA 87 3 DecR mm out k ((l.take k).map decT) R3)) (fun _ i _ => 4 - (intOf i).toNat)
  case atStart => exact ⟨0, m, [], by omega, Nat.zero_le _, rfl, hL, RowA.nil⟩
  case round =>
    clear hL
    obtain ⟨k, mm, R3, hk4, hkn, rfl, hL, row⟩ := hrel
    have hM := hL.mext
    obtain ⟨A3, c3, rfl, row1⟩ := row.out.lit
    have ROW := Lib.hid row1
    clear row row1
    by_cases hlt : k < n
    · by_cases hlt4 : k < 4
      · obtain ⟨z, hz⟩ := at_some HN hlt
        have hzI : (l.map I64)[k]? = some (.int .i64 z) := by rw [List.getElem?_map, hz]; rfl
        obtain ⟨b1, o1, rfl, -, hcell⟩ := HS.out (by rw [List.length_map, HN.out]; omega)
        have hc1 := hcell _ _ hzI
        have HD := Lib.hid (dec_step hz)
        have e1 := i64_and2' z
        have e2 := i64_and2' (z / 4)
        have e3 := i64_and1 (z / 16)
        have HT : Hid (decT z = (z % 4, z / 4 % 4, z / 16 % 2 == 1)) := rfl
        clear hz hzI hcell
        generalize z % 4 = d1 at *
        generalize z / 4 % 4 = d2 at *
        generalize z / 16 % 2 = d3 at *
        go_upto_region 5 with ((first | ((with_reducible refine kAny ?_); go_skip) | (with_reducible refine stA ?_) | ((first | refine tIx ?_ | refine tLd ?_ | (refine tBs ?_; clear hL; intro _ _ hL _ hBs)); simp only [Act.put, zq1, zq2, zq3])))
        (try simp only [eq_self] at *)
        refine wp_region_by2 21 [false, false, false, false, false, false, false, false, false, false, false, false, false, false, false, false, false, false, false, false, false] [false, false, false, false, false, false, false, false, false, false, false, false, false, false, false, false, false, false, false, false, false] [(fun v _ _ => v = ?c5_0), (fun v _ _ => v = ?c5_1), (fun v _ _ => v = ?c5_2), (fun v _ _ => v = ?c5_3), (fun v _ _ => v = ?c5_4), (fun v _ _ => v = ?c5_5), (fun v _ _ => v = ?c5_6), (fun v _ _ => v = ?c5_7), (fun v _ _ => v = ?c5_8), (fun v _ _ => v = ?c5_9), (fun v _ _ => v = ?c5_10), (fun v _ _ => v = ?c5_11), (fun v _ _ => v = ?c5_12), (fun v _ _ => v = ?c5_13), (fun v _ _ => v = ?c5_14), (fun v _ _ => v = ?c5_15), (fun v _ _ => v = ?c5_16), (fun v _ _ => v = ?c5_17), (fun v _ _ => v = ?c5_18), (fun v _ _ => v = ?c5_19), (NewS1 87 (fun _ v => v = .agg #[.int .i64 d1, .int .i64 d2, .bool (d3 == 1)]))] hL.vw mixed [15, 16, 17, 18, 19, 20, 21, 22, 23, 24, 25, 26, 27, 28, 29, 30, 31, 32, 33, 34, 35] _ (by kernel_rfl) (fun vs => by simp only [lay, Act.put, zq1, zq2, zq3]; rfl) (by kernel_rfl) (by decide) (by decide) ?s5 ?l5 ?r5
        case s5 =>
          refine ⟨?_, ?_, ?_, ?_, ?_, ?_, ?_, ?_, ?_, ?_, ?_, ?_, ?_, ?_, ?_, ?_, ?_, ?_, ?_, ?_, ?_, trivial⟩
          · intro vs W1 m1 hE hM hV hD; clear hD; replace hL := hL.call hE hM hV
            exact sPu
          · intro vs W1 m1 hE hM hV hD; clear hD; replace hL := hL.call hE hM hV
            exact sPu
          · intro vs W1 m1 hE hM hV hD; clear hD; replace hL := hL.call hE hM hV
            exact sPu
          · intro vs W1 m1 hE hM hV hD; obtain ⟨⟨_, _, -, -, f16⟩, ⟨_, _, -, -, f17⟩, -⟩ := hD; have f16 : vs 16 = _ := f16; generalize vs 16 = x16 at f16 ⊢; subst x16; have f17 : vs 17 = _ := f17; generalize vs 17 = x17 at f17 ⊢; subst x17; replace hL := hL.call hE hM hV
            exact sIx
          · intro vs W1 m1 hE hM hV hD; obtain ⟨⟨_, _, -, -, f18⟩, -⟩ := hD; have f18 : vs 18 = _ := f18; generalize vs 18 = x18 at f18 ⊢; subst x18; replace hL := hL.call hE hM hV
            exact sLd
          · intro vs W1 m1 hE hM hV hD; obtain ⟨⟨_, _, -, -, f19⟩, -⟩ := hD; have f19 : vs 19 = _ := f19; generalize vs 19 = x19 at f19 ⊢; subst x19; replace hL := hL.call hE hM hV
            exact sPu
          · intro vs W1 m1 hE hM hV hD; clear hD; replace hL := hL.call hE hM hV
            exact sPu
          · intro vs W1 m1 hE hM hV hD; clear hD; replace hL := hL.call hE hM hV
            exact sPu
          · intro vs W1 m1 hE hM hV hD; obtain ⟨⟨_, _, -, -, f21⟩, ⟨_, _, -, -, f22⟩, -⟩ := hD; have f21 : vs 21 = _ := f21; generalize vs 21 = x21 at f21 ⊢; subst x21; have f22 : vs 22 = _ := f22; generalize vs 22 = x22 at f22 ⊢; subst x22; replace hL := hL.call hE hM hV
            exact sIx
          · intro vs W1 m1 hE hM hV hD; obtain ⟨⟨_, _, -, -, f23⟩, -⟩ := hD; have f23 : vs 23 = _ := f23; generalize vs 23 = x23 at f23 ⊢; subst x23; replace hL := hL.call hE hM hV
            exact sLd
          · intro vs W1 m1 hE hM hV hD; obtain ⟨⟨_, _, -, -, f24⟩, -⟩ := hD; have f24 : vs 24 = _ := f24; generalize vs 24 = x24 at f24 ⊢; subst x24; replace hL := hL.call hE hM hV
            exact sPu
          · intro vs W1 m1 hE hM hV hD; obtain ⟨⟨_, _, -, -, f25⟩, -⟩ := hD; have f25 : vs 25 = _ := f25; generalize vs 25 = x25 at f25 ⊢; subst x25; replace hL := hL.call hE hM hV
            exact sPu
          · intro vs W1 m1 hE hM hV hD; clear hD; replace hL := hL.call hE hM hV
            exact sPu
          · intro vs W1 m1 hE hM hV hD; clear hD; replace hL := hL.call hE hM hV
            exact sPu
          · intro vs W1 m1 hE hM hV hD; obtain ⟨⟨_, _, -, -, f27⟩, ⟨_, _, -, -, f28⟩, -⟩ := hD; have f27 : vs 27 = _ := f27; generalize vs 27 = x27 at f27 ⊢; subst x27; have f28 : vs 28 = _ := f28; generalize vs 28 = x28 at f28 ⊢; subst x28; replace hL := hL.call hE hM hV
            exact sIx
          · intro vs W1 m1 hE hM hV hD; obtain ⟨⟨_, _, -, -, f29⟩, -⟩ := hD; have f29 : vs 29 = _ := f29; generalize vs 29 = x29 at f29 ⊢; subst x29; replace hL := hL.call hE hM hV
            exact sLd
          · intro vs W1 m1 hE hM hV hD; obtain ⟨⟨_, _, -, -, f30⟩, -⟩ := hD; have f30 : vs 30 = _ := f30; generalize vs 30 = x30 at f30 ⊢; subst x30; replace hL := hL.call hE hM hV
            exact sPu
          · intro vs W1 m1 hE hM hV hD; obtain ⟨⟨_, _, -, -, f31⟩, -⟩ := hD; have f31 : vs 31 = _ := f31; generalize vs 31 = x31 at f31 ⊢; subst x31; replace hL := hL.call hE hM hV
            exact sPu
          · intro vs W1 m1 hE hM hV hD; obtain ⟨⟨_, _, -, -, f32⟩, -⟩ := hD; have f32 : vs 32 = _ := f32; generalize vs 32 = x32 at f32 ⊢; subst x32; replace hL := hL.call hE hM hV
            exact sPu
          · intro vs W1 m1 hE hM hV hD; obtain ⟨⟨_, _, -, -, f20⟩, ⟨_, _, -, -, f26⟩, ⟨_, _, -, -, f33⟩, -⟩ := hD; have f20 : vs 20 = _ := f20; generalize vs 20 = x20 at f20 ⊢; subst x20; have f26 : vs 26 = _ := f26; generalize vs 26 = x26 at f26 ⊢; subst x26; have f33 : vs 33 = _ := f33; generalize vs 33 = x33 at f33 ⊢; subst x33; replace hL := hL.call hE hM hV
            exact sPu
          · intro vs W1 m1 hE hM hV hD; obtain ⟨⟨_, _, -, -, f34⟩, -⟩ := hD; have f34 : vs 34 = _ := f34; generalize vs 34 = x34 at f34 ⊢; subst x34
            (go_wp2_with fail; exact one2_s1 hV fun _ _ => rfl)
        case l5 =>
          refine ⟨fun h => (by cases h), fun h => (by cases h), fun h => (by cases h), fun h => (by cases h), fun h => (by cases h), fun h => (by cases h), fun h => (by cases h), fun h => (by cases h), fun h => (by cases h), fun h => (by cases h), fun h => (by cases h), fun h => (by cases h), fun h => (by cases h), fun h => (by cases h), fun h => (by cases h), fun h => (by cases h), fun h => (by cases h), fun h => (by cases h), fun h => (by cases h), fun h => (by cases h), fun h => (by cases h), trivial⟩
        intro vs W1 m1 hE hM hV hF hD
        clear hD
        obtain ⟨⟨_, _, -, -, f15⟩, -, -, -, -, -, -, -, -, -, -, -, -, -, -, -, -, -, -, -, ⟨_, _, j35, i35, f35⟩, -⟩ := hF
        replace hL := hL.call hE hM hV
        have f15 : vs 15 = _ := f15
        generalize vs 15 = x15 at f15 ⊢
        subst x15
        clear hE hV
        obtain ⟨g15, cs15, e15, q15, f15⟩ := f35
        generalize vs 35 = x15 at e15 ⊢
        subst x15
        replace q15 := q15.ext j35
        have f16 : Value.agg cs15 = .agg #[.int .i64 d1, .int .i64 d2, .bool (d3 == 1)] := f15
        injection f16 with f16
        subst f16
        clear f15 i35 j35
        simp only [List.drop_succ_cons, List.drop_zero]
        obtain ⟨vs7, r7, z7, y7, l7⟩ := ROW.out
        refine wl_append (A := []) hL r7 (wanted_none rfl) rfl ap_Decs (by omega) rfl rfl (news := [.int .i64 d1, .int .i64 d2, .bool (d3 == 1)]) rfl (Blk.sl q15 (n := 3) rfl) rfl (by omega) (by omega) ?_
        clear hL
        intro v1 W5 m5 R5 hL r8 e8
        obtain ⟨A9, c9, rfl, -⟩ := r8.lit
        simp only [List.nil_append] at hL
        have rd := RowA.snoc (R := DecR) (m := m5) (x := (d1, d2, d3 == 1)) r8 z7 (y7.mono fun _ _ h => h) l7 rfl rfl
        rw [← HT.out, HD.out] at rd
        have RD := Lib.hid rd
        clear rd r8 r7 z7 y7 l7
        simp only [Act.put, zq1, zq2, zq3]
        go_wp2_with (first | ((with_reducible refine kAny ?_); go_skip) | (with_reducible refine stA ?_) | ((first | refine tIx ?_ | refine tLd ?_ | (refine tBs ?_; clear hL; intro _ _ hL _ hBs)); simp only [Act.put, zq1, zq2, zq3]))
        refine QN.mk ?_
        go_wp2_with (first | ((with_reducible refine kAny ?_); go_skip) | (with_reducible refine stA ?_) | ((first | refine tIx ?_ | refine tLd ?_ | (refine tBs ?_; clear hL; intro _ _ hL _ hBs)); simp only [Act.put, zq1, zq2, zq3]))
        go_roundw
        case rel => exact ⟨k + 1, m5, R5, by omega, by omega, by go_num, hL, RD.out⟩
        case measure => simp [intOf] <;> omega
      · have hE := HPO.out k (.inl (by omega)) hk4
        go_wp2_with (first | ((with_reducible refine kAny ?_); go_skip) | (with_reducible refine stA ?_) | ((first | refine tIx ?_ | refine tLd ?_ | (refine tBs ?_; clear hL; intro _ _ hL _ hBs)); simp only [Act.put, zq1, zq2, zq3]))
        go_ret
        refine ⟨_, mm, R3, rfl, hL, ?_⟩
        have h9 := ROW.out
        rw [hE] at h9
        rw [← h9.len]; exact h9
    · have hE := HPO.out k (.inr (by omega)) hk4
      go_wp2_with (first | ((with_reducible refine kAny ?_); go_skip) | (with_reducible refine stA ?_) | ((first | refine tIx ?_ | refine tLd ?_ | (refine tBs ?_; clear hL; intro _ _ hL _ hBs)); simp only [Act.put, zq1, zq2, zq3]))
      go_ret
      refine ⟨_, mm, R3, rfl, hL, ?_⟩
      have h9 := ROW.out
      rw [hE] at h9
      rw [← h9.len]; exact h9

set_option maxRecDepth 100000 in
set_option maxHeartbeats 4000000 in
theorem s_CloneDecsR (v : Value) (xs : List Dec) (w m : World) (hV : Vw m w) (h : DecL m v xs) (hl : xs.length ≤ 1000) :
    Calls Tryz.prog 121 #[v] w (DecPost w m xs) := by
  have h' := h
  obtain ⟨A, c, vs, rfl, hc, h1, hs, h2⟩ := h
  have q35 : ∀ (w : World) (a : Option Addr) (n c n' c' : Nat), (binOp .eql 29 (.slice a n c) (.slice none n' c')).run Tryz.prog w = .ok (.bool a.isNone) w := fun w a n c n' c' => Lib.run_eql_slice_nil w _ _ a n c n' c' Tryz.underlying29
  have hL := Loc.start hV
  cases A with
  | none =>
    have h0 := ListV.nil_of (by omega) h'
    subst h0
    simp only [List.length_nil]
    clear hs hc hl h1 h2 h'
    go_enter Tryz.func121, Tryz.ntmps121
    go_wp2
    go_ret
    exact ⟨_, m, [], rfl, hL, RowA.nil⟩
  | some ad =>
    have hvl : vs.length = xs.length := h2.length
    have hcl := cellsOf_length h1
    have HC : Hid ((cellsOf vs).all (·.oneCell') = true) := by
      show _ = true
      refine List.all_eq_true.2 fun u hu => ?_
      obtain ⟨x, hx, hu⟩ := List.mem_flatMap.1 hu
      obtain ⟨k, hk⟩ := List.mem_iff_getElem?.1 hx
      obtain ⟨y, rfl⟩ := All2.left h2 hk
      simp [Value.cells] at hu
      rcases hu with rfl | rfl | rfl <;> rfl
    generalize hn : xs.length = n at *
    have HN := Lib.hid hn
    have HL := Lib.hid hl
    have HH : Hid ((cellsOf vs).length = n * 3) := by show _ = _; rw [hcl, hvl]
    have H1 := Lib.hid h1
    have H2 := Lib.hid h2
    have HV := Lib.hid hvl
    clear hn hl hcl h1 h2 hvl h'
    clear hV
    go_enter Tryz.func121, Tryz.ntmps121
    go_wp2_with (at_builtin; go_must (refine wl_append (A := []) (hL.alloc #[] 87) (row_empty 87 3 _) (wanted_none rfl) rfl ap_Decs (by omega) rfl rfl HH.out ((hs.le hL.vw.le).ext (Ext.new _ _)) HC.out (by have := HL.out; omega) (by omega) ?_); intro v1 W1 m1 R1 hL1 hR1 hM1)
    go_ret
    simp only [Nat.zero_add, List.nil_append] at hR1
    refine ⟨_, m1, R1, rfl, hL1, ?_⟩
    rw [HN.out]
    exact ⟨vs, hR1, H1.out, H2.out.mono fun _ _ h => h, HV.out⟩
end Go.Proofs.YtmhkmmmompediaaGreat

/- Contracts of branch.Children and pairingref27.Children. -/
namespace Go.Proofs.YtmhkmmmompediaaGreat
open Go.RowKit

def hasD (ds : List Dec) (f n : Int) : Prop := ∃ d ∈ ds, d.1 = f ∧ d.2.1 = n
open Classical in
noncomputable def chF (ds : List Dec) (f n : Int) : List Dec × List Dec × Int :=
  if f < 0 ∨ n < 0 ∨ f = n then ([], [], 5) else if 32 ≤ ds.length then ([], [], 10) else if hasD ds f n then ([], [], 20) else (ds ++ [(f, n, true)], ds ++ [(f, n, false)], 0)
def ChR (m : World) (r : Value) (t : List Dec × List Dec × Int) : Prop := ∃ a b, r = .tuple #[a, b, .int .i64 t.2.2] ∧ DecL m a t.1 ∧ DecL m b t.2.1
theorem ChR.le {m m' : World} {r : Value} {t : List Dec × List Dec × Int} (h : ChR m r t) (hl : Le m m') : ChR m' r t := by
  obtain ⟨a, b, e, h1, h2⟩ := h
  exact ⟨a, b, e, DecL.le h1 hl, DecL.le h2 hl⟩
theorem ChR.err (m : World) (e : Int) : ChR m (.tuple #[.slice none 0 0, .slice none 0 0, .int .i64 e]) ([], [], e) := ⟨_, _, rfl, ListV.nil, ListV.nil⟩
theorem chF_5 {ds : List Dec} {f n : Int} (h : f < 0 ∨ n < 0 ∨ f = n) : chF ds f n = ([], [], 5) := by unfold chF; rw [if_pos h]
theorem chF_10 {ds : List Dec} {f n : Int} (h : ¬ (f < 0 ∨ n < 0 ∨ f = n)) (h2 : 32 ≤ ds.length) : chF ds f n = ([], [], 10) := by unfold chF; rw [if_neg h, if_pos h2]
theorem chF_20 {ds : List Dec} {f n : Int} (h : ¬ (f < 0 ∨ n < 0 ∨ f = n)) (h2 : ¬ 32 ≤ ds.length) (h3 : hasD ds f n) : chF ds f n = ([], [], 20) := by unfold chF; rw [if_neg h, if_neg h2, if_pos h3]
theorem chF_0 {ds : List Dec} {f n : Int} (h : ¬ (f < 0 ∨ n < 0 ∨ f = n)) (h2 : ¬ 32 ≤ ds.length) (h3 : ¬ hasD ds f n) : chF ds f n = (ds ++ [(f, n, true)], ds ++ [(f, n, false)], 0) := by unfold chF; rw [if_neg h, if_neg h2, if_neg h3]
theorem dec_cells {m : World} : ∀ {vs : List Value} {xs : List Dec}, All2 (DecR m) vs xs → (cellsOf vs).length = xs.length * 3 ∧ (cellsOf vs).all (·.oneCell') = true
  | [], [], _ => ⟨rfl, rfl⟩
  | v :: vs, x :: xs, h => by
    obtain ⟨i1, i2⟩ := dec_cells h.2
    have e : v = .agg #[.int .i64 x.1, .int .i64 x.2.1, .bool x.2.2] := h.1
    subst e
    refine ⟨?_, ?_⟩
    · show (_ :: _ :: _ :: cellsOf vs).length = (xs.length + 1) * 3
      simp only [List.length_cons]; omega
    · show (_ :: _ :: _ :: cellsOf vs).all _ = true
      simp only [List.all_cons, i2]; rfl
  | [], _ :: _, h => h.elim
  | _ :: _, [], h => h.elim
theorem ch_step {ds : List Dec} {f n : Int} {k : Nat} {x : Dec} (h : ∀ j d, j < k → ds[j]? = some d → ¬ (d.1 = f ∧ d.2.1 = n)) (hx : ds[k]? = some x) (hn : ¬ (x.1 = f ∧ x.2.1 = n)) : ∀ j d, j < k + 1 → ds[j]? = some d → ¬ (d.1 = f ∧ d.2.1 = n) := by
  intro j d hj hd
  rcases Nat.lt_succ_iff_lt_or_eq.1 hj with h' | rfl
  · exact h j d h' hd
  · rw [hx] at hd; cases hd; exact hn
theorem ch_none {ds : List Dec} {f n : Int} {k nd : Nat} (hn : ds.length = nd) (hk : ¬ k < nd) (h : ∀ j d, j < k → ds[j]? = some d → ¬ (d.1 = f ∧ d.2.1 = n)) : ¬ hasD ds f n := by
  rintro ⟨d, hd, e⟩
  obtain ⟨j, hj⟩ := List.mem_iff_getElem?.1 hd
  have := (List.getElem?_eq_some_iff.1 hj).1
  exact h j d (by omega) hj e

set_option maxRecDepth 100000 in
set_option maxHeartbeats 16000000 in
theorem b_Children (v : Value) (ds : List Dec) (f n : Int) (w m : World) (hV : Vw m w) (h : DecL m v ds) (hl : ds.length ≤ 1000) :
    Calls Tryz.prog 57 #[v, .int .i64 f, .int .i64 n] w (RetV w m fun m' r => ChR m' r (chF ds f n)) := by
  obtain ⟨A, c, rfl, hc, h⟩ := h.lit
  have HD := Lib.hid h
  have HLD := Lib.hid hl
  have hL := Loc.start hV
  clear hV
  by_cases h1 : f < 0
  · rw [chF_5 (.inl h1)]
    clear h
    generalize ds.length = nd at *
    go_enter Tryz.func57, Tryz.ntmps57
    go_wp2_with (first | ((with_reducible refine kAny ?_); go_skip) | (with_reducible refine stA ?_) | ((first | refine tIx ?_ | refine tFd ?_ | refine tLd ?_ | ((first | refine tSr ?_ | refine tSt ?_); clear hL; intro _ hL; simp only [splice, zq1, zq2, zq3] at hL) | (refine tAl ?_; clear hL; intro _ _ hL _) | (refine tBs ?_; clear hL; intro _ _ hL _ hBs)); simp only [Act.put, zq1, zq2, zq3]))
    go_ret3
    exact RetV.mk hL (ChR.err _ 5)
  by_cases h2 : n < 0
  · rw [chF_5 (.inr (.inl h2))]
    clear h
    generalize ds.length = nd at *
    go_enter Tryz.func57, Tryz.ntmps57
    go_wp2_with (first | ((with_reducible refine kAny ?_); go_skip) | (with_reducible refine stA ?_) | ((first | refine tIx ?_ | refine tFd ?_ | refine tLd ?_ | ((first | refine tSr ?_ | refine tSt ?_); clear hL; intro _ hL; simp only [splice, zq1, zq2, zq3] at hL) | (refine tAl ?_; clear hL; intro _ _ hL _) | (refine tBs ?_; clear hL; intro _ _ hL _ hBs)); simp only [Act.put, zq1, zq2, zq3]))
    go_ret3
    exact RetV.mk hL (ChR.err _ 5)
  by_cases h3 : f = n
  · rw [chF_5 (.inr (.inr h3))]
    clear h
    generalize ds.length = nd at *
    subst h3
    go_enter Tryz.func57, Tryz.ntmps57
    go_wp2_with (first | ((with_reducible refine kAny ?_); go_skip) | (with_reducible refine stA ?_) | ((first | refine tIx ?_ | refine tFd ?_ | refine tLd ?_ | ((first | refine tSr ?_ | refine tSt ?_); clear hL; intro _ hL; simp only [splice, zq1, zq2, zq3] at hL) | (refine tAl ?_; clear hL; intro _ _ hL _) | (refine tBs ?_; clear hL; intro _ _ hL _ hBs)); simp only [Act.put, zq1, zq2, zq3]))
    go_ret3
    exact RetV.mk hL (ChR.err _ 5)
  have HNO : Hid (¬ (f < 0 ∨ n < 0 ∨ f = n)) := by rintro (h | h | h) <;> contradiction
  by_cases h4 : 32 ≤ ds.length
  · rw [chF_10 HNO.out h4]
    clear h
    generalize ds.length = nd at *
    have h4' : (nd : Int) ≥ 32 := by omega
    go_enter Tryz.func57, Tryz.ntmps57
    go_wp2_with (first | ((with_reducible refine kAny ?_); go_skip) | (with_reducible refine stA ?_) | ((first | refine tIx ?_ | refine tFd ?_ | refine tLd ?_ | ((first | refine tSr ?_ | refine tSt ?_); clear hL; intro _ hL; simp only [splice, zq1, zq2, zq3] at hL) | (refine tAl ?_; clear hL; intro _ _ hL _) | (refine tBs ?_; clear hL; intro _ _ hL _ hBs)); simp only [Act.put, zq1, zq2, zq3]))
    go_ret3
    exact RetV.mk hL (ChR.err _ 10)
  have HN4 := Lib.hid h4
  generalize hnd : ds.length = nd at *
  have HN := Lib.hid hnd
  clear hnd
  have h4' : ¬ (nd : Int) ≥ 32 := by omega
  go_enter Tryz.func57, Tryz.ntmps57
  go_wp2_with (first | ((with_reducible refine kAny ?_); go_skip) | (with_reducible refine stA ?_) | ((first | refine tIx ?_ | refine tFd ?_ | refine tLd ?_ | ((first | refine tSr ?_ | refine tSt ?_); clear hL; intro _ hL; simp only [splice, zq1, zq2, zq3] at hL) | (refine tAl ?_; clear hL; intro _ _ hL _) | (refine tBs ?_; clear hL; intro _ _ hL _ hBs)); simp only [Act.put, zq1, zq2, zq3]))
  clear h4'
  go_loopw [27] (fun i wr => ∃ (k : Nat) (mm : World), k ≤ nd ∧ i = .int .i64 k ∧ Loc w m wr mm [] ∧ Hid (∀ j d, j < k → ds[j]? = some d → ¬ (d.1 = f ∧ d.2.1 = n))) (fun i _ => nd - (intOf i).toNat)
  case atStart => exact ⟨0, m, Nat.zero_le _, rfl, hL, fun _ _ h => absurd h (Nat.not_lt_zero _)⟩
  case round =>
    clear hL
    obtain ⟨k, mm, hk, rfl, hL, HJ⟩ := hrel
    have hM := hL.mext
    by_cases hlt : k < nd
    · obtain ⟨⟨a, b, g⟩, hx⟩ := at_some HN hlt
      obtain ⟨b1, o1, rfl, hr1⟩ := DecL.at_ h hx
      simp only at hr1
      have c0 := hr1 0 _ rfl
      have c1 := hr1 1 _ rfl
      simp only [Nat.add_zero] at c0
      have HX := Lib.hid hx
      clear hx
      by_cases e1 : a = f
      · by_cases e2 : b = n
        · have HE := Lib.hid (chF_20 HNO.out (by rw [HN.out]; exact HN4.out) ⟨_, List.mem_of_getElem? HX.out, e1, e2⟩)
          subst e1 e2
          go_wp2_with (first | ((with_reducible refine kAny ?_); go_skip) | (with_reducible refine stA ?_) | ((first | refine tIx ?_ | refine tFd ?_ | refine tLd ?_ | ((first | refine tSr ?_ | refine tSt ?_); clear hL; intro _ hL; simp only [splice, zq1, zq2, zq3] at hL) | (refine tAl ?_; clear hL; intro _ _ hL _) | (refine tBs ?_; clear hL; intro _ _ hL _ hBs)); simp only [Act.put, zq1, zq2, zq3]))
          go_ret3
          rw [HE.out]
          exact RetV.mk (hL.sub (List.nil_sublist _)) (ChR.err _ 20)
        · have HJ2 : Hid (∀ j d, j < k + 1 → ds[j]? = some d → ¬ (d.1 = f ∧ d.2.1 = n)) := ch_step HJ.out HX.out (fun h => e2 h.2)
          subst e1
          clear HJ
          go_wp2_with (first | ((with_reducible refine kAny ?_); go_skip) | (with_reducible refine stA ?_) | ((first | refine tIx ?_ | refine tFd ?_ | refine tLd ?_ | ((first | refine tSr ?_ | refine tSt ?_); clear hL; intro _ hL; simp only [splice, zq1, zq2, zq3] at hL) | (refine tAl ?_; clear hL; intro _ _ hL _) | (refine tBs ?_; clear hL; intro _ _ hL _ hBs)); simp only [Act.put, zq1, zq2, zq3]))
          go_roundw
          case rel => exact ⟨k + 1, _, by omega, by go_num, hL.tail, HJ2.out⟩
          case measure => simp [intOf] <;> omega
      · have HJ2 : Hid (∀ j d, j < k + 1 → ds[j]? = some d → ¬ (d.1 = f ∧ d.2.1 = n)) := ch_step HJ.out HX.out (fun h => e1 h.1)
        clear HJ
        go_wp2_with (first | ((with_reducible refine kAny ?_); go_skip) | (with_reducible refine stA ?_) | ((first | refine tIx ?_ | refine tFd ?_ | refine tLd ?_ | ((first | refine tSr ?_ | refine tSt ?_); clear hL; intro _ hL; simp only [splice, zq1, zq2, zq3] at hL) | (refine tAl ?_; clear hL; intro _ _ hL _) | (refine tBs ?_; clear hL; intro _ _ hL _ hBs)); simp only [Act.put, zq1, zq2, zq3]))
        go_roundw
        case rel => exact ⟨k + 1, _, by omega, by go_num, hL.tail, HJ2.out⟩
        case measure => simp [intOf] <;> omega
    · have HE := Lib.hid (chF_0 HNO.out (by rw [HN.out]; exact HN4.out) (ch_none HN.out hlt HJ.out))
      clear HJ
      have hle := hM.le
      go_wp2_with (first | ((with_reducible refine kAny ?_); go_skip) | (with_reducible refine stA ?_) | ((first | refine tIx ?_ | refine tFd ?_ | refine tLd ?_ | ((first | refine tSr ?_ | refine tSt ?_); clear hL; intro _ hL; simp only [splice, zq1, zq2, zq3] at hL) | (refine tAl ?_; clear hL; intro _ _ hL _) | (refine tBs ?_; clear hL; intro _ _ hL _ hBs)); simp only [Act.put, zq1, zq2, zq3]))
      refine (s_CloneDecsR _ ds _ _ hL.vw (DecL.le HD.out leX) (by rw [HN.out]; exact HLD.out)).mono ?_
      rintro e W2 ⟨v2, m2, R2, rfl, hL2, row2⟩
      have hX2 := hL2.mext
      have hLj := (hL.join hL2).perm List.perm_append_comm
      rw [HN.out] at row2
      clear hL hL2
      have hL := hLj
      clear hLj
      obtain ⟨A2, c2, rfl, row2⟩ := row2.lit
      have ROW2 := Lib.hid row2
      clear row2
      simp only [Act.put, zq1, zq2, zq3]
      go_wp2_with (first | ((with_reducible refine kAny ?_); go_skip) | (with_reducible refine stA ?_) | ((first | refine tIx ?_ | refine tFd ?_ | refine tLd ?_ | ((first | refine tSr ?_ | refine tSt ?_); clear hL; intro _ hL; simp only [splice, zq1, zq2, zq3] at hL) | (refine tAl ?_; clear hL; intro _ _ hL _) | (refine tBs ?_; clear hL; intro _ _ hL _ hBs)); simp only [Act.put, zq1, zq2, zq3]))
      refine goA ?_
      obtain ⟨vs2, q2, z2, y2, l2⟩ := ROW2.out
      refine wl_append (A := []) hL q2 (wanted_none rfl) rfl ap_Decs (by omega) rfl rfl (news := [.int .i64 f, .int .i64 n, .bool true]) rfl ((Blk.sl hBs (n := 3) rfl).le hL.vw.le) rfl (by omega) (by omega) ?_
      clear hL
      intro v2b W2b m2b R2b hL r2 hX2b
      obtain ⟨A2b, c2b, rfl, -⟩ := r2.lit
      have row2 := RowA.snoc (R := DecR) (m := m2b) (x := (f, n, true)) r2 z2 (y2.mono fun _ _ h => h) l2 rfl rfl
      have RW2 := Lib.hid row2
      clear row2 r2 q2 z2 y2 l2 ROW2
      simp only [Act.put, zq1, zq2, zq3]
      go_wp2_with (first | ((with_reducible refine kAny ?_); go_skip) | (with_reducible refine stA ?_) | ((first | refine tIx ?_ | refine tFd ?_ | refine tLd ?_ | ((first | refine tSr ?_ | refine tSt ?_); clear hL; intro _ hL; simp only [splice, zq1, zq2, zq3] at hL) | (refine tAl ?_; clear hL; intro _ _ hL _) | (refine tBs ?_; clear hL; intro _ _ hL _ hBs)); simp only [Act.put, zq1, zq2, zq3]))
      refine (s_CloneDecsR _ ds _ _ hL.vw (DecL.le HD.out leX) (by rw [HN.out]; exact HLD.out)).mono ?_
      rintro e W3 ⟨v3, m3, R3, rfl, hL3, row3⟩
      have hX3 := hL3.mext
      have hLj := (hL.join hL3).perm List.perm_append_comm
      rw [HN.out] at row3
      clear hL hL3
      have hL := hLj
      clear hLj
      obtain ⟨A3, c3, rfl, row3⟩ := row3.lit
      have ROW3 := Lib.hid row3
      clear row3
      simp only [Act.put, zq1, zq2, zq3]
      go_wp2_with (first | ((with_reducible refine kAny ?_); go_skip) | (with_reducible refine stA ?_) | ((first | refine tIx ?_ | refine tFd ?_ | refine tLd ?_ | ((first | refine tSr ?_ | refine tSt ?_); clear hL; intro _ hL; simp only [splice, zq1, zq2, zq3] at hL) | (refine tAl ?_; clear hL; intro _ _ hL _) | (refine tBs ?_; clear hL; intro _ _ hL _ hBs)); simp only [Act.put, zq1, zq2, zq3]))
      refine goA ?_
      obtain ⟨vs3, q3, z3, y3, l3⟩ := ROW3.out
      refine wl_append (A := R2b) hL q3 (wanted_none rfl) rfl ap_Decs (by omega) rfl rfl (news := [.int .i64 f, .int .i64 n, .bool false]) rfl ((Blk.sl hBs (n := 3) rfl).le hL.vw.le) rfl (by omega) (by omega) ?_
      clear hL
      intro v3b W3b m3b R3b hL r3 hX3b
      obtain ⟨A3b, c3b, rfl, -⟩ := r3.lit
      have row3 := RowA.snoc (R := DecR) (m := m3b) (x := (f, n, false)) r3 z3 (y3.mono fun _ _ h => h) l3 rfl rfl
      have RW3 := Lib.hid row3
      clear row3 r3 q3 z3 y3 l3 ROW3
      simp only [Act.put, zq1, zq2, zq3]
      go_wp2_with (first | ((with_reducible refine kAny ?_); go_skip) | (with_reducible refine stA ?_) | ((first | refine tIx ?_ | refine tFd ?_ | refine tLd ?_ | ((first | refine tSr ?_ | refine tSt ?_); clear hL; intro _ hL; simp only [splice, zq1, zq2, zq3] at hL) | (refine tAl ?_; clear hL; intro _ _ hL _) | (refine tBs ?_; clear hL; intro _ _ hL _ hBs)); simp only [Act.put, zq1, zq2, zq3]))
      obtain ⟨m8, hL8, hle8, hl8, -⟩ := RowA.show (A := R2b) DecR.mono hL RW3.out
      obtain ⟨m9, hL9, hle9, hl9, -⟩ := RowA.show (A := []) DecR.mono hL8 (RowA.le DecR.mono RW2.out (Le.trans leX hle8))
      go_ret3
      rw [HE.out]
      exact RetV.mk hL9 ⟨_, _, rfl, hl9, DecL.le hl8 hle9⟩

set_option maxRecDepth 100000 in
set_option maxHeartbeats 16000000 in
theorem r_Children (v : Value) (ds : List Dec) (f n : Int) (w m : World) (hV : Vw m w) (h : DecL m v ds) (hl : ds.length ≤ 1000) :
    Calls Tryz.prog 58 #[v, .int .i64 f, .int .i64 n] w (RetV w m fun m' r => ChR m' r (chF ds f n)) := by
  obtain ⟨A, c, rfl, hc, h⟩ := h.lit
  have HD := Lib.hid h
  have HLD := Lib.hid hl
  have hL := Loc.start hV
  clear hV
  by_cases h1 : f < 0
  · rw [chF_5 (.inl h1)]
    clear h
    generalize ds.length = nd at *
    go_enter Tryz.func58, Tryz.ntmps58
    go_wp2_with (first | ((with_reducible refine kAny ?_); go_skip) | (with_reducible refine stA ?_) | ((first | refine tIx ?_ | refine tFd ?_ | refine tLd ?_ | (refine tBs ?_; clear hL; intro _ _ hL _ hBs)); simp only [Act.put, zq1, zq2, zq3]))
    go_ret3
    exact RetV.mk hL (ChR.err _ 5)
  by_cases h2 : n < 0
  · rw [chF_5 (.inr (.inl h2))]
    clear h
    generalize ds.length = nd at *
    go_enter Tryz.func58, Tryz.ntmps58
    go_wp2_with (first | ((with_reducible refine kAny ?_); go_skip) | (with_reducible refine stA ?_) | ((first | refine tIx ?_ | refine tFd ?_ | refine tLd ?_ | (refine tBs ?_; clear hL; intro _ _ hL _ hBs)); simp only [Act.put, zq1, zq2, zq3]))
    go_ret3
    exact RetV.mk hL (ChR.err _ 5)
  by_cases h3 : f = n
  · rw [chF_5 (.inr (.inr h3))]
    clear h
    generalize ds.length = nd at *
    subst h3
    go_enter Tryz.func58, Tryz.ntmps58
    go_wp2_with (first | ((with_reducible refine kAny ?_); go_skip) | (with_reducible refine stA ?_) | ((first | refine tIx ?_ | refine tFd ?_ | refine tLd ?_ | (refine tBs ?_; clear hL; intro _ _ hL _ hBs)); simp only [Act.put, zq1, zq2, zq3]))
    go_ret3
    exact RetV.mk hL (ChR.err _ 5)
  have HNO : Hid (¬ (f < 0 ∨ n < 0 ∨ f = n)) := by rintro (h | h | h) <;> contradiction
  by_cases h4 : 32 ≤ ds.length
  · rw [chF_10 HNO.out h4]
    clear h
    generalize ds.length = nd at *
    have h4' : (nd : Int) ≥ 32 := by omega
    go_enter Tryz.func58, Tryz.ntmps58
    go_wp2_with (first | ((with_reducible refine kAny ?_); go_skip) | (with_reducible refine stA ?_) | ((first | refine tIx ?_ | refine tFd ?_ | refine tLd ?_ | (refine tBs ?_; clear hL; intro _ _ hL _ hBs)); simp only [Act.put, zq1, zq2, zq3]))
    go_ret3
    exact RetV.mk hL (ChR.err _ 10)
  have HN4 := Lib.hid h4
  generalize hnd : ds.length = nd at *
  have HN := Lib.hid hnd
  clear hnd
  have h4' : ¬ (nd : Int) ≥ 32 := by omega
  go_enter Tryz.func58, Tryz.ntmps58
  go_wp2_with (first | ((with_reducible refine kAny ?_); go_skip) | (with_reducible refine stA ?_) | ((first | refine tIx ?_ | refine tFd ?_ | refine tLd ?_ | (refine tBs ?_; clear hL; intro _ _ hL _ hBs)); simp only [Act.put, zq1, zq2, zq3]))
  clear h4'
  go_loopw [9] (fun i wr => ∃ (k : Nat) (mm : World), k ≤ nd ∧ i = .int .i64 k ∧ Loc w m wr mm [] ∧ Hid (∀ j d, j < k → ds[j]? = some d → ¬ (d.1 = f ∧ d.2.1 = n))) (fun i _ => nd - (intOf i).toNat)
  case atStart => exact ⟨0, m, Nat.zero_le _, rfl, hL, fun _ _ h => absurd h (Nat.not_lt_zero _)⟩
  case round =>
    clear hL
    obtain ⟨k, mm, hk, rfl, hL, HJ⟩ := hrel
    have hM := hL.mext
    by_cases hlt : k < nd
    · obtain ⟨⟨a, b, g⟩, hx⟩ := at_some HN hlt
      obtain ⟨b1, o1, rfl, hr1⟩ := DecL.at_ h hx
      simp only at hr1
      have c0 := hr1 0 _ rfl
      have c1 := hr1 1 _ rfl
      simp only [Nat.add_zero] at c0
      have HX := Lib.hid hx
      clear hx
      by_cases e1 : a = f
      · by_cases e2 : b = n
        · have HE := Lib.hid (chF_20 HNO.out (by rw [HN.out]; exact HN4.out) ⟨_, List.mem_of_getElem? HX.out, e1, e2⟩)
          subst e1 e2
          go_wp2_with (first | ((with_reducible refine kAny ?_); go_skip) | (with_reducible refine stA ?_) | ((first | refine tIx ?_ | refine tFd ?_ | refine tLd ?_ | (refine tBs ?_; clear hL; intro _ _ hL _ hBs)); simp only [Act.put, zq1, zq2, zq3]))
          go_ret3
          rw [HE.out]
          exact RetV.mk (hL.sub (List.nil_sublist _)) (ChR.err _ 20)
        · have HJ2 : Hid (∀ j d, j < k + 1 → ds[j]? = some d → ¬ (d.1 = f ∧ d.2.1 = n)) := ch_step HJ.out HX.out (fun h => e2 h.2)
          subst e1
          clear HJ
          go_wp2_with (first | ((with_reducible refine kAny ?_); go_skip) | (with_reducible refine stA ?_) | ((first | refine tIx ?_ | refine tFd ?_ | refine tLd ?_ | (refine tBs ?_; clear hL; intro _ _ hL _ hBs)); simp only [Act.put, zq1, zq2, zq3]))
          go_roundw
          case rel => exact ⟨k + 1, _, by omega, by go_num, hL, HJ2.out⟩
          case measure => simp [intOf] <;> omega
      · have HJ2 : Hid (∀ j d, j < k + 1 → ds[j]? = some d → ¬ (d.1 = f ∧ d.2.1 = n)) := ch_step HJ.out HX.out (fun h => e1 h.1)
        clear HJ
        go_wp2_with (first | ((with_reducible refine kAny ?_); go_skip) | (with_reducible refine stA ?_) | ((first | refine tIx ?_ | refine tFd ?_ | refine tLd ?_ | (refine tBs ?_; clear hL; intro _ _ hL _ hBs)); simp only [Act.put, zq1, zq2, zq3]))
        go_roundw
        case rel => exact ⟨k + 1, _, by omega, by go_num, hL, HJ2.out⟩
        case measure => simp [intOf] <;> omega
    · have HE := Lib.hid (chF_0 HNO.out (by rw [HN.out]; exact HN4.out) (ch_none HN.out hlt HJ.out))
      clear HJ
      have hle := hM.le
      go_wp2_with (first | ((with_reducible refine kAny ?_); go_skip) | (with_reducible refine stA ?_) | ((first | refine tIx ?_ | refine tFd ?_ | refine tLd ?_ | (refine tBs ?_; clear hL; intro _ _ hL _ hBs)); simp only [Act.put, zq1, zq2, zq3]))
      refine goA ?_
      obtain ⟨A9, c9, vs9, e9, -, z9, s9, y9⟩ := HD.out
      injection e9 with e9a e9b e9c
      subst e9a e9c
      obtain ⟨n9, o9⟩ := dec_cells y9
      rw [HN.out] at n9
      refine wl_append (A := []) hL.app0 (Row.nil _ 3) (wanted_none rfl) rfl ap_Decs (by omega) rfl rfl (news := cellsOf vs9) n9 (s9.le (Le.trans leX hL.vw.le)) o9 (by omega) (by omega) ?_
      intro v2 W2 m2 R2 hL2 r2 hX2
      simp only [Nat.zero_add, List.nil_append] at r2
      have row2 : RowA 87 3 DecR m2 v2 nd ds R2 := ⟨vs9, r2, z9, y9.mono fun _ _ h => h, by rw [y9.length]; exact HN.out⟩
      clear hL r2 n9 o9 s9 y9 z9
      have hL := hL2
      clear hL2
      obtain ⟨A2, c2, rfl, row2⟩ := row2.lit
      have ROW2 := Lib.hid row2
      clear row2
      simp only [Act.put, zq1, zq2, zq3]
      go_wp2_with (first | ((with_reducible refine kAny ?_); go_skip) | (with_reducible refine stA ?_) | ((first | refine tIx ?_ | refine tFd ?_ | refine tLd ?_ | (refine tBs ?_; clear hL; intro _ _ hL _ hBs)); simp only [Act.put, zq1, zq2, zq3]))
      refine goA ?_
      obtain ⟨vs2, q2, z2, y2, l2⟩ := ROW2.out
      refine wl_append (A := []) hL q2 (wanted_none rfl) rfl ap_Decs (by omega) rfl rfl (news := [.int .i64 f, .int .i64 n, .bool true]) rfl ((Blk.sl hBs (n := 3) rfl).le hL.vw.le) rfl (by omega) (by omega) ?_
      clear hL
      intro v2b W2b m2b R2b hL r2 hX2b
      obtain ⟨A2b, c2b, rfl, -⟩ := r2.lit
      have row2 := RowA.snoc (R := DecR) (m := m2b) (x := (f, n, true)) r2 z2 (y2.mono fun _ _ h => h) l2 rfl rfl
      have RW2 := Lib.hid row2
      clear row2 r2 q2 z2 y2 l2 ROW2
      simp only [Act.put, zq1, zq2, zq3]
      go_wp2_with (first | ((with_reducible refine kAny ?_); go_skip) | (with_reducible refine stA ?_) | ((first | refine tIx ?_ | refine tFd ?_ | refine tLd ?_ | (refine tBs ?_; clear hL; intro _ _ hL _ hBs)); simp only [Act.put, zq1, zq2, zq3]))
      refine goA ?_
      obtain ⟨A9, c9, vs9, e9, -, z9, s9, y9⟩ := HD.out
      injection e9 with e9a e9b e9c
      subst e9a e9c
      obtain ⟨n9, o9⟩ := dec_cells y9
      rw [HN.out] at n9
      refine wl_append (A := R2b) hL.app0 (Row.nil _ 3) (wanted_none rfl) rfl ap_Decs (by omega) rfl rfl (news := cellsOf vs9) n9 (s9.le (Le.trans leX hL.vw.le)) o9 (by omega) (by omega) ?_
      intro v3 W3 m3 R3 hL3 r3 hX3
      simp only [Nat.zero_add, List.nil_append] at r3
      have row3 : RowA 87 3 DecR m3 v3 nd ds R3 := ⟨vs9, r3, z9, y9.mono fun _ _ h => h, by rw [y9.length]; exact HN.out⟩
      clear hL r3 n9 o9 s9 y9 z9
      have hL := hL3
      clear hL3
      obtain ⟨A3, c3, rfl, row3⟩ := row3.lit
      have ROW3 := Lib.hid row3
      clear row3
      simp only [Act.put, zq1, zq2, zq3]
      go_wp2_with (first | ((with_reducible refine kAny ?_); go_skip) | (with_reducible refine stA ?_) | ((first | refine tIx ?_ | refine tFd ?_ | refine tLd ?_ | (refine tBs ?_; clear hL; intro _ _ hL _ hBs)); simp only [Act.put, zq1, zq2, zq3]))
      refine goA ?_
      obtain ⟨vs3, q3, z3, y3, l3⟩ := ROW3.out
      refine wl_append (A := R2b) hL q3 (wanted_none rfl) rfl ap_Decs (by omega) rfl rfl (news := [.int .i64 f, .int .i64 n, .bool false]) rfl ((Blk.sl hBs (n := 3) rfl).le hL.vw.le) rfl (by omega) (by omega) ?_
      clear hL
      intro v3b W3b m3b R3b hL r3 hX3b
      obtain ⟨A3b, c3b, rfl, -⟩ := r3.lit
      have row3 := RowA.snoc (R := DecR) (m := m3b) (x := (f, n, false)) r3 z3 (y3.mono fun _ _ h => h) l3 rfl rfl
      have RW3 := Lib.hid row3
      clear row3 r3 q3 z3 y3 l3 ROW3
      simp only [Act.put, zq1, zq2, zq3]
      go_wp2_with (first | ((with_reducible refine kAny ?_); go_skip) | (with_reducible refine stA ?_) | ((first | refine tIx ?_ | refine tFd ?_ | refine tLd ?_ | (refine tBs ?_; clear hL; intro _ _ hL _ hBs)); simp only [Act.put, zq1, zq2, zq3]))
      obtain ⟨m8, hL8, hle8, hl8, -⟩ := RowA.show (A := R2b) DecR.mono hL RW3.out
      obtain ⟨m9, hL9, hle9, hl9, -⟩ := RowA.show (A := []) DecR.mono hL8 (RowA.le DecR.mono RW2.out (Le.trans leX hle8))
      go_ret3
      rw [HE.out]
      exact RetV.mk hL9 ⟨_, _, rfl, hl9, DecL.le hl8 hle9⟩
end Go.Proofs.YtmhkmmmompediaaGreat
