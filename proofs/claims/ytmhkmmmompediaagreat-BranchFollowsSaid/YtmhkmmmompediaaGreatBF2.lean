/- Part 2 of 3 of the proof: the law BranchFollows returns true for every input, and its arguments read as before; there is no condition. -/
import Derived.Test.YtmhkmmmompediaaGreatBF1
set_option linter.unusedVariables false
set_option linter.unusedSimpArgs false
/- Contract of pairingref27.Choose. -/
namespace Go.Proofs.YtmhkmmmompediaaGreat
open Go.RowKit

def PickI (ys : List PQ) (k : Nat) (b : Int) : Prop :=
  (b = -1 ∧ (pickT ys k).f = 0 ∧ (pickT ys k).n = 0 ∧ (pickT ys k).s = false) ∨ (∃ (j : Nat) (y : PQ), b = j ∧ ys[j]? = some y ∧ (pickT ys k).f = y.1.1 ∧ (pickT ys k).n = y.1.2 ∧ (pickT ys k).s = true)
theorem PickI.same {ys : List PQ} {k : Nat} {b : Int} (h : PickI ys k b) (e : pickT ys (k + 1) = pickT ys k) : PickI ys (k + 1) b := by unfold PickI; rw [e]; exact h
theorem PickI.some {ys : List PQ} {k : Nat} {y : PQ} {r : Rat} (hy : ys[k]? = some y) (e : pickT ys (k + 1) = ⟨y.1.1, y.1.2, true, r⟩) : PickI ys (k + 1) k := .inr ⟨k, y, rfl, hy, by rw [e], by rw [e], by rw [e]⟩
theorem PickI.start (ys : List PQ) : PickI ys 0 (-1) := .inl ⟨rfl, rfl, rfl, rfl⟩

set_option maxRecDepth 100000 in
set_option maxHeartbeats 16000000 in
theorem r_Choose_len (xv : Value) (x : Ms) (V : Option Addr) (n c : Nat) (w m : World) (hV : Vw m w) (hx : MasterR m xv x) (ok : MsOk x) (hn : n ≠ x.cols.length) :
    Calls Tryz.prog 50 #[xv, .slice V n c] w (RetV w m fun _ r => r = .tuple #[.int .i64 0, .int .i64 0, .bool false, .int .i64 12]) := by
  have HX := Lib.hid hx
  obtain ⟨A, nr, ca, B, nc, cb, C, nk, cc, rfl, hx1⟩ := hx.lit
  have KV : Hid (∀ w m', Vw m' w → Le m m' → Calls Tryz.prog 48 #[.agg #[.int .i64 x.nf, .slice A nr ca, .int .i64 x.pen, .slice B nc cb, .slice C nk cc], .slice V n c] w (RetV w m' fun _ r => r = .tuple #[.slice none 0 0, .int .i64 12])) := by
    show ∀ w m', _
    exact fun w m' hV hle => r_FollowList_len _ x V n c w m' hV (HX.out.le hle) ok hn
  have hL := Loc.start hV
  clear hV hx1 HX ok hn
  generalize x.nf = nf at *
  generalize x.pen = pen at *
  go_enter Tryz.func50, Tryz.ntmps50
  go_upto_region 0 with (fail)
  refine wp_region_lit ?_
  refine t_box hL rfl rfl ?_; clear hL; intro Wh2 mh2 hL eh2; simp only [Act.put, zq1, zq2, zq3]
  go_wp2_with (first | ((with_reducible refine kAny ?_); go_skip) | (with_reducible refine stA ?_) | ((first | refine tIx ?_ | refine tFd ?_ | refine tLd ?_ | ((first | refine tSr ?_ | refine tSt ?_); clear hL; intro _ hL; simp only [splice, zq1, zq2, zq3] at hL) | ((first | refine tBx ?_ | refine tAl ?_); clear hL; intro _ _ hL _) | refine tFl ?_); simp only [Act.put, zq1, zq2, zq3]))
  refine (KV.out _ _ hL.vw leX).mono ?_
  rintro e Wc1 ⟨_, mc1, rfl, hE, hMc1, hV, rfl⟩
  replace hL := hL.call hE (by assumption) hV; clear hE hV
  go_wp2_with (first | ((with_reducible refine kAny ?_); go_skip) | (with_reducible refine stA ?_) | ((first | refine tIx ?_ | refine tFd ?_ | refine tLd ?_ | ((first | refine tSr ?_ | refine tSt ?_); clear hL; intro _ hL; simp only [splice, zq1, zq2, zq3] at hL) | ((first | refine tBx ?_ | refine tAl ?_); clear hL; intro _ _ hL _) | refine tFl ?_); simp only [Act.put, zq1, zq2, zq3]))
  (try simp only [Exit.inBlock, Exit.then])
  refine bodyPost_ret (results_tmp4 rfl _ _ _) rfl ?_
  exact RetV.mk hL rfl

set_option maxRecDepth 100000 in
set_option maxHeartbeats 32000000 in
theorem r_Choose (xv vv : Value) (x : Ms) (vs : List Rat) (w m : World) (hV : Vw m w) (hx : MasterR m xv x) (hvv : FracL m vv vs) (ok : VOk x vs) :
    Calls Tryz.prog 50 #[xv, vv] w (RetV w m fun _ r => ∃ ys, IsFol (entS x.cols vs x.cols.length) ys ∧ r = .tuple #[.int .i64 (pickF ys).f, .int .i64 (pickF ys).n, .bool (pickF ys).s, .int .i64 0]) := by
  have HX := Lib.hid hx
  have HVV := Lib.hid hvv
  obtain ⟨A, nr, ca, B, nc, cb, C, nk, cc, rfl, hx1⟩ := hx.lit
  obtain ⟨V, cv, rfl, hcv, hvv1⟩ := hvv.lit
  have HIS := Lib.hid (fl_is ok)
  have KF : Hid (∀ w m', Vw m' w → Le m m' → Calls Tryz.prog 48 #[.agg #[.int .i64 x.nf, .slice A nr ca, .int .i64 x.pen, .slice B nc cb, .slice C nk cc], .slice V vs.length cv] w (RetV w m' fun m' r => ∃ v, r = .tuple #[v, .int .i64 0] ∧ FolL m' v (flY (entS x.cols vs x.cols.length) x.rows x.rows))) := by
    show ∀ w m', _
    exact fun w m' hV hle => r_FollowList _ _ x vs w m' hV (HX.out.le hle) (FracL.le HVV.out hle) ok
  have HT : Hid (∀ y ∈ flY (entS x.cols vs x.cols.length) x.rows x.rows, Tw 117000 y.2) := by
    show ∀ y ∈ _, _
    intro y hy
    rw [((HIS.out.2 y).1 hy).1]
    exact sum_tw (fun e he => (ok.entS_mem he).1) (Nat.le_trans (ok.entS_len _) (by decide)) _
  have HLE : Hid ((flY (entS x.cols vs x.cols.length) x.rows x.rows).length ≤ 1056) := by
    show _ ≤ _
    have h1 := flY_len (entS x.cols vs x.cols.length) x.rows x.rows
    have h2 := ok.ms.r1
    have h3 : x.rows.length * x.rows.length ≤ 32 * 32 := Nat.mul_le_mul h2 h2
    omega
  have hL := Loc.start hV
  clear hV hx1 HX hvv1 HVV ok
  generalize flY (entS x.cols vs x.cols.length) x.rows x.rows = ys at *
  generalize x.nf = nf at *
  generalize x.pen = pen at *
  generalize vs.length = nv at *
  generalize entS x.cols vs x.cols.length = SS at *
  have HPT : Hid (∀ k, (pickT ys k).s = true → Tw 1600000 (pickT ys k).b) := by show ∀ k, _; exact pick_tw HT.out
  have hny : ys.length ≤ 1056 := HLE.out
  generalize hn : ys.length = ny at *
  have HN := Lib.hid hn
  clear hn HLE
  have F1 : Hid (Fit 200 ((1 : Int) : Rat)) := (Tn.int (k := 1000) (by decide) (by decide)).fit (by decide)
  have F2 : Hid (Fit 200 ((2 : Int) : Rat)) := (Tn.int (k := 1000) (by decide) (by decide)).fit (by decide)
  have FH : Hid (Fit 200 halfR) := half_tw.fit (by decide)
  go_enter Tryz.func50, Tryz.ntmps50
  go_upto_region 0 with (fail)
  refine wp_region_lit ?_
  refine t_box hL rfl rfl ?_; clear hL; intro Wh2 mh2 hL eh2; simp only [Act.put, zq1, zq2, zq3]
  go_wp2_with (first | ((with_reducible refine kAny ?_); go_skip) | (with_reducible refine stA ?_) | ((first | refine tIx ?_ | refine tFd ?_ | refine tLd ?_ | ((first | refine tSr ?_ | refine tSt ?_); clear hL; intro _ hL; simp only [splice, zq1, zq2, zq3] at hL) | ((first | refine tBx ?_ | refine tAl ?_); clear hL; intro _ _ hL _) | refine tFl ?_); simp only [Act.put, zq1, zq2, zq3]))
  refine (KF.out _ _ hL.vw leX).mono ?_
  rintro e Wc1 ⟨vc1, mc1, rfl, hE, hMc1, hV, hc1⟩
  replace hL := hL.call hE (by assumption) hV; clear hE hV
  obtain ⟨yv, rfl, hy⟩ := hc1
  obtain ⟨Y, cy, rfl, hcy, hy⟩ := hy.lit
  rw [HN.out] at hcy ⊢
  have HY := Lib.hid hy
  clear hy KF
  go_wp2_with (first | ((with_reducible refine kAny ?_); go_skip) | (with_reducible refine stA ?_) | ((first | refine tIx ?_ | refine tFd ?_ | refine tLd ?_ | ((first | refine tSr ?_ | refine tSt ?_); clear hL; intro _ hL; simp only [splice, zq1, zq2, zq3] at hL) | ((first | refine tBx ?_ | refine tAl ?_); clear hL; intro _ _ hL _) | refine tFl ?_); simp only [Act.put, zq1, zq2, zq3]))
  refine (r_Int 1 _ _ hL.vw (by decide) (by decide)).mono ?_
  rintro e Wc2 ⟨vc2, mc2, rfl, hE, hMc2, hV, hc2⟩
  replace hL := hL.call hE (by assumption) hV; clear hE hV
  obtain ⟨gc2', Ac2', nc2', cc2', hc2', Bc2', kc2', dc2', rfl, hc2⟩ := hc2.lit
  go_wp2_with (first | ((with_reducible refine kAny ?_); go_skip) | (with_reducible refine stA ?_) | ((first | refine tIx ?_ | refine tFd ?_ | refine tLd ?_ | ((first | refine tSr ?_ | refine tSt ?_); clear hL; intro _ hL; simp only [splice, zq1, zq2, zq3] at hL) | ((first | refine tBx ?_ | refine tAl ?_); clear hL; intro _ _ hL _) | refine tFl ?_); simp only [Act.put, zq1, zq2, zq3]))
  refine (r_Int 2 _ _ hL.vw (by decide) (by decide)).mono ?_
  rintro e Wc3 ⟨vc3, mc3, rfl, hE, hMc3, hV, hc3⟩
  replace hL := hL.call hE (by assumption) hV; clear hE hV
  obtain ⟨gc3', Ac3', nc3', cc3', hc3', Bc3', kc3', dc3', rfl, hc3⟩ := hc3.lit
  go_wp2_with (first | ((with_reducible refine kAny ?_); go_skip) | (with_reducible refine stA ?_) | ((first | refine tIx ?_ | refine tFd ?_ | refine tLd ?_ | ((first | refine tSr ?_ | refine tSt ?_); clear hL; intro _ hL; simp only [splice, zq1, zq2, zq3] at hL) | ((first | refine tBx ?_ | refine tAl ?_); clear hL; intro _ _ hL _) | refine tFl ?_); simp only [Act.put, zq1, zq2, zq3]))
  refine (r_DivC _ _ _ _ _ _ hL.vw (hc2.le leX) hc3 F1.out F2.out).mono ?_
  rintro e Wc4 ⟨vc4, mc4, rfl, hE, hMc4, hV, hc4⟩
  replace hL := hL.call hE (by assumption) hV; clear hE hV
  obtain ⟨gc4', Ac4', nc4', cc4', hc4', Bc4', kc4', dc4', rfl, hc4⟩ := hc4.lit
  rw [div_mix] at hc4
  have HH : Hid (FracC mc4 (.agg #[.bool gc4', .slice Ac4' nc4' cc4', .bool hc4', .slice Bc4' kc4' dc4']) halfR) := hc4
  have HY4 : Hid (Le mc1 mc4) := leX
  clear hc2 hc3 hc4
  go_wp2_with (first | ((with_reducible refine kAny ?_); go_skip) | (with_reducible refine stA ?_) | ((first | refine tIx ?_ | refine tFd ?_ | refine tLd ?_ | ((first | refine tSr ?_ | refine tSt ?_); clear hL; intro _ hL; simp only [splice, zq1, zq2, zq3] at hL) | ((first | refine tBx ?_ | refine tAl ?_); clear hL; intro _ _ hL _) | refine tFl ?_); simp only [Act.put, zq1, zq2, zq3]))
  go_loopw [10, 13] (fun b i wr => ∃ (k : Nat) (bi : Int) (mm : World) (gb fb : Bool) (Ab Bb : Option Addr) (nb cb' pb qb : Nat), k ≤ ny ∧ i = .int .i64 k ∧ b = .int .i64 bi ∧ Loc w m wr mm [(Wc4.heap.size, 39, #[.bool gc4', .slice Ac4' nc4' cc4', .bool hc4', .slice Bc4' kc4' dc4']), (Wc1.heap.size, 39, #[.bool gb, .slice Ab nb cb', .bool fb, .slice Bb pb qb]), (w.heap.size, 26, #[.int .i64 nf, .slice A nr ca, .int .i64 pen, .slice B nc cb, .slice C nk cc])] ∧ Hid (PickI ys k bi) ∧ Hid ((pickT ys k).s = true → FracC mm (.agg #[.bool gb, .slice Ab nb cb', .bool fb, .slice Bb pb qb]) (pickT ys k).b) ∧ Ext mc4 mm) (fun _ i _ => ny - (intOf i).toNat)
  case atStart => exact ⟨0, -1, _, _, _, _, _, _, _, _, _, Nat.zero_le _, rfl, rfl, hL, PickI.start ys, (fun h => by cases h), exX⟩
  case round =>
    clear hL
    obtain ⟨k, bi, mm, gb, fb, Ab, Bb, nb, cb', pb, qb, hk, rfl, rfl, hL, HI, HB, hX⟩ := hrel
    by_cases hlt : k < ny
    · obtain ⟨⟨⟨a, c⟩, q⟩, hyk⟩ := at_some HN hlt
      obtain ⟨b1, o1, g1, A1, n1, c1, f1, B1, p1, q1, rfl, hq1, hr1⟩ := FolL.at_ (FolL.le HY.out (Le.trans HY4.out hX.le)) hyk
      simp only at hq1 hr1
      have hr2 := range_fol hr1
      have htq : Tw 117000 q := HT.out _ (List.mem_of_getElem? hyk)
      have HQ1 := Lib.hid hq1
      have HYK := Lib.hid hyk
      have FQ : Hid (Fit 200 q) := htq.fit (by decide)
      have FQ2 : Hid (Fit 1000 q) := FQ.out.mono (by decide)
      have HFL : Hid ((flr q).natAbs ≤ 117000) := Nat.le_trans (flr_le q) htq.num_le
      have FF : Hid (Fit 200 ((flr q : Int) : Rat)) := (Tw.int (K := 117000) HFL.out).fit (by decide)
      have FP : Hid (Fit 200 (partR q)) := htq.part.fit (by decide)
      have FG : Hid (Fit 200 (partR q - halfR)) := (htq.part.sub half_tw).fit (by decide)
      have FG2 : Hid (Fit 1000 (partR q - halfR)) := FG.out.mono (by decide)
      have FD : Hid (Fit 200 (distR q)) := htq.dist.fit (by decide)
      have HTD : Hid (Tw (117000 + 117000 * 12 + 6) (distR q)) := htq.dist
      clear hyk hq1 hr1 htq
      have hlt' : (k : Int) < (ny : Int) := by omega
      generalize hpk : pickT ys k = pk at *
      have HPK := Lib.hid hpk
      clear hpk
      obtain ⟨pf, pn, ps, pb9⟩ := pk
      simp only at HB
      go_wp2_with (first | ((with_reducible refine kAny ?_); go_skip) | (with_reducible refine stA ?_) | ((first | refine tIx ?_ | refine tFd ?_ | refine tLd ?_ | ((first | refine tSr ?_ | refine tSt ?_); clear hL; intro _ hL; simp only [splice, zq1, zq2, zq3] at hL) | ((first | refine tBx ?_ | refine tAl ?_); clear hL; intro _ _ hL _) | refine tFl ?_); simp only [Act.put, zq1, zq2, zq3]))
      refine (r_IsInt _ q _ _ hL.vw ((HQ1.out.toV FQ.out (by decide)).le leX) FQ2.out).mono ?_
      rintro e Ws0 ⟨_, ms0, rfl, hE, hMs0, hV, rfl⟩
      replace hL := hL.call hE (by assumption) hV; clear hE hV
      by_cases hd : q.den = 1
      · have HS := Lib.hid (pick_same HYK.out (.inl ((part_zero q).2 hd)))
        rw [decide_eq_true hd]
        clear hd
        go_wp2_with (first | ((with_reducible refine kAny ?_); go_skip) | (with_reducible refine stA ?_) | ((first | refine tIx ?_ | refine tFd ?_ | refine tLd ?_ | ((first | refine tSr ?_ | refine tSt ?_); clear hL; intro _ hL; simp only [splice, zq1, zq2, zq3] at hL) | ((first | refine tBx ?_ | refine tAl ?_); clear hL; intro _ _ hL _) | refine tFl ?_); simp only [Act.put, zq1, zq2, zq3]))
        go_roundw
        case rel => exact ⟨k + 1, bi, _, gb, fb, Ab, Bb, nb, cb', pb, qb, by omega, by go_num, rfl, hL, HI.out.same HS.out, (fun h => by rw [HS.out, HPK.out] at h ⊢; exact (HB.out h).le leX), exX⟩
        case measure => simp [intOf] <;> omega
      · have H0 : Hid (¬ rs (partR q) = 0) := fun h => hd ((part_zero q).1 h)
        rw [decide_eq_false hd]
        clear hd
        go_upto_region 10 with ((first | ((with_reducible refine kAny ?_); go_skip) | (with_reducible refine stA ?_) | ((first | refine tIx ?_ | refine tFd ?_ | refine tLd ?_ | ((first | refine tSr ?_ | refine tSt ?_); clear hL; intro _ hL; simp only [splice, zq1, zq2, zq3] at hL) | ((first | refine tBx ?_ | refine tAl ?_); clear hL; intro _ _ hL _) | refine tFl ?_); simp only [Act.put, zq1, zq2, zq3])))
        (try simp only [eq_self] at *)
        obtain ⟨B, hB1, hB2, hB3⟩ := hL.bound
        refine wp_region_by2 16 [false, false, false, false, false, false, false, false, false, false, false, false, false, false, false, true] [false, false, false, false, false, false, false, false, false, false, false, false, false, false, false, false] [(fun v _ _ => v = ?c10_0), (fun v _ _ => v = ?c10_1), (fun v _ _ => v = ?c10_2), (fun v _ _ => v = ?c10_3), (fun v _ _ => v = ?c10_4), (fun v _ _ => v = ?c10_5), (fun v _ _ => v = ?c10_6), (fun v _ _ => v = ?c10_7), (fun v _ _ => v = ?c10_8), (fun v _ _ => v = ?c10_9), Of (fun um v => IntC um v (flr q)), Of (fun um v => OneF um v), Of (fun um v => IntC um v 1), Of (fun um v => FracC um v ((flr q : Int) : Rat)), Of (fun um v => FracC um v (partR q)), NewBlk B 39 #[.bool false, .slice none 0 0, .bool false, .slice none 0 0]] hL.vw mixed [41, 42, 43, 44, 45, 46, 47, 48, 49, 50, 51, 52, 53, 54, 55, 14] _ (by kernel_rfl) (fun vs => by simp only [lay, Act.put, zq1, zq2, zq3]; rfl) (by kernel_rfl) (by decide) (by decide) ?s10 ?l10 ?r10
        case s10 =>
          refine ⟨?_, ?_, ?_, ?_, ?_, ?_, ?_, ?_, ?_, ?_, ?_, ?_, ?_, ?_, ?_, ?_, trivial⟩
          · intro vs W1 m1 hE hM hV hD; clear hD; replace hL := hL.call hE hM hV
            exact sPu
          · intro vs W1 m1 hE hM hV hD; clear hD; replace hL := hL.call hE hM hV
            exact sPu
          · intro vs W1 m1 hE hM hV hD; obtain ⟨⟨_, _, -, -, f41⟩, ⟨_, _, -, -, f42⟩, -⟩ := hD; have f41 : vs 41 = _ := f41; generalize vs 41 = x41 at f41 ⊢; subst x41; have f42 : vs 42 = _ := f42; generalize vs 42 = x42 at f42 ⊢; subst x42; replace hL := hL.call hE hM hV
            exact sIx
          · intro vs W1 m1 hE hM hV hD; obtain ⟨⟨_, _, -, -, f43⟩, -⟩ := hD; have f43 : vs 43 = _ := f43; generalize vs 43 = x43 at f43 ⊢; subst x43; replace hL := hL.call hE hM hV
            exact sFd
          · intro vs W1 m1 hE hM hV hD; obtain ⟨⟨_, _, -, -, f44⟩, -⟩ := hD; have f44 : vs 44 = _ := f44; generalize vs 44 = x44 at f44 ⊢; subst x44; replace hL := hL.call hE hM hV
            exact sLd
          · intro vs W1 m1 hE hM hV hD; clear hD; replace hL := hL.call hE hM hV
            exact sPu
          · intro vs W1 m1 hE hM hV hD; clear hD; replace hL := hL.call hE hM hV
            exact sPu
          · intro vs W1 m1 hE hM hV hD; obtain ⟨⟨_, _, -, -, f46⟩, ⟨_, _, -, -, f47⟩, -⟩ := hD; have f46 : vs 46 = _ := f46; generalize vs 46 = x46 at f46 ⊢; subst x46; have f47 : vs 47 = _ := f47; generalize vs 47 = x47 at f47 ⊢; subst x47; replace hL := hL.call hE hM hV
            exact sIx
          · intro vs W1 m1 hE hM hV hD; obtain ⟨⟨_, _, -, -, f48⟩, -⟩ := hD; have f48 : vs 48 = _ := f48; generalize vs 48 = x48 at f48 ⊢; subst x48; replace hL := hL.call hE hM hV
            exact sFd
          · intro vs W1 m1 hE hM hV hD; obtain ⟨⟨_, _, -, -, f49⟩, -⟩ := hD; have f49 : vs 49 = _ := f49; generalize vs 49 = x49 at f49 ⊢; subst x49; replace hL := hL.call hE hM hV
            exact sLd
          · intro vs W1 m1 hE hM hV hD; obtain ⟨⟨_, _, -, -, f50⟩, -⟩ := hD; have f50 : vs 50 = _ := f50; generalize vs 50 = x50 at f50 ⊢; subst x50
            go_wp2_with fail
            refine (r_Floor _ q _ _ hV ((HQ1.out.toV FQ.out (by decide)).le leX) FQ2.out).mono ?_
            rintro e W2 ⟨v, m2, rfl, hE2, hM2, hV2, h⟩
            go_wp2_with fail
            refine One2.call hE2 hM2 hV2 ?_; first | exact h | exact rfl
          · intro vs W1 m1 hE hM hV hD; clear hD
            go_wp2_with fail
            refine (r_One _ _ hV).mono ?_
            rintro e W2 ⟨v, m2, rfl, hE2, hM2, hV2, h⟩
            go_wp2_with fail
            refine One2.call hE2 hM2 hV2 ?_; first | exact h | exact rfl
          · intro vs W1 m1 hE hM hV hD; obtain ⟨⟨_, _, -, i52, f52⟩, -⟩ := hD; have f52 : OneF _ (vs 52) := f52; replace f52 := f52.le i52.le; clear i52; obtain ⟨g52, A52, n52, c52, h52, B52, k52, d52, e52, kk⟩ := f52; generalize vs 52 = x52 at e52 ⊢; subst x52; replace hL := hL.call hE hM hV
            go_wp2_with (first | ((with_reducible refine kAny ?_); go_skip) | (with_reducible refine stA ?_) | ((first | refine tIx ?_ | refine tFd ?_ | refine tLd ?_ | ((first | refine tSr ?_ | refine tSt ?_); clear hL; intro _ hL; simp only [splice, zq1, zq2, zq3] at hL) | ((first | refine tBx ?_ | refine tAl ?_); clear hL; intro _ _ hL _) | refine tFl ?_); simp only [Act.put, zq1, zq2, zq3]))
            refine One2.still hV ?_; exact kk
          · intro vs W1 m1 hE hM hV hD; obtain ⟨⟨_, _, -, i51, f51⟩, ⟨_, _, -, i53, f53⟩, -⟩ := hD; have f51 : IntC _ (vs 51) (flr q) := f51; replace f51 := f51.le i51.le; clear i51; have f53 : IntC _ (vs 53) 1 := f53; replace f53 := f53.le i53.le; clear i53
            (obtain ⟨g51, A51, n51, c51, e51, f51⟩ := f51.lit; obtain ⟨g53, A53, n53, c53, e53, f53⟩ := f53.lit; generalize vs 51 = x51 at e51 ⊢; subst x51; generalize vs 53 = x53 at e53 ⊢; subst x53; replace hL := hL.call hE hM hV; go_wp2_with fail; refine One2.still hV ?_; exact FracC.ofInt f51 f53)
          · intro vs W1 m1 hE hM hV hD; obtain ⟨⟨_, _, -, -, f45⟩, ⟨_, _, -, i54, f54⟩, -, -⟩ := hD; have f45 : vs 45 = _ := f45; generalize vs 45 = x45 at f45 ⊢; subst x45; have f54 : FracC _ (vs 54) ((flr q : Int) : Rat) := f54; replace f54 := f54.le i54.le; clear i54
            go_wp2_with fail
            refine (r_SubC _ _ q ((flr q : Int) : Rat) _ _ hV (HQ1.out.le leX) f54 FQ.out FF.out).mono ?_
            rintro e W2 ⟨v, m2, rfl, hE2, hM2, hV2, h⟩
            go_wp2_with fail
            refine One2.call hE2 hM2 hV2 ?_; first | exact h | exact rfl
          · intro vs W1 m1 hE hM hV hD; clear hD
            exact one2_alloc hV (Nat.le_trans hB3 hE.size) rfl rfl rfl ZcC.h
        case l10 =>
          refine ⟨fun h => (by cases h), fun h => (by cases h), fun h => (by cases h), fun h => (by cases h), fun h => (by cases h), fun h => (by cases h), fun h => (by cases h), fun h => (by cases h), fun h => (by cases h), fun h => (by cases h), fun h => (by cases h), fun h => (by cases h), fun h => (by cases h), fun h => (by cases h), fun h => (by cases h), fun h => (by cases h), trivial⟩
        intro vs W1 m1 hE hM hV hF hD
        obtain ⟨-, -, -, -, -, -, -, -, -, -, ⟨_, _, -, i51, f51⟩, ⟨_, _, -, i52, f52⟩, ⟨_, _, -, i53, f53⟩, ⟨_, _, -, i54, f54⟩, ⟨_, _, -, i55, f55⟩, ⟨_, _, j14, i14, f14⟩, -⟩ := hF
        replace hL := hL.call hE hM hV
        replace f51 : IntC _ (vs 51) (flr q) := f51
        replace f51 := f51.le i51.le
        clear i51
        replace f52 : OneF _ (vs 52) := f52
        replace f52 := f52.le i52.le
        clear i52
        replace f53 : IntC _ (vs 53) 1 := f53
        replace f53 := f53.le i53.le
        clear i53
        replace f54 : FracC _ (vs 54) ((flr q : Int) : Rat) := f54
        replace f54 := f54.le i54.le
        clear i54
        replace f55 : FracC _ (vs 55) (partR q) := f55
        replace f55 := f55.le i55.le
        clear i55
        obtain ⟨g55, A55, n55, c55, h55, B55, k55, d55, e55, f55⟩ := f55.lit
        generalize vs 55 = x55 at e55 ⊢
        subst x55
        obtain ⟨b14, e14, hL⟩ := Loc.addB (Lt := []) hB1 hB2 hL f14 j14 i14 ad0
        simp only [e14, List.cons_append, List.nil_append] at hL ⊢
        clear e14 f14 j14 i14
        clear hB1 hB2 hB3 hD
        clear hE hV
        simp only [List.drop_succ_cons, List.drop_zero]
        go_wp2_with (first | ((with_reducible refine kAny ?_); go_skip) | (with_reducible refine stA ?_) | ((first | refine tIx ?_ | refine tFd ?_ | refine tLd ?_ | ((first | refine tSr ?_ | refine tSt ?_); clear hL; intro _ hL; simp only [splice, zq1, zq2, zq3] at hL) | ((first | refine tBx ?_ | refine tAl ?_); clear hL; intro _ _ hL _) | refine tFl ?_); simp only [Act.put, zq1, zq2, zq3]))
        refine QN.mk ?_
        have HPART := Lib.hid f55
        clear f55
        go_wp2_with (first | ((with_reducible refine kAny ?_); go_skip) | (with_reducible refine stA ?_) | ((first | refine tIx ?_ | refine tFd ?_ | refine tLd ?_ | ((first | refine tSr ?_ | refine tSt ?_); clear hL; intro _ hL; simp only [splice, zq1, zq2, zq3] at hL) | ((first | refine tBx ?_ | refine tAl ?_); clear hL; intro _ _ hL _) | refine tFl ?_); simp only [Act.put, zq1, zq2, zq3]))
        refine (r_SubC _ _ (partR q) halfR _ _ hL.vw (HPART.out.le leX) (HH.out.le (Le.trans hX.le leX)) FP.out FH.out).mono ?_
        rintro e Ws2 ⟨vs2, ms2, rfl, hE, hMs2, hV, hs2⟩
        replace hL := hL.call hE (by assumption) hV; clear hE hV
        obtain ⟨gs2', As2', ns2', cs2', hs2', Bs2', ks2', ds2', rfl, hs2⟩ := hs2.lit
        have HS2 := Lib.hid hs2
        clear hs2
        go_wp2_with (first | ((with_reducible refine kAny ?_); go_skip) | (with_reducible refine stA ?_) | ((first | refine tIx ?_ | refine tFd ?_ | refine tLd ?_ | ((first | refine tSr ?_ | refine tSt ?_); clear hL; intro _ hL; simp only [splice, zq1, zq2, zq3] at hL) | ((first | refine tBx ?_ | refine tAl ?_); clear hL; intro _ _ hL _) | refine tFl ?_); simp only [Act.put, zq1, zq2, zq3]))
        refine (r_Sign _ (partR q - halfR) _ _ hL.vw ((HS2.out.toV FG.out (by decide)).le leX) FG2.out).mono ?_
        rintro e Ws3 ⟨_, ms3, rfl, hE, hMs3, hV, rfl⟩
        replace hL := hL.call hE (by assumption) hV; clear hE hV
        by_cases hs : rs (partR q - halfR) < 0
        · have HA : Hid (distR q = -(partR q - halfR)) := absR_neg hs
          generalize rs (partR q - halfR) = zs at *
          go_wp2_with (first | ((with_reducible refine kAny ?_); go_skip) | (with_reducible refine stA ?_) | ((first | refine tIx ?_ | refine tFd ?_ | refine tLd ?_ | ((first | refine tSr ?_ | refine tSt ?_); clear hL; intro _ hL; simp only [splice, zq1, zq2, zq3] at hL) | ((first | refine tBx ?_ | refine tAl ?_); clear hL; intro _ _ hL _) | refine tFl ?_); simp only [Act.put, zq1, zq2, zq3]))
          refine (r_Negate _ (partR q - halfR) _ _ hL.vw ((HS2.out.toV FG.out (by decide)).le leX)).mono ?_
          rintro e Ws4 ⟨vs4, ms4, rfl, hE, hMs4, hV, hs4⟩
          replace hL := hL.call hE (by assumption) hV; clear hE hV
          obtain ⟨gs4', As4', ns4', cs4', hs4', Bs4', ks4', ds4', rfl, hs4⟩ := hs4.lit
          rw [← HA.out] at hs4
          have HD3 := Lib.hid hs4
          clear hs4 hs
          cases ps with
          | false =>
            have hb0 : bi = -1 := by
              unfold PickI at HI
              rcases HI.out with ⟨e, -, -, -⟩ | ⟨j, y, -, -, -, -, e3⟩
              · exact e
              · rw [HPK.out] at e3; cases e3
            have HS := Lib.hid (pick_some HYK.out H0.out (.inl (by rw [HPK.out])))
            simp only at HS
            have bj : decide (bi < 0) = true := decide_eq_true (by omega)
            clear hb0
            go_upto_region 15 with ((first | ((with_reducible refine kAny ?_); go_skip) | (with_reducible refine stA ?_) | ((first | refine tIx ?_ | refine tFd ?_ | refine tLd ?_ | ((first | refine tSr ?_ | refine tSt ?_); clear hL; intro _ hL; simp only [splice, zq1, zq2, zq3] at hL) | ((first | refine tBx ?_ | refine tAl ?_); clear hL; intro _ _ hL _) | refine tFl ?_); simp only [Act.put, zq1, zq2, zq3])))
            (try simp only [eq_self] at *)
            refine wp_region_by2 3 [false, false, false] [false, false, false] [(fun v _ _ => v = ?c15_0pa), (fun v _ _ => v = ?c15_1pa), (fun v _ _ => v = ?c15_2pa)] hL.vw mixed [72, 73, 10] _ (by kernel_rfl) (fun vs => by simp only [lay, Act.put, zq1, zq2, zq3]; rfl) (by kernel_rfl) (by decide) (by decide) ?s15pa ?l15pa ?r15pa
            case s15pa =>
              refine ⟨?_, ?_, ?_, trivial⟩
              · intro vs W1 m1 hE hM hV hD; clear hD; replace hL := hL.call hE hM hV
                exact sPu
              · intro vs W1 m1 hE hM hV hD; clear hD; replace hL := hL.call hE hM hV
                exact sLd
              · intro vs W1 m1 hE hM hV hD; obtain ⟨⟨_, _, -, -, f72⟩, -, -, -⟩ := hD; have f72 : vs 72 = _ := f72; generalize vs 72 = x72 at f72 ⊢; subst x72; replace hL := hL.call hE hM hV
                go_wp2_with (first | ((with_reducible refine kAny ?_); go_skip) | (with_reducible refine stA ?_) | ((first | refine tIx ?_ | refine tFd ?_ | refine tLd ?_ | ((first | refine tSr ?_ | refine tSt ?_); clear hL; intro _ hL; simp only [splice, zq1, zq2, zq3] at hL) | ((first | refine tBx ?_ | refine tAl ?_); clear hL; intro _ _ hL _) | refine tFl ?_); simp only [Act.put, zq1, zq2, zq3]))
                refine One2.still hV ?_; exact rfl
            case l15pa =>
              refine ⟨fun h => (by cases h), fun h => (by cases h), fun h => (by cases h), trivial⟩
            intro vs W1 m1 hE hM hV hF hD
            clear hD
            obtain ⟨-, ⟨_, _, -, -, f73⟩, ⟨_, _, -, -, f10⟩, -⟩ := hF
            replace hL := hL.call hE hM hV
            have f73 : vs 73 = _ := f73
            generalize vs 73 = x73 at f73 ⊢
            subst x73
            have f10 : vs 10 = _ := f10
            generalize vs 10 = x10 at f10 ⊢
            subst x10
            clear hE hV
            simp only [List.drop_succ_cons, List.drop_zero]
            go_wp2_with (first | ((with_reducible refine kAny ?_); go_skip) | (with_reducible refine stA ?_) | ((first | refine tIx ?_ | refine tFd ?_ | refine tLd ?_ | ((first | refine tSr ?_ | refine tSt ?_); clear hL; intro _ hL; simp only [splice, zq1, zq2, zq3] at hL) | ((first | refine tBx ?_ | refine tAl ?_); clear hL; intro _ _ hL _) | refine tFl ?_); simp only [Act.put, zq1, zq2, zq3]))
            refine QN.mk ?_
            go_wp2_with (first | ((with_reducible refine kAny ?_); go_skip) | (with_reducible refine stA ?_) | ((first | refine tIx ?_ | refine tFd ?_ | refine tLd ?_ | ((first | refine tSr ?_ | refine tSt ?_); clear hL; intro _ hL; simp only [splice, zq1, zq2, zq3] at hL) | ((first | refine tBx ?_ | refine tAl ?_); clear hL; intro _ _ hL _) | refine tFl ?_); simp only [Act.put, zq1, zq2, zq3]))
            go_roundw
            case rel => exact ⟨k + 1, k, _, _, _, _, _, _, _, _, _, by omega, by go_num, rfl, hL.tail.tail, PickI.some HYK.out HS.out, (fun _ => by rw [HS.out]; exact HD3.out.le leX), exX⟩
            case measure => simp [intOf] <;> omega
          | true =>
            have HBB : Hid (FracC mm (.agg #[.bool gb, .slice Ab nb cb', .bool fb, .slice Bb pb qb]) pb9) := HB.out rfl
            have HTB : Hid (Tw 1600000 pb9) := by
              have h := HPT.out k (by rw [HPK.out])
              rwa [HPK.out] at h
            have FB : Hid (Fit 200 pb9) := HTB.out.fit (by decide)
            have FC : Hid (Fit 1000 (distR q - pb9)) := ((HTD.out.sub HTB.out).fit (by decide)).mono (by decide)
            have hb0 : 0 ≤ bi := by
              unfold PickI at HI
              rcases HI.out with ⟨-, -, -, e⟩ | ⟨j, y, e, -, -, -, -⟩
              · rw [HPK.out] at e; cases e
              · omega
            have bj : decide (bi < 0) = false := decide_eq_false (by omega)
            clear hb0
            go_wp2_with (first | ((with_reducible refine kAny ?_); go_skip) | (with_reducible refine stA ?_) | ((first | refine tIx ?_ | refine tFd ?_ | refine tLd ?_ | ((first | refine tSr ?_ | refine tSt ?_); clear hL; intro _ hL; simp only [splice, zq1, zq2, zq3] at hL) | ((first | refine tBx ?_ | refine tAl ?_); clear hL; intro _ _ hL _) | refine tFl ?_); simp only [Act.put, zq1, zq2, zq3]))
            refine (r_Compare _ _ (distR q) pb9 _ _ hL.vw ((HD3.out.toV FD.out (by decide)).le leX) ((HBB.out.toV FB.out (by decide)).le leX) FD.out FB.out FC.out).mono ?_
            rintro e Ws5 ⟨_, ms5, rfl, hE, hMs5, hV, rfl⟩
            replace hL := hL.call hE (by assumption) hV; clear hE hV
            by_cases h1 : rs (distR q - pb9) < 0
            · have HS := Lib.hid (pick_some HYK.out H0.out (.inr (by rw [HPK.out]; exact h1)))
              simp only at HS
              generalize rs (distR q - pb9) = zc at *
              go_upto_region 15 with ((first | ((with_reducible refine kAny ?_); go_skip) | (with_reducible refine stA ?_) | ((first | refine tIx ?_ | refine tFd ?_ | refine tLd ?_ | ((first | refine tSr ?_ | refine tSt ?_); clear hL; intro _ hL; simp only [splice, zq1, zq2, zq3] at hL) | ((first | refine tBx ?_ | refine tAl ?_); clear hL; intro _ _ hL _) | refine tFl ?_); simp only [Act.put, zq1, zq2, zq3])))
              (try simp only [eq_self] at *)
              refine wp_region_by2 3 [false, false, false] [false, false, false] [(fun v _ _ => v = ?c15_0pb), (fun v _ _ => v = ?c15_1pb), (fun v _ _ => v = ?c15_2pb)] hL.vw mixed [72, 73, 10] _ (by kernel_rfl) (fun vs => by simp only [lay, Act.put, zq1, zq2, zq3]; rfl) (by kernel_rfl) (by decide) (by decide) ?s15pb ?l15pb ?r15pb
              case s15pb =>
                refine ⟨?_, ?_, ?_, trivial⟩
                · intro vs W1 m1 hE hM hV hD; clear hD; replace hL := hL.call hE hM hV
                  exact sPu
                · intro vs W1 m1 hE hM hV hD; clear hD; replace hL := hL.call hE hM hV
                  exact sLd
                · intro vs W1 m1 hE hM hV hD; obtain ⟨⟨_, _, -, -, f72⟩, -, -, -⟩ := hD; have f72 : vs 72 = _ := f72; generalize vs 72 = x72 at f72 ⊢; subst x72; replace hL := hL.call hE hM hV
                  go_wp2_with (first | ((with_reducible refine kAny ?_); go_skip) | (with_reducible refine stA ?_) | ((first | refine tIx ?_ | refine tFd ?_ | refine tLd ?_ | ((first | refine tSr ?_ | refine tSt ?_); clear hL; intro _ hL; simp only [splice, zq1, zq2, zq3] at hL) | ((first | refine tBx ?_ | refine tAl ?_); clear hL; intro _ _ hL _) | refine tFl ?_); simp only [Act.put, zq1, zq2, zq3]))
                  refine One2.still hV ?_; exact rfl
              case l15pb =>
                refine ⟨fun h => (by cases h), fun h => (by cases h), fun h => (by cases h), trivial⟩
              intro vs W1 m1 hE hM hV hF hD
              clear hD
              obtain ⟨-, ⟨_, _, -, -, f73⟩, ⟨_, _, -, -, f10⟩, -⟩ := hF
              replace hL := hL.call hE hM hV
              have f73 : vs 73 = _ := f73
              generalize vs 73 = x73 at f73 ⊢
              subst x73
              have f10 : vs 10 = _ := f10
              generalize vs 10 = x10 at f10 ⊢
              subst x10
              clear hE hV
              simp only [List.drop_succ_cons, List.drop_zero]
              go_wp2_with (first | ((with_reducible refine kAny ?_); go_skip) | (with_reducible refine stA ?_) | ((first | refine tIx ?_ | refine tFd ?_ | refine tLd ?_ | ((first | refine tSr ?_ | refine tSt ?_); clear hL; intro _ hL; simp only [splice, zq1, zq2, zq3] at hL) | ((first | refine tBx ?_ | refine tAl ?_); clear hL; intro _ _ hL _) | refine tFl ?_); simp only [Act.put, zq1, zq2, zq3]))
              refine QN.mk ?_
              go_wp2_with (first | ((with_reducible refine kAny ?_); go_skip) | (with_reducible refine stA ?_) | ((first | refine tIx ?_ | refine tFd ?_ | refine tLd ?_ | ((first | refine tSr ?_ | refine tSt ?_); clear hL; intro _ hL; simp only [splice, zq1, zq2, zq3] at hL) | ((first | refine tBx ?_ | refine tAl ?_); clear hL; intro _ _ hL _) | refine tFl ?_); simp only [Act.put, zq1, zq2, zq3]))
              go_roundw
              case rel => exact ⟨k + 1, k, _, _, _, _, _, _, _, _, _, by omega, by go_num, rfl, hL.tail.tail, PickI.some HYK.out HS.out, (fun _ => by rw [HS.out]; exact HD3.out.le leX), exX⟩
              case measure => simp [intOf] <;> omega
            · have HS := Lib.hid (pick_same HYK.out (.inr ⟨by rw [HPK.out], by rw [HPK.out]; exact h1⟩))
              have h1' : 0 ≤ rs (distR q - pb9) := by omega
              clear h1
              generalize rs (distR q - pb9) = zc at *
              go_wp2_with (first | ((with_reducible refine kAny ?_); go_skip) | (with_reducible refine stA ?_) | ((first | refine tIx ?_ | refine tFd ?_ | refine tLd ?_ | ((first | refine tSr ?_ | refine tSt ?_); clear hL; intro _ hL; simp only [splice, zq1, zq2, zq3] at hL) | ((first | refine tBx ?_ | refine tAl ?_); clear hL; intro _ _ hL _) | refine tFl ?_); simp only [Act.put, zq1, zq2, zq3]))
              go_roundw
              case rel => exact ⟨k + 1, bi, _, gb, fb, Ab, Bb, nb, cb', pb, qb, by omega, by go_num, rfl, hL.tail.tail, HI.out.same HS.out, (fun _ => by rw [HS.out, HPK.out]; exact HBB.out.le leX), exX⟩
              case measure => simp [intOf] <;> omega
        · have HA : Hid (distR q = partR q - halfR) := absR_pos hs
          have hs' : 0 ≤ rs (partR q - halfR) := by omega
          have HD3 : Hid (FracC ms2 (.agg #[.bool gs2', .slice As2' ns2' cs2', .bool hs2', .slice Bs2' ks2' ds2']) (distR q)) := by rw [HA.out]; exact HS2.out
          clear hs
          generalize rs (partR q - halfR) = zs at *
          cases ps with
          | false =>
            have hb0 : bi = -1 := by
              unfold PickI at HI
              rcases HI.out with ⟨e, -, -, -⟩ | ⟨j, y, -, -, -, -, e3⟩
              · exact e
              · rw [HPK.out] at e3; cases e3
            have HS := Lib.hid (pick_some HYK.out H0.out (.inl (by rw [HPK.out])))
            simp only at HS
            have bj : decide (bi < 0) = true := decide_eq_true (by omega)
            clear hb0
            go_upto_region 15 with ((first | ((with_reducible refine kAny ?_); go_skip) | (with_reducible refine stA ?_) | ((first | refine tIx ?_ | refine tFd ?_ | refine tLd ?_ | ((first | refine tSr ?_ | refine tSt ?_); clear hL; intro _ hL; simp only [splice, zq1, zq2, zq3] at hL) | ((first | refine tBx ?_ | refine tAl ?_); clear hL; intro _ _ hL _) | refine tFl ?_); simp only [Act.put, zq1, zq2, zq3])))
            (try simp only [eq_self] at *)
            refine wp_region_by2 3 [false, false, false] [false, false, false] [(fun v _ _ => v = ?c15_0na), (fun v _ _ => v = ?c15_1na), (fun v _ _ => v = ?c15_2na)] hL.vw mixed [72, 73, 10] _ (by kernel_rfl) (fun vs => by simp only [lay, Act.put, zq1, zq2, zq3]; rfl) (by kernel_rfl) (by decide) (by decide) ?s15na ?l15na ?r15na
            case s15na =>
              refine ⟨?_, ?_, ?_, trivial⟩
              · intro vs W1 m1 hE hM hV hD; clear hD; replace hL := hL.call hE hM hV
                exact sPu
              · intro vs W1 m1 hE hM hV hD; clear hD; replace hL := hL.call hE hM hV
                exact sLd
              · intro vs W1 m1 hE hM hV hD; obtain ⟨⟨_, _, -, -, f72⟩, -, -, -⟩ := hD; have f72 : vs 72 = _ := f72; generalize vs 72 = x72 at f72 ⊢; subst x72; replace hL := hL.call hE hM hV
                go_wp2_with (first | ((with_reducible refine kAny ?_); go_skip) | (with_reducible refine stA ?_) | ((first | refine tIx ?_ | refine tFd ?_ | refine tLd ?_ | ((first | refine tSr ?_ | refine tSt ?_); clear hL; intro _ hL; simp only [splice, zq1, zq2, zq3] at hL) | ((first | refine tBx ?_ | refine tAl ?_); clear hL; intro _ _ hL _) | refine tFl ?_); simp only [Act.put, zq1, zq2, zq3]))
                refine One2.still hV ?_; exact rfl
            case l15na =>
              refine ⟨fun h => (by cases h), fun h => (by cases h), fun h => (by cases h), trivial⟩
            intro vs W1 m1 hE hM hV hF hD
            clear hD
            obtain ⟨-, ⟨_, _, -, -, f73⟩, ⟨_, _, -, -, f10⟩, -⟩ := hF
            replace hL := hL.call hE hM hV
            have f73 : vs 73 = _ := f73
            generalize vs 73 = x73 at f73 ⊢
            subst x73
            have f10 : vs 10 = _ := f10
            generalize vs 10 = x10 at f10 ⊢
            subst x10
            clear hE hV
            simp only [List.drop_succ_cons, List.drop_zero]
            go_wp2_with (first | ((with_reducible refine kAny ?_); go_skip) | (with_reducible refine stA ?_) | ((first | refine tIx ?_ | refine tFd ?_ | refine tLd ?_ | ((first | refine tSr ?_ | refine tSt ?_); clear hL; intro _ hL; simp only [splice, zq1, zq2, zq3] at hL) | ((first | refine tBx ?_ | refine tAl ?_); clear hL; intro _ _ hL _) | refine tFl ?_); simp only [Act.put, zq1, zq2, zq3]))
            refine QN.mk ?_
            go_wp2_with (first | ((with_reducible refine kAny ?_); go_skip) | (with_reducible refine stA ?_) | ((first | refine tIx ?_ | refine tFd ?_ | refine tLd ?_ | ((first | refine tSr ?_ | refine tSt ?_); clear hL; intro _ hL; simp only [splice, zq1, zq2, zq3] at hL) | ((first | refine tBx ?_ | refine tAl ?_); clear hL; intro _ _ hL _) | refine tFl ?_); simp only [Act.put, zq1, zq2, zq3]))
            go_roundw
            case rel => exact ⟨k + 1, k, _, _, _, _, _, _, _, _, _, by omega, by go_num, rfl, hL.tail.tail, PickI.some HYK.out HS.out, (fun _ => by rw [HS.out]; exact HD3.out.le leX), exX⟩
            case measure => simp [intOf] <;> omega
          | true =>
            have HBB : Hid (FracC mm (.agg #[.bool gb, .slice Ab nb cb', .bool fb, .slice Bb pb qb]) pb9) := HB.out rfl
            have HTB : Hid (Tw 1600000 pb9) := by
              have h := HPT.out k (by rw [HPK.out])
              rwa [HPK.out] at h
            have FB : Hid (Fit 200 pb9) := HTB.out.fit (by decide)
            have FC : Hid (Fit 1000 (distR q - pb9)) := ((HTD.out.sub HTB.out).fit (by decide)).mono (by decide)
            have hb0 : 0 ≤ bi := by
              unfold PickI at HI
              rcases HI.out with ⟨-, -, -, e⟩ | ⟨j, y, e, -, -, -, -⟩
              · rw [HPK.out] at e; cases e
              · omega
            have bj : decide (bi < 0) = false := decide_eq_false (by omega)
            clear hb0
            go_wp2_with (first | ((with_reducible refine kAny ?_); go_skip) | (with_reducible refine stA ?_) | ((first | refine tIx ?_ | refine tFd ?_ | refine tLd ?_ | ((first | refine tSr ?_ | refine tSt ?_); clear hL; intro _ hL; simp only [splice, zq1, zq2, zq3] at hL) | ((first | refine tBx ?_ | refine tAl ?_); clear hL; intro _ _ hL _) | refine tFl ?_); simp only [Act.put, zq1, zq2, zq3]))
            refine (r_Compare _ _ (distR q) pb9 _ _ hL.vw ((HD3.out.toV FD.out (by decide)).le leX) ((HBB.out.toV FB.out (by decide)).le leX) FD.out FB.out FC.out).mono ?_
            rintro e Ws5 ⟨_, ms5, rfl, hE, hMs5, hV, rfl⟩
            replace hL := hL.call hE (by assumption) hV; clear hE hV
            by_cases h1 : rs (distR q - pb9) < 0
            · have HS := Lib.hid (pick_some HYK.out H0.out (.inr (by rw [HPK.out]; exact h1)))
              simp only at HS
              generalize rs (distR q - pb9) = zc at *
              go_upto_region 15 with ((first | ((with_reducible refine kAny ?_); go_skip) | (with_reducible refine stA ?_) | ((first | refine tIx ?_ | refine tFd ?_ | refine tLd ?_ | ((first | refine tSr ?_ | refine tSt ?_); clear hL; intro _ hL; simp only [splice, zq1, zq2, zq3] at hL) | ((first | refine tBx ?_ | refine tAl ?_); clear hL; intro _ _ hL _) | refine tFl ?_); simp only [Act.put, zq1, zq2, zq3])))
              (try simp only [eq_self] at *)
              refine wp_region_by2 3 [false, false, false] [false, false, false] [(fun v _ _ => v = ?c15_0nb), (fun v _ _ => v = ?c15_1nb), (fun v _ _ => v = ?c15_2nb)] hL.vw mixed [72, 73, 10] _ (by kernel_rfl) (fun vs => by simp only [lay, Act.put, zq1, zq2, zq3]; rfl) (by kernel_rfl) (by decide) (by decide) ?s15nb ?l15nb ?r15nb
              case s15nb =>
                refine ⟨?_, ?_, ?_, trivial⟩
                · intro vs W1 m1 hE hM hV hD; clear hD; replace hL := hL.call hE hM hV
                  exact sPu
                · intro vs W1 m1 hE hM hV hD; clear hD; replace hL := hL.call hE hM hV
                  exact sLd
                · intro vs W1 m1 hE hM hV hD; obtain ⟨⟨_, _, -, -, f72⟩, -, -, -⟩ := hD; have f72 : vs 72 = _ := f72; generalize vs 72 = x72 at f72 ⊢; subst x72; replace hL := hL.call hE hM hV
                  go_wp2_with (first | ((with_reducible refine kAny ?_); go_skip) | (with_reducible refine stA ?_) | ((first | refine tIx ?_ | refine tFd ?_ | refine tLd ?_ | ((first | refine tSr ?_ | refine tSt ?_); clear hL; intro _ hL; simp only [splice, zq1, zq2, zq3] at hL) | ((first | refine tBx ?_ | refine tAl ?_); clear hL; intro _ _ hL _) | refine tFl ?_); simp only [Act.put, zq1, zq2, zq3]))
                  refine One2.still hV ?_; exact rfl
              case l15nb =>
                refine ⟨fun h => (by cases h), fun h => (by cases h), fun h => (by cases h), trivial⟩
              intro vs W1 m1 hE hM hV hF hD
              clear hD
              obtain ⟨-, ⟨_, _, -, -, f73⟩, ⟨_, _, -, -, f10⟩, -⟩ := hF
              replace hL := hL.call hE hM hV
              have f73 : vs 73 = _ := f73
              generalize vs 73 = x73 at f73 ⊢
              subst x73
              have f10 : vs 10 = _ := f10
              generalize vs 10 = x10 at f10 ⊢
              subst x10
              clear hE hV
              simp only [List.drop_succ_cons, List.drop_zero]
              go_wp2_with (first | ((with_reducible refine kAny ?_); go_skip) | (with_reducible refine stA ?_) | ((first | refine tIx ?_ | refine tFd ?_ | refine tLd ?_ | ((first | refine tSr ?_ | refine tSt ?_); clear hL; intro _ hL; simp only [splice, zq1, zq2, zq3] at hL) | ((first | refine tBx ?_ | refine tAl ?_); clear hL; intro _ _ hL _) | refine tFl ?_); simp only [Act.put, zq1, zq2, zq3]))
              refine QN.mk ?_
              go_wp2_with (first | ((with_reducible refine kAny ?_); go_skip) | (with_reducible refine stA ?_) | ((first | refine tIx ?_ | refine tFd ?_ | refine tLd ?_ | ((first | refine tSr ?_ | refine tSt ?_); clear hL; intro _ hL; simp only [splice, zq1, zq2, zq3] at hL) | ((first | refine tBx ?_ | refine tAl ?_); clear hL; intro _ _ hL _) | refine tFl ?_); simp only [Act.put, zq1, zq2, zq3]))
              go_roundw
              case rel => exact ⟨k + 1, k, _, _, _, _, _, _, _, _, _, by omega, by go_num, rfl, hL.tail.tail, PickI.some HYK.out HS.out, (fun _ => by rw [HS.out]; exact HD3.out.le leX), exX⟩
              case measure => simp [intOf] <;> omega
            · have HS := Lib.hid (pick_same HYK.out (.inr ⟨by rw [HPK.out], by rw [HPK.out]; exact h1⟩))
              have h1' : 0 ≤ rs (distR q - pb9) := by omega
              clear h1
              generalize rs (distR q - pb9) = zc at *
              go_wp2_with (first | ((with_reducible refine kAny ?_); go_skip) | (with_reducible refine stA ?_) | ((first | refine tIx ?_ | refine tFd ?_ | refine tLd ?_ | ((first | refine tSr ?_ | refine tSt ?_); clear hL; intro _ hL; simp only [splice, zq1, zq2, zq3] at hL) | ((first | refine tBx ?_ | refine tAl ?_); clear hL; intro _ _ hL _) | refine tFl ?_); simp only [Act.put, zq1, zq2, zq3]))
              go_roundw
              case rel => exact ⟨k + 1, bi, _, gb, fb, Ab, Bb, nb, cb', pb, qb, by omega, by go_num, rfl, hL.tail.tail, HI.out.same HS.out, (fun _ => by rw [HS.out, HPK.out]; exact HBB.out.le leX), exX⟩
              case measure => simp [intOf] <;> omega
    · have hkn : k = ny := by omega
      have HE : Hid (pickT ys k = pickF ys) := pickT_end (by rw [HN.out]; omega)
      have h9 : (ny : Int) ≤ (k : Int) := by omega
      unfold PickI at HI
      rcases HI.out with ⟨rfl, e1, e2, e3⟩ | ⟨j, y, rfl, hj, e1, e2, e3⟩
      · rw [HE.out] at e1 e2 e3
        have HR : Hid ((.tuple #[.int .i64 0, .int .i64 0, .bool false, .int .i64 0] : Value) = .tuple #[.int .i64 (pickF ys).f, .int .i64 (pickF ys).n, .bool (pickF ys).s, .int .i64 0]) := by show _ = _; rw [e1, e2, e3]
        clear e1 e2 e3
        go_wp2_with (first | ((with_reducible refine kAny ?_); go_skip) | (with_reducible refine stA ?_) | ((first | refine tIx ?_ | refine tFd ?_ | refine tLd ?_ | ((first | refine tSr ?_ | refine tSt ?_); clear hL; intro _ hL; simp only [splice, zq1, zq2, zq3] at hL) | ((first | refine tBx ?_ | refine tAl ?_); clear hL; intro _ _ hL _) | refine tFl ?_); simp only [Act.put, zq1, zq2, zq3]))
        (try simp only [Exit.inBlock, Exit.then])
        refine bodyPost_ret (results_tmp4 rfl _ _ _) rfl ?_
        exact RetV.mk hL ⟨ys, HIS.out, by rw [← HR.out]; rfl⟩
      · rw [HE.out] at e1 e2 e3
        obtain ⟨⟨f, g⟩, q⟩ := y
        simp only at e1 e2
        have HR : Hid ((.tuple #[.int .i64 f, .int .i64 g, .bool true, .int .i64 0] : Value) = .tuple #[.int .i64 (pickF ys).f, .int .i64 (pickF ys).n, .bool (pickF ys).s, .int .i64 0]) := by show _ = _; rw [e1, e2, e3]
        obtain ⟨b1, o1, g1, A1, n1, c1, f1, B1, p1, q1, rfl, -, hr1⟩ := FolL.at_ (FolL.le HY.out (Le.trans HY4.out hX.le)) hj
        simp only at hr1
        have h10 : mm.cell? ⟨b1, o1 + j * 6, none⟩ = some (.int .i64 f) := hr1 0 _ rfl
        have h11 : mm.cell? ⟨b1, o1 + j * 6 + 1, none⟩ = some (.int .i64 g) := hr1 1 _ rfl
        have hjn : j < ny := by have := (List.getElem?_eq_some_iff.1 hj).1; have := HN.out; omega
        have hj0 : 0 ≤ (j : Int) := by omega
        clear e1 e2 e3 hr1 hj
        go_upto_region 18 with ((first | ((with_reducible refine kAny ?_); go_skip) | (with_reducible refine stA ?_) | ((first | refine tIx ?_ | refine tFd ?_ | refine tLd ?_ | ((first | refine tSr ?_ | refine tSt ?_); clear hL; intro _ hL; simp only [splice, zq1, zq2, zq3] at hL) | ((first | refine tBx ?_ | refine tAl ?_); clear hL; intro _ _ hL _) | refine tFl ?_); simp only [Act.put, zq1, zq2, zq3])))
        (try simp only [eq_self] at *)
        refine wp_region_by2 14 [false, false, false, false, false, false, false, false, false, false, false, false, false, false] [false, false, false, false, false, false, false, false, false, false, false, false, false, false] [(fun v _ _ => v = ?c18_0z), (fun v _ _ => v = ?c18_1z), (fun v _ _ => v = ?c18_2z), (fun v _ _ => v = ?c18_3z), (fun v _ _ => v = ?c18_4z), (fun v _ _ => v = ?c18_5z), (fun v _ _ => v = ?c18_6z), (fun v _ _ => v = ?c18_7z), (fun v _ _ => v = ?c18_8z), (fun v _ _ => v = ?c18_9z), (fun v _ _ => v = ?c18_10z), (fun v _ _ => v = ?c18_11z), (fun v _ _ => v = ?c18_12z), (fun v _ _ => v = ?c18_13z)] hL.vw mixed [76, 77, 78, 79, 80, 81, 82, 83, 84, 85, 4, 5, 6, 7] _ (by kernel_rfl) (fun vs => by simp only [lay, Act.put, zq1, zq2, zq3]; rfl) (by kernel_rfl) (by decide) (by decide) ?s18z ?l18z ?r18z
        case s18z =>
          refine ⟨?_, ?_, ?_, ?_, ?_, ?_, ?_, ?_, ?_, ?_, ?_, ?_, ?_, ?_, trivial⟩
          · intro vs W1 m1 hE hM hV hD; clear hD; replace hL := hL.call hE hM hV
            exact sPu
          · intro vs W1 m1 hE hM hV hD; clear hD; replace hL := hL.call hE hM hV
            exact sPu
          · intro vs W1 m1 hE hM hV hD; obtain ⟨⟨_, _, -, -, f76⟩, ⟨_, _, -, -, f77⟩, -⟩ := hD; have f76 : vs 76 = _ := f76; generalize vs 76 = x76 at f76 ⊢; subst x76; have f77 : vs 77 = _ := f77; generalize vs 77 = x77 at f77 ⊢; subst x77; replace hL := hL.call hE hM hV
            exact sIx
          · intro vs W1 m1 hE hM hV hD; obtain ⟨⟨_, _, -, -, f78⟩, -⟩ := hD; have f78 : vs 78 = _ := f78; generalize vs 78 = x78 at f78 ⊢; subst x78; replace hL := hL.call hE hM hV
            exact sFd
          · intro vs W1 m1 hE hM hV hD; obtain ⟨⟨_, _, -, -, f79⟩, -⟩ := hD; have f79 : vs 79 = _ := f79; generalize vs 79 = x79 at f79 ⊢; subst x79; replace hL := hL.call hE hM hV
            exact sLd
          · intro vs W1 m1 hE hM hV hD; clear hD; replace hL := hL.call hE hM hV
            exact sPu
          · intro vs W1 m1 hE hM hV hD; clear hD; replace hL := hL.call hE hM hV
            exact sPu
          · intro vs W1 m1 hE hM hV hD; obtain ⟨⟨_, _, -, -, f81⟩, ⟨_, _, -, -, f82⟩, -, -⟩ := hD; have f81 : vs 81 = _ := f81; generalize vs 81 = x81 at f81 ⊢; subst x81; have f82 : vs 82 = _ := f82; generalize vs 82 = x82 at f82 ⊢; subst x82; replace hL := hL.call hE hM hV
            exact sIx
          · intro vs W1 m1 hE hM hV hD; obtain ⟨⟨_, _, -, -, f83⟩, -, -⟩ := hD; have f83 : vs 83 = _ := f83; generalize vs 83 = x83 at f83 ⊢; subst x83; replace hL := hL.call hE hM hV
            exact sFd
          · intro vs W1 m1 hE hM hV hD; obtain ⟨⟨_, _, -, -, f84⟩, -, -⟩ := hD; have f84 : vs 84 = _ := f84; generalize vs 84 = x84 at f84 ⊢; subst x84; replace hL := hL.call hE hM hV
            exact sLd
          · intro vs W1 m1 hE hM hV hD; obtain ⟨⟨_, _, -, -, f80⟩, -, -, -, -, -, -, -, -, -, -, -⟩ := hD; have f80 : vs 80 = _ := f80; generalize vs 80 = x80 at f80 ⊢; subst x80; replace hL := hL.call hE hM hV
            go_wp2_with (first | ((with_reducible refine kAny ?_); go_skip) | (with_reducible refine stA ?_) | ((first | refine tIx ?_ | refine tFd ?_ | refine tLd ?_ | ((first | refine tSr ?_ | refine tSt ?_); clear hL; intro _ hL; simp only [splice, zq1, zq2, zq3] at hL) | ((first | refine tBx ?_ | refine tAl ?_); clear hL; intro _ _ hL _) | refine tFl ?_); simp only [Act.put, zq1, zq2, zq3]))
            refine One2.still hV ?_; exact rfl
          · intro vs W1 m1 hE hM hV hD; obtain ⟨⟨_, _, -, -, f85⟩, -, -, -, -, -, -, -, -, -, -, -, -, -⟩ := hD; have f85 : vs 85 = _ := f85; generalize vs 85 = x85 at f85 ⊢; subst x85; replace hL := hL.call hE hM hV
            go_wp2_with (first | ((with_reducible refine kAny ?_); go_skip) | (with_reducible refine stA ?_) | ((first | refine tIx ?_ | refine tFd ?_ | refine tLd ?_ | ((first | refine tSr ?_ | refine tSt ?_); clear hL; intro _ hL; simp only [splice, zq1, zq2, zq3] at hL) | ((first | refine tBx ?_ | refine tAl ?_); clear hL; intro _ _ hL _) | refine tFl ?_); simp only [Act.put, zq1, zq2, zq3]))
            refine One2.still hV ?_; exact rfl
          · intro vs W1 m1 hE hM hV hD; clear hD; replace hL := hL.call hE hM hV
            go_wp2_with (first | ((with_reducible refine kAny ?_); go_skip) | (with_reducible refine stA ?_) | ((first | refine tIx ?_ | refine tFd ?_ | refine tLd ?_ | ((first | refine tSr ?_ | refine tSt ?_); clear hL; intro _ hL; simp only [splice, zq1, zq2, zq3] at hL) | ((first | refine tBx ?_ | refine tAl ?_); clear hL; intro _ _ hL _) | refine tFl ?_); simp only [Act.put, zq1, zq2, zq3]))
            refine One2.still hV ?_; exact rfl
          · intro vs W1 m1 hE hM hV hD; clear hD; replace hL := hL.call hE hM hV
            go_wp2_with (first | ((with_reducible refine kAny ?_); go_skip) | (with_reducible refine stA ?_) | ((first | refine tIx ?_ | refine tFd ?_ | refine tLd ?_ | ((first | refine tSr ?_ | refine tSt ?_); clear hL; intro _ hL; simp only [splice, zq1, zq2, zq3] at hL) | ((first | refine tBx ?_ | refine tAl ?_); clear hL; intro _ _ hL _) | refine tFl ?_); simp only [Act.put, zq1, zq2, zq3]))
            refine One2.still hV ?_; exact rfl
        case l18z =>
          refine ⟨fun h => (by cases h), fun h => (by cases h), fun h => (by cases h), fun h => (by cases h), fun h => (by cases h), fun h => (by cases h), fun h => (by cases h), fun h => (by cases h), fun h => (by cases h), fun h => (by cases h), fun h => (by cases h), fun h => (by cases h), fun h => (by cases h), fun h => (by cases h), trivial⟩
        intro vs W1 m1 hE hM hV hF hD
        clear hD
        obtain ⟨⟨_, _, -, -, f76⟩, ⟨_, _, -, -, f77⟩, ⟨_, _, -, -, f78⟩, ⟨_, _, -, -, f79⟩, ⟨_, _, -, -, f80⟩, ⟨_, _, -, -, f81⟩, ⟨_, _, -, -, f82⟩, ⟨_, _, -, -, f83⟩, ⟨_, _, -, -, f84⟩, ⟨_, _, -, -, f85⟩, ⟨_, _, -, -, f4⟩, ⟨_, _, -, -, f5⟩, ⟨_, _, -, -, f6⟩, ⟨_, _, -, -, f7⟩, -⟩ := hF
        replace hL := hL.call hE hM hV
        have f76 : vs 76 = _ := f76
        generalize vs 76 = x76 at f76 ⊢
        subst x76
        have f77 : vs 77 = _ := f77
        generalize vs 77 = x77 at f77 ⊢
        subst x77
        have f78 : vs 78 = _ := f78
        generalize vs 78 = x78 at f78 ⊢
        subst x78
        have f79 : vs 79 = _ := f79
        generalize vs 79 = x79 at f79 ⊢
        subst x79
        have f80 : vs 80 = _ := f80
        generalize vs 80 = x80 at f80 ⊢
        subst x80
        have f81 : vs 81 = _ := f81
        generalize vs 81 = x81 at f81 ⊢
        subst x81
        have f82 : vs 82 = _ := f82
        generalize vs 82 = x82 at f82 ⊢
        subst x82
        have f83 : vs 83 = _ := f83
        generalize vs 83 = x83 at f83 ⊢
        subst x83
        have f84 : vs 84 = _ := f84
        generalize vs 84 = x84 at f84 ⊢
        subst x84
        have f85 : vs 85 = _ := f85
        generalize vs 85 = x85 at f85 ⊢
        subst x85
        have f4 : vs 4 = _ := f4
        generalize vs 4 = x4 at f4 ⊢
        subst x4
        have f5 : vs 5 = _ := f5
        generalize vs 5 = x5 at f5 ⊢
        subst x5
        have f6 : vs 6 = _ := f6
        generalize vs 6 = x6 at f6 ⊢
        subst x6
        have f7 : vs 7 = _ := f7
        generalize vs 7 = x7 at f7 ⊢
        subst x7
        clear hE hV
        simp only [List.drop_succ_cons, List.drop_zero]
        go_wp2_with (first | ((with_reducible refine kAny ?_); go_skip) | (with_reducible refine stA ?_) | ((first | refine tIx ?_ | refine tFd ?_ | refine tLd ?_ | ((first | refine tSr ?_ | refine tSt ?_); clear hL; intro _ hL; simp only [splice, zq1, zq2, zq3] at hL) | ((first | refine tBx ?_ | refine tAl ?_); clear hL; intro _ _ hL _) | refine tFl ?_); simp only [Act.put, zq1, zq2, zq3]))
        refine QN.mk ?_
        go_wp2_with (first | ((with_reducible refine kAny ?_); go_skip) | (with_reducible refine stA ?_) | ((first | refine tIx ?_ | refine tFd ?_ | refine tLd ?_ | ((first | refine tSr ?_ | refine tSt ?_); clear hL; intro _ hL; simp only [splice, zq1, zq2, zq3] at hL) | ((first | refine tBx ?_ | refine tAl ?_); clear hL; intro _ _ hL _) | refine tFl ?_); simp only [Act.put, zq1, zq2, zq3]))
        (try simp only [Exit.inBlock, Exit.then])
        refine bodyPost_ret (results_tmp4 rfl _ _ _) rfl ?_
        exact RetV.mk hL ⟨ys, HIS.out, by rw [← HR.out]; rfl⟩
end Go.Proofs.YtmhkmmmompediaaGreat

/- The walk through the law BranchFollows. -/
namespace Go.Proofs.YtmhkmmmompediaaGreat
open Go.RowKit

set_option maxRecDepth 100000 in
set_option maxHeartbeats 16000000 in
theorem b_Choose_len (xv : Value) (x : Ms) (V : Option Addr) (n c : Nat) (w m : World) (hV : Vw m w) (hx : MasterR m xv x) (ok : MsOk x) (hn : n ≠ x.cols.length) :
    Calls Tryz.prog 49 #[xv, .slice V n c] w (RetV w m fun _ r => r = .tuple #[.int .i64 0, .int .i64 0, .bool false, .int .i64 12]) := by
  have HX := Lib.hid hx
  obtain ⟨A, nr, ca, B, nc, cb, C, nk, cc, rfl, hx1⟩ := hx.lit
  have KV : Hid (∀ w m', Vw m' w → Le m m' → Calls Tryz.prog 112 #[.agg #[.int .i64 x.nf, .slice A nr ca, .int .i64 x.pen, .slice B nc cb, .slice C nk cc], .slice V n c] w (RetV w m' fun _ r => r = .int .i64 12)) := by
    show ∀ w m', _
    exact fun w m' hV hle => b_check _ x V n c 12 w m' hV (HX.out.le hle) ok (by rw [if_neg hn])
  have hL := Loc.start hV
  clear hV hx1 HX ok hn
  generalize x.nf = nf at *
  generalize x.pen = pen at *
  go_enter Tryz.func49, Tryz.ntmps49
  go_upto_region 0 with (fail)
  refine wp_region_lit ?_
  refine t_box hL rfl rfl ?_; clear hL; intro Wh2 mh2 hL eh2; simp only [Act.put, zq1, zq2, zq3]
  go_wp2_with (first | ((with_reducible refine kAny ?_); go_skip) | (with_reducible refine stA ?_) | ((first | refine tIx ?_ | refine tFd ?_ | refine tLd ?_ | ((first | refine tSr ?_ | refine tSt ?_); clear hL; intro _ hL; simp only [splice, zq1, zq2, zq3] at hL) | ((first | refine tBx ?_ | refine tAl ?_); clear hL; intro _ _ hL _)); simp only [Act.put, zq1, zq2, zq3]))
  refine (KV.out _ _ hL.vw leX).mono ?_
  rintro e Wc1 ⟨_, mc1, rfl, hE, hMc1, hV, rfl⟩
  replace hL := hL.call hE (by assumption) hV; clear hE hV
  go_wp2_with (first | ((with_reducible refine kAny ?_); go_skip) | (with_reducible refine stA ?_) | ((first | refine tIx ?_ | refine tFd ?_ | refine tLd ?_ | ((first | refine tSr ?_ | refine tSt ?_); clear hL; intro _ hL; simp only [splice, zq1, zq2, zq3] at hL) | ((first | refine tBx ?_ | refine tAl ?_); clear hL; intro _ _ hL _)); simp only [Act.put, zq1, zq2, zq3]))
  (try simp only [Exit.inBlock, Exit.then])
  refine bodyPost_ret (results_tmp4 rfl _ _ _) rfl ?_
  exact RetV.mk hL rfl

theorem masF_few (l : List Int) : (masF l).cols.length ≤ 6 := by
  show ((List.range _).map _).length ≤ 6
  simp only [List.length_map, List.length_range]
  have h2 := atF_bd l 2 (by omega)
  omega
theorem FolL.nil' {m : World} : FolL m (.slice none 0 0) [] := ListV.nil

set_option maxRecDepth 100000 in
set_option maxHeartbeats 32000000 in
theorem law_BranchFollows (Al Aa : Option Addr) (cl ca : Nat) (l a : List Int) (n : Int) (w m : World) (hV : Vw m w) (hl : Sl m Al (l.map I64)) (ha : Sl m Aa (a.map I64)) (n1 : -9223372036854775808 ≤ n) (n2 : n ≤ 9223372036854775807) :
    Calls Tryz.prog 11 #[.slice Al l.length cl, .slice Aa a.length ca, .int .i64 n] w (RetV w m fun _ r => r = .bool true) := by
  have KM : Hid (∀ w m', Vw m' w → Le m m' → Calls Tryz.prog 15 #[.slice Al l.length cl] w (RetV w m' fun m'' r => MasterR m'' r (masF l))) := by
    show ∀ w m', _
    exact fun w m' hV hle => d_Master Al cl l w m' hV (hl.le hle) trivial
  have KA : Hid (∀ (z : Int) (k : Nat) w m', Vw m' w → Le m m' → z = k → k ≤ 1000 → Calls Tryz.prog 36 #[.slice Aa a.length ca, .int .i64 z] w (RetV w m' fun m'' r => FracL m'' r (valsF a k))) := by
    show ∀ z k w m', _
    exact fun z k w m' hV hle hz hk => d_Values Aa ca a k z w m' hV (ha.le hle) hz hk
  have OK : Hid (MsOk (masF l)) := masF_ok l
  have HFEW : (masF l).cols.length ≤ 6 := masF_few l
  have e1 := i64_and4 n
  have p1 : 0 ≤ n % 16 ∧ n % 16 < 16 := by omega
  generalize n % 16 = s at *
  have hL := Loc.start hV
  clear hV hl ha n1 n2
  generalize l.length = N1 at *
  generalize a.length = N2 at *
  generalize masF l = x at *
  go_enter Tryz.func11, Tryz.ntmps11
  go_wp2_with (first | ((with_reducible refine kAny ?_); go_skip) | (with_reducible refine stA ?_) | ((first | refine tFd ?_ | refine tLd ?_ | ((first | refine tSr ?_ | refine tSt ?_); clear hL; intro _ hL; simp only [splice, zq1, zq2, zq3] at hL) | (refine tAl ?_; clear hL; intro _ _ hL _)); simp only [Act.put, zq1, zq2, zq3]))
  refine (KM.out _ _ hL.vw leX).mono ?_
  rintro e Wc1 ⟨vc1, mc1, rfl, hE, hMc1, hV, hc1⟩
  replace hL := hL.call hE (by assumption) hV; clear hE hV
  obtain ⟨M1, nr, d1, M2, nc, d2, M3, nk, d3, rfl, hx1⟩ := hc1.lit
  have hnc := master_nc hx1
  have HM := Lib.hid hx1
  have HNC := Lib.hid hnc
  rw [← hnc] at HFEW
  clear hx1 KM hnc
  generalize x.nf = nf at *
  generalize x.pen = pen at *
  by_cases hs : s = 15
  · subst hs
    clear p1
    go_wp2_with (first | ((with_reducible refine kAny ?_); go_skip) | (with_reducible refine stA ?_) | ((first | refine tFd ?_ | refine tLd ?_ | ((first | refine tSr ?_ | refine tSt ?_); clear hL; intro _ hL; simp only [splice, zq1, zq2, zq3] at hL) | (refine tAl ?_; clear hL; intro _ _ hL _)); simp only [Act.put, zq1, zq2, zq3]))
    refine (KA.out ((nc : Int) + 1) (nc + 1) _ _ hL.vw leX (by omega) (by omega)).mono ?_
    rintro e Wc2 ⟨vc2, mc2, rfl, hE, hMc2, hV, hc2⟩
    replace hL := hL.call hE (by assumption) hV; clear hE hV
    obtain ⟨V, cv, rfl, hcv, hc2⟩ := hc2.lit
    have HVL : Hid ((valsF a (nc + 1)).length ≠ x.cols.length) := by show _ ≠ _; rw [valsF_len, ← HNC.out]; omega
    clear hc2 hcv KA
    generalize (valsF a (nc + 1)).length = nv at *
    go_wp2_with (first | ((with_reducible refine kAny ?_); go_skip) | (with_reducible refine stA ?_) | ((first | refine tFd ?_ | refine tLd ?_ | ((first | refine tSr ?_ | refine tSt ?_); clear hL; intro _ hL; simp only [splice, zq1, zq2, zq3] at hL) | (refine tAl ?_; clear hL; intro _ _ hL _)); simp only [Act.put, zq1, zq2, zq3]))
    refine (b_Follows_len _ x V nv cv _ _ hL.vw (HM.out.le leX) OK.out HVL.out).mono ?_
    rintro e Wc3 ⟨_, mc3, rfl, hE, hMc3, hV, rfl⟩
    replace hL := hL.call hE (by assumption) hV; clear hE hV
    go_wp2_with (first | ((with_reducible refine kAny ?_); go_skip) | (with_reducible refine stA ?_) | ((first | refine tFd ?_ | refine tLd ?_ | ((first | refine tSr ?_ | refine tSt ?_); clear hL; intro _ hL; simp only [splice, zq1, zq2, zq3] at hL) | (refine tAl ?_; clear hL; intro _ _ hL _)); simp only [Act.put, zq1, zq2, zq3]))
    refine (r_FollowList_len _ x V nv cv _ _ hL.vw (HM.out.le leX) OK.out HVL.out).mono ?_
    rintro e Wc4 ⟨_, mc4, rfl, hE, hMc4, hV, rfl⟩
    replace hL := hL.call hE (by assumption) hV; clear hE hV
    go_wp2_with (first | ((with_reducible refine kAny ?_); go_skip) | (with_reducible refine stA ?_) | ((first | refine tFd ?_ | refine tLd ?_ | ((first | refine tSr ?_ | refine tSt ?_); clear hL; intro _ hL; simp only [splice, zq1, zq2, zq3] at hL) | (refine tAl ?_; clear hL; intro _ _ hL _)); simp only [Act.put, zq1, zq2, zq3]))
    refine (b_Choose_len _ x V nv cv _ _ hL.vw (HM.out.le leX) OK.out HVL.out).mono ?_
    rintro e Wc5 ⟨_, mc5, rfl, hE, hMc5, hV, rfl⟩
    replace hL := hL.call hE (by assumption) hV; clear hE hV
    go_wp2_with (first | ((with_reducible refine kAny ?_); go_skip) | (with_reducible refine stA ?_) | ((first | refine tFd ?_ | refine tLd ?_ | ((first | refine tSr ?_ | refine tSt ?_); clear hL; intro _ hL; simp only [splice, zq1, zq2, zq3] at hL) | (refine tAl ?_; clear hL; intro _ _ hL _)); simp only [Act.put, zq1, zq2, zq3]))
    refine (r_Choose_len _ x V nv cv _ _ hL.vw (HM.out.le leX) OK.out HVL.out).mono ?_
    rintro e Wc6 ⟨_, mc6, rfl, hE, hMc6, hV, rfl⟩
    replace hL := hL.call hE (by assumption) hV; clear hE hV
    go_wp2_with (first | ((with_reducible refine kAny ?_); go_skip) | (with_reducible refine stA ?_) | ((first | refine tFd ?_ | refine tLd ?_ | ((first | refine tSr ?_ | refine tSt ?_); clear hL; intro _ hL; simp only [splice, zq1, zq2, zq3] at hL) | (refine tAl ?_; clear hL; intro _ _ hL _)); simp only [Act.put, zq1, zq2, zq3]))
    refine (r_SameFollows _ _ [] _ _ hL.vw FolL.nil' FolL.nil' (by simp) (fun _ h => by cases h)).mono ?_
    rintro e Wc7 ⟨_, mc7, rfl, hE, hMc7, hV, rfl⟩
    replace hL := hL.call hE (by assumption) hV; clear hE hV
    go_wp2_with (first | ((with_reducible refine kAny ?_); go_skip) | (with_reducible refine stA ?_) | ((first | refine tFd ?_ | refine tLd ?_ | ((first | refine tSr ?_ | refine tSt ?_); clear hL; intro _ hL; simp only [splice, zq1, zq2, zq3] at hL) | (refine tAl ?_; clear hL; intro _ _ hL _)); simp only [Act.put, zq1, zq2, zq3]))
    refine (kb_known _ _ hL.vw).mono ?_
    rintro e Wc8 ⟨_, mc8, rfl, hE, hMc8, hV, rfl⟩
    replace hL := hL.call hE (by assumption) hV; clear hE hV
    go_wp2_with (first | ((with_reducible refine kAny ?_); go_skip) | (with_reducible refine stA ?_) | ((first | refine tFd ?_ | refine tLd ?_ | ((first | refine tSr ?_ | refine tSt ?_); clear hL; intro _ hL; simp only [splice, zq1, zq2, zq3] at hL) | (refine tAl ?_; clear hL; intro _ _ hL _)); simp only [Act.put, zq1, zq2, zq3]))
    go_ret
    exact RetV.mk hL rfl
  · have q0 : s / 15 = 0 := by omega
    have HOK : Hid (VOk x (valsF a nc)) := ⟨OK.out, by rw [valsF_len, HNC.out], valsF_tw a nc, by rw [← HNC.out]; omega⟩
    clear hs
    go_wp2_with (first | ((with_reducible refine kAny ?_); go_skip) | (with_reducible refine stA ?_) | ((first | refine tFd ?_ | refine tLd ?_ | ((first | refine tSr ?_ | refine tSt ?_); clear hL; intro _ hL; simp only [splice, zq1, zq2, zq3] at hL) | (refine tAl ?_; clear hL; intro _ _ hL _)); simp only [Act.put, zq1, zq2, zq3]))
    refine (KA.out (nc : Int) nc _ _ hL.vw leX rfl (by omega)).mono ?_
    rintro e Wc2 ⟨vc2, mc2, rfl, hE, hMc2, hV, hc2⟩
    replace hL := hL.call hE (by assumption) hV; clear hE hV
    have HV0 := Lib.hid hc2
    obtain ⟨V, cv, rfl, hcv, hc2⟩ := hc2.lit
    have HV := Lib.hid hc2
    clear hc2 HV0 hcv KA q0 p1 e1
    generalize valsF a nc = vs at *
    go_wp2_with (first | ((with_reducible refine kAny ?_); go_skip) | (with_reducible refine stA ?_) | ((first | refine tFd ?_ | refine tLd ?_ | ((first | refine tSr ?_ | refine tSt ?_); clear hL; intro _ hL; simp only [splice, zq1, zq2, zq3] at hL) | (refine tAl ?_; clear hL; intro _ _ hL _)); simp only [Act.put, zq1, zq2, zq3]))
    refine (b_Follows _ _ x vs _ _ hL.vw (HM.out.le leX) (FracL.le HV.out leX) HOK.out).mono ?_
    rintro e Wc3 ⟨_, mc3, rfl, hE, hMc3, hV, v3, ys, rfl, hf3, hy3⟩
    replace hL := hL.call hE (by assumption) hV; clear hE hV
    obtain ⟨Y3, y3, rfl, hcy3, hy3⟩ := hy3.lit
    have HF3 := Lib.hid hf3
    have HY3 := Lib.hid hy3
    have HEQ : Hid (ys = flY (entS x.cols vs x.cols.length) x.rows x.rows) := hf3.unique (fl_is HOK.out)
    have HFI : Hid (∀ y ∈ ys, Fit 1000 y.2) := by
      show ∀ y ∈ ys, _
      intro y hy
      rw [((HF3.out.2 y).1 hy).1]
      exact ((sum_tw (fun e he => (HOK.out.entS_mem he).1) (Nat.le_trans (HOK.out.entS_len _) (by decide)) _).fit (by decide)).mono (by decide)
    have HYL : Hid (ys.length ≤ 1000000) := by
      show _ ≤ _
      rw [HEQ.out]
      have h1 := flY_len (entS x.cols vs x.cols.length) x.rows x.rows
      have h2 := OK.out.r1
      have h3 : x.rows.length * x.rows.length ≤ 32 * 32 := Nat.mul_le_mul h2 h2
      omega
    clear hf3 hy3 hcy3
    go_wp2_with (first | ((with_reducible refine kAny ?_); go_skip) | (with_reducible refine stA ?_) | ((first | refine tFd ?_ | refine tLd ?_ | ((first | refine tSr ?_ | refine tSt ?_); clear hL; intro _ hL; simp only [splice, zq1, zq2, zq3] at hL) | (refine tAl ?_; clear hL; intro _ _ hL _)); simp only [Act.put, zq1, zq2, zq3]))
    refine (r_FollowList _ _ x vs _ _ hL.vw (HM.out.le leX) (FracL.le HV.out leX) HOK.out).mono ?_
    rintro e Wc4 ⟨_, mc4, rfl, hE, hMc4, hV, v4, rfl, hy4⟩
    replace hL := hL.call hE (by assumption) hV; clear hE hV
    rw [← HEQ.out] at hy4
    obtain ⟨Y4, y4, rfl, hcy4, hy4⟩ := hy4.lit
    have HY4 := Lib.hid hy4
    clear hy4 hcy4
    go_wp2_with (first | ((with_reducible refine kAny ?_); go_skip) | (with_reducible refine stA ?_) | ((first | refine tFd ?_ | refine tLd ?_ | ((first | refine tSr ?_ | refine tSt ?_); clear hL; intro _ hL; simp only [splice, zq1, zq2, zq3] at hL) | (refine tAl ?_; clear hL; intro _ _ hL _)); simp only [Act.put, zq1, zq2, zq3]))
    refine (b_Choose _ _ x vs _ _ hL.vw (HM.out.le leX) (FracL.le HV.out leX) HOK.out).mono ?_
    rintro e Wc5 ⟨_, mc5, rfl, hE, hMc5, hV, ys5, hf5, rfl⟩
    replace hL := hL.call hE (by assumption) hV; clear hE hV
    obtain rfl := hf5.unique HF3.out
    clear hf5
    go_wp2_with (first | ((with_reducible refine kAny ?_); go_skip) | (with_reducible refine stA ?_) | ((first | refine tFd ?_ | refine tLd ?_ | ((first | refine tSr ?_ | refine tSt ?_); clear hL; intro _ hL; simp only [splice, zq1, zq2, zq3] at hL) | (refine tAl ?_; clear hL; intro _ _ hL _)); simp only [Act.put, zq1, zq2, zq3]))
    refine (r_Choose _ _ x vs _ _ hL.vw (HM.out.le leX) (FracL.le HV.out leX) HOK.out).mono ?_
    rintro e Wc6 ⟨_, mc6, rfl, hE, hMc6, hV, ys6, hf6, rfl⟩
    replace hL := hL.call hE (by assumption) hV; clear hE hV
    obtain rfl := hf6.unique HF3.out
    clear hf6 HM HV HOK OK HEQ HF3
    generalize hp : pickF _ = pk at *
    clear hp
    obtain ⟨pf, pn, ps, pb⟩ := pk
    have be1 : (pf == pf) = true := by simp
    have be2 : (pn == pn) = true := by simp
    have be3 : (ps == ps) = true := by simp
    simp only
    go_wp2_with (first | ((with_reducible refine kAny ?_); go_skip) | (with_reducible refine stA ?_) | ((first | refine tFd ?_ | refine tLd ?_ | ((first | refine tSr ?_ | refine tSt ?_); clear hL; intro _ hL; simp only [splice, zq1, zq2, zq3] at hL) | (refine tAl ?_; clear hL; intro _ _ hL _)); simp only [Act.put, zq1, zq2, zq3]))
    refine (r_SameFollows _ _ _ _ _ hL.vw (FolL.le HY3.out leX) (FolL.le HY4.out leX) HYL.out HFI.out).mono ?_
    rintro e Wc7 ⟨_, mc7, rfl, hE, hMc7, hV, rfl⟩
    replace hL := hL.call hE (by assumption) hV; clear hE hV
    go_wp2_with (first | ((with_reducible refine kAny ?_); go_skip) | (with_reducible refine stA ?_) | ((first | refine tFd ?_ | refine tLd ?_ | ((first | refine tSr ?_ | refine tSt ?_); clear hL; intro _ hL; simp only [splice, zq1, zq2, zq3] at hL) | (refine tAl ?_; clear hL; intro _ _ hL _)); simp only [Act.put, zq1, zq2, zq3]))
    refine (kb_known _ _ hL.vw).mono ?_
    rintro e Wc8 ⟨_, mc8, rfl, hE, hMc8, hV, rfl⟩
    replace hL := hL.call hE (by assumption) hV; clear hE hV
    go_wp2_with (first | ((with_reducible refine kAny ?_); go_skip) | (with_reducible refine stA ?_) | ((first | refine tFd ?_ | refine tLd ?_ | ((first | refine tSr ?_ | refine tSt ?_); clear hL; intro _ hL; simp only [splice, zq1, zq2, zq3] at hL) | (refine tAl ?_; clear hL; intro _ _ hL _)); simp only [Act.put, zq1, zq2, zq3]))
    go_ret
    exact RetV.mk hL rfl
end Go.Proofs.YtmhkmmmompediaaGreat
