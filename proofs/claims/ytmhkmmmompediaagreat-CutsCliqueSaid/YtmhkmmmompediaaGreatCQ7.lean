/- Part 7 of 8 of the proof: the law CutsClique returns true for every input, and its arguments read as before; there is no condition. -/
import Derived.Test.YtmhkmmmompediaaGreatCQ6
set_option linter.unusedVariables false
set_option linter.unusedSimpArgs false
/- The walk through the law CutsClique. -/
namespace Go.Proofs.YtmhkmmmompediaaGreat
open Go.RowKit

theorem FracP.toC {m : World} {v : Value} {q : Rat} (h : FracP m v q.num q.den) : FracC m v q := by
  obtain ⟨g, A, n, c, g', B, k, d, rfl, h1, h2⟩ := h
  exact ⟨_, _, _, _, rfl, h1, h2⟩
def comF (a b rs : List Int) (k : Nat) : Bool := (a.take k).any fun f => decide (f ∈ b) && decide (f ∈ rs)
theorem comF_step {a b rs : List Int} {k : Nat} {f : Int} (h : a[k]? = some f) : comF a b rs (k + 1) = (comF a b rs k || (decide (f ∈ b) && decide (f ∈ rs))) := by
  unfold comF
  rw [← take_snoc h, List.any_append]; simp
set_option maxRecDepth 100000 in
set_option maxHeartbeats 64000000 in
theorem law_CutsClique (Al : Option Addr) (cl : Nat) (l : List Int) (n : Int) (w m : World) (hV : Vw m w) (hl : Sl m Al (l.map I64)) (n1 : -9223372036854775808 ≤ n) (n2 : n ≤ 9223372036854775807) :
    Calls Tryz.prog 9 #[.slice Al l.length cl, .int .i64 n] w (RetV w m fun _ r => r = .bool true) := by
  have KM : Hid (∀ w m', Vw m' w → Le m m' → Calls Tryz.prog 15 #[.slice Al l.length cl] w (RetV w m' fun m'' r => MasterR m'' r (masF l))) := by
    show ∀ w m', _
    exact fun w m' hV hle => d_Master Al cl l w m' hV (hl.le hle) trivial
  have OK : Hid (MsOk (masF l)) := masF_ok l
  have HFEW : Hid ((masF l).cols.length ≤ 6) := masF_cols6 l
  have HL3 : Hid (3 ≤ (masF l).rows.length) := (rowsF_ok l).l3
  have hL := Loc.start hV
  clear hV hl n1 n2
  generalize l.length = N1 at *
  generalize masF l = x at *
  go_enter Tryz.func9, Tryz.ntmps9
  go_wp2_with (first | ((with_reducible refine kAny ?_); go_skip) | (with_reducible refine stA ?_) | ((first | refine tIx ?_ | refine tFd ?_ | refine tLd ?_ | ((first | refine tSr ?_ | refine tSt ?_); clear hL; intro _ hL; simp only [splice, zq1, zq2, zq3] at hL) | (refine tAl ?_; clear hL; intro _ _ hL _)); simp only [Act.put, zq1, zq2, zq3]))
  refine (KM.out _ _ hL.vw leX).mono ?_
  rintro e Wc1 ⟨vc1, mc1, rfl, hE, hMc1, hV, hc1⟩
  replace hL := hL.call hE (by assumption) hV; clear hE hV
  obtain ⟨M1, nr, d1, M2, nc, d2, M3, nk, d3, rfl, hx1⟩ := hc1.lit
  obtain ⟨q1, q2, q3⟩ := hx1.parts
  have hnr := q1.n_is
  have hnc := q2.n_is
  have hn6 : nc ≤ 6 := by have := HFEW.out; omega
  have hr3 : 3 ≤ nr := by have := HL3.out; omega
  have hcap : (3 : Int) ≤ (d1 : Int) := by
    obtain ⟨_, _, _, e, hc, _⟩ := q1
    injection e with e1 e2 e3
    omega
  have hrl : (x.rows.take 3).length = 3 := by rw [List.length_take]; omega
  have hcb : cutB x.rows (x.rows.take 3, 2) = true := by
    have hp := asc_pw OK.out.asc
    unfold cutB
    rw [decide_eq_true (hp.sublist (List.take_sublist _ _)), decide_eq_true (fun r hr => List.mem_of_mem_take hr), hrl]; rfl
  have HCB := Lib.hid hcb
  have HRL := Lib.hid hrl
  have HX1 : Hid (CutR mc1 (.agg #[.slice M1 3 d1, .int .i64 2]) (x.rows.take 3, 2)) := ⟨_, rfl, q1.take hr3, by show (x.rows.take 3).length ≤ _; omega⟩
  have HI3 := Lib.hid (q1.take hr3)
  have HCO := Lib.hid q2
  have HM := Lib.hid hx1
  have HNC : Hid (x.cols.length = nc) := hnc.symm
  clear hx1 KM q1 q2 q3 hnr hr3 hcb hrl HFEW HL3 hnc
  generalize x.nf = nf at *
  generalize x.pen = pen at *
  go_upto_region 3 with ((first | ((with_reducible refine kAny ?_); go_skip) | (with_reducible refine stA ?_) | ((first | refine tIx ?_ | refine tFd ?_ | refine tLd ?_ | ((first | refine tSr ?_ | refine tSt ?_); clear hL; intro _ hL; simp only [splice, zq1, zq2, zq3] at hL) | (refine tAl ?_; clear hL; intro _ _ hL _)); simp only [Act.put, zq1, zq2, zq3])))
  obtain ⟨m8, hL8, hle8, hs8⟩ := Loc.show1 (A := [(_, _, _)]) hL 5
  obtain ⟨m9, hL9, hle9, hs9⟩ := Loc.show1 (A := []) hL8 2
  have hr5 := Sl.range (hs8.le hle9)
  have h53 := (hs8.le hle9).cell (j := 3) rfl
  have hr6 := Sl.range hs9
  have h60 := hs9.cell (j := 0) rfl
  have HLE9 : Hid (Le mc1 m9) := Le.trans leX (hle8.trans hle9)
  have HM9 : Hid (MasterR m9 (.agg #[.int .i64 nf, .slice M1 nr d1, .int .i64 pen, .slice M2 nc d2, .slice M3 nk d3]) x) := HM.out.le HLE9.out
  have HI9 : Hid (IntL m9 (.slice M1 3 d1) (x.rows.take 3)) := IntL.le HI3.out HLE9.out
  have HX9 : Hid (CutR m9 (.agg #[.slice M1 3 d1, .int .i64 2]) (x.rows.take 3, 2)) := HX1.out.le HLE9.out
  have HC9 : Hid (ColL m9 (.slice M2 nc d2) x.cols) := ColL.le HCO.out HLE9.out
  clear hL hL8 hs8 hs9 hle8 hle9 HM HX1 HCO HI3 HLE9 hcap
  have hL := hL9
  clear hL9
  simp only [List.take_succ_cons, List.take_zero] at hr5 hr6
  go_wp2_with (first | ((with_reducible refine kAny ?_); go_skip) | (with_reducible refine stA ?_) | ((first | refine tIx ?_ | refine tFd ?_ | refine tLd ?_ | ((first | refine tSr ?_ | refine tSt ?_); clear hL; intro _ hL; simp only [splice, zq1, zq2, zq3] at hL) | (refine tAl ?_; clear hL; intro _ _ hL _)); simp only [Act.put, zq1, zq2, zq3]))
  go_loopw [7] (fun iv wr => ∃ (i : Nat) (mm : World), i ≤ nc ∧ iv = .int .i64 (i : Int) ∧ Loc w m wr mm [] ∧ Hid (Ext m9 mm)) (fun iv _ => nc - (intOf iv).toNat)
  case atStart => exact ⟨0, _, Nat.zero_le _, rfl, hL, Ext.refl _⟩
  case round =>
    clear hL
    obtain ⟨i, mm, hi, rfl, hL, HX⟩ := hrel
    have hX := HX.out
    by_cases hlt : i < nc
    · have hlt' : (i : Int) < (nc : Int) := by omega
      go_wp2_with (first | ((with_reducible refine kAny ?_); go_skip) | (with_reducible refine stA ?_) | ((first | refine tIx ?_ | refine tFd ?_ | refine tLd ?_ | ((first | refine tSr ?_ | refine tSt ?_); clear hL; intro _ hL; simp only [splice, zq1, zq2, zq3] at hL) | (refine tAl ?_; clear hL; intro _ _ hL _)); simp only [Act.put, zq1, zq2, zq3]))
      go_loopw [8] (fun jv wr => ∃ (j : Nat) (m2 : World), j ≤ i ∧ jv = .int .i64 (j : Int) ∧ Loc w m wr m2 [] ∧ Hid (Ext m9 m2)) (fun jv _ => i - (intOf jv).toNat)
      case atStart => exact ⟨0, _, Nat.zero_le _, rfl, hL, HX.out⟩
      case round =>
        clear hL HX hX
        obtain ⟨j, m2, hj, rfl, hL, HX2⟩ := hrel
        have hX2 := HX2.out
        obtain ⟨wq, rfl⟩ := hL.world
        have HLK := Lib.hid hL
        replace hL := Loc.start hL.vw
        by_cases hltj : j < i
        · have hltj' : (j : Int) < (i : Int) := by omega
          have hjc : j < nc := by omega
          obtain ⟨⟨sa, da, pa⟩, hxa⟩ := at_some HNC hlt
          obtain ⟨⟨sb, db, pb⟩, hxb⟩ := at_some HNC hjc
          have hco := HC9.out
          obtain ⟨b1, o1, D1, e1, rfl, hda, hra⟩ := ColL.at_ hco hxa
          obtain ⟨b2, o2, D2, e2, eq2, hdb, hrb⟩ := ColL.at_ hco hxb
          obtain ⟨rfl, rfl⟩ : b1 = b2 ∧ o1 = o2 := by simpa using eq2
          have hoka := OK.out.cols _ (List.mem_of_getElem? hxa)
          have hokb := OK.out.cols _ (List.mem_of_getElem? hxb)
          simp only at hda hdb hra hrb
          have hra2 := range_two hra
          have hrb2 := range_two hrb
          have KOA : Hid (∀ u m', Vw m' u → Le m9 m' → Calls Tryz.prog 43 #[.agg #[.string sa, .slice D1 da.length e1]] u (RetV u m' fun m'' r => IntL m'' r (opF da))) := by
            show ∀ u m', _
            exact fun u m' hV hle => r_Operated sa _ da u m' hV (DutsL.le hda hle) hoka.nd hoka.nt
          have KOB : Hid (∀ u m', Vw m' u → Le m9 m' → Calls Tryz.prog 43 #[.agg #[.string sb, .slice D2 db.length e2]] u (RetV u m' fun m'' r => IntL m'' r (opF db))) := by
            show ∀ u m', _
            exact fun u m' hV hle => r_Operated sb _ db u m' hV (DutsL.le hdb hle) hokb.nd hokb.nt
          have HOA := Lib.hid (coef_two HRL.out hoka.nodup)
          have HOB := Lib.hid (coef_two HRL.out hokb.nodup)
          have HSH : Hid (coefF (x.rows.take 3, 2) (opF da) = 1 → coefF (x.rows.take 3, 2) (opF db) = 1 → comF (opF da) (opF db) (x.rows.take 3) (opF da).length = true) := by
            show _ → _ → _
            intro h1 h2
            unfold comF
            rw [List.take_length]
            refine share HRL.out hoka.nodup hokb.nodup ?_ ?_
            · rcases HOA.out with h | h
              · rw [h] at h1; cases h1
              · exact h.2
            · rcases HOB.out with h | h
              · rw [h] at h2; cases h2
              · exact h.2
          have HNA : Hid ((opF da).length ≤ 1000000) := Nat.le_trans (VOk.col_len ⟨OK.out, oneAt_len x.cols.length 0 0, oneAt_tw _ _ _, by rw [HNC.out]; omega⟩ (List.mem_of_getElem? hxa)) (by decide)
          have HNB : Hid ((opF db).length ≤ 1000000) := Nat.le_trans (VOk.col_len ⟨OK.out, oneAt_len x.cols.length 0 0, oneAt_tw _ _ _, by rw [HNC.out]; omega⟩ (List.mem_of_getElem? hxb)) (by decide)
          have HVQ : Hid (vioF (x.rows.take 3, 2) x.cols (oneAt nc i j) = ((-1 + coefF (x.rows.take 3, 2) (opF db) + coefF (x.rows.take 3, 2) (opF da) : Int) : Rat)) := by
            show _ = _
            have h := vio_two (x := (x.rows.take 3, 2)) (ca := (sa, da, pa)) (cb := (sb, db, pb)) hltj hxa hxb rfl rfl x.cols.length (Nat.le_refl _)
            rw [HNC.out] at h
            unfold vioF
            rw [HNC.out, h, HRL.out, if_pos hjc, if_pos hlt]; rfl
          have VK : Hid (VOk x (oneAt nc i j)) := ⟨OK.out, by rw [oneAt_len, HNC.out], oneAt_tw _ _ _, by rw [HNC.out]; omega⟩
          clear hxa hxb hco hda hdb hoka hokb eq2 hra hrb
          generalize opF da = oa at *
          generalize opF db = ob at *
          generalize da.length = na at *
          generalize db.length = nb at *
          go_wp2_with (first | ((with_reducible refine kAny ?_); go_skip) | (with_reducible refine stA ?_) | ((first | refine tIx ?_ | refine tFd ?_ | refine tLd ?_ | ((first | refine tSr ?_ | refine tSt ?_); clear hL; intro _ hL; simp only [splice, zq1, zq2, zq3] at hL) | (refine tAl ?_; clear hL; intro _ _ hL _)); simp only [Act.put, zq1, zq2, zq3]))
          refine (r_Zeros nc (by omega) _ _ hL.vw).mono ?_
          rintro e Wz ⟨vz, mz, Rz, rfl, hLz, rowz⟩
          rw [List.length_replicate] at rowz
          obtain ⟨gz, capz, curz, rfl, rfl, hcz, hsz⟩ := rowz.block (by omega)
          have HZ := Lib.hid rowz
          have hJ := hL.join hLz
          have hXz := hLz.mext
          rw [List.append_nil] at hJ
          clear hL hLz rowz
          have hL := hJ
          clear hJ
          go_wp2_with (first | ((with_reducible refine kAny ?_); go_skip) | (with_reducible refine stA ?_) | ((first | refine tIx ?_ | refine tFd ?_ | refine tLd ?_ | ((first | refine tSr ?_ | refine tSt ?_); clear hL; intro _ hL; simp only [splice, zq1, zq2, zq3] at hL) | (refine tAl ?_; clear hL; intro _ _ hL _)); simp only [Act.put, zq1, zq2, zq3]))
          refine (r_Int 1 _ _ hL.vw (by decide) (by decide)).mono ?_
          rintro e Wc2 ⟨vc2, mc2, rfl, hE, hMc2, hV, hc2⟩
          replace hL := hL.call hE (by assumption) hV; clear hE hV
          obtain ⟨gc2', Ac2', nc2', cc2', hc2', Bc2', kc2', dc2', rfl, hc2⟩ := hc2.lit
          have HO2 := Lib.hid hc2
          clear hc2
          go_wp2_with (first | ((with_reducible refine kAny ?_); go_skip) | (with_reducible refine stA ?_) | ((first | refine tIx ?_ | refine tFd ?_ | refine tLd ?_ | ((first | refine tSr ?_ | refine tSt ?_); clear hL; intro _ hL; simp only [splice, zq1, zq2, zq3] at hL) | (refine tAl ?_; clear hL; intro _ _ hL _)); simp only [Act.put, zq1, zq2, zq3]))
          refine (r_Int 1 _ _ hL.vw (by decide) (by decide)).mono ?_
          rintro e Wc3 ⟨vc3, mc3, rfl, hE, hMc3, hV, hc3⟩
          replace hL := hL.call hE (by assumption) hV; clear hE hV
          obtain ⟨gc3', Ac3', nc3', cc3', hc3', Bc3', kc3', dc3', rfl, hc3⟩ := hc3.lit
          have HO3 := Lib.hid hc3
          clear hc3
          have hfi : 0 + i * 4 + 4 ≤ curz.size := by
            have : (i + 1) * 4 ≤ capz * 4 := Nat.mul_le_mul_right _ (by omega)
            omega
          have hfj : 0 + j * 4 + 4 ≤ curz.size := by
            have : (j + 1) * 4 ≤ capz * 4 := Nat.mul_le_mul_right _ (by omega)
            omega
          go_wp2_with (first | (with_reducible refine stS ?_) | (first | ((with_reducible refine kAny ?_); go_skip) | (with_reducible refine stA ?_) | ((first | refine tIx ?_ | refine tFd ?_ | refine tLd ?_ | ((first | refine tSr ?_ | refine tSt ?_); clear hL; intro _ hL; simp only [splice, zq1, zq2, zq3] at hL) | (refine tAl ?_; clear hL; intro _ _ hL _)); simp only [Act.put, zq1, zq2, zq3])))
          refine goA ?_
          refine wl_storeS hL (wanted_none rfl) (vs := [.bool gc2', .slice Ac2' nc2' cc2', .bool hc2', .slice Bc2' kc2' dc2']) (off := 0 + i * 4) rfl rfl rfl ag_Frac rfl (n := 0) rfl hfi rfl ?_
          clear hL
          intro W4 hL hS4
          simp only [List.set_cons_zero] at hL
          have ra1 := RowA.putW (k := i) (x := ((1 : Int) : Rat)) (ws := [.bool gc2', .slice Ac2' nc2' cc2', .bool hc2', .slice Bc2' kc2' dc2']) (RowA.le FracC.mono HZ.out (leX : Le mz mc3)) (by rw [List.length_replicate]; exact hlt) rfl (HO2.out.le leX)
          have RA1 := Lib.hid ra1
          clear ra1
          simp only [Act.put, zq1, zq2, zq3]
          go_wp2_with (first | (with_reducible refine stS ?_) | (first | ((with_reducible refine kAny ?_); go_skip) | (with_reducible refine stA ?_) | ((first | refine tIx ?_ | refine tFd ?_ | refine tLd ?_ | ((first | refine tSr ?_ | refine tSt ?_); clear hL; intro _ hL; simp only [splice, zq1, zq2, zq3] at hL) | (refine tAl ?_; clear hL; intro _ _ hL _)); simp only [Act.put, zq1, zq2, zq3])))
          refine goA ?_
          refine wl_storeS hL (wanted_none rfl) (vs := [.bool gc3', .slice Ac3' nc3' cc3', .bool hc3', .slice Bc3' kc3' dc3']) (off := 0 + j * 4) rfl rfl rfl ag_Frac rfl (n := 0) rfl (by rw [splice_size]; exact hfj) rfl ?_
          clear hL
          intro W6 hL hS6
          simp only [List.set_cons_zero] at hL
          have ra2 := RowA.putW (k := j) (x := ((1 : Int) : Rat)) (ws := [.bool gc3', .slice Ac3' nc3' cc3', .bool hc3', .slice Bc3' kc3' dc3']) RA1.out (by rw [List.length_set, List.length_replicate]; exact hjc) rfl HO3.out
          obtain ⟨m6, hL6, hle6, hfl, -⟩ := RowA.show (A := []) FracC.mono hL ra2
          have HFL : Hid (FracL m6 (.slice (some ⟨gz, 0, none⟩) nc capz) (oneAt nc i j)) := hfl
          clear hL ra2 hle6 hfl RA1 HZ hS4 hS6 hXz hMc2 hMc3 hfi hfj hcz hsz HO2 HO3
          have hL := hL6
          have hM6 := hL6.mext
          clear hL6
          simp only [Act.put, zq1, zq2, zq3]
          go_wp2_with (first | ((with_reducible refine kAny ?_); go_skip) | (with_reducible refine stA ?_) | ((first | refine tIx ?_ | refine tFd ?_ | refine tLd ?_ | ((first | refine tSr ?_ | refine tSt ?_); clear hL; intro _ hL; simp only [splice, zq1, zq2, zq3] at hL) | (refine tAl ?_; clear hL; intro _ _ hL _)); simp only [Act.put, zq1, zq2, zq3]))
          refine (u_Violation_ok _ _ x (x.rows.take 3, 2) _ (oneAt nc i j) _ _ hL.vw (HM9.out.le leX) (HX9.out.le leX) (FracL.le HFL.out leX) VK.out HCB.out).mono ?_
          rintro e Wv ⟨_, mv, rfl, hE, hMv, hV, vv, rfl, hvv⟩
          replace hL := hL.call hE (by assumption) hV; clear hE hV
          rw [HVQ.out] at hvv
          have hfc := FracP.toC hvv
          obtain ⟨gw, Aw, nw, cw, fw, Bw, kw, dw, rfl, hfc⟩ := hfc.lit
          have HFC := Lib.hid hfc
          clear hvv hfc
          go_upto_region 13 with ((first | ((with_reducible refine kAny ?_); go_skip) | (with_reducible refine stA ?_) | ((first | refine tIx ?_ | refine tFd ?_ | refine tLd ?_ | ((first | refine tSr ?_ | refine tSt ?_); clear hL; intro _ hL; simp only [splice, zq1, zq2, zq3] at hL) | (refine tAl ?_; clear hL; intro _ _ hL _)); simp only [Act.put, zq1, zq2, zq3])))
          refine wp_region_by2 14 [false, false, false, false, false, false, false, false, false, false, false, false, false, false] [false, false, false, false, false, false, false, false, false, false, false, false, false, false] [(fun v _ _ => v = ?c13_0), (fun v _ _ => v = ?c13_1), (fun v _ _ => v = ?c13_2), (fun v _ _ => v = ?c13_3), (fun v _ _ => v = ?c13_4), (fun v _ _ => v = ?c13_5), Of (fun um v => IntL um v oa), (fun v _ _ => v = ?c13_7), (fun v _ _ => v = ?c13_8), (fun v _ _ => v = ?c13_9), (fun v _ _ => v = ?c13_10), (fun v _ _ => v = ?c13_11), (fun v _ _ => v = ?c13_12), Of (fun um v => IntL um v ob)] hL.vw mixed [53, 54, 55, 56, 57, 58, 59, 60, 61, 62, 63, 64, 65, 66] _ (by kernel_rfl) (fun vs => by simp only [lay, Act.put, zq1, zq2, zq3]; rfl) (by kernel_rfl) (by decide) (by decide) ?s13 ?l13 ?r13
          case s13 =>
            refine ⟨?_, ?_, ?_, ?_, ?_, ?_, ?_, ?_, ?_, ?_, ?_, ?_, ?_, ?_, trivial⟩
            · intro vs W1 m1 hE hM hV hD; clear hD; replace hL := hL.call hE hM hV
              exact sFd
            · intro vs W1 m1 hE hM hV hD; obtain ⟨⟨_, _, -, -, f53⟩, -⟩ := hD; have f53 : vs 53 = _ := f53; generalize vs 53 = x53 at f53 ⊢; subst x53; replace hL := hL.call hE hM hV
              exact sLd
            · intro vs W1 m1 hE hM hV hD; clear hD; replace hL := hL.call hE hM hV
              exact sPu
            · intro vs W1 m1 hE hM hV hD; obtain ⟨⟨_, _, -, -, f54⟩, ⟨_, _, -, -, f55⟩, -⟩ := hD; have f54 : vs 54 = _ := f54; generalize vs 54 = x54 at f54 ⊢; subst x54; have f55 : vs 55 = _ := f55; generalize vs 55 = x55 at f55 ⊢; subst x55; replace hL := hL.call hE hM hV
              exact sIx
            · intro vs W1 m1 hE hM hV hD; obtain ⟨⟨_, _, -, -, f56⟩, -⟩ := hD; have f56 : vs 56 = _ := f56; generalize vs 56 = x56 at f56 ⊢; subst x56; replace hL := hL.call hE hM hV
              exact sFd
            · intro vs W1 m1 hE hM hV hD; obtain ⟨⟨_, _, -, -, f57⟩, -⟩ := hD; have f57 : vs 57 = _ := f57; generalize vs 57 = x57 at f57 ⊢; subst x57; replace hL := hL.call hE hM hV
              exact sLd
            · intro vs W1 m1 hE hM hV hD; obtain ⟨⟨_, _, -, -, f58⟩, -⟩ := hD; have f58 : vs 58 = _ := f58; generalize vs 58 = x58 at f58 ⊢; subst x58
              go_wp2_with fail
              refine (KOA.out _ _ hV leX).mono ?_
              rintro e W2 ⟨v, m2, rfl, hE2, hM2, hV2, h⟩
              go_wp2_with fail
              refine One2.call hE2 hM2 hV2 ?_; first | exact h | exact rfl
            · intro vs W1 m1 hE hM hV hD; clear hD; replace hL := hL.call hE hM hV
              exact sFd
            · intro vs W1 m1 hE hM hV hD; obtain ⟨⟨_, _, -, -, f60⟩, -⟩ := hD; have f60 : vs 60 = _ := f60; generalize vs 60 = x60 at f60 ⊢; subst x60; replace hL := hL.call hE hM hV
              exact sLd
            · intro vs W1 m1 hE hM hV hD; clear hD; replace hL := hL.call hE hM hV
              exact sPu
            · intro vs W1 m1 hE hM hV hD; obtain ⟨⟨_, _, -, -, f61⟩, ⟨_, _, -, -, f62⟩, -⟩ := hD; have f61 : vs 61 = _ := f61; generalize vs 61 = x61 at f61 ⊢; subst x61; have f62 : vs 62 = _ := f62; generalize vs 62 = x62 at f62 ⊢; subst x62; replace hL := hL.call hE hM hV
              exact sIx
            · intro vs W1 m1 hE hM hV hD; obtain ⟨⟨_, _, -, -, f63⟩, -⟩ := hD; have f63 : vs 63 = _ := f63; generalize vs 63 = x63 at f63 ⊢; subst x63; replace hL := hL.call hE hM hV
              exact sFd
            · intro vs W1 m1 hE hM hV hD; obtain ⟨⟨_, _, -, -, f64⟩, -⟩ := hD; have f64 : vs 64 = _ := f64; generalize vs 64 = x64 at f64 ⊢; subst x64; replace hL := hL.call hE hM hV
              exact sLd
            · intro vs W1 m1 hE hM hV hD; obtain ⟨⟨_, _, -, -, f65⟩, -, -⟩ := hD; have f65 : vs 65 = _ := f65; generalize vs 65 = x65 at f65 ⊢; subst x65
              go_wp2_with fail
              refine (KOB.out _ _ hV leX).mono ?_
              rintro e W2 ⟨v, m2, rfl, hE2, hM2, hV2, h⟩
              go_wp2_with fail
              refine One2.call hE2 hM2 hV2 ?_; first | exact h | exact rfl
          case l13 =>
            refine ⟨fun h => (by cases h), fun h => (by cases h), fun h => (by cases h), fun h => (by cases h), fun h => (by cases h), fun h => (by cases h), fun h => (by cases h), fun h => (by cases h), fun h => (by cases h), fun h => (by cases h), fun h => (by cases h), fun h => (by cases h), fun h => (by cases h), fun h => (by cases h), trivial⟩
          intro vs W1 m1 hE hM hV hF hD
          clear hD
          obtain ⟨-, -, -, -, -, -, ⟨_, _, -, i59, f59⟩, -, -, -, -, -, -, ⟨_, _, -, i66, f66⟩, -⟩ := hF
          replace hL := hL.call hE hM hV
          replace f59 : IntL _ (vs 59) oa := f59
          replace f59 := f59.le i59.le
          clear i59
          replace f66 : IntL _ (vs 66) ob := f66
          replace f66 := f66.le i66.le
          clear i66
          clear hE hV
          obtain ⟨P1, p1, e59, -, f59⟩ := f59.lit
          generalize vs 59 = x59 at e59 ⊢
          subst x59
          obtain ⟨P2, p2, e66, -, f66⟩ := f66.lit
          generalize vs 66 = x66 at e66 ⊢
          subst x66
          simp only [List.drop_succ_cons, List.drop_zero]
          go_wp2_with (first | ((with_reducible refine kAny ?_); go_skip) | (with_reducible refine stA ?_) | ((first | refine tIx ?_ | refine tFd ?_ | refine tLd ?_ | ((first | refine tSr ?_ | refine tSt ?_); clear hL; intro _ hL; simp only [splice, zq1, zq2, zq3] at hL) | (refine tAl ?_; clear hL; intro _ _ hL _)); simp only [Act.put, zq1, zq2, zq3]))
          refine QN.mk ?_
          have HIA := Lib.hid f59
          have HIB := Lib.hid f66
          have KCA0 : Hid (∀ u m', Vw m' u → Le m1 m' → Calls Tryz.prog 46 #[.agg #[.slice M1 3 d1, .int .i64 2], .slice P1 oa.length p1] u (RetV u m' fun _ r => r = .int .i64 (coefF (x.rows.take 3, 2) oa))) := by
            show ∀ u m', _
            exact fun u m' hV hle => r_Coefficient _ _ _ oa u m' hV (HX9.out.le (Le.trans leX hle)) (IntL.le HIA.out hle) (by show (x.rows.take 3).length ≤ _; rw [HRL.out]; decide) HNA.out (by show (1 : Int) ≤ 2; decide)
          have KCB0 : Hid (∀ u m', Vw m' u → Le m1 m' → Calls Tryz.prog 46 #[.agg #[.slice M1 3 d1, .int .i64 2], .slice P2 ob.length p2] u (RetV u m' fun _ r => r = .int .i64 (coefF (x.rows.take 3, 2) ob))) := by
            show ∀ u m', _
            exact fun u m' hV hle => r_Coefficient _ _ _ ob u m' hV (HX9.out.le (Le.trans leX hle)) (IntL.le HIB.out hle) (by show (x.rows.take 3).length ≤ _; rw [HRL.out]; decide) HNB.out (by show (1 : Int) ≤ 2; decide)
          have KHB : Hid (∀ f u m', Vw m' u → Le m1 m' → Calls Tryz.prog 44 #[.slice P2 ob.length p2, .int .i64 f] u (RetV u m' fun _ r => r = .bool (decide (f ∈ ob)))) := by
            show ∀ f u m', _
            exact fun f u m' hV hle => r_Has _ ob f u m' hV (IntL.le HIB.out hle) HNB.out
          have KHR : Hid (∀ f u m', Vw m' u → Le m1 m' → Calls Tryz.prog 44 #[.slice M1 3 d1, .int .i64 f] u (RetV u m' fun _ r => r = .bool (decide (f ∈ x.rows.take 3)))) := by
            show ∀ f u m', _
            exact fun f u m' hV hle => r_Has _ _ f u m' hV (IntL.le HI9.out (Le.trans leX hle)) (by rw [HRL.out]; decide)
          have KS0 : Hid (∀ z u m', coefF (x.rows.take 3, 2) ob = 0 ∨ coefF (x.rows.take 3, 2) ob = 1 → coefF (x.rows.take 3, 2) oa = 0 ∨ coefF (x.rows.take 3, 2) oa = 1 → z = icmp (-1 + coefF (x.rows.take 3, 2) ob + coefF (x.rows.take 3, 2) oa) 0 → Vw m' u → Le m1 m' → Calls Tryz.prog 45 #[.agg #[.bool gw, .slice Aw nw cw, .bool fw, .slice Bw kw dw]] u (RetV u m' fun _ r => r = .int .i64 z)) := by
            show ∀ z u m', _
            intro z u m' h1 h2 hz hV hle
            have ht : Tw 120 ((-1 + coefF (x.rows.take 3, 2) ob + coefF (x.rows.take 3, 2) oa : Int) : Rat) := Tw.int (K := 10) (by omega)
            rw [hz]
            exact r_Sign _ _ u m' hV ((HFC.out.le (Le.trans leX hle)).toV (ht.fit (by decide)) (by decide)) ((ht.fit (by decide)).mono (by decide))
          clear f59 f66 KOA KOB HFL HVQ HFC VK hjc hra2 hrb2
          generalize hla : oa.length = la at *
          have HLA := Lib.hid hla
          clear hla
          have hla6 : la ≤ 1000000 := HNA.out
          generalize ob.length = lb at *
          go_wp2_with (first | ((with_reducible refine kAny ?_); go_skip) | (with_reducible refine stA ?_) | ((first | refine tIx ?_ | refine tFd ?_ | refine tLd ?_ | ((first | refine tSr ?_ | refine tSt ?_); clear hL; intro _ hL; simp only [splice, zq1, zq2, zq3] at hL) | (refine tAl ?_; clear hL; intro _ _ hL _)); simp only [Act.put, zq1, zq2, zq3]))
          go_loopw [12, 15] (fun bv kv wr => ∃ (k : Nat) (m7 : World), k ≤ la ∧ kv = .int .i64 (k : Int) ∧ bv = .bool (comF oa ob (x.rows.take 3) k) ∧ Loc wq m2 wr m7 [(Wv.heap.size, 39, #[.bool gw, .slice Aw nw cw, .bool fw, .slice Bw kw dw])] ∧ Hid (Ext m1 m7)) (fun _ kv _ => la - (intOf kv).toNat)
          case atStart => exact ⟨0, _, Nat.zero_le _, rfl, rfl, hL, Ext.refl _⟩
          case round =>
            clear hL
            obtain ⟨k, m7, hk, rfl, rfl, hL, HX7⟩ := hrel
            have hX7 := HX7.out
            by_cases hltk : k < la
            · have hltk' : (k : Int) < (la : Int) := by omega
              obtain ⟨f, hf⟩ := at_some HLA hltk
              have hia := HIA.out
              obtain ⟨b7, o7, rfl, hc7⟩ := IntL.at_ hia hf
              have HST := Lib.hid (comF_step (b := ob) (rs := x.rows.take 3) hf)
              have KHB1 := Lib.hid (KHB.out f)
              have KHR1 := Lib.hid (KHR.out f)
              clear hf hia
              generalize comF oa ob (x.rows.take 3) k = bk at *
              cases bk with
              | true =>
                go_upto_region 17 with ((first | ((with_reducible refine kAny ?_); go_skip) | (with_reducible refine stA ?_) | ((first | refine tIx ?_ | refine tFd ?_ | refine tLd ?_ | ((first | refine tSr ?_ | refine tSt ?_); clear hL; intro _ hL; simp only [splice, zq1, zq2, zq3] at hL) | (refine tAl ?_; clear hL; intro _ _ hL _)); simp only [Act.put, zq1, zq2, zq3])))
                refine wp_region_by2 18 [false, false, false, false, false, false, false, false, false, false, false, false, false, false, false, false, false, false] [false, false, false, false, false, false, false, false, false, false, false, false, false, false, false, false, false, false] [(fun v _ _ => v = ?c17_0a), (fun v _ _ => v = ?c17_1a), (fun v _ _ => v = ?c17_2a), (fun v _ _ => v = ?c17_3a), (fun v _ _ => v = ?c17_4a), (fun v _ _ => v = ?c17_5a), (fun v _ _ => v = ?c17_6a), (fun v _ _ => v = ?c17_7a), (fun v _ _ => v = ?c17_8a), (fun v _ _ => v = ?c17_9a), (fun v _ _ => v = ?c17_10a), (fun v _ _ => v = ?c17_11a), (fun v _ _ => v = ?c17_12a), (fun v _ _ => v = ?c17_13a), (fun v _ _ => v = ?c17_14a), (fun v _ _ => v = ?c17_15a), (fun v _ _ => v = ?c17_16a), (fun v _ _ => v = ?c17_17a)] hL.vw mixed [73, 74, 75, 76, 77, 78, 79, 80, 81, 82, 83, 84, 85, 86, 87, 88, 89, 90] _ (by kernel_rfl) (fun vs => by simp only [lay, Act.put, zq1, zq2, zq3]; rfl) (by kernel_rfl) (by decide) (by decide) ?s17a ?l17a ?r17a
                case s17a =>
                  refine ⟨?_, ?_, ?_, ?_, ?_, ?_, ?_, ?_, ?_, ?_, ?_, ?_, ?_, ?_, ?_, ?_, ?_, ?_, trivial⟩
                  · intro vs W1 m1 hE hM hV hD; clear hD; replace hL := hL.call hE hM hV
                    exact sPu
                  · intro vs W1 m1 hE hM hV hD; obtain ⟨⟨_, _, -, -, f73⟩, -⟩ := hD; have f73 : vs 73 = _ := f73; generalize vs 73 = x73 at f73 ⊢; subst x73; replace hL := hL.call hE hM hV
                    exact sPu
                  · intro vs W1 m1 hE hM hV hD; obtain ⟨⟨_, _, -, -, f74⟩, -⟩ := hD; have f74 : vs 74 = _ := f74; generalize vs 74 = x74 at f74 ⊢; subst x74; replace hL := hL.call hE hM hV
                    exact sPu
                  · intro vs W1 m1 hE hM hV hD; obtain ⟨⟨_, _, -, -, f74⟩, -⟩ := hD; have f74 : vs 74 = _ := f74; generalize vs 74 = x74 at f74 ⊢; subst x74; replace hL := hL.call hE hM hV
                    exact sPu
                  · intro vs W1 m1 hE hM hV hD; obtain ⟨⟨_, _, -, -, f74⟩, -⟩ := hD; have f74 : vs 74 = _ := f74; generalize vs 74 = x74 at f74 ⊢; subst x74; replace hL := hL.call hE hM hV
                    exact sPu
                  · intro vs W1 m1 hE hM hV hD; obtain ⟨⟨_, _, -, -, f76⟩, ⟨_, _, -, -, f77⟩, ⟨_, _, -, -, f74⟩, -⟩ := hD; have f76 : vs 76 = _ := f76; generalize vs 76 = x76 at f76 ⊢; subst x76; have f77 : vs 77 = _ := f77; generalize vs 77 = x77 at f77 ⊢; subst x77; have f74 : vs 74 = _ := f74; generalize vs 74 = x74 at f74 ⊢; subst x74; replace hL := hL.call hE hM hV
                    exact sPu
                  · intro vs W1 m1 hE hM hV hD; obtain ⟨⟨_, _, -, -, f78⟩, ⟨_, _, -, -, f74⟩, -⟩ := hD; have f78 : vs 78 = _ := f78; generalize vs 78 = x78 at f78 ⊢; subst x78; have f74 : vs 74 = _ := f74; generalize vs 74 = x74 at f74 ⊢; subst x74; replace hL := hL.call hE hM hV
                    exact sPu
                  · intro vs W1 m1 hE hM hV hD; obtain ⟨⟨_, _, -, -, f75⟩, ⟨_, _, -, -, f79⟩, ⟨_, _, -, -, f74⟩, -, -⟩ := hD; have f75 : vs 75 = _ := f75; generalize vs 75 = x75 at f75 ⊢; subst x75; have f79 : vs 79 = _ := f79; generalize vs 79 = x79 at f79 ⊢; subst x79; have f74 : vs 74 = _ := f74; generalize vs 74 = x74 at f74 ⊢; subst x74; replace hL := hL.call hE hM hV
                    exact sPu
                  · intro vs W1 m1 hE hM hV hD; obtain ⟨⟨_, _, -, -, f80⟩, -, ⟨_, _, -, -, f74⟩, -⟩ := hD; have f80 : vs 80 = _ := f80; generalize vs 80 = x80 at f80 ⊢; subst x80; have f74 : vs 74 = _ := f74; generalize vs 74 = x74 at f74 ⊢; subst x74; replace hL := hL.call hE hM hV
                    exact sPu
                  · intro vs W1 m1 hE hM hV hD; obtain ⟨⟨_, _, -, -, f81⟩, -⟩ := hD; have f81 : vs 81 = _ := f81; generalize vs 81 = x81 at f81 ⊢; subst x81; replace hL := hL.call hE hM hV
                    exact sPu
                  · intro vs W1 m1 hE hM hV hD; obtain ⟨⟨_, _, -, -, f82⟩, ⟨_, _, -, -, f81⟩, -⟩ := hD; have f82 : vs 82 = _ := f82; generalize vs 82 = x82 at f82 ⊢; subst x82; have f81 : vs 81 = _ := f81; generalize vs 81 = x81 at f81 ⊢; subst x81; replace hL := hL.call hE hM hV
                    exact sPu
                  · intro vs W1 m1 hE hM hV hD; obtain ⟨⟨_, _, -, -, f81⟩, -⟩ := hD; have f81 : vs 81 = _ := f81; generalize vs 81 = x81 at f81 ⊢; subst x81; replace hL := hL.call hE hM hV
                    exact sPu
                  · intro vs W1 m1 hE hM hV hD; obtain ⟨⟨_, _, -, -, f81⟩, -⟩ := hD; have f81 : vs 81 = _ := f81; generalize vs 81 = x81 at f81 ⊢; subst x81; replace hL := hL.call hE hM hV
                    exact sPu
                  · intro vs W1 m1 hE hM hV hD; obtain ⟨⟨_, _, -, -, f84⟩, ⟨_, _, -, -, f85⟩, ⟨_, _, -, -, f81⟩, -⟩ := hD; have f84 : vs 84 = _ := f84; generalize vs 84 = x84 at f84 ⊢; subst x84; have f85 : vs 85 = _ := f85; generalize vs 85 = x85 at f85 ⊢; subst x85; have f81 : vs 81 = _ := f81; generalize vs 81 = x81 at f81 ⊢; subst x81; replace hL := hL.call hE hM hV
                    exact sPu
                  · intro vs W1 m1 hE hM hV hD; obtain ⟨⟨_, _, -, -, f86⟩, ⟨_, _, -, -, f81⟩, -⟩ := hD; have f86 : vs 86 = _ := f86; generalize vs 86 = x86 at f86 ⊢; subst x86; have f81 : vs 81 = _ := f81; generalize vs 81 = x81 at f81 ⊢; subst x81; replace hL := hL.call hE hM hV
                    exact sPu
                  · intro vs W1 m1 hE hM hV hD; obtain ⟨⟨_, _, -, -, f83⟩, ⟨_, _, -, -, f87⟩, ⟨_, _, -, -, f81⟩, -, -⟩ := hD; have f83 : vs 83 = _ := f83; generalize vs 83 = x83 at f83 ⊢; subst x83; have f87 : vs 87 = _ := f87; generalize vs 87 = x87 at f87 ⊢; subst x87; have f81 : vs 81 = _ := f81; generalize vs 81 = x81 at f81 ⊢; subst x81; replace hL := hL.call hE hM hV
                    exact sPu
                  · intro vs W1 m1 hE hM hV hD; obtain ⟨⟨_, _, -, -, f81⟩, ⟨_, _, -, -, f88⟩, ⟨_, _, -, -, f74⟩, -⟩ := hD; have f81 : vs 81 = _ := f81; generalize vs 81 = x81 at f81 ⊢; subst x81; have f88 : vs 88 = _ := f88; generalize vs 88 = x88 at f88 ⊢; subst x88; have f74 : vs 74 = _ := f74; generalize vs 74 = x74 at f74 ⊢; subst x74; replace hL := hL.call hE hM hV
                    exact sPu
                  · intro vs W1 m1 hE hM hV hD; obtain ⟨⟨_, _, -, -, f74⟩, ⟨_, _, -, -, f89⟩, -⟩ := hD; have f74 : vs 74 = _ := f74; generalize vs 74 = x74 at f74 ⊢; subst x74; have f89 : vs 89 = _ := f89; generalize vs 89 = x89 at f89 ⊢; subst x89; replace hL := hL.call hE hM hV
                    exact sPu
                case l17a =>
                  refine ⟨fun h => (by cases h), fun h => (by cases h), fun h => (by cases h), fun h => (by cases h), fun h => (by cases h), fun h => (by cases h), fun h => (by cases h), fun h => (by cases h), fun h => (by cases h), fun h => (by cases h), fun h => (by cases h), fun h => (by cases h), fun h => (by cases h), fun h => (by cases h), fun h => (by cases h), fun h => (by cases h), fun h => (by cases h), fun h => (by cases h), trivial⟩
                intro vs W1 m1 hE hM hV hF hD
                clear hD
                obtain ⟨-, -, -, -, -, -, -, -, -, -, -, -, -, -, -, -, -, ⟨_, _, -, -, f90⟩, -⟩ := hF
                replace hL := hL.call hE hM hV
                have f90 : vs 90 = _ := f90
                generalize vs 90 = x90 at f90 ⊢
                subst x90
                clear hE hV
                simp only [List.drop_succ_cons, List.drop_zero]
                go_wp2_with (first | ((with_reducible refine kAny ?_); go_skip) | (with_reducible refine stA ?_) | ((first | refine tIx ?_ | refine tFd ?_ | refine tLd ?_ | ((first | refine tSr ?_ | refine tSt ?_); clear hL; intro _ hL; simp only [splice, zq1, zq2, zq3] at hL) | (refine tAl ?_; clear hL; intro _ _ hL _)); simp only [Act.put, zq1, zq2, zq3]))
                refine QN.mk ?_
                go_wp2_with (first | ((with_reducible refine kAny ?_); go_skip) | (with_reducible refine stA ?_) | ((first | refine tIx ?_ | refine tFd ?_ | refine tLd ?_ | ((first | refine tSr ?_ | refine tSt ?_); clear hL; intro _ hL; simp only [splice, zq1, zq2, zq3] at hL) | (refine tAl ?_; clear hL; intro _ _ hL _)); simp only [Act.put, zq1, zq2, zq3]))
                go_roundw
                case rel => exact ⟨k + 1, _, by omega, by go_num, by rw [HST.out]; rfl, hL, exX⟩
                case measure => simp [intOf] <;> omega
              | false =>
                by_cases hfb : f ∈ ob
                · rw [decide_eq_true hfb] at KHB1 HST
                  by_cases hfr : f ∈ x.rows.take 3
                  · rw [decide_eq_true hfr] at KHR1 HST
                    clear hfb hfr
                    go_upto_region 17 with ((first | ((with_reducible refine kAny ?_); go_skip) | (with_reducible refine stA ?_) | ((first | refine tIx ?_ | refine tFd ?_ | refine tLd ?_ | ((first | refine tSr ?_ | refine tSt ?_); clear hL; intro _ hL; simp only [splice, zq1, zq2, zq3] at hL) | (refine tAl ?_; clear hL; intro _ _ hL _)); simp only [Act.put, zq1, zq2, zq3])))
                    refine wp_region_by2 18 [false, false, false, false, false, false, false, false, false, false, false, false, false, false, false, false, false, false] [false, false, false, false, false, false, false, false, false, false, false, false, false, false, false, false, false, false] [(fun v _ _ => v = ?c17_0b), (fun v _ _ => v = ?c17_1b), (fun v _ _ => v = ?c17_2b), (fun v _ _ => v = ?c17_3b), (fun v _ _ => v = ?c17_4b), (fun v _ _ => v = ?c17_5b), (fun v _ _ => v = ?c17_6b), Is (.bool true), (fun v _ _ => v = ?c17_8b), (fun v _ _ => v = ?c17_9b), (fun v _ _ => v = ?c17_10b), (fun v _ _ => v = ?c17_11b), (fun v _ _ => v = ?c17_12b), (fun v _ _ => v = ?c17_13b), (fun v _ _ => v = ?c17_14b), Is (.bool true), (fun v _ _ => v = ?c17_16b), (fun v _ _ => v = ?c17_17b)] hL.vw mixed [73, 74, 75, 76, 77, 78, 79, 80, 81, 82, 83, 84, 85, 86, 87, 88, 89, 90] _ (by kernel_rfl) (fun vs => by simp only [lay, Act.put, zq1, zq2, zq3]; rfl) (by kernel_rfl) (by decide) (by decide) ?s17b ?l17b ?r17b
                    case s17b =>
                      refine ⟨?_, ?_, ?_, ?_, ?_, ?_, ?_, ?_, ?_, ?_, ?_, ?_, ?_, ?_, ?_, ?_, ?_, ?_, trivial⟩
                      · intro vs W1 m1 hE hM hV hD; clear hD; replace hL := hL.call hE hM hV
                        exact sPu
                      · intro vs W1 m1 hE hM hV hD; obtain ⟨⟨_, _, -, -, f73⟩, -⟩ := hD; have f73 : vs 73 = _ := f73; generalize vs 73 = x73 at f73 ⊢; subst x73; replace hL := hL.call hE hM hV
                        exact sPu
                      · intro vs W1 m1 hE hM hV hD; obtain ⟨⟨_, _, -, -, f74⟩, -⟩ := hD; have f74 : vs 74 = _ := f74; generalize vs 74 = x74 at f74 ⊢; subst x74; replace hL := hL.call hE hM hV
                        exact sPu
                      · intro vs W1 m1 hE hM hV hD; obtain ⟨⟨_, _, -, -, f74⟩, -⟩ := hD; have f74 : vs 74 = _ := f74; generalize vs 74 = x74 at f74 ⊢; subst x74; replace hL := hL.call hE hM hV
                        exact sPu
                      · intro vs W1 m1 hE hM hV hD; obtain ⟨⟨_, _, -, -, f74⟩, -⟩ := hD; have f74 : vs 74 = _ := f74; generalize vs 74 = x74 at f74 ⊢; subst x74; replace hL := hL.call hE hM hV
                        exact sPu
                      · intro vs W1 m1 hE hM hV hD; obtain ⟨⟨_, _, -, -, f76⟩, ⟨_, _, -, -, f77⟩, ⟨_, _, -, -, f74⟩, -⟩ := hD; have f76 : vs 76 = _ := f76; generalize vs 76 = x76 at f76 ⊢; subst x76; have f77 : vs 77 = _ := f77; generalize vs 77 = x77 at f77 ⊢; subst x77; have f74 : vs 74 = _ := f74; generalize vs 74 = x74 at f74 ⊢; subst x74; replace hL := hL.call hE hM hV
                        exact sIx
                      · intro vs W1 m1 hE hM hV hD; obtain ⟨⟨_, _, -, -, f78⟩, ⟨_, _, -, -, f74⟩, -⟩ := hD; have f78 : vs 78 = _ := f78; generalize vs 78 = x78 at f78 ⊢; subst x78; have f74 : vs 74 = _ := f74; generalize vs 74 = x74 at f74 ⊢; subst x74; replace hL := hL.call hE hM hV
                        exact sLd
                      · intro vs W1 m1 hE hM hV hD; obtain ⟨⟨_, _, -, -, f75⟩, ⟨_, _, -, -, f79⟩, ⟨_, _, -, -, f74⟩, -, -⟩ := hD; have f75 : vs 75 = _ := f75; generalize vs 75 = x75 at f75 ⊢; subst x75; have f79 : vs 79 = _ := f79; generalize vs 79 = x79 at f79 ⊢; subst x79; have f74 : vs 74 = _ := f74; generalize vs 74 = x74 at f74 ⊢; subst x74
                        go_wp2_with fail
                        refine (KHB1.out _ _ hV leX).mono ?_
                        rintro e W2 ⟨v, m2, rfl, hE2, hM2, hV2, h⟩
                        go_wp2_with fail
                        refine One2.call hE2 hM2 hV2 ?_; first | exact h | exact rfl
                      · intro vs W1 m1 hE hM hV hD; obtain ⟨⟨_, _, -, -, f80⟩, -, ⟨_, _, -, -, f74⟩, -⟩ := hD; have f80 : vs 80 = _ := f80; generalize vs 80 = x80 at f80 ⊢; subst x80; have f74 : vs 74 = _ := f74; generalize vs 74 = x74 at f74 ⊢; subst x74; replace hL := hL.call hE hM hV
                        exact sPu
                      · intro vs W1 m1 hE hM hV hD; obtain ⟨⟨_, _, -, -, f81⟩, -⟩ := hD; have f81 : vs 81 = _ := f81; generalize vs 81 = x81 at f81 ⊢; subst x81; replace hL := hL.call hE hM hV
                        exact sFd
                      · intro vs W1 m1 hE hM hV hD; obtain ⟨⟨_, _, -, -, f82⟩, ⟨_, _, -, -, f81⟩, -⟩ := hD; have f82 : vs 82 = _ := f82; generalize vs 82 = x82 at f82 ⊢; subst x82; have f81 : vs 81 = _ := f81; generalize vs 81 = x81 at f81 ⊢; subst x81; replace hL := hL.call hE hM hV
                        exact sLd
                      · intro vs W1 m1 hE hM hV hD; obtain ⟨⟨_, _, -, -, f81⟩, -⟩ := hD; have f81 : vs 81 = _ := f81; generalize vs 81 = x81 at f81 ⊢; subst x81; replace hL := hL.call hE hM hV
                        exact sPu
                      · intro vs W1 m1 hE hM hV hD; obtain ⟨⟨_, _, -, -, f81⟩, -⟩ := hD; have f81 : vs 81 = _ := f81; generalize vs 81 = x81 at f81 ⊢; subst x81; replace hL := hL.call hE hM hV
                        exact sPu
                      · intro vs W1 m1 hE hM hV hD; obtain ⟨⟨_, _, -, -, f84⟩, ⟨_, _, -, -, f85⟩, ⟨_, _, -, -, f81⟩, -⟩ := hD; have f84 : vs 84 = _ := f84; generalize vs 84 = x84 at f84 ⊢; subst x84; have f85 : vs 85 = _ := f85; generalize vs 85 = x85 at f85 ⊢; subst x85; have f81 : vs 81 = _ := f81; generalize vs 81 = x81 at f81 ⊢; subst x81; replace hL := hL.call hE hM hV
                        exact sIx
                      · intro vs W1 m1 hE hM hV hD; obtain ⟨⟨_, _, -, -, f86⟩, ⟨_, _, -, -, f81⟩, -⟩ := hD; have f86 : vs 86 = _ := f86; generalize vs 86 = x86 at f86 ⊢; subst x86; have f81 : vs 81 = _ := f81; generalize vs 81 = x81 at f81 ⊢; subst x81; replace hL := hL.call hE hM hV
                        exact sLd
                      · intro vs W1 m1 hE hM hV hD; obtain ⟨⟨_, _, -, -, f83⟩, ⟨_, _, -, -, f87⟩, ⟨_, _, -, -, f81⟩, -, -⟩ := hD; have f83 : vs 83 = _ := f83; generalize vs 83 = x83 at f83 ⊢; subst x83; have f87 : vs 87 = _ := f87; generalize vs 87 = x87 at f87 ⊢; subst x87; have f81 : vs 81 = _ := f81; generalize vs 81 = x81 at f81 ⊢; subst x81
                        go_wp2_with fail
                        refine (KHR1.out _ _ hV leX).mono ?_
                        rintro e W2 ⟨v, m2, rfl, hE2, hM2, hV2, h⟩
                        go_wp2_with fail
                        refine One2.call hE2 hM2 hV2 ?_; first | exact h | exact rfl
                      · intro vs W1 m1 hE hM hV hD; obtain ⟨⟨_, _, -, -, f81⟩, ⟨_, _, -, -, f88⟩, ⟨_, _, -, -, f74⟩, -⟩ := hD; have f81 : vs 81 = _ := f81; generalize vs 81 = x81 at f81 ⊢; subst x81; have f88 : vs 88 = _ := f88; generalize vs 88 = x88 at f88 ⊢; subst x88; have f74 : vs 74 = _ := f74; generalize vs 74 = x74 at f74 ⊢; subst x74; replace hL := hL.call hE hM hV
                        exact sPu
                      · intro vs W1 m1 hE hM hV hD; obtain ⟨⟨_, _, -, -, f74⟩, ⟨_, _, -, -, f89⟩, -⟩ := hD; have f74 : vs 74 = _ := f74; generalize vs 74 = x74 at f74 ⊢; subst x74; have f89 : vs 89 = _ := f89; generalize vs 89 = x89 at f89 ⊢; subst x89; replace hL := hL.call hE hM hV
                        exact sPu
                    case l17b =>
                      refine ⟨fun h => (by cases h), fun h => (by cases h), fun h => (by cases h), fun h => (by cases h), fun h => (by cases h), fun h => (by cases h), fun h => (by cases h), fun h => (by cases h), fun h => (by cases h), fun h => (by cases h), fun h => (by cases h), fun h => (by cases h), fun h => (by cases h), fun h => (by cases h), fun h => (by cases h), fun h => (by cases h), fun h => (by cases h), fun h => (by cases h), trivial⟩
                    intro vs W1 m1 hE hM hV hF hD
                    clear hD
                    obtain ⟨-, -, -, -, -, -, -, -, -, -, -, -, -, -, -, -, -, ⟨_, _, -, -, f90⟩, -⟩ := hF
                    replace hL := hL.call hE hM hV
                    have f90 : vs 90 = _ := f90
                    generalize vs 90 = x90 at f90 ⊢
                    subst x90
                    clear hE hV
                    simp only [List.drop_succ_cons, List.drop_zero]
                    go_wp2_with (first | ((with_reducible refine kAny ?_); go_skip) | (with_reducible refine stA ?_) | ((first | refine tIx ?_ | refine tFd ?_ | refine tLd ?_ | ((first | refine tSr ?_ | refine tSt ?_); clear hL; intro _ hL; simp only [splice, zq1, zq2, zq3] at hL) | (refine tAl ?_; clear hL; intro _ _ hL _)); simp only [Act.put, zq1, zq2, zq3]))
                    refine QN.mk ?_
                    go_wp2_with (first | ((with_reducible refine kAny ?_); go_skip) | (with_reducible refine stA ?_) | ((first | refine tIx ?_ | refine tFd ?_ | refine tLd ?_ | ((first | refine tSr ?_ | refine tSt ?_); clear hL; intro _ hL; simp only [splice, zq1, zq2, zq3] at hL) | (refine tAl ?_; clear hL; intro _ _ hL _)); simp only [Act.put, zq1, zq2, zq3]))
                    go_roundw
                    case rel => exact ⟨k + 1, _, by omega, by go_num, by rw [HST.out]; rfl, hL, exX⟩
                    case measure => simp [intOf] <;> omega
                  · rw [decide_eq_false hfr] at KHR1 HST
                    clear hfb hfr
                    go_upto_region 17 with ((first | ((with_reducible refine kAny ?_); go_skip) | (with_reducible refine stA ?_) | ((first | refine tIx ?_ | refine tFd ?_ | refine tLd ?_ | ((first | refine tSr ?_ | refine tSt ?_); clear hL; intro _ hL; simp only [splice, zq1, zq2, zq3] at hL) | (refine tAl ?_; clear hL; intro _ _ hL _)); simp only [Act.put, zq1, zq2, zq3])))
                    refine wp_region_by2 18 [false, false, false, false, false, false, false, false, false, false, false, false, false, false, false, false, false, false] [false, false, false, false, false, false, false, false, false, false, false, false, false, false, false, false, false, false] [(fun v _ _ => v = ?c17_0c), (fun v _ _ => v = ?c17_1c), (fun v _ _ => v = ?c17_2c), (fun v _ _ => v = ?c17_3c), (fun v _ _ => v = ?c17_4c), (fun v _ _ => v = ?c17_5c), (fun v _ _ => v = ?c17_6c), Is (.bool true), (fun v _ _ => v = ?c17_8c), (fun v _ _ => v = ?c17_9c), (fun v _ _ => v = ?c17_10c), (fun v _ _ => v = ?c17_11c), (fun v _ _ => v = ?c17_12c), (fun v _ _ => v = ?c17_13c), (fun v _ _ => v = ?c17_14c), Is (.bool false), (fun v _ _ => v = ?c17_16c), (fun v _ _ => v = ?c17_17c)] hL.vw mixed [73, 74, 75, 76, 77, 78, 79, 80, 81, 82, 83, 84, 85, 86, 87, 88, 89, 90] _ (by kernel_rfl) (fun vs => by simp only [lay, Act.put, zq1, zq2, zq3]; rfl) (by kernel_rfl) (by decide) (by decide) ?s17c ?l17c ?r17c
                    case s17c =>
                      refine ⟨?_, ?_, ?_, ?_, ?_, ?_, ?_, ?_, ?_, ?_, ?_, ?_, ?_, ?_, ?_, ?_, ?_, ?_, trivial⟩
                      · intro vs W1 m1 hE hM hV hD; clear hD; replace hL := hL.call hE hM hV
                        exact sPu
                      · intro vs W1 m1 hE hM hV hD; obtain ⟨⟨_, _, -, -, f73⟩, -⟩ := hD; have f73 : vs 73 = _ := f73; generalize vs 73 = x73 at f73 ⊢; subst x73; replace hL := hL.call hE hM hV
                        exact sPu
                      · intro vs W1 m1 hE hM hV hD; obtain ⟨⟨_, _, -, -, f74⟩, -⟩ := hD; have f74 : vs 74 = _ := f74; generalize vs 74 = x74 at f74 ⊢; subst x74; replace hL := hL.call hE hM hV
                        exact sPu
                      · intro vs W1 m1 hE hM hV hD; obtain ⟨⟨_, _, -, -, f74⟩, -⟩ := hD; have f74 : vs 74 = _ := f74; generalize vs 74 = x74 at f74 ⊢; subst x74; replace hL := hL.call hE hM hV
                        exact sPu
                      · intro vs W1 m1 hE hM hV hD; obtain ⟨⟨_, _, -, -, f74⟩, -⟩ := hD; have f74 : vs 74 = _ := f74; generalize vs 74 = x74 at f74 ⊢; subst x74; replace hL := hL.call hE hM hV
                        exact sPu
                      · intro vs W1 m1 hE hM hV hD; obtain ⟨⟨_, _, -, -, f76⟩, ⟨_, _, -, -, f77⟩, ⟨_, _, -, -, f74⟩, -⟩ := hD; have f76 : vs 76 = _ := f76; generalize vs 76 = x76 at f76 ⊢; subst x76; have f77 : vs 77 = _ := f77; generalize vs 77 = x77 at f77 ⊢; subst x77; have f74 : vs 74 = _ := f74; generalize vs 74 = x74 at f74 ⊢; subst x74; replace hL := hL.call hE hM hV
                        exact sIx
                      · intro vs W1 m1 hE hM hV hD; obtain ⟨⟨_, _, -, -, f78⟩, ⟨_, _, -, -, f74⟩, -⟩ := hD; have f78 : vs 78 = _ := f78; generalize vs 78 = x78 at f78 ⊢; subst x78; have f74 : vs 74 = _ := f74; generalize vs 74 = x74 at f74 ⊢; subst x74; replace hL := hL.call hE hM hV
                        exact sLd
                      · intro vs W1 m1 hE hM hV hD; obtain ⟨⟨_, _, -, -, f75⟩, ⟨_, _, -, -, f79⟩, ⟨_, _, -, -, f74⟩, -, -⟩ := hD; have f75 : vs 75 = _ := f75; generalize vs 75 = x75 at f75 ⊢; subst x75; have f79 : vs 79 = _ := f79; generalize vs 79 = x79 at f79 ⊢; subst x79; have f74 : vs 74 = _ := f74; generalize vs 74 = x74 at f74 ⊢; subst x74
                        go_wp2_with fail
                        refine (KHB1.out _ _ hV leX).mono ?_
                        rintro e W2 ⟨v, m2, rfl, hE2, hM2, hV2, h⟩
                        go_wp2_with fail
                        refine One2.call hE2 hM2 hV2 ?_; first | exact h | exact rfl
                      · intro vs W1 m1 hE hM hV hD; obtain ⟨⟨_, _, -, -, f80⟩, -, ⟨_, _, -, -, f74⟩, -⟩ := hD; have f80 : vs 80 = _ := f80; generalize vs 80 = x80 at f80 ⊢; subst x80; have f74 : vs 74 = _ := f74; generalize vs 74 = x74 at f74 ⊢; subst x74; replace hL := hL.call hE hM hV
                        exact sPu
                      · intro vs W1 m1 hE hM hV hD; obtain ⟨⟨_, _, -, -, f81⟩, -⟩ := hD; have f81 : vs 81 = _ := f81; generalize vs 81 = x81 at f81 ⊢; subst x81; replace hL := hL.call hE hM hV
                        exact sFd
                      · intro vs W1 m1 hE hM hV hD; obtain ⟨⟨_, _, -, -, f82⟩, ⟨_, _, -, -, f81⟩, -⟩ := hD; have f82 : vs 82 = _ := f82; generalize vs 82 = x82 at f82 ⊢; subst x82; have f81 : vs 81 = _ := f81; generalize vs 81 = x81 at f81 ⊢; subst x81; replace hL := hL.call hE hM hV
                        exact sLd
                      · intro vs W1 m1 hE hM hV hD; obtain ⟨⟨_, _, -, -, f81⟩, -⟩ := hD; have f81 : vs 81 = _ := f81; generalize vs 81 = x81 at f81 ⊢; subst x81; replace hL := hL.call hE hM hV
                        exact sPu
                      · intro vs W1 m1 hE hM hV hD; obtain ⟨⟨_, _, -, -, f81⟩, -⟩ := hD; have f81 : vs 81 = _ := f81; generalize vs 81 = x81 at f81 ⊢; subst x81; replace hL := hL.call hE hM hV
                        exact sPu
                      · intro vs W1 m1 hE hM hV hD; obtain ⟨⟨_, _, -, -, f84⟩, ⟨_, _, -, -, f85⟩, ⟨_, _, -, -, f81⟩, -⟩ := hD; have f84 : vs 84 = _ := f84; generalize vs 84 = x84 at f84 ⊢; subst x84; have f85 : vs 85 = _ := f85; generalize vs 85 = x85 at f85 ⊢; subst x85; have f81 : vs 81 = _ := f81; generalize vs 81 = x81 at f81 ⊢; subst x81; replace hL := hL.call hE hM hV
                        exact sIx
                      · intro vs W1 m1 hE hM hV hD; obtain ⟨⟨_, _, -, -, f86⟩, ⟨_, _, -, -, f81⟩, -⟩ := hD; have f86 : vs 86 = _ := f86; generalize vs 86 = x86 at f86 ⊢; subst x86; have f81 : vs 81 = _ := f81; generalize vs 81 = x81 at f81 ⊢; subst x81; replace hL := hL.call hE hM hV
                        exact sLd
                      · intro vs W1 m1 hE hM hV hD; obtain ⟨⟨_, _, -, -, f83⟩, ⟨_, _, -, -, f87⟩, ⟨_, _, -, -, f81⟩, -, -⟩ := hD; have f83 : vs 83 = _ := f83; generalize vs 83 = x83 at f83 ⊢; subst x83; have f87 : vs 87 = _ := f87; generalize vs 87 = x87 at f87 ⊢; subst x87; have f81 : vs 81 = _ := f81; generalize vs 81 = x81 at f81 ⊢; subst x81
                        go_wp2_with fail
                        refine (KHR1.out _ _ hV leX).mono ?_
                        rintro e W2 ⟨v, m2, rfl, hE2, hM2, hV2, h⟩
                        go_wp2_with fail
                        refine One2.call hE2 hM2 hV2 ?_; first | exact h | exact rfl
                      · intro vs W1 m1 hE hM hV hD; obtain ⟨⟨_, _, -, -, f81⟩, ⟨_, _, -, -, f88⟩, ⟨_, _, -, -, f74⟩, -⟩ := hD; have f81 : vs 81 = _ := f81; generalize vs 81 = x81 at f81 ⊢; subst x81; have f88 : vs 88 = _ := f88; generalize vs 88 = x88 at f88 ⊢; subst x88; have f74 : vs 74 = _ := f74; generalize vs 74 = x74 at f74 ⊢; subst x74; replace hL := hL.call hE hM hV
                        exact sPu
                      · intro vs W1 m1 hE hM hV hD; obtain ⟨⟨_, _, -, -, f74⟩, ⟨_, _, -, -, f89⟩, -⟩ := hD; have f74 : vs 74 = _ := f74; generalize vs 74 = x74 at f74 ⊢; subst x74; have f89 : vs 89 = _ := f89; generalize vs 89 = x89 at f89 ⊢; subst x89; replace hL := hL.call hE hM hV
                        exact sPu
                    case l17c =>
                      refine ⟨fun h => (by cases h), fun h => (by cases h), fun h => (by cases h), fun h => (by cases h), fun h => (by cases h), fun h => (by cases h), fun h => (by cases h), fun h => (by cases h), fun h => (by cases h), fun h => (by cases h), fun h => (by cases h), fun h => (by cases h), fun h => (by cases h), fun h => (by cases h), fun h => (by cases h), fun h => (by cases h), fun h => (by cases h), fun h => (by cases h), trivial⟩
                    intro vs W1 m1 hE hM hV hF hD
                    clear hD
                    obtain ⟨-, -, -, -, -, -, -, -, -, -, -, -, -, -, -, -, -, ⟨_, _, -, -, f90⟩, -⟩ := hF
                    replace hL := hL.call hE hM hV
                    have f90 : vs 90 = _ := f90
                    generalize vs 90 = x90 at f90 ⊢
                    subst x90
                    clear hE hV
                    simp only [List.drop_succ_cons, List.drop_zero]
                    go_wp2_with (first | ((with_reducible refine kAny ?_); go_skip) | (with_reducible refine stA ?_) | ((first | refine tIx ?_ | refine tFd ?_ | refine tLd ?_ | ((first | refine tSr ?_ | refine tSt ?_); clear hL; intro _ hL; simp only [splice, zq1, zq2, zq3] at hL) | (refine tAl ?_; clear hL; intro _ _ hL _)); simp only [Act.put, zq1, zq2, zq3]))
                    refine QN.mk ?_
                    go_wp2_with (first | ((with_reducible refine kAny ?_); go_skip) | (with_reducible refine stA ?_) | ((first | refine tIx ?_ | refine tFd ?_ | refine tLd ?_ | ((first | refine tSr ?_ | refine tSt ?_); clear hL; intro _ hL; simp only [splice, zq1, zq2, zq3] at hL) | (refine tAl ?_; clear hL; intro _ _ hL _)); simp only [Act.put, zq1, zq2, zq3]))
                    go_roundw
                    case rel => exact ⟨k + 1, _, by omega, by go_num, by rw [HST.out]; rfl, hL, exX⟩
                    case measure => simp [intOf] <;> omega
                · rw [decide_eq_false hfb] at KHB1 HST
                  clear hfb
                  go_upto_region 17 with ((first | ((with_reducible refine kAny ?_); go_skip) | (with_reducible refine stA ?_) | ((first | refine tIx ?_ | refine tFd ?_ | refine tLd ?_ | ((first | refine tSr ?_ | refine tSt ?_); clear hL; intro _ hL; simp only [splice, zq1, zq2, zq3] at hL) | (refine tAl ?_; clear hL; intro _ _ hL _)); simp only [Act.put, zq1, zq2, zq3])))
                  refine wp_region_by2 18 [false, false, false, false, false, false, false, false, false, false, false, false, false, false, false, false, false, false] [false, false, false, false, false, false, false, false, false, false, false, false, false, false, false, false, false, false] [(fun v _ _ => v = ?c17_0d), (fun v _ _ => v = ?c17_1d), (fun v _ _ => v = ?c17_2d), (fun v _ _ => v = ?c17_3d), (fun v _ _ => v = ?c17_4d), (fun v _ _ => v = ?c17_5d), (fun v _ _ => v = ?c17_6d), Is (.bool false), (fun v _ _ => v = ?c17_8d), (fun v _ _ => v = ?c17_9d), (fun v _ _ => v = ?c17_10d), (fun v _ _ => v = ?c17_11d), (fun v _ _ => v = ?c17_12d), (fun v _ _ => v = ?c17_13d), (fun v _ _ => v = ?c17_14d), (fun v _ _ => v = ?c17_15d), (fun v _ _ => v = ?c17_16d), (fun v _ _ => v = ?c17_17d)] hL.vw mixed [73, 74, 75, 76, 77, 78, 79, 80, 81, 82, 83, 84, 85, 86, 87, 88, 89, 90] _ (by kernel_rfl) (fun vs => by simp only [lay, Act.put, zq1, zq2, zq3]; rfl) (by kernel_rfl) (by decide) (by decide) ?s17d ?l17d ?r17d
                  case s17d =>
                    refine ⟨?_, ?_, ?_, ?_, ?_, ?_, ?_, ?_, ?_, ?_, ?_, ?_, ?_, ?_, ?_, ?_, ?_, ?_, trivial⟩
                    · intro vs W1 m1 hE hM hV hD; clear hD; replace hL := hL.call hE hM hV
                      exact sPu
                    · intro vs W1 m1 hE hM hV hD; obtain ⟨⟨_, _, -, -, f73⟩, -⟩ := hD; have f73 : vs 73 = _ := f73; generalize vs 73 = x73 at f73 ⊢; subst x73; replace hL := hL.call hE hM hV
                      exact sPu
                    · intro vs W1 m1 hE hM hV hD; obtain ⟨⟨_, _, -, -, f74⟩, -⟩ := hD; have f74 : vs 74 = _ := f74; generalize vs 74 = x74 at f74 ⊢; subst x74; replace hL := hL.call hE hM hV
                      exact sPu
                    · intro vs W1 m1 hE hM hV hD; obtain ⟨⟨_, _, -, -, f74⟩, -⟩ := hD; have f74 : vs 74 = _ := f74; generalize vs 74 = x74 at f74 ⊢; subst x74; replace hL := hL.call hE hM hV
                      exact sPu
                    · intro vs W1 m1 hE hM hV hD; obtain ⟨⟨_, _, -, -, f74⟩, -⟩ := hD; have f74 : vs 74 = _ := f74; generalize vs 74 = x74 at f74 ⊢; subst x74; replace hL := hL.call hE hM hV
                      exact sPu
                    · intro vs W1 m1 hE hM hV hD; obtain ⟨⟨_, _, -, -, f76⟩, ⟨_, _, -, -, f77⟩, ⟨_, _, -, -, f74⟩, -⟩ := hD; have f76 : vs 76 = _ := f76; generalize vs 76 = x76 at f76 ⊢; subst x76; have f77 : vs 77 = _ := f77; generalize vs 77 = x77 at f77 ⊢; subst x77; have f74 : vs 74 = _ := f74; generalize vs 74 = x74 at f74 ⊢; subst x74; replace hL := hL.call hE hM hV
                      exact sIx
                    · intro vs W1 m1 hE hM hV hD; obtain ⟨⟨_, _, -, -, f78⟩, ⟨_, _, -, -, f74⟩, -⟩ := hD; have f78 : vs 78 = _ := f78; generalize vs 78 = x78 at f78 ⊢; subst x78; have f74 : vs 74 = _ := f74; generalize vs 74 = x74 at f74 ⊢; subst x74; replace hL := hL.call hE hM hV
                      exact sLd
                    · intro vs W1 m1 hE hM hV hD; obtain ⟨⟨_, _, -, -, f75⟩, ⟨_, _, -, -, f79⟩, ⟨_, _, -, -, f74⟩, -, -⟩ := hD; have f75 : vs 75 = _ := f75; generalize vs 75 = x75 at f75 ⊢; subst x75; have f79 : vs 79 = _ := f79; generalize vs 79 = x79 at f79 ⊢; subst x79; have f74 : vs 74 = _ := f74; generalize vs 74 = x74 at f74 ⊢; subst x74
                      go_wp2_with fail
                      refine (KHB1.out _ _ hV leX).mono ?_
                      rintro e W2 ⟨v, m2, rfl, hE2, hM2, hV2, h⟩
                      go_wp2_with fail
                      refine One2.call hE2 hM2 hV2 ?_; first | exact h | exact rfl
                    · intro vs W1 m1 hE hM hV hD; obtain ⟨⟨_, _, -, -, f80⟩, -, ⟨_, _, -, -, f74⟩, -⟩ := hD; have f80 : vs 80 = _ := f80; generalize vs 80 = x80 at f80 ⊢; subst x80; have f74 : vs 74 = _ := f74; generalize vs 74 = x74 at f74 ⊢; subst x74; replace hL := hL.call hE hM hV
                      exact sPu
                    · intro vs W1 m1 hE hM hV hD; obtain ⟨⟨_, _, -, -, f81⟩, -⟩ := hD; have f81 : vs 81 = _ := f81; generalize vs 81 = x81 at f81 ⊢; subst x81; replace hL := hL.call hE hM hV
                      exact sPu
                    · intro vs W1 m1 hE hM hV hD; obtain ⟨⟨_, _, -, -, f82⟩, ⟨_, _, -, -, f81⟩, -⟩ := hD; have f82 : vs 82 = _ := f82; generalize vs 82 = x82 at f82 ⊢; subst x82; have f81 : vs 81 = _ := f81; generalize vs 81 = x81 at f81 ⊢; subst x81; replace hL := hL.call hE hM hV
                      exact sPu
                    · intro vs W1 m1 hE hM hV hD; obtain ⟨⟨_, _, -, -, f81⟩, -⟩ := hD; have f81 : vs 81 = _ := f81; generalize vs 81 = x81 at f81 ⊢; subst x81; replace hL := hL.call hE hM hV
                      exact sPu
                    · intro vs W1 m1 hE hM hV hD; obtain ⟨⟨_, _, -, -, f81⟩, -⟩ := hD; have f81 : vs 81 = _ := f81; generalize vs 81 = x81 at f81 ⊢; subst x81; replace hL := hL.call hE hM hV
                      exact sPu
                    · intro vs W1 m1 hE hM hV hD; obtain ⟨⟨_, _, -, -, f84⟩, ⟨_, _, -, -, f85⟩, ⟨_, _, -, -, f81⟩, -⟩ := hD; have f84 : vs 84 = _ := f84; generalize vs 84 = x84 at f84 ⊢; subst x84; have f85 : vs 85 = _ := f85; generalize vs 85 = x85 at f85 ⊢; subst x85; have f81 : vs 81 = _ := f81; generalize vs 81 = x81 at f81 ⊢; subst x81; replace hL := hL.call hE hM hV
                      exact sPu
                    · intro vs W1 m1 hE hM hV hD; obtain ⟨⟨_, _, -, -, f86⟩, ⟨_, _, -, -, f81⟩, -⟩ := hD; have f86 : vs 86 = _ := f86; generalize vs 86 = x86 at f86 ⊢; subst x86; have f81 : vs 81 = _ := f81; generalize vs 81 = x81 at f81 ⊢; subst x81; replace hL := hL.call hE hM hV
                      exact sPu
                    · intro vs W1 m1 hE hM hV hD; obtain ⟨⟨_, _, -, -, f83⟩, ⟨_, _, -, -, f87⟩, ⟨_, _, -, -, f81⟩, -, -⟩ := hD; have f83 : vs 83 = _ := f83; generalize vs 83 = x83 at f83 ⊢; subst x83; have f87 : vs 87 = _ := f87; generalize vs 87 = x87 at f87 ⊢; subst x87; have f81 : vs 81 = _ := f81; generalize vs 81 = x81 at f81 ⊢; subst x81; replace hL := hL.call hE hM hV
                      exact sPu
                    · intro vs W1 m1 hE hM hV hD; obtain ⟨⟨_, _, -, -, f81⟩, ⟨_, _, -, -, f88⟩, ⟨_, _, -, -, f74⟩, -⟩ := hD; have f81 : vs 81 = _ := f81; generalize vs 81 = x81 at f81 ⊢; subst x81; have f88 : vs 88 = _ := f88; generalize vs 88 = x88 at f88 ⊢; subst x88; have f74 : vs 74 = _ := f74; generalize vs 74 = x74 at f74 ⊢; subst x74; replace hL := hL.call hE hM hV
                      exact sPu
                    · intro vs W1 m1 hE hM hV hD; obtain ⟨⟨_, _, -, -, f74⟩, ⟨_, _, -, -, f89⟩, -⟩ := hD; have f74 : vs 74 = _ := f74; generalize vs 74 = x74 at f74 ⊢; subst x74; have f89 : vs 89 = _ := f89; generalize vs 89 = x89 at f89 ⊢; subst x89; replace hL := hL.call hE hM hV
                      exact sPu
                  case l17d =>
                    refine ⟨fun h => (by cases h), fun h => (by cases h), fun h => (by cases h), fun h => (by cases h), fun h => (by cases h), fun h => (by cases h), fun h => (by cases h), fun h => (by cases h), fun h => (by cases h), fun h => (by cases h), fun h => (by cases h), fun h => (by cases h), fun h => (by cases h), fun h => (by cases h), fun h => (by cases h), fun h => (by cases h), fun h => (by cases h), fun h => (by cases h), trivial⟩
                  intro vs W1 m1 hE hM hV hF hD
                  clear hD
                  obtain ⟨-, -, -, -, -, -, -, -, -, -, -, -, -, -, -, -, -, ⟨_, _, -, -, f90⟩, -⟩ := hF
                  replace hL := hL.call hE hM hV
                  have f90 : vs 90 = _ := f90
                  generalize vs 90 = x90 at f90 ⊢
                  subst x90
                  clear hE hV
                  simp only [List.drop_succ_cons, List.drop_zero]
                  go_wp2_with (first | ((with_reducible refine kAny ?_); go_skip) | (with_reducible refine stA ?_) | ((first | refine tIx ?_ | refine tFd ?_ | refine tLd ?_ | ((first | refine tSr ?_ | refine tSt ?_); clear hL; intro _ hL; simp only [splice, zq1, zq2, zq3] at hL) | (refine tAl ?_; clear hL; intro _ _ hL _)); simp only [Act.put, zq1, zq2, zq3]))
                  refine QN.mk ?_
                  go_wp2_with (first | ((with_reducible refine kAny ?_); go_skip) | (with_reducible refine stA ?_) | ((first | refine tIx ?_ | refine tFd ?_ | refine tLd ?_ | ((first | refine tSr ?_ | refine tSt ?_); clear hL; intro _ hL; simp only [splice, zq1, zq2, zq3] at hL) | (refine tAl ?_; clear hL; intro _ _ hL _)); simp only [Act.put, zq1, zq2, zq3]))
                  go_roundw
                  case rel => exact ⟨k + 1, _, by omega, by go_num, by rw [HST.out]; rfl, hL, exX⟩
                  case measure => simp [intOf] <;> omega
            · have hkl : la = k := by omega
              subst hkl
              have h9 : (la : Int) ≤ (la : Int) := Int.le_refl _
              have hoa : coefF (x.rows.take 3, 2) oa = 0 ∨ coefF (x.rows.take 3, 2) oa = 1 := HOA.out.imp id fun h => h.1
              have hob : coefF (x.rows.take 3, 2) ob = 0 ∨ coefF (x.rows.take 3, 2) ob = 1 := HOB.out.imp id fun h => h.1
              clear HOA HOB hltk hk
              rcases hoa with hca | hca <;> rcases hob with hcb | hcb
              · have KSG : Hid (∀ u m', Vw m' u → Le m1 m' → Calls Tryz.prog 45 #[.agg #[.bool gw, .slice Aw nw cw, .bool fw, .slice Bw kw dw]] u (RetV u m' fun _ r => r = .int .i64 (-1))) := by
                  show ∀ u m', _
                  exact fun u m' hV hle => KS0.out _ u m' (by rw [hcb]; decide) (by rw [hca]; decide) (by rw [hca, hcb]; rfl) hV hle
                have KCA := KCA0
                have KCB := KCB0
                rw [hca] at KCA
                rw [hcb] at KCB
                generalize comF oa ob (x.rows.take 3) la = bb at *
                clear hca hcb KCA0 KCB0 KS0 HSH
                go_upto_region 18 with ((first | ((with_reducible refine kAny ?_); go_skip) | (with_reducible refine stA ?_) | ((first | refine tIx ?_ | refine tFd ?_ | refine tLd ?_ | ((first | refine tSr ?_ | refine tSt ?_); clear hL; intro _ hL; simp only [splice, zq1, zq2, zq3] at hL) | (refine tAl ?_; clear hL; intro _ _ hL _)); simp only [Act.put, zq1, zq2, zq3])))
                refine wp_region_by2 25 [false, false, false, false, false, false, false, false, false, false, false, false, false, false, false, false, false, false, false, false, false, false, false, false, false] [false, false, false, false, false, false, false, false, false, false, false, false, false, false, false, false, false, false, false, false, false, false, false, false, false] [(fun v _ _ => v = ?c18_0a), (fun v _ _ => v = ?c18_1a), (fun v _ _ => v = ?c18_2a), (fun v _ _ => v = ?c18_3a), Is (.int .i64 (-1)), (fun v _ _ => v = ?c18_5a), (fun v _ _ => v = ?c18_6a), (fun v _ _ => v = ?c18_7a), Is (.int .i64 0), (fun v _ _ => v = ?c18_9a), (fun v _ _ => v = ?c18_10a), Is (.int .i64 0), (fun v _ _ => v = ?c18_12a), (fun v _ _ => v = ?c18_13a), (fun v _ _ => v = ?c18_14a), (fun v _ _ => v = ?c18_15a), (fun v _ _ => v = ?c18_16a), (fun v _ _ => v = ?c18_17a), Is (.int .i64 (-1)), (fun v _ _ => v = ?c18_19a), (fun v _ _ => v = ?c18_20a), (fun v _ _ => v = ?c18_21a), (fun v _ _ => v = ?c18_22a), (fun v _ _ => v = ?c18_23a), (fun v _ _ => v = ?c18_24a)] hL.vw mixed [91, 92, 93, 94, 95, 96, 97, 98, 99, 100, 101, 102, 103, 104, 105, 106, 107, 108, 109, 110, 111, 112, 113, 114, 115] _ (by kernel_rfl) (fun vs => by simp only [lay, Act.put, zq1, zq2, zq3]; rfl) (by kernel_rfl) (by decide) (by decide) ?s18a ?l18a ?r18a
                case s18a =>
                  refine ⟨?_, ?_, ?_, ?_, ?_, ?_, ?_, ?_, ?_, ?_, ?_, ?_, ?_, ?_, ?_, ?_, ?_, ?_, ?_, ?_, ?_, ?_, ?_, ?_, ?_, trivial⟩
                  · intro vs W1 m1 hE hM hV hD; clear hD; replace hL := hL.call hE hM hV
                    exact sPu
                  · intro vs W1 m1 hE hM hV hD; obtain ⟨⟨_, _, -, -, f91⟩, -⟩ := hD; have f91 : vs 91 = _ := f91; generalize vs 91 = x91 at f91 ⊢; subst x91; replace hL := hL.call hE hM hV
                    exact sPu
                  · intro vs W1 m1 hE hM hV hD; obtain ⟨⟨_, _, -, -, f92⟩, -⟩ := hD; have f92 : vs 92 = _ := f92; generalize vs 92 = x92 at f92 ⊢; subst x92; replace hL := hL.call hE hM hV
                    exact sPu
                  · intro vs W1 m1 hE hM hV hD; obtain ⟨⟨_, _, -, -, f93⟩, -⟩ := hD; have f93 : vs 93 = _ := f93; generalize vs 93 = x93 at f93 ⊢; subst x93; replace hL := hL.call hE hM hV
                    exact sLd
                  · intro vs W1 m1 hE hM hV hD; obtain ⟨⟨_, _, -, -, f94⟩, ⟨_, _, -, -, f93⟩, -, -⟩ := hD; have f94 : vs 94 = _ := f94; generalize vs 94 = x94 at f94 ⊢; subst x94; have f93 : vs 93 = _ := f93; generalize vs 93 = x93 at f93 ⊢; subst x93
                    go_wp2_with fail
                    refine (KSG.out _ _ hV leX).mono ?_
                    rintro e W2 ⟨v, m2, rfl, hE2, hM2, hV2, h⟩
                    go_wp2_with fail
                    refine One2.call hE2 hM2 hV2 ?_; first | exact h | exact rfl
                  · intro vs W1 m1 hE hM hV hD; obtain ⟨⟨_, _, -, -, f95⟩, ⟨_, _, -, -, f93⟩, -⟩ := hD; have f95 : vs 95 = _ := f95; generalize vs 95 = x95 at f95 ⊢; subst x95; have f93 : vs 93 = _ := f93; generalize vs 93 = x93 at f93 ⊢; subst x93; replace hL := hL.call hE hM hV
                    exact sPu
                  · intro vs W1 m1 hE hM hV hD; obtain ⟨⟨_, _, -, -, f93⟩, -⟩ := hD; have f93 : vs 93 = _ := f93; generalize vs 93 = x93 at f93 ⊢; subst x93; replace hL := hL.call hE hM hV
                    exact sLd
                  · intro vs W1 m1 hE hM hV hD; obtain ⟨⟨_, _, -, -, f93⟩, -⟩ := hD; have f93 : vs 93 = _ := f93; generalize vs 93 = x93 at f93 ⊢; subst x93; replace hL := hL.call hE hM hV
                    exact sPu
                  · intro vs W1 m1 hE hM hV hD; obtain ⟨⟨_, _, -, -, f97⟩, ⟨_, _, -, -, f98⟩, -, ⟨_, _, -, -, f93⟩, -⟩ := hD; have f97 : vs 97 = _ := f97; generalize vs 97 = x97 at f97 ⊢; subst x97; have f98 : vs 98 = _ := f98; generalize vs 98 = x98 at f98 ⊢; subst x98; have f93 : vs 93 = _ := f93; generalize vs 93 = x93 at f93 ⊢; subst x93
                    go_wp2_with fail
                    refine (KCA.out _ _ hV leX).mono ?_
                    rintro e W2 ⟨v, m2, rfl, hE2, hM2, hV2, h⟩
                    go_wp2_with fail
                    refine One2.call hE2 hM2 hV2 ?_; first | exact h | exact rfl
                  · intro vs W1 m1 hE hM hV hD; obtain ⟨⟨_, _, -, -, f93⟩, -⟩ := hD; have f93 : vs 93 = _ := f93; generalize vs 93 = x93 at f93 ⊢; subst x93; replace hL := hL.call hE hM hV
                    exact sLd
                  · intro vs W1 m1 hE hM hV hD; obtain ⟨⟨_, _, -, -, f93⟩, -⟩ := hD; have f93 : vs 93 = _ := f93; generalize vs 93 = x93 at f93 ⊢; subst x93; replace hL := hL.call hE hM hV
                    exact sPu
                  · intro vs W1 m1 hE hM hV hD; obtain ⟨⟨_, _, -, -, f100⟩, ⟨_, _, -, -, f101⟩, -, ⟨_, _, -, -, f93⟩, -⟩ := hD; have f100 : vs 100 = _ := f100; generalize vs 100 = x100 at f100 ⊢; subst x100; have f101 : vs 101 = _ := f101; generalize vs 101 = x101 at f101 ⊢; subst x101; have f93 : vs 93 = _ := f93; generalize vs 93 = x93 at f93 ⊢; subst x93
                    go_wp2_with fail
                    refine (KCB.out _ _ hV leX).mono ?_
                    rintro e W2 ⟨v, m2, rfl, hE2, hM2, hV2, h⟩
                    go_wp2_with fail
                    refine One2.call hE2 hM2 hV2 ?_; first | exact h | exact rfl
                  · intro vs W1 m1 hE hM hV hD; obtain ⟨⟨_, _, -, -, f99⟩, ⟨_, _, -, -, f102⟩, ⟨_, _, -, -, f93⟩, -⟩ := hD; have f99 : vs 99 = _ := f99; generalize vs 99 = x99 at f99 ⊢; subst x99; have f102 : vs 102 = _ := f102; generalize vs 102 = x102 at f102 ⊢; subst x102; have f93 : vs 93 = _ := f93; generalize vs 93 = x93 at f93 ⊢; subst x93; replace hL := hL.call hE hM hV
                    exact sPu
                  · intro vs W1 m1 hE hM hV hD; obtain ⟨⟨_, _, -, -, f103⟩, ⟨_, _, -, -, f93⟩, -⟩ := hD; have f103 : vs 103 = _ := f103; generalize vs 103 = x103 at f103 ⊢; subst x103; have f93 : vs 93 = _ := f93; generalize vs 93 = x93 at f93 ⊢; subst x93; replace hL := hL.call hE hM hV
                    exact sPu
                  · intro vs W1 m1 hE hM hV hD; obtain ⟨⟨_, _, -, -, f96⟩, ⟨_, _, -, -, f104⟩, ⟨_, _, -, -, f93⟩, -⟩ := hD; have f96 : vs 96 = _ := f96; generalize vs 96 = x96 at f96 ⊢; subst x96; have f104 : vs 104 = _ := f104; generalize vs 104 = x104 at f104 ⊢; subst x104; have f93 : vs 93 = _ := f93; generalize vs 93 = x93 at f93 ⊢; subst x93; replace hL := hL.call hE hM hV
                    exact sPu
                  · intro vs W1 m1 hE hM hV hD; obtain ⟨⟨_, _, -, -, f93⟩, ⟨_, _, -, -, f105⟩, -⟩ := hD; have f93 : vs 93 = _ := f93; generalize vs 93 = x93 at f93 ⊢; subst x93; have f105 : vs 105 = _ := f105; generalize vs 105 = x105 at f105 ⊢; subst x105; replace hL := hL.call hE hM hV
                    exact sPu
                  · intro vs W1 m1 hE hM hV hD; obtain ⟨⟨_, _, -, -, f106⟩, -, -⟩ := hD; have f106 : vs 106 = _ := f106; generalize vs 106 = x106 at f106 ⊢; subst x106; replace hL := hL.call hE hM hV
                    exact sPu
                  · intro vs W1 m1 hE hM hV hD; obtain ⟨⟨_, _, -, -, f107⟩, -⟩ := hD; have f107 : vs 107 = _ := f107; generalize vs 107 = x107 at f107 ⊢; subst x107; replace hL := hL.call hE hM hV
                    exact sLd
                  · intro vs W1 m1 hE hM hV hD; obtain ⟨⟨_, _, -, -, f108⟩, ⟨_, _, -, -, f107⟩, -, -⟩ := hD; have f108 : vs 108 = _ := f108; generalize vs 108 = x108 at f108 ⊢; subst x108; have f107 : vs 107 = _ := f107; generalize vs 107 = x107 at f107 ⊢; subst x107
                    go_wp2_with fail
                    refine (KSG.out _ _ hV leX).mono ?_
                    rintro e W2 ⟨v, m2, rfl, hE2, hM2, hV2, h⟩
                    go_wp2_with fail
                    refine One2.call hE2 hM2 hV2 ?_; first | exact h | exact rfl
                  · intro vs W1 m1 hE hM hV hD; obtain ⟨⟨_, _, -, -, f109⟩, ⟨_, _, -, -, f107⟩, -⟩ := hD; have f109 : vs 109 = _ := f109; generalize vs 109 = x109 at f109 ⊢; subst x109; have f107 : vs 107 = _ := f107; generalize vs 107 = x107 at f107 ⊢; subst x107; replace hL := hL.call hE hM hV
                    exact sPu
                  · intro vs W1 m1 hE hM hV hD; obtain ⟨⟨_, _, -, -, f110⟩, -, ⟨_, _, -, -, f107⟩, -⟩ := hD; have f110 : vs 110 = _ := f110; generalize vs 110 = x110 at f110 ⊢; subst x110; have f107 : vs 107 = _ := f107; generalize vs 107 = x107 at f107 ⊢; subst x107; replace hL := hL.call hE hM hV
                    exact sPu
                  · intro vs W1 m1 hE hM hV hD; obtain ⟨⟨_, _, -, -, f111⟩, -⟩ := hD; have f111 : vs 111 = _ := f111; generalize vs 111 = x111 at f111 ⊢; subst x111; replace hL := hL.call hE hM hV
                    exact sPu
                  · intro vs W1 m1 hE hM hV hD; obtain ⟨⟨_, _, -, -, f112⟩, ⟨_, _, -, -, f111⟩, -⟩ := hD; have f112 : vs 112 = _ := f112; generalize vs 112 = x112 at f112 ⊢; subst x112; have f111 : vs 111 = _ := f111; generalize vs 111 = x111 at f111 ⊢; subst x111; replace hL := hL.call hE hM hV
                    exact sPu
                  · intro vs W1 m1 hE hM hV hD; obtain ⟨⟨_, _, -, -, f111⟩, ⟨_, _, -, -, f113⟩, ⟨_, _, -, -, f107⟩, -⟩ := hD; have f111 : vs 111 = _ := f111; generalize vs 111 = x111 at f111 ⊢; subst x111; have f113 : vs 113 = _ := f113; generalize vs 113 = x113 at f113 ⊢; subst x113; have f107 : vs 107 = _ := f107; generalize vs 107 = x107 at f107 ⊢; subst x107; replace hL := hL.call hE hM hV
                    exact sPu
                  · intro vs W1 m1 hE hM hV hD; obtain ⟨⟨_, _, -, -, f107⟩, ⟨_, _, -, -, f114⟩, -⟩ := hD; have f107 : vs 107 = _ := f107; generalize vs 107 = x107 at f107 ⊢; subst x107; have f114 : vs 114 = _ := f114; generalize vs 114 = x114 at f114 ⊢; subst x114; replace hL := hL.call hE hM hV
                    exact sPu
                case l18a =>
                  refine ⟨fun h => (by cases h), fun h => (by cases h), fun h => (by cases h), fun h => (by cases h), fun h => (by cases h), fun h => (by cases h), fun h => (by cases h), fun h => (by cases h), fun h => (by cases h), fun h => (by cases h), fun h => (by cases h), fun h => (by cases h), fun h => (by cases h), fun h => (by cases h), fun h => (by cases h), fun h => (by cases h), fun h => (by cases h), fun h => (by cases h), fun h => (by cases h), fun h => (by cases h), fun h => (by cases h), fun h => (by cases h), fun h => (by cases h), fun h => (by cases h), fun h => (by cases h), trivial⟩
                intro vs W1 m1 hE hM hV hF hD
                clear hD
                obtain ⟨⟨_, _, -, -, f91⟩, ⟨_, _, -, -, f92⟩, ⟨_, _, -, -, f93⟩, ⟨_, _, -, -, f94⟩, ⟨_, _, -, -, f95⟩, ⟨_, _, -, -, f96⟩, ⟨_, _, -, -, f97⟩, ⟨_, _, -, -, f98⟩, ⟨_, _, -, -, f99⟩, ⟨_, _, -, -, f100⟩, ⟨_, _, -, -, f101⟩, ⟨_, _, -, -, f102⟩, ⟨_, _, -, -, f103⟩, ⟨_, _, -, -, f104⟩, ⟨_, _, -, -, f105⟩, ⟨_, _, -, -, f106⟩, ⟨_, _, -, -, f107⟩, ⟨_, _, -, -, f108⟩, ⟨_, _, -, -, f109⟩, ⟨_, _, -, -, f110⟩, ⟨_, _, -, -, f111⟩, ⟨_, _, -, -, f112⟩, ⟨_, _, -, -, f113⟩, ⟨_, _, -, -, f114⟩, ⟨_, _, -, -, f115⟩, -⟩ := hF
                replace hL := hL.call hE hM hV
                have f91 : vs 91 = _ := f91
                generalize vs 91 = x91 at f91 ⊢
                subst x91
                have f92 : vs 92 = _ := f92
                generalize vs 92 = x92 at f92 ⊢
                subst x92
                have f93 : vs 93 = _ := f93
                generalize vs 93 = x93 at f93 ⊢
                subst x93
                have f94 : vs 94 = _ := f94
                generalize vs 94 = x94 at f94 ⊢
                subst x94
                have f95 : vs 95 = _ := f95
                generalize vs 95 = x95 at f95 ⊢
                subst x95
                have f96 : vs 96 = _ := f96
                generalize vs 96 = x96 at f96 ⊢
                subst x96
                have f97 : vs 97 = _ := f97
                generalize vs 97 = x97 at f97 ⊢
                subst x97
                have f98 : vs 98 = _ := f98
                generalize vs 98 = x98 at f98 ⊢
                subst x98
                have f99 : vs 99 = _ := f99
                generalize vs 99 = x99 at f99 ⊢
                subst x99
                have f100 : vs 100 = _ := f100
                generalize vs 100 = x100 at f100 ⊢
                subst x100
                have f101 : vs 101 = _ := f101
                generalize vs 101 = x101 at f101 ⊢
                subst x101
                have f102 : vs 102 = _ := f102
                generalize vs 102 = x102 at f102 ⊢
                subst x102
                have f103 : vs 103 = _ := f103
                generalize vs 103 = x103 at f103 ⊢
                subst x103
                have f104 : vs 104 = _ := f104
                generalize vs 104 = x104 at f104 ⊢
                subst x104
                have f105 : vs 105 = _ := f105
                generalize vs 105 = x105 at f105 ⊢
                subst x105
                have f106 : vs 106 = _ := f106
                generalize vs 106 = x106 at f106 ⊢
                subst x106
                have f107 : vs 107 = _ := f107
                generalize vs 107 = x107 at f107 ⊢
                subst x107
                have f108 : vs 108 = _ := f108
                generalize vs 108 = x108 at f108 ⊢
                subst x108
                have f109 : vs 109 = _ := f109
                generalize vs 109 = x109 at f109 ⊢
                subst x109
                have f110 : vs 110 = _ := f110
                generalize vs 110 = x110 at f110 ⊢
                subst x110
                have f111 : vs 111 = _ := f111
                generalize vs 111 = x111 at f111 ⊢
                subst x111
                have f112 : vs 112 = _ := f112
                generalize vs 112 = x112 at f112 ⊢
                subst x112
                have f113 : vs 113 = _ := f113
                generalize vs 113 = x113 at f113 ⊢
                subst x113
                have f114 : vs 114 = _ := f114
                generalize vs 114 = x114 at f114 ⊢
                subst x114
                have f115 : vs 115 = _ := f115
                generalize vs 115 = x115 at f115 ⊢
                subst x115
                clear hE hV
                simp only [List.drop_succ_cons, List.drop_zero]
                go_wp2_with (first | ((with_reducible refine kAny ?_); go_skip) | (with_reducible refine stA ?_) | ((first | refine tIx ?_ | refine tFd ?_ | refine tLd ?_ | ((first | refine tSr ?_ | refine tSt ?_); clear hL; intro _ hL; simp only [splice, zq1, zq2, zq3] at hL) | (refine tAl ?_; clear hL; intro _ _ hL _)); simp only [Act.put, zq1, zq2, zq3]))
                refine QN.mk ?_
                go_wp2_with (first | ((with_reducible refine kAny ?_); go_skip) | (with_reducible refine stA ?_) | ((first | refine tIx ?_ | refine tFd ?_ | refine tLd ?_ | ((first | refine tSr ?_ | refine tSt ?_); clear hL; intro _ hL; simp only [splice, zq1, zq2, zq3] at hL) | (refine tAl ?_; clear hL; intro _ _ hL _)); simp only [Act.put, zq1, zq2, zq3]))
                go_roundw
                case rel => exact ⟨j + 1, _, by omega, by go_num, (HLK.out.join hL).sub (List.nil_sublist _), exX⟩
                case measure => simp [intOf] <;> omega
              · have KSG : Hid (∀ u m', Vw m' u → Le m1 m' → Calls Tryz.prog 45 #[.agg #[.bool gw, .slice Aw nw cw, .bool fw, .slice Bw kw dw]] u (RetV u m' fun _ r => r = .int .i64 (0))) := by
                  show ∀ u m', _
                  exact fun u m' hV hle => KS0.out _ u m' (by rw [hcb]; decide) (by rw [hca]; decide) (by rw [hca, hcb]; rfl) hV hle
                have KCA := KCA0
                have KCB := KCB0
                rw [hca] at KCA
                rw [hcb] at KCB
                generalize comF oa ob (x.rows.take 3) la = bb at *
                clear hca hcb KCA0 KCB0 KS0 HSH
                go_upto_region 18 with ((first | ((with_reducible refine kAny ?_); go_skip) | (with_reducible refine stA ?_) | ((first | refine tIx ?_ | refine tFd ?_ | refine tLd ?_ | ((first | refine tSr ?_ | refine tSt ?_); clear hL; intro _ hL; simp only [splice, zq1, zq2, zq3] at hL) | (refine tAl ?_; clear hL; intro _ _ hL _)); simp only [Act.put, zq1, zq2, zq3])))
                refine wp_region_by2 25 [false, false, false, false, false, false, false, false, false, false, false, false, false, false, false, false, false, false, false, false, false, false, false, false, false] [false, false, false, false, false, false, false, false, false, false, false, false, false, false, false, false, false, false, false, false, false, false, false, false, false] [(fun v _ _ => v = ?c18_0b), (fun v _ _ => v = ?c18_1b), (fun v _ _ => v = ?c18_2b), (fun v _ _ => v = ?c18_3b), Is (.int .i64 (0)), (fun v _ _ => v = ?c18_5b), (fun v _ _ => v = ?c18_6b), (fun v _ _ => v = ?c18_7b), Is (.int .i64 0), (fun v _ _ => v = ?c18_9b), (fun v _ _ => v = ?c18_10b), Is (.int .i64 1), (fun v _ _ => v = ?c18_12b), (fun v _ _ => v = ?c18_13b), (fun v _ _ => v = ?c18_14b), (fun v _ _ => v = ?c18_15b), (fun v _ _ => v = ?c18_16b), (fun v _ _ => v = ?c18_17b), Is (.int .i64 (0)), (fun v _ _ => v = ?c18_19b), (fun v _ _ => v = ?c18_20b), (fun v _ _ => v = ?c18_21b), (fun v _ _ => v = ?c18_22b), (fun v _ _ => v = ?c18_23b), (fun v _ _ => v = ?c18_24b)] hL.vw mixed [91, 92, 93, 94, 95, 96, 97, 98, 99, 100, 101, 102, 103, 104, 105, 106, 107, 108, 109, 110, 111, 112, 113, 114, 115] _ (by kernel_rfl) (fun vs => by simp only [lay, Act.put, zq1, zq2, zq3]; rfl) (by kernel_rfl) (by decide) (by decide) ?s18b ?l18b ?r18b
                case s18b =>
                  refine ⟨?_, ?_, ?_, ?_, ?_, ?_, ?_, ?_, ?_, ?_, ?_, ?_, ?_, ?_, ?_, ?_, ?_, ?_, ?_, ?_, ?_, ?_, ?_, ?_, ?_, trivial⟩
                  · intro vs W1 m1 hE hM hV hD; clear hD; replace hL := hL.call hE hM hV
                    exact sPu
                  · intro vs W1 m1 hE hM hV hD; obtain ⟨⟨_, _, -, -, f91⟩, -⟩ := hD; have f91 : vs 91 = _ := f91; generalize vs 91 = x91 at f91 ⊢; subst x91; replace hL := hL.call hE hM hV
                    exact sPu
                  · intro vs W1 m1 hE hM hV hD; obtain ⟨⟨_, _, -, -, f92⟩, -⟩ := hD; have f92 : vs 92 = _ := f92; generalize vs 92 = x92 at f92 ⊢; subst x92; replace hL := hL.call hE hM hV
                    exact sPu
                  · intro vs W1 m1 hE hM hV hD; obtain ⟨⟨_, _, -, -, f93⟩, -⟩ := hD; have f93 : vs 93 = _ := f93; generalize vs 93 = x93 at f93 ⊢; subst x93; replace hL := hL.call hE hM hV
                    exact sLd
                  · intro vs W1 m1 hE hM hV hD; obtain ⟨⟨_, _, -, -, f94⟩, ⟨_, _, -, -, f93⟩, -, -⟩ := hD; have f94 : vs 94 = _ := f94; generalize vs 94 = x94 at f94 ⊢; subst x94; have f93 : vs 93 = _ := f93; generalize vs 93 = x93 at f93 ⊢; subst x93
                    go_wp2_with fail
                    refine (KSG.out _ _ hV leX).mono ?_
                    rintro e W2 ⟨v, m2, rfl, hE2, hM2, hV2, h⟩
                    go_wp2_with fail
                    refine One2.call hE2 hM2 hV2 ?_; first | exact h | exact rfl
                  · intro vs W1 m1 hE hM hV hD; obtain ⟨⟨_, _, -, -, f95⟩, ⟨_, _, -, -, f93⟩, -⟩ := hD; have f95 : vs 95 = _ := f95; generalize vs 95 = x95 at f95 ⊢; subst x95; have f93 : vs 93 = _ := f93; generalize vs 93 = x93 at f93 ⊢; subst x93; replace hL := hL.call hE hM hV
                    exact sPu
                  · intro vs W1 m1 hE hM hV hD; obtain ⟨⟨_, _, -, -, f93⟩, -⟩ := hD; have f93 : vs 93 = _ := f93; generalize vs 93 = x93 at f93 ⊢; subst x93; replace hL := hL.call hE hM hV
                    exact sLd
                  · intro vs W1 m1 hE hM hV hD; obtain ⟨⟨_, _, -, -, f93⟩, -⟩ := hD; have f93 : vs 93 = _ := f93; generalize vs 93 = x93 at f93 ⊢; subst x93; replace hL := hL.call hE hM hV
                    exact sPu
                  · intro vs W1 m1 hE hM hV hD; obtain ⟨⟨_, _, -, -, f97⟩, ⟨_, _, -, -, f98⟩, -, ⟨_, _, -, -, f93⟩, -⟩ := hD; have f97 : vs 97 = _ := f97; generalize vs 97 = x97 at f97 ⊢; subst x97; have f98 : vs 98 = _ := f98; generalize vs 98 = x98 at f98 ⊢; subst x98; have f93 : vs 93 = _ := f93; generalize vs 93 = x93 at f93 ⊢; subst x93
                    go_wp2_with fail
                    refine (KCA.out _ _ hV leX).mono ?_
                    rintro e W2 ⟨v, m2, rfl, hE2, hM2, hV2, h⟩
                    go_wp2_with fail
                    refine One2.call hE2 hM2 hV2 ?_; first | exact h | exact rfl
                  · intro vs W1 m1 hE hM hV hD; obtain ⟨⟨_, _, -, -, f93⟩, -⟩ := hD; have f93 : vs 93 = _ := f93; generalize vs 93 = x93 at f93 ⊢; subst x93; replace hL := hL.call hE hM hV
                    exact sLd
                  · intro vs W1 m1 hE hM hV hD; obtain ⟨⟨_, _, -, -, f93⟩, -⟩ := hD; have f93 : vs 93 = _ := f93; generalize vs 93 = x93 at f93 ⊢; subst x93; replace hL := hL.call hE hM hV
                    exact sPu
                  · intro vs W1 m1 hE hM hV hD; obtain ⟨⟨_, _, -, -, f100⟩, ⟨_, _, -, -, f101⟩, -, ⟨_, _, -, -, f93⟩, -⟩ := hD; have f100 : vs 100 = _ := f100; generalize vs 100 = x100 at f100 ⊢; subst x100; have f101 : vs 101 = _ := f101; generalize vs 101 = x101 at f101 ⊢; subst x101; have f93 : vs 93 = _ := f93; generalize vs 93 = x93 at f93 ⊢; subst x93
                    go_wp2_with fail
                    refine (KCB.out _ _ hV leX).mono ?_
                    rintro e W2 ⟨v, m2, rfl, hE2, hM2, hV2, h⟩
                    go_wp2_with fail
                    refine One2.call hE2 hM2 hV2 ?_; first | exact h | exact rfl
                  · intro vs W1 m1 hE hM hV hD; obtain ⟨⟨_, _, -, -, f99⟩, ⟨_, _, -, -, f102⟩, ⟨_, _, -, -, f93⟩, -⟩ := hD; have f99 : vs 99 = _ := f99; generalize vs 99 = x99 at f99 ⊢; subst x99; have f102 : vs 102 = _ := f102; generalize vs 102 = x102 at f102 ⊢; subst x102; have f93 : vs 93 = _ := f93; generalize vs 93 = x93 at f93 ⊢; subst x93; replace hL := hL.call hE hM hV
                    exact sPu
                  · intro vs W1 m1 hE hM hV hD; obtain ⟨⟨_, _, -, -, f103⟩, ⟨_, _, -, -, f93⟩, -⟩ := hD; have f103 : vs 103 = _ := f103; generalize vs 103 = x103 at f103 ⊢; subst x103; have f93 : vs 93 = _ := f93; generalize vs 93 = x93 at f93 ⊢; subst x93; replace hL := hL.call hE hM hV
                    exact sPu
                  · intro vs W1 m1 hE hM hV hD; obtain ⟨⟨_, _, -, -, f96⟩, ⟨_, _, -, -, f104⟩, ⟨_, _, -, -, f93⟩, -⟩ := hD; have f96 : vs 96 = _ := f96; generalize vs 96 = x96 at f96 ⊢; subst x96; have f104 : vs 104 = _ := f104; generalize vs 104 = x104 at f104 ⊢; subst x104; have f93 : vs 93 = _ := f93; generalize vs 93 = x93 at f93 ⊢; subst x93; replace hL := hL.call hE hM hV
                    exact sPu
                  · intro vs W1 m1 hE hM hV hD; obtain ⟨⟨_, _, -, -, f93⟩, ⟨_, _, -, -, f105⟩, -⟩ := hD; have f93 : vs 93 = _ := f93; generalize vs 93 = x93 at f93 ⊢; subst x93; have f105 : vs 105 = _ := f105; generalize vs 105 = x105 at f105 ⊢; subst x105; replace hL := hL.call hE hM hV
                    exact sPu
                  · intro vs W1 m1 hE hM hV hD; obtain ⟨⟨_, _, -, -, f106⟩, -, -⟩ := hD; have f106 : vs 106 = _ := f106; generalize vs 106 = x106 at f106 ⊢; subst x106; replace hL := hL.call hE hM hV
                    exact sPu
                  · intro vs W1 m1 hE hM hV hD; obtain ⟨⟨_, _, -, -, f107⟩, -⟩ := hD; have f107 : vs 107 = _ := f107; generalize vs 107 = x107 at f107 ⊢; subst x107; replace hL := hL.call hE hM hV
                    exact sLd
                  · intro vs W1 m1 hE hM hV hD; obtain ⟨⟨_, _, -, -, f108⟩, ⟨_, _, -, -, f107⟩, -, -⟩ := hD; have f108 : vs 108 = _ := f108; generalize vs 108 = x108 at f108 ⊢; subst x108; have f107 : vs 107 = _ := f107; generalize vs 107 = x107 at f107 ⊢; subst x107
                    go_wp2_with fail
                    refine (KSG.out _ _ hV leX).mono ?_
                    rintro e W2 ⟨v, m2, rfl, hE2, hM2, hV2, h⟩
                    go_wp2_with fail
                    refine One2.call hE2 hM2 hV2 ?_; first | exact h | exact rfl
                  · intro vs W1 m1 hE hM hV hD; obtain ⟨⟨_, _, -, -, f109⟩, ⟨_, _, -, -, f107⟩, -⟩ := hD; have f109 : vs 109 = _ := f109; generalize vs 109 = x109 at f109 ⊢; subst x109; have f107 : vs 107 = _ := f107; generalize vs 107 = x107 at f107 ⊢; subst x107; replace hL := hL.call hE hM hV
                    exact sPu
                  · intro vs W1 m1 hE hM hV hD; obtain ⟨⟨_, _, -, -, f110⟩, -, ⟨_, _, -, -, f107⟩, -⟩ := hD; have f110 : vs 110 = _ := f110; generalize vs 110 = x110 at f110 ⊢; subst x110; have f107 : vs 107 = _ := f107; generalize vs 107 = x107 at f107 ⊢; subst x107; replace hL := hL.call hE hM hV
                    exact sPu
                  · intro vs W1 m1 hE hM hV hD; obtain ⟨⟨_, _, -, -, f111⟩, -⟩ := hD; have f111 : vs 111 = _ := f111; generalize vs 111 = x111 at f111 ⊢; subst x111; replace hL := hL.call hE hM hV
                    exact sPu
                  · intro vs W1 m1 hE hM hV hD; obtain ⟨⟨_, _, -, -, f112⟩, ⟨_, _, -, -, f111⟩, -⟩ := hD; have f112 : vs 112 = _ := f112; generalize vs 112 = x112 at f112 ⊢; subst x112; have f111 : vs 111 = _ := f111; generalize vs 111 = x111 at f111 ⊢; subst x111; replace hL := hL.call hE hM hV
                    exact sPu
                  · intro vs W1 m1 hE hM hV hD; obtain ⟨⟨_, _, -, -, f111⟩, ⟨_, _, -, -, f113⟩, ⟨_, _, -, -, f107⟩, -⟩ := hD; have f111 : vs 111 = _ := f111; generalize vs 111 = x111 at f111 ⊢; subst x111; have f113 : vs 113 = _ := f113; generalize vs 113 = x113 at f113 ⊢; subst x113; have f107 : vs 107 = _ := f107; generalize vs 107 = x107 at f107 ⊢; subst x107; replace hL := hL.call hE hM hV
                    exact sPu
                  · intro vs W1 m1 hE hM hV hD; obtain ⟨⟨_, _, -, -, f107⟩, ⟨_, _, -, -, f114⟩, -⟩ := hD; have f107 : vs 107 = _ := f107; generalize vs 107 = x107 at f107 ⊢; subst x107; have f114 : vs 114 = _ := f114; generalize vs 114 = x114 at f114 ⊢; subst x114; replace hL := hL.call hE hM hV
                    exact sPu
                case l18b =>
                  refine ⟨fun h => (by cases h), fun h => (by cases h), fun h => (by cases h), fun h => (by cases h), fun h => (by cases h), fun h => (by cases h), fun h => (by cases h), fun h => (by cases h), fun h => (by cases h), fun h => (by cases h), fun h => (by cases h), fun h => (by cases h), fun h => (by cases h), fun h => (by cases h), fun h => (by cases h), fun h => (by cases h), fun h => (by cases h), fun h => (by cases h), fun h => (by cases h), fun h => (by cases h), fun h => (by cases h), fun h => (by cases h), fun h => (by cases h), fun h => (by cases h), fun h => (by cases h), trivial⟩
                intro vs W1 m1 hE hM hV hF hD
                clear hD
                obtain ⟨⟨_, _, -, -, f91⟩, ⟨_, _, -, -, f92⟩, ⟨_, _, -, -, f93⟩, ⟨_, _, -, -, f94⟩, ⟨_, _, -, -, f95⟩, ⟨_, _, -, -, f96⟩, ⟨_, _, -, -, f97⟩, ⟨_, _, -, -, f98⟩, ⟨_, _, -, -, f99⟩, ⟨_, _, -, -, f100⟩, ⟨_, _, -, -, f101⟩, ⟨_, _, -, -, f102⟩, ⟨_, _, -, -, f103⟩, ⟨_, _, -, -, f104⟩, ⟨_, _, -, -, f105⟩, ⟨_, _, -, -, f106⟩, ⟨_, _, -, -, f107⟩, ⟨_, _, -, -, f108⟩, ⟨_, _, -, -, f109⟩, ⟨_, _, -, -, f110⟩, ⟨_, _, -, -, f111⟩, ⟨_, _, -, -, f112⟩, ⟨_, _, -, -, f113⟩, ⟨_, _, -, -, f114⟩, ⟨_, _, -, -, f115⟩, -⟩ := hF
                replace hL := hL.call hE hM hV
                have f91 : vs 91 = _ := f91
                generalize vs 91 = x91 at f91 ⊢
                subst x91
                have f92 : vs 92 = _ := f92
                generalize vs 92 = x92 at f92 ⊢
                subst x92
                have f93 : vs 93 = _ := f93
                generalize vs 93 = x93 at f93 ⊢
                subst x93
                have f94 : vs 94 = _ := f94
                generalize vs 94 = x94 at f94 ⊢
                subst x94
                have f95 : vs 95 = _ := f95
                generalize vs 95 = x95 at f95 ⊢
                subst x95
                have f96 : vs 96 = _ := f96
                generalize vs 96 = x96 at f96 ⊢
                subst x96
                have f97 : vs 97 = _ := f97
                generalize vs 97 = x97 at f97 ⊢
                subst x97
                have f98 : vs 98 = _ := f98
                generalize vs 98 = x98 at f98 ⊢
                subst x98
                have f99 : vs 99 = _ := f99
                generalize vs 99 = x99 at f99 ⊢
                subst x99
                have f100 : vs 100 = _ := f100
                generalize vs 100 = x100 at f100 ⊢
                subst x100
                have f101 : vs 101 = _ := f101
                generalize vs 101 = x101 at f101 ⊢
                subst x101
                have f102 : vs 102 = _ := f102
                generalize vs 102 = x102 at f102 ⊢
                subst x102
                have f103 : vs 103 = _ := f103
                generalize vs 103 = x103 at f103 ⊢
                subst x103
                have f104 : vs 104 = _ := f104
                generalize vs 104 = x104 at f104 ⊢
                subst x104
                have f105 : vs 105 = _ := f105
                generalize vs 105 = x105 at f105 ⊢
                subst x105
                have f106 : vs 106 = _ := f106
                generalize vs 106 = x106 at f106 ⊢
                subst x106
                have f107 : vs 107 = _ := f107
                generalize vs 107 = x107 at f107 ⊢
                subst x107
                have f108 : vs 108 = _ := f108
                generalize vs 108 = x108 at f108 ⊢
                subst x108
                have f109 : vs 109 = _ := f109
                generalize vs 109 = x109 at f109 ⊢
                subst x109
                have f110 : vs 110 = _ := f110
                generalize vs 110 = x110 at f110 ⊢
                subst x110
                have f111 : vs 111 = _ := f111
                generalize vs 111 = x111 at f111 ⊢
                subst x111
                have f112 : vs 112 = _ := f112
                generalize vs 112 = x112 at f112 ⊢
                subst x112
                have f113 : vs 113 = _ := f113
                generalize vs 113 = x113 at f113 ⊢
                subst x113
                have f114 : vs 114 = _ := f114
                generalize vs 114 = x114 at f114 ⊢
                subst x114
                have f115 : vs 115 = _ := f115
                generalize vs 115 = x115 at f115 ⊢
                subst x115
                clear hE hV
                simp only [List.drop_succ_cons, List.drop_zero]
                go_wp2_with (first | ((with_reducible refine kAny ?_); go_skip) | (with_reducible refine stA ?_) | ((first | refine tIx ?_ | refine tFd ?_ | refine tLd ?_ | ((first | refine tSr ?_ | refine tSt ?_); clear hL; intro _ hL; simp only [splice, zq1, zq2, zq3] at hL) | (refine tAl ?_; clear hL; intro _ _ hL _)); simp only [Act.put, zq1, zq2, zq3]))
                refine QN.mk ?_
                go_wp2_with (first | ((with_reducible refine kAny ?_); go_skip) | (with_reducible refine stA ?_) | ((first | refine tIx ?_ | refine tFd ?_ | refine tLd ?_ | ((first | refine tSr ?_ | refine tSt ?_); clear hL; intro _ hL; simp only [splice, zq1, zq2, zq3] at hL) | (refine tAl ?_; clear hL; intro _ _ hL _)); simp only [Act.put, zq1, zq2, zq3]))
                go_roundw
                case rel => exact ⟨j + 1, _, by omega, by go_num, (HLK.out.join hL).sub (List.nil_sublist _), exX⟩
                case measure => simp [intOf] <;> omega
              · have KSG : Hid (∀ u m', Vw m' u → Le m1 m' → Calls Tryz.prog 45 #[.agg #[.bool gw, .slice Aw nw cw, .bool fw, .slice Bw kw dw]] u (RetV u m' fun _ r => r = .int .i64 (0))) := by
                  show ∀ u m', _
                  exact fun u m' hV hle => KS0.out _ u m' (by rw [hcb]; decide) (by rw [hca]; decide) (by rw [hca, hcb]; rfl) hV hle
                have KCA := KCA0
                have KCB := KCB0
                rw [hca] at KCA
                rw [hcb] at KCB
                generalize comF oa ob (x.rows.take 3) la = bb at *
                clear hca hcb KCA0 KCB0 KS0 HSH
                go_upto_region 18 with ((first | ((with_reducible refine kAny ?_); go_skip) | (with_reducible refine stA ?_) | ((first | refine tIx ?_ | refine tFd ?_ | refine tLd ?_ | ((first | refine tSr ?_ | refine tSt ?_); clear hL; intro _ hL; simp only [splice, zq1, zq2, zq3] at hL) | (refine tAl ?_; clear hL; intro _ _ hL _)); simp only [Act.put, zq1, zq2, zq3])))
                refine wp_region_by2 25 [false, false, false, false, false, false, false, false, false, false, false, false, false, false, false, false, false, false, false, false, false, false, false, false, false] [false, false, false, false, false, false, false, false, false, false, false, false, false, false, false, false, false, false, false, false, false, false, false, false, false] [(fun v _ _ => v = ?c18_0c), (fun v _ _ => v = ?c18_1c), (fun v _ _ => v = ?c18_2c), (fun v _ _ => v = ?c18_3c), Is (.int .i64 (0)), (fun v _ _ => v = ?c18_5c), (fun v _ _ => v = ?c18_6c), (fun v _ _ => v = ?c18_7c), Is (.int .i64 1), (fun v _ _ => v = ?c18_9c), (fun v _ _ => v = ?c18_10c), Is (.int .i64 0), (fun v _ _ => v = ?c18_12c), (fun v _ _ => v = ?c18_13c), (fun v _ _ => v = ?c18_14c), (fun v _ _ => v = ?c18_15c), (fun v _ _ => v = ?c18_16c), (fun v _ _ => v = ?c18_17c), Is (.int .i64 (0)), (fun v _ _ => v = ?c18_19c), (fun v _ _ => v = ?c18_20c), (fun v _ _ => v = ?c18_21c), (fun v _ _ => v = ?c18_22c), (fun v _ _ => v = ?c18_23c), (fun v _ _ => v = ?c18_24c)] hL.vw mixed [91, 92, 93, 94, 95, 96, 97, 98, 99, 100, 101, 102, 103, 104, 105, 106, 107, 108, 109, 110, 111, 112, 113, 114, 115] _ (by kernel_rfl) (fun vs => by simp only [lay, Act.put, zq1, zq2, zq3]; rfl) (by kernel_rfl) (by decide) (by decide) ?s18c ?l18c ?r18c
                case s18c =>
                  refine ⟨?_, ?_, ?_, ?_, ?_, ?_, ?_, ?_, ?_, ?_, ?_, ?_, ?_, ?_, ?_, ?_, ?_, ?_, ?_, ?_, ?_, ?_, ?_, ?_, ?_, trivial⟩
                  · intro vs W1 m1 hE hM hV hD; clear hD; replace hL := hL.call hE hM hV
                    exact sPu
                  · intro vs W1 m1 hE hM hV hD; obtain ⟨⟨_, _, -, -, f91⟩, -⟩ := hD; have f91 : vs 91 = _ := f91; generalize vs 91 = x91 at f91 ⊢; subst x91; replace hL := hL.call hE hM hV
                    exact sPu
                  · intro vs W1 m1 hE hM hV hD; obtain ⟨⟨_, _, -, -, f92⟩, -⟩ := hD; have f92 : vs 92 = _ := f92; generalize vs 92 = x92 at f92 ⊢; subst x92; replace hL := hL.call hE hM hV
                    exact sPu
                  · intro vs W1 m1 hE hM hV hD; obtain ⟨⟨_, _, -, -, f93⟩, -⟩ := hD; have f93 : vs 93 = _ := f93; generalize vs 93 = x93 at f93 ⊢; subst x93; replace hL := hL.call hE hM hV
                    exact sLd
                  · intro vs W1 m1 hE hM hV hD; obtain ⟨⟨_, _, -, -, f94⟩, ⟨_, _, -, -, f93⟩, -, -⟩ := hD; have f94 : vs 94 = _ := f94; generalize vs 94 = x94 at f94 ⊢; subst x94; have f93 : vs 93 = _ := f93; generalize vs 93 = x93 at f93 ⊢; subst x93
                    go_wp2_with fail
                    refine (KSG.out _ _ hV leX).mono ?_
                    rintro e W2 ⟨v, m2, rfl, hE2, hM2, hV2, h⟩
                    go_wp2_with fail
                    refine One2.call hE2 hM2 hV2 ?_; first | exact h | exact rfl
                  · intro vs W1 m1 hE hM hV hD; obtain ⟨⟨_, _, -, -, f95⟩, ⟨_, _, -, -, f93⟩, -⟩ := hD; have f95 : vs 95 = _ := f95; generalize vs 95 = x95 at f95 ⊢; subst x95; have f93 : vs 93 = _ := f93; generalize vs 93 = x93 at f93 ⊢; subst x93; replace hL := hL.call hE hM hV
                    exact sPu
                  · intro vs W1 m1 hE hM hV hD; obtain ⟨⟨_, _, -, -, f93⟩, -⟩ := hD; have f93 : vs 93 = _ := f93; generalize vs 93 = x93 at f93 ⊢; subst x93; replace hL := hL.call hE hM hV
                    exact sLd
                  · intro vs W1 m1 hE hM hV hD; obtain ⟨⟨_, _, -, -, f93⟩, -⟩ := hD; have f93 : vs 93 = _ := f93; generalize vs 93 = x93 at f93 ⊢; subst x93; replace hL := hL.call hE hM hV
                    exact sPu
                  · intro vs W1 m1 hE hM hV hD; obtain ⟨⟨_, _, -, -, f97⟩, ⟨_, _, -, -, f98⟩, -, ⟨_, _, -, -, f93⟩, -⟩ := hD; have f97 : vs 97 = _ := f97; generalize vs 97 = x97 at f97 ⊢; subst x97; have f98 : vs 98 = _ := f98; generalize vs 98 = x98 at f98 ⊢; subst x98; have f93 : vs 93 = _ := f93; generalize vs 93 = x93 at f93 ⊢; subst x93
                    go_wp2_with fail
                    refine (KCA.out _ _ hV leX).mono ?_
                    rintro e W2 ⟨v, m2, rfl, hE2, hM2, hV2, h⟩
                    go_wp2_with fail
                    refine One2.call hE2 hM2 hV2 ?_; first | exact h | exact rfl
                  · intro vs W1 m1 hE hM hV hD; obtain ⟨⟨_, _, -, -, f93⟩, -⟩ := hD; have f93 : vs 93 = _ := f93; generalize vs 93 = x93 at f93 ⊢; subst x93; replace hL := hL.call hE hM hV
                    exact sLd
                  · intro vs W1 m1 hE hM hV hD; obtain ⟨⟨_, _, -, -, f93⟩, -⟩ := hD; have f93 : vs 93 = _ := f93; generalize vs 93 = x93 at f93 ⊢; subst x93; replace hL := hL.call hE hM hV
                    exact sPu
                  · intro vs W1 m1 hE hM hV hD; obtain ⟨⟨_, _, -, -, f100⟩, ⟨_, _, -, -, f101⟩, -, ⟨_, _, -, -, f93⟩, -⟩ := hD; have f100 : vs 100 = _ := f100; generalize vs 100 = x100 at f100 ⊢; subst x100; have f101 : vs 101 = _ := f101; generalize vs 101 = x101 at f101 ⊢; subst x101; have f93 : vs 93 = _ := f93; generalize vs 93 = x93 at f93 ⊢; subst x93
                    go_wp2_with fail
                    refine (KCB.out _ _ hV leX).mono ?_
                    rintro e W2 ⟨v, m2, rfl, hE2, hM2, hV2, h⟩
                    go_wp2_with fail
                    refine One2.call hE2 hM2 hV2 ?_; first | exact h | exact rfl
                  · intro vs W1 m1 hE hM hV hD; obtain ⟨⟨_, _, -, -, f99⟩, ⟨_, _, -, -, f102⟩, ⟨_, _, -, -, f93⟩, -⟩ := hD; have f99 : vs 99 = _ := f99; generalize vs 99 = x99 at f99 ⊢; subst x99; have f102 : vs 102 = _ := f102; generalize vs 102 = x102 at f102 ⊢; subst x102; have f93 : vs 93 = _ := f93; generalize vs 93 = x93 at f93 ⊢; subst x93; replace hL := hL.call hE hM hV
                    exact sPu
                  · intro vs W1 m1 hE hM hV hD; obtain ⟨⟨_, _, -, -, f103⟩, ⟨_, _, -, -, f93⟩, -⟩ := hD; have f103 : vs 103 = _ := f103; generalize vs 103 = x103 at f103 ⊢; subst x103; have f93 : vs 93 = _ := f93; generalize vs 93 = x93 at f93 ⊢; subst x93; replace hL := hL.call hE hM hV
                    exact sPu
                  · intro vs W1 m1 hE hM hV hD; obtain ⟨⟨_, _, -, -, f96⟩, ⟨_, _, -, -, f104⟩, ⟨_, _, -, -, f93⟩, -⟩ := hD; have f96 : vs 96 = _ := f96; generalize vs 96 = x96 at f96 ⊢; subst x96; have f104 : vs 104 = _ := f104; generalize vs 104 = x104 at f104 ⊢; subst x104; have f93 : vs 93 = _ := f93; generalize vs 93 = x93 at f93 ⊢; subst x93; replace hL := hL.call hE hM hV
                    exact sPu
                  · intro vs W1 m1 hE hM hV hD; obtain ⟨⟨_, _, -, -, f93⟩, ⟨_, _, -, -, f105⟩, -⟩ := hD; have f93 : vs 93 = _ := f93; generalize vs 93 = x93 at f93 ⊢; subst x93; have f105 : vs 105 = _ := f105; generalize vs 105 = x105 at f105 ⊢; subst x105; replace hL := hL.call hE hM hV
                    exact sPu
                  · intro vs W1 m1 hE hM hV hD; obtain ⟨⟨_, _, -, -, f106⟩, -, -⟩ := hD; have f106 : vs 106 = _ := f106; generalize vs 106 = x106 at f106 ⊢; subst x106; replace hL := hL.call hE hM hV
                    exact sPu
                  · intro vs W1 m1 hE hM hV hD; obtain ⟨⟨_, _, -, -, f107⟩, -⟩ := hD; have f107 : vs 107 = _ := f107; generalize vs 107 = x107 at f107 ⊢; subst x107; replace hL := hL.call hE hM hV
                    exact sLd
                  · intro vs W1 m1 hE hM hV hD; obtain ⟨⟨_, _, -, -, f108⟩, ⟨_, _, -, -, f107⟩, -, -⟩ := hD; have f108 : vs 108 = _ := f108; generalize vs 108 = x108 at f108 ⊢; subst x108; have f107 : vs 107 = _ := f107; generalize vs 107 = x107 at f107 ⊢; subst x107
                    go_wp2_with fail
                    refine (KSG.out _ _ hV leX).mono ?_
                    rintro e W2 ⟨v, m2, rfl, hE2, hM2, hV2, h⟩
                    go_wp2_with fail
                    refine One2.call hE2 hM2 hV2 ?_; first | exact h | exact rfl
                  · intro vs W1 m1 hE hM hV hD; obtain ⟨⟨_, _, -, -, f109⟩, ⟨_, _, -, -, f107⟩, -⟩ := hD; have f109 : vs 109 = _ := f109; generalize vs 109 = x109 at f109 ⊢; subst x109; have f107 : vs 107 = _ := f107; generalize vs 107 = x107 at f107 ⊢; subst x107; replace hL := hL.call hE hM hV
                    exact sPu
                  · intro vs W1 m1 hE hM hV hD; obtain ⟨⟨_, _, -, -, f110⟩, -, ⟨_, _, -, -, f107⟩, -⟩ := hD; have f110 : vs 110 = _ := f110; generalize vs 110 = x110 at f110 ⊢; subst x110; have f107 : vs 107 = _ := f107; generalize vs 107 = x107 at f107 ⊢; subst x107; replace hL := hL.call hE hM hV
                    exact sPu
                  · intro vs W1 m1 hE hM hV hD; obtain ⟨⟨_, _, -, -, f111⟩, -⟩ := hD; have f111 : vs 111 = _ := f111; generalize vs 111 = x111 at f111 ⊢; subst x111; replace hL := hL.call hE hM hV
                    exact sPu
                  · intro vs W1 m1 hE hM hV hD; obtain ⟨⟨_, _, -, -, f112⟩, ⟨_, _, -, -, f111⟩, -⟩ := hD; have f112 : vs 112 = _ := f112; generalize vs 112 = x112 at f112 ⊢; subst x112; have f111 : vs 111 = _ := f111; generalize vs 111 = x111 at f111 ⊢; subst x111; replace hL := hL.call hE hM hV
                    exact sPu
                  · intro vs W1 m1 hE hM hV hD; obtain ⟨⟨_, _, -, -, f111⟩, ⟨_, _, -, -, f113⟩, ⟨_, _, -, -, f107⟩, -⟩ := hD; have f111 : vs 111 = _ := f111; generalize vs 111 = x111 at f111 ⊢; subst x111; have f113 : vs 113 = _ := f113; generalize vs 113 = x113 at f113 ⊢; subst x113; have f107 : vs 107 = _ := f107; generalize vs 107 = x107 at f107 ⊢; subst x107; replace hL := hL.call hE hM hV
                    exact sPu
                  · intro vs W1 m1 hE hM hV hD; obtain ⟨⟨_, _, -, -, f107⟩, ⟨_, _, -, -, f114⟩, -⟩ := hD; have f107 : vs 107 = _ := f107; generalize vs 107 = x107 at f107 ⊢; subst x107; have f114 : vs 114 = _ := f114; generalize vs 114 = x114 at f114 ⊢; subst x114; replace hL := hL.call hE hM hV
                    exact sPu
                case l18c =>
                  refine ⟨fun h => (by cases h), fun h => (by cases h), fun h => (by cases h), fun h => (by cases h), fun h => (by cases h), fun h => (by cases h), fun h => (by cases h), fun h => (by cases h), fun h => (by cases h), fun h => (by cases h), fun h => (by cases h), fun h => (by cases h), fun h => (by cases h), fun h => (by cases h), fun h => (by cases h), fun h => (by cases h), fun h => (by cases h), fun h => (by cases h), fun h => (by cases h), fun h => (by cases h), fun h => (by cases h), fun h => (by cases h), fun h => (by cases h), fun h => (by cases h), fun h => (by cases h), trivial⟩
                intro vs W1 m1 hE hM hV hF hD
                clear hD
                obtain ⟨⟨_, _, -, -, f91⟩, ⟨_, _, -, -, f92⟩, ⟨_, _, -, -, f93⟩, ⟨_, _, -, -, f94⟩, ⟨_, _, -, -, f95⟩, ⟨_, _, -, -, f96⟩, ⟨_, _, -, -, f97⟩, ⟨_, _, -, -, f98⟩, ⟨_, _, -, -, f99⟩, ⟨_, _, -, -, f100⟩, ⟨_, _, -, -, f101⟩, ⟨_, _, -, -, f102⟩, ⟨_, _, -, -, f103⟩, ⟨_, _, -, -, f104⟩, ⟨_, _, -, -, f105⟩, ⟨_, _, -, -, f106⟩, ⟨_, _, -, -, f107⟩, ⟨_, _, -, -, f108⟩, ⟨_, _, -, -, f109⟩, ⟨_, _, -, -, f110⟩, ⟨_, _, -, -, f111⟩, ⟨_, _, -, -, f112⟩, ⟨_, _, -, -, f113⟩, ⟨_, _, -, -, f114⟩, ⟨_, _, -, -, f115⟩, -⟩ := hF
                replace hL := hL.call hE hM hV
                have f91 : vs 91 = _ := f91
                generalize vs 91 = x91 at f91 ⊢
                subst x91
                have f92 : vs 92 = _ := f92
                generalize vs 92 = x92 at f92 ⊢
                subst x92
                have f93 : vs 93 = _ := f93
                generalize vs 93 = x93 at f93 ⊢
                subst x93
                have f94 : vs 94 = _ := f94
                generalize vs 94 = x94 at f94 ⊢
                subst x94
                have f95 : vs 95 = _ := f95
                generalize vs 95 = x95 at f95 ⊢
                subst x95
                have f96 : vs 96 = _ := f96
                generalize vs 96 = x96 at f96 ⊢
                subst x96
                have f97 : vs 97 = _ := f97
                generalize vs 97 = x97 at f97 ⊢
                subst x97
                have f98 : vs 98 = _ := f98
                generalize vs 98 = x98 at f98 ⊢
                subst x98
                have f99 : vs 99 = _ := f99
                generalize vs 99 = x99 at f99 ⊢
                subst x99
                have f100 : vs 100 = _ := f100
                generalize vs 100 = x100 at f100 ⊢
                subst x100
                have f101 : vs 101 = _ := f101
                generalize vs 101 = x101 at f101 ⊢
                subst x101
                have f102 : vs 102 = _ := f102
                generalize vs 102 = x102 at f102 ⊢
                subst x102
                have f103 : vs 103 = _ := f103
                generalize vs 103 = x103 at f103 ⊢
                subst x103
                have f104 : vs 104 = _ := f104
                generalize vs 104 = x104 at f104 ⊢
                subst x104
                have f105 : vs 105 = _ := f105
                generalize vs 105 = x105 at f105 ⊢
                subst x105
                have f106 : vs 106 = _ := f106
                generalize vs 106 = x106 at f106 ⊢
                subst x106
                have f107 : vs 107 = _ := f107
                generalize vs 107 = x107 at f107 ⊢
                subst x107
                have f108 : vs 108 = _ := f108
                generalize vs 108 = x108 at f108 ⊢
                subst x108
                have f109 : vs 109 = _ := f109
                generalize vs 109 = x109 at f109 ⊢
                subst x109
                have f110 : vs 110 = _ := f110
                generalize vs 110 = x110 at f110 ⊢
                subst x110
                have f111 : vs 111 = _ := f111
                generalize vs 111 = x111 at f111 ⊢
                subst x111
                have f112 : vs 112 = _ := f112
                generalize vs 112 = x112 at f112 ⊢
                subst x112
                have f113 : vs 113 = _ := f113
                generalize vs 113 = x113 at f113 ⊢
                subst x113
                have f114 : vs 114 = _ := f114
                generalize vs 114 = x114 at f114 ⊢
                subst x114
                have f115 : vs 115 = _ := f115
                generalize vs 115 = x115 at f115 ⊢
                subst x115
                clear hE hV
                simp only [List.drop_succ_cons, List.drop_zero]
                go_wp2_with (first | ((with_reducible refine kAny ?_); go_skip) | (with_reducible refine stA ?_) | ((first | refine tIx ?_ | refine tFd ?_ | refine tLd ?_ | ((first | refine tSr ?_ | refine tSt ?_); clear hL; intro _ hL; simp only [splice, zq1, zq2, zq3] at hL) | (refine tAl ?_; clear hL; intro _ _ hL _)); simp only [Act.put, zq1, zq2, zq3]))
                refine QN.mk ?_
                go_wp2_with (first | ((with_reducible refine kAny ?_); go_skip) | (with_reducible refine stA ?_) | ((first | refine tIx ?_ | refine tFd ?_ | refine tLd ?_ | ((first | refine tSr ?_ | refine tSt ?_); clear hL; intro _ hL; simp only [splice, zq1, zq2, zq3] at hL) | (refine tAl ?_; clear hL; intro _ _ hL _)); simp only [Act.put, zq1, zq2, zq3]))
                go_roundw
                case rel => exact ⟨j + 1, _, by omega, by go_num, (HLK.out.join hL).sub (List.nil_sublist _), exX⟩
                case measure => simp [intOf] <;> omega
              · have KSG : Hid (∀ u m', Vw m' u → Le m1 m' → Calls Tryz.prog 45 #[.agg #[.bool gw, .slice Aw nw cw, .bool fw, .slice Bw kw dw]] u (RetV u m' fun _ r => r = .int .i64 (1))) := by
                  show ∀ u m', _
                  exact fun u m' hV hle => KS0.out _ u m' (by rw [hcb]; decide) (by rw [hca]; decide) (by rw [hca, hcb]; rfl) hV hle
                have KCA := KCA0
                have KCB := KCB0
                rw [hca] at KCA
                rw [hcb] at KCB
                rw [HSH.out hca hcb]
                clear hca hcb KCA0 KCB0 KS0 HSH
                go_upto_region 18 with ((first | ((with_reducible refine kAny ?_); go_skip) | (with_reducible refine stA ?_) | ((first | refine tIx ?_ | refine tFd ?_ | refine tLd ?_ | ((first | refine tSr ?_ | refine tSt ?_); clear hL; intro _ hL; simp only [splice, zq1, zq2, zq3] at hL) | (refine tAl ?_; clear hL; intro _ _ hL _)); simp only [Act.put, zq1, zq2, zq3])))
                refine wp_region_by2 25 [false, false, false, false, false, false, false, false, false, false, false, false, false, false, false, false, false, false, false, false, false, false, false, false, false] [false, false, false, false, false, false, false, false, false, false, false, false, false, false, false, false, false, false, false, false, false, false, false, false, false] [(fun v _ _ => v = ?c18_0d), (fun v _ _ => v = ?c18_1d), (fun v _ _ => v = ?c18_2d), (fun v _ _ => v = ?c18_3d), Is (.int .i64 (1)), (fun v _ _ => v = ?c18_5d), (fun v _ _ => v = ?c18_6d), (fun v _ _ => v = ?c18_7d), Is (.int .i64 1), (fun v _ _ => v = ?c18_9d), (fun v _ _ => v = ?c18_10d), Is (.int .i64 1), (fun v _ _ => v = ?c18_12d), (fun v _ _ => v = ?c18_13d), (fun v _ _ => v = ?c18_14d), (fun v _ _ => v = ?c18_15d), (fun v _ _ => v = ?c18_16d), (fun v _ _ => v = ?c18_17d), Is (.int .i64 (1)), (fun v _ _ => v = ?c18_19d), (fun v _ _ => v = ?c18_20d), (fun v _ _ => v = ?c18_21d), (fun v _ _ => v = ?c18_22d), (fun v _ _ => v = ?c18_23d), (fun v _ _ => v = ?c18_24d)] hL.vw mixed [91, 92, 93, 94, 95, 96, 97, 98, 99, 100, 101, 102, 103, 104, 105, 106, 107, 108, 109, 110, 111, 112, 113, 114, 115] _ (by kernel_rfl) (fun vs => by simp only [lay, Act.put, zq1, zq2, zq3]; rfl) (by kernel_rfl) (by decide) (by decide) ?s18d ?l18d ?r18d
                case s18d =>
                  refine ⟨?_, ?_, ?_, ?_, ?_, ?_, ?_, ?_, ?_, ?_, ?_, ?_, ?_, ?_, ?_, ?_, ?_, ?_, ?_, ?_, ?_, ?_, ?_, ?_, ?_, trivial⟩
                  · intro vs W1 m1 hE hM hV hD; clear hD; replace hL := hL.call hE hM hV
                    exact sPu
                  · intro vs W1 m1 hE hM hV hD; obtain ⟨⟨_, _, -, -, f91⟩, -⟩ := hD; have f91 : vs 91 = _ := f91; generalize vs 91 = x91 at f91 ⊢; subst x91; replace hL := hL.call hE hM hV
                    exact sPu
                  · intro vs W1 m1 hE hM hV hD; obtain ⟨⟨_, _, -, -, f92⟩, -⟩ := hD; have f92 : vs 92 = _ := f92; generalize vs 92 = x92 at f92 ⊢; subst x92; replace hL := hL.call hE hM hV
                    exact sPu
                  · intro vs W1 m1 hE hM hV hD; obtain ⟨⟨_, _, -, -, f93⟩, -⟩ := hD; have f93 : vs 93 = _ := f93; generalize vs 93 = x93 at f93 ⊢; subst x93; replace hL := hL.call hE hM hV
                    exact sLd
                  · intro vs W1 m1 hE hM hV hD; obtain ⟨⟨_, _, -, -, f94⟩, ⟨_, _, -, -, f93⟩, -, -⟩ := hD; have f94 : vs 94 = _ := f94; generalize vs 94 = x94 at f94 ⊢; subst x94; have f93 : vs 93 = _ := f93; generalize vs 93 = x93 at f93 ⊢; subst x93
                    go_wp2_with fail
                    refine (KSG.out _ _ hV leX).mono ?_
                    rintro e W2 ⟨v, m2, rfl, hE2, hM2, hV2, h⟩
                    go_wp2_with fail
                    refine One2.call hE2 hM2 hV2 ?_; first | exact h | exact rfl
                  · intro vs W1 m1 hE hM hV hD; obtain ⟨⟨_, _, -, -, f95⟩, ⟨_, _, -, -, f93⟩, -⟩ := hD; have f95 : vs 95 = _ := f95; generalize vs 95 = x95 at f95 ⊢; subst x95; have f93 : vs 93 = _ := f93; generalize vs 93 = x93 at f93 ⊢; subst x93; replace hL := hL.call hE hM hV
                    exact sPu
                  · intro vs W1 m1 hE hM hV hD; obtain ⟨⟨_, _, -, -, f93⟩, -⟩ := hD; have f93 : vs 93 = _ := f93; generalize vs 93 = x93 at f93 ⊢; subst x93; replace hL := hL.call hE hM hV
                    exact sLd
                  · intro vs W1 m1 hE hM hV hD; obtain ⟨⟨_, _, -, -, f93⟩, -⟩ := hD; have f93 : vs 93 = _ := f93; generalize vs 93 = x93 at f93 ⊢; subst x93; replace hL := hL.call hE hM hV
                    exact sPu
                  · intro vs W1 m1 hE hM hV hD; obtain ⟨⟨_, _, -, -, f97⟩, ⟨_, _, -, -, f98⟩, -, ⟨_, _, -, -, f93⟩, -⟩ := hD; have f97 : vs 97 = _ := f97; generalize vs 97 = x97 at f97 ⊢; subst x97; have f98 : vs 98 = _ := f98; generalize vs 98 = x98 at f98 ⊢; subst x98; have f93 : vs 93 = _ := f93; generalize vs 93 = x93 at f93 ⊢; subst x93
                    go_wp2_with fail
                    refine (KCA.out _ _ hV leX).mono ?_
                    rintro e W2 ⟨v, m2, rfl, hE2, hM2, hV2, h⟩
                    go_wp2_with fail
                    refine One2.call hE2 hM2 hV2 ?_; first | exact h | exact rfl
                  · intro vs W1 m1 hE hM hV hD; obtain ⟨⟨_, _, -, -, f93⟩, -⟩ := hD; have f93 : vs 93 = _ := f93; generalize vs 93 = x93 at f93 ⊢; subst x93; replace hL := hL.call hE hM hV
                    exact sLd
                  · intro vs W1 m1 hE hM hV hD; obtain ⟨⟨_, _, -, -, f93⟩, -⟩ := hD; have f93 : vs 93 = _ := f93; generalize vs 93 = x93 at f93 ⊢; subst x93; replace hL := hL.call hE hM hV
                    exact sPu
                  · intro vs W1 m1 hE hM hV hD; obtain ⟨⟨_, _, -, -, f100⟩, ⟨_, _, -, -, f101⟩, -, ⟨_, _, -, -, f93⟩, -⟩ := hD; have f100 : vs 100 = _ := f100; generalize vs 100 = x100 at f100 ⊢; subst x100; have f101 : vs 101 = _ := f101; generalize vs 101 = x101 at f101 ⊢; subst x101; have f93 : vs 93 = _ := f93; generalize vs 93 = x93 at f93 ⊢; subst x93
                    go_wp2_with fail
                    refine (KCB.out _ _ hV leX).mono ?_
                    rintro e W2 ⟨v, m2, rfl, hE2, hM2, hV2, h⟩
                    go_wp2_with fail
                    refine One2.call hE2 hM2 hV2 ?_; first | exact h | exact rfl
                  · intro vs W1 m1 hE hM hV hD; obtain ⟨⟨_, _, -, -, f99⟩, ⟨_, _, -, -, f102⟩, ⟨_, _, -, -, f93⟩, -⟩ := hD; have f99 : vs 99 = _ := f99; generalize vs 99 = x99 at f99 ⊢; subst x99; have f102 : vs 102 = _ := f102; generalize vs 102 = x102 at f102 ⊢; subst x102; have f93 : vs 93 = _ := f93; generalize vs 93 = x93 at f93 ⊢; subst x93; replace hL := hL.call hE hM hV
                    exact sPu
                  · intro vs W1 m1 hE hM hV hD; obtain ⟨⟨_, _, -, -, f103⟩, ⟨_, _, -, -, f93⟩, -⟩ := hD; have f103 : vs 103 = _ := f103; generalize vs 103 = x103 at f103 ⊢; subst x103; have f93 : vs 93 = _ := f93; generalize vs 93 = x93 at f93 ⊢; subst x93; replace hL := hL.call hE hM hV
                    exact sPu
                  · intro vs W1 m1 hE hM hV hD; obtain ⟨⟨_, _, -, -, f96⟩, ⟨_, _, -, -, f104⟩, ⟨_, _, -, -, f93⟩, -⟩ := hD; have f96 : vs 96 = _ := f96; generalize vs 96 = x96 at f96 ⊢; subst x96; have f104 : vs 104 = _ := f104; generalize vs 104 = x104 at f104 ⊢; subst x104; have f93 : vs 93 = _ := f93; generalize vs 93 = x93 at f93 ⊢; subst x93; replace hL := hL.call hE hM hV
                    exact sPu
                  · intro vs W1 m1 hE hM hV hD; obtain ⟨⟨_, _, -, -, f93⟩, ⟨_, _, -, -, f105⟩, -⟩ := hD; have f93 : vs 93 = _ := f93; generalize vs 93 = x93 at f93 ⊢; subst x93; have f105 : vs 105 = _ := f105; generalize vs 105 = x105 at f105 ⊢; subst x105; replace hL := hL.call hE hM hV
                    exact sPu
                  · intro vs W1 m1 hE hM hV hD; obtain ⟨⟨_, _, -, -, f106⟩, -, -⟩ := hD; have f106 : vs 106 = _ := f106; generalize vs 106 = x106 at f106 ⊢; subst x106; replace hL := hL.call hE hM hV
                    exact sPu
                  · intro vs W1 m1 hE hM hV hD; obtain ⟨⟨_, _, -, -, f107⟩, -⟩ := hD; have f107 : vs 107 = _ := f107; generalize vs 107 = x107 at f107 ⊢; subst x107; replace hL := hL.call hE hM hV
                    exact sLd
                  · intro vs W1 m1 hE hM hV hD; obtain ⟨⟨_, _, -, -, f108⟩, ⟨_, _, -, -, f107⟩, -, -⟩ := hD; have f108 : vs 108 = _ := f108; generalize vs 108 = x108 at f108 ⊢; subst x108; have f107 : vs 107 = _ := f107; generalize vs 107 = x107 at f107 ⊢; subst x107
                    go_wp2_with fail
                    refine (KSG.out _ _ hV leX).mono ?_
                    rintro e W2 ⟨v, m2, rfl, hE2, hM2, hV2, h⟩
                    go_wp2_with fail
                    refine One2.call hE2 hM2 hV2 ?_; first | exact h | exact rfl
                  · intro vs W1 m1 hE hM hV hD; obtain ⟨⟨_, _, -, -, f109⟩, ⟨_, _, -, -, f107⟩, -⟩ := hD; have f109 : vs 109 = _ := f109; generalize vs 109 = x109 at f109 ⊢; subst x109; have f107 : vs 107 = _ := f107; generalize vs 107 = x107 at f107 ⊢; subst x107; replace hL := hL.call hE hM hV
                    exact sPu
                  · intro vs W1 m1 hE hM hV hD; obtain ⟨⟨_, _, -, -, f110⟩, -, ⟨_, _, -, -, f107⟩, -⟩ := hD; have f110 : vs 110 = _ := f110; generalize vs 110 = x110 at f110 ⊢; subst x110; have f107 : vs 107 = _ := f107; generalize vs 107 = x107 at f107 ⊢; subst x107; replace hL := hL.call hE hM hV
                    exact sPu
                  · intro vs W1 m1 hE hM hV hD; obtain ⟨⟨_, _, -, -, f111⟩, -⟩ := hD; have f111 : vs 111 = _ := f111; generalize vs 111 = x111 at f111 ⊢; subst x111; replace hL := hL.call hE hM hV
                    exact sPu
                  · intro vs W1 m1 hE hM hV hD; obtain ⟨⟨_, _, -, -, f112⟩, ⟨_, _, -, -, f111⟩, -⟩ := hD; have f112 : vs 112 = _ := f112; generalize vs 112 = x112 at f112 ⊢; subst x112; have f111 : vs 111 = _ := f111; generalize vs 111 = x111 at f111 ⊢; subst x111; replace hL := hL.call hE hM hV
                    exact sPu
                  · intro vs W1 m1 hE hM hV hD; obtain ⟨⟨_, _, -, -, f111⟩, ⟨_, _, -, -, f113⟩, ⟨_, _, -, -, f107⟩, -⟩ := hD; have f111 : vs 111 = _ := f111; generalize vs 111 = x111 at f111 ⊢; subst x111; have f113 : vs 113 = _ := f113; generalize vs 113 = x113 at f113 ⊢; subst x113; have f107 : vs 107 = _ := f107; generalize vs 107 = x107 at f107 ⊢; subst x107; replace hL := hL.call hE hM hV
                    exact sPu
                  · intro vs W1 m1 hE hM hV hD; obtain ⟨⟨_, _, -, -, f107⟩, ⟨_, _, -, -, f114⟩, -⟩ := hD; have f107 : vs 107 = _ := f107; generalize vs 107 = x107 at f107 ⊢; subst x107; have f114 : vs 114 = _ := f114; generalize vs 114 = x114 at f114 ⊢; subst x114; replace hL := hL.call hE hM hV
                    exact sPu
                case l18d =>
                  refine ⟨fun h => (by cases h), fun h => (by cases h), fun h => (by cases h), fun h => (by cases h), fun h => (by cases h), fun h => (by cases h), fun h => (by cases h), fun h => (by cases h), fun h => (by cases h), fun h => (by cases h), fun h => (by cases h), fun h => (by cases h), fun h => (by cases h), fun h => (by cases h), fun h => (by cases h), fun h => (by cases h), fun h => (by cases h), fun h => (by cases h), fun h => (by cases h), fun h => (by cases h), fun h => (by cases h), fun h => (by cases h), fun h => (by cases h), fun h => (by cases h), fun h => (by cases h), trivial⟩
                intro vs W1 m1 hE hM hV hF hD
                clear hD
                obtain ⟨⟨_, _, -, -, f91⟩, ⟨_, _, -, -, f92⟩, ⟨_, _, -, -, f93⟩, ⟨_, _, -, -, f94⟩, ⟨_, _, -, -, f95⟩, ⟨_, _, -, -, f96⟩, ⟨_, _, -, -, f97⟩, ⟨_, _, -, -, f98⟩, ⟨_, _, -, -, f99⟩, ⟨_, _, -, -, f100⟩, ⟨_, _, -, -, f101⟩, ⟨_, _, -, -, f102⟩, ⟨_, _, -, -, f103⟩, ⟨_, _, -, -, f104⟩, ⟨_, _, -, -, f105⟩, ⟨_, _, -, -, f106⟩, ⟨_, _, -, -, f107⟩, ⟨_, _, -, -, f108⟩, ⟨_, _, -, -, f109⟩, ⟨_, _, -, -, f110⟩, ⟨_, _, -, -, f111⟩, ⟨_, _, -, -, f112⟩, ⟨_, _, -, -, f113⟩, ⟨_, _, -, -, f114⟩, ⟨_, _, -, -, f115⟩, -⟩ := hF
                replace hL := hL.call hE hM hV
                have f91 : vs 91 = _ := f91
                generalize vs 91 = x91 at f91 ⊢
                subst x91
                have f92 : vs 92 = _ := f92
                generalize vs 92 = x92 at f92 ⊢
                subst x92
                have f93 : vs 93 = _ := f93
                generalize vs 93 = x93 at f93 ⊢
                subst x93
                have f94 : vs 94 = _ := f94
                generalize vs 94 = x94 at f94 ⊢
                subst x94
                have f95 : vs 95 = _ := f95
                generalize vs 95 = x95 at f95 ⊢
                subst x95
                have f96 : vs 96 = _ := f96
                generalize vs 96 = x96 at f96 ⊢
                subst x96
                have f97 : vs 97 = _ := f97
                generalize vs 97 = x97 at f97 ⊢
                subst x97
                have f98 : vs 98 = _ := f98
                generalize vs 98 = x98 at f98 ⊢
                subst x98
                have f99 : vs 99 = _ := f99
                generalize vs 99 = x99 at f99 ⊢
                subst x99
                have f100 : vs 100 = _ := f100
                generalize vs 100 = x100 at f100 ⊢
                subst x100
                have f101 : vs 101 = _ := f101
                generalize vs 101 = x101 at f101 ⊢
                subst x101
                have f102 : vs 102 = _ := f102
                generalize vs 102 = x102 at f102 ⊢
                subst x102
                have f103 : vs 103 = _ := f103
                generalize vs 103 = x103 at f103 ⊢
                subst x103
                have f104 : vs 104 = _ := f104
                generalize vs 104 = x104 at f104 ⊢
                subst x104
                have f105 : vs 105 = _ := f105
                generalize vs 105 = x105 at f105 ⊢
                subst x105
                have f106 : vs 106 = _ := f106
                generalize vs 106 = x106 at f106 ⊢
                subst x106
                have f107 : vs 107 = _ := f107
                generalize vs 107 = x107 at f107 ⊢
                subst x107
                have f108 : vs 108 = _ := f108
                generalize vs 108 = x108 at f108 ⊢
                subst x108
                have f109 : vs 109 = _ := f109
                generalize vs 109 = x109 at f109 ⊢
                subst x109
                have f110 : vs 110 = _ := f110
                generalize vs 110 = x110 at f110 ⊢
                subst x110
                have f111 : vs 111 = _ := f111
                generalize vs 111 = x111 at f111 ⊢
                subst x111
                have f112 : vs 112 = _ := f112
                generalize vs 112 = x112 at f112 ⊢
                subst x112
                have f113 : vs 113 = _ := f113
                generalize vs 113 = x113 at f113 ⊢
                subst x113
                have f114 : vs 114 = _ := f114
                generalize vs 114 = x114 at f114 ⊢
                subst x114
                have f115 : vs 115 = _ := f115
                generalize vs 115 = x115 at f115 ⊢
                subst x115
                clear hE hV
                simp only [List.drop_succ_cons, List.drop_zero]
                go_wp2_with (first | ((with_reducible refine kAny ?_); go_skip) | (with_reducible refine stA ?_) | ((first | refine tIx ?_ | refine tFd ?_ | refine tLd ?_ | ((first | refine tSr ?_ | refine tSt ?_); clear hL; intro _ hL; simp only [splice, zq1, zq2, zq3] at hL) | (refine tAl ?_; clear hL; intro _ _ hL _)); simp only [Act.put, zq1, zq2, zq3]))
                refine QN.mk ?_
                go_wp2_with (first | ((with_reducible refine kAny ?_); go_skip) | (with_reducible refine stA ?_) | ((first | refine tIx ?_ | refine tFd ?_ | refine tLd ?_ | ((first | refine tSr ?_ | refine tSt ?_); clear hL; intro _ hL; simp only [splice, zq1, zq2, zq3] at hL) | (refine tAl ?_; clear hL; intro _ _ hL _)); simp only [Act.put, zq1, zq2, zq3]))
                go_roundw
                case rel => exact ⟨j + 1, _, by omega, by go_num, (HLK.out.join hL).sub (List.nil_sublist _), exX⟩
                case measure => simp [intOf] <;> omega
        · have hji : i = j := by omega
          subst hji
          have h9 : (i : Int) ≤ (i : Int) := Int.le_refl _
          go_wp2_with (first | ((with_reducible refine kAny ?_); go_skip) | (with_reducible refine stA ?_) | ((first | refine tIx ?_ | refine tFd ?_ | refine tLd ?_ | ((first | refine tSr ?_ | refine tSt ?_); clear hL; intro _ hL; simp only [splice, zq1, zq2, zq3] at hL) | (refine tAl ?_; clear hL; intro _ _ hL _)); simp only [Act.put, zq1, zq2, zq3]))
          go_roundw
          case rel => exact ⟨i + 1, _, by omega, by go_num, HLK.out, HX2.out⟩
          case measure => simp [intOf] <;> omega
    · have hin : nc = i := by omega
      subst hin
      have h9 : (nc : Int) ≤ (nc : Int) := Int.le_refl _
      go_wp2_with (first | ((with_reducible refine kAny ?_); go_skip) | (with_reducible refine stA ?_) | ((first | refine tIx ?_ | refine tFd ?_ | refine tLd ?_ | ((first | refine tSr ?_ | refine tSt ?_); clear hL; intro _ hL; simp only [splice, zq1, zq2, zq3] at hL) | (refine tAl ?_; clear hL; intro _ _ hL _)); simp only [Act.put, zq1, zq2, zq3]))
      refine (kc_known _ _ hL.vw).mono ?_
      rintro e Wc9 ⟨_, mc9, rfl, hE, hMc9, hV, rfl⟩
      replace hL := hL.call hE (by assumption) hV; clear hE hV
      go_wp2_with (first | ((with_reducible refine kAny ?_); go_skip) | (with_reducible refine stA ?_) | ((first | refine tIx ?_ | refine tFd ?_ | refine tLd ?_ | ((first | refine tSr ?_ | refine tSt ?_); clear hL; intro _ hL; simp only [splice, zq1, zq2, zq3] at hL) | (refine tAl ?_; clear hL; intro _ _ hL _)); simp only [Act.put, zq1, zq2, zq3]))
      go_ret
      exact RetV.mk hL rfl
end Go.Proofs.YtmhkmmmompediaaGreat
