/- Part 6 of 7 of the proof: the law BranchRoundsDown returns true for every input, and its arguments read as before; there is no condition. -/
import Derived.Test.YtniigfikpfinfaaGreatRows
import Derived.Test.YtniigfikpfinfaaGreatBE5
set_option linter.unusedVariables false
set_option linter.unusedSimpArgs false
set_option maxRecDepth 100000
set_option maxHeartbeats 64000000
/- Contract of pairingref27.Cost for a selection of disjoint columns: the walk. -/
namespace Go.Proofs.YtniigfikpfinfaaGreat
open Go.RowKit

theorem Loc.extOf2 {w0 m0 W m a : World} {Ls : List Lo} (_ : Loc w0 m0 W m Ls) (h : Ext a m) : Ext a m := h
theorem r_Cost (xv vv : Value) (x : Ms) (xs : List Nat) (w m : World) (hV : Vw m w) (hx : MasterR m xv x) (hvv : IntL m vv (natL xs)) (ok : MsOk x) (sm : SmOk x) (sel : SelOk x xs) (h6 : xs.length ≤ 6) :
  Calls Tryz.prog 58 #[xv, vv] w (RetV w m fun _ r => r = .tuple #[.int .i64 (cstL x xs), .int .i64 0]) := by
 have HX := Lib.hid hx
 obtain ⟨ms, hms⟩ : ∃ ms, ms = x := ⟨_, rfl⟩
 rw [← hms]
 have hlen32 : ∀ c ∈ x.cols, (opF c.2.1).length ≤ 32 := fun c hc => Nat.le_trans (nodup_length (ok.cols c hc).nodup (ok.cols c hc).sub) ok.r1
 have HTB : Hid (∀ i, i ≤ xs.length → -33000 * (i : Int) ≤ totF ms xs i ∧ totF ms xs i ≤ 32000 + 1000 * (i : Int)) := by
  show ∀ i, _
  rw [hms]; exact sm.tot ok hlen32 sel.lt
 have HSEL : Hid (SelOk ms xs) := by show SelOk _ _; rw [hms]; exact sel
 have HND : Hid (∀ c ∈ ms.cols, (opF c.2.1).Nodup) := by show ∀ c ∈ _, _; rw [hms]; exact fun c hc => (ok.cols c hc).nodup
 obtain ⟨nf, rws, pen, cols, cuts⟩ := x
 obtain ⟨va, vb, vc, rfl, ha, hb, hc⟩ := hx
 simp only at ha hb hc
 obtain ⟨A, ca, rfl, hca, ha⟩ := ha.lit
 obtain ⟨B, cb, rfl, hcb, hb⟩ := hb.lit
 obtain ⟨C, cc, rfl, hcc, hc⟩ := hc.lit
 obtain ⟨V, cv, rfl, hcv, hvv⟩ := hvv.lit
 rw [natL_len] at hvv hcv ⊢
 have HCO := Lib.hid hb
 have HCH := Lib.hid hvv
 have KV : Hid (∀ w m', Vw m' w → Le m m' → Calls Tryz.prog 74 #[.agg #[.int .i64 nf, .slice A rws.length ca, .int .i64 pen, .slice B cols.length cb, .slice C cuts.length cc]] w (RetV w m' fun _ r => r = .int .i64 0)) := by
  show ∀ w m', _
  exact fun w m' hV hle => r_ValidateMaster _ _ w m' hV (HX.out.le hle) ok
 have KA : Hid (∀ w m', Vw m' w → Le m m' → Calls Tryz.prog 119 #[.slice V xs.length cv] w (RetV w m' fun _ r => r = .bool true)) := by
  show ∀ w m', _
  exact fun w m' hV hle => r_ascT _ (natL xs) w m' hV (IntL.le hvv hle) (by rw [natL_len]; omega) (natL_asc sel.asc)
 have HC : Hid (∀ c ∈ cols, ColOk rws c) := ok.cols
 have HLN : Hid (∀ c ∈ cols, (opF c.2.1).length ≤ 32) := hlen32
 have HMC : Hid (ms.cols = cols) := by show _ = _; rw [hms]
 have HMP : Hid (ms.pen = pen) := by show _ = _; rw [hms]
 have HT0 : Hid (totF ms xs 0 = pen * (rws.length : Int)) := by show _ = _; rw [hms]; rfl
 have hp0 : 0 ≤ pen := sm.p0
 have hp1 : pen ≤ 1000 := sm.p1
 have hr32 : rws.length ≤ 32 := ok.r1
 have HC0 : Hid (∀ c ∈ cols, -1000 ≤ c.2.2 ∧ c.2.2 ≤ 1000) := by show ∀ c ∈ cols, _; exact fun c hc => ⟨sm.c0 c hc, sm.c1 c hc⟩
 have hfew : cols.length ≤ 6 := sm.few
 have HLT : Hid (∀ j ∈ xs, j < cols.length) := sel.lt
 have hpr : 0 ≤ pen * (rws.length : Int) ∧ pen * (rws.length : Int) ≤ 32000 := by
  have h4 : pen * (rws.length : Int) ≤ 1000 * 32 := Int.mul_le_mul hp1 (by omega) (by omega) (by omega)
  have h5 : 0 ≤ pen * (rws.length : Int) := Int.mul_nonneg hp0 (by omega)
  omega
 have hL := Loc.start hV
 clear hV ok sm sel ha hb hc hvv HX hms hlen32
 simp only
 generalize hn1 : cols.length = nc at *
 have HN1 := Lib.hid hn1
 clear hn1
 generalize hn2 : xs.length = nx at *
 have HN2 := Lib.hid hn2
 clear hn2
 generalize rws.length = nr at *
 generalize cuts.length = nk at *
 obtain ⟨tot0, htot0⟩ : ∃ tot0, tot0 = pen * (nr : Int) := ⟨_, rfl⟩
 rw [← htot0] at HT0 hpr
 have HW1 : Hid (wrap64 (pen * (nr : Int)) = tot0) := by show _ = _; unfold wrap64; omega
 have HW0 := Lib.hid htot0
 clear htot0
 go_enter Tryz.func58, Tryz.ntmps58
 go_upto_region 0 with (fail)
 refine wp_region_lit ?_
 refine t_box hL rfl rfl ?_; clear hL; intro Wh2 mh2 hL eh2; simp only [Act.put, zq1, zq2, zq3]
 obtain ⟨m2, hL2, hle2, hbx⟩ := Loc.showBox (cs := [.int .i64 nf, .slice A nr ca, .int .i64 pen, .slice B nc cb, .slice C nk cc]) hL
 have hM2 := hL2.mext
 have hb0 : m2.rangeAt w.heap.size 0 [.int .i64 nf, .slice A nr ca, .int .i64 pen, .slice B nc cb, .slice C nk cc] := fun j v hv => by rw [Nat.zero_add]; exact hbx j v hv
 have hb1 := hbx 1 _ rfl
 have hb2 := hbx 2 _ rfl
 have hb3 := hbx 3 _ rfl
 clear hL hle2 hbx eh2
 have hL := hL2
 clear hL2
 go_wp2_with (first | go_skip | refine tP ?_ | (refine tB ?_; clear hL; intro _ _ hL _) | (refine tC ?_; clear hL; intro _ _ hL _ hBs))
 refine (KV.out _ _ hL.vw leX).mono ?_
 rintro e Wc1 ⟨_, mc1, rfl, hE, hMc1, hV, rfl⟩
 replace hL := hL.call hE (by assumption) hV; clear hE hV
 clear KV
 go_wp2_with (first | go_skip | refine tP ?_ | (refine tB ?_; clear hL; intro _ _ hL _) | (refine tC ?_; clear hL; intro _ _ hL _ hBs))
 go_loopw [7] (fun i wr => ∃ (k : Nat) (mm : World), k ≤ nx ∧ i = .int .i64 (k : Int) ∧ Loc w m wr mm [] ∧ Hid (Ext m2 mm)) (fun i _ => nx - (intOf i).toNat)
 case atStart => exact ⟨0, _, Nat.zero_le _, rfl, hL, exX⟩
 case round =>
  clear hL hMc1
  obtain ⟨k, mm, hk, rfl, hL, HXM⟩ := hrel
  have hXM := HXM.out
  by_cases hlt : k < nx
  ·have hlt' : (k : Int) < (nx : Int) := by omega
   obtain ⟨j, hj⟩ := at_some HN2 hlt
   obtain ⟨b1, o1, rfl, hc1⟩ := IntL.at_ HCH.out (natL_at hj)
   have hjc : j < nc := HLT.out j (List.mem_of_getElem? hj)
   have hjd : decide ((j : Int) < 0) = false := decide_eq_false (by omega)
   have hje : decide ((j : Int) ≥ (nc : Int)) = false := decide_eq_false (by omega)
   clear hj
   go_upto_region 7 with ((first | go_skip | refine tP ?_ | (refine tB ?_; clear hL; intro _ _ hL _) | (refine tC ?_; clear hL; intro _ _ hL _ hBs)))
   (try simp only [eq_self] at *)
   refine wp_region_by2 15 [false, false, false, false, false, false, false, false, false, false, false, false, false, false, false] [false, false, false, false, false, false, false, false, false, false, false, false, false, false, false] [(fun v _ _ => v = ?c7_0), (fun v _ _ => v = ?c7_1), (fun v _ _ => v = ?c7_2), (fun v _ _ => v = ?c7_3), (fun v _ _ => v = ?c7_4), (fun v _ _ => v = ?c7_5), (fun v _ _ => v = ?c7_6), (fun v _ _ => v = ?c7_7), (fun v _ _ => v = ?c7_8), (fun v _ _ => v = ?c7_9), (fun v _ _ => v = ?c7_10), (fun v _ _ => v = ?c7_11), (fun v _ _ => v = ?c7_12), (fun v _ _ => v = ?c7_13), (fun v _ _ => v = ?c7_14)] hL.vw mixed [24, 25, 26, 27, 28, 29, 30, 31, 32, 33, 34, 35, 36, 37, 38] _ (by kernel_rfl) (fun vs => by simp only [lay, Act.put, zq1, zq2, zq3]; rfl) (by kernel_rfl) (by decide) (by decide) ?s7 ?l7 ?r7
   case s7 =>
    refine ⟨?_, ?_, ?_, ?_, ?_, ?_, ?_, ?_, ?_, ?_, ?_, ?_, ?_, ?_, ?_, trivial⟩
    ·intro vs W1 m1 hE hM hV hD; clear hD
     exact sPw
    ·intro vs W1 m1 hE hM hV hD; clear hD
     exact sPw
    ·intro vs W1 m1 hE hM hV hD; obtain ⟨⟨_, _, -, -, f24⟩, ⟨_, _, -, -, f25⟩, -⟩ := hD
     rw [(f24 : vs 24 = _), (f25 : vs 25 = _)]; clear f24 f25; exact sIy
    ·intro vs W1 m1 hE hM hV hD; obtain ⟨⟨_, _, -, -, f26⟩, -⟩ := hD
     rw [(f26 : vs 26 = _)]; clear f26; exact sLe
    ·intro vs W1 m1 hE hM hV hD; obtain ⟨⟨_, _, -, -, f27⟩, -⟩ := hD
     rw [(f27 : vs 27 = _)]; clear f27; exact sPw
    ·intro vs W1 m1 hE hM hV hD; obtain ⟨⟨_, _, -, -, f28⟩, -⟩ := hD
     rw [(f28 : vs 28 = _)]; clear f28; exact sPw
    ·intro vs W1 m1 hE hM hV hD; obtain ⟨⟨_, _, -, -, f29⟩, -⟩ := hD
     rw [(f29 : vs 29 = _)]; clear f29; exact sPw
    ·intro vs W1 m1 hE hM hV hD; obtain ⟨⟨_, _, -, -, f29⟩, -⟩ := hD
     rw [(f29 : vs 29 = _)]; clear f29; exact sPw
    ·intro vs W1 m1 hE hM hV hD; obtain ⟨⟨_, _, -, -, f30⟩, ⟨_, _, -, -, f31⟩, ⟨_, _, -, -, f29⟩, -⟩ := hD
     rw [(f30 : vs 30 = _), (f31 : vs 31 = _), (f29 : vs 29 = _)]; clear f30 f31 f29; exact sIy
    ·intro vs W1 m1 hE hM hV hD; obtain ⟨⟨_, _, -, -, f32⟩, ⟨_, _, -, -, f29⟩, -⟩ := hD
     rw [(f32 : vs 32 = _), (f29 : vs 29 = _)]; clear f32 f29; exact sLe
    ·intro vs W1 m1 hE hM hV hD; obtain ⟨⟨_, _, -, -, f29⟩, -⟩ := hD
     rw [(f29 : vs 29 = _)]; clear f29; exact sFe
    ·intro vs W1 m1 hE hM hV hD; obtain ⟨⟨_, _, -, -, f34⟩, ⟨_, _, -, -, f29⟩, -⟩ := hD
     rw [(f34 : vs 34 = _), (f29 : vs 29 = _)]; clear f34 f29; exact sLe
    ·intro vs W1 m1 hE hM hV hD; obtain ⟨⟨_, _, -, -, f35⟩, ⟨_, _, -, -, f29⟩, -⟩ := hD
     rw [(f35 : vs 35 = _), (f29 : vs 29 = _)]
     clear f35 f29
     replace hL := hL.call hE hM hV
     go_wp2_with (first | go_skip | refine tP ?_ | (refine tB ?_; clear hL; intro _ _ hL _) | (refine tC ?_; clear hL; intro _ _ hL _ hBs))
     refine One2.still hV ?_; exact rfl
    ·intro vs W1 m1 hE hM hV hD; obtain ⟨⟨_, _, -, -, f33⟩, ⟨_, _, -, -, f36⟩, ⟨_, _, -, -, f29⟩, -⟩ := hD
     rw [(f33 : vs 33 = _), (f36 : vs 36 = _), (f29 : vs 29 = _)]; clear f33 f36 f29; exact sPw
    ·intro vs W1 m1 hE hM hV hD; obtain ⟨⟨_, _, -, -, f29⟩, ⟨_, _, -, -, f37⟩, -⟩ := hD
     rw [(f29 : vs 29 = _), (f37 : vs 37 = _)]; clear f29 f37; exact sPw
   case l7 =>
    refine ⟨nF, nF, nF, nF, nF, nF, nF, nF, nF, nF, nF, nF, nF, nF, nF, trivial⟩
   intro vs W1 m1 hE hM hV hF hD
   clear hD
   obtain ⟨-, -, -, -, -, -, -, -, -, -, -, -, -, -, ⟨_, _, -, -, f38⟩, -⟩ := hF
   replace hL := hL.call hE hM hV
   have f38 : vs 38 = _ := f38
   generalize vs 38 = x38 at f38 ⊢
   subst x38
   clear hE hV
   simp only [List.drop_succ_cons, List.drop_zero]
   go_wp2_with (first | go_skip | refine tP ?_ | (refine tB ?_; clear hL; intro _ _ hL _) | (refine tC ?_; clear hL; intro _ _ hL _ hBs))
   refine QN.mk ?_
   go_wp2_with (first | go_skip | refine tP ?_ | (refine tB ?_; clear hL; intro _ _ hL _) | (refine tC ?_; clear hL; intro _ _ hL _ hBs))
   go_roundw
   case rel => exact ⟨k + 1, _, by omega, by go_num, hL, hXM.trans exX⟩
   case measure => simp [intOf] <;> omega
  ·have hkn : k = nx := by omega
   subst hkn
   have h9 : (k : Int) ≤ (k : Int) := Int.le_refl _
   go_wp2_with (first | go_skip | refine tP ?_ | (refine tB ?_; clear hL; intro _ _ hL _) | (refine tC ?_; clear hL; intro _ _ hL _ hBs))
   refine (KA.out _ _ hL.vw leX).mono ?_
   rintro e Wc2 ⟨_, mc2, rfl, hE, hMc2, hV, rfl⟩
   replace hL := hL.call hE (by assumption) hV; clear hE hV
   have hX2 : Ext m2 mc2 := hXM.trans exX
   clear h9 hXM HXM hMc2
   go_wp2_with (first | go_skip | refine tP ?_ | (refine tB ?_; clear hL; intro _ _ hL _) | (refine tC ?_; clear hL; intro _ _ hL _ hBs))
   go_loopw [8, 9, 10] (fun uv tv iv wr => ∃ (i : Nat) (m4 : World) (q : Nat) (Rr : List Lo), i ≤ k ∧ tv = .int .i64 (totF ms xs i) ∧ iv = .int .i64 (i : Int) ∧ Loc w m wr m4 Rr ∧ Hid (Ext m2 m4) ∧ Hid (RowA 3 1 IsI m4 uv q (usdF ms xs i) Rr) ∧ Hid (q ≤ 32 * i)) (fun _ _ iv _ => k - (intOf iv).toNat)
   case atStart => exact ⟨0, _, 0, [], Nat.zero_le _, by rw [HT0.out, HW1.out], rfl, hL, hX2, RowA.nil, Nat.zero_le _⟩
   case round =>
    clear hL hX2
    obtain ⟨i, m4, q, Rr, hi, rfl, rfl, hL, HX4, row, HQ⟩ := hrel
    have hX4 := HX4.out
    obtain ⟨A8, c8, rfl, row1⟩ := row.out.lit
    have ROW := Lib.hid row1
    clear row row1
    by_cases hlt2 : i < k
    ·have hlt2' : (i : Int) < (k : Int) := by omega
     obtain ⟨j, hj⟩ := at_some HN2 hlt2
     obtain ⟨b1, o1, rfl, hc1⟩ := IntL.at_ HCH.out (natL_at hj)
     have hjc : j < nc := HLT.out j (List.mem_of_getElem? hj)
     obtain ⟨⟨s, ds, cost⟩, hx⟩ := at_some HN1 hjc
     obtain ⟨b2, o2, D, cd, rfl, hds, hr1⟩ := ColL.at_ HCO.out hx
     obtain ⟨i1, i2, i3, i4, i5, i6, i7⟩ := HC.out _ (List.mem_of_getElem? hx)
     obtain ⟨hc0, hc9⟩ := HC0.out _ (List.mem_of_getElem? hx)
     have hn32 := HLN.out _ (List.mem_of_getElem? hx)
     simp only at hds hr1 i1 i2 i3 i4 i5 i6 i7 hc0 hc9 hn32
     have hr3 := range_two hr1
     have hcc := hr1 2 _ rfl
     have HD := Lib.hid hds
     have H3 := Lib.hid i3
     have H4 := Lib.hid i4
     have HOP : Hid (opJ ms j = opF ds) := by
      show _ = _
      exact opJ_at (by rw [HMC.out]; exact hx)
     have HUS := Lib.hid (usdF_step (ms := ms) hj)
     have HTS := Lib.hid (totF_step (ms := ms) hj)
     have HG : Hid (gJ ms j = cost - pen * ((opF ds).length : Int)) := by
      show _ = _
      unfold gJ
      rw [HOP.out, HMP.out, coJ_at (ms := ms) (x := (s, ds, cost)) (by rw [HMC.out]; exact hx)]
     have htb := HTB.out i (by omega)
     have htb2 := HTB.out (i + 1) (by omega)
     have HNEW : Hid (∀ (t : Nat) (r : Int), (opF ds)[t]? = some r → r ∉ usdF ms xs i ++ (opF ds).take t) := by
      show ∀ t r, _
      intro t r hr
      rw [← HOP.out] at hr ⊢
      exact HSEL.out.new HND.out hj hr
     clear hj hx hds i1 i2 i3 i4 i5 i6 i7 hr1
     rw [HOP.out] at HUS
     rw [HG.out] at HTS
     generalize hnd : ds.length = nd at *
     have HND2 := Lib.hid hnd
     clear hnd
     generalize htt : totF ms xs i = tt at *
     have HTT := Lib.hid htt
     clear htt
     generalize htt1 : totF ms xs (i + 1) = tt1 at *
     have HTT1 := Lib.hid htt1
     clear htt1
     generalize hus1 : usdF ms xs (i + 1) = us1 at *
     have HUS1 := Lib.hid hus1
     clear hus1
     generalize usdF ms xs i = us0 at *
     have hq32 : q ≤ 192 := by have := HQ.out; omega
     go_upto_region 16 with ((first | go_skip | refine tP ?_ | (refine tB ?_; clear hL; intro _ _ hL _) | (refine tC ?_; clear hL; intro _ _ hL _ hBs)))
     (try simp only [eq_self] at *)
     refine wp_region_by2 10 [false, false, false, false, false, false, false, false, false, false] [false, false, false, false, false, false, false, false, false, false] [(fun v _ _ => v = ?c16_0), (fun v _ _ => v = ?c16_1), (fun v _ _ => v = ?c16_2), (fun v _ _ => v = ?c16_3), (fun v _ _ => v = ?c16_4), (fun v _ _ => v = ?c16_5), (fun v _ _ => v = ?c16_6), (fun v _ _ => v = ?c16_7), (fun v _ _ => v = ?c16_8), Of (fun um v => IntL um v (opF ds))] hL.vw mixed [54, 55, 56, 57, 58, 59, 60, 61, 62, 63] _ (by kernel_rfl) (fun vs => by simp only [lay, Act.put, zq1, zq2, zq3]; rfl) (by kernel_rfl) (by decide) (by decide) ?s16 ?l16 ?r16
     case s16 =>
      refine ⟨?_, ?_, ?_, ?_, ?_, ?_, ?_, ?_, ?_, ?_, trivial⟩
      ·intro vs W1 m1 hE hM hV hD; clear hD
       exact sFe
      ·intro vs W1 m1 hE hM hV hD; obtain ⟨⟨_, _, -, -, f54⟩, -⟩ := hD
       rw [(f54 : vs 54 = _)]; clear f54; exact sLe
      ·intro vs W1 m1 hE hM hV hD; clear hD
       exact sPw
      ·intro vs W1 m1 hE hM hV hD; clear hD
       exact sPw
      ·intro vs W1 m1 hE hM hV hD; obtain ⟨⟨_, _, -, -, f56⟩, ⟨_, _, -, -, f57⟩, -⟩ := hD
       rw [(f56 : vs 56 = _), (f57 : vs 57 = _)]; clear f56 f57; exact sIy
      ·intro vs W1 m1 hE hM hV hD; obtain ⟨⟨_, _, -, -, f58⟩, -⟩ := hD
       rw [(f58 : vs 58 = _)]; clear f58; exact sLe
      ·intro vs W1 m1 hE hM hV hD; obtain ⟨⟨_, _, -, -, f55⟩, ⟨_, _, -, -, f59⟩, -⟩ := hD
       rw [(f55 : vs 55 = _), (f59 : vs 59 = _)]; clear f55 f59; exact sIy
      ·intro vs W1 m1 hE hM hV hD; obtain ⟨⟨_, _, -, -, f60⟩, -⟩ := hD
       rw [(f60 : vs 60 = _)]; clear f60; exact sFe
      ·intro vs W1 m1 hE hM hV hD; obtain ⟨⟨_, _, -, -, f61⟩, -⟩ := hD
       rw [(f61 : vs 61 = _)]; clear f61; exact sLe
      ·intro vs W1 m1 hE hM hV hD; obtain ⟨⟨_, _, -, -, f62⟩, -⟩ := hD
       rw [(f62 : vs 62 = _)]
       clear f62
       go_wp2_with fail
       refine (r_Operated s _ ds _ _ hV (DutsL.le HD.out leX) (by rw [HND2.out]; exact H3.out) H4.out).mono ?_
       rintro e W2 ⟨v, m2, rfl, hE2, hM2, hV2, h⟩
       go_wp2_with fail
       refine One2.call hE2 hM2 hV2 ?_; first | exact h | exact rfl
     case l16 =>
      refine ⟨nF, nF, nF, nF, nF, nF, nF, nF, nF, nF, trivial⟩
     intro vs W1 m1 hE hM hV hF hD
     clear hD
     obtain ⟨-, -, -, -, -, -, -, -, -, ⟨_, _, -, i63, f63⟩, -⟩ := hF
     replace hL := hL.call hE hM hV
     replace f63 : IntL _ (vs 63) (opF ds) := f63
     replace f63 := f63.le i63.le
     clear i63
     clear hE hV
     obtain ⟨O, co, e63, -, f63⟩ := f63.lit
     generalize vs 63 = x63 at e63 ⊢
     subst x63
     simp only [List.drop_succ_cons, List.drop_zero]
     go_wp2_with (first | go_skip | refine tP ?_ | (refine tB ?_; clear hL; intro _ _ hL _) | (refine tC ?_; clear hL; intro _ _ hL _ hBs))
     refine QN.mk ?_
     have HOL := Lib.hid f63
     have HX6 : Hid (Ext m2 m1) := hX4.trans exX
     have ROW1 := Lib.hid (RowA.le isI_mono ROW.out (leX : Le m4 m1))
     clear f63 ROW hX4 HX4
     generalize hno : (opF ds).length = no at *
     have HNO := Lib.hid hno
     clear hno
     have hpn : 0 ≤ pen * (no : Int) ∧ pen * (no : Int) ≤ 32000 := by
      have h4 : pen * (no : Int) ≤ 1000 * 32 := Int.mul_le_mul hp1 (by omega) (by omega) (by omega)
      have h5 : 0 ≤ pen * (no : Int) := Int.mul_nonneg hp0 (by omega)
      omega
     have HPN := Lib.hid hpn
     have HTB1 := Lib.hid htb
     have HTB2 := Lib.hid htb2
     have HCB := Lib.hid (And.intro hc0 hc9)
     clear hpn htb htb2 hc0 hc9
     have hnx6 : k ≤ 6 := h6
     go_wp2_with (first | go_skip | refine tP ?_ | (refine tB ?_; clear hL; intro _ _ hL _) | (refine tC ?_; clear hL; intro _ _ hL _ hBs))
     go_loopw [8, 9, 12] (fun uv tv iv wr => ∃ (t : Nat) (st : Int) (m5 : World) (q2 : Nat) (R2 : List Lo), t ≤ no ∧ tv = .int .i64 st ∧ iv = .int .i64 (t : Int) ∧ Loc w m wr m5 R2 ∧ Hid (Ext m1 m5) ∧ Hid (st = tt - pen * (t : Int)) ∧ Hid (RowA 3 1 IsI m5 uv q2 (us0 ++ (opF ds).take t) R2) ∧ Hid (q2 = q + t)) (fun _ _ iv _ => no - (intOf iv).toNat)
     case atStart => exact ⟨0, tt, _, q, _, Nat.zero_le _, rfl, rfl, hL, Ext.refl _, (by show _ = _; omega), (by show RowA _ _ _ _ _ _ _ _; rw [List.take_zero, List.append_nil]; exact ROW1.out), (by show _ = _; omega)⟩
     case round =>
      clear hL ROW1
      obtain ⟨t, st, m5, q2, R2, ht, rfl, rfl, hL, HX5, HST, row, HQ2⟩ := hrel
      have hX5 := HX5.out
      obtain ⟨A9, c9, rfl, row1⟩ := row.out.lit
      have ROW := Lib.hid row1
      clear row row1
      have hst : -300000 ≤ st ∧ st ≤ 300000 := by
       have h1 := HST.out
       have h2 := HTB1.out
       have h4 : pen * (t : Int) ≤ 1000 * 32 := Int.mul_le_mul hp1 (by omega) (by omega) (by omega)
       have h5 : 0 ≤ pen * (t : Int) := Int.mul_nonneg hp0 (by omega)
       omega
      obtain ⟨hs1, hs2⟩ := hst
      by_cases hlt3 : t < no
      ·have hlt3' : (t : Int) < (no : Int) := by omega
       obtain ⟨r, hr⟩ := at_some HNO hlt3
       obtain ⟨b5, o5, rfl, hc5⟩ := IntL.at_ HOL.out hr
       have HNR : Hid (r ∉ us0 ++ (opF ds).take t) := HNEW.out t r hr
       have HSN : Hid ((us0 ++ (opF ds).take t) ++ [r] = us0 ++ (opF ds).take (t + 1)) := by
        show _ = _
        rw [List.append_assoc, take_snoc hr]
       have HSL : Hid ((us0 ++ (opF ds).take t).length ≤ 1000000) := by
        show _ ≤ _
        have h1 := ROW.out.len
        have h2 := HQ2.out
        omega
       have HST2 : Hid (st - pen = tt - pen * ((t + 1 : Nat) : Int)) := by
        show _ = _
        rw [HST.out, Int.natCast_add, Int.mul_add]; omega
       have hw : wrap64 (st - pen) = st - pen := by unfold wrap64; omega
       have hq2 : q2 ≤ 300 := by have := HQ2.out; omega
       clear hr
       go_wp2_with (first | go_skip | refine tP ?_ | (refine tB ?_; clear hL; intro _ _ hL _) | (refine tC ?_; clear hL; intro _ _ hL _ hBs))
       obtain ⟨m9, hL9, hle9, hl9, -⟩ := RowA.show (A := []) isI_mono hL ROW.out
       refine (r_Has _ (us0 ++ (opF ds).take t) r _ _ hL9.vw hl9 HSL.out).mono ?_
       rintro e Wh ⟨_, mh, rfl, hE, -, -, rfl⟩
       have hLc := hL.again hE
       have hXc := hL.again_ext hE
       have ROWC := Lib.hid (RowA.le isI_mono ROW.out hXc.le)
       have hc5' := hXc.le.cell _ _ (hX5.le.cell _ _ hc5)
       have HXC := Lib.hid (hX5.trans hXc)
       rw [decide_eq_false HNR.out]
       clear hL hL9 hle9 hl9 hE ROW hc5 hX5 HX5 mh m9
       have hL := hLc
       clear hLc
       have HXC2 := Lib.hid hXc
       clear hXc
       generalize hidTo m5 Wh.heap.size = m6 at *
       have hb2' := (HXC.out.le.trans (Le.refl _)).cell _ _ (HX6.out.le.cell _ _ hb2)
       go_wp2_with (first | go_skip | refine tP ?_ | (refine tB ?_; clear hL; intro _ _ hL _) | (refine tC ?_; clear hL; intro _ _ hL _ hBs))
       refine goA ?_
       obtain ⟨vs7, r7, z7, y7, l7⟩ := ROWC.out
       refine wl_append (A := []) hL r7 (wanted_none rfl) rfl ap_ints (by omega) rfl rfl (news := [.int .i64 r]) rfl ((Blk.sl hBs (n := 1) rfl).le hL.vw.le) rfl (by omega) (by omega) ?_
       have HX7 := Lib.hid (Loc.extOf2 hL (exX : Ext m6 _))
       clear hL
       intro v1 W5 m7 R5 hL r8 e8
       obtain ⟨A11, c11, rfl, -⟩ := r8.lit
       simp only [List.nil_append] at hL
       have rd2 := RowA.snocV (R := IsI) (m := m7) (x := r) r8 z7 (y7.mono fun _ _ hv => hv) l7 rfl rfl rfl
       rw [HSN.out] at rd2
       have hb2n := (HX7.out.trans e8).le.cell _ _ hb2'
       simp only [Act.put, zq1, zq2, zq3]
       go_wp2_with (first | go_skip | refine tP ?_ | (refine tB ?_; clear hL; intro _ _ hL _) | (refine tC ?_; clear hL; intro _ _ hL _ hBs))
       go_roundw
       case rel => exact ⟨t + 1, st - pen, m7, q2 + 1, R5, by omega, by go_num, by go_num, hL, HXC.out.trans (HX7.out.trans e8), HST2.out, rd2, (by show _ = _; have := HQ2.out; omega)⟩
       case measure => simp [intOf] <;> omega
      ·have htn : t = no := by omega
       subst htn
       have h8 : (t : Int) ≤ (t : Int) := Int.le_refl _
       have HSE : Hid (us0 ++ (opF ds).take t = us1) := by
        show _ = _
        rw [List.take_of_length_le (Nat.le_of_eq HNO.out), ← HUS.out]
       have HW : Hid (wrap64 (st + cost) = tt1) := by
        show _ = _
        have h1 := HST.out
        have h2 := HTS.out
        have h3 := HCB.out
        unfold wrap64; omega
       have hX6 := HX6.out.trans hX5
       have hc1' := hc1
       clear hX5 HX5
       go_upto_region 24 with ((first | go_skip | refine tP ?_ | (refine tB ?_; clear hL; intro _ _ hL _) | (refine tC ?_; clear hL; intro _ _ hL _ hBs)))
       clear h8
       (try simp only [eq_self] at *)
       refine wp_region_by2 11 [false, false, false, false, false, false, false, false, false, false, false] [false, false, false, false, false, false, false, false, false, false, false] [(fun v _ _ => v = ?c24_0), (fun v _ _ => v = ?c24_1), (fun v _ _ => v = ?c24_2), (fun v _ _ => v = ?c24_3), (fun v _ _ => v = ?c24_4), (fun v _ _ => v = ?c24_5), (fun v _ _ => v = ?c24_6), (fun v _ _ => v = ?c24_7), (fun v _ _ => v = ?c24_8), (fun v _ _ => v = ?c24_9), (fun v _ _ => v = ?c24_10)] hL.vw mixed [87, 88, 89, 90, 91, 92, 93, 94, 95, 96, 97] _ (by kernel_rfl) (fun vs => by simp only [lay, Act.put, zq1, zq2, zq3]; rfl) (by kernel_rfl) (by decide) (by decide) ?s24 ?l24 ?r24
       case s24 =>
        refine ⟨?_, ?_, ?_, ?_, ?_, ?_, ?_, ?_, ?_, ?_, ?_, trivial⟩
        ·intro vs W1 m1 hE hM hV hD; clear hD
         exact sPw
        ·intro vs W1 m1 hE hM hV hD; clear hD
         exact sFe
        ·intro vs W1 m1 hE hM hV hD; obtain ⟨⟨_, _, -, -, f88⟩, -⟩ := hD
         rw [(f88 : vs 88 = _)]; clear f88; exact sLe
        ·intro vs W1 m1 hE hM hV hD; clear hD
         exact sPw
        ·intro vs W1 m1 hE hM hV hD; clear hD
         exact sPw
        ·intro vs W1 m1 hE hM hV hD; obtain ⟨⟨_, _, -, -, f90⟩, ⟨_, _, -, -, f91⟩, -⟩ := hD
         rw [(f90 : vs 90 = _), (f91 : vs 91 = _)]; clear f90 f91; exact sIy
        ·intro vs W1 m1 hE hM hV hD; obtain ⟨⟨_, _, -, -, f92⟩, -⟩ := hD
         rw [(f92 : vs 92 = _)]; clear f92; exact sLe
        ·intro vs W1 m1 hE hM hV hD; obtain ⟨⟨_, _, -, -, f89⟩, ⟨_, _, -, -, f93⟩, -⟩ := hD
         rw [(f89 : vs 89 = _), (f93 : vs 93 = _)]; clear f89 f93; exact sIy
        ·intro vs W1 m1 hE hM hV hD; obtain ⟨⟨_, _, -, -, f94⟩, -⟩ := hD
         rw [(f94 : vs 94 = _)]; clear f94; exact sFe
        ·intro vs W1 m1 hE hM hV hD; obtain ⟨⟨_, _, -, -, f95⟩, -⟩ := hD
         rw [(f95 : vs 95 = _)]; clear f95; exact sLe
        ·intro vs W1 m1 hE hM hV hD; obtain ⟨⟨_, _, -, -, f87⟩, ⟨_, _, -, -, f96⟩, -⟩ := hD
         rw [(f87 : vs 87 = _), (f96 : vs 96 = _)]; clear f87 f96; exact sPw
       case l24 =>
        refine ⟨nF, nF, nF, nF, nF, nF, nF, nF, nF, nF, nF, trivial⟩
       intro vs W1 m1 hE hM hV hF hD
       clear hD
       obtain ⟨-, -, -, -, -, -, -, -, -, -, ⟨_, _, -, -, f97⟩, -⟩ := hF
       replace hL := hL.call hE hM hV
       have f97 : vs 97 = _ := f97
       generalize vs 97 = x97 at f97 ⊢
       subst x97
       clear hE hV
       simp only [List.drop_succ_cons, List.drop_zero]
       go_wp2_with (first | go_skip | refine tP ?_ | (refine tB ?_; clear hL; intro _ _ hL _) | (refine tC ?_; clear hL; intro _ _ hL _ hBs))
       refine QN.mk ?_
       go_wp2_with (first | go_skip | refine tP ?_ | (refine tB ?_; clear hL; intro _ _ hL _) | (refine tC ?_; clear hL; intro _ _ hL _ hBs))
       go_roundw
       case rel => exact ⟨i + 1, _, q2, R2, by omega, by rw [HW.out, HTT1.out], by go_num, hL, hX6.trans exX, by rw [HUS1.out, ← HSE.out]; exact RowA.le isI_mono ROW.out leX, (by show _ ≤ _; have := HQ.out; have := HQ2.out; omega)⟩
       case measure => simp [intOf] <;> omega
    ·have hik : i = k := by omega
     subst hik
     have h9 : (i : Int) ≤ (i : Int) := Int.le_refl _
     have HE := Lib.hid (totF_all (ms := ms) (xs := xs) (i := i) (Nat.le_of_eq HN2.out))
     rw [HE.out]
     go_wp2_with (first | go_skip | refine tP ?_ | (refine tB ?_; clear hL; intro _ _ hL _) | (refine tC ?_; clear hL; intro _ _ hL _ hBs))
     go_ret2
     exact RetV.mk hL rfl
end Go.Proofs.YtniigfikpfinfaaGreat

/- pairinglaw30.mixed: weights of classes, in ninths. -/
namespace Go.Proofs.YtniigfikpfinfaaGreat
open Go.RowKit

def OwnF (w m : World) (xs : List Rat) (en : Ending) (w' : World) : Prop :=
 ∃ v m' Rr, en = .returned v ∧ Loc w m w' m' Rr ∧ RowA 39 4 FracC m' v xs.length xs Rr
theorem r_ZerosR (n : Nat) (hn : n ≤ 1000) (w m : World) (hV : Vw m w) : Calls Tryz.prog 118 #[.int .i64 n] w (OwnF w m (List.replicate n 0)) := by
 have hL := Loc.start hV
 clear hV
 go_enter Tryz.func118, Tryz.ntmps118
 go_wp2_with (first | go_skip | refine tP ?_ | (refine tC ?_; clear hL; intro _ _ hL _ hBs))
 go_loopw [3, 4] (fun ov i wr => ∃ (j : Nat) (mm : World) (Rr : List Lo), j ≤ n ∧ i = .int .i64 j ∧ Loc w m wr mm Rr ∧ Hid (RowA 39 4 FracC mm ov j (List.replicate j 0) Rr)) (fun _ i _ => n - (intOf i).toNat)
 case atStart => exact ⟨0, _, [], Nat.zero_le _, rfl, hL, RowA.nil⟩
 case round =>
  clear hL
  obtain ⟨j, mm, Rr, hj, rfl, hL, row⟩ := hrel
  obtain ⟨A3, c3, rfl, row1⟩ := row.out.lit
  have ROW := Lib.hid row1
  clear row row1
  by_cases hlt : j < n
  ·have hlt' : (j : Int) < (n : Int) := by omega
   have HT : Hid (List.replicate j (0 : Rat) ++ [((0 : Int) : Rat)] = List.replicate (j + 1) 0) := by
    show _ = _
    rw [List.replicate_succ']; rfl
   go_wp2_with (first | go_skip | refine tP ?_ | (refine tC ?_; clear hL; intro _ _ hL _ hBs))
   refine (r_Int 0 _ _ hL.vw (by decide) (by decide)).mono ?_
   rintro e Wc1 ⟨vc1, mc1, rfl, hE, hMc1, hV, hc1⟩
   replace hL := hL.call hE (by assumption) hV; clear hE hV
   obtain ⟨gc1', Ac1', nc1', cc1', hc1', Bc1', kc1', dc1', rfl, hc1⟩ := hc1.lit
   have HZ := Lib.hid hc1
   clear hc1
   go_wp2_with (first | go_skip | refine tP ?_ | (refine tC ?_; clear hL; intro _ _ hL _ hBs))
   refine goA ?_
   obtain ⟨vs7, r7, z7, y7, l7⟩ := ROW.out
   refine wl_append (A := []) hL r7 (wanted_none rfl) rfl ap_Fracs (by omega) rfl rfl (news := [.bool gc1', .slice Ac1' nc1' cc1', .bool hc1', .slice Bc1' kc1' dc1']) rfl ((Blk.sl hBs (n := 4) rfl).le hL.vw.le) rfl (by omega) (by omega) ?_
   have HX7 := Lib.hid hL.mext
   clear hL
   intro v1 W5 m5 R5 hL r8 e8
   obtain ⟨A11, c11, rfl, -⟩ := r8.lit
   simp only [List.nil_append] at hL
   have rd := RowA.snoc (R := FracC) (m := m5) (x := ((0 : Int) : Rat)) r8 z7 (y7.mono fun v x hv => hv.le leX) l7 rfl (HZ.out.le leX)
   rw [HT.out] at rd
   have RD := Lib.hid rd
   clear rd r8 r7 z7 y7 l7
   simp only [Act.put, zq1, zq2, zq3]
   go_wp2_with (first | go_skip | refine tP ?_ | (refine tC ?_; clear hL; intro _ _ hL _ hBs))
   go_roundw
   case rel => exact ⟨j + 1, m5, R5, by omega, by go_num, hL, RD.out⟩
   case measure => simp [intOf] <;> omega
  ·have hjk : n = j := by omega
   subst hjk
   have h9 : (n : Int) ≤ (n : Int) := Int.le_refl _
   go_wp2_with (first | go_skip | refine tP ?_ | (refine tC ?_; clear hL; intro _ _ hL _ hBs))
   go_ret
   refine ⟨_, mm, Rr, rfl, hL, ?_⟩
   rw [List.length_replicate]
   exact ROW.out
theorem ninL_zero (n : Nat) : List.replicate n (0 : Rat) = ninL (fun _ => 0) n := by
 refine List.ext_getElem? fun k => ?_
 by_cases hk : k < n
 ·rw [ninL_at hk, List.getElem?_replicate, if_pos hk, ← nin_zero]; rfl
 ·rw [List.getElem?_eq_none (by simp; omega), List.getElem?_eq_none (by rw [ninL_len]; omega)]
theorem RowA.appI {m : World} {v' : Value} {n k : Nat} {used l : List Int} {vs : List Value} {R' : List Lo} (r : Row 3 1 v' (n + k) (cellsOf vs ++ l.map I64) R') (y : All2 (IsI m) vs used) (hn : vs.length = n) (hk : l.length = k) : RowA 3 1 IsI m v' (n + k) (used ++ l) R' := by
 have hv := all2_ints y
 subst hv
 refine ⟨(used ++ l).map I64, ?_, fun u hu => by obtain ⟨x, -, rfl⟩ := List.mem_map.1 hu; rfl, all2_of_ints m _, ?_⟩
 ·rw [cellsOf_ints] at r ⊢
  rw [List.map_append]; exact r
 ·rw [List.length_map] at hn ⊢
  rw [List.length_append]; omega
theorem frac_rw {m : World} {v : Value} {n g : Nat} {cur : Array Value} {xs : List Rat} {e : TypeId} (h : RowA e 4 FracC m v n xs [(g, e, cur)]) {k : Nat} {x : Rat} (hk : xs[k]? = some x) :
  ∃ a A n' c f B p d, FracC m (.agg #[.bool a, .slice A n' c, .bool f, .slice B p d]) x ∧ ∀ j, j < 4 → cur[0 + k * 4 + j]? = [.bool a, .slice A n' c, .bool f, .slice B p d][j]? := by
 obtain ⟨u, hu, -, hr⟩ := h.at_ hk
 obtain ⟨a, A, n', c, f, B, p, d, rfl, hf⟩ := hu.lit
 refine ⟨a, A, n', c, f, B, p, d, hf, fun j hj => ?_⟩
 rw [hr j hj]
 simp [Value.cells]
def freT (used l : List Int) (k : Nat) : Bool := decide (∀ t, t < k → ∀ r, l[t]? = some r → r ∉ used)
theorem freT_zero (used l : List Int) : freT used l 0 = true := decide_eq_true fun t h => by omega
theorem freT_step {used l : List Int} {k : Nat} {r : Int} (h : l[k]? = some r) : freT used l (k + 1) = (freT used l k && !decide (r ∈ used)) := by
 unfold freT
 rw [Bool.eq_iff_iff]
 simp only [decide_eq_true_eq, Bool.and_eq_true, Bool.not_eq_true', decide_eq_false_iff_not]
 constructor
 ·exact fun a => ⟨fun t ht => a t (by omega), a k (by omega) r h⟩
 ·rintro ⟨a, b⟩ t ht x hx
  rcases Nat.lt_succ_iff_lt_or_eq.1 ht with h' | rfl
  ·exact a t h' x hx
  ·rw [h] at hx; cases hx; exact b
theorem freT_all {used l : List Int} {k : Nat} (h : l.length ≤ k) : freT used l k = true ↔ ∀ r ∈ l, r ∉ used := by
 unfold freT
 rw [decide_eq_true_eq]
 constructor
 ·intro a r hr
  obtain ⟨t, ht⟩ := List.mem_iff_getElem?.1 hr
  exact a t (by have := (List.getElem?_eq_some_iff.1 ht).1; omega) r ht
 ·exact fun a t _ r hr => a r (List.mem_of_getElem? hr)
theorem bit01 (z : Int) : z % 2 = 0 ∨ z % 2 = 1 := by omega
theorem nin_int (z : Int) : ((z : Int) : Rat) = Rat.divInt (9 * z) 9 := by
 rw [← rat_one, ← Rat.divInt_mul_left (n := z) (d := 1) (a := 9) (by decide)]; rfl
theorem nin_third (z : Int) : Rat.divInt z 3 = Rat.divInt (3 * z) 9 := by
 rw [← Rat.divInt_mul_left (n := z) (d := 3) (a := 3) (by decide)]; rfl

theorem nin_sub (p : Int) : ((1 : Int) : Rat) - Rat.divInt p 9 = Rat.divInt (9 - p) 9 := by
 rw [nin_int 1, Rat.sub_eq_add_neg, Rat.neg_divInt, ← add_same (by decide)]; rfl
theorem nin_mul {a p : Int} (h : a * p / 9 * 9 = a * p) : Rat.divInt a 9 * Rat.divInt p 9 = Rat.divInt (a * p / 9) 9 := by
 rw [Rat.divInt_mul_divInt, ← Rat.divInt_mul_right (n := a * p / 9) (d := 9) (a := 9) (by decide), h]
theorem nin_fit {z : Int} (h : z.natAbs ≤ 100) : Fit 200 (Rat.divInt z 9) := by
 have : Tn 1000 (Rat.divInt z 9) := Tn.divInt (by decide) (by omega) (by omega)
 exact this.fit (by decide)
structure MixS (ms : Ms) (nc : Nat) (z : Nat → Int) (j : Nat) (z2 : Nat → Int) (i2 : Nat) : Prop where
 way : i2 = j ∨ (i2 ≠ j ∧ i2 < nc ∧ opJ ms i2 = opJ ms j)
 old : ∀ k, k ≠ j → k ≠ i2 → z2 k = z k
 zj : z2 j = 9 ∨ z2 j = 6 ∨ z2 j = 3
 zi : 0 ≤ z2 i2
 sum : (if i2 = j then z2 j else z2 j + z2 i2) = 9
theorem MixS.alone {ms : Ms} {nc : Nat} {z : Nat → Int} {j : Nat} : MixS ms nc z j (upZ z j (9 * 1)) j :=
 ⟨.inl rfl, fun k h _ => upZ_ne _ _ h, .inl (by rw [upZ_at]; rfl), by rw [upZ_at]; decide, by rw [if_pos rfl, upZ_at]; rfl⟩
theorem MixS.two {ms : Ms} {nc : Nat} {z : Nat → Int} {i j : Nat} {b : Int} (hb : b = 0 ∨ b = 1) (hij : i ≠ j) (hi : i < nc) (he : opJ ms i = opJ ms j) :
  MixS ms nc z j (upZ (upZ (upZ z j (9 * 1)) i (3 * (1 + b))) j (9 - 3 * (1 + b))) i := by
 have e1 : upZ (upZ (upZ z j (9 * 1)) i (3 * (1 + b))) j (9 - 3 * (1 + b)) i = 3 * (1 + b) := by rw [upZ_ne _ _ hij, upZ_at]
 refine ⟨.inr ⟨hij, hi, he⟩, fun k h1 h2 => by rw [upZ_ne _ _ h1, upZ_ne _ _ h2, upZ_ne _ _ h1], ?_, ?_, ?_⟩
 ·rw [upZ_at]; omega
 ·rw [e1]; omega
 ·rw [if_neg hij, e1, upZ_at]; omega
theorem MixS.done {ms : Ms} {nc : Nat} {z z2 z3 : Nat → Int} {j i2 : Nat} {b : Int} {T : List Nat} {used : List Int} (h : MixS ms nc z j z2 i2) (hw : WOk (opJ ms) z nc T) (hu : ∀ r, r ∈ used ↔ ∃ t ∈ T, r ∈ opJ ms t) (hj : j < nc) (hne : 0 < (opJ ms j).length) (hf : ∀ r ∈ opJ ms j, r ∉ used) (hb : b = 0 ∨ b = 1)
  (h3 : z3 = z2 ∨ ((opJ ms j).length = 1 ∧ z3 = upZ z2 j (z2 j * (3 * (1 + b)) / 9))) : WOk (opJ ms) z3 nc (T ++ [j]) ∧ ∀ r, r ∈ used ++ opJ ms j ↔ ∃ t ∈ T ++ [j], r ∈ opJ ms t := by
 refine ⟨?_, fun r => ?_⟩
 ·have hd : ∀ t ∈ T, ∀ r, r ∈ opJ ms t → r ∉ opJ ms j := fun t ht r h1 h2 => hf r h2 ((hu r).2 ⟨t, ht, h1⟩)
  have hne' : opJ ms j ≠ [] := List.length_pos_iff.1 hne
  have hs := h.sum
  have hzj := h.zj
  have hzi := h.zi
  rcases h3 with rfl | ⟨h1, rfl⟩
  ·exact hw.more hj hne' hd h.way h.old (by omega) hzi (s := 9) hs.symm (by omega) (fun _ => rfl)
  ·have hq : 0 ≤ z2 j * (3 * (1 + b)) / 9 ∧ z2 j * (3 * (1 + b)) / 9 ≤ z2 j := by
    rcases hb with rfl | rfl <;> rcases hzj with e | e | e <;> rw [e] <;> decide
   generalize z2 j * (3 * (1 + b)) / 9 = y at *
   have hi2 : i2 ≠ j → upZ z2 j y i2 = z2 i2 := fun hne => upZ_ne _ _ hne
   refine hw.more hj hne' hd h.way (fun k h1 h2 => by rw [upZ_ne _ _ h1]; exact h.old k h1 h2) (by rw [upZ_at]; exact hq.1) ?_ rfl ?_ (fun h2 => by omega)
   ·by_cases e : i2 = j
    ·rw [e, upZ_at]; exact hq.1
    ·rw [hi2 e]; exact hzi
   ·by_cases e : i2 = j
    ·rw [if_pos e] at hs ⊢
     rw [upZ_at]; omega
    ·rw [if_neg e] at hs ⊢
     rw [hi2 e, upZ_at]; omega
 ·rw [List.mem_append, hu]
  constructor
  ·rintro (⟨t, ht, h1⟩ | h1)
   ·exact ⟨t, List.mem_append_left _ ht, h1⟩
   ·exact ⟨j, by simp, h1⟩
  ·rintro ⟨t, ht, h1⟩
   rcases List.mem_append.1 ht with ht | ht
   ·exact .inl ⟨t, ht, h1⟩
   ·rw [List.mem_singleton.1 ht] at h1; exact .inr h1

theorem l_mixed (xv : Value) (x : Ms) (n : Int) (w m : World) (hV : Vw m w) (hx : MasterR m xv x) (ok : MsOk x) (h6 : x.cols.length ≤ 6) :
  Calls Tryz.prog 57 #[xv, .int .i64 n] w (RetV w m fun m' r => ∃ z T, WOk (opJ x) z x.cols.length T ∧ FracL m' r (ninL z x.cols.length)) := by
 obtain ⟨ms, hms⟩ : ∃ ms, ms = x := ⟨_, rfl⟩
 rw [← hms]
 obtain ⟨nf, rws, pen, cols, cuts⟩ := x
 obtain ⟨va, vb, vc, rfl, ha, hb, hc⟩ := hx
 simp only at ha hb hc
 obtain ⟨A, ca, rfl, hca, ha⟩ := ha.lit
 obtain ⟨B, cb, rfl, hcb, hb⟩ := hb.lit
 obtain ⟨C, cc, rfl, hcc, hc⟩ := hc.lit
 have HCO := Lib.hid hb
 have HC : Hid (∀ c ∈ cols, ColOk rws c) := ok.cols
 have HLN : Hid (∀ c ∈ cols, (opF c.2.1).length ≤ 32) := by
  show ∀ c ∈ cols, _
  exact fun c hc => Nat.le_trans (nodup_length (ok.cols c hc).nodup (ok.cols c hc).sub) ok.r1
 have HMC : Hid (ms.cols = cols) := by show _ = _; rw [hms]
 have hfew : cols.length ≤ 6 := h6
 have hL := Loc.start hV
 clear hV ok ha hb hc hms h6
 rw [HMC.out]
 generalize hn1 : cols.length = nc at *
 have HN1 := Lib.hid hn1
 clear hn1
 generalize rws.length = nr at *
 generalize cuts.length = nk at *
 go_enter Tryz.func57, Tryz.ntmps57
 go_upto_region 0 with (fail)
 refine wp_region_lit ?_
 refine t_box hL rfl rfl ?_; clear hL; intro Wh2 mh2 hL eh2; simp only [Act.put, zq1, zq2, zq3]
 obtain ⟨m2, hL2, hle2, hbx⟩ := Loc.showBox (cs := [.int .i64 nf, .slice A nr ca, .int .i64 pen, .slice B nc cb, .slice C nk cc]) hL
 have hM2 := hL2.mext
 have hb3 := hbx 3 _ rfl
 clear hL hle2 hbx eh2
 have hL := hL2
 clear hL2
 go_wp2_with (first | go_skip | refine tP ?_ | (refine tS ?_; clear hL; intro _ hL) | (refine tB ?_; clear hL; intro _ _ hL _))
 refine (r_ZerosR nc (by omega) _ _ hL.vw).mono ?_
 rintro e Wz ⟨vz, mz, Rz, rfl, hLz, rowz⟩
 rw [List.length_replicate, ninL_zero] at rowz
 have hXz := hLz.mext
 have hJ := hL.join hLz
 rw [List.append_nil] at hJ
 clear hL hLz
 have hL := hJ
 clear hJ
 by_cases hnc : nc = 0
 ·subst hnc
  obtain ⟨m9, hL9, hle9, hl9, -⟩ := RowA.show (A := []) FracC.mono hL rowz
  have HFV := Lib.hid hl9
  have hb39 := hle9.cell _ _ (hXz.le.cell _ _ hb3)
  obtain ⟨A9, c9, rfl, -⟩ := rowz.lit
  clear hL rowz hl9 hle9 hXz
  have hL := hL9
  clear hL9
  go_wp2_with (first | go_skip | refine tP ?_ | (refine tS ?_; clear hL; intro _ hL) | (refine tB ?_; clear hL; intro _ _ hL _))
  refine wp_loop_once ?_
  go_wp2_with (first | go_skip | refine tP ?_ | (refine tS ?_; clear hL; intro _ hL) | (refine tB ?_; clear hL; intro _ _ hL _))
  go_ret
  exact RetV.mk hL ⟨_, _, WOk.nil, HFV.out⟩
 ·obtain ⟨gv, capv, curv, rfl, rfl, hcv, hsv⟩ := rowz.block (by omega)
  have ROWZ := Lib.hid rowz
  clear rowz hcv hsv hnc
  go_wp2_with (first | go_skip | refine tP ?_ | (refine tS ?_; clear hL; intro _ hL) | (refine tB ?_; clear hL; intro _ _ hL _))
  go_loopw [6, 7] (fun uv jv wr => ∃ (j : Nat) (mm : World) (cur : Array Value) (z : Nat → Int) (T : List Nat) (used : List Int) (q : Nat) (Ru : List Lo), j ≤ nc ∧ jv = .int .i64 (j : Int) ∧ Loc w m wr mm ((gv, 39, cur) :: Ru) ∧ Hid (Ext m2 mm) ∧ Hid (RowA 39 4 FracC mm (.slice (some ⟨gv, 0, none⟩) nc capv) nc (ninL z nc) [(gv, 39, cur)]) ∧ Hid (RowA 3 1 IsI mm uv q used Ru) ∧ Hid (WOk (opJ ms) z nc T) ∧ Hid (∀ r, r ∈ used ↔ ∃ t ∈ T, r ∈ opJ ms t) ∧ Hid (q ≤ 32 * j)) (fun _ jv _ => nc - (intOf jv).toNat)
  case atStart => exact ⟨0, _, curv, fun _ => 0, [], [], 0, [], Nat.zero_le _, rfl, hL, hXz, ROWZ.out, RowA.nil, WOk.nil, (fun r => ⟨fun h => (by cases h), fun ⟨_, h, _⟩ => (by cases h)⟩), Nat.zero_le _⟩
  case round =>
   clear hL hXz ROWZ
   obtain ⟨j, mm, cur, z, T, used, q, Ru, hj, rfl, hL, HXM, ROWF, row, HW, HUT, HQ⟩ := hrel
   have hXM := HXM.out
   obtain ⟨A6, c6, rfl, row1⟩ := row.out.lit
   have ROWU := Lib.hid row1
   clear row row1
   have hq : q ≤ 192 := by have := HQ.out; omega
   by_cases hlt : j < nc
   ·have hlt' : (j : Int) < (nc : Int) := by omega
    obtain ⟨⟨s, ds, cost⟩, hx⟩ := at_some HN1 hlt
    obtain ⟨b1, o1, D, cd, rfl, hds, hr1⟩ := ColL.at_ HCO.out hx
    obtain ⟨i1, i2, i3, i4, i5, i6, i7⟩ := HC.out _ (List.mem_of_getElem? hx)
    have hn32 := HLN.out _ (List.mem_of_getElem? hx)
    simp only at hds hr1 i1 i2 i3 i4 i5 i6 i7 hn32
    have hr3 := range_two hr1
    have HD := Lib.hid hds
    have H3 := Lib.hid i3
    have H4 := Lib.hid i4
    have HLP := Lib.hid i5
    have HOP : Hid (opJ ms j = opF ds) := by
     show _ = _
     exact opJ_at (by rw [HMC.out]; exact hx)
    clear hx hds i1 i2 i3 i4 i5 i6 i7 hr1
    generalize hnd : ds.length = nd at *
    have HND := Lib.hid hnd
    clear hnd
    go_wp2_with (first | go_skip | refine tP ?_ | (refine tS ?_; clear hL; intro _ hL) | (refine tB ?_; clear hL; intro _ _ hL _))
    refine (r_Operated s _ ds _ _ hL.vw (DutsL.le HD.out leX) (by rw [HND.out]; exact H3.out) H4.out).mono ?_
    rintro e Wo1 ⟨vo1, mo1, rfl, hE, hMo1, hV, ho1⟩
    replace hL := hL.call hE (by assumption) hV; clear hE hV
    obtain ⟨O, co, rfl, hco, ho1⟩ := ho1.lit
    have HOL := Lib.hid ho1
    have ROWF1 := Lib.hid (RowA.le FracC.mono ROWF.out (leX : Le mm mo1))
    have ROWU1 := Lib.hid (RowA.le isI_mono ROWU.out (leX : Le mm mo1))
    have HX1 : Hid (Ext m2 mo1) := hXM.trans exX
    clear ho1 hco ROWF ROWU hXM HXM hMo1
    generalize hno : (opF ds).length = no at *
    have HNO := Lib.hid hno
    clear hno
    go_wp2_with (first | go_skip | refine tP ?_ | (refine tS ?_; clear hL; intro _ hL) | (refine tB ?_; clear hL; intro _ _ hL _))
    go_loopw [9, 10] (fun fv kv wr => ∃ (k : Nat) (m3 : World), k ≤ no ∧ fv = .bool (freT used (opF ds) k) ∧ kv = .int .i64 (k : Int) ∧ Loc w m wr m3 ((gv, 39, cur) :: Ru) ∧ Hid (Ext mo1 m3)) (fun _ kv _ => no - (intOf kv).toNat)
    case atStart => exact ⟨0, _, Nat.zero_le _, by rw [freT_zero], rfl, hL, Ext.refl _⟩
    case round =>
     clear hL
     obtain ⟨k, m3, hk, rfl, rfl, hL, HX3⟩ := hrel
     have hX3 := HX3.out
     by_cases hlt2 : k < no
     ·have hlt2' : (k : Int) < (no : Int) := by omega
      obtain ⟨r, hr⟩ := at_some HNO hlt2
      obtain ⟨b5, o5, rfl, hc5⟩ := IntL.at_ HOL.out hr
      have HFS := Lib.hid (freT_step (used := used) hr)
      have HUL : Hid (used.length ≤ 1000000) := by
       show _ ≤ _
       have := ROWU1.out.len
       omega
      clear hr
      by_cases hfr : freT used (opF ds) k = true
      ·rw [hfr, Bool.true_and] at HFS
       rw [hfr]
       clear hfr
       have ROWU3 := RowA.le isI_mono ROWU1.out hX3.le
       obtain ⟨hb, hhb⟩ : ∃ hb, hb = decide (r ∈ used) := ⟨_, rfl⟩
       rw [← hhb] at HFS
       have HHB := Lib.hid hhb
       clear hhb
       go_wp2_with (first | go_skip | refine tP ?_ | (refine tS ?_; clear hL; intro _ hL) | (refine tB ?_; clear hL; intro _ _ hL _))
       obtain ⟨m9, hL9, hle9, hl9, -⟩ := RowA.show (A := [_]) isI_mono hL ROWU3
       refine (r_Has _ used r _ _ hL9.vw hl9 HUL.out).mono ?_
       rintro e Wh ⟨_, mh, rfl, hE, -, -, rfl⟩
       have hLc := hL.again hE
       have hXc := hL.again_ext hE
       have HXC : Hid (Ext mo1 _) := HX3.out.trans hXc
       rw [← HHB.out]
       clear hL hL9 hle9 hl9 hE hXc mh m9 ROWU3 hX3
       have hL := hLc
       clear hLc
       go_wp2_with (first | go_skip | refine tP ?_ | (refine tS ?_; clear hL; intro _ hL) | (refine tB ?_; clear hL; intro _ _ hL _))
       go_roundw
       case rel => exact ⟨k + 1, _, by omega, by rw [HFS.out], by go_num, hL, HXC.out⟩
       case measure => simp [intOf] <;> omega
      ·have hff : freT used (opF ds) k = false := by simpa using hfr
       rw [hff, Bool.false_and] at HFS
       rw [hff]
       clear hfr hff
       go_wp2_with (first | go_skip | refine tP ?_ | (refine tS ?_; clear hL; intro _ hL) | (refine tB ?_; clear hL; intro _ _ hL _))
       go_roundw
       case rel => exact ⟨k + 1, _, by omega, by rw [HFS.out], by go_num, hL, hX3.trans exX⟩
       case measure => simp [intOf] <;> omega
     ·have hkn : k = no := by omega
      subst hkn
      have h9 : (k : Int) ≤ (k : Int) := Int.le_refl _
      have ROWU3 := Lib.hid (RowA.le isI_mono ROWU1.out hX3.le)
      have ROWF3 := Lib.hid (RowA.le FracC.mono ROWF1.out hX3.le)
      have HOL3 := Lib.hid (IntL.le HOL.out hX3.le)
      have HX13 : Hid (Ext m2 m3) := HX1.out.trans hX3
      clear ROWU1 ROWF1 hX3 HX3 HX1
      by_cases hfr : freT used (opF ds) k = true
      ·have HFR : Hid (∀ r ∈ opJ ms j, r ∉ used) := by
        show ∀ r ∈ _, _
        rw [HOP.out]
        exact (freT_all (Nat.le_of_eq HNO.out)).1 hfr
       rw [hfr]
       clear hfr
       go_wp2_with (first | go_skip | refine tP ?_ | (refine tS ?_; clear hL; intro _ hL) | (refine tB ?_; clear hL; intro _ _ hL _))
       clear h9
       refine goA ?_
       obtain ⟨vs7, r7, z7, y7, l7⟩ := ROWU3.out
       refine wl_append (A := [_]) hL r7 (wanted_none rfl) rfl ap_ints (by omega) rfl rfl (news := (opF ds).map I64) (by rw [List.length_map, HNO.out, Nat.mul_one]) ((sl_ints HOL3.out).le hL.vw.le) (List.all_eq_true.2 fun u hu => by obtain ⟨x, -, rfl⟩ := List.mem_map.1 hu; rfl) (by omega) (by omega) ?_
       clear hL
       intro v1 W4 m4 R4 hL r8 e8
       obtain ⟨A7, c7, rfl, -⟩ := r8.lit
       simp only [List.cons_append, List.nil_append] at hL
       have ROWU4 := Lib.hid (RowA.appI (m := m4) r8 (y7.mono fun _ _ h => h) l7 HNO.out)
       have HX4 : Hid (Ext m2 m4) := HX13.out.trans e8
       have ROWF4 := Lib.hid (RowA.le FracC.mono ROWF3.out e8.le)
       have HOL4 := Lib.hid (IntL.le HOL3.out e8.le)
       clear r7 z7 y7 l7 r8 e8 HX13 ROWU3 ROWF3 HOL3 HOL
       simp only [Act.put, zq1, zq2, zq3]
       go_wp2_with (first | go_skip | refine tP ?_ | (refine tS ?_; clear hL; intro _ hL) | (refine tB ?_; clear hL; intro _ _ hL _))
       refine (r_Int 1 _ _ hL.vw (by decide) (by decide)).mono ?_
       rintro e Wp1 ⟨vp1, mp1, rfl, hE, hMp1, hV, hp1⟩
       replace hL := hL.call hE (by assumption) hV; clear hE hV
       obtain ⟨gp1', Ap1', np1', cp1', hp1', Bp1', kp1', dp1', rfl, hp1⟩ := hp1.lit
       have HP1 := Lib.hid hp1
       have hfit : 0 + j * 4 + 4 ≤ cur.size := by
        have h1 := ROWF4.out.fit
        have h2 : (j + 1) * 4 ≤ nc * 4 := Nat.mul_le_mul_right _ hlt
        omega
       clear hp1
       go_wp2_with (first | (with_reducible refine stS ?_) | (first | go_skip | refine tP ?_ | (refine tS ?_; clear hL; intro _ hL) | (refine tB ?_; clear hL; intro _ _ hL _)))
       refine goA ?_
       refine wl_storeS hL (wanted_none rfl) (vs := [.bool gp1', .slice Ap1' np1' cp1', .bool hp1', .slice Bp1' kp1' dp1']) (off := 0 + j * 4) rfl rfl rfl ag_Frac rfl (n := 0) rfl hfit rfl ?_
       have ra := RowA.putW (k := j) (x := ((1 : Int) : Rat)) (ws := [.bool gp1', .slice Ap1' np1' cp1', .bool hp1', .slice Bp1' kp1' dp1']) (RowA.le FracC.mono ROWF4.out (leX : Le m4 mp1)) (by rw [ninL_len]; exact hlt) rfl HP1.out
       rw [nin_int 1, ninL_set] at ra
       have ROWF5 := Lib.hid ra
       have HX5 : Hid (Ext m2 mp1) := HX4.out.trans exX
       have HLE41 : Hid (Le m4 mp1) := leX
       have HOL5 := Lib.hid (IntL.le HOL4.out (leX : Le m4 mp1))
       clear hL ra hfit ROWF4 HX4 HOL4 HP1 hMp1
       intro W5 hL hS5
       simp only [List.set_cons_zero] at hL
       simp only [Act.put, zq1, zq2, zq3]
       obtain ⟨bt1, hbt⟩ : ∃ bt1, bt1 = n / 2 ^ (2 * j) % 2 := ⟨_, rfl⟩
       have e61 : bits .and .i64 (n / 2 ^ (2 * j)) 1 = bt1 := by rw [hbt]; exact i64_and1 _
       have hb01 : bt1 = 0 ∨ bt1 = 1 := by rw [hbt]; exact bit01 _
       have hw3 : wrap64 (1 + bt1) = 1 + bt1 := by unfold wrap64; omega
       have HB01 := Lib.hid hb01
       have F0 : Hid (Fit 200 ((1 + bt1 : Int) : Rat)) := (Tn.int (k := 1000) (by omega) (by decide)).fit (by decide)
       have F1 : Hid (Fit 200 ((3 : Int) : Rat)) := (Tn.int (k := 1000) (by decide) (by decide)).fit (by decide)
       clear hbt hb01
       go_wp2_with (first | go_skip | refine tP ?_ | (refine tS ?_; clear hL; intro _ hL) | (refine tB ?_; clear hL; intro _ _ hL _))
       refine (r_Int (1 + bt1) _ _ hL.vw (by have := HB01.out; omega) (by have := HB01.out; omega)).mono ?_
       rintro e Wp2 ⟨vp2, mp2, rfl, hE, hMp2, hV, hp2⟩
       replace hL := hL.call hE (by assumption) hV; clear hE hV
       obtain ⟨gp2', Ap2', np2', cp2', hp2', Bp2', kp2', dp2', rfl, hp2⟩ := hp2.lit
       go_wp2_with (first | go_skip | refine tP ?_ | (refine tS ?_; clear hL; intro _ hL) | (refine tB ?_; clear hL; intro _ _ hL _))
       refine (r_Int 3 _ _ hL.vw (by decide) (by decide)).mono ?_
       rintro e Wp3 ⟨vp3, mp3, rfl, hE, hMp3, hV, hp3⟩
       replace hL := hL.call hE (by assumption) hV; clear hE hV
       obtain ⟨gp3', Ap3', np3', cp3', hp3', Bp3', kp3', dp3', rfl, hp3⟩ := hp3.lit
       go_wp2_with (first | go_skip | refine tP ?_ | (refine tS ?_; clear hL; intro _ hL) | (refine tB ?_; clear hL; intro _ _ hL _))
       refine (r_DivC _ _ _ _ _ _ hL.vw (hp2.le leX) hp3 F0.out F1.out).mono ?_
       rintro e Wp4 ⟨vp4, mp4, rfl, hE, hMp4, hV, hp4⟩
       replace hL := hL.call hE (by assumption) hV; clear hE hV
       obtain ⟨gp4', Ap4', np4', cp4', hp4', Bp4', kp4', dp4', rfl, hp4⟩ := hp4.lit
       rw [div_mix, nin_third] at hp4
       have HP4 := Lib.hid hp4
       have HX6 : Hid (Ext m2 mp4) := HX5.out.trans exX
       have ROWF6 := Lib.hid (RowA.le FracC.mono ROWF5.out (leX : Le mp1 mp4))
       have HOL6 := Lib.hid (IntL.le HOL5.out (leX : Le mp1 mp4))
       have HLE46 : Hid (Le m4 mp4) := HLE41.out.trans leX
       have F3 : Hid (Fit 200 (Rat.divInt (3 * (1 + bt1)) 9)) := nin_fit (by rcases HB01.out with e | e <;> rw [e] <;> decide)
       have F2 : Hid (Fit 200 ((1 : Int) : Rat)) := (Tn.int (k := 1000) (by decide) (by decide)).fit (by decide)
       clear hp2 hp3 hp4 HX5 ROWF5 HOL5 e61 hw3 F0 F1 hMp2 hMp3 hMp4
       generalize splice cur (0 + j * 4) _ = cur5 at *
       go_wp2_with (first | go_skip | refine tP ?_ | (refine tS ?_; clear hL; intro _ hL) | (refine tB ?_; clear hL; intro _ _ hL _))
       go_loopw [12] (fun iv wr => ∃ (i : Nat) (m7 : World), j + 1 ≤ i ∧ i ≤ nc ∧ iv = .int .i64 (i : Int) ∧ Loc w m wr m7 ((Wp4.heap.size, 39, #[.bool gp4', .slice Ap4' np4' cp4', .bool hp4', .slice Bp4' kp4' dp4']) :: (gv, 39, cur5) :: R4) ∧ Hid (Ext mp4 m7)) (fun iv _ => nc - (intOf iv).toNat)
       case atStart => exact ⟨j + 1, _, by omega, by omega, by go_num, hL, exX⟩
       case round =>
        clear hL
        obtain ⟨i, m7, hji, hi, rfl, hL, HX7⟩ := hrel
        have hX7 := HX7.out
        have hX6 := HX6.out
        by_cases hin : i < nc
        ·have hin' : (i : Int) < (nc : Int) := by omega
         obtain ⟨⟨s2, ds2, cost2⟩, hx2⟩ := at_some HN1 hin
         obtain ⟨b8, o8, D2, cd2, e8, hds2, hr8⟩ := ColL.at_ HCO.out hx2
         cases e8
         obtain ⟨i1, i2, i3, i4, i5, i6, i7⟩ := HC.out _ (List.mem_of_getElem? hx2)
         simp only at hds2 hr8 i1 i2 i3 i4 i5 i6 i7
         have hr9 := range_two hr8
         have HD2 := Lib.hid hds2
         have H32 := Lib.hid i3
         have H42 := Lib.hid i4
         have HOP2 : Hid (opJ ms i = opF ds2) := by
          show _ = _
          exact opJ_at (by rw [HMC.out]; exact hx2)
         clear hx2 hds2 i1 i2 i3 i4 i5 i6 i7 hr8
         generalize hnd2 : ds2.length = nd2 at *
         have HND2 := Lib.hid hnd2
         clear hnd2
         go_wp2_with (first | go_skip | refine tP ?_ | (refine tS ?_; clear hL; intro _ hL) | (refine tB ?_; clear hL; intro _ _ hL _))
         refine (r_Operated s2 _ ds2 _ _ hL.vw (DutsL.le HD2.out leX) (by rw [HND2.out]; exact H32.out) H42.out).mono ?_
         rintro e Wo2 ⟨vo2, mo2, rfl, hE, hMo2, hV, ho2⟩
         replace hL := hL.call hE (by assumption) hV; clear hE hV
         obtain ⟨O2, co2, rfl, hco2, ho2⟩ := ho2.lit
         have HOL2 := Lib.hid ho2
         clear ho2 hco2
         generalize (opF ds2).length = no2 at *
         go_wp2_with (first | go_skip | refine tP ?_ | (refine tS ?_; clear hL; intro _ hL) | (refine tB ?_; clear hL; intro _ _ hL _))
         refine (r_SameIntsB _ _ (opF ds) (opF ds2) _ _ hL.vw (IntL.le HOL6.out leX) (IntL.le HOL2.out leX) (by rw [HNO.out]; omega)).mono ?_
         rintro e Ws3 ⟨_, ms3, rfl, hE, hMs3, hV, rfl⟩
         replace hL := hL.call hE (by assumption) hV; clear hE hV
         have HX8 : Hid (Ext mp4 ms3) := hX7.trans exX
         clear HOL2 hMs3 hMo2 hX7 HX7
         by_cases hsm : opF ds = opF ds2
         ·rw [decide_eq_true hsm]
          have hX8 := HX8.out
          have HMX : Hid (MixS ms nc z j (upZ (upZ (upZ z j (9 * 1)) i (3 * (1 + bt1))) j (9 - 3 * (1 + bt1))) i) := MixS.two HB01.out (by omega) hin (by rw [HOP2.out, HOP.out, hsm])
          have KSB : Hid (∀ v w m', Vw m' w → Le mp4 m' → FracC m' v ((1 : Int) : Rat) → Calls Tryz.prog 36 #[v, .agg #[.bool gp4', .slice Ap4' np4' cp4', .bool hp4', .slice Bp4' kp4' dp4']] w (RetV w m' fun m'' r => FracC m'' r (Rat.divInt (9 - 3 * (1 + bt1)) 9))) := by
           show ∀ v w m', _
           intro v w m' hV hle h
           rw [← nin_sub]
           exact r_SubC _ _ _ _ w m' hV h (HP4.out.le hle) F2.out F3.out
          have hfi : 0 + i * 4 + 4 ≤ cur5.size := by
           have h1 := ROWF6.out.fit
           have h2 : (i + 1) * 4 ≤ nc * 4 := Nat.mul_le_mul_right _ hin
           omega
          have hfj : 0 + j * 4 + 4 ≤ cur5.size := by
           have h1 := ROWF6.out.fit
           have h2 : (j + 1) * 4 ≤ nc * 4 := Nat.mul_le_mul_right _ hlt
           omega
          have HFI := Lib.hid hfi
          have HFJ := Lib.hid hfj
          clear hsm hfi hfj
          go_upto_region 20 with ((first | go_skip | refine tP ?_ | (refine tS ?_; clear hL; intro _ hL) | (refine tB ?_; clear hL; intro _ _ hL _)))
          (try simp only [eq_self] at *)
          refine wp_region_by2 8 [false, false, false, false, false, false, false, false] [false, false, true, true, false, false, false, false] [(fun v _ _ => v = ?c20_0), (fun v _ _ => v = ?c20_1), (fun v _ _ => v = ?c20_2), (fun v _ _ => v = ?c20_3), (fun v _ _ => v = ?c20_4), Of (fun um v => FracC um v ((1 : Int) : Rat)), (fun v _ _ => v = ?c20_6), Of (fun um v => FracC um v (Rat.divInt (9 - 3 * (1 + bt1)) 9))] hL.vw mixed [84, 85, 86, 87, 88, 89, 90, 91] _ (by kernel_rfl) (fun vs => by simp only [lay, Act.put, zq1, zq2, zq3]; rfl) (by kernel_rfl) (by decide) (by decide) ?s20 ?l20 ?r20
          case s20 =>
           refine ⟨?_, ?_, ?_, ?_, ?_, ?_, ?_, ?_, trivial⟩
           ·intro vs W1 m1 hE hM hV hD; clear hD
            exact sPw
           ·intro vs W1 m1 hE hM hV hD; clear hD
            exact sPw
           ·intro vs W1 m1 hE hM hV hD; clear hD
            exact sPw
           ·intro vs W1 m1 hE hM hV hD; clear hD
            exact sPw
           ·intro vs W1 m1 hE hM hV hD; clear hD
            exact sLe
           ·intro vs W1 m1 hE hM hV hD; clear hD
            go_wp2_with fail
            refine (r_Int 1 _ _ hV (by decide) (by decide)).mono ?_
            rintro e W2 ⟨v, m2, rfl, hE2, hM2, hV2, h⟩
            go_wp2_with fail
            refine One2.call hE2 hM2 hV2 ?_; first | exact h | exact rfl
           ·intro vs W1 m1 hE hM hV hD; clear hD
            exact sLe
           ·intro vs W1 m1 hE hM hV hD; obtain ⟨⟨_, _, -, i89, f89⟩, ⟨_, _, -, -, f90⟩, -, -⟩ := hD
            rw [(f90 : vs 90 = _)]
            clear f90
            have f89 : FracC _ (vs 89) ((1 : Int) : Rat) := f89
            replace f89 := f89.le i89.le
            clear i89
            go_wp2_with fail
            refine (KSB.out _ _ _ hV leX f89).mono ?_
            rintro e W2 ⟨v, m2, rfl, hE2, hM2, hV2, h⟩
            go_wp2_with fail
            refine One2.call hE2 hM2 hV2 ?_; first | exact h | exact rfl
          case l20 =>
           refine ⟨nF, nF, fun _ => ?_, fun _ => ?_, nF, nF, nF, nF, trivial⟩
           ·intro vs W1 m1 hE hM hV hD; clear hD
            exact ⟨_, Or.inl ⟨(by rfl), fun w => (by rfl)⟩, (by exact rfl)⟩
           ·intro vs W1 m1 hE hM hV hD; clear hD
            exact ⟨_, Or.inl ⟨(by rfl), fun w => (by rfl)⟩, (by exact rfl)⟩
          intro vs W1 m1 hE hM hV hF hD
          clear hD
          obtain ⟨⟨_, _, -, -, f84⟩, ⟨_, _, -, -, f85⟩, ⟨_, _, -, -, f86⟩, ⟨_, _, -, -, f87⟩, ⟨_, _, -, -, f88⟩, ⟨_, _, -, i89, f89⟩, -, ⟨_, _, -, i91, f91⟩, -⟩ := hF
          replace hL := hL.call hE hM hV
          have f84 : vs 84 = _ := f84
          generalize vs 84 = x84 at f84 ⊢
          subst x84
          have f85 : vs 85 = _ := f85
          generalize vs 85 = x85 at f85 ⊢
          subst x85
          have f86 : vs 86 = _ := f86
          generalize vs 86 = x86 at f86 ⊢
          subst x86
          have f87 : vs 87 = _ := f87
          generalize vs 87 = x87 at f87 ⊢
          subst x87
          have f88 : vs 88 = _ := f88
          generalize vs 88 = x88 at f88 ⊢
          subst x88
          replace f89 : FracC _ (vs 89) ((1 : Int) : Rat) := f89
          replace f89 := f89.le i89.le
          clear i89
          replace f91 : FracC _ (vs 91) (Rat.divInt (9 - 3 * (1 + bt1)) 9) := f91
          replace f91 := f91.le i91.le
          clear i91
          obtain ⟨g91, A91, n91, c91, h91, B91, k91, d91, e91, f91⟩ := f91.lit
          generalize vs 91 = x91 at e91 ⊢
          subst x91
          clear hE hV
          simp only [List.drop_succ_cons, List.drop_zero]
          have HF91 := Lib.hid f91
          clear f91
          go_wp2_with (first | (with_reducible refine stS ?_) | (first | go_skip | refine tP ?_ | (refine tS ?_; clear hL; intro _ hL) | (refine tB ?_; clear hL; intro _ _ hL _)))
          refine goA ?_
          refine wl_storeS hL (wanted_none rfl) (vs := [.bool gp4', .slice Ap4' np4' cp4', .bool hp4', .slice Bp4' kp4' dp4']) rfl rfl rfl ag_Frac rfl (n := 1) rfl (by have := HFI.out; omega) rfl ?_
          have ra1 := RowA.putW (k := i) (x := Rat.divInt (3 * (1 + bt1)) 9) (ws := [.bool gp4', .slice Ap4' np4' cp4', .bool hp4', .slice Bp4' kp4' dp4']) (RowA.le FracC.mono ROWF6.out (leX : Le mp4 m1)) (by rw [ninL_len]; exact hin) rfl (HP4.out.le (leX : Le mp4 m1))
          rw [ninL_set] at ra1
          simp only [Nat.zero_add] at ra1
          clear hL
          intro W7 hL hS7
          simp only [List.set_cons_zero, List.set_cons_succ, Nat.zero_add] at hL
          simp only [Act.put, zq1, zq2, zq3]
          go_wp2_with (first | (with_reducible refine stS ?_) | (first | go_skip | refine tP ?_ | (refine tS ?_; clear hL; intro _ hL) | (refine tB ?_; clear hL; intro _ _ hL _)))
          refine goA ?_
          refine wl_storeS hL (wanted_none rfl) (vs := [.bool g91, .slice A91 n91 c91, .bool h91, .slice B91 k91 d91]) rfl rfl rfl ag_Frac rfl (n := 1) rfl (by rw [splice_size]; have := HFJ.out; omega) rfl ?_
          have ra2 := RowA.putW (k := j) (x := Rat.divInt (9 - 3 * (1 + bt1)) 9) (ws := [.bool g91, .slice A91 n91 c91, .bool h91, .slice B91 k91 d91]) ra1 (by rw [ninL_len]; exact hlt) rfl HF91.out
          rw [ninL_set] at ra2
          simp only [Nat.zero_add] at ra2
          have ROWX := Lib.hid ra2
          have HXX : Hid (Ext m2 m1) := HX6.out.trans (exX : Ext mp4 m1)
          clear hL ra1 ra2
          intro W8 hL hS8
          simp only [List.set_cons_zero, List.set_cons_succ, Nat.zero_add] at hL
          generalize splice (splice cur5 (i * 4) _) (j * 4) _ = cur8 at *
          obtain ⟨m8, hm8⟩ : ∃ m8, m8 = m1 := ⟨_, rfl⟩
          rw [← hm8] at hL ROWX HXX
          have hX8b : Ext mp4 m8 := by rw [hm8]; exact exX
          have HL48 : Hid (Le m4 m8) := HLE46.out.trans hX8b.le
          clear hm8 hX8 HX8
          simp only [Act.put, zq1, zq2, zq3]
          go_wp2_with (first | go_skip | refine tP ?_ | (refine tS ?_; clear hL; intro _ hL) | (refine tB ?_; clear hL; intro _ _ hL _))
          refine QN.mk ?_
          obtain ⟨bt2, hbt2⟩ : ∃ bt2, bt2 = n / 2 ^ (2 * j + 1) % 2 := ⟨_, rfl⟩
          have e62 : bits .and .i64 (n / 2 ^ (2 * j + 1)) 1 = bt2 := by rw [hbt2]; exact i64_and1 _
          have hb02 : bt2 = 0 ∨ bt2 = 1 := by rw [hbt2]; exact bit01 _
          clear hbt2
          by_cases hl1 : k = 1 ∧ bt2 = 1
          ·obtain ⟨rfl, rfl⟩ := hl1
           have hk1' : (((1 : Nat) : Int) == 1) = true := rfl
           have hb1' : ((1 : Int) == 1) = true := rfl
           have HDN := Lib.hid (HMX.out.done HW.out HUT.out hlt (by rw [HOP.out, HNO.out]; exact HLP.out) HFR.out HB01.out (z3 := upZ (upZ (upZ (upZ z j (9 * 1)) i (3 * (1 + bt1))) j (9 - 3 * (1 + bt1))) j ((upZ (upZ (upZ z j (9 * 1)) i (3 * (1 + bt1))) j (9 - 3 * (1 + bt1))) j * (3 * (1 + bt1)) / 9)) (.inr ⟨by rw [HOP.out, HNO.out], rfl⟩))
           obtain ⟨a1, A1, n1, c1', f1, B1, p1, d1', hfq, hr4⟩ := frac_rw ROWX.out (ninL_at (z := upZ (upZ (upZ z j (9 * 1)) i (3 * (1 + bt1))) j (9 - 3 * (1 + bt1))) hlt)
           have HFQ := Lib.hid hfq
           have hz9 : (upZ (upZ (upZ z j (9 * 1)) i (3 * (1 + bt1))) j (9 - 3 * (1 + bt1))) j = 9 ∨ (upZ (upZ (upZ z j (9 * 1)) i (3 * (1 + bt1))) j (9 - 3 * (1 + bt1))) j = 6 ∨ (upZ (upZ (upZ z j (9 * 1)) i (3 * (1 + bt1))) j (9 - 3 * (1 + bt1))) j = 3 := HMX.out.zj
           have HM9 : Hid (Rat.divInt ((upZ (upZ (upZ z j (9 * 1)) i (3 * (1 + bt1))) j (9 - 3 * (1 + bt1))) j) 9 * Rat.divInt (3 * (1 + bt1)) 9 = Rat.divInt ((upZ (upZ (upZ z j (9 * 1)) i (3 * (1 + bt1))) j (9 - 3 * (1 + bt1))) j * (3 * (1 + bt1)) / 9) 9) := by
            show _ = _
            refine nin_mul ?_
            rcases HB01.out with e | e <;> rcases hz9 with e2 | e2 | e2 <;> rw [e2, e] <;> decide
           have HFA : Hid (Fit 200 (Rat.divInt ((upZ (upZ (upZ z j (9 * 1)) i (3 * (1 + bt1))) j (9 - 3 * (1 + bt1))) j) 9)) := nin_fit (by rcases hz9 with e | e | e <;> rw [e] <;> decide)
           have KMU : Hid (∀ w m', Vw m' w → Le m8 m' → Calls Tryz.prog 27 #[.agg #[.bool a1, .slice A1 n1 c1', .bool f1, .slice B1 p1 d1'], .agg #[.bool gp4', .slice Ap4' np4' cp4', .bool hp4', .slice Bp4' kp4' dp4']] w (RetV w m' fun m'' r => FracC m'' r (Rat.divInt ((upZ (upZ (upZ z j (9 * 1)) i (3 * (1 + bt1))) j (9 - 3 * (1 + bt1))) j * (3 * (1 + bt1)) / 9) 9))) := by
            show ∀ w m', _
            intro w m' hV hle
            rw [← HM9.out]
            exact r_MulC _ _ _ _ w m' hV (HFQ.out.le hle) (HP4.out.le (Le.trans (leX : Le mp4 m8) hle)) HFA.out F3.out
           have hfitn : 0 + j * 4 + 4 ≤ cur8.size := by
            have h1 := ROWX.out.fit
            have h2 : (j + 1) * 4 ≤ nc * 4 := Nat.mul_le_mul_right _ hlt
            omega
           have HFN := Lib.hid hfitn
           clear hfq hz9 hb02 hfitn HFA
           go_upto_region 22 with ((first | go_skip | refine tP ?_ | (refine tS ?_; clear hL; intro _ hL) | (refine tB ?_; clear hL; intro _ _ hL _)))
           clear e62 hk1' hb1'
           (try simp only [Nat.zero_add])
           (try simp only [eq_self] at *)
           refine wp_region_by2 8 [false, false, false, false, false, false, false, false] [false, false, false, false, false, false, false, false] [(fun v _ _ => v = ?c22_0a), (fun v _ _ => v = ?c22_1a), (fun v _ _ => v = ?c22_2a), (fun v _ _ => v = ?c22_3a), (fun v _ _ => v = ?c22_4a), (fun v _ _ => v = ?c22_5a), (fun v _ _ => v = ?c22_6a), Of (fun um v => FracC um v (Rat.divInt ((upZ (upZ (upZ z j (9 * 1)) i (3 * (1 + bt1))) j (9 - 3 * (1 + bt1))) j * (3 * (1 + bt1)) / 9) 9))] hL.vw mixed [107, 108, 109, 110, 111, 112, 113, 114] _ (by kernel_rfl) (fun vs => by simp only [lay, Act.put, zq1, zq2, zq3]; rfl) (by kernel_rfl) (by decide) (by decide) ?s22a ?l22a ?r22a
           case s22a =>
            refine ⟨?_, ?_, ?_, ?_, ?_, ?_, ?_, ?_, trivial⟩
            ·intro vs W1 m1 hE hM hV hD; clear hD
             exact sPw
            ·intro vs W1 m1 hE hM hV hD; clear hD
             exact sPw
            ·intro vs W1 m1 hE hM hV hD; clear hD
             exact sPw
            ·intro vs W1 m1 hE hM hV hD; clear hD
             exact sPw
            ·intro vs W1 m1 hE hM hV hD; obtain ⟨⟨_, _, -, -, f109⟩, ⟨_, _, -, -, f110⟩, -⟩ := hD
             rw [(f109 : vs 109 = _), (f110 : vs 110 = _)]; clear f109 f110; exact sIy
            ·intro vs W1 m1 hE hM hV hD; obtain ⟨⟨_, _, -, -, f111⟩, -⟩ := hD
             rw [(f111 : vs 111 = _)]; clear f111; exact sLe
            ·intro vs W1 m1 hE hM hV hD; clear hD
             exact sLe
            ·intro vs W1 m1 hE hM hV hD; obtain ⟨⟨_, _, -, -, f112⟩, ⟨_, _, -, -, f113⟩, -⟩ := hD
             rw [(f112 : vs 112 = _), (f113 : vs 113 = _)]
             clear f112 f113
             go_wp2_with fail
             refine (KMU.out _ _ hV leX).mono ?_
             rintro e W2 ⟨v, m2, rfl, hE2, hM2, hV2, h⟩
             go_wp2_with fail
             refine One2.call hE2 hM2 hV2 ?_; first | exact h | exact rfl
           case l22a =>
            refine ⟨nF, nF, nF, nF, nF, nF, nF, nF, trivial⟩
           intro vs W1 m1 hE hM hV hF hD
           clear hD
           obtain ⟨⟨_, _, -, -, f107⟩, ⟨_, _, -, -, f108⟩, -, -, -, -, -, ⟨_, _, -, i114, f114⟩, -⟩ := hF
           replace hL := hL.call hE hM hV
           have f107 : vs 107 = _ := f107
           generalize vs 107 = x107 at f107 ⊢
           subst x107
           have f108 : vs 108 = _ := f108
           generalize vs 108 = x108 at f108 ⊢
           subst x108
           replace f114 : FracC _ (vs 114) (Rat.divInt ((upZ (upZ (upZ z j (9 * 1)) i (3 * (1 + bt1))) j (9 - 3 * (1 + bt1))) j * (3 * (1 + bt1)) / 9) 9) := f114
           replace f114 := f114.le i114.le
           clear i114
           obtain ⟨g114, A114, n114, c114, h114, B114, k114, d114, e114, f114⟩ := f114.lit
           generalize vs 114 = x114 at e114 ⊢
           subst x114
           clear hE hV
           simp only [List.drop_succ_cons, List.drop_zero]
           have HF14 := Lib.hid f114
           clear f114
           go_wp2_with (first | (with_reducible refine stS ?_) | (first | go_skip | refine tP ?_ | (refine tS ?_; clear hL; intro _ hL) | (refine tB ?_; clear hL; intro _ _ hL _)))
           refine goA ?_
           refine wl_storeS hL (wanted_none rfl) (vs := [.bool g114, .slice A114 n114 c114, .bool h114, .slice B114 k114 d114]) rfl rfl rfl ag_Frac rfl (n := 1) rfl (by have := HFN.out; omega) rfl ?_
           have ra9 := RowA.putW (k := j) (x := Rat.divInt ((upZ (upZ (upZ z j (9 * 1)) i (3 * (1 + bt1))) j (9 - 3 * (1 + bt1))) j * (3 * (1 + bt1)) / 9) 9) (ws := [.bool g114, .slice A114 n114 c114, .bool h114, .slice B114 k114 d114]) (RowA.le FracC.mono ROWX.out (leX : Le m8 m1)) (by rw [ninL_len]; exact hlt) rfl HF14.out
           rw [ninL_set] at ra9
           simp only [Nat.zero_add] at ra9
           have RA9 := Lib.hid ra9
           have HXN : Hid (Ext m2 m1) := HXX.out.trans (exX : Ext m8 m1)
           have ROWUN := Lib.hid (RowA.le isI_mono ROWU4.out (HL48.out.trans (leX : Le m8 m1)))
           clear hL ra9
           intro W9 hL hS9
           simp only [List.set_cons_zero, List.set_cons_succ, Nat.zero_add] at hL
           simp only [Act.put, zq1, zq2, zq3]
           go_wp2_with (first | go_skip | refine tP ?_ | (refine tS ?_; clear hL; intro _ hL) | (refine tB ?_; clear hL; intro _ _ hL _))
           refine QN.mk ?_
           go_wp2_with (first | go_skip | refine tP ?_ | (refine tS ?_; clear hL; intro _ hL) | (refine tB ?_; clear hL; intro _ _ hL _))
           go_roundw
           case rel => exact ⟨j + 1, _, _, _, T ++ [j], used ++ opF ds, q + 1, R4, by omega, by go_num, hL.tail, HXN.out, RA9.out, ROWUN.out, HDN.out.1, (by show ∀ r, _; rw [← HOP.out]; exact HDN.out.2), (by show _ ≤ _; have := HQ.out; omega)⟩
           case measure => simp [intOf] <;> omega
          ·have HDN := Lib.hid (HMX.out.done HW.out HUT.out hlt (by rw [HOP.out, HNO.out]; exact HLP.out) HFR.out HB01.out (z3 := upZ (upZ (upZ z j (9 * 1)) i (3 * (1 + bt1))) j (9 - 3 * (1 + bt1))) (.inl rfl))
           have ROWUN := Lib.hid (RowA.le isI_mono ROWU4.out HL48.out)
           by_cases hk1 : k = 1
           case' pos =>
            have hk1' : ((k : Int) == 1) = true := by simp; omega
            have hb0 : bt2 = 0 := by omega
            have hb1' : (bt2 == 1) = false := by rw [hb0]; rfl
            clear hl1 hb0 hb02 hk1
            go_wp2_with (first | go_skip | refine tP ?_ | (refine tS ?_; clear hL; intro _ hL) | (refine tB ?_; clear hL; intro _ _ hL _))
            go_roundw
           case' neg =>
            have hk1' : ((k : Int) == 1) = false := by simp; omega
            clear hl1 hb02 hk1
            go_wp2_with (first | go_skip | refine tP ?_ | (refine tS ?_; clear hL; intro _ hL) | (refine tB ?_; clear hL; intro _ _ hL _))
            go_roundw
           case rel => exact ⟨j + 1, _, _, _, T ++ [j], used ++ opF ds, q + k, R4, by omega, by go_num, hL.tail, HXX.out, ROWX.out, ROWUN.out, HDN.out.1, (by show ∀ r, _; rw [← HOP.out]; exact HDN.out.2), (by show _ ≤ _; have := HQ.out; omega)⟩
           case measure => simp [intOf] <;> omega
           case rel => exact ⟨j + 1, _, _, _, T ++ [j], used ++ opF ds, q + k, R4, by omega, by go_num, hL.tail, HXX.out, ROWX.out, ROWUN.out, HDN.out.1, (by show ∀ r, _; rw [← HOP.out]; exact HDN.out.2), (by show _ ≤ _; have := HQ.out; omega)⟩
           case measure => simp [intOf] <;> omega
         ·rw [decide_eq_false hsm]
          clear hsm
          go_wp2_with (first | go_skip | refine tP ?_ | (refine tS ?_; clear hL; intro _ hL) | (refine tB ?_; clear hL; intro _ _ hL _))
          go_roundw
          case rel => exact ⟨i + 1, _, by omega, by omega, by go_num, hL, HX8.out⟩
          case measure => simp [intOf] <;> omega
        ·have hnn : (nc : Int) ≤ (i : Int) := by omega
         have HMX : Hid (MixS ms nc z j (upZ z j (9 * 1)) j) := MixS.alone
         have ROWX := Lib.hid (RowA.le FracC.mono ROWF6.out hX7.le)
         have HXX : Hid (Ext m2 m7) := HX6.out.trans hX7
         have HL48 : Hid (Le m4 m7) := HLE46.out.trans hX7.le
         clear hin HX7
         obtain ⟨bt2, hbt2⟩ : ∃ bt2, bt2 = n / 2 ^ (2 * j + 1) % 2 := ⟨_, rfl⟩
         have e62 : bits .and .i64 (n / 2 ^ (2 * j + 1)) 1 = bt2 := by rw [hbt2]; exact i64_and1 _
         have hb02 : bt2 = 0 ∨ bt2 = 1 := by rw [hbt2]; exact bit01 _
         clear hbt2
         by_cases hl1 : k = 1 ∧ bt2 = 1
         ·obtain ⟨rfl, rfl⟩ := hl1
          have hk1' : (((1 : Nat) : Int) == 1) = true := rfl
          have hb1' : ((1 : Int) == 1) = true := rfl
          have HDN := Lib.hid (HMX.out.done HW.out HUT.out hlt (by rw [HOP.out, HNO.out]; exact HLP.out) HFR.out HB01.out (z3 := upZ (upZ z j (9 * 1)) j ((upZ z j (9 * 1)) j * (3 * (1 + bt1)) / 9)) (.inr ⟨by rw [HOP.out, HNO.out], rfl⟩))
          obtain ⟨a1, A1, n1, c1', f1, B1, p1, d1', hfq, hr4⟩ := frac_rw ROWX.out (ninL_at (z := upZ z j (9 * 1)) hlt)
          have HFQ := Lib.hid hfq
          have hz9 : (upZ z j (9 * 1)) j = 9 ∨ (upZ z j (9 * 1)) j = 6 ∨ (upZ z j (9 * 1)) j = 3 := HMX.out.zj
          have HM9 : Hid (Rat.divInt ((upZ z j (9 * 1)) j) 9 * Rat.divInt (3 * (1 + bt1)) 9 = Rat.divInt ((upZ z j (9 * 1)) j * (3 * (1 + bt1)) / 9) 9) := by
           show _ = _
           refine nin_mul ?_
           rcases HB01.out with e | e <;> rcases hz9 with e2 | e2 | e2 <;> rw [e2, e] <;> decide
          have HFA : Hid (Fit 200 (Rat.divInt ((upZ z j (9 * 1)) j) 9)) := nin_fit (by rcases hz9 with e | e | e <;> rw [e] <;> decide)
          have KMU : Hid (∀ w m', Vw m' w → Le m7 m' → Calls Tryz.prog 27 #[.agg #[.bool a1, .slice A1 n1 c1', .bool f1, .slice B1 p1 d1'], .agg #[.bool gp4', .slice Ap4' np4' cp4', .bool hp4', .slice Bp4' kp4' dp4']] w (RetV w m' fun m'' r => FracC m'' r (Rat.divInt ((upZ z j (9 * 1)) j * (3 * (1 + bt1)) / 9) 9))) := by
           show ∀ w m', _
           intro w m' hV hle
           rw [← HM9.out]
           exact r_MulC _ _ _ _ w m' hV (HFQ.out.le hle) (HP4.out.le (Le.trans (leX : Le mp4 m7) hle)) HFA.out F3.out
          have hfitn : 0 + j * 4 + 4 ≤ cur5.size := by
           have h1 := ROWX.out.fit
           have h2 : (j + 1) * 4 ≤ nc * 4 := Nat.mul_le_mul_right _ hlt
           omega
          have HFN := Lib.hid hfitn
          clear hfq hz9 hb02 hfitn HFA
          go_upto_region 22 with ((first | go_skip | refine tP ?_ | (refine tS ?_; clear hL; intro _ hL) | (refine tB ?_; clear hL; intro _ _ hL _)))
          have hd9 : decide (i < nc) = false := decide_eq_false (by omega)
          clear e62 hk1' hb1' hnn
          (try simp only [Nat.zero_add, hd9])
          clear hd9
          (try simp only [eq_self] at *)
          refine wp_region_by2 8 [false, false, false, false, false, false, false, false] [false, false, false, false, false, false, false, false] [(fun v _ _ => v = ?c22_0b), (fun v _ _ => v = ?c22_1b), (fun v _ _ => v = ?c22_2b), (fun v _ _ => v = ?c22_3b), (fun v _ _ => v = ?c22_4b), (fun v _ _ => v = ?c22_5b), (fun v _ _ => v = ?c22_6b), Of (fun um v => FracC um v (Rat.divInt ((upZ z j (9 * 1)) j * (3 * (1 + bt1)) / 9) 9))] hL.vw mixed [107, 108, 109, 110, 111, 112, 113, 114] _ (by kernel_rfl) (fun vs => by simp only [lay, Act.put, zq1, zq2, zq3]; rfl) (by kernel_rfl) (by decide) (by decide) ?s22b ?l22b ?r22b
          case s22b =>
           refine ⟨?_, ?_, ?_, ?_, ?_, ?_, ?_, ?_, trivial⟩
           ·intro vs W1 m1 hE hM hV hD; clear hD
            exact sPw
           ·intro vs W1 m1 hE hM hV hD; clear hD
            exact sPw
           ·intro vs W1 m1 hE hM hV hD; clear hD
            exact sPw
           ·intro vs W1 m1 hE hM hV hD; clear hD
            exact sPw
           ·intro vs W1 m1 hE hM hV hD; obtain ⟨⟨_, _, -, -, f109⟩, ⟨_, _, -, -, f110⟩, -⟩ := hD
            rw [(f109 : vs 109 = _), (f110 : vs 110 = _)]; clear f109 f110; exact sIy
           ·intro vs W1 m1 hE hM hV hD; obtain ⟨⟨_, _, -, -, f111⟩, -⟩ := hD
            rw [(f111 : vs 111 = _)]; clear f111; exact sLe
           ·intro vs W1 m1 hE hM hV hD; clear hD
            exact sLe
           ·intro vs W1 m1 hE hM hV hD; obtain ⟨⟨_, _, -, -, f112⟩, ⟨_, _, -, -, f113⟩, -⟩ := hD
            rw [(f112 : vs 112 = _), (f113 : vs 113 = _)]
            clear f112 f113
            go_wp2_with fail
            refine (KMU.out _ _ hV leX).mono ?_
            rintro e W2 ⟨v, m2, rfl, hE2, hM2, hV2, h⟩
            go_wp2_with fail
            refine One2.call hE2 hM2 hV2 ?_; first | exact h | exact rfl
          case l22b =>
           refine ⟨nF, nF, nF, nF, nF, nF, nF, nF, trivial⟩
          intro vs W1 m1 hE hM hV hF hD
          clear hD
          obtain ⟨⟨_, _, -, -, f107⟩, ⟨_, _, -, -, f108⟩, -, -, -, -, -, ⟨_, _, -, i114, f114⟩, -⟩ := hF
          replace hL := hL.call hE hM hV
          have f107 : vs 107 = _ := f107
          generalize vs 107 = x107 at f107 ⊢
          subst x107
          have f108 : vs 108 = _ := f108
          generalize vs 108 = x108 at f108 ⊢
          subst x108
          replace f114 : FracC _ (vs 114) (Rat.divInt ((upZ z j (9 * 1)) j * (3 * (1 + bt1)) / 9) 9) := f114
          replace f114 := f114.le i114.le
          clear i114
          obtain ⟨g114, A114, n114, c114, h114, B114, k114, d114, e114, f114⟩ := f114.lit
          generalize vs 114 = x114 at e114 ⊢
          subst x114
          clear hE hV
          simp only [List.drop_succ_cons, List.drop_zero]
          have HF14 := Lib.hid f114
          clear f114
          go_wp2_with (first | (with_reducible refine stS ?_) | (first | go_skip | refine tP ?_ | (refine tS ?_; clear hL; intro _ hL) | (refine tB ?_; clear hL; intro _ _ hL _)))
          refine goA ?_
          refine wl_storeS hL (wanted_none rfl) (vs := [.bool g114, .slice A114 n114 c114, .bool h114, .slice B114 k114 d114]) rfl rfl rfl ag_Frac rfl (n := 1) rfl (by have := HFN.out; omega) rfl ?_
          have ra9 := RowA.putW (k := j) (x := Rat.divInt ((upZ z j (9 * 1)) j * (3 * (1 + bt1)) / 9) 9) (ws := [.bool g114, .slice A114 n114 c114, .bool h114, .slice B114 k114 d114]) (RowA.le FracC.mono ROWX.out (leX : Le m7 m1)) (by rw [ninL_len]; exact hlt) rfl HF14.out
          rw [ninL_set] at ra9
          simp only [Nat.zero_add] at ra9
          have RA9 := Lib.hid ra9
          have HXN : Hid (Ext m2 m1) := HXX.out.trans (exX : Ext m7 m1)
          have ROWUN := Lib.hid (RowA.le isI_mono ROWU4.out (HL48.out.trans (leX : Le m7 m1)))
          clear hL ra9
          intro W9 hL hS9
          simp only [List.set_cons_zero, List.set_cons_succ, Nat.zero_add] at hL
          simp only [Act.put, zq1, zq2, zq3]
          go_wp2_with (first | go_skip | refine tP ?_ | (refine tS ?_; clear hL; intro _ hL) | (refine tB ?_; clear hL; intro _ _ hL _))
          refine QN.mk ?_
          go_wp2_with (first | go_skip | refine tP ?_ | (refine tS ?_; clear hL; intro _ hL) | (refine tB ?_; clear hL; intro _ _ hL _))
          go_roundw
          case rel => exact ⟨j + 1, _, _, _, T ++ [j], used ++ opF ds, q + 1, R4, by omega, by go_num, hL.tail, HXN.out, RA9.out, ROWUN.out, HDN.out.1, (by show ∀ r, _; rw [← HOP.out]; exact HDN.out.2), (by show _ ≤ _; have := HQ.out; omega)⟩
          case measure => simp [intOf] <;> omega
         ·have HDN := Lib.hid (HMX.out.done HW.out HUT.out hlt (by rw [HOP.out, HNO.out]; exact HLP.out) HFR.out HB01.out (z3 := upZ z j (9 * 1)) (.inl rfl))
          have ROWUN := Lib.hid (RowA.le isI_mono ROWU4.out HL48.out)
          by_cases hk1 : k = 1
          case' pos =>
           have hk1' : ((k : Int) == 1) = true := by simp; omega
           have hb0 : bt2 = 0 := by omega
           have hb1' : (bt2 == 1) = false := by rw [hb0]; rfl
           clear hl1 hb0 hb02 hk1
           go_wp2_with (first | go_skip | refine tP ?_ | (refine tS ?_; clear hL; intro _ hL) | (refine tB ?_; clear hL; intro _ _ hL _))
           go_roundw
          case' neg =>
           have hk1' : ((k : Int) == 1) = false := by simp; omega
           clear hl1 hb02 hk1
           go_wp2_with (first | go_skip | refine tP ?_ | (refine tS ?_; clear hL; intro _ hL) | (refine tB ?_; clear hL; intro _ _ hL _))
           go_roundw
          case rel => exact ⟨j + 1, _, _, _, T ++ [j], used ++ opF ds, q + k, R4, by omega, by go_num, hL.tail, HXX.out, ROWX.out, ROWUN.out, HDN.out.1, (by show ∀ r, _; rw [← HOP.out]; exact HDN.out.2), (by show _ ≤ _; have := HQ.out; omega)⟩
          case measure => simp [intOf] <;> omega
          case rel => exact ⟨j + 1, _, _, _, T ++ [j], used ++ opF ds, q + k, R4, by omega, by go_num, hL.tail, HXX.out, ROWX.out, ROWUN.out, HDN.out.1, (by show ∀ r, _; rw [← HOP.out]; exact HDN.out.2), (by show _ ≤ _; have := HQ.out; omega)⟩
          case measure => simp [intOf] <;> omega
      ·have hff : freT used (opF ds) k = false := by simpa using hfr
       rw [hff]
       clear hfr hff
       go_wp2_with (first | go_skip | refine tP ?_ | (refine tS ?_; clear hL; intro _ hL) | (refine tB ?_; clear hL; intro _ _ hL _))
       go_roundw
       case rel => exact ⟨j + 1, _, _, z, T, used, q, Ru, by omega, by go_num, hL, HX13.out, ROWF3.out, ROWU3.out, HW.out, HUT.out, (by show _ ≤ _; have := HQ.out; omega)⟩
       case measure => simp [intOf] <;> omega
   ·have hjn : j = nc := by omega
    subst hjn
    have h9 : (j : Int) ≤ (j : Int) := Int.le_refl _
    obtain ⟨m9, hL9, hle9, hl9, -⟩ := RowA.show (A := Ru) FracC.mono (hL.perm (List.perm_append_comm (l₁ := [_]))) ROWF.out
    have HFV := Lib.hid hl9
    have hb39 := hle9.cell _ _ (hXM.le.cell _ _ hb3)
    clear hL hl9 hle9 hXM
    have hL := hL9
    clear hL9
    go_wp2_with (first | go_skip | refine tP ?_ | (refine tS ?_; clear hL; intro _ hL) | (refine tB ?_; clear hL; intro _ _ hL _))
    go_ret
    exact RetV.mk hL ⟨_, _, HW.out, HFV.out⟩
end Go.Proofs.YtniigfikpfinfaaGreat

/- Plain facts of BranchRoundsDown: the weights in ninths are small; what Round lists of them takes no flight twice; a column that takes another's pairing. -/
namespace Go.Proofs.YtniigfikpfinfaaGreat

theorem WOk.le9 {op : Nat → List Int} {z : Nat → Int} {n : Nat} {T : List Nat} (h : WOk op z n T) {k : Nat} (hk : k < n) : 0 ≤ z k ∧ z k ≤ 9 := by
 have h0 := h.nn k hk
 refine ⟨h0, ?_⟩
 by_cases hz : 0 < z k
 ·obtain ⟨t, ht, e⟩ := h.cov k hk hz
  have h1 := h.cap t ht
  unfold clS at h1
  have h2 : smN (fun j => if j = k then z k else 0) n ≤ smN (fun j => if op j = op t then z j else 0) n := smN_le fun j hj => by
   show (if j = k then z k else 0) ≤ (if op j = op t then z j else 0)
   by_cases ej : j = k
   ·rw [if_pos ej, ej, if_pos e]; exact Int.le_refl _
   ·rw [if_neg ej]
    split
    ·exact h.nn j hj
    ·exact Int.le_refl _
  rw [smN_one, if_pos hk] at h2
  omega
 ·omega
theorem nin_tw {ms : Ms} {z : Nat → Int} {T : List Nat} (h : WOk (opJ ms) z ms.cols.length T) : ∀ v ∈ ninL z ms.cols.length, Tw 18 v := by
 intro v hv
 obtain ⟨k, hk, rfl⟩ := List.mem_map.1 hv
 have h9 := h.le9 (List.mem_range.1 hk)
 refine ⟨4 * z k, ?_, by omega⟩
 rw [show (36 : Int) = 4 * 9 by rfl]
 exact (Rat.divInt_mul_left (by decide)).symm
theorem nin_vok {ms : Ms} {z : Nat → Int} {T : List Nat} (ok : MsOk ms) (h : WOk (opJ ms) z ms.cols.length T) (h6 : ms.cols.length ≤ 6) : VOk ms (ninL z ms.cols.length) :=
 ⟨ok, ninL_len _ _, nin_tw h, by omega⟩
theorem nin_pos {ms : Ms} {z : Nat → Int} {k : Nat} (hk : k < ms.cols.length) (h : posJ (ninL z ms.cols.length) k = true) : 0 < z k := by
 unfold posJ at h
 rw [ninL_at hk] at h
 have h1 : (0 : Rat) < Rat.divInt (z k) 9 := of_decide_eq_true h
 rw [show (0 : Rat) = Rat.divInt 0 9 by simp, nin_lt] at h1
 exact h1
theorem rndL_sel {ms : Ms} {z : Nat → Int} {T : List Nat} (h : WOk (opJ ms) z ms.cols.length T) : SelOk ms (rndL ms (ninL z ms.cols.length)) := by
 have asc : (rndL ms (ninL z ms.cols.length)).Pairwise (· < ·) := List.Pairwise.filter _ List.pairwise_lt_range
 have hm : ∀ j ∈ rndL ms (ninL z ms.cols.length), j < ms.cols.length ∧ posJ (ninL z ms.cols.length) j = true ∧ ∀ k, k < ms.cols.length → posJ (ninL z ms.cols.length) k = true → opJ ms k = opJ ms j → ¬ betC (coJ ms) k j := by
  intro j hj
  obtain ⟨h1, h2⟩ := List.mem_filter.1 hj
  simp only [Bool.and_eq_true, decide_eq_true_eq] at h2
  exact ⟨List.mem_range.1 h1, h2.1.1, h2.1.2⟩
 refine ⟨fun j hj => (hm j hj).1, asc, ?_⟩
 refine List.Pairwise.imp_of_mem ?_ asc
 intro a b ha hb hab r hra hrb
 obtain ⟨a1, a2, a3⟩ := hm a ha
 obtain ⟨b1, b2, b3⟩ := hm b hb
 obtain ⟨ta, hta, ea⟩ := h.cov a a1 (nin_pos a1 a2)
 obtain ⟨tb, htb, eb⟩ := h.cov b b1 (nin_pos b1 b2)
 have e := h.same hta htb (by rw [← ea]; exact hra) (by rw [← eb]; exact hrb)
 have eab : opJ ms a = opJ ms b := by rw [ea, e, eb]
 have := betC_tri (coJ ms) (a3 b b1 b2 eab.symm) (b3 a a1 a2 eab)
 omega
def ColK (rs : List Int) (c : Col) : Prop := ColOk rs c ∧ -1000 ≤ c.2.2 ∧ c.2.2 ≤ 1000
theorem ColK.over {rs : List Int} {a b : Col} (ha : ColK rs a) (hb : ColK rs b) : ColK rs (a.1, a.2.1, b.2.2) :=
 ⟨⟨hb.1.c1, hb.1.c2, ha.1.nd, ha.1.nt, ha.1.pos, ha.1.sub, ha.1.nodup⟩, hb.2⟩
theorem ColK.set {rs : List Int} {cs : List Col} (h : ∀ c ∈ cs, ColK rs c) {j : Nat} {a b : Col} {k : Nat} (ha : cs[j]? = some a) (hb : cs[k]? = some b) : ∀ c ∈ cs.set k (a.1, a.2.1, b.2.2), ColK rs c := by
 intro c hc
 rcases List.mem_or_eq_of_mem_set hc with hc | rfl
 ·exact h c hc
 ·exact (h a (List.mem_of_getElem? ha)).over (h b (List.mem_of_getElem? hb))
theorem ms_over {x : Ms} (ok : MsOk x) {cs : List Col} (h : ∀ c ∈ cs, ColK x.rows c) (hl : cs.length = x.cols.length) : MsOk { x with cols := cs } :=
 ⟨ok.f0, ok.f1, ok.p0, ok.p1, ok.r0, ok.r1, ok.asc, ok.low, by show cs.length ≤ 1000; rw [hl]; exact ok.k1, fun c hc => (h c hc).1, ok.k2, ok.cuts⟩
theorem sm_over {x : Ms} (hp0 : 0 ≤ x.pen) (hp1 : x.pen ≤ 1000) (h6 : x.cols.length ≤ 6) {cs : List Col} (h : ∀ c ∈ cs, ColK x.rows c) (hl : cs.length = x.cols.length) : SmOk { x with cols := cs } :=
 ⟨hp0, hp1, fun c hc => (h c hc).2.1, fun c hc => (h c hc).2.2, by show cs.length ≤ 6; rw [hl]; exact h6⟩
theorem masF_pen (l : List Int) : 0 ≤ (masF l).pen ∧ (masF l).pen ≤ 1000 := by
 show 0 ≤ atF l 0 % 30 ∧ atF l 0 % 30 ≤ 1000
 omega
theorem masF_colK (l : List Int) : ∀ c ∈ (masF l).cols, ColK (masF l).rows c := by
 intro c hc
 refine ⟨(masF_ok l).cols c hc, ?_⟩
 obtain ⟨j, -, rfl⟩ := List.mem_map.1 (show c ∈ (List.range _).map _ from hc)
 show -1000 ≤ atF l (5 + 2 * j) / 32 % 41 - 5 ∧ atF l (5 + 2 * j) / 32 % 41 - 5 ≤ 1000
 omega
end Go.Proofs.YtniigfikpfinfaaGreat

/- Plain facts of BranchRoundsDown: the bound that the law sums up is small; what Round lists is short. -/
namespace Go.Proofs.YtniigfikpfinfaaGreat

theorem bnd_tw {ms : Ms} {us : List Rat} (sm : SmOk ms) (ok : MsOk ms) (hl : ∀ c ∈ ms.cols, (opF c.2.1).length ≤ 32) (hu : ∀ u ∈ us, Tw 18 u) (hn : us.length = ms.cols.length) : ∀ k, k ≤ us.length → Tw (384000 + k * 594000) (bndT ms us k)
 | 0, _ => by
  have h := sm.tot ok hl (xs := []) (fun j hj => by cases hj) 0 (Nat.zero_le _)
  exact Tw.int (K := 32000) (k := ms.pen * ms.rows.length) (by
   have h1 : -33000 * ((0 : Nat) : Int) ≤ ms.pen * ms.rows.length ∧ ms.pen * ms.rows.length ≤ 32000 + 1000 * ((0 : Nat) : Int) := h
   omega)
 | k + 1, hk => by
  have he := List.getElem?_eq_getElem (l := us) (i := k) (by omega)
  rw [bndT_step he]
  have hg := sm.g ok hl (j := k) (by omega)
  exact ((bnd_tw sm ok hl hu hn k (by omega)).add ((hu _ (List.getElem_mem (by omega : k < us.length))).mulI (K := 33000) (by omega))).mono (by omega)
theorem cst_tw {ms : Ms} {xs : List Nat} (sm : SmOk ms) (ok : MsOk ms) (hl : ∀ c ∈ ms.cols, (opF c.2.1).length ≤ 32) (hx : ∀ j ∈ xs, j < ms.cols.length) (h6 : xs.length ≤ 6) : (cstL ms xs).natAbs ≤ 230000 := by
 have h := sm.tot ok hl hx xs.length (Nat.le_refl _)
 rw [totF_all (Nat.le_refl _)] at h
 omega
theorem rndL_len (ms : Ms) (us : List Rat) : (rndL ms us).length ≤ ms.cols.length := by
 unfold rndL
 refine Nat.le_trans (List.length_filter_le _ _) ?_
 rw [List.length_range]; exact Nat.le_refl _
theorem rndO_zero {ms : Ms} {us : List Rat} (h : rndE ms us = 0) : rndO ms us = natL (rndL ms us) := if_pos h
theorem bnd_end {ms : Ms} {us : List Rat} {xs : List Nat} (sm : SmOk ms) (ok : MsOk ms) (hl : ∀ c ∈ ms.cols, (opF c.2.1).length ≤ 32) (hu : ∀ u ∈ us, Tw 18 u) (hn : us.length = ms.cols.length) (hx : ∀ j ∈ xs, j < ms.cols.length) (h6 : xs.length ≤ 6) :
  Fit 200 (bndT ms us us.length) ∧ Fit 200 ((cstL ms xs : Int) : Rat) ∧ Fit 1000 (((cstL ms xs : Int) : Rat) - bndT ms us us.length) := by
 have h1 := bnd_tw sm ok hl hu hn us.length (Nat.le_refl _)
 have h2 : Tw (230000 * 12) ((cstL ms xs : Int) : Rat) := Tw.int (cst_tw sm ok hl hx h6)
 have hs := sm.few
 exact ⟨h1.fit (by omega), h2.fit (by omega), ((h2.sub h1).fit (by omega)).mono (by decide)⟩
structure MixR (y : Ms) (us : List Rat) : Prop where
 len : us.length = y.cols.length
 vok : VOk y us
 e0 : rndE y us = 0
 o0 : rndO y us = natL (rndL y us)
 sel : SelOk y (rndL y us)
 few : (rndL y us).length ≤ 6
 tw : ∀ k, k ≤ us.length → Tw 3948000 (bndT y us k)
 big : (cstL y (rndL y us)).natAbs ≤ 230000
 fit : Fit 200 (bndT y us us.length) ∧ Fit 200 ((cstL y (rndL y us) : Int) : Rat) ∧ Fit 1000 (((cstL y (rndL y us) : Int) : Rat) - bndT y us us.length)
 le : rs (((cstL y (rndL y us) : Int) : Rat) - bndT y us us.length) ≤ 0
theorem mix_all {y : Ms} {z : Nat → Int} {T : List Nat} (ok : MsOk y) (sm : SmOk y) (h : WOk (opJ y) z y.cols.length T) : MixR y (ninL z y.cols.length) := by
 have hl : ∀ c ∈ y.cols, (opF c.2.1).length ≤ 32 := fun c hc => Nat.le_trans (nodup_length (ok.cols c hc).nodup (ok.cols c hc).sub) ok.r1
 have hs := sm.few
 have h6 : (rndL y (ninL z y.cols.length)).length ≤ 6 := Nat.le_trans (rndL_len _ _) hs
 have hsel := rndL_sel h
 have hln := ninL_len z y.cols.length
 refine ⟨hln, nin_vok ok h hs, rndE_nin ok h, rndO_zero (rndE_nin ok h), hsel, h6, fun k hk => (bnd_tw sm ok hl (nin_tw h) hln k hk).mono (by omega), cst_tw sm ok hl hsel.lt h6, bnd_end sm ok hl (nin_tw h) hln hsel.lt h6, ?_⟩
 rw [hln]
 exact cst_le h
end Go.Proofs.YtniigfikpfinfaaGreat

/- The walk through the law BranchRoundsDown. -/
namespace Go.Proofs.YtniigfikpfinfaaGreat
open Go.RowKit

theorem col_row {m : World} {v : Value} {n g : Nat} {cur : Array Value} {xs : List Col} {e : TypeId} (h : RowA e 3 ColR m v n xs [(g, e, cur)]) {k : Nat} {x : Col} (hk : xs[k]? = some x) :
  ∃ b A n' c z, ColR m (.agg #[.string b, .slice A n' c, .int .i64 z]) x ∧ ∀ j, j < 3 → cur[k * 3 + j]? = [.string b, .slice A n' c, .int .i64 z][j]? := by
 obtain ⟨u, hu, -, hr⟩ := h.at_ hk
 obtain ⟨b, A, n', c, z, rfl, hf⟩ := hu.lit
 refine ⟨b, A, n', c, z, hf, fun j hj => ?_⟩
 have h1 := hr j hj
 rw [Nat.zero_add] at h1
 rw [h1]
 simp [Value.cells]
theorem ColR.over {m : World} {b1 b2 : ByteArray} {A1 A2 : Option Addr} {n1 c1 n2 c2 : Nat} {z1 z2 : Int} {x y : Col} (h : ColR m (.agg #[.string b1, .slice A1 n1 c1, .int .i64 z1]) x) (g : ColR m (.agg #[.string b2, .slice A2 n2 c2, .int .i64 z2]) y) : ColR m (.agg #[.string b1, .slice A1 n1 c1, .int .i64 z2]) (x.1, x.2.1, y.2.2) := by
 obtain ⟨s, e, hs⟩ := h
 obtain ⟨s2, e2, -⟩ := g
 simp only [Value.agg.injEq, Array.mk.injEq, List.cons.injEq, Value.string.injEq, Value.int.injEq, true_and, and_true] at e e2
 obtain ⟨e11, e12, e13⟩ := e
 obtain ⟨e21, e22, e23⟩ := e2
 exact ⟨s, by rw [e11, e12, e23], hs⟩

theorem law_BranchRoundsDown (Al : Option Addr) (cl : Nat) (l : List Int) (n : Int) (w m : World) (hV : Vw m w) (hl : Sl m Al (l.map I64)) (n1 : -9223372036854775808 ≤ n) (n2 : n ≤ 9223372036854775807) :
  Calls Tryz.prog 13 #[.slice Al l.length cl, .int .i64 n] w (RetV w m fun _ r => r = .bool true) := by
 have KM : Hid (∀ w m', Vw m' w → Le m m' → Calls Tryz.prog 14 #[.slice Al l.length cl] w (MasPost w m' (masF l))) := by
  show ∀ w m', _
  exact fun w m' hV hle => d_MasterR Al cl l w m' hV (hl.le hle) trivial
 have OK : Hid (MsOk (masF l)) := masF_ok l
 have HFEW : (masF l).cols.length ≤ 6 := masF_few l
 have HF6 := Lib.hid HFEW
 have HPN := Lib.hid (masF_pen l)
 have HCK : Hid (∀ c ∈ (masF l).cols, ColK (masF l).rows c) := masF_colK l
 obtain ⟨z0, hz0⟩ : ∃ z, bits .and .i64 n 1023 = z := ⟨_, rfl⟩
 have hL := Loc.start hV
 clear hV hl n1 n2
 generalize l.length = N1 at *
 generalize masF l = x at *
 go_enter Tryz.func13, Tryz.ntmps13
 go_wp2_with (first | go_skip | refine tP ?_ | (refine tS ?_; clear hL; intro _ hL) | (refine tB ?_; clear hL; intro _ _ hL _))
 refine (KM.out _ _ hL.vw leX).mono ?_
 rintro e W1 ⟨m1, A, nr, ca, B, cb, C, nk, cc, R, rfl, hL1, row, hrw, hct⟩
 have hJ := hL.join hL1
 have hX1 := hL1.mext
 simp only [List.append_nil] at hJ
 clear hL hL1
 have hL := hJ
 clear hJ
 obtain ⟨nc, hnc⟩ : ∃ nc, nc = x.cols.length := ⟨_, rfl⟩
 rw [← hnc] at row HFEW ⊢
 have HNC := Lib.hid hnc
 have HRW := Lib.hid hrw
 have HCT := Lib.hid hct
 have ROW := Lib.hid row
 obtain ⟨pen, hpen⟩ : ∃ pen, pen = x.pen := ⟨_, rfl⟩
 obtain ⟨nf, hnf⟩ : ∃ nf, nf = x.nf := ⟨_, rfl⟩
 rw [← hpen, ← hnf]
 have HPE := Lib.hid hpen
 have HNF := Lib.hid hnf
 clear hnc hrw hct row KM hpen hnf
 go_upto_region 2 with ((first | go_skip | refine tP ?_ | (refine tS ?_; clear hL; intro _ hL) | (refine tB ?_; clear hL; intro _ _ hL _)))
 obtain ⟨m2, hL2, hle2, hbx⟩ := Loc.showBox (cs := [.int .i64 nf, .slice A nr ca, .int .i64 pen, .slice B nc cb, .slice C nk cc]) hL
 have hb3 := hbx 3 _ rfl
 have hb2 := hbx 2 _ rfl
 have hb1 := hbx 1 _ rfl
 have HB0 : Hid (m2.rangeAt _ 0 [.int .i64 nf, .slice A nr ca, .int .i64 pen, .slice B nc cb, .slice C nk cc]) := fun j v hv => by rw [Nat.zero_add]; exact hbx j v hv
 have HRW2 := Lib.hid (IntL.le HRW.out (Le.trans (leX : Le m1 _) hle2))
 have HCT2 := Lib.hid (CutL.le HCT.out (Le.trans (leX : Le m1 _) hle2))
 have ROW2 := Lib.hid (RowA.le ColR.mono ROW.out (Le.trans (leX : Le m1 _) hle2))
 have hM2 := hL2.mext
 clear hL hle2 HRW HCT ROW
 have hL := hL2
 clear hL2 hX1
 have hX2 : Ext m2 m2 := Ext.refl _
 go_wp2_with (first | go_skip | refine tP ?_ | (refine tS ?_; clear hL; intro _ hL) | (refine tB ?_; clear hL; intro _ _ hL _))
 go_loopw [6] (fun jv wr => ∃ (j : Nat) (mm : World) (cs : List Col) (R : List Lo), jv = .int .i64 (j : Int) ∧ j ≤ 8 ∧ Loc w m wr mm R ∧ Hid (Ext m2 mm) ∧ Hid (RowA 101 3 ColR mm (.slice B nc cb) nc cs R) ∧ Hid (∀ c ∈ cs, ColK x.rows c) ∧ Hid (cs.length = nc)) (fun i _ => nc + 8 - (intOf i).toNat)
 case atStart => exact ⟨0, _, x.cols, R, rfl, by omega, hL, hX2, ROW2.out, HCK.out, HNC.out.symm⟩
 case round =>
  clear hL hX2 ROW2
  obtain ⟨j, mm, cs, Rr, rfl, hj8, hL, HXM, ROW, HCS, HCL⟩ := hrel
  have hXM := HXM.out
  by_cases hgo : j + 3 < nc
  ·have hlt' : ((j : Int) + 3) < (nc : Int) := by omega
   obtain ⟨gb, capb, cur, e8, rfl, hcap, hcsz⟩ := ROW.out.block (by omega)
   injection e8 with e81 e82 e83
   subst e81 e83
   obtain ⟨x1, hc1⟩ := at_some HCL.out (show j < nc by omega)
   obtain ⟨x2, hc2⟩ := at_some HCL.out hgo
   obtain ⟨b1, A1, k1, d1, z1, hR1, hr1⟩ := col_row ROW.out hc1
   obtain ⟨b2, A2, k2, d2, z2, hR2, hr2⟩ := col_row ROW.out hc2
   have HOV := Lib.hid (hR1.over hR2)
   have HSET := Lib.hid (ColK.set HCS.out hc1 hc2)
   have HKL : Hid (j + 3 < cs.length) := by show _ < _; rw [HCL.out]; exact hgo
   have HFIT : Hid ((j + 3 + 1) * 3 ≤ cur.size) := by
    show _ ≤ _
    have h1 := ROW.out.fit
    have h2 : (j + 3 + 1) * 3 ≤ nc * 3 := Nat.mul_le_mul_right _ hgo
    omega
   clear hR1 hR2 hc1 hc2 hcap hcsz e82 hgo
   have HR3 : Hid (cur[(j + 3) * 3 + 2]? = some (.int .i64 z2)) := by
    show _ = _
    have h1 := hr2 2 (by decide)
    exact h1
   have hp1 : ∀ i, i < 2 → cur[j * 3 + i]? = [.string b1, .slice A1 k1 d1][i]? := fun i hi => by
    rw [hr1 i (by omega)]
    rcases i with _ | _ | i
    ·rfl
    ·rfl
    ·omega
   go_upto_region 5 with ((first | go_skip | refine tP ?_ | (refine tS ?_; clear hL; intro _ hL) | (refine tB ?_; clear hL; intro _ _ hL _)))
   (try simp only [Nat.zero_add])
   (try simp only [eq_self] at *)
   refine wp_region_by2 10 [false, false, false, false, false, false, false, false, false, false] [false, false, false, false, false, false, false, false, false, false] [(fun v _ _ => v = ?c5_0), (fun v _ _ => v = ?c5_1), (fun v _ _ => v = ?c5_2), (fun v _ _ => v = ?c5_3), (fun v _ _ => v = ?c5_4), (fun v _ _ => v = ?c5_5), (fun v _ _ => v = ?c5_6), (fun v _ _ => v = ?c5_7), (fun v _ _ => v = ?c5_8), (fun v _ _ => v = ?c5_9)] hL.vw mixed [25, 26, 27, 28, 29, 30, 31, 32, 33, 34] _ (by kernel_rfl) (fun vs => by simp only [lay, Act.put, zq1, zq2, zq3]; rfl) (by kernel_rfl) (by decide) (by decide) ?s5 ?l5 ?r5
   case s5 =>
    refine ⟨?_, ?_, ?_, ?_, ?_, ?_, ?_, ?_, ?_, ?_, trivial⟩
    ·intro vs W1 m1 hE hM hV hD; clear hD
     exact sFe
    ·intro vs W1 m1 hE hM hV hD; obtain ⟨⟨_, _, -, -, f25⟩, -⟩ := hD
     rw [(f25 : vs 25 = _)]; clear f25; exact sLe
    ·intro vs W1 m1 hE hM hV hD; clear hD
     exact sPw
    ·intro vs W1 m1 hE hM hV hD; obtain ⟨⟨_, _, -, -, f27⟩, -⟩ := hD
     rw [(f27 : vs 27 = _)]; clear f27; exact sPw
    ·intro vs W1 m1 hE hM hV hD; clear hD
     exact sFe
    ·intro vs W1 m1 hE hM hV hD; obtain ⟨⟨_, _, -, -, f29⟩, -⟩ := hD
     rw [(f29 : vs 29 = _)]; clear f29; exact sLe
    ·intro vs W1 m1 hE hM hV hD; clear hD
     exact sPw
    ·intro vs W1 m1 hE hM hV hD; obtain ⟨⟨_, _, -, -, f30⟩, ⟨_, _, -, -, f31⟩, -⟩ := hD
     rw [(f30 : vs 30 = _), (f31 : vs 31 = _)]; clear f30 f31; exact sIy
    ·intro vs W1 m1 hE hM hV hD; obtain ⟨⟨_, _, -, -, f32⟩, -⟩ := hD
     rw [(f32 : vs 32 = _)]; clear f32; exact sFe
    ·intro vs W1 m1 hE hM hV hD; obtain ⟨⟨_, _, -, -, f33⟩, -⟩ := hD
     rw [(f33 : vs 33 = _)]; clear f33; exact sLe
   case l5 =>
    refine ⟨nF, nF, nF, nF, nF, nF, nF, nF, nF, nF, trivial⟩
   intro vs W1 m1 hE hM hV hF hD
   clear hD
   obtain ⟨-, ⟨_, _, -, -, f26⟩, -, ⟨_, _, -, -, f28⟩, -, -, -, -, -, ⟨_, _, -, -, f34⟩, -⟩ := hF
   replace hL := hL.call hE hM hV
   have f26 : vs 26 = _ := f26
   generalize vs 26 = x26 at f26 ⊢
   subst x26
   have f28 : vs 28 = _ := f28
   generalize vs 28 = x28 at f28 ⊢
   subst x28
   have f34 : vs 34 = _ := f34
   generalize vs 34 = x34 at f34 ⊢
   subst x34
   clear hE hV
   simp only [List.drop_succ_cons, List.drop_zero]
   go_wp2_with (first | (with_reducible refine stS ?_) | (first | go_skip | refine tP ?_ | (refine tS ?_; clear hL; intro _ hL) | (refine tB ?_; clear hL; intro _ _ hL _)))
   refine goA ?_
   refine wl_storeS hL (wanted_none rfl) (vs := [.string b1, .slice A1 k1 d1]) rfl rfl rfl ag_Pair rfl (n := 0) rfl (by have := HFIT.out; omega) rfl ?_
   have RA := Lib.hid (RowA.put (k := j + 3) (o := 0) (x := (x1.1, x1.2.1, x2.2.2)) (ws := [.string b1, .slice A1 k1 d1]) (cs := [.string b1, .slice A1 k1 d1, .int .i64 z2]) (RowA.le ColR.mono ROW.out (leX : Le mm m1)) HKL.out (Nat.le_of_ble_eq_true rfl) rfl (fun i hi => by
    rcases i with _ | _ | _ | i
    ·rfl
    ·rfl
    ·have h1 := HR3.out
     simp only [List.length_cons, List.length_nil]
     rw [if_neg (by omega)]
     simp only [Nat.zero_add]
     exact h1.symm
    ·omega) (HOV.out.le (leX : Le mm m1)))
   have HLX : Hid (Ext m2 m1) := hXM.trans (exX : Ext mm m1)
   clear hL
   intro W6 hL hS6
   simp only [List.set_cons_zero] at hL
   simp only [Act.put, zq1, zq2, zq3]
   go_wp2_with (first | go_skip | refine tP ?_ | (refine tS ?_; clear hL; intro _ hL) | (refine tB ?_; clear hL; intro _ _ hL _))
   refine QN.mk ?_
   go_wp2_with (first | go_skip | refine tP ?_ | (refine tS ?_; clear hL; intro _ hL) | (refine tB ?_; clear hL; intro _ _ hL _))
   go_roundw
   case rel => exact ⟨j + 2, _, cs.set (j + 3) (x1.1, x1.2.1, x2.2.2), _, by go_num, by omega, hL, HLX.out, RA.out, HSET.out, (by show _ = _; rw [List.length_set]; exact HCL.out)⟩
   case measure => simp [intOf] <;> omega
  ·have hlt' : (nc : Int) ≤ (j : Int) + 3 := by omega
   clear hgo
   obtain ⟨m9, hL9, hle9, hl9, -⟩ := RowA.show (A := []) ColR.mono hL ROW.out
   obtain ⟨y, hy⟩ : ∃ y : Ms, y = { x with cols := cs } := ⟨_, rfl⟩
   have HYL : Hid (y.cols.length = nc) := by show _ = _; rw [hy]; exact HCL.out
   have HYP : Hid (y.pen = pen) := by show _ = _; rw [hy, HPE.out]
   have HYR : Hid (y.rows = x.rows) := by show _ = _; rw [hy]
   have HLE9 : Hid (Le m2 m9) := Le.trans (leX : Le m2 mm) hle9
   have HCV : Hid (ColL m9 (.slice B nc cb) y.cols) := by show ColL _ _ _; rw [hy]; exact hl9
   have HMY : Hid (MasterR m9 (.agg #[.int .i64 nf, .slice A nr ca, .int .i64 pen, .slice B nc cb, .slice C nk cc]) y) := by
    show MasterR _ _ _
    have e1 : IntL m9 (.slice A nr ca) y.rows := by rw [HYR.out]; exact IntL.le HRW2.out HLE9.out
    have e2 : CutL m9 (.slice C nk cc) y.cuts := by rw [hy]; exact CutL.le HCT2.out HLE9.out
    have e3 : nf = y.nf := by rw [hy]; exact HNF.out
    exact ⟨.slice A nr ca, .slice B nc cb, .slice C nk cc, by rw [HYP.out, ← e3], e1, HCV.out, e2⟩
   have hnr : x.rows.length = nr := by
    obtain ⟨_, _, e, _⟩ := HRW2.out.lit
    injection e with _ e _
    exact e.symm
   have OKY : Hid (MsOk y) := by show MsOk _; rw [hy]; exact ms_over OK.out HCS.out (by rw [HCL.out]; exact HNC.out)
   have SMY : Hid (SmOk y) := by show SmOk _; rw [hy]; exact sm_over HPN.out.1 HPN.out.2 HF6.out HCS.out (by rw [HCL.out]; exact HNC.out)
   have HYN : Hid (y.rows.length = nr) := by show _ = _; rw [HYR.out]; exact hnr
   have hb9 := rangeAt_le HB0.out HLE9.out
   have hb91 := HLE9.out.cell _ _ hb1
   have hb92 := HLE9.out.cell _ _ hb2
   have hb93 := HLE9.out.cell _ _ hb3
   clear hL hl9 hle9 ROW HRW2 HCT2 HB0 hb1 hb2 hb3 hXM HXM hy hnr HCS HCL HLE9 hbx
   have hL := hL9
   clear hL9
   have hpen0 : 0 ≤ pen := by have := SMY.out.p0; rw [HYP.out] at this; exact this
   have hpen1 : pen ≤ 1000 := by have := SMY.out.p1; rw [HYP.out] at this; exact this
   have hnr32 : nr ≤ 32 := by have := OKY.out.r1; rw [HYN.out] at this; exact this
   go_wp2_with (first | go_skip | refine tP ?_ | (refine tS ?_; clear hL; intro _ hL) | (refine tB ?_; clear hL; intro _ _ hL _))
   refine (l_mixed _ y z0 _ _ hL.vw (HMY.out.le leX) OKY.out SMY.out.few).mono ?_
   rintro e Wm ⟨_, mq, rfl, hE, hMq, hV, z, T, hw, hv⟩
   replace hL := hL.call hE (by assumption) hV; clear hE hV
   have HR := Lib.hid (mix_all OKY.out SMY.out hw)
   generalize ninL z y.cols.length = us at *
   have hul : us.length = nc := by rw [HR.out.len]; exact HYL.out
   have HUL := Lib.hid hul
   obtain ⟨V8, c8, rfl, hc8, hv8⟩ := hv.lit
   have HV8 := Lib.hid hv8
   rw [hul] at HV8
   rw [hul]
   clear hv8 hc8 hw hul hz0
   go_wp2_with (first | go_skip | refine tP ?_ | (refine tS ?_; clear hL; intro _ hL) | (refine tB ?_; clear hL; intro _ _ hL _))
   refine (b_Round _ _ y us _ _ hL.vw (HMY.out.le leX) (FracL.le HV8.out leX) HR.out.vok SMY.out.few).mono ?_
   rw [HR.out.e0, HR.out.o0]
   rintro e Wr ⟨_, mr, rfl, hE, hMr, hV, v1, rfl, hv1⟩
   replace hL := hL.call hE (by assumption) hV; clear hE hV
   obtain ⟨Y1, y1, rfl, hy1, hv1⟩ := hv1.lit
   have HV1 := Lib.hid hv1
   generalize (natL (rndL y us)).length = nx at *
   clear hv1 hy1
   go_wp2_with (first | go_skip | refine tP ?_ | (refine tS ?_; clear hL; intro _ hL) | (refine tB ?_; clear hL; intro _ _ hL _))
   refine (r_Cost _ _ y (rndL y us) _ _ hL.vw (HMY.out.le leX) (IntL.le HV1.out leX) OKY.out SMY.out HR.out.sel HR.out.few).mono ?_
   rintro e Wc3 ⟨_, mc3, rfl, hE, hMc3, hV, rfl⟩
   replace hL := hL.call hE (by assumption) hV; clear hE hV
   have HCB := Lib.hid HR.out.big
   have HCF := Lib.hid HR.out.fit
   have HCL2 := Lib.hid HR.out.le
   rw [HUL.out] at HCF HCL2
   generalize cstL y (rndL y us) = cst at *
   obtain ⟨pr, hpr⟩ : ∃ pr, pr = pen * (nr : Int) := ⟨_, rfl⟩
   have hprb : 0 ≤ pr ∧ pr ≤ 32000 := by
    have h4 : pen * (nr : Int) ≤ 1000 * 32 := Int.mul_le_mul hpen1 (by omega) (by omega) (by omega)
    have h5 : 0 ≤ pen * (nr : Int) := Int.mul_nonneg hpen0 (by omega)
    omega
   have hw1 : wrap64 (pen * (nr : Int)) = pr := by unfold wrap64; omega
   have HB0 : Hid (bndT y us 0 = (pr : Rat)) := by
    show _ = _
    rw [hpr, ← HYP.out, ← HYN.out]; rfl
   clear hpr
   have HPRB := Lib.hid hprb
   go_wp2_with (first | go_skip | refine tP ?_ | (refine tS ?_; clear hL; intro _ hL) | (refine tB ?_; clear hL; intro _ _ hL _))
   refine (r_Int pr _ _ hL.vw (by omega) (by omega)).mono ?_
   rintro e Wc4 ⟨vc4, mc4, rfl, hE, hMc4, hV, hc4⟩
   replace hL := hL.call hE (by assumption) hV; clear hE hV
   obtain ⟨gc4', Ac4', nc4', cc4', hc4', Bc4', kc4', dc4', rfl, hc4⟩ := hc4.lit
   have HLQ : Hid (Le m9 mq) := (leX : Le m9 mq)
   have hbq1 := HLQ.out.cell _ _ hb91
   have hbq2 := HLQ.out.cell _ _ hb92
   have hbq3 := HLQ.out.cell _ _ hb93
   have HCQ := Lib.hid (ColL.le HCV.out HLQ.out)
   have hXq : Ext mq mc4 := exX
   have HQ4 := Lib.hid hXq
   have HS4 : Hid (FracC mc4 (.agg #[.bool gc4', .slice Ac4' nc4' cc4', .bool hc4', .slice Bc4' kc4' dc4']) (bndT y us 0)) := by
    show FracC _ _ _
    rw [HB0.out]; exact hc4
   clear hb9 hb91 hb92 hb93 HLQ hc4 HB0 HMY HCV HV1 hw1 hprb
   go_wp2_with (first | go_skip | refine tP ?_ | (refine tS ?_; clear hL; intro _ hL) | (refine tB ?_; clear hL; intro _ _ hL _))
   clear hXq
   go_loopw [13] (fun iv wr => ∃ (i : Nat) (m4 : World) (g5 h5 : Bool) (A5 B5 : Option Addr) (n5 c5 k5 d5 : Nat), i ≤ nc ∧ iv = .int .i64 (i : Int) ∧ Loc w m wr m4 [(Wc4.heap.size, 39, #[.bool g5, .slice A5 n5 c5, .bool h5, .slice B5 k5 d5])] ∧ Hid (Ext mq m4) ∧ Hid (FracC m4 (.agg #[.bool g5, .slice A5 n5 c5, .bool h5, .slice B5 k5 d5]) (bndT y us i))) (fun iv _ => nc - (intOf iv).toNat)
   case atStart => exact ⟨0, _, _, _, _, _, _, _, _, _, Nat.zero_le _, rfl, hL, HQ4.out.trans exX, HS4.out.le leX⟩
   case round =>
    clear hL HQ4 HS4
    obtain ⟨i, m4, g5, h5, A5, B5, n5, c5, k5, d5, hi, rfl, hL, HX4, HS⟩ := hrel
    have hX4 := HX4.out
    by_cases hlt : i < nc
    ·have hlt2 : (i : Int) < (nc : Int) := by omega
     obtain ⟨q, hq⟩ := at_some HUL hlt
     obtain ⟨⟨s, ds, cost⟩, hx⟩ := at_some HYL hlt
     obtain ⟨b1, o1, g2, A2, n2, c2, h2, B2, k2, d2, rfl, hp2, hr2⟩ := FracL.at_ HV8.out hq
     obtain ⟨b3, o3, D, cd, rfl, hds, hr1⟩ := ColL.at_ HCQ.out hx
     obtain ⟨i1, i2, i3, i4, i5, i6, i7⟩ := OKY.out.cols _ (List.mem_of_getElem? hx)
     have hc0 := SMY.out.c0 _ (List.mem_of_getElem? hx)
     have hc9 := SMY.out.c1 _ (List.mem_of_getElem? hx)
     have hn32 : (opF ds).length ≤ 32 := Nat.le_trans (nodup_length i7 i6) OKY.out.r1
     simp only at hds hr1 i3 i4 hc0 hc9
     have hr3 := range_two hr1
     have hcc := hr1 2 _ rfl
     have HD := Lib.hid hds
     have H3 := Lib.hid i3
     have H4 := Lib.hid i4
     have HP2 := Lib.hid hp2
     have HTQ : Hid (Fit 200 q) := (HR.out.vok.tw q (List.mem_of_getElem? hq)).fit (by decide)
     have HTB : Hid (Fit 200 (bndT y us i)) := (HR.out.tw i (by rw [HUL.out]; omega)).fit (by decide)
     have hgg := SMY.out.g OKY.out (fun c hc => Nat.le_trans (nodup_length (OKY.out.cols c hc).nodup (OKY.out.cols c hc).sub) OKY.out.r1) (j := i) (by rw [HYL.out]; exact hlt)
     have HTG : Hid (Fit 200 (q * ((gJ y i : Int) : Rat))) := ((HR.out.vok.tw q (List.mem_of_getElem? hq)).mulI (K := 33000) (by omega)).fit (by decide)
     have HTI : Hid (Fit 200 ((gJ y i : Int) : Rat)) := (Tw.int (K := 33000) (by omega)).fit (by decide)
     have HST := Lib.hid (bndT_step (ms := y) hq)
     have HG : Hid (gJ y i = cost - pen * ((opF ds).length : Int)) := by
      show _ = _
      unfold gJ
      rw [opJ_at (ms := y) hx, HYP.out, coJ_at (ms := y) hx]
     clear hx hq hds hp2 i1 i2 i3 i4 i5 i6 i7 hr1
     generalize gJ y i = gg at *
     generalize hno : (opF ds).length = no at *
     have HNO := Lib.hid hno
     obtain ⟨pn, hpn⟩ : ∃ pn, pn = pen * (no : Int) := ⟨_, rfl⟩
     have hpb : 0 ≤ pn ∧ pn ≤ 32000 := by
      have h4 : pen * (no : Int) ≤ 1000 * 32 := Int.mul_le_mul hpen1 (by omega) (by omega) (by omega)
      have h5 : 0 ≤ pen * (no : Int) := Int.mul_nonneg hpen0 (by omega)
      omega
     have hm1 : wrap64 (pen * (no : Int)) = pn := by unfold wrap64; omega
     have hm2 : wrap64 (cost - pn) = gg := by
      have := HG.out
      unfold wrap64; omega
     clear hpn hno HG hpb
     go_wp2_with (first | go_skip | refine tP ?_ | (refine tS ?_; clear hL; intro _ hL) | (refine tB ?_; clear hL; intro _ _ hL _))
     refine (r_Operated s _ ds _ _ hL.vw (DutsL.le HD.out leX) H3.out H4.out).mono ?_
     rintro e Wc5 ⟨vc5, mc5, rfl, hE, hMc5, hV, hc5⟩
     replace hL := hL.call hE (by assumption) hV; clear hE hV
     obtain ⟨O, co, rfl, -, hc5⟩ := hc5.lit
     rw [HNO.out] at hc5 ⊢
     clear hc5
     go_upto_region 16 with ((first | go_skip | refine tP ?_ | (refine tS ?_; clear hL; intro _ hL) | (refine tB ?_; clear hL; intro _ _ hL _)))
     (try simp only [Nat.zero_add])
     (try simp only [eq_self] at *)
     refine wp_region_by2 19 [false, false, false, false, false, false, false, false, false, false, false, false, false, false, false, false, false, false, false] [false, false, false, false, false, false, false, false, false, false, false, false, false, false, false, false, false, false, false] [(fun v _ _ => v = ?c16_0), (fun v _ _ => v = ?c16_1), (fun v _ _ => v = ?c16_2), (fun v _ _ => v = ?c16_3), (fun v _ _ => v = ?c16_4), (fun v _ _ => v = ?c16_5), (fun v _ _ => v = ?c16_6), (fun v _ _ => v = ?c16_7), (fun v _ _ => v = ?c16_8), (fun v _ _ => v = ?c16_9), (fun v _ _ => v = ?c16_10), (fun v _ _ => v = ?c16_11), (fun v _ _ => v = ?c16_12), (fun v _ _ => v = ?c16_13), (fun v _ _ => v = ?c16_14), (fun v _ _ => v = ?c16_15), Of (fun um v => FracC um v ((gg : Int) : Rat)), Of (fun um v => FracC um v (q * ((gg : Int) : Rat))), Of (fun um v => FracC um v (bndT y us i + q * ((gg : Int) : Rat)))] hL.vw mixed [80, 81, 82, 83, 84, 85, 86, 87, 88, 89, 90, 91, 92, 93, 94, 95, 96, 97, 98] _ (by kernel_rfl) (fun vs => by simp only [lay, Act.put, zq1, zq2, zq3]; rfl) (by kernel_rfl) (by decide) (by decide) ?s16 ?l16 ?r16
     case s16 =>
      refine ⟨?_, ?_, ?_, ?_, ?_, ?_, ?_, ?_, ?_, ?_, ?_, ?_, ?_, ?_, ?_, ?_, ?_, ?_, ?_, trivial⟩
      ·intro vs W1 m1 hE hM hV hD; clear hD
       exact sLe
      ·intro vs W1 m1 hE hM hV hD; clear hD
       exact sPw
      ·intro vs W1 m1 hE hM hV hD; clear hD
       exact sPw
      ·intro vs W1 m1 hE hM hV hD; obtain ⟨⟨_, _, -, -, f81⟩, ⟨_, _, -, -, f82⟩, -⟩ := hD
       rw [(f81 : vs 81 = _), (f82 : vs 82 = _)]; clear f81 f82; exact sIy
      ·intro vs W1 m1 hE hM hV hD; obtain ⟨⟨_, _, -, -, f83⟩, -⟩ := hD
       rw [(f83 : vs 83 = _)]; clear f83; exact sLe
      ·intro vs W1 m1 hE hM hV hD; clear hD
       exact sFe
      ·intro vs W1 m1 hE hM hV hD; obtain ⟨⟨_, _, -, -, f85⟩, -⟩ := hD
       rw [(f85 : vs 85 = _)]; clear f85; exact sLe
      ·intro vs W1 m1 hE hM hV hD; clear hD
       exact sPw
      ·intro vs W1 m1 hE hM hV hD; obtain ⟨⟨_, _, -, -, f86⟩, ⟨_, _, -, -, f87⟩, -⟩ := hD
       rw [(f86 : vs 86 = _), (f87 : vs 87 = _)]; clear f86 f87; exact sIy
      ·intro vs W1 m1 hE hM hV hD; obtain ⟨⟨_, _, -, -, f88⟩, -⟩ := hD
       rw [(f88 : vs 88 = _)]; clear f88; exact sFe
      ·intro vs W1 m1 hE hM hV hD; obtain ⟨⟨_, _, -, -, f89⟩, -⟩ := hD
       rw [(f89 : vs 89 = _)]; clear f89; exact sLe
      ·intro vs W1 m1 hE hM hV hD; clear hD
       exact sFe
      ·intro vs W1 m1 hE hM hV hD; obtain ⟨⟨_, _, -, -, f91⟩, -⟩ := hD
       rw [(f91 : vs 91 = _)]; clear f91; exact sLe
      ·intro vs W1 m1 hE hM hV hD; clear hD
       exact sPw
      ·intro vs W1 m1 hE hM hV hD; obtain ⟨⟨_, _, -, -, f92⟩, ⟨_, _, -, -, f93⟩, -⟩ := hD
       rw [(f92 : vs 92 = _), (f93 : vs 93 = _)]; clear f92 f93; exact sPw
      ·intro vs W1 m1 hE hM hV hD; obtain ⟨⟨_, _, -, -, f90⟩, ⟨_, _, -, -, f94⟩, -⟩ := hD
       rw [(f90 : vs 90 = _), (f94 : vs 94 = _)]; clear f90 f94; exact sPw
      ·intro vs W1 m1 hE hM hV hD; obtain ⟨⟨_, _, -, -, f95⟩, -⟩ := hD
       rw [(f95 : vs 95 = _)]
       clear f95
       go_wp2_with fail
       refine (r_Int gg _ _ hV (by omega) (by omega)).mono ?_
       rintro e W2 ⟨v, m2, rfl, hE2, hM2, hV2, h⟩
       go_wp2_with fail
       refine One2.call hE2 hM2 hV2 ?_; first | exact h | exact rfl
      ·intro vs W1 m1 hE hM hV hD; obtain ⟨⟨_, _, -, -, f84⟩, ⟨_, _, -, i96, f96⟩, -, -⟩ := hD
       rw [(f84 : vs 84 = _)]
       clear f84
       have f96 : FracC _ (vs 96) ((gg : Int) : Rat) := f96
       replace f96 := f96.le i96.le
       clear i96
       go_wp2_with fail
       refine (r_MulC _ _ q _ _ _ hV (HP2.out.le leX) f96 HTQ.out HTI.out).mono ?_
       rintro e W2 ⟨v, m2, rfl, hE2, hM2, hV2, h⟩
       go_wp2_with fail
       refine One2.call hE2 hM2 hV2 ?_; first | exact h | exact rfl
      ·intro vs W1 m1 hE hM hV hD; obtain ⟨⟨_, _, -, -, f80⟩, ⟨_, _, -, i97, f97⟩, -, -⟩ := hD
       rw [(f80 : vs 80 = _)]
       clear f80
       have f97 : FracC _ (vs 97) (q * ((gg : Int) : Rat)) := f97
       replace f97 := f97.le i97.le
       clear i97
       go_wp2_with fail
       refine (r_AddC _ _ (bndT y us i) _ _ _ hV (HS.out.le leX) f97 HTB.out HTG.out).mono ?_
       rintro e W2 ⟨v, m2, rfl, hE2, hM2, hV2, h⟩
       go_wp2_with fail
       refine One2.call hE2 hM2 hV2 ?_; first | exact h | exact rfl
     case l16 =>
      refine ⟨nF, nF, nF, nF, nF, nF, nF, nF, nF, nF, nF, nF, nF, nF, nF, nF, nF, nF, nF, trivial⟩
     intro vs W1 m1 hE hM hV hF hD
     clear hD
     obtain ⟨-, -, -, -, -, -, -, -, -, -, -, -, -, -, -, -, ⟨_, _, -, i96, f96⟩, ⟨_, _, -, i97, f97⟩, ⟨_, _, -, i98, f98⟩, -⟩ := hF
     replace hL := hL.call hE hM hV
     replace f96 : FracC _ (vs 96) ((gg : Int) : Rat) := f96
     replace f96 := f96.le i96.le
     clear i96
     replace f97 : FracC _ (vs 97) (q * ((gg : Int) : Rat)) := f97
     replace f97 := f97.le i97.le
     clear i97
     replace f98 : FracC _ (vs 98) (bndT y us i + q * ((gg : Int) : Rat)) := f98
     replace f98 := f98.le i98.le
     clear i98
     obtain ⟨g98, A98, n98, c98, h98, B98, k98, d98, e98, f98⟩ := f98.lit
     generalize vs 98 = x98 at e98 ⊢
     subst x98
     clear hE hV
     simp only [List.drop_succ_cons, List.drop_zero]
     go_wp2_with (first | go_skip | refine tP ?_ | (refine tS ?_; clear hL; intro _ hL) | (refine tB ?_; clear hL; intro _ _ hL _))
     refine QN.mk ?_
     rw [← HST.out] at f98
     have HSN := Lib.hid f98
     have HXN : Hid (Ext mq m1) := hX4.trans exX
     clear f98
     go_wp2_with (first | go_skip | refine tP ?_ | (refine tS ?_; clear hL; intro _ hL) | (refine tB ?_; clear hL; intro _ _ hL _))
     go_roundw
     case rel => exact ⟨i + 1, _, _, _, _, _, _, _, _, _, by omega, by go_num, hL, HXN.out, HSN.out.le leX⟩
     case measure => simp [intOf] <;> omega
    ·have hin : i = nc := by omega
     subst hin
     have h9 : (i : Int) ≤ (i : Int) := Int.le_refl _
     have KCP : Hid (∀ v1 v2 w m', Vw m' w → FracC m' v1 ((cst : Int) : Rat) → FracC m' v2 (bndT y us i) → Calls Tryz.prog 25 #[v1, v2] w (RetV w m' fun _ r' => r' = .int .i64 (rs (((cst : Int) : Rat) - bndT y us i)))) := by
      show ∀ v1 v2 w m', _
      intro v1 v2 w m' hV h1 h2
      exact r_Compare v1 v2 _ _ w m' hV (h1.toV HCF.out.2.1 (by decide)) (h2.toV HCF.out.1 (by decide)) HCF.out.2.1 HCF.out.1 HCF.out.2.2
     have hsg := HCL2.out
     generalize rs (((cst : Int) : Rat) - bndT y us i) = sg at *
     have hsd : decide (sg ≤ 0) = true := decide_eq_true hsg
     have hcb := HCB.out
     have hc1 : -9223372036854775808 ≤ cst := by omega
     have hc2 : cst ≤ 9223372036854775807 := by omega
     clear hsg hcb
     go_upto_region 17 with ((first | go_skip | refine tP ?_ | (refine tS ?_; clear hL; intro _ hL) | (refine tB ?_; clear hL; intro _ _ hL _)))
     (try simp only [Nat.zero_add])
     (try simp only [eq_self] at *)
     refine wp_region_by2 8 [false, false, false, false, false, false, false, false] [false, false, false, false, false, false, false, false] [(fun v _ _ => v = ?c17_0), Of (fun um v => FracC um v ((cst : Int) : Rat)), (fun v _ _ => v = ?c17_2), Is (.int .i64 sg), (fun v _ _ => v = ?c17_4), (fun v _ _ => v = ?c17_5), Is (.bool true), (fun v _ _ => v = ?c17_7)] hL.vw mixed [99, 100, 101, 102, 103, 104, 105, 106] _ (by kernel_rfl) (fun vs => by simp only [lay, Act.put, zq1, zq2, zq3]; rfl) (by kernel_rfl) (by decide) (by decide) ?s17 ?l17 ?r17
     case s17 =>
      refine ⟨?_, ?_, ?_, ?_, ?_, ?_, ?_, ?_, trivial⟩
      ·intro vs W1 m1 hE hM hV hD; clear hD
       exact sPw
      ·intro vs W1 m1 hE hM hV hD; obtain ⟨⟨_, _, -, -, f99⟩, -⟩ := hD
       rw [(f99 : vs 99 = _)]
       clear f99
       go_wp2_with fail
       refine (r_Int cst _ _ hV hc1 hc2).mono ?_
       rintro e W2 ⟨v, m2, rfl, hE2, hM2, hV2, h⟩
       go_wp2_with fail
       refine One2.call hE2 hM2 hV2 ?_; first | exact h | exact rfl
      ·intro vs W1 m1 hE hM hV hD; clear hD
       exact sLe
      ·intro vs W1 m1 hE hM hV hD; obtain ⟨⟨_, _, -, i100, f100⟩, ⟨_, _, -, -, f101⟩, -, -⟩ := hD
       rw [(f101 : vs 101 = _)]
       clear f101
       have f100 : FracC _ (vs 100) ((cst : Int) : Rat) := f100
       replace f100 := f100.le i100.le
       clear i100
       go_wp2_with fail
       refine (KCP.out _ _ _ _ hV f100 (HS.out.le leX)).mono ?_
       rintro e W2 ⟨v, m2, rfl, hE2, hM2, hV2, h⟩
       go_wp2_with fail
       refine One2.call hE2 hM2 hV2 ?_; first | exact h | exact rfl
      ·intro vs W1 m1 hE hM hV hD; obtain ⟨⟨_, _, -, -, f102⟩, -⟩ := hD
       rw [(f102 : vs 102 = _)]; clear f102; exact sPw
      ·intro vs W1 m1 hE hM hV hD; obtain ⟨⟨_, _, -, -, f103⟩, -, -⟩ := hD
       rw [(f103 : vs 103 = _)]; clear f103; exact sPw
      ·intro vs W1 m1 hE hM hV hD; obtain ⟨⟨_, _, -, -, f104⟩, -, -⟩ := hD
       rw [(f104 : vs 104 = _)]
       clear f104
       go_wp2_with fail
       refine (kb_known _ _ hV).mono ?_
       rintro e W2 ⟨v, m2, rfl, hE2, hM2, hV2, h⟩
       go_wp2_with fail
       refine One2.call hE2 hM2 hV2 ?_; first | exact h | exact rfl
      ·intro vs W1 m1 hE hM hV hD; obtain ⟨⟨_, _, -, -, f104⟩, ⟨_, _, -, -, f105⟩, -⟩ := hD
       rw [(f104 : vs 104 = _), (f105 : vs 105 = _)]; clear f104 f105; exact sPw
     case l17 =>
      refine ⟨nF, nF, nF, nF, nF, nF, nF, nF, trivial⟩
     intro vs W1 m1 hE hM hV hF hD
     clear hD
     obtain ⟨-, ⟨_, _, -, i100, f100⟩, -, -, -, -, -, ⟨_, _, -, -, f106⟩, -⟩ := hF
     replace hL := hL.call hE hM hV
     replace f100 : FracC _ (vs 100) ((cst : Int) : Rat) := f100
     replace f100 := f100.le i100.le
     clear i100
     have f106 : vs 106 = _ := f106
     generalize vs 106 = x106 at f106 ⊢
     subst x106
     clear hE hV
     simp only [List.drop_succ_cons, List.drop_zero]
     go_wp2_with (first | go_skip | refine tP ?_ | (refine tS ?_; clear hL; intro _ hL) | (refine tB ?_; clear hL; intro _ _ hL _))
     refine QN.mk ?_
     go_wp2_with (first | go_skip | refine tP ?_ | (refine tS ?_; clear hL; intro _ hL) | (refine tB ?_; clear hL; intro _ _ hL _))
     go_ret
     exact RetV.mk hL rfl
end Go.Proofs.YtniigfikpfinfaaGreat

/- BranchRoundsDown: for every input the law returns true, and each argument reads afterwards as it read before. There is no condition. -/
namespace Go.Proofs.YtniigfikpfinfaaGreat
open Go.ChangeShapes Go.WideShapes Go.ChangeAt Go.RowKit

theorem branchRoundsDown_lifted (os : Os) (started : os.Started) (H : Type) (enc : TypeId × Value → H) :
  ReturnsInHanded {} Tryz.checked os 13 .any (Rows.branchRoundsDownSpec.pre6 enc Tryz.prog Tryz.f13 Rows.branchRoundsDownRow.domain false) (Rows.branchRoundsDownSpec.post enc Tryz.prog Tryz.f13 false true false false) := by
 refine returnsInHanded_of_change (C := Tryz.checked) ownK started (by kernel_rfl) Tryz.func13
  (ChangeSpec.witness6 (enc := enc) (C := Tryz.checked) false ⟨#[], #[.slice none 0 0, .int .i64 0], []⟩ 8 (by kernel_rfl) (by kernel_rfl) (by kernel_rfl) (by kernel_rfl)) ?_
 intro W base args ds gs before hval0 hW hcnd _
 have hval : ∀ (j : Nat) t v, Tryz.f13.params[j]? = some t → args[j]? = some v → Value.okWide Tryz.prog W .any base t v := hval0
 have hW' := hW
 obtain ⟨p, q, hA0, hV, rfl, hfz, hnd⟩ := hW
 have hA : DataW.TrodAll enc Tryz.prog W 0 (fun _ => true) true Tryz.f13.params.toList args.toList ds p := hA0
 rw [Tryz.params13] at hA hval
 obtain ⟨v0, vs0, d0, ds0, p0, q0, hargs, rfl, rfl, h0, r0⟩ := trodAll_cons hA
 obtain ⟨v1, vs1, d1, ds1, p1, q1, rfl, rfl, rfl, h1, r1⟩ := trodAll_cons r0
 obtain ⟨rfl, rfl, rfl⟩ := trodAll_nil r1
 obtain rfl : args = #[v0, v1] := by cases args; simp_all
 obtain ⟨rfl, rfl⟩ := trodVars_none hV
 obtain ⟨n1, rfl, rfl, rfl, wn1⟩ := open_int Tryz.underlying3 (hval 1 3 v1 rfl rfl) h1
 obtain ⟨A0, c0, l0, rfl, s0⟩ := arg_ints (hval 0 22 v0 rfl rfl) h0
 clear hA0 hval0 hA r0 r1 hargs
 refine (law_BranchRoundsDown A0 c0 l0 n1 W W (Vw.refl W) s0 (wf_bd wn1).1 (wf_bd wn1).2).mono fun e W' h => ?_
 obtain ⟨_, _, rfl, hE, _, _, rfl⟩ := h
 have hin : ∀ x ∈ p0 ++ ([] ++ []) ++ [], x.block < W.heap.size := fun x hx => hW'.lt x hx
 have st : ∀ {t : TypeId} {v : Value} {d : DataW H} {ps : List MemPlace}, Tryz.prog.readableRec t = true → t < Tryz.prog.types.size → DataW.Trod enc Tryz.prog W 0 (fun _ => true) true t v d ps → (∀ x ∈ ps, x ∈ p0 ++ ([] ++ []) ++ []) →
   DataW.Trod enc Tryz.prog W' 0 (fun b => decide (b < W.heap.size)) true t v d ps := fun hr ht h hx =>
  WideElems.Trod_stays laidO hr ht h (fun x hp => Below.same hE (hin x (hx x hp))) (fun x hp => by simpa using hin x (hx x hp))
 refine ⟨_, rfl, _, _, _, [], _, [], hW', ?_, trodAll_cons_mk (st (by kernel_rfl) (of_decide_eq_true (by kernel_rfl)) h0 ?_) (trodAll_cons_mk (shut_int Tryz.underlying3 wn1) trodAll_mk0), rfl, Below.frame hE _, fun h => by cases h⟩
 ·exact trodAll_cons_mk (shut_bool Tryz.underlying4 _) trodAll_mk0
 all_goals (intro x hx; simp [hx])
end Go.Proofs.YtniigfikpfinfaaGreat
