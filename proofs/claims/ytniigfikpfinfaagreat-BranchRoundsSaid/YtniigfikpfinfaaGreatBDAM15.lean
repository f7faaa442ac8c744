/- Part 6 of 8 of the proof: the law BranchRounds returns true for every input, and its arguments read as before; there is no condition. -/
import Derived.Test.YtniigfikpfinfaaGreatBD5
set_option linter.unusedVariables false
set_option linter.unusedSimpArgs false
set_option maxRecDepth 100000
set_option maxHeartbeats 64000000
/- Contract of pairingref27.Round. -/
namespace Go.Proofs.YtniigfikpfinfaaGreat
open Go.RowKit

theorem r_Round_len (xv : Value) (x : Ms) (V : Option Addr) (n c : Nat) (w m : World) (hV : Vw m w) (hx : MasterR m xv x) (ok : MsOk x) (hn : n ≠ x.cols.length) :
  Calls Tryz.prog 55 #[xv, .slice V n c] w (RetV w m fun _ r => r = .tuple #[.slice none 0 0, .int .i64 12]) := by
 have HX := Lib.hid hx
 obtain ⟨A, nr, ca, B, nc, cb, C, nk, cc, rfl, hx1⟩ := hx.lit
 have KV : Hid (∀ w m', Vw m' w → Le m m' → Calls Tryz.prog 39 #[.agg #[.int .i64 x.nf, .slice A nr ca, .int .i64 x.pen, .slice B nc cb, .slice C nk cc], .slice V n c] w (RetV w m' fun _ r => r = .tuple #[.slice none 0 0, .int .i64 12])) := by
  show ∀ w m', _
  exact fun w m' hV hle => r_FollowList_len _ x V n c w m' hV (HX.out.le hle) ok hn
 have hL := Loc.start hV
 clear hV hx1 HX ok hn
 generalize x.nf = nf at *
 generalize x.pen = pen at *
 go_enter Tryz.func55, Tryz.ntmps55
 go_upto_region 0 with (fail)
 refine wp_region_lit ?_
 refine t_box hL rfl rfl ?_; clear hL; intro Wh2 mh2 hL eh2; simp only [Act.put, zq1, zq2, zq3]
 go_wp2_with (first | go_skip | refine tP ?_ | (refine tS ?_; clear hL; intro _ hL) | (refine tB ?_; clear hL; intro _ _ hL _) | (refine tC ?_; clear hL; intro _ _ hL _ hBs))
 refine (KV.out _ _ hL.vw leX).mono ?_
 rintro e Wc1 ⟨_, mc1, rfl, hE, hMc1, hV, rfl⟩
 replace hL := hL.call hE (by assumption) hV; clear hE hV
 go_wp2_with (first | go_skip | refine tP ?_ | (refine tS ?_; clear hL; intro _ hL) | (refine tB ?_; clear hL; intro _ _ hL _) | (refine tC ?_; clear hL; intro _ _ hL _ hBs))
 go_ret2
 exact RetV.mk hL rfl

theorem Loc.extOf {w0 m0 W m a : World} {Ls : List Lo} (_ : Loc w0 m0 W m Ls) (h : Ext a m) : Ext a m := h
theorem bst_yes {ms : Ms} {us : List Rat} {j k : Nat} (h1 : posJ us k = true) (h2 : opJ ms j = opJ ms k) (h3 : betC (coJ ms) k j) : bstT ms us j (k + 1) = false := by rw [bstT_step, if_pos ⟨h1, h2, h3⟩]
theorem bst_no {ms : Ms} {us : List Rat} {j k : Nat} (h : ¬ (posJ us k = true ∧ opJ ms j = opJ ms k ∧ betC (coJ ms) k j)) : bstT ms us j (k + 1) = bstT ms us j k := by rw [bstT_step, if_neg h]

theorem r_Round (xv vv : Value) (x : Ms) (us : List Rat) (w m : World) (hV : Vw m w) (hx : MasterR m xv x) (hvv : FracL m vv us) (ok : VOk x us) (h6 : x.cols.length ≤ 6) :
  Calls Tryz.prog 55 #[xv, vv] w (RetV w m fun m' r => ∃ v, r = .tuple #[v, .int .i64 (rndE x us)] ∧ IntL m' v (rndO x us)) := by
 have HX := Lib.hid hx
 have HVV := Lib.hid hvv
 obtain ⟨ms, hms⟩ : ∃ ms, ms = x := ⟨_, rfl⟩
 rw [← hms]
 obtain ⟨nf, rws, pen, cols, cuts⟩ := x
 obtain ⟨va, vb, vc, rfl, ha, hb, hc⟩ := hx
 simp only at ha hb hc
 obtain ⟨A, ca, rfl, hca, ha⟩ := ha.lit
 obtain ⟨B, cb, rfl, hcb, hb⟩ := hb.lit
 obtain ⟨C, cc, rfl, hcc, hc⟩ := hc.lit
 obtain ⟨V, cv, rfl, hcv, hvv⟩ := hvv.lit
 have HRO := Lib.hid ha
 have HCO := Lib.hid hb
 have HVA := Lib.hid hvv
 have KF : Hid (∀ w m', Vw m' w → Le m m' → Calls Tryz.prog 39 #[.agg #[.int .i64 nf, .slice A rws.length ca, .int .i64 pen, .slice B cols.length cb, .slice C cuts.length cc], .slice V us.length cv] w (RetV w m' fun m' r => ∃ v, r = .tuple #[v, .int .i64 0] ∧ FolL m' v (flY (entS cols us cols.length) rws rws))) := by
  show ∀ w m', _
  exact fun w m' hV hle => r_FollowList _ _ _ us w m' hV (HX.out.le hle) (FracL.le HVV.out hle) ok
 have HC : Hid (∀ c ∈ cols, ColOk rws c) := ok.ms.cols
 have HT : Hid (∀ v ∈ us, Tw 18 v) := ok.tw
 have HLN : Hid (∀ c ∈ cols, (opF c.2.1).length ≤ 32) := by
  show ∀ c ∈ cols, _
  exact fun c hc => ok.col_len hc
 have HTS : Hid (∀ r k, Tw 117000 (sumR cols us r k)) := by
  show ∀ r k, _
  intro r k
  rw [← sum_one cols us r (fun c hc => (ok.ms.cols c hc).nodup) k]
  exact sumI_tw (fun e he => (ok.entI_mem he).1) (Nat.le_trans (ok.entI_len k) (by decide)) r
 have HFT : Hid (∀ y ∈ flY (entS cols us cols.length) rws rws, Fit 1000 y.2) := by
  show ∀ y ∈ _, _
  intro y hy
  rw [((fl_is ok).2 y).1 hy |>.1]
  exact ((sum_tw (fun e he => (ok.entS_mem he).1) (Nat.le_trans (ok.entS_len _) (by decide)) _).fit (by decide)).mono (by decide)
 have HMR : Hid (ms.rows = rws ∧ ms.cols = cols ∧ ms.pen = pen) := by show _ ∧ _; rw [hms]; exact ⟨rfl, rfl, rfl⟩
 have hlen : us.length = cols.length := ok.len
 have hfew : cols.length ≤ 6 := h6
 have hr32 : rws.length ≤ 32 := ok.ms.r1
 have HFLL : Hid ((flY (entS cols us cols.length) rws rws).length ≤ 1024) := Nat.le_trans (flY_len _ _ _) (Nat.mul_le_mul hr32 hr32)
 have hL := Loc.start hV
 clear hV ok ha hb hc hvv HX HVV hms h6
 rw [hlen] at HVA hcv KF ⊢
 have HNV := Lib.hid hlen
 clear hlen
 simp only
 generalize hn1 : cols.length = nc at *
 have HN1 := Lib.hid hn1
 clear hn1
 generalize hn2 : rws.length = nr at *
 have HN2 := Lib.hid hn2
 clear hn2
 generalize cuts.length = nk at *
 go_enter Tryz.func55, Tryz.ntmps55
 go_upto_region 0 with (fail)
 refine wp_region_lit ?_
 refine t_box hL rfl rfl ?_; clear hL; intro Wh2 mh2 hL eh2; simp only [Act.put, zq1, zq2, zq3]
 obtain ⟨m2, hL2, hle2, hbx⟩ := Loc.showBox (cs := [.int .i64 nf, .slice A nr ca, .int .i64 pen, .slice B nc cb, .slice C nk cc]) hL
 have hM2 := hL2.mext
 have hb0 : m2.rangeAt w.heap.size 0 [.int .i64 nf, .slice A nr ca, .int .i64 pen, .slice B nc cb, .slice C nk cc] := fun j v hv => by rw [Nat.zero_add]; exact hbx j v hv
 have hb1 := hbx 1 _ rfl
 have hb2 := hbx 2 _ rfl
 have hb3 := hbx 3 _ rfl
 clear hL hle2 hbx eh2
 have hL := hL2
 clear hL2
 go_wp2_with (first | go_skip | refine tP ?_ | (refine tS ?_; clear hL; intro _ hL) | (refine tB ?_; clear hL; intro _ _ hL _) | (refine tC ?_; clear hL; intro _ _ hL _ hBs))
 refine (KF.out _ _ hL.vw leX).mono ?_
 rintro e Wf ⟨_, mf, rfl, hE, hMf, hV, vf, rfl, hyl⟩
 replace hL := hL.call hE (by assumption) hV; clear hE hV
 obtain ⟨Y, cy, rfl, hcy, hyl⟩ := hyl.lit
 obtain ⟨ys, hys⟩ : ∃ ys, ys = flY (entS cols us nc) rws rws := ⟨_, rfl⟩
 rw [← hys] at hyl HFT ⊢
 have HYL := Lib.hid hyl
 have HYS := Lib.hid hys
 have hny0 : ys.length ≤ 1024 := by rw [hys]; exact HFLL.out
 clear hyl hcy hys KF hb0
 generalize hny : ys.length = ny at *
 have HNY := Lib.hid hny
 clear hny
 go_wp2_with (first | go_skip | refine tP ?_ | (refine tS ?_; clear hL; intro _ hL) | (refine tB ?_; clear hL; intro _ _ hL _) | (refine tC ?_; clear hL; intro _ _ hL _ hBs))
 go_loopw [8] (fun i wr => ∃ (k : Nat) (mm : World), k ≤ nc ∧ i = .int .i64 (k : Int) ∧ Loc w m wr mm [] ∧ Hid (Ext mf mm) ∧ Hid (∀ (j : Nat) (u : Rat), j < k → us[j]? = some u → ¬ u < 0)) (fun i _ => nc - (intOf i).toNat)
 case atStart => exact ⟨0, _, Nat.zero_le _, rfl, hL, Ext.refl _, fun j u h => absurd h (Nat.not_lt_zero _)⟩
 case round =>
  clear hL
  obtain ⟨k, mm, hk, rfl, hL, HXM, HNG⟩ := hrel
  have hXM := HXM.out
  by_cases hlt : k < nc
  ·have hlt' : (k : Int) < (nc : Int) := by omega
   obtain ⟨q, hq⟩ := at_some HNV hlt
   have hva := HVA.out
   obtain ⟨b2, o2, g2, A2, n2, c2, h2, B2, k2, d2, rfl, hp2, hr2⟩ := FracL.at_ hva hq
   have HP2 := Lib.hid hp2
   have HFQ : Hid (Fit 200 q) := (HT.out q (List.mem_of_getElem? hq)).fit (by decide)
   have HFQ2 : Hid (Fit 1000 q) := HFQ.out.mono (by decide)
   have HQ := Lib.hid hq
   clear hq hva hp2
   go_wp2_with (first | go_skip | refine tP ?_ | (refine tS ?_; clear hL; intro _ hL) | (refine tB ?_; clear hL; intro _ _ hL _) | (refine tC ?_; clear hL; intro _ _ hL _ hBs))
   refine (r_Sign _ q _ _ hL.vw ((HP2.out.toV HFQ.out (by decide)).le leX) HFQ2.out).mono ?_
   rintro e Wc2 ⟨_, mc2, rfl, hE, hMc2, hV, rfl⟩
   replace hL := hL.call hE (by assumption) hV; clear hE hV
   by_cases hneg : q < 0
   ·have HR := Lib.hid (rnd_neg (ms := ms) ⟨q, List.mem_of_getElem? HQ.out, hneg⟩)
    have hsg : rs q < 0 := by
     have : q.num < 0 := num_neg'.1 hneg
     unfold rs icmp
     rw [if_pos (by omega)]; omega
    clear hneg
    generalize rs q = sg at *
    go_wp2_with (first | go_skip | refine tP ?_ | (refine tS ?_; clear hL; intro _ hL) | (refine tB ?_; clear hL; intro _ _ hL _) | (refine tC ?_; clear hL; intro _ _ hL _ hBs))
    go_ret2
    rw [HR.out.1, HR.out.2]
    exact RetV.mk hL ⟨_, rfl, ListV.nil⟩
   ·have hsg : decide (rs q < 0) = false := by
     have : ¬ q.num < 0 := fun h => hneg (num_neg'.2 h)
     refine decide_eq_false ?_
     unfold rs icmp
     rw [if_neg (by omega)]; split <;> omega
    have HNG2 : Hid (∀ (j : Nat) (u : Rat), j < k + 1 → us[j]? = some u → ¬ u < 0) := by
     show ∀ j u, _
     intro j u hj hu
     rcases Nat.lt_succ_iff_lt_or_eq.1 hj with h' | rfl
     ·exact HNG.out j u h' hu
     ·rw [HQ.out] at hu; cases hu; exact hneg
    clear hneg
    generalize rs q = sg at *
    go_wp2_with (first | go_skip | refine tP ?_ | (refine tS ?_; clear hL; intro _ hL) | (refine tB ?_; clear hL; intro _ _ hL _) | (refine tC ?_; clear hL; intro _ _ hL _ hBs))
    go_roundw
    case rel => exact ⟨k + 1, _, by omega, by go_num, hL, hXM.trans exX, HNG2.out⟩
    case measure => simp [intOf] <;> omega
  ·have hkn : k = nc := by omega
   subst hkn
   have h9 : (k : Int) ≤ (k : Int) := Int.le_refl _
   have HN0 : Hid (¬ ∃ u ∈ us, u < 0) := by
    rintro ⟨u, hu, h0⟩
    obtain ⟨j, hj⟩ := List.mem_iff_getElem?.1 hu
    have h1 := (List.getElem?_eq_some_iff.1 hj).1
    have h2 := HNV.out
    exact HNG.out j u (by omega) hj h0
   clear HNG
   go_wp2_with (first | go_skip | refine tP ?_ | (refine tS ?_; clear hL; intro _ hL) | (refine tB ?_; clear hL; intro _ _ hL _) | (refine tC ?_; clear hL; intro _ _ hL _ hBs))
   clear h9
   go_loopw [9] (fun i wr => ∃ (t : Nat) (mm1 : World), t ≤ nr ∧ i = .int .i64 (t : Int) ∧ Loc w m wr mm1 [] ∧ Hid (Ext mm mm1) ∧ Hid (∀ (j : Nat) (r : Int), j < t → rws[j]? = some r → ¬ ((1 : Int) : Rat) < sumR cols us r k)) (fun i _ => nr - (intOf i).toNat)
   case atStart => exact ⟨0, _, Nat.zero_le _, rfl, hL, Ext.refl _, fun j u h => absurd h (Nat.not_lt_zero _)⟩
   case round =>
    clear hL
    obtain ⟨t, mm1, ht, rfl, hL, HX1, HNB⟩ := hrel
    have hX1 := HX1.out
    by_cases hlt1 : t < nr
    ·as_aux_lemma =>
     have hlt1' : (t : Int) < (nr : Int) := by omega
     obtain ⟨r, hr⟩ := at_some HN2 hlt1
     obtain ⟨b3, o3, rfl, hc3⟩ := IntL.at_ HRO.out hr
     have HR0 := Lib.hid hr
     clear hr
     go_wp2_with (first | go_skip | refine tP ?_ | (refine tS ?_; clear hL; intro _ hL) | (refine tB ?_; clear hL; intro _ _ hL _) | (refine tC ?_; clear hL; intro _ _ hL _ hBs))
     refine (r_Int 0 _ _ hL.vw (by decide) (by decide)).mono ?_
     rintro e Ws0 ⟨vs0, ms0, rfl, hE, hMs0, hV, hs0⟩
     replace hL := hL.call hE (by assumption) hV; clear hE hV
     obtain ⟨gs0', As0', ns0', cs0', hs0', Bs0', ks0', ds0', rfl, hs0⟩ := hs0.lit
     go_wp2_with (first | go_skip | refine tP ?_ | (refine tS ?_; clear hL; intro _ hL) | (refine tB ?_; clear hL; intro _ _ hL _) | (refine tC ?_; clear hL; intro _ _ hL _ hBs))
     go_loopw [11] (fun i wr => ∃ (p : Nat) (m3 : World) (gs fs : Bool) (As Bs : Option Addr) (ns cs ps qs : Nat), p ≤ k ∧ i = .int .i64 p ∧ Loc w m wr m3 [(Ws0.heap.size, 39, #[.bool gs, .slice As ns cs, .bool fs, .slice Bs ps qs])] ∧ Hid (FracC m3 (.agg #[.bool gs, .slice As ns cs, .bool fs, .slice Bs ps qs]) (sumR cols us r p)) ∧ Hid (Ext mm1 m3)) (fun i _ => k - (intOf i).toNat)
     case atStart => exact ⟨0, _, _, _, _, _, _, _, _, _, Nat.zero_le _, rfl, hL, hs0.le leX, exX⟩
     case round =>
      clear hL hs0
      obtain ⟨p, m3, gs, fs, As, Bs, ns, cs, ps, qs, hp, rfl, hL, HS, HX3⟩ := hrel
      have hX3 := HX3.out
      by_cases hlt3 : p < k
      ·as_aux_lemma =>
       have hlt3' : (p : Int) < (k : Int) := by omega
       obtain ⟨⟨s, ds, cost⟩, hx⟩ := at_some HN1 hlt3
       obtain ⟨q, hq⟩ := at_some HNV hlt3
       have hco := HCO.out
       have hva := HVA.out
       obtain ⟨b1, o1, D, cd, rfl, hds, hr1⟩ := ColL.at_ hco hx
       obtain ⟨b2, o2, g2, A2, n2, c2, h2, B2, k2, d2, rfl, hp2, hr2⟩ := FracL.at_ hva hq
       obtain ⟨i1, i2, i3, i4, i5, i6, i7⟩ := HC.out _ (List.mem_of_getElem? hx)
       simp only at hds hr1 i1 i2 i3 i4 i5 i6 i7
       have hr3 := range_two hr1
       have HD := Lib.hid hds
       have H3 := Lib.hid i3
       have H4 := Lib.hid i4
       have HP2 := Lib.hid hp2
       have HTQ : Hid (Fit 200 q) := (HT.out q (List.mem_of_getElem? hq)).fit (by decide)
       have HTS1 : Hid (Fit 200 (sumR cols us r p)) := (HTS.out r p).fit (by decide)
       have H32 : Hid ((opF ds).length ≤ 1000000) := Nat.le_trans (HLN.out _ (List.mem_of_getElem? hx)) (by decide)
       have HST := Lib.hid (sumR_step (r := r) hx hq)
       simp only at HST
       clear hx hq hds hp2 i1 i2 i3 i4 i5 i6 i7 hco hva hr1
       generalize hnd : ds.length = nd at *
       have HND := Lib.hid hnd
       clear hnd
       by_cases hin : r ∈ opF ds
       ·have KF : Hid (∀ v w m', Vw m' w → IntL m' v (opF ds) → Calls Tryz.prog 117 #[v, .int .i64 r] w (RetV w m' fun _ r => r = .bool true)) := by
         show ∀ v w m', _
         intro v w m' hV h
         have h1 := r_Has v (opF ds) r w m' hV h H32.out
         rwa [decide_eq_true hin] at h1
        rw [if_pos hin] at HST
        clear hin
        go_upto_region 16 with ((first | go_skip | refine tP ?_ | (refine tS ?_; clear hL; intro _ hL) | (refine tB ?_; clear hL; intro _ _ hL _) | (refine tC ?_; clear hL; intro _ _ hL _ hBs)))
        (try simp only [eq_self] at *)
        refine wp_region_by2 13 [false, false, false, false, false, false, false, false, false, false, false, false, false] [false, false, false, false, false, false, false, false, false, false, false, false, false] [(fun v _ _ => v = ?c16_0a), (fun v _ _ => v = ?c16_1a), (fun v _ _ => v = ?c16_2a), (fun v _ _ => v = ?c16_3a), (fun v _ _ => v = ?c16_4a), (fun v _ _ => v = ?c16_5a), Of (fun um v => IntL um v (opF ds)), (fun v _ _ => v = ?c16_7a), (fun v _ _ => v = ?c16_8a), (fun v _ _ => v = ?c16_9a), (fun v _ _ => v = ?c16_10a), (fun v _ _ => v = ?c16_11a), Is (.bool true)] hL.vw mixed [53, 54, 55, 56, 57, 58, 59, 60, 61, 62, 63, 64, 65] _ (by kernel_rfl) (fun vs => by simp only [lay, Act.put, zq1, zq2, zq3]; rfl) (by kernel_rfl) (by decide) (by decide) ?s16a ?l16a ?r16a
        case s16a =>
         refine ⟨?_, ?_, ?_, ?_, ?_, ?_, ?_, ?_, ?_, ?_, ?_, ?_, ?_, trivial⟩
         ·intro vs W1 m1 hE hM hV hD; clear hD
          exact sFe
         ·intro vs W1 m1 hE hM hV hD; obtain ⟨⟨_, _, -, -, f53⟩, -⟩ := hD
          rw [(f53 : vs 53 = _)]; clear f53; exact sLe
         ·intro vs W1 m1 hE hM hV hD; clear hD
          exact sPw
         ·intro vs W1 m1 hE hM hV hD; obtain ⟨⟨_, _, -, -, f54⟩, ⟨_, _, -, -, f55⟩, -⟩ := hD
          rw [(f54 : vs 54 = _), (f55 : vs 55 = _)]; clear f54 f55; exact sIy
         ·intro vs W1 m1 hE hM hV hD; obtain ⟨⟨_, _, -, -, f56⟩, -⟩ := hD
          rw [(f56 : vs 56 = _)]; clear f56; exact sFe
         ·intro vs W1 m1 hE hM hV hD; obtain ⟨⟨_, _, -, -, f57⟩, -⟩ := hD
          rw [(f57 : vs 57 = _)]; clear f57; exact sLe
         ·intro vs W1 m1 hE hM hV hD; obtain ⟨⟨_, _, -, -, f58⟩, -⟩ := hD
          rw [(f58 : vs 58 = _)]
          clear f58
          go_wp2_with fail
          refine (r_Operated s _ ds _ _ hV (DutsL.le HD.out leX) (by rw [HND.out]; exact H3.out) H4.out).mono ?_
          rintro e W2 ⟨v, m2, rfl, hE2, hM2, hV2, h⟩
          go_wp2_with fail
          refine One2.call hE2 hM2 hV2 ?_; first | exact h | exact rfl
         ·intro vs W1 m1 hE hM hV hD; clear hD
          exact sFe
         ·intro vs W1 m1 hE hM hV hD; obtain ⟨⟨_, _, -, -, f60⟩, -⟩ := hD
          rw [(f60 : vs 60 = _)]; clear f60; exact sLe
         ·intro vs W1 m1 hE hM hV hD; clear hD
          exact sPw
         ·intro vs W1 m1 hE hM hV hD; obtain ⟨⟨_, _, -, -, f61⟩, ⟨_, _, -, -, f62⟩, -⟩ := hD
          rw [(f61 : vs 61 = _), (f62 : vs 62 = _)]; clear f61 f62; exact sIy
         ·intro vs W1 m1 hE hM hV hD; obtain ⟨⟨_, _, -, -, f63⟩, -⟩ := hD
          rw [(f63 : vs 63 = _)]; clear f63; exact sLe
         ·intro vs W1 m1 hE hM hV hD; obtain ⟨⟨_, _, -, i59, f59⟩, ⟨_, _, -, -, f64⟩, -, -⟩ := hD
          rw [(f64 : vs 64 = _)]
          clear f64
          have f59 : IntL _ (vs 59) (opF ds) := f59
          replace f59 := f59.le i59.le
          clear i59
          go_wp2_with fail
          refine (KF.out _ _ _ hV f59).mono ?_
          rintro e W2 ⟨v, m2, rfl, hE2, hM2, hV2, h⟩
          go_wp2_with fail
          refine One2.call hE2 hM2 hV2 ?_; first | exact h | exact rfl
        case l16a =>
         refine ⟨nF, nF, nF, nF, nF, nF, nF, nF, nF, nF, nF, nF, nF, trivial⟩
        intro vs W1 m1 hE hM hV hF hD
        clear hD
        obtain ⟨-, -, -, -, -, -, ⟨_, _, -, i59, f59⟩, -, -, -, -, -, ⟨_, _, -, -, f65⟩, -⟩ := hF
        replace hL := hL.call hE hM hV
        replace f59 : IntL _ (vs 59) (opF ds) := f59
        replace f59 := f59.le i59.le
        clear i59
        have f65 : vs 65 = _ := f65
        generalize vs 65 = x65 at f65 ⊢
        subst x65
        clear hE hV
        simp only [List.drop_succ_cons, List.drop_zero]
        go_wp2_with (first | go_skip | refine tP ?_ | (refine tS ?_; clear hL; intro _ hL) | (refine tB ?_; clear hL; intro _ _ hL _) | (refine tC ?_; clear hL; intro _ _ hL _ hBs))
        refine QN.mk ?_
        go_upto_region 17 with ((first | go_skip | refine tP ?_ | (refine tS ?_; clear hL; intro _ hL) | (refine tB ?_; clear hL; intro _ _ hL _) | (refine tC ?_; clear hL; intro _ _ hL _ hBs)))
        refine wp_region_by2 6 [false, false, false, false, false, false] [false, false, false, false, false, false] [(fun v _ _ => v = ?c17_0a), (fun v _ _ => v = ?c17_1a), (fun v _ _ => v = ?c17_2a), (fun v _ _ => v = ?c17_3a), (fun v _ _ => v = ?c17_4a), Of (fun um v => FracC um v (sumR cols us r p + q))] hL.vw mixed [66, 67, 68, 69, 70, 71] _ (by kernel_rfl) (fun vs => by simp only [lay, Act.put, zq1, zq2, zq3]; rfl) (by kernel_rfl) (by decide) (by decide) ?s17a ?l17a ?r17a
        case s17a =>
         refine ⟨?_, ?_, ?_, ?_, ?_, ?_, trivial⟩
         ·intro vs W1 m1 hE hM hV hD; clear hD
          exact sLe
         ·intro vs W1 m1 hE hM hV hD; clear hD
          exact sPw
         ·intro vs W1 m1 hE hM hV hD; clear hD
          exact sPw
         ·intro vs W1 m1 hE hM hV hD; obtain ⟨⟨_, _, -, -, f67⟩, ⟨_, _, -, -, f68⟩, -⟩ := hD
          rw [(f67 : vs 67 = _), (f68 : vs 68 = _)]; clear f67 f68; exact sIy
         ·intro vs W1 m1 hE hM hV hD; obtain ⟨⟨_, _, -, -, f69⟩, -⟩ := hD
          rw [(f69 : vs 69 = _)]; clear f69; exact sLe
         ·intro vs W1 m1 hE hM hV hD; obtain ⟨⟨_, _, -, -, f66⟩, ⟨_, _, -, -, f70⟩, -⟩ := hD
          rw [(f66 : vs 66 = _), (f70 : vs 70 = _)]
          clear f66 f70
          go_wp2_with fail
          refine (r_AddC _ _ _ _ _ _ hV (HS.out.le leX) (HP2.out.le leX) HTS1.out HTQ.out).mono ?_
          rintro e W2 ⟨v, m2, rfl, hE2, hM2, hV2, h⟩
          go_wp2_with fail
          refine One2.call hE2 hM2 hV2 ?_; first | exact h | exact rfl
        case l17a =>
         refine ⟨nF, nF, nF, nF, nF, nF, trivial⟩
        intro vs W1 m1 hE hM hV hF hD
        clear hD
        obtain ⟨-, -, -, -, -, ⟨_, _, -, i71, f71⟩, -⟩ := hF
        replace hL := hL.call hE hM hV
        replace f71 : FracC _ (vs 71) (sumR cols us r p + q) := f71
        replace f71 := f71.le i71.le
        clear i71
        obtain ⟨g71, A71, n71, c71, h71, B71, k71, d71, e71, f71⟩ := f71.lit
        generalize vs 71 = x71 at e71 ⊢
        subst x71
        clear hE hV
        simp only [List.drop_succ_cons, List.drop_zero]
        go_wp2_with (first | go_skip | refine tP ?_ | (refine tS ?_; clear hL; intro _ hL) | (refine tB ?_; clear hL; intro _ _ hL _) | (refine tC ?_; clear hL; intro _ _ hL _ hBs))
        refine QN.mk ?_
        go_wp2_with (first | go_skip | refine tP ?_ | (refine tS ?_; clear hL; intro _ hL) | (refine tB ?_; clear hL; intro _ _ hL _) | (refine tC ?_; clear hL; intro _ _ hL _ hBs))
        go_roundw
        case rel => exact ⟨p + 1, _, _, _, _, _, _, _, _, _, by omega, by go_num, hL, by rw [HST.out]; exact f71.le leX, hX3.trans exX⟩
        case measure => simp [intOf] <;> omega
       ·have KF : Hid (∀ v w m', Vw m' w → IntL m' v (opF ds) → Calls Tryz.prog 117 #[v, .int .i64 r] w (RetV w m' fun _ r => r = .bool false)) := by
         show ∀ v w m', _
         intro v w m' hV h
         have h1 := r_Has v (opF ds) r w m' hV h H32.out
         rwa [decide_eq_false hin] at h1
        rw [if_neg hin] at HST
        clear hin
        go_upto_region 16 with ((first | go_skip | refine tP ?_ | (refine tS ?_; clear hL; intro _ hL) | (refine tB ?_; clear hL; intro _ _ hL _) | (refine tC ?_; clear hL; intro _ _ hL _ hBs)))
        (try simp only [eq_self] at *)
        refine wp_region_by2 13 [false, false, false, false, false, false, false, false, false, false, false, false, false] [false, false, false, false, false, false, false, false, false, false, false, false, false] [(fun v _ _ => v = ?c16_0b), (fun v _ _ => v = ?c16_1b), (fun v _ _ => v = ?c16_2b), (fun v _ _ => v = ?c16_3b), (fun v _ _ => v = ?c16_4b), (fun v _ _ => v = ?c16_5b), Of (fun um v => IntL um v (opF ds)), (fun v _ _ => v = ?c16_7b), (fun v _ _ => v = ?c16_8b), (fun v _ _ => v = ?c16_9b), (fun v _ _ => v = ?c16_10b), (fun v _ _ => v = ?c16_11b), Is (.bool false)] hL.vw mixed [53, 54, 55, 56, 57, 58, 59, 60, 61, 62, 63, 64, 65] _ (by kernel_rfl) (fun vs => by simp only [lay, Act.put, zq1, zq2, zq3]; rfl) (by kernel_rfl) (by decide) (by decide) ?s16b ?l16b ?r16b
        case s16b =>
         refine ⟨?_, ?_, ?_, ?_, ?_, ?_, ?_, ?_, ?_, ?_, ?_, ?_, ?_, trivial⟩
         ·intro vs W1 m1 hE hM hV hD; clear hD
          exact sFe
         ·intro vs W1 m1 hE hM hV hD; obtain ⟨⟨_, _, -, -, f53⟩, -⟩ := hD
          rw [(f53 : vs 53 = _)]; clear f53; exact sLe
         ·intro vs W1 m1 hE hM hV hD; clear hD
          exact sPw
         ·intro vs W1 m1 hE hM hV hD; obtain ⟨⟨_, _, -, -, f54⟩, ⟨_, _, -, -, f55⟩, -⟩ := hD
          rw [(f54 : vs 54 = _), (f55 : vs 55 = _)]; clear f54 f55; exact sIy
         ·intro vs W1 m1 hE hM hV hD; obtain ⟨⟨_, _, -, -, f56⟩, -⟩ := hD
          rw [(f56 : vs 56 = _)]; clear f56; exact sFe
         ·intro vs W1 m1 hE hM hV hD; obtain ⟨⟨_, _, -, -, f57⟩, -⟩ := hD
          rw [(f57 : vs 57 = _)]; clear f57; exact sLe
         ·intro vs W1 m1 hE hM hV hD; obtain ⟨⟨_, _, -, -, f58⟩, -⟩ := hD
          rw [(f58 : vs 58 = _)]
          clear f58
          go_wp2_with fail
          refine (r_Operated s _ ds _ _ hV (DutsL.le HD.out leX) (by rw [HND.out]; exact H3.out) H4.out).mono ?_
          rintro e W2 ⟨v, m2, rfl, hE2, hM2, hV2, h⟩
          go_wp2_with fail
          refine One2.call hE2 hM2 hV2 ?_; first | exact h | exact rfl
         ·intro vs W1 m1 hE hM hV hD; clear hD
          exact sFe
         ·intro vs W1 m1 hE hM hV hD; obtain ⟨⟨_, _, -, -, f60⟩, -⟩ := hD
          rw [(f60 : vs 60 = _)]; clear f60; exact sLe
         ·intro vs W1 m1 hE hM hV hD; clear hD
          exact sPw
         ·intro vs W1 m1 hE hM hV hD; obtain ⟨⟨_, _, -, -, f61⟩, ⟨_, _, -, -, f62⟩, -⟩ := hD
          rw [(f61 : vs 61 = _), (f62 : vs 62 = _)]; clear f61 f62; exact sIy
         ·intro vs W1 m1 hE hM hV hD; obtain ⟨⟨_, _, -, -, f63⟩, -⟩ := hD
          rw [(f63 : vs 63 = _)]; clear f63; exact sLe
         ·intro vs W1 m1 hE hM hV hD; obtain ⟨⟨_, _, -, i59, f59⟩, ⟨_, _, -, -, f64⟩, -, -⟩ := hD
          rw [(f64 : vs 64 = _)]
          clear f64
          have f59 : IntL _ (vs 59) (opF ds) := f59
          replace f59 := f59.le i59.le
          clear i59
          go_wp2_with fail
          refine (KF.out _ _ _ hV f59).mono ?_
          rintro e W2 ⟨v, m2, rfl, hE2, hM2, hV2, h⟩
          go_wp2_with fail
          refine One2.call hE2 hM2 hV2 ?_; first | exact h | exact rfl
        case l16b =>
         refine ⟨nF, nF, nF, nF, nF, nF, nF, nF, nF, nF, nF, nF, nF, trivial⟩
        intro vs W1 m1 hE hM hV hF hD
        clear hD
        obtain ⟨-, -, -, -, -, -, ⟨_, _, -, i59, f59⟩, -, -, -, -, -, ⟨_, _, -, -, f65⟩, -⟩ := hF
        replace hL := hL.call hE hM hV
        replace f59 : IntL _ (vs 59) (opF ds) := f59
        replace f59 := f59.le i59.le
        clear i59
        have f65 : vs 65 = _ := f65
        generalize vs 65 = x65 at f65 ⊢
        subst x65
        clear hE hV
        simp only [List.drop_succ_cons, List.drop_zero]
        go_wp2_with (first | go_skip | refine tP ?_ | (refine tS ?_; clear hL; intro _ hL) | (refine tB ?_; clear hL; intro _ _ hL _) | (refine tC ?_; clear hL; intro _ _ hL _ hBs))
        refine QN.mk ?_
        go_wp2_with (first | go_skip | refine tP ?_ | (refine tS ?_; clear hL; intro _ hL) | (refine tB ?_; clear hL; intro _ _ hL _) | (refine tC ?_; clear hL; intro _ _ hL _ hBs))
        go_roundw
        case rel => exact ⟨p + 1, _, _, _, _, _, _, _, _, _, by omega, by go_num, hL, by rw [HST.out]; exact HS.out.le leX, hX3.trans exX⟩
        case measure => simp [intOf] <;> omega
      ·have hpn : p = k := by omega
       subst hpn
       have h9 : (p : Int) ≤ (p : Int) := Int.le_refl _
       have HTS1 : Hid (Fit 200 (sumR cols us r p)) := (HTS.out r p).fit (by decide)
       have HT1 : Hid (Fit 200 ((1 : Int) : Rat)) := (Tn.int (k := 1000) (by decide) (by decide)).fit (by decide)
       have HTD : Hid (Fit 1000 (sumR cols us r p - ((1 : Int) : Rat))) := (((HTS.out r p).sub (Tw.int (K := 1) (by decide))).fit (by decide)).mono (by decide)
       have KCP : Hid (∀ v w m', Vw m' w → Le m3 m' → FracC m' v ((1 : Int) : Rat) → Calls Tryz.prog 25 #[.agg #[.bool gs, .slice As ns cs, .bool fs, .slice Bs ps qs], v] w (RetV w m' fun _ r' => r' = .int .i64 (rs (sumR cols us r p - ((1 : Int) : Rat))))) := by
        show ∀ v w m', _
        intro v w m' hV hle h
        exact r_Compare _ v _ _ w m' hV ((HS.out.toV HTS1.out (by decide)).le hle) (h.toV HT1.out (by decide)) HTS1.out HT1.out HTD.out
       by_cases hbig : ((1 : Int) : Rat) < sumR cols us r p
       ·have HR := Lib.hid (rnd_big (ms := ms) HN0.out ⟨r, by rw [HMR.out.1]; exact List.mem_of_getElem? HR0.out, by rw [HMR.out.2.1, HN1.out]; exact hbig⟩)
        have hsg : 0 < rs (sumR cols us r p - ((1 : Int) : Rat)) := by
         have := icq_pos (((Rat.lt_iff_sub_pos _ _).1 hbig))
         unfold rs; omega
        clear hbig HTS1 HTD
        generalize rs (sumR cols us r p - ((1 : Int) : Rat)) = sg at *
        have hsg2 : sg > 0 := hsg
        go_upto_region 18 with ((first | go_skip | refine tP ?_ | (refine tS ?_; clear hL; intro _ hL) | (refine tB ?_; clear hL; intro _ _ hL _) | (refine tC ?_; clear hL; intro _ _ hL _ hBs)))
        clear h9
        (try simp only [eq_self] at *)
        refine wp_region_by2 4 [false, false, false, false] [false, false, false, false] [(fun v _ _ => v = ?c18_0a), Of (fun um v => FracC um v ((1 : Int) : Rat)), Is (.int .i64 sg), (fun v _ _ => v = ?c18_3a)] hL.vw mixed [72, 73, 74, 75] _ (by kernel_rfl) (fun vs => by simp only [lay, Act.put, zq1, zq2, zq3]; rfl) (by kernel_rfl) (by decide) (by decide) ?s18a ?l18a ?r18a
        case s18a =>
         refine ⟨?_, ?_, ?_, ?_, trivial⟩
         ·intro vs W1 m1 hE hM hV hD; clear hD
          exact sLe
         ·intro vs W1 m1 hE hM hV hD; clear hD
          go_wp2_with fail
          refine (r_Int 1 _ _ hV (by decide) (by decide)).mono ?_
          rintro e W2 ⟨v, m2, rfl, hE2, hM2, hV2, h⟩
          go_wp2_with fail
          refine One2.call hE2 hM2 hV2 ?_; first | exact h | exact rfl
         ·intro vs W1 m1 hE hM hV hD; obtain ⟨⟨_, _, -, -, f72⟩, ⟨_, _, -, i73, f73⟩, -, -⟩ := hD
          rw [(f72 : vs 72 = _)]
          clear f72
          have f73 : FracC _ (vs 73) ((1 : Int) : Rat) := f73
          replace f73 := f73.le i73.le
          clear i73
          go_wp2_with fail
          refine (KCP.out _ _ _ hV leX f73).mono ?_
          rintro e W2 ⟨v, m2, rfl, hE2, hM2, hV2, h⟩
          go_wp2_with fail
          refine One2.call hE2 hM2 hV2 ?_; first | exact h | exact rfl
         ·intro vs W1 m1 hE hM hV hD; obtain ⟨⟨_, _, -, -, f74⟩, -⟩ := hD
          rw [(f74 : vs 74 = _)]; clear f74; exact sPw
        case l18a =>
         refine ⟨nF, nF, nF, nF, trivial⟩
        intro vs W1 m1 hE hM hV hF hD
        clear hD
        obtain ⟨-, ⟨_, _, -, i73, f73⟩, -, ⟨_, _, -, -, f75⟩, -⟩ := hF
        replace hL := hL.call hE hM hV
        replace f73 : FracC _ (vs 73) ((1 : Int) : Rat) := f73
        replace f73 := f73.le i73.le
        clear i73
        have f75 : vs 75 = _ := f75
        generalize vs 75 = x75 at f75 ⊢
        subst x75
        clear hE hV
        simp only [List.drop_succ_cons, List.drop_zero]
        go_wp2_with (first | go_skip | refine tP ?_ | (refine tS ?_; clear hL; intro _ hL) | (refine tB ?_; clear hL; intro _ _ hL _) | (refine tC ?_; clear hL; intro _ _ hL _ hBs))
        refine QN.mk ?_
        go_wp2_with (first | go_skip | refine tP ?_ | (refine tS ?_; clear hL; intro _ hL) | (refine tB ?_; clear hL; intro _ _ hL _) | (refine tC ?_; clear hL; intro _ _ hL _ hBs))
        go_ret2
        rw [HR.out.1, HR.out.2]
        exact RetV.mk hL ⟨_, rfl, ListV.nil⟩
       ·have hsg : rs (sumR cols us r p - ((1 : Int) : Rat)) ≤ 0 := icq_npos fun h => hbig ((Rat.lt_iff_sub_pos _ _).2 h)
        have HNB2 : Hid (∀ (j : Nat) (u : Int), j < t + 1 → rws[j]? = some u → ¬ ((1 : Int) : Rat) < sumR cols us u p) := by
         show ∀ j u, _
         intro j u hj hu
         rcases Nat.lt_succ_iff_lt_or_eq.1 hj with h' | rfl
         ·exact HNB.out j u h' hu
         ·rw [HR0.out] at hu; cases hu; exact hbig
        clear hbig HTS1 HTD
        generalize rs (sumR cols us r p - ((1 : Int) : Rat)) = sg at *
        have hsd : decide (sg > 0) = false := decide_eq_false (by omega)
        go_upto_region 18 with ((first | go_skip | refine tP ?_ | (refine tS ?_; clear hL; intro _ hL) | (refine tB ?_; clear hL; intro _ _ hL _) | (refine tC ?_; clear hL; intro _ _ hL _ hBs)))
        clear h9
        (try simp only [eq_self] at *)
        refine wp_region_by2 4 [false, false, false, false] [false, false, false, false] [(fun v _ _ => v = ?c18_0b), Of (fun um v => FracC um v ((1 : Int) : Rat)), Is (.int .i64 sg), (fun v _ _ => v = ?c18_3b)] hL.vw mixed [72, 73, 74, 75] _ (by kernel_rfl) (fun vs => by simp only [lay, Act.put, zq1, zq2, zq3]; rfl) (by kernel_rfl) (by decide) (by decide) ?s18b ?l18b ?r18b
        case s18b =>
         refine ⟨?_, ?_, ?_, ?_, trivial⟩
         ·intro vs W1 m1 hE hM hV hD; clear hD
          exact sLe
         ·intro vs W1 m1 hE hM hV hD; clear hD
          go_wp2_with fail
          refine (r_Int 1 _ _ hV (by decide) (by decide)).mono ?_
          rintro e W2 ⟨v, m2, rfl, hE2, hM2, hV2, h⟩
          go_wp2_with fail
          refine One2.call hE2 hM2 hV2 ?_; first | exact h | exact rfl
         ·intro vs W1 m1 hE hM hV hD; obtain ⟨⟨_, _, -, -, f72⟩, ⟨_, _, -, i73, f73⟩, -, -⟩ := hD
          rw [(f72 : vs 72 = _)]
          clear f72
          have f73 : FracC _ (vs 73) ((1 : Int) : Rat) := f73
          replace f73 := f73.le i73.le
          clear i73
          go_wp2_with fail
          refine (KCP.out _ _ _ hV leX f73).mono ?_
          rintro e W2 ⟨v, m2, rfl, hE2, hM2, hV2, h⟩
          go_wp2_with fail
          refine One2.call hE2 hM2 hV2 ?_; first | exact h | exact rfl
         ·intro vs W1 m1 hE hM hV hD; obtain ⟨⟨_, _, -, -, f74⟩, -⟩ := hD
          rw [(f74 : vs 74 = _)]; clear f74; exact sPw
        case l18b =>
         refine ⟨nF, nF, nF, nF, trivial⟩
        intro vs W1 m1 hE hM hV hF hD
        clear hD
        obtain ⟨-, ⟨_, _, -, i73, f73⟩, -, ⟨_, _, -, -, f75⟩, -⟩ := hF
        replace hL := hL.call hE hM hV
        replace f73 : FracC _ (vs 73) ((1 : Int) : Rat) := f73
        replace f73 := f73.le i73.le
        clear i73
        have f75 : vs 75 = _ := f75
        generalize vs 75 = x75 at f75 ⊢
        subst x75
        clear hE hV
        simp only [List.drop_succ_cons, List.drop_zero]
        go_wp2_with (first | go_skip | refine tP ?_ | (refine tS ?_; clear hL; intro _ hL) | (refine tB ?_; clear hL; intro _ _ hL _) | (refine tC ?_; clear hL; intro _ _ hL _ hBs))
        refine QN.mk ?_
        go_wp2_with (first | go_skip | refine tP ?_ | (refine tS ?_; clear hL; intro _ hL) | (refine tB ?_; clear hL; intro _ _ hL _) | (refine tC ?_; clear hL; intro _ _ hL _ hBs))
        go_roundw
        case rel => exact ⟨t + 1, _, by omega, by go_num, hL.tail, (hX1.trans hX3).trans exX, HNB2.out⟩
        case measure => simp [intOf] <;> omega
    ·have htn : t = nr := by omega
     subst htn
     have h8 : (t : Int) ≤ (t : Int) := Int.le_refl _
     have HN1b : Hid (¬ ∃ r ∈ ms.rows, ((1 : Int) : Rat) < sumR ms.cols us r ms.cols.length) := by
      rw [HMR.out.1, HMR.out.2.1, HN1.out]
      rintro ⟨r, hr, h0⟩
      obtain ⟨j, hj⟩ := List.mem_iff_getElem?.1 hr
      have h1 := (List.getElem?_eq_some_iff.1 hj).1
      have h2 := HN2.out
      exact HNB.out j r (by omega) hj h0
     have hXf := hXM.trans hX1
     have HXF := Lib.hid hXf
     clear HNB HTS hX1 HX1 hXM HXM
     go_wp2_with (first | go_skip | refine tP ?_ | (refine tS ?_; clear hL; intro _ hL) | (refine tB ?_; clear hL; intro _ _ hL _) | (refine tC ?_; clear hL; intro _ _ hL _ hBs))
     clear h8
     go_loopw [12] (fun i wr => ∃ (s : Nat) (mm3 : World), s ≤ ny ∧ i = .int .i64 (s : Int) ∧ Loc w m wr mm3 [] ∧ Hid (Ext mf mm3) ∧ Hid (∀ (j : Nat) (y : PQ), j < s → ys[j]? = some y → y.2.den = 1)) (fun i _ => ny - (intOf i).toNat)
     case atStart => exact ⟨0, _, Nat.zero_le _, rfl, hL, HXF.out, fun j u h => absurd h (Nat.not_lt_zero _)⟩
     case round =>
      clear hL hXf HXF
      obtain ⟨s, mm3, hs, rfl, hL, HXF, HDN⟩ := hrel
      have hXF := HXF.out
      by_cases hlt4 : s < ny
      ·as_aux_lemma =>
       have hlt4' : (s : Int) < (ny : Int) := by omega
       obtain ⟨y, hy⟩ := at_some HNY hlt4
       obtain ⟨b5, o5, g5, A5, n5, c5, f5, B5, p5, q5, rfl, hq5, hr5⟩ := FolL.at_ HYL.out hy
       have hr6 := range_fol hr5
       have HY := Lib.hid hy
       have HFY : Hid (Fit 1000 y.2) := HFT.out y (List.mem_of_getElem? hy)
       have HQ5 := Lib.hid hq5
       clear hy hr5 hq5
       by_cases hd : y.2.den = 1
       ·have KI : Hid (∀ w m', Vw m' w → Le mf m' → Calls Tryz.prog 53 #[.agg #[.bool g5, .slice A5 n5 c5, .bool f5, .slice B5 p5 q5]] w (RetV w m' fun _ r => r = .bool true)) := by
         show ∀ w m', _
         intro w m' hV hle
         have h1 := r_IsInt _ y.2 w m' hV ((HQ5.out.toV HFY.out (by decide)).le hle) HFY.out
         rwa [decide_eq_true hd] at h1
        have HDN2 : Hid (∀ (j : Nat) (u : PQ), j < s + 1 → ys[j]? = some u → u.2.den = 1) := by
         show ∀ j u, _
         intro j u hj hu
         rcases Nat.lt_succ_iff_lt_or_eq.1 hj with h' | rfl
         ·exact HDN.out j u h' hu
         ·rw [HY.out] at hu; cases hu; exact hd
        clear hd
        go_wp2_with (first | go_skip | refine tP ?_ | (refine tS ?_; clear hL; intro _ hL) | (refine tB ?_; clear hL; intro _ _ hL _) | (refine tC ?_; clear hL; intro _ _ hL _ hBs))
        refine (KI.out _ _ hL.vw leX).mono ?_
        rintro e Wc6 ⟨_, mc6, rfl, hE, hMc6, hV, rfl⟩
        replace hL := hL.call hE (by assumption) hV; clear hE hV
        go_wp2_with (first | go_skip | refine tP ?_ | (refine tS ?_; clear hL; intro _ hL) | (refine tB ?_; clear hL; intro _ _ hL _) | (refine tC ?_; clear hL; intro _ _ hL _ hBs))
        go_roundw
        case rel => exact ⟨s + 1, _, by omega, by go_num, hL, hXF.trans exX, HDN2.out⟩
        case measure => simp [intOf] <;> omega
       ·have KI : Hid (∀ w m', Vw m' w → Le mf m' → Calls Tryz.prog 53 #[.agg #[.bool g5, .slice A5 n5 c5, .bool f5, .slice B5 p5 q5]] w (RetV w m' fun _ r => r = .bool false)) := by
         show ∀ w m', _
         intro w m' hV hle
         have h1 := r_IsInt _ y.2 w m' hV ((HQ5.out.toV HFY.out (by decide)).le hle) HFY.out
         rwa [decide_eq_false hd] at h1
        have HR : Hid (rndE ms us = 16 ∧ rndO ms us = []) :=
         rnd_frac HN0.out HN1b.out ⟨y, by rw [HMR.out.1, HMR.out.2.1, HN1.out, ← HYS.out]; exact List.mem_of_getElem? HY.out, hd⟩
        clear hd
        go_wp2_with (first | go_skip | refine tP ?_ | (refine tS ?_; clear hL; intro _ hL) | (refine tB ?_; clear hL; intro _ _ hL _) | (refine tC ?_; clear hL; intro _ _ hL _ hBs))
        refine (KI.out _ _ hL.vw leX).mono ?_
        rintro e Wc6 ⟨_, mc6, rfl, hE, hMc6, hV, rfl⟩
        replace hL := hL.call hE (by assumption) hV; clear hE hV
        go_wp2_with (first | go_skip | refine tP ?_ | (refine tS ?_; clear hL; intro _ hL) | (refine tB ?_; clear hL; intro _ _ hL _) | (refine tC ?_; clear hL; intro _ _ hL _ hBs))
        go_ret2
        rw [HR.out.1, HR.out.2]
        exact RetV.mk hL ⟨_, rfl, ListV.nil⟩
      ·have hsn : s = ny := by omega
       subst hsn
       have h7 : (s : Int) ≤ (s : Int) := Int.le_refl _
       have HR : Hid (rndE ms us = 0 ∧ rndO ms us = natL (rndL ms us)) := by
        refine rnd_ok HN0.out HN1b.out ?_
        rw [HMR.out.1, HMR.out.2.1, HN1.out, ← HYS.out]
        rintro ⟨y, hy, hd⟩
        obtain ⟨j, hj⟩ := List.mem_iff_getElem?.1 hy
        have h1 := (List.getElem?_eq_some_iff.1 hj).1
        have h2 := HNY.out
        exact hd (HDN.out j y (by omega) hj)
       have HNC : Hid (ms.cols.length = k) := by show _ = _; rw [HMR.out.2.1]; exact HN1.out
       clear HDN HYL HYS HFT HXF
       go_wp2_with (first | go_skip | refine tP ?_ | (refine tS ?_; clear hL; intro _ hL) | (refine tB ?_; clear hL; intro _ _ hL _) | (refine tC ?_; clear hL; intro _ _ hL _ hBs))
       clear h7
       go_loopw [13, 14] (fun out i wr => ∃ (j : Nat) (mm4 : World) (n : Nat) (Rr : List Lo), j ≤ k ∧ i = .int .i64 (j : Int) ∧ Loc w m wr mm4 Rr ∧ Hid (Ext mf mm4) ∧ Hid (RowA 3 1 IsI mm4 out n (natL (rndT ms us j)) Rr)) (fun _ i _ => k - (intOf i).toNat)
       case atStart => exact ⟨0, _, 0, [], Nat.zero_le _, rfl, hL, hXF, RowA.nil⟩
       case round =>
        clear hL hXF
        obtain ⟨j, mm4, n, Rr, hj, rfl, hL, HXF, row⟩ := hrel
        have hXF := HXF.out
        obtain ⟨A13, c13, rfl, row1⟩ := row.out.lit
        have hn6 : n ≤ 6 := by
         have h1 := row1.len
         rw [natL_len] at h1
         have := rndT_len ms us j
         omega
        have ROW := Lib.hid row1
        clear row row1
        by_cases hlt5 : j < k
        ·have hlt5' : (j : Int) < (k : Int) := by omega
         obtain ⟨⟨s1, ds1, cost1⟩, hx⟩ := at_some HN1 hlt5
         obtain ⟨q, hq⟩ := at_some HNV hlt5
         have hco := HCO.out
         have hva := HVA.out
         obtain ⟨b1, o1, D1, cd1, rfl, hds, hr1⟩ := ColL.at_ hco hx
         obtain ⟨b2, o2, g2, A2, n2, c2, h2, B2, k2, d2, rfl, hp2, hr2⟩ := FracL.at_ hva hq
         obtain ⟨i1, i2, i3, i4, i5, i6, i7⟩ := HC.out _ (List.mem_of_getElem? hx)
         simp only at hds hr1 i1 i2 i3 i4 i5 i6 i7
         have hr3 := range_two hr1
         have hcj := hr1 2 _ rfl
         have HD1 := Lib.hid hds
         have H31 := Lib.hid i3
         have H41 := Lib.hid i4
         have HP2 := Lib.hid hp2
         have HFQ : Hid (Fit 200 q) := (HT.out q (List.mem_of_getElem? hq)).fit (by decide)
         have HFQ2 : Hid (Fit 1000 q) := HFQ.out.mono (by decide)
         have HL1 : Hid ((opF ds1).length ≤ 1000000) := Nat.le_trans (HLN.out _ (List.mem_of_getElem? hx)) (by decide)
         have HPO := Lib.hid (posJ_at hq)
         have HOP : Hid (opJ ms j = opF ds1) := by
          show _ = _
          exact opJ_at (by rw [HMR.out.2.1]; exact hx)
         have HCJ : Hid (coJ ms j = cost1) := by
          show _ = _
          exact coJ_at (by rw [HMR.out.2.1]; exact hx)
         have HTP := Lib.hid (rndT_step ms us j)
         have HLP : Hid (0 < (opF ds1).length) := i5
         clear hx hq hds hp2 i1 i2 i3 i4 i5 i6 i7 hco hva hr1
         generalize hnd : ds1.length = nd1 at *
         have HND1 := Lib.hid hnd
         clear hnd
         go_wp2_with (first | go_skip | refine tP ?_ | (refine tS ?_; clear hL; intro _ hL) | (refine tB ?_; clear hL; intro _ _ hL _) | (refine tC ?_; clear hL; intro _ _ hL _ hBs))
         refine (r_Sign _ q _ _ hL.vw ((HP2.out.toV HFQ.out (by decide)).le leX) HFQ2.out).mono ?_
         rintro e Wc7 ⟨_, mc7, rfl, hE, hMc7, hV, rfl⟩
         replace hL := hL.call hE (by assumption) hV; clear hE hV
         by_cases hpos : 0 < q
         ·as_aux_lemma =>
          have HPT : Hid (posJ us j = true) := HPO.out.trans (decide_eq_true hpos)
          have hsg : decide (rs q ≤ 0) = false := decide_eq_false (icq_pos hpos)
          clear hpos HPO
          generalize rs q = sg0 at *
          go_wp2_with (first | go_skip | refine tP ?_ | (refine tS ?_; clear hL; intro _ hL) | (refine tB ?_; clear hL; intro _ _ hL _) | (refine tC ?_; clear hL; intro _ _ hL _ hBs))
          refine (r_Operated s1 _ ds1 _ _ hL.vw (DutsL.le HD1.out leX) (by rw [HND1.out]; exact H31.out) H41.out).mono ?_
          rintro e Wo3 ⟨vo3, mo3, rfl, hE, hMo3, hV, ho3⟩
          replace hL := hL.call hE (by assumption) hV; clear hE hV
          obtain ⟨O, co, rfl, hco, ho3⟩ := ho3.lit
          have HOL := Lib.hid ho3
          have HX5 : Hid (Ext mf mo3) := hXF.trans exX
          clear ho3 hco hsg
          generalize hno : (opF ds1).length = no at *
          have HNO := Lib.hid hno
          clear hno
          go_wp2_with (first | go_skip | refine tP ?_ | (refine tS ?_; clear hL; intro _ hL) | (refine tB ?_; clear hL; intro _ _ hL _) | (refine tC ?_; clear hL; intro _ _ hL _ hBs))
          go_loopw [16, 17] (fun bv i wr => ∃ (k2 : Nat) (m5 : World), k2 ≤ k ∧ bv = .bool (bstT ms us j k2) ∧ i = .int .i64 (k2 : Int) ∧ Loc w m wr m5 Rr ∧ Hid (Ext mo3 m5)) (fun _ i _ => k - (intOf i).toNat)
          case atStart => exact ⟨0, _, Nat.zero_le _, rfl, rfl, hL, Ext.refl _⟩
          case round =>
           clear hL
           obtain ⟨k2, m5, hk2, rfl, rfl, hL, HX6⟩ := hrel
           have hX6 := HX6.out
           by_cases hlt6 : k2 < k
           ·as_aux_lemma =>
            have hlt6' : (k2 : Int) < (k : Int) := by omega
            obtain ⟨⟨s2, ds2, cost2⟩, hx⟩ := at_some HN1 hlt6
            obtain ⟨q2, hq⟩ := at_some HNV hlt6
            obtain ⟨b8, o8, D2, cd2, e8, hds, hr8⟩ := ColL.at_ HCO.out hx
            cases e8
            obtain ⟨b9, o9, g9, A9, n9, c9, h9, B9, k9, d9, e9, hp9, hr9⟩ := FracL.at_ HVA.out hq
            cases e9
            obtain ⟨i1, i2, i3, i4, i5, i6, i7⟩ := HC.out _ (List.mem_of_getElem? hx)
            simp only at hds hr8 i1 i2 i3 i4 i5 i6 i7
            have hr4 := range_two hr8
            have hck := hr8 2 _ rfl
            have HD2 := Lib.hid hds
            have H32 := Lib.hid i3
            have H42 := Lib.hid i4
            have HP9 := Lib.hid hp9
            have HFK : Hid (Fit 200 q2) := (HT.out q2 (List.mem_of_getElem? hq)).fit (by decide)
            have HFK2 : Hid (Fit 1000 q2) := HFK.out.mono (by decide)
            have HPK := Lib.hid (posJ_at hq)
            have HOK : Hid (opJ ms k2 = opF ds2) := by
             show _ = _
             exact opJ_at (by rw [HMR.out.2.1]; exact hx)
            have HCK : Hid (coJ ms k2 = cost2) := by
             show _ = _
             exact coJ_at (by rw [HMR.out.2.1]; exact hx)
            obtain ⟨sg, hsg0⟩ : ∃ sg, sg = rs q2 := ⟨_, rfl⟩
            have KS : Hid (∀ w m', Vw m' w → Le m m' → Calls Tryz.prog 62 #[.agg #[.bool g9, .slice A9 n9 c9, .bool h9, .slice B9 k9 d9]] w (RetV w m' fun _ r => r = .int .i64 sg)) := by
             show ∀ w m', _
             intro w m' hV hle
             rw [hsg0]
             exact r_Sign _ q2 w m' hV ((HP9.out.toV HFK.out (by decide)).le hle) HFK2.out
            have KE0 : Hid (∀ v w m', Vw m' w → Le mo3 m' → IntL m' v (opF ds2) → Calls Tryz.prog 56 #[.slice O no co, v] w (RetV w m' fun _ r => r = .bool (decide (opF ds1 = opF ds2)))) := by
             show ∀ v w m', _
             intro v w m' hV hle h
             exact r_SameIntsB _ v _ _ w m' hV (IntL.le HOL.out hle) h (by rw [HNO.out]; exact HL1.out)
            clear hx hq hds hp9 i1 i2 i3 i4 i5 i6 i7 hr8
            generalize hnd : ds2.length = nd2 at *
            have HND2 := Lib.hid hnd
            clear hnd
            by_cases hpk : 0 < q2
            ·have HPT2 : Hid (posJ us k2 = true) := HPK.out.trans (decide_eq_true hpk)
             have hsd : decide (sg > 0) = true := decide_eq_true (by rw [hsg0]; have := icq_pos hpk; unfold rs; omega)
             clear hpk HPK hsg0
             by_cases hsm : opF ds1 = opF ds2
             ·have KE : Hid (∀ v w m', Vw m' w → Le mo3 m' → IntL m' v (opF ds2) → Calls Tryz.prog 56 #[.slice O no co, v] w (RetV w m' fun _ r => r = .bool true)) := by
               have h1 := KE0.out
               rw [decide_eq_true hsm] at h1
               exact h1
              have HSM : Hid (opJ ms j = opJ ms k2) := by show _ = _; rw [HOP.out, HOK.out, hsm]
              clear hsm KE0
              by_cases hc1 : cost2 < cost1
              ·as_aux_lemma =>
               have hcd : decide (cost2 < cost1) = true := decide_eq_true hc1
               have HB : Hid (bstT ms us j (k2 + 1) = false) := bst_yes HPT2.out HSM.out (.inl (by rw [HCJ.out, HCK.out]; exact hc1))
               clear hc1
               generalize bstT ms us j k2 = bb at *
               go_upto_region 35 with ((first | go_skip | refine tP ?_ | (refine tS ?_; clear hL; intro _ hL) | (refine tB ?_; clear hL; intro _ _ hL _) | (refine tC ?_; clear hL; intro _ _ hL _ hBs)))
               (try simp only [eq_self] at *)
               refine wp_region_by2 52 [false, false, false, false, false, false, false, false, false, false, false, false, false, false, false, false, false, false, false, false, false, false, false, false, false, false, false, false, false, false, false, false, false, false, false, false, false, false, false, false, false, false, false, false, false, false, false, false, false, false, false, false] [false, false, false, false, false, false, false, false, false, false, false, false, false, false, false, false, false, false, false, false, false, false, false, false, false, false, false, false, false, false, false, false, false, false, false, false, false, false, false, false, false, false, false, false, false, false, false, false, false, false, false, false] [(fun v _ _ => v = ?c35_0a), (fun v _ _ => v = ?c35_1a), (fun v _ _ => v = ?c35_2a), (fun v _ _ => v = ?c35_3a), Is (.int .i64 sg), (fun v _ _ => v = ?c35_5a), (fun v _ _ => v = ?c35_6a), (fun v _ _ => v = ?c35_7a), (fun v _ _ => v = ?c35_8a), (fun v _ _ => v = ?c35_9a), (fun v _ _ => v = ?c35_10a), (fun v _ _ => v = ?c35_11a), (fun v _ _ => v = ?c35_12a), (fun v _ _ => v = ?c35_13a), Of (fun um v => IntL um v (opF ds2)), Is (.bool true), (fun v _ _ => v = ?c35_16a), (fun v _ _ => v = ?c35_17a), (fun v _ _ => v = ?c35_18a), (fun v _ _ => v = ?c35_19a), (fun v _ _ => v = ?c35_20a), (fun v _ _ => v = ?c35_21a), (fun v _ _ => v = ?c35_22a), (fun v _ _ => v = ?c35_23a), (fun v _ _ => v = ?c35_24a), (fun v _ _ => v = ?c35_25a), (fun v _ _ => v = ?c35_26a), (fun v _ _ => v = ?c35_27a), (fun v _ _ => v = ?c35_28a), (fun v _ _ => v = ?c35_29a), (fun v _ _ => v = ?c35_30a), (fun v _ _ => v = ?c35_31a), (fun v _ _ => v = ?c35_32a), (fun v _ _ => v = ?c35_33a), (fun v _ _ => v = ?c35_34a), (fun v _ _ => v = ?c35_35a), (fun v _ _ => v = ?c35_36a), (fun v _ _ => v = ?c35_37a), (fun v _ _ => v = ?c35_38a), (fun v _ _ => v = ?c35_39a), (fun v _ _ => v = ?c35_40a), (fun v _ _ => v = ?c35_41a), (fun v _ _ => v = ?c35_42a), (fun v _ _ => v = ?c35_43a), (fun v _ _ => v = ?c35_44a), (fun v _ _ => v = ?c35_45a), (fun v _ _ => v = ?c35_46a), (fun v _ _ => v = ?c35_47a), (fun v _ _ => v = ?c35_48a), (fun v _ _ => v = ?c35_49a), (fun v _ _ => v = ?c35_50a), (fun v _ _ => v = ?c35_51a)] hL.vw mixed [114, 115, 116, 117, 118, 119, 120, 121, 122, 123, 124, 125, 126, 127, 128, 129, 130, 131, 132, 133, 134, 135, 136, 137, 138, 139, 140, 141, 142, 143, 144, 145, 146, 147, 148, 149, 150, 151, 152, 153, 154, 155, 156, 157, 158, 159, 160, 161, 162, 163, 164, 165] _ (by kernel_rfl) (fun vs => by simp only [lay, Act.put, zq1, zq2, zq3]; rfl) (by kernel_rfl) (by decide) (by decide) ?s35a ?l35a ?r35a
               case s35a =>
                refine ⟨?_, ?_, ?_, ?_, ?_, ?_, ?_, ?_, ?_, ?_, ?_, ?_, ?_, ?_, ?_, ?_, ?_, ?_, ?_, ?_, ?_, ?_, ?_, ?_, ?_, ?_, ?_, ?_, ?_, ?_, ?_, ?_, ?_, ?_, ?_, ?_, ?_, ?_, ?_, ?_, ?_, ?_, ?_, ?_, ?_, ?_, ?_, ?_, ?_, ?_, ?_, ?_, trivial⟩
                ·intro vs W1 m1 hE hM hV hD; clear hD
                 exact sPw
                ·intro vs W1 m1 hE hM hV hD; clear hD
                 exact sPw
                ·intro vs W1 m1 hE hM hV hD; obtain ⟨⟨_, _, -, -, f114⟩, ⟨_, _, -, -, f115⟩, -⟩ := hD
                 rw [(f114 : vs 114 = _), (f115 : vs 115 = _)]; clear f114 f115; exact sIy
                ·intro vs W1 m1 hE hM hV hD; obtain ⟨⟨_, _, -, -, f116⟩, -⟩ := hD
                 rw [(f116 : vs 116 = _)]; clear f116; exact sLe
                ·intro vs W1 m1 hE hM hV hD; obtain ⟨⟨_, _, -, -, f117⟩, -⟩ := hD
                 rw [(f117 : vs 117 = _)]
                 clear f117
                 go_wp2_with fail
                 refine (KS.out _ _ hV leX).mono ?_
                 rintro e W2 ⟨v, m2, rfl, hE2, hM2, hV2, h⟩
                 go_wp2_with fail
                 refine One2.call hE2 hM2 hV2 ?_; first | exact h | exact rfl
                ·intro vs W1 m1 hE hM hV hD; obtain ⟨⟨_, _, -, -, f118⟩, -⟩ := hD
                 rw [(f118 : vs 118 = _)]; clear f118; exact sPw
                ·intro vs W1 m1 hE hM hV hD; obtain ⟨⟨_, _, -, -, f119⟩, -, -⟩ := hD
                 rw [(f119 : vs 119 = _)]; clear f119; exact sPw
                ·intro vs W1 m1 hE hM hV hD; obtain ⟨⟨_, _, -, -, f120⟩, -⟩ := hD
                 rw [(f120 : vs 120 = _)]; clear f120; exact sPw
                ·intro vs W1 m1 hE hM hV hD; obtain ⟨⟨_, _, -, -, f120⟩, -⟩ := hD
                 rw [(f120 : vs 120 = _)]; clear f120; exact sFe
                ·intro vs W1 m1 hE hM hV hD; obtain ⟨⟨_, _, -, -, f122⟩, ⟨_, _, -, -, f120⟩, -⟩ := hD
                 rw [(f122 : vs 122 = _), (f120 : vs 120 = _)]; clear f122 f120; exact sLe
                ·intro vs W1 m1 hE hM hV hD; obtain ⟨⟨_, _, -, -, f120⟩, -⟩ := hD
                 rw [(f120 : vs 120 = _)]; clear f120; exact sPw
                ·intro vs W1 m1 hE hM hV hD; obtain ⟨⟨_, _, -, -, f123⟩, ⟨_, _, -, -, f124⟩, ⟨_, _, -, -, f120⟩, -⟩ := hD
                 rw [(f123 : vs 123 = _), (f124 : vs 124 = _), (f120 : vs 120 = _)]; clear f123 f124 f120; exact sIy
                ·intro vs W1 m1 hE hM hV hD; obtain ⟨⟨_, _, -, -, f125⟩, ⟨_, _, -, -, f120⟩, -⟩ := hD
                 rw [(f125 : vs 125 = _), (f120 : vs 120 = _)]; clear f125 f120; exact sFe
                ·intro vs W1 m1 hE hM hV hD; obtain ⟨⟨_, _, -, -, f126⟩, ⟨_, _, -, -, f120⟩, -⟩ := hD
                 rw [(f126 : vs 126 = _), (f120 : vs 120 = _)]; clear f126 f120; exact sLe
                ·intro vs W1 m1 hE hM hV hD; obtain ⟨⟨_, _, -, -, f127⟩, ⟨_, _, -, -, f120⟩, -, -⟩ := hD
                 rw [(f127 : vs 127 = _), (f120 : vs 120 = _)]
                 clear f127 f120
                 go_wp2_with fail
                 refine (r_Operated s2 _ ds2 _ _ hV (DutsL.le HD2.out leX) (by rw [HND2.out]; exact H32.out) H42.out).mono ?_
                 rintro e W2 ⟨v, m2, rfl, hE2, hM2, hV2, h⟩
                 go_wp2_with fail
                 refine One2.call hE2 hM2 hV2 ?_; first | exact h | exact rfl
                ·intro vs W1 m1 hE hM hV hD; obtain ⟨⟨_, _, -, -, f121⟩, ⟨_, _, -, i128, f128⟩, -, ⟨_, _, -, -, f120⟩, -⟩ := hD
                 rw [(f121 : vs 121 = _), (f120 : vs 120 = _)]
                 clear f121 f120
                 have f128 : IntL _ (vs 128) (opF ds2) := f128
                 replace f128 := f128.le i128.le
                 clear i128
                 go_wp2_with fail
                 refine (KE.out _ _ _ hV leX f128).mono ?_
                 rintro e W2 ⟨v, m2, rfl, hE2, hM2, hV2, h⟩
                 go_wp2_with fail
                 refine One2.call hE2 hM2 hV2 ?_; first | exact h | exact rfl
                ·intro vs W1 m1 hE hM hV hD; obtain ⟨⟨_, _, -, -, f120⟩, ⟨_, _, -, -, f129⟩, -⟩ := hD
                 rw [(f120 : vs 120 = _), (f129 : vs 129 = _)]; clear f120 f129; exact sPw
                ·intro vs W1 m1 hE hM hV hD; obtain ⟨⟨_, _, -, -, f130⟩, -, -⟩ := hD
                 rw [(f130 : vs 130 = _)]; clear f130; exact sPw
                ·intro vs W1 m1 hE hM hV hD; obtain ⟨⟨_, _, -, -, f131⟩, -⟩ := hD
                 rw [(f131 : vs 131 = _)]; clear f131; exact sFe
                ·intro vs W1 m1 hE hM hV hD; obtain ⟨⟨_, _, -, -, f132⟩, ⟨_, _, -, -, f131⟩, -⟩ := hD
                 rw [(f132 : vs 132 = _), (f131 : vs 131 = _)]; clear f132 f131; exact sLe
                ·intro vs W1 m1 hE hM hV hD; obtain ⟨⟨_, _, -, -, f131⟩, -⟩ := hD
                 rw [(f131 : vs 131 = _)]; clear f131; exact sPw
                ·intro vs W1 m1 hE hM hV hD; obtain ⟨⟨_, _, -, -, f133⟩, ⟨_, _, -, -, f134⟩, ⟨_, _, -, -, f131⟩, -⟩ := hD
                 rw [(f133 : vs 133 = _), (f134 : vs 134 = _), (f131 : vs 131 = _)]; clear f133 f134 f131; exact sIy
                ·intro vs W1 m1 hE hM hV hD; obtain ⟨⟨_, _, -, -, f135⟩, ⟨_, _, -, -, f131⟩, -⟩ := hD
                 rw [(f135 : vs 135 = _), (f131 : vs 131 = _)]; clear f135 f131; exact sFe
                ·intro vs W1 m1 hE hM hV hD; obtain ⟨⟨_, _, -, -, f136⟩, ⟨_, _, -, -, f131⟩, -⟩ := hD
                 rw [(f136 : vs 136 = _), (f131 : vs 131 = _)]; clear f136 f131; exact sLe
                ·intro vs W1 m1 hE hM hV hD; obtain ⟨⟨_, _, -, -, f131⟩, -⟩ := hD
                 rw [(f131 : vs 131 = _)]; clear f131; exact sFe
                ·intro vs W1 m1 hE hM hV hD; obtain ⟨⟨_, _, -, -, f138⟩, ⟨_, _, -, -, f131⟩, -⟩ := hD
                 rw [(f138 : vs 138 = _), (f131 : vs 131 = _)]; clear f138 f131; exact sLe
                ·intro vs W1 m1 hE hM hV hD; obtain ⟨⟨_, _, -, -, f131⟩, -⟩ := hD
                 rw [(f131 : vs 131 = _)]; clear f131; exact sPw
                ·intro vs W1 m1 hE hM hV hD; obtain ⟨⟨_, _, -, -, f139⟩, ⟨_, _, -, -, f140⟩, ⟨_, _, -, -, f131⟩, -⟩ := hD
                 rw [(f139 : vs 139 = _), (f140 : vs 140 = _), (f131 : vs 131 = _)]; clear f139 f140 f131; exact sIy
                ·intro vs W1 m1 hE hM hV hD; obtain ⟨⟨_, _, -, -, f141⟩, ⟨_, _, -, -, f131⟩, -⟩ := hD
                 rw [(f141 : vs 141 = _), (f131 : vs 131 = _)]; clear f141 f131; exact sFe
                ·intro vs W1 m1 hE hM hV hD; obtain ⟨⟨_, _, -, -, f142⟩, ⟨_, _, -, -, f131⟩, -⟩ := hD
                 rw [(f142 : vs 142 = _), (f131 : vs 131 = _)]; clear f142 f131; exact sLe
                ·intro vs W1 m1 hE hM hV hD; obtain ⟨⟨_, _, -, -, f137⟩, ⟨_, _, -, -, f143⟩, ⟨_, _, -, -, f131⟩, -⟩ := hD
                 rw [(f137 : vs 137 = _), (f143 : vs 143 = _), (f131 : vs 131 = _)]; clear f137 f143 f131; exact sPw
                ·intro vs W1 m1 hE hM hV hD; obtain ⟨⟨_, _, -, -, f144⟩, ⟨_, _, -, -, f131⟩, -, -⟩ := hD
                 rw [(f144 : vs 144 = _), (f131 : vs 131 = _)]; clear f144 f131; exact sPw
                ·intro vs W1 m1 hE hM hV hD; obtain ⟨⟨_, _, -, -, f145⟩, -⟩ := hD
                 rw [(f145 : vs 145 = _)]; clear f145; exact sPw
                ·intro vs W1 m1 hE hM hV hD; obtain ⟨⟨_, _, -, -, f146⟩, ⟨_, _, -, -, f145⟩, -⟩ := hD
                 rw [(f146 : vs 146 = _), (f145 : vs 145 = _)]; clear f146 f145; exact sPw
                ·intro vs W1 m1 hE hM hV hD; obtain ⟨⟨_, _, -, -, f145⟩, -⟩ := hD
                 rw [(f145 : vs 145 = _)]; clear f145; exact sPw
                ·intro vs W1 m1 hE hM hV hD; obtain ⟨⟨_, _, -, -, f147⟩, ⟨_, _, -, -, f148⟩, ⟨_, _, -, -, f145⟩, -⟩ := hD
                 rw [(f147 : vs 147 = _), (f148 : vs 148 = _), (f145 : vs 145 = _)]; clear f147 f148 f145; exact sPw
                ·intro vs W1 m1 hE hM hV hD; obtain ⟨⟨_, _, -, -, f149⟩, ⟨_, _, -, -, f145⟩, -⟩ := hD
                 rw [(f149 : vs 149 = _), (f145 : vs 145 = _)]; clear f149 f145; exact sPw
                ·intro vs W1 m1 hE hM hV hD; obtain ⟨⟨_, _, -, -, f150⟩, ⟨_, _, -, -, f145⟩, -⟩ := hD
                 rw [(f150 : vs 150 = _), (f145 : vs 145 = _)]; clear f150 f145; exact sPw
                ·intro vs W1 m1 hE hM hV hD; obtain ⟨⟨_, _, -, -, f145⟩, -⟩ := hD
                 rw [(f145 : vs 145 = _)]; clear f145; exact sPw
                ·intro vs W1 m1 hE hM hV hD; obtain ⟨⟨_, _, -, -, f152⟩, ⟨_, _, -, -, f145⟩, -⟩ := hD
                 rw [(f152 : vs 152 = _), (f145 : vs 145 = _)]; clear f152 f145; exact sPw
                ·intro vs W1 m1 hE hM hV hD; obtain ⟨⟨_, _, -, -, f145⟩, -⟩ := hD
                 rw [(f145 : vs 145 = _)]; clear f145; exact sPw
                ·intro vs W1 m1 hE hM hV hD; obtain ⟨⟨_, _, -, -, f153⟩, ⟨_, _, -, -, f154⟩, ⟨_, _, -, -, f145⟩, -⟩ := hD
                 rw [(f153 : vs 153 = _), (f154 : vs 154 = _), (f145 : vs 145 = _)]; clear f153 f154 f145; exact sPw
                ·intro vs W1 m1 hE hM hV hD; obtain ⟨⟨_, _, -, -, f155⟩, ⟨_, _, -, -, f145⟩, -⟩ := hD
                 rw [(f155 : vs 155 = _), (f145 : vs 145 = _)]; clear f155 f145; exact sPw
                ·intro vs W1 m1 hE hM hV hD; obtain ⟨⟨_, _, -, -, f156⟩, ⟨_, _, -, -, f145⟩, -⟩ := hD
                 rw [(f156 : vs 156 = _), (f145 : vs 145 = _)]; clear f156 f145; exact sPw
                ·intro vs W1 m1 hE hM hV hD; obtain ⟨⟨_, _, -, -, f151⟩, ⟨_, _, -, -, f157⟩, ⟨_, _, -, -, f145⟩, -⟩ := hD
                 rw [(f151 : vs 151 = _), (f157 : vs 157 = _), (f145 : vs 145 = _)]; clear f151 f157 f145; exact sPw
                ·intro vs W1 m1 hE hM hV hD; obtain ⟨⟨_, _, -, -, f158⟩, ⟨_, _, -, -, f145⟩, -, -⟩ := hD
                 rw [(f158 : vs 158 = _), (f145 : vs 145 = _)]; clear f158 f145; exact sPw
                ·intro vs W1 m1 hE hM hV hD; obtain ⟨⟨_, _, -, -, f159⟩, -⟩ := hD
                 rw [(f159 : vs 159 = _)]; clear f159; exact sPw
                ·intro vs W1 m1 hE hM hV hD; obtain ⟨⟨_, _, -, -, f159⟩, -⟩ := hD
                 rw [(f159 : vs 159 = _)]; clear f159; exact sPw
                ·intro vs W1 m1 hE hM hV hD; obtain ⟨⟨_, _, -, -, f160⟩, ⟨_, _, -, -, f161⟩, ⟨_, _, -, -, f159⟩, -⟩ := hD
                 rw [(f160 : vs 160 = _), (f161 : vs 161 = _), (f159 : vs 159 = _)]; clear f160 f161 f159; exact sPw
                ·intro vs W1 m1 hE hM hV hD; obtain ⟨⟨_, _, -, -, f159⟩, ⟨_, _, -, -, f162⟩, ⟨_, _, -, -, f145⟩, -⟩ := hD
                 rw [(f159 : vs 159 = _), (f162 : vs 162 = _), (f145 : vs 145 = _)]; clear f159 f162 f145; exact sPw
                ·intro vs W1 m1 hE hM hV hD; obtain ⟨⟨_, _, -, -, f145⟩, ⟨_, _, -, -, f163⟩, ⟨_, _, -, -, f131⟩, -⟩ := hD
                 rw [(f145 : vs 145 = _), (f163 : vs 163 = _), (f131 : vs 131 = _)]; clear f145 f163 f131; exact sPw
                ·intro vs W1 m1 hE hM hV hD; obtain ⟨⟨_, _, -, -, f131⟩, ⟨_, _, -, -, f164⟩, -⟩ := hD
                 rw [(f131 : vs 131 = _), (f164 : vs 164 = _)]; clear f131 f164; exact sPw
               case l35a =>
                refine ⟨nF, nF, nF, nF, nF, nF, nF, nF, nF, nF, nF, nF, nF, nF, nF, nF, nF, nF, nF, nF, nF, nF, nF, nF, nF, nF, nF, nF, nF, nF, nF, nF, nF, nF, nF, nF, nF, nF, nF, nF, nF, nF, nF, nF, nF, nF, nF, nF, nF, nF, nF, nF, trivial⟩
               intro vs W1 m1 hE hM hV hF hD
               clear hD
               obtain ⟨-, -, -, -, -, -, -, -, -, -, -, -, -, -, ⟨_, _, -, i128, f128⟩, -, -, -, -, -, -, -, -, -, -, -, -, -, -, -, -, -, -, -, -, -, -, -, -, -, -, -, -, -, -, -, -, -, -, -, -, ⟨_, _, -, -, f165⟩, -⟩ := hF
               replace hL := hL.call hE hM hV
               replace f128 : IntL _ (vs 128) (opF ds2) := f128
               replace f128 := f128.le i128.le
               clear i128
               have f165 : vs 165 = _ := f165
               generalize vs 165 = x165 at f165 ⊢
               subst x165
               clear hE hV
               simp only [List.drop_succ_cons, List.drop_zero]
               go_wp2_with (first | go_skip | refine tP ?_ | (refine tS ?_; clear hL; intro _ hL) | (refine tB ?_; clear hL; intro _ _ hL _) | (refine tC ?_; clear hL; intro _ _ hL _ hBs))
               refine QN.mk ?_
               go_wp2_with (first | go_skip | refine tP ?_ | (refine tS ?_; clear hL; intro _ hL) | (refine tB ?_; clear hL; intro _ _ hL _) | (refine tC ?_; clear hL; intro _ _ hL _ hBs))
               go_roundw
               case rel => exact ⟨k2 + 1, _, by omega, by rw [HB.out], by go_num, hL, hX6.trans exX⟩
               case measure => simp [intOf] <;> omega
              ·have hcd : decide (cost2 < cost1) = false := decide_eq_false hc1
               by_cases hc2 : cost2 = cost1
               ·have hce : (cost2 == cost1) = true := by simpa using hc2
                by_cases hc3 : k2 < j
                ·as_aux_lemma =>
                 have hcj3 : decide (k2 < j) = true := decide_eq_true hc3
                 have hcj4 : decide ((k2 : Int) < (j : Int)) = true := decide_eq_true (by omega)
                 have HB : Hid (bstT ms us j (k2 + 1) = false) := bst_yes HPT2.out HSM.out (.inr ⟨by rw [HCJ.out, HCK.out]; exact hc2, hc3⟩)
                 clear hc1 hc2 hc3
                 generalize bstT ms us j k2 = bb at *
                 go_upto_region 35 with ((first | go_skip | refine tP ?_ | (refine tS ?_; clear hL; intro _ hL) | (refine tB ?_; clear hL; intro _ _ hL _) | (refine tC ?_; clear hL; intro _ _ hL _ hBs)))
                 (try simp only [eq_self] at *)
                 refine wp_region_by2 52 [false, false, false, false, false, false, false, false, false, false, false, false, false, false, false, false, false, false, false, false, false, false, false, false, false, false, false, false, false, false, false, false, false, false, false, false, false, false, false, false, false, false, false, false, false, false, false, false, false, false, false, false] [false, false, false, false, false, false, false, false, false, false, false, false, false, false, false, false, false, false, false, false, false, false, false, false, false, false, false, false, false, false, false, false, false, false, false, false, false, false, false, false, false, false, false, false, false, false, false, false, false, false, false, false] [(fun v _ _ => v = ?c35_0b), (fun v _ _ => v = ?c35_1b), (fun v _ _ => v = ?c35_2b), (fun v _ _ => v = ?c35_3b), Is (.int .i64 sg), (fun v _ _ => v = ?c35_5b), (fun v _ _ => v = ?c35_6b), (fun v _ _ => v = ?c35_7b), (fun v _ _ => v = ?c35_8b), (fun v _ _ => v = ?c35_9b), (fun v _ _ => v = ?c35_10b), (fun v _ _ => v = ?c35_11b), (fun v _ _ => v = ?c35_12b), (fun v _ _ => v = ?c35_13b), Of (fun um v => IntL um v (opF ds2)), Is (.bool true), (fun v _ _ => v = ?c35_16b), (fun v _ _ => v = ?c35_17b), (fun v _ _ => v = ?c35_18b), (fun v _ _ => v = ?c35_19b), (fun v _ _ => v = ?c35_20b), (fun v _ _ => v = ?c35_21b), (fun v _ _ => v = ?c35_22b), (fun v _ _ => v = ?c35_23b), (fun v _ _ => v = ?c35_24b), (fun v _ _ => v = ?c35_25b), (fun v _ _ => v = ?c35_26b), (fun v _ _ => v = ?c35_27b), (fun v _ _ => v = ?c35_28b), (fun v _ _ => v = ?c35_29b), (fun v _ _ => v = ?c35_30b), (fun v _ _ => v = ?c35_31b), (fun v _ _ => v = ?c35_32b), (fun v _ _ => v = ?c35_33b), (fun v _ _ => v = ?c35_34b), (fun v _ _ => v = ?c35_35b), (fun v _ _ => v = ?c35_36b), (fun v _ _ => v = ?c35_37b), (fun v _ _ => v = ?c35_38b), (fun v _ _ => v = ?c35_39b), (fun v _ _ => v = ?c35_40b), (fun v _ _ => v = ?c35_41b), (fun v _ _ => v = ?c35_42b), (fun v _ _ => v = ?c35_43b), (fun v _ _ => v = ?c35_44b), (fun v _ _ => v = ?c35_45b), (fun v _ _ => v = ?c35_46b), (fun v _ _ => v = ?c35_47b), (fun v _ _ => v = ?c35_48b), (fun v _ _ => v = ?c35_49b), (fun v _ _ => v = ?c35_50b), (fun v _ _ => v = ?c35_51b)] hL.vw mixed [114, 115, 116, 117, 118, 119, 120, 121, 122, 123, 124, 125, 126, 127, 128, 129, 130, 131, 132, 133, 134, 135, 136, 137, 138, 139, 140, 141, 142, 143, 144, 145, 146, 147, 148, 149, 150, 151, 152, 153, 154, 155, 156, 157, 158, 159, 160, 161, 162, 163, 164, 165] _ (by kernel_rfl) (fun vs => by simp only [lay, Act.put, zq1, zq2, zq3]; rfl) (by kernel_rfl) (by decide) (by decide) ?s35b ?l35b ?r35b
                 case s35b =>
                  refine ⟨?_, ?_, ?_, ?_, ?_, ?_, ?_, ?_, ?_, ?_, ?_, ?_, ?_, ?_, ?_, ?_, ?_, ?_, ?_, ?_, ?_, ?_, ?_, ?_, ?_, ?_, ?_, ?_, ?_, ?_, ?_, ?_, ?_, ?_, ?_, ?_, ?_, ?_, ?_, ?_, ?_, ?_, ?_, ?_, ?_, ?_, ?_, ?_, ?_, ?_, ?_, ?_, trivial⟩
                  ·intro vs W1 m1 hE hM hV hD; clear hD
                   exact sPw
                  ·intro vs W1 m1 hE hM hV hD; clear hD
                   exact sPw
                  ·intro vs W1 m1 hE hM hV hD; obtain ⟨⟨_, _, -, -, f114⟩, ⟨_, _, -, -, f115⟩, -⟩ := hD
                   rw [(f114 : vs 114 = _), (f115 : vs 115 = _)]; clear f114 f115; exact sIy
                  ·intro vs W1 m1 hE hM hV hD; obtain ⟨⟨_, _, -, -, f116⟩, -⟩ := hD
                   rw [(f116 : vs 116 = _)]; clear f116; exact sLe
                  ·intro vs W1 m1 hE hM hV hD; obtain ⟨⟨_, _, -, -, f117⟩, -⟩ := hD
                   rw [(f117 : vs 117 = _)]
                   clear f117
                   go_wp2_with fail
                   refine (KS.out _ _ hV leX).mono ?_
                   rintro e W2 ⟨v, m2, rfl, hE2, hM2, hV2, h⟩
                   go_wp2_with fail
                   refine One2.call hE2 hM2 hV2 ?_; first | exact h | exact rfl
                  ·intro vs W1 m1 hE hM hV hD; obtain ⟨⟨_, _, -, -, f118⟩, -⟩ := hD
                   rw [(f118 : vs 118 = _)]; clear f118; exact sPw
                  ·intro vs W1 m1 hE hM hV hD; obtain ⟨⟨_, _, -, -, f119⟩, -, -⟩ := hD
                   rw [(f119 : vs 119 = _)]; clear f119; exact sPw
                  ·intro vs W1 m1 hE hM hV hD; obtain ⟨⟨_, _, -, -, f120⟩, -⟩ := hD
                   rw [(f120 : vs 120 = _)]; clear f120; exact sPw
                  ·intro vs W1 m1 hE hM hV hD; obtain ⟨⟨_, _, -, -, f120⟩, -⟩ := hD
                   rw [(f120 : vs 120 = _)]; clear f120; exact sFe
                  ·intro vs W1 m1 hE hM hV hD; obtain ⟨⟨_, _, -, -, f122⟩, ⟨_, _, -, -, f120⟩, -⟩ := hD
                   rw [(f122 : vs 122 = _), (f120 : vs 120 = _)]; clear f122 f120; exact sLe
                  ·intro vs W1 m1 hE hM hV hD; obtain ⟨⟨_, _, -, -, f120⟩, -⟩ := hD
                   rw [(f120 : vs 120 = _)]; clear f120; exact sPw
                  ·intro vs W1 m1 hE hM hV hD; obtain ⟨⟨_, _, -, -, f123⟩, ⟨_, _, -, -, f124⟩, ⟨_, _, -, -, f120⟩, -⟩ := hD
                   rw [(f123 : vs 123 = _), (f124 : vs 124 = _), (f120 : vs 120 = _)]; clear f123 f124 f120; exact sIy
                  ·intro vs W1 m1 hE hM hV hD; obtain ⟨⟨_, _, -, -, f125⟩, ⟨_, _, -, -, f120⟩, -⟩ := hD
                   rw [(f125 : vs 125 = _), (f120 : vs 120 = _)]; clear f125 f120; exact sFe
                  ·intro vs W1 m1 hE hM hV hD; obtain ⟨⟨_, _, -, -, f126⟩, ⟨_, _, -, -, f120⟩, -⟩ := hD
                   rw [(f126 : vs 126 = _), (f120 : vs 120 = _)]; clear f126 f120; exact sLe
                  ·intro vs W1 m1 hE hM hV hD; obtain ⟨⟨_, _, -, -, f127⟩, ⟨_, _, -, -, f120⟩, -, -⟩ := hD
                   rw [(f127 : vs 127 = _), (f120 : vs 120 = _)]
                   clear f127 f120
                   go_wp2_with fail
                   refine (r_Operated s2 _ ds2 _ _ hV (DutsL.le HD2.out leX) (by rw [HND2.out]; exact H32.out) H42.out).mono ?_
                   rintro e W2 ⟨v, m2, rfl, hE2, hM2, hV2, h⟩
                   go_wp2_with fail
                   refine One2.call hE2 hM2 hV2 ?_; first | exact h | exact rfl
                  ·intro vs W1 m1 hE hM hV hD; obtain ⟨⟨_, _, -, -, f121⟩, ⟨_, _, -, i128, f128⟩, -, ⟨_, _, -, -, f120⟩, -⟩ := hD
                   rw [(f121 : vs 121 = _), (f120 : vs 120 = _)]
                   clear f121 f120
                   have f128 : IntL _ (vs 128) (opF ds2) := f128
                   replace f128 := f128.le i128.le
                   clear i128
                   go_wp2_with fail
                   refine (KE.out _ _ _ hV leX f128).mono ?_
                   rintro e W2 ⟨v, m2, rfl, hE2, hM2, hV2, h⟩
                   go_wp2_with fail
                   refine One2.call hE2 hM2 hV2 ?_; first | exact h | exact rfl
                  ·intro vs W1 m1 hE hM hV hD; obtain ⟨⟨_, _, -, -, f120⟩, ⟨_, _, -, -, f129⟩, -⟩ := hD
                   rw [(f120 : vs 120 = _), (f129 : vs 129 = _)]; clear f120 f129; exact sPw
                  ·intro vs W1 m1 hE hM hV hD; obtain ⟨⟨_, _, -, -, f130⟩, -, -⟩ := hD
                   rw [(f130 : vs 130 = _)]; clear f130; exact sPw
                  ·intro vs W1 m1 hE hM hV hD; obtain ⟨⟨_, _, -, -, f131⟩, -⟩ := hD
                   rw [(f131 : vs 131 = _)]; clear f131; exact sFe
                  ·intro vs W1 m1 hE hM hV hD; obtain ⟨⟨_, _, -, -, f132⟩, ⟨_, _, -, -, f131⟩, -⟩ := hD
                   rw [(f132 : vs 132 = _), (f131 : vs 131 = _)]; clear f132 f131; exact sLe
                  ·intro vs W1 m1 hE hM hV hD; obtain ⟨⟨_, _, -, -, f131⟩, -⟩ := hD
                   rw [(f131 : vs 131 = _)]; clear f131; exact sPw
                  ·intro vs W1 m1 hE hM hV hD; obtain ⟨⟨_, _, -, -, f133⟩, ⟨_, _, -, -, f134⟩, ⟨_, _, -, -, f131⟩, -⟩ := hD
                   rw [(f133 : vs 133 = _), (f134 : vs 134 = _), (f131 : vs 131 = _)]; clear f133 f134 f131; exact sIy
                  ·intro vs W1 m1 hE hM hV hD; obtain ⟨⟨_, _, -, -, f135⟩, ⟨_, _, -, -, f131⟩, -⟩ := hD
                   rw [(f135 : vs 135 = _), (f131 : vs 131 = _)]; clear f135 f131; exact sFe
                  ·intro vs W1 m1 hE hM hV hD; obtain ⟨⟨_, _, -, -, f136⟩, ⟨_, _, -, -, f131⟩, -⟩ := hD
                   rw [(f136 : vs 136 = _), (f131 : vs 131 = _)]; clear f136 f131; exact sLe
                  ·intro vs W1 m1 hE hM hV hD; obtain ⟨⟨_, _, -, -, f131⟩, -⟩ := hD
                   rw [(f131 : vs 131 = _)]; clear f131; exact sFe
                  ·intro vs W1 m1 hE hM hV hD; obtain ⟨⟨_, _, -, -, f138⟩, ⟨_, _, -, -, f131⟩, -⟩ := hD
                   rw [(f138 : vs 138 = _), (f131 : vs 131 = _)]; clear f138 f131; exact sLe
                  ·intro vs W1 m1 hE hM hV hD; obtain ⟨⟨_, _, -, -, f131⟩, -⟩ := hD
                   rw [(f131 : vs 131 = _)]; clear f131; exact sPw
                  ·intro vs W1 m1 hE hM hV hD; obtain ⟨⟨_, _, -, -, f139⟩, ⟨_, _, -, -, f140⟩, ⟨_, _, -, -, f131⟩, -⟩ := hD
                   rw [(f139 : vs 139 = _), (f140 : vs 140 = _), (f131 : vs 131 = _)]; clear f139 f140 f131; exact sIy
                  ·intro vs W1 m1 hE hM hV hD; obtain ⟨⟨_, _, -, -, f141⟩, ⟨_, _, -, -, f131⟩, -⟩ := hD
                   rw [(f141 : vs 141 = _), (f131 : vs 131 = _)]; clear f141 f131; exact sFe
                  ·intro vs W1 m1 hE hM hV hD; obtain ⟨⟨_, _, -, -, f142⟩, ⟨_, _, -, -, f131⟩, -⟩ := hD
                   rw [(f142 : vs 142 = _), (f131 : vs 131 = _)]; clear f142 f131; exact sLe
                  ·intro vs W1 m1 hE hM hV hD; obtain ⟨⟨_, _, -, -, f137⟩, ⟨_, _, -, -, f143⟩, ⟨_, _, -, -, f131⟩, -⟩ := hD
                   rw [(f137 : vs 137 = _), (f143 : vs 143 = _), (f131 : vs 131 = _)]; clear f137 f143 f131; exact sPw
                  ·intro vs W1 m1 hE hM hV hD; obtain ⟨⟨_, _, -, -, f144⟩, ⟨_, _, -, -, f131⟩, -, -⟩ := hD
                   rw [(f144 : vs 144 = _), (f131 : vs 131 = _)]; clear f144 f131; exact sPw
                  ·intro vs W1 m1 hE hM hV hD; obtain ⟨⟨_, _, -, -, f145⟩, -⟩ := hD
                   rw [(f145 : vs 145 = _)]; clear f145; exact sFe
                  ·intro vs W1 m1 hE hM hV hD; obtain ⟨⟨_, _, -, -, f146⟩, ⟨_, _, -, -, f145⟩, -⟩ := hD
                   rw [(f146 : vs 146 = _), (f145 : vs 145 = _)]; clear f146 f145; exact sLe
                  ·intro vs W1 m1 hE hM hV hD; obtain ⟨⟨_, _, -, -, f145⟩, -⟩ := hD
                   rw [(f145 : vs 145 = _)]; clear f145; exact sPw
                  ·intro vs W1 m1 hE hM hV hD; obtain ⟨⟨_, _, -, -, f147⟩, ⟨_, _, -, -, f148⟩, ⟨_, _, -, -, f145⟩, -⟩ := hD
                   rw [(f147 : vs 147 = _), (f148 : vs 148 = _), (f145 : vs 145 = _)]; clear f147 f148 f145; exact sIy
                  ·intro vs W1 m1 hE hM hV hD; obtain ⟨⟨_, _, -, -, f149⟩, ⟨_, _, -, -, f145⟩, -⟩ := hD
                   rw [(f149 : vs 149 = _), (f145 : vs 145 = _)]; clear f149 f145; exact sFe
                  ·intro vs W1 m1 hE hM hV hD; obtain ⟨⟨_, _, -, -, f150⟩, ⟨_, _, -, -, f145⟩, -⟩ := hD
                   rw [(f150 : vs 150 = _), (f145 : vs 145 = _)]; clear f150 f145; exact sLe
                  ·intro vs W1 m1 hE hM hV hD; obtain ⟨⟨_, _, -, -, f145⟩, -⟩ := hD
                   rw [(f145 : vs 145 = _)]; clear f145; exact sFe
                  ·intro vs W1 m1 hE hM hV hD; obtain ⟨⟨_, _, -, -, f152⟩, ⟨_, _, -, -, f145⟩, -⟩ := hD
                   rw [(f152 : vs 152 = _), (f145 : vs 145 = _)]; clear f152 f145; exact sLe
                  ·intro vs W1 m1 hE hM hV hD; obtain ⟨⟨_, _, -, -, f145⟩, -⟩ := hD
                   rw [(f145 : vs 145 = _)]; clear f145; exact sPw
                  ·intro vs W1 m1 hE hM hV hD; obtain ⟨⟨_, _, -, -, f153⟩, ⟨_, _, -, -, f154⟩, ⟨_, _, -, -, f145⟩, -⟩ := hD
                   rw [(f153 : vs 153 = _), (f154 : vs 154 = _), (f145 : vs 145 = _)]; clear f153 f154 f145; exact sIy
                  ·intro vs W1 m1 hE hM hV hD; obtain ⟨⟨_, _, -, -, f155⟩, ⟨_, _, -, -, f145⟩, -⟩ := hD
                   rw [(f155 : vs 155 = _), (f145 : vs 145 = _)]; clear f155 f145; exact sFe
                  ·intro vs W1 m1 hE hM hV hD; obtain ⟨⟨_, _, -, -, f156⟩, ⟨_, _, -, -, f145⟩, -⟩ := hD
                   rw [(f156 : vs 156 = _), (f145 : vs 145 = _)]; clear f156 f145; exact sLe
                  ·intro vs W1 m1 hE hM hV hD; obtain ⟨⟨_, _, -, -, f151⟩, ⟨_, _, -, -, f157⟩, ⟨_, _, -, -, f145⟩, -⟩ := hD
                   rw [(f151 : vs 151 = _), (f157 : vs 157 = _), (f145 : vs 145 = _)]; clear f151 f157 f145; exact sPw
                  ·intro vs W1 m1 hE hM hV hD; obtain ⟨⟨_, _, -, -, f158⟩, ⟨_, _, -, -, f145⟩, -, -⟩ := hD
                   rw [(f158 : vs 158 = _), (f145 : vs 145 = _)]; clear f158 f145; exact sPw
                  ·intro vs W1 m1 hE hM hV hD; obtain ⟨⟨_, _, -, -, f159⟩, -⟩ := hD
                   rw [(f159 : vs 159 = _)]; clear f159; exact sPw
                  ·intro vs W1 m1 hE hM hV hD; obtain ⟨⟨_, _, -, -, f159⟩, -⟩ := hD
                   rw [(f159 : vs 159 = _)]; clear f159; exact sPw
                  ·intro vs W1 m1 hE hM hV hD; obtain ⟨⟨_, _, -, -, f160⟩, ⟨_, _, -, -, f161⟩, ⟨_, _, -, -, f159⟩, -⟩ := hD
                   rw [(f160 : vs 160 = _), (f161 : vs 161 = _), (f159 : vs 159 = _)]; clear f160 f161 f159; exact sPw
                  ·intro vs W1 m1 hE hM hV hD; obtain ⟨⟨_, _, -, -, f159⟩, ⟨_, _, -, -, f162⟩, ⟨_, _, -, -, f145⟩, -⟩ := hD
                   rw [(f159 : vs 159 = _), (f162 : vs 162 = _), (f145 : vs 145 = _)]; clear f159 f162 f145; exact sPw
                  ·intro vs W1 m1 hE hM hV hD; obtain ⟨⟨_, _, -, -, f145⟩, ⟨_, _, -, -, f163⟩, ⟨_, _, -, -, f131⟩, -⟩ := hD
                   rw [(f145 : vs 145 = _), (f163 : vs 163 = _), (f131 : vs 131 = _)]; clear f145 f163 f131; exact sPw
                  ·intro vs W1 m1 hE hM hV hD; obtain ⟨⟨_, _, -, -, f131⟩, ⟨_, _, -, -, f164⟩, -⟩ := hD
                   rw [(f131 : vs 131 = _), (f164 : vs 164 = _)]; clear f131 f164; exact sPw
                 case l35b =>
                  refine ⟨nF, nF, nF, nF, nF, nF, nF, nF, nF, nF, nF, nF, nF, nF, nF, nF, nF, nF, nF, nF, nF, nF, nF, nF, nF, nF, nF, nF, nF, nF, nF, nF, nF, nF, nF, nF, nF, nF, nF, nF, nF, nF, nF, nF, nF, nF, nF, nF, nF, nF, nF, nF, trivial⟩
                 intro vs W1 m1 hE hM hV hF hD
                 clear hD
                 obtain ⟨-, -, -, -, -, -, -, -, -, -, -, -, -, -, ⟨_, _, -, i128, f128⟩, -, -, -, -, -, -, -, -, -, -, -, -, -, -, -, -, -, -, -, -, -, -, -, -, -, -, -, -, -, -, -, -, -, -, -, -, ⟨_, _, -, -, f165⟩, -⟩ := hF
                 replace hL := hL.call hE hM hV
                 replace f128 : IntL _ (vs 128) (opF ds2) := f128
                 replace f128 := f128.le i128.le
                 clear i128
                 have f165 : vs 165 = _ := f165
                 generalize vs 165 = x165 at f165 ⊢
                 subst x165
                 clear hE hV
                 simp only [List.drop_succ_cons, List.drop_zero]
                 go_wp2_with (first | go_skip | refine tP ?_ | (refine tS ?_; clear hL; intro _ hL) | (refine tB ?_; clear hL; intro _ _ hL _) | (refine tC ?_; clear hL; intro _ _ hL _ hBs))
                 refine QN.mk ?_
                 go_wp2_with (first | go_skip | refine tP ?_ | (refine tS ?_; clear hL; intro _ hL) | (refine tB ?_; clear hL; intro _ _ hL _) | (refine tC ?_; clear hL; intro _ _ hL _ hBs))
                 go_roundw
                 case rel => exact ⟨k2 + 1, _, by omega, by rw [HB.out], by go_num, hL, hX6.trans exX⟩
                 case measure => simp [intOf] <;> omega
                ·as_aux_lemma =>
                 have hcj3 : decide (k2 < j) = false := decide_eq_false hc3
                 have hcj4 : decide ((k2 : Int) < (j : Int)) = false := decide_eq_false (by omega)
                 have HB : Hid (bstT ms us j (k2 + 1) = bstT ms us j k2) := bst_no (by rintro ⟨-, -, h⟩; unfold betC at h; rw [HCJ.out, HCK.out] at h; omega)
                 clear hc1 hc2 hc3
                 generalize bstT ms us j k2 = bb at *
                 go_upto_region 35 with ((first | go_skip | refine tP ?_ | (refine tS ?_; clear hL; intro _ hL) | (refine tB ?_; clear hL; intro _ _ hL _) | (refine tC ?_; clear hL; intro _ _ hL _ hBs)))
                 (try simp only [eq_self] at *)
                 refine wp_region_by2 52 [false, false, false, false, false, false, false, false, false, false, false, false, false, false, false, false, false, false, false, false, false, false, false, false, false, false, false, false, false, false, false, false, false, false, false, false, false, false, false, false, false, false, false, false, false, false, false, false, false, false, false, false] [false, false, false, false, false, false, false, false, false, false, false, false, false, false, false, false, false, false, false, false, false, false, false, false, false, false, false, false, false, false, false, false, false, false, false, false, false, false, false, false, false, false, false, false, false, false, false, false, false, false, false, false] [(fun v _ _ => v = ?c35_0c), (fun v _ _ => v = ?c35_1c), (fun v _ _ => v = ?c35_2c), (fun v _ _ => v = ?c35_3c), Is (.int .i64 sg), (fun v _ _ => v = ?c35_5c), (fun v _ _ => v = ?c35_6c), (fun v _ _ => v = ?c35_7c), (fun v _ _ => v = ?c35_8c), (fun v _ _ => v = ?c35_9c), (fun v _ _ => v = ?c35_10c), (fun v _ _ => v = ?c35_11c), (fun v _ _ => v = ?c35_12c), (fun v _ _ => v = ?c35_13c), Of (fun um v => IntL um v (opF ds2)), Is (.bool true), (fun v _ _ => v = ?c35_16c), (fun v _ _ => v = ?c35_17c), (fun v _ _ => v = ?c35_18c), (fun v _ _ => v = ?c35_19c), (fun v _ _ => v = ?c35_20c), (fun v _ _ => v = ?c35_21c), (fun v _ _ => v = ?c35_22c), (fun v _ _ => v = ?c35_23c), (fun v _ _ => v = ?c35_24c), (fun v _ _ => v = ?c35_25c), (fun v _ _ => v = ?c35_26c), (fun v _ _ => v = ?c35_27c), (fun v _ _ => v = ?c35_28c), (fun v _ _ => v = ?c35_29c), (fun v _ _ => v = ?c35_30c), (fun v _ _ => v = ?c35_31c), (fun v _ _ => v = ?c35_32c), (fun v _ _ => v = ?c35_33c), (fun v _ _ => v = ?c35_34c), (fun v _ _ => v = ?c35_35c), (fun v _ _ => v = ?c35_36c), (fun v _ _ => v = ?c35_37c), (fun v _ _ => v = ?c35_38c), (fun v _ _ => v = ?c35_39c), (fun v _ _ => v = ?c35_40c), (fun v _ _ => v = ?c35_41c), (fun v _ _ => v = ?c35_42c), (fun v _ _ => v = ?c35_43c), (fun v _ _ => v = ?c35_44c), (fun v _ _ => v = ?c35_45c), (fun v _ _ => v = ?c35_46c), (fun v _ _ => v = ?c35_47c), (fun v _ _ => v = ?c35_48c), (fun v _ _ => v = ?c35_49c), (fun v _ _ => v = ?c35_50c), (fun v _ _ => v = ?c35_51c)] hL.vw mixed [114, 115, 116, 117, 118, 119, 120, 121, 122, 123, 124, 125, 126, 127, 128, 129, 130, 131, 132, 133, 134, 135, 136, 137, 138, 139, 140, 141, 142, 143, 144, 145, 146, 147, 148, 149, 150, 151, 152, 153, 154, 155, 156, 157, 158, 159, 160, 161, 162, 163, 164, 165] _ (by kernel_rfl) (fun vs => by simp only [lay, Act.put, zq1, zq2, zq3]; rfl) (by kernel_rfl) (by decide) (by decide) ?s35c ?l35c ?r35c
                 case s35c =>
                  refine ⟨?_, ?_, ?_, ?_, ?_, ?_, ?_, ?_, ?_, ?_, ?_, ?_, ?_, ?_, ?_, ?_, ?_, ?_, ?_, ?_, ?_, ?_, ?_, ?_, ?_, ?_, ?_, ?_, ?_, ?_, ?_, ?_, ?_, ?_, ?_, ?_, ?_, ?_, ?_, ?_, ?_, ?_, ?_, ?_, ?_, ?_, ?_, ?_, ?_, ?_, ?_, ?_, trivial⟩
                  ·intro vs W1 m1 hE hM hV hD; clear hD
                   exact sPw
                  ·intro vs W1 m1 hE hM hV hD; clear hD
                   exact sPw
                  ·intro vs W1 m1 hE hM hV hD; obtain ⟨⟨_, _, -, -, f114⟩, ⟨_, _, -, -, f115⟩, -⟩ := hD
                   rw [(f114 : vs 114 = _), (f115 : vs 115 = _)]; clear f114 f115; exact sIy
                  ·intro vs W1 m1 hE hM hV hD; obtain ⟨⟨_, _, -, -, f116⟩, -⟩ := hD
                   rw [(f116 : vs 116 = _)]; clear f116; exact sLe
                  ·intro vs W1 m1 hE hM hV hD; obtain ⟨⟨_, _, -, -, f117⟩, -⟩ := hD
                   rw [(f117 : vs 117 = _)]
                   clear f117
                   go_wp2_with fail
                   refine (KS.out _ _ hV leX).mono ?_
                   rintro e W2 ⟨v, m2, rfl, hE2, hM2, hV2, h⟩
                   go_wp2_with fail
                   refine One2.call hE2 hM2 hV2 ?_; first | exact h | exact rfl
                  ·intro vs W1 m1 hE hM hV hD; obtain ⟨⟨_, _, -, -, f118⟩, -⟩ := hD
                   rw [(f118 : vs 118 = _)]; clear f118; exact sPw
                  ·intro vs W1 m1 hE hM hV hD; obtain ⟨⟨_, _, -, -, f119⟩, -, -⟩ := hD
                   rw [(f119 : vs 119 = _)]; clear f119; exact sPw
                  ·intro vs W1 m1 hE hM hV hD; obtain ⟨⟨_, _, -, -, f120⟩, -⟩ := hD
                   rw [(f120 : vs 120 = _)]; clear f120; exact sPw
                  ·intro vs W1 m1 hE hM hV hD; obtain ⟨⟨_, _, -, -, f120⟩, -⟩ := hD
                   rw [(f120 : vs 120 = _)]; clear f120; exact sFe
                  ·intro vs W1 m1 hE hM hV hD; obtain ⟨⟨_, _, -, -, f122⟩, ⟨_, _, -, -, f120⟩, -⟩ := hD
                   rw [(f122 : vs 122 = _), (f120 : vs 120 = _)]; clear f122 f120; exact sLe
                  ·intro vs W1 m1 hE hM hV hD; obtain ⟨⟨_, _, -, -, f120⟩, -⟩ := hD
                   rw [(f120 : vs 120 = _)]; clear f120; exact sPw
                  ·intro vs W1 m1 hE hM hV hD; obtain ⟨⟨_, _, -, -, f123⟩, ⟨_, _, -, -, f124⟩, ⟨_, _, -, -, f120⟩, -⟩ := hD
                   rw [(f123 : vs 123 = _), (f124 : vs 124 = _), (f120 : vs 120 = _)]; clear f123 f124 f120; exact sIy
                  ·intro vs W1 m1 hE hM hV hD; obtain ⟨⟨_, _, -, -, f125⟩, ⟨_, _, -, -, f120⟩, -⟩ := hD
                   rw [(f125 : vs 125 = _), (f120 : vs 120 = _)]; clear f125 f120; exact sFe
                  ·intro vs W1 m1 hE hM hV hD; obtain ⟨⟨_, _, -, -, f126⟩, ⟨_, _, -, -, f120⟩, -⟩ := hD
                   rw [(f126 : vs 126 = _), (f120 : vs 120 = _)]; clear f126 f120; exact sLe
                  ·intro vs W1 m1 hE hM hV hD; obtain ⟨⟨_, _, -, -, f127⟩, ⟨_, _, -, -, f120⟩, -, -⟩ := hD
                   rw [(f127 : vs 127 = _), (f120 : vs 120 = _)]
                   clear f127 f120
                   go_wp2_with fail
                   refine (r_Operated s2 _ ds2 _ _ hV (DutsL.le HD2.out leX) (by rw [HND2.out]; exact H32.out) H42.out).mono ?_
                   rintro e W2 ⟨v, m2, rfl, hE2, hM2, hV2, h⟩
                   go_wp2_with fail
                   refine One2.call hE2 hM2 hV2 ?_; first | exact h | exact rfl
                  ·intro vs W1 m1 hE hM hV hD; obtain ⟨⟨_, _, -, -, f121⟩, ⟨_, _, -, i128, f128⟩, -, ⟨_, _, -, -, f120⟩, -⟩ := hD
                   rw [(f121 : vs 121 = _), (f120 : vs 120 = _)]
                   clear f121 f120
                   have f128 : IntL _ (vs 128) (opF ds2) := f128
                   replace f128 := f128.le i128.le
                   clear i128
                   go_wp2_with fail
                   refine (KE.out _ _ _ hV leX f128).mono ?_
                   rintro e W2 ⟨v, m2, rfl, hE2, hM2, hV2, h⟩
                   go_wp2_with fail
                   refine One2.call hE2 hM2 hV2 ?_; first | exact h | exact rfl
                  ·intro vs W1 m1 hE hM hV hD; obtain ⟨⟨_, _, -, -, f120⟩, ⟨_, _, -, -, f129⟩, -⟩ := hD
                   rw [(f120 : vs 120 = _), (f129 : vs 129 = _)]; clear f120 f129; exact sPw
                  ·intro vs W1 m1 hE hM hV hD; obtain ⟨⟨_, _, -, -, f130⟩, -, -⟩ := hD
                   rw [(f130 : vs 130 = _)]; clear f130; exact sPw
                  ·intro vs W1 m1 hE hM hV hD; obtain ⟨⟨_, _, -, -, f131⟩, -⟩ := hD
                   rw [(f131 : vs 131 = _)]; clear f131; exact sFe
                  ·intro vs W1 m1 hE hM hV hD; obtain ⟨⟨_, _, -, -, f132⟩, ⟨_, _, -, -, f131⟩, -⟩ := hD
                   rw [(f132 : vs 132 = _), (f131 : vs 131 = _)]; clear f132 f131; exact sLe
                  ·intro vs W1 m1 hE hM hV hD; obtain ⟨⟨_, _, -, -, f131⟩, -⟩ := hD
                   rw [(f131 : vs 131 = _)]; clear f131; exact sPw
                  ·intro vs W1 m1 hE hM hV hD; obtain ⟨⟨_, _, -, -, f133⟩, ⟨_, _, -, -, f134⟩, ⟨_, _, -, -, f131⟩, -⟩ := hD
                   rw [(f133 : vs 133 = _), (f134 : vs 134 = _), (f131 : vs 131 = _)]; clear f133 f134 f131; exact sIy
                  ·intro vs W1 m1 hE hM hV hD; obtain ⟨⟨_, _, -, -, f135⟩, ⟨_, _, -, -, f131⟩, -⟩ := hD
                   rw [(f135 : vs 135 = _), (f131 : vs 131 = _)]; clear f135 f131; exact sFe
                  ·intro vs W1 m1 hE hM hV hD; obtain ⟨⟨_, _, -, -, f136⟩, ⟨_, _, -, -, f131⟩, -⟩ := hD
                   rw [(f136 : vs 136 = _), (f131 : vs 131 = _)]; clear f136 f131; exact sLe
                  ·intro vs W1 m1 hE hM hV hD; obtain ⟨⟨_, _, -, -, f131⟩, -⟩ := hD
                   rw [(f131 : vs 131 = _)]; clear f131; exact sFe
                  ·intro vs W1 m1 hE hM hV hD; obtain ⟨⟨_, _, -, -, f138⟩, ⟨_, _, -, -, f131⟩, -⟩ := hD
                   rw [(f138 : vs 138 = _), (f131 : vs 131 = _)]; clear f138 f131; exact sLe
                  ·intro vs W1 m1 hE hM hV hD; obtain ⟨⟨_, _, -, -, f131⟩, -⟩ := hD
                   rw [(f131 : vs 131 = _)]; clear f131; exact sPw
                  ·intro vs W1 m1 hE hM hV hD; obtain ⟨⟨_, _, -, -, f139⟩, ⟨_, _, -, -, f140⟩, ⟨_, _, -, -, f131⟩, -⟩ := hD
                   rw [(f139 : vs 139 = _), (f140 : vs 140 = _), (f131 : vs 131 = _)]; clear f139 f140 f131; exact sIy
                  ·intro vs W1 m1 hE hM hV hD; obtain ⟨⟨_, _, -, -, f141⟩, ⟨_, _, -, -, f131⟩, -⟩ := hD
                   rw [(f141 : vs 141 = _), (f131 : vs 131 = _)]; clear f141 f131; exact sFe
                  ·intro vs W1 m1 hE hM hV hD; obtain ⟨⟨_, _, -, -, f142⟩, ⟨_, _, -, -, f131⟩, -⟩ := hD
                   rw [(f142 : vs 142 = _), (f131 : vs 131 = _)]; clear f142 f131; exact sLe
                  ·intro vs W1 m1 hE hM hV hD; obtain ⟨⟨_, _, -, -, f137⟩, ⟨_, _, -, -, f143⟩, ⟨_, _, -, -, f131⟩, -⟩ := hD
                   rw [(f137 : vs 137 = _), (f143 : vs 143 = _), (f131 : vs 131 = _)]; clear f137 f143 f131; exact sPw
                  ·intro vs W1 m1 hE hM hV hD; obtain ⟨⟨_, _, -, -, f144⟩, ⟨_, _, -, -, f131⟩, -, -⟩ := hD
                   rw [(f144 : vs 144 = _), (f131 : vs 131 = _)]; clear f144 f131; exact sPw
                  ·intro vs W1 m1 hE hM hV hD; obtain ⟨⟨_, _, -, -, f145⟩, -⟩ := hD
                   rw [(f145 : vs 145 = _)]; clear f145; exact sFe
                  ·intro vs W1 m1 hE hM hV hD; obtain ⟨⟨_, _, -, -, f146⟩, ⟨_, _, -, -, f145⟩, -⟩ := hD
                   rw [(f146 : vs 146 = _), (f145 : vs 145 = _)]; clear f146 f145; exact sLe
                  ·intro vs W1 m1 hE hM hV hD; obtain ⟨⟨_, _, -, -, f145⟩, -⟩ := hD
                   rw [(f145 : vs 145 = _)]; clear f145; exact sPw
                  ·intro vs W1 m1 hE hM hV hD; obtain ⟨⟨_, _, -, -, f147⟩, ⟨_, _, -, -, f148⟩, ⟨_, _, -, -, f145⟩, -⟩ := hD
                   rw [(f147 : vs 147 = _), (f148 : vs 148 = _), (f145 : vs 145 = _)]; clear f147 f148 f145; exact sIy
                  ·intro vs W1 m1 hE hM hV hD; obtain ⟨⟨_, _, -, -, f149⟩, ⟨_, _, -, -, f145⟩, -⟩ := hD
                   rw [(f149 : vs 149 = _), (f145 : vs 145 = _)]; clear f149 f145; exact sFe
                  ·intro vs W1 m1 hE hM hV hD; obtain ⟨⟨_, _, -, -, f150⟩, ⟨_, _, -, -, f145⟩, -⟩ := hD
                   rw [(f150 : vs 150 = _), (f145 : vs 145 = _)]; clear f150 f145; exact sLe
                  ·intro vs W1 m1 hE hM hV hD; obtain ⟨⟨_, _, -, -, f145⟩, -⟩ := hD
                   rw [(f145 : vs 145 = _)]; clear f145; exact sFe
                  ·intro vs W1 m1 hE hM hV hD; obtain ⟨⟨_, _, -, -, f152⟩, ⟨_, _, -, -, f145⟩, -⟩ := hD
                   rw [(f152 : vs 152 = _), (f145 : vs 145 = _)]; clear f152 f145; exact sLe
                  ·intro vs W1 m1 hE hM hV hD; obtain ⟨⟨_, _, -, -, f145⟩, -⟩ := hD
                   rw [(f145 : vs 145 = _)]; clear f145; exact sPw
                  ·intro vs W1 m1 hE hM hV hD; obtain ⟨⟨_, _, -, -, f153⟩, ⟨_, _, -, -, f154⟩, ⟨_, _, -, -, f145⟩, -⟩ := hD
                   rw [(f153 : vs 153 = _), (f154 : vs 154 = _), (f145 : vs 145 = _)]; clear f153 f154 f145; exact sIy
                  ·intro vs W1 m1 hE hM hV hD; obtain ⟨⟨_, _, -, -, f155⟩, ⟨_, _, -, -, f145⟩, -⟩ := hD
                   rw [(f155 : vs 155 = _), (f145 : vs 145 = _)]; clear f155 f145; exact sFe
                  ·intro vs W1 m1 hE hM hV hD; obtain ⟨⟨_, _, -, -, f156⟩, ⟨_, _, -, -, f145⟩, -⟩ := hD
                   rw [(f156 : vs 156 = _), (f145 : vs 145 = _)]; clear f156 f145; exact sLe
                  ·intro vs W1 m1 hE hM hV hD; obtain ⟨⟨_, _, -, -, f151⟩, ⟨_, _, -, -, f157⟩, ⟨_, _, -, -, f145⟩, -⟩ := hD
                   rw [(f151 : vs 151 = _), (f157 : vs 157 = _), (f145 : vs 145 = _)]; clear f151 f157 f145; exact sPw
                  ·intro vs W1 m1 hE hM hV hD; obtain ⟨⟨_, _, -, -, f158⟩, ⟨_, _, -, -, f145⟩, -, -⟩ := hD
                   rw [(f158 : vs 158 = _), (f145 : vs 145 = _)]; clear f158 f145; exact sPw
                  ·intro vs W1 m1 hE hM hV hD; obtain ⟨⟨_, _, -, -, f159⟩, -⟩ := hD
                   rw [(f159 : vs 159 = _)]; clear f159; exact sPw
                  ·intro vs W1 m1 hE hM hV hD; obtain ⟨⟨_, _, -, -, f159⟩, -⟩ := hD
                   rw [(f159 : vs 159 = _)]; clear f159; exact sPw
                  ·intro vs W1 m1 hE hM hV hD; obtain ⟨⟨_, _, -, -, f160⟩, ⟨_, _, -, -, f161⟩, ⟨_, _, -, -, f159⟩, -⟩ := hD
                   rw [(f160 : vs 160 = _), (f161 : vs 161 = _), (f159 : vs 159 = _)]; clear f160 f161 f159; exact sPw
                  ·intro vs W1 m1 hE hM hV hD; obtain ⟨⟨_, _, -, -, f159⟩, ⟨_, _, -, -, f162⟩, ⟨_, _, -, -, f145⟩, -⟩ := hD
                   rw [(f159 : vs 159 = _), (f162 : vs 162 = _), (f145 : vs 145 = _)]; clear f159 f162 f145; exact sPw
                  ·intro vs W1 m1 hE hM hV hD; obtain ⟨⟨_, _, -, -, f145⟩, ⟨_, _, -, -, f163⟩, ⟨_, _, -, -, f131⟩, -⟩ := hD
                   rw [(f145 : vs 145 = _), (f163 : vs 163 = _), (f131 : vs 131 = _)]; clear f145 f163 f131; exact sPw
                  ·intro vs W1 m1 hE hM hV hD; obtain ⟨⟨_, _, -, -, f131⟩, ⟨_, _, -, -, f164⟩, -⟩ := hD
                   rw [(f131 : vs 131 = _), (f164 : vs 164 = _)]; clear f131 f164; exact sPw
                 case l35c =>
                  refine ⟨nF, nF, nF, nF, nF, nF, nF, nF, nF, nF, nF, nF, nF, nF, nF, nF, nF, nF, nF, nF, nF, nF, nF, nF, nF, nF, nF, nF, nF, nF, nF, nF, nF, nF, nF, nF, nF, nF, nF, nF, nF, nF, nF, nF, nF, nF, nF, nF, nF, nF, nF, nF, trivial⟩
                 intro vs W1 m1 hE hM hV hF hD
                 clear hD
                 obtain ⟨-, -, -, -, -, -, -, -, -, -, -, -, -, -, ⟨_, _, -, i128, f128⟩, -, -, -, -, -, -, -, -, -, -, -, -, -, -, -, -, -, -, -, -, -, -, -, -, -, -, -, -, -, -, -, -, -, -, -, -, ⟨_, _, -, -, f165⟩, -⟩ := hF
                 replace hL := hL.call hE hM hV
                 replace f128 : IntL _ (vs 128) (opF ds2) := f128
                 replace f128 := f128.le i128.le
                 clear i128
                 have f165 : vs 165 = _ := f165
                 generalize vs 165 = x165 at f165 ⊢
                 subst x165
                 clear hE hV
                 simp only [List.drop_succ_cons, List.drop_zero]
                 go_wp2_with (first | go_skip | refine tP ?_ | (refine tS ?_; clear hL; intro _ hL) | (refine tB ?_; clear hL; intro _ _ hL _) | (refine tC ?_; clear hL; intro _ _ hL _ hBs))
                 refine QN.mk ?_
                 go_wp2_with (first | go_skip | refine tP ?_ | (refine tS ?_; clear hL; intro _ hL) | (refine tB ?_; clear hL; intro _ _ hL _) | (refine tC ?_; clear hL; intro _ _ hL _ hBs))
                 go_roundw
                 case rel => exact ⟨k2 + 1, _, by omega, by rw [HB.out], by go_num, hL, hX6.trans exX⟩
                 case measure => simp [intOf] <;> omega
               ·as_aux_lemma =>
                have hce : (cost2 == cost1) = false := by simpa using hc2
                have HB : Hid (bstT ms us j (k2 + 1) = bstT ms us j k2) := bst_no (by rintro ⟨-, -, h⟩; unfold betC at h; rw [HCJ.out, HCK.out] at h; omega)
                clear hc1 hc2
                generalize bstT ms us j k2 = bb at *
                go_upto_region 35 with ((first | go_skip | refine tP ?_ | (refine tS ?_; clear hL; intro _ hL) | (refine tB ?_; clear hL; intro _ _ hL _) | (refine tC ?_; clear hL; intro _ _ hL _ hBs)))
                (try simp only [eq_self] at *)
                refine wp_region_by2 52 [false, false, false, false, false, false, false, false, false, false, false, false, false, false, false, false, false, false, false, false, false, false, false, false, false, false, false, false, false, false, false, false, false, false, false, false, false, false, false, false, false, false, false, false, false, false, false, false, false, false, false, false] [false, false, false, false, false, false, false, false, false, false, false, false, false, false, false, false, false, false, false, false, false, false, false, false, false, false, false, false, false, false, false, false, false, false, false, false, false, false, false, false, false, false, false, false, false, false, false, false, false, false, false, false] [(fun v _ _ => v = ?c35_0d), (fun v _ _ => v = ?c35_1d), (fun v _ _ => v = ?c35_2d), (fun v _ _ => v = ?c35_3d), Is (.int .i64 sg), (fun v _ _ => v = ?c35_5d), (fun v _ _ => v = ?c35_6d), (fun v _ _ => v = ?c35_7d), (fun v _ _ => v = ?c35_8d), (fun v _ _ => v = ?c35_9d), (fun v _ _ => v = ?c35_10d), (fun v _ _ => v = ?c35_11d), (fun v _ _ => v = ?c35_12d), (fun v _ _ => v = ?c35_13d), Of (fun um v => IntL um v (opF ds2)), Is (.bool true), (fun v _ _ => v = ?c35_16d), (fun v _ _ => v = ?c35_17d), (fun v _ _ => v = ?c35_18d), (fun v _ _ => v = ?c35_19d), (fun v _ _ => v = ?c35_20d), (fun v _ _ => v = ?c35_21d), (fun v _ _ => v = ?c35_22d), (fun v _ _ => v = ?c35_23d), (fun v _ _ => v = ?c35_24d), (fun v _ _ => v = ?c35_25d), (fun v _ _ => v = ?c35_26d), (fun v _ _ => v = ?c35_27d), (fun v _ _ => v = ?c35_28d), (fun v _ _ => v = ?c35_29d), (fun v _ _ => v = ?c35_30d), (fun v _ _ => v = ?c35_31d), (fun v _ _ => v = ?c35_32d), (fun v _ _ => v = ?c35_33d), (fun v _ _ => v = ?c35_34d), (fun v _ _ => v = ?c35_35d), (fun v _ _ => v = ?c35_36d), (fun v _ _ => v = ?c35_37d), (fun v _ _ => v = ?c35_38d), (fun v _ _ => v = ?c35_39d), (fun v _ _ => v = ?c35_40d), (fun v _ _ => v = ?c35_41d), (fun v _ _ => v = ?c35_42d), (fun v _ _ => v = ?c35_43d), (fun v _ _ => v = ?c35_44d), (fun v _ _ => v = ?c35_45d), (fun v _ _ => v = ?c35_46d), (fun v _ _ => v = ?c35_47d), (fun v _ _ => v = ?c35_48d), (fun v _ _ => v = ?c35_49d), (fun v _ _ => v = ?c35_50d), (fun v _ _ => v = ?c35_51d)] hL.vw mixed [114, 115, 116, 117, 118, 119, 120, 121, 122, 123, 124, 125, 126, 127, 128, 129, 130, 131, 132, 133, 134, 135, 136, 137, 138, 139, 140, 141, 142, 143, 144, 145, 146, 147, 148, 149, 150, 151, 152, 153, 154, 155, 156, 157, 158, 159, 160, 161, 162, 163, 164, 165] _ (by kernel_rfl) (fun vs => by simp only [lay, Act.put, zq1, zq2, zq3]; rfl) (by kernel_rfl) (by decide) (by decide) ?s35d ?l35d ?r35d
                case s35d =>
                 refine ⟨?_, ?_, ?_, ?_, ?_, ?_, ?_, ?_, ?_, ?_, ?_, ?_, ?_, ?_, ?_, ?_, ?_, ?_, ?_, ?_, ?_, ?_, ?_, ?_, ?_, ?_, ?_, ?_, ?_, ?_, ?_, ?_, ?_, ?_, ?_, ?_, ?_, ?_, ?_, ?_, ?_, ?_, ?_, ?_, ?_, ?_, ?_, ?_, ?_, ?_, ?_, ?_, trivial⟩
                 ·intro vs W1 m1 hE hM hV hD; clear hD
                  exact sPw
                 ·intro vs W1 m1 hE hM hV hD; clear hD
                  exact sPw
                 ·intro vs W1 m1 hE hM hV hD; obtain ⟨⟨_, _, -, -, f114⟩, ⟨_, _, -, -, f115⟩, -⟩ := hD
                  rw [(f114 : vs 114 = _), (f115 : vs 115 = _)]; clear f114 f115; exact sIy
                 ·intro vs W1 m1 hE hM hV hD; obtain ⟨⟨_, _, -, -, f116⟩, -⟩ := hD
                  rw [(f116 : vs 116 = _)]; clear f116; exact sLe
                 ·intro vs W1 m1 hE hM hV hD; obtain ⟨⟨_, _, -, -, f117⟩, -⟩ := hD
                  rw [(f117 : vs 117 = _)]
                  clear f117
                  go_wp2_with fail
                  refine (KS.out _ _ hV leX).mono ?_
                  rintro e W2 ⟨v, m2, rfl, hE2, hM2, hV2, h⟩
                  go_wp2_with fail
                  refine One2.call hE2 hM2 hV2 ?_; first | exact h | exact rfl
                 ·intro vs W1 m1 hE hM hV hD; obtain ⟨⟨_, _, -, -, f118⟩, -⟩ := hD
                  rw [(f118 : vs 118 = _)]; clear f118; exact sPw
                 ·intro vs W1 m1 hE hM hV hD; obtain ⟨⟨_, _, -, -, f119⟩, -, -⟩ := hD
                  rw [(f119 : vs 119 = _)]; clear f119; exact sPw
                 ·intro vs W1 m1 hE hM hV hD; obtain ⟨⟨_, _, -, -, f120⟩, -⟩ := hD
                  rw [(f120 : vs 120 = _)]; clear f120; exact sPw
                 ·intro vs W1 m1 hE hM hV hD; obtain ⟨⟨_, _, -, -, f120⟩, -⟩ := hD
                  rw [(f120 : vs 120 = _)]; clear f120; exact sFe
                 ·intro vs W1 m1 hE hM hV hD; obtain ⟨⟨_, _, -, -, f122⟩, ⟨_, _, -, -, f120⟩, -⟩ := hD
                  rw [(f122 : vs 122 = _), (f120 : vs 120 = _)]; clear f122 f120; exact sLe
                 ·intro vs W1 m1 hE hM hV hD; obtain ⟨⟨_, _, -, -, f120⟩, -⟩ := hD
                  rw [(f120 : vs 120 = _)]; clear f120; exact sPw
                 ·intro vs W1 m1 hE hM hV hD; obtain ⟨⟨_, _, -, -, f123⟩, ⟨_, _, -, -, f124⟩, ⟨_, _, -, -, f120⟩, -⟩ := hD
                  rw [(f123 : vs 123 = _), (f124 : vs 124 = _), (f120 : vs 120 = _)]; clear f123 f124 f120; exact sIy
                 ·intro vs W1 m1 hE hM hV hD; obtain ⟨⟨_, _, -, -, f125⟩, ⟨_, _, -, -, f120⟩, -⟩ := hD
                  rw [(f125 : vs 125 = _), (f120 : vs 120 = _)]; clear f125 f120; exact sFe
                 ·intro vs W1 m1 hE hM hV hD; obtain ⟨⟨_, _, -, -, f126⟩, ⟨_, _, -, -, f120⟩, -⟩ := hD
                  rw [(f126 : vs 126 = _), (f120 : vs 120 = _)]; clear f126 f120; exact sLe
                 ·intro vs W1 m1 hE hM hV hD; obtain ⟨⟨_, _, -, -, f127⟩, ⟨_, _, -, -, f120⟩, -, -⟩ := hD
                  rw [(f127 : vs 127 = _), (f120 : vs 120 = _)]
                  clear f127 f120
                  go_wp2_with fail
                  refine (r_Operated s2 _ ds2 _ _ hV (DutsL.le HD2.out leX) (by rw [HND2.out]; exact H32.out) H42.out).mono ?_
                  rintro e W2 ⟨v, m2, rfl, hE2, hM2, hV2, h⟩
                  go_wp2_with fail
                  refine One2.call hE2 hM2 hV2 ?_; first | exact h | exact rfl
                 ·intro vs W1 m1 hE hM hV hD; obtain ⟨⟨_, _, -, -, f121⟩, ⟨_, _, -, i128, f128⟩, -, ⟨_, _, -, -, f120⟩, -⟩ := hD
                  rw [(f121 : vs 121 = _), (f120 : vs 120 = _)]
                  clear f121 f120
                  have f128 : IntL _ (vs 128) (opF ds2) := f128
                  replace f128 := f128.le i128.le
                  clear i128
                  go_wp2_with fail
                  refine (KE.out _ _ _ hV leX f128).mono ?_
                  rintro e W2 ⟨v, m2, rfl, hE2, hM2, hV2, h⟩
                  go_wp2_with fail
                  refine One2.call hE2 hM2 hV2 ?_; first | exact h | exact rfl
                 ·intro vs W1 m1 hE hM hV hD; obtain ⟨⟨_, _, -, -, f120⟩, ⟨_, _, -, -, f129⟩, -⟩ := hD
                  rw [(f120 : vs 120 = _), (f129 : vs 129 = _)]; clear f120 f129; exact sPw
                 ·intro vs W1 m1 hE hM hV hD; obtain ⟨⟨_, _, -, -, f130⟩, -, -⟩ := hD
                  rw [(f130 : vs 130 = _)]; clear f130; exact sPw
                 ·intro vs W1 m1 hE hM hV hD; obtain ⟨⟨_, _, -, -, f131⟩, -⟩ := hD
                  rw [(f131 : vs 131 = _)]; clear f131; exact sFe
                 ·intro vs W1 m1 hE hM hV hD; obtain ⟨⟨_, _, -, -, f132⟩, ⟨_, _, -, -, f131⟩, -⟩ := hD
                  rw [(f132 : vs 132 = _), (f131 : vs 131 = _)]; clear f132 f131; exact sLe
                 ·intro vs W1 m1 hE hM hV hD; obtain ⟨⟨_, _, -, -, f131⟩, -⟩ := hD
                  rw [(f131 : vs 131 = _)]; clear f131; exact sPw
                 ·intro vs W1 m1 hE hM hV hD; obtain ⟨⟨_, _, -, -, f133⟩, ⟨_, _, -, -, f134⟩, ⟨_, _, -, -, f131⟩, -⟩ := hD
                  rw [(f133 : vs 133 = _), (f134 : vs 134 = _), (f131 : vs 131 = _)]; clear f133 f134 f131; exact sIy
                 ·intro vs W1 m1 hE hM hV hD; obtain ⟨⟨_, _, -, -, f135⟩, ⟨_, _, -, -, f131⟩, -⟩ := hD
                  rw [(f135 : vs 135 = _), (f131 : vs 131 = _)]; clear f135 f131; exact sFe
                 ·intro vs W1 m1 hE hM hV hD; obtain ⟨⟨_, _, -, -, f136⟩, ⟨_, _, -, -, f131⟩, -⟩ := hD
                  rw [(f136 : vs 136 = _), (f131 : vs 131 = _)]; clear f136 f131; exact sLe
                 ·intro vs W1 m1 hE hM hV hD; obtain ⟨⟨_, _, -, -, f131⟩, -⟩ := hD
                  rw [(f131 : vs 131 = _)]; clear f131; exact sFe
                 ·intro vs W1 m1 hE hM hV hD; obtain ⟨⟨_, _, -, -, f138⟩, ⟨_, _, -, -, f131⟩, -⟩ := hD
                  rw [(f138 : vs 138 = _), (f131 : vs 131 = _)]; clear f138 f131; exact sLe
                 ·intro vs W1 m1 hE hM hV hD; obtain ⟨⟨_, _, -, -, f131⟩, -⟩ := hD
                  rw [(f131 : vs 131 = _)]; clear f131; exact sPw
                 ·intro vs W1 m1 hE hM hV hD; obtain ⟨⟨_, _, -, -, f139⟩, ⟨_, _, -, -, f140⟩, ⟨_, _, -, -, f131⟩, -⟩ := hD
                  rw [(f139 : vs 139 = _), (f140 : vs 140 = _), (f131 : vs 131 = _)]; clear f139 f140 f131; exact sIy
                 ·intro vs W1 m1 hE hM hV hD; obtain ⟨⟨_, _, -, -, f141⟩, ⟨_, _, -, -, f131⟩, -⟩ := hD
                  rw [(f141 : vs 141 = _), (f131 : vs 131 = _)]; clear f141 f131; exact sFe
                 ·intro vs W1 m1 hE hM hV hD; obtain ⟨⟨_, _, -, -, f142⟩, ⟨_, _, -, -, f131⟩, -⟩ := hD
                  rw [(f142 : vs 142 = _), (f131 : vs 131 = _)]; clear f142 f131; exact sLe
                 ·intro vs W1 m1 hE hM hV hD; obtain ⟨⟨_, _, -, -, f137⟩, ⟨_, _, -, -, f143⟩, ⟨_, _, -, -, f131⟩, -⟩ := hD
                  rw [(f137 : vs 137 = _), (f143 : vs 143 = _), (f131 : vs 131 = _)]; clear f137 f143 f131; exact sPw
                 ·intro vs W1 m1 hE hM hV hD; obtain ⟨⟨_, _, -, -, f144⟩, ⟨_, _, -, -, f131⟩, -, -⟩ := hD
                  rw [(f144 : vs 144 = _), (f131 : vs 131 = _)]; clear f144 f131; exact sPw
                 ·intro vs W1 m1 hE hM hV hD; obtain ⟨⟨_, _, -, -, f145⟩, -⟩ := hD
                  rw [(f145 : vs 145 = _)]; clear f145; exact sFe
                 ·intro vs W1 m1 hE hM hV hD; obtain ⟨⟨_, _, -, -, f146⟩, ⟨_, _, -, -, f145⟩, -⟩ := hD
                  rw [(f146 : vs 146 = _), (f145 : vs 145 = _)]; clear f146 f145; exact sLe
                 ·intro vs W1 m1 hE hM hV hD; obtain ⟨⟨_, _, -, -, f145⟩, -⟩ := hD
                  rw [(f145 : vs 145 = _)]; clear f145; exact sPw
                 ·intro vs W1 m1 hE hM hV hD; obtain ⟨⟨_, _, -, -, f147⟩, ⟨_, _, -, -, f148⟩, ⟨_, _, -, -, f145⟩, -⟩ := hD
                  rw [(f147 : vs 147 = _), (f148 : vs 148 = _), (f145 : vs 145 = _)]; clear f147 f148 f145; exact sIy
                 ·intro vs W1 m1 hE hM hV hD; obtain ⟨⟨_, _, -, -, f149⟩, ⟨_, _, -, -, f145⟩, -⟩ := hD
                  rw [(f149 : vs 149 = _), (f145 : vs 145 = _)]; clear f149 f145; exact sFe
                 ·intro vs W1 m1 hE hM hV hD; obtain ⟨⟨_, _, -, -, f150⟩, ⟨_, _, -, -, f145⟩, -⟩ := hD
                  rw [(f150 : vs 150 = _), (f145 : vs 145 = _)]; clear f150 f145; exact sLe
                 ·intro vs W1 m1 hE hM hV hD; obtain ⟨⟨_, _, -, -, f145⟩, -⟩ := hD
                  rw [(f145 : vs 145 = _)]; clear f145; exact sFe
                 ·intro vs W1 m1 hE hM hV hD; obtain ⟨⟨_, _, -, -, f152⟩, ⟨_, _, -, -, f145⟩, -⟩ := hD
                  rw [(f152 : vs 152 = _), (f145 : vs 145 = _)]; clear f152 f145; exact sLe
                 ·intro vs W1 m1 hE hM hV hD; obtain ⟨⟨_, _, -, -, f145⟩, -⟩ := hD
                  rw [(f145 : vs 145 = _)]; clear f145; exact sPw
                 ·intro vs W1 m1 hE hM hV hD; obtain ⟨⟨_, _, -, -, f153⟩, ⟨_, _, -, -, f154⟩, ⟨_, _, -, -, f145⟩, -⟩ := hD
                  rw [(f153 : vs 153 = _), (f154 : vs 154 = _), (f145 : vs 145 = _)]; clear f153 f154 f145; exact sIy
                 ·intro vs W1 m1 hE hM hV hD; obtain ⟨⟨_, _, -, -, f155⟩, ⟨_, _, -, -, f145⟩, -⟩ := hD
                  rw [(f155 : vs 155 = _), (f145 : vs 145 = _)]; clear f155 f145; exact sFe
                 ·intro vs W1 m1 hE hM hV hD; obtain ⟨⟨_, _, -, -, f156⟩, ⟨_, _, -, -, f145⟩, -⟩ := hD
                  rw [(f156 : vs 156 = _), (f145 : vs 145 = _)]; clear f156 f145; exact sLe
                 ·intro vs W1 m1 hE hM hV hD; obtain ⟨⟨_, _, -, -, f151⟩, ⟨_, _, -, -, f157⟩, ⟨_, _, -, -, f145⟩, -⟩ := hD
                  rw [(f151 : vs 151 = _), (f157 : vs 157 = _), (f145 : vs 145 = _)]; clear f151 f157 f145; exact sPw
                 ·intro vs W1 m1 hE hM hV hD; obtain ⟨⟨_, _, -, -, f158⟩, ⟨_, _, -, -, f145⟩, -, -⟩ := hD
                  rw [(f158 : vs 158 = _), (f145 : vs 145 = _)]; clear f158 f145; exact sPw
                 ·intro vs W1 m1 hE hM hV hD; obtain ⟨⟨_, _, -, -, f159⟩, -⟩ := hD
                  rw [(f159 : vs 159 = _)]; clear f159; exact sPw
                 ·intro vs W1 m1 hE hM hV hD; obtain ⟨⟨_, _, -, -, f159⟩, -⟩ := hD
                  rw [(f159 : vs 159 = _)]; clear f159; exact sPw
                 ·intro vs W1 m1 hE hM hV hD; obtain ⟨⟨_, _, -, -, f160⟩, ⟨_, _, -, -, f161⟩, ⟨_, _, -, -, f159⟩, -⟩ := hD
                  rw [(f160 : vs 160 = _), (f161 : vs 161 = _), (f159 : vs 159 = _)]; clear f160 f161 f159; exact sPw
                 ·intro vs W1 m1 hE hM hV hD; obtain ⟨⟨_, _, -, -, f159⟩, ⟨_, _, -, -, f162⟩, ⟨_, _, -, -, f145⟩, -⟩ := hD
                  rw [(f159 : vs 159 = _), (f162 : vs 162 = _), (f145 : vs 145 = _)]; clear f159 f162 f145; exact sPw
                 ·intro vs W1 m1 hE hM hV hD; obtain ⟨⟨_, _, -, -, f145⟩, ⟨_, _, -, -, f163⟩, ⟨_, _, -, -, f131⟩, -⟩ := hD
                  rw [(f145 : vs 145 = _), (f163 : vs 163 = _), (f131 : vs 131 = _)]; clear f145 f163 f131; exact sPw
                 ·intro vs W1 m1 hE hM hV hD; obtain ⟨⟨_, _, -, -, f131⟩, ⟨_, _, -, -, f164⟩, -⟩ := hD
                  rw [(f131 : vs 131 = _), (f164 : vs 164 = _)]; clear f131 f164; exact sPw
                case l35d =>
                 refine ⟨nF, nF, nF, nF, nF, nF, nF, nF, nF, nF, nF, nF, nF, nF, nF, nF, nF, nF, nF, nF, nF, nF, nF, nF, nF, nF, nF, nF, nF, nF, nF, nF, nF, nF, nF, nF, nF, nF, nF, nF, nF, nF, nF, nF, nF, nF, nF, nF, nF, nF, nF, nF, trivial⟩
                intro vs W1 m1 hE hM hV hF hD
                clear hD
                obtain ⟨-, -, -, -, -, -, -, -, -, -, -, -, -, -, ⟨_, _, -, i128, f128⟩, -, -, -, -, -, -, -, -, -, -, -, -, -, -, -, -, -, -, -, -, -, -, -, -, -, -, -, -, -, -, -, -, -, -, -, -, ⟨_, _, -, -, f165⟩, -⟩ := hF
                replace hL := hL.call hE hM hV
                replace f128 : IntL _ (vs 128) (opF ds2) := f128
                replace f128 := f128.le i128.le
                clear i128
                have f165 : vs 165 = _ := f165
                generalize vs 165 = x165 at f165 ⊢
                subst x165
                clear hE hV
                simp only [List.drop_succ_cons, List.drop_zero]
                go_wp2_with (first | go_skip | refine tP ?_ | (refine tS ?_; clear hL; intro _ hL) | (refine tB ?_; clear hL; intro _ _ hL _) | (refine tC ?_; clear hL; intro _ _ hL _ hBs))
                refine QN.mk ?_
                go_wp2_with (first | go_skip | refine tP ?_ | (refine tS ?_; clear hL; intro _ hL) | (refine tB ?_; clear hL; intro _ _ hL _) | (refine tC ?_; clear hL; intro _ _ hL _ hBs))
                go_roundw
                case rel => exact ⟨k2 + 1, _, by omega, by rw [HB.out], by go_num, hL, hX6.trans exX⟩
                case measure => simp [intOf] <;> omega
             ·as_aux_lemma =>
              have KE : Hid (∀ v w m', Vw m' w → Le mo3 m' → IntL m' v (opF ds2) → Calls Tryz.prog 56 #[.slice O no co, v] w (RetV w m' fun _ r => r = .bool false)) := by
               have h1 := KE0.out
               rw [decide_eq_false hsm] at h1
               exact h1
              have HB : Hid (bstT ms us j (k2 + 1) = bstT ms us j k2) := bst_no (by rintro ⟨-, h, -⟩; rw [HOP.out, HOK.out] at h; exact hsm h)
              clear hsm KE0
              generalize bstT ms us j k2 = bb at *
              go_upto_region 35 with ((first | go_skip | refine tP ?_ | (refine tS ?_; clear hL; intro _ hL) | (refine tB ?_; clear hL; intro _ _ hL _) | (refine tC ?_; clear hL; intro _ _ hL _ hBs)))
              (try simp only [eq_self] at *)
              refine wp_region_by2 52 [false, false, false, false, false, false, false, false, false, false, false, false, false, false, false, false, false, false, false, false, false, false, false, false, false, false, false, false, false, false, false, false, false, false, false, false, false, false, false, false, false, false, false, false, false, false, false, false, false, false, false, false] [false, false, false, false, false, false, false, false, false, false, false, false, false, false, false, false, false, false, false, false, false, false, false, false, false, false, false, false, false, false, false, false, false, false, false, false, false, false, false, false, false, false, false, false, false, false, false, false, false, false, false, false] [(fun v _ _ => v = ?c35_0e), (fun v _ _ => v = ?c35_1e), (fun v _ _ => v = ?c35_2e), (fun v _ _ => v = ?c35_3e), Is (.int .i64 sg), (fun v _ _ => v = ?c35_5e), (fun v _ _ => v = ?c35_6e), (fun v _ _ => v = ?c35_7e), (fun v _ _ => v = ?c35_8e), (fun v _ _ => v = ?c35_9e), (fun v _ _ => v = ?c35_10e), (fun v _ _ => v = ?c35_11e), (fun v _ _ => v = ?c35_12e), (fun v _ _ => v = ?c35_13e), Of (fun um v => IntL um v (opF ds2)), Is (.bool false), (fun v _ _ => v = ?c35_16e), (fun v _ _ => v = ?c35_17e), (fun v _ _ => v = ?c35_18e), (fun v _ _ => v = ?c35_19e), (fun v _ _ => v = ?c35_20e), (fun v _ _ => v = ?c35_21e), (fun v _ _ => v = ?c35_22e), (fun v _ _ => v = ?c35_23e), (fun v _ _ => v = ?c35_24e), (fun v _ _ => v = ?c35_25e), (fun v _ _ => v = ?c35_26e), (fun v _ _ => v = ?c35_27e), (fun v _ _ => v = ?c35_28e), (fun v _ _ => v = ?c35_29e), (fun v _ _ => v = ?c35_30e), (fun v _ _ => v = ?c35_31e), (fun v _ _ => v = ?c35_32e), (fun v _ _ => v = ?c35_33e), (fun v _ _ => v = ?c35_34e), (fun v _ _ => v = ?c35_35e), (fun v _ _ => v = ?c35_36e), (fun v _ _ => v = ?c35_37e), (fun v _ _ => v = ?c35_38e), (fun v _ _ => v = ?c35_39e), (fun v _ _ => v = ?c35_40e), (fun v _ _ => v = ?c35_41e), (fun v _ _ => v = ?c35_42e), (fun v _ _ => v = ?c35_43e), (fun v _ _ => v = ?c35_44e), (fun v _ _ => v = ?c35_45e), (fun v _ _ => v = ?c35_46e), (fun v _ _ => v = ?c35_47e), (fun v _ _ => v = ?c35_48e), (fun v _ _ => v = ?c35_49e), (fun v _ _ => v = ?c35_50e), (fun v _ _ => v = ?c35_51e)] hL.vw mixed [114, 115, 116, 117, 118, 119, 120, 121, 122, 123, 124, 125, 126, 127, 128, 129, 130, 131, 132, 133, 134, 135, 136, 137, 138, 139, 140, 141, 142, 143, 144, 145, 146, 147, 148, 149, 150, 151, 152, 153, 154, 155, 156, 157, 158, 159, 160, 161, 162, 163, 164, 165] _ (by kernel_rfl) (fun vs => by simp only [lay, Act.put, zq1, zq2, zq3]; rfl) (by kernel_rfl) (by decide) (by decide) ?s35e ?l35e ?r35e
              case s35e =>
               refine ⟨?_, ?_, ?_, ?_, ?_, ?_, ?_, ?_, ?_, ?_, ?_, ?_, ?_, ?_, ?_, ?_, ?_, ?_, ?_, ?_, ?_, ?_, ?_, ?_, ?_, ?_, ?_, ?_, ?_, ?_, ?_, ?_, ?_, ?_, ?_, ?_, ?_, ?_, ?_, ?_, ?_, ?_, ?_, ?_, ?_, ?_, ?_, ?_, ?_, ?_, ?_, ?_, trivial⟩
               ·intro vs W1 m1 hE hM hV hD; clear hD
                exact sPw
               ·intro vs W1 m1 hE hM hV hD; clear hD
                exact sPw
               ·intro vs W1 m1 hE hM hV hD; obtain ⟨⟨_, _, -, -, f114⟩, ⟨_, _, -, -, f115⟩, -⟩ := hD
                rw [(f114 : vs 114 = _), (f115 : vs 115 = _)]; clear f114 f115; exact sIy
               ·intro vs W1 m1 hE hM hV hD; obtain ⟨⟨_, _, -, -, f116⟩, -⟩ := hD
                rw [(f116 : vs 116 = _)]; clear f116; exact sLe
               ·intro vs W1 m1 hE hM hV hD; obtain ⟨⟨_, _, -, -, f117⟩, -⟩ := hD
                rw [(f117 : vs 117 = _)]
                clear f117
                go_wp2_with fail
                refine (KS.out _ _ hV leX).mono ?_
                rintro e W2 ⟨v, m2, rfl, hE2, hM2, hV2, h⟩
                go_wp2_with fail
                refine One2.call hE2 hM2 hV2 ?_; first | exact h | exact rfl
               ·intro vs W1 m1 hE hM hV hD; obtain ⟨⟨_, _, -, -, f118⟩, -⟩ := hD
                rw [(f118 : vs 118 = _)]; clear f118; exact sPw
               ·intro vs W1 m1 hE hM hV hD; obtain ⟨⟨_, _, -, -, f119⟩, -, -⟩ := hD
                rw [(f119 : vs 119 = _)]; clear f119; exact sPw
               ·intro vs W1 m1 hE hM hV hD; obtain ⟨⟨_, _, -, -, f120⟩, -⟩ := hD
                rw [(f120 : vs 120 = _)]; clear f120; exact sPw
               ·intro vs W1 m1 hE hM hV hD; obtain ⟨⟨_, _, -, -, f120⟩, -⟩ := hD
                rw [(f120 : vs 120 = _)]; clear f120; exact sFe
               ·intro vs W1 m1 hE hM hV hD; obtain ⟨⟨_, _, -, -, f122⟩, ⟨_, _, -, -, f120⟩, -⟩ := hD
                rw [(f122 : vs 122 = _), (f120 : vs 120 = _)]; clear f122 f120; exact sLe
               ·intro vs W1 m1 hE hM hV hD; obtain ⟨⟨_, _, -, -, f120⟩, -⟩ := hD
                rw [(f120 : vs 120 = _)]; clear f120; exact sPw
               ·intro vs W1 m1 hE hM hV hD; obtain ⟨⟨_, _, -, -, f123⟩, ⟨_, _, -, -, f124⟩, ⟨_, _, -, -, f120⟩, -⟩ := hD
                rw [(f123 : vs 123 = _), (f124 : vs 124 = _), (f120 : vs 120 = _)]; clear f123 f124 f120; exact sIy
               ·intro vs W1 m1 hE hM hV hD; obtain ⟨⟨_, _, -, -, f125⟩, ⟨_, _, -, -, f120⟩, -⟩ := hD
                rw [(f125 : vs 125 = _), (f120 : vs 120 = _)]; clear f125 f120; exact sFe
               ·intro vs W1 m1 hE hM hV hD; obtain ⟨⟨_, _, -, -, f126⟩, ⟨_, _, -, -, f120⟩, -⟩ := hD
                rw [(f126 : vs 126 = _), (f120 : vs 120 = _)]; clear f126 f120; exact sLe
               ·intro vs W1 m1 hE hM hV hD; obtain ⟨⟨_, _, -, -, f127⟩, ⟨_, _, -, -, f120⟩, -, -⟩ := hD
                rw [(f127 : vs 127 = _), (f120 : vs 120 = _)]
                clear f127 f120
                go_wp2_with fail
                refine (r_Operated s2 _ ds2 _ _ hV (DutsL.le HD2.out leX) (by rw [HND2.out]; exact H32.out) H42.out).mono ?_
                rintro e W2 ⟨v, m2, rfl, hE2, hM2, hV2, h⟩
                go_wp2_with fail
                refine One2.call hE2 hM2 hV2 ?_; first | exact h | exact rfl
               ·intro vs W1 m1 hE hM hV hD; obtain ⟨⟨_, _, -, -, f121⟩, ⟨_, _, -, i128, f128⟩, -, ⟨_, _, -, -, f120⟩, -⟩ := hD
                rw [(f121 : vs 121 = _), (f120 : vs 120 = _)]
                clear f121 f120
                have f128 : IntL _ (vs 128) (opF ds2) := f128
                replace f128 := f128.le i128.le
                clear i128
                go_wp2_with fail
                refine (KE.out _ _ _ hV leX f128).mono ?_
                rintro e W2 ⟨v, m2, rfl, hE2, hM2, hV2, h⟩
                go_wp2_with fail
                refine One2.call hE2 hM2 hV2 ?_; first | exact h | exact rfl
               ·intro vs W1 m1 hE hM hV hD; obtain ⟨⟨_, _, -, -, f120⟩, ⟨_, _, -, -, f129⟩, -⟩ := hD
                rw [(f120 : vs 120 = _), (f129 : vs 129 = _)]; clear f120 f129; exact sPw
               ·intro vs W1 m1 hE hM hV hD; obtain ⟨⟨_, _, -, -, f130⟩, -, -⟩ := hD
                rw [(f130 : vs 130 = _)]; clear f130; exact sPw
               ·intro vs W1 m1 hE hM hV hD; obtain ⟨⟨_, _, -, -, f131⟩, -⟩ := hD
                rw [(f131 : vs 131 = _)]; clear f131; exact sPw
               ·intro vs W1 m1 hE hM hV hD; obtain ⟨⟨_, _, -, -, f132⟩, ⟨_, _, -, -, f131⟩, -⟩ := hD
                rw [(f132 : vs 132 = _), (f131 : vs 131 = _)]; clear f132 f131; exact sPw
               ·intro vs W1 m1 hE hM hV hD; obtain ⟨⟨_, _, -, -, f131⟩, -⟩ := hD
                rw [(f131 : vs 131 = _)]; clear f131; exact sPw
               ·intro vs W1 m1 hE hM hV hD; obtain ⟨⟨_, _, -, -, f133⟩, ⟨_, _, -, -, f134⟩, ⟨_, _, -, -, f131⟩, -⟩ := hD
                rw [(f133 : vs 133 = _), (f134 : vs 134 = _), (f131 : vs 131 = _)]; clear f133 f134 f131; exact sPw
               ·intro vs W1 m1 hE hM hV hD; obtain ⟨⟨_, _, -, -, f135⟩, ⟨_, _, -, -, f131⟩, -⟩ := hD
                rw [(f135 : vs 135 = _), (f131 : vs 131 = _)]; clear f135 f131; exact sPw
               ·intro vs W1 m1 hE hM hV hD; obtain ⟨⟨_, _, -, -, f136⟩, ⟨_, _, -, -, f131⟩, -⟩ := hD
                rw [(f136 : vs 136 = _), (f131 : vs 131 = _)]; clear f136 f131; exact sPw
               ·intro vs W1 m1 hE hM hV hD; obtain ⟨⟨_, _, -, -, f131⟩, -⟩ := hD
                rw [(f131 : vs 131 = _)]; clear f131; exact sPw
               ·intro vs W1 m1 hE hM hV hD; obtain ⟨⟨_, _, -, -, f138⟩, ⟨_, _, -, -, f131⟩, -⟩ := hD
                rw [(f138 : vs 138 = _), (f131 : vs 131 = _)]; clear f138 f131; exact sPw
               ·intro vs W1 m1 hE hM hV hD; obtain ⟨⟨_, _, -, -, f131⟩, -⟩ := hD
                rw [(f131 : vs 131 = _)]; clear f131; exact sPw
               ·intro vs W1 m1 hE hM hV hD; obtain ⟨⟨_, _, -, -, f139⟩, ⟨_, _, -, -, f140⟩, ⟨_, _, -, -, f131⟩, -⟩ := hD
                rw [(f139 : vs 139 = _), (f140 : vs 140 = _), (f131 : vs 131 = _)]; clear f139 f140 f131; exact sPw
               ·intro vs W1 m1 hE hM hV hD; obtain ⟨⟨_, _, -, -, f141⟩, ⟨_, _, -, -, f131⟩, -⟩ := hD
                rw [(f141 : vs 141 = _), (f131 : vs 131 = _)]; clear f141 f131; exact sPw
               ·intro vs W1 m1 hE hM hV hD; obtain ⟨⟨_, _, -, -, f142⟩, ⟨_, _, -, -, f131⟩, -⟩ := hD
                rw [(f142 : vs 142 = _), (f131 : vs 131 = _)]; clear f142 f131; exact sPw
               ·intro vs W1 m1 hE hM hV hD; obtain ⟨⟨_, _, -, -, f137⟩, ⟨_, _, -, -, f143⟩, ⟨_, _, -, -, f131⟩, -⟩ := hD
                rw [(f137 : vs 137 = _), (f143 : vs 143 = _), (f131 : vs 131 = _)]; clear f137 f143 f131; exact sPw
               ·intro vs W1 m1 hE hM hV hD; obtain ⟨⟨_, _, -, -, f144⟩, ⟨_, _, -, -, f131⟩, -, -⟩ := hD
                rw [(f144 : vs 144 = _), (f131 : vs 131 = _)]; clear f144 f131; exact sPw
               ·intro vs W1 m1 hE hM hV hD; obtain ⟨⟨_, _, -, -, f145⟩, -⟩ := hD
                rw [(f145 : vs 145 = _)]; clear f145; exact sPw
               ·intro vs W1 m1 hE hM hV hD; obtain ⟨⟨_, _, -, -, f146⟩, ⟨_, _, -, -, f145⟩, -⟩ := hD
                rw [(f146 : vs 146 = _), (f145 : vs 145 = _)]; clear f146 f145; exact sPw
               ·intro vs W1 m1 hE hM hV hD; obtain ⟨⟨_, _, -, -, f145⟩, -⟩ := hD
                rw [(f145 : vs 145 = _)]; clear f145; exact sPw
               ·intro vs W1 m1 hE hM hV hD; obtain ⟨⟨_, _, -, -, f147⟩, ⟨_, _, -, -, f148⟩, ⟨_, _, -, -, f145⟩, -⟩ := hD
                rw [(f147 : vs 147 = _), (f148 : vs 148 = _), (f145 : vs 145 = _)]; clear f147 f148 f145; exact sPw
               ·intro vs W1 m1 hE hM hV hD; obtain ⟨⟨_, _, -, -, f149⟩, ⟨_, _, -, -, f145⟩, -⟩ := hD
                rw [(f149 : vs 149 = _), (f145 : vs 145 = _)]; clear f149 f145; exact sPw
               ·intro vs W1 m1 hE hM hV hD; obtain ⟨⟨_, _, -, -, f150⟩, ⟨_, _, -, -, f145⟩, -⟩ := hD
                rw [(f150 : vs 150 = _), (f145 : vs 145 = _)]; clear f150 f145; exact sPw
               ·intro vs W1 m1 hE hM hV hD; obtain ⟨⟨_, _, -, -, f145⟩, -⟩ := hD
                rw [(f145 : vs 145 = _)]; clear f145; exact sPw
               ·intro vs W1 m1 hE hM hV hD; obtain ⟨⟨_, _, -, -, f152⟩, ⟨_, _, -, -, f145⟩, -⟩ := hD
                rw [(f152 : vs 152 = _), (f145 : vs 145 = _)]; clear f152 f145; exact sPw
               ·intro vs W1 m1 hE hM hV hD; obtain ⟨⟨_, _, -, -, f145⟩, -⟩ := hD
                rw [(f145 : vs 145 = _)]; clear f145; exact sPw
               ·intro vs W1 m1 hE hM hV hD; obtain ⟨⟨_, _, -, -, f153⟩, ⟨_, _, -, -, f154⟩, ⟨_, _, -, -, f145⟩, -⟩ := hD
                rw [(f153 : vs 153 = _), (f154 : vs 154 = _), (f145 : vs 145 = _)]; clear f153 f154 f145; exact sPw
               ·intro vs W1 m1 hE hM hV hD; obtain ⟨⟨_, _, -, -, f155⟩, ⟨_, _, -, -, f145⟩, -⟩ := hD
                rw [(f155 : vs 155 = _), (f145 : vs 145 = _)]; clear f155 f145; exact sPw
               ·intro vs W1 m1 hE hM hV hD; obtain ⟨⟨_, _, -, -, f156⟩, ⟨_, _, -, -, f145⟩, -⟩ := hD
                rw [(f156 : vs 156 = _), (f145 : vs 145 = _)]; clear f156 f145; exact sPw
               ·intro vs W1 m1 hE hM hV hD; obtain ⟨⟨_, _, -, -, f151⟩, ⟨_, _, -, -, f157⟩, ⟨_, _, -, -, f145⟩, -⟩ := hD
                rw [(f151 : vs 151 = _), (f157 : vs 157 = _), (f145 : vs 145 = _)]; clear f151 f157 f145; exact sPw
               ·intro vs W1 m1 hE hM hV hD; obtain ⟨⟨_, _, -, -, f158⟩, ⟨_, _, -, -, f145⟩, -, -⟩ := hD
                rw [(f158 : vs 158 = _), (f145 : vs 145 = _)]; clear f158 f145; exact sPw
               ·intro vs W1 m1 hE hM hV hD; obtain ⟨⟨_, _, -, -, f159⟩, -⟩ := hD
                rw [(f159 : vs 159 = _)]; clear f159; exact sPw
               ·intro vs W1 m1 hE hM hV hD; obtain ⟨⟨_, _, -, -, f159⟩, -⟩ := hD
                rw [(f159 : vs 159 = _)]; clear f159; exact sPw
               ·intro vs W1 m1 hE hM hV hD; obtain ⟨⟨_, _, -, -, f160⟩, ⟨_, _, -, -, f161⟩, ⟨_, _, -, -, f159⟩, -⟩ := hD
                rw [(f160 : vs 160 = _), (f161 : vs 161 = _), (f159 : vs 159 = _)]; clear f160 f161 f159; exact sPw
               ·intro vs W1 m1 hE hM hV hD; obtain ⟨⟨_, _, -, -, f159⟩, ⟨_, _, -, -, f162⟩, ⟨_, _, -, -, f145⟩, -⟩ := hD
                rw [(f159 : vs 159 = _), (f162 : vs 162 = _), (f145 : vs 145 = _)]; clear f159 f162 f145; exact sPw
               ·intro vs W1 m1 hE hM hV hD; obtain ⟨⟨_, _, -, -, f145⟩, ⟨_, _, -, -, f163⟩, ⟨_, _, -, -, f131⟩, -⟩ := hD
                rw [(f145 : vs 145 = _), (f163 : vs 163 = _), (f131 : vs 131 = _)]; clear f145 f163 f131; exact sPw
               ·intro vs W1 m1 hE hM hV hD; obtain ⟨⟨_, _, -, -, f131⟩, ⟨_, _, -, -, f164⟩, -⟩ := hD
                rw [(f131 : vs 131 = _), (f164 : vs 164 = _)]; clear f131 f164; exact sPw
              case l35e =>
               refine ⟨nF, nF, nF, nF, nF, nF, nF, nF, nF, nF, nF, nF, nF, nF, nF, nF, nF, nF, nF, nF, nF, nF, nF, nF, nF, nF, nF, nF, nF, nF, nF, nF, nF, nF, nF, nF, nF, nF, nF, nF, nF, nF, nF, nF, nF, nF, nF, nF, nF, nF, nF, nF, trivial⟩
              intro vs W1 m1 hE hM hV hF hD
              clear hD
              obtain ⟨-, -, -, -, -, -, -, -, -, -, -, -, -, -, ⟨_, _, -, i128, f128⟩, -, -, -, -, -, -, -, -, -, -, -, -, -, -, -, -, -, -, -, -, -, -, -, -, -, -, -, -, -, -, -, -, -, -, -, -, ⟨_, _, -, -, f165⟩, -⟩ := hF
              replace hL := hL.call hE hM hV
              replace f128 : IntL _ (vs 128) (opF ds2) := f128
              replace f128 := f128.le i128.le
              clear i128
              have f165 : vs 165 = _ := f165
              generalize vs 165 = x165 at f165 ⊢
              subst x165
              clear hE hV
              simp only [List.drop_succ_cons, List.drop_zero]
              go_wp2_with (first | go_skip | refine tP ?_ | (refine tS ?_; clear hL; intro _ hL) | (refine tB ?_; clear hL; intro _ _ hL _) | (refine tC ?_; clear hL; intro _ _ hL _ hBs))
              refine QN.mk ?_
              go_wp2_with (first | go_skip | refine tP ?_ | (refine tS ?_; clear hL; intro _ hL) | (refine tB ?_; clear hL; intro _ _ hL _) | (refine tC ?_; clear hL; intro _ _ hL _ hBs))
              go_roundw
              case rel => exact ⟨k2 + 1, _, by omega, by rw [HB.out], by go_num, hL, hX6.trans exX⟩
              case measure => simp [intOf] <;> omega
            ·as_aux_lemma =>
             have HPF2 : Hid (posJ us k2 = false) := HPK.out.trans (decide_eq_false hpk)
             have hsd : decide (sg > 0) = false := decide_eq_false (by rw [hsg0]; have := icq_npos hpk; unfold rs; omega)
             have HB : Hid (bstT ms us j (k2 + 1) = bstT ms us j k2) := bst_no (by rintro ⟨h, -, -⟩; rw [HPF2.out] at h; cases h)
             clear hpk HPK hsg0 KE0
             generalize bstT ms us j k2 = bb at *
             go_upto_region 35 with ((first | go_skip | refine tP ?_ | (refine tS ?_; clear hL; intro _ hL) | (refine tB ?_; clear hL; intro _ _ hL _) | (refine tC ?_; clear hL; intro _ _ hL _ hBs)))
             (try simp only [eq_self] at *)
             refine wp_region_by2 52 [false, false, false, false, false, false, false, false, false, false, false, false, false, false, false, false, false, false, false, false, false, false, false, false, false, false, false, false, false, false, false, false, false, false, false, false, false, false, false, false, false, false, false, false, false, false, false, false, false, false, false, false] [false, false, false, false, false, false, false, false, false, false, false, false, false, false, false, false, false, false, false, false, false, false, false, false, false, false, false, false, false, false, false, false, false, false, false, false, false, false, false, false, false, false, false, false, false, false, false, false, false, false, false, false] [(fun v _ _ => v = ?c35_0f), (fun v _ _ => v = ?c35_1f), (fun v _ _ => v = ?c35_2f), (fun v _ _ => v = ?c35_3f), Is (.int .i64 sg), (fun v _ _ => v = ?c35_5f), (fun v _ _ => v = ?c35_6f), (fun v _ _ => v = ?c35_7f), (fun v _ _ => v = ?c35_8f), (fun v _ _ => v = ?c35_9f), (fun v _ _ => v = ?c35_10f), (fun v _ _ => v = ?c35_11f), (fun v _ _ => v = ?c35_12f), (fun v _ _ => v = ?c35_13f), (fun v _ _ => v = ?c35_14f), (fun v _ _ => v = ?c35_15f), (fun v _ _ => v = ?c35_16f), (fun v _ _ => v = ?c35_17f), (fun v _ _ => v = ?c35_18f), (fun v _ _ => v = ?c35_19f), (fun v _ _ => v = ?c35_20f), (fun v _ _ => v = ?c35_21f), (fun v _ _ => v = ?c35_22f), (fun v _ _ => v = ?c35_23f), (fun v _ _ => v = ?c35_24f), (fun v _ _ => v = ?c35_25f), (fun v _ _ => v = ?c35_26f), (fun v _ _ => v = ?c35_27f), (fun v _ _ => v = ?c35_28f), (fun v _ _ => v = ?c35_29f), (fun v _ _ => v = ?c35_30f), (fun v _ _ => v = ?c35_31f), (fun v _ _ => v = ?c35_32f), (fun v _ _ => v = ?c35_33f), (fun v _ _ => v = ?c35_34f), (fun v _ _ => v = ?c35_35f), (fun v _ _ => v = ?c35_36f), (fun v _ _ => v = ?c35_37f), (fun v _ _ => v = ?c35_38f), (fun v _ _ => v = ?c35_39f), (fun v _ _ => v = ?c35_40f), (fun v _ _ => v = ?c35_41f), (fun v _ _ => v = ?c35_42f), (fun v _ _ => v = ?c35_43f), (fun v _ _ => v = ?c35_44f), (fun v _ _ => v = ?c35_45f), (fun v _ _ => v = ?c35_46f), (fun v _ _ => v = ?c35_47f), (fun v _ _ => v = ?c35_48f), (fun v _ _ => v = ?c35_49f), (fun v _ _ => v = ?c35_50f), (fun v _ _ => v = ?c35_51f)] hL.vw mixed [114, 115, 116, 117, 118, 119, 120, 121, 122, 123, 124, 125, 126, 127, 128, 129, 130, 131, 132, 133, 134, 135, 136, 137, 138, 139, 140, 141, 142, 143, 144, 145, 146, 147, 148, 149, 150, 151, 152, 153, 154, 155, 156, 157, 158, 159, 160, 161, 162, 163, 164, 165] _ (by kernel_rfl) (fun vs => by simp only [lay, Act.put, zq1, zq2, zq3]; rfl) (by kernel_rfl) (by decide) (by decide) ?s35f ?l35f ?r35f
             case s35f =>
              refine ⟨?_, ?_, ?_, ?_, ?_, ?_, ?_, ?_, ?_, ?_, ?_, ?_, ?_, ?_, ?_, ?_, ?_, ?_, ?_, ?_, ?_, ?_, ?_, ?_, ?_, ?_, ?_, ?_, ?_, ?_, ?_, ?_, ?_, ?_, ?_, ?_, ?_, ?_, ?_, ?_, ?_, ?_, ?_, ?_, ?_, ?_, ?_, ?_, ?_, ?_, ?_, ?_, trivial⟩
              ·intro vs W1 m1 hE hM hV hD; clear hD
               exact sPw
              ·intro vs W1 m1 hE hM hV hD; clear hD
               exact sPw
              ·intro vs W1 m1 hE hM hV hD; obtain ⟨⟨_, _, -, -, f114⟩, ⟨_, _, -, -, f115⟩, -⟩ := hD
               rw [(f114 : vs 114 = _), (f115 : vs 115 = _)]; clear f114 f115; exact sIy
              ·intro vs W1 m1 hE hM hV hD; obtain ⟨⟨_, _, -, -, f116⟩, -⟩ := hD
               rw [(f116 : vs 116 = _)]; clear f116; exact sLe
              ·intro vs W1 m1 hE hM hV hD; obtain ⟨⟨_, _, -, -, f117⟩, -⟩ := hD
               rw [(f117 : vs 117 = _)]
               clear f117
               go_wp2_with fail
               refine (KS.out _ _ hV leX).mono ?_
               rintro e W2 ⟨v, m2, rfl, hE2, hM2, hV2, h⟩
               go_wp2_with fail
               refine One2.call hE2 hM2 hV2 ?_; first | exact h | exact rfl
              ·intro vs W1 m1 hE hM hV hD; obtain ⟨⟨_, _, -, -, f118⟩, -⟩ := hD
               rw [(f118 : vs 118 = _)]; clear f118; exact sPw
              ·intro vs W1 m1 hE hM hV hD; obtain ⟨⟨_, _, -, -, f119⟩, -, -⟩ := hD
               rw [(f119 : vs 119 = _)]; clear f119; exact sPw
              ·intro vs W1 m1 hE hM hV hD; obtain ⟨⟨_, _, -, -, f120⟩, -⟩ := hD
               rw [(f120 : vs 120 = _)]; clear f120; exact sPw
              ·intro vs W1 m1 hE hM hV hD; obtain ⟨⟨_, _, -, -, f120⟩, -⟩ := hD
               rw [(f120 : vs 120 = _)]; clear f120; exact sPw
              ·intro vs W1 m1 hE hM hV hD; obtain ⟨⟨_, _, -, -, f122⟩, ⟨_, _, -, -, f120⟩, -⟩ := hD
               rw [(f122 : vs 122 = _), (f120 : vs 120 = _)]; clear f122 f120; exact sPw
              ·intro vs W1 m1 hE hM hV hD; obtain ⟨⟨_, _, -, -, f120⟩, -⟩ := hD
               rw [(f120 : vs 120 = _)]; clear f120; exact sPw
              ·intro vs W1 m1 hE hM hV hD; obtain ⟨⟨_, _, -, -, f123⟩, ⟨_, _, -, -, f124⟩, ⟨_, _, -, -, f120⟩, -⟩ := hD
               rw [(f123 : vs 123 = _), (f124 : vs 124 = _), (f120 : vs 120 = _)]; clear f123 f124 f120; exact sPw
              ·intro vs W1 m1 hE hM hV hD; obtain ⟨⟨_, _, -, -, f125⟩, ⟨_, _, -, -, f120⟩, -⟩ := hD
               rw [(f125 : vs 125 = _), (f120 : vs 120 = _)]; clear f125 f120; exact sPw
              ·intro vs W1 m1 hE hM hV hD; obtain ⟨⟨_, _, -, -, f126⟩, ⟨_, _, -, -, f120⟩, -⟩ := hD
               rw [(f126 : vs 126 = _), (f120 : vs 120 = _)]; clear f126 f120; exact sPw
              ·intro vs W1 m1 hE hM hV hD; obtain ⟨⟨_, _, -, -, f127⟩, ⟨_, _, -, -, f120⟩, -, -⟩ := hD
               rw [(f127 : vs 127 = _), (f120 : vs 120 = _)]; clear f127 f120; exact sPw
              ·intro vs W1 m1 hE hM hV hD; obtain ⟨⟨_, _, -, -, f121⟩, ⟨_, _, -, -, f128⟩, -, ⟨_, _, -, -, f120⟩, -⟩ := hD
               rw [(f121 : vs 121 = _), (f128 : vs 128 = _), (f120 : vs 120 = _)]; clear f121 f128 f120; exact sPw
              ·intro vs W1 m1 hE hM hV hD; obtain ⟨⟨_, _, -, -, f120⟩, ⟨_, _, -, -, f129⟩, -⟩ := hD
               rw [(f120 : vs 120 = _), (f129 : vs 129 = _)]; clear f120 f129; exact sPw
              ·intro vs W1 m1 hE hM hV hD; obtain ⟨⟨_, _, -, -, f130⟩, -, -⟩ := hD
               rw [(f130 : vs 130 = _)]; clear f130; exact sPw
              ·intro vs W1 m1 hE hM hV hD; obtain ⟨⟨_, _, -, -, f131⟩, -⟩ := hD
               rw [(f131 : vs 131 = _)]; clear f131; exact sPw
              ·intro vs W1 m1 hE hM hV hD; obtain ⟨⟨_, _, -, -, f132⟩, ⟨_, _, -, -, f131⟩, -⟩ := hD
               rw [(f132 : vs 132 = _), (f131 : vs 131 = _)]; clear f132 f131; exact sPw
              ·intro vs W1 m1 hE hM hV hD; obtain ⟨⟨_, _, -, -, f131⟩, -⟩ := hD
               rw [(f131 : vs 131 = _)]; clear f131; exact sPw
              ·intro vs W1 m1 hE hM hV hD; obtain ⟨⟨_, _, -, -, f133⟩, ⟨_, _, -, -, f134⟩, ⟨_, _, -, -, f131⟩, -⟩ := hD
               rw [(f133 : vs 133 = _), (f134 : vs 134 = _), (f131 : vs 131 = _)]; clear f133 f134 f131; exact sPw
              ·intro vs W1 m1 hE hM hV hD; obtain ⟨⟨_, _, -, -, f135⟩, ⟨_, _, -, -, f131⟩, -⟩ := hD
               rw [(f135 : vs 135 = _), (f131 : vs 131 = _)]; clear f135 f131; exact sPw
              ·intro vs W1 m1 hE hM hV hD; obtain ⟨⟨_, _, -, -, f136⟩, ⟨_, _, -, -, f131⟩, -⟩ := hD
               rw [(f136 : vs 136 = _), (f131 : vs 131 = _)]; clear f136 f131; exact sPw
              ·intro vs W1 m1 hE hM hV hD; obtain ⟨⟨_, _, -, -, f131⟩, -⟩ := hD
               rw [(f131 : vs 131 = _)]; clear f131; exact sPw
              ·intro vs W1 m1 hE hM hV hD; obtain ⟨⟨_, _, -, -, f138⟩, ⟨_, _, -, -, f131⟩, -⟩ := hD
               rw [(f138 : vs 138 = _), (f131 : vs 131 = _)]; clear f138 f131; exact sPw
              ·intro vs W1 m1 hE hM hV hD; obtain ⟨⟨_, _, -, -, f131⟩, -⟩ := hD
               rw [(f131 : vs 131 = _)]; clear f131; exact sPw
              ·intro vs W1 m1 hE hM hV hD; obtain ⟨⟨_, _, -, -, f139⟩, ⟨_, _, -, -, f140⟩, ⟨_, _, -, -, f131⟩, -⟩ := hD
               rw [(f139 : vs 139 = _), (f140 : vs 140 = _), (f131 : vs 131 = _)]; clear f139 f140 f131; exact sPw
              ·intro vs W1 m1 hE hM hV hD; obtain ⟨⟨_, _, -, -, f141⟩, ⟨_, _, -, -, f131⟩, -⟩ := hD
               rw [(f141 : vs 141 = _), (f131 : vs 131 = _)]; clear f141 f131; exact sPw
              ·intro vs W1 m1 hE hM hV hD; obtain ⟨⟨_, _, -, -, f142⟩, ⟨_, _, -, -, f131⟩, -⟩ := hD
               rw [(f142 : vs 142 = _), (f131 : vs 131 = _)]; clear f142 f131; exact sPw
              ·intro vs W1 m1 hE hM hV hD; obtain ⟨⟨_, _, -, -, f137⟩, ⟨_, _, -, -, f143⟩, ⟨_, _, -, -, f131⟩, -⟩ := hD
               rw [(f137 : vs 137 = _), (f143 : vs 143 = _), (f131 : vs 131 = _)]; clear f137 f143 f131; exact sPw
              ·intro vs W1 m1 hE hM hV hD; obtain ⟨⟨_, _, -, -, f144⟩, ⟨_, _, -, -, f131⟩, -, -⟩ := hD
               rw [(f144 : vs 144 = _), (f131 : vs 131 = _)]; clear f144 f131; exact sPw
              ·intro vs W1 m1 hE hM hV hD; obtain ⟨⟨_, _, -, -, f145⟩, -⟩ := hD
               rw [(f145 : vs 145 = _)]; clear f145; exact sPw
              ·intro vs W1 m1 hE hM hV hD; obtain ⟨⟨_, _, -, -, f146⟩, ⟨_, _, -, -, f145⟩, -⟩ := hD
               rw [(f146 : vs 146 = _), (f145 : vs 145 = _)]; clear f146 f145; exact sPw
              ·intro vs W1 m1 hE hM hV hD; obtain ⟨⟨_, _, -, -, f145⟩, -⟩ := hD
               rw [(f145 : vs 145 = _)]; clear f145; exact sPw
              ·intro vs W1 m1 hE hM hV hD; obtain ⟨⟨_, _, -, -, f147⟩, ⟨_, _, -, -, f148⟩, ⟨_, _, -, -, f145⟩, -⟩ := hD
               rw [(f147 : vs 147 = _), (f148 : vs 148 = _), (f145 : vs 145 = _)]; clear f147 f148 f145; exact sPw
              ·intro vs W1 m1 hE hM hV hD; obtain ⟨⟨_, _, -, -, f149⟩, ⟨_, _, -, -, f145⟩, -⟩ := hD
               rw [(f149 : vs 149 = _), (f145 : vs 145 = _)]; clear f149 f145; exact sPw
              ·intro vs W1 m1 hE hM hV hD; obtain ⟨⟨_, _, -, -, f150⟩, ⟨_, _, -, -, f145⟩, -⟩ := hD
               rw [(f150 : vs 150 = _), (f145 : vs 145 = _)]; clear f150 f145; exact sPw
              ·intro vs W1 m1 hE hM hV hD; obtain ⟨⟨_, _, -, -, f145⟩, -⟩ := hD
               rw [(f145 : vs 145 = _)]; clear f145; exact sPw
              ·intro vs W1 m1 hE hM hV hD; obtain ⟨⟨_, _, -, -, f152⟩, ⟨_, _, -, -, f145⟩, -⟩ := hD
               rw [(f152 : vs 152 = _), (f145 : vs 145 = _)]; clear f152 f145; exact sPw
              ·intro vs W1 m1 hE hM hV hD; obtain ⟨⟨_, _, -, -, f145⟩, -⟩ := hD
               rw [(f145 : vs 145 = _)]; clear f145; exact sPw
              ·intro vs W1 m1 hE hM hV hD; obtain ⟨⟨_, _, -, -, f153⟩, ⟨_, _, -, -, f154⟩, ⟨_, _, -, -, f145⟩, -⟩ := hD
               rw [(f153 : vs 153 = _), (f154 : vs 154 = _), (f145 : vs 145 = _)]; clear f153 f154 f145; exact sPw
              ·intro vs W1 m1 hE hM hV hD; obtain ⟨⟨_, _, -, -, f155⟩, ⟨_, _, -, -, f145⟩, -⟩ := hD
               rw [(f155 : vs 155 = _), (f145 : vs 145 = _)]; clear f155 f145; exact sPw
              ·intro vs W1 m1 hE hM hV hD; obtain ⟨⟨_, _, -, -, f156⟩, ⟨_, _, -, -, f145⟩, -⟩ := hD
               rw [(f156 : vs 156 = _), (f145 : vs 145 = _)]; clear f156 f145; exact sPw
              ·intro vs W1 m1 hE hM hV hD; obtain ⟨⟨_, _, -, -, f151⟩, ⟨_, _, -, -, f157⟩, ⟨_, _, -, -, f145⟩, -⟩ := hD
               rw [(f151 : vs 151 = _), (f157 : vs 157 = _), (f145 : vs 145 = _)]; clear f151 f157 f145; exact sPw
              ·intro vs W1 m1 hE hM hV hD; obtain ⟨⟨_, _, -, -, f158⟩, ⟨_, _, -, -, f145⟩, -, -⟩ := hD
               rw [(f158 : vs 158 = _), (f145 : vs 145 = _)]; clear f158 f145; exact sPw
              ·intro vs W1 m1 hE hM hV hD; obtain ⟨⟨_, _, -, -, f159⟩, -⟩ := hD
               rw [(f159 : vs 159 = _)]; clear f159; exact sPw
              ·intro vs W1 m1 hE hM hV hD; obtain ⟨⟨_, _, -, -, f159⟩, -⟩ := hD
               rw [(f159 : vs 159 = _)]; clear f159; exact sPw
              ·intro vs W1 m1 hE hM hV hD; obtain ⟨⟨_, _, -, -, f160⟩, ⟨_, _, -, -, f161⟩, ⟨_, _, -, -, f159⟩, -⟩ := hD
               rw [(f160 : vs 160 = _), (f161 : vs 161 = _), (f159 : vs 159 = _)]; clear f160 f161 f159; exact sPw
              ·intro vs W1 m1 hE hM hV hD; obtain ⟨⟨_, _, -, -, f159⟩, ⟨_, _, -, -, f162⟩, ⟨_, _, -, -, f145⟩, -⟩ := hD
               rw [(f159 : vs 159 = _), (f162 : vs 162 = _), (f145 : vs 145 = _)]; clear f159 f162 f145; exact sPw
              ·intro vs W1 m1 hE hM hV hD; obtain ⟨⟨_, _, -, -, f145⟩, ⟨_, _, -, -, f163⟩, ⟨_, _, -, -, f131⟩, -⟩ := hD
               rw [(f145 : vs 145 = _), (f163 : vs 163 = _), (f131 : vs 131 = _)]; clear f145 f163 f131; exact sPw
              ·intro vs W1 m1 hE hM hV hD; obtain ⟨⟨_, _, -, -, f131⟩, ⟨_, _, -, -, f164⟩, -⟩ := hD
               rw [(f131 : vs 131 = _), (f164 : vs 164 = _)]; clear f131 f164; exact sPw
             case l35f =>
              refine ⟨nF, nF, nF, nF, nF, nF, nF, nF, nF, nF, nF, nF, nF, nF, nF, nF, nF, nF, nF, nF, nF, nF, nF, nF, nF, nF, nF, nF, nF, nF, nF, nF, nF, nF, nF, nF, nF, nF, nF, nF, nF, nF, nF, nF, nF, nF, nF, nF, nF, nF, nF, nF, trivial⟩
             intro vs W1 m1 hE hM hV hF hD
             clear hD
             obtain ⟨-, -, -, -, -, -, -, -, -, -, -, -, -, -, -, -, -, -, -, -, -, -, -, -, -, -, -, -, -, -, -, -, -, -, -, -, -, -, -, -, -, -, -, -, -, -, -, -, -, -, -, ⟨_, _, -, -, f165⟩, -⟩ := hF
             replace hL := hL.call hE hM hV
             have f165 : vs 165 = _ := f165
             generalize vs 165 = x165 at f165 ⊢
             subst x165
             clear hE hV
             simp only [List.drop_succ_cons, List.drop_zero]
             go_wp2_with (first | go_skip | refine tP ?_ | (refine tS ?_; clear hL; intro _ hL) | (refine tB ?_; clear hL; intro _ _ hL _) | (refine tC ?_; clear hL; intro _ _ hL _ hBs))
             refine QN.mk ?_
             go_wp2_with (first | go_skip | refine tP ?_ | (refine tS ?_; clear hL; intro _ hL) | (refine tB ?_; clear hL; intro _ _ hL _) | (refine tC ?_; clear hL; intro _ _ hL _ hBs))
             go_roundw
             case rel => exact ⟨k2 + 1, _, by omega, by rw [HB.out], by go_num, hL, hX6.trans exX⟩
             case measure => simp [intOf] <;> omega
           ·as_aux_lemma =>
            have hkk : k2 = k := by omega
            subst hkk
            have h9 : (k2 : Int) ≤ (k2 : Int) := Int.le_refl _
            have HKP : Hid (keepJ ms j = (decide (1 < no) || decide (cost1 < pen))) := by
             show _ = _
             rw [keepJ_is (by rw [HOP.out, HNO.out]; exact HLP.out), HOP.out, HCJ.out, HMR.out.2.2, HNO.out]
            rw [HNC.out, HPT.out, Bool.true_and] at HTP
            by_cases hbs : bstT ms us j k2 = true
            ·rw [hbs, Bool.true_and, HKP.out] at HTP
             rw [hbs]
             clear hbs
             by_cases hl1 : 1 < no
             ·as_aux_lemma =>
              have hld : decide ((no : Int) > 1) = true := decide_eq_true (by omega)
              rw [decide_eq_true hl1, Bool.true_or, if_pos rfl] at HTP
              clear hl1
              go_upto_region 37 with ((first | go_skip | refine tP ?_ | (refine tS ?_; clear hL; intro _ hL) | (refine tB ?_; clear hL; intro _ _ hL _) | (refine tC ?_; clear hL; intro _ _ hL _ hBs)))
              clear h9
              (try simp only [eq_self] at *)
              refine wp_region_by2 17 [false, false, false, false, false, false, false, false, false, false, false, false, false, false, false, false, false] [false, false, false, false, false, false, false, false, false, false, false, false, false, false, false, false, false] [(fun v _ _ => v = ?c37_0a), (fun v _ _ => v = ?c37_1a), (fun v _ _ => v = ?c37_2a), (fun v _ _ => v = ?c37_3a), (fun v _ _ => v = ?c37_4a), (fun v _ _ => v = ?c37_5a), (fun v _ _ => v = ?c37_6a), (fun v _ _ => v = ?c37_7a), (fun v _ _ => v = ?c37_8a), (fun v _ _ => v = ?c37_9a), (fun v _ _ => v = ?c37_10a), (fun v _ _ => v = ?c37_11a), (fun v _ _ => v = ?c37_12a), (fun v _ _ => v = ?c37_13a), (fun v _ _ => v = ?c37_14a), (fun v _ _ => v = ?c37_15a), (fun v _ _ => v = ?c37_16a)] hL.vw mixed [166, 167, 168, 169, 170, 171, 172, 173, 174, 175, 176, 177, 178, 179, 180, 181, 182] _ (by kernel_rfl) (fun vs => by simp only [lay, Act.put, zq1, zq2, zq3]; rfl) (by kernel_rfl) (by decide) (by decide) ?s37a ?l37a ?r37a
              case s37a =>
               refine ⟨?_, ?_, ?_, ?_, ?_, ?_, ?_, ?_, ?_, ?_, ?_, ?_, ?_, ?_, ?_, ?_, ?_, trivial⟩
               ·intro vs W1 m1 hE hM hV hD; clear hD
                exact sPw
               ·intro vs W1 m1 hE hM hV hD; obtain ⟨⟨_, _, -, -, f166⟩, -⟩ := hD
                rw [(f166 : vs 166 = _)]; clear f166; exact sPw
               ·intro vs W1 m1 hE hM hV hD; obtain ⟨⟨_, _, -, -, f167⟩, -⟩ := hD
                rw [(f167 : vs 167 = _)]; clear f167; exact sPw
               ·intro vs W1 m1 hE hM hV hD; obtain ⟨⟨_, _, -, -, f168⟩, ⟨_, _, -, -, f167⟩, -⟩ := hD
                rw [(f168 : vs 168 = _), (f167 : vs 167 = _)]
                clear f168 f167
                replace hL := hL.call hE hM hV
                go_wp2_with (first | go_skip | refine tP ?_ | (refine tS ?_; clear hL; intro _ hL) | (refine tB ?_; clear hL; intro _ _ hL _) | (refine tC ?_; clear hL; intro _ _ hL _ hBs))
                refine One2.still hV ?_; exact rfl
               ·intro vs W1 m1 hE hM hV hD; obtain ⟨⟨_, _, -, -, f169⟩, ⟨_, _, -, -, f167⟩, -⟩ := hD
                rw [(f169 : vs 169 = _), (f167 : vs 167 = _)]; clear f169 f167; exact sPw
               ·intro vs W1 m1 hE hM hV hD; obtain ⟨⟨_, _, -, -, f170⟩, ⟨_, _, -, -, f167⟩, -, -⟩ := hD
                rw [(f170 : vs 170 = _), (f167 : vs 167 = _)]; clear f170 f167; exact sPw
               ·intro vs W1 m1 hE hM hV hD; obtain ⟨⟨_, _, -, -, f171⟩, -⟩ := hD
                rw [(f171 : vs 171 = _)]; clear f171; exact sPw
               ·intro vs W1 m1 hE hM hV hD; obtain ⟨⟨_, _, -, -, f172⟩, ⟨_, _, -, -, f171⟩, -⟩ := hD
                rw [(f172 : vs 172 = _), (f171 : vs 171 = _)]; clear f172 f171; exact sPw
               ·intro vs W1 m1 hE hM hV hD; obtain ⟨⟨_, _, -, -, f171⟩, -⟩ := hD
                rw [(f171 : vs 171 = _)]; clear f171; exact sPw
               ·intro vs W1 m1 hE hM hV hD; obtain ⟨⟨_, _, -, -, f173⟩, ⟨_, _, -, -, f174⟩, ⟨_, _, -, -, f171⟩, -⟩ := hD
                rw [(f173 : vs 173 = _), (f174 : vs 174 = _), (f171 : vs 171 = _)]; clear f173 f174 f171; exact sPw
               ·intro vs W1 m1 hE hM hV hD; obtain ⟨⟨_, _, -, -, f175⟩, ⟨_, _, -, -, f171⟩, -⟩ := hD
                rw [(f175 : vs 175 = _), (f171 : vs 171 = _)]; clear f175 f171; exact sPw
               ·intro vs W1 m1 hE hM hV hD; obtain ⟨⟨_, _, -, -, f176⟩, ⟨_, _, -, -, f171⟩, -⟩ := hD
                rw [(f176 : vs 176 = _), (f171 : vs 171 = _)]; clear f176 f171; exact sPw
               ·intro vs W1 m1 hE hM hV hD; obtain ⟨⟨_, _, -, -, f171⟩, -⟩ := hD
                rw [(f171 : vs 171 = _)]; clear f171; exact sPw
               ·intro vs W1 m1 hE hM hV hD; obtain ⟨⟨_, _, -, -, f178⟩, ⟨_, _, -, -, f171⟩, -⟩ := hD
                rw [(f178 : vs 178 = _), (f171 : vs 171 = _)]; clear f178 f171; exact sPw
               ·intro vs W1 m1 hE hM hV hD; obtain ⟨⟨_, _, -, -, f177⟩, ⟨_, _, -, -, f179⟩, ⟨_, _, -, -, f171⟩, -⟩ := hD
                rw [(f177 : vs 177 = _), (f179 : vs 179 = _), (f171 : vs 171 = _)]; clear f177 f179 f171; exact sPw
               ·intro vs W1 m1 hE hM hV hD; obtain ⟨⟨_, _, -, -, f171⟩, ⟨_, _, -, -, f180⟩, ⟨_, _, -, -, f167⟩, -⟩ := hD
                rw [(f171 : vs 171 = _), (f180 : vs 180 = _), (f167 : vs 167 = _)]; clear f171 f180 f167; exact sPw
               ·intro vs W1 m1 hE hM hV hD; obtain ⟨⟨_, _, -, -, f167⟩, ⟨_, _, -, -, f181⟩, -⟩ := hD
                rw [(f167 : vs 167 = _), (f181 : vs 181 = _)]; clear f167 f181; exact sPw
              case l37a =>
               refine ⟨nF, nF, nF, nF, nF, nF, nF, nF, nF, nF, nF, nF, nF, nF, nF, nF, nF, trivial⟩
              intro vs W1 m1 hE hM hV hF hD
              clear hD
              obtain ⟨-, -, -, -, -, -, -, -, -, -, -, -, -, -, -, -, ⟨_, _, -, -, f182⟩, -⟩ := hF
              replace hL := hL.call hE hM hV
              have f182 : vs 182 = _ := f182
              generalize vs 182 = x182 at f182 ⊢
              subst x182
              clear hE hV
              simp only [List.drop_succ_cons, List.drop_zero]
              go_wp2_with (first | go_skip | refine tP ?_ | (refine tS ?_; clear hL; intro _ hL) | (refine tB ?_; clear hL; intro _ _ hL _) | (refine tC ?_; clear hL; intro _ _ hL _ hBs))
              refine QN.mk ?_
              go_wp2_with (first | go_skip | refine tP ?_ | (refine tS ?_; clear hL; intro _ hL) | (refine tB ?_; clear hL; intro _ _ hL _) | (refine tC ?_; clear hL; intro _ _ hL _ hBs))
              refine goA ?_
              obtain ⟨vs7, r7, z7, y7, l7⟩ := ROW.out
              refine wl_append (A := []) hL r7 (wanted_none rfl) rfl ap_ints (by omega) rfl rfl (news := [.int .i64 (j : Int)]) rfl ((Blk.sl hBs (n := 1) rfl).le hL.vw.le) rfl (by omega) (by omega) ?_
              have HX7 := Lib.hid (Loc.extOf hL (HX5.out.trans (hX6.trans exX)))
              clear hL
              intro v1 W5 m5 R5 hL r8 e8
              obtain ⟨A9, c9, rfl, -⟩ := r8.lit
              simp only [List.nil_append] at hL
              have rd2 := RowA.snocV (R := IsI) (m := m5) (x := (j : Int)) r8 z7 (y7.mono fun _ _ hv => hv) l7 rfl rfl rfl
              rw [natL_snoc, ← HTP.out] at rd2
              simp only [Act.put, zq1, zq2, zq3]
              go_wp2_with (first | go_skip | refine tP ?_ | (refine tS ?_; clear hL; intro _ hL) | (refine tB ?_; clear hL; intro _ _ hL _) | (refine tC ?_; clear hL; intro _ _ hL _ hBs))
              go_roundw
              case rel => exact ⟨j + 1, m5, n + 1, R5, by omega, by go_num, hL, HX7.out.trans e8, rd2⟩
              case measure => simp [intOf] <;> omega
             ·have hld : decide ((no : Int) > 1) = false := decide_eq_false (by omega)
              rw [decide_eq_false hl1, Bool.false_or] at HTP
              clear hl1
              by_cases hcp : cost1 < pen
              ·as_aux_lemma =>
               have hcd : decide (cost1 < pen) = true := decide_eq_true hcp
               rw [hcd, if_pos rfl] at HTP
               clear hcp
               go_upto_region 37 with ((first | go_skip | refine tP ?_ | (refine tS ?_; clear hL; intro _ hL) | (refine tB ?_; clear hL; intro _ _ hL _) | (refine tC ?_; clear hL; intro _ _ hL _ hBs)))
               clear h9
               (try simp only [eq_self] at *)
               refine wp_region_by2 17 [false, false, false, false, false, false, false, false, false, false, false, false, false, false, false, false, false] [false, false, false, false, false, false, false, false, false, false, false, false, false, false, false, false, false] [(fun v _ _ => v = ?c37_0b), (fun v _ _ => v = ?c37_1b), (fun v _ _ => v = ?c37_2b), (fun v _ _ => v = ?c37_3b), (fun v _ _ => v = ?c37_4b), (fun v _ _ => v = ?c37_5b), (fun v _ _ => v = ?c37_6b), (fun v _ _ => v = ?c37_7b), (fun v _ _ => v = ?c37_8b), (fun v _ _ => v = ?c37_9b), (fun v _ _ => v = ?c37_10b), (fun v _ _ => v = ?c37_11b), (fun v _ _ => v = ?c37_12b), (fun v _ _ => v = ?c37_13b), (fun v _ _ => v = ?c37_14b), (fun v _ _ => v = ?c37_15b), (fun v _ _ => v = ?c37_16b)] hL.vw mixed [166, 167, 168, 169, 170, 171, 172, 173, 174, 175, 176, 177, 178, 179, 180, 181, 182] _ (by kernel_rfl) (fun vs => by simp only [lay, Act.put, zq1, zq2, zq3]; rfl) (by kernel_rfl) (by decide) (by decide) ?s37b ?l37b ?r37b
               case s37b =>
                refine ⟨?_, ?_, ?_, ?_, ?_, ?_, ?_, ?_, ?_, ?_, ?_, ?_, ?_, ?_, ?_, ?_, ?_, trivial⟩
                ·intro vs W1 m1 hE hM hV hD; clear hD
                 exact sPw
                ·intro vs W1 m1 hE hM hV hD; obtain ⟨⟨_, _, -, -, f166⟩, -⟩ := hD
                 rw [(f166 : vs 166 = _)]; clear f166; exact sPw
                ·intro vs W1 m1 hE hM hV hD; obtain ⟨⟨_, _, -, -, f167⟩, -⟩ := hD
                 rw [(f167 : vs 167 = _)]; clear f167; exact sPw
                ·intro vs W1 m1 hE hM hV hD; obtain ⟨⟨_, _, -, -, f168⟩, ⟨_, _, -, -, f167⟩, -⟩ := hD
                 rw [(f168 : vs 168 = _), (f167 : vs 167 = _)]
                 clear f168 f167
                 replace hL := hL.call hE hM hV
                 go_wp2_with (first | go_skip | refine tP ?_ | (refine tS ?_; clear hL; intro _ hL) | (refine tB ?_; clear hL; intro _ _ hL _) | (refine tC ?_; clear hL; intro _ _ hL _ hBs))
                 refine One2.still hV ?_; exact rfl
                ·intro vs W1 m1 hE hM hV hD; obtain ⟨⟨_, _, -, -, f169⟩, ⟨_, _, -, -, f167⟩, -⟩ := hD
                 rw [(f169 : vs 169 = _), (f167 : vs 167 = _)]; clear f169 f167; exact sPw
                ·intro vs W1 m1 hE hM hV hD; obtain ⟨⟨_, _, -, -, f170⟩, ⟨_, _, -, -, f167⟩, -, -⟩ := hD
                 rw [(f170 : vs 170 = _), (f167 : vs 167 = _)]; clear f170 f167; exact sPw
                ·intro vs W1 m1 hE hM hV hD; obtain ⟨⟨_, _, -, -, f171⟩, -⟩ := hD
                 rw [(f171 : vs 171 = _)]; clear f171; exact sFe
                ·intro vs W1 m1 hE hM hV hD; obtain ⟨⟨_, _, -, -, f172⟩, ⟨_, _, -, -, f171⟩, -⟩ := hD
                 rw [(f172 : vs 172 = _), (f171 : vs 171 = _)]; clear f172 f171; exact sLe
                ·intro vs W1 m1 hE hM hV hD; obtain ⟨⟨_, _, -, -, f171⟩, -⟩ := hD
                 rw [(f171 : vs 171 = _)]; clear f171; exact sPw
                ·intro vs W1 m1 hE hM hV hD; obtain ⟨⟨_, _, -, -, f173⟩, ⟨_, _, -, -, f174⟩, ⟨_, _, -, -, f171⟩, -⟩ := hD
                 rw [(f173 : vs 173 = _), (f174 : vs 174 = _), (f171 : vs 171 = _)]; clear f173 f174 f171; exact sIy
                ·intro vs W1 m1 hE hM hV hD; obtain ⟨⟨_, _, -, -, f175⟩, ⟨_, _, -, -, f171⟩, -⟩ := hD
                 rw [(f175 : vs 175 = _), (f171 : vs 171 = _)]; clear f175 f171; exact sFe
                ·intro vs W1 m1 hE hM hV hD; obtain ⟨⟨_, _, -, -, f176⟩, ⟨_, _, -, -, f171⟩, -⟩ := hD
                 rw [(f176 : vs 176 = _), (f171 : vs 171 = _)]; clear f176 f171; exact sLe
                ·intro vs W1 m1 hE hM hV hD; obtain ⟨⟨_, _, -, -, f171⟩, -⟩ := hD
                 rw [(f171 : vs 171 = _)]; clear f171; exact sFe
                ·intro vs W1 m1 hE hM hV hD; obtain ⟨⟨_, _, -, -, f178⟩, ⟨_, _, -, -, f171⟩, -⟩ := hD
                 rw [(f178 : vs 178 = _), (f171 : vs 171 = _)]; clear f178 f171; exact sLe
                ·intro vs W1 m1 hE hM hV hD; obtain ⟨⟨_, _, -, -, f177⟩, ⟨_, _, -, -, f179⟩, ⟨_, _, -, -, f171⟩, -⟩ := hD
                 rw [(f177 : vs 177 = _), (f179 : vs 179 = _), (f171 : vs 171 = _)]; clear f177 f179 f171; exact sPw
                ·intro vs W1 m1 hE hM hV hD; obtain ⟨⟨_, _, -, -, f171⟩, ⟨_, _, -, -, f180⟩, ⟨_, _, -, -, f167⟩, -⟩ := hD
                 rw [(f171 : vs 171 = _), (f180 : vs 180 = _), (f167 : vs 167 = _)]; clear f171 f180 f167; exact sPw
                ·intro vs W1 m1 hE hM hV hD; obtain ⟨⟨_, _, -, -, f167⟩, ⟨_, _, -, -, f181⟩, -⟩ := hD
                 rw [(f167 : vs 167 = _), (f181 : vs 181 = _)]; clear f167 f181; exact sPw
               case l37b =>
                refine ⟨nF, nF, nF, nF, nF, nF, nF, nF, nF, nF, nF, nF, nF, nF, nF, nF, nF, trivial⟩
               intro vs W1 m1 hE hM hV hF hD
               clear hD
               obtain ⟨-, -, -, -, -, -, -, -, -, -, -, -, -, -, -, -, ⟨_, _, -, -, f182⟩, -⟩ := hF
               replace hL := hL.call hE hM hV
               have f182 : vs 182 = _ := f182
               generalize vs 182 = x182 at f182 ⊢
               subst x182
               clear hE hV
               simp only [List.drop_succ_cons, List.drop_zero]
               go_wp2_with (first | go_skip | refine tP ?_ | (refine tS ?_; clear hL; intro _ hL) | (refine tB ?_; clear hL; intro _ _ hL _) | (refine tC ?_; clear hL; intro _ _ hL _ hBs))
               refine QN.mk ?_
               go_wp2_with (first | go_skip | refine tP ?_ | (refine tS ?_; clear hL; intro _ hL) | (refine tB ?_; clear hL; intro _ _ hL _) | (refine tC ?_; clear hL; intro _ _ hL _ hBs))
               refine goA ?_
               obtain ⟨vs7, r7, z7, y7, l7⟩ := ROW.out
               refine wl_append (A := []) hL r7 (wanted_none rfl) rfl ap_ints (by omega) rfl rfl (news := [.int .i64 (j : Int)]) rfl ((Blk.sl hBs (n := 1) rfl).le hL.vw.le) rfl (by omega) (by omega) ?_
               have HX7 := Lib.hid (Loc.extOf hL (HX5.out.trans (hX6.trans exX)))
               clear hL
               intro v1 W5 m5 R5 hL r8 e8
               obtain ⟨A9, c9, rfl, -⟩ := r8.lit
               simp only [List.nil_append] at hL
               have rd2 := RowA.snocV (R := IsI) (m := m5) (x := (j : Int)) r8 z7 (y7.mono fun _ _ hv => hv) l7 rfl rfl rfl
               rw [natL_snoc, ← HTP.out] at rd2
               simp only [Act.put, zq1, zq2, zq3]
               go_wp2_with (first | go_skip | refine tP ?_ | (refine tS ?_; clear hL; intro _ hL) | (refine tB ?_; clear hL; intro _ _ hL _) | (refine tC ?_; clear hL; intro _ _ hL _ hBs))
               go_roundw
               case rel => exact ⟨j + 1, m5, n + 1, R5, by omega, by go_num, hL, HX7.out.trans e8, rd2⟩
               case measure => simp [intOf] <;> omega
              ·as_aux_lemma =>
               have hcd : decide (cost1 < pen) = false := decide_eq_false hcp
               rw [hcd, if_neg (by simp), List.append_nil] at HTP
               clear hcp
               go_upto_region 37 with ((first | go_skip | refine tP ?_ | (refine tS ?_; clear hL; intro _ hL) | (refine tB ?_; clear hL; intro _ _ hL _) | (refine tC ?_; clear hL; intro _ _ hL _ hBs)))
               clear h9
               (try simp only [eq_self] at *)
               refine wp_region_by2 17 [false, false, false, false, false, false, false, false, false, false, false, false, false, false, false, false, false] [false, false, false, false, false, false, false, false, false, false, false, false, false, false, false, false, false] [(fun v _ _ => v = ?c37_0c), (fun v _ _ => v = ?c37_1c), (fun v _ _ => v = ?c37_2c), (fun v _ _ => v = ?c37_3c), (fun v _ _ => v = ?c37_4c), (fun v _ _ => v = ?c37_5c), (fun v _ _ => v = ?c37_6c), (fun v _ _ => v = ?c37_7c), (fun v _ _ => v = ?c37_8c), (fun v _ _ => v = ?c37_9c), (fun v _ _ => v = ?c37_10c), (fun v _ _ => v = ?c37_11c), (fun v _ _ => v = ?c37_12c), (fun v _ _ => v = ?c37_13c), (fun v _ _ => v = ?c37_14c), (fun v _ _ => v = ?c37_15c), (fun v _ _ => v = ?c37_16c)] hL.vw mixed [166, 167, 168, 169, 170, 171, 172, 173, 174, 175, 176, 177, 178, 179, 180, 181, 182] _ (by kernel_rfl) (fun vs => by simp only [lay, Act.put, zq1, zq2, zq3]; rfl) (by kernel_rfl) (by decide) (by decide) ?s37c ?l37c ?r37c
               case s37c =>
                refine ⟨?_, ?_, ?_, ?_, ?_, ?_, ?_, ?_, ?_, ?_, ?_, ?_, ?_, ?_, ?_, ?_, ?_, trivial⟩
                ·intro vs W1 m1 hE hM hV hD; clear hD
                 exact sPw
                ·intro vs W1 m1 hE hM hV hD; obtain ⟨⟨_, _, -, -, f166⟩, -⟩ := hD
                 rw [(f166 : vs 166 = _)]; clear f166; exact sPw
                ·intro vs W1 m1 hE hM hV hD; obtain ⟨⟨_, _, -, -, f167⟩, -⟩ := hD
                 rw [(f167 : vs 167 = _)]; clear f167; exact sPw
                ·intro vs W1 m1 hE hM hV hD; obtain ⟨⟨_, _, -, -, f168⟩, ⟨_, _, -, -, f167⟩, -⟩ := hD
                 rw [(f168 : vs 168 = _), (f167 : vs 167 = _)]
                 clear f168 f167
                 replace hL := hL.call hE hM hV
                 go_wp2_with (first | go_skip | refine tP ?_ | (refine tS ?_; clear hL; intro _ hL) | (refine tB ?_; clear hL; intro _ _ hL _) | (refine tC ?_; clear hL; intro _ _ hL _ hBs))
                 refine One2.still hV ?_; exact rfl
                ·intro vs W1 m1 hE hM hV hD; obtain ⟨⟨_, _, -, -, f169⟩, ⟨_, _, -, -, f167⟩, -⟩ := hD
                 rw [(f169 : vs 169 = _), (f167 : vs 167 = _)]; clear f169 f167; exact sPw
                ·intro vs W1 m1 hE hM hV hD; obtain ⟨⟨_, _, -, -, f170⟩, ⟨_, _, -, -, f167⟩, -, -⟩ := hD
                 rw [(f170 : vs 170 = _), (f167 : vs 167 = _)]; clear f170 f167; exact sPw
                ·intro vs W1 m1 hE hM hV hD; obtain ⟨⟨_, _, -, -, f171⟩, -⟩ := hD
                 rw [(f171 : vs 171 = _)]; clear f171; exact sFe
                ·intro vs W1 m1 hE hM hV hD; obtain ⟨⟨_, _, -, -, f172⟩, ⟨_, _, -, -, f171⟩, -⟩ := hD
                 rw [(f172 : vs 172 = _), (f171 : vs 171 = _)]; clear f172 f171; exact sLe
                ·intro vs W1 m1 hE hM hV hD; obtain ⟨⟨_, _, -, -, f171⟩, -⟩ := hD
                 rw [(f171 : vs 171 = _)]; clear f171; exact sPw
                ·intro vs W1 m1 hE hM hV hD; obtain ⟨⟨_, _, -, -, f173⟩, ⟨_, _, -, -, f174⟩, ⟨_, _, -, -, f171⟩, -⟩ := hD
                 rw [(f173 : vs 173 = _), (f174 : vs 174 = _), (f171 : vs 171 = _)]; clear f173 f174 f171; exact sIy
                ·intro vs W1 m1 hE hM hV hD; obtain ⟨⟨_, _, -, -, f175⟩, ⟨_, _, -, -, f171⟩, -⟩ := hD
                 rw [(f175 : vs 175 = _), (f171 : vs 171 = _)]; clear f175 f171; exact sFe
                ·intro vs W1 m1 hE hM hV hD; obtain ⟨⟨_, _, -, -, f176⟩, ⟨_, _, -, -, f171⟩, -⟩ := hD
                 rw [(f176 : vs 176 = _), (f171 : vs 171 = _)]; clear f176 f171; exact sLe
                ·intro vs W1 m1 hE hM hV hD; obtain ⟨⟨_, _, -, -, f171⟩, -⟩ := hD
                 rw [(f171 : vs 171 = _)]; clear f171; exact sFe
                ·intro vs W1 m1 hE hM hV hD; obtain ⟨⟨_, _, -, -, f178⟩, ⟨_, _, -, -, f171⟩, -⟩ := hD
                 rw [(f178 : vs 178 = _), (f171 : vs 171 = _)]; clear f178 f171; exact sLe
                ·intro vs W1 m1 hE hM hV hD; obtain ⟨⟨_, _, -, -, f177⟩, ⟨_, _, -, -, f179⟩, ⟨_, _, -, -, f171⟩, -⟩ := hD
                 rw [(f177 : vs 177 = _), (f179 : vs 179 = _), (f171 : vs 171 = _)]; clear f177 f179 f171; exact sPw
                ·intro vs W1 m1 hE hM hV hD; obtain ⟨⟨_, _, -, -, f171⟩, ⟨_, _, -, -, f180⟩, ⟨_, _, -, -, f167⟩, -⟩ := hD
                 rw [(f171 : vs 171 = _), (f180 : vs 180 = _), (f167 : vs 167 = _)]; clear f171 f180 f167; exact sPw
                ·intro vs W1 m1 hE hM hV hD; obtain ⟨⟨_, _, -, -, f167⟩, ⟨_, _, -, -, f181⟩, -⟩ := hD
                 rw [(f167 : vs 167 = _), (f181 : vs 181 = _)]; clear f167 f181; exact sPw
               case l37c =>
                refine ⟨nF, nF, nF, nF, nF, nF, nF, nF, nF, nF, nF, nF, nF, nF, nF, nF, nF, trivial⟩
               intro vs W1 m1 hE hM hV hF hD
               clear hD
               obtain ⟨-, -, -, -, -, -, -, -, -, -, -, -, -, -, -, -, ⟨_, _, -, -, f182⟩, -⟩ := hF
               replace hL := hL.call hE hM hV
               have f182 : vs 182 = _ := f182
               generalize vs 182 = x182 at f182 ⊢
               subst x182
               clear hE hV
               simp only [List.drop_succ_cons, List.drop_zero]
               go_wp2_with (first | go_skip | refine tP ?_ | (refine tS ?_; clear hL; intro _ hL) | (refine tB ?_; clear hL; intro _ _ hL _) | (refine tC ?_; clear hL; intro _ _ hL _ hBs))
               refine QN.mk ?_
               go_wp2_with (first | go_skip | refine tP ?_ | (refine tS ?_; clear hL; intro _ hL) | (refine tB ?_; clear hL; intro _ _ hL _) | (refine tC ?_; clear hL; intro _ _ hL _ hBs))
               go_roundw
               case rel => exact ⟨j + 1, _, n, Rr, by omega, by go_num, hL, HX5.out.trans (hX6.trans exX), by rw [HTP.out]; exact RowA.le isI_mono ROW.out leX⟩
               case measure => simp [intOf] <;> omega
            ·as_aux_lemma =>
             have hbf : bstT ms us j k2 = false := by simpa using hbs
             rw [hbf, Bool.false_and, if_neg (by simp), List.append_nil] at HTP
             rw [hbf]
             clear hbs hbf HKP
             go_upto_region 37 with ((first | go_skip | refine tP ?_ | (refine tS ?_; clear hL; intro _ hL) | (refine tB ?_; clear hL; intro _ _ hL _) | (refine tC ?_; clear hL; intro _ _ hL _ hBs)))
             clear h9
             (try simp only [eq_self] at *)
             refine wp_region_by2 17 [false, false, false, false, false, false, false, false, false, false, false, false, false, false, false, false, false] [false, false, false, false, false, false, false, false, false, false, false, false, false, false, false, false, false] [(fun v _ _ => v = ?c37_0d), (fun v _ _ => v = ?c37_1d), (fun v _ _ => v = ?c37_2d), (fun v _ _ => v = ?c37_3d), (fun v _ _ => v = ?c37_4d), (fun v _ _ => v = ?c37_5d), (fun v _ _ => v = ?c37_6d), (fun v _ _ => v = ?c37_7d), (fun v _ _ => v = ?c37_8d), (fun v _ _ => v = ?c37_9d), (fun v _ _ => v = ?c37_10d), (fun v _ _ => v = ?c37_11d), (fun v _ _ => v = ?c37_12d), (fun v _ _ => v = ?c37_13d), (fun v _ _ => v = ?c37_14d), (fun v _ _ => v = ?c37_15d), (fun v _ _ => v = ?c37_16d)] hL.vw mixed [166, 167, 168, 169, 170, 171, 172, 173, 174, 175, 176, 177, 178, 179, 180, 181, 182] _ (by kernel_rfl) (fun vs => by simp only [lay, Act.put, zq1, zq2, zq3]; rfl) (by kernel_rfl) (by decide) (by decide) ?s37d ?l37d ?r37d
             case s37d =>
              refine ⟨?_, ?_, ?_, ?_, ?_, ?_, ?_, ?_, ?_, ?_, ?_, ?_, ?_, ?_, ?_, ?_, ?_, trivial⟩
              ·intro vs W1 m1 hE hM hV hD; clear hD
               exact sPw
              ·intro vs W1 m1 hE hM hV hD; obtain ⟨⟨_, _, -, -, f166⟩, -⟩ := hD
               rw [(f166 : vs 166 = _)]; clear f166; exact sPw
              ·intro vs W1 m1 hE hM hV hD; obtain ⟨⟨_, _, -, -, f167⟩, -⟩ := hD
               rw [(f167 : vs 167 = _)]; clear f167; exact sPw
              ·intro vs W1 m1 hE hM hV hD; obtain ⟨⟨_, _, -, -, f168⟩, ⟨_, _, -, -, f167⟩, -⟩ := hD
               rw [(f168 : vs 168 = _), (f167 : vs 167 = _)]; clear f168 f167; exact sPw
              ·intro vs W1 m1 hE hM hV hD; obtain ⟨⟨_, _, -, -, f169⟩, ⟨_, _, -, -, f167⟩, -⟩ := hD
               rw [(f169 : vs 169 = _), (f167 : vs 167 = _)]; clear f169 f167; exact sPw
              ·intro vs W1 m1 hE hM hV hD; obtain ⟨⟨_, _, -, -, f170⟩, ⟨_, _, -, -, f167⟩, -, -⟩ := hD
               rw [(f170 : vs 170 = _), (f167 : vs 167 = _)]; clear f170 f167; exact sPw
              ·intro vs W1 m1 hE hM hV hD; obtain ⟨⟨_, _, -, -, f171⟩, -⟩ := hD
               rw [(f171 : vs 171 = _)]; clear f171; exact sPw
              ·intro vs W1 m1 hE hM hV hD; obtain ⟨⟨_, _, -, -, f172⟩, ⟨_, _, -, -, f171⟩, -⟩ := hD
               rw [(f172 : vs 172 = _), (f171 : vs 171 = _)]; clear f172 f171; exact sPw
              ·intro vs W1 m1 hE hM hV hD; obtain ⟨⟨_, _, -, -, f171⟩, -⟩ := hD
               rw [(f171 : vs 171 = _)]; clear f171; exact sPw
              ·intro vs W1 m1 hE hM hV hD; obtain ⟨⟨_, _, -, -, f173⟩, ⟨_, _, -, -, f174⟩, ⟨_, _, -, -, f171⟩, -⟩ := hD
               rw [(f173 : vs 173 = _), (f174 : vs 174 = _), (f171 : vs 171 = _)]; clear f173 f174 f171; exact sPw
              ·intro vs W1 m1 hE hM hV hD; obtain ⟨⟨_, _, -, -, f175⟩, ⟨_, _, -, -, f171⟩, -⟩ := hD
               rw [(f175 : vs 175 = _), (f171 : vs 171 = _)]; clear f175 f171; exact sPw
              ·intro vs W1 m1 hE hM hV hD; obtain ⟨⟨_, _, -, -, f176⟩, ⟨_, _, -, -, f171⟩, -⟩ := hD
               rw [(f176 : vs 176 = _), (f171 : vs 171 = _)]; clear f176 f171; exact sPw
              ·intro vs W1 m1 hE hM hV hD; obtain ⟨⟨_, _, -, -, f171⟩, -⟩ := hD
               rw [(f171 : vs 171 = _)]; clear f171; exact sPw
              ·intro vs W1 m1 hE hM hV hD; obtain ⟨⟨_, _, -, -, f178⟩, ⟨_, _, -, -, f171⟩, -⟩ := hD
               rw [(f178 : vs 178 = _), (f171 : vs 171 = _)]; clear f178 f171; exact sPw
              ·intro vs W1 m1 hE hM hV hD; obtain ⟨⟨_, _, -, -, f177⟩, ⟨_, _, -, -, f179⟩, ⟨_, _, -, -, f171⟩, -⟩ := hD
               rw [(f177 : vs 177 = _), (f179 : vs 179 = _), (f171 : vs 171 = _)]; clear f177 f179 f171; exact sPw
              ·intro vs W1 m1 hE hM hV hD; obtain ⟨⟨_, _, -, -, f171⟩, ⟨_, _, -, -, f180⟩, ⟨_, _, -, -, f167⟩, -⟩ := hD
               rw [(f171 : vs 171 = _), (f180 : vs 180 = _), (f167 : vs 167 = _)]; clear f171 f180 f167; exact sPw
              ·intro vs W1 m1 hE hM hV hD; obtain ⟨⟨_, _, -, -, f167⟩, ⟨_, _, -, -, f181⟩, -⟩ := hD
               rw [(f167 : vs 167 = _), (f181 : vs 181 = _)]; clear f167 f181; exact sPw
             case l37d =>
              refine ⟨nF, nF, nF, nF, nF, nF, nF, nF, nF, nF, nF, nF, nF, nF, nF, nF, nF, trivial⟩
             intro vs W1 m1 hE hM hV hF hD
             clear hD
             obtain ⟨-, -, -, -, -, -, -, -, -, -, -, -, -, -, -, -, ⟨_, _, -, -, f182⟩, -⟩ := hF
             replace hL := hL.call hE hM hV
             have f182 : vs 182 = _ := f182
             generalize vs 182 = x182 at f182 ⊢
             subst x182
             clear hE hV
             simp only [List.drop_succ_cons, List.drop_zero]
             go_wp2_with (first | go_skip | refine tP ?_ | (refine tS ?_; clear hL; intro _ hL) | (refine tB ?_; clear hL; intro _ _ hL _) | (refine tC ?_; clear hL; intro _ _ hL _ hBs))
             refine QN.mk ?_
             go_wp2_with (first | go_skip | refine tP ?_ | (refine tS ?_; clear hL; intro _ hL) | (refine tB ?_; clear hL; intro _ _ hL _) | (refine tC ?_; clear hL; intro _ _ hL _ hBs))
             go_roundw
             case rel => exact ⟨j + 1, _, n, Rr, by omega, by go_num, hL, HX5.out.trans (hX6.trans exX), by rw [HTP.out]; exact RowA.le isI_mono ROW.out leX⟩
             case measure => simp [intOf] <;> omega
         ·have HPF : Hid (posJ us j = false) := HPO.out.trans (decide_eq_false hpos)
          have hsg : decide (rs q ≤ 0) = true := decide_eq_true (icq_npos hpos)
          rw [HPF.out, Bool.false_and, Bool.false_and, if_neg (by simp), List.append_nil] at HTP
          clear hpos HPO
          generalize rs q = sg at *
          go_wp2_with (first | go_skip | refine tP ?_ | (refine tS ?_; clear hL; intro _ hL) | (refine tB ?_; clear hL; intro _ _ hL _) | (refine tC ?_; clear hL; intro _ _ hL _ hBs))
          go_roundw
          case rel => exact ⟨j + 1, _, n, Rr, by omega, by go_num, hL, hXF.trans exX, by rw [HTP.out]; exact RowA.le isI_mono ROW.out leX⟩
          case measure => simp [intOf] <;> omega
        ·have hjk : j = k := by omega
         subst hjk
         have h9 : (j : Int) ≤ (j : Int) := Int.le_refl _
         have HRL : Hid (rndT ms us j = rndL ms us) := by
          show _ = _
          rw [← rndT_all, HNC.out]
         have row2 := ROW.out
         rw [HRL.out] at row2
         go_wp2_with (first | go_skip | refine tP ?_ | (refine tS ?_; clear hL; intro _ hL) | (refine tB ?_; clear hL; intro _ _ hL _) | (refine tC ?_; clear hL; intro _ _ hL _ hBs))
         obtain ⟨m9, hL9, hle9, hl9, -⟩ := RowA.show (A := []) isI_mono hL row2
         go_ret2
         rw [HR.out.1, HR.out.2]
         exact RetV.mk hL9 ⟨_, rfl, hl9⟩
end Go.Proofs.YtniigfikpfinfaaGreat
