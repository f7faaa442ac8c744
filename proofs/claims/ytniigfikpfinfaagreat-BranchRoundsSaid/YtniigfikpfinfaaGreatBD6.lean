/- Part 6 of 8 of the proof: the law BranchRounds returns true for every input, and its arguments read as before; there is no condition. -/
import Derived.Test.YtniigfikpfinfaaGreatBD5
set_option linter.unusedVariables false
set_option linter.unusedSimpArgs false
set_option maxRecDepth 100000
set_option maxHeartbeats 64000000
/- Contract of branch.Round. -/
namespace Go.Proofs.YtniigfikpfinfaaGreat
open Go.RowKit

theorem b_whole (z : Int) (w m : World) (hV : Vw m w) (h1 : z.natAbs < 1073741824) :
  Calls Tryz.prog 115 #[.int .i64 z] w (RetV w m fun m' r => FracC m' r (z : Rat)) := by
 have hq : Hid (Rat.divInt z 1 = (z : Rat)) := by show _ = _; rw [← Rat.num_divInt_den (z : Rat)]; simp
 have K : Hid (∀ w m, Vw m w → Calls Tryz.prog 94 #[.int .i64 z, .int .i64 1] w (RetV w m fun m' v => ∃ r, v = .tuple #[r, .int .i64 0] ∧ FracC m' r (Rat.divInt z 1))) := by
  show ∀ w m, _
  exact fun w m hV => q_FromInts z 1 w m hV (by omega) (by decide) (by omega)
 have hL := Loc.start hV
 clear hV h1
 go_enter Tryz.func115, Tryz.ntmps115
 go_wp2_with (first | go_skip | refine tP ?_ | (refine tS ?_; clear hL; intro _ hL) | (refine tB ?_; clear hL; intro _ _ hL _))
 refine (K.out _ _ hL.vw).mono ?_
 rintro e W11 ⟨_, m11, rfl, hE, hM11, hV, va, rfl, h1⟩
 replace hL := hL.call hE (by assumption) hV; clear hE hV
 obtain ⟨g, A, n, c, g', B', n', c', rfl, h1⟩ := h1.lit
 go_wp2_with (first | go_skip | refine tP ?_ | (refine tS ?_; clear hL; intro _ hL) | (refine tB ?_; clear hL; intro _ _ hL _))
 refine fin_agg hL Tryz.results115 rfl rfl loX AgC.h (by exact rfl) ?_
 rw [← hq.out]; exact h1.le leX

theorem b_Round_len (xv : Value) (x : Ms) (V : Option Addr) (n c : Nat) (w m : World) (hV : Vw m w) (hx : MasterR m xv x) (ok : MsOk x) (hn : n ≠ x.cols.length) :
  Calls Tryz.prog 54 #[xv, .slice V n c] w (RetV w m fun _ r => r = .tuple #[.slice none 0 0, .int .i64 12]) := by
 have HX := Lib.hid hx
 obtain ⟨A, nr, ca, B, nc, cb, C, nk, cc, rfl, hx1⟩ := hx.lit
 have KV : Hid (∀ w m', Vw m' w → Le m m' → Calls Tryz.prog 96 #[.agg #[.int .i64 x.nf, .slice A nr ca, .int .i64 x.pen, .slice B nc cb, .slice C nk cc], .slice V n c] w (RetV w m' fun _ r => r = .int .i64 12)) := by
  show ∀ w m', _
  exact fun w m' hV hle => b_check _ x V n c 12 w m' hV (HX.out.le hle) ok (by rw [if_neg hn])
 have hL := Loc.start hV
 clear hV hx1 HX ok hn
 generalize x.nf = nf at *
 generalize x.pen = pen at *
 go_enter Tryz.func54, Tryz.ntmps54
 go_upto_region 0 with (fail)
 refine wp_region_lit ?_
 refine t_box hL rfl rfl ?_; clear hL; intro Wh2 mh2 hL eh2; simp only [Act.put, zq1, zq2, zq3]
 go_wp2_with (first | go_skip | refine tP ?_ | (refine tS ?_; clear hL; intro _ hL) | (refine tB ?_; clear hL; intro _ _ hL _))
 refine (KV.out _ _ hL.vw leX).mono ?_
 rintro e Wc1 ⟨_, mc1, rfl, hE, hMc1, hV, rfl⟩
 replace hL := hL.call hE (by assumption) hV; clear hE hV
 go_wp2_with (first | go_skip | refine tP ?_ | (refine tS ?_; clear hL; intro _ hL) | (refine tB ?_; clear hL; intro _ _ hL _))
 go_ret2
 exact RetV.mk hL rfl

theorem b_Round (xv vv : Value) (x : Ms) (us : List Rat) (w m : World) (hV : Vw m w) (hx : MasterR m xv x) (hvv : FracL m vv us) (ok : VOk x us) (h6 : x.cols.length ≤ 6) :
  Calls Tryz.prog 54 #[xv, vv] w (RetV w m fun m' r => ∃ v, r = .tuple #[v, .int .i64 (rndE x us)] ∧ IntL m' v (rndO x us)) := by
 have HX := Lib.hid hx
 have HVV := Lib.hid hvv
 have OK := Lib.hid ok
 obtain ⟨ms, hms⟩ : ∃ ms, ms = x := ⟨_, rfl⟩
 have HMS := Lib.hid hms
 rw [← hms]
 obtain ⟨nf, rws, pen, cols, cuts⟩ := x
 obtain ⟨va, vb, vc, rfl, ha, hb, hc⟩ := hx
 simp only at ha hb hc
 obtain ⟨A, ca, rfl, hca, ha⟩ := ha.lit
 obtain ⟨B, cb, rfl, hcb, hb⟩ := hb.lit
 obtain ⟨C, cc, rfl, hcc, hc⟩ := hc.lit
 obtain ⟨V, cv, rfl, hcv, hvv⟩ := hvv.lit
 have HRO := Lib.hid ha
 have HCO := Lib.hid hb
 have HVA := Lib.hid hvv
 have KV : Hid (∀ w m', Vw m' w → Le m m' → Calls Tryz.prog 96 #[.agg #[.int .i64 nf, .slice A rws.length ca, .int .i64 pen, .slice B cols.length cb, .slice C cuts.length cc], .slice V us.length cv] w (RetV w m' fun _ r => r = .int .i64 0)) := by
  show ∀ w m', _
  exact fun w m' hV hle => b_check _ _ V us.length cv 0 w m' hV (HX.out.le hle) ok.ms (by rw [if_pos ok.len])
 have KF : Hid (∀ w m', Vw m' w → Le m m' → Calls Tryz.prog 97 #[.agg #[.int .i64 nf, .slice A rws.length ca, .int .i64 pen, .slice B cols.length cb, .slice C cuts.length cc], .slice V us.length cv] w (RetV w m' fun m' r => ∃ ys, IsFol (entS cols us cols.length) ys ∧ FolL m' r ys)) := by
  show ∀ w m', _
  exact fun w m' hV hle => b_follows _ _ _ us w m' hV (HX.out.le hle) (FracL.le HVV.out hle) ok
 have KC : Hid (∀ w m', Vw m' w → Le m m' → Calls Tryz.prog 116 #[.agg #[.int .i64 nf, .slice A rws.length ca, .int .i64 pen, .slice B cols.length cb, .slice C cuts.length cc], .slice V us.length cv] w (RetV w m' fun m' r => IntL m' r (natL (rndL ms us)))) := by
  show ∀ w m', _
  rw [hms]
  exact fun w m' hV hle => b_cheapest _ _ _ us w m' hV (HX.out.le hle) (FracL.le HVV.out hle) ok h6
 have HC : Hid (∀ c ∈ cols, ColOk rws c) := ok.ms.cols
 have HT : Hid (∀ v ∈ us, Tw 18 v) := ok.tw
 have HE : Hid (∀ k, (entI cols us k).length ≤ 3200 ∧ ∀ e ∈ entI cols us k, Tw 18 e.2) := by
  show ∀ k, _
  exact fun k => ⟨ok.entI_len k, fun e he => (ok.entI_mem he).1⟩
 have HLW : Hid (∀ r ∈ rws, Wf r) := by
  show ∀ r ∈ rws, _
  intro r hr
  have h1 := ok.ms.low r hr
  have h2 := ok.ms.f1
  simp only at h1 h2
  exact wf_small (by omega) (by omega)
 have HLN : Hid (∀ c ∈ cols, (opF c.2.1).length ≤ 32) := by
  show ∀ c ∈ cols, _
  exact fun c hc => ok.col_len hc
 have HSU : Hid (∀ r, sumI (entI cols us cols.length) r = sumR cols us r cols.length) := by
  show ∀ r, _
  exact fun r => sum_one cols us r (fun c hc => (ok.ms.cols c hc).nodup) _
 have HMR : Hid (ms.rows = rws ∧ ms.cols = cols) := by show _ ∧ _; rw [hms]; exact ⟨rfl, rfl⟩
 have HFL : Hid (IsFol (entS cols us cols.length) (flY (entS cols us cols.length) rws rws)) := fl_is ok
 have hlen : us.length = cols.length := ok.len
 have hfew : cols.length ≤ 6 := h6
 have hr32 : rws.length ≤ 32 := ok.ms.r1
 have HFLL : Hid ((flY (entS cols us cols.length) rws rws).length ≤ 1024) := Nat.le_trans (flY_len _ _ _) (Nat.mul_le_mul hr32 hr32)
 have hL := Loc.start hV
 clear hV ok ha hb hc hvv HX HVV hms OK h6 HMS
 rw [hlen] at HVA hcv KV KF KC ⊢
 have HNV := Lib.hid hlen
 clear hlen
 simp only
 generalize hn1 : cols.length = nc at *
 have HN1 := Lib.hid hn1
 clear hn1
 generalize hn2 : rws.length = nr at *
 have HN2 := Lib.hid hn2
 clear hn2
 generalize cuts.length = nk at *
 go_enter Tryz.func54, Tryz.ntmps54
 go_upto_region 0 with (fail)
 refine wp_region_lit ?_
 refine t_box hL rfl rfl ?_; clear hL; intro Wh2 mh2 hL eh2; simp only [Act.put, zq1, zq2, zq3]
 obtain ⟨m2, hL2, hle2, hbx⟩ := Loc.showBox (cs := [.int .i64 nf, .slice A nr ca, .int .i64 pen, .slice B nc cb, .slice C nk cc]) hL
 have hM2 := hL2.mext
 have hb0 : m2.rangeAt w.heap.size 0 [.int .i64 nf, .slice A nr ca, .int .i64 pen, .slice B nc cb, .slice C nk cc] := fun j v hv => by rw [Nat.zero_add]; exact hbx j v hv
 have hb1 := hbx 1 _ rfl
 have hb3 := hbx 3 _ rfl
 clear hL hle2 hbx eh2
 have hL := hL2
 clear hL2
 go_wp2_with (first | go_skip | refine tP ?_ | (refine tS ?_; clear hL; intro _ hL) | (refine tB ?_; clear hL; intro _ _ hL _))
 refine (KV.out _ _ hL.vw leX).mono ?_
 rintro e Wc1 ⟨_, mc1, rfl, hE, hMc1, hV, rfl⟩
 replace hL := hL.call hE (by assumption) hV; clear hE hV
 clear KV
 have hmm := @run_makeMap Tryz.prog
 go_upto_region 5 with ((first | go_skip | refine tP ?_ | (refine tS ?_; clear hL; intro _ hL) | (refine tB ?_; clear hL; intro _ _ hL _)))
 clear hmm
 have hlow : w.heap.size ≤ Wc1.heap.size := hL.ext.size
 have hX1 : Ext m2 (hidTo mc1 (Wc1.alloc (.map #[] 0)).heap.size) := Ext.trans (exX : Ext m2 mc1) (hidTo_ext (by rw [hL.vw.size]; simp))
 have hL9 := hL.allocM (.map #[] 0)
 clear hL
 have hL := hL9
 clear hL9
 refine wp_region_lit ?_
 go_wp2_with (first | go_skip | refine tP ?_ | (refine tS ?_; clear hL; intro _ hL) | (refine tB ?_; clear hL; intro _ _ hL _))
 go_loopw [27] (fun i wr => ∃ (k : Nat) (mm : World), k ≤ nc ∧ i = .int .i64 k ∧ Loc w m wr mm [] ∧ Hid (Ext m2 mm) ∧ Hid (GMap wr mm Wc1.heap.size (entI cols us k)) ∧ Hid (∀ (j : Nat) (u : Rat), j < k → us[j]? = some u → ¬ u < 0)) (fun i _ => nc - (intOf i).toNat)
 case atStart => exact ⟨0, _, Nat.zero_le _, rfl, hL, hX1, GMap.made _ _, fun j u h => absurd h (Nat.not_lt_zero _)⟩
 case round =>
  clear hL hX1 hMc1
  obtain ⟨k, mm, hk, rfl, hL0, HXM, FM, HNG⟩ := hrel
  obtain ⟨wq, rfl⟩ := hL0.world
  have hXM := HXM.out
  by_cases hlt : k < nc
  ·have hL := Loc.start hL0.vw
   obtain ⟨⟨s, ds, cost⟩, hx⟩ := at_some HN1 hlt
   obtain ⟨q, hq⟩ := at_some HNV hlt
   have hco := HCO.out
   have hva := HVA.out
   obtain ⟨b1, o1, D, cd, rfl, hds, hr1⟩ := ColL.at_ hco hx
   obtain ⟨b2, o2, g2, A2, n2, c2, h2, B2, k2, d2, rfl, hp2, hr2⟩ := FracL.at_ hva hq
   obtain ⟨i1, i2, i3, i4, i5, i6, i7⟩ := HC.out _ (List.mem_of_getElem? hx)
   simp only at hds hr1 i1 i2 i3 i4 i5 i6 i7
   have HD := Lib.hid hds
   have HD3 := Lib.hid i3
   have HD4 := Lib.hid i4
   have HD6 := Lib.hid i6
   have HP2 := Lib.hid hp2
   have HTQ : Hid (Tw 18 q) := HT.out q (List.mem_of_getElem? hq)
   have HFQ : Hid (Fit 200 q) := HTQ.out.fit (by decide)
   have HSQ : Hid (Sm q.num q.den) := HTQ.out.sm (by decide)
   have hn32 : (opF ds).length ≤ 32 := HLN.out _ (List.mem_of_getElem? hx)
   have HST := Lib.hid (entI_step hx hq)
   have HQ := Lib.hid hq
   simp only at HST
   clear hx hq hds hp2 i1 i2 i3 i4 i6 i7 hco hva
   generalize hnd : ds.length = nd at *
   have HND := Lib.hid hnd
   clear hnd
   go_wp2_with (first | go_skip | refine tP ?_ | (refine tS ?_; clear hL; intro _ hL) | (refine tB ?_; clear hL; intro _ _ hL _))
   refine (q_Sign _ q _ _ hL.vw (HP2.out.le leX) HFQ.out).mono ?_
   rintro e Wc2 ⟨_, mc2, rfl, hE, hMc2, hV, rfl⟩
   replace hL := hL.call hE (by assumption) hV; clear hE hV
   by_cases hneg : q < 0
   ·have HR := Lib.hid (rnd_neg (ms := ms) ⟨q, List.mem_of_getElem? HQ.out, hneg⟩)
    have hsg : icmp q.num 0 < 0 := by
     have : q.num < 0 := num_neg'.1 hneg
     unfold icmp
     rw [if_pos (by omega)]; omega
    clear hneg
    generalize icmp q.num 0 = sg at *
    go_wp2_with (first | go_skip | refine tP ?_ | (refine tS ?_; clear hL; intro _ hL) | (refine tB ?_; clear hL; intro _ _ hL _))
    go_ret2
    rw [HR.out.1, HR.out.2]
    exact RetV.mk (hL0.join hL) ⟨_, rfl, ListV.nil⟩
   ·have hsg : 0 ≤ icmp q.num 0 := by
     have : ¬ q.num < 0 := fun h => hneg (num_neg'.2 h)
     unfold icmp
     rw [if_neg (by omega)]; split <;> omega
    have HNG2 : Hid (∀ (j : Nat) (u : Rat), j < k + 1 → us[j]? = some u → ¬ u < 0) := by
     show ∀ j u, _
     intro j u hj hu
     rcases Nat.lt_succ_iff_lt_or_eq.1 hj with h' | rfl
     ·exact HNG.out j u h' hu
     ·rw [HQ.out] at hu; cases hu; exact hneg
    have hsd : decide (icmp q.num 0 < 0) = false := decide_eq_false (by omega)
    clear hneg HNG
    generalize icmp q.num 0 = sg at *
    go_wp2_with (first | go_skip | refine tP ?_ | (refine tS ?_; clear hL; intro _ hL) | (refine tB ?_; clear hL; intro _ _ hL _))
    refine (e_Operated s _ ds _ _ hL.vw (DutsL.le HD.out leX) (by rw [HND.out]; exact HD3.out) HD4.out).mono ?_
    rintro e Wo1 ⟨vo1, mo1, rfl, hE, hMo1, hV, ho1⟩
    replace hL := hL.call hE (by assumption) hV; clear hE hV
    obtain ⟨Ao, co, rfl, hco, ho1⟩ := ho1.lit
    have HOP := Lib.hid ho1
    have FM1 : Hid (GMap Wo1 mo1 Wc1.heap.size (entI cols us k)) := (FM.out.ext hL.ext).le hL.mext.le
    have hM1 := hL.mext
    have hL1 := (hL0.join hL).sub (List.nil_sublist _)
    clear ho1 hr1 FM hL hL0 hsd hsg
    have hL := hL1
    clear hL1
    generalize hno : (opF ds).length = no at *
    have HNO := Lib.hid hno
    clear hno
    go_wp2_with (first | go_skip | refine tP ?_ | (refine tS ?_; clear hL; intro _ hL) | (refine tB ?_; clear hL; intro _ _ hL _))
    go_loopw [42] (fun i wr => ∃ (j : Nat) (m4 : World), j ≤ no ∧ i = .int .i64 (j : Int) ∧ Loc w m wr m4 [] ∧ Hid (Ext mo1 m4) ∧ Hid (GMap wr m4 Wc1.heap.size (entI cols us k ++ colI (opF ds) q j))) (fun i _ => no - (intOf i).toNat)
    case atStart =>
     refine ⟨0, mo1, by omega, rfl, hL, Ext.refl _, ?_⟩
     rw [show colI (opF ds) q 0 = [] from rfl, List.append_nil]
     exact FM1.out
    case round =>
     clear hL FM1
     obtain ⟨j, m4, hj, rfl, hL0, HX, FM⟩ := hrel
     have hX2 := HX.out
     have hL := Loc.start hL0.vw
     by_cases hlt2 : j < no
     ·have hlt2' : (j : Int) < (no : Int) := by omega
      obtain ⟨a, ha⟩ := at_some HNO hlt2
      obtain ⟨b3, o3, rfl, hc3⟩ := IntL.at_ HOP.out ha
      replace hc3 := hX2.le.cell _ _ hc3
      have wa : Wf a := HLW.out _ (HD6.out a (List.mem_of_getElem? ha))
      have HWA := Lib.hid wa
      have HCE : Hid (colI (opF ds) q j ++ [(a, q)] = colI (opF ds) q (j + 1)) := colI_step ha
      obtain ⟨v0, hs0, hlk⟩ := FM.out.look wa
      obtain ⟨g0, A0, n0, c0, f0, B0, p0, q0, rfl⟩ := hs0.lit
      have HS0 := Lib.hid hs0
      have HLK := Lib.hid hlk
      have HTS : Hid (∀ e ∈ entI cols us k ++ colI (opF ds) q j, Tw 18 e.2) := by
       show ∀ e ∈ _, _
       intro e he
       rcases List.mem_append.1 he with h | h
       ·exact (HE.out k).2 e h
       ·obtain ⟨p, _, rfl⟩ := List.mem_map.1 h
        exact HTQ.out
      have HLS : Hid ((entI cols us k ++ colI (opF ds) q j).length ≤ 6400) := by
       show _ ≤ _
       rw [List.length_append]
       have h1 := (HE.out k).1
       have h2 := colI_len (opF ds) q j
       have h3 := HNO.out
       omega
      have HS1 : Hid (Sm (sumI (entI cols us k ++ colI (opF ds) q j) a).num (sumI (entI cols us k ++ colI (opF ds) q j) a).den) :=
       (sumI_tw HTS.out (Nat.le_trans HLS.out (by decide)) _).sm (by decide)
      clear ha wa hs0 hlk
      generalize hSS : entI cols us k ++ colI (opF ds) q j = SS at *
      have HSS := Lib.hid hSS
      clear hSS
      go_upto_region 13 with ((first | go_skip | refine tP ?_ | (refine tS ?_; clear hL; intro _ hL) | (refine tB ?_; clear hL; intro _ _ hL _)))
      (try simp only [eq_self] at *)
      refine wp_region_by2 10 [false, false, false, false, false, false, false, false, false, false] [false, false, false, false, false, false, false, false, false, false] [(fun v _ _ => v = ?c13_0), (fun v _ _ => v = ?c13_1), (fun v _ _ => v = ?c13_2), (fun v _ _ => v = ?c13_3), Is (.agg #[.bool g0, .slice A0 n0 c0, .bool f0, .slice B0 p0 q0]), (fun v _ _ => v = ?c13_5), (fun v _ _ => v = ?c13_6), (fun v _ _ => v = ?c13_7), (fun v _ _ => v = ?c13_8), Of (fun um v => FracC um v (sumI SS a + q))] hL.vw mixed [46, 47, 48, 49, 50, 51, 52, 53, 54, 55] _ (by kernel_rfl) (fun vs => by simp only [lay, Act.put, zq1, zq2, zq3]; rfl) (by kernel_rfl) (by decide) (by decide) ?s13 ?l13 ?r13
      case s13 =>
       refine ⟨?_, ?_, ?_, ?_, ?_, ?_, ?_, ?_, ?_, ?_, trivial⟩
       ·intro vs W1 m1 hE hM hV hD; clear hD
        exact sPw
       ·intro vs W1 m1 hE hM hV hD; clear hD
        exact sPw
       ·intro vs W1 m1 hE hM hV hD; clear hD
        exact sPw
       ·intro vs W1 m1 hE hM hV hD; clear hD
        exact sPw
       ·intro vs W1 m1 hE hM hV hD; obtain ⟨⟨_, _, -, -, f48⟩, ⟨_, _, -, -, f49⟩, -⟩ := hD
        rw [(f48 : vs 48 = _), (f49 : vs 49 = _)]
        clear f48 f49
        have hr := HLK.out _ (hL.ext.trans hE); go_wp2_with fail; refine One2.still hV ?_; exact rfl
       ·intro vs W1 m1 hE hM hV hD; clear hD
        exact sPw
       ·intro vs W1 m1 hE hM hV hD; clear hD
        exact sPw
       ·intro vs W1 m1 hE hM hV hD; obtain ⟨⟨_, _, -, -, f51⟩, ⟨_, _, -, -, f52⟩, -⟩ := hD
        rw [(f51 : vs 51 = _), (f52 : vs 52 = _)]; clear f51 f52; exact sIy
       ·intro vs W1 m1 hE hM hV hD; obtain ⟨⟨_, _, -, -, f53⟩, -⟩ := hD
        rw [(f53 : vs 53 = _)]; clear f53; exact sLe
       ·intro vs W1 m1 hE hM hV hD; obtain ⟨⟨_, _, -, -, f50⟩, ⟨_, _, -, -, f54⟩, -⟩ := hD
        rw [(f50 : vs 50 = _), (f54 : vs 54 = _)]
        clear f50 f54
        go_wp2_with fail
        refine (q_AddSum _ _ _ _ _ _ hV (HS0.out.le leX) (HP2.out.le leX) HS1.out HSQ.out).mono ?_
        rintro e W2 ⟨v, m2, rfl, hE2, hM2, hV2, h⟩
        go_wp2_with fail
        refine One2.call hE2 hM2 hV2 ?_; first | exact h | exact rfl
      case l13 =>
       refine ⟨nF, nF, nF, nF, nF, nF, nF, nF, nF, nF, trivial⟩
      intro vs W1 m1 hE hM hV hF hD
      clear hD
      obtain ⟨⟨_, _, -, -, f46⟩, ⟨_, _, -, -, f47⟩, -, -, -, -, -, -, -, ⟨_, _, -, i55, f55⟩, -⟩ := hF
      replace hL := hL.call hE hM hV
      have f46 : vs 46 = _ := f46
      generalize vs 46 = x46 at f46 ⊢
      subst x46
      have f47 : vs 47 = _ := f47
      generalize vs 47 = x47 at f47 ⊢
      subst x47
      replace f55 : FracC _ (vs 55) (sumI SS a + q) := f55
      replace f55 := f55.le i55.le
      clear i55
      obtain ⟨g55, A55, n55, c55, h55, B55, k55, d55, e55, f55⟩ := f55.lit
      generalize vs 55 = x55 at e55 ⊢
      subst x55
      clear hE hV
      simp only [List.drop_succ_cons, List.drop_zero]
      have hfm := (FM.out.ext hL.ext).le hL.mext.le
      obtain ⟨W9, hup, hf9, hg9⟩ := hfm.up (Nat.le_trans HLS.out (by decide)) HWA.out f55
      have HF9 := Lib.hid hf9
      have HG9 := Lib.hid hg9
      have HNC := Lib.hid hfm.notCells
      have hM9 := hL.mext
      have hsz9 := hL.vw.size
      have hL9 := (hL0.join hL).sub (List.nil_sublist _)
      clear hL hL0 hfm hf9 hg9 FM f55
      have hL := hL9
      clear hL9
      go_wp2_with (first | go_skip | refine tP ?_ | (refine tS ?_; clear hL; intro _ hL) | (refine tB ?_; clear hL; intro _ _ hL _))
      refine QN.mk ?_
      go_wp2_with (first | go_skip | refine tP ?_ | (refine tS ?_; clear hL; intro _ hL) | (refine tB ?_; clear hL; intro _ _ hL _))
      go_roundw
      case rel =>
       have hx9 : Ext _ (hidTo _ W9.heap.size) := hidTo_ext (by rw [hsz9]; exact HG9.out.size)
       refine ⟨j + 1, _, by omega, by go_num, hL.mapTurn HG9.out hlow HNC.out, hX2.trans (hM9.trans hx9), ?_⟩
       rw [← HCE.out, ← List.append_assoc, HSS.out]
       exact HF9.out.le hx9.le
      case measure => simp [intOf] <;> omega
     ·have HCE : Hid (colI (opF ds) q j = (opF ds).map fun f => (f, q)) := colI_end (by rw [HNO.out]; omega)
      clear hL
      have hL := hL0
      go_wp2_with (first | go_skip | refine tP ?_ | (refine tS ?_; clear hL; intro _ hL) | (refine tB ?_; clear hL; intro _ _ hL _))
      go_roundw
      case rel => exact ⟨k + 1, m4, by omega, by go_num, hL, (hXM.trans hM1).trans hX2, by rw [← HST.out, ← HCE.out]; exact FM.out, HNG2.out⟩
      case measure => simp [intOf] <;> omega
  ·have hkn : k = nc := by omega
   subst hkn
   have h9 : (k : Int) ≤ (k : Int) := Int.le_refl _
   have HN0 : Hid (¬ ∃ u ∈ us, u < 0) := by
    rintro ⟨u, hu, h0⟩
    obtain ⟨j, hj⟩ := List.mem_iff_getElem?.1 hu
    have h1 := (List.getElem?_eq_some_iff.1 hj).1
    have h2 := HNV.out
    exact HNG.out j u (by omega) hj h0
   have HTS : Hid (∀ r, Sm (sumR cols us r k).num (sumR cols us r k).den) := by
    show ∀ r, _
    intro r
    rw [← HSU.out]
    exact (sumI_tw (HE.out k).2 (Nat.le_trans (HE.out k).1 (by decide)) _).sm (by decide)
   clear HNG HTS
   have HTS : Hid (∀ r, Sm (sumI (entI cols us k) r).num (sumI (entI cols us k) r).den) := by
    show ∀ r, _
    intro r
    exact (sumI_tw (HE.out k).2 (Nat.le_trans (HE.out k).1 (by decide)) _).sm (by decide)
   have HS1 : Hid (Sm ((1 : Int) : Rat).num ((1 : Int) : Rat).den) := ⟨by decide, by decide⟩
   have hL := Loc.start hL0.vw
   go_wp2_with (first | go_skip | refine tP ?_ | (refine tS ?_; clear hL; intro _ hL) | (refine tB ?_; clear hL; intro _ _ hL _))
   refine (b_whole 1 _ _ hL.vw (by decide)).mono ?_
   rintro e Ww1 ⟨vw1, mw1, rfl, hE, hMw1, hV, hw1⟩
   replace hL := hL.call hE (by assumption) hV; clear hE hV
   obtain ⟨gw1', Aw1', nw1', cw1', hw1', Bw1', kw1', dw1', rfl, hw1⟩ := hw1.lit
   have HW1 := Lib.hid hw1
   clear hw1
   go_upto_region 17 with ((first | go_skip | refine tP ?_ | (refine tS ?_; clear hL; intro _ hL) | (refine tB ?_; clear hL; intro _ _ hL _)))
   obtain ⟨m7, hL7, hle7, hb7⟩ := Loc.showBox (cs := [.bool gw1', .slice Aw1' nw1' cw1', .bool hw1', .slice Bw1' kw1' dw1']) hL
   have hXw : Ext mm m7 := hL7.mext
   have HW7 := Lib.hid (HW1.out.le (Le.trans leX hle7))
   have FM7 : Hid (GMap _ m7 Wc1.heap.size (entI cols us k)) := (FM.out.ext hL7.ext).le hXw.le
   have hXw2 := hXM.trans hXw
   have hL9 := hL0.join hL7
   have hr7 : m7.rangeAt _ 0 [.bool gw1', .slice Aw1' nw1' cw1', .bool hw1', .slice Bw1' kw1' dw1'] := fun j v hv => by rw [Nat.zero_add]; exact hb7 j v hv
   have HR7 := Lib.hid hr7
   clear hL hL0 hL7 hle7 hb7 HW1 FM hXw hXM HXM hMw1 hr7
   have hL := hL9
   clear hL9
   simp only [List.append_nil] at hL
   go_wp2_with (first | go_skip | refine tP ?_ | (refine tS ?_; clear hL; intro _ hL) | (refine tB ?_; clear hL; intro _ _ hL _))
   go_loopw [62] (fun i wr => ∃ (t : Nat) (mm2 : World), t ≤ nr ∧ i = .int .i64 (t : Int) ∧ Loc w m wr mm2 [] ∧ Hid (Ext m7 mm2) ∧ Hid (GMap wr mm2 Wc1.heap.size (entI cols us k)) ∧ Hid (∀ (j : Nat) (r : Int), j < t → rws[j]? = some r → ¬ ((1 : Int) : Rat) < sumI (entI cols us k) r)) (fun i _ => nr - (intOf i).toNat)
   case atStart => exact ⟨0, _, Nat.zero_le _, rfl, hL, Ext.refl _, FM7.out, fun j u h => absurd h (Nat.not_lt_zero _)⟩
   case round =>
    clear hL FM7
    obtain ⟨t, mm2, ht, rfl, hL0, HX7, FM, HNB⟩ := hrel
    obtain ⟨wq2, rfl⟩ := hL0.world
    have hX7 := HX7.out
    have hL := Loc.start hL0.vw
    by_cases hlt3 : t < nr
    ·have hlt3' : (t : Int) < (nr : Int) := by omega
     obtain ⟨r, hr⟩ := at_some HN2 hlt3
     obtain ⟨b3, o3, rfl, hc3⟩ := IntL.at_ HRO.out hr
     have wa : Wf r := HLW.out _ (List.mem_of_getElem? hr)
     obtain ⟨v0, hs0, hlk⟩ := FM.out.look wa
     obtain ⟨g0, A0, n0, c0, f0, B0, p0, q0, rfl⟩ := hs0.lit
     have HS0 := Lib.hid hs0
     have hlk0 := hlk _ (Ext.refl _)
     have HSR := HTS.out r
     have HR0 := Lib.hid hr
     have hr7 := HR7.out
     clear hr wa hs0 hlk
     go_wp2_with (first | go_skip | refine tP ?_ | (refine tS ?_; clear hL; intro _ hL) | (refine tB ?_; clear hL; intro _ _ hL _))
     refine (q_CompareSum _ _ (sumI (entI cols us k) r) ((1 : Int) : Rat) _ _ hL.vw (HS0.out.le leX) (HW7.out.le leX) HSR HS1.out).mono ?_
     rintro e Wc3 ⟨_, mc3, rfl, hE, hMc3, hV, rfl⟩
     replace hL := hL.call hE (by assumption) hV; clear hE hV
     by_cases hbig : ((1 : Int) : Rat) < sumI (entI cols us k) r
     ·have HR := Lib.hid (rnd_big (ms := ms) HN0.out ⟨r, by rw [HMR.out.1]; exact List.mem_of_getElem? HR0.out, by rw [HMR.out.2, HN1.out, ← HSU.out]; exact hbig⟩)
      have hsg : rs (sumI (entI cols us k) r - ((1 : Int) : Rat)) > 0 := by
       have := icq_pos (((Rat.lt_iff_sub_pos _ _).1 hbig))
       unfold rs; omega
      clear hbig
      generalize rs (sumI (entI cols us k) r - ((1 : Int) : Rat)) = sg at *
      go_wp2_with (first | go_skip | refine tP ?_ | (refine tS ?_; clear hL; intro _ hL) | (refine tB ?_; clear hL; intro _ _ hL _))
      go_ret2
      rw [HR.out.1, HR.out.2]
      exact RetV.mk (hL0.join hL) ⟨_, rfl, ListV.nil⟩
     ·have hsg : rs (sumI (entI cols us k) r - ((1 : Int) : Rat)) ≤ 0 := icq_npos fun h => hbig ((Rat.lt_iff_sub_pos _ _).2 h)
      have HNB2 : Hid (∀ (j : Nat) (u : Int), j < t + 1 → rws[j]? = some u → ¬ ((1 : Int) : Rat) < sumI (entI cols us k) u) := by
       show ∀ j u, _
       intro j u hj hu
       rcases Nat.lt_succ_iff_lt_or_eq.1 hj with h' | rfl
       ·exact HNB.out j u h' hu
       ·rw [HR0.out] at hu; cases hu; exact hbig
      have hsd : decide (rs (sumI (entI cols us k) r - ((1 : Int) : Rat)) > 0) = false := decide_eq_false (by omega)
      clear hbig
      generalize rs (sumI (entI cols us k) r - ((1 : Int) : Rat)) = sg at *
      go_wp2_with (first | go_skip | refine tP ?_ | (refine tS ?_; clear hL; intro _ hL) | (refine tB ?_; clear hL; intro _ _ hL _))
      go_roundw
      case rel => exact ⟨t + 1, _, by omega, by go_num, hL0.join hL, hX7.trans exX, (FM.out.ext hL.ext).le leX, HNB2.out⟩
      case measure => simp [intOf] <;> omega
    ·have htn : t = nr := by omega
     subst htn
     have h8 : (t : Int) ≤ (t : Int) := Int.le_refl _
     have HN1b : Hid (¬ ∃ r ∈ ms.rows, ((1 : Int) : Rat) < sumR ms.cols us r ms.cols.length) := by
      rw [HMR.out.1, HMR.out.2, HN1.out]
      rintro ⟨r, hr, h0⟩
      rw [← HSU.out] at h0
      obtain ⟨j, hj⟩ := List.mem_iff_getElem?.1 hr
      have h1 := (List.getElem?_eq_some_iff.1 hj).1
      have h2 := HN2.out
      exact HNB.out j r (by omega) hj h0
     have hX72 := hXw2.trans hX7
     clear HNB HTS hX7 HX7 FM HW7 HR7 hXw2 hL
     have hL := hL0
     clear hL0
     go_wp2_with (first | go_skip | refine tP ?_ | (refine tS ?_; clear hL; intro _ hL) | (refine tB ?_; clear hL; intro _ _ hL _))
     refine (KF.out _ _ hL.vw leX).mono ?_
     rintro e Wf ⟨vf, mf, rfl, hE, hMf, hV, ys, hf, hyl⟩
     replace hL := hL.call hE (by assumption) hV; clear hE hV
     obtain ⟨Y, cy, rfl, hcy, hyl⟩ := hyl.lit
     have HYL := Lib.hid hyl
     have HYS : Hid (ys = flY (entS cols us k) rws rws) := hf.unique HFL.out
     clear hf hyl hcy
     have hny0 : ys.length ≤ 1024 := by rw [HYS.out]; exact HFLL.out
     generalize hny : ys.length = ny at *
     have HNY := Lib.hid hny
     clear hny
     go_wp2_with (first | go_skip | refine tP ?_ | (refine tS ?_; clear hL; intro _ hL) | (refine tB ?_; clear hL; intro _ _ hL _))
     go_loopw [77] (fun i wr => ∃ (s : Nat) (mm3 : World), s ≤ ny ∧ i = .int .i64 (s : Int) ∧ Loc w m wr mm3 [] ∧ Hid (Ext mf mm3) ∧ Hid (∀ (j : Nat) (y : PQ), j < s → ys[j]? = some y → y.2.den = 1)) (fun i _ => ny - (intOf i).toNat)
     case atStart => exact ⟨0, _, Nat.zero_le _, rfl, hL, Ext.refl _, fun j u h => absurd h (Nat.not_lt_zero _)⟩
     case round =>
      clear hL
      obtain ⟨s, mm3, hs, rfl, hL, HXF, HDN⟩ := hrel
      have hXF := HXF.out
      by_cases hlt4 : s < ny
      ·have hlt4' : (s : Int) < (ny : Int) := by omega
       obtain ⟨y, hy⟩ := at_some HNY hlt4
       obtain ⟨b5, o5, g5, A5, n5, c5, f5, B5, p5, q5, rfl, hq5, hr5⟩ := FolL.at_ (FolL.le HYL.out hXF.le) hy
       have HY := Lib.hid hy
       clear hy
       have KBAD : Hid (y.2.den ≠ 1 → rndE ms us = 16 ∧ rndO ms us = []) := fun hd =>
        rnd_frac HN0.out HN1b.out ⟨y, by rw [HMR.out.1, HMR.out.2, HN1.out, ← HYS.out]; exact List.mem_of_getElem? HY.out, hd⟩
       have HDN2 : Hid (y.2.den = 1 → ∀ (j : Nat) (u : PQ), j < s + 1 → ys[j]? = some u → u.2.den = 1) := by
        show _ → ∀ j u, _
        intro hd j u hj hu
        rcases Nat.lt_succ_iff_lt_or_eq.1 hj with h' | rfl
        ·exact HDN.out j u h' hu
        ·rw [HY.out] at hu; cases hu; exact hd
       rcases den_dig hq5 with ⟨hd, hp⟩ | ⟨rfl, b6, o6, e6, rfl, hc6, hiff⟩
       ·have HR := Lib.hid (KBAD.out hd)
        have hpd : ((p5 : Int) != 1) = true := by simp; omega
        have hpe : ((p5 : Int) == 1) = false := by simp; omega
        have hpf : ¬ (p5 : Int) = 1 := by omega
        clear hd hp hq5
        go_upto_region 26 with ((first | go_skip | refine tP ?_ | (refine tS ?_; clear hL; intro _ hL) | (refine tB ?_; clear hL; intro _ _ hL _)))
        refine wp_region_lit ?_
        repeat (first | (refine tFd ?_; simp only [Act.put, zq1, zq2, zq3]) | (refine tLd ?_; simp only [Act.put, zq1, zq2, zq3]))
        go_wp2_with fail
        go_ret2
        rw [HR.out.1, HR.out.2]
        exact RetV.mk hL ⟨_, rfl, ListV.nil⟩
       ·by_cases he : e6 = 1
        ·subst he
         have HD3 := Lib.hid (HDN2.out (hiff.2 rfl))
         clear hiff hq5
         go_wp2_with (first | (refine t_ix0 rfl rfl rfl ?_; simp only [Act.put, zq1, zq2, zq3]) | (first | go_skip | refine tP ?_ | (refine tS ?_; clear hL; intro _ hL) | (refine tB ?_; clear hL; intro _ _ hL _)))
         go_roundw
         case rel => exact ⟨s + 1, _, by omega, by go_num, hL.tail, hXF.trans exX, HD3.out⟩
         case measure => simp [intOf] <;> omega
        ·have HR := Lib.hid (KBAD.out fun h => he (hiff.1 h))
         have hpd : (((e6 : Nat) : Int) != 1) = true := by simp; omega
         clear he hiff hq5
         go_wp2_with (first | (refine t_ix0 rfl rfl rfl ?_; simp only [Act.put, zq1, zq2, zq3]) | (first | go_skip | refine tP ?_ | (refine tS ?_; clear hL; intro _ hL) | (refine tB ?_; clear hL; intro _ _ hL _)))
         go_ret2
         rw [HR.out.1, HR.out.2]
         exact RetV.mk hL ⟨_, rfl, ListV.nil⟩
      ·have hsn : s = ny := by omega
       subst hsn
       have h7 : (s : Int) ≤ (s : Int) := Int.le_refl _
       have HR : Hid (rndE ms us = 0 ∧ rndO ms us = natL (rndL ms us)) := by
        refine rnd_ok HN0.out HN1b.out ?_
        rw [HMR.out.1, HMR.out.2, HN1.out, ← HYS.out]
        rintro ⟨y, hy, hd⟩
        obtain ⟨j, hj⟩ := List.mem_iff_getElem?.1 hy
        have h1 := (List.getElem?_eq_some_iff.1 hj).1
        have h2 := HNY.out
        exact hd (HDN.out j y (by omega) hj)
       clear HDN HYL HYS
       go_wp2_with (first | go_skip | refine tP ?_ | (refine tS ?_; clear hL; intro _ hL) | (refine tB ?_; clear hL; intro _ _ hL _))
       refine (KC.out _ _ hL.vw leX).mono ?_
       rintro e Wz ⟨vz, mz, rfl, hE, hMz, hV, hvz⟩
       replace hL := hL.call hE (by assumption) hV; clear hE hV
       obtain ⟨Z, cz, rfl, hcz, hvz⟩ := hvz.lit
       go_wp2_with (first | go_skip | refine tP ?_ | (refine tS ?_; clear hL; intro _ hL) | (refine tB ?_; clear hL; intro _ _ hL _))
       go_ret2
       rw [HR.out.1, HR.out.2]
       exact RetV.mk hL ⟨_, rfl, hvz⟩
end Go.Proofs.YtniigfikpfinfaaGreat
