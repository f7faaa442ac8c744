/- Part 4 of 7 of the proof: the law BranchRoundsDown returns true for every input, and its arguments read as before; there is no condition. -/
import Derived.DeepKeys4
import Derived.Maps.RangeWalk
import Derived.Shelf.SlSortCmp.NoneTotal
import Derived.Laws.IdiomCopy
import Derived.Test.YtniigfikpfinfaaGreatBE3
set_option linter.unusedVariables false
set_option linter.unusedSimpArgs false
set_option maxRecDepth 100000
set_option maxHeartbeats 64000000
/- Contract of pairingref27.ValidateMaster for valid master problems. -/
namespace Go.Proofs.YtniigfikpfinfaaGreat
open Go.RowKit

theorem count_one {xs : List Int} (h : xs.Nodup) {j : Nat} {x : Int} (hx : xs[j]? = some x) : xs.count x = 1 := by
 have h1 := List.nodup_iff_count.1 h x
 have h2 : 0 < xs.count x := List.count_pos_iff.2 (List.mem_of_getElem? hx)
 omega
theorem r_ValidateMaster (v : Value) (x : Ms) (w m : World) (hV : Vw m w) (hv : MasterR m v x) (ok : MsOk x) :
  Calls Tryz.prog 74 #[v] w (RetV w m fun _ r => r = .int .i64 0) := by
 obtain ⟨nf, rs, pen, cols, cuts⟩ := x
 obtain ⟨va, vb, vc, rfl, ha, hb, hc⟩ := hv
 simp only at ha hb hc
 obtain ⟨A, ca, rfl, hca, ha⟩ := ha.lit
 obtain ⟨B, cb, rfl, hcb, hb⟩ := hb.lit
 obtain ⟨C, cc, rfl, hcc, hc⟩ := hc.lit
 obtain ⟨f0, f1, p0, p1, r0, r1, o1, o2, k1, o3, k2, o4⟩ := ok
 simp only at f0 f1 p0 p1 r0 r1 o1 o2 k1 o3 k2 o4
 have HR := Lib.hid ha
 have HA := Lib.hid o1
 have HO := Lib.hid o2
 have HC := Lib.hid o3
 have HK := Lib.hid o4
 have HCO := Lib.hid hb
 have HCU := Lib.hid hc
 have HRL : Hid (rs.length ≤ 1000000) := by show _ ≤ _; omega
 have hL := Loc.start hV
 clear hV o1 o2 o3 o4 hb hc
 generalize hn : rs.length = n at *
 have HN := Lib.hid hn
 clear hn
 generalize hn1 : cols.length = nc at *
 have HN1 := Lib.hid hn1
 clear hn1
 generalize hn2 : cuts.length = nk at *
 have HN2 := Lib.hid hn2
 clear hn2
 obtain ⟨n', hn'⟩ : ∃ n', n = n' + 1 := ⟨n - 1, by omega⟩
 obtain ⟨y0, hy0⟩ := at_some HN (show 0 < n by omega)
 obtain ⟨y1, hy1⟩ := at_some HN (show n' < n by omega)
 obtain ⟨b0, of, rfl, hc0⟩ := IntL.at_ ha hy0
 obtain ⟨b0', of', e0, hc1⟩ := IntL.at_ ha hy1
 obtain ⟨rfl, rfl⟩ : b0 = b0' ∧ of = of' := by simpa using e0
 rw [Nat.add_zero] at hc0
 have l0 := (HO.out y0 (List.mem_of_getElem? hy0)).1
 have l1 := (HO.out y1 (List.mem_of_getElem? hy1)).2
 have q1 : ¬ nf > 200 := by omega
 have q2 : ¬ nf < 0 := by omega
 have q3 : ((n : Int) == 0) = false := by simp; omega
 have q4 : ¬ (n : Int) > 32 := by omega
 have q5 : ¬ pen < 0 := by omega
 have q6 : ¬ pen > 4294967296 := by omega
 have q7 : ¬ (nc : Int) > 1000 := by omega
 have q8 : ¬ (nk : Int) > 32 := by omega
 have Q9 : Hid (decide (y0 < 0) = false) := decide_eq_false (by omega)
 have Q10 : Hid (decide (y1 ≥ nf) = false) := decide_eq_false (by omega)
 have q11 : (n : Int) - 1 = (n' : Int) := by omega
 have q12 : 0 < n := by omega
 have q13 : n' < n := by omega
 clear hy0 hy1 e0 l0 l1 ha hn'
 go_enter Tryz.func74, Tryz.ntmps74
 go_upto_region 0 with (fail)
 refine wp_region_lit ?_
 refine t_box hL rfl rfl ?_; clear hL; intro Wh1 mh1 hL eh1; simp only [Act.put, zq1, zq2, zq3]
 go_upto_region 5 with ((first | go_skip | refine tP ?_ | (refine tB ?_; clear hL; intro _ _ hL _)))
 clear q1 q2 q4 q5 q6 q7 q8
 have hr := HR.out
 have q9 := Q9.out
 have q10 := Q10.out
 refine wp_region_by2 24 [false, false, false, false, false, false, false, false, false, false, false, false, false, false, false, false, false, false, false, false, false, false, false, false] [false, false, false, false, false, false, false, false, false, false, false, false, false, false, false, false, false, false, false, false, false, false, false, false] [(fun v _ _ => v = ?c5_0), (fun v _ _ => v = ?c5_1), Is (.bool true), (fun v _ _ => v = ?c5_3), (fun v _ _ => v = ?c5_4), (fun v _ _ => v = ?c5_5), (fun v _ _ => v = ?c5_6), (fun v _ _ => v = ?c5_7), (fun v _ _ => v = ?c5_8), (fun v _ _ => v = ?c5_9), (fun v _ _ => v = ?c5_10), (fun v _ _ => v = ?c5_11), (fun v _ _ => v = ?c5_12), (fun v _ _ => v = ?c5_13), (fun v _ _ => v = ?c5_14), (fun v _ _ => v = ?c5_15), (fun v _ _ => v = ?c5_16), (fun v _ _ => v = ?c5_17), (fun v _ _ => v = ?c5_18), (fun v _ _ => v = ?c5_19), (fun v _ _ => v = ?c5_20), (fun v _ _ => v = ?c5_21), (fun v _ _ => v = ?c5_22), (fun v _ _ => v = ?c5_23)] hL.vw mixed [47, 48, 49, 50, 51, 52, 53, 54, 55, 56, 57, 58, 59, 60, 61, 62, 63, 64, 65, 66, 67, 68, 69, 70] _ (by kernel_rfl) (fun vs => by simp only [lay, Act.put, zq1, zq2, zq3]; rfl) (by kernel_rfl) (by decide) (by decide) ?s5 ?l5 ?r5
 case s5 =>
  refine ⟨?_, ?_, ?_, ?_, ?_, ?_, ?_, ?_, ?_, ?_, ?_, ?_, ?_, ?_, ?_, ?_, ?_, ?_, ?_, ?_, ?_, ?_, ?_, ?_, trivial⟩
  ·intro vs W1 m1 hE hM hV hD; clear hD
   exact sFe
  ·intro vs W1 m1 hE hM hV hD; obtain ⟨⟨_, _, -, -, f47⟩, -⟩ := hD
   rw [(f47 : vs 47 = _)]; clear f47; exact sLe
  ·intro vs W1 m1 hE hM hV hD; obtain ⟨⟨_, _, -, -, f48⟩, -⟩ := hD
   rw [(f48 : vs 48 = _)]
   clear f48
   go_wp2_with fail
   refine (r_ascT _ rs _ _ hV (IntL.le hr leX) (by rw [HN.out]; exact HRL.out) HA.out).mono ?_
   rintro e W2 ⟨v, m2, rfl, hE2, hM2, hV2, h⟩
   go_wp2_with fail
   refine One2.call hE2 hM2 hV2 ?_; first | exact h | exact rfl
  ·intro vs W1 m1 hE hM hV hD; obtain ⟨⟨_, _, -, -, f49⟩, -⟩ := hD
   rw [(f49 : vs 49 = _)]; clear f49; exact sPw
  ·intro vs W1 m1 hE hM hV hD; obtain ⟨⟨_, _, -, -, f50⟩, -, -⟩ := hD
   rw [(f50 : vs 50 = _)]; clear f50; exact sPw
  ·intro vs W1 m1 hE hM hV hD; obtain ⟨⟨_, _, -, -, f51⟩, -⟩ := hD
   rw [(f51 : vs 51 = _)]; clear f51; exact sFe
  ·intro vs W1 m1 hE hM hV hD; obtain ⟨⟨_, _, -, -, f52⟩, ⟨_, _, -, -, f51⟩, -⟩ := hD
   rw [(f52 : vs 52 = _), (f51 : vs 51 = _)]; clear f52 f51; exact sLe
  ·intro vs W1 m1 hE hM hV hD; obtain ⟨⟨_, _, -, -, f53⟩, ⟨_, _, -, -, f51⟩, -⟩ := hD
   rw [(f53 : vs 53 = _), (f51 : vs 51 = _)]
   clear f53 f51
   replace hL := hL.call hE hM hV
   exact sIz
  ·intro vs W1 m1 hE hM hV hD; obtain ⟨⟨_, _, -, -, f54⟩, ⟨_, _, -, -, f51⟩, -⟩ := hD
   rw [(f54 : vs 54 = _), (f51 : vs 51 = _)]; clear f54 f51; exact sLe
  ·intro vs W1 m1 hE hM hV hD; obtain ⟨⟨_, _, -, -, f55⟩, ⟨_, _, -, -, f51⟩, -⟩ := hD
   rw [(f55 : vs 55 = _), (f51 : vs 51 = _)]; clear f55 f51; exact sPw
  ·intro vs W1 m1 hE hM hV hD; obtain ⟨⟨_, _, -, -, f51⟩, ⟨_, _, -, -, f56⟩, -⟩ := hD
   rw [(f51 : vs 51 = _), (f56 : vs 56 = _)]; clear f51 f56; exact sPw
  ·intro vs W1 m1 hE hM hV hD; obtain ⟨⟨_, _, -, -, f57⟩, -, -⟩ := hD
   rw [(f57 : vs 57 = _)]; clear f57; exact sPw
  ·intro vs W1 m1 hE hM hV hD; obtain ⟨⟨_, _, -, -, f58⟩, -⟩ := hD
   rw [(f58 : vs 58 = _)]; clear f58; exact sFe
  ·intro vs W1 m1 hE hM hV hD; obtain ⟨⟨_, _, -, -, f59⟩, ⟨_, _, -, -, f58⟩, -⟩ := hD
   rw [(f59 : vs 59 = _), (f58 : vs 58 = _)]; clear f59 f58; exact sLe
  ·intro vs W1 m1 hE hM hV hD; obtain ⟨⟨_, _, -, -, f58⟩, -⟩ := hD
   rw [(f58 : vs 58 = _)]; clear f58; exact sFe
  ·intro vs W1 m1 hE hM hV hD; obtain ⟨⟨_, _, -, -, f61⟩, ⟨_, _, -, -, f58⟩, -⟩ := hD
   rw [(f61 : vs 61 = _), (f58 : vs 58 = _)]; clear f61 f58; exact sLe
  ·intro vs W1 m1 hE hM hV hD; obtain ⟨⟨_, _, -, -, f62⟩, ⟨_, _, -, -, f58⟩, -⟩ := hD
   rw [(f62 : vs 62 = _), (f58 : vs 58 = _)]
   clear f62 f58
   replace hL := hL.call hE hM hV
   go_wp2_with (first | go_skip | refine tP ?_ | (refine tB ?_; clear hL; intro _ _ hL _))
   refine One2.still hV ?_; exact rfl
  ·intro vs W1 m1 hE hM hV hD; obtain ⟨⟨_, _, -, -, f63⟩, ⟨_, _, -, -, f58⟩, -⟩ := hD
   rw [(f63 : vs 63 = _), (f58 : vs 58 = _)]; clear f63 f58; exact sPw
  ·intro vs W1 m1 hE hM hV hD; obtain ⟨⟨_, _, -, -, f60⟩, ⟨_, _, -, -, f64⟩, ⟨_, _, -, -, f58⟩, -⟩ := hD
   rw [(f60 : vs 60 = _), (f64 : vs 64 = _), (f58 : vs 58 = _)]; clear f60 f64 f58; exact sIy
  ·intro vs W1 m1 hE hM hV hD; obtain ⟨⟨_, _, -, -, f65⟩, ⟨_, _, -, -, f58⟩, -⟩ := hD
   rw [(f65 : vs 65 = _), (f58 : vs 58 = _)]; clear f65 f58; exact sLe
  ·intro vs W1 m1 hE hM hV hD; obtain ⟨⟨_, _, -, -, f58⟩, -⟩ := hD
   rw [(f58 : vs 58 = _)]; clear f58; exact sFe
  ·intro vs W1 m1 hE hM hV hD; obtain ⟨⟨_, _, -, -, f67⟩, ⟨_, _, -, -, f58⟩, -⟩ := hD
   rw [(f67 : vs 67 = _), (f58 : vs 58 = _)]; clear f67 f58; exact sLe
  ·intro vs W1 m1 hE hM hV hD; obtain ⟨⟨_, _, -, -, f66⟩, ⟨_, _, -, -, f68⟩, ⟨_, _, -, -, f58⟩, -⟩ := hD
   rw [(f66 : vs 66 = _), (f68 : vs 68 = _), (f58 : vs 58 = _)]; clear f66 f68 f58; exact sPw
  ·intro vs W1 m1 hE hM hV hD; obtain ⟨⟨_, _, -, -, f58⟩, ⟨_, _, -, -, f69⟩, -⟩ := hD
   rw [(f58 : vs 58 = _), (f69 : vs 69 = _)]; clear f58 f69; exact sPw
 case l5 =>
  refine ⟨nF, nF, nF, nF, nF, nF, nF, nF, nF, nF, nF, nF, nF, nF, nF, nF, nF, nF, nF, nF, nF, nF, nF, nF, trivial⟩
 intro vs W1 m1 hE hM hV hF hD
 clear hD
 obtain ⟨⟨_, _, -, -, f47⟩, ⟨_, _, -, -, f48⟩, ⟨_, _, -, -, f49⟩, ⟨_, _, -, -, f50⟩, ⟨_, _, -, -, f51⟩, ⟨_, _, -, -, f52⟩, ⟨_, _, -, -, f53⟩, ⟨_, _, -, -, f54⟩, ⟨_, _, -, -, f55⟩, ⟨_, _, -, -, f56⟩, ⟨_, _, -, -, f57⟩, ⟨_, _, -, -, f58⟩, ⟨_, _, -, -, f59⟩, ⟨_, _, -, -, f60⟩, ⟨_, _, -, -, f61⟩, ⟨_, _, -, -, f62⟩, ⟨_, _, -, -, f63⟩, ⟨_, _, -, -, f64⟩, ⟨_, _, -, -, f65⟩, ⟨_, _, -, -, f66⟩, ⟨_, _, -, -, f67⟩, ⟨_, _, -, -, f68⟩, ⟨_, _, -, -, f69⟩, ⟨_, _, -, -, f70⟩, -⟩ := hF
 replace hL := hL.call hE hM hV
 have f47 : vs 47 = _ := f47
 generalize vs 47 = x47 at f47 ⊢
 subst x47
 have f48 : vs 48 = _ := f48
 generalize vs 48 = x48 at f48 ⊢
 subst x48
 have f49 : vs 49 = _ := f49
 generalize vs 49 = x49 at f49 ⊢
 subst x49
 have f50 : vs 50 = _ := f50
 generalize vs 50 = x50 at f50 ⊢
 subst x50
 have f51 : vs 51 = _ := f51
 generalize vs 51 = x51 at f51 ⊢
 subst x51
 have f52 : vs 52 = _ := f52
 generalize vs 52 = x52 at f52 ⊢
 subst x52
 have f53 : vs 53 = _ := f53
 generalize vs 53 = x53 at f53 ⊢
 subst x53
 have f54 : vs 54 = _ := f54
 generalize vs 54 = x54 at f54 ⊢
 subst x54
 have f55 : vs 55 = _ := f55
 generalize vs 55 = x55 at f55 ⊢
 subst x55
 have f56 : vs 56 = _ := f56
 generalize vs 56 = x56 at f56 ⊢
 subst x56
 have f57 : vs 57 = _ := f57
 generalize vs 57 = x57 at f57 ⊢
 subst x57
 have f58 : vs 58 = _ := f58
 generalize vs 58 = x58 at f58 ⊢
 subst x58
 have f59 : vs 59 = _ := f59
 generalize vs 59 = x59 at f59 ⊢
 subst x59
 have f60 : vs 60 = _ := f60
 generalize vs 60 = x60 at f60 ⊢
 subst x60
 have f61 : vs 61 = _ := f61
 generalize vs 61 = x61 at f61 ⊢
 subst x61
 have f62 : vs 62 = _ := f62
 generalize vs 62 = x62 at f62 ⊢
 subst x62
 have f63 : vs 63 = _ := f63
 generalize vs 63 = x63 at f63 ⊢
 subst x63
 have f64 : vs 64 = _ := f64
 generalize vs 64 = x64 at f64 ⊢
 subst x64
 have f65 : vs 65 = _ := f65
 generalize vs 65 = x65 at f65 ⊢
 subst x65
 have f66 : vs 66 = _ := f66
 generalize vs 66 = x66 at f66 ⊢
 subst x66
 have f67 : vs 67 = _ := f67
 generalize vs 67 = x67 at f67 ⊢
 subst x67
 have f68 : vs 68 = _ := f68
 generalize vs 68 = x68 at f68 ⊢
 subst x68
 have f69 : vs 69 = _ := f69
 generalize vs 69 = x69 at f69 ⊢
 subst x69
 have f70 : vs 70 = _ := f70
 generalize vs 70 = x70 at f70 ⊢
 subst x70
 clear hE hV
 simp only [List.drop_succ_cons, List.drop_zero]
 go_wp2_with (first | go_skip | refine tP ?_ | (refine tB ?_; clear hL; intro _ _ hL _))
 refine QN.mk ?_
 clear hr hc0 hc1
 go_wp2_with (first | go_skip | refine tP ?_ | (refine tB ?_; clear hL; intro _ _ hL _))
 go_loopw [3] (fun i wr => ∃ (k : Nat) (mm : World), k ≤ nc ∧ i = .int .i64 k ∧ Loc w m wr mm [(w.heap.size, 26, #[.int .i64 nf, .slice (some ⟨b0, of, none⟩) n ca, .int .i64 pen, .slice B nc cb, .slice C nk cc])]) (fun i _ => nc - (intOf i).toNat)
 case atStart => exact ⟨0, _, Nat.zero_le _, rfl, hL⟩
 case round =>
  clear hL
  obtain ⟨k, mm, hk, rfl, hL⟩ := hrel
  have hM := hL.mext
  by_cases hlt : k < nc
  ·obtain ⟨⟨s, ds, cost⟩, hx⟩ := at_some HN1 hlt
   obtain ⟨b1, o1, D, cd, rfl, hds, hr1⟩ := ColL.at_ HCO.out hx
   obtain ⟨i1, i2, i3, i4, i5, i6, i7⟩ := HC.out _ (List.mem_of_getElem? hx)
   simp only at hds hr1 i1 i2 i3 i4 i5 i6 i7
   have c1 : ¬ cost < -1125899906842624 := by omega
   have c2 : ¬ cost > 1125899906842624 := by omega
   have HD := Lib.hid hds
   have H3 := Lib.hid i3
   have H4 := Lib.hid i4
   have H6 : Hid (decide (∀ f ∈ opF ds, f ∈ rs) = true) := decide_eq_true i6
   have H7 := Lib.hid i7
   have H5 := Lib.hid i5
   have H8 := Lib.hid (opF_len i4)
   have hx2 := hr1 2 _ rfl
   have hr2 : m.rangeAt b1 (o1 + k * 3) [.string s, .slice D ds.length cd] := fun j u hu => hr1 j u (by
    match j, hu with
    | 0, hu => exact hu
    | 1, hu => exact hu)
   clear hx hds i1 i2 i3 i4 i5 i6 i7 hr1
   generalize hnd : ds.length = nd at *
   have HND := Lib.hid hnd
   clear hnd
   go_wp2_with (first | go_skip | refine tP ?_ | (refine tB ?_; clear hL; intro _ _ hL _))
   refine (r_Operated s _ ds _ _ hL.vw (DutsL.le HD.out leX) (by rw [HND.out]; exact H3.out) H4.out).mono ?_
   rintro e Wo1 ⟨vo1, mo1, rfl, hE, hMo1, hV, ho1⟩
   replace hL := hL.call hE (by assumption) hV; clear hE hV
   obtain ⟨Ao, co, rfl, hco, ho1⟩ := ho1.lit
   have HOP := Lib.hid ho1
   have h5 := H5.out
   have h8 : (opF ds).length ≤ 100000 := by have := H8.out; have := H3.out; omega
   clear ho1 hr2 hx2
   generalize hno : (opF ds).length = no at *
   have HNO := Lib.hid hno
   clear hno
   have q14 : ((no : Int) == 0) = false := by simp; omega
   go_wp2_with (first | go_skip | refine tP ?_ | (refine tB ?_; clear hL; intro _ _ hL _))
   refine (r_within _ _ (opF ds) rs _ _ hL.vw (IntL.le HOP.out leX) (IntL.le HR.out leX) (by rw [HNO.out]; omega) (by rw [HN.out]; exact HRL.out)).mono ?_
   rintro e Wo2 ⟨_, mo2, rfl, hE, hMo2, hV, rfl⟩
   replace hL := hL.call hE (by assumption) hV; clear hE hV
   rw [H6.out]
   go_wp2_with (first | go_skip | refine tP ?_ | (refine tB ?_; clear hL; intro _ _ hL _))
   go_loopw [5] (fun i wr => ∃ (j : Nat) (m2 : World), j ≤ no ∧ i = .int .i64 j ∧ Loc w m wr m2 [(w.heap.size, 26, #[.int .i64 nf, .slice (some ⟨b0, of, none⟩) n ca, .int .i64 pen, .slice (some ⟨b1, o1, none⟩) nc cb, .slice C nk cc])] ∧ Hid (Ext mo1 m2)) (fun i _ => no - (intOf i).toNat)
   case atStart => exact ⟨0, _, Nat.zero_le _, rfl, hL, exX⟩
   case round =>
    clear hL hM
    obtain ⟨j, m2, hj, rfl, hL, HX⟩ := hrel
    have hM := hL.mext
    by_cases hlt2 : j < no
    ·obtain ⟨f, hf⟩ := at_some HNO hlt2
     obtain ⟨b3, o3, rfl, hc3⟩ := IntL.at_ HOP.out hf
     replace hc3 := HX.out.le.cell _ _ hc3
     have HC1 := Lib.hid (count_one H7.out hf)
     have HO2 : Hid (IntL m2 (.slice (some ⟨b3, o3, none⟩) no co) (opF ds)) := IntL.le HOP.out HX.out.le
     clear hf
     go_wp2_with (first | go_skip | refine tP ?_ | (refine tB ?_; clear hL; intro _ _ hL _))
     refine (r_count _ (opF ds) f _ _ hL.vw (IntL.le HO2.out leX) (by rw [HNO.out]; omega)).mono ?_
     rintro e Wn1 ⟨_, mn1, rfl, hE, hMn1, hV, rfl⟩
     replace hL := hL.call hE (by assumption) hV; clear hE hV
     have HX3 : Hid (Ext mo1 mn1) := HX.out.trans hMn1
     rw [HC1.out]
     go_wp2_with (first | go_skip | refine tP ?_ | (refine tB ?_; clear hL; intro _ _ hL _))
     go_roundw
     case rel => exact ⟨j + 1, _, by omega, by go_num, hL, HX3.out⟩
     case measure => simp [intOf] <;> omega
    ·go_wp2_with (first | go_skip | refine tP ?_ | (refine tB ?_; clear hL; intro _ _ hL _))
     go_roundw
     case rel => exact ⟨k + 1, _, by omega, by go_num, hL⟩
     case measure => simp [intOf] <;> omega
  ·go_wp2_with (first | go_skip | refine tP ?_ | (refine tB ?_; clear hL; intro _ _ hL _))
   clear hlt hk
   go_loopw [6] (fun i wr => ∃ (k : Nat) (mm : World), k ≤ nk ∧ i = .int .i64 k ∧ Loc w m wr mm [(w.heap.size, 26, #[.int .i64 nf, .slice (some ⟨b0, of, none⟩) n ca, .int .i64 pen, .slice B nc cb, .slice C nk cc])]) (fun i _ => nk - (intOf i).toNat)
   case atStart => exact ⟨0, _, Nat.zero_le _, rfl, hL⟩
   case round =>
    clear hL hM
    obtain ⟨k, mm, hk, rfl, hL⟩ := hrel
    have hM := hL.mext
    by_cases hlt : k < nk
    ·obtain ⟨⟨xs, dv⟩, hx⟩ := at_some HN2 hlt
     obtain ⟨b1, o1, D, cd, rfl, hcr, hr1⟩ := CutL.at_' HCU.out hx
     have HOK := Lib.hid (HK.out _ (List.mem_of_getElem? hx))
     simp only at hr1
     have hra := HR.out
     clear hx
     go_upto_region 23 with ((first | go_skip | refine tP ?_ | (refine tB ?_; clear hL; intro _ _ hL _)))
     (try simp only [eq_self] at *)
     refine wp_region_by2 9 [false, false, false, false, false, false, false, false, false] [false, false, false, false, false, false, false, false, false] [(fun v _ _ => v = ?c23_0), (fun v _ _ => v = ?c23_1), (fun v _ _ => v = ?c23_2), (fun v _ _ => v = ?c23_3), (fun v _ _ => v = ?c23_4), (fun v _ _ => v = ?c23_5), (fun v _ _ => v = ?c23_6), Is (.bool true), (fun v _ _ => v = ?c23_8)] hL.vw mixed [131, 132, 133, 134, 135, 136, 137, 138, 139] _ (by kernel_rfl) (fun vs => by simp only [lay, Act.put, zq1, zq2, zq3]; rfl) (by kernel_rfl) (by decide) (by decide) ?s23 ?l23 ?r23
     case s23 =>
      refine ⟨?_, ?_, ?_, ?_, ?_, ?_, ?_, ?_, ?_, trivial⟩
      ·intro vs W1 m1 hE hM hV hD; clear hD
       exact sFe
      ·intro vs W1 m1 hE hM hV hD; obtain ⟨⟨_, _, -, -, f131⟩, -⟩ := hD
       rw [(f131 : vs 131 = _)]; clear f131; exact sLe
      ·intro vs W1 m1 hE hM hV hD; clear hD
       exact sFe
      ·intro vs W1 m1 hE hM hV hD; obtain ⟨⟨_, _, -, -, f133⟩, -⟩ := hD
       rw [(f133 : vs 133 = _)]; clear f133; exact sLe
      ·intro vs W1 m1 hE hM hV hD; clear hD
       exact sPw
      ·intro vs W1 m1 hE hM hV hD; obtain ⟨⟨_, _, -, -, f134⟩, ⟨_, _, -, -, f135⟩, -⟩ := hD
       rw [(f134 : vs 134 = _), (f135 : vs 135 = _)]; clear f134 f135; exact sIy
      ·intro vs W1 m1 hE hM hV hD; obtain ⟨⟨_, _, -, -, f136⟩, -⟩ := hD
       rw [(f136 : vs 136 = _)]; clear f136; exact sLe
      ·intro vs W1 m1 hE hM hV hD; obtain ⟨⟨_, _, -, -, f132⟩, ⟨_, _, -, -, f137⟩, -⟩ := hD
       rw [(f132 : vs 132 = _), (f137 : vs 137 = _)]
       clear f132 f137
       go_wp2_with fail
       refine (r_ValidCut _ _ rs (xs, dv) _ _ hV (IntL.le hra leX) (hcr.le leX) (by rw [HN.out]; exact HRL.out) HOK.out).mono ?_
       rintro e W2 ⟨v, m2, rfl, hE2, hM2, hV2, h⟩
       go_wp2_with fail
       refine One2.call hE2 hM2 hV2 ?_; first | exact h | exact rfl
      ·intro vs W1 m1 hE hM hV hD; obtain ⟨⟨_, _, -, -, f138⟩, -⟩ := hD
       rw [(f138 : vs 138 = _)]; clear f138; exact sPw
     case l23 =>
      refine ⟨nF, nF, nF, nF, nF, nF, nF, nF, nF, trivial⟩
     intro vs W1 m1 hE hM hV hF hD
     clear hD
     obtain ⟨⟨_, _, -, -, f131⟩, ⟨_, _, -, -, f132⟩, ⟨_, _, -, -, f133⟩, ⟨_, _, -, -, f134⟩, ⟨_, _, -, -, f135⟩, ⟨_, _, -, -, f136⟩, ⟨_, _, -, -, f137⟩, ⟨_, _, -, -, f138⟩, ⟨_, _, -, -, f139⟩, -⟩ := hF
     replace hL := hL.call hE hM hV
     have f131 : vs 131 = _ := f131
     generalize vs 131 = x131 at f131 ⊢
     subst x131
     have f132 : vs 132 = _ := f132
     generalize vs 132 = x132 at f132 ⊢
     subst x132
     have f133 : vs 133 = _ := f133
     generalize vs 133 = x133 at f133 ⊢
     subst x133
     have f134 : vs 134 = _ := f134
     generalize vs 134 = x134 at f134 ⊢
     subst x134
     have f135 : vs 135 = _ := f135
     generalize vs 135 = x135 at f135 ⊢
     subst x135
     have f136 : vs 136 = _ := f136
     generalize vs 136 = x136 at f136 ⊢
     subst x136
     have f137 : vs 137 = _ := f137
     generalize vs 137 = x137 at f137 ⊢
     subst x137
     have f138 : vs 138 = _ := f138
     generalize vs 138 = x138 at f138 ⊢
     subst x138
     have f139 : vs 139 = _ := f139
     generalize vs 139 = x139 at f139 ⊢
     subst x139
     clear hE hV
     simp only [List.drop_succ_cons, List.drop_zero]
     go_wp2_with (first | go_skip | refine tP ?_ | (refine tB ?_; clear hL; intro _ _ hL _))
     refine QN.mk ?_
     go_wp2_with (first | go_skip | refine tP ?_ | (refine tB ?_; clear hL; intro _ _ hL _))
     go_roundw
     case rel => exact ⟨k + 1, _, by omega, by go_num, hL⟩
     case measure => simp [intOf] <;> omega
    ·go_wp2_with (first | go_skip | refine tP ?_ | (refine tB ?_; clear hL; intro _ _ hL _))
     go_ret
     exact RetV.mk hL rfl
end Go.Proofs.YtniigfikpfinfaaGreat

/- Contracts of rational.Sign, and of rational.Mul and lagrange.smaller for fractions of any form. -/
namespace Go.Proofs.YtniigfikpfinfaaGreat
open Go.RowKit

theorem icmp_den (q : Rat) : icmp (q.den : Int) 0 = 1 := by
 have := q.den_pos
 unfold icmp
 rw [if_neg (by omega), if_neg (by omega)]

theorem q_Sign (v : Value) (q : Rat) (w m : World) (hV : Vw m w) (h : FracC m v q) (k : Fit 200 q) :
  Calls Tryz.prog 103 #[v] w (RetV w m fun _ r => r = .int .i64 (icmp q.num 0)) := by
 obtain ⟨_, _, _, _, rfl, h1, h2⟩ := h
 have i1 := h1.toV (k.num (by decide))
 have i2 := h2.toV (k.den (by decide))
 obtain ⟨g1, A1, n1, c1, rfl, rfl⟩ := h1.parts'
 obtain ⟨g2, A2, n2, c2, rfl, rfl⟩ := h2.parts'
 have K2 : Hid (∀ w m', Vw m' w → Le m m' → Calls Tryz.prog 158 #[.agg #[.bool g2, .slice A2 n2 c2]] w (RetV w m' fun _ r => r = .int .i64 1)) := by
  show ∀ w m', _
  intro w m' hV hle
  rw [← icmp_den q]
  exact i_Sign _ _ w m' hV (i2.le hle)
 have K1 : Hid (∀ w m', Vw m' w → Le m m' → Calls Tryz.prog 158 #[.agg #[.bool g1, .slice A1 n1 c1]] w (RetV w m' fun _ r => r = .int .i64 (icmp q.num 0))) := by
  show ∀ w m', _
  intro w m' hV hle
  exact i_Sign _ _ w m' hV (i1.le hle)
 have hs : -1 ≤ icmp q.num 0 ∧ icmp q.num 0 ≤ 1 := by unfold icmp; split <;> (try split) <;> omega
 have hL := Loc.start hV
 clear hV h1 h2 i1 i2 k
 generalize icmp q.num 0 = s at *
 obtain ⟨s1, s2⟩ := hs
 go_enter Tryz.func103, Tryz.ntmps103
 go_upto_region 1 with ((first | go_skip | refine tP ?_ | (refine tB ?_; clear hL; intro _ _ hL _)))
 refine wp_region_by2 7 [false, false, false, false, false, false, false] [false, false, false, false, false, false, false] [(fun v _ _ => v = ?c1_0), (fun v _ _ => v = ?c1_1), Is (.int .i64 s), (fun v _ _ => v = ?c1_3), (fun v _ _ => v = ?c1_4), Is (.int .i64 1), (fun v _ _ => v = ?c1_6)] hL.vw mixed [3, 4, 5, 6, 7, 8, 9] _ (by kernel_rfl) (fun vs => by simp only [lay, Act.put, zq1, zq2, zq3]; rfl) (by kernel_rfl) (by decide) (by decide) ?s1 ?l1 ?r1
 case s1 =>
  refine ⟨?_, ?_, ?_, ?_, ?_, ?_, ?_, trivial⟩
  ·intro vs W1 m1 hE hM hV hD; clear hD
   exact sFe
  ·intro vs W1 m1 hE hM hV hD; obtain ⟨⟨_, _, -, -, f3⟩, -⟩ := hD
   rw [(f3 : vs 3 = _)]; clear f3; exact sLe
  ·intro vs W1 m1 hE hM hV hD; obtain ⟨⟨_, _, -, -, f4⟩, -⟩ := hD
   rw [(f4 : vs 4 = _)]
   clear f4
   go_wp2_with fail
   refine (K1.out _ _ hV leX).mono ?_
   rintro e W2 ⟨v, m2, rfl, hE2, hM2, hV2, h⟩
   go_wp2_with fail
   refine One2.call hE2 hM2 hV2 ?_; first | exact h | exact rfl
  ·intro vs W1 m1 hE hM hV hD; clear hD
   exact sFe
  ·intro vs W1 m1 hE hM hV hD; obtain ⟨⟨_, _, -, -, f6⟩, -⟩ := hD
   rw [(f6 : vs 6 = _)]; clear f6; exact sLe
  ·intro vs W1 m1 hE hM hV hD; obtain ⟨⟨_, _, -, -, f7⟩, -, -⟩ := hD
   rw [(f7 : vs 7 = _)]
   clear f7
   go_wp2_with fail
   refine (K2.out _ _ hV leX).mono ?_
   rintro e W2 ⟨v, m2, rfl, hE2, hM2, hV2, h⟩
   go_wp2_with fail
   refine One2.call hE2 hM2 hV2 ?_; first | exact h | exact rfl
  ·intro vs W1 m1 hE hM hV hD; obtain ⟨⟨_, _, -, -, f5⟩, ⟨_, _, -, -, f8⟩, -⟩ := hD
   rw [(f5 : vs 5 = _), (f8 : vs 8 = _)]; clear f5 f8; exact sPw
 case l1 =>
  refine ⟨nF, nF, nF, nF, nF, nF, nF, trivial⟩
 intro vs W1 m1 hE hM hV hF hD
 clear hD
 obtain ⟨-, -, -, -, -, -, ⟨_, _, -, -, f9⟩, -⟩ := hF
 replace hL := hL.call hE hM hV
 have f9 : vs 9 = _ := f9
 generalize vs 9 = x9 at f9 ⊢
 subst x9
 clear hE hV
 simp only [List.drop_succ_cons, List.drop_zero]
 go_wp2_with (first | go_skip | refine tP ?_ | (refine tB ?_; clear hL; intro _ _ hL _))
 refine QN.mk ?_
 go_wp2_with (first | go_skip | refine tP ?_ | (refine tB ?_; clear hL; intro _ _ hL _))
 go_ret
 exact RetV.mk hL (by go_num)

end Go.Proofs.YtniigfikpfinfaaGreat

/- Contracts of enumerate.ValidatePrices and pairingref27.ValidatePrices for valid prices, and where the number of prices is another one. -/
namespace Go.Proofs.YtniigfikpfinfaaGreat
open Go.RowKit

structure PcOk (nf : Nat) (x : Cut) : Prop where
 low : ∀ r ∈ x.1, 0 ≤ r ∧ r < nf
 asc : AscP x.1
 two : 2 ≤ x.2
 le : x.2 ≤ (x.1.length : Int)
structure PrOk (nf : Nat) (p : Pr) : Prop where
 fl : p.fl.length = nf
 f1 : nf ≤ 1000
 cd : p.cd.length = p.cu.length
 k1 : p.cu.length ≤ 32
 k2 : p.de.length ≤ 32
 cuts : ∀ c ∈ p.cu, PcOk nf c
 neg : ∀ q ∈ p.cd, Fit 200 q ∧ rs q ≤ 0
 des : ∀ d ∈ p.de, 0 ≤ d.1 ∧ d.1 < nf ∧ 0 ≤ d.2.1 ∧ d.2.1 < nf ∧ d.1 ≠ d.2.1

end Go.Proofs.YtniigfikpfinfaaGreat

/- The bound of prices, in plain numbers: sums of fractions whose denominators divide 36. -/
namespace Go.Proofs.YtniigfikpfinfaaGreat
open Go.RowKit

def Tw (B : Nat) (q : Rat) : Prop := ∃ z : Int, q = Rat.divInt z 36 ∧ z.natAbs ≤ 3 * B
theorem Tw.mono {B C : Nat} {q : Rat} (h : Tw B q) (hb : B ≤ C) : Tw C q := by
 obtain ⟨z, e, hz⟩ := h
 exact ⟨z, e, by omega⟩
theorem Tw.add {B C : Nat} {p q : Rat} (h : Tw B p) (h' : Tw C q) : Tw (B + C) (p + q) := by
 obtain ⟨z, rfl, hz⟩ := h
 obtain ⟨y, rfl, hy⟩ := h'
 exact ⟨z + y, (add_same (by decide)).symm, by omega⟩
theorem Tw.mulI {B K : Nat} {q : Rat} {k : Int} (h : Tw B q) (hk : k.natAbs ≤ K) : Tw (B * K) (q * (k : Rat)) := by
 obtain ⟨z, rfl, hz⟩ := h
 refine ⟨z * k, ?_, ?_⟩
 ·rw [← rat_one k, Rat.divInt_mul_divInt]; rfl
 ·rw [Int.natAbs_mul, ← Nat.mul_assoc]; exact Nat.mul_le_mul hz hk
theorem Tw.int {K : Nat} {k : Int} (hk : k.natAbs ≤ K) : Tw (K * 12) (k : Rat) := by
 refine ⟨k * 36, ?_, by omega⟩
 rw [← rat_one k, ← Rat.divInt_mul_right (n := k) (d := 1) (a := 36) (by decide)]; rfl
theorem Tw.tn {B k : Nat} {q : Rat} (h : Tw B q) (h1 : 3 * B ≤ k) (h2 : 36 ≤ k) : Tn k q := by
 obtain ⟨z, rfl, hz⟩ := h
 exact Tn.divInt (by decide) (by omega) (by omega)
theorem Tw.min {B : Nat} {p q : Rat} (h : Tw B p) (h' : Tw B q) : Tw B (rmin p q) := by
 unfold rmin; split
 ·exact h
 ·exact h'
theorem Tw.neg {B : Nat} {q : Rat} (h : Tw B q) : Tw B (-q) := by
 obtain ⟨z, rfl, hz⟩ := h
 exact ⟨-z, by rw [Rat.neg_divInt], by omega⟩
end Go.Proofs.YtniigfikpfinfaaGreat

/- What lagrange.Bound and pairingref27.Bound answer (plain). -/
namespace Go.Proofs.YtniigfikpfinfaaGreat
open Go.RowKit

structure BQ (nf : Nat) (x : Ms) (p : Pr) (l : SF) : Prop where
 nfe : x.nf = nf
 ms : MsOk x
 pr : PrOk nf p
 pen : x.pen ≤ 1000
 fl : ∀ q ∈ p.fl, Tw 1000 q
 cd : ∀ q ∈ p.cd, Tw 1000 q
 cu : ∀ c ∈ p.cu, c.1.length ≤ 1000
 lo : Tw 1000 (vS l)
 sl : Sm l.1 l.2
theorem tw0 : Tw 0 ((0 : Int) : Rat) := ⟨0, by simp, by decide⟩
theorem Tw.sm {B : Nat} {q : Rat} (h : Tw B q) (hb : B ≤ 100000000) : Sm q.num q.den := (h.tn (k := 300000000) (by omega) (by decide)).sm (by decide)
theorem Tw.fit {B : Nat} {q : Rat} (h : Tw B q) (hb : B ≤ 100000000) : Fit 200 q := (h.tn (k := 300000000) (by omega) (by decide)).fit (by decide)
end Go.Proofs.YtniigfikpfinfaaGreat

/- Contract of pairingref27.Bound for valid master problems and prices. -/
namespace Go.Proofs.YtniigfikpfinfaaGreat
open Go.RowKit

theorem Tw.sub {B C : Nat} {p q : Rat} (h : Tw B p) (h' : Tw C q) : Tw (B + C) (p - q) := by
 rw [Rat.sub_eq_add_neg]; exact h.add h'.neg

end Go.Proofs.YtniigfikpfinfaaGreat

/- The master problems and prices of the laws are valid (plain). -/
namespace Go.Proofs.YtniigfikpfinfaaGreat
open Go.RowKit

theorem ascP_of {xs : List Int} (h : xs.Pairwise (· < ·)) : AscP xs := by
 intro j x y hx hy
 obtain ⟨h1, e1⟩ := List.getElem?_eq_some_iff.1 hx
 obtain ⟨h2, e2⟩ := List.getElem?_eq_some_iff.1 hy
 have := List.pairwise_iff_getElem.1 h j (j + 1) h1 h2 (by omega)
 rw [e1, e2] at this
 exact this
def selF (rs : List Int) (n k : Int) (i : Nat) : List Int := (List.range i).filterMap fun j => if csBit n j then some (csF rs k j) else none
theorem opT_app (a b : List Task) : opT (a ++ b) = opT a ++ opT b := by simp [opT, List.filterMap_append]
theorem opF_app (a b : List (List Task)) : opF (a ++ b) = opF a ++ opF b := by simp [opF, List.flatMap_append]
theorem opF_one (a : List Task) : opF [a] = opT a := by simp [opF]
theorem opT_one (f : Int) : opT [(f, false)] = [f] := rfl
theorem opT_nil : opT [] = [] := rfl
theorem selF_in {rs : List Int} {n k : Int} {i : Nat} (h : csBit n i = true) : selF rs n k (i + 1) = selF rs n k i ++ [csF rs k i] := by
 unfold selF
 rw [List.range_succ, List.filterMap_append]
 simp [h]
theorem selF_out {rs : List Int} {n k : Int} {i : Nat} (h : csBit n i = false) : selF rs n k (i + 1) = selF rs n k i := by
 unfold selF
 rw [List.range_succ, List.filterMap_append]
 simp [h]
theorem cs_sel (rs : List Int) (n k : Int) : ∀ i, opF (csAt rs n k i).l ++ opT (csAt rs n k i).d = selF rs n k i ∧ ((csAt rs n k i).s = false → selF rs n k i = []) ∧ ((csAt rs n k i).s = true → selF rs n k i ≠ [])
 | 0 => by
  refine ⟨?_, fun _ => rfl, fun h => by simp [csAt] at h⟩
  show opF [] ++ opT (if k % 2 = 1 then [(0, true)] else []) = []
  split <;> rfl
 | i + 1 => by
  obtain ⟨h1, h2, h3⟩ := cs_sel rs n k i
  by_cases hb : csBit n i = true
  ·rw [selF_in hb, ← h1]
   simp only [csAt, csStep, hb, if_true]
   split
   ·simp [opF_app, opF_one, opT_app, opT_one, opT_nil]
   ·simp [opT_app, opT_one]
  ·have hb' : csBit n i = false := by simpa using hb
   rw [selF_out hb']
   simp only [csAt, csStep, hb', Bool.false_eq_true, if_false]
   exact ⟨h1, h2, h3⟩
theorem cs_short (rs : List Int) (n k : Int) : ∀ i, ∀ d ∈ (csAt rs n k i).l, d.length ≤ i + 1
 | 0 => by intro d hd; simp [csAt] at hd
 | i + 1 => by
  intro d hd
  have ih := cs_short rs n k i
  have hl := (csAt_len rs n k i).1
  simp only [csAt, csStep] at hd
  split at hd
  ·split at hd
   ·rcases List.mem_append.1 hd with h | h
    ·have := ih d h; omega
    ·rcases List.mem_singleton.1 h with rfl
     simp; omega
   ·have := ih d hd; omega
  ·have := ih d hd; omega
theorem opF_csL (rs : List Int) (n k : Int) : opF (csL rs n k) = if (csAt rs n k rs.length).s then selF rs n k rs.length else [rs.getD (n / 64 % rs.length).toNat 0] := by
 obtain ⟨h1, h2, -⟩ := cs_sel rs n k rs.length
 have hD : opF (csL rs n k) = opF (csAt rs n k rs.length).l ++ opT (csD rs n k) := by
  unfold csL
  split
  ·rw [opF_app, opF_one]
  ·have : csD rs n k = [] := List.length_eq_zero_iff.1 (by omega)
   rw [this, opT_nil, List.append_nil]
 rw [hD]
 unfold csD
 by_cases hs : (csAt rs n k rs.length).s = true
 ·rw [if_pos hs, if_pos hs, h1]
 ·rw [if_neg hs, if_neg hs, opT_app, opT_one, ← List.append_assoc, h1, h2 (by simpa using hs)]
  rfl
theorem csF_get {rs : List Int} {k : Int} {j : Nat} (hj : j < rs.length) : ∃ i, i < rs.length ∧ csF rs k j = rs.getD i 0 ∧ (i = j ∨ i = rs.length - 1 - j) ∧ (i = if k / 2 % 8 = 7 then rs.length - 1 - j else j) := by
 unfold csF
 split
 ·exact ⟨rs.length - 1 - j, by omega, rfl, .inr rfl, rfl⟩
 ·exact ⟨j, hj, rfl, .inl rfl, rfl⟩
theorem getD_mem {rs : List Int} {i : Nat} (h : i < rs.length) : rs.getD i 0 ∈ rs := by
 rw [List.getD_eq_getElem?_getD, List.getElem?_eq_getElem h]
 exact List.getElem_mem h
theorem getD_inj {rs : List Int} (hn : rs.Nodup) {i j : Nat} (hi : i < rs.length) (hj : j < rs.length) (e : rs.getD i 0 = rs.getD j 0) : i = j := by
 rw [List.getD_eq_getElem?_getD, List.getElem?_eq_getElem hi, List.getD_eq_getElem?_getD, List.getElem?_eq_getElem hj] at e
 exact (List.getElem_inj hn).1 e
theorem csF_inj {rs : List Int} {k : Int} (hn : rs.Nodup) {i j : Nat} (hi : i < rs.length) (hj : j < rs.length) (e : csF rs k i = csF rs k j) : i = j := by
 unfold csF at e
 split at e
 ·have := getD_inj hn (by omega) (by omega) e
  omega
 ·exact getD_inj hn hi hj e
theorem selF_mem {rs : List Int} {n k f : Int} {i : Nat} (h : f ∈ selF rs n k i) : ∃ j, j < i ∧ f = csF rs k j := by
 unfold selF at h
 obtain ⟨j, hj, e⟩ := List.mem_filterMap.1 h
 split at e
 ·exact ⟨j, List.mem_range.1 hj, (Option.some.inj e).symm⟩
 ·cases e
theorem selF_nodup {rs : List Int} {n k : Int} (hn : rs.Nodup) : ∀ i, i ≤ rs.length → (selF rs n k i).Nodup
 | 0, _ => List.Pairwise.nil
 | i + 1, hi => by
  have ih := selF_nodup (n := n) (k := k) hn i (by omega)
  by_cases hb : csBit n i = true
  ·rw [selF_in hb]
   refine List.nodup_append.2 ⟨ih, List.pairwise_singleton _ _, fun a ha b hb' e => ?_⟩
   rcases List.mem_singleton.1 hb' with rfl
   obtain ⟨j, hj, e'⟩ := selF_mem ha
   have := csF_inj (k := k) hn (by omega) (by omega) (e'.symm.trans e)
   omega
  ·rw [selF_out (by simpa using hb)]
   exact ih
theorem colF_ok {rs : List Int} {n k : Int} (hn : rs.Nodup) (h1 : 1 ≤ rs.length) (h6 : rs.length ≤ 6) (n0 : 0 ≤ n) : ColOk rs (colF rs n k) := by
 have hl := csAt_len rs n k rs.length
 have hsh := cs_short rs n k rs.length
 have hD : (csD rs n k).length ≤ 8 := by
  unfold csD; split
  ·omega
  ·simp; omega
 have hop := opF_csL rs n k
 obtain ⟨-, -, h3⟩ := cs_sel rs n k rs.length
 refine ⟨?_, ?_, ?_, ?_, ?_, ?_, ?_⟩
 ·show _ ≤ n / 32 % 41 - 5; omega
 ·show n / 32 % 41 - 5 ≤ _; omega
 ·show (csL rs n k).length ≤ 100
  unfold csL; split
  ·simp; omega
  ·omega
 ·show ∀ d ∈ csL rs n k, d.length ≤ 100
  intro d hd
  unfold csL at hd
  split at hd
  ·rcases List.mem_append.1 hd with h | h
   ·have := hsh d h; omega
   ·rcases List.mem_singleton.1 h with rfl; omega
  ·have := hsh d hd; omega
 ·show 0 < (opF (csL rs n k)).length
  rw [hop]; split
  ·exact List.length_pos_iff.2 (h3 (by assumption))
  ·simp
 ·show ∀ f ∈ opF (csL rs n k), f ∈ rs
  intro f hf
  rw [hop] at hf
  split at hf
  ·obtain ⟨j, hj, rfl⟩ := selF_mem hf
   obtain ⟨i, hi, e, -, -⟩ := csF_get (rs := rs) (k := k) hj
   rw [e]; exact getD_mem hi
  ·rcases List.mem_singleton.1 hf with rfl
   have : n / 64 % (rs.length : Int) < rs.length := Int.emod_lt_of_pos _ (by omega)
   exact getD_mem (by omega)
 ·show (opF (csL rs n k)).Nodup
  rw [hop]; split
  ·exact selF_nodup hn _ (Nat.le_refl _)
  ·exact List.pairwise_singleton _ _
theorem rowsT_ok : ∀ i : Fin 6, (rowsT.getD i.1 []).Pairwise (· < ·) ∧ (∀ r ∈ rowsT.getD i.1 [], 0 ≤ r ∧ r < 6) ∧ (rowsT.getD i.1 []).Nodup := by decide
theorem cutT_ok : ∀ i : Fin 6, ∀ s : Fin 5, s.1 < (rowsT.getD i.1 []).length → (cutT (rowsT.getD i.1 []) s.1 (rowsT.getD i.1 []).length).Pairwise (· < ·) ∧ ∀ r ∈ cutT (rowsT.getD i.1 []) s.1 (rowsT.getD i.1 []).length, r ∈ rowsT.getD i.1 [] := by decide
structure RowsOk (rs : List Int) : Prop where
 asc : AscP rs
 low : ∀ r ∈ rs, 0 ≤ r ∧ r < 6
 nd : rs.Nodup
 l3 : 3 ≤ rs.length
 l5 : rs.length ≤ 5
theorem rowsF_ok (l : List Int) : RowsOk (rowsF l) := by
 have h0 := atF_bd l 1 (by omega)
 have h1 : (atF l 1 % 6).toNat < 6 := by omega
 obtain ⟨a, b, c⟩ := rowsT_ok ⟨_, h1⟩
 obtain ⟨d, e⟩ := rowsT_len ⟨_, h1⟩
 exact ⟨ascP_of a, b, c, d, e⟩
structure CutM (rs : List Int) (c : Cut) : Prop where
 asc : AscP c.1
 sub : ∀ r ∈ c.1, r ∈ rs
 two : 2 ≤ c.2
 le : c.2 ≤ (c.1.length : Int)
 l5 : c.1.length ≤ 5
theorem masF_cutM (l : List Int) : ∀ c ∈ (masF l).cuts, CutM (rowsF l) c := by
 intro c hc
 obtain ⟨k, hk, rfl⟩ := List.mem_map.1 hc
 have h0 := atF_bd l 1 (by omega)
 have h3 := atF_bd l 3 (by omega)
 have hk' := List.mem_range.1 hk
 have h20 := atF_bd l (20 + k) (by omega)
 have h1 : (atF l 1 % 6).toNat < 6 := by omega
 have hr := rowsF_ok l
 have hl5 := hr.l5
 have hl3 := hr.l3
 have hs : atF l (20 + k) % ((rowsF l).length : Int) < (rowsF l).length := Int.emod_lt_of_pos _ (by omega)
 have hs0 : 0 ≤ atF l (20 + k) % ((rowsF l).length : Int) := Int.emod_nonneg _ (by omega)
 have hs1 : (atF l (20 + k) % ((rowsF l).length : Int)).toNat < (rowsF l).length := by omega
 have hs5 : (atF l (20 + k) % ((rowsF l).length : Int)).toNat < 5 := by omega
 obtain ⟨a, b⟩ := cutT_ok ⟨_, h1⟩ ⟨_, hs5⟩ hs1
 have c := cutT_long ⟨_, h1⟩ ⟨_, hs5⟩ hs1
 refine ⟨ascP_of a, b, ?_, ?_, Nat.le_trans (cutT_len _ _ _) hl5⟩
 ·show 2 ≤ (if atF l (24 + k) % 2 = 1 then (3 : Int) else 2); split <;> decide
 ·have c' : 2 < (cutF (rowsF l) l k).1.length := c
  show (if atF l (24 + k) % 2 = 1 then (3 : Int) else 2) ≤ _
  split <;> omega
theorem masF_ok (l : List Int) : MsOk (masF l) := by
 have hr := rowsF_ok l
 have h0 := atF_bd l 0 (by omega)
 have h2 := atF_bd l 2 (by omega)
 have hl5 := hr.l5
 have hl3 := hr.l3
 have hc := masF_cuts l
 refine ⟨by show (0 : Int) ≤ 6; decide, by show (6 : Int) ≤ 200; decide, by show 0 ≤ atF l 0 % 30; omega, by show atF l 0 % 30 ≤ _; omega, by show 1 ≤ (rowsF l).length; omega, by show (rowsF l).length ≤ 32; omega, hr.asc, hr.low, ?_, ?_, by omega, ?_⟩
 ·show ((List.range _).map _).length ≤ 1000
  simp only [List.length_map, List.length_range]
  omega
 ·intro c hc
  obtain ⟨j, hj, rfl⟩ := List.mem_map.1 hc
  have hj' := List.mem_range.1 hj
  exact colF_ok (rs := rowsF l) hr.nd (by omega) (by omega) (atF_bd l (5 + 2 * j) (by omega)).1
 ·intro c hc
  have h := masF_cutM l c hc
  exact ⟨h.asc, h.sub, h.two, h.le, by have := h.l5; omega⟩
end Go.Proofs.YtniigfikpfinfaaGreat

/- Maps from pairs of flights to fractions: what the block of such a map holds. -/
namespace Go.Proofs.YtniigfikpfinfaaGreat
open Go.RowKit Go.Maps Go.WideShapes

def pv (a c : Int) : Value := .agg #[.int .i64 a, .int .i64 c]
def Wf (a : Int) : Prop := (Lit.int .i64 a).wf = true
def klP (a c : Int) : Lit := .string (keyBytes [.int .i64 a, .int .i64 c])
theorem ktA_pair : Tryz.prog.keyTypeAt 5 186 = true := by kernel_rfl
theorem kt_pair : Tryz.prog.keyType 186 = true := by kernel_rfl
theorem cells_pair : Tryz.prog.cellsOf 186 = 2 := by kernel_rfl
theorem size_types : ∃ n, Tryz.prog.types.size = n + 1 := Nat.exists_eq_succ_of_ne_zero (Nat.pos_iff_ne_zero.1 (of_decide_eq_true (by kernel_rfl)))
theorem keyP : Keyed Tryz.prog 186 := Keyed.of_law (deep_law_laid laidO (m := 5) (by decide) (of_decide_eq_true (by kernel_rfl)) ktA_pair (by kernel_rfl))
theorem keyLits_int (d : Nat) (v : Value) (l : List Lit) : Tryz.prog.keyLits (d + 1) 3 [v] = some l ↔ ∃ a, v = .int .i64 a ∧ Wf a ∧ l = [.int .i64 a] := by
 unfold Program.keyLits
 rw [Tryz.underlying3]
 constructor
 ·intro h
  cases v <;> simp at h
  obtain ⟨⟨rfl, h1⟩, rfl⟩ := h
  exact ⟨_, rfl, h1, rfl⟩
 ·rintro ⟨a, rfl, h, rfl⟩
  unfold Wf at h
  simp [h]
theorem keyLits_pair (d : Nat) (x y : Value) (l : List Lit) : Tryz.prog.keyLits (d + 2) 186 [x, y] = some l ↔ ∃ a c, x = .int .i64 a ∧ y = .int .i64 c ∧ Wf a ∧ Wf c ∧ l = [.int .i64 a, .int .i64 c] := by
 have e1 : Tryz.prog.keyLits (d + 2) 186 [x, y] = (Tryz.prog.keyLits (d + 1) 3 [x]).bind fun p => (Tryz.prog.keyLits (d + 1) 3 [y]).bind fun q => some (p ++ q) := by
  rw [show d + 2 = (d + 1) + 1 from rfl]
  conv => lhs; unfold Program.keyLits
  rw [Tryz.underlying186]
  have hc : Tryz.prog.cellsOf 3 = 1 := by kernel_rfl
  cases h1 : Tryz.prog.keyLits (d + 1) 3 [x] <;> cases h2 : Tryz.prog.keyLits (d + 1) 3 [y] <;> simp [h1, h2, hc, cells_pair]
 rw [e1]
 constructor
 ·intro h
  cases h1 : Tryz.prog.keyLits (d + 1) 3 [x] with
  | none => rw [h1] at h; cases h
  | some p =>
   cases h2 : Tryz.prog.keyLits (d + 1) 3 [y] with
   | none => rw [h1, h2] at h; cases h
   | some q =>
    rw [h1, h2] at h
    obtain ⟨a, rfl, wa, rfl⟩ := (keyLits_int d x p).1 h1
    obtain ⟨c, rfl, wc, rfl⟩ := (keyLits_int d y q).1 h2
    exact ⟨a, c, rfl, rfl, wa, wc, (Option.some.inj h).symm⟩
 ·rintro ⟨a, c, rfl, rfl, wa, wc, rfl⟩
  rw [(keyLits_int d _ _).2 ⟨a, rfl, wa, rfl⟩, (keyLits_int d _ _).2 ⟨c, rfl, wc, rfl⟩]
  rfl
theorem keyOf_pair (v : Value) (l : Lit) : keyOf Tryz.prog 186 v = some l ↔ ∃ a c, v = pv a c ∧ Wf a ∧ Wf c ∧ l = klP a c := by
 obtain ⟨n, hn⟩ := size_types
 unfold keyOf
 rw [Tryz.underlying186]
 simp only [kt_pair, Bool.true_and, hn]
 constructor
 ·intro h
  cases v with
  | agg cs =>
   unfold Value.formed at h
   rw [Tryz.underlying186] at h
   simp only [cells_pair] at h
   by_cases hs : cs.size = 2
   ·obtain ⟨x, y, rfl⟩ : ∃ x y, cs = #[x, y] := by
     obtain ⟨l⟩ := cs
     match l, hs with
     | [x, y], _ => exact ⟨x, y, rfl⟩
    rw [if_pos (by simp)] at h
    cases hk : Tryz.prog.keyLits (n + 1 + 1) 186 (Value.agg #[x, y]).cells.toList with
    | none => rw [hk] at h; cases h
    | some ls =>
     rw [hk] at h
     obtain ⟨a, c, rfl, rfl, wa, wc, rfl⟩ := (keyLits_pair n x y ls).1 hk
     exact ⟨a, c, rfl, wa, wc, (Option.some.inj h).symm⟩
   ·rw [if_neg (by simpa using hs)] at h; cases h
  | _ =>
   unfold Value.formed at h
   rw [Tryz.underlying186] at h
   simp at h
 ·rintro ⟨a, c, rfl, wa, wc, rfl⟩
  have hf : Value.formed Tryz.prog 186 (pv a c) = true := by
   unfold Value.formed pv
   rw [Tryz.underlying186]
   simp [cells_pair]
  rw [if_pos hf]
  have hk := (keyLits_pair n (.int .i64 a) (.int .i64 c) _).2 ⟨a, c, rfl, rfl, wa, wc, rfl⟩
  show Option.map _ (Tryz.prog.keyLits (n + 1 + 1) 186 [.int .i64 a, .int .i64 c]) = _
  rw [hk]; rfl
theorem keyOf_mk {a c : Int} (wa : Wf a) (wc : Wf c) : keyOf Tryz.prog 186 (pv a c) = some (klP a c) := (keyOf_pair _ _).2 ⟨a, c, rfl, wa, wc, rfl⟩
theorem klP_inj {a c a' c' : Int} (wa : Wf a) (wc : Wf c) (wa' : Wf a') (wc' : Wf c') (h : klP a c = klP a' c') : a = a' ∧ c = c' := by
 have h1 := keyOf_mk wa wc
 rw [h] at h1
 have := keyP.inj h1 (keyOf_mk wa' wc')
 unfold pv at this
 simpa using this
theorem klP_key (a c : Int) : WideAt.IsKeyLit (klP a c) := trivial

def RV (v : Value) : Option (DataW Value × List MemPlace) := some (.held v, [])
abbrev PQ := (Int × Int) × Rat
def sumAt (S : List PQ) (p : Int × Int) : Rat := (S.filter fun e => decide (e.1 = p)).foldl (fun s e => s + e.2) ((0 : Int) : Rat)
theorem sumAt_same (S : List PQ) (p : Int × Int) (x : Rat) : sumAt (S ++ [(p, x)]) p = sumAt S p + x := by
 unfold sumAt; rw [List.filter_append, List.foldl_append]; simp
theorem sumAt_other (S : List PQ) {p q : Int × Int} (x : Rat) (h : q ≠ p) : sumAt (S ++ [(q, x)]) p = sumAt S p := by
 unfold sumAt; rw [List.filter_append, List.foldl_append]; simp [h]
theorem sumAt_none {S : List PQ} {p : Int × Int} (h : ∀ e ∈ S, e.1 ≠ p) : sumAt S p = ((0 : Int) : Rat) := by
 unfold sumAt; rw [List.filter_eq_nil_iff.2 (by simpa using h)]; rfl
structure PMap (D : DataW Value) (m : World) (S : List PQ) : Prop where
 mp : IsMap D
 some : ∀ e ∈ S, ∃ v, (∀ z, D.atKey (klP e.1.1 e.1.2) z = .held v) ∧ FracC m v (sumAt S e.1)
 none : ∀ a c, Wf a → Wf c → (∀ e ∈ S, e.1 ≠ (a, c)) → ∀ z, D.atKey (klP a c) z = z
 wf : ∀ e ∈ S, Wf e.1.1 ∧ Wf e.1.2
 keys : ∀ kl, has D kl = true → ∃ e ∈ S, kl = klP e.1.1 e.1.2
theorem PMap.le {D : DataW Value} {m m' : World} {S : List PQ} (h : PMap D m S) (hl : Le m m') : PMap D m' S :=
 ⟨h.mp, fun e he => by obtain ⟨v, h1, h2⟩ := h.some e he; exact ⟨v, h1, h2.le hl⟩, h.none, h.wf, h.keys⟩
theorem PMap.made (m : World) : PMap (.map []) m [] :=
 ⟨⟨[], rfl⟩, (fun _ h => by cases h), (fun _ _ _ _ _ _ => rfl), (fun _ h => by cases h), (fun kl h => by simp [has] at h)⟩
theorem PMap.put {D : DataW Value} {m : World} {S : List PQ} (h : PMap D m S) {a c : Int} {x : Rat} {v : Value} (wa : Wf a) (wc : Wf c) (hv : FracC m v (sumAt S (a, c) + x)) : PMap (D.put (klP a c) (.held v)) m (S ++ [((a, c), x)]) := by
 have hk := klP_key a c
 refine ⟨h.mp.put _ _, fun e he => ?_, fun a' c' wa' wc' hn z => ?_, fun e he => ?_, fun kl hkl => ?_⟩
 ·by_cases hp : e.1 = (a, c)
  ·refine ⟨v, fun z => ?_, ?_⟩
   ·rw [hp]; exact atKey_put_same h.mp hk _ _
   ·rw [hp, sumAt_same]; exact hv
  ·rcases List.mem_append.1 he with he | he
   ·obtain ⟨u, h1, h2⟩ := h.some e he
    refine ⟨u, fun z => ?_, ?_⟩
    ·rw [atKey_put_other (fun hh => hp ?_)]
     ·exact h1 z
     ·obtain ⟨e1, e2⟩ := klP_inj (h.wf e he).1 (h.wf e he).2 wa wc hh
      exact Prod.ext e1 e2
    ·rw [sumAt_other _ _ (fun hh => hp hh.symm)]; exact h2
   ·rcases List.mem_singleton.1 he with rfl
    exact absurd rfl hp
 ·have hne : (a, c) ≠ (a', c') := hn ((a, c), x) (by simp)
  rw [atKey_put_other (fun hh => hne ?_)]
  ·exact h.none a' c' wa' wc' (fun e he => hn e (List.mem_append_left _ he)) z
  ·obtain ⟨e1, e2⟩ := klP_inj wa' wc' wa wc hh
   rw [e1, e2]
 ·rcases List.mem_append.1 he with he | he
  ·exact h.wf e he
  ·rcases List.mem_singleton.1 he with rfl
   exact ⟨wa, wc⟩
 ·by_cases hh : kl = klP a c
  ·exact ⟨((a, c), x), by simp, hh⟩
  ·rw [has_put_other hh] at hkl
   obtain ⟨e, he, h1⟩ := h.keys kl hkl
   exact ⟨e, List.mem_append_left _ he, h1⟩
theorem zeroF (w : World) : (zeroValue 39).run Tryz.prog w = .ok (.agg #[.bool false, .slice none 0 0, .bool false, .slice none 0 0]) w := by kernel_rfl
def SumV (m : World) (v : Value) (q : Rat) : Prop := FracC m v q ∨ (v = .agg #[.bool false, .slice none 0 0, .bool false, .slice none 0 0] ∧ q = ((0 : Int) : Rat))
theorem SumV.le {m m' : World} {v : Value} {q : Rat} (h : SumV m v q) (hl : Le m m') : SumV m' v q := h.imp (fun h => h.le hl) id
theorem SumV.lit {m : World} {v : Value} {q : Rat} (h : SumV m v q) : ∃ g A n c f B k d, v = .agg #[.bool g, .slice A n c, .bool f, .slice B k d] := by
 rcases h with h | ⟨rfl, -⟩
 ·obtain ⟨g, A, n, c, f, B, k, d, e, _⟩ := h.lit
  exact ⟨_, _, _, _, _, _, _, _, e⟩
 ·exact ⟨_, _, _, _, _, _, _, _, rfl⟩
theorem q_AddSum (a b : Value) (p q : Rat) (w m : World) (hV : Vw m w) (ha : SumV m a p) (hb : FracC m b q) (hs : Sm p.num p.den) (hs' : Sm q.num q.den) :
  Calls Tryz.prog 70 #[a, b] w (RetV w m fun m' r => FracC m' r (p + q)) := by
 rcases ha with ha | ⟨rfl, rfl⟩
 ·exact q_AddC a b p q w m hV ha hb hs hs'
 ·have h := q_Add _ b 0 0 q.num q.den w m hV (frac0 m) (hb.toS hs') ⟨by decide, by decide⟩ hs'
  rw [Rat.num_divInt_den] at h
  have e : Rat.divInt 0 0 + q = ((0 : Int) : Rat) + q := by simp
  rwa [e] at h
def FMap (W m : World) (b : Nat) (S : List PQ) : Prop := ∃ n D, n ≤ S.length ∧ W.ownsMap (H := Value) Tryz.prog 186 RV b n D ∧ PMap D m S
theorem FMap.made (W m : World) : FMap (W.alloc (.map #[] 0)) m W.heap.size [] := ⟨0, _, Nat.le_refl _, World.ownsMap_made _ _ _ _, PMap.made m⟩
theorem FMap.le {W m m' : World} {b : Nat} {S : List PQ} (h : FMap W m b S) (hl : Le m m') : FMap W m' b S := by
 obtain ⟨n, D, hn, h1, h2⟩ := h
 exact ⟨n, D, hn, h1, h2.le hl⟩
theorem ownsMap_ext {W W' : World} {b n : Nat} {D : DataW Value} (h : W.ownsMap (H := Value) Tryz.prog 186 RV b n D) (hE : Ext W W') : W'.ownsMap (H := Value) Tryz.prog 186 RV b n D := by
 obtain ⟨es, clock, hb, h⟩ := h
 have hlt : b < W.heap.size := (Array.getElem?_eq_some_iff.1 hb).1
 exact ⟨es, clock, (hE.block b hlt).trans hb, h⟩
theorem FMap.ext {W W' m : World} {b : Nat} {S : List PQ} (h : FMap W m b S) (hE : Ext W W') : FMap W' m b S := by
 obtain ⟨n, D, hn, h1, h2⟩ := h
 exact ⟨n, D, hn, ownsMap_ext h1 hE, h2⟩
theorem FMap.notCells {W m : World} {b : Nat} {S : List PQ} (h : FMap W m b S) : ∀ cs t fr, W.heap[b]? ≠ some (.cells cs t fr) := by
 obtain ⟨n, D, hn, ⟨es, clock, hb, _⟩, -⟩ := h
 intro cs t fr e
 rw [hb] at e
 cases e
theorem FMap.look {W m : World} {b : Nat} {S : List PQ} (h : FMap W m b S) {a c : Int} (wa : Wf a) (wc : Wf c) :
  ∃ v, SumV m v (sumAt S (a, c)) ∧ ∀ W', Ext W W' → (Instr.lookup 184 (.map (some b)) (pv a c) false).run Tryz.prog W' = .ok v W' := by
 obtain ⟨n, D, hn, h1, h2⟩ := h
 have key : ∀ W', Ext W W' → ∃ v, (Instr.lookup 184 (.map (some b)) (pv a c) false).run Tryz.prog W' = .ok v W' ∧ DataW.held v = D.atKey (klP a c) (.held (.agg #[.bool false, .slice none 0 0, .bool false, .slice none 0 0])) := by
  intro W' hE
  obtain ⟨v, ps, hrun, hv⟩ := (ownsMap_ext h1 hE).lookup keyP Tryz.underlying184 (zeroF W') (zd := .held (.agg #[.bool false, .slice none 0 0, .bool false, .slice none 0 0])) (zp := []) rfl (keyOf_mk wa wc)
  exact ⟨v, hrun, (Prod.mk.inj (Option.some.inj hv)).1⟩
 obtain ⟨v, -, hv⟩ := key W (Ext.refl _)
 refine ⟨v, ?_, fun W' hE => ?_⟩
 ·by_cases he : ∃ e ∈ S, e.1 = (a, c)
  ·obtain ⟨e, he, hp⟩ := he
   obtain ⟨u, h3, h4⟩ := h2.some e he
   rw [hp] at h3 h4
   rw [h3] at hv
   cases hv
   exact .inl h4
  ·have hn' : ∀ e ∈ S, e.1 ≠ (a, c) := fun e h h' => he ⟨e, h, h'⟩
   rw [h2.none a c wa wc hn'] at hv
   cases hv
   exact .inr ⟨rfl, sumAt_none hn'⟩
 ·obtain ⟨u, hr, hu⟩ := key W' hE
  rw [← hu] at hv
  cases hv
  exact hr
theorem FMap.up {W m : World} {b : Nat} {S : List PQ} (h : FMap W m b S) (hl : S.length ≤ 1000000) {a c : Int} {x : Rat} {v : Value} (wa : Wf a) (wc : Wf c) (hv : FracC m v (sumAt S (a, c) + x)) :
  ∃ W', (Instr.mapUpdate 184 (.map (some b)) (pv a c) v).run Tryz.prog W = .ok () W' ∧ FMap W' m b (S ++ [((a, c), x)]) ∧ W.grownBy W' (some b) := by
 obtain ⟨n, D, hn, h1, h2⟩ := h
 obtain ⟨W', e1, e2, e3⟩ := h1.update keyP Tryz.underlying184 (by unfold maxLen; omega) (keyOf_mk wa wc) (val := v) (d := .held v) (ps := []) rfl
 exact ⟨W', e1, ⟨n + 1, _, by simp; omega, e2, h2.put wa wc hv⟩, e3⟩
end Go.Proofs.YtniigfikpfinfaaGreat

/- slices.SortFunc over a row of follow-ons: the row, the comparison, and what is sorted. -/
namespace Go.Proofs.YtniigfikpfinfaaGreat
open Go.RowKit Go.Sort

structure Fol where
 a : Int
 c : Int
 g : Bool
 A : Option Addr
 n : Nat
 k : Nat
 f : Bool
 B : Option Addr
 p : Nat
 q : Nat
instance iFol : Inhabited Fol := ⟨⟨0, 0, false, none, 0, 0, false, none, 0, 0⟩⟩
def encF (x : Fol) : List Value := [.int .i64 x.a, .int .i64 x.c, .bool x.g, .slice x.A x.n x.k, .bool x.f, .slice x.B x.p x.q]
def encV (x : Fol) : Value := .agg (encF x).toArray
def cmpZ (x y : Int) : Int := if x < y then -1 else if y < x then 1 else 0
def cfF (x y : Fol) : Int := if cmpZ x.a y.a = 0 then cmpZ x.c y.c else cmpZ x.a y.a
theorem lt_cfF (x y : Fol) : ltOf cfF x y = decide (x.a < y.a ∨ (x.a = y.a ∧ x.c < y.c)) := by
 unfold ltOf cfF cmpZ
 congr 1
 apply propext
 by_cases h1 : x.a < y.a
 ·simp [h1]
 ·by_cases h2 : y.a < x.a
  ·simp [h1, h2]; omega
  ·have : x.a = y.a := by omega
   simp [h1, h2, this]
   by_cases h3 : x.c < y.c
   ·simp [h3]
   ·by_cases h4 : y.c < x.c <;> simp [h3, h4]
theorem swoF : SWO (ltOf cfF) where
 irrefl x := by rw [lt_cfF]; simp
 trans x y z h1 h2 := by rw [lt_cfF] at *; simp only [decide_eq_true_eq] at *; omega
 ntrans x y z h1 h2 := by rw [lt_cfF] at *; simp only [decide_eq_false_iff_not] at *; omega
theorem encF_len (x : Fol) : (encF x).length = 6 := rfl
theorem encF_one (x : Fol) : ∀ v ∈ encF x, v.oneCell' = true := by
 intro v hv
 simp [encF] at hv
 rcases hv with rfl | rfl | rfl | rfl | rfl | rfl <;> rfl

def FolR (m : World) (v : Value) (x : PQ) : Prop := ∃ f : Fol, v = encV f ∧ f.a = x.1.1 ∧ f.c = x.1.2 ∧ FracC m (.agg #[.bool f.g, .slice f.A f.n f.k, .bool f.f, .slice f.B f.p f.q]) x.2
theorem FolR.mono (m m' : World) (v : Value) (x : PQ) (h : FolR m v x) (hl : Le m m') : FolR m' v x := by
 obtain ⟨f, h1, h2, h3, h4⟩ := h
 exact ⟨f, h1, h2, h3, h4.le hl⟩
abbrev FolL := ListV (α := PQ) 6 FolR
theorem FolL.le {m m' : World} {v : Value} {xs : List PQ} (h : FolL m v xs) (hl : Le m m') : FolL m' v xs := ListV.le FolR.mono h hl
def ltP (x y : PQ) : Prop := x.1.1 < y.1.1 ∨ (x.1.1 = y.1.1 ∧ x.1.2 < y.1.2)
theorem all2_fol {m : World} : ∀ {vs : List Value} {xs : List PQ}, All2 (FolR m) vs xs → ∃ fs : List Fol, vs = fs.map encV
 | [], [], _ => ⟨[], rfl⟩
 | v :: vs, x :: xs, h => by
  obtain ⟨f, e, -⟩ := h.1
  obtain ⟨fs, e'⟩ := all2_fol h.2
  exact ⟨f :: fs, by rw [e, e']; rfl⟩
 | [], _ :: _, h => h.elim
 | _ :: _, [], h => h.elim
theorem all2_cons_inv {α : Type} {R : Value → α → Prop} {v : Value} {vs : List Value} {xs : List α} (h : All2 R (v :: vs) xs) : ∃ x ys, xs = x :: ys ∧ R v x ∧ All2 R vs ys := by
 cases xs with
 | nil => exact h.elim
 | cons x ys => exact ⟨x, ys, rfl, h.1, h.2⟩
theorem all2_perm {α : Type} {R : Value → α → Prop} {vs vs' : List Value} (hp : vs.Perm vs') : ∀ {xs : List α}, All2 R vs xs → ∃ ys, ys.Perm xs ∧ All2 R vs' ys := by
 induction hp with
 | nil => exact fun h => ⟨_, List.Perm.refl _, h⟩
 | cons v _ ih =>
  intro xs h
  obtain ⟨x, ys, rfl, h1, h2⟩ := all2_cons_inv h
  obtain ⟨zs, hz, h3⟩ := ih h2
  exact ⟨x :: zs, hz.cons x, h1, h3⟩
 | swap v u l =>
  intro xs h
  obtain ⟨x, ys, rfl, h1, h2⟩ := all2_cons_inv h
  obtain ⟨y, zs, rfl, h3, h4⟩ := all2_cons_inv h2
  exact ⟨y :: x :: zs, List.Perm.swap _ _ _, h3, h1, h4⟩
 | trans _ _ ih1 ih2 =>
  intro xs h
  obtain ⟨ys, hy, h1⟩ := ih1 h
  obtain ⟨zs, hz, h2⟩ := ih2 h1
  exact ⟨zs, hz.trans hy, h2⟩
theorem cells_enc {fs : List Fol} : ∀ u ∈ fs.map encV, u.cells.size = 6 := by
 intro u hu
 obtain ⟨f, _, rfl⟩ := List.mem_map.1 hu
 rfl
theorem enc_flat {d : Array Fol} {t : Nat} (ht : t < d.size * 6) : (cellsOf (d.toList.map encV))[t]? = some (flatK encF 6 d)[t]! := by
 have hk : t / 6 < d.size := by omega
 have hv : (d.toList.map encV)[t / 6]? = some (encV d[t / 6]!) := by
  rw [List.getElem?_map, Array.getElem?_toList, Array.getElem?_eq_getElem hk, getElem!_pos d _ hk]; rfl
 have h := cellsOf_at cells_enc hv (t % 6) (by omega)
 rw [show t / 6 * 6 + t % 6 = t by omega] at h
 rw [h, get_flatK encF 6 d t ht]
 have hl : t % 6 < (encF d[t / 6]!).length := by rw [encF_len]; omega
 show (encF d[t / 6]!)[t % 6]? = some _
 rw [List.getElem?_eq_getElem hl]
 exact congrArg some (getElem!_pos (encF d[t / 6]!) (t % 6) hl).symm
theorem put_flat {d : Array Fol} {cur : Array Value} (h : d.size * 6 ≤ cur.size) : (putCells id 0 (flatK encF 6 d) cur).toList.take (d.size * 6) = cellsOf (d.toList.map encV) := by
 apply List.ext_getElem?
 intro t
 by_cases ht : t < d.size * 6
 ·rw [List.getElem?_take, if_pos ht, enc_flat ht, Array.getElem?_toList]
  unfold putCells
  rw [Array.getElem?_mapIdx, Array.getElem?_eq_getElem (by omega), Option.map_some, if_pos ⟨Nat.zero_le _, by simpa using ht⟩]
  simp
 ·rw [List.getElem?_take, if_neg ht, List.getElem?_eq_none]
  rw [cellsOf_length cells_enc]; simp; omega
theorem Loc.sorted {w0 m0 W m : World} {A : List Lo} {g : Nat} {e : TypeId} {cur : Array Value} (hL : Loc w0 m0 W m (A ++ [(g, e, cur)])) (n : Nat) (d : Array Fol) (os : Array Obj) :
  Loc w0 m0 (sortWorldK encF 6 W g 0 n d os) (hidTo m (sortWorldK encF 6 W g 0 n d os).heap.size) (A ++ [(g, e, putCells id 0 (flatK encF 6 d) cur)]) := by
 have hg : (g, e, cur) ∈ A ++ [(g, e, cur)] := by simp
 have hb := hL.blk _ hg
 have hlow := hL.low _ hg
 have hlt : g < W.heap.size := hb.lt
 have hsz : (sortWorldK encF 6 W g 0 n d os).heap.size = W.heap.size + os.size := by
  unfold sortWorldK; rw [size_grow, size_putRowK]; rfl
 have oth : ∀ k, k < W.heap.size → k ≠ g → (sortWorldK encF 6 W g 0 n d os).heap[k]? = W.heap[k]? := by
  intro k hk hne
  unfold sortWorldK
  rw [heap_grow_old _ _ (by rw [size_putRowK]; exact hk)]
  show (W.heap.modify g _)[k]? = _
  rw [Array.getElem?_modify, if_neg (fun h => hne h.symm)]
 have own : (sortWorldK encF 6 W g 0 n d os).heap[g]? = some (.cells (putCells id 0 (flatK encF 6 d) cur) e (0, 0)) := by
  unfold sortWorldK
  rw [heap_grow_old _ _ (by rw [size_putRowK]; exact hlt)]
  show (W.heap.modify g _)[g]? = _
  rw [Array.getElem?_modify, if_pos rfl]
  have : W.heap[g]? = some (.cells cur e (0, 0)) := hb
  rw [this]; rfl
 have hs : m.heap.size ≤ (sortWorldK encF 6 W g 0 n d os).heap.size := by rw [hL.vw.size, hsz]; omega
 have hE : Ext w0 (sortWorldK encF 6 W g 0 n d os) := by
  refine ⟨hL.ext.os, hL.ext.tape, hL.ext.output, by rw [hsz]; have := hL.ext.size; omega, fun k hk => ?_⟩
  have h1 := hL.ext.size
  rw [oth k (by omega) (by have : w0.heap.size ≤ g := hlow; omega)]
  exact hL.ext.block k hk
 have ap := hL.apart
 rw [List.pairwise_append] at ap
 refine ⟨hL.size0, hE, hL.mext.trans (hidTo_ext hs), ⟨hL.vw.os, hL.vw.tape, hL.vw.output, hidTo_size hs, fun a u hu => ?_⟩, fun x hx => ?_, fun x hx => ?_, fun x hx a ha => ?_, ?_⟩
 ·rcases Nat.lt_or_ge a.block m.heap.size with hlt' | hlt'
  ·rw [cell_of_heap (hidTo_old hlt')] at hu
   have hne : a.block ≠ g := fun e' => by rw [hL.hid _ hg a e'] at hu; cases hu
   rw [cell_of_heap (oth _ (by rw [← hL.vw.size]; exact hlt') hne)]
   exact hL.vw.cell _ _ hu
  ·rw [hidTo_new hlt'] at hu; cases hu
 ·rcases List.mem_append.1 hx with hx | hx
  ·exact hL.low x (List.mem_append_left _ hx)
  ·rcases List.mem_singleton.1 hx with rfl; exact hlow
 ·rcases List.mem_append.1 hx with hx | hx
  ·have hbx := hL.blk x (List.mem_append_left _ hx)
   have hne : x.1 ≠ g := ap.2.2 x hx _ (List.mem_singleton.2 rfl)
   exact (oth _ hbx.lt hne).trans hbx
  ·rcases List.mem_singleton.1 hx with rfl; exact own
 ·have key : ∀ y ∈ A ++ [(g, e, cur)], a.block = y.1 → (hidTo m (sortWorldK encF 6 W g 0 n d os).heap.size).cell? a = none := by
   intro y hy ha
   have hlt' : a.block < m.heap.size := by rw [ha, hL.vw.size]; exact (hL.blk y hy).lt
   rw [cell_of_heap (hidTo_old hlt')]
   exact hL.hid y hy a ha
  rcases List.mem_append.1 hx with hx | hx
  ·exact key x (List.mem_append_left _ hx) ha
  ·rcases List.mem_singleton.1 hx with rfl
   exact key _ hg ha
 ·rw [List.pairwise_append]
  exact ⟨ap.1, List.pairwise_singleton _ _, fun x hx y hy => by rcases List.mem_singleton.1 hy with rfl; exact ap.2.2 x hx (g, e, cur) (List.mem_singleton.2 rfl)⟩
theorem Blk.holdsF {W : World} {g : Nat} {e : TypeId} {cur : Array Value} {d : Array Fol} (hb : Blk W g e cur) (ht : cur.toList.take (d.size * 6) = cellsOf (d.toList.map encV)) : HoldsK encF 6 W g 0 d := by
 intro j hj
 rw [size_flatK] at hj
 rw [Nat.zero_add, hb.cell, hb.frozen]
 refine ⟨?_, rfl⟩
 have h := enc_flat hj
 rw [← ht, List.getElem?_take, if_pos hj, Array.getElem?_toList] at h
 exact h
end Go.Proofs.YtniigfikpfinfaaGreat

/- Blocks that are no rows (maps, iterators) beside the list of known blocks: what leaves them; ranging over a map. No program but for the last law's types. -/
namespace Go.Proofs.YtniigfikpfinfaaGreat
open Go.RowKit Go.Maps

def Still (W W' : World) : Prop := ∀ (b : Nat) (o : Obj), W.heap[b]? = some o → (∀ cs t fr, o ≠ Obj.cells cs t fr) → W'.heap[b]? = some o
theorem Still.refl (W : World) : Still W W := fun _ _ h _ => h
theorem Still.trans {W W' W2 : World} (h : Still W W') (k : Still W' W2) : Still W W2 := fun b o hb hn => k b o (h b o hb hn) hn
theorem Ext.still {W W' : World} (h : Ext W W') : Still W W' := fun b o hb _ => (h.block b (Array.getElem?_eq_some_iff.1 hb).1).trans hb
theorem ownsMap_still {W W' : World} {b n : Nat} {D : DataW Value} (h : W.ownsMap (H := Value) Tryz.prog 186 RV b n D) (hE : Still W W') : W'.ownsMap (H := Value) Tryz.prog 186 RV b n D := by
 obtain ⟨es, clock, hb, h⟩ := h
 exact ⟨es, clock, hE b _ hb (fun _ _ _ e => by cases e), h⟩
theorem FMap.still {W W' m : World} {b : Nat} {S : List PQ} (h : FMap W m b S) (hE : Still W W') : FMap W' m b S := by
 obtain ⟨n, D, hn, h1, h2⟩ := h
 exact ⟨n, D, hn, ownsMap_still h1 hE, h2⟩
abbrev RngF (W : World) (b r n : Nat) (D : DataW Value) (left : Lit → Bool) (cnt : Nat) : Prop := W.ranges (H := Value) Tryz.prog 186 RV b r n D left cnt
theorem RngF.still {W W' : World} {b r n cnt : Nat} {D : DataW Value} {left : Lit → Bool} (h : RngF W b r n D left cnt) (hE : Still W W') : RngF W' b r n D left cnt := by
 obtain ⟨es, clock, since, seen, c0, hb, F, hs, hD, hr, rest⟩ := h
 exact ⟨es, clock, since, seen, c0, hE b _ hb (fun _ _ _ e => by cases e), F, hs, hD, hE r _ hr (fun _ _ _ e => by cases e), rest⟩
theorem RngF.iter {W : World} {b r n cnt : Nat} {D : DataW Value} {left : Lit → Bool} (h : RngF W b r n D left cnt) : ∀ cs t fr, W.heap[r]? ≠ some (.cells cs t fr) := by
 obtain ⟨es, clock, since, seen, c0, hb, F, hs, hD, hr, rest⟩ := h
 intro cs t fr e
 rw [hr] at e; cases e
theorem Loc.join {w0 m0 W m W2 m2 : World} {A B : List Lo} (hL : Loc w0 m0 W m A) (h2 : Loc W m W2 m2 B) : Loc w0 m0 W2 m2 (B ++ A) := by
 refine ⟨hL.size0, hL.ext.trans h2.ext, hL.mext.trans h2.mext, h2.vw, fun x hx => ?_, fun x hx => ?_, fun x hx a ha => ?_, ?_⟩
 ·rcases List.mem_append.1 hx with hx | hx
  ·exact Nat.le_trans hL.ext.size (h2.low x hx)
  ·exact hL.low x hx
 ·rcases List.mem_append.1 hx with hx | hx
  ·exact h2.blk x hx
  ·exact (hL.blk x hx).ext h2.ext
 ·rcases List.mem_append.1 hx with hx | hx
  ·exact h2.hid x hx a ha
  ·have hlt : a.block < m.heap.size := by rw [ha, hL.vw.size]; exact (hL.blk x hx).lt
   rw [h2.mext.cell (p := a) hlt]
   exact hL.hid x hx a ha
 ·rw [List.pairwise_append]
  refine ⟨h2.apart, hL.apart, fun x hx y hy => ?_⟩
  have h1 := h2.low x hx
  have h3 := (hL.blk y hy).lt
  omega
theorem Loc.grow0 {w0 m0 W m W' : World} {Ls : List Lo} (h : Loc w0 m0 W m Ls) (hg : W.grownBy W' none) : Loc w0 m0 W' (hidTo m W'.heap.size) Ls := by
 have hs : m.heap.size ≤ W'.heap.size := by rw [h.vw.size]; exact hg.size
 refine ⟨h.size0, h.ext.grown hg (fun k hk => by cases hk), h.mext.trans (hidTo_ext hs), ⟨h.vw.os.trans hg.os.symm, h.vw.tape.trans hg.tape.symm, h.vw.output.trans hg.output.symm, hidTo_size hs, fun a u hu => ?_⟩, h.low, fun x hx => ?_, fun x hx a ha => ?_, h.apart⟩
 ·rcases Nat.lt_or_ge a.block m.heap.size with hlt | hlt
  ·rw [cell_of_heap (hidTo_old hlt)] at hu
   rw [World.cell?_of_block (hg.block _ (by rw [← h.vw.size]; exact hlt) (by simp))]
   exact h.vw.cell _ _ hu
  ·rw [hidTo_new hlt] at hu; cases hu
 ·exact (hg.block _ (h.blk x hx).lt (by simp)).trans (h.blk x hx)
 ·have hlt : a.block < m.heap.size := by rw [ha, h.vw.size]; exact (h.blk x hx).lt
  rw [cell_of_heap (hidTo_old hlt)]
  exact h.hid x hx a ha
section
variable {P : Program} {ops : Array Oper} {Q : Exit → Act → World → Prop} {rest : List Oper} {o : Oper} {a : Act} {w0 m0 W m : World}
theorem wl_appendS {A R : List Lo} (hL : Loc w0 m0 W m (A ++ R)) {e : TypeId} {size : Nat} {v : Value} {n : Nat} {xs : List Value} (hR : Row e size v n xs R)
  (hw : Region.wanted o (yielded ops a.tmps) = true) {s x : Operand} {t : TypeId} (ho : o.op = .call { callee := .builtin .append, args := #[s, x], argTypes := #[t, t] })
  {bytes : Nat} (hap : apS P t = some (e, size, bytes, size)) (hsz : 0 < size) (hs : a.eval s = v) {B : Option Addr} {k c : Nat} (hx : a.eval x = .slice B k c) {news : List Value}
  (hl : news.length = k * size) (hr : Sl W B news) (h1 : news.all (·.oneCell') = true) (hn : n + k ≤ 1000000) (hb : bytes ≤ 1000000)
  (h : ∀ v' W' m' R', Loc w0 m0 W' m' (A ++ R') → Row e size v' (n + k) (xs ++ news) R' → Ext m m' → Still W W' → wpList P ops Q rest (a.put o.dst v') W') : wpList P ops Q (o :: rest) a W := by
 obtain ⟨i, z, ht, hi, hz, hs1, hb1, hz1⟩ := ap_desc hap
 refine wpList_wanted hw fun K hK => ?_
 have hbb : (n + k) * bytes ≤ 140737488355328 := Nat.le_trans (Nat.mul_le_mul hn hb) (by decide)
 refine wp_append_any W s x t ho w0.heap.size e i z size bytes ht hi hz hs1 hb1 hz1 hsz v n xs hs (hL.own hR) B k c news hx hl hr (fun u hu => List.all_eq_true.1 h1 u hu) (Nat.le_trans hn (by decide)) hbb hL.ext.size ?_
 intro v' W' ho' hg hob
 refine hK _ _ ?_
 have hrow : ∀ j, v.ownBlock = some j → ∃ x ∈ R, x.1 = j := by
  intro j hj
  obtain ⟨_, ⟨rfl, _, _⟩ | ⟨g, cap, cur, rfl, rfl, _⟩⟩ := hR
  ·simp [Value.ownBlock] at hj
  ·simp [Value.ownBlock] at hj
   exact ⟨_, List.mem_singleton.2 rfl, hj⟩
 have hst : Still W W' := fun b ob hbo hnc => by
  refine (hg.block b (Array.getElem?_eq_some_iff.1 hbo).1 fun hbe => ?_).trans hbo
  obtain ⟨x, hx, hxe⟩ := hrow b hbe.symm
  have hbl := hL.blk x (List.mem_append_right _ hx)
  unfold Blk at hbl
  rw [hxe, hbo] at hbl
  exact hnc _ _ _ (Option.some.inj hbl)
 have hE : Ext m (hidTo m W'.heap.size) := hidTo_ext (by rw [hL.vw.size]; exact hg.size)
 obtain ⟨hlen, ⟨rfl, h0⟩ | ⟨g, cap, cur, rfl, hge, hh, hnc, hcm, hcs, htk⟩⟩ := ho'
 ·exact h _ W' _ [] (hL.grown hg hrow (fun x hx => by cases hx) (by simp)) ⟨hlen, .inl ⟨rfl, h0, rfl⟩⟩ hE hst
 ·refine h _ W' _ [(g, e, cur)] (hL.grown hg hrow (fun x hx => ?_) (by simp)) ⟨hlen, .inr ⟨g, cap, cur, rfl, rfl, hnc, hcm, hcs, htk⟩⟩ hE hst
  rcases List.mem_singleton.1 hx with rfl
  refine ⟨hh, ?_⟩
  rcases hob with hob | hob
  ·left
   obtain ⟨x, hx, hxe⟩ := hrow g (by rw [← hob]; rfl)
   exact ⟨x, hx, hxe⟩
  ·right
   simpa [Value.ownBlock] using hob
end
section
variable {ops : Array Oper} {Q : Exit → Act → World → Prop} {rest : List Oper} {o : Oper} {a : Act} {w0 m0 W m : World} {Ls : List Lo}
theorem wl_range (hL : Loc w0 m0 W m Ls) (hg : o.guard = none) {mo : Operand} (hop : o.op = Op.range 184 mo) {b n : Nat} {D : DataW Value} (hm : a.eval mo = .map (some b)) (hown : W.ownsMap (H := Value) Tryz.prog 186 RV b n D)
  (h : ∀ W' m', Loc w0 m0 W' m' Ls → Ext m m' → RngF W' b W.heap.size n D (has D) (size D) → W.heap.size < W'.heap.size → wpList Tryz.prog ops Q rest (a.put o.dst (.pointer (some ⟨W.heap.size, 0, none⟩))) W') :
  wpList Tryz.prog ops Q (o :: rest) a W :=
 wpList_range_own W hg mo _ hop _ _ keyP Tryz.underlying184 RV b n D hm hown fun W' h1 h2 h3 =>
  h W' _ (hL.grow0 h2) (hidTo_ext (by rw [hL.vw.size]; exact h2.size)) h1 (by omega)
theorem wl_next (hL : Loc w0 m0 W m Ls) (hg : o.guard = none) {it : Operand} (hop : o.op = Op.next it false) {b r n cnt : Nat} {D : DataW Value} {left : Lit → Bool} (hit : a.eval it = .pointer (some ⟨r, 0, none⟩)) (hr : RngF W b r n D left cnt) (hlow : w0.heap.size ≤ r)
  (hD : (∀ kl, left kl = false) → wpList Tryz.prog ops Q rest (a.put o.dst (.tuple #[.bool false])) W)
  (hM : ∀ (x c : Int) (v : Value) (W' m' : World) (cnt' : Nat), Wf x → Wf c → left (klP x c) = true → (∀ z, D.atKey (klP x c) z = .held v) → RngF W' b r n D (fun z => left z && !z.sameKey (klP x c)) cnt' → cnt' < cnt → Loc w0 m0 W' m' Ls → Ext m m' →
   (Instr.entry (.pointer (some ⟨r, 0, none⟩))).run Tryz.prog W' = .ok (.tuple #[.agg #[.int .i64 x, .int .i64 c], v]) W' → wpList Tryz.prog ops Q rest (a.put o.dst (.tuple #[.bool true, .agg #[.int .i64 x, .int .i64 c], v])) W') :
  wpList Tryz.prog ops Q (o :: rest) a W := by
 refine wpList_plain hg fun K' hK' => ?_
 unfold Oper.wp
 rcases hr.next keyP o.type with ⟨h0, hl, hrun⟩ | ⟨key, v, kl, y, W', cnt', hkey, hlk, hv, hat, hrun, hrg, hlt, hgr, hsz, hen⟩
 ·simp [execOp, hop, hit, hrun, Result.andThen]
  exact hK' _ _ (hD hl)
 ·obtain ⟨x, c, rfl, wx, wc, rfl⟩ := (keyOf_pair _ _).1 hkey
  cases hv
  simp [execOp, hop, hit, hrun, Result.andThen]
  exact hK' _ _ (hM x c v W' _ cnt' wx wc hlk hat hrg hlt (hL.mapTurn hgr hlow hr.iter) (hidTo_ext (by rw [hL.vw.size]; exact hgr.size)) hen)
end
end Go.Proofs.YtniigfikpfinfaaGreat

/- Follow-ons in plain numbers: the entries that the columns give, their sums, and the one ascending list of those that are not 0. -/
namespace Go.Proofs.YtniigfikpfinfaaGreat
open Go.RowKit

def pairsOf (l : List Int) : List (Int × Int) := l.zip l.tail
def entE (l : List Int) (x : Rat) : List PQ := (pairsOf l).map fun p => (p, x)
def colE (l : List Int) (x : Rat) (j : Nat) : List PQ := ((pairsOf l).take j).map fun p => (p, x)
def entS (cols : List Col) (vs : List Rat) (k : Nat) : List PQ := ((cols.zip vs).take k).flatMap fun e => entE (opF e.1.2.1) e.2
theorem pairs_at {l : List Int} {j : Nat} {a c : Int} (ha : l[j]? = some a) (hc : l[j + 1]? = some c) : (pairsOf l)[j]? = some (a, c) := by
 unfold pairsOf
 rw [List.getElem?_zip_eq_some]
 exact ⟨ha, by rw [List.getElem?_tail]; exact hc⟩
theorem pairs_len (l : List Int) : (pairsOf l).length = l.length - 1 := by unfold pairsOf; simp
theorem colE_zero (l : List Int) (x : Rat) : colE l x 0 = [] := rfl
theorem colE_step {l : List Int} {x : Rat} {j : Nat} {a c : Int} (ha : l[j]? = some a) (hc : l[j + 1]? = some c) : colE l x j ++ [((a, c), x)] = colE l x (j + 1) := by
 unfold colE
 rw [List.take_add_one, pairs_at ha hc]; simp
theorem colE_end {l : List Int} {x : Rat} {j : Nat} (h : l.length ≤ j + 1) : colE l x j = entE l x := by
 unfold colE entE
 rw [List.take_of_length_le (by rw [pairs_len]; omega)]
theorem entS_step {cols : List Col} {vs : List Rat} {k : Nat} {c : Col} {x : Rat} (hc : cols[k]? = some c) (hx : vs[k]? = some x) : entS cols vs k ++ entE (opF c.2.1) x = entS cols vs (k + 1) := by
 unfold entS
 have : (cols.zip vs)[k]? = some (c, x) := List.getElem?_zip_eq_some.2 ⟨hc, hx⟩
 rw [List.take_add_one, this]; simp
structure VOk (x : Ms) (vs : List Rat) : Prop where
 ms : MsOk x
 len : vs.length = x.cols.length
 tw : ∀ v ∈ vs, Tw 18 v
 few : x.cols.length ≤ 100
theorem nodup_length : ∀ {xs ys : List Int}, xs.Nodup → (∀ x ∈ xs, x ∈ ys) → xs.length ≤ ys.length
 | [], _, _, _ => Nat.zero_le _
 | x :: xs, ys, hn, hs => by
  obtain ⟨h1, h2⟩ := List.nodup_cons.1 hn
  have hx := hs x List.mem_cons_self
  have ih := nodup_length (ys := ys.erase x) h2 fun y hy => (List.mem_erase_of_ne (fun e => h1 (by rw [← e]; exact hy))).2 (hs y (List.mem_cons_of_mem _ hy))
  rw [List.length_erase_of_mem hx] at ih
  have := List.length_pos_of_mem hx
  simp only [List.length_cons]; omega
theorem nodup_lengthP : ∀ {xs ys : List (Int × Int)}, xs.Nodup → (∀ x ∈ xs, x ∈ ys) → xs.length ≤ ys.length
 | [], _, _, _ => Nat.zero_le _
 | x :: xs, ys, hn, hs => by
  obtain ⟨h1, h2⟩ := List.nodup_cons.1 hn
  have hx := hs x List.mem_cons_self
  have ih := nodup_lengthP (ys := ys.erase x) h2 fun y hy => (List.mem_erase_of_ne (fun e => h1 (by rw [← e]; exact hy))).2 (hs y (List.mem_cons_of_mem _ hy))
  rw [List.length_erase_of_mem hx] at ih
  have := List.length_pos_of_mem hx
  simp only [List.length_cons]; omega
theorem entE_len (l : List Int) (x : Rat) : (entE l x).length ≤ l.length := by unfold entE; rw [List.length_map, pairs_len]; omega
theorem VOk.col_len {x : Ms} {vs : List Rat} (h : VOk x vs) {c : Col} (hc : c ∈ x.cols) : (opF c.2.1).length ≤ 32 := by
 have h1 := h.ms.cols c hc
 exact Nat.le_trans (nodup_length h1.nodup h1.sub) h.ms.r1
theorem flatMap_len {α β : Type} {f : α → List β} {B : Nat} : ∀ {l : List α}, (∀ a ∈ l, (f a).length ≤ B) → (l.flatMap f).length ≤ B * l.length
 | [], _ => by simp
 | a :: l, h => by
  have h1 := flatMap_len (l := l) fun b hb => h b (List.mem_cons_of_mem _ hb)
  have h2 := h a List.mem_cons_self
  simp only [List.flatMap_cons, List.length_append, List.length_cons]
  rw [Nat.mul_add]; omega
theorem VOk.ent_mem {x : Ms} {vs : List Rat} (h : VOk x vs) {k : Nat} {e : Col × Rat} (he : e ∈ (x.cols.zip vs).take k) : e.1 ∈ x.cols ∧ e.2 ∈ vs := by
 have := List.mem_of_mem_take he
 exact ⟨(List.of_mem_zip this).1, (List.of_mem_zip this).2⟩
theorem VOk.entS_len {x : Ms} {vs : List Rat} (h : VOk x vs) (k : Nat) : (entS x.cols vs k).length ≤ 3200 := by
 have h1 := flatMap_len (f := fun e : Col × Rat => entE (opF e.1.2.1) e.2) (l := (x.cols.zip vs).take k) (B := 32) fun e he => Nat.le_trans (entE_len _ _) (h.col_len (h.ent_mem he).1)
 have h2 : ((x.cols.zip vs).take k).length ≤ 100 := by have := h.few; simp; omega
 unfold entS
 omega
theorem VOk.entS_mem {x : Ms} {vs : List Rat} (h : VOk x vs) {k : Nat} {e : PQ} (he : e ∈ entS x.cols vs k) : Tw 18 e.2 ∧ e.1.1 ∈ x.rows ∧ e.1.2 ∈ x.rows := by
 unfold entS at he
 obtain ⟨c, hc, he⟩ := List.mem_flatMap.1 he
 obtain ⟨h1, h2⟩ := h.ent_mem hc
 obtain ⟨p, hp, rfl⟩ := List.mem_map.1 he
 have h3 := (h.ms.cols _ h1).sub
 unfold pairsOf at hp
 obtain ⟨p1, p2⟩ := List.of_mem_zip (a := p.1) (b := p.2) hp
 exact ⟨h.tw _ h2, h3 _ p1, h3 _ (List.mem_of_mem_tail p2)⟩
theorem foldl_tw {B : Nat} : ∀ {l : List PQ} {s : Rat}, Tw B s → (∀ e ∈ l, Tw 18 e.2) → Tw (B + 18 * l.length) (l.foldl (fun s e => s + e.2) s)
 | [], s, h, _ => by simpa using h
 | e :: l, s, h, hl => by
  have h1 := foldl_tw (l := l) (h.add (hl e List.mem_cons_self)) fun y hy => hl y (List.mem_cons_of_mem _ hy)
  refine Tw.mono h1 ?_
  simp only [List.length_cons]; omega
theorem sum_tw {S : List PQ} (h : ∀ e ∈ S, Tw 18 e.2) (hl : S.length ≤ 6500) (p : Int × Int) : Tw 117000 (sumAt S p) := by
 unfold sumAt
 have h1 := foldl_tw tw0 (l := S.filter fun e => decide (e.1 = p)) fun e he => h e (List.mem_filter.1 he).1
 have h2 := List.length_filter_le (fun e : PQ => decide (e.1 = p)) S
 exact h1.mono (by omega)

def IsFol (S ys : List PQ) : Prop := ys.Pairwise ltP ∧ ∀ y, y ∈ ys ↔ (y.2 = sumAt S y.1 ∧ y.2 ≠ 0)
theorem ltP_irrefl (x : PQ) : ¬ ltP x x := by unfold ltP; omega
theorem ltP_asymm {x y : PQ} (h : ltP x y) : ¬ ltP y x := by unfold ltP at *; omega
theorem sorted_eq : ∀ {xs ys : List PQ}, xs.Pairwise ltP → ys.Pairwise ltP → (∀ y, y ∈ xs ↔ y ∈ ys) → xs = ys
 | [], ys, _, _, h => by
  cases ys with
  | nil => rfl
  | cons y ys => exact absurd ((h y).2 List.mem_cons_self) List.not_mem_nil
 | x :: xs, ys, hx, hy, h => by
  cases ys with
  | nil => exact absurd ((h x).1 List.mem_cons_self) List.not_mem_nil
  | cons y ys =>
   obtain ⟨x1, x2⟩ := List.pairwise_cons.1 hx
   obtain ⟨y1, y2⟩ := List.pairwise_cons.1 hy
   have e : x = y := by
    rcases List.mem_cons.1 ((h x).1 List.mem_cons_self) with e | e
    ·exact e
    ·rcases List.mem_cons.1 ((h y).2 List.mem_cons_self) with e' | e'
     ·exact e'.symm
     ·exact absurd (x1 y e') (ltP_asymm (y1 x e))
   subst e
   refine congrArg _ (sorted_eq x2 y2 fun z => ⟨fun hz => ?_, fun hz => ?_⟩)
   ·rcases List.mem_cons.1 ((h z).1 (List.mem_cons_of_mem _ hz)) with e | e
    ·subst e; exact absurd (x1 _ hz) (ltP_irrefl _)
    ·exact e
   ·rcases List.mem_cons.1 ((h z).2 (List.mem_cons_of_mem _ hz)) with e | e
    ·subst e; exact absurd (y1 _ hz) (ltP_irrefl _)
    ·exact e
theorem IsFol.unique {S xs ys : List PQ} (h : IsFol S xs) (k : IsFol S ys) : xs = ys := sorted_eq h.1 k.1 fun y => (h.2 y).trans (k.2 y).symm
end Go.Proofs.YtniigfikpfinfaaGreat

/- slices.SortFunc over follow-ons: the kit's contract, laid at this program in plain words. -/
namespace Go.Proofs.YtniigfikpfinfaaGreat
open Go.RowKit

def layFol_ren : Go.Shelf.Ren := ⟨fun | 6 => 154 | 15 => 190 | 14 => 189 | 28 => 226 | 29 => 227 | 20 => 218 | 21 => 219 | 22 => 220 | 23 => 221 | 24 => 222 | 25 => 223 | 26 => 224 | 27 => 225 | 46 => 268 | 47 => 269 | 48 => 270 | 49 => 271 | 50 => 272 | 57 => 301 | n => n, fun | 22 => 81 | 24 => 137 | 25 => 189 | 3 => 3 | 39 => 44 | 0 => 0 | 53 => 120 | 55 => 161 | 4 => 4 | 46 => 257 | 45 => 256 | 50 => 164 | 5 => 5 | 9 => 9 | 66 => 315 | 70 => 319 | 76 => 350 | 77 => 328 | n => n, fun | n => n⟩
theorem layFol : Go.Proofs.SlLaysF0.n6 Tryz.prog layFol_ren := {
 mixed := by kernel_rfl,
 f6 := ⟨Tryz.f154.name, by decide, Tryz.func154.trans (congrArg some (by kernel_rfl))⟩,
 f14 := ⟨Tryz.f189.name, by decide, Tryz.func189.trans (congrArg some (by kernel_rfl))⟩,
 f15 := Tryz.func190.trans (congrArg some (by kernel_rfl)),
 f20 := ⟨Tryz.f218.name, by decide, Tryz.func218.trans (congrArg some (by kernel_rfl))⟩,
 f21 := ⟨Tryz.f219.name, by decide, Tryz.func219.trans (congrArg some (by kernel_rfl))⟩,
 f22 := ⟨Tryz.f220.name, by decide, Tryz.func220.trans (congrArg some (by kernel_rfl))⟩,
 f23 := ⟨Tryz.f221.name, by decide, Tryz.func221.trans (congrArg some (by kernel_rfl))⟩,
 f24 := ⟨Tryz.f222.name, by decide, Tryz.func222.trans (congrArg some (by kernel_rfl))⟩,
 f25 := ⟨Tryz.f223.name, by decide, Tryz.func223.trans (congrArg some (by kernel_rfl))⟩,
 f26 := ⟨Tryz.f224.name, by decide, Tryz.func224.trans (congrArg some (by kernel_rfl))⟩,
 f27 := ⟨Tryz.f225.name, by decide, Tryz.func225.trans (congrArg some (by kernel_rfl))⟩,
 f28 := Tryz.func226.trans (congrArg some (by kernel_rfl)),
 f29 := Tryz.func227.trans (congrArg some (by kernel_rfl)),
 f46 := ⟨Tryz.f268.name, by decide, Tryz.func268.trans (congrArg some (by kernel_rfl))⟩,
 f47 := Tryz.func269.trans (congrArg some (by kernel_rfl)),
 f48 := Tryz.func270.trans (congrArg some (by kernel_rfl)),
 f49 := ⟨Tryz.f271.name, by decide, Tryz.func271.trans (congrArg some (by kernel_rfl))⟩,
 f50 := ⟨Tryz.f272.name, by decide, Tryz.func272.trans (congrArg some (by kernel_rfl))⟩,
 f57 := ⟨Tryz.f301.name, by decide, Tryz.func301.trans (congrArg some (by kernel_rfl))⟩,
 t0 := Tryz.underlying0,
 a0 := Tryz.isAgg0,
 z0 := Tryz.sizeOf0,
 v0 := Tryz.zeroValue0,
 t3 := Tryz.underlying3,
 a3 := Tryz.isAgg3,
 z3 := Tryz.sizeOf3,
 v3 := Tryz.zeroValue3,
 t4 := Tryz.underlying4,
 a4 := Tryz.isAgg4,
 z4 := Tryz.sizeOf4,
 v4 := Tryz.zeroValue4,
 t5 := Tryz.underlying5,
 a5 := Tryz.isAgg5,
 z5 := Tryz.sizeOf5,
 v5 := Tryz.zeroValue5,
 t9 := Tryz.underlying9,
 a9 := Tryz.isAgg9,
 z9 := Tryz.sizeOf9,
 v9 := Tryz.zeroValue9,
 t22 := Tryz.underlying81,
 a22 := Tryz.isAgg81,
 z22 := Tryz.sizeOf81,
 v22 := Tryz.zeroValue81,
 t25 := Tryz.underlying189,
 a25 := Tryz.isAgg189,
 z25 := Tryz.sizeOf189,
 v25 := Tryz.zeroValue189,
 t39 := Tryz.underlying44,
 a39 := Tryz.isAgg44,
 z39 := Tryz.sizeOf44,
 v39 := Tryz.zeroValue44,
 t45 := Tryz.underlying256,
 a45 := Tryz.isAgg256,
 z45 := Tryz.sizeOf256,
 v45 := Tryz.zeroValue256,
 t46 := Tryz.underlying257,
 a46 := Tryz.isAgg257,
 z46 := Tryz.sizeOf257,
 v46 := Tryz.zeroValue257,
 t50 := Tryz.underlying164,
 a50 := Tryz.isAgg164,
 z50 := Tryz.sizeOf164,
 v50 := Tryz.zeroValue164,
 t53 := Tryz.underlying120,
 a53 := Tryz.isAgg120,
 z53 := Tryz.sizeOf120,
 v53 := Tryz.zeroValue120,
 t55 := Tryz.underlying161,
 a55 := Tryz.isAgg161,
 z55 := Tryz.sizeOf161,
 v55 := Tryz.zeroValue161,
 t66 := Tryz.underlying315,
 a66 := Tryz.isAgg315,
 z66 := Tryz.sizeOf315,
 v66 := Tryz.zeroValue315,
 t70 := Tryz.underlying319,
 a70 := Tryz.isAgg319,
 z70 := Tryz.sizeOf319,
 v70 := Tryz.zeroValue319,
 t76 := Tryz.underlying350,
 a76 := Tryz.isAgg350,
 z76 := Tryz.sizeOf350,
 v76 := Tryz.zeroValue350,
 t77 := Tryz.underlying328,
 a77 := Tryz.isAgg328,
 z77 := Tryz.sizeOf328,
 v77 := Tryz.zeroValue328 }
end Go.Proofs.YtniigfikpfinfaaGreat

/- slices.SortFunc with branch.follows' comparison: a row of follow-ons with different pairs is put in ascending order. -/
namespace Go.Proofs.YtniigfikpfinfaaGreat
open Go.RowKit Go.Sort

theorem nan_w (x : Int) (W : World) : Calls Tryz.prog 191 #[.int .i64 x] W fun e w' => e = .returned (.bool false) ∧ w' = W := by
 have bb : (x != x) = false := by simp
 go_enter Tryz.func191, Tryz.ntmps191
 go_wp2
 go_ret
 exact ⟨rfl, rfl⟩
theorem cmp_w (x y : Int) (W : World) : Calls Tryz.prog 156 #[.int .i64 x, .int .i64 y] W fun e w' => e = .returned (.int .i64 (cmpZ x y)) ∧ w' = W := by
 have h1 := nan_w x W
 have h2 := nan_w y W
 unfold cmpZ
 by_cases hlt : x < y
 ·rw [if_pos hlt]
  go_enter Tryz.func156, Tryz.ntmps156
  go_wp2_with (go_at_call 191; first | (refine h1.mono ?_; rintro e w' ⟨rfl, rfl⟩) | (refine h2.mono ?_; rintro e w' ⟨rfl, rfl⟩))
  go_ret
  exact ⟨rfl, rfl⟩
 ·rw [if_neg hlt]
  by_cases hgt : y < x
  ·rw [if_pos hgt]
   have hgt' : x > y := hgt
   go_enter Tryz.func156, Tryz.ntmps156
   go_wp2_with (go_at_call 191; first | (refine h1.mono ?_; rintro e w' ⟨rfl, rfl⟩) | (refine h2.mono ?_; rintro e w' ⟨rfl, rfl⟩))
   go_ret
   exact ⟨rfl, rfl⟩
  ·rw [if_neg hgt]
   have hgt' : ¬ x > y := hgt
   go_enter Tryz.func156, Tryz.ntmps156
   go_wp2_with (go_at_call 191; first | (refine h1.mono ?_; rintro e w' ⟨rfl, rfl⟩) | (refine h2.mono ?_; rintro e w' ⟨rfl, rfl⟩))
   go_ret
   exact ⟨rfl, rfl⟩
theorem fol_cmp (x y : Fol) (W : World) : Calls Tryz.prog 155 #[.agg (encF x).toArray, .agg (encF y).toArray] W fun e w' => e = .returned (.int .i64 (cfF x y)) ∧ ∃ q os', w' = grow (W.drewN q) os' := by
 have h1 := fun W => cmp_w x.a y.a W
 have h2 := fun W => cmp_w x.c y.c W
 unfold cfF encF
 obtain ⟨xa, xc, xg, xA, xn, xk, xf, xB, xp, xq⟩ := x
 obtain ⟨ya, yc, yg, yA, yn, yk, yf, yB, yp, yq⟩ := y
 simp only at h1 h2 ⊢
 by_cases h0 : cmpZ xa ya = 0
 ·rw [if_pos h0]
  rw [h0] at h1
  generalize cmpZ xc yc = r at *
  go_enter Tryz.func155, Tryz.ntmps155
  go_wp2_with (go_at_call 156; first | (with_reducible refine Calls.mono (h1 _) ?_; rintro e w' ⟨rfl, rfl⟩) | (with_reducible refine Calls.mono (h2 _) ?_; rintro e w' ⟨rfl, rfl⟩))
  go_ret
  exact ⟨rfl, 0, _, by rw [alloc_eq_grow, alloc_eq_grow, grow_grow]; rfl⟩
 ·rw [if_neg h0]
  generalize cmpZ xa ya = r at *
  go_enter Tryz.func155, Tryz.ntmps155
  go_wp2_with (go_at_call 156; refine (h1 _).mono ?_; rintro e w' ⟨rfl, rfl⟩)
  go_ret
  exact ⟨rfl, 0, _, by rw [alloc_eq_grow, alloc_eq_grow, grow_grow]; rfl⟩
theorem fol_lays (blk off size : Nat) (w : World) : CmpLays Tryz.prog 155 #[] encF 6 cfF blk off size w := fun _ _ _ _ x y => fol_cmp x y _
theorem fol_eg : ∀ args w, (callFunc 155 args).run Tryz.prog w = .ok (.enter 155 args) w := enters_of Tryz.func155 (by kernel_rfl) rfl
theorem ex_lit {n : Nat} {d : Array Fol} (h : d.size = n) : d.extract 0 n = d := by subst h; simp
theorem sort_fols {w0 m0 W m : World} {A R : List Lo} {v : Value} {n : Nat} {xs : List PQ} (hL : Loc w0 m0 W m (A ++ R)) (h : RowA 137 6 FolR m v n xs R) (hnd : (xs.map Prod.fst).Nodup) (hsm : n ≤ 1000000) :
  Calls Tryz.prog 154 #[v, .func (.func 155) #[] #[]] W fun e W' =>
   e = .returned (.tuple #[]) ∧ ∃ m' ys R', Loc w0 m0 W' m' (A ++ R') ∧ Ext m m' ∧ RowA 137 6 FolR m' v n ys R' ∧ ys.Perm xs ∧ ys.Pairwise ltP := by
 obtain ⟨vs, ⟨hlen, hcase⟩, h2, h3, h4⟩ := h
 rcases hcase with ⟨rfl, rfl, rfl⟩ | ⟨g, cap, cur, rfl, rfl, hn, hcm, hcs, htk⟩
 ·obtain rfl : vs = [] := List.length_eq_zero_iff.1 h4
  obtain rfl : xs = [] := by cases xs with | nil => rfl | cons _ _ => exact h3.elim
  have hc := AnyF.slices_SortFunc_none layFol none 0 (.func (.func 155) #[] #[]) W
  change Calls Tryz.prog 154 _ _ _ at hc
  refine hc.mono ?_
  rintro e w' ⟨rfl, rfl⟩
  exact ⟨rfl, m, [], [], hL, Ext.refl _, RowA.nil, List.Perm.refl _, List.Pairwise.nil⟩
 ·obtain ⟨fs, rfl⟩ := all2_fol h3
  have hfl : fs.length = n := by simpa using h4
  have hb := hL.blk (g, 137, cur) (by simp)
  have hH : HoldsK encF 6 W g 0 fs.toArray := Blk.holdsF hb (by simpa [hfl] using htk)
  have hc := AnyQ.slices_SortFunc layFol 6 Tryz.isAgg137 Tryz.sizeOf137 encF encF_len encF_one cfF swoF 155 #[] g 0 cap fs.toArray W fol_eg (fol_lays _ _ _ _) hH hb.lt (by simp [hfl]; omega)
  change Calls Tryz.prog 154 _ _ _ at hc
  simp only [List.size_toArray, hfl] at hc
  refine hc.mono ?_
  rintro e w' ⟨rfl, d', q, os, hp, hs, rfl⟩
  have hds : d'.size = n := by rw [hp.1]; simp [hfl]
  have hperm : d'.toList.Perm fs := by
   have := hp.2.2
   rw [ex_lit hds, ex_lit (by simp [hfl])] at this
   exact this
  obtain ⟨ys, hy, hall⟩ := all2_perm (hperm.symm.map encV) h3
  have hL' := hL.sorted q d' os
  have hyn : ys.length = n := by rw [hy.length_eq, ← h3.length]; simp [hfl]
  have hsz : d'.size * 6 ≤ cur.size := by rw [hds, hcs]; exact Nat.mul_le_mul_right _ hn
  have hext : Ext m (hidTo m (sortWorldK encF 6 W g 0 q d' os).heap.size) := hidTo_ext (by rw [hL.vw.size]; exact size_sortWorldK_c encF 6 W g 0 q d' os)
  refine ⟨rfl, _, ys, [(g, 137, putCells id 0 (flatK encF 6 d') cur)], hL', hext, ⟨d'.toList.map encV, ⟨?_, .inr ⟨g, cap, _, rfl, rfl, hn, hcm, ?_, ?_⟩⟩, cells_enc, ?_, by simp [hds]⟩, hy, ?_⟩
  ·rw [cellsOf_length cells_enc]; simp [hds]
  ·unfold putCells; simp [hcs]
  ·have := put_flat hsz
   rw [hds] at this
   exact this
  ·exact hall.mono fun v x hv => FolR.mono _ _ _ _ hv hext.le
  ·rw [List.pairwise_iff_getElem]
   intro i j hi hj hij
   have hsi : i < d'.size := by omega
   have hsj : j < d'.size := by omega
   have h5 := hs i j (Nat.zero_le _) hij (by omega)
   rw [lt_cfF, getElem!_pos d' j hsj, getElem!_pos d' i hsi] at h5
   have g1 : ∀ k (hk : k < d'.size) (hk' : k < ys.length), d'[k].a = ys[k].1.1 ∧ d'[k].c = ys[k].1.2 := by
    intro k hk hk'
    obtain ⟨u, hu, hR⟩ := hall.at_ (List.getElem?_eq_getElem hk')
    rw [List.getElem?_map, Array.getElem?_toList, Array.getElem?_eq_getElem hk] at hu
    cases hu
    obtain ⟨f, he, e1, e2, -⟩ := hR
    have : d'[k].a = f.a ∧ d'[k].c = f.c := by
     unfold encV encF at he
     simp at he
     exact ⟨he.1, he.2.1⟩
    exact ⟨this.1.trans e1, this.2.trans e2⟩
   obtain ⟨a1, a2⟩ := g1 i hsi hi
   obtain ⟨b1, b2⟩ := g1 j hsj hj
   rw [a1, a2, b1, b2] at h5
   have hnd' : (ys.map Prod.fst).Nodup := (hy.map Prod.fst).nodup_iff.2 hnd
   have hne : ys[i].1 ≠ ys[j].1 := by
    have := List.pairwise_iff_getElem.1 hnd' i j (by simpa using hi) (by simpa using hj) hij
    simpa using this
   simp only [decide_eq_false_iff_not] at h5
   unfold ltP
   have hne' : ¬ (ys[i].1.1 = ys[j].1.1 ∧ ys[i].1.2 = ys[j].1.2) := fun h => hne (Prod.ext h.1 h.2)
   omega
end Go.Proofs.YtniigfikpfinfaaGreat

/- Contract of branch.follows. -/
namespace Go.Proofs.YtniigfikpfinfaaGreat
open Go.RowKit Go.Maps

theorem zc_Pair2 : zc Tryz.prog 186 = some #[.int .i64 0, .int .i64 0] := by kernel_rfl
instance iAC5_1 : ZcC Tryz.prog 186 #[.int .i64 0, .int .i64 0] := ⟨zc_Pair2⟩
theorem ag_Pair2 : agS Tryz.prog 186 = some 2 := by kernel_rfl
instance iAC5_2 : AgC Tryz.prog 186 2 := ⟨ag_Pair2⟩
theorem fd_Pair20 : fdS Tryz.prog 186 0 = some 0 := by kernel_rfl
instance iAC5_3 : FdC Tryz.prog 186 0 0 := ⟨fd_Pair20⟩
theorem fd_Pair21 : fdS Tryz.prog 186 1 = some 1 := by kernel_rfl
instance iAC5_4 : FdC Tryz.prog 186 1 1 := ⟨fd_Pair21⟩
theorem ag_Fol : agS Tryz.prog 137 = some 6 := by kernel_rfl
instance iAC5_5 : AgC Tryz.prog 137 6 := ⟨ag_Fol⟩
theorem ap_Fols : apS Tryz.prog 81 = some (137, 6, 80, 6) := by kernel_rfl
instance iAC5_6 : ApC Tryz.prog 81 137 6 80 := ⟨ap_Fols⟩

structure Got (S : List PQ) (left : Lit → Bool) (xs : List PQ) : Prop where
 nd : (xs.map Prod.fst).Nodup
 sound : ∀ y ∈ xs, y.2 = sumAt S y.1 ∧ y.2 ≠ 0 ∧ left (klP y.1.1 y.1.2) = false ∧ ∃ e ∈ S, e.1 = y.1
 whole : ∀ e ∈ S, left (klP e.1.1 e.1.2) = false → sumAt S e.1 ≠ 0 → (e.1, sumAt S e.1) ∈ xs
theorem Got.start {D : DataW Value} {m : World} {S : List PQ} (h : PMap D m S) : Got S (has D) [] :=
 ⟨List.Pairwise.nil, (fun _ h => by cases h), fun e he hl _ => by
  obtain ⟨v, h1, -⟩ := h.some e he
  rw [has_true_of_atKey h1] at hl; cases hl⟩
theorem sameKey_kl {a c a' c' : Int} (wa : Wf a) (wc : Wf c) (wa' : Wf a') (wc' : Wf c') : (klP a c).sameKey (klP a' c') = decide ((a, c) = (a', c')) := by
 by_cases h : (a, c) = (a', c')
 ·rw [decide_eq_true h]
  cases h
  exact Go.WideAt.sameKey_self (klP_key a c)
 ·rw [decide_eq_false h]
  cases hs : (klP a c).sameKey (klP a' c')
  ·rfl
  ·obtain ⟨e1, e2⟩ := klP_inj wa wc wa' wc' (Go.WideAt.sameKey_eq hs)
   exact absurd (Prod.ext e1 e2) h
theorem Got.skip {S : List PQ} {left : Lit → Bool} {xs : List PQ} {a c : Int} (h : Got S left xs) (hw : ∀ e ∈ S, Wf e.1.1 ∧ Wf e.1.2) (wa : Wf a) (wc : Wf c) (h0 : sumAt S (a, c) = 0) : Got S (fun z => left z && !z.sameKey (klP a c)) xs := by
 refine ⟨h.nd, fun y hy => ?_, fun e he hl hs => ?_⟩
 ·obtain ⟨h1, h2, h3, h4⟩ := h.sound y hy
  exact ⟨h1, h2, by simp [h3], h4⟩
 ·rw [sameKey_kl (hw e he).1 (hw e he).2 wa wc] at hl
  by_cases hp : e.1 = (a, c)
  ·rw [hp] at hs; exact absurd h0 hs
  ·refine h.whole e he ?_ hs
   have : decide ((e.1.1, e.1.2) = (a, c)) = false := decide_eq_false hp
   rw [this] at hl
   simpa using hl
theorem Got.more {S : List PQ} {left : Lit → Bool} {xs : List PQ} {a c : Int} (h : Got S left xs) (hw : ∀ e ∈ S, Wf e.1.1 ∧ Wf e.1.2) (wa : Wf a) (wc : Wf c) (hl : left (klP a c) = true) (hk : ∃ e ∈ S, e.1 = (a, c)) (h0 : sumAt S (a, c) ≠ 0) :
  Got S (fun z => left z && !z.sameKey (klP a c)) (xs ++ [((a, c), sumAt S (a, c))]) := by
 refine ⟨?_, fun y hy => ?_, fun e he hl' hs => ?_⟩
 ·rw [List.map_append, List.nodup_append]
  refine ⟨h.nd, List.pairwise_singleton _ _, fun p hp q hq e => ?_⟩
  rcases List.mem_singleton.1 hq with rfl
  obtain ⟨y, hy, e'⟩ := List.mem_map.1 hp
  have h3 := (h.sound y hy).2.2.1
  rw [e', e] at h3
  rw [h3] at hl; cases hl
 ·rcases List.mem_append.1 hy with hy | hy
  ·obtain ⟨h1, h2, h3, h4⟩ := h.sound y hy
   exact ⟨h1, h2, by simp [h3], h4⟩
  ·rcases List.mem_singleton.1 hy with rfl
   refine ⟨rfl, h0, ?_, hk⟩
   simp [sameKey_kl wa wc wa wc]
 ·by_cases hp : e.1 = (a, c)
  ·rw [hp]; simp
  ·refine List.mem_append_left _ (h.whole e he ?_ hs)
   rw [sameKey_kl (hw e he).1 (hw e he).2 wa wc] at hl'
   have : decide ((e.1.1, e.1.2) = (a, c)) = false := decide_eq_false hp
   rw [this] at hl'
   simpa using hl'
theorem Got.done {S : List PQ} {left : Lit → Bool} {xs ys : List PQ} (h : Got S left xs) (hl : ∀ kl, left kl = false) (hp : ys.Perm xs) (hs : ys.Pairwise ltP) : IsFol S ys := by
 refine ⟨hs, fun y => ?_⟩
 rw [hp.mem_iff]
 constructor
 ·intro hy
  obtain ⟨h1, h2, -⟩ := h.sound y hy
  exact ⟨h1, h2⟩
 ·rintro ⟨h1, h2⟩
  by_cases he : ∃ e ∈ S, e.1 = y.1
  ·obtain ⟨e, he, e1⟩ := he
   have := h.whole e he (hl _) (by rw [e1, ← h1]; exact h2)
   rw [e1, ← h1] at this
   exact this
  ·exact absurd (h1.trans (sumAt_none fun e h h' => he ⟨e, h, h'⟩)) h2
theorem Got.len {S : List PQ} {left : Lit → Bool} {xs : List PQ} (h : Got S left xs) : xs.length ≤ S.length := by
 have h2 := nodup_lengthP h.nd (ys := S.map Prod.fst) fun p hp => by
  obtain ⟨y, hy, rfl⟩ := List.mem_map.1 hp
  obtain ⟨e, he, e1⟩ := (h.sound y hy).2.2.2
  exact List.mem_map.2 ⟨e, he, e1⟩
 simpa using h2
theorem PMap.out {D : DataW Value} {m : World} {S : List PQ} {a c : Int} {v : Value} (h : PMap D m S) (wa : Wf a) (wc : Wf c) (hk : has D (klP a c) = true) (hv : ∀ z, D.atKey (klP a c) z = .held v) : (∃ e ∈ S, e.1 = (a, c)) ∧ FracC m v (sumAt S (a, c)) := by
 obtain ⟨e, he, e1⟩ := h.keys _ hk
 obtain ⟨e2, e3⟩ := klP_inj wa wc (h.wf e he).1 (h.wf e he).2 e1
 have hp : e.1 = (a, c) := Prod.ext e2.symm e3.symm
 obtain ⟨u, h1, h2⟩ := h.some e he
 rw [hp] at h1 h2
 have := (hv .nil).symm.trans (h1 .nil)
 cases this
 exact ⟨⟨e, he, hp⟩, h2⟩
theorem pv_look {W : World} {b : Nat} {a c : Int} {v : Value} (h : ∀ W', Ext W W' → (Instr.lookup 184 (.map (some b)) (pv a c) false).run Tryz.prog W' = .ok v W') :
  ∀ W', Ext W W' → (Instr.lookup 184 (.map (some b)) (.agg #[.int .i64 a, .int .i64 c]) false).run Tryz.prog W' = .ok v W' := h

theorem icmp_ne {q : Rat} (h : ¬ q = 0) : ¬ icmp q.num 0 = 0 := by
 have : q.num ≠ 0 := fun e => h (Rat.num_eq_zero.1 e)
 unfold icmp
 split <;> (try split) <;> omega
theorem b_follows (xv vv : Value) (x : Ms) (vs : List Rat) (w m : World) (hV : Vw m w) (hx : MasterR m xv x) (hvv : FracL m vv vs) (ok : VOk x vs) :
  Calls Tryz.prog 97 #[xv, vv] w (RetV w m fun m' r => ∃ ys, IsFol (entS x.cols vs x.cols.length) ys ∧ FolL m' r ys) := by
 obtain ⟨xnf, rws, pen, cols, cuts⟩ := x
 obtain ⟨va, vb, vc, rfl, ha, hb, hc⟩ := hx
 simp only at ha hb hc
 obtain ⟨A, ca, rfl, hca, ha⟩ := ha.lit
 obtain ⟨B, cb, rfl, hcb, hb⟩ := hb.lit
 obtain ⟨C, cc, rfl, hcc, hc⟩ := hc.lit
 obtain ⟨V, cv, rfl, hcv, hvv⟩ := hvv.lit
 have HCO := Lib.hid hb
 have HVA := Lib.hid hvv
 have HC : Hid (∀ c ∈ cols, ColOk rws c) := ok.ms.cols
 have HT : Hid (∀ v ∈ vs, Tw 18 v) := ok.tw
 have HE : Hid (∀ k, (entS cols vs k).length ≤ 3200 ∧ ∀ e ∈ entS cols vs k, Tw 18 e.2) := by
  show ∀ k, _
  exact fun k => ⟨ok.entS_len k, fun e he => (ok.entS_mem he).1⟩
 have HLW : Hid (∀ r ∈ rws, Wf r) := by
  show ∀ r ∈ rws, _
  intro r hr
  have h1 := ok.ms.low r hr
  have h2 := ok.ms.f1
  simp only at h1 h2
  exact wf_small (by omega) (by omega)
 have HLN : Hid (∀ c ∈ cols, (opF c.2.1).length ≤ 32) := by
  show ∀ c ∈ cols, _
  exact fun c hc => ok.col_len hc
 have hfew : cols.length ≤ 100 := ok.few
 have hlen : vs.length = cols.length := ok.len
 have HEW : Hid (∀ k, ∀ e ∈ entS cols vs k, Wf e.1.1 ∧ Wf e.1.2) := by
  show ∀ k, _
  exact fun k e he => ⟨HLW.out _ (ok.entS_mem he).2.1, HLW.out _ (ok.entS_mem he).2.2⟩
 have hL := Loc.start hV
 clear hV ok ha hb hc hvv
 rw [hlen] at HVA hcv ⊢
 have HNV := Lib.hid hlen
 clear hlen
 simp only
 generalize hn1 : cols.length = nc at *
 have HN1 := Lib.hid hn1
 clear hn1
 generalize rws.length = nr at *
 generalize cuts.length = nk at *
 have hmm := @run_makeMap Tryz.prog
 go_enter Tryz.func97, Tryz.ntmps97
 go_upto_region 0 with (fail)
 refine wp_region_lit ?_
 refine t_box hL rfl rfl ?_; clear hL; intro Wh2 mh2 hL eh2; simp only [Act.put, zq1, zq2, zq3]
 go_upto_region 2 with ((first | go_skip | refine tP ?_ | (refine tS ?_; clear hL; intro _ hL) | (refine tB ?_; clear hL; intro _ _ hL _) | (refine tC ?_; clear hL; intro _ _ hL _ hBs)))
 clear hmm
 have hlow : w.heap.size ≤ Wh2.heap.size := hL.ext.size
 have hL9 := hL.allocM (.map #[] 0)
 clear hL
 have hL := hL9
 clear hL9
 refine wp_region_lit ?_
 go_wp2_with (first | go_skip | refine tP ?_ | (refine tS ?_; clear hL; intro _ hL) | (refine tB ?_; clear hL; intro _ _ hL _) | (refine tC ?_; clear hL; intro _ _ hL _ hBs))
 go_loopw [18] (fun i wr => ∃ (k : Nat) (mm : World), k ≤ nc ∧ i = .int .i64 k ∧ Loc w m wr mm [] ∧ Hid (FMap wr mm Wh2.heap.size (entS cols vs k))) (fun i _ => nc - (intOf i).toNat)
 case atStart => exact ⟨0, _, Nat.zero_le _, rfl, hL.sub (List.nil_sublist _), FMap.made _ _⟩
 case round =>
  clear hL
  obtain ⟨k, mm, hk, rfl, hL0, FM⟩ := hrel
  obtain ⟨wq, rfl⟩ := hL0.world
  have hM0 := hL0.mext
  by_cases hlt : k < nc
  ·have hL := Loc.start hL0.vw
   obtain ⟨⟨s, ds, cost⟩, hx⟩ := at_some HN1 hlt
   obtain ⟨q, hq⟩ := at_some HNV hlt
   have hco := HCO.out
   have hva := HVA.out
   obtain ⟨b1, o1, D, cd, rfl, hds, hr1⟩ := ColL.at_ hco hx
   obtain ⟨b2, o2, g2, A2, n2, c2, h2, B2, k2, d2, rfl, hp2, hr2⟩ := FracL.at_ hva hq
   obtain ⟨i1, i2, i3, i4, i5, i6, i7⟩ := HC.out _ (List.mem_of_getElem? hx)
   simp only at hds hr1 i1 i2 i3 i4 i5 i6 i7
   have HD := Lib.hid hds
   have H3 := Lib.hid i3
   have H4 := Lib.hid i4
   have H6 := Lib.hid i6
   have HP2 := Lib.hid hp2
   have HSQ : Hid (Sm q.num q.den) := (HT.out q (List.mem_of_getElem? hq)).sm (by decide)
   have HTQ : Hid (Tw 18 q) := HT.out q (List.mem_of_getElem? hq)
   have hn32 : (opF ds).length ≤ 32 := HLN.out _ (List.mem_of_getElem? hx)
   have HST := Lib.hid (entS_step hx hq)
   simp only at HST
   clear hx hq hds hp2 i1 i2 i3 i4 i6 i7 hco hva
   generalize hnd : ds.length = nd at *
   have HND := Lib.hid hnd
   clear hnd
   go_wp2_with (first | go_skip | refine tP ?_ | (refine tS ?_; clear hL; intro _ hL) | (refine tB ?_; clear hL; intro _ _ hL _) | (refine tC ?_; clear hL; intro _ _ hL _ hBs))
   refine (e_Operated s _ ds _ _ hL.vw (DutsL.le HD.out leX) (by rw [HND.out]; exact H3.out) H4.out).mono ?_
   rintro e Wo1 ⟨vo1, mo1, rfl, hE, hMo1, hV, ho1⟩
   replace hL := hL.call hE (by assumption) hV; clear hE hV
   obtain ⟨Ao, co, rfl, hco, ho1⟩ := ho1.lit
   have HOP := Lib.hid ho1
   have FM1 : Hid (FMap Wo1 mo1 Wh2.heap.size (entS cols vs k)) := (FM.out.ext hL.ext).le hL.mext.le
   have hM1 := hL.mext
   have hL1 := (hL0.join hL).sub (List.nil_sublist _)
   clear ho1 hr1 FM hL hL0
   have hL := hL1
   clear hL1
   generalize hno : (opF ds).length = no at *
   have HNO := Lib.hid hno
   clear hno
   go_wp2_with (first | go_skip | refine tP ?_ | (refine tS ?_; clear hL; intro _ hL) | (refine tB ?_; clear hL; intro _ _ hL _) | (refine tC ?_; clear hL; intro _ _ hL _ hBs))
   go_loopw [9] (fun i wr => ∃ (j : Nat) (m2 : World), j + 1 ≤ no ∧ i = .int .i64 ((j : Int) + 1) ∧ Loc w m wr m2 [] ∧ Hid (Ext mo1 m2) ∧ Hid (FMap wr m2 Wh2.heap.size (entS cols vs k ++ colE (opF ds) q j))) (fun i _ => no + 1 - (intOf i).toNat)
   case atStart =>
    refine ⟨0, mo1, by omega, rfl, hL, Ext.refl _, ?_⟩
    rw [colE_zero, List.append_nil]
    exact FM1.out
   case round =>
    clear hL FM1
    obtain ⟨j, m2, hj, rfl, hL0, HX, FM⟩ := hrel
    have hX2 := HX.out
    have hL := Loc.start hL0.vw
    by_cases hlt2 : j + 1 < no
    ·obtain ⟨a, ha⟩ := at_some HNO (show j < no by omega)
     obtain ⟨c, hc⟩ := at_some HNO hlt2
     obtain ⟨b3, o3, rfl, hc3⟩ := IntL.at_ HOP.out ha
     obtain ⟨b4, o4, e4, hc4⟩ := IntL.at_ HOP.out hc
     obtain ⟨rfl, rfl⟩ : b3 = b4 ∧ o3 = o4 := by simpa using e4
     replace hc3 := hX2.le.cell _ _ hc3
     replace hc4 := hX2.le.cell _ _ hc4
     have wa : Wf a := HLW.out _ (H6.out a (List.mem_of_getElem? ha))
     have wc : Wf c := HLW.out _ (H6.out c (List.mem_of_getElem? hc))
     have HWA := Lib.hid wa
     have HWC := Lib.hid wc
     have HCE : Hid (colE (opF ds) q j ++ [((a, c), q)] = colE (opF ds) q (j + 1)) := colE_step ha hc
     obtain ⟨v0, hs0, hlk⟩ := FM.out.look wa wc
     obtain ⟨g0, A0, n0, c0, f0, B0, p0, q0, rfl⟩ := hs0.lit
     have HS0 := Lib.hid hs0
     have HLK := Lib.hid (pv_look hlk)
     have HTS : Hid (∀ e ∈ entS cols vs k ++ colE (opF ds) q j, Tw 18 e.2) := by
      show ∀ e ∈ _, _
      intro e he
      rcases List.mem_append.1 he with h | h
      ·exact (HE.out k).2 e h
      ·obtain ⟨p, _, rfl⟩ := List.mem_map.1 h
       exact HTQ.out
     have HLS : Hid ((entS cols vs k ++ colE (opF ds) q j).length ≤ 6400) := by
      show _ ≤ _
      rw [List.length_append]
      have h1 := (HE.out k).1
      have h2 : (colE (opF ds) q j).length ≤ 32 := by unfold colE; rw [List.length_map, List.length_take, pairs_len, HNO.out]; omega
      omega
     have HS1 : Hid (Sm (sumAt (entS cols vs k ++ colE (opF ds) q j) (a, c)).num (sumAt (entS cols vs k ++ colE (opF ds) q j) (a, c)).den) :=
      (sum_tw HTS.out (Nat.le_trans HLS.out (by decide)) _).sm (by decide)
     have hjn : j < no := by omega
     have e3 : ((j : Int) + 1) = ((j + 1 : Nat) : Int) := by omega
     rw [e3]
     clear ha hc e4 e3 hj wa wc hs0 hlk
     obtain ⟨k1, hk1⟩ : ∃ k1, k1 = j + 1 := ⟨_, rfl⟩
     rw [← hk1] at hc4 hlt2 HCE ⊢
     have e1 : (k1 : Int) - 1 = (j : Int) := by omega
     have e5 : wrap64 ((k1 : Int) - 1) = (j : Int) := by unfold wrap64; omega
     have HK := Lib.hid hk1
     clear hk1
     generalize hSS : entS cols vs k ++ colE (opF ds) q j = SS at *
     have HSS := Lib.hid hSS
     clear hSS
     go_upto_region 9 with ((first | go_skip | refine tP ?_ | (refine tS ?_; clear hL; intro _ hL) | (refine tB ?_; clear hL; intro _ _ hL _) | (refine tC ?_; clear hL; intro _ _ hL _ hBs)))
     (try simp only [eq_self] at *)
     obtain ⟨B, hB1, hB2, hB3⟩ := hL.bound
     refine wp_region_by2 11 [false, false, false, false, false, false, false, false, false, false, true] [false, false, false, false, false, false, false, false, false, false, false] [(fun v _ _ => v = ?c9_0), (fun v _ _ => v = ?c9_1), (fun v _ _ => v = ?c9_2), (fun v _ _ => v = ?c9_3), (fun v _ _ => v = ?c9_4), (fun v _ _ => v = ?c9_5), (fun v _ _ => v = ?c9_6), (fun v _ _ => v = ?c9_7), (fun v _ _ => v = ?c9_8), (fun v _ _ => v = ?c9_9), NewBlk B 186 #[.int .i64 0, .int .i64 0]] hL.vw mixed [32, 33, 34, 35, 36, 37, 38, 39, 40, 41, 10] _ (by kernel_rfl) (fun vs => by simp only [lay, Act.put, zq1, zq2, zq3]; rfl) (by kernel_rfl) (by decide) (by decide) ?s9 ?l9 ?r9
     case s9 =>
      refine ⟨?_, ?_, ?_, ?_, ?_, ?_, ?_, ?_, ?_, ?_, ?_, trivial⟩
      ·intro vs W1 m1 hE hM hV hD; clear hD
       exact sPw
      ·intro vs W1 m1 hE hM hV hD; clear hD
       exact sPw
      ·intro vs W1 m1 hE hM hV hD; obtain ⟨⟨_, _, -, -, f33⟩, -⟩ := hD
       rw [(f33 : vs 33 = _)]; clear f33; exact sPw
      ·intro vs W1 m1 hE hM hV hD; obtain ⟨⟨_, _, -, -, f32⟩, ⟨_, _, -, -, f34⟩, -⟩ := hD
       rw [(f32 : vs 32 = _), (f34 : vs 34 = _)]; clear f32 f34; exact sIy
      ·intro vs W1 m1 hE hM hV hD; obtain ⟨⟨_, _, -, -, f35⟩, -⟩ := hD
       rw [(f35 : vs 35 = _)]; clear f35; exact sLe
      ·intro vs W1 m1 hE hM hV hD; clear hD
       exact sPw
      ·intro vs W1 m1 hE hM hV hD; clear hD
       exact sPw
      ·intro vs W1 m1 hE hM hV hD; obtain ⟨⟨_, _, -, -, f37⟩, ⟨_, _, -, -, f38⟩, -⟩ := hD
       rw [(f37 : vs 37 = _), (f38 : vs 38 = _)]; clear f37 f38; exact sIy
      ·intro vs W1 m1 hE hM hV hD; obtain ⟨⟨_, _, -, -, f39⟩, -⟩ := hD
       rw [(f39 : vs 39 = _)]; clear f39; exact sLe
      ·intro vs W1 m1 hE hM hV hD; obtain ⟨⟨_, _, -, -, f36⟩, ⟨_, _, -, -, f40⟩, -⟩ := hD
       rw [(f36 : vs 36 = _), (f40 : vs 40 = _)]; clear f36 f40; exact sPw
      ·intro vs W1 m1 hE hM hV hD; clear hD
       exact one2_alloc hV (Nat.le_trans hB3 hE.size) rfl rfl rfl ZcC.h
     case l9 =>
      refine ⟨nF, nF, nF, nF, nF, nF, nF, nF, nF, nF, nF, trivial⟩
     intro vs W1 m1 hE hM hV hF hD
     obtain ⟨-, -, -, -, -, -, -, -, -, ⟨_, _, -, -, f41⟩, ⟨_, _, j10, i10, f10⟩, -⟩ := hF
     replace hL := hL.call hE hM hV
     have f41 : vs 41 = _ := f41
     generalize vs 41 = x41 at f41 ⊢
     subst x41
     obtain ⟨b10, e10, hL⟩ := Loc.addB (Lt := []) hB1 hB2 hL f10 j10 i10 ad0
     simp only [e10, List.cons_append, List.nil_append] at hL ⊢
     clear e10 f10 j10 i10
     clear hB1 hB2 hB3 hD
     clear hE hV
     simp only [List.drop_succ_cons, List.drop_zero]
     go_wp2_with (first | go_skip | refine tP ?_ | (refine tS ?_; clear hL; intro _ hL) | (refine tB ?_; clear hL; intro _ _ hL _) | (refine tC ?_; clear hL; intro _ _ hL _ hBs))
     refine QN.mk ?_
     go_upto_region 10 with ((first | go_skip | refine tP ?_ | (refine tS ?_; clear hL; intro _ hL) | (refine tB ?_; clear hL; intro _ _ hL _) | (refine tC ?_; clear hL; intro _ _ hL _ hBs)))
     refine wp_region_by2 10 [false, false, false, false, false, false, false, false, false, false] [false, false, false, false, false, false, false, false, false, false] [(fun v _ _ => v = ?c10_0), (fun v _ _ => v = ?c10_1), (fun v _ _ => v = ?c10_2), (fun v _ _ => v = ?c10_3), Is (.agg #[.bool g0, .slice A0 n0 c0, .bool f0, .slice B0 p0 q0]), (fun v _ _ => v = ?c10_5), (fun v _ _ => v = ?c10_6), (fun v _ _ => v = ?c10_7), (fun v _ _ => v = ?c10_8), Of (fun um v => FracC um v (sumAt SS (a, c) + q))] hL.vw mixed [42, 43, 44, 45, 46, 47, 48, 49, 50, 51] _ (by kernel_rfl) (fun vs => by simp only [lay, Act.put, zq1, zq2, zq3]; rfl) (by kernel_rfl) (by decide) (by decide) ?s10 ?l10 ?r10
     case s10 =>
      refine ⟨?_, ?_, ?_, ?_, ?_, ?_, ?_, ?_, ?_, ?_, trivial⟩
      ·intro vs W1 m1 hE hM hV hD; clear hD
       exact sPw
      ·intro vs W1 m1 hE hM hV hD; clear hD
       exact sLe
      ·intro vs W1 m1 hE hM hV hD; clear hD
       exact sPw
      ·intro vs W1 m1 hE hM hV hD; clear hD
       exact sLe
      ·intro vs W1 m1 hE hM hV hD; obtain ⟨⟨_, _, -, -, f44⟩, ⟨_, _, -, -, f45⟩, -⟩ := hD
       rw [(f44 : vs 44 = _), (f45 : vs 45 = _)]
       clear f44 f45
       have hr := HLK.out _ (hL.ext.trans hE); go_wp2_with fail; refine One2.still hV ?_; exact rfl
      ·intro vs W1 m1 hE hM hV hD; clear hD
       exact sPw
      ·intro vs W1 m1 hE hM hV hD; clear hD
       exact sPw
      ·intro vs W1 m1 hE hM hV hD; obtain ⟨⟨_, _, -, -, f47⟩, ⟨_, _, -, -, f48⟩, -⟩ := hD
       rw [(f47 : vs 47 = _), (f48 : vs 48 = _)]; clear f47 f48; exact sIy
      ·intro vs W1 m1 hE hM hV hD; obtain ⟨⟨_, _, -, -, f49⟩, -⟩ := hD
       rw [(f49 : vs 49 = _)]; clear f49; exact sLe
      ·intro vs W1 m1 hE hM hV hD; obtain ⟨⟨_, _, -, -, f46⟩, ⟨_, _, -, -, f50⟩, -⟩ := hD
       rw [(f46 : vs 46 = _), (f50 : vs 50 = _)]
       clear f46 f50
       go_wp2_with fail
       refine (q_AddSum _ _ _ _ _ _ hV (HS0.out.le leX) (HP2.out.le leX) HS1.out HSQ.out).mono ?_
       rintro e W2 ⟨v, m2, rfl, hE2, hM2, hV2, h⟩
       go_wp2_with fail
       refine One2.call hE2 hM2 hV2 ?_; first | exact h | exact rfl
     case l10 =>
      refine ⟨nF, nF, nF, nF, nF, nF, nF, nF, nF, nF, trivial⟩
     intro vs W1 m1 hE hM hV hF hD
     clear hD
     obtain ⟨⟨_, _, -, -, f42⟩, ⟨_, _, -, -, f43⟩, -, -, -, -, -, -, -, ⟨_, _, -, i51, f51⟩, -⟩ := hF
     replace hL := hL.call hE hM hV
     have f42 : vs 42 = _ := f42
     generalize vs 42 = x42 at f42 ⊢
     subst x42
     have f43 : vs 43 = _ := f43
     generalize vs 43 = x43 at f43 ⊢
     subst x43
     replace f51 : FracC _ (vs 51) (sumAt SS (a, c) + q) := f51
     replace f51 := f51.le i51.le
     clear i51
     obtain ⟨g51, A51, n51, c51, h51, B51, k51, d51, e51, f51⟩ := f51.lit
     generalize vs 51 = x51 at e51 ⊢
     subst x51
     clear hE hV
     simp only [List.drop_succ_cons, List.drop_zero]
     have hfm := (FM.out.ext hL.ext).le hL.mext.le
     obtain ⟨W9, hup, hf9, hg9⟩ := hfm.up (Nat.le_trans HLS.out (by decide)) HWA.out HWC.out f51
     have HF9 := Lib.hid hf9
     have HG9 := Lib.hid hg9
     have HNC := Lib.hid hfm.notCells
     have hM9 := hL.mext
     have hsz9 := hL.vw.size
     have hL9 := (hL0.join hL).sub (List.nil_sublist _)
     clear hL hL0 hfm hf9 hg9 FM f51
     have hL := hL9
     clear hL9
     unfold pv at hup
     go_wp2_with (first | go_skip | refine tP ?_ | (refine tS ?_; clear hL; intro _ hL) | (refine tB ?_; clear hL; intro _ _ hL _) | (refine tC ?_; clear hL; intro _ _ hL _ hBs))
     refine QN.mk ?_
     go_wp2_with (first | go_skip | refine tP ?_ | (refine tS ?_; clear hL; intro _ hL) | (refine tB ?_; clear hL; intro _ _ hL _) | (refine tC ?_; clear hL; intro _ _ hL _ hBs))
     go_roundw
     case rel =>
      have hx9 : Ext _ (hidTo _ W9.heap.size) := hidTo_ext (by rw [hsz9]; exact HG9.out.size)
      refine ⟨k1, _, by have := HK.out; omega, by have := HK.out; go_num, hL.mapTurn HG9.out hlow HNC.out, hX2.trans (hM9.trans hx9), ?_⟩
      rw [← HCE.out, ← List.append_assoc, HSS.out]
      exact HF9.out.le hx9.le
     case measure => have := HK.out; simp [intOf] <;> omega
    ·have h0 : ¬ (j : Int) + 1 < (no : Int) := by omega
     have HCE : Hid (colE (opF ds) q j = entE (opF ds) q) := colE_end (by rw [HNO.out]; omega)
     clear hL
     have hL := hL0
     go_wp2_with (first | go_skip | refine tP ?_ | (refine tS ?_; clear hL; intro _ hL) | (refine tB ?_; clear hL; intro _ _ hL _) | (refine tC ?_; clear hL; intro _ _ hL _ hBs))
     go_roundw
     case rel => exact ⟨k + 1, m2, by omega, by go_num, hL, by rw [← HST.out, ← HCE.out]; exact FM.out⟩
     case measure => simp [intOf] <;> omega
  ·have hkn : k = nc := by omega
   subst hkn
   have hL := hL0
   clear hL0 hlt hk
   obtain ⟨nD, D, hnD, hown, hpm⟩ := FM.out
   have HPM := Lib.hid hpm
   have HS := HE.out k
   have HSL := Lib.hid HS.1
   have HST := Lib.hid HS.2
   have HSW := Lib.hid (HEW.out k)
   have hrlow : w.heap.size ≤ wq.heap.size := hL.ext.size
   clear FM hpm HS hM0
   generalize hSS : entS cols vs k = SS at *
   go_upto_region 13 with ((first | go_skip | refine tP ?_ | (refine tS ?_; clear hL; intro _ hL) | (refine tB ?_; clear hL; intro _ _ hL _) | (refine tC ?_; clear hL; intro _ _ hL _ hBs)))
   refine wp_region_lit ?_
   go_wp2_with (first | (at_range; refine wl_range hL rfl rfl rfl hown ?_; clear hL; intro W2 m2 hL hX2 hrg _) | (first | go_skip | refine tP ?_ | (refine tS ?_; clear hL; intro _ hL) | (refine tB ?_; clear hL; intro _ _ hL _) | (refine tC ?_; clear hL; intro _ _ hL _ hBs)))
   go_frame
   have HX2 := Lib.hid hX2
   clear hX2
   go_loopw [11] (fun out wr => ∃ (left : Lit → Bool) (cnt : Nat) (mm2 : World) (xs : List PQ) (n3 : Nat) (R3 : List Lo), Hid (RngF wr Wh2.heap.size wq.heap.size nD D left cnt) ∧ Loc w m wr mm2 R3 ∧ Hid (RowA 137 6 FolR mm2 out n3 xs R3) ∧ Hid (Got SS left xs) ∧ Hid (Ext mm mm2) ∧ Hid (∀ kl, left kl = true → has D kl = true)) (fun _ wr => wr.rangeLeft Wh2.heap.size wq.heap.size)
   case atStart => exact ⟨_, _, m2, [], 0, [], hrg, hL, RowA.nil, Got.start HPM.out, HX2.out, fun _ h => h⟩
   case round =>
    clear hL hrg HX2
    obtain ⟨left, cnt, mm2, xs, n3, R3, HRG, hL, row, HGOT, HX, HLE⟩ := hrel
    obtain ⟨A3, c3, rfl, row1⟩ := row.out.lit
    have hn3 : n3 ≤ 3200 := by have := row1.len; have := HGOT.out.len; have := HSL.out; omega
    have ROW := Lib.hid row1
    clear row row1
    go_upto_region 14 with ((first | go_skip | refine tP ?_ | (refine tS ?_; clear hL; intro _ hL) | (refine tB ?_; clear hL; intro _ _ hL _) | (refine tC ?_; clear hL; intro _ _ hL _ hBs)))
    refine wp_region_lit ?_
    refine wl_next hL rfl rfl rfl HRG.out hrlow ?_ ?_
    ·intro hl0
     have HL0 := Lib.hid hl0
     clear hl0
     simp only [Act.put, zq1, zq2, zq3]
     go_wp2_with (first | go_skip | refine tP ?_ | (refine tS ?_; clear hL; intro _ hL) | (refine tB ?_; clear hL; intro _ _ hL _) | (refine tC ?_; clear hL; intro _ _ hL _ hBs))
     refine (sort_fols (A := []) hL ROW.out HGOT.out.nd (Nat.le_trans hn3 (by decide))).mono ?_
     rintro e W5 ⟨rfl, m5, ys, R5, hL5, hE5, row5, hp, hs⟩
     clear hL
     have hL := hL5
     have HIS := Lib.hid (HGOT.out.done HL0.out hp hs)
     have ROW5 := Lib.hid row5
     clear hL5 row5 hp hs
     go_wp2_with (first | go_skip | refine tP ?_ | (refine tS ?_; clear hL; intro _ hL) | (refine tB ?_; clear hL; intro _ _ hL _) | (refine tC ?_; clear hL; intro _ _ hL _ hBs))
     obtain ⟨m9, hL9, hle9, hl9, -⟩ := RowA.show (A := []) FolR.mono hL ROW5.out
     go_ret
     exact RetV.mk hL9 ⟨ys, (by rw [hSS]; exact HIS.out), hl9⟩
    ·intro x c v W3 m3 cnt' wx wc hlk hat hrg3 hlt3 hL3 hX3 hen
     obtain ⟨hk3, hv3⟩ := HPM.out.out wx wc (HLE.out _ hlk) hat
     obtain ⟨gv, Av, nv, cv', fv, Bv, pv', qv, rfl, hv3⟩ := hv3.lit
     have HV3 : Hid (FracC m3 (.agg #[.bool gv, .slice Av nv cv', .bool fv, .slice Bv pv' qv]) (sumAt SS (x, c))) := hv3.le (Le.trans HX.out.le hX3.le)
     have HFT : Hid (Fit 200 (sumAt SS (x, c))) := (sum_tw HST.out (Nat.le_trans HSL.out (by decide)) _).fit (by decide)
     have HRG3 := Lib.hid hrg3
     have HLK := Lib.hid hlk
     have HK3 := Lib.hid hk3
     have HWX := Lib.hid wx
     have HWC := Lib.hid wc
     have HXX := Lib.hid (HX.out.trans hX3)
     have HXR := Lib.hid hX3
     have HLE3 : Hid (∀ kl, (left kl && !kl.sameKey (klP x c)) = true → has D kl = true) := by
      show ∀ kl, _
      intro kl h
      simp only [Bool.and_eq_true] at h
      exact HLE.out kl h.1
     have HLT : Hid (cnt' < wr.rangeLeft Wh2.heap.size wq.heap.size) := by show _ < _; rw [HRG.out.left_eq]; exact hlt3
     clear hL hrg3 hlk hk3 wx wc hX3 hat hlt3 hv3
     have hLb := hL3
     clear hL3
     have hL := Loc.start hLb.vw
     simp only [Act.put, zq1, zq2, zq3]
     by_cases h0 : sumAt SS (x, c) = 0
     ·have hz : icmp (sumAt SS (x, c)).num 0 = 0 := by rw [h0]; rfl
      have HG3 := Lib.hid (HGOT.out.skip HSW.out HWX.out HWC.out h0)
      clear h0
      go_wp2_with (first | go_skip | refine tP ?_ | (refine tS ?_; clear hL; intro _ hL) | (refine tB ?_; clear hL; intro _ _ hL _) | (refine tC ?_; clear hL; intro _ _ hL _ hBs))
      refine (q_Sign _ (sumAt SS (x, c)) _ _ hL.vw (HV3.out.le leX) HFT.out).mono ?_
      rintro e Ws1 ⟨_, ms1, rfl, hE, hMs1, hV, rfl⟩
      replace hL := hL.call hE (by assumption) hV; clear hE hV
      rw [hz]
      go_wp2_with (first | go_skip | refine tP ?_ | (refine tS ?_; clear hL; intro _ hL) | (refine tB ?_; clear hL; intro _ _ hL _) | (refine tC ?_; clear hL; intro _ _ hL _ hBs))
      go_roundw
      case rel =>
       have hm9 := hL.mext
       exact ⟨fun z => left z && !z.sameKey (klP x c), cnt', _, xs, n3, R3, HRG3.out.still hL.ext.still, (hLb.join hL).sub (List.sublist_append_right _ _), RowA.le FolR.mono ROW.out (Le.trans HXR.out.le hm9.le), HG3.out, HXX.out.trans hm9, HLE3.out⟩
      case measure => rw [(HRG3.out.still hL.ext.still).left_eq]; exact HLT.out
     ·have hz : ¬ icmp (sumAt SS (x, c)).num 0 = 0 := icmp_ne h0
      have HG3 := Lib.hid (HGOT.out.more HSW.out HWX.out HWC.out HLK.out HK3.out h0)
      have hz2 : (icmp (sumAt SS (x, c)).num 0 != 0) = true := by simpa using hz
      clear h0
      generalize hzz : icmp (sumAt SS (x, c)).num 0 = zz at *
      have HZZ := Lib.hid hzz
      clear hzz
      go_wp2_with (first | go_skip | refine tP ?_ | (refine tS ?_; clear hL; intro _ hL) | (refine tB ?_; clear hL; intro _ _ hL _) | (refine tC ?_; clear hL; intro _ _ hL _ hBs))
      refine (q_Sign _ (sumAt SS (x, c)) _ _ hL.vw (HV3.out.le leX) HFT.out).mono ?_
      rintro e Ws1 ⟨_, ms1, rfl, hE, hMs1, hV, rfl⟩
      replace hL := hL.call hE (by assumption) hV; clear hE hV
      rw [HZZ.out]
      go_wp2_with (first | go_skip | refine tP ?_ | (refine tS ?_; clear hL; intro _ hL) | (refine tB ?_; clear hL; intro _ _ hL _) | (refine tC ?_; clear hL; intro _ _ hL _ hBs))
      refine goA ?_
      obtain ⟨vs7, r7, z7, y7, l7⟩ := ROW.out
      have hm9 := hL.mext
      have hs9 := hL.ext.still
      have hLj := hLb.join hL
      simp only [List.cons_append, List.nil_append] at hLj
      refine wl_appendS (A := [_, _]) hLj r7 (wanted_none rfl) rfl ap_Fols (by omega) rfl rfl (news := [.int .i64 x, .int .i64 c, .bool gv, .slice Av nv cv', .bool fv, .slice Bv pv' qv]) rfl ((Blk.sl hBs (n := 6) rfl).le hL.vw.le) rfl (by omega) (by omega) ?_
      clear hL hLj hLb
      intro v1 W5 m5 R5 hL r8 e8 hst
      obtain ⟨A9, c9, rfl, -⟩ := r8.lit
      have hl5 : Le m3 m5 := Le.trans hm9.le e8.le
      have rd := RowA.snoc (R := FolR) (m := m5) (x := ((x, c), sumAt SS (x, c))) r8 z7 (y7.mono fun v x hv => FolR.mono _ _ _ _ hv (Le.trans HXR.out.le hl5)) l7 rfl ⟨⟨x, c, gv, Av, nv, cv', fv, Bv, pv', qv⟩, rfl, rfl, rfl, HV3.out.le hl5⟩
      have RD := Lib.hid rd
      have HR5 := Lib.hid ((HRG3.out.still hs9).still hst)
      have HX5 := Lib.hid ((HXX.out.trans hm9).trans e8)
      clear rd r8 r7 z7 y7 l7 hst hs9 hm9 e8 hl5
      have hL5 := hL.sub (B := R5) (List.sublist_append_right _ _)
      clear hL
      have hL := hL5
      clear hL5
      simp only [Act.put, zq1, zq2, zq3]
      go_wp2_with (first | go_skip | refine tP ?_ | (refine tS ?_; clear hL; intro _ hL) | (refine tB ?_; clear hL; intro _ _ hL _) | (refine tC ?_; clear hL; intro _ _ hL _ hBs))
      go_roundw
      case rel => exact ⟨fun z => left z && !z.sameKey (klP x c), cnt', m5, _, n3 + 1, R5, HR5.out, hL, RD.out, HG3.out, HX5.out, HLE3.out⟩
      case measure => rw [HR5.out.left_eq]; exact HLT.out
end Go.Proofs.YtniigfikpfinfaaGreat

/- Contracts of branch.check, pairingref27.valued and branch.Follows. -/
namespace Go.Proofs.YtniigfikpfinfaaGreat
open Go.RowKit

theorem master_nc {m : World} {nf pen : Int} {A B C : Option Addr} {nr ca nc cb nk cc : Nat} {x : Ms} (h : MasterR m (.agg #[.int .i64 nf, .slice A nr ca, .int .i64 pen, .slice B nc cb, .slice C nk cc]) x) : nc = x.cols.length := by
 obtain ⟨va, vb, vc, e, ha, hb, hc⟩ := h
 obtain ⟨B', cb', rfl, -, -⟩ := hb.lit
 simp at e
 omega
theorem b_check (xv : Value) (x : Ms) (V : Option Addr) (n c : Nat) (e : Int) (w m : World) (hV : Vw m w) (hx : MasterR m xv x) (ok : MsOk x) (he : e = if n = x.cols.length then 0 else 12) :
  Calls Tryz.prog 96 #[xv, .slice V n c] w (RetV w m fun _ r => r = .int .i64 e) := by
 have HX := Lib.hid hx
 obtain ⟨A, nr, ca, B, nc, cb, C, nk, cc, rfl, hx1⟩ := hx.lit
 have hnc := master_nc hx1
 have KV : Hid (∀ w m', Vw m' w → Le m m' → Calls Tryz.prog 66 #[.agg #[.int .i64 x.nf, .slice A nr ca, .int .i64 x.pen, .slice B nc cb, .slice C nk cc]] w (RetV w m' fun _ r => r = .int .i64 0)) := by
  show ∀ w m', _
  exact fun w m' hV hle => m_ValidateMaster _ x w m' hV (HX.out.le hle) ok
 rw [← hnc] at he
 have hL := Loc.start hV
 clear hV hx1 HX hnc ok
 generalize x.nf = nf at *
 generalize x.pen = pen at *
 by_cases h : n = nc
 ·subst h
  rw [if_pos rfl] at he
  subst he
  go_enter Tryz.func96, Tryz.ntmps96
  go_upto_region 0 with (fail)
  refine wp_region_lit ?_
  refine t_box hL rfl rfl ?_; clear hL; intro Wh2 mh2 hL eh2; simp only [Act.put, zq1, zq2, zq3]
  go_wp2_with (first | go_skip | refine tP ?_ | (refine tB ?_; clear hL; intro _ _ hL _))
  refine (KV.out _ _ hL.vw leX).mono ?_
  rintro e Wc1 ⟨_, mc1, rfl, hE, hMc1, hV, rfl⟩
  replace hL := hL.call hE (by assumption) hV; clear hE hV
  go_wp2_with (first | go_skip | refine tP ?_ | (refine tB ?_; clear hL; intro _ _ hL _))
  go_ret
  exact RetV.mk hL rfl
 ·rw [if_neg h] at he
  subst he
  have h' : ¬ (n : Int) = (nc : Int) := by omega
  have h2 : ((n : Int) != (nc : Int)) = true := by simpa using h'
  go_enter Tryz.func96, Tryz.ntmps96
  go_upto_region 0 with (fail)
  refine wp_region_lit ?_
  refine t_box hL rfl rfl ?_; clear hL; intro Wh2 mh2 hL eh2; simp only [Act.put, zq1, zq2, zq3]
  go_wp2_with (first | go_skip | refine tP ?_ | (refine tB ?_; clear hL; intro _ _ hL _))
  refine (KV.out _ _ hL.vw leX).mono ?_
  rintro e Wc1 ⟨_, mc1, rfl, hE, hMc1, hV, rfl⟩
  replace hL := hL.call hE (by assumption) hV; clear hE hV
  go_wp2_with (first | go_skip | refine tP ?_ | (refine tB ?_; clear hL; intro _ _ hL _))
  go_ret
  exact RetV.mk hL rfl

theorem b_Follows (xv vv : Value) (x : Ms) (vs : List Rat) (w m : World) (hV : Vw m w) (hx : MasterR m xv x) (hvv : FracL m vv vs) (ok : VOk x vs) :
  Calls Tryz.prog 38 #[xv, vv] w (RetV w m fun m' r => ∃ v ys, r = .tuple #[v, .int .i64 0] ∧ IsFol (entS x.cols vs x.cols.length) ys ∧ FolL m' v ys) := by
 have HX := Lib.hid hx
 have HVV := Lib.hid hvv
 obtain ⟨A, nr, ca, B, nc, cb, C, nk, cc, rfl, hx1⟩ := hx.lit
 obtain ⟨V, cv, rfl, hcv, hvv1⟩ := hvv.lit
 have KV : Hid (∀ w m', Vw m' w → Le m m' → Calls Tryz.prog 96 #[.agg #[.int .i64 x.nf, .slice A nr ca, .int .i64 x.pen, .slice B nc cb, .slice C nk cc], .slice V vs.length cv] w (RetV w m' fun _ r => r = .int .i64 0)) := by
  show ∀ w m', _
  exact fun w m' hV hle => b_check _ x V vs.length cv 0 w m' hV (HX.out.le hle) ok.ms (by rw [if_pos ok.len])
 have KF : Hid (∀ w m', Vw m' w → Le m m' → Calls Tryz.prog 97 #[.agg #[.int .i64 x.nf, .slice A nr ca, .int .i64 x.pen, .slice B nc cb, .slice C nk cc], .slice V vs.length cv] w (RetV w m' fun m' r => ∃ ys, IsFol (entS x.cols vs x.cols.length) ys ∧ FolL m' r ys)) := by
  show ∀ w m', _
  exact fun w m' hV hle => b_follows _ _ x vs w m' hV (HX.out.le hle) (FracL.le HVV.out hle) ok
 have hL := Loc.start hV
 clear hV hx1 HX hvv1 HVV ok
 generalize x.nf = nf at *
 generalize x.pen = pen at *
 generalize vs.length = nv at *
 generalize entS x.cols vs x.cols.length = SS at *
 go_enter Tryz.func38, Tryz.ntmps38
 go_upto_region 0 with (fail)
 refine wp_region_lit ?_
 refine t_box hL rfl rfl ?_; clear hL; intro Wh2 mh2 hL eh2; simp only [Act.put, zq1, zq2, zq3]
 go_wp2_with (first | go_skip | refine tP ?_ | (refine tB ?_; clear hL; intro _ _ hL _))
 refine (KV.out _ _ hL.vw leX).mono ?_
 rintro e Wc1 ⟨_, mc1, rfl, hE, hMc1, hV, rfl⟩
 replace hL := hL.call hE (by assumption) hV; clear hE hV
 go_wp2_with (first | go_skip | refine tP ?_ | (refine tB ?_; clear hL; intro _ _ hL _))
 refine (KF.out _ _ hL.vw leX).mono ?_
 rintro e Wc2 ⟨vc2, mc2, rfl, hE, hMc2, hV, hc2⟩
 replace hL := hL.call hE (by assumption) hV; clear hE hV
 obtain ⟨ys, hf, hl⟩ := hc2
 go_wp2_with (first | go_skip | refine tP ?_ | (refine tB ?_; clear hL; intro _ _ hL _))
 go_ret2
 exact RetV.mk hL ⟨_, ys, rfl, hf, hl⟩

end Go.Proofs.YtniigfikpfinfaaGreat

/- Contracts of rational.Sub, FromInt, Floor and Abs for small canonical fractions. -/
namespace Go.Proofs.YtniigfikpfinfaaGreat
open Go.RowKit

theorem q_Sub (a b : Value) (x y x' y' : Int) (w m : World) (hV : Vw m w) (ha : FracS m a x y) (hb : FracS m b x' y') (hs : Sm x y) (hs' : Sm x' y') :
  Calls Tryz.prog 100 #[a, b] w (RetV w m fun m' r => FracC m' r (Rat.divInt x y - Rat.divInt x' y')) := by
 have ha' := ha
 have hb' := hb
 obtain ⟨_, _, _, _, rfl, h1, h2, -, -⟩ := ha'
 obtain ⟨g1, A1, n1, c1, rfl, rfl⟩ := h1.parts'
 obtain ⟨g2, A2, n2, c2, rfl, rfl⟩ := h2.parts'
 obtain ⟨_, _, _, _, rfl, h3, h4, -, -⟩ := hb'
 obtain ⟨g3, A3, n3, c3, rfl, rfl⟩ := h3.parts'
 obtain ⟨g4, A4, n4, c4, rfl, rfl⟩ := h4.parts'
 obtain ⟨u1, u2, u3, u4⟩ := pN_spec hs
 obtain ⟨v1, v2, v3, v4⟩ := pN_spec hs'
 have E : Hid (Rat.divInt (pN x y * pD y' - pN x' y' * pD y) (pD y * pD y') = Rat.divInt x y - Rat.divInt x' y') := by
  show _ = _
  rw [← u4, ← v4, Rat.sub_eq_add_neg, Rat.neg_divInt, Rat.divInt_add_divInt _ _ (by omega) (by omega), Int.neg_mul, Int.sub_eq_add_neg]
 have K : Hid (∀ w m, Vw m w → Calls Tryz.prog 130 #[.int .i64 (pN x y * pD y' - pN x' y' * pD y), .int .i64 (pD y * pD y')] w (RetV w m fun m' r => FracC m' r (Rat.divInt x y - Rat.divInt x' y'))) := by
  show ∀ w m, _
  intro w m hV
  rw [← E.out]
  exact q_fromWords _ _ w m hV (Int.mul_pos u2 v2) (by have := prod_bd u1 v3; have := prod_bd v1 u3; omega) (by have := prod_bd u3 v3; omega)
 have w1 := w64_of (z := pN x y * pD y' - pN x' y' * pD y) (by have := prod_bd u1 v3; have := prod_bd v1 u3; omega)
 have w3 := w64_of (z := pN x y * pD y') (by have := prod_bd u1 v3; omega)
 have w4 := w64_of (z := pN x' y' * pD y) (by have := prod_bd v1 u3; omega)
 have w2 := w64_of (z := pD y * pD y') (by have := prod_bd u3 v3; omega)
 have hL := Loc.start hV
 clear hV h1 h2 h3 h4 u1 u2 u3 u4 v1 v2 v3 v4 E hs hs'
 go_enter Tryz.func100, Tryz.ntmps100
 go_wp2_with (first | go_skip | refine tP ?_ | (refine tS ?_; clear hL; intro _ hL) | (refine tB ?_; clear hL; intro _ _ hL _))
 refine (q_small _ _ x y x' y' _ _ hL.vw (ha.le leX) (hb.le leX)).mono ?_
 rintro e W1 ⟨_, m1, rfl, hE, hM1, hV, rfl⟩
 replace hL := hL.call hE (by assumption) hV; clear hE hV
 generalize pN x y = P1 at *
 generalize pD y = P2 at *
 generalize pN x' y' = P3 at *
 generalize pD y' = P4 at *
 go_wp2_with (first | go_skip | refine tP ?_ | (refine tS ?_; clear hL; intro _ hL) | (refine tB ?_; clear hL; intro _ _ hL _))
 refine (K.out _ _ hL.vw).mono ?_
 rintro e W2 ⟨v2, m2, rfl, hE, hM2, hV, h2⟩
 replace hL := hL.call hE (by assumption) hV; clear hE hV
 obtain ⟨g2', A2', n2', c2', h2', B2', k2', d2', rfl, h2⟩ := h2.lit
 go_wp2_with (first | go_skip | refine tP ?_ | (refine tS ?_; clear hL; intro _ hL) | (refine tB ?_; clear hL; intro _ _ hL _))
 refine fin_agg hL Tryz.results100 rfl rfl loX AgC.h (by exact rfl) ?_
 exact h2
theorem q_SubC (a b : Value) (p q : Rat) (w m : World) (hV : Vw m w) (ha : FracC m a p) (hb : FracC m b q) (hs : Sm p.num p.den) (hs' : Sm q.num q.den) :
  Calls Tryz.prog 100 #[a, b] w (RetV w m fun m' r => FracC m' r (p - q)) := by
 have h := q_Sub a b p.num p.den q.num q.den w m hV (ha.toS hs) (hb.toS hs') hs hs'
 rwa [Rat.num_divInt_den, Rat.num_divInt_den] at h

theorem q_FromInt (v : Value) (z : Int) (w m : World) (hV : Vw m w) (h : IntC m v z) (hz : z.natAbs < 18446744073709551616) :
  Calls Tryz.prog 101 #[v] w (RetV w m fun m' r => FracC m' r (z : Rat)) := by
 obtain ⟨g, A, n, c, rfl, h⟩ := h.lit
 have lz : (digs z.natAbs).length ≤ 1000 := Nat.le_trans (len2 hz) (by omega)
 have HZ := Lib.hid hz
 have hL := Loc.start hV
 clear hV hz
 go_enter Tryz.func101, Tryz.ntmps101
 go_wp2_with (first | go_skip | refine tP ?_ | (refine tS ?_; clear hL; intro _ hL) | (refine tB ?_; clear hL; intro _ _ hL _))
 refine (i_Add _ _ z 0 _ _ hL.vw ((h.toV lz).le leX) (IntC.nil.toV (by simp [digs_zero])) HZ.out (by decide)).mono ?_
 rintro e W1 ⟨v1, m1, rfl, hE, hM1, hV, h1⟩
 replace hL := hL.call hE (by assumption) hV; clear hE hV
 obtain ⟨g1', A1', n1', c1', rfl, h1⟩ := h1.lit
 go_wp2_with (first | go_skip | refine tP ?_ | (refine tS ?_; clear hL; intro _ hL) | (refine tB ?_; clear hL; intro _ _ hL _))
 refine (i_FromInt64 1 _ _ hL.vw (by decide) (by decide)).mono ?_
 rintro e W2 ⟨v2, m2, rfl, hE, hM2, hV, h2⟩
 replace hL := hL.call hE (by assumption) hV; clear hE hV
 obtain ⟨g2', A2', n2', c2', rfl, h2⟩ := h2.lit
 go_wp2_with (first | go_skip | refine tP ?_ | (refine tS ?_; clear hL; intro _ hL) | (refine tB ?_; clear hL; intro _ _ hL _))
 refine fin_agg hL Tryz.results101 rfl rfl loX AgC.h (by exact rfl) ?_
 refine ⟨_, _, _, _, rfl, ?_, ?_⟩
 ·rw [Rat.num_intCast]
  have := h1.le (leX : Le m1 m2)
  rwa [Int.add_zero] at this
 ·rw [Rat.den_intCast]
  exact h2

theorem q_Floor (v : Value) (q : Rat) (w m : World) (hV : Vw m w) (h : FracC m v q) (hx : q.num.natAbs < 18446744073709551616) (hy : q.den < 18446744073709551616) :
  Calls Tryz.prog 102 #[v] w (RetV w m fun m' r => IntC m' r (flr q)) := by
 obtain ⟨g, A, n, c, g', B', n', c', rfl, h⟩ := h.lit
 have lx : (digs q.num.natAbs).length ≤ 1000 := Nat.le_trans (len2 hx) (by omega)
 have ly : (digs (q.den : Int).natAbs).length ≤ 1000 := Nat.le_trans (len2 (by simpa using hy)) (by omega)
 have HX : Hid (q.num.natAbs < 18446744073709551616) := hx
 have HY : Hid ((q.den : Int).natAbs < 18446744073709551616) := by show _ < _; simpa using hy
 have HP : Hid ((0 : Int) < q.den) := by show _ < _; have := q.den_pos; omega
 clear hx hy
 have hL := Loc.start hV
 clear hV
 go_enter Tryz.func102, Tryz.ntmps102
 go_wp2_with (first | go_skip | refine tP ?_ | (refine tS ?_; clear hL; intro _ hL) | (refine tB ?_; clear hL; intro _ _ hL _))
 refine (q_parts _ q _ _ hL.vw (h.le leX) ly).mono ?_
 rintro e W11 ⟨_, m11, rfl, hE, hM11, hV, va, vb, rfl, h1, h2⟩
 replace hL := hL.call hE (by assumption) hV; clear hE hV
 obtain ⟨g1, A1, n1, c1, rfl, h1⟩ := h1.lit
 obtain ⟨g2, A2, n2, c2, rfl, h2⟩ := h2.lit
 go_wp2_with (first | go_skip | refine tP ?_ | (refine tS ?_; clear hL; intro _ hL) | (refine tB ?_; clear hL; intro _ _ hL _))
 refine (i_DivModA _ _ q.num q.den _ _ hL.vw ((h1.toV lx).le leX) ((h2.toV ly).le leX) HX.out HY.out HP.out).mono ?_
 rintro e W6 ⟨_, m6, rfl, hE, hM6, hV, q6, r6, rfl, h6, k6⟩
 replace hL := hL.call hE (by assumption) hV; clear hE hV
 obtain ⟨g6, A6, n6, c6, rfl, h6⟩ := h6.lit
 obtain ⟨g7, A7, n7, c7, rfl, k6⟩ := k6.lit
 go_wp2_with (first | go_skip | refine tP ?_ | (refine tS ?_; clear hL; intro _ hL) | (refine tB ?_; clear hL; intro _ _ hL _))
 refine fin_agg hL Tryz.results102 rfl rfl loX AgC.h (by exact rfl) ?_
 exact h6.le leX

theorem sgn_false (n : Nat) : sgn false n = (n : Int) := rfl
theorem i_Abs (v : Value) (z : Int) (w m : World) (hV : Vw m w) (h : IntV m v z) : Calls Tryz.prog 159 #[v] w (RetV w m fun m' r => IntC m' r (z.natAbs : Int)) := by
 obtain ⟨g, A, l, c, rfl⟩ := h.lit
 obtain ⟨hd, hg⟩ := h.digA
 have lz := h.length
 have hL := Loc.start hV
 clear hV hg
 go_enter Tryz.func159, Tryz.ntmps159
 go_wp2_with (first | go_skip | refine tP ?_ | (refine tS ?_; clear hL; intro _ hL) | (refine tB ?_; clear hL; intro _ _ hL _))
 refine (i_trim _ z.natAbs _ _ hL.vw (hd.le leX)).mono ?_
 rintro e W2 ⟨v2, m2, rfl, hE, hM2, hV, h2⟩
 replace hL := hL.call hE (by assumption) hV; clear hE hV
 go_wp2_with (first | go_skip | refine tP ?_ | (refine tS ?_; clear hL; intro _ hL) | (refine tB ?_; clear hL; intro _ _ hL _))
 refine (i_Clone _ z.natAbs _ _ hL.vw h2 lz).mono ?_
 rintro e W3 ⟨v3, m3, rfl, hE, hM3, hV, h3⟩
 replace hL := hL.call hE (by assumption) hV; clear hE hV
 go_wp2_with (first | go_skip | refine tP ?_ | (refine tS ?_; clear hL; intro _ hL) | (refine tB ?_; clear hL; intro _ _ hL _))
 refine (i_wrap false _ z.natAbs _ _ hL.vw (h3.toA lz)).mono ?_
 rintro e W4 ⟨v4, m4, rfl, hE, hM4, hV, h4⟩
 replace hL := hL.call hE (by assumption) hV; clear hE hV
 obtain ⟨g4', A4', n4', c4', rfl, h4⟩ := h4.lit
 go_wp2_with (first | go_skip | refine tP ?_ | (refine tS ?_; clear hL; intro _ hL) | (refine tB ?_; clear hL; intro _ _ hL _))
 refine fin_agg hL Tryz.results159 rfl rfl loX AgC.h (by exact rfl) ?_
 rw [← sgn_false]; exact h4
def absR (q : Rat) : Rat := Rat.divInt (q.num.natAbs : Int) q.den
theorem q_Abs (v : Value) (q : Rat) (w m : World) (hV : Vw m w) (h : FracC m v q) (hx : q.num.natAbs < 18446744073709551616) (hy : q.den < 18446744073709551616) :
  Calls Tryz.prog 104 #[v] w (RetV w m fun m' r => FracC m' r (absR q)) := by
 obtain ⟨g, A, n, c, g', B', n', c', rfl, h⟩ := h.lit
 have lx : (digs q.num.natAbs).length ≤ 1000 := Nat.le_trans (len2 hx) (by omega)
 have lx' : (digs (q.num.natAbs : Int).natAbs).length ≤ 1000 := by simpa using lx
 have ly : (digs (q.den : Int).natAbs).length ≤ 1000 := Nat.le_trans (len2 (by simpa using hy)) (by omega)
 have HX : Hid ((q.num.natAbs : Int).natAbs < 18446744073709551616) := by show _ < _; simpa using hx
 have HY : Hid ((q.den : Int).natAbs < 18446744073709551616) := by show _ < _; simpa using hy
 have HP : Hid ((0 : Int) < q.den) := by show _ < _; have := q.den_pos; omega
 clear hx hy
 have hL := Loc.start hV
 clear hV
 go_enter Tryz.func104, Tryz.ntmps104
 go_wp2_with (first | go_skip | refine tP ?_ | (refine tS ?_; clear hL; intro _ hL) | (refine tB ?_; clear hL; intro _ _ hL _))
 refine (q_parts _ q _ _ hL.vw (h.le leX) ly).mono ?_
 rintro e W11 ⟨_, m11, rfl, hE, hM11, hV, va, vb, rfl, h1, h2⟩
 replace hL := hL.call hE (by assumption) hV; clear hE hV
 obtain ⟨g1, A1, n1, c1, rfl, h1⟩ := h1.lit
 obtain ⟨g2, A2, n2, c2, rfl, h2⟩ := h2.lit
 go_upto_region 2 with ((first | go_skip | refine tP ?_ | (refine tS ?_; clear hL; intro _ hL) | (refine tB ?_; clear hL; intro _ _ hL _)))
 refine wp_region_by2 4 [false, false, false, false] [false, false, false, false] [(fun v _ _ => v = ?c2_0), Of (fun um v => IntC um v (q.num.natAbs : Int)), (fun v _ _ => v = ?c2_2), Of (fun um v => FracC um v (Rat.divInt (q.num.natAbs : Int) q.den))] hL.vw mixed [10, 11, 12, 13] _ (by kernel_rfl) (fun vs => by simp only [lay, Act.put, zq1, zq2, zq3]; rfl) (by kernel_rfl) (by decide) (by decide) ?s2 ?l2 ?r2
 case s2 =>
  refine ⟨?_, ?_, ?_, ?_, trivial⟩
  ·intro vs W1 m1 hE hM hV hD; clear hD
   exact sLe
  ·intro vs W1 m1 hE hM hV hD; obtain ⟨⟨_, _, -, -, f10⟩, -⟩ := hD
   rw [(f10 : vs 10 = _)]
   clear f10
   go_wp2_with fail
   refine (i_Abs _ q.num _ _ hV ((h1.toV lx).le leX)).mono ?_
   rintro e W2 ⟨v, m2, rfl, hE2, hM2, hV2, h⟩
   go_wp2_with fail
   refine One2.call hE2 hM2 hV2 ?_; first | exact h | exact rfl
  ·intro vs W1 m1 hE hM hV hD; clear hD
   exact sLe
  ·intro vs W1 m1 hE hM hV hD; obtain ⟨⟨_, _, -, i11, f11⟩, ⟨_, _, -, -, f12⟩, -, -⟩ := hD
   rw [(f12 : vs 12 = _)]
   clear f12
   have f11 : IntC _ (vs 11) (q.num.natAbs : Int) := f11
   replace f11 := f11.le i11.le
   clear i11
   go_wp2_with fail
   refine (q_reduce _ _ _ _ _ _ hV (f11.toV lx') ((h2.toV ly).le leX) HX.out HY.out HP.out).mono ?_
   rintro e W2 ⟨v, m2, rfl, hE2, hM2, hV2, h⟩
   go_wp2_with fail
   refine One2.call hE2 hM2 hV2 ?_; first | exact h | exact rfl
 case l2 =>
  refine ⟨nF, nF, nF, nF, trivial⟩
 intro vs W1 m1 hE hM hV hF hD
 clear hD
 obtain ⟨-, ⟨_, _, -, i11, f11⟩, -, ⟨_, _, -, i13, f13⟩, -⟩ := hF
 replace hL := hL.call hE hM hV
 replace f11 : IntC _ (vs 11) (q.num.natAbs : Int) := f11
 replace f11 := f11.le i11.le
 clear i11
 replace f13 : FracC _ (vs 13) (Rat.divInt (q.num.natAbs : Int) q.den) := f13
 replace f13 := f13.le i13.le
 clear i13
 obtain ⟨g13, A13, n13, c13, h13, B13, k13, d13, e13, f13⟩ := f13.lit
 generalize vs 13 = x13 at e13 ⊢
 subst x13
 clear hE hV
 simp only [List.drop_succ_cons, List.drop_zero]
 go_wp2_with (first | go_skip | refine tP ?_ | (refine tS ?_; clear hL; intro _ hL) | (refine tB ?_; clear hL; intro _ _ hL _))
 refine QN.mk ?_
 go_wp2_with (first | go_skip | refine tP ?_ | (refine tS ?_; clear hL; intro _ hL) | (refine tB ?_; clear hL; intro _ _ hL _))
 refine fin_agg hL Tryz.results104 rfl rfl loX AgC.h (by exact rfl) ?_
 exact f13
end Go.Proofs.YtniigfikpfinfaaGreat

/- Contract of branch.Choose. -/
namespace Go.Proofs.YtniigfikpfinfaaGreat
open Go.RowKit

theorem results_tmp4 {fn : Func} {t u v x : Tmp} (h : fn.results = #[.tmp t, .tmp u, .tmp v, .tmp x]) (tmps : Array Value) (P : Program) (w : World) :
  (results fn tmps).run P w = .ok (.tuple #[tmps.getD t undef, tmps.getD u undef, tmps.getD v undef, tmps.getD x undef]) w := by
 simp [results, h]

theorem zc_Fol : zc Tryz.prog 137 = some #[.int .i64 0, .int .i64 0, .bool false, .slice none 0 0, .bool false, .slice none 0 0] := by kernel_rfl
instance iAC10_1 : ZcC Tryz.prog 137 #[.int .i64 0, .int .i64 0, .bool false, .slice none 0 0, .bool false, .slice none 0 0] := ⟨zc_Fol⟩
theorem fd_Fol0 : fdS Tryz.prog 137 0 = some 0 := by kernel_rfl
instance iAC10_2 : FdC Tryz.prog 137 0 0 := ⟨fd_Fol0⟩
theorem fd_Fol1 : fdS Tryz.prog 137 1 = some 1 := by kernel_rfl
instance iAC10_3 : FdC Tryz.prog 137 1 1 := ⟨fd_Fol1⟩
theorem fd_Fol2 : fdS Tryz.prog 137 2 = some 2 := by kernel_rfl
instance iAC10_4 : FdC Tryz.prog 137 2 2 := ⟨fd_Fol2⟩
theorem ld4 (a b v0 v1 v2 v3 : Value) : ∀ j, j < 4 → (#[a, b, v0, v1, v2, v3] : Array Value)[2 + j]? = [v0, v1, v2, v3][j]? := by
 intro j hj
 match j, hj with
 | 0, _ => rfl
 | 1, _ => rfl
 | 2, _ => rfl
 | 3, _ => rfl

def partR (q : Rat) : Rat := q - (flr q : Rat)
def halfR : Rat := Rat.divInt 1 2
def distR (q : Rat) : Rat := absR (partR q - halfR)
structure Pk where
 f : Int
 n : Int
 s : Bool
 b : Rat
def pickS (p : Pk) (y : PQ) : Pk :=
 if rs (partR y.2) = 0 then p else if p.s = false ∨ rs (distR y.2 - p.b) < 0 then ⟨y.1.1, y.1.2, true, distR y.2⟩ else p
def pickF (ys : List PQ) : Pk := ys.foldl pickS ⟨0, 0, false, 0⟩
def pickT (ys : List PQ) (k : Nat) : Pk := pickF (ys.take k)
theorem pickT_step {ys : List PQ} {k : Nat} {y : PQ} (h : ys[k]? = some y) : pickT ys (k + 1) = pickS (pickT ys k) y := by
 unfold pickT pickF
 rw [← take_snoc h, List.foldl_append]; rfl
theorem pickT_end {ys : List PQ} {k : Nat} (h : ys.length ≤ k) : pickT ys k = pickF ys := by unfold pickT; rw [List.take_of_length_le h]
theorem half_tw : Tw 6 halfR := ⟨18, by unfold halfR; rw [← Rat.divInt_mul_right (n := 1) (d := 2) (a := 18) (by decide)]; rfl, by decide⟩
theorem flr_le (q : Rat) : (flr q).natAbs ≤ q.num.natAbs := Int.natAbs_ediv_le_natAbs _ _
theorem Tw.num_le {B : Nat} {q : Rat} (h : Tw B q) : q.num.natAbs ≤ 3 * B := by
 obtain ⟨z, rfl, hz⟩ := h
 rw [(frac_pos (by decide)).1]
 exact Nat.le_trans (Int.natAbs_ediv_le_natAbs _ _) hz
theorem Tw.part {B : Nat} {q : Rat} (h : Tw B q) : Tw (B + B * 36) (partR q) := (h.sub (Tw.int (Nat.le_trans (flr_le q) h.num_le))).mono (by omega)
theorem absR_or (q : Rat) : absR q = q ∨ absR q = -q := by
 unfold absR
 by_cases h : q.num < 0
 ·right
  have : (q.num.natAbs : Int) = -q.num := by omega
  rw [this, ← Rat.neg_divInt, Rat.num_divInt_den]
 ·left
  have : (q.num.natAbs : Int) = q.num := by omega
  rw [this, Rat.num_divInt_den]
theorem Tw.abs {B : Nat} {q : Rat} (h : Tw B q) : Tw B (absR q) := by
 rcases absR_or q with e | e <;> rw [e]
 ·exact h
 ·exact h.neg
theorem Tw.dist {B : Nat} {q : Rat} (h : Tw B q) : Tw (B + B * 36 + 6) (distR q) := (h.part.sub half_tw).abs
theorem pick_tw {ys : List PQ} (h : ∀ y ∈ ys, Tw 117000 y.2) : ∀ k, (pickT ys k).s = true → Tw 5000000 (pickT ys k).b := by
 intro k
 induction k with
 | zero => intro h0; simp [pickT, pickF] at h0
 | succ k ih =>
  intro hs
  cases hk : ys[k]? with
  | none =>
   have e : pickT ys (k + 1) = pickT ys k := by
    unfold pickT
    have := List.getElem?_eq_none_iff.1 hk
    rw [List.take_of_length_le (by omega), List.take_of_length_le (by omega)]
   rw [e] at hs ⊢; exact ih hs
  | some y =>
   rw [pickT_step hk] at hs ⊢
   unfold pickS at hs ⊢
   split at hs
   ·rw [if_pos (by assumption)]; exact ih hs
   ·rw [if_neg (by assumption)]
    split at hs
    ·rw [if_pos (by assumption)]
     exact (h y (List.mem_of_getElem? hk)).dist.mono (by decide)
    ·rw [if_neg (by assumption)]; exact ih hs
theorem q_CompareC (a b : Value) (p q : Rat) (w m : World) (hV : Vw m w) (ha : FracC m a p) (hb : FracC m b q) (hs : Sm p.num p.den) (hs' : Sm q.num q.den) :
  Calls Tryz.prog 83 #[a, b] w (RetV w m fun _ r => r = .int .i64 (rs (p - q))) := by
 have h := q_Compare a b p.num p.den q.num q.den w m hV (ha.toS hs) (hb.toS hs') hs hs'
 rw [← rs_cmp, Rat.num_divInt_den, Rat.num_divInt_den] at h
 exact h
theorem FolL.at_ {m : World} {A : Option Addr} {n c : Nat} {ys : List PQ} (h : FolL m (.slice A n c) ys) {k : Nat} {y : PQ} (hk : ys[k]? = some y) :
  ∃ b off g A' n' c' f B p q, A = some ⟨b, off, none⟩ ∧ FracC m (.agg #[.bool g, .slice A' n' c', .bool f, .slice B p q]) y.2 ∧ m.rangeAt b (off + k * 6) [.int .i64 y.1.1, .int .i64 y.1.2, .bool g, .slice A' n' c', .bool f, .slice B p q] := by
 obtain ⟨b, off, v, e, ⟨f, rfl, e1, e2, hf⟩, _, hr⟩ := ListV.at_ h (by omega) hk
 refine ⟨b, off, _, _, _, _, _, _, _, _, e, hf, ?_⟩
 rw [← e1, ← e2]
 exact hr
theorem pick_some {ys : List PQ} {k : Nat} {y : PQ} (h : ys[k]? = some y) (h0 : ¬ rs (partR y.2) = 0) (h1 : (pickT ys k).s = false ∨ rs (distR y.2 - (pickT ys k).b) < 0) : pickT ys (k + 1) = ⟨y.1.1, y.1.2, true, distR y.2⟩ := by
 rw [pickT_step h]; unfold pickS; rw [if_neg h0, if_pos h1]
theorem pick_same {ys : List PQ} {k : Nat} {y : PQ} (h : ys[k]? = some y) (h0 : rs (partR y.2) = 0 ∨ ((pickT ys k).s = true ∧ ¬ rs (distR y.2 - (pickT ys k).b) < 0)) : pickT ys (k + 1) = pickT ys k := by
 rw [pickT_step h]; unfold pickS
 rcases h0 with h0 | ⟨h1, h2⟩
 ·rw [if_pos h0]
 ·split
  ·rfl
  ·rw [if_neg (by rw [h1]; simpa using h2)]

theorem b_Choose (xv vv : Value) (x : Ms) (vs : List Rat) (w m : World) (hV : Vw m w) (hx : MasterR m xv x) (hvv : FracL m vv vs) (ok : VOk x vs) :
  Calls Tryz.prog 40 #[xv, vv] w (RetV w m fun _ r => ∃ ys, IsFol (entS x.cols vs x.cols.length) ys ∧ r = .tuple #[.int .i64 (pickF ys).f, .int .i64 (pickF ys).n, .bool (pickF ys).s, .int .i64 0]) := by
 have HX := Lib.hid hx
 have HVV := Lib.hid hvv
 obtain ⟨A, nr, ca, B, nc, cb, C, nk, cc, rfl, hx1⟩ := hx.lit
 obtain ⟨V, cv, rfl, hcv, hvv1⟩ := hvv.lit
 have KV : Hid (∀ w m', Vw m' w → Le m m' → Calls Tryz.prog 96 #[.agg #[.int .i64 x.nf, .slice A nr ca, .int .i64 x.pen, .slice B nc cb, .slice C nk cc], .slice V vs.length cv] w (RetV w m' fun _ r => r = .int .i64 0)) := by
  show ∀ w m', _
  exact fun w m' hV hle => b_check _ x V vs.length cv 0 w m' hV (HX.out.le hle) ok.ms (by rw [if_pos ok.len])
 have KF : Hid (∀ w m', Vw m' w → Le m m' → Calls Tryz.prog 97 #[.agg #[.int .i64 x.nf, .slice A nr ca, .int .i64 x.pen, .slice B nc cb, .slice C nk cc], .slice V vs.length cv] w (RetV w m' fun m' r => ∃ ys, IsFol (entS x.cols vs x.cols.length) ys ∧ FolL m' r ys)) := by
  show ∀ w m', _
  exact fun w m' hV hle => b_follows _ _ x vs w m' hV (HX.out.le hle) (FracL.le HVV.out hle) ok
 have HTW : Hid (∀ ys, IsFol (entS x.cols vs x.cols.length) ys → ∀ y ∈ ys, Tw 117000 y.2) := by
  show ∀ ys, _
  intro ys h y hy
  rw [((h.2 y).1 hy).1]
  exact sum_tw (fun e he => (ok.entS_mem he).1) (Nat.le_trans (ok.entS_len _) (by decide)) _
 have HLN : Hid (∀ ys, IsFol (entS x.cols vs x.cols.length) ys → ys.length ≤ 1000000) := by
  show ∀ ys, _
  intro ys h
  have h1 : (ys.map Prod.fst).Nodup := by
   refine List.pairwise_map.2 (h.1.imp_of_mem fun {a b} ha hb hab e => ?_)
   unfold ltP at hab; rw [e] at hab; omega
  have h2 : ys.length ≤ (entS x.cols vs x.cols.length).length := by
   have h3 : ∀ p ∈ ys.map Prod.fst, p ∈ (entS x.cols vs x.cols.length).map Prod.fst := fun p hp => by
    obtain ⟨y, hy, rfl⟩ := List.mem_map.1 hp
    obtain ⟨e1, e2⟩ := (h.2 y).1 hy
    by_cases he : ∃ e ∈ entS x.cols vs x.cols.length, e.1 = y.1
    ·obtain ⟨e, he, e3⟩ := he
     exact List.mem_map.2 ⟨e, he, e3⟩
    ·exact absurd (e1.trans (sumAt_none fun e h h' => he ⟨e, h, h'⟩)) e2
   have := nodup_lengthP h1 h3
   simpa using this
  exact Nat.le_trans h2 (Nat.le_trans (ok.entS_len _) (by decide))
 have hL := Loc.start hV
 clear hV hx1 HX hvv1 HVV ok
 generalize x.nf = nf at *
 generalize x.pen = pen at *
 generalize vs.length = nv at *
 generalize entS x.cols vs x.cols.length = SS at *
 go_enter Tryz.func40, Tryz.ntmps40
 go_upto_region 0 with (fail)
 refine wp_region_lit ?_
 refine t_box hL rfl rfl ?_; clear hL; intro Wh2 mh2 hL eh2; simp only [Act.put, zq1, zq2, zq3]
 go_wp2_with (first | go_skip | refine tP ?_ | (refine tS ?_; clear hL; intro _ hL) | (refine tB ?_; clear hL; intro _ _ hL _))
 refine (KV.out _ _ hL.vw leX).mono ?_
 rintro e Wc1 ⟨_, mc1, rfl, hE, hMc1, hV, rfl⟩
 replace hL := hL.call hE (by assumption) hV; clear hE hV
 go_wp2_with (first | go_skip | refine tP ?_ | (refine tS ?_; clear hL; intro _ hL) | (refine tB ?_; clear hL; intro _ _ hL _))
 refine (q_FromInts 1 2 _ _ hL.vw (by decide) (by decide) (by decide)).mono ?_
 rintro e Wc2 ⟨_, mc2, rfl, hE, hMc2, hV, vh, rfl, hvh⟩
 replace hL := hL.call hE (by assumption) hV; clear hE hV
 obtain ⟨gh, Ah, nh, ch, fh, Bh, ph, qh, rfl, hvh⟩ := hvh.lit
 have HH : Hid (FracC mc2 (.agg #[.bool gh, .slice Ah nh ch, .bool fh, .slice Bh ph qh]) halfR) := hvh
 clear hvh
 go_upto_region 5 with ((first | go_skip | refine tP ?_ | (refine tS ?_; clear hL; intro _ hL) | (refine tB ?_; clear hL; intro _ _ hL _)))
 obtain ⟨w5, rfl⟩ := hL.world
 go_wp2_with (first | go_skip | refine tP ?_ | (refine tS ?_; clear hL; intro _ hL) | (refine tB ?_; clear hL; intro _ _ hL _))
 refine (KF.out _ _ hL.vw leX).mono ?_
 rintro e Wc3 ⟨vc3, mc3, rfl, hE, hMc3, hV, hc3⟩
 replace hL := hL.call hE (by assumption) hV; clear hE hV
 obtain ⟨ys, hf, hl⟩ := hc3
 obtain ⟨Y, cy, rfl, hcy, hl⟩ := hl.lit
 have HF := Lib.hid hf
 have HY := Lib.hid hl
 have HT := Lib.hid (HTW.out ys hf)
 have HPT : Hid (∀ k, (pickT ys k).s = true → Tw 5000000 (pickT ys k).b) := by show ∀ k, _; exact pick_tw HT.out
 have hny := HLN.out ys hf
 have HH3 : Hid (FracC mc3 (.agg #[.bool gh, .slice Ah nh ch, .bool fh, .slice Bh ph qh]) halfR) := HH.out.le leX
 clear hf hl KV KF HTW HLN HH
 generalize hn : ys.length = ny at *
 have HN := Lib.hid hn
 clear hn
 go_wp2_with (first | go_skip | refine tP ?_ | (refine tS ?_; clear hL; intro _ hL) | (refine tB ?_; clear hL; intro _ _ hL _))
 go_loopw [30, 4, 5, 6] (fun i f n s wr => ∃ (k : Nat) (mm : World) (gb fb : Bool) (Ab Bb : Option Addr) (nb cb' pb qb : Nat), k ≤ ny ∧ i = .int .i64 k ∧ f = .int .i64 (pickT ys k).f ∧ n = .int .i64 (pickT ys k).n ∧ s = .bool (pickT ys k).s ∧ Loc w m wr mm [(w5.heap.size, 39, #[.bool gb, .slice Ab nb cb', .bool fb, .slice Bb pb qb]), (Wc2.heap.size, 39, #[.bool gh, .slice Ah nh ch, .bool fh, .slice Bh ph qh]), (w.heap.size, 26, #[.int .i64 nf, .slice A nr ca, .int .i64 pen, .slice B nc cb, .slice C nk cc])] ∧ Hid ((pickT ys k).s = true → FracC mm (.agg #[.bool gb, .slice Ab nb cb', .bool fb, .slice Bb pb qb]) (pickT ys k).b) ∧ Ext mc3 mm) (fun i _ _ _ _ => ny - (intOf i).toNat)
 case atStart => exact ⟨0, _, _, _, _, _, _, _, _, _, Nat.zero_le _, rfl, rfl, rfl, rfl, hL, (fun h => by cases h), exX⟩
 case round =>
  clear hL
  obtain ⟨k, mm, gb, fb, Ab, Bb, nb, cb', pb, qb, hk, rfl, rfl, rfl, rfl, hL, HB, hX⟩ := hrel
  by_cases hlt : k < ny
  ·obtain ⟨⟨⟨a, c⟩, q⟩, hy⟩ := at_some HN hlt
   obtain ⟨b1, o1, g1, A1, n1, c1, f1, B1, p1, q1, rfl, hq1, hr1⟩ := FolL.at_ HY.out hy
   simp only at hq1 hr1
   have htq : Tw 117000 q := HT.out _ (List.mem_of_getElem? hy)
   have HQ1 := Lib.hid hq1
   have HYK := Lib.hid hy
   have HSQ : Hid (Sm q.num q.den) := htq.sm (by decide)
   have HFQ : Hid (q.num.natAbs < 18446744073709551616 ∧ q.den < 18446744073709551616) := by
    have h := htq.sm (by decide)
    show _ ∧ _
    have h1 := h.1
    have h2 := h.2
    simp only [Int.natAbs_natCast] at h2
    exact ⟨by omega, by omega⟩
   have HFL : Hid ((flr q).natAbs < 18446744073709551616) := Nat.lt_of_le_of_lt (flr_le q) HFQ.out.1
   have HSF : Hid (Sm ((flr q : Int) : Rat).num ((flr q : Int) : Rat).den) := (Tw.int (K := 351000) (Nat.le_trans (flr_le q) htq.num_le)).sm (by decide)
   have HFP : Hid (Fit 200 (partR q)) := htq.part.fit (by decide)
   have HSP : Hid (Sm (partR q).num (partR q).den) := htq.part.sm (by decide)
   have HSH : Hid (Sm halfR.num halfR.den) := half_tw.sm (by decide)
   have HPH : Hid ((partR q - halfR).num.natAbs < 18446744073709551616 ∧ (partR q - halfR).den < 18446744073709551616) := by
    have h := (htq.part.sub half_tw).sm (by decide)
    show _ ∧ _
    have h1 := h.1
    have h2 := h.2
    simp only [Int.natAbs_natCast] at h2
    exact ⟨by omega, by omega⟩
   have HSD : Hid (Sm (distR q).num (distR q).den) := htq.dist.sm (by decide)
   clear hy hq1 htq
   have h24 := ld4 (.int .i64 a) (.int .i64 c) (.bool g1) (.slice A1 n1 c1) (.bool f1) (.slice B1 p1 q1)
   generalize hpk : pickT ys k = pk at *
   have HPK := Lib.hid hpk
   clear hpk
   obtain ⟨pf, pn, ps, pb9⟩ := pk
   simp only at HB ⊢
   go_upto_region 9 with ((first | go_skip | refine tP ?_ | (refine tS ?_; clear hL; intro _ hL) | (refine tB ?_; clear hL; intro _ _ hL _)))
   obtain ⟨B, hB1, hB2, hB3⟩ := hL.bound
   refine wp_region_by2 8 [false, false, false, false, false, false, false, true] [false, false, false, false, false, false, false, false] [(fun v _ _ => v = ?c9_0), (fun v _ _ => v = ?c9_1), (fun v _ _ => v = ?c9_2), (fun v _ _ => v = ?c9_3), Of (fun um v => IntC um v (flr q)), Of (fun um v => FracC um v ((flr q : Int) : Rat)), Of (fun um v => FracC um v (partR q)), NewBlk B 39 #[.bool false, .slice none 0 0, .bool false, .slice none 0 0]] hL.vw mixed [34, 35, 36, 37, 38, 39, 40, 14] _ (by kernel_rfl) (fun vs => by simp only [lay, Act.put, zq1, zq2, zq3]; rfl) (by kernel_rfl) (by decide) (by decide) ?s9 ?l9 ?r9
   case s9 =>
    refine ⟨?_, ?_, ?_, ?_, ?_, ?_, ?_, ?_, trivial⟩
    ·intro vs W1 m1 hE hM hV hD; clear hD
     exact sFe
    ·intro vs W1 m1 hE hM hV hD; obtain ⟨⟨_, _, -, -, f34⟩, -⟩ := hD
     rw [(f34 : vs 34 = _)]; clear f34; exact sLe
    ·intro vs W1 m1 hE hM hV hD; clear hD
     exact sFe
    ·intro vs W1 m1 hE hM hV hD; obtain ⟨⟨_, _, -, -, f36⟩, -⟩ := hD
     rw [(f36 : vs 36 = _)]; clear f36; exact sLe
    ·intro vs W1 m1 hE hM hV hD; obtain ⟨⟨_, _, -, -, f37⟩, -⟩ := hD
     rw [(f37 : vs 37 = _)]
     clear f37
     go_wp2_with fail
     refine (q_Floor _ q _ _ hV (HQ1.out.le leX) HFQ.out.1 HFQ.out.2).mono ?_
     rintro e W2 ⟨v, m2, rfl, hE2, hM2, hV2, h⟩
     go_wp2_with fail
     refine One2.call hE2 hM2 hV2 ?_; first | exact h | exact rfl
    ·intro vs W1 m1 hE hM hV hD; obtain ⟨⟨_, _, -, i38, f38⟩, -, -⟩ := hD; have f38 : IntC _ (vs 38) (flr q) := f38; replace f38 := f38.le i38.le; clear i38
     go_wp2_with fail
     refine (q_FromInt _ _ _ _ hV f38 HFL.out).mono ?_
     rintro e W2 ⟨v, m2, rfl, hE2, hM2, hV2, h⟩
     go_wp2_with fail
     refine One2.call hE2 hM2 hV2 ?_; first | exact h | exact rfl
    ·intro vs W1 m1 hE hM hV hD; obtain ⟨⟨_, _, -, -, f35⟩, ⟨_, _, -, i39, f39⟩, -, -⟩ := hD
     rw [(f35 : vs 35 = _)]
     clear f35
     have f39 : FracC _ (vs 39) ((flr q : Int) : Rat) := f39
     replace f39 := f39.le i39.le
     clear i39
     go_wp2_with fail
     refine (q_SubC _ _ q _ _ _ hV (HQ1.out.le leX) f39 HSQ.out HSF.out).mono ?_
     rintro e W2 ⟨v, m2, rfl, hE2, hM2, hV2, h⟩
     go_wp2_with fail
     refine One2.call hE2 hM2 hV2 ?_; first | exact h | exact rfl
    ·intro vs W1 m1 hE hM hV hD; clear hD
     exact one2_alloc hV (Nat.le_trans hB3 hE.size) rfl rfl rfl ZcC.h
   case l9 =>
    refine ⟨nF, nF, nF, nF, nF, nF, nF, nF, trivial⟩
   intro vs W1 m1 hE hM hV hF hD
   obtain ⟨-, -, -, -, ⟨_, _, -, i38, f38⟩, ⟨_, _, -, i39, f39⟩, ⟨_, _, -, i40, f40⟩, ⟨_, _, j14, i14, f14⟩, -⟩ := hF
   replace hL := hL.call hE hM hV
   replace f38 : IntC _ (vs 38) (flr q) := f38
   replace f38 := f38.le i38.le
   clear i38
   obtain ⟨g38, A38, n38, c38, e38, f38⟩ := f38.lit
   generalize vs 38 = x38 at e38 ⊢
   subst x38
   replace f39 : FracC _ (vs 39) ((flr q : Int) : Rat) := f39
   replace f39 := f39.le i39.le
   clear i39
   obtain ⟨g39, A39, n39, c39, h39, B39, k39, d39, e39, f39⟩ := f39.lit
   generalize vs 39 = x39 at e39 ⊢
   subst x39
   replace f40 : FracC _ (vs 40) (partR q) := f40
   replace f40 := f40.le i40.le
   clear i40
   obtain ⟨g40, A40, n40, c40, h40, B40, k40, d40, e40, f40⟩ := f40.lit
   generalize vs 40 = x40 at e40 ⊢
   subst x40
   obtain ⟨b14, e14, hL⟩ := Loc.addB (Lt := []) hB1 hB2 hL f14 j14 i14 ad0
   simp only [e14, List.cons_append, List.nil_append] at hL ⊢
   clear e14 f14 j14 i14
   clear hB1 hB2 hB3 hD
   clear hE hV
   simp only [List.drop_succ_cons, List.drop_zero]
   go_wp2_with (first | go_skip | refine tP ?_ | (refine tS ?_; clear hL; intro _ hL) | (refine tB ?_; clear hL; intro _ _ hL _))
   refine QN.mk ?_
   have HPART := Lib.hid f40
   have HH4 : Hid (FracC mm (.agg #[.bool gh, .slice Ah nh ch, .bool fh, .slice Bh ph qh]) halfR) := HH3.out.le hX.le
   clear f38 f39 f40
   go_wp2_with (first | go_skip | refine tP ?_ | (refine tS ?_; clear hL; intro _ hL) | (refine tB ?_; clear hL; intro _ _ hL _))
   refine (q_Sign _ (partR q) _ _ hL.vw (HPART.out.le leX) HFP.out).mono ?_
   rintro e Ws1 ⟨_, ms1, rfl, hE, hMs1, hV, rfl⟩
   replace hL := hL.call hE (by assumption) hV; clear hE hV
   by_cases h0 : rs (partR q) = 0
   ·have HS := Lib.hid (pick_same HYK.out (.inl h0))
    have h0' : icmp (partR q).num 0 = 0 := h0
    rw [h0']
    clear h0 h0'
    go_wp2_with (first | go_skip | refine tP ?_ | (refine tS ?_; clear hL; intro _ hL) | (refine tB ?_; clear hL; intro _ _ hL _))
    go_roundw
    case rel => exact ⟨k + 1, _, gb, fb, Ab, Bb, nb, cb', pb, qb, by omega, by go_num, by rw [HS.out, HPK.out], by rw [HS.out, HPK.out], by rw [HS.out, HPK.out], hL.tail.tail, (fun h => by rw [HS.out, HPK.out] at h ⊢; exact (HB.out h).le leX), exX⟩
    case measure => simp [intOf] <;> omega
   ·have H0 := Lib.hid h0
    have h0' : ¬ icmp (partR q).num 0 = 0 := h0
    have h02 : (icmp (partR q).num 0 == 0) = false := by simpa using h0'
    clear h0
    generalize icmp (partR q).num 0 = zz at *
    go_wp2_with (first | go_skip | refine tP ?_ | (refine tS ?_; clear hL; intro _ hL) | (refine tB ?_; clear hL; intro _ _ hL _))
    refine (q_SubC _ _ (partR q) halfR _ _ hL.vw (HPART.out.le leX) (HH4.out.le leX) HSP.out HSH.out).mono ?_
    rintro e Ws2 ⟨vs2, ms2, rfl, hE, hMs2, hV, hs2⟩
    replace hL := hL.call hE (by assumption) hV; clear hE hV
    obtain ⟨gs2', As2', ns2', cs2', hs2', Bs2', ks2', ds2', rfl, hs2⟩ := hs2.lit
    go_wp2_with (first | go_skip | refine tP ?_ | (refine tS ?_; clear hL; intro _ hL) | (refine tB ?_; clear hL; intro _ _ hL _))
    refine (q_Abs _ (partR q - halfR) _ _ hL.vw (hs2.le leX) HPH.out.1 HPH.out.2).mono ?_
    rintro e Ws3 ⟨vs3, ms3, rfl, hE, hMs3, hV, hs3⟩
    replace hL := hL.call hE (by assumption) hV; clear hE hV
    obtain ⟨gs3', As3', ns3', cs3', hs3', Bs3', ks3', ds3', rfl, hs3⟩ := hs3.lit
    have HD3 : Hid (FracC ms3 (.agg #[.bool gs3', .slice As3' ns3' cs3', .bool hs3', .slice Bs3' ks3' ds3']) (distR q)) := hs3
    clear hs2 hs3 h0' h02
    cases ps with
    | false =>
     have HS := Lib.hid (pick_some HYK.out H0.out (.inl (by rw [HPK.out])))
     simp only at HS
     go_wp2_with (first | go_skip | refine tP ?_ | (refine tS ?_; clear hL; intro _ hL) | (refine tB ?_; clear hL; intro _ _ hL _))
     go_upto_region 13 with ((first | go_skip | refine tP ?_ | (refine tS ?_; clear hL; intro _ hL) | (refine tB ?_; clear hL; intro _ _ hL _)))
     refine wp_region_by2 8 [false, false, false, false, false, false, false, false] [false, false, false, false, false, false, false, false] [(fun v _ _ => v = ?c13_0a), (fun v _ _ => v = ?c13_1a), (fun v _ _ => v = ?c13_2a), (fun v _ _ => v = ?c13_3a), (fun v _ _ => v = ?c13_4a), (fun v _ _ => v = ?c13_5a), (fun v _ _ => v = ?c13_6a), (fun v _ _ => v = ?c13_7a)] hL.vw mixed [56, 57, 58, 59, 60, 4, 5, 6] _ (by kernel_rfl) (fun vs => by simp only [lay, Act.put, zq1, zq2, zq3]; rfl) (by kernel_rfl) (by decide) (by decide) ?s13a ?l13a ?r13a
     case s13a =>
      refine ⟨?_, ?_, ?_, ?_, ?_, ?_, ?_, ?_, trivial⟩
      ·intro vs W1 m1 hE hM hV hD; clear hD
       exact sFe
      ·intro vs W1 m1 hE hM hV hD; obtain ⟨⟨_, _, -, -, f56⟩, -⟩ := hD
       rw [(f56 : vs 56 = _)]; clear f56; exact sLe
      ·intro vs W1 m1 hE hM hV hD; clear hD
       exact sFe
      ·intro vs W1 m1 hE hM hV hD; obtain ⟨⟨_, _, -, -, f58⟩, -, -⟩ := hD
       rw [(f58 : vs 58 = _)]; clear f58; exact sLe
      ·intro vs W1 m1 hE hM hV hD; clear hD
       exact sLe
      ·intro vs W1 m1 hE hM hV hD; obtain ⟨⟨_, _, -, -, f57⟩, -, -, -, -, -, -⟩ := hD
       rw [(f57 : vs 57 = _)]
       clear f57
       replace hL := hL.call hE hM hV
       go_wp2_with (first | go_skip | refine tP ?_ | (refine tS ?_; clear hL; intro _ hL) | (refine tB ?_; clear hL; intro _ _ hL _))
       refine One2.still hV ?_; exact rfl
      ·intro vs W1 m1 hE hM hV hD; obtain ⟨⟨_, _, -, -, f59⟩, -, -, -, -, -, -, -, -⟩ := hD
       rw [(f59 : vs 59 = _)]
       clear f59
       replace hL := hL.call hE hM hV
       go_wp2_with (first | go_skip | refine tP ?_ | (refine tS ?_; clear hL; intro _ hL) | (refine tB ?_; clear hL; intro _ _ hL _))
       refine One2.still hV ?_; exact rfl
      ·intro vs W1 m1 hE hM hV hD; clear hD; replace hL := hL.call hE hM hV
       go_wp2_with (first | go_skip | refine tP ?_ | (refine tS ?_; clear hL; intro _ hL) | (refine tB ?_; clear hL; intro _ _ hL _))
       refine One2.still hV ?_; exact rfl
     case l13a =>
      refine ⟨nF, nF, nF, nF, nF, nF, nF, nF, trivial⟩
     intro vs W1 m1 hE hM hV hF hD
     clear hD
     obtain ⟨-, -, -, -, ⟨_, _, -, -, f60⟩, ⟨_, _, -, -, f4⟩, ⟨_, _, -, -, f5⟩, ⟨_, _, -, -, f6⟩, -⟩ := hF
     replace hL := hL.call hE hM hV
     have f60 : vs 60 = _ := f60
     generalize vs 60 = x60 at f60 ⊢
     subst x60
     have f4 : vs 4 = _ := f4
     generalize vs 4 = x4 at f4 ⊢
     subst x4
     have f5 : vs 5 = _ := f5
     generalize vs 5 = x5 at f5 ⊢
     subst x5
     have f6 : vs 6 = _ := f6
     generalize vs 6 = x6 at f6 ⊢
     subst x6
     clear hE hV
     simp only [List.drop_succ_cons, List.drop_zero]
     go_wp2_with (first | go_skip | refine tP ?_ | (refine tS ?_; clear hL; intro _ hL) | (refine tB ?_; clear hL; intro _ _ hL _))
     refine QN.mk ?_
     go_wp2_with (first | go_skip | refine tP ?_ | (refine tS ?_; clear hL; intro _ hL) | (refine tB ?_; clear hL; intro _ _ hL _))
     go_roundw
     case rel => exact ⟨k + 1, _, _, _, _, _, _, _, _, _, by omega, by go_num, by rw [HS.out], by rw [HS.out], by rw [HS.out], hL.tail.tail.tail, (fun _ => by rw [HS.out]; exact HD3.out.le leX), exX⟩
     case measure => simp [intOf] <;> omega
    | true =>
     have HBB : Hid (FracC mm (.agg #[.bool gb, .slice Ab nb cb', .bool fb, .slice Bb pb qb]) pb9) := HB.out rfl
     have HSB : Hid (Sm pb9.num pb9.den) := by
      have h := (HPT.out k (by rw [HPK.out])).sm (by decide)
      rw [HPK.out] at h
      exact h
     go_wp2_with (first | go_skip | refine tP ?_ | (refine tS ?_; clear hL; intro _ hL) | (refine tB ?_; clear hL; intro _ _ hL _))
     refine (q_CompareC _ _ (distR q) pb9 _ _ hL.vw (HD3.out.le leX) (HBB.out.le leX) HSD.out HSB.out).mono ?_
     rintro e Ws4 ⟨_, ms4, rfl, hE, hMs4, hV, rfl⟩
     replace hL := hL.call hE (by assumption) hV; clear hE hV
     by_cases h1 : rs (distR q - pb9) < 0
     ·have HS := Lib.hid (pick_some HYK.out H0.out (.inr (by rw [HPK.out]; exact h1)))
      simp only at HS
      generalize rs (distR q - pb9) = zc at *
      go_wp2_with (first | go_skip | refine tP ?_ | (refine tS ?_; clear hL; intro _ hL) | (refine tB ?_; clear hL; intro _ _ hL _))
      go_upto_region 13 with ((first | go_skip | refine tP ?_ | (refine tS ?_; clear hL; intro _ hL) | (refine tB ?_; clear hL; intro _ _ hL _)))
      refine wp_region_by2 8 [false, false, false, false, false, false, false, false] [false, false, false, false, false, false, false, false] [(fun v _ _ => v = ?c13_0b), (fun v _ _ => v = ?c13_1b), (fun v _ _ => v = ?c13_2b), (fun v _ _ => v = ?c13_3b), (fun v _ _ => v = ?c13_4b), (fun v _ _ => v = ?c13_5b), (fun v _ _ => v = ?c13_6b), (fun v _ _ => v = ?c13_7b)] hL.vw mixed [56, 57, 58, 59, 60, 4, 5, 6] _ (by kernel_rfl) (fun vs => by simp only [lay, Act.put, zq1, zq2, zq3]; rfl) (by kernel_rfl) (by decide) (by decide) ?s13b ?l13b ?r13b
      case s13b =>
       refine ⟨?_, ?_, ?_, ?_, ?_, ?_, ?_, ?_, trivial⟩
       ·intro vs W1 m1 hE hM hV hD; clear hD
        exact sFe
       ·intro vs W1 m1 hE hM hV hD; obtain ⟨⟨_, _, -, -, f56⟩, -⟩ := hD
        rw [(f56 : vs 56 = _)]; clear f56; exact sLe
       ·intro vs W1 m1 hE hM hV hD; clear hD
        exact sFe
       ·intro vs W1 m1 hE hM hV hD; obtain ⟨⟨_, _, -, -, f58⟩, -, -⟩ := hD
        rw [(f58 : vs 58 = _)]; clear f58; exact sLe
       ·intro vs W1 m1 hE hM hV hD; clear hD
        exact sLe
       ·intro vs W1 m1 hE hM hV hD; obtain ⟨⟨_, _, -, -, f57⟩, -, -, -, -, -, -⟩ := hD
        rw [(f57 : vs 57 = _)]
        clear f57
        replace hL := hL.call hE hM hV
        go_wp2_with (first | go_skip | refine tP ?_ | (refine tS ?_; clear hL; intro _ hL) | (refine tB ?_; clear hL; intro _ _ hL _))
        refine One2.still hV ?_; exact rfl
       ·intro vs W1 m1 hE hM hV hD; obtain ⟨⟨_, _, -, -, f59⟩, -, -, -, -, -, -, -, -⟩ := hD
        rw [(f59 : vs 59 = _)]
        clear f59
        replace hL := hL.call hE hM hV
        go_wp2_with (first | go_skip | refine tP ?_ | (refine tS ?_; clear hL; intro _ hL) | (refine tB ?_; clear hL; intro _ _ hL _))
        refine One2.still hV ?_; exact rfl
       ·intro vs W1 m1 hE hM hV hD; clear hD; replace hL := hL.call hE hM hV
        go_wp2_with (first | go_skip | refine tP ?_ | (refine tS ?_; clear hL; intro _ hL) | (refine tB ?_; clear hL; intro _ _ hL _))
        refine One2.still hV ?_; exact rfl
      case l13b =>
       refine ⟨nF, nF, nF, nF, nF, nF, nF, nF, trivial⟩
      intro vs W1 m1 hE hM hV hF hD
      clear hD
      obtain ⟨-, -, -, -, ⟨_, _, -, -, f60⟩, ⟨_, _, -, -, f4⟩, ⟨_, _, -, -, f5⟩, ⟨_, _, -, -, f6⟩, -⟩ := hF
      replace hL := hL.call hE hM hV
      have f60 : vs 60 = _ := f60
      generalize vs 60 = x60 at f60 ⊢
      subst x60
      have f4 : vs 4 = _ := f4
      generalize vs 4 = x4 at f4 ⊢
      subst x4
      have f5 : vs 5 = _ := f5
      generalize vs 5 = x5 at f5 ⊢
      subst x5
      have f6 : vs 6 = _ := f6
      generalize vs 6 = x6 at f6 ⊢
      subst x6
      clear hE hV
      simp only [List.drop_succ_cons, List.drop_zero]
      go_wp2_with (first | go_skip | refine tP ?_ | (refine tS ?_; clear hL; intro _ hL) | (refine tB ?_; clear hL; intro _ _ hL _))
      refine QN.mk ?_
      go_wp2_with (first | go_skip | refine tP ?_ | (refine tS ?_; clear hL; intro _ hL) | (refine tB ?_; clear hL; intro _ _ hL _))
      go_roundw
      case rel => exact ⟨k + 1, _, _, _, _, _, _, _, _, _, by omega, by go_num, by rw [HS.out], by rw [HS.out], by rw [HS.out], hL.tail.tail.tail, (fun _ => by rw [HS.out]; exact HD3.out.le leX), exX⟩
      case measure => simp [intOf] <;> omega
     ·have HS := Lib.hid (pick_same HYK.out (.inr ⟨by rw [HPK.out], by rw [HPK.out]; exact h1⟩))
      generalize rs (distR q - pb9) = zc at *
      have h1' : 0 ≤ zc := by omega
      go_wp2_with (first | go_skip | refine tP ?_ | (refine tS ?_; clear hL; intro _ hL) | (refine tB ?_; clear hL; intro _ _ hL _))
      go_roundw
      case rel => exact ⟨k + 1, _, gb, fb, Ab, Bb, nb, cb', pb, qb, by omega, by go_num, by rw [HS.out, HPK.out], by rw [HS.out, HPK.out], by rw [HS.out, HPK.out], hL.tail.tail.tail, (fun _ => by rw [HS.out, HPK.out]; exact HBB.out.le leX), exX⟩
      case measure => simp [intOf] <;> omega
  ·have HE : Hid (pickT ys k = pickF ys) := pickT_end (by rw [HN.out]; omega)
   go_wp2_with (first | go_skip | refine tP ?_ | (refine tS ?_; clear hL; intro _ hL) | (refine tB ?_; clear hL; intro _ _ hL _))
   (try simp only [Exit.inBlock, Exit.then])
   refine bodyPost_ret (results_tmp4 rfl _ _ _) rfl ?_
   exact RetV.mk hL ⟨ys, HF.out, by rw [HE.out]; rfl⟩
end Go.Proofs.YtniigfikpfinfaaGreat

/- Contract of pairinglaw30.known. -/
namespace Go.Proofs.YtniigfikpfinfaaGreat
open Go.RowKit

theorem t_ix1 {P : Program} {ops : Array Oper} {Q : Exit → Act → World → Prop} {rest : List Oper} {o : Oper} {a : Act} {W : World} {t : TypeId} {s i : Operand} (ho : o.op = .indexAddr t s i) {e : TypeId} {size bytes : Nat} [hap : ApC P t e size bytes] {b off n c : Nat} {kd : IntKind} (hs : a.eval s = .slice (some ⟨b, off, none⟩) n c) (hi : a.eval i = .int kd 1)
  (h : wpList P ops Q rest (a.put o.dst (.pointer (some ⟨b, off + 1 * size, none⟩))) W) (hk : 1 < n := by omega)
  (hw : Region.wanted o (yielded ops a.tmps) = true := by first | exact wanted_none rfl | exact wanted_some rfl rfl rfl rfl) : wpList P ops Q (o :: rest) a W :=
 wl_indexAddr (k := 1) hw ho hap.h hs hi hk h
theorem sI1 {G : Prop} (h : G := by refine t_ix1 rfl rfl rfl ?_; simp only [Act.put, zq1, zq2, zq3]; refine One2.still hV ?_; exact rfl) : G := h
theorem stB {P : Program} {ops : Array Oper} {Q : Exit → Act → World → Prop} {rest : List Oper} {a : Act} {W : World} {d : Option Tmp} {ty t : TypeId} {pos : String} {af : Array Edge} {gd : Option (Nat × Bool)} {p q : Nat × Operand}
  (h : Hid (wpList P ops Q (⟨d, .buildSlice t 2 #[p, q], ty, pos, af, gd⟩ :: rest) a W)) : wpList P ops Q (⟨d, .buildSlice t 2 #[p, q], ty, pos, af, gd⟩ :: rest) a W := h

def kCol (i : Int) : Col := (⟨#[]⟩, [[(0, false)], [(1, true), (i, false)]], 0)
def kCols : List Col := [kCol 1, kCol 2]
def kMs : Ms := ⟨3, [0, 1, 2], 10, kCols, []⟩
def kVs : List Rat := [halfR, halfR]
def kYs : List PQ := [((0, 1), halfR), ((0, 2), halfR)]
theorem kEnt : entS kMs.cols kVs kMs.cols.length = kYs := rfl
theorem kMsOk : MsOk kMs := by
 refine ⟨by decide, by decide, by decide, by decide, by decide, by decide, ?_, by decide, by decide, ?_, by decide, (fun _ h => by cases h)⟩
 ·exact ascP_of (by decide)
 ·intro c hc
  have : c = kCol 1 ∨ c = kCol 2 := by simpa [kMs, kCols] using hc
  rcases this with rfl | rfl <;> exact ⟨by decide, by decide, by decide, by decide, by decide, by decide, by decide⟩
theorem kVOk : VOk kMs kVs := ⟨kMsOk, rfl, fun v hv => by
 have : v = halfR := by simpa [kVs] using hv
 rw [this]; exact half_tw.mono (by decide), by decide⟩
theorem kSum1 : sumAt kYs (0, 1) = halfR := by kernel_rfl
theorem kSum2 : sumAt kYs (0, 2) = halfR := by kernel_rfl
theorem half_ne : halfR ≠ 0 := by decide
theorem kIs : IsFol kYs kYs := by
 refine ⟨?_, fun y => ⟨fun hy => ?_, fun ⟨h1, h2⟩ => ?_⟩⟩
 ·refine List.pairwise_cons.2 ⟨fun y hy => ?_, List.pairwise_singleton _ _⟩
  rcases List.mem_singleton.1 hy with rfl
  exact .inr ⟨rfl, by decide⟩
 ·have : y = ((0, 1), halfR) ∨ y = ((0, 2), halfR) := by simpa [kYs] using hy
  rcases this with rfl | rfl
  ·exact ⟨kSum1.symm, half_ne⟩
  ·exact ⟨kSum2.symm, half_ne⟩
 ·obtain ⟨p, q⟩ := y
  simp only at h1 h2
  by_cases e1 : p = (0, 1)
  ·subst e1; rw [kSum1] at h1; subst h1; simp [kYs]
  ·by_cases e2 : p = (0, 2)
   ·subst e2; rw [kSum2] at h1; subst h1; simp [kYs]
   ·refine absurd (h1.trans (sumAt_none fun e he => ?_)) h2
    have : e = ((0, 1), halfR) ∨ e = ((0, 2), halfR) := by simpa [kYs] using he
    rcases this with rfl | rfl
    ·exact fun h => e1 h.symm
    ·exact fun h => e2 h.symm
theorem kPick : (pickF kYs).f = 0 ∧ (pickF kYs).n = 1 ∧ (pickF kYs).s = true := ⟨by kernel_rfl, by kernel_rfl, by kernel_rfl⟩
theorem kb_Follows (xv vv : Value) (w m : World) (hV : Vw m w) (hx : MasterR m xv kMs) (hv : FracL m vv kVs) :
  Calls Tryz.prog 38 #[xv, vv] w (RetV w m fun m' r => ∃ v, r = .tuple #[v, .int .i64 0] ∧ FolL m' v kYs) := by
 refine (b_Follows xv vv kMs kVs w m hV hx hv kVOk).mono ?_
 rintro e W' ⟨r, m', rfl, hE, hM, hV', v, ys, rfl, h1, h2⟩
 rw [kEnt] at h1
 rw [h1.unique kIs] at h2
 exact ⟨_, m', rfl, hE, hM, hV', v, rfl, h2⟩
theorem kb_Choose (xv vv : Value) (w m : World) (hV : Vw m w) (hx : MasterR m xv kMs) (hv : FracL m vv kVs) :
  Calls Tryz.prog 40 #[xv, vv] w (RetV w m fun _ r => r = .tuple #[.int .i64 0, .int .i64 1, .bool true, .int .i64 0]) := by
 refine (b_Choose xv vv kMs kVs w m hV hx hv kVOk).mono ?_
 rintro e W' ⟨r, m', rfl, hE, hM, hV', ys, h1, rfl⟩
 rw [kEnt] at h1
 refine ⟨_, m', rfl, hE, hM, hV', ?_⟩
 rw [h1.unique kIs, kPick.1, kPick.2.1, kPick.2.2]

theorem kb_known (w m : World) (hV : Vw m w) : Calls Tryz.prog 43 #[] w (RetV w m fun _ r => r = .bool true) := by
 have hL := Loc.start hV
 clear hV
 go_enter Tryz.func43, Tryz.ntmps43
 go_wp2_with (first | go_skip | refine tP ?_ | (refine tS ?_; clear hL; intro _ hL) | (refine tB ?_; clear hL; intro _ _ hL _) | (refine tC ?_; clear hL; intro _ _ hL _ hBs))
 refine (r_Int 1 _ _ hL.vw (by decide) (by decide)).mono ?_
 rintro e Wc1 ⟨vc1, mc1, rfl, hE, hMc1, hV, hc1⟩
 replace hL := hL.call hE (by assumption) hV; clear hE hV
 obtain ⟨gc1', Ac1', nc1', cc1', hc1', Bc1', kc1', dc1', rfl, hc1⟩ := hc1.lit
 go_wp2_with (first | go_skip | refine tP ?_ | (refine tS ?_; clear hL; intro _ hL) | (refine tB ?_; clear hL; intro _ _ hL _) | (refine tC ?_; clear hL; intro _ _ hL _ hBs))
 refine (r_Int 2 _ _ hL.vw (by decide) (by decide)).mono ?_
 rintro e Wc2 ⟨vc2, mc2, rfl, hE, hMc2, hV, hc2⟩
 replace hL := hL.call hE (by assumption) hV; clear hE hV
 obtain ⟨gc2', Ac2', nc2', cc2', hc2', Bc2', kc2', dc2', rfl, hc2⟩ := hc2.lit
 go_wp2_with (first | go_skip | refine tP ?_ | (refine tS ?_; clear hL; intro _ hL) | (refine tB ?_; clear hL; intro _ _ hL _) | (refine tC ?_; clear hL; intro _ _ hL _ hBs))
 refine (r_DivC _ _ _ _ _ _ hL.vw (hc1.le leX) hc2 ((Tn.int (k := 1000) (by decide) (by decide)).fit (by decide)) ((Tn.int (k := 1000) (by decide) (by decide)).fit (by decide))).mono ?_
 rintro e Wc3 ⟨vc3, mc3, rfl, hE, hMc3, hV, hc3⟩
 replace hL := hL.call hE (by assumption) hV; clear hE hV
 obtain ⟨gc3', Ac3', nc3', cc3', hc3', Bc3', kc3', dc3', rfl, hc3⟩ := hc3.lit
 rw [div_mix] at hc3
 have HH : Hid (FracC mc3 (.agg #[.bool gc3', .slice Ac3' nc3' cc3', .bool hc3', .slice Bc3' kc3' dc3']) halfR) := hc3
 clear hc1 hc2 hc3
 go_upto_region 2 with ((first | go_skip | refine tP ?_ | (refine tS ?_; clear hL; intro _ hL) | (refine tB ?_; clear hL; intro _ _ hL _) | (refine tC ?_; clear hL; intro _ _ hL _ hBs)))
 obtain ⟨w2, rfl⟩ := hL.world
 go_upto_region 3 with ((first | (refine wl_bslice hL (wanted_none rfl) rfl (n := 3) (cs := #[.int .i64 0, .int .i64 1, .int .i64 2]) (e := 3) (fun w => by go_simp) ?_; clear hL; intro Wb mb hL eb hbb; simp only [Act.put, zq1, zq2, zq3]) | (first | go_skip | refine tP ?_ | (refine tS ?_; clear hL; intro _ hL) | (refine tB ?_; clear hL; intro _ _ hL _) | (refine tC ?_; clear hL; intro _ _ hL _ hBs))))
 have HR : Hid (IntL mb (.slice (some ⟨w2.heap.size, 0, none⟩) 3 3) [0, 1, 2]) := ListV.mk (vs := [.int .i64 0, .int .i64 1, .int .i64 2]) (by omega) rfl (fun u hu => by simp at hu; rcases hu with rfl | rfl | rfl <;> rfl) (Blk.sl hbb (n := 3) rfl) ⟨rfl, rfl, rfl, trivial⟩
 clear hbb
 go_wp2_with (first | go_skip | refine tP ?_ | (refine tS ?_; clear hL; intro _ hL) | (refine tB ?_; clear hL; intro _ _ hL _) | (refine tC ?_; clear hL; intro _ _ hL _ hBs))
 go_loopw [3] (fun i wr => ∃ (j : Nat) (mm : World) (A7 : Option Addr) (c7 : Nat) (Rr : List Lo), j ≤ 2 ∧ i = .int .i64 ((j : Int) + 1) ∧ Loc w m wr mm ((Wb.heap.size, 26, #[.int .i64 3, .slice (some ⟨w2.heap.size, 0, none⟩) 3 3, .int .i64 10, .slice A7 j c7, .slice none 0 0]) :: (Wc3.heap.size, 39, #[.bool gc3', .slice Ac3' nc3' cc3', .bool hc3', .slice Bc3' kc3' dc3']) :: Rr) ∧ Hid (RowA 101 3 ColR mm (.slice A7 j c7) j (kCols.take j) Rr) ∧ Hid (Ext mb mm)) (fun i _ => 3 - (intOf i).toNat)
 case atStart => exact ⟨0, _, none, 0, [], Nat.zero_le _, rfl, hL, RowA.nil, exX⟩
 case round =>
  have HMB := Lib.hid hL.mext
  clear hL
  obtain ⟨j, mm, A7, c7, Rr, hj, rfl, hL, ROW, HX⟩ := hrel
  have hX := HX.out
  by_cases hlt : j < 2
  ·have h3 : (j : Int) + 1 < 3 := by omega
   have HCJ : Hid (kCols.take j ++ [kCol ((j : Int) + 1)] = kCols.take (j + 1)) := by
    show _ = _
    match j, hlt with
    | 0, _ => rfl
    | 1, _ => rfl
   go_wp2_with (first | (with_reducible refine stB ?_) | (first | go_skip | refine tP ?_ | (refine tS ?_; clear hL; intro _ hL) | (refine tB ?_; clear hL; intro _ _ hL _) | (refine tC ?_; clear hL; intro _ _ hL _ hBs)))
   refine goA ?_
   have H22 := Lib.hid hBs
   clear hBs
   obtain ⟨wA, rfl⟩ := hL.world
   refine wl_bslice hL (wanted_none rfl) rfl (n := 2) (cs := #[.int .i64 1, .bool true, .int .i64 ((j : Int) + 1), .bool false]) (e := 140) (fun w => by go_simp) ?_
   clear hL
   intro W26 m26 hL e26 hb26
   have H26 := Lib.hid hb26
   clear hb26
   simp only [Act.put, zq1, zq2, zq3]
   go_wp2_with (first | (with_reducible refine stB ?_) | (first | go_skip | refine tP ?_ | (refine tS ?_; clear hL; intro _ hL) | (refine tB ?_; clear hL; intro _ _ hL _) | (refine tC ?_; clear hL; intro _ _ hL _ hBs)))
   refine goA ?_
   refine wl_bslice hL (wanted_none rfl) rfl (n := 2) (cs := #[.slice (some ⟨wr.heap.size, 0, none⟩) 1 1, .slice (some ⟨wA.heap.size, 0, none⟩) 2 2]) (e := 142) (fun w => by go_simp) ?_
   clear hL
   intro W27 m27 hL e27 hb27
   simp only [Act.put, zq1, zq2, zq3]
   have h22 := H22.out
   have h26 := H26.out
   have HDU : Hid (ColR m27 (.agg #[.string ⟨#[]⟩, .slice (some ⟨W26.heap.size, 0, none⟩) 2 2, .int .i64 0]) (kCol ((j : Int) + 1))) := by
    refine ⟨_, rfl, ListV.mk (vs := [.slice (some ⟨wr.heap.size, 0, none⟩) 1 1, .slice (some ⟨wA.heap.size, 0, none⟩) 2 2]) (by omega) rfl (fun u hu => by simp at hu; rcases hu with rfl | rfl <;> rfl) (Blk.sl hb27 (n := 2) rfl) ⟨?_, ?_, trivial⟩⟩
    ·exact DutL.le (ListV.mk (vs := [.agg #[.int .i64 0, .bool false]]) (by omega) rfl (fun u hu => by simp at hu; subst hu; rfl) (Blk.sl h22 (n := 2) rfl) ⟨rfl, trivial⟩) (Le.trans e26.le e27.le)
    ·exact DutL.le (ListV.mk (vs := [.agg #[.int .i64 1, .bool true], .agg #[.int .i64 ((j : Int) + 1), .bool false]]) (by omega) rfl (fun u hu => by simp at hu; rcases hu with rfl | rfl <;> rfl) (Blk.sl h26 (n := 4) rfl) ⟨rfl, rfl, trivial⟩) e27.le
   clear h22 h26 hb27 H22 H26
   go_wp2_with (first | go_skip | refine tP ?_ | (refine tS ?_; clear hL; intro _ hL) | (refine tB ?_; clear hL; intro _ _ hL _) | (refine tC ?_; clear hL; intro _ _ hL _ hBs))
   refine goA ?_
   obtain ⟨vs7, r7, z7, y7, l7⟩ := ROW.out
   refine wl_append (A := [_, _]) hL r7 (wanted_none rfl) rfl ap_Cols (by omega) rfl rfl (news := [.string ⟨#[]⟩, .slice (some ⟨W26.heap.size, 0, none⟩) 2 2, .int .i64 0]) rfl ((Blk.sl hBs (n := 3) rfl).le hL.vw.le) rfl (by omega) (by omega) ?_
   clear hL
   intro v1 W5 m5 R5 hL r8 e8
   obtain ⟨A9, c9, rfl, -⟩ := r8.lit
   simp only [List.cons_append, List.nil_append] at hL
   have rd := RowA.snoc (R := ColR) (m := m5) (x := kCol ((j : Int) + 1)) r8 z7 (y7.mono fun v x hv => ColR.mono _ _ _ _ hv leX) l7 rfl (ColR.mono _ _ _ _ HDU.out leX)
   rw [HCJ.out] at rd
   have RD := Lib.hid rd
   clear rd r8 r7 z7 y7 l7
   simp only [Act.put, zq1, zq2, zq3]
   go_wp2_with (first | go_skip | refine tP ?_ | (refine tS ?_; clear hL; intro _ hL) | (refine tB ?_; clear hL; intro _ _ hL _) | (refine tC ?_; clear hL; intro _ _ hL _ hBs))
   go_roundw
   case rel => exact ⟨j + 1, _, A9, c9, R5, by omega, by go_num, hL, RD.out, exX⟩
   case measure => simp [intOf] <;> omega
  ·obtain rfl : j = 2 := by omega
   have h3 : ¬ ((2 : Nat) : Int) + 1 < 3 := by decide
   obtain ⟨m9, hL9, hle9, hl9, -⟩ := RowA.show (A := [_, _]) ColR.mono hL ROW.out
   have HMS : Hid (MasterR m9 (.agg #[.int .i64 3, .slice (some ⟨w2.heap.size, 0, none⟩) 3 3, .int .i64 10, .slice A7 2 c7, .slice none 0 0]) kMs) := ⟨_, _, _, rfl, IntL.le HR.out (Le.trans leX hle9), hl9, ListV.nil⟩
   have HHF : Hid (FracC m9 (.agg #[.bool gc3', .slice Ac3' nc3' cc3', .bool hc3', .slice Bc3' kc3' dc3']) halfR) := HH.out.le (Le.trans leX hle9)
   clear hL ROW
   have hL := hL9
   clear hL9 hl9
   go_upto_region 7 with ((first | go_skip | refine tP ?_ | (refine tS ?_; clear hL; intro _ hL) | (refine tB ?_; clear hL; intro _ _ hL _) | (refine tC ?_; clear hL; intro _ _ hL _ hBs)))
   obtain ⟨w7, rfl⟩ := hL.world
   go_wp2_with (first | (with_reducible refine stB ?_) | (first | go_skip | refine tP ?_ | (refine tS ?_; clear hL; intro _ hL) | (refine tB ?_; clear hL; intro _ _ hL _) | (refine tC ?_; clear hL; intro _ _ hL _ hBs)))
   refine goA ?_
   refine wl_bslice hL (wanted_none rfl) rfl (n := 2) (cs := #[.bool gc3', .slice Ac3' nc3' cc3', .bool hc3', .slice Bc3' kc3' dc3', .bool gc3', .slice Ac3' nc3' cc3', .bool hc3', .slice Bc3' kc3' dc3']) (e := 39) (fun w => by go_simp) ?_
   clear hL
   intro W37 m37 hL e37 hb37
   simp only [Act.put, zq1, zq2, zq3]
   have hfl : FracL m37 (.slice (some ⟨w7.heap.size, 0, none⟩) 2 2) kVs := ListV.mk (vs := [.agg #[.bool gc3', .slice Ac3' nc3' cc3', .bool hc3', .slice Bc3' kc3' dc3'], .agg #[.bool gc3', .slice Ac3' nc3' cc3', .bool hc3', .slice Bc3' kc3' dc3']]) (by omega) rfl (fun u hu => by simp at hu; subst hu; rfl) (Blk.sl hb37 (n := 8) rfl) ⟨HHF.out.le leX, HHF.out.le leX, trivial⟩
   have HFL := Lib.hid hfl
   clear hfl hb37
   go_wp2_with (first | go_skip | refine tP ?_ | (refine tS ?_; clear hL; intro _ hL) | (refine tB ?_; clear hL; intro _ _ hL _) | (refine tC ?_; clear hL; intro _ _ hL _ hBs))
   refine (kb_Follows _ _ _ _ hL.vw (HMS.out.le leX) (FracL.le HFL.out leX)).mono ?_
   rintro e Wc7 ⟨_, mc7, rfl, hE, hMc7, hV, v7, rfl, hv7⟩
   replace hL := hL.call hE (by assumption) hV; clear hE hV
   obtain ⟨Y7, cy7, rfl, hcy7, hv7⟩ := hv7.lit
   obtain ⟨b0, o0, g0, A0, n0, c0, f0, B0, p0, q0, rfl, hq0, hr0⟩ := FolL.at_ hv7 (show kYs[0]? = some ((0, 1), halfR) from rfl)
   obtain ⟨b1, o1, g1, A1, n1, c1, f1, B1, p1, q1, e1, -, hr1⟩ := FolL.at_ hv7 (show kYs[1]? = some ((0, 2), halfR) from rfl)
   obtain ⟨rfl, rfl⟩ : b0 = b1 ∧ o0 = o1 := by simpa using e1
   simp only at hq0 hr0 hr1
   have h10 : mc7.cell? ⟨b0, o0 + 1 * 6, none⟩ = some (.int .i64 0) := hr1 0 _ rfl
   have h11 : mc7.cell? ⟨b0, o0 + 1 * 6 + 1, none⟩ = some (.int .i64 2) := hr1 1 _ rfl
   have h02 : mc7.rangeAt b0 (o0 + 2) [.bool g0, .slice A0 n0 c0, .bool f0, .slice B0 p0 q0] := fun j v hv => by
    have h := hr0 (j + 2) v (by simpa using hv)
    rw [Nat.zero_mul, Nat.add_zero, Nat.add_comm j 2, ← Nat.add_assoc] at h
    exact h
   have HQ0 := Lib.hid hq0
   have HMS7 : Hid (MasterR mc7 (.agg #[.int .i64 3, .slice (some ⟨w2.heap.size, 0, none⟩) 3 3, .int .i64 10, .slice A7 2 c7, .slice none 0 0]) kMs) := HMS.out.le leX
   have HFT : Hid (Fit 1000 halfR) := (half_tw.fit (by decide)).mono (by decide)
   clear hv7 hr0 hr1 e1 hq0 HMS
   have hyl : kYs.length = 2 := rfl
   rw [hyl]
   clear hyl hcy7
   go_upto_region 8 with ((first | go_skip | refine tP ?_ | (refine tS ?_; clear hL; intro _ hL) | (refine tB ?_; clear hL; intro _ _ hL _) | (refine tC ?_; clear hL; intro _ _ hL _ hBs)))
   obtain ⟨w8, rfl⟩ := hL.world
   go_wp2_with (first | (with_reducible refine stB ?_) | (first | go_skip | refine tP ?_ | (refine tS ?_; clear hL; intro _ hL) | (refine tB ?_; clear hL; intro _ _ hL _) | (refine tC ?_; clear hL; intro _ _ hL _ hBs)))
   refine goA ?_
   refine wl_bslice hL (wanted_none rfl) rfl (n := 2) (cs := #[.bool gc3', .slice Ac3' nc3' cc3', .bool hc3', .slice Bc3' kc3' dc3', .bool gc3', .slice Ac3' nc3' cc3', .bool hc3', .slice Bc3' kc3' dc3']) (e := 39) (fun w => by go_simp) ?_
   clear hL
   intro W38 m38 hL e38 hb38
   simp only [Act.put, zq1, zq2, zq3]
   have hfl : FracL m38 (.slice (some ⟨w8.heap.size, 0, none⟩) 2 2) kVs := ListV.mk (vs := [.agg #[.bool gc3', .slice Ac3' nc3' cc3', .bool hc3', .slice Bc3' kc3' dc3'], .agg #[.bool gc3', .slice Ac3' nc3' cc3', .bool hc3', .slice Bc3' kc3' dc3']]) (by omega) rfl (fun u hu => by simp at hu; subst hu; rfl) (Blk.sl hb38 (n := 8) rfl) ⟨HHF.out.le leX, HHF.out.le leX, trivial⟩
   have HFL8 := Lib.hid hfl
   clear hfl hb38
   go_wp2_with (first | go_skip | refine tP ?_ | (refine tS ?_; clear hL; intro _ hL) | (refine tB ?_; clear hL; intro _ _ hL _) | (refine tC ?_; clear hL; intro _ _ hL _ hBs))
   refine (kb_Choose _ _ _ _ hL.vw (HMS7.out.le leX) (FracL.le HFL8.out leX)).mono ?_
   rintro e Wc8 ⟨_, mc8, rfl, hE, hMc8, hV, rfl⟩
   replace hL := hL.call hE (by assumption) hV; clear hE hV
   go_upto_region 9 with ((first | go_skip | refine tP ?_ | (refine tS ?_; clear hL; intro _ hL) | (refine tB ?_; clear hL; intro _ _ hL _) | (refine tC ?_; clear hL; intro _ _ hL _ hBs)))
   refine wp_region_by2 44 [false, false, false, false, false, false, false, false, false, false, false, false, false, false, false, false, false, false, false, false, false, false, false, false, false, false, false, false, false, false, false, false, false, false, false, false, false, false, false, false, false, false, false, false] [false, false, false, false, false, false, false, false, false, false, false, false, false, false, false, false, false, false, false, false, false, false, false, false, false, false, false, false, false, false, false, false, false, false, false, false, false, false, false, false, false, false, false, false] [(fun v _ _ => v = ?c9_0), (fun v _ _ => v = ?c9_1), (fun v _ _ => v = ?c9_2), (fun v _ _ => v = ?c9_3), (fun v _ _ => v = ?c9_4), (fun v _ _ => v = ?c9_5), (fun v _ _ => v = ?c9_6), (fun v _ _ => v = ?c9_7), (fun v _ _ => v = ?c9_8), (fun v _ _ => v = ?c9_9), (fun v _ _ => v = ?c9_10), (fun v _ _ => v = ?c9_11), (fun v _ _ => v = ?c9_12), (fun v _ _ => v = ?c9_13), (fun v _ _ => v = ?c9_14), (fun v _ _ => v = ?c9_15), (fun v _ _ => v = ?c9_16), (fun v _ _ => v = ?c9_17), (fun v _ _ => v = ?c9_18), (fun v _ _ => v = ?c9_19), (fun v _ _ => v = ?c9_20), (fun v _ _ => v = ?c9_21), (fun v _ _ => v = ?c9_22), (fun v _ _ => v = ?c9_23), (fun v _ _ => v = ?c9_24), (fun v _ _ => v = ?c9_25), (fun v _ _ => v = ?c9_26), (fun v _ _ => v = ?c9_27), (fun v _ _ => v = ?c9_28), (fun v _ _ => v = ?c9_29), (fun v _ _ => v = ?c9_30), (fun v _ _ => v = ?c9_31), (fun v _ _ => v = ?c9_32), (fun v _ _ => v = ?c9_33), (fun v _ _ => v = ?c9_34), (fun v _ _ => v = ?c9_35), (fun v _ _ => v = ?c9_36), (fun v _ _ => v = ?c9_37), (fun v _ _ => v = ?c9_38), (fun v _ _ => v = ?c9_39), (fun v _ _ => v = ?c9_40), (fun v _ _ => v = ?c9_41), Is (.bool true), (fun v _ _ => v = ?c9_43)] hL.vw mixed [51, 52, 53, 54, 55, 56, 57, 58, 59, 60, 61, 62, 63, 64, 65, 66, 67, 68, 69, 70, 71, 72, 73, 74, 75, 76, 77, 78, 79, 80, 81, 82, 83, 84, 85, 86, 87, 88, 89, 90, 91, 92, 93, 94] _ (by kernel_rfl) (fun vs => by simp only [lay, Act.put, zq1, zq2, zq3]; rfl) (by kernel_rfl) (by decide) (by decide) ?s9 ?l9 ?r9
   case s9 =>
    refine ⟨?_, ?_, ?_, ?_, ?_, ?_, ?_, ?_, ?_, ?_, ?_, ?_, ?_, ?_, ?_, ?_, ?_, ?_, ?_, ?_, ?_, ?_, ?_, ?_, ?_, ?_, ?_, ?_, ?_, ?_, ?_, ?_, ?_, ?_, ?_, ?_, ?_, ?_, ?_, ?_, ?_, ?_, ?_, ?_, trivial⟩
    ·intro vs W1 m1 hE hM hV hD; clear hD
     exact sPw
    ·intro vs W1 m1 hE hM hV hD; obtain ⟨⟨_, _, -, -, f51⟩, -⟩ := hD
     rw [(f51 : vs 51 = _)]; clear f51; exact sPw
    ·intro vs W1 m1 hE hM hV hD; obtain ⟨⟨_, _, -, -, f52⟩, -⟩ := hD
     rw [(f52 : vs 52 = _)]; clear f52; exact sPw
    ·intro vs W1 m1 hE hM hV hD; obtain ⟨⟨_, _, -, -, f53⟩, -⟩ := hD
     rw [(f53 : vs 53 = _)]; clear f53; exact sPw
    ·intro vs W1 m1 hE hM hV hD; obtain ⟨⟨_, _, -, -, f54⟩, ⟨_, _, -, -, f53⟩, -⟩ := hD
     rw [(f54 : vs 54 = _), (f53 : vs 53 = _)]; clear f54 f53; exact sPw
    ·intro vs W1 m1 hE hM hV hD; obtain ⟨⟨_, _, -, -, f53⟩, ⟨_, _, -, -, f55⟩, -⟩ := hD
     rw [(f53 : vs 53 = _), (f55 : vs 55 = _)]; clear f53 f55; exact sPw
    ·intro vs W1 m1 hE hM hV hD; obtain ⟨⟨_, _, -, -, f56⟩, -, -⟩ := hD
     rw [(f56 : vs 56 = _)]; clear f56; exact sPw
    ·intro vs W1 m1 hE hM hV hD; obtain ⟨⟨_, _, -, -, f57⟩, -⟩ := hD
     rw [(f57 : vs 57 = _)]; clear f57; exact sPw
    ·intro vs W1 m1 hE hM hV hD; obtain ⟨⟨_, _, -, -, f57⟩, ⟨_, _, -, -, f58⟩, -⟩ := hD
     rw [(f57 : vs 57 = _), (f58 : vs 58 = _)]; clear f57 f58; exact sPw
    ·intro vs W1 m1 hE hM hV hD; obtain ⟨⟨_, _, -, -, f59⟩, -, -⟩ := hD
     rw [(f59 : vs 59 = _)]; clear f59; exact sPw
    ·intro vs W1 m1 hE hM hV hD; obtain ⟨⟨_, _, -, -, f60⟩, -⟩ := hD
     rw [(f60 : vs 60 = _)]; clear f60; exact sPw
    ·intro vs W1 m1 hE hM hV hD; obtain ⟨⟨_, _, -, -, f61⟩, ⟨_, _, -, -, f60⟩, -⟩ := hD
     rw [(f61 : vs 61 = _), (f60 : vs 60 = _)]; clear f61 f60; exact sPw
    ·intro vs W1 m1 hE hM hV hD; obtain ⟨⟨_, _, -, -, f60⟩, ⟨_, _, -, -, f62⟩, -⟩ := hD
     rw [(f60 : vs 60 = _), (f62 : vs 62 = _)]; clear f60 f62; exact sPw
    ·intro vs W1 m1 hE hM hV hD; obtain ⟨⟨_, _, -, -, f63⟩, -, -⟩ := hD
     rw [(f63 : vs 63 = _)]; clear f63; exact sPw
    ·intro vs W1 m1 hE hM hV hD; obtain ⟨⟨_, _, -, -, f64⟩, -⟩ := hD
     rw [(f64 : vs 64 = _)]; clear f64; exact sPw
    ·intro vs W1 m1 hE hM hV hD; obtain ⟨⟨_, _, -, -, f65⟩, ⟨_, _, -, -, f64⟩, -⟩ := hD
     rw [(f65 : vs 65 = _), (f64 : vs 64 = _)]; clear f65 f64; exact sPw
    ·intro vs W1 m1 hE hM hV hD; obtain ⟨⟨_, _, -, -, f64⟩, ⟨_, _, -, -, f66⟩, -⟩ := hD
     rw [(f64 : vs 64 = _), (f66 : vs 66 = _)]; clear f64 f66; exact sPw
    ·intro vs W1 m1 hE hM hV hD; obtain ⟨⟨_, _, -, -, f67⟩, -, -⟩ := hD
     rw [(f67 : vs 67 = _)]; clear f67; exact sPw
    ·intro vs W1 m1 hE hM hV hD; obtain ⟨⟨_, _, -, -, f68⟩, -⟩ := hD
     rw [(f68 : vs 68 = _)]; clear f68; exact sPw
    ·intro vs W1 m1 hE hM hV hD; obtain ⟨⟨_, _, -, -, f69⟩, ⟨_, _, -, -, f68⟩, -⟩ := hD
     rw [(f69 : vs 69 = _), (f68 : vs 68 = _)]
     clear f69 f68
     replace hL := hL.call hE hM hV
     go_wp2_with (first | go_skip | refine tP ?_ | (refine tS ?_; clear hL; intro _ hL) | (refine tB ?_; clear hL; intro _ _ hL _) | (refine tC ?_; clear hL; intro _ _ hL _ hBs))
     refine One2.still hV ?_; exact rfl
    ·intro vs W1 m1 hE hM hV hD; obtain ⟨⟨_, _, -, -, f70⟩, ⟨_, _, -, -, f68⟩, -⟩ := hD
     rw [(f70 : vs 70 = _), (f68 : vs 68 = _)]; clear f70 f68; exact sPw
    ·intro vs W1 m1 hE hM hV hD; obtain ⟨⟨_, _, -, -, f68⟩, ⟨_, _, -, -, f71⟩, -⟩ := hD
     rw [(f68 : vs 68 = _), (f71 : vs 71 = _)]; clear f68 f71; exact sPw
    ·intro vs W1 m1 hE hM hV hD; obtain ⟨⟨_, _, -, -, f72⟩, -, -⟩ := hD
     rw [(f72 : vs 72 = _)]; clear f72; exact sPw
    ·intro vs W1 m1 hE hM hV hD; obtain ⟨⟨_, _, -, -, f73⟩, -⟩ := hD
     rw [(f73 : vs 73 = _)]; clear f73; exact sPw
    ·intro vs W1 m1 hE hM hV hD; obtain ⟨⟨_, _, -, -, f74⟩, ⟨_, _, -, -, f73⟩, -⟩ := hD
     rw [(f74 : vs 74 = _), (f73 : vs 73 = _)]
     clear f74 f73
     replace hL := hL.call hE hM hV
     exact sI1
    ·intro vs W1 m1 hE hM hV hD; obtain ⟨⟨_, _, -, -, f75⟩, ⟨_, _, -, -, f73⟩, -⟩ := hD
     rw [(f75 : vs 75 = _), (f73 : vs 73 = _)]; clear f75 f73; exact sFe
    ·intro vs W1 m1 hE hM hV hD; obtain ⟨⟨_, _, -, -, f76⟩, ⟨_, _, -, -, f73⟩, -⟩ := hD
     rw [(f76 : vs 76 = _), (f73 : vs 73 = _)]; clear f76 f73; exact sLe
    ·intro vs W1 m1 hE hM hV hD; obtain ⟨⟨_, _, -, -, f77⟩, ⟨_, _, -, -, f73⟩, -⟩ := hD
     rw [(f77 : vs 77 = _), (f73 : vs 73 = _)]; clear f77 f73; exact sPw
    ·intro vs W1 m1 hE hM hV hD; obtain ⟨⟨_, _, -, -, f73⟩, ⟨_, _, -, -, f78⟩, -⟩ := hD
     rw [(f73 : vs 73 = _), (f78 : vs 78 = _)]; clear f73 f78; exact sPw
    ·intro vs W1 m1 hE hM hV hD; obtain ⟨⟨_, _, -, -, f79⟩, -, -⟩ := hD
     rw [(f79 : vs 79 = _)]; clear f79; exact sPw
    ·intro vs W1 m1 hE hM hV hD; obtain ⟨⟨_, _, -, -, f80⟩, -⟩ := hD
     rw [(f80 : vs 80 = _)]; clear f80; exact sPw
    ·intro vs W1 m1 hE hM hV hD; obtain ⟨⟨_, _, -, -, f81⟩, ⟨_, _, -, -, f80⟩, -⟩ := hD
     rw [(f81 : vs 81 = _), (f80 : vs 80 = _)]
     clear f81 f80
     replace hL := hL.call hE hM hV
     exact sI1
    ·intro vs W1 m1 hE hM hV hD; obtain ⟨⟨_, _, -, -, f82⟩, ⟨_, _, -, -, f80⟩, -⟩ := hD
     rw [(f82 : vs 82 = _), (f80 : vs 80 = _)]; clear f82 f80; exact sFe
    ·intro vs W1 m1 hE hM hV hD; obtain ⟨⟨_, _, -, -, f83⟩, ⟨_, _, -, -, f80⟩, -⟩ := hD
     rw [(f83 : vs 83 = _), (f80 : vs 80 = _)]; clear f83 f80; exact sLe
    ·intro vs W1 m1 hE hM hV hD; obtain ⟨⟨_, _, -, -, f84⟩, ⟨_, _, -, -, f80⟩, -⟩ := hD
     rw [(f84 : vs 84 = _), (f80 : vs 80 = _)]; clear f84 f80; exact sPw
    ·intro vs W1 m1 hE hM hV hD; obtain ⟨⟨_, _, -, -, f80⟩, ⟨_, _, -, -, f85⟩, -⟩ := hD
     rw [(f80 : vs 80 = _), (f85 : vs 85 = _)]; clear f80 f85; exact sPw
    ·intro vs W1 m1 hE hM hV hD; obtain ⟨⟨_, _, -, -, f86⟩, -, -⟩ := hD
     rw [(f86 : vs 86 = _)]; clear f86; exact sPw
    ·intro vs W1 m1 hE hM hV hD; obtain ⟨⟨_, _, -, -, f87⟩, -⟩ := hD
     rw [(f87 : vs 87 = _)]; clear f87; exact sPw
    ·intro vs W1 m1 hE hM hV hD; obtain ⟨⟨_, _, -, -, f88⟩, ⟨_, _, -, -, f87⟩, -⟩ := hD
     rw [(f88 : vs 88 = _), (f87 : vs 87 = _)]
     clear f88 f87
     replace hL := hL.call hE hM hV
     exact sIz
    ·intro vs W1 m1 hE hM hV hD; obtain ⟨⟨_, _, -, -, f89⟩, ⟨_, _, -, -, f87⟩, -⟩ := hD
     rw [(f89 : vs 89 = _), (f87 : vs 87 = _)]; clear f89 f87; exact sFe
    ·intro vs W1 m1 hE hM hV hD; obtain ⟨⟨_, _, -, -, f90⟩, ⟨_, _, -, -, f87⟩, -⟩ := hD
     rw [(f90 : vs 90 = _), (f87 : vs 87 = _)]; clear f90 f87; exact sLe
    ·intro vs W1 m1 hE hM hV hD; obtain ⟨⟨_, _, -, -, f87⟩, -⟩ := hD
     rw [(f87 : vs 87 = _)]; clear f87; exact sLe
    ·intro vs W1 m1 hE hM hV hD; obtain ⟨⟨_, _, -, -, f91⟩, ⟨_, _, -, -, f92⟩, ⟨_, _, -, -, f87⟩, -, -⟩ := hD
     rw [(f91 : vs 91 = _), (f92 : vs 92 = _), (f87 : vs 87 = _)]
     clear f91 f92 f87
     go_wp2_with fail
     refine (r_Same _ _ halfR _ _ hV (HQ0.out.le leX) (HHF.out.le leX) HFT.out).mono ?_
     rintro e W2 ⟨v, m2, rfl, hE2, hM2, hV2, h⟩
     go_wp2_with fail
     refine One2.call hE2 hM2 hV2 ?_; first | exact h | exact rfl
    ·intro vs W1 m1 hE hM hV hD; obtain ⟨⟨_, _, -, -, f87⟩, ⟨_, _, -, -, f93⟩, -⟩ := hD
     rw [(f87 : vs 87 = _), (f93 : vs 93 = _)]; clear f87 f93; exact sPw
   case l9 =>
    refine ⟨nF, nF, nF, nF, nF, nF, nF, nF, nF, nF, nF, nF, nF, nF, nF, nF, nF, nF, nF, nF, nF, nF, nF, nF, nF, nF, nF, nF, nF, nF, nF, nF, nF, nF, nF, nF, nF, nF, nF, nF, nF, nF, nF, nF, trivial⟩
   intro vs W1 m1 hE hM hV hF hD
   clear hD
   obtain ⟨-, -, -, -, -, -, -, -, -, -, -, -, -, -, -, -, -, -, -, -, -, -, -, -, -, -, -, -, -, -, -, -, -, -, -, -, -, -, -, -, -, -, -, ⟨_, _, -, -, f94⟩, -⟩ := hF
   replace hL := hL.call hE hM hV
   have f94 : vs 94 = _ := f94
   generalize vs 94 = x94 at f94 ⊢
   subst x94
   clear hE hV
   simp only [List.drop_succ_cons, List.drop_zero]
   go_wp2_with (first | go_skip | refine tP ?_ | (refine tS ?_; clear hL; intro _ hL) | (refine tB ?_; clear hL; intro _ _ hL _) | (refine tC ?_; clear hL; intro _ _ hL _ hBs))
   refine QN.mk ?_
   go_wp2_with (first | go_skip | refine tP ?_ | (refine tS ?_; clear hL; intro _ hL) | (refine tB ?_; clear hL; intro _ _ hL _) | (refine tC ?_; clear hL; intro _ _ hL _ hBs))
   go_ret
   exact RetV.mk hL rfl
end Go.Proofs.YtniigfikpfinfaaGreat

/- Contract of branch.Fits, and what the law BranchFits compares. -/
namespace Go.Proofs.YtniigfikpfinfaaGreat
open Go.RowKit

theorem ap_Pairs : apS Tryz.prog 96 = some (99, 2, 40, 2) := by kernel_rfl
instance iAC17_1 : ApC Tryz.prog 96 99 2 40 := ⟨ap_Pairs⟩
theorem zc_Pairing : zc Tryz.prog 99 = some #[.string ⟨#[]⟩, .slice none 0 0] := by kernel_rfl
instance iAC17_2 : ZcC Tryz.prog 99 #[.string ⟨#[]⟩, .slice none 0 0] := ⟨zc_Pairing⟩
abbrev Pg := ByteArray × List (List Task)
def PairR (m : World) (v : Value) (x : Pg) : Prop := ∃ s, v = .agg #[.string x.1, s] ∧ DutsL m s x.2
theorem PairR.mono (m m' : World) (v : Value) (x : Pg) (h : PairR m v x) (hb : Le m m') : PairR m' v x := by
 obtain ⟨s, e, h⟩ := h
 exact ⟨s, e, DutsL.le h hb⟩
abbrev PairL := ListV (α := Pg) 2 PairR
theorem PairL.le {m m' : World} {v : Value} {xs : List Pg} (h : PairL m v xs) (hb : Le m m') : PairL m' v xs := ListV.le PairR.mono h hb
theorem PairL.at_ {m : World} {A : Option Addr} {n c : Nat} {xs : List Pg} (h : PairL m (.slice A n c) xs) {k : Nat} {x : Pg} (hk : xs[k]? = some x) :
  ∃ b off D cd, A = some ⟨b, off, none⟩ ∧ DutsL m (.slice D x.2.length cd) x.2 ∧ m.rangeAt b (off + k * 2) [.string x.1, .slice D x.2.length cd] := by
 obtain ⟨b, off, v, e, ⟨s, rfl, hs⟩, _, hr⟩ := ListV.at_ h (by omega) hk
 obtain ⟨D, cd, rfl, _, hs⟩ := hs.lit
 exact ⟨b, off, D, cd, e, hs, hr⟩
theorem range_two {m : World} {b off : Nat} {x y : Value} {r : List Value} (h : m.rangeAt b off (x :: y :: r)) : m.rangeAt b off [x, y] := fun j v hv => h j v (by
 match j, hv with
 | 0, hv => exact hv
 | 1, hv => exact hv)
end Go.Proofs.YtniigfikpfinfaaGreat

/- The list of follow-ons in the reference's order: its form, and that it is the ascending list of the sums that are not 0. -/
namespace Go.Proofs.YtniigfikpfinfaaGreat
open Go.RowKit

theorem pairs_nodup {l : List Int} (h : l.Nodup) : (pairsOf l).Nodup := by
 unfold pairsOf
 refine List.Pairwise.of_map (S := fun a b => a ≠ b) Prod.snd (fun a b h e => h (by rw [e])) ?_
 rw [List.map_snd_zip (by simp)]
 exact h.sublist (List.tail_sublist l)
theorem filt_one (x : Rat) (p : Int × Int) : ∀ {L : List (Int × Int)} (s : Rat), L.Nodup → ((L.map fun q => ((q, x) : PQ)).filter fun e => decide (e.1 = p)).foldl (fun s e => s + e.2) s = if p ∈ L then s + x else s
 | [], s, _ => by simp
 | q :: L, s, h => by
  obtain ⟨h1, h2⟩ := List.nodup_cons.1 h
  simp only [List.map_cons]
  by_cases e : q = p
  ·subst e
   rw [List.filter_cons_of_pos (by simp), List.foldl_cons, filt_one x q _ h2, if_neg h1, if_pos List.mem_cons_self]
  ·rw [List.filter_cons_of_neg (by simpa using e), filt_one x p _ h2]
   have hm : p ∈ q :: L ↔ p ∈ L := by rw [List.mem_cons]; exact ⟨fun h => h.resolve_left fun h => e h.symm, .inr⟩
   simp only [hm]
theorem sumAt_app (S : List PQ) (l : List Int) (x : Rat) (p : Int × Int) (h : l.Nodup) : sumAt (S ++ entE l x) p = if p ∈ pairsOf l then sumAt S p + x else sumAt S p := by
 unfold sumAt entE
 rw [List.filter_append, List.foldl_append]
 exact filt_one x p _ (pairs_nodup h)
theorem sum_step {cols : List Col} {vs : List Rat} {k : Nat} {c : Col} {x : Rat} (hc : cols[k]? = some c) (hx : vs[k]? = some x) (h : (opF c.2.1).Nodup) (p : Int × Int) :
  sumAt (entS cols vs (k + 1)) p = if p ∈ pairsOf (opF c.2.1) then sumAt (entS cols vs k) p + x else sumAt (entS cols vs k) p := by
 rw [← entS_step hc hx]; exact sumAt_app _ _ _ _ h
theorem sum_zero (cols : List Col) (vs : List Rat) (p : Int × Int) : sumAt (entS cols vs 0) p = ((0 : Int) : Rat) := by
 unfold entS; exact sumAt_none fun e he => by simp at he

def rowY (S : List PQ) (a : Int) (cs : List Int) : List PQ := cs.flatMap fun c => if sumAt S (a, c) = 0 then [] else [((a, c), sumAt S (a, c))]
def flY (S : List PQ) (bs cs : List Int) : List PQ := bs.flatMap fun a => rowY S a cs
theorem mem_rowY {S : List PQ} {a : Int} {cs : List Int} {y : PQ} : y ∈ rowY S a cs ↔ ∃ c ∈ cs, y = ((a, c), sumAt S (a, c)) ∧ sumAt S (a, c) ≠ 0 := by
 unfold rowY
 rw [List.mem_flatMap]
 constructor
 ·rintro ⟨c, hc, hy⟩
  by_cases h : sumAt S (a, c) = 0
  ·rw [if_pos h] at hy; cases hy
  ·rw [if_neg h] at hy; exact ⟨c, hc, List.mem_singleton.1 hy, h⟩
 ·rintro ⟨c, hc, rfl, h⟩
  exact ⟨c, hc, by rw [if_neg h]; exact List.mem_singleton_self _⟩
theorem rowY_pw {S : List PQ} {a : Int} : ∀ {cs : List Int}, cs.Pairwise (· < ·) → (rowY S a cs).Pairwise ltP
 | [], _ => List.Pairwise.nil
 | c :: cs, h => by
  obtain ⟨h1, h2⟩ := List.pairwise_cons.1 h
  have e : rowY S a (c :: cs) = (if sumAt S (a, c) = 0 then [] else [((a, c), sumAt S (a, c))]) ++ rowY S a cs := by unfold rowY; rw [List.flatMap_cons]
  rw [e, List.pairwise_append]
  refine ⟨?_, rowY_pw h2, ?_⟩
  ·split
   ·exact List.Pairwise.nil
   ·exact List.pairwise_singleton _ _
  ·intro x hx y hy
   split at hx
   ·cases hx
   ·rcases List.mem_singleton.1 hx with rfl
    obtain ⟨c', hc', rfl, -⟩ := mem_rowY.1 hy
    exact .inr ⟨rfl, h1 c' hc'⟩
theorem flY_pw {S : List PQ} {cs : List Int} (h' : cs.Pairwise (· < ·)) : ∀ {bs : List Int}, bs.Pairwise (· < ·) → (flY S bs cs).Pairwise ltP
 | [], _ => List.Pairwise.nil
 | a :: bs, h => by
  obtain ⟨h1, h2⟩ := List.pairwise_cons.1 h
  have e : flY S (a :: bs) cs = rowY S a cs ++ flY S bs cs := by unfold flY; rw [List.flatMap_cons]
  rw [e, List.pairwise_append]
  refine ⟨rowY_pw h', flY_pw h' h2, ?_⟩
  intro x hx y hy
  obtain ⟨c, hc, rfl, -⟩ := mem_rowY.1 hx
  obtain ⟨a', ha', hy⟩ := List.mem_flatMap.1 hy
  obtain ⟨c', hc', rfl, -⟩ := mem_rowY.1 hy
  exact .inl (h1 a' ha')
theorem asc_pw : ∀ {xs : List Int}, AscP xs → xs.Pairwise (· < ·)
 | [], _ => List.Pairwise.nil
 | [x], _ => List.pairwise_singleton _ _
 | x :: y :: xs, h => by
  have ih := asc_pw (xs := y :: xs) fun j a b ha hb => h (j + 1) a b (by simpa using ha) (by simpa using hb)
  have hxy := h 0 x y rfl rfl
  refine List.pairwise_cons.2 ⟨fun z hz => ?_, ih⟩
  rcases List.mem_cons.1 hz with rfl | hz
  ·exact hxy
  ·exact Int.lt_trans hxy ((List.pairwise_cons.1 ih).1 z hz)
theorem fl_is {x : Ms} {vs : List Rat} (ok : VOk x vs) : IsFol (entS x.cols vs x.cols.length) (flY (entS x.cols vs x.cols.length) x.rows x.rows) := by
 have hp := asc_pw ok.ms.asc
 refine ⟨flY_pw hp hp, fun y => ⟨fun hy => ?_, fun ⟨h1, h2⟩ => ?_⟩⟩
 ·obtain ⟨a, ha, hy⟩ := List.mem_flatMap.1 hy
  obtain ⟨c, hc, rfl, h⟩ := mem_rowY.1 hy
  exact ⟨rfl, h⟩
 ·obtain ⟨e, he, e1⟩ : ∃ e ∈ entS x.cols vs x.cols.length, e.1 = y.1 := by
   by_cases he : ∃ e ∈ entS x.cols vs x.cols.length, e.1 = y.1
   ·exact he
   ·exact absurd (h1.trans (sumAt_none fun e h h' => he ⟨e, h, h'⟩)) h2
  obtain ⟨-, r1, r2⟩ := ok.entS_mem he
  rw [e1] at r1 r2
  obtain ⟨⟨a, c⟩, q⟩ := y
  simp only at h1 h2 r1 r2
  exact List.mem_flatMap.2 ⟨a, r1, mem_rowY.2 ⟨c, r2, by rw [h1], by rw [← h1]; exact h2⟩⟩
theorem rowY_len (S : List PQ) (a : Int) (cs : List Int) : (rowY S a cs).length ≤ cs.length := by
 have := flatMap_len (B := 1) (l := cs) (f := fun c => if sumAt S (a, c) = 0 then [] else [((a, c), sumAt S (a, c))]) fun c _ => by split <;> simp
 unfold rowY; omega
theorem flY_len (S : List PQ) (bs cs : List Int) : (flY S bs cs).length ≤ cs.length * bs.length := flatMap_len fun a _ => rowY_len S a cs
end Go.Proofs.YtniigfikpfinfaaGreat

/- Contracts of pairingref27.SameFollows and pairingref25.IsInt. -/
namespace Go.Proofs.YtniigfikpfinfaaGreat
open Go.RowKit

theorem FracC.ofInt {m : World} {a b c d : Value} {z : Int} (h1 : IntC m (.agg #[a, b]) z) (h2 : IntC m (.agg #[c, d]) 1) : FracC m (.agg #[a, b, c, d]) (z : Rat) := ⟨_, _, _, _, rfl, by simpa using h1, by simpa using h2⟩
def OneF (m : World) (v : Value) : Prop := ∃ g A n c h B k d, v = .agg #[.bool g, .slice A n c, .bool h, .slice B k d] ∧ IntC m (.agg #[.bool g, .slice A n c]) 1
theorem OneF.le {m m' : World} {v : Value} (h : OneF m v) (hb : Le m m') : OneF m' v := by
 obtain ⟨g, A, n, c, h', B, k, d, e, h⟩ := h
 exact ⟨g, A, n, c, h', B, k, d, e, h.le hb⟩
end Go.Proofs.YtniigfikpfinfaaGreat

/- Contract of pairingref27.Choose. -/
namespace Go.Proofs.YtniigfikpfinfaaGreat
open Go.RowKit

def PickI (ys : List PQ) (k : Nat) (b : Int) : Prop :=
 (b = -1 ∧ (pickT ys k).f = 0 ∧ (pickT ys k).n = 0 ∧ (pickT ys k).s = false) ∨ (∃ (j : Nat) (y : PQ), b = j ∧ ys[j]? = some y ∧ (pickT ys k).f = y.1.1 ∧ (pickT ys k).n = y.1.2 ∧ (pickT ys k).s = true)
theorem PickI.same {ys : List PQ} {k : Nat} {b : Int} (h : PickI ys k b) (e : pickT ys (k + 1) = pickT ys k) : PickI ys (k + 1) b := by unfold PickI; rw [e]; exact h
theorem PickI.some {ys : List PQ} {k : Nat} {y : PQ} {r : Rat} (hy : ys[k]? = some y) (e : pickT ys (k + 1) = ⟨y.1.1, y.1.2, true, r⟩) : PickI ys (k + 1) k := .inr ⟨k, y, rfl, hy, by rw [e], by rw [e], by rw [e]⟩
theorem PickI.start (ys : List PQ) : PickI ys 0 (-1) := .inl ⟨rfl, rfl, rfl, rfl⟩

end Go.Proofs.YtniigfikpfinfaaGreat

/- The walk through the law BranchFollows. -/
namespace Go.Proofs.YtniigfikpfinfaaGreat
open Go.RowKit

theorem masF_few (l : List Int) : (masF l).cols.length ≤ 6 := by
 show ((List.range _).map _).length ≤ 6
 simp only [List.length_map, List.length_range]
 have h2 := atF_bd l 2 (by omega)
 omega
end Go.Proofs.YtniigfikpfinfaaGreat

/- Picking the cheapest column for each list of flights: the program's way and the reference's way give the same places. No program. -/
namespace Go.Proofs.YtniigfikpfinfaaGreat

section
variable (op : Nat → List Int) (co : Nat → Int) (pos : Nat → Bool)
def betC (k j : Nat) : Prop := co k < co j ∨ (co k = co j ∧ k < j)
instance (k j : Nat) : Decidable (betC co k j) := by unfold betC; infer_instance
def picT (out : List Nat) (i : Nat) : List Nat :=
 if pos i = true then
  if out.findIdx (fun j => decide (op i = op j)) = out.length then out ++ [i]
  else if co i < co (out.getD (out.findIdx (fun j => decide (op i = op j))) 0) then out.set (out.findIdx (fun j => decide (op i = op j))) i else out
 else out
def picF (n : Nat) : List Nat := (List.range n).foldl (picT op co pos) []
theorem picF_step (n : Nat) : picF op co pos (n + 1) = picT op co pos (picF op co pos n) n := by
 unfold picF; rw [List.range_succ, List.foldl_append]; rfl
def besC (n j : Nat) : Prop := ∀ k, k < n → pos k = true → op k = op j → ¬ betC co k j
structure PicOk (i : Nat) (out : List Nat) : Prop where
 low : ∀ j ∈ out, j < i ∧ pos j = true ∧ besC op co pos i j
 all : ∀ j, j < i → pos j = true → ∃ m ∈ out, op m = op j
 ne : out.Pairwise fun a b => op a ≠ op b
theorem betC_irr {k : Nat} : ¬ betC co k k := by unfold betC; omega
theorem betC_tri {k j : Nat} (h1 : ¬ betC co k j) (h2 : ¬ betC co j k) : k = j := by
 unfold betC at h1 h2; omega
theorem besC_more {i j : Nat} (h : besC op co pos i j) (hi : pos i = true → op i = op j → ¬ betC co i j) : besC op co pos (i + 1) j := by
 intro k hk hp he
 rcases Nat.lt_or_ge k i with h' | h'
 ·exact h k h' hp he
 ·obtain rfl : k = i := by omega
  exact hi hp he
theorem picT_len (out : List Nat) (i : Nat) : (picT op co pos out i).length ≤ out.length + 1 := by
 unfold picT
 split
 ·split
  ·simp
  ·split <;> simp
 ·omega
theorem picT_ok {i : Nat} {out : List Nat} (h : PicOk op co pos i out) : PicOk op co pos (i + 1) (picT op co pos out i) := by
 unfold picT
 by_cases hp : pos i = true
 ·rw [if_pos hp]
  by_cases hf : out.findIdx (fun j => decide (op i = op j)) = out.length
  ·rw [if_pos hf]
   have hno : ∀ j ∈ out, op i ≠ op j := fun j hj e => by
    have := (List.findIdx_lt_length (p := fun j => decide (op i = op j)) (xs := out)).2 ⟨j, hj, decide_eq_true e⟩
    omega
   refine ⟨fun j hj => ?_, fun j hj hpj => ?_, ?_⟩
   ·rcases List.mem_append.1 hj with hj | hj
    ·obtain ⟨a, b, c⟩ := h.low j hj
     exact ⟨by omega, b, besC_more op co pos c fun _ e => absurd e (hno j hj)⟩
    ·obtain rfl := List.mem_singleton.1 hj
     refine ⟨by omega, hp, fun k hk hpk e => ?_⟩
     rcases Nat.lt_or_ge k j with h' | h'
     ·obtain ⟨m, hm, e2⟩ := h.all k h' hpk
      exact absurd (e.symm.trans e2.symm) (hno m hm)
     ·obtain rfl : k = j := by omega
      exact betC_irr co
   ·rcases Nat.lt_or_ge j i with h' | h'
    ·obtain ⟨m, hm, e⟩ := h.all j h' hpj
     exact ⟨m, List.mem_append_left _ hm, e⟩
    ·obtain rfl : j = i := by omega
     exact ⟨j, by simp, rfl⟩
   ·rw [List.pairwise_append]
    refine ⟨h.ne, List.pairwise_singleton _ _, fun a ha b hb => ?_⟩
    obtain rfl := List.mem_singleton.1 hb
    exact fun e => hno a ha e.symm
  ·rw [if_neg hf]
   have hlt : out.findIdx (fun j => decide (op i = op j)) < out.length := by
    have := List.findIdx_le_length (p := fun j => decide (op i = op j)) (xs := out)
    omega
   have he : op i = op (out[out.findIdx (fun j => decide (op i = op j))]'hlt) := of_decide_eq_true (List.findIdx_getElem (w := hlt))
   generalize out.findIdx (fun j => decide (op i = op j)) = t at *
   rw [List.getD_eq_getElem?_getD, List.getElem?_eq_getElem hlt, Option.getD_some]
   have hmt : out[t] ∈ out := List.getElem_mem hlt
   obtain ⟨a1, a2, a3⟩ := h.low _ hmt
   have hpw := List.pairwise_iff_getElem.1 h.ne
   have huni : ∀ s (hs : s < out.length), s ≠ t → op out[s] ≠ op i := fun s hs hst e => by
    rcases Nat.lt_or_gt_of_ne hst with h' | h'
    ·exact hpw s t hs hlt h' (e.trans he)
    ·exact hpw t s hlt hs h' (he.symm.trans e.symm)
   by_cases hc : co i < co out[t]
   ·rw [if_pos hc]
    refine ⟨fun j hj => ?_, fun j hj hpj => ?_, ?_⟩
    ·obtain ⟨s, hs, rfl⟩ := List.getElem_of_mem hj
     rw [List.length_set] at hs
     by_cases hst : t = s
     ·subst hst
      rw [List.getElem_set_self]
      refine ⟨by omega, hp, fun k hk hpk e hb => ?_⟩
      rcases Nat.lt_or_ge k i with h' | h'
      ·refine a3 k h' hpk (e.trans he) ?_
       unfold betC at hb ⊢; omega
      ·obtain rfl : k = i := by omega
       exact betC_irr co hb
     ·rw [List.getElem_set_ne hst]
      obtain ⟨b1, b2, b3⟩ := h.low _ (List.getElem_mem hs)
      exact ⟨by omega, b2, besC_more op co pos b3 fun _ e => absurd e.symm (huni s hs (Ne.symm hst))⟩
    ·rcases Nat.lt_or_ge j i with h' | h'
     ·obtain ⟨m, hm, e⟩ := h.all j h' hpj
      obtain ⟨s, hs, rfl⟩ := List.getElem_of_mem hm
      by_cases hst : t = s
      ·subst hst
       exact ⟨i, List.mem_iff_getElem.2 ⟨t, by rw [List.length_set]; exact hlt, List.getElem_set_self _⟩, he.trans e⟩
      ·exact ⟨out[s], List.mem_iff_getElem.2 ⟨s, by rw [List.length_set]; exact hs, List.getElem_set_ne hst _⟩, e⟩
     ·obtain rfl : j = i := by omega
      exact ⟨j, List.mem_iff_getElem.2 ⟨t, by rw [List.length_set]; exact hlt, List.getElem_set_self _⟩, rfl⟩
    ·rw [List.pairwise_iff_getElem]
     intro a b ha hb hab
     rw [List.length_set] at ha hb
     by_cases hta : t = a
     ·subst hta
      rw [List.getElem_set_self, List.getElem_set_ne (by omega)]
      exact (huni b hb (by omega)).symm
     ·by_cases htb : t = b
      ·subst htb
       rw [List.getElem_set_ne hta, List.getElem_set_self]
       exact huni a ha (by omega)
      ·rw [List.getElem_set_ne hta, List.getElem_set_ne htb]
       exact hpw a b ha hb hab
   ·rw [if_neg hc]
    refine ⟨fun j hj => ?_, fun j hj hpj => ?_, h.ne⟩
    ·obtain ⟨b1, b2, b3⟩ := h.low j hj
     refine ⟨by omega, b2, besC_more op co pos b3 fun _ e hb => ?_⟩
     obtain ⟨s, hs, rfl⟩ := List.getElem_of_mem hj
     by_cases hst : s = t
     ·subst hst
      unfold betC at hb; omega
     ·exact huni s hs hst e.symm
    ·rcases Nat.lt_or_ge j i with h' | h'
     ·exact h.all j h' hpj
     ·obtain rfl : j = i := by omega
      exact ⟨out[t], hmt, he.symm⟩
 ·rw [if_neg hp]
  refine ⟨fun j hj => ?_, fun j hj hpj => ?_, h.ne⟩
  ·obtain ⟨b1, b2, b3⟩ := h.low j hj
   exact ⟨by omega, b2, besC_more op co pos b3 fun hpi => absurd hpi hp⟩
  ·rcases Nat.lt_or_ge j i with h' | h'
   ·exact h.all j h' hpj
   ·obtain rfl : j = i := by omega
    exact absurd hpj hp
theorem picF_ok : ∀ n, PicOk op co pos n (picF op co pos n)
 | 0 => ⟨(fun _ h => by cases h), (fun _ h => by omega), List.Pairwise.nil⟩
 | n + 1 => by rw [picF_step]; exact picT_ok op co pos (picF_ok n)
theorem picF_len : ∀ n, (picF op co pos n).length ≤ n
 | 0 => Nat.le_refl _
 | n + 1 => by
  rw [picF_step]
  have := picT_len op co pos (picF op co pos n) n
  have := picF_len n
  omega
theorem picF_mem {n j : Nat} : j ∈ picF op co pos n ↔ j < n ∧ pos j = true ∧ besC op co pos n j := by
 have h := picF_ok op co pos n
 constructor
 ·exact h.low j
 ·rintro ⟨a, b, c⟩
  obtain ⟨m, hm, e⟩ := h.all j a b
  obtain ⟨a', b', c'⟩ := h.low m hm
  have : m = j := betC_tri co (fun hb => c m a' b' e hb) (fun hb => c' j a b e.symm hb)
  rw [← this]; exact hm
theorem picF_nodup (n : Nat) : (picF op co pos n).Nodup := (picF_ok op co pos n).ne.imp fun {a b} h e => h (by rw [e])
end
theorem asc_same : ∀ {xs ys : List Nat}, xs.Pairwise (· < ·) → ys.Pairwise (· < ·) → (∀ x, x ∈ xs ↔ x ∈ ys) → xs = ys
 | [], [], _, _, _ => rfl
 | [], y :: ys, _, _, h => absurd ((h y).2 List.mem_cons_self) List.not_mem_nil
 | x :: xs, [], _, _, h => absurd ((h x).1 List.mem_cons_self) List.not_mem_nil
 | x :: xs, y :: ys, hx, hy, h => by
  obtain ⟨hx1, hx2⟩ := List.pairwise_cons.1 hx
  obtain ⟨hy1, hy2⟩ := List.pairwise_cons.1 hy
  have e : x = y := by
   rcases List.mem_cons.1 ((h x).1 List.mem_cons_self) with e | e
   ·exact e
   ·rcases List.mem_cons.1 ((h y).2 List.mem_cons_self) with e' | e'
    ·exact e'.symm
    ·have := hy1 x e; have := hx1 y e'; omega
  subst e
  rw [asc_same hx2 hy2 fun z => ?_]
  constructor
  ·intro hz
   rcases List.mem_cons.1 ((h z).1 (List.mem_cons_of_mem _ hz)) with e' | e'
   ·have := hx1 z hz; omega
   ·exact e'
  ·intro hz
   rcases List.mem_cons.1 ((h z).2 (List.mem_cons_of_mem _ hz)) with e' | e'
   ·have := hy1 z hz; omega
   ·exact e'
theorem pic_list (op : Nat → List Int) (co : Nat → Int) (pos keep : Nat → Bool) (n : Nat) {zs : List Nat} (hz : zs.Pairwise (· < ·)) (hp : zs.Perm ((picF op co pos n).filter keep)) :
  zs = (List.range n).filter fun j => pos j && decide (∀ k, k < n → pos k = true → op k = op j → ¬ betC co k j) && keep j := by
 refine asc_same hz (List.Pairwise.filter _ List.pairwise_lt_range) fun x => ?_
 rw [hp.mem_iff, List.mem_filter, picF_mem, List.mem_filter, List.mem_range]
 simp only [Bool.and_eq_true, decide_eq_true_eq]
 unfold besC
 constructor
 ·rintro ⟨⟨a, b, c⟩, d⟩; exact ⟨a, ⟨b, c⟩, d⟩
 ·rintro ⟨a, ⟨b, c⟩, d⟩; exact ⟨⟨a, b, c⟩, d⟩
end Go.Proofs.YtniigfikpfinfaaGreat

/- Round in plain words: the entries that the columns give, their sums, the error, and the columns that are listed. No program. -/
namespace Go.Proofs.YtniigfikpfinfaaGreat

abbrev IQ := Int × Rat
def sumI (S : List IQ) (p : Int) : Rat := (S.filter fun e => decide (e.1 = p)).foldl (fun s e => s + e.2) ((0 : Int) : Rat)
theorem sumI_same (S : List IQ) (p : Int) (x : Rat) : sumI (S ++ [(p, x)]) p = sumI S p + x := by
 unfold sumI; rw [List.filter_append, List.foldl_append]; simp
theorem sumI_other (S : List IQ) {p q : Int} (x : Rat) (h : q ≠ p) : sumI (S ++ [(q, x)]) p = sumI S p := by
 unfold sumI; rw [List.filter_append, List.foldl_append]; simp [h]
theorem sumI_none {S : List IQ} {p : Int} (h : ∀ e ∈ S, e.1 ≠ p) : sumI S p = ((0 : Int) : Rat) := by
 unfold sumI; rw [List.filter_eq_nil_iff.2 (by simpa using h)]; rfl

theorem sumI_map (op : List Int) (q : Rat) (r : Int) (hn : op.Nodup) : ∀ (S : List IQ), sumI (S ++ op.map fun f => (f, q)) r = if r ∈ op then sumI S r + q else sumI S r := by
 induction op with
 | nil => intro S; simp
 | cons f op ih =>
  intro S
  obtain ⟨h1, h2⟩ := List.nodup_cons.1 hn
  have e : S ++ (f :: op).map (fun f => (f, q)) = (S ++ [(f, q)]) ++ op.map fun f => (f, q) := by simp
  rw [e, ih h2]
  by_cases hr : r = f
  ·subst hr
   rw [if_neg h1, if_pos List.mem_cons_self, sumI_same]
  ·have hm : r ∈ f :: op ↔ r ∈ op := by simp [hr]
   rw [sumI_other S q (fun h => hr h.symm)]
   by_cases h : r ∈ op
   ·rw [if_pos h, if_pos (hm.2 h)]
   ·rw [if_neg h, if_neg (fun h' => h (hm.1 h'))]
def entI (cols : List Col) (vs : List Rat) (k : Nat) : List IQ := ((cols.zip vs).take k).flatMap fun e => (opF e.1.2.1).map fun f => (f, e.2)
theorem entI_step {cols : List Col} {vs : List Rat} {k : Nat} {c : Col} {x : Rat} (hc : cols[k]? = some c) (hx : vs[k]? = some x) : entI cols vs k ++ ((opF c.2.1).map fun f => (f, x)) = entI cols vs (k + 1) := by
 unfold entI
 have : (cols.zip vs)[k]? = some (c, x) := List.getElem?_zip_eq_some.2 ⟨hc, hx⟩
 rw [List.take_add_one, this]; simp
def sumR (cols : List Col) (vs : List Rat) (r : Int) (k : Nat) : Rat := ((cols.zip vs).take k).foldl (fun s e => if r ∈ opF e.1.2.1 then s + e.2 else s) ((0 : Int) : Rat)
theorem sumR_step {cols : List Col} {vs : List Rat} {r : Int} {k : Nat} {c : Col} {x : Rat} (hc : cols[k]? = some c) (hx : vs[k]? = some x) : sumR cols vs r (k + 1) = if r ∈ opF c.2.1 then sumR cols vs r k + x else sumR cols vs r k := by
 unfold sumR
 have : (cols.zip vs)[k]? = some (c, x) := List.getElem?_zip_eq_some.2 ⟨hc, hx⟩
 rw [List.take_add_one, this, Option.toList_some, List.foldl_append]; rfl
theorem sum_one (cols : List Col) (vs : List Rat) (r : Int) (hn : ∀ c ∈ cols, (opF c.2.1).Nodup) : ∀ k, sumI (entI cols vs k) r = sumR cols vs r k
 | 0 => rfl
 | k + 1 => by
  cases hz : (cols.zip vs)[k]? with
  | none =>
   have h := List.getElem?_eq_none_iff.1 hz
   have e1 : entI cols vs (k + 1) = entI cols vs k := by unfold entI; rw [List.take_of_length_le (by omega), List.take_of_length_le h]
   have e2 : sumR cols vs r (k + 1) = sumR cols vs r k := by unfold sumR; rw [List.take_of_length_le (by omega), List.take_of_length_le h]
   rw [e1, e2]; exact sum_one cols vs r hn k
  | some e =>
   obtain ⟨hc, hx⟩ := List.getElem?_zip_eq_some.1 hz
   rw [← entI_step hc hx, sumR_step hc hx, sumI_map _ _ _ (hn _ (List.mem_of_getElem? hc)), sum_one cols vs r hn k]
def rndE (ms : Ms) (us : List Rat) : Int :=
 if ∃ u ∈ us, u < 0 then 5
 else if ∃ r ∈ ms.rows, ((1 : Int) : Rat) < sumR ms.cols us r ms.cols.length then 5
 else if ∃ y ∈ flY (entS ms.cols us ms.cols.length) ms.rows ms.rows, y.2.den ≠ 1 then 16
 else 0
def opJ (ms : Ms) (j : Nat) : List Int := match ms.cols[j]? with | some c => opF c.2.1 | none => []
def coJ (ms : Ms) (j : Nat) : Int := match ms.cols[j]? with | some c => c.2.2 | none => 0
def posJ (us : List Rat) (j : Nat) : Bool := match us[j]? with | some u => decide (0 < u) | none => false
def keepJ (ms : Ms) (j : Nat) : Bool := !(decide ((opJ ms j).length = 1) && decide (ms.pen ≤ coJ ms j))
def rndL (ms : Ms) (us : List Rat) : List Nat :=
 (List.range ms.cols.length).filter fun j => posJ us j && decide (∀ k, k < ms.cols.length → posJ us k = true → opJ ms k = opJ ms j → ¬ betC (coJ ms) k j) && keepJ ms j
end Go.Proofs.YtniigfikpfinfaaGreat

/- What the loops of Round build, step by step. No program. -/
namespace Go.Proofs.YtniigfikpfinfaaGreat

def pckT (ms : Ms) (us : List Rat) (k : Nat) : List Nat := picF (opJ ms) (coJ ms) (posJ us) k
theorem pck_list (ms : Ms) (us : List Rat) {zs : List Nat} (hz : zs.Pairwise (· < ·)) (hp : zs.Perm ((pckT ms us ms.cols.length).filter (keepJ ms))) : zs = rndL ms us := by
 rw [pic_list (opJ ms) (coJ ms) (posJ us) (keepJ ms) ms.cols.length hz hp]; rfl
end Go.Proofs.YtniigfikpfinfaaGreat

/- Rows that append built: an element is read, written, cut off; 'clear'. (The cuts' texts AE2, AE5, AE6, AL1 hold the same.) -/
namespace Go.Proofs.YtniigfikpfinfaaGreat
open Go.RowKit

theorem RowA.block {α : Type} {e : TypeId} {size : Nat} {R : World → Value → α → Prop} {m : World} {v : Value} {n : Nat} {xs : List α} {Rr : List Lo} (h : RowA e size R m v n xs Rr) (hn : 0 < n) :
  ∃ g cap cur, v = .slice (some ⟨g, 0, none⟩) n cap ∧ Rr = [(g, e, cur)] ∧ n ≤ cap ∧ cur.size = cap * size := by
 obtain ⟨vs, ⟨h0, h1⟩, h2, h3, h4⟩ := h
 rcases h1 with ⟨-, h1, -⟩ | ⟨g, cap, cur, e1, e2, h5, -, h6, -⟩
 ·omega
 ·exact ⟨g, cap, cur, e1, e2, h5, h6⟩
theorem RowA.at_ {α : Type} {e : TypeId} {size : Nat} {R : World → Value → α → Prop} {m : World} {v : Value} {n g : Nat} {cur : Array Value} {xs : List α} (h : RowA e size R m v n xs [(g, e, cur)]) {k : Nat} {x : α} (hk : xs[k]? = some x) :
  ∃ u, R m u x ∧ u.cells.size = size ∧ ∀ j, j < size → cur[0 + k * size + j]? = u.cells[j]? := by
 obtain ⟨vs, ⟨h0, h1⟩, h2, h3, h4⟩ := h
 obtain ⟨u, hu, hR⟩ := h3.at_ hk
 refine ⟨u, hR, h2 u (List.mem_of_getElem? hu), fun j hj => ?_⟩
 have hc := cellsOf_at h2 hu j hj
 rcases h1 with ⟨-, -, h1⟩ | ⟨g', cap, cur', e1, e2, h5, -, h6, h7⟩
 ·cases h1
 ·cases e2
  rw [← h7, List.getElem?_take] at hc
  have hkn : k < n := by rw [← h4]; exact (List.getElem?_eq_some_iff.1 hu).1
  have hlt : k * size + j < n * size := by
   have : (k + 1) * size ≤ n * size := Nat.mul_le_mul_right _ hkn
   rw [Nat.succ_mul] at this; omega
  rw [if_pos hlt, Array.getElem?_toList] at hc
  rw [Nat.zero_add, hc, Array.getElem?_toList]
theorem RowA.put {α : Type} {e : TypeId} {size : Nat} {R : World → Value → α → Prop} {m : World} {v : Value} {n g : Nat} {cur : Array Value} {xs : List α} (h : RowA e size R m v n xs [(g, e, cur)]) {k o : Nat} {x : α} {ws cs : List Value} (hk : k < xs.length) (ho : o + ws.length ≤ size)
  (hcs : cs.length = size) (hc : ∀ j, j < size → cs[j]? = if o ≤ j ∧ j < o + ws.length then ws[j - o]? else cur[0 + k * size + j]?) (hR : R m (.agg cs.toArray) x) :
  RowA e size R m v n (xs.set k x) [(g, e, splice cur (k * size + o) ws)] := by
 obtain ⟨vs, ⟨h0, h1⟩, h2, h3, h4⟩ := h
 have hl := h3.length
 have hkn : k < n := by omega
 have hle : (k + 1) * size ≤ n * size := Nat.mul_le_mul_right _ hkn
 rw [Nat.succ_mul] at hle
 rcases h1 with ⟨-, h1, -⟩ | ⟨g', cap, cur', e1, e2, h5, h5', h6, h7⟩
 ·omega
 ·cases e2
  have hcap : n * size ≤ cap * size := Nat.mul_le_mul_right _ h5
  have hset : ∀ j, (cellsOf (vs.set k (.agg cs.toArray)))[j]? = if k * size ≤ j ∧ j < k * size + size then cs[j - k * size]? else (cellsOf vs)[j]? := cellsOf_set h2 hcs (by omega)
  refine ⟨vs.set k (.agg cs.toArray), ⟨?_, .inr ⟨g, cap, _, e1, rfl, h5, h5', by rw [splice_size]; exact h6, ?_⟩⟩, ?_, h3.set hR, by simpa using h4⟩
  ·have h8 := cellsOf_length (vs := vs.set k (.agg cs.toArray)) (size := size) (by
    intro u hu
    rcases List.mem_or_eq_of_mem_set hu with hu | rfl
    ·exact h2 u hu
    ·simpa [Value.cells] using hcs)
   rw [h8]; simp [h4]
  ·apply List.ext_getElem?
   intro j
   rw [List.getElem?_take, Array.getElem?_toList, splice_at ws _ _ (by rw [h6]; omega), hset, ← h7]
   by_cases hj : j < n * size
   ·rw [if_pos hj, List.getElem?_take, if_pos hj, Array.getElem?_toList]
    by_cases h9 : k * size ≤ j ∧ j < k * size + size
    ·rw [if_pos h9, hc _ (by omega)]
     by_cases h10 : k * size + o ≤ j ∧ j < k * size + o + ws.length
     ·rw [if_pos h10, if_pos (by omega), show j - (k * size + o) = j - k * size - o by omega]; simp
     ·rw [if_neg h10, if_neg (by omega), show 0 + k * size + (j - k * size) = j by omega]
    ·rw [if_neg h9, if_neg (by omega)]; simp
   ·rw [if_neg hj, if_neg (by omega), List.getElem?_take, if_neg hj]
  ·intro u hu
   rcases List.mem_or_eq_of_mem_set hu with hu | rfl
   ·exact h2 u hu
   ·simpa [Value.cells] using hcs
theorem RowA.fit {α : Type} {e : TypeId} {size : Nat} {R : World → Value → α → Prop} {m : World} {v : Value} {n g : Nat} {cur : Array Value} {xs : List α} (h : RowA e size R m v n xs [(g, e, cur)]) : n * size ≤ cur.size := by
 obtain ⟨vs, ⟨h0, h1⟩, h2, h3, h4⟩ := h
 rcases h1 with ⟨-, -, h1⟩ | ⟨g', cap, cur', e1, e2, h5, -, h6, h7⟩
 ·cases h1
 ·cases e2
  rw [h6]; exact Nat.mul_le_mul_right _ h5
theorem RowA.capd {α : Type} {e : TypeId} {size : Nat} {R : World → Value → α → Prop} {m : World} {n g cap : Nat} {cur : Array Value} {xs : List α} (h : RowA e size R m (.slice (some ⟨g, 0, none⟩) n cap) n xs [(g, e, cur)]) : n ≤ cap ∧ cur.size = cap * size := by
 obtain ⟨vs, ⟨h0, h1⟩, h2, h3, h4⟩ := h
 rcases h1 with ⟨h1, -, -⟩ | ⟨g', cap', cur', e1, e2, h5, -, h6, h7⟩
 ·cases h1
 ·cases e2; cases e1
  exact ⟨h5, h6⟩
theorem RowA.putW {α : Type} {e : TypeId} {size : Nat} {R : World → Value → α → Prop} {m : World} {v : Value} {n g : Nat} {cur : Array Value} {xs : List α} (h : RowA e size R m v n xs [(g, e, cur)]) {k : Nat} {x : α} {ws : List Value} (hk : k < xs.length) (hw : ws.length = size) (hR : R m (.agg ws.toArray) x) :
  RowA e size R m v n (xs.set k x) [(g, e, splice cur (0 + k * size) ws)] := by
 have h1 := RowA.put (o := 0) (ws := ws) h hk (by omega) hw (fun j hj => by rw [if_pos (by omega), Nat.sub_zero]) hR
 rwa [Nat.add_zero, ← Nat.zero_add (k * size)] at h1
theorem All2.takes {α : Type} {R : Value → α → Prop} : ∀ {vs : List Value} {xs : List α}, All2 R vs xs → ∀ i, All2 R (vs.take i) (xs.take i)
 | _, _, _, 0 => by simp [All2]
 | [], [], _, _ + 1 => trivial
 | v :: vs, x :: xs, h, i + 1 => ⟨h.1, All2.takes h.2 i⟩
 | [], _ :: _, h, _ + 1 => h.elim
 | _ :: _, [], h, _ + 1 => h.elim
theorem RowA.cut {α : Type} {e : TypeId} {size : Nat} {R : World → Value → α → Prop} {m : World} {n g cap i : Nat} {cur cur2 : Array Value} {xs : List α} (h : RowA e size R m (.slice (some ⟨g, 0, none⟩) n cap) n xs [(g, e, cur)]) (hi : i ≤ n) (hs : cur2.size = cur.size) (ha : ∀ j, j < i * size → cur2[j]? = cur[j]?) :
  RowA e size R m (.slice (some ⟨g, 0, none⟩) i cap) i (xs.take i) [(g, e, cur2)] := by
 obtain ⟨vs, ⟨h0, h1⟩, h2, h3, h4⟩ := h
 rcases h1 with ⟨h1, -, -⟩ | ⟨g', cap', cur', e1, e2, h5, h5', h6, h7⟩
 ·cases h1
 ·cases e2; cases e1
  have h8 : ∀ u ∈ vs.take i, u.cells.size = size := fun u hu => h2 u (List.mem_of_mem_take hu)
  have h9 := cellsOf_length h8
  have h10 : (vs.take i).length = i := by rw [List.length_take]; omega
  rw [h10] at h9
  have h11 : (cellsOf vs).take (i * size) = cellsOf (vs.take i) := by
   conv => lhs; rw [← List.take_append_drop i vs, cellsOf_append]
   rw [List.take_left' h9]
  refine ⟨vs.take i, ⟨h9, .inr ⟨g, cap, cur2, rfl, rfl, by omega, h5', by rw [hs]; exact h6, ?_⟩⟩, h8, h3.takes i, h10⟩
  rw [← h11, ← h7, List.take_take]
  have hle : i * size ≤ n * size := Nat.mul_le_mul_right _ hi
  rw [Nat.min_eq_left hle]
  apply List.ext_getElem?
  intro j
  rw [List.getElem?_take, List.getElem?_take, Array.getElem?_toList, Array.getElem?_toList]
  by_cases hj : j < i * size
  ·rw [if_pos hj, if_pos hj, ha j hj]
  ·rw [if_neg hj, if_neg hj]
theorem zero_len (zs : Array Value) (n : Nat) : (Builtin.zeroCells zs n).toList.length = n * zs.size := by simp [Builtin.zeroCells]
theorem zero_one (zs : Array Value) (n : Nat) (h1 : zs.toList.all (·.oneCell') = true) : ∀ v ∈ (Builtin.zeroCells zs n).toList, v.oneCell' = true := by
 intro v hv
 simp only [Builtin.zeroCells, Array.toList_map, List.mem_map] at hv
 obtain ⟨j, hj, rfl⟩ := hv
 have hlt : j < n * zs.size := by simpa using hj
 have hz : 0 < zs.size := by
  rcases Nat.eq_zero_or_pos zs.size with h | h
  ·rw [h] at hlt; simp at hlt
  ·exact h
 have hm : j % zs.size < zs.size := Nat.mod_lt _ hz
 rw [getElem!_pos zs _ hm]
 exact List.all_eq_true.1 h1 _ (by simp)
theorem run_clearB {P : Program} {W : World} {g off n c : Nat} {t e ts : TypeId} {cs zs : Array Value} (hb : Blk W g t cs) (hn : 0 < n) (ht : P.underlying ts = some (.slice e)) (hz : zc P e = some zs) (h1 : zs.toList.all (·.oneCell') = true) (hfit : off + n * zs.size ≤ cs.size) (ty : TypeId) :
  (Builtin.clear_ #[ts] ty #[.slice (some ⟨g, off, none⟩) n c]).run P W = .ok (.tuple #[]) (W.setCells g off (Builtin.zeroCells zs n).toList) := by
 obtain ⟨z, hzc, hv⟩ := run_zero (P := P) hz W
 have hl := zero_len zs n
 have hst := run_storeCells_cells (P := P) g off (Builtin.zeroCells zs n).toList 0 W (fun j hj => by rw [hb.cell]; simp; omega) (fun j hj => hb.frozen _) (zero_one zs n h1)
 simp only [Nat.add_zero] at hst
 obtain ⟨k, rfl⟩ : ∃ k, n = k + 1 := ⟨n - 1, by omega⟩
 subst hzc
 simp [Builtin.clear_, run_underlying ht, hv, hst]
theorem still_setCells {W : World} {g off : Nat} {t : TypeId} {cs : Array Value} (hb : Blk W g t cs) (vs : List Value) : Still W (W.setCells g off vs) := fun b o ho hn => by
 by_cases e : b = g
 ·subst e
  unfold Blk at hb
  rw [hb] at ho
  cases ho
  exact absurd rfl (hn _ _ _)
 ·exact (heap_setCells_other g vs off W b e).trans ho
section
variable {P : Program} {ops : Array Oper} {Q : Exit → Act → World → Prop} {rest : List Oper} {o : Oper} {a : Act} {w0 m0 W m : World} {Ls : List Lo}
theorem wl_storeS (hL : Loc w0 m0 W m Ls) (hw : Region.wanted o (yielded ops a.tmps) = true) {ty : TypeId} {x y : Operand} (ho : o.op = .store ty x y) {g off : Nat} (hx : a.eval x = .pointer (some ⟨g, off, none⟩)) {vs : List Value}
  (hy : a.eval y = .agg vs.toArray) {k : Nat} (hty : agS P ty = some k) (hk : vs.length = k) {n : Nat} {t : TypeId} {cs : Array Value} (hn : Ls[n]? = some (g, t, cs)) (hfit : off + k ≤ cs.size) (h1 : vs.all (·.oneCell') = true)
  (h : ∀ W', Loc w0 m0 W' m (Ls.set n (g, t, splice cs off vs)) → Still W W' → wpList P ops Q rest (a.put o.dst undef) W') : wpList P ops Q (o :: rest) a W :=
 wpList_wanted hw fun _ hK => op_store ho hx hy (hk ▸ hty) (hL.at_ hn) (by rw [hk]; exact hfit) h1 (hK _ _ (h _ (hL.store hn off vs) (still_setCells (hL.at_ hn) vs)))
end
theorem stS {P : Program} {ops : Array Oper} {Q : Exit → Act → World → Prop} {rest : List Oper} {a : Act} {W : World} {d : Option Tmp} {ty t : TypeId} {pos : String} {af : Array Edge} {gd : Option (Nat × Bool)} {p q : Operand}
  (h : Hid (wpList P ops Q (⟨d, .store t p q, ty, pos, af, gd⟩ :: rest) a W)) : wpList P ops Q (⟨d, .store t p q, ty, pos, af, gd⟩ :: rest) a W := h
def natL (s : List Nat) : List Int := s.map fun (i : Nat) => (i : Int)
theorem natL_len (s : List Nat) : (natL s).length = s.length := by simp [natL]
theorem natL_at {s : List Nat} {i x : Nat} (h : s[i]? = some x) : (natL s)[i]? = some (x : Int) := by simp [natL, h]
theorem natL_set {s : List Nat} {i x : Nat} : (natL s).set i (x : Int) = natL (s.set i x) := by simp [natL, List.map_set]
theorem zc_I : zc Tryz.prog 3 = some #[.int .i64 0] := by kernel_rfl
theorem lb_int : lfB Tryz.prog 3 = true := by kernel_rfl
theorem sl_ints {m : World} {A : Option Addr} {n c : Nat} {xs : List Int} (h : IntL m (.slice A n c) xs) : Sl m A (xs.map I64) := by
 obtain ⟨A', c', vs, e, _, _, h2, h3⟩ := h
 injection e with e1 e2 e3
 subst e1
 rw [all2_ints h3, cellsOf_ints] at h2
 exact h2
theorem row_int {m : World} {v : Value} {n g : Nat} {cur : Array Value} {xs : List Int} (h : RowA 3 1 IsI m v n xs [(g, 3, cur)]) {k : Nat} {x : Int} (hk : xs[k]? = some x) : cur[0 + k]? = some (.int .i64 x) := by
 obtain ⟨u, hu, -, hr⟩ := h.at_ hk
 have h0 := hr 0 (by omega)
 have hu' : u = .int .i64 x := hu
 rw [hu', Nat.mul_one, Nat.add_zero] at h0
 rw [h0]; rfl
theorem RowA.putI {m : World} {v : Value} {n g k : Nat} {cur : Array Value} {xs : List Int} {x : Int} (h : RowA 3 1 IsI m v n xs [(g, 3, cur)]) : RowA 3 1 IsI m v n (xs.set k x) [(g, 3, splice cur (0 + k) [.int .i64 x])] := by
 obtain ⟨vs, ⟨h0, h1⟩, h2, h3, h4⟩ := h
 have hvs := all2_ints h3
 subst hvs
 rcases h1 with ⟨-, -, h1⟩ | ⟨g', cap, cur', e1, e2, h5, h5', h6, h7⟩
 ·cases h1
 ·cases e2
  refine ⟨(xs.set k x).map I64, ⟨?_, .inr ⟨g, cap, _, e1, rfl, h5, h5', by rw [splice_size]; exact h6, ?_⟩⟩, fun u hu => by obtain ⟨y, -, rfl⟩ := List.mem_map.1 hu; rfl, all2_of_ints m _, ?_⟩
  ·rw [cellsOf_ints, List.length_map] at h0 ⊢
   rw [List.length_set]; exact h0
  ·simp only [splice]
   rw [Array.toList_setIfInBounds, List.take_set, h7, cellsOf_ints, cellsOf_ints, Nat.zero_add, List.map_set]; rfl
  ·rw [List.length_map] at h4 ⊢
   rw [List.length_set]; exact h4
end Go.Proofs.YtniigfikpfinfaaGreat

/- What a callee that only reads leaves of the hidden blocks; loads of numbers from a hidden row. -/
namespace Go.Proofs.YtniigfikpfinfaaGreat
open Go.RowKit

theorem Loc.again {w0 m0 W m W' : World} {Ls : List Lo} (h : Loc w0 m0 W m Ls) (hE : Ext W W') : Loc w0 m0 W' (hidTo m W'.heap.size) Ls := by
 have hs : m.heap.size ≤ W'.heap.size := by rw [h.vw.size]; exact hE.size
 refine ⟨h.size0, h.ext.trans hE, h.mext.trans (hidTo_ext hs), ⟨h.vw.os.trans hE.os.symm, h.vw.tape.trans hE.tape.symm, h.vw.output.trans hE.output.symm, hidTo_size hs, fun a u hu => ?_⟩, h.low, fun x hx => ?_, fun x hx a ha => ?_, h.apart⟩
 ·rcases Nat.lt_or_ge a.block m.heap.size with hlt | hlt
  ·rw [cell_of_heap (hidTo_old hlt)] at hu
   exact hE.le.cell _ _ (h.vw.cell _ _ hu)
  ·rw [hidTo_new hlt] at hu; cases hu
 ·exact (h.blk x hx).ext hE
 ·have hlt : a.block < m.heap.size := by rw [ha, h.vw.size]; exact (h.blk x hx).lt
  rw [cell_of_heap (hidTo_old hlt)]
  exact h.hid x hx a ha
theorem Loc.again_ext {w0 m0 W m W' : World} {Ls : List Lo} (h : Loc w0 m0 W m Ls) (hE : Ext W W') : Ext m (hidTo m W'.heap.size) := hidTo_ext (by rw [h.vw.size]; exact hE.size)
end Go.Proofs.YtniigfikpfinfaaGreat
