/- Part 7 of 8 of the proof: the law BranchRounds returns true for every input, and its arguments read as before; there is no condition. -/
import Derived.Test.YtniigfikpfinfaaGreatRows
import Derived.Test.YtniigfikpfinfaaGreatBD6
import Derived.Test.YtniigfikpfinfaaGreatBDAM15
set_option linter.unusedVariables false
set_option linter.unusedSimpArgs false
set_option maxRecDepth 100000
set_option maxHeartbeats 64000000
/- The walk through the law BranchRounds. -/
namespace Go.Proofs.YtniigfikpfinfaaGreat
open Go.RowKit

def zrT (q : Rat) : Rat := if q.den = 1 ∧ ¬ ((1 : Int) : Rat) < q then q else ((0 : Int) : Rat)
def zrL (us : List Rat) (j : Nat) : List Rat := (us.take j).map zrT ++ us.drop j
theorem zrL_len (us : List Rat) (j : Nat) : (zrL us j).length = us.length := by unfold zrL; simp; omega
theorem zrL_at {us : List Rat} {j : Nat} {q : Rat} (h : us[j]? = some q) : (zrL us j)[j]? = some q := by
 have hlt := (List.getElem?_eq_some_iff.1 h).1
 unfold zrL
 rw [List.getElem?_append_right (by simp; omega)]
 simp only [List.length_map, List.length_take, List.getElem?_drop]
 rw [Nat.min_eq_left (by omega), Nat.sub_self, Nat.add_zero, h]
theorem zrL_set {us : List Rat} {j : Nat} {q : Rat} (h : us[j]? = some q) : (zrL us j).set j (zrT q) = zrL us (j + 1) := by
 have hlt := (List.getElem?_eq_some_iff.1 h).1
 unfold zrL
 rw [List.set_append_right _ _ (by simp; omega)]
 simp only [List.length_map, List.length_take]
 rw [Nat.min_eq_left (by omega), Nat.sub_self, ← take_snoc h, List.map_append, List.append_assoc]
 congr 1
 rw [List.drop_eq_getElem_cons hlt]
 rfl
theorem zrL_keep {us : List Rat} {j : Nat} {q : Rat} (h : us[j]? = some q) (hq : zrT q = q) : zrL us (j + 1) = zrL us j := by
 rw [← zrL_set h, hq]
 refine List.ext_getElem? fun i => ?_
 rw [List.getElem?_set]
 by_cases e : j = i
 ·subst e
  rw [if_pos rfl, zrL_at h, if_pos (by rw [zrL_len]; exact (List.getElem?_eq_some_iff.1 h).1)]
 ·rw [if_neg e]
theorem zrT_tw {q : Rat} (h : Tw 18 q) : Tw 18 (zrT q) := by
 unfold zrT
 split
 ·exact h
 ·exact Tw.mono (Tw.int (K := 0) (by decide)) (by decide)
theorem zrL_tw {us : List Rat} (h : ∀ u ∈ us, Tw 18 u) (j : Nat) : ∀ u ∈ zrL us j, Tw 18 u := by
 intro u hu
 rcases List.mem_append.1 hu with hu | hu
 ·obtain ⟨q, hq, rfl⟩ := List.mem_map.1 hu
  exact zrT_tw (h q (List.mem_of_mem_take hq))
 ·exact h u (List.mem_of_mem_drop hu)
theorem frac_row {m : World} {v : Value} {n g : Nat} {cur : Array Value} {xs : List Rat} {e : TypeId} (h : RowA e 4 FracC m v n xs [(g, e, cur)]) {k : Nat} {x : Rat} (hk : xs[k]? = some x) :
  ∃ a A n' c f B p d, FracC m (.agg #[.bool a, .slice A n' c, .bool f, .slice B p d]) x ∧ ∀ j, j < 4 → cur[0 + k * 4 + j]? = [.bool a, .slice A n' c, .bool f, .slice B p d][j]? := by
 obtain ⟨u, hu, -, hr⟩ := h.at_ hk
 obtain ⟨a, A, n', c, f, B, p, d, rfl, hf⟩ := hu.lit
 refine ⟨a, A, n', c, f, B, p, d, hf, fun j hj => ?_⟩
 rw [hr j hj]
 simp [Value.cells]
theorem rndO_len (ms : Ms) (us : List Rat) (h : ms.cols.length ≤ 6) : (rndO ms us).length ≤ 1000000 := by
 unfold rndO
 split
 ·rw [natL_len, ← rndT_all]
  have := rndT_len ms us ms.cols.length
  omega
 ·simp

theorem law_BranchRounds (Al Aa : Option Addr) (cl ca : Nat) (l a : List Int) (n : Int) (w m : World) (hV : Vw m w) (hl : Sl m Al (l.map I64)) (ha : Sl m Aa (a.map I64)) (n1 : -9223372036854775808 ≤ n) (n2 : n ≤ 9223372036854775807) :
  Calls Tryz.prog 12 #[.slice Al l.length cl, .slice Aa a.length ca, .int .i64 n] w (RetV w m fun _ r => r = .bool true) := by
 have KM : Hid (∀ w m', Vw m' w → Le m m' → Calls Tryz.prog 14 #[.slice Al l.length cl] w (RetV w m' fun m'' r => MasterR m'' r (masF l))) := by
  show ∀ w m', _
  exact fun w m' hV hle => d_Master Al cl l w m' hV (hl.le hle) trivial
 have KA : Hid (∀ (z : Int) (k : Nat) w m', Vw m' w → Le m m' → z = k → k ≤ 1000 → Calls Tryz.prog 37 #[.slice Aa a.length ca, .int .i64 z] w (ValPost w m' (valsF a k))) := by
  show ∀ z k w m', _
  exact fun z k w m' hV hle hz hk => d_ValuesR Aa ca a k z w m' hV (ha.le hle) hz hk
 have OK : Hid (MsOk (masF l)) := masF_ok l
 have HFEW : (masF l).cols.length ≤ 6 := masF_few l
 have HF6 := Lib.hid HFEW
 have e1 : bits .and .i64 n 31 = n % 32 := i64_mask n 5 31 (by decide) (by decide)
 have e2 := i64_and2' (n / 32)
 have p1 : 0 ≤ n % 32 ∧ n % 32 < 32 := by omega
 have p2 : 0 ≤ n / 32 % 4 := by omega
 obtain ⟨d, hd⟩ : ∃ d : Nat, n % 32 / 31 = (d : Int) ∧ d ≤ 1 := ⟨(n % 32 / 31).toNat, by omega, by omega⟩
 obtain ⟨hd, hd1⟩ := hd
 generalize n / 32 % 4 = z at *
 generalize n % 32 = s at *
 have hL := Loc.start hV
 clear hV hl ha n1 n2
 generalize l.length = N1 at *
 generalize a.length = N2 at *
 generalize masF l = x at *
 go_enter Tryz.func12, Tryz.ntmps12
 go_wp2_with (first | go_skip | refine tP ?_ | (refine tS ?_; clear hL; intro _ hL) | (refine tB ?_; clear hL; intro _ _ hL _))
 refine (KM.out _ _ hL.vw leX).mono ?_
 rintro e Wc1 ⟨vc1, mc1, rfl, hE, hMc1, hV, hc1⟩
 replace hL := hL.call hE (by assumption) hV; clear hE hV
 obtain ⟨M1, nr, d1, M2, nc, d2, M3, nk, d3, rfl, hx1⟩ := hc1.lit
 have hnc := master_nc hx1
 have HM := Lib.hid hx1
 have HNC := Lib.hid hnc
 rw [← hnc] at HFEW
 clear hx1 KM hnc
 generalize x.nf = nf at *
 generalize x.pen = pen at *
 go_upto_region 2 with ((first | go_skip | refine tP ?_ | (refine tS ?_; clear hL; intro _ hL) | (refine tB ?_; clear hL; intro _ _ hL _)))
 obtain ⟨m2, hL2, hle2, hbx⟩ := Loc.showBox (cs := [.int .i64 nf, .slice M1 nr d1, .int .i64 pen, .slice M2 nc d2, .slice M3 nk d3]) hL
 have hb0 : m2.rangeAt _ 0 [.int .i64 nf, .slice M1 nr d1, .int .i64 pen, .slice M2 nc d2, .slice M3 nk d3] := fun j v hv => by rw [Nat.zero_add]; exact hbx j v hv
 have hb3 := hbx 3 _ rfl
 have HM2 := Lib.hid (HM.out.le (Le.trans leX hle2))
 have hM2 := hL2.mext
 clear hL hle2 hbx HM
 have hL := hL2
 clear hL2
 obtain ⟨nv, hnv⟩ : ∃ nv, nv = nc + d := ⟨_, rfl⟩
 have hnd : wrap64 ((nc : Int) + (d : Int)) = (nv : Int) := by unfold wrap64; omega
 have hnv7 : nv ≤ 7 := by omega
 have HNV := Lib.hid hnv
 clear hnv
 go_wp2_with (first | go_skip | refine tP ?_ | (refine tS ?_; clear hL; intro _ hL) | (refine tB ?_; clear hL; intro _ _ hL _))
 refine (KA.out ((nc : Int) + (d : Int)) nv _ _ hL.vw leX (by have := HNV.out; omega) (by omega)).mono ?_
 rintro e Wv ⟨mv, A8, c8, R8, rfl, hL8, row8⟩
 have hXv := hL8.mext
 have hLj := hL.join hL8
 simp only [List.append_nil] at hLj
 have HU := Lib.hid (valsF_tw a nv)
 have HUL := Lib.hid (valsF_len a nv)
 rw [HUL.out] at row8 ⊢
 generalize valsF a nv = us at *
 have ROW8 := Lib.hid row8
 have hXM2 : Ext m2 mv := exX
 clear hL hL8 row8 KA hd hnd e1 p1
 have hL := hLj
 clear hLj hXv
 have HZ4 := Lib.hid p2
 simp only [Act.put, zq1, zq2, zq3]
 go_wp2_with (first | go_skip | refine tP ?_ | (refine tS ?_; clear hL; intro _ hL) | (refine tB ?_; clear hL; intro _ _ hL _))
 go_loopw [9] (fun i wr => ∃ (j : Nat) (mm : World) (Rr : List Lo), j ≤ nv ∧ i = .int .i64 j ∧ Loc w m wr mm Rr ∧ Hid (Ext m2 mm) ∧ Hid (RowA 39 4 FracC mm (.slice A8 nv c8) nv (zrL us j) Rr) ∧ Hid (z = 0 → j = 0)) (fun i _ => nv - (intOf i).toNat)
 case atStart => exact ⟨0, _, R8, Nat.zero_le _, rfl, hL, hXM2, ROW8.out, fun _ => rfl⟩
 case round =>
  clear hL hXM2 ROW8
  obtain ⟨j, mm, Rr, hj, rfl, hL, HXM, ROW, HJ0⟩ := hrel
  have hXM := HXM.out
  by_cases hgo : j < nv ∧ 0 < z
  ·obtain ⟨hlt, hz⟩ := hgo
   have hlt' : (j : Int) < (nv : Int) := by omega
   have hz' : z > 0 := hz
   obtain ⟨q, hq⟩ := at_some HUL hlt
   obtain ⟨g, cap, cur, e8, rfl, hcap, hcsz⟩ := ROW.out.block (by omega)
   injection e8 with e81 e82 e83
   subst e81 e83
   obtain ⟨a1, A1, n1, c1', f1, B1, p1, d1', hfq, hr4⟩ := frac_row ROW.out (zrL_at hq)
   have HTQ : Hid (Tw 18 q) := HU.out q (List.mem_of_getElem? hq)
   have HFQ : Hid (Fit 200 q) := HTQ.out.fit (by decide)
   have HFQ2 : Hid (Fit 1000 q) := HFQ.out.mono (by decide)
   have HFR := Lib.hid hfq
   have HFIT : Hid ((j + 1) * 4 ≤ cur.size) := by
    show _ ≤ _
    have h1 := ROW.out.fit
    have h2 : (j + 1) * 4 ≤ nv * 4 := Nat.mul_le_mul_right _ hlt
    omega
   have HJL : Hid (j < (zrL us j).length) := by show _ < _; rw [zrL_len, HUL.out]; exact hlt
   have HSET0 := Lib.hid (zrL_set hq)
   have HKEEP := Lib.hid (zrL_keep hq)
   clear hq hfq hcap hcsz e82
   by_cases hden : q.den = 1
   ·have KI : Hid (∀ w m', Vw m' w → Le mm m' → Calls Tryz.prog 53 #[.agg #[.bool a1, .slice A1 n1 c1', .bool f1, .slice B1 p1 d1']] w (RetV w m' fun _ r => r = .bool true)) := by
     show ∀ w m', _
     intro w m' hV hle
     have h1 := r_IsInt _ q w m' hV ((HFR.out.toV HFQ.out (by decide)).le hle) HFQ2.out
     rwa [decide_eq_true hden] at h1
    have HT1 : Hid (Fit 200 ((1 : Int) : Rat)) := (Tn.int (k := 1000) (by decide) (by decide)).fit (by decide)
    have HTD : Hid (Fit 1000 (q - ((1 : Int) : Rat))) := ((HTQ.out.sub (Tw.int (K := 1) (by decide))).fit (by decide)).mono (by decide)
    have KCP : Hid (∀ v w m', Vw m' w → Le mm m' → FracC m' v ((1 : Int) : Rat) → Calls Tryz.prog 25 #[.agg #[.bool a1, .slice A1 n1 c1', .bool f1, .slice B1 p1 d1'], v] w (RetV w m' fun _ r' => r' = .int .i64 (rs (q - ((1 : Int) : Rat))))) := by
     show ∀ v w m', _
     intro v w m' hV hle h
     exact r_Compare _ v _ _ w m' hV ((HFR.out.toV HFQ.out (by decide)).le hle) (h.toV HT1.out (by decide)) HFQ.out HT1.out HTD.out
    by_cases hbig : ((1 : Int) : Rat) < q
    ·have hsg : 0 < rs (q - ((1 : Int) : Rat)) := by
      have := icq_pos ((Rat.lt_iff_sub_pos _ _).1 hbig)
      unfold rs; omega
     have HSET : Hid ((zrL us j).set j ((0 : Int) : Rat) = zrL us (j + 1)) := by
      show _ = _
      rw [← HSET0.out]
      congr 1
      unfold zrT
      rw [if_neg fun h => h.2 hbig]
     clear hbig hden HSET0 HKEEP HTD HT1
     generalize rs (q - ((1 : Int) : Rat)) = sg at *
     have hsd : decide (sg > 0) = true := decide_eq_true hsg
     clear hsg
     go_upto_region 6 with ((first | go_skip | refine tP ?_ | (refine tS ?_; clear hL; intro _ hL) | (refine tB ?_; clear hL; intro _ _ hL _)))
     (try simp only [Nat.zero_add])
     (try simp only [eq_self] at *)
     refine wp_region_by2 15 [false, false, false, false, false, false, false, false, false, false, false, false, false, false, false] [false, false, false, false, false, false, false, false, false, false, false, false, false, false, false] [(fun v _ _ => v = ?c6_0a), (fun v _ _ => v = ?c6_1a), (fun v _ _ => v = ?c6_2a), (fun v _ _ => v = ?c6_3a), Is (.bool true), (fun v _ _ => v = ?c6_5a), (fun v _ _ => v = ?c6_6a), (fun v _ _ => v = ?c6_7a), (fun v _ _ => v = ?c6_8a), (fun v _ _ => v = ?c6_9a), (fun v _ _ => v = ?c6_10a), Of (fun um v => FracC um v ((1 : Int) : Rat)), Is (.int .i64 sg), (fun v _ _ => v = ?c6_13a), (fun v _ _ => v = ?c6_14a)] hL.vw mixed [37, 38, 39, 40, 41, 42, 43, 44, 45, 46, 47, 48, 49, 50, 51] _ (by kernel_rfl) (fun vs => by simp only [lay, Act.put, zq1, zq2, zq3]; rfl) (by kernel_rfl) (by decide) (by decide) ?s6a ?l6a ?r6a
     case s6a =>
      refine ⟨?_, ?_, ?_, ?_, ?_, ?_, ?_, ?_, ?_, ?_, ?_, ?_, ?_, ?_, ?_, trivial⟩
      ·intro vs W1 m1 hE hM hV hD; clear hD
       exact sPw
      ·intro vs W1 m1 hE hM hV hD; clear hD
       exact sPw
      ·intro vs W1 m1 hE hM hV hD; obtain ⟨⟨_, _, -, -, f37⟩, ⟨_, _, -, -, f38⟩, -⟩ := hD
       rw [(f37 : vs 37 = _), (f38 : vs 38 = _)]; clear f37 f38; exact sIy
      ·intro vs W1 m1 hE hM hV hD; obtain ⟨⟨_, _, -, -, f39⟩, -⟩ := hD
       rw [(f39 : vs 39 = _)]; clear f39; exact sLe
      ·intro vs W1 m1 hE hM hV hD; obtain ⟨⟨_, _, -, -, f40⟩, -⟩ := hD
       rw [(f40 : vs 40 = _)]
       clear f40
       go_wp2_with fail
       refine (KI.out _ _ hV leX).mono ?_
       rintro e W2 ⟨v, m2, rfl, hE2, hM2, hV2, h⟩
       go_wp2_with fail
       refine One2.call hE2 hM2 hV2 ?_; first | exact h | exact rfl
      ·intro vs W1 m1 hE hM hV hD; obtain ⟨⟨_, _, -, -, f41⟩, -⟩ := hD
       rw [(f41 : vs 41 = _)]; clear f41; exact sPw
      ·intro vs W1 m1 hE hM hV hD; obtain ⟨⟨_, _, -, -, f42⟩, -, -⟩ := hD
       rw [(f42 : vs 42 = _)]; clear f42; exact sPw
      ·intro vs W1 m1 hE hM hV hD; obtain ⟨⟨_, _, -, -, f43⟩, -⟩ := hD
       rw [(f43 : vs 43 = _)]; clear f43; exact sPw
      ·intro vs W1 m1 hE hM hV hD; obtain ⟨⟨_, _, -, -, f43⟩, -⟩ := hD
       rw [(f43 : vs 43 = _)]; clear f43; exact sPw
      ·intro vs W1 m1 hE hM hV hD; obtain ⟨⟨_, _, -, -, f44⟩, ⟨_, _, -, -, f45⟩, ⟨_, _, -, -, f43⟩, -⟩ := hD
       rw [(f44 : vs 44 = _), (f45 : vs 45 = _), (f43 : vs 43 = _)]; clear f44 f45 f43; exact sIy
      ·intro vs W1 m1 hE hM hV hD; obtain ⟨⟨_, _, -, -, f46⟩, ⟨_, _, -, -, f43⟩, -⟩ := hD
       rw [(f46 : vs 46 = _), (f43 : vs 43 = _)]; clear f46 f43; exact sLe
      ·intro vs W1 m1 hE hM hV hD; obtain ⟨⟨_, _, -, -, f43⟩, -, -⟩ := hD
       rw [(f43 : vs 43 = _)]
       clear f43
       go_wp2_with fail
       refine (r_Int 1 _ _ hV (by decide) (by decide)).mono ?_
       rintro e W2 ⟨v, m2, rfl, hE2, hM2, hV2, h⟩
       go_wp2_with fail
       refine One2.call hE2 hM2 hV2 ?_; first | exact h | exact rfl
      ·intro vs W1 m1 hE hM hV hD; obtain ⟨⟨_, _, -, -, f47⟩, ⟨_, _, -, i48, f48⟩, -, ⟨_, _, -, -, f43⟩, -⟩ := hD
       rw [(f47 : vs 47 = _), (f43 : vs 43 = _)]
       clear f47 f43
       have f48 : FracC _ (vs 48) ((1 : Int) : Rat) := f48
       replace f48 := f48.le i48.le
       clear i48
       go_wp2_with fail
       refine (KCP.out _ _ _ hV leX f48).mono ?_
       rintro e W2 ⟨v, m2, rfl, hE2, hM2, hV2, h⟩
       go_wp2_with fail
       refine One2.call hE2 hM2 hV2 ?_; first | exact h | exact rfl
      ·intro vs W1 m1 hE hM hV hD; obtain ⟨⟨_, _, -, -, f49⟩, ⟨_, _, -, -, f43⟩, -⟩ := hD
       rw [(f49 : vs 49 = _), (f43 : vs 43 = _)]; clear f49 f43; exact sPw
      ·intro vs W1 m1 hE hM hV hD; obtain ⟨⟨_, _, -, -, f43⟩, ⟨_, _, -, -, f50⟩, -⟩ := hD
       rw [(f43 : vs 43 = _), (f50 : vs 50 = _)]; clear f43 f50; exact sPw
     case l6a =>
      refine ⟨nF, nF, nF, nF, nF, nF, nF, nF, nF, nF, nF, nF, nF, nF, nF, trivial⟩
     intro vs W1 m1 hE hM hV hF hD
     clear hD
     obtain ⟨⟨_, _, -, -, f37⟩, ⟨_, _, -, -, f38⟩, ⟨_, _, -, -, f39⟩, ⟨_, _, -, -, f40⟩, ⟨_, _, -, -, f41⟩, ⟨_, _, -, -, f42⟩, ⟨_, _, -, -, f43⟩, ⟨_, _, -, -, f44⟩, ⟨_, _, -, -, f45⟩, ⟨_, _, -, -, f46⟩, ⟨_, _, -, -, f47⟩, ⟨_, _, -, i48, f48⟩, ⟨_, _, -, -, f49⟩, ⟨_, _, -, -, f50⟩, ⟨_, _, -, -, f51⟩, -⟩ := hF
     replace hL := hL.call hE hM hV
     have f37 : vs 37 = _ := f37
     generalize vs 37 = x37 at f37 ⊢
     subst x37
     have f38 : vs 38 = _ := f38
     generalize vs 38 = x38 at f38 ⊢
     subst x38
     have f39 : vs 39 = _ := f39
     generalize vs 39 = x39 at f39 ⊢
     subst x39
     have f40 : vs 40 = _ := f40
     generalize vs 40 = x40 at f40 ⊢
     subst x40
     have f41 : vs 41 = _ := f41
     generalize vs 41 = x41 at f41 ⊢
     subst x41
     have f42 : vs 42 = _ := f42
     generalize vs 42 = x42 at f42 ⊢
     subst x42
     have f43 : vs 43 = _ := f43
     generalize vs 43 = x43 at f43 ⊢
     subst x43
     have f44 : vs 44 = _ := f44
     generalize vs 44 = x44 at f44 ⊢
     subst x44
     have f45 : vs 45 = _ := f45
     generalize vs 45 = x45 at f45 ⊢
     subst x45
     have f46 : vs 46 = _ := f46
     generalize vs 46 = x46 at f46 ⊢
     subst x46
     have f47 : vs 47 = _ := f47
     generalize vs 47 = x47 at f47 ⊢
     subst x47
     replace f48 : FracC _ (vs 48) ((1 : Int) : Rat) := f48
     replace f48 := f48.le i48.le
     clear i48
     have f49 : vs 49 = _ := f49
     generalize vs 49 = x49 at f49 ⊢
     subst x49
     have f50 : vs 50 = _ := f50
     generalize vs 50 = x50 at f50 ⊢
     subst x50
     have f51 : vs 51 = _ := f51
     generalize vs 51 = x51 at f51 ⊢
     subst x51
     clear hE hV
     simp only [List.drop_succ_cons, List.drop_zero]
     go_wp2_with (first | go_skip | refine tP ?_ | (refine tS ?_; clear hL; intro _ hL) | (refine tB ?_; clear hL; intro _ _ hL _))
     refine QN.mk ?_
     go_wp2_with (first | go_skip | refine tP ?_ | (refine tS ?_; clear hL; intro _ hL) | (refine tB ?_; clear hL; intro _ _ hL _))
     refine (r_Int 0 _ _ hL.vw (by decide) (by decide)).mono ?_
     rintro e Wza ⟨vza, mza, rfl, hE, hMza, hV, hza⟩
     replace hL := hL.call hE (by assumption) hV; clear hE hV
     obtain ⟨gza', Aza', nza', cza', hza', Bza', kza', dza', rfl, hza⟩ := hza.lit
     have HZ0 := Lib.hid hza
     clear hza
     have hfit : 0 + j * 4 + 4 ≤ cur.size := by have h1 := HFIT.out; omega
     go_wp2_with (first | (with_reducible refine stS ?_) | (first | go_skip | refine tP ?_ | (refine tS ?_; clear hL; intro _ hL) | (refine tB ?_; clear hL; intro _ _ hL _)))
     refine goA ?_
     refine wl_storeS hL (wanted_none rfl) (vs := [.bool gza', .slice Aza' nza' cza', .bool hza', .slice Bza' kza' dza']) (off := 0 + j * 4) rfl rfl rfl ag_Frac rfl (n := 0) rfl hfit rfl ?_
     have HLX : Hid (Ext m2 _) := hXM.trans (exX : Ext mm mza)
     have ra := RowA.putW (k := j) (x := ((0 : Int) : Rat)) (ws := [.bool gza', .slice Aza' nza' cza', .bool hza', .slice Bza' kza' dza']) (RowA.le FracC.mono ROW.out (leX : Le mm mza)) HJL.out rfl HZ0.out
     rw [HSET.out] at ra
     have RA := Lib.hid ra
     clear hL ra hfit
     intro W6 hL hS6
     simp only [List.set_cons_zero] at hL
     simp only [Act.put, zq1, zq2, zq3]
     go_wp2_with (first | go_skip | refine tP ?_ | (refine tS ?_; clear hL; intro _ hL) | (refine tB ?_; clear hL; intro _ _ hL _))
     go_roundw
     case rel => exact ⟨j + 1, _, _, by omega, by go_num, hL, HLX.out, RA.out, fun h => absurd h (by omega)⟩
     case measure => simp [intOf] <;> omega
    ·have hsg : rs (q - ((1 : Int) : Rat)) ≤ 0 := icq_npos fun h => hbig ((Rat.lt_iff_sub_pos _ _).2 h)
     have HSAME : Hid (zrL us (j + 1) = zrL us j) := by
      show _ = _
      refine HKEEP.out ?_
      unfold zrT
      rw [if_pos ⟨hden, hbig⟩]
     clear hbig hden HSET0 HKEEP HTD HT1
     generalize rs (q - ((1 : Int) : Rat)) = sg at *
     have hsd : decide (sg > 0) = false := decide_eq_false (by omega)
     clear hsg
     go_upto_region 6 with ((first | go_skip | refine tP ?_ | (refine tS ?_; clear hL; intro _ hL) | (refine tB ?_; clear hL; intro _ _ hL _)))
     (try simp only [Nat.zero_add])
     (try simp only [eq_self] at *)
     refine wp_region_by2 15 [false, false, false, false, false, false, false, false, false, false, false, false, false, false, false] [false, false, false, false, false, false, false, false, false, false, false, false, false, false, false] [(fun v _ _ => v = ?c6_0b), (fun v _ _ => v = ?c6_1b), (fun v _ _ => v = ?c6_2b), (fun v _ _ => v = ?c6_3b), Is (.bool true), (fun v _ _ => v = ?c6_5b), (fun v _ _ => v = ?c6_6b), (fun v _ _ => v = ?c6_7b), (fun v _ _ => v = ?c6_8b), (fun v _ _ => v = ?c6_9b), (fun v _ _ => v = ?c6_10b), Of (fun um v => FracC um v ((1 : Int) : Rat)), Is (.int .i64 sg), (fun v _ _ => v = ?c6_13b), (fun v _ _ => v = ?c6_14b)] hL.vw mixed [37, 38, 39, 40, 41, 42, 43, 44, 45, 46, 47, 48, 49, 50, 51] _ (by kernel_rfl) (fun vs => by simp only [lay, Act.put, zq1, zq2, zq3]; rfl) (by kernel_rfl) (by decide) (by decide) ?s6b ?l6b ?r6b
     case s6b =>
      refine ⟨?_, ?_, ?_, ?_, ?_, ?_, ?_, ?_, ?_, ?_, ?_, ?_, ?_, ?_, ?_, trivial⟩
      ·intro vs W1 m1 hE hM hV hD; clear hD
       exact sPw
      ·intro vs W1 m1 hE hM hV hD; clear hD
       exact sPw
      ·intro vs W1 m1 hE hM hV hD; obtain ⟨⟨_, _, -, -, f37⟩, ⟨_, _, -, -, f38⟩, -⟩ := hD
       rw [(f37 : vs 37 = _), (f38 : vs 38 = _)]; clear f37 f38; exact sIy
      ·intro vs W1 m1 hE hM hV hD; obtain ⟨⟨_, _, -, -, f39⟩, -⟩ := hD
       rw [(f39 : vs 39 = _)]; clear f39; exact sLe
      ·intro vs W1 m1 hE hM hV hD; obtain ⟨⟨_, _, -, -, f40⟩, -⟩ := hD
       rw [(f40 : vs 40 = _)]
       clear f40
       go_wp2_with fail
       refine (KI.out _ _ hV leX).mono ?_
       rintro e W2 ⟨v, m2, rfl, hE2, hM2, hV2, h⟩
       go_wp2_with fail
       refine One2.call hE2 hM2 hV2 ?_; first | exact h | exact rfl
      ·intro vs W1 m1 hE hM hV hD; obtain ⟨⟨_, _, -, -, f41⟩, -⟩ := hD
       rw [(f41 : vs 41 = _)]; clear f41; exact sPw
      ·intro vs W1 m1 hE hM hV hD; obtain ⟨⟨_, _, -, -, f42⟩, -, -⟩ := hD
       rw [(f42 : vs 42 = _)]; clear f42; exact sPw
      ·intro vs W1 m1 hE hM hV hD; obtain ⟨⟨_, _, -, -, f43⟩, -⟩ := hD
       rw [(f43 : vs 43 = _)]; clear f43; exact sPw
      ·intro vs W1 m1 hE hM hV hD; obtain ⟨⟨_, _, -, -, f43⟩, -⟩ := hD
       rw [(f43 : vs 43 = _)]; clear f43; exact sPw
      ·intro vs W1 m1 hE hM hV hD; obtain ⟨⟨_, _, -, -, f44⟩, ⟨_, _, -, -, f45⟩, ⟨_, _, -, -, f43⟩, -⟩ := hD
       rw [(f44 : vs 44 = _), (f45 : vs 45 = _), (f43 : vs 43 = _)]; clear f44 f45 f43; exact sIy
      ·intro vs W1 m1 hE hM hV hD; obtain ⟨⟨_, _, -, -, f46⟩, ⟨_, _, -, -, f43⟩, -⟩ := hD
       rw [(f46 : vs 46 = _), (f43 : vs 43 = _)]; clear f46 f43; exact sLe
      ·intro vs W1 m1 hE hM hV hD; obtain ⟨⟨_, _, -, -, f43⟩, -, -⟩ := hD
       rw [(f43 : vs 43 = _)]
       clear f43
       go_wp2_with fail
       refine (r_Int 1 _ _ hV (by decide) (by decide)).mono ?_
       rintro e W2 ⟨v, m2, rfl, hE2, hM2, hV2, h⟩
       go_wp2_with fail
       refine One2.call hE2 hM2 hV2 ?_; first | exact h | exact rfl
      ·intro vs W1 m1 hE hM hV hD; obtain ⟨⟨_, _, -, -, f47⟩, ⟨_, _, -, i48, f48⟩, -, ⟨_, _, -, -, f43⟩, -⟩ := hD
       rw [(f47 : vs 47 = _), (f43 : vs 43 = _)]
       clear f47 f43
       have f48 : FracC _ (vs 48) ((1 : Int) : Rat) := f48
       replace f48 := f48.le i48.le
       clear i48
       go_wp2_with fail
       refine (KCP.out _ _ _ hV leX f48).mono ?_
       rintro e W2 ⟨v, m2, rfl, hE2, hM2, hV2, h⟩
       go_wp2_with fail
       refine One2.call hE2 hM2 hV2 ?_; first | exact h | exact rfl
      ·intro vs W1 m1 hE hM hV hD; obtain ⟨⟨_, _, -, -, f49⟩, ⟨_, _, -, -, f43⟩, -⟩ := hD
       rw [(f49 : vs 49 = _), (f43 : vs 43 = _)]; clear f49 f43; exact sPw
      ·intro vs W1 m1 hE hM hV hD; obtain ⟨⟨_, _, -, -, f43⟩, ⟨_, _, -, -, f50⟩, -⟩ := hD
       rw [(f43 : vs 43 = _), (f50 : vs 50 = _)]; clear f43 f50; exact sPw
     case l6b =>
      refine ⟨nF, nF, nF, nF, nF, nF, nF, nF, nF, nF, nF, nF, nF, nF, nF, trivial⟩
     intro vs W1 m1 hE hM hV hF hD
     clear hD
     obtain ⟨⟨_, _, -, -, f37⟩, ⟨_, _, -, -, f38⟩, ⟨_, _, -, -, f39⟩, ⟨_, _, -, -, f40⟩, ⟨_, _, -, -, f41⟩, ⟨_, _, -, -, f42⟩, ⟨_, _, -, -, f43⟩, ⟨_, _, -, -, f44⟩, ⟨_, _, -, -, f45⟩, ⟨_, _, -, -, f46⟩, ⟨_, _, -, -, f47⟩, ⟨_, _, -, i48, f48⟩, ⟨_, _, -, -, f49⟩, ⟨_, _, -, -, f50⟩, ⟨_, _, -, -, f51⟩, -⟩ := hF
     replace hL := hL.call hE hM hV
     have f37 : vs 37 = _ := f37
     generalize vs 37 = x37 at f37 ⊢
     subst x37
     have f38 : vs 38 = _ := f38
     generalize vs 38 = x38 at f38 ⊢
     subst x38
     have f39 : vs 39 = _ := f39
     generalize vs 39 = x39 at f39 ⊢
     subst x39
     have f40 : vs 40 = _ := f40
     generalize vs 40 = x40 at f40 ⊢
     subst x40
     have f41 : vs 41 = _ := f41
     generalize vs 41 = x41 at f41 ⊢
     subst x41
     have f42 : vs 42 = _ := f42
     generalize vs 42 = x42 at f42 ⊢
     subst x42
     have f43 : vs 43 = _ := f43
     generalize vs 43 = x43 at f43 ⊢
     subst x43
     have f44 : vs 44 = _ := f44
     generalize vs 44 = x44 at f44 ⊢
     subst x44
     have f45 : vs 45 = _ := f45
     generalize vs 45 = x45 at f45 ⊢
     subst x45
     have f46 : vs 46 = _ := f46
     generalize vs 46 = x46 at f46 ⊢
     subst x46
     have f47 : vs 47 = _ := f47
     generalize vs 47 = x47 at f47 ⊢
     subst x47
     replace f48 : FracC _ (vs 48) ((1 : Int) : Rat) := f48
     replace f48 := f48.le i48.le
     clear i48
     have f49 : vs 49 = _ := f49
     generalize vs 49 = x49 at f49 ⊢
     subst x49
     have f50 : vs 50 = _ := f50
     generalize vs 50 = x50 at f50 ⊢
     subst x50
     have f51 : vs 51 = _ := f51
     generalize vs 51 = x51 at f51 ⊢
     subst x51
     clear hE hV
     simp only [List.drop_succ_cons, List.drop_zero]
     go_wp2_with (first | go_skip | refine tP ?_ | (refine tS ?_; clear hL; intro _ hL) | (refine tB ?_; clear hL; intro _ _ hL _))
     refine QN.mk ?_
     go_wp2_with (first | go_skip | refine tP ?_ | (refine tS ?_; clear hL; intro _ hL) | (refine tB ?_; clear hL; intro _ _ hL _))
     go_roundw
     case rel => exact ⟨j + 1, _, _, by omega, by go_num, hL, hXM.trans exX, by rw [HSAME.out]; exact RowA.le FracC.mono ROW.out leX, fun h => absurd h (by omega)⟩
     case measure => simp [intOf] <;> omega
   ·have KI : Hid (∀ w m', Vw m' w → Le mm m' → Calls Tryz.prog 53 #[.agg #[.bool a1, .slice A1 n1 c1', .bool f1, .slice B1 p1 d1']] w (RetV w m' fun _ r => r = .bool false)) := by
     show ∀ w m', _
     intro w m' hV hle
     have h1 := r_IsInt _ q w m' hV ((HFR.out.toV HFQ.out (by decide)).le hle) HFQ2.out
     rwa [decide_eq_false hden] at h1
    have HSET : Hid ((zrL us j).set j ((0 : Int) : Rat) = zrL us (j + 1)) := by
     show _ = _
     rw [← HSET0.out]
     congr 1
     unfold zrT
     rw [if_neg fun h => hden h.1]
    clear hden HSET0 HKEEP
    go_upto_region 6 with ((first | go_skip | refine tP ?_ | (refine tS ?_; clear hL; intro _ hL) | (refine tB ?_; clear hL; intro _ _ hL _)))
    (try simp only [Nat.zero_add])
    (try simp only [eq_self] at *)
    refine wp_region_by2 15 [false, false, false, false, false, false, false, false, false, false, false, false, false, false, false] [false, false, false, false, false, false, false, false, false, false, false, false, false, false, false] [(fun v _ _ => v = ?c6_0c), (fun v _ _ => v = ?c6_1c), (fun v _ _ => v = ?c6_2c), (fun v _ _ => v = ?c6_3c), Is (.bool false), (fun v _ _ => v = ?c6_5c), (fun v _ _ => v = ?c6_6c), (fun v _ _ => v = ?c6_7c), (fun v _ _ => v = ?c6_8c), (fun v _ _ => v = ?c6_9c), (fun v _ _ => v = ?c6_10c), (fun v _ _ => v = ?c6_11c), (fun v _ _ => v = ?c6_12c), (fun v _ _ => v = ?c6_13c), (fun v _ _ => v = ?c6_14c)] hL.vw mixed [37, 38, 39, 40, 41, 42, 43, 44, 45, 46, 47, 48, 49, 50, 51] _ (by kernel_rfl) (fun vs => by simp only [lay, Act.put, zq1, zq2, zq3]; rfl) (by kernel_rfl) (by decide) (by decide) ?s6c ?l6c ?r6c
    case s6c =>
     refine ⟨?_, ?_, ?_, ?_, ?_, ?_, ?_, ?_, ?_, ?_, ?_, ?_, ?_, ?_, ?_, trivial⟩
     ·intro vs W1 m1 hE hM hV hD; clear hD
      exact sPw
     ·intro vs W1 m1 hE hM hV hD; clear hD
      exact sPw
     ·intro vs W1 m1 hE hM hV hD; obtain ⟨⟨_, _, -, -, f37⟩, ⟨_, _, -, -, f38⟩, -⟩ := hD
      rw [(f37 : vs 37 = _), (f38 : vs 38 = _)]; clear f37 f38; exact sIy
     ·intro vs W1 m1 hE hM hV hD; obtain ⟨⟨_, _, -, -, f39⟩, -⟩ := hD
      rw [(f39 : vs 39 = _)]; clear f39; exact sLe
     ·intro vs W1 m1 hE hM hV hD; obtain ⟨⟨_, _, -, -, f40⟩, -⟩ := hD
      rw [(f40 : vs 40 = _)]
      clear f40
      go_wp2_with fail
      refine (KI.out _ _ hV leX).mono ?_
      rintro e W2 ⟨v, m2, rfl, hE2, hM2, hV2, h⟩
      go_wp2_with fail
      refine One2.call hE2 hM2 hV2 ?_; first | exact h | exact rfl
     ·intro vs W1 m1 hE hM hV hD; obtain ⟨⟨_, _, -, -, f41⟩, -⟩ := hD
      rw [(f41 : vs 41 = _)]; clear f41; exact sPw
     ·intro vs W1 m1 hE hM hV hD; obtain ⟨⟨_, _, -, -, f42⟩, -, -⟩ := hD
      rw [(f42 : vs 42 = _)]; clear f42; exact sPw
     ·intro vs W1 m1 hE hM hV hD; obtain ⟨⟨_, _, -, -, f43⟩, -⟩ := hD
      rw [(f43 : vs 43 = _)]; clear f43; exact sPw
     ·intro vs W1 m1 hE hM hV hD; obtain ⟨⟨_, _, -, -, f43⟩, -⟩ := hD
      rw [(f43 : vs 43 = _)]; clear f43; exact sPw
     ·intro vs W1 m1 hE hM hV hD; obtain ⟨⟨_, _, -, -, f44⟩, ⟨_, _, -, -, f45⟩, ⟨_, _, -, -, f43⟩, -⟩ := hD
      rw [(f44 : vs 44 = _), (f45 : vs 45 = _), (f43 : vs 43 = _)]; clear f44 f45 f43; exact sPw
     ·intro vs W1 m1 hE hM hV hD; obtain ⟨⟨_, _, -, -, f46⟩, ⟨_, _, -, -, f43⟩, -⟩ := hD
      rw [(f46 : vs 46 = _), (f43 : vs 43 = _)]; clear f46 f43; exact sPw
     ·intro vs W1 m1 hE hM hV hD; obtain ⟨⟨_, _, -, -, f43⟩, -, -⟩ := hD
      rw [(f43 : vs 43 = _)]; clear f43; exact sPw
     ·intro vs W1 m1 hE hM hV hD; obtain ⟨⟨_, _, -, -, f47⟩, ⟨_, _, -, -, f48⟩, -, ⟨_, _, -, -, f43⟩, -⟩ := hD
      rw [(f47 : vs 47 = _), (f48 : vs 48 = _), (f43 : vs 43 = _)]; clear f47 f48 f43; exact sPw
     ·intro vs W1 m1 hE hM hV hD; obtain ⟨⟨_, _, -, -, f49⟩, ⟨_, _, -, -, f43⟩, -⟩ := hD
      rw [(f49 : vs 49 = _), (f43 : vs 43 = _)]; clear f49 f43; exact sPw
     ·intro vs W1 m1 hE hM hV hD; obtain ⟨⟨_, _, -, -, f43⟩, ⟨_, _, -, -, f50⟩, -⟩ := hD
      rw [(f43 : vs 43 = _), (f50 : vs 50 = _)]; clear f43 f50; exact sPw
    case l6c =>
     refine ⟨nF, nF, nF, nF, nF, nF, nF, nF, nF, nF, nF, nF, nF, nF, nF, trivial⟩
    intro vs W1 m1 hE hM hV hF hD
    clear hD
    obtain ⟨⟨_, _, -, -, f37⟩, ⟨_, _, -, -, f38⟩, ⟨_, _, -, -, f39⟩, ⟨_, _, -, -, f40⟩, ⟨_, _, -, -, f41⟩, ⟨_, _, -, -, f42⟩, ⟨_, _, -, -, f43⟩, ⟨_, _, -, -, f44⟩, ⟨_, _, -, -, f45⟩, ⟨_, _, -, -, f46⟩, ⟨_, _, -, -, f47⟩, ⟨_, _, -, -, f48⟩, ⟨_, _, -, -, f49⟩, ⟨_, _, -, -, f50⟩, ⟨_, _, -, -, f51⟩, -⟩ := hF
    replace hL := hL.call hE hM hV
    have f37 : vs 37 = _ := f37
    generalize vs 37 = x37 at f37 ⊢
    subst x37
    have f38 : vs 38 = _ := f38
    generalize vs 38 = x38 at f38 ⊢
    subst x38
    have f39 : vs 39 = _ := f39
    generalize vs 39 = x39 at f39 ⊢
    subst x39
    have f40 : vs 40 = _ := f40
    generalize vs 40 = x40 at f40 ⊢
    subst x40
    have f41 : vs 41 = _ := f41
    generalize vs 41 = x41 at f41 ⊢
    subst x41
    have f42 : vs 42 = _ := f42
    generalize vs 42 = x42 at f42 ⊢
    subst x42
    have f43 : vs 43 = _ := f43
    generalize vs 43 = x43 at f43 ⊢
    subst x43
    have f44 : vs 44 = _ := f44
    generalize vs 44 = x44 at f44 ⊢
    subst x44
    have f45 : vs 45 = _ := f45
    generalize vs 45 = x45 at f45 ⊢
    subst x45
    have f46 : vs 46 = _ := f46
    generalize vs 46 = x46 at f46 ⊢
    subst x46
    have f47 : vs 47 = _ := f47
    generalize vs 47 = x47 at f47 ⊢
    subst x47
    have f48 : vs 48 = _ := f48
    generalize vs 48 = x48 at f48 ⊢
    subst x48
    have f49 : vs 49 = _ := f49
    generalize vs 49 = x49 at f49 ⊢
    subst x49
    have f50 : vs 50 = _ := f50
    generalize vs 50 = x50 at f50 ⊢
    subst x50
    have f51 : vs 51 = _ := f51
    generalize vs 51 = x51 at f51 ⊢
    subst x51
    clear hE hV
    simp only [List.drop_succ_cons, List.drop_zero]
    go_wp2_with (first | go_skip | refine tP ?_ | (refine tS ?_; clear hL; intro _ hL) | (refine tB ?_; clear hL; intro _ _ hL _))
    refine QN.mk ?_
    go_wp2_with (first | go_skip | refine tP ?_ | (refine tS ?_; clear hL; intro _ hL) | (refine tB ?_; clear hL; intro _ _ hL _))
    refine (r_Int 0 _ _ hL.vw (by decide) (by decide)).mono ?_
    rintro e Wzb ⟨vzb, mzb, rfl, hE, hMzb, hV, hzb⟩
    replace hL := hL.call hE (by assumption) hV; clear hE hV
    obtain ⟨gzb', Azb', nzb', czb', hzb', Bzb', kzb', dzb', rfl, hzb⟩ := hzb.lit
    have HZ0 := Lib.hid hzb
    clear hzb
    have hfit : 0 + j * 4 + 4 ≤ cur.size := by have h1 := HFIT.out; omega
    go_wp2_with (first | (with_reducible refine stS ?_) | (first | go_skip | refine tP ?_ | (refine tS ?_; clear hL; intro _ hL) | (refine tB ?_; clear hL; intro _ _ hL _)))
    refine goA ?_
    refine wl_storeS hL (wanted_none rfl) (vs := [.bool gzb', .slice Azb' nzb' czb', .bool hzb', .slice Bzb' kzb' dzb']) (off := 0 + j * 4) rfl rfl rfl ag_Frac rfl (n := 0) rfl hfit rfl ?_
    have HLX : Hid (Ext m2 _) := hXM.trans (exX : Ext mm mzb)
    have ra := RowA.putW (k := j) (x := ((0 : Int) : Rat)) (ws := [.bool gzb', .slice Azb' nzb' czb', .bool hzb', .slice Bzb' kzb' dzb']) (RowA.le FracC.mono ROW.out (leX : Le mm mzb)) HJL.out rfl HZ0.out
    rw [HSET.out] at ra
    have RA := Lib.hid ra
    clear hL ra hfit
    intro W6 hL hS6
    simp only [List.set_cons_zero] at hL
    simp only [Act.put, zq1, zq2, zq3]
    go_wp2_with (first | go_skip | refine tP ?_ | (refine tS ?_; clear hL; intro _ hL) | (refine tB ?_; clear hL; intro _ _ hL _))
    go_roundw
    case rel => exact ⟨j + 1, _, _, by omega, by go_num, hL, HLX.out, RA.out, fun h => absurd h (by omega)⟩
    case measure => simp [intOf] <;> omega
  ·obtain ⟨fin, hfin⟩ : ∃ fin, fin = zrL us j := ⟨_, rfl⟩
   have HFT : Hid (∀ u ∈ fin, Tw 18 u) := by
    show ∀ u ∈ fin, _
    rw [hfin]; exact zrL_tw HU.out j
   have HFL : Hid (fin.length = nv) := by show _ = _; rw [hfin, zrL_len]; exact HUL.out
   have row2 := ROW.out
   rw [← hfin] at row2
   have ROW2 := Lib.hid row2
   clear hfin row2 ROW HU HUL
   obtain ⟨m9, hL9, hle9, hl9, -⟩ := RowA.show (A := []) FracC.mono hL ROW2.out
   have HFV : Hid (FracL m9 (.slice A8 nv c8) fin) := hl9
   have HM9 := Lib.hid (HM2.out.le (Le.trans (leX : Le m2 mm) hle9))
   have hb9 := rangeAt_le hb0 (Le.trans (leX : Le m2 mm) hle9)
   clear hL hl9 hle9 ROW2 HM2 hb0 hXM HXM hb3
   have hL := hL9
   clear hL9
   by_cases hjn : j < nv
   case' pos =>
    have hlt' : (j : Int) < (nv : Int) := by omega
    have hz0 : ¬ z > 0 := fun h => hgo ⟨hjn, h⟩
    have hzd : decide (z > 0) = false := decide_eq_false hz0
    clear hgo hz0
    go_wp2_with (first | go_skip | refine tP ?_ | (refine tS ?_; clear hL; intro _ hL) | (refine tB ?_; clear hL; intro _ _ hL _))
   case' neg =>
    have hlt' : (nv : Int) ≤ (j : Int) := by omega
    clear hgo
    go_wp2_with (first | go_skip | refine tP ?_ | (refine tS ?_; clear hL; intro _ hL) | (refine tB ?_; clear hL; intro _ _ hL _))
   all_goals
    by_cases hd0 : d = 0
    ·subst hd0
     have hnn : nv = nc := HNV.out
     subst hnn
     have VK : Hid (VOk x fin) := ⟨OK.out, by rw [HFL.out]; exact HNC.out, HFT.out, Nat.le_trans HF6.out (by decide)⟩
     refine (b_Round _ _ x fin _ _ hL.vw (HM9.out.le leX) (FracL.le HFV.out leX) VK.out HF6.out).mono ?_
     rintro e Wr ⟨_, mr, rfl, hE, hMr, hV, v1, rfl, hv1⟩
     replace hL := hL.call hE (by assumption) hV; clear hE hV
     obtain ⟨Y1, y1, rfl, hy1, hv1⟩ := hv1.lit
     have HV1 := Lib.hid hv1
     clear hv1 hy1
     go_wp2_with (first | go_skip | refine tP ?_ | (refine tS ?_; clear hL; intro _ hL) | (refine tB ?_; clear hL; intro _ _ hL _))
     refine (r_Round _ _ x fin _ _ hL.vw (HM9.out.le leX) (FracL.le HFV.out leX) VK.out HF6.out).mono ?_
     rintro e Ws ⟨_, ms', rfl, hE, hMs, hV, v2, rfl, hv2⟩
     replace hL := hL.call hE (by assumption) hV; clear hE hV
     obtain ⟨Y2, y2, rfl, hy2, hv2⟩ := hv2.lit
     have HV2 := Lib.hid hv2
     have HRL : Hid ((rndO x fin).length ≤ 1000000) := rndO_len x fin HF6.out
     clear hv2 hy2
     generalize rndO x fin = ro at *
     generalize rndE x fin = re at *
     have hee : (re == re) = true := by simp
     go_wp2_with (first | go_skip | refine tP ?_ | (refine tS ?_; clear hL; intro _ hL) | (refine tB ?_; clear hL; intro _ _ hL _))
     refine (r_SameInts _ _ ro _ _ hL.vw (IntL.le HV1.out leX) (IntL.le HV2.out leX) HRL.out).mono ?_
     rintro e Wc7 ⟨_, mc7, rfl, hE, hMc7, hV, rfl⟩
     replace hL := hL.call hE (by assumption) hV; clear hE hV
     go_wp2_with (first | go_skip | refine tP ?_ | (refine tS ?_; clear hL; intro _ hL) | (refine tB ?_; clear hL; intro _ _ hL _))
     refine (kb_known _ _ hL.vw).mono ?_
     rintro e Wc8 ⟨_, mc8, rfl, hE, hMc8, hV, rfl⟩
     replace hL := hL.call hE (by assumption) hV; clear hE hV
     go_wp2_with (first | go_skip | refine tP ?_ | (refine tS ?_; clear hL; intro _ hL) | (refine tB ?_; clear hL; intro _ _ hL _))
     go_ret
     exact RetV.mk hL rfl
    ·have HNE : Hid (nv ≠ x.cols.length) := by
      show _ ≠ _
      have h1 := HNV.out
      have h2 := HNC.out
      omega
     clear hd0
     refine (b_Round_len _ x A8 nv c8 _ _ hL.vw (HM9.out.le leX) OK.out HNE.out).mono ?_
     rintro e Wc5 ⟨_, mc5, rfl, hE, hMc5, hV, rfl⟩
     replace hL := hL.call hE (by assumption) hV; clear hE hV
     go_wp2_with (first | go_skip | refine tP ?_ | (refine tS ?_; clear hL; intro _ hL) | (refine tB ?_; clear hL; intro _ _ hL _))
     refine (r_Round_len _ x A8 nv c8 _ _ hL.vw (HM9.out.le leX) OK.out HNE.out).mono ?_
     rintro e Wc6 ⟨_, mc6, rfl, hE, hMc6, hV, rfl⟩
     replace hL := hL.call hE (by assumption) hV; clear hE hV
     go_wp2_with (first | go_skip | refine tP ?_ | (refine tS ?_; clear hL; intro _ hL) | (refine tB ?_; clear hL; intro _ _ hL _))
     refine (r_SameInts _ _ [] _ _ hL.vw ListV.nil ListV.nil (by simp)).mono ?_
     rintro e Wc7 ⟨_, mc7, rfl, hE, hMc7, hV, rfl⟩
     replace hL := hL.call hE (by assumption) hV; clear hE hV
     go_wp2_with (first | go_skip | refine tP ?_ | (refine tS ?_; clear hL; intro _ hL) | (refine tB ?_; clear hL; intro _ _ hL _))
     refine (kb_known _ _ hL.vw).mono ?_
     rintro e Wc8 ⟨_, mc8, rfl, hE, hMc8, hV, rfl⟩
     replace hL := hL.call hE (by assumption) hV; clear hE hV
     go_wp2_with (first | go_skip | refine tP ?_ | (refine tS ?_; clear hL; intro _ hL) | (refine tB ?_; clear hL; intro _ _ hL _))
     go_ret
     exact RetV.mk hL rfl
end Go.Proofs.YtniigfikpfinfaaGreat

/- BranchRounds: for every input the law returns true, and each argument reads afterwards as it read before. There is no condition. -/
namespace Go.Proofs.YtniigfikpfinfaaGreat
open Go.ChangeShapes Go.WideShapes Go.ChangeAt Go.RowKit

theorem branchRounds_lifted (os : Os) (started : os.Started) (H : Type) (enc : TypeId × Value → H) :
  ReturnsInHanded {} Tryz.checked os 12 .any (Rows.branchRoundsSpec.pre6 enc Tryz.prog Tryz.f12 Rows.branchRoundsRow.domain false) (Rows.branchRoundsSpec.post enc Tryz.prog Tryz.f12 false true false false) := by
 refine returnsInHanded_of_change (C := Tryz.checked) ownK started (by kernel_rfl) Tryz.func12
  (ChangeSpec.witness6 (enc := enc) (C := Tryz.checked) false ⟨#[], #[.slice none 0 0, .slice none 0 0, .int .i64 0], []⟩ 8 (by kernel_rfl) (by kernel_rfl) (by kernel_rfl) (by kernel_rfl)) ?_
 intro W base args ds gs before hval0 hW hcnd _
 have hval : ∀ (j : Nat) t v, Tryz.f12.params[j]? = some t → args[j]? = some v → Value.okWide Tryz.prog W .any base t v := hval0
 have hW' := hW
 obtain ⟨p, q, hA0, hV, rfl, hfz, hnd⟩ := hW
 have hA : DataW.TrodAll enc Tryz.prog W 0 (fun _ => true) true Tryz.f12.params.toList args.toList ds p := hA0
 rw [Tryz.params12] at hA hval
 obtain ⟨v0, vs0, d0, ds0, p0, q0, hargs, rfl, rfl, h0, r0⟩ := trodAll_cons hA
 obtain ⟨v1, vs1, d1, ds1, p1, q1, rfl, rfl, rfl, h1, r1⟩ := trodAll_cons r0
 obtain ⟨v2, vs2, d2, ds2, p2, q2, rfl, rfl, rfl, h2, r2⟩ := trodAll_cons r1
 obtain ⟨rfl, rfl, rfl⟩ := trodAll_nil r2
 obtain rfl : args = #[v0, v1, v2] := by cases args; simp_all
 obtain ⟨rfl, rfl⟩ := trodVars_none hV
 obtain ⟨n2, rfl, rfl, rfl, wn2⟩ := open_int Tryz.underlying3 (hval 2 3 v2 rfl rfl) h2
 obtain ⟨A0, c0, l0, rfl, s0⟩ := arg_ints (hval 0 22 v0 rfl rfl) h0
 obtain ⟨A1, c1, l1, rfl, s1⟩ := arg_ints (hval 1 22 v1 rfl rfl) h1
 clear hA0 hval0 hA r0 r1 r2 hargs
 refine (law_BranchRounds A0 A1 c0 c1 l0 l1 n2 W W (Vw.refl W) s0 s1 (wf_bd wn2).1 (wf_bd wn2).2).mono fun e W' h => ?_
 obtain ⟨_, _, rfl, hE, _, _, rfl⟩ := h
 have hin : ∀ x ∈ p0 ++ (p1 ++ ([] ++ [])) ++ [], x.block < W.heap.size := fun x hx => hW'.lt x hx
 have st : ∀ {t : TypeId} {v : Value} {d : DataW H} {ps : List MemPlace}, Tryz.prog.readableRec t = true → t < Tryz.prog.types.size → DataW.Trod enc Tryz.prog W 0 (fun _ => true) true t v d ps → (∀ x ∈ ps, x ∈ p0 ++ (p1 ++ ([] ++ [])) ++ []) →
   DataW.Trod enc Tryz.prog W' 0 (fun b => decide (b < W.heap.size)) true t v d ps := fun hr ht h hx =>
  WideElems.Trod_stays laidO hr ht h (fun x hp => Below.same hE (hin x (hx x hp))) (fun x hp => by simpa using hin x (hx x hp))
 refine ⟨_, rfl, _, _, _, [], _, [], hW', ?_, trodAll_cons_mk (st (by kernel_rfl) (of_decide_eq_true (by kernel_rfl)) h0 ?_) (trodAll_cons_mk (st (by kernel_rfl) (of_decide_eq_true (by kernel_rfl)) h1 ?_) (trodAll_cons_mk (shut_int Tryz.underlying3 wn2) trodAll_mk0)), rfl, Below.frame hE _, fun h => by cases h⟩
 ·exact trodAll_cons_mk (shut_bool Tryz.underlying4 _) trodAll_mk0
 all_goals (intro x hx; simp [hx])
end Go.Proofs.YtniigfikpfinfaaGreat
