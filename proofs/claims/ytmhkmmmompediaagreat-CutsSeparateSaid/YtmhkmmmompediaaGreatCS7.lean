/- Part 7 of 8 of the proof: the law CutsSeparate returns true for every input, and its arguments read as before; there is no condition. -/
import Derived.Test.YtmhkmmmompediaaGreatCS6
set_option linter.unusedVariables false
set_option linter.unusedSimpArgs false
set_option maxRecDepth 100000
set_option maxHeartbeats 64000000
/- pairingref27.Separate. -/
namespace Go.Proofs.YtmhkmmmompediaaGreat
open Go.RowKit

def knwT (cs : List Cut) (x : Cut) (b : Bool) (k : Nat) : Bool := (cs.take k).foldl (fun s c => s || (decide (c.2 = x.2) && decide (c.1 = x.1))) b
theorem knwT_step {cs : List Cut} {x : Cut} {b : Bool} {k : Nat} {c : Cut} (h : cs[k]? = some c) : knwT cs x b (k + 1) = (knwT cs x b k || (decide (c.2 = x.2) && decide (c.1 = x.1))) := by
 unfold knwT; rw [← take_snoc h, List.foldl_append]; rfl
theorem knw_fold (x : Cut) : ∀ (cs : List Cut) (b : Bool), cs.foldl (fun s c => s || (decide (c.2 = x.2) && decide (c.1 = x.1))) b = (b || decide (x ∈ cs))
 | [], b => by simp
 | c :: cs, b => by
  rw [List.foldl_cons, knw_fold x cs]
  obtain ⟨x1, x2⟩ := x
  obtain ⟨c1, c2⟩ := c
  have e : decide ((x1, x2) ∈ (c1, c2) :: cs) = (decide (c2 = x2) && decide (c1 = x1) || decide ((x1, x2) ∈ cs)) := by
   by_cases h1 : c1 = x1
   ·by_cases h2 : c2 = x2
    ·subst h1 h2
     rw [decide_eq_true (List.mem_cons_self), decide_eq_true rfl, decide_eq_true rfl]; rfl
    ·have hn : ¬ (x1, x2) = (c1, c2) := fun h => h2 (Prod.mk.inj h).2.symm
     rw [decide_eq_false h2, Bool.false_and, Bool.false_or, decide_eq_decide, List.mem_cons]
     exact ⟨fun h => h.resolve_left hn, .inr⟩
   ·have hn : ¬ (x1, x2) = (c1, c2) := fun h => h1 (Prod.mk.inj h).1.symm
    rw [decide_eq_false h1, Bool.and_false, Bool.false_or, decide_eq_decide, List.mem_cons]
    exact ⟨fun h => h.resolve_left hn, .inr⟩
  rw [e, Bool.or_assoc]
theorem knwT_all (cs : List Cut) (x : Cut) (b : Bool) : knwT cs x b cs.length = (b || decide (x ∈ cs)) := by
 unfold knwT; rw [List.take_length, knw_fold]
theorem fndS_b {ms : Ms} {us : List Rat} {d : Nat} {fs : List Can} {s : List Nat} : fndS ms us d fs s = if (decide (vioF (cutS ms d s) ms.cols us ≤ 0) || decide (cutS ms d s ∈ ms.cuts)) = true then fs else fs ++ [(cutS ms d s, vioF (cutS ms d s) ms.cols us)] := by
 unfold fndS
 by_cases h1 : vioF (cutS ms d s) ms.cols us ≤ 0
 ·rw [if_pos h1, decide_eq_true h1]; simp
 ·rw [if_neg h1, decide_eq_false h1]
  by_cases h2 : cutS ms d s ∈ ms.cuts
  ·rw [if_pos h2, decide_eq_true h2]; simp
  ·rw [if_neg h2, decide_eq_false h2]; simp
theorem rs_le {q : Rat} : decide (rs q ≤ 0) = decide (q ≤ 0) := by
 rw [decide_eq_decide]
 unfold rs
 by_cases h : 0 < q
 ·rw [icmp_posQ h]
  constructor
  ·intro h'; omega
  ·intro h'; exact absurd h (Rat.not_lt.2 h')
 ·have h' := Rat.not_lt.1 h
  constructor
  ·intro _; exact h'
  ·intro _
   have : ¬ 0 < q.num := fun hn => h (by
    have h1 := Rat.num_nonneg.1 (by omega : 0 ≤ q.num)
    exact Rat.not_le.1 fun h2 => by
     have := Rat.le_antisymm h2 h1
     rw [this] at hn
     exact absurd hn (by decide))
   unfold icmp
   split
   ·omega
   ·split
    ·omega
    ·omega
def OwnS (m : World) (n sz q : Nat) (ov mv : Value) : Prop := (∃ s A c, (subsF n sz)[q]? = some s ∧ ov = .slice A sz c ∧ mv = .bool true ∧ IntL m (.slice A sz c) (natL s)) ∨ (q = (subsF n sz).length ∧ mv = .bool false)
theorem OwnS.le {m m' : World} {n sz q : Nat} {ov mv : Value} (h : OwnS m n sz q ov mv) (hb : Le m m') : OwnS m' n sz q ov mv := by
 rcases h with ⟨s, A, c, h1, h2, h3, h4⟩ | h
 ·exact .inl ⟨s, A, c, h1, h2, h3, IntL.le h4 hb⟩
 ·exact .inr h

def ownL (W : World) (ov : Value) : List Nat := match ov with
 | .slice (some a) n _ => (List.range n).map fun j => match W.cell? ⟨a.block, a.off + j, none⟩ with
  | some v => (intOf v).toNat
  | none => 0
 | _ => []
theorem ownL_is {W m : World} {A : Option Addr} {n c : Nat} {s : List Nat} (hV : Vw m W) (h : IntL m (.slice A n c) (natL s)) (h0 : 0 < n) : ownL W (.slice A n c) = s := by
 have hn : n = s.length := by rw [h.n_is, natL_len]
 obtain ⟨x0, hx0⟩ : ∃ x, s[0]? = some x := ⟨_, List.getElem?_eq_getElem (by omega)⟩
 obtain ⟨b, off, rfl, -⟩ := IntL.at_ h (natL_at hx0)
 apply List.ext_getElem?
 intro t
 unfold ownL
 simp only
 rw [List.getElem?_map]
 by_cases ht : t < n
 ·rw [List.getElem?_range ht]
  obtain ⟨x, hx⟩ : ∃ x, s[t]? = some x := ⟨_, List.getElem?_eq_getElem (by omega)⟩
  obtain ⟨b', off', e, hc⟩ := IntL.at_ h (natL_at hx)
  injection e with e
  injection e with e1 e2
  subst e1 e2
  rw [hx]
  simp only [Option.map_some, hV.cell _ _ hc, intOf]
  simp
 ·rw [List.getElem?_eq_none (by simp; omega), List.getElem?_eq_none (by omega)]; rfl

def ownM (L : List (List Nat)) (bv ov : Value) (W : World) : Nat := match bv with
 | .bool true => L.length + 1 - L.findIdx (fun l => l == ownL W ov)
 | _ => 0
theorem ownM_less {W W' m' : World} {n sz q : Nat} {ov u : Value} {bn : Bool} {s : List Nat} (hn : n ≤ 5) (h3 : 3 ≤ sz) (h5 : sz ≤ 5) (hq : (subsF n sz)[q]? = some s) (ho : ownL W ov = s) (hV : Vw m' W') (h2 : OwnS m' n sz (q + 1) u (.bool bn)) :
  ownM (subsF n sz) (.bool bn) u W' < ownM (subsF n sz) (.bool true) ov W := by
 have hlt := (List.getElem?_eq_some_iff.1 hq).1
 have e2 : ownM (subsF n sz) (.bool true) ov W = (subsF n sz).length + 1 - q := by
  unfold ownM
  simp only
  rw [ho, fidx hn h3 h5 hq]
 rw [e2]
 rcases h2 with ⟨s2, A, c, h1, rfl, hb, hi⟩ | ⟨h1, hb⟩
 ·injection hb with hb
  subst hb
  unfold ownM
  simp only
  rw [ownL_is hV hi (by omega), fidx hn h3 h5 h1]
  omega
 ·injection hb with hb
  subst hb
  unfold ownM
  simp only
  omega

theorem r_Separate (mv vv : Value) (ms : Ms) (us : List Rat) (sz d most : Nat) (w m : World) (hV : Vw m w) (hm : MasterR m mv ms) (hvv : FracL m vv us) (ok : VOk ms us) (h5 : ms.rows.length ≤ 5) (hs3 : 3 ≤ sz) (hs5 : sz ≤ 5) (hd2 : 2 ≤ d) (hdz : d < sz) (hmo : most ≤ 1000) :
  Calls Tryz.prog 40 #[mv, vv, .int .i64 sz, .int .i64 d, .int .i64 most] w (RetV w m fun m' r => ∃ v, r = .tuple #[v, .int .i64 0] ∧ CutL m' v (sepF ms us sz d most)) := by
 have HM := Lib.hid hm
 have HVV := Lib.hid hvv
 have OK := Lib.hid ok
 obtain ⟨A, nr, ca, B, nc, cb, C, nk, cc, rfl, hm1⟩ := hm.lit
 obtain ⟨V, cv, rfl, hcv, hvv1⟩ := hvv.lit
 obtain ⟨p1, p2, p3⟩ := hm1.parts
 have hnr := p1.n_is
 have hnk := p3.n_is
 have hul : us.length = nc := ok.len.trans p2.n_is.symm
 have SO := Lib.hid (subs_ok (n := nr) (size := sz) (by omega) hs3 hs5)
 have HRO := Lib.hid p1
 have HCU := Lib.hid p3
 have KV : Hid (∀ u m', Vw m' u → Le m m' → Calls Tryz.prog 107 #[.agg #[.int .i64 ms.nf, .slice A nr ca, .int .i64 ms.pen, .slice B nc cb, .slice C nk cc], .slice V us.length cv] u (RetV u m' fun _ r => r = .int .i64 0)) := by
  show ∀ u m', _
  exact fun u m' hV hle => r_valued _ ms V us.length cv 0 u m' hV (HM.out.le hle) ok.ms (by rw [if_pos ok.len])
 have KW : Hid (∀ u m' xv x, Vw m' u → Le m m' → CutR m' xv x → CutOk ms.rows x → Calls Tryz.prog 98 #[.agg #[.int .i64 ms.nf, .slice A nr ca, .int .i64 ms.pen, .slice B nc cb, .slice C nk cc], xv, .slice V us.length cv] u (RetV u m' fun m'' r => FracC m'' r (vioF x ms.cols us))) := by
  show ∀ u m' xv x, _
  exact fun u m' xv x hV hle hx hc => r_violation _ xv _ ms x us u m' hV (HM.out.le hle) hx (FracL.le HVV.out hle) ok hc
 have HNR := Lib.hid hnr
 have HNK := Lib.hid hnk
 have hL := Loc.start hV
 have hb1 : decide ((sz : Int) < 3) = false := decide_eq_false (by omega)
 have hb2 : decide ((5 : Int) < (sz : Int)) = false := decide_eq_false (by omega)
 have hb3 : decide ((d : Int) < 2) = false := decide_eq_false (by omega)
 have hb4 : decide ((sz : Int) ≤ (d : Int)) = false := decide_eq_false (by omega)
 have hb5 : decide ((most : Int) < 0) = false := decide_eq_false (by omega)
 have hnr5 : nr ≤ 5 := by omega
 have hnk5 : nk ≤ 1000 := by have := ok.ms.k2; omega
 rw [hul] at KV KW hcv ⊢
 clear hV ok hvv1 HM HVV hul p1 p2 p3 hm1 hnr hnk h5
 generalize ms.nf = nf at *
 generalize ms.pen = pen at *
 go_enter Tryz.func40, Tryz.ntmps40
 go_upto_region 0 with (fail)
 refine wp_region_lit ?_
 refine t_box hL rfl rfl ?_; clear hL; intro Wh5 mh5 hL eh5; simp only [Act.put, zq1, zq2, zq3]
 obtain ⟨m2, hL2, hle2, hsl2⟩ := Loc.show1 (A := []) hL 5
 have hr5 := Sl.range hsl2
 have h51 := hsl2.cell (j := 1) rfl
 have h54 := hsl2.cell (j := 4) rfl
 clear hL hsl2 hle2
 have hL := hL2
 clear hL2
 have hM2 := hL.mext
 go_wp2_with (first | go_skip | refine tP ?_ | (refine tS ?_; clear hL; intro _ hL) | (refine tB ?_; clear hL; intro _ _ hL _) | (refine tC ?_; clear hL; intro _ _ hL _ hBs))
 refine (KV.out _ _ hL.vw leX).mono ?_
 rintro e Wc1 ⟨_, mc1, rfl, hE, hMc1, hV, rfl⟩
 replace hL := hL.call hE (by assumption) hV; clear hE hV
 go_wp2_with (first | go_skip | refine tP ?_ | (refine tS ?_; clear hL; intro _ hL) | (refine tB ?_; clear hL; intro _ _ hL _) | (refine tC ?_; clear hL; intro _ _ hL _ hBs))
 refine (r_first sz (by omega) _ _ hL.vw).mono ?_
 rintro e Wc2 ⟨vc2, mc2, rfl, hE, hMc2, hV, hc2⟩
 replace hL := hL.call hE (by assumption) hV; clear hE hV
 obtain ⟨P0, c0, rfl, -, hc2⟩ := hc2.lit
 rw [show (natL (List.range sz)).length = sz by rw [natL_len, List.length_range]] at hc2 ⊢
 have HOWN : Hid (OwnS mc2 nr sz 0 (.slice P0 sz c0) (.bool (decide (sz ≤ nr)))) := by
  show OwnS _ _ _ _ _ _
  by_cases hsn : sz ≤ nr
  ·exact .inl ⟨_, P0, c0, SO.out.first hsn, rfl, by rw [decide_eq_true (by omega)], hc2⟩
  ·exact .inr ⟨by rw [SO.out.none (by omega)]; rfl, by rw [decide_eq_false (by omega)]⟩
 clear hc2
 go_wp2_with (first | go_skip | refine tP ?_ | (refine tS ?_; clear hL; intro _ hL) | (refine tB ?_; clear hL; intro _ _ hL _) | (refine tC ?_; clear hL; intro _ _ hL _ hBs))
 go_loopw [13, 14, 16, 17] (fun lv wv ov bv wr => ∃ (q : Nat) (mm : World) (N : Nat) (Rl Rw : List Lo), q ≤ (subsF nr sz).length ∧ Loc w m wr mm (Rl ++ Rw) ∧ Hid (OwnS mm nr sz q ov bv) ∧ Hid (RowA 34 2 CutR mm lv N ((srtC (fndT ms us sz d q)).map Prod.fst) Rl) ∧ Hid (RowA 39 4 FracC mm wv N ((srtC (fndT ms us sz d q)).map Prod.snd) Rw) ∧ Hid (Ext m2 mm)) (fun _ _ ov bv wr => ownM (subsF nr sz) bv ov wr)
 case atStart => exact ⟨0, _, 0, [], [], Nat.zero_le _, hL, HOWN.out, RowA.nil, RowA.nil, exX⟩
 case round =>
  clear hL HOWN
  obtain ⟨q, mm, N, Rl, Rw, hq, hL, HOW, ROWL, ROWW, HX⟩ := hrel
  have hX := HX.out
  have HFQ : Hid ((fndT ms us sz d q).length ≤ 10) := by
   show _ ≤ _
   have h1 := fndT_len ms us sz d q
   have h2 := SO.out.few
   omega
  have hN10 : N ≤ 10 := by
   have h1 := ROWL.out.len
   have h2 := HFQ.out
   rw [List.length_map, srtC_len] at h1
   omega
  obtain ⟨AL, cL, rfl, rl1⟩ := ROWL.out.lit
  obtain ⟨AW, cW, rfl, rw1⟩ := ROWW.out.lit
  have ROWL := Lib.hid rl1
  have ROWW := Lib.hid rw1
  clear rl1 rw1
  have how := HOW.out
  rcases how with ⟨s, A7, c7, hsq, rfl, rfl, hown⟩ | ⟨hql, rfl⟩
  ·have hsm := List.mem_of_getElem? hsq
   have HSL : Hid (s.length = sz) := SO.out.len s hsm
   have HSLT : Hid (∀ i ∈ s, i < nr) := SO.out.lt s hsm
   have HSLE : Hid (∀ i, i < sz → s.getD i 0 ≤ nr - sz + i) := SO.out.le s hsm
   have HNX : Hid (nxtS nr s = (subsF nr sz)[q + 1]?) := SO.out.next q s hsq
   have HSQ := Lib.hid hsq
   have hsn : sz ≤ nr := by
    by_cases h : sz ≤ nr
    ·exact h
    ·rw [SO.out.none (by omega)] at hsq; cases hsq
   have HSN := Lib.hid hsn
   clear hsn
   have HCT : Hid (CutOk ms.rows (cutS ms d s)) := cutS_ok OK.out.ms (SO.out.len s hsm) (SO.out.asc s hsm) (fun i hi => by have := SO.out.lt s hsm i hi; have := HNR.out; omega) hd2 hdz hs5
   have HNR' : Hid (ms.rows.length = nr) := HNR.out.symm
   have HOWN := Lib.hid hown
   have HOL : Hid (ownL wr (.slice A7 sz c7) = s) := ownL_is hL.vw hown (by omega)
   clear hsq hsm hown HOW
   obtain ⟨wq, rfl⟩ := hL.world
   have HLK := Lib.hid hL
   replace hL := Loc.start hL.vw
   go_wp2_with (first | go_skip | refine tP ?_ | (refine tS ?_; clear hL; intro _ hL) | (refine tB ?_; clear hL; intro _ _ hL _) | (refine tC ?_; clear hL; intro _ _ hL _ hBs))
   go_loopw [19] (fun iv wr => ∃ (j : Nat) (m4 : World) (A9 : Option Addr) (c9 : Nat) (Rx : List Lo), j ≤ sz ∧ iv = .int .i64 (j : Int) ∧ Loc wq mm wr m4 ((wq.heap.size, 34, #[.slice A9 j c9, .int .i64 d]) :: Rx) ∧ Hid (RowA 3 1 IsI m4 (.slice A9 j c9) j (rowsS ms.rows (s.take j)) Rx)) (fun iv _ => sz - (intOf iv).toNat)
   case atStart => exact ⟨0, _, none, 0, [], Nat.zero_le _, rfl, hL, RowA.nil⟩
   case round =>
    clear hL
    obtain ⟨j, m4, A9, c9, Rx, hj, rfl, hL, RX⟩ := hrel
    have hM4 := hL.mext
    by_cases hlt : j < sz
    ·as_aux_lemma =>
     have hlt' : (j : Int) < (sz : Int) := by omega
     obtain ⟨x, hx⟩ := at_some HSL hlt
     have hxr : x < nr := HSLT.out x (List.mem_of_getElem? hx)
     obtain ⟨r, hr⟩ := at_some HNR' hxr
     have hro := HRO.out
     have hown := HOWN.out
     obtain ⟨b9, o9, rfl, hc9⟩ := IntL.at_ hro hr
     obtain ⟨b7, o7, rfl, hc7⟩ := IntL.at_ hown (natL_at hx)
     have HT := Lib.hid (rowsS_step hx hr)
     clear hx hr hro hown
     go_upto_region 15 with ((first | go_skip | refine tP ?_ | (refine tS ?_; clear hL; intro _ hL) | (refine tB ?_; clear hL; intro _ _ hL _) | (refine tC ?_; clear hL; intro _ _ hL _ hBs)))
     (try simp only [eq_self] at *)
     refine wp_region_by2 11 [false, false, false, false, false, false, false, false, false, false, false] [false, false, false, false, false, false, false, false, false, false, false] [(fun v _ _ => v = ?c15_0), (fun v _ _ => v = ?c15_1), (fun v _ _ => v = ?c15_2), (fun v _ _ => v = ?c15_3), (fun v _ _ => v = ?c15_4), (fun v _ _ => v = ?c15_5), (fun v _ _ => v = ?c15_6), (fun v _ _ => v = ?c15_7), (fun v _ _ => v = ?c15_8), (fun v _ _ => v = ?c15_9), (NewS1 3 (fun _ v => v = .agg #[.int .i64 r]))] hL.vw mixed [67, 68, 69, 70, 71, 72, 73, 74, 75, 76, 77] _ (by kernel_rfl) (fun vs => by simp only [lay, Act.put, zq1, zq2, zq3]; rfl) (by kernel_rfl) (by decide) (by decide) ?s15 ?l15 ?r15
     case s15 =>
      refine ⟨?_, ?_, ?_, ?_, ?_, ?_, ?_, ?_, ?_, ?_, ?_, trivial⟩
      ·intro vs W1 m1 hE hM hV hD; clear hD
       exact sFe
      ·intro vs W1 m1 hE hM hV hD; obtain ⟨⟨_, _, -, -, f67⟩, -⟩ := hD
       rw [(f67 : vs 67 = _)]; clear f67; exact sLe
      ·intro vs W1 m1 hE hM hV hD; clear hD
       exact sFe
      ·intro vs W1 m1 hE hM hV hD; obtain ⟨⟨_, _, -, -, f69⟩, -⟩ := hD
       rw [(f69 : vs 69 = _)]; clear f69; exact sLe
      ·intro vs W1 m1 hE hM hV hD; clear hD
       exact sPw
      ·intro vs W1 m1 hE hM hV hD; clear hD
       exact sPw
      ·intro vs W1 m1 hE hM hV hD; obtain ⟨⟨_, _, -, -, f71⟩, ⟨_, _, -, -, f72⟩, -⟩ := hD
       rw [(f71 : vs 71 = _), (f72 : vs 72 = _)]; clear f71 f72; exact sIy
      ·intro vs W1 m1 hE hM hV hD; obtain ⟨⟨_, _, -, -, f73⟩, -⟩ := hD
       rw [(f73 : vs 73 = _)]; clear f73; exact sLe
      ·intro vs W1 m1 hE hM hV hD; obtain ⟨⟨_, _, -, -, f70⟩, ⟨_, _, -, -, f74⟩, -⟩ := hD
       rw [(f70 : vs 70 = _), (f74 : vs 74 = _)]; clear f70 f74; exact sIy
      ·intro vs W1 m1 hE hM hV hD; obtain ⟨⟨_, _, -, -, f75⟩, -⟩ := hD
       rw [(f75 : vs 75 = _)]; clear f75; exact sLe
      ·intro vs W1 m1 hE hM hV hD; obtain ⟨⟨_, _, -, -, f76⟩, -⟩ := hD
       rw [(f76 : vs 76 = _)]
       clear f76
       (go_wp2_with fail; exact one2_s1 hV fun _ _ => rfl)
     case l15 =>
      refine ⟨nF, nF, nF, nF, nF, nF, nF, nF, nF, nF, nF, trivial⟩
     intro vs W1 m1 hE hM hV hF hD
     clear hD
     obtain ⟨-, ⟨_, _, -, -, f68⟩, -, -, -, -, -, -, -, -, ⟨_, _, j77, i77, f77⟩, -⟩ := hF
     replace hL := hL.call hE hM hV
     have f68 : vs 68 = _ := f68
     generalize vs 68 = x68 at f68 ⊢
     subst x68
     clear hE hV
     obtain ⟨g15, cs15, e15, q15, f15⟩ := f77
     generalize vs 77 = x15 at e15 ⊢
     subst x15
     replace q15 := q15.ext j77
     have f16 : Value.agg cs15 = .agg #[.int .i64 r] := f15
     injection f16 with f16
     subst f16
     clear f15 i77 j77
     simp only [List.drop_succ_cons, List.drop_zero]
     obtain ⟨vs7, r7, z7, y7, l7⟩ := RX.out
     refine wl_append (A := [_]) hL r7 (wanted_none rfl) rfl ap_ints (by omega) rfl rfl (news := [.int .i64 r]) rfl (Blk.sl q15 (n := 1) rfl) rfl (by omega) (by omega) ?_
     clear hL
     intro v1 W2 m5 R2 hL r8 e8
     obtain ⟨A11, c11, rfl, -⟩ := r8.lit
     simp only [List.cons_append, List.nil_append] at hL
     have rx2 := RowA.snocV (R := IsI) (m := m5) (x := r) r8 z7 (y7.mono fun _ _ h => h) l7 rfl rfl rfl
     rw [HT.out] at rx2
     have RX2 := Lib.hid rx2
     clear rx2 r7 z7 y7 l7 r8
     simp only [Act.put, zq1, zq2, zq3]
     go_wp2_with (first | go_skip | refine tP ?_ | (refine tS ?_; clear hL; intro _ hL) | (refine tB ?_; clear hL; intro _ _ hL _) | (refine tC ?_; clear hL; intro _ _ hL _ hBs))
     refine QN.mk ?_
     go_wp2_with (first | go_skip | refine tP ?_ | (refine tS ?_; clear hL; intro _ hL) | (refine tB ?_; clear hL; intro _ _ hL _) | (refine tC ?_; clear hL; intro _ _ hL _ hBs))
     go_roundw
     case rel => exact ⟨j + 1, m5, A11, c11, R2, by omega, by go_num, hL, RX2.out⟩
     case measure => simp [intOf] <;> omega
    ·have hjs : sz = j := by omega
     have HTK : Hid (rowsS ms.rows (s.take j) = (cutS ms d s).1) := by
      show rowsS _ _ = rowsS _ _
      rw [List.take_of_length_le (by have := HSL.out; omega)]
     subst hjs
     have row2 := RX.out
     rw [HTK.out] at row2
     obtain ⟨m9, hL9, hle9, hl9, -⟩ := RowA.show (A := [_]) IsI.mono hL row2
     have HXR : Hid (CutR m9 (.agg #[.slice A9 sz c9, .int .i64 d]) (cutS ms d s)) := ⟨_, rfl, hl9, by show (rowsS _ _).length ≤ _; unfold rowsS; rw [List.length_map, HSL.out]; omega⟩
     have hM9 := hL9.mext
     clear hL row2 hle9 hl9 RX HTK hM4
     have hL := hL9
     clear hL9
     have h9 : (sz : Int) ≤ (sz : Int) := Int.le_refl _
     go_wp2_with (first | go_skip | refine tP ?_ | (refine tS ?_; clear hL; intro _ hL) | (refine tB ?_; clear hL; intro _ _ hL _) | (refine tC ?_; clear hL; intro _ _ hL _ hBs))
     refine (r_next _ s nr sz _ _ hL.vw (IntL.le HOWN.out leX) HSL.out HSLE.out HSN.out hnr5 hs3).mono ?_
     rintro e Wn ⟨_, mn, rfl, hE, hMn, hV, u, bn, rfl, hnx⟩
     replace hL := hL.call hE (by assumption) hV; clear hE hV
     have HOWN2 : Hid (OwnS mn nr sz (q + 1) u (.bool bn)) := by
      show OwnS _ _ _ _ _ _
      have h1 := HNX.out
      unfold NxtR at hnx
      cases hn : nxtS nr s with
      | none =>
       rw [hn] at hnx h1
       have h2 := List.getElem?_eq_none_iff.1 h1.symm
       have h3 := (List.getElem?_eq_some_iff.1 HSQ.out).1
       exact .inr ⟨by omega, by rw [hnx.1]⟩
      | some s2 =>
       rw [hn] at hnx h1
       obtain ⟨hb, hi⟩ := hnx
       obtain ⟨A8, c8, rfl, -, hi⟩ := hi.lit
       have hl2 : (natL s2).length = sz := by rw [natL_len]; exact SO.out.len s2 (List.mem_of_getElem? h1.symm)
       rw [hl2] at hi
       exact .inl ⟨s2, A8, c8, h1.symm, by rw [hl2], by rw [hb], hi⟩
     clear hnx
     have HFT : Hid (Fit 200 (vioF (cutS ms d s) ms.cols us)) := (OK.out.vio HCT.out).fit (by decide)
     go_wp2_with (first | go_skip | refine tP ?_ | (refine tS ?_; clear hL; intro _ hL) | (refine tB ?_; clear hL; intro _ _ hL _) | (refine tC ?_; clear hL; intro _ _ hL _ hBs))
     refine (KW.out _ _ _ (cutS ms d s) hL.vw leX (HXR.out.le leX) HCT.out).mono ?_
     rintro e Wv ⟨vq, mv, rfl, hE, hMv, hV, hvq⟩
     replace hL := hL.call hE (by assumption) hV; clear hE hV
     obtain ⟨g1, A1, n1, c1, f1, B1, k1, e1, rfl, hvq⟩ := hvq.lit
     have HVQ := Lib.hid hvq
     obtain ⟨sg, hsg⟩ : ∃ sg, sg = rs (vioF (cutS ms d s) ms.cols us) := ⟨_, rfl⟩
     have HSG := Lib.hid hsg
     have KSG : Hid (∀ u m', Vw m' u → Le mv m' → Calls Tryz.prog 45 #[.agg #[.bool g1, .slice A1 n1 c1, .bool f1, .slice B1 k1 e1]] u (RetV u m' fun _ r => r = .int .i64 sg)) := by
      show ∀ u m', _
      intro u m' hV hle
      rw [hsg]
      exact r_Sign _ _ u m' hV ((HVQ.out.le hle).toV HFT.out (by decide)) (HFT.out.mono (by decide))
     clear hvq hsg
     go_wp2_with (first | go_skip | refine tP ?_ | (refine tS ?_; clear hL; intro _ hL) | (refine tB ?_; clear hL; intro _ _ hL _) | (refine tC ?_; clear hL; intro _ _ hL _ hBs))
     refine (KSG.out _ _ hL.vw leX).mono ?_
     rintro e Wc3 ⟨_, mc3, rfl, hE, hMc3, hV, rfl⟩
     replace hL := hL.call hE (by assumption) hV; clear hE hV
     clear KSG
     have HNKL : Hid (ms.cuts.length = nk) := HNK.out.symm
     go_wp2_with (first | go_skip | refine tP ?_ | (refine tS ?_; clear hL; intro _ hL) | (refine tB ?_; clear hL; intro _ _ hL _) | (refine tC ?_; clear hL; intro _ _ hL _ hBs))
     go_loopw [21, 22] (fun kv iv wr => ∃ (j : Nat) (m6 : World), j ≤ nk ∧ iv = .int .i64 (j : Int) ∧ kv = .bool (knwT ms.cuts (cutS ms d s) (decide (sg ≤ 0)) j) ∧ Loc wq mm wr m6 [(Wv.heap.size, 39, #[.bool g1, .slice A1 n1 c1, .bool f1, .slice B1 k1 e1]), (wq.heap.size, 34, #[.slice A9 sz c9, .int .i64 d])] ∧ Hid (Ext mc3 m6)) (fun _ iv _ => nk - (intOf iv).toNat)
     case atStart => exact ⟨0, _, Nat.zero_le _, rfl, rfl, hL, exX⟩
     case round =>
      clear hL
      obtain ⟨j, m6, hj, rfl, rfl, hL, HX6⟩ := hrel
      have hX6 := HX6.out
      by_cases hltk : j < nk
      ·as_aux_lemma =>
       have hltk' : (j : Int) < (nk : Int) := by omega
       obtain ⟨⟨cr, cd⟩, hx⟩ := at_some HNKL hltk
       have hcu := HCU.out
       obtain ⟨b8, o8, A8, c8, rfl, hi8, hl8, -, hq0, hq1, hrg⟩ := CutL.at_ hcu hx
       simp only at hi8 hl8 hq0 hq1 hrg
       have HST := Lib.hid (knwT_step (x := cutS ms d s) (b := decide (sg ≤ 0)) hx)
       simp only at HST
       have KSI : Hid (∀ u m', Vw m' u → Le m9 m' → Calls Tryz.prog 55 #[.slice A8 cr.length c8, .slice A9 sz c9] u (RetV u m' fun _ r => r = .bool (decide (cr = (cutS ms d s).1)))) := by
        show ∀ u m', _
        intro u m' hV hle
        obtain ⟨sv, hv1, hv2, -⟩ := HXR.out
        injection hv1 with hv1
        injection hv1 with hv1
        injection hv1 with hv1 _
        subst hv1
        exact r_SameIntsB _ _ _ _ u m' hV (IntL.le hi8 (Le.trans leX hle)) (IntL.le hv2 hle) hl8
       clear hx hcu hi8 hrg
       generalize knwT ms.cuts (cutS ms d s) (decide (sg ≤ 0)) j = bk at *
       generalize cr.length = nr8 at *
       cases bk with
       | true =>
        go_upto_region 22 with ((first | go_skip | refine tP ?_ | (refine tS ?_; clear hL; intro _ hL) | (refine tB ?_; clear hL; intro _ _ hL _) | (refine tC ?_; clear hL; intro _ _ hL _ hBs)))
        refine wp_region_by2 22 [false, false, false, false, false, false, false, false, false, false, false, false, false, false, false, false, false, false, false, false, false, false] [false, false, false, false, false, false, false, false, false, false, false, false, false, false, false, false, false, false, false, false, false, false] [(fun v _ _ => v = ?c22_0a), (fun v _ _ => v = ?c22_1a), (fun v _ _ => v = ?c22_2a), (fun v _ _ => v = ?c22_3a), (fun v _ _ => v = ?c22_4a), (fun v _ _ => v = ?c22_5a), (fun v _ _ => v = ?c22_6a), (fun v _ _ => v = ?c22_7a), (fun v _ _ => v = ?c22_8a), (fun v _ _ => v = ?c22_9a), (fun v _ _ => v = ?c22_10a), (fun v _ _ => v = ?c22_11a), (fun v _ _ => v = ?c22_12a), (fun v _ _ => v = ?c22_13a), (fun v _ _ => v = ?c22_14a), (fun v _ _ => v = ?c22_15a), (fun v _ _ => v = ?c22_16a), (fun v _ _ => v = ?c22_17a), (fun v _ _ => v = ?c22_18a), (fun v _ _ => v = ?c22_19a), (fun v _ _ => v = ?c22_20a), (fun v _ _ => v = ?c22_21a)] hL.vw mixed [100, 101, 102, 103, 104, 105, 106, 107, 108, 109, 110, 111, 112, 113, 114, 115, 116, 117, 118, 119, 120, 121] _ (by kernel_rfl) (fun vs => by simp only [lay, Act.put, zq1, zq2, zq3]; rfl) (by kernel_rfl) (by decide) (by decide) ?s22a ?l22a ?r22a
        case s22a =>
         refine ⟨?_, ?_, ?_, ?_, ?_, ?_, ?_, ?_, ?_, ?_, ?_, ?_, ?_, ?_, ?_, ?_, ?_, ?_, ?_, ?_, ?_, ?_, trivial⟩
         ·intro vs W1 m1 hE hM hV hD; clear hD
          exact sPw
         ·intro vs W1 m1 hE hM hV hD; obtain ⟨⟨_, _, -, -, f100⟩, -⟩ := hD
          rw [(f100 : vs 100 = _)]; clear f100; exact sPw
         ·intro vs W1 m1 hE hM hV hD; obtain ⟨⟨_, _, -, -, f101⟩, -⟩ := hD
          rw [(f101 : vs 101 = _)]; clear f101; exact sPw
         ·intro vs W1 m1 hE hM hV hD; obtain ⟨⟨_, _, -, -, f102⟩, ⟨_, _, -, -, f101⟩, -⟩ := hD
          rw [(f102 : vs 102 = _), (f101 : vs 101 = _)]; clear f102 f101; exact sPw
         ·intro vs W1 m1 hE hM hV hD; obtain ⟨⟨_, _, -, -, f101⟩, -⟩ := hD
          rw [(f101 : vs 101 = _)]; clear f101; exact sPw
         ·intro vs W1 m1 hE hM hV hD; obtain ⟨⟨_, _, -, -, f103⟩, ⟨_, _, -, -, f104⟩, ⟨_, _, -, -, f101⟩, -⟩ := hD
          rw [(f103 : vs 103 = _), (f104 : vs 104 = _), (f101 : vs 101 = _)]; clear f103 f104 f101; exact sPw
         ·intro vs W1 m1 hE hM hV hD; obtain ⟨⟨_, _, -, -, f105⟩, ⟨_, _, -, -, f101⟩, -⟩ := hD
          rw [(f105 : vs 105 = _), (f101 : vs 101 = _)]; clear f105 f101; exact sPw
         ·intro vs W1 m1 hE hM hV hD; obtain ⟨⟨_, _, -, -, f106⟩, ⟨_, _, -, -, f101⟩, -⟩ := hD
          rw [(f106 : vs 106 = _), (f101 : vs 101 = _)]; clear f106 f101; exact sPw
         ·intro vs W1 m1 hE hM hV hD; obtain ⟨⟨_, _, -, -, f101⟩, -⟩ := hD
          rw [(f101 : vs 101 = _)]; clear f101; exact sPw
         ·intro vs W1 m1 hE hM hV hD; obtain ⟨⟨_, _, -, -, f107⟩, ⟨_, _, -, -, f108⟩, ⟨_, _, -, -, f101⟩, -⟩ := hD
          rw [(f107 : vs 107 = _), (f108 : vs 108 = _), (f101 : vs 101 = _)]; clear f107 f108 f101; exact sPw
         ·intro vs W1 m1 hE hM hV hD; obtain ⟨⟨_, _, -, -, f109⟩, ⟨_, _, -, -, f101⟩, -, -⟩ := hD
          rw [(f109 : vs 109 = _), (f101 : vs 101 = _)]; clear f109 f101; exact sPw
         ·intro vs W1 m1 hE hM hV hD; obtain ⟨⟨_, _, -, -, f110⟩, -⟩ := hD
          rw [(f110 : vs 110 = _)]; clear f110; exact sPw
         ·intro vs W1 m1 hE hM hV hD; obtain ⟨⟨_, _, -, -, f111⟩, ⟨_, _, -, -, f110⟩, -⟩ := hD
          rw [(f111 : vs 111 = _), (f110 : vs 110 = _)]; clear f111 f110; exact sPw
         ·intro vs W1 m1 hE hM hV hD; obtain ⟨⟨_, _, -, -, f110⟩, -⟩ := hD
          rw [(f110 : vs 110 = _)]; clear f110; exact sPw
         ·intro vs W1 m1 hE hM hV hD; obtain ⟨⟨_, _, -, -, f112⟩, ⟨_, _, -, -, f113⟩, ⟨_, _, -, -, f110⟩, -⟩ := hD
          rw [(f112 : vs 112 = _), (f113 : vs 113 = _), (f110 : vs 110 = _)]; clear f112 f113 f110; exact sPw
         ·intro vs W1 m1 hE hM hV hD; obtain ⟨⟨_, _, -, -, f114⟩, ⟨_, _, -, -, f110⟩, -⟩ := hD
          rw [(f114 : vs 114 = _), (f110 : vs 110 = _)]; clear f114 f110; exact sPw
         ·intro vs W1 m1 hE hM hV hD; obtain ⟨⟨_, _, -, -, f115⟩, ⟨_, _, -, -, f110⟩, -⟩ := hD
          rw [(f115 : vs 115 = _), (f110 : vs 110 = _)]; clear f115 f110; exact sPw
         ·intro vs W1 m1 hE hM hV hD; obtain ⟨⟨_, _, -, -, f110⟩, -⟩ := hD
          rw [(f110 : vs 110 = _)]; clear f110; exact sPw
         ·intro vs W1 m1 hE hM hV hD; obtain ⟨⟨_, _, -, -, f117⟩, ⟨_, _, -, -, f110⟩, -⟩ := hD
          rw [(f117 : vs 117 = _), (f110 : vs 110 = _)]; clear f117 f110; exact sPw
         ·intro vs W1 m1 hE hM hV hD; obtain ⟨⟨_, _, -, -, f116⟩, ⟨_, _, -, -, f118⟩, ⟨_, _, -, -, f110⟩, -, -⟩ := hD
          rw [(f116 : vs 116 = _), (f118 : vs 118 = _), (f110 : vs 110 = _)]; clear f116 f118 f110; exact sPw
         ·intro vs W1 m1 hE hM hV hD; obtain ⟨⟨_, _, -, -, f110⟩, ⟨_, _, -, -, f119⟩, ⟨_, _, -, -, f101⟩, -⟩ := hD
          rw [(f110 : vs 110 = _), (f119 : vs 119 = _), (f101 : vs 101 = _)]; clear f110 f119 f101; exact sPw
         ·intro vs W1 m1 hE hM hV hD; obtain ⟨⟨_, _, -, -, f101⟩, ⟨_, _, -, -, f120⟩, -⟩ := hD
          rw [(f101 : vs 101 = _), (f120 : vs 120 = _)]; clear f101 f120; exact sPw
        case l22a =>
         refine ⟨nF, nF, nF, nF, nF, nF, nF, nF, nF, nF, nF, nF, nF, nF, nF, nF, nF, nF, nF, nF, nF, nF, trivial⟩
        intro vs W1 m1 hE hM hV hF hD
        clear hD
        obtain ⟨-, -, -, -, -, -, -, -, -, -, -, -, -, -, -, -, -, -, -, -, -, ⟨_, _, -, -, f121⟩, -⟩ := hF
        replace hL := hL.call hE hM hV
        have f121 : vs 121 = _ := f121
        generalize vs 121 = x121 at f121 ⊢
        subst x121
        clear hE hV
        simp only [List.drop_succ_cons, List.drop_zero]
        go_wp2_with (first | go_skip | refine tP ?_ | (refine tS ?_; clear hL; intro _ hL) | (refine tB ?_; clear hL; intro _ _ hL _) | (refine tC ?_; clear hL; intro _ _ hL _ hBs))
        refine QN.mk ?_
        go_wp2_with (first | go_skip | refine tP ?_ | (refine tS ?_; clear hL; intro _ hL) | (refine tB ?_; clear hL; intro _ _ hL _) | (refine tC ?_; clear hL; intro _ _ hL _ hBs))
        go_roundw
        case rel => exact ⟨j + 1, _, by omega, by go_num, by rw [HST.out]; rfl, hL, exX⟩
        case measure => simp [intOf] <;> omega
       | false =>
        by_cases hcd : cd = (d : Int)
        ·have hb : ((cd : Int) == (d : Int)) = true := bt hcd
         have HST2 : Hid (knwT ms.cuts (cutS ms d s) (decide (sg ≤ 0)) (j + 1) = decide (cr = (cutS ms d s).1)) := by
          show _ = _
          rw [HST.out, decide_eq_true (show cd = (cutS ms d s).2 from hcd)]; simp
         clear hcd HST
         generalize decide (cr = (cutS ms d s).1) = br at *
         go_upto_region 22 with ((first | go_skip | refine tP ?_ | (refine tS ?_; clear hL; intro _ hL) | (refine tB ?_; clear hL; intro _ _ hL _) | (refine tC ?_; clear hL; intro _ _ hL _ hBs)))
         refine wp_region_by2 22 [false, false, false, false, false, false, false, false, false, false, false, false, false, false, false, false, false, false, false, false, false, false] [false, false, false, false, false, false, false, false, false, false, false, false, false, false, false, false, false, false, false, false, false, false] [(fun v _ _ => v = ?c22_0b), (fun v _ _ => v = ?c22_1b), (fun v _ _ => v = ?c22_2b), (fun v _ _ => v = ?c22_3b), (fun v _ _ => v = ?c22_4b), (fun v _ _ => v = ?c22_5b), (fun v _ _ => v = ?c22_6b), (fun v _ _ => v = ?c22_7b), (fun v _ _ => v = ?c22_8b), (fun v _ _ => v = ?c22_9b), (fun v _ _ => v = ?c22_10b), (fun v _ _ => v = ?c22_11b), (fun v _ _ => v = ?c22_12b), (fun v _ _ => v = ?c22_13b), (fun v _ _ => v = ?c22_14b), (fun v _ _ => v = ?c22_15b), (fun v _ _ => v = ?c22_16b), (fun v _ _ => v = ?c22_17b), (fun v _ _ => v = ?c22_18b), Is (.bool br), (fun v _ _ => v = ?c22_20b), (fun v _ _ => v = ?c22_21b)] hL.vw mixed [100, 101, 102, 103, 104, 105, 106, 107, 108, 109, 110, 111, 112, 113, 114, 115, 116, 117, 118, 119, 120, 121] _ (by kernel_rfl) (fun vs => by simp only [lay, Act.put, zq1, zq2, zq3]; rfl) (by kernel_rfl) (by decide) (by decide) ?s22b ?l22b ?r22b
         case s22b =>
          refine ⟨?_, ?_, ?_, ?_, ?_, ?_, ?_, ?_, ?_, ?_, ?_, ?_, ?_, ?_, ?_, ?_, ?_, ?_, ?_, ?_, ?_, ?_, trivial⟩
          ·intro vs W1 m1 hE hM hV hD; clear hD
           exact sPw
          ·intro vs W1 m1 hE hM hV hD; obtain ⟨⟨_, _, -, -, f100⟩, -⟩ := hD
           rw [(f100 : vs 100 = _)]; clear f100; exact sPw
          ·intro vs W1 m1 hE hM hV hD; obtain ⟨⟨_, _, -, -, f101⟩, -⟩ := hD
           rw [(f101 : vs 101 = _)]; clear f101; exact sFe
          ·intro vs W1 m1 hE hM hV hD; obtain ⟨⟨_, _, -, -, f102⟩, ⟨_, _, -, -, f101⟩, -⟩ := hD
           rw [(f102 : vs 102 = _), (f101 : vs 101 = _)]; clear f102 f101; exact sLe
          ·intro vs W1 m1 hE hM hV hD; obtain ⟨⟨_, _, -, -, f101⟩, -⟩ := hD
           rw [(f101 : vs 101 = _)]; clear f101; exact sPw
          ·intro vs W1 m1 hE hM hV hD; obtain ⟨⟨_, _, -, -, f103⟩, ⟨_, _, -, -, f104⟩, ⟨_, _, -, -, f101⟩, -⟩ := hD
           rw [(f103 : vs 103 = _), (f104 : vs 104 = _), (f101 : vs 101 = _)]; clear f103 f104 f101; exact sIy
          ·intro vs W1 m1 hE hM hV hD; obtain ⟨⟨_, _, -, -, f105⟩, ⟨_, _, -, -, f101⟩, -⟩ := hD
           rw [(f105 : vs 105 = _), (f101 : vs 101 = _)]; clear f105 f101; exact sFe
          ·intro vs W1 m1 hE hM hV hD; obtain ⟨⟨_, _, -, -, f106⟩, ⟨_, _, -, -, f101⟩, -⟩ := hD
           rw [(f106 : vs 106 = _), (f101 : vs 101 = _)]; clear f106 f101; exact sLe
          ·intro vs W1 m1 hE hM hV hD; obtain ⟨⟨_, _, -, -, f101⟩, -⟩ := hD
           rw [(f101 : vs 101 = _)]; clear f101; exact sPw
          ·intro vs W1 m1 hE hM hV hD; obtain ⟨⟨_, _, -, -, f107⟩, ⟨_, _, -, -, f108⟩, ⟨_, _, -, -, f101⟩, -⟩ := hD
           rw [(f107 : vs 107 = _), (f108 : vs 108 = _), (f101 : vs 101 = _)]; clear f107 f108 f101; exact sPw
          ·intro vs W1 m1 hE hM hV hD; obtain ⟨⟨_, _, -, -, f109⟩, ⟨_, _, -, -, f101⟩, -, -⟩ := hD
           rw [(f109 : vs 109 = _), (f101 : vs 101 = _)]; clear f109 f101; exact sPw
          ·intro vs W1 m1 hE hM hV hD; obtain ⟨⟨_, _, -, -, f110⟩, -⟩ := hD
           rw [(f110 : vs 110 = _)]; clear f110; exact sFe
          ·intro vs W1 m1 hE hM hV hD; obtain ⟨⟨_, _, -, -, f111⟩, ⟨_, _, -, -, f110⟩, -⟩ := hD
           rw [(f111 : vs 111 = _), (f110 : vs 110 = _)]; clear f111 f110; exact sLe
          ·intro vs W1 m1 hE hM hV hD; obtain ⟨⟨_, _, -, -, f110⟩, -⟩ := hD
           rw [(f110 : vs 110 = _)]; clear f110; exact sPw
          ·intro vs W1 m1 hE hM hV hD; obtain ⟨⟨_, _, -, -, f112⟩, ⟨_, _, -, -, f113⟩, ⟨_, _, -, -, f110⟩, -⟩ := hD
           rw [(f112 : vs 112 = _), (f113 : vs 113 = _), (f110 : vs 110 = _)]; clear f112 f113 f110; exact sIy
          ·intro vs W1 m1 hE hM hV hD; obtain ⟨⟨_, _, -, -, f114⟩, ⟨_, _, -, -, f110⟩, -⟩ := hD
           rw [(f114 : vs 114 = _), (f110 : vs 110 = _)]; clear f114 f110; exact sFe
          ·intro vs W1 m1 hE hM hV hD; obtain ⟨⟨_, _, -, -, f115⟩, ⟨_, _, -, -, f110⟩, -⟩ := hD
           rw [(f115 : vs 115 = _), (f110 : vs 110 = _)]; clear f115 f110; exact sLe
          ·intro vs W1 m1 hE hM hV hD; obtain ⟨⟨_, _, -, -, f110⟩, -⟩ := hD
           rw [(f110 : vs 110 = _)]; clear f110; exact sFe
          ·intro vs W1 m1 hE hM hV hD; obtain ⟨⟨_, _, -, -, f117⟩, ⟨_, _, -, -, f110⟩, -⟩ := hD
           rw [(f117 : vs 117 = _), (f110 : vs 110 = _)]; clear f117 f110; exact sLe
          ·intro vs W1 m1 hE hM hV hD; obtain ⟨⟨_, _, -, -, f116⟩, ⟨_, _, -, -, f118⟩, ⟨_, _, -, -, f110⟩, -, -⟩ := hD
           rw [(f116 : vs 116 = _), (f118 : vs 118 = _), (f110 : vs 110 = _)]
           clear f116 f118 f110
           go_wp2_with fail
           refine (KSI.out _ _ hV leX).mono ?_
           rintro e W2 ⟨v, m2, rfl, hE2, hM2, hV2, h⟩
           go_wp2_with fail
           refine One2.call hE2 hM2 hV2 ?_; first | exact h | exact rfl
          ·intro vs W1 m1 hE hM hV hD; obtain ⟨⟨_, _, -, -, f110⟩, ⟨_, _, -, -, f119⟩, ⟨_, _, -, -, f101⟩, -⟩ := hD
           rw [(f110 : vs 110 = _), (f119 : vs 119 = _), (f101 : vs 101 = _)]; clear f110 f119 f101; exact sPw
          ·intro vs W1 m1 hE hM hV hD; obtain ⟨⟨_, _, -, -, f101⟩, ⟨_, _, -, -, f120⟩, -⟩ := hD
           rw [(f101 : vs 101 = _), (f120 : vs 120 = _)]; clear f101 f120; exact sPw
         case l22b =>
          refine ⟨nF, nF, nF, nF, nF, nF, nF, nF, nF, nF, nF, nF, nF, nF, nF, nF, nF, nF, nF, nF, nF, nF, trivial⟩
         intro vs W1 m1 hE hM hV hF hD
         clear hD
         obtain ⟨-, -, -, -, -, -, -, -, -, -, -, -, -, -, -, -, -, -, -, -, -, ⟨_, _, -, -, f121⟩, -⟩ := hF
         replace hL := hL.call hE hM hV
         have f121 : vs 121 = _ := f121
         generalize vs 121 = x121 at f121 ⊢
         subst x121
         clear hE hV
         simp only [List.drop_succ_cons, List.drop_zero]
         go_wp2_with (first | go_skip | refine tP ?_ | (refine tS ?_; clear hL; intro _ hL) | (refine tB ?_; clear hL; intro _ _ hL _) | (refine tC ?_; clear hL; intro _ _ hL _ hBs))
         refine QN.mk ?_
         go_wp2_with (first | go_skip | refine tP ?_ | (refine tS ?_; clear hL; intro _ hL) | (refine tB ?_; clear hL; intro _ _ hL _) | (refine tC ?_; clear hL; intro _ _ hL _ hBs))
         go_roundw
         case rel => exact ⟨j + 1, _, by omega, by go_num, by rw [HST2.out], hL, exX⟩
         case measure => simp [intOf] <;> omega
        ·have hb : ((cd : Int) == (d : Int)) = false := bf hcd
         have HST2 : Hid (knwT ms.cuts (cutS ms d s) (decide (sg ≤ 0)) (j + 1) = false) := by
          show _ = _
          rw [HST.out, decide_eq_false (show ¬ cd = (cutS ms d s).2 from hcd)]; simp
         clear hcd HST
         go_upto_region 22 with ((first | go_skip | refine tP ?_ | (refine tS ?_; clear hL; intro _ hL) | (refine tB ?_; clear hL; intro _ _ hL _) | (refine tC ?_; clear hL; intro _ _ hL _ hBs)))
         refine wp_region_by2 22 [false, false, false, false, false, false, false, false, false, false, false, false, false, false, false, false, false, false, false, false, false, false] [false, false, false, false, false, false, false, false, false, false, false, false, false, false, false, false, false, false, false, false, false, false] [(fun v _ _ => v = ?c22_0c), (fun v _ _ => v = ?c22_1c), (fun v _ _ => v = ?c22_2c), (fun v _ _ => v = ?c22_3c), (fun v _ _ => v = ?c22_4c), (fun v _ _ => v = ?c22_5c), (fun v _ _ => v = ?c22_6c), (fun v _ _ => v = ?c22_7c), (fun v _ _ => v = ?c22_8c), (fun v _ _ => v = ?c22_9c), (fun v _ _ => v = ?c22_10c), (fun v _ _ => v = ?c22_11c), (fun v _ _ => v = ?c22_12c), (fun v _ _ => v = ?c22_13c), (fun v _ _ => v = ?c22_14c), (fun v _ _ => v = ?c22_15c), (fun v _ _ => v = ?c22_16c), (fun v _ _ => v = ?c22_17c), (fun v _ _ => v = ?c22_18c), (fun v _ _ => v = ?c22_19c), (fun v _ _ => v = ?c22_20c), (fun v _ _ => v = ?c22_21c)] hL.vw mixed [100, 101, 102, 103, 104, 105, 106, 107, 108, 109, 110, 111, 112, 113, 114, 115, 116, 117, 118, 119, 120, 121] _ (by kernel_rfl) (fun vs => by simp only [lay, Act.put, zq1, zq2, zq3]; rfl) (by kernel_rfl) (by decide) (by decide) ?s22c ?l22c ?r22c
         case s22c =>
          refine ⟨?_, ?_, ?_, ?_, ?_, ?_, ?_, ?_, ?_, ?_, ?_, ?_, ?_, ?_, ?_, ?_, ?_, ?_, ?_, ?_, ?_, ?_, trivial⟩
          ·intro vs W1 m1 hE hM hV hD; clear hD
           exact sPw
          ·intro vs W1 m1 hE hM hV hD; obtain ⟨⟨_, _, -, -, f100⟩, -⟩ := hD
           rw [(f100 : vs 100 = _)]; clear f100; exact sPw
          ·intro vs W1 m1 hE hM hV hD; obtain ⟨⟨_, _, -, -, f101⟩, -⟩ := hD
           rw [(f101 : vs 101 = _)]; clear f101; exact sFe
          ·intro vs W1 m1 hE hM hV hD; obtain ⟨⟨_, _, -, -, f102⟩, ⟨_, _, -, -, f101⟩, -⟩ := hD
           rw [(f102 : vs 102 = _), (f101 : vs 101 = _)]; clear f102 f101; exact sLe
          ·intro vs W1 m1 hE hM hV hD; obtain ⟨⟨_, _, -, -, f101⟩, -⟩ := hD
           rw [(f101 : vs 101 = _)]; clear f101; exact sPw
          ·intro vs W1 m1 hE hM hV hD; obtain ⟨⟨_, _, -, -, f103⟩, ⟨_, _, -, -, f104⟩, ⟨_, _, -, -, f101⟩, -⟩ := hD
           rw [(f103 : vs 103 = _), (f104 : vs 104 = _), (f101 : vs 101 = _)]; clear f103 f104 f101; exact sIy
          ·intro vs W1 m1 hE hM hV hD; obtain ⟨⟨_, _, -, -, f105⟩, ⟨_, _, -, -, f101⟩, -⟩ := hD
           rw [(f105 : vs 105 = _), (f101 : vs 101 = _)]; clear f105 f101; exact sFe
          ·intro vs W1 m1 hE hM hV hD; obtain ⟨⟨_, _, -, -, f106⟩, ⟨_, _, -, -, f101⟩, -⟩ := hD
           rw [(f106 : vs 106 = _), (f101 : vs 101 = _)]; clear f106 f101; exact sLe
          ·intro vs W1 m1 hE hM hV hD; obtain ⟨⟨_, _, -, -, f101⟩, -⟩ := hD
           rw [(f101 : vs 101 = _)]; clear f101; exact sPw
          ·intro vs W1 m1 hE hM hV hD; obtain ⟨⟨_, _, -, -, f107⟩, ⟨_, _, -, -, f108⟩, ⟨_, _, -, -, f101⟩, -⟩ := hD
           rw [(f107 : vs 107 = _), (f108 : vs 108 = _), (f101 : vs 101 = _)]; clear f107 f108 f101; exact sPw
          ·intro vs W1 m1 hE hM hV hD; obtain ⟨⟨_, _, -, -, f109⟩, ⟨_, _, -, -, f101⟩, -, -⟩ := hD
           rw [(f109 : vs 109 = _), (f101 : vs 101 = _)]; clear f109 f101; exact sPw
          ·intro vs W1 m1 hE hM hV hD; obtain ⟨⟨_, _, -, -, f110⟩, -⟩ := hD
           rw [(f110 : vs 110 = _)]; clear f110; exact sPw
          ·intro vs W1 m1 hE hM hV hD; obtain ⟨⟨_, _, -, -, f111⟩, ⟨_, _, -, -, f110⟩, -⟩ := hD
           rw [(f111 : vs 111 = _), (f110 : vs 110 = _)]; clear f111 f110; exact sPw
          ·intro vs W1 m1 hE hM hV hD; obtain ⟨⟨_, _, -, -, f110⟩, -⟩ := hD
           rw [(f110 : vs 110 = _)]; clear f110; exact sPw
          ·intro vs W1 m1 hE hM hV hD; obtain ⟨⟨_, _, -, -, f112⟩, ⟨_, _, -, -, f113⟩, ⟨_, _, -, -, f110⟩, -⟩ := hD
           rw [(f112 : vs 112 = _), (f113 : vs 113 = _), (f110 : vs 110 = _)]; clear f112 f113 f110; exact sPw
          ·intro vs W1 m1 hE hM hV hD; obtain ⟨⟨_, _, -, -, f114⟩, ⟨_, _, -, -, f110⟩, -⟩ := hD
           rw [(f114 : vs 114 = _), (f110 : vs 110 = _)]; clear f114 f110; exact sPw
          ·intro vs W1 m1 hE hM hV hD; obtain ⟨⟨_, _, -, -, f115⟩, ⟨_, _, -, -, f110⟩, -⟩ := hD
           rw [(f115 : vs 115 = _), (f110 : vs 110 = _)]; clear f115 f110; exact sPw
          ·intro vs W1 m1 hE hM hV hD; obtain ⟨⟨_, _, -, -, f110⟩, -⟩ := hD
           rw [(f110 : vs 110 = _)]; clear f110; exact sPw
          ·intro vs W1 m1 hE hM hV hD; obtain ⟨⟨_, _, -, -, f117⟩, ⟨_, _, -, -, f110⟩, -⟩ := hD
           rw [(f117 : vs 117 = _), (f110 : vs 110 = _)]; clear f117 f110; exact sPw
          ·intro vs W1 m1 hE hM hV hD; obtain ⟨⟨_, _, -, -, f116⟩, ⟨_, _, -, -, f118⟩, ⟨_, _, -, -, f110⟩, -, -⟩ := hD
           rw [(f116 : vs 116 = _), (f118 : vs 118 = _), (f110 : vs 110 = _)]; clear f116 f118 f110; exact sPw
          ·intro vs W1 m1 hE hM hV hD; obtain ⟨⟨_, _, -, -, f110⟩, ⟨_, _, -, -, f119⟩, ⟨_, _, -, -, f101⟩, -⟩ := hD
           rw [(f110 : vs 110 = _), (f119 : vs 119 = _), (f101 : vs 101 = _)]; clear f110 f119 f101; exact sPw
          ·intro vs W1 m1 hE hM hV hD; obtain ⟨⟨_, _, -, -, f101⟩, ⟨_, _, -, -, f120⟩, -⟩ := hD
           rw [(f101 : vs 101 = _), (f120 : vs 120 = _)]; clear f101 f120; exact sPw
         case l22c =>
          refine ⟨nF, nF, nF, nF, nF, nF, nF, nF, nF, nF, nF, nF, nF, nF, nF, nF, nF, nF, nF, nF, nF, nF, trivial⟩
         intro vs W1 m1 hE hM hV hF hD
         clear hD
         obtain ⟨-, -, -, -, -, -, -, -, -, -, -, -, -, -, -, -, -, -, -, -, -, ⟨_, _, -, -, f121⟩, -⟩ := hF
         replace hL := hL.call hE hM hV
         have f121 : vs 121 = _ := f121
         generalize vs 121 = x121 at f121 ⊢
         subst x121
         clear hE hV
         simp only [List.drop_succ_cons, List.drop_zero]
         go_wp2_with (first | go_skip | refine tP ?_ | (refine tS ?_; clear hL; intro _ hL) | (refine tB ?_; clear hL; intro _ _ hL _) | (refine tC ?_; clear hL; intro _ _ hL _ hBs))
         refine QN.mk ?_
         go_wp2_with (first | go_skip | refine tP ?_ | (refine tS ?_; clear hL; intro _ hL) | (refine tB ?_; clear hL; intro _ _ hL _) | (refine tC ?_; clear hL; intro _ _ hL _ hBs))
         go_roundw
         case rel => exact ⟨j + 1, _, by omega, by go_num, by rw [HST2.out], hL, exX⟩
         case measure => simp [intOf] <;> omega
      ·have hjk : nk = j := by omega
       subst hjk
       have h8 : (nk : Int) ≤ (nk : Int) := Int.le_refl _
       have HKA : Hid (knwT ms.cuts (cutS ms d s) (decide (sg ≤ 0)) nk = (decide (vioF (cutS ms d s) ms.cols us ≤ 0) || decide (cutS ms d s ∈ ms.cuts))) := by
        show _ = _
        rw [HNK.out, knwT_all, HSG.out, rs_le]
       rw [HKA.out]
       by_cases hkn : (decide (vioF (cutS ms d s) ms.cols us ≤ 0) || decide (cutS ms d s ∈ ms.cuts)) = true
       ·as_aux_lemma =>
        rw [hkn]
        have HFS : Hid (fndT ms us sz d (q + 1) = fndT ms us sz d q) := by
         show _ = _
         rw [fndT_step (by rw [← HNR.out]; exact HSQ.out), fndS_b, if_pos hkn]
        clear hkn
        go_wp2_with (first | go_skip | refine tP ?_ | (refine tS ?_; clear hL; intro _ hL) | (refine tB ?_; clear hL; intro _ _ hL _) | (refine tC ?_; clear hL; intro _ _ hL _ hBs))
        go_roundw
        case rel =>
         refine ⟨q + 1, _, N, Rl, Rw, ?_, Loc.dropA (A := [_, _]) (HLK.out.join hL), HOWN2.out.le leX, ?_, ?_, exX⟩
         ·have := (List.getElem?_eq_some_iff.1 HSQ.out).1
          omega
         ·show RowA _ _ _ _ _ _ _ _
          rw [HFS.out]
          exact RowA.le (R := CutR) (fun m m' v x h hb => CutR.le h hb) ROWL.out leX
         ·show RowA _ _ _ _ _ _ _ _
          rw [HFS.out]
          exact RowA.le FracC.mono ROWW.out leX
        case measure => exact ownM_less hnr5 hs3 hs5 HSQ.out HOL.out hL.vw (HOWN2.out.le leX)
       ·have HFS : Hid (fndT ms us sz d (q + 1) = fndT ms us sz d q ++ [(cutS ms d s, vioF (cutS ms d s) ms.cols us)]) := by
         show _ = _
         rw [fndT_step (by rw [← HNR.out]; exact HSQ.out), fndS_b, if_neg hkn]
        have HBE : Hid (bubD (srtC (fndT ms us sz d q) ++ [(cutS ms d s, vioF (cutS ms d s) ms.cols us)]) N = srtC (fndT ms us sz d (q + 1))) := by
         show _ = _
         have hn := ROWL.out.len
         rw [List.length_map, srtC_len] at hn
         rw [hn, HFS.out]
         exact bubD_snoc _ _ (bef_fnd (by rw [← HNR.out]; exact SO.out) (asc_pw OK.out.ms.asc) (by rw [← HNR.out]; exact HSQ.out))
        have HZ0 : Hid (∀ y ∈ srtC (fndT ms us sz d q) ++ [(cutS ms d s, vioF (cutS ms d s) ms.cols us)], Tw 60000 y.2 ∧ y.1.1.length = sz) := by
         show ∀ y ∈ _, _
         intro y hy
         have hone : ∀ t ∈ subsF ms.rows.length sz, Tw 60000 (vioF (cutS ms d t) ms.cols us) ∧ (cutS ms d t).1.length = sz := fun t ht => by
          rw [← HNR.out] at ht
          refine ⟨OK.out.vio (cutS_ok OK.out.ms (SO.out.len t ht) (SO.out.asc t ht) (fun i hi => by have := SO.out.lt t ht i hi; have := HNR.out; omega) hd2 hdz hs5), ?_⟩
          show (rowsS _ _).length = _
          unfold rowsS
          rw [List.length_map, SO.out.len t ht]
         rcases List.mem_append.1 hy with hy | hy
         ·obtain ⟨t, ht, rfl⟩ := fndT_mem (srtC_mem hy)
          exact hone t ht
         ·rw [List.mem_singleton.1 hy]
          exact hone s (by rw [← HNR.out]; exact List.mem_of_getElem? HSQ.out)
        have hknf : (decide (vioF (cutS ms d s) ms.cols us ≤ 0) || decide (cutS ms d s ∈ ms.cuts)) = false := Bool.eq_false_iff.2 hkn
        rw [hknf]
        obtain ⟨zf, hzf⟩ : ∃ zf, zf = srtC (fndT ms us sz d (q + 1)) := ⟨_, rfl⟩
        rw [← hzf] at HBE
        have HZF := Lib.hid hzf
        obtain ⟨nw, hnw⟩ : ∃ nw : Can, nw = (cutS ms d s, vioF (cutS ms d s) ms.cols us) := ⟨_, rfl⟩
        have HXN : Hid (CutR m9 (.agg #[.slice A9 sz c9, .int .i64 d]) nw.1) := by show CutR _ _ _; rw [hnw]; exact HXR.out
        have HVN : Hid (FracC mv (.agg #[.bool g1, .slice A1 n1 c1, .bool f1, .slice B1 k1 e1]) nw.2) := by show FracC _ _ _; rw [hnw]; exact HVQ.out
        rw [← hnw] at HBE HZ0
        have HRO1 := Lib.hid ROWL.out
        have HRO2 := Lib.hid ROWW.out
        generalize srtC (fndT ms us sz d q) = ys at HRO1 HRO2 HBE HZ0
        have HHL : Hid (ownM (subsF nr sz) (.bool true) (.slice A7 sz c7) wr = ownM (subsF nr sz) (.bool true) (.slice A7 sz c7) wr) := rfl
        have HN10 := Lib.hid hN10
        have HJ0 := HLK.out.join hL
        simp only [List.cons_append, List.nil_append] at HJ0
        have hLJ := HJ0.perm (List.Perm.cons _ (List.Perm.cons _ (List.perm_append_comm (l₁ := Rl) (l₂ := Rw))))
        have HXQ := Lib.hid hX6
        clear hkn hknf hzf hnw HFS HKA HHL hN10 HJ0 hL HFQ
        have hL := hLJ
        clear hLJ
        obtain ⟨wy, hwy⟩ := hL.world
        subst hwy
        go_wp2_with (first | go_skip | refine tP ?_ | (refine tS ?_; clear hL; intro _ hL) | (refine tB ?_; clear hL; intro _ _ hL _) | (refine tC ?_; clear hL; intro _ _ hL _ hBs))
        go_upto_region 24 with ((first | go_skip | refine tP ?_ | (refine tS ?_; clear hL; intro _ hL) | (refine tB ?_; clear hL; intro _ _ hL _) | (refine tC ?_; clear hL; intro _ _ hL _ hBs)))
        refine wp_region_via (fun a a' W2 => ∃ (A11 : Option Addr) (c11 : Nat) (A12 : Option Addr) (c12 b1 b2 : Nat) (m7 : World) (R1 R2 : List Lo), a' = ((((((((((a.put (some 123) (.slice AL N cL)).put (some 124) (.agg #[.slice A9 sz c9, .int .i64 d])).put (some 125) (.slice (some ⟨b1, 0, none⟩) 1 1)).put (some 126) (.slice A11 (N + 1) c11)).put (some 127) (.slice AW N cW)).put (some 128) (.agg #[.bool g1, .slice A1 n1 c1, .bool f1, .slice B1 k1 e1])).put (some 129) (.slice (some ⟨b2, 0, none⟩) 1 1)).put (some 130) (.slice A12 (N + 1) c12)).put (some 13) (.slice A11 (N + 1) c11)).put (some 14) (.slice A12 (N + 1) c12)) ∧ Loc w m W2 m7 (R1 ++ R2) ∧ RowA 34 2 CutR m7 (.slice A11 (N + 1) c11) (N + 1) (ys.map Prod.fst ++ [nw.1]) R1 ∧ RowA 39 4 FracC m7 (.slice A12 (N + 1) c12) (N + 1) (ys.map Prod.snd ++ [nw.2]) R2 ∧ Ext m6 m7) ?_ ?_
        ·as_aux_lemma =>
         intro Q hQ
         have HQ := Lib.hid hQ
         clear hQ
         obtain ⟨vl, rl, zl, yl, ll⟩ := HRO1.out
         obtain ⟨vw, rw', zw, yw, lw⟩ := HRO2.out
         have ZL := Lib.hid rl
         have Z1 := Lib.hid zl
         have Y1 := Lib.hid yl
         have L1 := Lib.hid ll
         have ZW := Lib.hid rw'
         have Z2 := Lib.hid zw
         have Y2 := Lib.hid yw
         have L2 := Lib.hid lw
         clear rl zl yl ll rw' zw yw lw
         refine wp_region_L 7 (fun w' => Blk w' Wv.heap.size 39 #[.bool g1, .slice A1 n1 c1, .bool f1, .slice B1 k1 e1]) (by kernel_rfl) ?_
         have hL9 := hL.drew
         clear hL
         have hL := hL9
         clear hL9
         refine wpL_take 0 3 (v := ?_) rfl (by kernel_rfl) (fun _ _ _ h => h) (hL.at_ lo0) (by rfl) ?yld ?_
         case yld => (intro w' hSw; obtain ⟨s1, s2, s3, s4, s5, s6, s7, s8⟩ := hSw.facts4; go_simp; try with_reducible rfl)
         simp only [List.getElem_toArray, List.getElem_cons_succ, List.getElem_cons_zero, Act.put, zq1, zq2, zq3]
         refine wpL_take 4 4 (v := ?_) rfl (by kernel_rfl) (fun _ _ _ h => h) (hL.at_ lo0) (by rfl) ?yld ?_
         case yld => (intro w' hSw; obtain ⟨s1, s2, s3, s4, s5, s6, s7, s8⟩ := hSw.facts4; go_simp; try with_reducible rfl)
         simp only [List.getElem_toArray, List.getElem_cons_succ, List.getElem_cons_zero, Act.put, zq1, zq2, zq3]
         refine wpL_take 5 6 (v := ?_) rfl (by kernel_rfl) (fun _ _ _ h => h) (hL.at_ lo0) (by rfl) ?yld ?_
         case yld => (intro w' hSw; obtain ⟨s1, s2, s3, s4, s5, s6, s7, s8⟩ := hSw.facts4; go_simp; try with_reducible rfl)
         simp only [List.getElem_toArray, List.getElem_cons_succ, List.getElem_cons_zero, Act.put, zq1, zq2, zq3]
         refine wpL_two 1 6 (by kernel_rfl) rfl rfl ?_ ?_
         ·go_wp2_with (first | go_skip | refine tP ?_ | (refine tS ?_; clear hL; intro _ hL) | (refine tB ?_; clear hL; intro _ _ hL _) | (refine tC ?_; clear hL; intro _ _ hL _ hBs))
          refine StepL.mk (hL.at_ lo0) ?_
          refine wpL_two 2 6 (by kernel_rfl) rfl rfl ?_ ?_
          ·refine t_bsA hL rfl rfl ?_
           clear hL
           intro Wb2 mb2 hL eb2 hb2
           simp only [Act.put, zq1, zq2, zq3]
           refine StepL.mk (hL.at_ lo0) ?_
           refine wpL_two 3 6 (by kernel_rfl) rfl rfl ?_ ?_
           ·refine wl_append (A := _ :: _ :: Rw) hL ZL.out (wanted_none rfl) rfl ap_Cuts (by omega) rfl rfl (news := [.slice A9 sz c9, .int .i64 d]) rfl ((Blk.sl hb2 (n := 2) rfl).le (Le.trans leX hL.vw.le)) rfl (by have := HN10.out; omega) (by omega) ?_
            clear hL
            intro v3 W3 m3 R3 hL r3 e3
            obtain ⟨A11, c11, rfl, -⟩ := r3.lit
            simp only [List.cons_append] at hL
            have hL3 := hL.perm (List.Perm.cons _ (List.Perm.cons _ (List.perm_append_comm (l₁ := Rw) (l₂ := R3))))
            clear hL
            have hL := hL3
            clear hL3
            simp only [Act.put, zq1, zq2, zq3]
            refine StepL.mk (hL.at_ lo0) ?_
            refine wpL_one 6 (by kernel_rfl) rfl ?_
            refine t_bsA hL rfl rfl ?_
            clear hL
            intro Wb6 mb6 hL eb6 hb6
            simp only [Act.put, zq1, zq2, zq3]
            refine StepL.mk (hL.at_ lo0) ?_
            refine wpL_one 7 (by kernel_rfl) rfl ?_
            refine wl_append (A := _ :: _ :: R3) hL ZW.out (wanted_none rfl) rfl ap_Fracs (by omega) rfl rfl (news := [.bool g1, .slice A1 n1 c1, .bool f1, .slice B1 k1 e1]) rfl ((Blk.sl hb6 (n := 4) rfl).le (Le.trans leX hL.vw.le)) rfl (by have := HN10.out; omega) (by omega) ?_
            clear hL
            intro v7 W7 m7 R7 hL r7 e7
            obtain ⟨A12, c12, rfl, -⟩ := r7.lit
            simp only [Act.put, zq1, zq2, zq3]
            refine StepL.mkL (by kernel_rfl) ?_
            refine wpL_one 8 (by kernel_rfl) rfl ?_
            go_wp2_with (first | go_skip | refine tP ?_ | (refine tS ?_; clear hL; intro _ hL) | (refine tB ?_; clear hL; intro _ _ hL _) | (refine tC ?_; clear hL; intro _ _ hL _ hBs))
            refine StepL.mkL (by kernel_rfl) ?_
            refine wpL_one 9 (by kernel_rfl) rfl ?_
            go_wp2_with (first | go_skip | refine tP ?_ | (refine tS ?_; clear hL; intro _ hL) | (refine tB ?_; clear hL; intro _ _ hL _) | (refine tC ?_; clear hL; intro _ _ hL _ hBs))
            refine StepL.mkL (by kernel_rfl) ?_
            refine wpL_done (by kernel_rfl) ?_ _
            refine NoPanic.normal ?_
            refine HQ.out _ _ ⟨A11, c11, A12, c12, wy.drew.heap.size, W3.heap.size, m7, R3, R7, ?_, Loc.dropA (A := [_, _]) hL, ?_, ?_, exX⟩
            ·simp only [Act.put, zq1, zq2, zq3]
            ·exact RowA.snoc (R := CutR) (m := m7) (x := nw.1) r3 Z1.out (Y1.out.mono fun v x hv => CutR.le hv leX) L1.out rfl (HXN.out.le leX)
            ·exact RowA.snoc (R := FracC) (m := m7) (x := nw.2) r7 Z2.out (Y2.out.mono fun v x hv => FracC.mono _ _ _ _ hv leX) L2.out rfl (HVN.out.le leX)
           ·refine t_bsA hL rfl rfl ?_
            clear hL
            intro Wb6 mb6 hL eb6 hb6
            simp only [Act.put, zq1, zq2, zq3]
            refine StepL.mk (hL.at_ lo0) ?_
            refine wpL_one 3 (by kernel_rfl) rfl ?_
            refine wl_append (A := _ :: _ :: Rw) hL ZL.out (wanted_none rfl) rfl ap_Cuts (by omega) rfl rfl (news := [.slice A9 sz c9, .int .i64 d]) rfl ((Blk.sl hb2 (n := 2) rfl).le (Le.trans leX hL.vw.le)) rfl (by have := HN10.out; omega) (by omega) ?_
            clear hL
            intro v3 W3 m3 R3 hL r3 e3
            obtain ⟨A11, c11, rfl, -⟩ := r3.lit
            simp only [List.cons_append] at hL
            have hL3 := hL.perm (List.Perm.cons _ (List.Perm.cons _ (List.perm_append_comm (l₁ := Rw) (l₂ := R3))))
            clear hL
            have hL := hL3
            clear hL3
            simp only [Act.put, zq1, zq2, zq3]
            refine StepL.mk (hL.at_ lo0) ?_
            refine wpL_one 7 (by kernel_rfl) rfl ?_
            refine wl_append (A := _ :: _ :: R3) hL ZW.out (wanted_none rfl) rfl ap_Fracs (by omega) rfl rfl (news := [.bool g1, .slice A1 n1 c1, .bool f1, .slice B1 k1 e1]) rfl ((Blk.sl hb6 (n := 4) rfl).le (Le.trans leX hL.vw.le)) rfl (by have := HN10.out; omega) (by omega) ?_
            clear hL
            intro v7 W7 m7 R7 hL r7 e7
            obtain ⟨A12, c12, rfl, -⟩ := r7.lit
            simp only [Act.put, zq1, zq2, zq3]
            refine StepL.mkL (by kernel_rfl) ?_
            refine wpL_one 8 (by kernel_rfl) rfl ?_
            go_wp2_with (first | go_skip | refine tP ?_ | (refine tS ?_; clear hL; intro _ hL) | (refine tB ?_; clear hL; intro _ _ hL _) | (refine tC ?_; clear hL; intro _ _ hL _ hBs))
            refine StepL.mkL (by kernel_rfl) ?_
            refine wpL_one 9 (by kernel_rfl) rfl ?_
            go_wp2_with (first | go_skip | refine tP ?_ | (refine tS ?_; clear hL; intro _ hL) | (refine tB ?_; clear hL; intro _ _ hL _) | (refine tC ?_; clear hL; intro _ _ hL _ hBs))
            refine StepL.mkL (by kernel_rfl) ?_
            refine wpL_done (by kernel_rfl) ?_ _
            refine NoPanic.normal ?_
            refine HQ.out _ _ ⟨A11, c11, A12, c12, wy.drew.heap.size, Wb2.heap.size, m7, R3, R7, ?_, Loc.dropA (A := [_, _]) hL, ?_, ?_, exX⟩
            ·simp only [Act.put, zq1, zq2, zq3]
            ·exact RowA.snoc (R := CutR) (m := m7) (x := nw.1) r3 Z1.out (Y1.out.mono fun v x hv => CutR.le hv leX) L1.out rfl (HXN.out.le leX)
            ·exact RowA.snoc (R := FracC) (m := m7) (x := nw.2) r7 Z2.out (Y2.out.mono fun v x hv => FracC.mono _ _ _ _ hv leX) L2.out rfl (HVN.out.le leX)
          ·refine t_bsA hL rfl rfl ?_
           clear hL
           intro Wb6 mb6 hL eb6 hb6
           simp only [Act.put, zq1, zq2, zq3]
           refine StepL.mk (hL.at_ lo0) ?_
           refine wpL_one 2 (by kernel_rfl) rfl ?_
           refine t_bsA hL rfl rfl ?_
           clear hL
           intro Wb2 mb2 hL eb2 hb2
           simp only [Act.put, zq1, zq2, zq3]
           refine StepL.mk (hL.at_ lo0) ?_
           refine wpL_one 3 (by kernel_rfl) rfl ?_
           refine wl_append (A := _ :: _ :: Rw) hL ZL.out (wanted_none rfl) rfl ap_Cuts (by omega) rfl rfl (news := [.slice A9 sz c9, .int .i64 d]) rfl ((Blk.sl hb2 (n := 2) rfl).le (Le.trans leX hL.vw.le)) rfl (by have := HN10.out; omega) (by omega) ?_
           clear hL
           intro v3 W3 m3 R3 hL r3 e3
           obtain ⟨A11, c11, rfl, -⟩ := r3.lit
           simp only [List.cons_append] at hL
           have hL3 := hL.perm (List.Perm.cons _ (List.Perm.cons _ (List.perm_append_comm (l₁ := Rw) (l₂ := R3))))
           clear hL
           have hL := hL3
           clear hL3
           simp only [Act.put, zq1, zq2, zq3]
           refine StepL.mk (hL.at_ lo0) ?_
           refine wpL_one 7 (by kernel_rfl) rfl ?_
           refine wl_append (A := _ :: _ :: R3) hL ZW.out (wanted_none rfl) rfl ap_Fracs (by omega) rfl rfl (news := [.bool g1, .slice A1 n1 c1, .bool f1, .slice B1 k1 e1]) rfl ((Blk.sl hb6 (n := 4) rfl).le (Le.trans leX hL.vw.le)) rfl (by have := HN10.out; omega) (by omega) ?_
           clear hL
           intro v7 W7 m7 R7 hL r7 e7
           obtain ⟨A12, c12, rfl, -⟩ := r7.lit
           simp only [Act.put, zq1, zq2, zq3]
           refine StepL.mkL (by kernel_rfl) ?_
           refine wpL_one 8 (by kernel_rfl) rfl ?_
           go_wp2_with (first | go_skip | refine tP ?_ | (refine tS ?_; clear hL; intro _ hL) | (refine tB ?_; clear hL; intro _ _ hL _) | (refine tC ?_; clear hL; intro _ _ hL _ hBs))
           refine StepL.mkL (by kernel_rfl) ?_
           refine wpL_one 9 (by kernel_rfl) rfl ?_
           go_wp2_with (first | go_skip | refine tP ?_ | (refine tS ?_; clear hL; intro _ hL) | (refine tB ?_; clear hL; intro _ _ hL _) | (refine tC ?_; clear hL; intro _ _ hL _ hBs))
           refine StepL.mkL (by kernel_rfl) ?_
           refine wpL_done (by kernel_rfl) ?_ _
           refine NoPanic.normal ?_
           refine HQ.out _ _ ⟨A11, c11, A12, c12, Wb6.heap.size, wy.drew.heap.size, m7, R3, R7, ?_, Loc.dropA (A := [_, _]) hL, ?_, ?_, exX⟩
           ·simp only [Act.put, zq1, zq2, zq3]
           ·exact RowA.snoc (R := CutR) (m := m7) (x := nw.1) r3 Z1.out (Y1.out.mono fun v x hv => CutR.le hv leX) L1.out rfl (HXN.out.le leX)
           ·exact RowA.snoc (R := FracC) (m := m7) (x := nw.2) r7 Z2.out (Y2.out.mono fun v x hv => FracC.mono _ _ _ _ hv leX) L2.out rfl (HVN.out.le leX)
         ·refine t_bsA hL rfl rfl ?_
          clear hL
          intro Wb6 mb6 hL eb6 hb6
          simp only [Act.put, zq1, zq2, zq3]
          refine StepL.mk (hL.at_ lo0) ?_
          refine wpL_one 1 (by kernel_rfl) rfl ?_
          go_wp2_with (first | go_skip | refine tP ?_ | (refine tS ?_; clear hL; intro _ hL) | (refine tB ?_; clear hL; intro _ _ hL _) | (refine tC ?_; clear hL; intro _ _ hL _ hBs))
          refine StepL.mk (hL.at_ lo0) ?_
          refine wpL_one 2 (by kernel_rfl) rfl ?_
          refine t_bsA hL rfl rfl ?_
          clear hL
          intro Wb2 mb2 hL eb2 hb2
          simp only [Act.put, zq1, zq2, zq3]
          refine StepL.mk (hL.at_ lo0) ?_
          refine wpL_one 3 (by kernel_rfl) rfl ?_
          refine wl_append (A := _ :: _ :: Rw) hL ZL.out (wanted_none rfl) rfl ap_Cuts (by omega) rfl rfl (news := [.slice A9 sz c9, .int .i64 d]) rfl ((Blk.sl hb2 (n := 2) rfl).le (Le.trans leX hL.vw.le)) rfl (by have := HN10.out; omega) (by omega) ?_
          clear hL
          intro v3 W3 m3 R3 hL r3 e3
          obtain ⟨A11, c11, rfl, -⟩ := r3.lit
          simp only [List.cons_append] at hL
          have hL3 := hL.perm (List.Perm.cons _ (List.Perm.cons _ (List.perm_append_comm (l₁ := Rw) (l₂ := R3))))
          clear hL
          have hL := hL3
          clear hL3
          simp only [Act.put, zq1, zq2, zq3]
          refine StepL.mk (hL.at_ lo0) ?_
          refine wpL_one 7 (by kernel_rfl) rfl ?_
          refine wl_append (A := _ :: _ :: R3) hL ZW.out (wanted_none rfl) rfl ap_Fracs (by omega) rfl rfl (news := [.bool g1, .slice A1 n1 c1, .bool f1, .slice B1 k1 e1]) rfl ((Blk.sl hb6 (n := 4) rfl).le (Le.trans leX hL.vw.le)) rfl (by have := HN10.out; omega) (by omega) ?_
          clear hL
          intro v7 W7 m7 R7 hL r7 e7
          obtain ⟨A12, c12, rfl, -⟩ := r7.lit
          simp only [Act.put, zq1, zq2, zq3]
          refine StepL.mkL (by kernel_rfl) ?_
          refine wpL_one 8 (by kernel_rfl) rfl ?_
          go_wp2_with (first | go_skip | refine tP ?_ | (refine tS ?_; clear hL; intro _ hL) | (refine tB ?_; clear hL; intro _ _ hL _) | (refine tC ?_; clear hL; intro _ _ hL _ hBs))
          refine StepL.mkL (by kernel_rfl) ?_
          refine wpL_one 9 (by kernel_rfl) rfl ?_
          go_wp2_with (first | go_skip | refine tP ?_ | (refine tS ?_; clear hL; intro _ hL) | (refine tB ?_; clear hL; intro _ _ hL _) | (refine tC ?_; clear hL; intro _ _ hL _ hBs))
          refine StepL.mkL (by kernel_rfl) ?_
          refine wpL_done (by kernel_rfl) ?_ _
          refine NoPanic.normal ?_
          refine HQ.out _ _ ⟨A11, c11, A12, c12, Wb6.heap.size, wy.drew.heap.size, m7, R3, R7, ?_, Loc.dropA (A := [_, _]) hL, ?_, ?_, exX⟩
          ·simp only [Act.put, zq1, zq2, zq3]
          ·exact RowA.snoc (R := CutR) (m := m7) (x := nw.1) r3 Z1.out (Y1.out.mono fun v x hv => CutR.le hv leX) L1.out rfl (HXN.out.le leX)
          ·exact RowA.snoc (R := FracC) (m := m7) (x := nw.2) r7 Z2.out (Y2.out.mono fun v x hv => FracC.mono _ _ _ _ hv leX) L2.out rfl (HVN.out.le leX)
        ·as_aux_lemma =>
         rintro a' W2 ⟨A11, c11, A12, c12, b1, b2, m7, R1, R2, rfl, hL2, rl2, rw2, e7⟩
         have HXQ7 : Hid (Ext mc3 m7) := HXQ.out.trans e7
         clear hL HXQ e7
         have hL := hL2
         clear hL2
         generalize hN1 : N + 1 = N1 at *
         obtain ⟨gl, capl, curl, hv1, rfl, -, -⟩ := rl2.block (by omega)
         obtain ⟨gw, capw, curw, hv2, rfl, -, -⟩ := rw2.block (by omega)
         injection hv1 with x1 x2 x3
         subst x1 x3
         injection hv2 with x1 x2 x3
         subst x1 x3
         have eL : ys.map Prod.fst ++ [nw.1] = (ys ++ [nw]).map Prod.fst := by rw [List.map_append]; rfl
         have eW : ys.map Prod.snd ++ [nw.2] = (ys ++ [nw]).map Prod.snd := by rw [List.map_append]; rfl
         rw [eL] at rl2
         rw [eW] at rw2
         have RL2 := Lib.hid rl2
         have RW2 := Lib.hid rw2
         have HN1 := Lib.hid hN1
         have hw1 : wrap64 ((N1 : Int) - 1) = (N : Int) := by have := HN10.out; unfold wrap64; omega
         have hw3 : IntKind.i64.wrap ((N1 : Int) - 1) = (N : Int) := by have := HN10.out; rw [IntKind.wrap_i64]; omega
         clear rl2 rw2 eL eW hN1 x2 HRO1 HRO2 ROWL ROWW
         simp only [List.cons_append, List.nil_append] at hL
         simp only [Act.put, zq1, zq2, zq3]
         go_wp2_with (first | go_skip | refine tP ?_ | (refine tS ?_; clear hL; intro _ hL) | (refine tB ?_; clear hL; intro _ _ hL _) | (refine tC ?_; clear hL; intro _ _ hL _ hBs))
         go_loopw [23] (fun kv wr => ∃ (j : Nat) (m8 : World) (zs : List Can) (cl cw : Array Value), j ≤ N ∧ kv = .int .i64 (j : Int) ∧ Loc w m wr m8 [(gl, 34, cl), (gw, 39, cw)] ∧ Hid (RowA 34 2 CutR m8 (.slice (some ⟨gl, 0, none⟩) N1 c11) N1 (zs.map Prod.fst) [(gl, 34, cl)]) ∧ Hid (RowA 39 4 FracC m8 (.slice (some ⟨gw, 0, none⟩) N1 c12) N1 (zs.map Prod.snd) [(gw, 39, cw)]) ∧ Hid (bubD zs j = zf) ∧ Hid (∀ y ∈ zs, Tw 60000 y.2 ∧ y.1.1.length = sz) ∧ Hid (Ext mc3 m8)) (fun kv _ => (intOf kv).toNat)
         case atStart => exact ⟨N, _, ys ++ [nw], _, _, Nat.le_refl _, (by with_reducible rfl), hL, RL2.out, RW2.out, HBE.out, HZ0.out, HXQ7.out⟩
         case round =>
          clear hL RL2 RW2 HBE HZ0 HXQ7 hw1 hw3
          obtain ⟨j, m8, zs, cl, cw, hj, rfl, hL, RL, RW, HB, HZ, HX8⟩ := hrel
          have hX := HX8.out
          by_cases hj0 : j = 0
          ·as_aux_lemma =>
           subst hj0
           have HZE : Hid (zs = zf) := HB.out
           clear HB hj
           go_wp2_with (first | go_skip | refine tP ?_ | (refine tS ?_; clear hL; intro _ hL) | (refine tB ?_; clear hL; intro _ _ hL _) | (refine tC ?_; clear hL; intro _ _ hL _ hBs))
           have HZG : Hid (zs = srtC (fndT ms us sz d (q + 1))) := by show _ = _; rw [HZE.out, HZF.out]
           go_roundw
           case rel =>
            refine ⟨q + 1, _, N1, [(gl, 34, cl)], [(gw, 39, cw)], ?_, hL, HOWN2.out.le leX, ?_, ?_, ?_⟩
            ·have := (List.getElem?_eq_some_iff.1 HSQ.out).1
             omega
            ·show RowA _ _ _ _ _ _ _ _
             rw [← HZG.out]
             exact RowA.le (R := CutR) (fun m m' v x h hb => CutR.le h hb) RL.out leX
            ·show RowA _ _ _ _ _ _ _ _
             rw [← HZG.out]
             exact RowA.le FracC.mono RW.out leX
            ·show Ext _ _
             exact exX
           case measure => exact ownM_less hnr5 hs3 hs5 HSQ.out HOL.out hL.vw (HOWN2.out.le leX)
          ·obtain ⟨j1, hj1⟩ : ∃ j1, j1 + 1 = j := ⟨j - 1, by omega⟩
           have HZN : Hid (zs.length = N1) := by
            have h := RL.out.len
            rw [List.length_map] at h
            exact h.symm
           have hjn : j < N1 := by have := HN1.out; omega
           have hjn1 : j1 < N1 := by omega
           obtain ⟨xa, hxa⟩ := at_some HZN hjn
           obtain ⟨xb, hxb⟩ := at_some HZN hjn1
           have hxa1 : (zs.map Prod.fst)[j]? = some xa.1 := by rw [List.getElem?_map, hxa]; rfl
           have hxb1 : (zs.map Prod.fst)[j1]? = some xb.1 := by rw [List.getElem?_map, hxb]; rfl
           have hxa2 : (zs.map Prod.snd)[j]? = some xa.2 := by rw [List.getElem?_map, hxa]; rfl
           have hxb2 : (zs.map Prod.snd)[j1]? = some xb.2 := by rw [List.getElem?_map, hxb]; rfl
           obtain ⟨P1, i1, p1, d1, hca, hia, hra⟩ := cut_at RL.out hxa1
           obtain ⟨P2, i2, p2, d2, hcb, hib, hrb⟩ := cut_at RL.out hxb1
           obtain ⟨gv3, A3, n3, c3, f3, B3, q3, r3, hfa, hsa⟩ := frac_at RW.out hxa2
           obtain ⟨gv4, A4, n4, c4, f4, B4, q4, r4, hfb, hsb⟩ := frac_at RW.out hxb2
           have hl1 : cl[j * 2]? = some (.slice P1 i1 p1) := by simpa using hra 0 (by omega)
           have hl2 : cl[j1 * 2]? = some (.slice P2 i2 p2) := by simpa using hrb 0 (by omega)
           have HCA := Lib.hid hca
           have HCB := Lib.hid hcb
           have HFA := Lib.hid hfa
           have HFB := Lib.hid hfb
           obtain ⟨tw1, le1⟩ := HZ.out _ (List.mem_of_getElem? hxa)
           obtain ⟨tw2, le2⟩ := HZ.out _ (List.mem_of_getElem? hxb)
           have HST : Hid (bubD zs (j1 + 1) = if stopD xa xb = true then zs else bubD (swp zs (j1 + 1)) j1) := bubD_go (by rw [hj1]; exact hxa) hxb
           rw [stop_is] at HST
           have HSW1 : Hid ((swp zs j).map Prod.fst = ((zs.map Prod.fst).set j xb.1).set j1 xa.1) := map_swp _ hj1 hxa hxb
           have HSW2 : Hid ((swp zs j).map Prod.snd = ((zs.map Prod.snd).set j xb.2).set j1 xa.2) := map_swp _ hj1 hxa hxb
           have KC : Hid (∀ w m', Vw m' w → Le m8 m' → Calls Tryz.prog 24 #[.agg #[.bool gv3, .slice A3 n3 c3, .bool f3, .slice B3 q3 r3], .agg #[.bool gv4, .slice A4 n4 c4, .bool f4, .slice B4 q4 r4]] w (RetV w m' fun _ r => r = .int .i64 (rs (xa.2 - xb.2)))) := by
            show ∀ w m', _
            intro w m' hV hle
            have t1 := tw1.fit (by decide)
            have t2 := tw2.fit (by decide)
            exact r_Compare _ _ xa.2 xb.2 w m' hV ((HFA.out.le hle).toV t1 (by decide)) ((HFB.out.le hle).toV t2 (by decide)) t1 t2 (((tw1.sub tw2).fit (by decide)).mono (by decide))
           have KB : Hid (∀ w m', Vw m' w → Le m8 m' → Calls Tryz.prog 110 #[.slice P1 i1 p1, .slice P2 i2 p2] w (RetV w m' fun _ r => r = .bool (befF xa.1.1 xb.1.1))) := by
            show ∀ w m', _
            exact fun w m' hV hle => r_before _ _ _ _ w m' hV (IntL.le hia hle) (IntL.le hib hle) (by rw [le1, le2]) (by rw [le1]; omega)
           have hjd : decide (0 < j) = true := decide_eq_true (by omega)
           have hjp : decide ((0 : Int) < (j : Int)) = true := decide_eq_true (by omega)
           have hw1 : wrap64 ((j : Int) - 1) = (j1 : Int) := by have := HN10.out; unfold wrap64; omega
           have hw3 : IntKind.i64.wrap ((j : Int) - 1) = (j1 : Int) := by have := HN10.out; rw [IntKind.wrap_i64]; omega
           have HJ := Lib.hid hj1
           have hin : j < zs.length := by rw [HZN.out]; exact hjn
           have hin1 : j1 < zs.length := by rw [HZN.out]; exact hjn1
           have HIN := Lib.hid hin
           have HIN1 := Lib.hid hin1
           generalize hce : rs (xa.2 - xb.2) = c at *
           generalize hbe : befF xa.1.1 xb.1.1 = bb at *
           clear hce hbe hxa hxb hxa1 hxb1 hxa2 hxb2 hca hcb hfa hfb hj1 hj0 tw1 tw2 le1 le2 hia hib hin hin1
           have hjj : j1 ≤ N := by have := HJ.out; omega
           have HJJ := Lib.hid hjj
           have HJL := Lib.hid hj
           clear hjj hj
           go_upto_region 28 with ((first | go_skip | refine tP ?_ | (refine tS ?_; clear hL; intro _ hL) | (refine tB ?_; clear hL; intro _ _ hL _) | (refine tC ?_; clear hL; intro _ _ hL _ hBs)))
           (try simp only [Nat.zero_add])
           (try simp only [eq_self] at *)
           refine wp_region_by2 10 [false, false, false, false, false, false, false, false, false, false] [false, false, false, false, false, false, false, false, false, false] [(fun v _ _ => v = ?c28_0), (fun v _ _ => v = ?c28_1), (fun v _ _ => v = ?c28_2), (fun v _ _ => v = ?c28_3), (fun v _ _ => v = ?c28_4), (fun v _ _ => v = ?c28_5), (fun v _ _ => v = ?c28_6), (fun v _ _ => v = ?c28_7), (fun v _ _ => v = ?c28_8), Is (.int .i64 c)] hL.vw mixed [138, 139, 140, 141, 142, 143, 144, 145, 146, 147] _ (by kernel_rfl) (fun vs => by simp only [lay, Act.put, zq1, zq2, zq3]; rfl) (by kernel_rfl) (by decide) (by decide) ?s28 ?l28 ?r28
           case s28 =>
            refine ⟨?_, ?_, ?_, ?_, ?_, ?_, ?_, ?_, ?_, ?_, trivial⟩
            ·intro vs W1 m1 hE hM hV hD; clear hD
             exact sPw
            ·intro vs W1 m1 hE hM hV hD; clear hD
             exact sPw
            ·intro vs W1 m1 hE hM hV hD; obtain ⟨⟨_, _, -, -, f138⟩, ⟨_, _, -, -, f139⟩, -⟩ := hD
             rw [(f138 : vs 138 = _), (f139 : vs 139 = _)]; clear f138 f139; exact sIy
            ·intro vs W1 m1 hE hM hV hD; obtain ⟨⟨_, _, -, -, f140⟩, -⟩ := hD
             rw [(f140 : vs 140 = _)]; clear f140; exact sLe
            ·intro vs W1 m1 hE hM hV hD; clear hD
             exact sPw
            ·intro vs W1 m1 hE hM hV hD; clear hD
             exact sPw
            ·intro vs W1 m1 hE hM hV hD; obtain ⟨⟨_, _, -, -, f143⟩, -⟩ := hD
             rw [(f143 : vs 143 = _)]; clear f143; exact sPw
            ·intro vs W1 m1 hE hM hV hD; obtain ⟨⟨_, _, -, -, f142⟩, ⟨_, _, -, -, f144⟩, -⟩ := hD
             rw [(f142 : vs 142 = _), (f144 : vs 144 = _)]; clear f142 f144; exact sIy
            ·intro vs W1 m1 hE hM hV hD; obtain ⟨⟨_, _, -, -, f145⟩, -⟩ := hD
             rw [(f145 : vs 145 = _)]; clear f145; exact sLe
            ·intro vs W1 m1 hE hM hV hD; obtain ⟨⟨_, _, -, -, f141⟩, ⟨_, _, -, -, f146⟩, -⟩ := hD
             rw [(f141 : vs 141 = _), (f146 : vs 146 = _)]
             clear f141 f146
             go_wp2_with fail
             refine (KC.out _ _ hV leX).mono ?_
             rintro e W2 ⟨v, m2, rfl, hE2, hM2, hV2, h⟩
             go_wp2_with fail
             refine One2.call hE2 hM2 hV2 ?_; first | exact h | exact rfl
           case l28 =>
            refine ⟨nF, nF, nF, nF, nF, nF, nF, nF, nF, nF, trivial⟩
           intro vs W1 m1 hE hM hV hF hD
           clear hD
           obtain ⟨-, -, -, -, -, -, -, -, -, ⟨_, _, -, -, f147⟩, -⟩ := hF
           replace hL := hL.call hE hM hV
           have f147 : vs 147 = _ := f147
           generalize vs 147 = x147 at f147 ⊢
           subst x147
           clear hE hV
           simp only [List.drop_succ_cons, List.drop_zero]
           go_wp2_with (first | go_skip | refine tP ?_ | (refine tS ?_; clear hL; intro _ hL) | (refine tB ?_; clear hL; intro _ _ hL _) | (refine tC ?_; clear hL; intro _ _ hL _ hBs))
           refine QN.mk ?_
           have HX81 : Hid (Ext mc3 m8) := HX8.out
           by_cases hc : c < 0
           ·as_aux_lemma =>
            have hbc : decide (c < 0) = true := decide_eq_true hc
            have HST2 : Hid (bubD zs (j1 + 1) = zs) := by
             show _ = _
             rw [HST.out, decide_eq_true hc]; rfl
            clear hc
            go_upto_region 29 with ((first | go_skip | refine tP ?_ | (refine tS ?_; clear hL; intro _ hL) | (refine tB ?_; clear hL; intro _ _ hL _) | (refine tC ?_; clear hL; intro _ _ hL _ hBs)))
            (try simp only [Nat.zero_add])
            (try simp only [eq_self] at *)
            refine wp_region_by2 21 [false, false, false, false, false, false, false, false, false, false, false, false, false, false, false, false, false, false, false, false, false] [false, false, false, false, false, false, false, false, false, false, false, false, false, false, false, false, false, false, false, false, false] [(fun v _ _ => v = ?c29_0a), (fun v _ _ => v = ?c29_1a), (fun v _ _ => v = ?c29_2a), (fun v _ _ => v = ?c29_3a), (fun v _ _ => v = ?c29_4a), (fun v _ _ => v = ?c29_5a), (fun v _ _ => v = ?c29_6a), (fun v _ _ => v = ?c29_7a), (fun v _ _ => v = ?c29_8a), (fun v _ _ => v = ?c29_9a), (fun v _ _ => v = ?c29_10a), (fun v _ _ => v = ?c29_11a), (fun v _ _ => v = ?c29_12a), (fun v _ _ => v = ?c29_13a), (fun v _ _ => v = ?c29_14a), (fun v _ _ => v = ?c29_15a), (fun v _ _ => v = ?c29_16a), (fun v _ _ => v = ?c29_17a), (fun v _ _ => v = ?c29_18a), (fun v _ _ => v = ?c29_19a), (fun v _ _ => v = ?c29_20a)] hL.vw mixed [148, 149, 150, 151, 152, 153, 154, 155, 156, 157, 158, 159, 160, 161, 162, 163, 164, 165, 166, 167, 168] _ (by kernel_rfl) (fun vs => by simp only [lay, Act.put, zq1, zq2, zq3]; rfl) (by kernel_rfl) (by decide) (by decide) ?s29a ?l29a ?r29a
            case s29a =>
             refine ⟨?_, ?_, ?_, ?_, ?_, ?_, ?_, ?_, ?_, ?_, ?_, ?_, ?_, ?_, ?_, ?_, ?_, ?_, ?_, ?_, ?_, trivial⟩
             ·intro vs W1 m1 hE hM hV hD; clear hD
              exact sPw
             ·intro vs W1 m1 hE hM hV hD; obtain ⟨⟨_, _, -, -, f148⟩, -⟩ := hD
              rw [(f148 : vs 148 = _)]; clear f148; exact sPw
             ·intro vs W1 m1 hE hM hV hD; obtain ⟨⟨_, _, -, -, f149⟩, -⟩ := hD
              rw [(f149 : vs 149 = _)]; clear f149; exact sPw
             ·intro vs W1 m1 hE hM hV hD; obtain ⟨⟨_, _, -, -, f150⟩, -⟩ := hD
              rw [(f150 : vs 150 = _)]; clear f150; exact sPw
             ·intro vs W1 m1 hE hM hV hD; obtain ⟨⟨_, _, -, -, f151⟩, ⟨_, _, -, -, f150⟩, -⟩ := hD
              rw [(f151 : vs 151 = _), (f150 : vs 150 = _)]; clear f151 f150; exact sPw
             ·intro vs W1 m1 hE hM hV hD; obtain ⟨⟨_, _, -, -, f152⟩, ⟨_, _, -, -, f150⟩, -, -⟩ := hD
              rw [(f152 : vs 152 = _), (f150 : vs 150 = _)]; clear f152 f150; exact sPw
             ·intro vs W1 m1 hE hM hV hD; obtain ⟨⟨_, _, -, -, f153⟩, -⟩ := hD
              rw [(f153 : vs 153 = _)]; clear f153; exact sPw
             ·intro vs W1 m1 hE hM hV hD; obtain ⟨⟨_, _, -, -, f153⟩, -⟩ := hD
              rw [(f153 : vs 153 = _)]; clear f153; exact sPw
             ·intro vs W1 m1 hE hM hV hD; obtain ⟨⟨_, _, -, -, f154⟩, ⟨_, _, -, -, f155⟩, ⟨_, _, -, -, f153⟩, -⟩ := hD
              rw [(f154 : vs 154 = _), (f155 : vs 155 = _), (f153 : vs 153 = _)]; clear f154 f155 f153; exact sPw
             ·intro vs W1 m1 hE hM hV hD; obtain ⟨⟨_, _, -, -, f156⟩, ⟨_, _, -, -, f153⟩, -⟩ := hD
              rw [(f156 : vs 156 = _), (f153 : vs 153 = _)]; clear f156 f153; exact sPw
             ·intro vs W1 m1 hE hM hV hD; obtain ⟨⟨_, _, -, -, f157⟩, ⟨_, _, -, -, f153⟩, -⟩ := hD
              rw [(f157 : vs 157 = _), (f153 : vs 153 = _)]; clear f157 f153; exact sPw
             ·intro vs W1 m1 hE hM hV hD; obtain ⟨⟨_, _, -, -, f153⟩, -⟩ := hD
              rw [(f153 : vs 153 = _)]; clear f153; exact sPw
             ·intro vs W1 m1 hE hM hV hD; obtain ⟨⟨_, _, -, -, f153⟩, -⟩ := hD
              rw [(f153 : vs 153 = _)]; clear f153; exact sPw
             ·intro vs W1 m1 hE hM hV hD; obtain ⟨⟨_, _, -, -, f160⟩, ⟨_, _, -, -, f153⟩, -⟩ := hD
              rw [(f160 : vs 160 = _), (f153 : vs 153 = _)]; clear f160 f153; exact sPw
             ·intro vs W1 m1 hE hM hV hD; obtain ⟨⟨_, _, -, -, f159⟩, ⟨_, _, -, -, f161⟩, ⟨_, _, -, -, f153⟩, -⟩ := hD
              rw [(f159 : vs 159 = _), (f161 : vs 161 = _), (f153 : vs 153 = _)]; clear f159 f161 f153; exact sPw
             ·intro vs W1 m1 hE hM hV hD; obtain ⟨⟨_, _, -, -, f162⟩, ⟨_, _, -, -, f153⟩, -⟩ := hD
              rw [(f162 : vs 162 = _), (f153 : vs 153 = _)]; clear f162 f153; exact sPw
             ·intro vs W1 m1 hE hM hV hD; obtain ⟨⟨_, _, -, -, f163⟩, ⟨_, _, -, -, f153⟩, -⟩ := hD
              rw [(f163 : vs 163 = _), (f153 : vs 153 = _)]; clear f163 f153; exact sPw
             ·intro vs W1 m1 hE hM hV hD; obtain ⟨⟨_, _, -, -, f158⟩, ⟨_, _, -, -, f164⟩, ⟨_, _, -, -, f153⟩, -, -⟩ := hD
              rw [(f158 : vs 158 = _), (f164 : vs 164 = _), (f153 : vs 153 = _)]; clear f158 f164 f153; exact sPw
             ·intro vs W1 m1 hE hM hV hD; obtain ⟨⟨_, _, -, -, f165⟩, ⟨_, _, -, -, f153⟩, -⟩ := hD
              rw [(f165 : vs 165 = _), (f153 : vs 153 = _)]; clear f165 f153; exact sPw
             ·intro vs W1 m1 hE hM hV hD; obtain ⟨⟨_, _, -, -, f153⟩, ⟨_, _, -, -, f166⟩, ⟨_, _, -, -, f150⟩, -⟩ := hD
              rw [(f153 : vs 153 = _), (f166 : vs 166 = _), (f150 : vs 150 = _)]; clear f153 f166 f150; exact sPw
             ·intro vs W1 m1 hE hM hV hD; obtain ⟨⟨_, _, -, -, f150⟩, ⟨_, _, -, -, f167⟩, -⟩ := hD
              rw [(f150 : vs 150 = _), (f167 : vs 167 = _)]; clear f150 f167; exact sPw
            case l29a =>
             refine ⟨nF, nF, nF, nF, nF, nF, nF, nF, nF, nF, nF, nF, nF, nF, nF, nF, nF, nF, nF, nF, nF, trivial⟩
            intro vs W1 m1 hE hM hV hF hD
            clear hD
            obtain ⟨⟨_, _, -, -, f148⟩, ⟨_, _, -, -, f149⟩, ⟨_, _, -, -, f150⟩, ⟨_, _, -, -, f151⟩, ⟨_, _, -, -, f152⟩, ⟨_, _, -, -, f153⟩, ⟨_, _, -, -, f154⟩, ⟨_, _, -, -, f155⟩, ⟨_, _, -, -, f156⟩, ⟨_, _, -, -, f157⟩, ⟨_, _, -, -, f158⟩, ⟨_, _, -, -, f159⟩, ⟨_, _, -, -, f160⟩, ⟨_, _, -, -, f161⟩, ⟨_, _, -, -, f162⟩, ⟨_, _, -, -, f163⟩, ⟨_, _, -, -, f164⟩, ⟨_, _, -, -, f165⟩, ⟨_, _, -, -, f166⟩, ⟨_, _, -, -, f167⟩, ⟨_, _, -, -, f168⟩, -⟩ := hF
            replace hL := hL.call hE hM hV
            have f148 : vs 148 = _ := f148
            generalize vs 148 = x148 at f148 ⊢
            subst x148
            have f149 : vs 149 = _ := f149
            generalize vs 149 = x149 at f149 ⊢
            subst x149
            have f150 : vs 150 = _ := f150
            generalize vs 150 = x150 at f150 ⊢
            subst x150
            have f151 : vs 151 = _ := f151
            generalize vs 151 = x151 at f151 ⊢
            subst x151
            have f152 : vs 152 = _ := f152
            generalize vs 152 = x152 at f152 ⊢
            subst x152
            have f153 : vs 153 = _ := f153
            generalize vs 153 = x153 at f153 ⊢
            subst x153
            have f154 : vs 154 = _ := f154
            generalize vs 154 = x154 at f154 ⊢
            subst x154
            have f155 : vs 155 = _ := f155
            generalize vs 155 = x155 at f155 ⊢
            subst x155
            have f156 : vs 156 = _ := f156
            generalize vs 156 = x156 at f156 ⊢
            subst x156
            have f157 : vs 157 = _ := f157
            generalize vs 157 = x157 at f157 ⊢
            subst x157
            have f158 : vs 158 = _ := f158
            generalize vs 158 = x158 at f158 ⊢
            subst x158
            have f159 : vs 159 = _ := f159
            generalize vs 159 = x159 at f159 ⊢
            subst x159
            have f160 : vs 160 = _ := f160
            generalize vs 160 = x160 at f160 ⊢
            subst x160
            have f161 : vs 161 = _ := f161
            generalize vs 161 = x161 at f161 ⊢
            subst x161
            have f162 : vs 162 = _ := f162
            generalize vs 162 = x162 at f162 ⊢
            subst x162
            have f163 : vs 163 = _ := f163
            generalize vs 163 = x163 at f163 ⊢
            subst x163
            have f164 : vs 164 = _ := f164
            generalize vs 164 = x164 at f164 ⊢
            subst x164
            have f165 : vs 165 = _ := f165
            generalize vs 165 = x165 at f165 ⊢
            subst x165
            have f166 : vs 166 = _ := f166
            generalize vs 166 = x166 at f166 ⊢
            subst x166
            have f167 : vs 167 = _ := f167
            generalize vs 167 = x167 at f167 ⊢
            subst x167
            have f168 : vs 168 = _ := f168
            generalize vs 168 = x168 at f168 ⊢
            subst x168
            clear hE hV
            simp only [List.drop_succ_cons, List.drop_zero]
            go_wp2_with (first | go_skip | refine tP ?_ | (refine tS ?_; clear hL; intro _ hL) | (refine tB ?_; clear hL; intro _ _ hL _) | (refine tC ?_; clear hL; intro _ _ hL _ hBs))
            refine QN.mk ?_
            
            have HZE : Hid (zs = zf) := by
             show _ = _
             rw [← HB.out, ← HJ.out, HST2.out]
            go_wp2_with (first | go_skip | refine tP ?_ | (refine tS ?_; clear hL; intro _ hL) | (refine tB ?_; clear hL; intro _ _ hL _) | (refine tC ?_; clear hL; intro _ _ hL _ hBs))
            have HZG : Hid (zs = srtC (fndT ms us sz d (q + 1))) := by show _ = _; rw [HZE.out, HZF.out]
            go_roundw
            case rel =>
             refine ⟨q + 1, _, N1, [(gl, 34, cl)], [(gw, 39, cw)], ?_, hL, HOWN2.out.le leX, ?_, ?_, ?_⟩
             ·have := (List.getElem?_eq_some_iff.1 HSQ.out).1
              omega
             ·show RowA _ _ _ _ _ _ _ _
              rw [← HZG.out]
              exact RowA.le (R := CutR) (fun m m' v x h hb => CutR.le h hb) RL.out leX
             ·show RowA _ _ _ _ _ _ _ _
              rw [← HZG.out]
              exact RowA.le FracC.mono RW.out leX
             ·show Ext _ _
              exact exX
            case measure => exact ownM_less hnr5 hs3 hs5 HSQ.out HOL.out hL.vw (HOWN2.out.le leX)
           ·have hbc : decide (c < 0) = false := decide_eq_false hc
            by_cases hc0 : c = 0
            ·have hbe : (c == 0) = true := bt hc0
             cases bb with
             | false =>
              as_aux_lemma =>
              have HST2 : Hid (bubD zs (j1 + 1) = zs) := by
               show _ = _
               rw [HST.out, decide_eq_true hc0]; simp
              clear hc hc0
              go_upto_region 29 with ((first | go_skip | refine tP ?_ | (refine tS ?_; clear hL; intro _ hL) | (refine tB ?_; clear hL; intro _ _ hL _) | (refine tC ?_; clear hL; intro _ _ hL _ hBs)))
              (try simp only [Nat.zero_add])
              (try simp only [eq_self] at *)
              refine wp_region_by2 21 [false, false, false, false, false, false, false, false, false, false, false, false, false, false, false, false, false, false, false, false, false] [false, false, false, false, false, false, false, false, false, false, false, false, false, false, false, false, false, false, false, false, false] [(fun v _ _ => v = ?c29_0b), (fun v _ _ => v = ?c29_1b), (fun v _ _ => v = ?c29_2b), (fun v _ _ => v = ?c29_3b), (fun v _ _ => v = ?c29_4b), (fun v _ _ => v = ?c29_5b), (fun v _ _ => v = ?c29_6b), (fun v _ _ => v = ?c29_7b), (fun v _ _ => v = ?c29_8b), (fun v _ _ => v = ?c29_9b), Is (.slice P1 i1 p1), (fun v _ _ => v = ?c29_11b), (fun v _ _ => v = ?c29_12b), (fun v _ _ => v = ?c29_13b), (fun v _ _ => v = ?c29_14b), (fun v _ _ => v = ?c29_15b), Is (.slice P2 i2 p2), Is (.bool false), (fun v _ _ => v = ?c29_18b), (fun v _ _ => v = ?c29_19b), (fun v _ _ => v = ?c29_20b)] hL.vw mixed [148, 149, 150, 151, 152, 153, 154, 155, 156, 157, 158, 159, 160, 161, 162, 163, 164, 165, 166, 167, 168] _ (by kernel_rfl) (fun vs => by simp only [lay, Act.put, zq1, zq2, zq3]; rfl) (by kernel_rfl) (by decide) (by decide) ?s29b ?l29b ?r29b
              case s29b =>
               refine ⟨?_, ?_, ?_, ?_, ?_, ?_, ?_, ?_, ?_, ?_, ?_, ?_, ?_, ?_, ?_, ?_, ?_, ?_, ?_, ?_, ?_, trivial⟩
               ·intro vs W1 m1 hE hM hV hD; clear hD
                exact sPw
               ·intro vs W1 m1 hE hM hV hD; obtain ⟨⟨_, _, -, -, f148⟩, -⟩ := hD
                rw [(f148 : vs 148 = _)]; clear f148; exact sPw
               ·intro vs W1 m1 hE hM hV hD; obtain ⟨⟨_, _, -, -, f149⟩, -⟩ := hD
                rw [(f149 : vs 149 = _)]; clear f149; exact sPw
               ·intro vs W1 m1 hE hM hV hD; obtain ⟨⟨_, _, -, -, f150⟩, -⟩ := hD
                rw [(f150 : vs 150 = _)]; clear f150; exact sPw
               ·intro vs W1 m1 hE hM hV hD; obtain ⟨⟨_, _, -, -, f151⟩, ⟨_, _, -, -, f150⟩, -⟩ := hD
                rw [(f151 : vs 151 = _), (f150 : vs 150 = _)]; clear f151 f150; exact sPw
               ·intro vs W1 m1 hE hM hV hD; obtain ⟨⟨_, _, -, -, f152⟩, ⟨_, _, -, -, f150⟩, -, -⟩ := hD
                rw [(f152 : vs 152 = _), (f150 : vs 150 = _)]; clear f152 f150; exact sPw
               ·intro vs W1 m1 hE hM hV hD; obtain ⟨⟨_, _, -, -, f153⟩, -⟩ := hD
                rw [(f153 : vs 153 = _)]; clear f153; exact sPw
               ·intro vs W1 m1 hE hM hV hD; obtain ⟨⟨_, _, -, -, f153⟩, -⟩ := hD
                rw [(f153 : vs 153 = _)]; clear f153; exact sPw
               ·intro vs W1 m1 hE hM hV hD; obtain ⟨⟨_, _, -, -, f154⟩, ⟨_, _, -, -, f155⟩, ⟨_, _, -, -, f153⟩, -⟩ := hD
                rw [(f154 : vs 154 = _), (f155 : vs 155 = _), (f153 : vs 153 = _)]; clear f154 f155 f153; exact sIy
               ·intro vs W1 m1 hE hM hV hD; obtain ⟨⟨_, _, -, -, f156⟩, ⟨_, _, -, -, f153⟩, -⟩ := hD
                rw [(f156 : vs 156 = _), (f153 : vs 153 = _)]; clear f156 f153; exact sFe
               ·intro vs W1 m1 hE hM hV hD; obtain ⟨⟨_, _, -, -, f157⟩, ⟨_, _, -, -, f153⟩, -⟩ := hD
                rw [(f157 : vs 157 = _), (f153 : vs 153 = _)]
                clear f157 f153
                (replace hL := hL.call hE hM hV; refine wl_load1 hL (wanted_some rfl rfl rfl rfl) rfl rfl lf_ints lo0 hl1 ?_; simp only [Act.put, zq1, zq2, zq3]; refine One2.still hV ?_; exact rfl)
               ·intro vs W1 m1 hE hM hV hD; obtain ⟨⟨_, _, -, -, f153⟩, -⟩ := hD
                rw [(f153 : vs 153 = _)]; clear f153; exact sPw
               ·intro vs W1 m1 hE hM hV hD; obtain ⟨⟨_, _, -, -, f153⟩, -⟩ := hD
                rw [(f153 : vs 153 = _)]; clear f153; exact sPw
               ·intro vs W1 m1 hE hM hV hD; obtain ⟨⟨_, _, -, -, f160⟩, ⟨_, _, -, -, f153⟩, -⟩ := hD
                rw [(f160 : vs 160 = _), (f153 : vs 153 = _)]; clear f160 f153; exact sPw
               ·intro vs W1 m1 hE hM hV hD; obtain ⟨⟨_, _, -, -, f159⟩, ⟨_, _, -, -, f161⟩, ⟨_, _, -, -, f153⟩, -⟩ := hD
                rw [(f159 : vs 159 = _), (f161 : vs 161 = _), (f153 : vs 153 = _)]; clear f159 f161 f153; exact sIy
               ·intro vs W1 m1 hE hM hV hD; obtain ⟨⟨_, _, -, -, f162⟩, ⟨_, _, -, -, f153⟩, -⟩ := hD
                rw [(f162 : vs 162 = _), (f153 : vs 153 = _)]; clear f162 f153; exact sFe
               ·intro vs W1 m1 hE hM hV hD; obtain ⟨⟨_, _, -, -, f163⟩, ⟨_, _, -, -, f153⟩, -⟩ := hD
                rw [(f163 : vs 163 = _), (f153 : vs 153 = _)]
                clear f163 f153
                (replace hL := hL.call hE hM hV; refine wl_load1 hL (wanted_some rfl rfl rfl rfl) rfl rfl lf_ints lo0 hl2 ?_; simp only [Act.put, zq1, zq2, zq3]; refine One2.still hV ?_; exact rfl)
               ·intro vs W1 m1 hE hM hV hD; obtain ⟨⟨_, _, -, -, f158⟩, ⟨_, _, -, -, f164⟩, ⟨_, _, -, -, f153⟩, -, -⟩ := hD
                rw [(f158 : vs 158 = _), (f164 : vs 164 = _), (f153 : vs 153 = _)]
                clear f158 f164 f153
                go_wp2_with fail
                refine (KB.out _ _ hV leX).mono ?_
                rintro e W2 ⟨v, m2, rfl, hE2, hM2, hV2, h⟩
                go_wp2_with fail
                refine One2.call hE2 hM2 hV2 ?_; first | exact h | exact rfl
               ·intro vs W1 m1 hE hM hV hD; obtain ⟨⟨_, _, -, -, f165⟩, ⟨_, _, -, -, f153⟩, -⟩ := hD
                rw [(f165 : vs 165 = _), (f153 : vs 153 = _)]; clear f165 f153; exact sPw
               ·intro vs W1 m1 hE hM hV hD; obtain ⟨⟨_, _, -, -, f153⟩, ⟨_, _, -, -, f166⟩, ⟨_, _, -, -, f150⟩, -⟩ := hD
                rw [(f153 : vs 153 = _), (f166 : vs 166 = _), (f150 : vs 150 = _)]; clear f153 f166 f150; exact sPw
               ·intro vs W1 m1 hE hM hV hD; obtain ⟨⟨_, _, -, -, f150⟩, ⟨_, _, -, -, f167⟩, -⟩ := hD
                rw [(f150 : vs 150 = _), (f167 : vs 167 = _)]; clear f150 f167; exact sPw
              case l29b =>
               refine ⟨nF, nF, nF, nF, nF, nF, nF, nF, nF, nF, nF, nF, nF, nF, nF, nF, nF, nF, nF, nF, nF, trivial⟩
              intro vs W1 m1 hE hM hV hF hD
              clear hD
              obtain ⟨⟨_, _, -, -, f148⟩, ⟨_, _, -, -, f149⟩, ⟨_, _, -, -, f150⟩, ⟨_, _, -, -, f151⟩, ⟨_, _, -, -, f152⟩, ⟨_, _, -, -, f153⟩, ⟨_, _, -, -, f154⟩, ⟨_, _, -, -, f155⟩, ⟨_, _, -, -, f156⟩, ⟨_, _, -, -, f157⟩, ⟨_, _, -, -, f158⟩, ⟨_, _, -, -, f159⟩, ⟨_, _, -, -, f160⟩, ⟨_, _, -, -, f161⟩, ⟨_, _, -, -, f162⟩, ⟨_, _, -, -, f163⟩, ⟨_, _, -, -, f164⟩, ⟨_, _, -, -, f165⟩, ⟨_, _, -, -, f166⟩, ⟨_, _, -, -, f167⟩, ⟨_, _, -, -, f168⟩, -⟩ := hF
              replace hL := hL.call hE hM hV
              have f148 : vs 148 = _ := f148
              generalize vs 148 = x148 at f148 ⊢
              subst x148
              have f149 : vs 149 = _ := f149
              generalize vs 149 = x149 at f149 ⊢
              subst x149
              have f150 : vs 150 = _ := f150
              generalize vs 150 = x150 at f150 ⊢
              subst x150
              have f151 : vs 151 = _ := f151
              generalize vs 151 = x151 at f151 ⊢
              subst x151
              have f152 : vs 152 = _ := f152
              generalize vs 152 = x152 at f152 ⊢
              subst x152
              have f153 : vs 153 = _ := f153
              generalize vs 153 = x153 at f153 ⊢
              subst x153
              have f154 : vs 154 = _ := f154
              generalize vs 154 = x154 at f154 ⊢
              subst x154
              have f155 : vs 155 = _ := f155
              generalize vs 155 = x155 at f155 ⊢
              subst x155
              have f156 : vs 156 = _ := f156
              generalize vs 156 = x156 at f156 ⊢
              subst x156
              have f157 : vs 157 = _ := f157
              generalize vs 157 = x157 at f157 ⊢
              subst x157
              have f158 : vs 158 = _ := f158
              generalize vs 158 = x158 at f158 ⊢
              subst x158
              have f159 : vs 159 = _ := f159
              generalize vs 159 = x159 at f159 ⊢
              subst x159
              have f160 : vs 160 = _ := f160
              generalize vs 160 = x160 at f160 ⊢
              subst x160
              have f161 : vs 161 = _ := f161
              generalize vs 161 = x161 at f161 ⊢
              subst x161
              have f162 : vs 162 = _ := f162
              generalize vs 162 = x162 at f162 ⊢
              subst x162
              have f163 : vs 163 = _ := f163
              generalize vs 163 = x163 at f163 ⊢
              subst x163
              have f164 : vs 164 = _ := f164
              generalize vs 164 = x164 at f164 ⊢
              subst x164
              have f165 : vs 165 = _ := f165
              generalize vs 165 = x165 at f165 ⊢
              subst x165
              have f166 : vs 166 = _ := f166
              generalize vs 166 = x166 at f166 ⊢
              subst x166
              have f167 : vs 167 = _ := f167
              generalize vs 167 = x167 at f167 ⊢
              subst x167
              have f168 : vs 168 = _ := f168
              generalize vs 168 = x168 at f168 ⊢
              subst x168
              clear hE hV
              simp only [List.drop_succ_cons, List.drop_zero]
              go_wp2_with (first | go_skip | refine tP ?_ | (refine tS ?_; clear hL; intro _ hL) | (refine tB ?_; clear hL; intro _ _ hL _) | (refine tC ?_; clear hL; intro _ _ hL _ hBs))
              refine QN.mk ?_
              
              have HZE : Hid (zs = zf) := by
               show _ = _
               rw [← HB.out, ← HJ.out, HST2.out]
              go_wp2_with (first | go_skip | refine tP ?_ | (refine tS ?_; clear hL; intro _ hL) | (refine tB ?_; clear hL; intro _ _ hL _) | (refine tC ?_; clear hL; intro _ _ hL _ hBs))
              have HZG : Hid (zs = srtC (fndT ms us sz d (q + 1))) := by show _ = _; rw [HZE.out, HZF.out]
              go_roundw
              case rel =>
               refine ⟨q + 1, _, N1, [(gl, 34, cl)], [(gw, 39, cw)], ?_, hL, HOWN2.out.le leX, ?_, ?_, ?_⟩
               ·have := (List.getElem?_eq_some_iff.1 HSQ.out).1
                omega
               ·show RowA _ _ _ _ _ _ _ _
                rw [← HZG.out]
                exact RowA.le (R := CutR) (fun m m' v x h hb => CutR.le h hb) RL.out leX
               ·show RowA _ _ _ _ _ _ _ _
                rw [← HZG.out]
                exact RowA.le FracC.mono RW.out leX
               ·show Ext _ _
                exact exX
              case measure => exact ownM_less hnr5 hs3 hs5 HSQ.out HOL.out hL.vw (HOWN2.out.le leX)
             | true =>
              as_aux_lemma =>
              have HST2 : Hid (bubD zs (j1 + 1) = bubD (swp zs (j1 + 1)) j1) := by
               show _ = _
               rw [HST.out, decide_eq_false hc, decide_eq_true hc0]; rfl
              rw [HJ.out] at HST2
              clear hc hc0
              go_upto_region 29 with ((first | go_skip | refine tP ?_ | (refine tS ?_; clear hL; intro _ hL) | (refine tB ?_; clear hL; intro _ _ hL _) | (refine tC ?_; clear hL; intro _ _ hL _ hBs)))
              (try simp only [Nat.zero_add])
              (try simp only [eq_self] at *)
              refine wp_region_by2 21 [false, false, false, false, false, false, false, false, false, false, false, false, false, false, false, false, false, false, false, false, false] [false, false, false, false, false, false, false, false, false, false, false, false, false, false, false, false, false, false, false, false, false] [(fun v _ _ => v = ?c29_0c), (fun v _ _ => v = ?c29_1c), (fun v _ _ => v = ?c29_2c), (fun v _ _ => v = ?c29_3c), (fun v _ _ => v = ?c29_4c), (fun v _ _ => v = ?c29_5c), (fun v _ _ => v = ?c29_6c), (fun v _ _ => v = ?c29_7c), (fun v _ _ => v = ?c29_8c), (fun v _ _ => v = ?c29_9c), Is (.slice P1 i1 p1), (fun v _ _ => v = ?c29_11c), (fun v _ _ => v = ?c29_12c), (fun v _ _ => v = ?c29_13c), (fun v _ _ => v = ?c29_14c), (fun v _ _ => v = ?c29_15c), Is (.slice P2 i2 p2), Is (.bool true), (fun v _ _ => v = ?c29_18c), (fun v _ _ => v = ?c29_19c), (fun v _ _ => v = ?c29_20c)] hL.vw mixed [148, 149, 150, 151, 152, 153, 154, 155, 156, 157, 158, 159, 160, 161, 162, 163, 164, 165, 166, 167, 168] _ (by kernel_rfl) (fun vs => by simp only [lay, Act.put, zq1, zq2, zq3]; rfl) (by kernel_rfl) (by decide) (by decide) ?s29c ?l29c ?r29c
              case s29c =>
               refine ⟨?_, ?_, ?_, ?_, ?_, ?_, ?_, ?_, ?_, ?_, ?_, ?_, ?_, ?_, ?_, ?_, ?_, ?_, ?_, ?_, ?_, trivial⟩
               ·intro vs W1 m1 hE hM hV hD; clear hD
                exact sPw
               ·intro vs W1 m1 hE hM hV hD; obtain ⟨⟨_, _, -, -, f148⟩, -⟩ := hD
                rw [(f148 : vs 148 = _)]; clear f148; exact sPw
               ·intro vs W1 m1 hE hM hV hD; obtain ⟨⟨_, _, -, -, f149⟩, -⟩ := hD
                rw [(f149 : vs 149 = _)]; clear f149; exact sPw
               ·intro vs W1 m1 hE hM hV hD; obtain ⟨⟨_, _, -, -, f150⟩, -⟩ := hD
                rw [(f150 : vs 150 = _)]; clear f150; exact sPw
               ·intro vs W1 m1 hE hM hV hD; obtain ⟨⟨_, _, -, -, f151⟩, ⟨_, _, -, -, f150⟩, -⟩ := hD
                rw [(f151 : vs 151 = _), (f150 : vs 150 = _)]; clear f151 f150; exact sPw
               ·intro vs W1 m1 hE hM hV hD; obtain ⟨⟨_, _, -, -, f152⟩, ⟨_, _, -, -, f150⟩, -, -⟩ := hD
                rw [(f152 : vs 152 = _), (f150 : vs 150 = _)]; clear f152 f150; exact sPw
               ·intro vs W1 m1 hE hM hV hD; obtain ⟨⟨_, _, -, -, f153⟩, -⟩ := hD
                rw [(f153 : vs 153 = _)]; clear f153; exact sPw
               ·intro vs W1 m1 hE hM hV hD; obtain ⟨⟨_, _, -, -, f153⟩, -⟩ := hD
                rw [(f153 : vs 153 = _)]; clear f153; exact sPw
               ·intro vs W1 m1 hE hM hV hD; obtain ⟨⟨_, _, -, -, f154⟩, ⟨_, _, -, -, f155⟩, ⟨_, _, -, -, f153⟩, -⟩ := hD
                rw [(f154 : vs 154 = _), (f155 : vs 155 = _), (f153 : vs 153 = _)]; clear f154 f155 f153; exact sIy
               ·intro vs W1 m1 hE hM hV hD; obtain ⟨⟨_, _, -, -, f156⟩, ⟨_, _, -, -, f153⟩, -⟩ := hD
                rw [(f156 : vs 156 = _), (f153 : vs 153 = _)]; clear f156 f153; exact sFe
               ·intro vs W1 m1 hE hM hV hD; obtain ⟨⟨_, _, -, -, f157⟩, ⟨_, _, -, -, f153⟩, -⟩ := hD
                rw [(f157 : vs 157 = _), (f153 : vs 153 = _)]
                clear f157 f153
                (replace hL := hL.call hE hM hV; refine wl_load1 hL (wanted_some rfl rfl rfl rfl) rfl rfl lf_ints lo0 hl1 ?_; simp only [Act.put, zq1, zq2, zq3]; refine One2.still hV ?_; exact rfl)
               ·intro vs W1 m1 hE hM hV hD; obtain ⟨⟨_, _, -, -, f153⟩, -⟩ := hD
                rw [(f153 : vs 153 = _)]; clear f153; exact sPw
               ·intro vs W1 m1 hE hM hV hD; obtain ⟨⟨_, _, -, -, f153⟩, -⟩ := hD
                rw [(f153 : vs 153 = _)]; clear f153; exact sPw
               ·intro vs W1 m1 hE hM hV hD; obtain ⟨⟨_, _, -, -, f160⟩, ⟨_, _, -, -, f153⟩, -⟩ := hD
                rw [(f160 : vs 160 = _), (f153 : vs 153 = _)]; clear f160 f153; exact sPw
               ·intro vs W1 m1 hE hM hV hD; obtain ⟨⟨_, _, -, -, f159⟩, ⟨_, _, -, -, f161⟩, ⟨_, _, -, -, f153⟩, -⟩ := hD
                rw [(f159 : vs 159 = _), (f161 : vs 161 = _), (f153 : vs 153 = _)]; clear f159 f161 f153; exact sIy
               ·intro vs W1 m1 hE hM hV hD; obtain ⟨⟨_, _, -, -, f162⟩, ⟨_, _, -, -, f153⟩, -⟩ := hD
                rw [(f162 : vs 162 = _), (f153 : vs 153 = _)]; clear f162 f153; exact sFe
               ·intro vs W1 m1 hE hM hV hD; obtain ⟨⟨_, _, -, -, f163⟩, ⟨_, _, -, -, f153⟩, -⟩ := hD
                rw [(f163 : vs 163 = _), (f153 : vs 153 = _)]
                clear f163 f153
                (replace hL := hL.call hE hM hV; refine wl_load1 hL (wanted_some rfl rfl rfl rfl) rfl rfl lf_ints lo0 hl2 ?_; simp only [Act.put, zq1, zq2, zq3]; refine One2.still hV ?_; exact rfl)
               ·intro vs W1 m1 hE hM hV hD; obtain ⟨⟨_, _, -, -, f158⟩, ⟨_, _, -, -, f164⟩, ⟨_, _, -, -, f153⟩, -, -⟩ := hD
                rw [(f158 : vs 158 = _), (f164 : vs 164 = _), (f153 : vs 153 = _)]
                clear f158 f164 f153
                go_wp2_with fail
                refine (KB.out _ _ hV leX).mono ?_
                rintro e W2 ⟨v, m2, rfl, hE2, hM2, hV2, h⟩
                go_wp2_with fail
                refine One2.call hE2 hM2 hV2 ?_; first | exact h | exact rfl
               ·intro vs W1 m1 hE hM hV hD; obtain ⟨⟨_, _, -, -, f165⟩, ⟨_, _, -, -, f153⟩, -⟩ := hD
                rw [(f165 : vs 165 = _), (f153 : vs 153 = _)]; clear f165 f153; exact sPw
               ·intro vs W1 m1 hE hM hV hD; obtain ⟨⟨_, _, -, -, f153⟩, ⟨_, _, -, -, f166⟩, ⟨_, _, -, -, f150⟩, -⟩ := hD
                rw [(f153 : vs 153 = _), (f166 : vs 166 = _), (f150 : vs 150 = _)]; clear f153 f166 f150; exact sPw
               ·intro vs W1 m1 hE hM hV hD; obtain ⟨⟨_, _, -, -, f150⟩, ⟨_, _, -, -, f167⟩, -⟩ := hD
                rw [(f150 : vs 150 = _), (f167 : vs 167 = _)]; clear f150 f167; exact sPw
              case l29c =>
               refine ⟨nF, nF, nF, nF, nF, nF, nF, nF, nF, nF, nF, nF, nF, nF, nF, nF, nF, nF, nF, nF, nF, trivial⟩
              intro vs W1 m1 hE hM hV hF hD
              clear hD
              obtain ⟨⟨_, _, -, -, f148⟩, ⟨_, _, -, -, f149⟩, ⟨_, _, -, -, f150⟩, ⟨_, _, -, -, f151⟩, ⟨_, _, -, -, f152⟩, ⟨_, _, -, -, f153⟩, ⟨_, _, -, -, f154⟩, ⟨_, _, -, -, f155⟩, ⟨_, _, -, -, f156⟩, ⟨_, _, -, -, f157⟩, ⟨_, _, -, -, f158⟩, ⟨_, _, -, -, f159⟩, ⟨_, _, -, -, f160⟩, ⟨_, _, -, -, f161⟩, ⟨_, _, -, -, f162⟩, ⟨_, _, -, -, f163⟩, ⟨_, _, -, -, f164⟩, ⟨_, _, -, -, f165⟩, ⟨_, _, -, -, f166⟩, ⟨_, _, -, -, f167⟩, ⟨_, _, -, -, f168⟩, -⟩ := hF
              replace hL := hL.call hE hM hV
              have f148 : vs 148 = _ := f148
              generalize vs 148 = x148 at f148 ⊢
              subst x148
              have f149 : vs 149 = _ := f149
              generalize vs 149 = x149 at f149 ⊢
              subst x149
              have f150 : vs 150 = _ := f150
              generalize vs 150 = x150 at f150 ⊢
              subst x150
              have f151 : vs 151 = _ := f151
              generalize vs 151 = x151 at f151 ⊢
              subst x151
              have f152 : vs 152 = _ := f152
              generalize vs 152 = x152 at f152 ⊢
              subst x152
              have f153 : vs 153 = _ := f153
              generalize vs 153 = x153 at f153 ⊢
              subst x153
              have f154 : vs 154 = _ := f154
              generalize vs 154 = x154 at f154 ⊢
              subst x154
              have f155 : vs 155 = _ := f155
              generalize vs 155 = x155 at f155 ⊢
              subst x155
              have f156 : vs 156 = _ := f156
              generalize vs 156 = x156 at f156 ⊢
              subst x156
              have f157 : vs 157 = _ := f157
              generalize vs 157 = x157 at f157 ⊢
              subst x157
              have f158 : vs 158 = _ := f158
              generalize vs 158 = x158 at f158 ⊢
              subst x158
              have f159 : vs 159 = _ := f159
              generalize vs 159 = x159 at f159 ⊢
              subst x159
              have f160 : vs 160 = _ := f160
              generalize vs 160 = x160 at f160 ⊢
              subst x160
              have f161 : vs 161 = _ := f161
              generalize vs 161 = x161 at f161 ⊢
              subst x161
              have f162 : vs 162 = _ := f162
              generalize vs 162 = x162 at f162 ⊢
              subst x162
              have f163 : vs 163 = _ := f163
              generalize vs 163 = x163 at f163 ⊢
              subst x163
              have f164 : vs 164 = _ := f164
              generalize vs 164 = x164 at f164 ⊢
              subst x164
              have f165 : vs 165 = _ := f165
              generalize vs 165 = x165 at f165 ⊢
              subst x165
              have f166 : vs 166 = _ := f166
              generalize vs 166 = x166 at f166 ⊢
              subst x166
              have f167 : vs 167 = _ := f167
              generalize vs 167 = x167 at f167 ⊢
              subst x167
              have f168 : vs 168 = _ := f168
              generalize vs 168 = x168 at f168 ⊢
              subst x168
              clear hE hV
              simp only [List.drop_succ_cons, List.drop_zero]
              go_wp2_with (first | go_skip | refine tP ?_ | (refine tS ?_; clear hL; intro _ hL) | (refine tB ?_; clear hL; intro _ _ hL _) | (refine tC ?_; clear hL; intro _ _ hL _ hBs))
              refine QN.mk ?_
              have HSN2 : Hid (bubD (swp zs j) j1 = zf) := by
               show _ = _
               rw [← HB.out, HST2.out]
              go_upto_region 30 with ((first | go_skip | refine tP ?_ | (refine tS ?_; clear hL; intro _ hL) | (refine tB ?_; clear hL; intro _ _ hL _) | (refine tC ?_; clear hL; intro _ _ hL _ hBs)))
              (try simp only [eq_self] at *)
              refine wp_region_by2 28 [false, false, false, false, false, false, false, false, false, false, false, false, false, false, false, false, false, false, false, false, false, false, false, false, false, false, false, false] [false, false, true, true, true, true, true, true, true, true, false, false, false, false, false, false, false, false, false, false, false, false, false, false, false, false, false, false] [(fun v _ _ => v = ?c30_0c), (fun v _ _ => v = ?c30_1c), (fun v _ _ => v = ?c30_2c), (fun v _ _ => v = ?c30_3c), (fun v _ _ => v = ?c30_4c), (fun v _ _ => v = ?c30_5c), (fun v _ _ => v = ?c30_6c), (fun v _ _ => v = ?c30_7c), (fun v _ _ => v = ?c30_8c), (fun v _ _ => v = ?c30_9c), (fun v _ _ => v = ?c30_10c), (fun v _ _ => v = ?c30_11c), (fun v _ _ => v = ?c30_12c), (fun v _ _ => v = ?c30_13c), (fun v _ _ => v = ?c30_14c), (fun v _ _ => v = ?c30_15c), (fun v _ _ => v = ?c30_16c), (fun v _ _ => v = ?c30_17c), (fun v _ _ => v = ?c30_18c), (fun v _ _ => v = ?c30_19c), (fun v _ _ => v = ?c30_20c), (fun v _ _ => v = ?c30_21c), (fun v _ _ => v = ?c30_22c), (fun v _ _ => v = ?c30_23c), (fun v _ _ => v = ?c30_24c), (fun v _ _ => v = ?c30_25c), (fun v _ _ => v = ?c30_26c), (fun v _ _ => v = ?c30_27c)] hL.vw mixed [169, 170, 171, 172, 173, 174, 175, 176, 177, 178, 179, 180, 181, 182, 183, 184, 185, 186, 187, 188, 189, 190, 191, 192, 193, 194, 195, 196] _ (by kernel_rfl) (fun vs => by simp only [lay, Act.put, zq1, zq2, zq3]; rfl) (by kernel_rfl) (by decide) (by decide) ?s30c ?l30c ?r30c
              case s30c =>
               refine ⟨?_, ?_, ?_, ?_, ?_, ?_, ?_, ?_, ?_, ?_, ?_, ?_, ?_, ?_, ?_, ?_, ?_, ?_, ?_, ?_, ?_, ?_, ?_, ?_, ?_, ?_, ?_, ?_, trivial⟩
               ·intro vs W1 m1 hE hM hV hD; clear hD
                exact sPw
               ·intro vs W1 m1 hE hM hV hD; clear hD
                exact sPw
               ·intro vs W1 m1 hE hM hV hD; clear hD
                exact sPw
               ·intro vs W1 m1 hE hM hV hD; clear hD
                exact sPw
               ·intro vs W1 m1 hE hM hV hD; obtain ⟨⟨_, _, -, -, f172⟩, -, -⟩ := hD
                rw [(f172 : vs 172 = _)]; clear f172; exact sPw
               ·intro vs W1 m1 hE hM hV hD; clear hD
                exact sPw
               ·intro vs W1 m1 hE hM hV hD; clear hD
                exact sPw
               ·intro vs W1 m1 hE hM hV hD; clear hD
                exact sPw
               ·intro vs W1 m1 hE hM hV hD; clear hD
                exact sPw
               ·intro vs W1 m1 hE hM hV hD; obtain ⟨⟨_, _, -, -, f177⟩, -, -⟩ := hD
                rw [(f177 : vs 177 = _)]; clear f177; exact sPw
               ·intro vs W1 m1 hE hM hV hD; clear hD
                exact sPw
               ·intro vs W1 m1 hE hM hV hD; clear hD
                exact sPw
               ·intro vs W1 m1 hE hM hV hD; obtain ⟨⟨_, _, -, -, f180⟩, -⟩ := hD
                rw [(f180 : vs 180 = _)]; clear f180; exact sPw
               ·intro vs W1 m1 hE hM hV hD; obtain ⟨⟨_, _, -, -, f179⟩, ⟨_, _, -, -, f181⟩, -⟩ := hD
                rw [(f179 : vs 179 = _), (f181 : vs 181 = _)]; clear f179 f181; exact sIy
               ·intro vs W1 m1 hE hM hV hD; obtain ⟨⟨_, _, -, -, f182⟩, -⟩ := hD
                rw [(f182 : vs 182 = _)]; clear f182; exact sLe
               ·intro vs W1 m1 hE hM hV hD; clear hD
                exact sPw
               ·intro vs W1 m1 hE hM hV hD; clear hD
                exact sPw
               ·intro vs W1 m1 hE hM hV hD; obtain ⟨⟨_, _, -, -, f184⟩, ⟨_, _, -, -, f185⟩, -⟩ := hD
                rw [(f184 : vs 184 = _), (f185 : vs 185 = _)]; clear f184 f185; exact sIy
               ·intro vs W1 m1 hE hM hV hD; obtain ⟨⟨_, _, -, -, f186⟩, -⟩ := hD
                rw [(f186 : vs 186 = _)]; clear f186; exact sLe
               ·intro vs W1 m1 hE hM hV hD; clear hD
                exact sPw
               ·intro vs W1 m1 hE hM hV hD; clear hD
                exact sPw
               ·intro vs W1 m1 hE hM hV hD; obtain ⟨⟨_, _, -, -, f189⟩, -⟩ := hD
                rw [(f189 : vs 189 = _)]; clear f189; exact sPw
               ·intro vs W1 m1 hE hM hV hD; obtain ⟨⟨_, _, -, -, f188⟩, ⟨_, _, -, -, f190⟩, -⟩ := hD
                rw [(f188 : vs 188 = _), (f190 : vs 190 = _)]; clear f188 f190; exact sIy
               ·intro vs W1 m1 hE hM hV hD; obtain ⟨⟨_, _, -, -, f191⟩, -⟩ := hD
                rw [(f191 : vs 191 = _)]; clear f191; exact sLe
               ·intro vs W1 m1 hE hM hV hD; clear hD
                exact sPw
               ·intro vs W1 m1 hE hM hV hD; clear hD
                exact sPw
               ·intro vs W1 m1 hE hM hV hD; obtain ⟨⟨_, _, -, -, f193⟩, ⟨_, _, -, -, f194⟩, -⟩ := hD
                rw [(f193 : vs 193 = _), (f194 : vs 194 = _)]; clear f193 f194; exact sIy
               ·intro vs W1 m1 hE hM hV hD; obtain ⟨⟨_, _, -, -, f195⟩, -⟩ := hD
                rw [(f195 : vs 195 = _)]; clear f195; exact sLe
              case l30c =>
               refine ⟨nF, nF, fun _ => ?_, fun _ => ?_, fun _ => ?_, fun _ => ?_, fun _ => ?_, fun _ => ?_, fun _ => ?_, fun _ => ?_, nF, nF, nF, nF, nF, nF, nF, nF, nF, nF, nF, nF, nF, nF, nF, nF, nF, nF, trivial⟩
               ·intro vs W1 m1 hE hM hV hD; clear hD
                exact ⟨_, Or.inl ⟨(by rfl), fun w => (by rfl)⟩, (by first | exact rfl | exact congrArg (Value.int .i64) hw3)⟩
               ·intro vs W1 m1 hE hM hV hD; clear hD
                exact ⟨_, Or.inl ⟨(by rfl), fun w => (by rfl)⟩, (by first | exact rfl | exact congrArg (Value.int .i64) hw3)⟩
               ·intro vs W1 m1 hE hM hV hD; obtain ⟨⟨_, _, -, -, f172⟩, -, -⟩ := hD
                rw [(f172 : vs 172 = _)]
                clear f172
                exact ⟨_, Or.inl ⟨(by rfl), fun w => (by rfl)⟩, (by first | exact rfl | exact congrArg (Value.int .i64) hw3)⟩
               ·intro vs W1 m1 hE hM hV hD; clear hD
                exact ⟨_, Or.inl ⟨(by rfl), fun w => (by rfl)⟩, (by first | exact rfl | exact congrArg (Value.int .i64) hw3)⟩
               ·intro vs W1 m1 hE hM hV hD; clear hD
                exact ⟨_, Or.inl ⟨(by rfl), fun w => (by rfl)⟩, (by first | exact rfl | exact congrArg (Value.int .i64) hw3)⟩
               ·intro vs W1 m1 hE hM hV hD; clear hD
                exact ⟨_, Or.inl ⟨(by rfl), fun w => (by rfl)⟩, (by first | exact rfl | exact congrArg (Value.int .i64) hw3)⟩
               ·intro vs W1 m1 hE hM hV hD; clear hD
                exact ⟨_, Or.inl ⟨(by rfl), fun w => (by rfl)⟩, (by first | exact rfl | exact congrArg (Value.int .i64) hw3)⟩
               ·intro vs W1 m1 hE hM hV hD; obtain ⟨⟨_, _, -, -, f177⟩, -, -⟩ := hD
                rw [(f177 : vs 177 = _)]
                clear f177
                exact ⟨_, Or.inl ⟨(by rfl), fun w => (by rfl)⟩, (by first | exact rfl | exact congrArg (Value.int .i64) hw3)⟩
              intro vs W1 m1 hE hM hV hF hD
              clear hD
              obtain ⟨⟨_, _, -, -, f169⟩, ⟨_, _, -, -, f170⟩, ⟨_, _, -, -, f171⟩, -, ⟨_, _, -, -, f173⟩, ⟨_, _, -, -, f174⟩, ⟨_, _, -, -, f175⟩, ⟨_, _, -, -, f176⟩, -, ⟨_, _, -, -, f178⟩, -, -, -, -, ⟨_, _, -, -, f183⟩, -, -, -, ⟨_, _, -, -, f187⟩, -, -, -, -, ⟨_, _, -, -, f192⟩, -, -, -, ⟨_, _, -, -, f196⟩, -⟩ := hF
              replace hL := hL.call hE hM hV
              have f169 : vs 169 = _ := f169
              generalize vs 169 = x169 at f169 ⊢
              subst x169
              have f170 : vs 170 = _ := f170
              generalize vs 170 = x170 at f170 ⊢
              subst x170
              have f171 : vs 171 = _ := f171
              generalize vs 171 = x171 at f171 ⊢
              subst x171
              have f173 : vs 173 = _ := f173
              generalize vs 173 = x173 at f173 ⊢
              subst x173
              have f174 : vs 174 = _ := f174
              generalize vs 174 = x174 at f174 ⊢
              subst x174
              have f175 : vs 175 = _ := f175
              generalize vs 175 = x175 at f175 ⊢
              subst x175
              have f176 : vs 176 = _ := f176
              generalize vs 176 = x176 at f176 ⊢
              subst x176
              have f178 : vs 178 = _ := f178
              generalize vs 178 = x178 at f178 ⊢
              subst x178
              have f183 : vs 183 = _ := f183
              generalize vs 183 = x183 at f183 ⊢
              subst x183
              have f187 : vs 187 = _ := f187
              generalize vs 187 = x187 at f187 ⊢
              subst x187
              have f192 : vs 192 = _ := f192
              generalize vs 192 = x192 at f192 ⊢
              subst x192
              have f196 : vs 196 = _ := f196
              generalize vs 196 = x196 at f196 ⊢
              subst x196
              clear hE hV
              simp only [List.drop_succ_cons, List.drop_zero]
              have hfl := RL.out.fit
              have hfw := RW.out.fit
              have hfj : 0 + j * 2 + 2 ≤ cl.size := by omega
              have hfj1 : 0 + j1 * 2 + 2 ≤ cl.size := by omega
              have hfk : 0 + j * 4 + 4 ≤ cw.size := by omega
              have hfk1 : 0 + j1 * 4 + 4 ≤ cw.size := by omega
              clear hfl hfw
              go_wp2_with (first | (with_reducible refine stS ?_) | (first | go_skip | refine tP ?_ | (refine tS ?_; clear hL; intro _ hL) | (refine tB ?_; clear hL; intro _ _ hL _) | (refine tC ?_; clear hL; intro _ _ hL _ hBs)))
              refine goA ?_
              refine wl_storeS hL (wanted_none rfl) (vs := [.slice P2 i2 p2, .int .i64 d2]) rfl rfl rfl ag_Cut rfl (n := 0) rfl (by omega) rfl ?_
              have hra1 := RowA.putW (k := j) (x := xb.1) (ws := [.slice P2 i2 p2, .int .i64 d2]) RL.out (by rw [List.length_map]; exact HIN.out) rfl HCB.out
              simp only [Nat.zero_add] at hra1
              clear hL
              intro W7 hL hS7
              simp only [List.set_cons_zero, List.set_cons_succ, Nat.zero_add] at hL
              simp only [Act.put, zq1, zq2, zq3]
              go_wp2_with (first | (with_reducible refine stS ?_) | (first | go_skip | refine tP ?_ | (refine tS ?_; clear hL; intro _ hL) | (refine tB ?_; clear hL; intro _ _ hL _) | (refine tC ?_; clear hL; intro _ _ hL _ hBs)))
              refine goA ?_
              refine wl_storeS hL (wanted_none rfl) (vs := [.slice P1 i1 p1, .int .i64 d1]) rfl rfl rfl ag_Cut rfl (n := 0) rfl (by rw [splice_size]; omega) rfl ?_
              have hra2 := RowA.putW (k := j1) (x := xa.1) (ws := [.slice P1 i1 p1, .int .i64 d1]) hra1 (by rw [List.length_set, List.length_map]; exact HIN1.out) rfl HCA.out
              rw [← HSW1.out] at hra2
              simp only [Nat.zero_add] at hra2
              clear hL hra1
              intro W8 hL hS8
              simp only [List.set_cons_zero, List.set_cons_succ, Nat.zero_add] at hL
              simp only [Act.put, zq1, zq2, zq3]
              go_wp2_with (first | (with_reducible refine stS ?_) | (first | go_skip | refine tP ?_ | (refine tS ?_; clear hL; intro _ hL) | (refine tB ?_; clear hL; intro _ _ hL _) | (refine tC ?_; clear hL; intro _ _ hL _ hBs)))
              refine goA ?_
              refine wl_storeS hL (wanted_none rfl) (vs := [.bool gv4, .slice A4 n4 c4, .bool f4, .slice B4 q4 r4]) rfl rfl rfl ag_Frac rfl (n := 1) rfl (by omega) rfl ?_
              have hrw1 := RowA.putW (k := j) (x := xb.2) (ws := [.bool gv4, .slice A4 n4 c4, .bool f4, .slice B4 q4 r4]) RW.out (by rw [List.length_map]; exact HIN.out) rfl HFB.out
              simp only [Nat.zero_add] at hrw1
              clear hL
              intro W9 hL hS9
              simp only [List.set_cons_zero, List.set_cons_succ, Nat.zero_add] at hL
              simp only [Act.put, zq1, zq2, zq3]
              go_wp2_with (first | (with_reducible refine stS ?_) | (first | go_skip | refine tP ?_ | (refine tS ?_; clear hL; intro _ hL) | (refine tB ?_; clear hL; intro _ _ hL _) | (refine tC ?_; clear hL; intro _ _ hL _ hBs)))
              refine goA ?_
              refine wl_storeS hL (wanted_none rfl) (vs := [.bool gv3, .slice A3 n3 c3, .bool f3, .slice B3 q3 r3]) rfl rfl rfl ag_Frac rfl (n := 1) rfl (by rw [splice_size]; omega) rfl ?_
              have hrw2 := RowA.putW (k := j1) (x := xa.2) (ws := [.bool gv3, .slice A3 n3 c3, .bool f3, .slice B3 q3 r3]) hrw1 (by rw [List.length_set, List.length_map]; exact HIN1.out) rfl HFA.out
              rw [← HSW2.out] at hrw2
              simp only [Nat.zero_add] at hrw2
              clear hL hrw1
              intro W10 hL hS10
              simp only [List.set_cons_zero, List.set_cons_succ, Nat.zero_add] at hL
              have RA2 := Lib.hid hra2
              have RA3 := Lib.hid hrw2
              have HZ2 : Hid (∀ y ∈ swp zs j, Tw 60000 y.2 ∧ y.1.1.length = sz) := by
               show ∀ y ∈ _, _
               exact fun y hy => HZ.out y (swp_mem hy)
              clear hra2 hrw2 hS7 hS8 hS9 hS10
              simp only [Act.put, zq1, zq2, zq3]
              go_wp2_with (first | go_skip | refine tP ?_ | (refine tS ?_; clear hL; intro _ hL) | (refine tB ?_; clear hL; intro _ _ hL _) | (refine tC ?_; clear hL; intro _ _ hL _ hBs))
              refine QN.mk ?_
              go_wp2_with (first | go_skip | refine tP ?_ | (refine tS ?_; clear hL; intro _ hL) | (refine tB ?_; clear hL; intro _ _ hL _) | (refine tC ?_; clear hL; intro _ _ hL _ hBs))
              go_roundw
              case rel => exact ⟨j1, _, swp zs j, _, _, HJJ.out, by go_num, hL, RowA.le (R := CutR) (fun m m' v x h hb => CutR.le h hb) RA2.out leX, RowA.le FracC.mono RA3.out leX, HSN2.out, HZ2.out, HX81.out.trans exX⟩
              case measure => have := HJ.out; simp [intOf] <;> omega
            ·as_aux_lemma =>
             have hbe : (c == 0) = false := bf hc0
             have HST2 : Hid (bubD zs (j1 + 1) = bubD (swp zs (j1 + 1)) j1) := by
              show _ = _
              rw [HST.out, decide_eq_false hc, decide_eq_false hc0]; rfl
             rw [HJ.out] at HST2
             clear hc hc0
             go_upto_region 29 with ((first | go_skip | refine tP ?_ | (refine tS ?_; clear hL; intro _ hL) | (refine tB ?_; clear hL; intro _ _ hL _) | (refine tC ?_; clear hL; intro _ _ hL _ hBs)))
             (try simp only [Nat.zero_add])
             (try simp only [eq_self] at *)
             refine wp_region_by2 21 [false, false, false, false, false, false, false, false, false, false, false, false, false, false, false, false, false, false, false, false, false] [false, false, false, false, false, false, false, false, false, false, false, false, false, false, false, false, false, false, false, false, false] [(fun v _ _ => v = ?c29_0d), (fun v _ _ => v = ?c29_1d), (fun v _ _ => v = ?c29_2d), (fun v _ _ => v = ?c29_3d), (fun v _ _ => v = ?c29_4d), (fun v _ _ => v = ?c29_5d), (fun v _ _ => v = ?c29_6d), (fun v _ _ => v = ?c29_7d), (fun v _ _ => v = ?c29_8d), (fun v _ _ => v = ?c29_9d), (fun v _ _ => v = ?c29_10d), (fun v _ _ => v = ?c29_11d), (fun v _ _ => v = ?c29_12d), (fun v _ _ => v = ?c29_13d), (fun v _ _ => v = ?c29_14d), (fun v _ _ => v = ?c29_15d), (fun v _ _ => v = ?c29_16d), (fun v _ _ => v = ?c29_17d), (fun v _ _ => v = ?c29_18d), (fun v _ _ => v = ?c29_19d), (fun v _ _ => v = ?c29_20d)] hL.vw mixed [148, 149, 150, 151, 152, 153, 154, 155, 156, 157, 158, 159, 160, 161, 162, 163, 164, 165, 166, 167, 168] _ (by kernel_rfl) (fun vs => by simp only [lay, Act.put, zq1, zq2, zq3]; rfl) (by kernel_rfl) (by decide) (by decide) ?s29d ?l29d ?r29d
             case s29d =>
              refine ⟨?_, ?_, ?_, ?_, ?_, ?_, ?_, ?_, ?_, ?_, ?_, ?_, ?_, ?_, ?_, ?_, ?_, ?_, ?_, ?_, ?_, trivial⟩
              ·intro vs W1 m1 hE hM hV hD; clear hD
               exact sPw
              ·intro vs W1 m1 hE hM hV hD; obtain ⟨⟨_, _, -, -, f148⟩, -⟩ := hD
               rw [(f148 : vs 148 = _)]; clear f148; exact sPw
              ·intro vs W1 m1 hE hM hV hD; obtain ⟨⟨_, _, -, -, f149⟩, -⟩ := hD
               rw [(f149 : vs 149 = _)]; clear f149; exact sPw
              ·intro vs W1 m1 hE hM hV hD; obtain ⟨⟨_, _, -, -, f150⟩, -⟩ := hD
               rw [(f150 : vs 150 = _)]; clear f150; exact sPw
              ·intro vs W1 m1 hE hM hV hD; obtain ⟨⟨_, _, -, -, f151⟩, ⟨_, _, -, -, f150⟩, -⟩ := hD
               rw [(f151 : vs 151 = _), (f150 : vs 150 = _)]; clear f151 f150; exact sPw
              ·intro vs W1 m1 hE hM hV hD; obtain ⟨⟨_, _, -, -, f152⟩, ⟨_, _, -, -, f150⟩, -, -⟩ := hD
               rw [(f152 : vs 152 = _), (f150 : vs 150 = _)]; clear f152 f150; exact sPw
              ·intro vs W1 m1 hE hM hV hD; obtain ⟨⟨_, _, -, -, f153⟩, -⟩ := hD
               rw [(f153 : vs 153 = _)]; clear f153; exact sPw
              ·intro vs W1 m1 hE hM hV hD; obtain ⟨⟨_, _, -, -, f153⟩, -⟩ := hD
               rw [(f153 : vs 153 = _)]; clear f153; exact sPw
              ·intro vs W1 m1 hE hM hV hD; obtain ⟨⟨_, _, -, -, f154⟩, ⟨_, _, -, -, f155⟩, ⟨_, _, -, -, f153⟩, -⟩ := hD
               rw [(f154 : vs 154 = _), (f155 : vs 155 = _), (f153 : vs 153 = _)]; clear f154 f155 f153; exact sPw
              ·intro vs W1 m1 hE hM hV hD; obtain ⟨⟨_, _, -, -, f156⟩, ⟨_, _, -, -, f153⟩, -⟩ := hD
               rw [(f156 : vs 156 = _), (f153 : vs 153 = _)]; clear f156 f153; exact sPw
              ·intro vs W1 m1 hE hM hV hD; obtain ⟨⟨_, _, -, -, f157⟩, ⟨_, _, -, -, f153⟩, -⟩ := hD
               rw [(f157 : vs 157 = _), (f153 : vs 153 = _)]; clear f157 f153; exact sPw
              ·intro vs W1 m1 hE hM hV hD; obtain ⟨⟨_, _, -, -, f153⟩, -⟩ := hD
               rw [(f153 : vs 153 = _)]; clear f153; exact sPw
              ·intro vs W1 m1 hE hM hV hD; obtain ⟨⟨_, _, -, -, f153⟩, -⟩ := hD
               rw [(f153 : vs 153 = _)]; clear f153; exact sPw
              ·intro vs W1 m1 hE hM hV hD; obtain ⟨⟨_, _, -, -, f160⟩, ⟨_, _, -, -, f153⟩, -⟩ := hD
               rw [(f160 : vs 160 = _), (f153 : vs 153 = _)]; clear f160 f153; exact sPw
              ·intro vs W1 m1 hE hM hV hD; obtain ⟨⟨_, _, -, -, f159⟩, ⟨_, _, -, -, f161⟩, ⟨_, _, -, -, f153⟩, -⟩ := hD
               rw [(f159 : vs 159 = _), (f161 : vs 161 = _), (f153 : vs 153 = _)]; clear f159 f161 f153; exact sPw
              ·intro vs W1 m1 hE hM hV hD; obtain ⟨⟨_, _, -, -, f162⟩, ⟨_, _, -, -, f153⟩, -⟩ := hD
               rw [(f162 : vs 162 = _), (f153 : vs 153 = _)]; clear f162 f153; exact sPw
              ·intro vs W1 m1 hE hM hV hD; obtain ⟨⟨_, _, -, -, f163⟩, ⟨_, _, -, -, f153⟩, -⟩ := hD
               rw [(f163 : vs 163 = _), (f153 : vs 153 = _)]; clear f163 f153; exact sPw
              ·intro vs W1 m1 hE hM hV hD; obtain ⟨⟨_, _, -, -, f158⟩, ⟨_, _, -, -, f164⟩, ⟨_, _, -, -, f153⟩, -, -⟩ := hD
               rw [(f158 : vs 158 = _), (f164 : vs 164 = _), (f153 : vs 153 = _)]; clear f158 f164 f153; exact sPw
              ·intro vs W1 m1 hE hM hV hD; obtain ⟨⟨_, _, -, -, f165⟩, ⟨_, _, -, -, f153⟩, -⟩ := hD
               rw [(f165 : vs 165 = _), (f153 : vs 153 = _)]; clear f165 f153; exact sPw
              ·intro vs W1 m1 hE hM hV hD; obtain ⟨⟨_, _, -, -, f153⟩, ⟨_, _, -, -, f166⟩, ⟨_, _, -, -, f150⟩, -⟩ := hD
               rw [(f153 : vs 153 = _), (f166 : vs 166 = _), (f150 : vs 150 = _)]; clear f153 f166 f150; exact sPw
              ·intro vs W1 m1 hE hM hV hD; obtain ⟨⟨_, _, -, -, f150⟩, ⟨_, _, -, -, f167⟩, -⟩ := hD
               rw [(f150 : vs 150 = _), (f167 : vs 167 = _)]; clear f150 f167; exact sPw
             case l29d =>
              refine ⟨nF, nF, nF, nF, nF, nF, nF, nF, nF, nF, nF, nF, nF, nF, nF, nF, nF, nF, nF, nF, nF, trivial⟩
             intro vs W1 m1 hE hM hV hF hD
             clear hD
             obtain ⟨⟨_, _, -, -, f148⟩, ⟨_, _, -, -, f149⟩, ⟨_, _, -, -, f150⟩, ⟨_, _, -, -, f151⟩, ⟨_, _, -, -, f152⟩, ⟨_, _, -, -, f153⟩, ⟨_, _, -, -, f154⟩, ⟨_, _, -, -, f155⟩, ⟨_, _, -, -, f156⟩, ⟨_, _, -, -, f157⟩, ⟨_, _, -, -, f158⟩, ⟨_, _, -, -, f159⟩, ⟨_, _, -, -, f160⟩, ⟨_, _, -, -, f161⟩, ⟨_, _, -, -, f162⟩, ⟨_, _, -, -, f163⟩, ⟨_, _, -, -, f164⟩, ⟨_, _, -, -, f165⟩, ⟨_, _, -, -, f166⟩, ⟨_, _, -, -, f167⟩, ⟨_, _, -, -, f168⟩, -⟩ := hF
             replace hL := hL.call hE hM hV
             have f148 : vs 148 = _ := f148
             generalize vs 148 = x148 at f148 ⊢
             subst x148
             have f149 : vs 149 = _ := f149
             generalize vs 149 = x149 at f149 ⊢
             subst x149
             have f150 : vs 150 = _ := f150
             generalize vs 150 = x150 at f150 ⊢
             subst x150
             have f151 : vs 151 = _ := f151
             generalize vs 151 = x151 at f151 ⊢
             subst x151
             have f152 : vs 152 = _ := f152
             generalize vs 152 = x152 at f152 ⊢
             subst x152
             have f153 : vs 153 = _ := f153
             generalize vs 153 = x153 at f153 ⊢
             subst x153
             have f154 : vs 154 = _ := f154
             generalize vs 154 = x154 at f154 ⊢
             subst x154
             have f155 : vs 155 = _ := f155
             generalize vs 155 = x155 at f155 ⊢
             subst x155
             have f156 : vs 156 = _ := f156
             generalize vs 156 = x156 at f156 ⊢
             subst x156
             have f157 : vs 157 = _ := f157
             generalize vs 157 = x157 at f157 ⊢
             subst x157
             have f158 : vs 158 = _ := f158
             generalize vs 158 = x158 at f158 ⊢
             subst x158
             have f159 : vs 159 = _ := f159
             generalize vs 159 = x159 at f159 ⊢
             subst x159
             have f160 : vs 160 = _ := f160
             generalize vs 160 = x160 at f160 ⊢
             subst x160
             have f161 : vs 161 = _ := f161
             generalize vs 161 = x161 at f161 ⊢
             subst x161
             have f162 : vs 162 = _ := f162
             generalize vs 162 = x162 at f162 ⊢
             subst x162
             have f163 : vs 163 = _ := f163
             generalize vs 163 = x163 at f163 ⊢
             subst x163
             have f164 : vs 164 = _ := f164
             generalize vs 164 = x164 at f164 ⊢
             subst x164
             have f165 : vs 165 = _ := f165
             generalize vs 165 = x165 at f165 ⊢
             subst x165
             have f166 : vs 166 = _ := f166
             generalize vs 166 = x166 at f166 ⊢
             subst x166
             have f167 : vs 167 = _ := f167
             generalize vs 167 = x167 at f167 ⊢
             subst x167
             have f168 : vs 168 = _ := f168
             generalize vs 168 = x168 at f168 ⊢
             subst x168
             clear hE hV
             simp only [List.drop_succ_cons, List.drop_zero]
             go_wp2_with (first | go_skip | refine tP ?_ | (refine tS ?_; clear hL; intro _ hL) | (refine tB ?_; clear hL; intro _ _ hL _) | (refine tC ?_; clear hL; intro _ _ hL _ hBs))
             refine QN.mk ?_
             have HSN2 : Hid (bubD (swp zs j) j1 = zf) := by
              show _ = _
              rw [← HB.out, HST2.out]
             go_upto_region 30 with ((first | go_skip | refine tP ?_ | (refine tS ?_; clear hL; intro _ hL) | (refine tB ?_; clear hL; intro _ _ hL _) | (refine tC ?_; clear hL; intro _ _ hL _ hBs)))
             (try simp only [eq_self] at *)
             refine wp_region_by2 28 [false, false, false, false, false, false, false, false, false, false, false, false, false, false, false, false, false, false, false, false, false, false, false, false, false, false, false, false] [false, false, true, true, true, true, true, true, true, true, false, false, false, false, false, false, false, false, false, false, false, false, false, false, false, false, false, false] [(fun v _ _ => v = ?c30_0d), (fun v _ _ => v = ?c30_1d), (fun v _ _ => v = ?c30_2d), (fun v _ _ => v = ?c30_3d), (fun v _ _ => v = ?c30_4d), (fun v _ _ => v = ?c30_5d), (fun v _ _ => v = ?c30_6d), (fun v _ _ => v = ?c30_7d), (fun v _ _ => v = ?c30_8d), (fun v _ _ => v = ?c30_9d), (fun v _ _ => v = ?c30_10d), (fun v _ _ => v = ?c30_11d), (fun v _ _ => v = ?c30_12d), (fun v _ _ => v = ?c30_13d), (fun v _ _ => v = ?c30_14d), (fun v _ _ => v = ?c30_15d), (fun v _ _ => v = ?c30_16d), (fun v _ _ => v = ?c30_17d), (fun v _ _ => v = ?c30_18d), (fun v _ _ => v = ?c30_19d), (fun v _ _ => v = ?c30_20d), (fun v _ _ => v = ?c30_21d), (fun v _ _ => v = ?c30_22d), (fun v _ _ => v = ?c30_23d), (fun v _ _ => v = ?c30_24d), (fun v _ _ => v = ?c30_25d), (fun v _ _ => v = ?c30_26d), (fun v _ _ => v = ?c30_27d)] hL.vw mixed [169, 170, 171, 172, 173, 174, 175, 176, 177, 178, 179, 180, 181, 182, 183, 184, 185, 186, 187, 188, 189, 190, 191, 192, 193, 194, 195, 196] _ (by kernel_rfl) (fun vs => by simp only [lay, Act.put, zq1, zq2, zq3]; rfl) (by kernel_rfl) (by decide) (by decide) ?s30d ?l30d ?r30d
             case s30d =>
              refine ⟨?_, ?_, ?_, ?_, ?_, ?_, ?_, ?_, ?_, ?_, ?_, ?_, ?_, ?_, ?_, ?_, ?_, ?_, ?_, ?_, ?_, ?_, ?_, ?_, ?_, ?_, ?_, ?_, trivial⟩
              ·intro vs W1 m1 hE hM hV hD; clear hD
               exact sPw
              ·intro vs W1 m1 hE hM hV hD; clear hD
               exact sPw
              ·intro vs W1 m1 hE hM hV hD; clear hD
               exact sPw
              ·intro vs W1 m1 hE hM hV hD; clear hD
               exact sPw
              ·intro vs W1 m1 hE hM hV hD; obtain ⟨⟨_, _, -, -, f172⟩, -, -⟩ := hD
               rw [(f172 : vs 172 = _)]; clear f172; exact sPw
              ·intro vs W1 m1 hE hM hV hD; clear hD
               exact sPw
              ·intro vs W1 m1 hE hM hV hD; clear hD
               exact sPw
              ·intro vs W1 m1 hE hM hV hD; clear hD
               exact sPw
              ·intro vs W1 m1 hE hM hV hD; clear hD
               exact sPw
              ·intro vs W1 m1 hE hM hV hD; obtain ⟨⟨_, _, -, -, f177⟩, -, -⟩ := hD
               rw [(f177 : vs 177 = _)]; clear f177; exact sPw
              ·intro vs W1 m1 hE hM hV hD; clear hD
               exact sPw
              ·intro vs W1 m1 hE hM hV hD; clear hD
               exact sPw
              ·intro vs W1 m1 hE hM hV hD; obtain ⟨⟨_, _, -, -, f180⟩, -⟩ := hD
               rw [(f180 : vs 180 = _)]; clear f180; exact sPw
              ·intro vs W1 m1 hE hM hV hD; obtain ⟨⟨_, _, -, -, f179⟩, ⟨_, _, -, -, f181⟩, -⟩ := hD
               rw [(f179 : vs 179 = _), (f181 : vs 181 = _)]; clear f179 f181; exact sIy
              ·intro vs W1 m1 hE hM hV hD; obtain ⟨⟨_, _, -, -, f182⟩, -⟩ := hD
               rw [(f182 : vs 182 = _)]; clear f182; exact sLe
              ·intro vs W1 m1 hE hM hV hD; clear hD
               exact sPw
              ·intro vs W1 m1 hE hM hV hD; clear hD
               exact sPw
              ·intro vs W1 m1 hE hM hV hD; obtain ⟨⟨_, _, -, -, f184⟩, ⟨_, _, -, -, f185⟩, -⟩ := hD
               rw [(f184 : vs 184 = _), (f185 : vs 185 = _)]; clear f184 f185; exact sIy
              ·intro vs W1 m1 hE hM hV hD; obtain ⟨⟨_, _, -, -, f186⟩, -⟩ := hD
               rw [(f186 : vs 186 = _)]; clear f186; exact sLe
              ·intro vs W1 m1 hE hM hV hD; clear hD
               exact sPw
              ·intro vs W1 m1 hE hM hV hD; clear hD
               exact sPw
              ·intro vs W1 m1 hE hM hV hD; obtain ⟨⟨_, _, -, -, f189⟩, -⟩ := hD
               rw [(f189 : vs 189 = _)]; clear f189; exact sPw
              ·intro vs W1 m1 hE hM hV hD; obtain ⟨⟨_, _, -, -, f188⟩, ⟨_, _, -, -, f190⟩, -⟩ := hD
               rw [(f188 : vs 188 = _), (f190 : vs 190 = _)]; clear f188 f190; exact sIy
              ·intro vs W1 m1 hE hM hV hD; obtain ⟨⟨_, _, -, -, f191⟩, -⟩ := hD
               rw [(f191 : vs 191 = _)]; clear f191; exact sLe
              ·intro vs W1 m1 hE hM hV hD; clear hD
               exact sPw
              ·intro vs W1 m1 hE hM hV hD; clear hD
               exact sPw
              ·intro vs W1 m1 hE hM hV hD; obtain ⟨⟨_, _, -, -, f193⟩, ⟨_, _, -, -, f194⟩, -⟩ := hD
               rw [(f193 : vs 193 = _), (f194 : vs 194 = _)]; clear f193 f194; exact sIy
              ·intro vs W1 m1 hE hM hV hD; obtain ⟨⟨_, _, -, -, f195⟩, -⟩ := hD
               rw [(f195 : vs 195 = _)]; clear f195; exact sLe
             case l30d =>
              refine ⟨nF, nF, fun _ => ?_, fun _ => ?_, fun _ => ?_, fun _ => ?_, fun _ => ?_, fun _ => ?_, fun _ => ?_, fun _ => ?_, nF, nF, nF, nF, nF, nF, nF, nF, nF, nF, nF, nF, nF, nF, nF, nF, nF, nF, trivial⟩
              ·intro vs W1 m1 hE hM hV hD; clear hD
               exact ⟨_, Or.inl ⟨(by rfl), fun w => (by rfl)⟩, (by first | exact rfl | exact congrArg (Value.int .i64) hw3)⟩
              ·intro vs W1 m1 hE hM hV hD; clear hD
               exact ⟨_, Or.inl ⟨(by rfl), fun w => (by rfl)⟩, (by first | exact rfl | exact congrArg (Value.int .i64) hw3)⟩
              ·intro vs W1 m1 hE hM hV hD; obtain ⟨⟨_, _, -, -, f172⟩, -, -⟩ := hD
               rw [(f172 : vs 172 = _)]
               clear f172
               exact ⟨_, Or.inl ⟨(by rfl), fun w => (by rfl)⟩, (by first | exact rfl | exact congrArg (Value.int .i64) hw3)⟩
              ·intro vs W1 m1 hE hM hV hD; clear hD
               exact ⟨_, Or.inl ⟨(by rfl), fun w => (by rfl)⟩, (by first | exact rfl | exact congrArg (Value.int .i64) hw3)⟩
              ·intro vs W1 m1 hE hM hV hD; clear hD
               exact ⟨_, Or.inl ⟨(by rfl), fun w => (by rfl)⟩, (by first | exact rfl | exact congrArg (Value.int .i64) hw3)⟩
              ·intro vs W1 m1 hE hM hV hD; clear hD
               exact ⟨_, Or.inl ⟨(by rfl), fun w => (by rfl)⟩, (by first | exact rfl | exact congrArg (Value.int .i64) hw3)⟩
              ·intro vs W1 m1 hE hM hV hD; clear hD
               exact ⟨_, Or.inl ⟨(by rfl), fun w => (by rfl)⟩, (by first | exact rfl | exact congrArg (Value.int .i64) hw3)⟩
              ·intro vs W1 m1 hE hM hV hD; obtain ⟨⟨_, _, -, -, f177⟩, -, -⟩ := hD
               rw [(f177 : vs 177 = _)]
               clear f177
               exact ⟨_, Or.inl ⟨(by rfl), fun w => (by rfl)⟩, (by first | exact rfl | exact congrArg (Value.int .i64) hw3)⟩
             intro vs W1 m1 hE hM hV hF hD
             clear hD
             obtain ⟨⟨_, _, -, -, f169⟩, ⟨_, _, -, -, f170⟩, ⟨_, _, -, -, f171⟩, -, ⟨_, _, -, -, f173⟩, ⟨_, _, -, -, f174⟩, ⟨_, _, -, -, f175⟩, ⟨_, _, -, -, f176⟩, -, ⟨_, _, -, -, f178⟩, -, -, -, -, ⟨_, _, -, -, f183⟩, -, -, -, ⟨_, _, -, -, f187⟩, -, -, -, -, ⟨_, _, -, -, f192⟩, -, -, -, ⟨_, _, -, -, f196⟩, -⟩ := hF
             replace hL := hL.call hE hM hV
             have f169 : vs 169 = _ := f169
             generalize vs 169 = x169 at f169 ⊢
             subst x169
             have f170 : vs 170 = _ := f170
             generalize vs 170 = x170 at f170 ⊢
             subst x170
             have f171 : vs 171 = _ := f171
             generalize vs 171 = x171 at f171 ⊢
             subst x171
             have f173 : vs 173 = _ := f173
             generalize vs 173 = x173 at f173 ⊢
             subst x173
             have f174 : vs 174 = _ := f174
             generalize vs 174 = x174 at f174 ⊢
             subst x174
             have f175 : vs 175 = _ := f175
             generalize vs 175 = x175 at f175 ⊢
             subst x175
             have f176 : vs 176 = _ := f176
             generalize vs 176 = x176 at f176 ⊢
             subst x176
             have f178 : vs 178 = _ := f178
             generalize vs 178 = x178 at f178 ⊢
             subst x178
             have f183 : vs 183 = _ := f183
             generalize vs 183 = x183 at f183 ⊢
             subst x183
             have f187 : vs 187 = _ := f187
             generalize vs 187 = x187 at f187 ⊢
             subst x187
             have f192 : vs 192 = _ := f192
             generalize vs 192 = x192 at f192 ⊢
             subst x192
             have f196 : vs 196 = _ := f196
             generalize vs 196 = x196 at f196 ⊢
             subst x196
             clear hE hV
             simp only [List.drop_succ_cons, List.drop_zero]
             have hfl := RL.out.fit
             have hfw := RW.out.fit
             have hfj : 0 + j * 2 + 2 ≤ cl.size := by omega
             have hfj1 : 0 + j1 * 2 + 2 ≤ cl.size := by omega
             have hfk : 0 + j * 4 + 4 ≤ cw.size := by omega
             have hfk1 : 0 + j1 * 4 + 4 ≤ cw.size := by omega
             clear hfl hfw
             go_wp2_with (first | (with_reducible refine stS ?_) | (first | go_skip | refine tP ?_ | (refine tS ?_; clear hL; intro _ hL) | (refine tB ?_; clear hL; intro _ _ hL _) | (refine tC ?_; clear hL; intro _ _ hL _ hBs)))
             refine goA ?_
             refine wl_storeS hL (wanted_none rfl) (vs := [.slice P2 i2 p2, .int .i64 d2]) rfl rfl rfl ag_Cut rfl (n := 0) rfl (by omega) rfl ?_
             have hra1 := RowA.putW (k := j) (x := xb.1) (ws := [.slice P2 i2 p2, .int .i64 d2]) RL.out (by rw [List.length_map]; exact HIN.out) rfl HCB.out
             simp only [Nat.zero_add] at hra1
             clear hL
             intro W7 hL hS7
             simp only [List.set_cons_zero, List.set_cons_succ, Nat.zero_add] at hL
             simp only [Act.put, zq1, zq2, zq3]
             go_wp2_with (first | (with_reducible refine stS ?_) | (first | go_skip | refine tP ?_ | (refine tS ?_; clear hL; intro _ hL) | (refine tB ?_; clear hL; intro _ _ hL _) | (refine tC ?_; clear hL; intro _ _ hL _ hBs)))
             refine goA ?_
             refine wl_storeS hL (wanted_none rfl) (vs := [.slice P1 i1 p1, .int .i64 d1]) rfl rfl rfl ag_Cut rfl (n := 0) rfl (by rw [splice_size]; omega) rfl ?_
             have hra2 := RowA.putW (k := j1) (x := xa.1) (ws := [.slice P1 i1 p1, .int .i64 d1]) hra1 (by rw [List.length_set, List.length_map]; exact HIN1.out) rfl HCA.out
             rw [← HSW1.out] at hra2
             simp only [Nat.zero_add] at hra2
             clear hL hra1
             intro W8 hL hS8
             simp only [List.set_cons_zero, List.set_cons_succ, Nat.zero_add] at hL
             simp only [Act.put, zq1, zq2, zq3]
             go_wp2_with (first | (with_reducible refine stS ?_) | (first | go_skip | refine tP ?_ | (refine tS ?_; clear hL; intro _ hL) | (refine tB ?_; clear hL; intro _ _ hL _) | (refine tC ?_; clear hL; intro _ _ hL _ hBs)))
             refine goA ?_
             refine wl_storeS hL (wanted_none rfl) (vs := [.bool gv4, .slice A4 n4 c4, .bool f4, .slice B4 q4 r4]) rfl rfl rfl ag_Frac rfl (n := 1) rfl (by omega) rfl ?_
             have hrw1 := RowA.putW (k := j) (x := xb.2) (ws := [.bool gv4, .slice A4 n4 c4, .bool f4, .slice B4 q4 r4]) RW.out (by rw [List.length_map]; exact HIN.out) rfl HFB.out
             simp only [Nat.zero_add] at hrw1
             clear hL
             intro W9 hL hS9
             simp only [List.set_cons_zero, List.set_cons_succ, Nat.zero_add] at hL
             simp only [Act.put, zq1, zq2, zq3]
             go_wp2_with (first | (with_reducible refine stS ?_) | (first | go_skip | refine tP ?_ | (refine tS ?_; clear hL; intro _ hL) | (refine tB ?_; clear hL; intro _ _ hL _) | (refine tC ?_; clear hL; intro _ _ hL _ hBs)))
             refine goA ?_
             refine wl_storeS hL (wanted_none rfl) (vs := [.bool gv3, .slice A3 n3 c3, .bool f3, .slice B3 q3 r3]) rfl rfl rfl ag_Frac rfl (n := 1) rfl (by rw [splice_size]; omega) rfl ?_
             have hrw2 := RowA.putW (k := j1) (x := xa.2) (ws := [.bool gv3, .slice A3 n3 c3, .bool f3, .slice B3 q3 r3]) hrw1 (by rw [List.length_set, List.length_map]; exact HIN1.out) rfl HFA.out
             rw [← HSW2.out] at hrw2
             simp only [Nat.zero_add] at hrw2
             clear hL hrw1
             intro W10 hL hS10
             simp only [List.set_cons_zero, List.set_cons_succ, Nat.zero_add] at hL
             have RA2 := Lib.hid hra2
             have RA3 := Lib.hid hrw2
             have HZ2 : Hid (∀ y ∈ swp zs j, Tw 60000 y.2 ∧ y.1.1.length = sz) := by
              show ∀ y ∈ _, _
              exact fun y hy => HZ.out y (swp_mem hy)
             clear hra2 hrw2 hS7 hS8 hS9 hS10
             simp only [Act.put, zq1, zq2, zq3]
             go_wp2_with (first | go_skip | refine tP ?_ | (refine tS ?_; clear hL; intro _ hL) | (refine tB ?_; clear hL; intro _ _ hL _) | (refine tC ?_; clear hL; intro _ _ hL _ hBs))
             refine QN.mk ?_
             go_wp2_with (first | go_skip | refine tP ?_ | (refine tS ?_; clear hL; intro _ hL) | (refine tB ?_; clear hL; intro _ _ hL _) | (refine tC ?_; clear hL; intro _ _ hL _ hBs))
             go_roundw
             case rel => exact ⟨j1, _, swp zs j, _, _, HJJ.out, by go_num, hL, RowA.le (R := CutR) (fun m m' v x h hb => CutR.le h hb) RA2.out leX, RowA.le FracC.mono RA3.out leX, HSN2.out, HZ2.out, HX81.out.trans exX⟩
             case measure => have := HJ.out; simp [intOf] <;> omega
  ·as_aux_lemma =>
   have hq' : q = (subsF ms.rows.length sz).length := by rw [hql, HNR.out]
   have HSP : Hid (((srtC (fndT ms us sz d q)).map Prod.fst).take most = sepF ms us sz d most) := by
    show _ = _
    rw [hq']; rfl
   have hP := hL.perm List.perm_append_comm
   obtain ⟨m9, hL9, hle9, hl9, -⟩ := RowA.show (A := Rw) (R := CutR) (fun m m' v x h hb => CutR.le h hb) hP ROWL.out
   have hN : ((srtC (fndT ms us sz d q)).map Prod.fst).length = N := hl9.n_is.symm
   have hcap : (N : Int) ≤ (cL : Int) := by
    obtain ⟨_, _, _, e, hc, _⟩ := hl9
    injection e with e1 e2 e3
    subst e2 e3
    omega
   have HL9 := Lib.hid hl9
   have HNN := Lib.hid hN
   generalize (srtC (fndT ms us sz d q)).map Prod.fst = cs at *
   clear hL hP hle9 hl9 ROWL ROWW HOW hql hq' hq hN HFQ
   have hL := hL9
   clear hL9
   by_cases hmN : most < N
   ·have hmN' : (most : Int) < (N : Int) := by omega
    have h0 : (0 : Int) ≤ (most : Int) := by omega
    have hmc : (most : Int) ≤ (cL : Int) := by omega
    go_wp2_with (first | go_skip | refine tP ?_ | (refine tS ?_; clear hL; intro _ hL) | (refine tB ?_; clear hL; intro _ _ hL _) | (refine tC ?_; clear hL; intro _ _ hL _ hBs))
    (try simp only [Exit.inBlock, Exit.then])
    refine bodyPost_ret (results_tmp2 rfl _ _ _) rfl ?_
    exact RetV.mk hL ⟨_, rfl, by rw [← HSP.out]; exact HL9.out.take (by omega)⟩
   ·have hmN' : (N : Int) ≤ (most : Int) := by omega
    go_wp2_with (first | go_skip | refine tP ?_ | (refine tS ?_; clear hL; intro _ hL) | (refine tB ?_; clear hL; intro _ _ hL _) | (refine tC ?_; clear hL; intro _ _ hL _ hBs))
    (try simp only [Exit.inBlock, Exit.then])
    refine bodyPost_ret (results_tmp2 rfl _ _ _) rfl ?_
    exact RetV.mk hL ⟨_, rfl, by rw [← HSP.out, List.take_of_length_le (by rw [HNN.out]; omega)]; exact HL9.out⟩
end Go.Proofs.YtmhkmmmompediaaGreat

/- pairingref27.Separate: sizes out of range. -/
namespace Go.Proofs.YtmhkmmmompediaaGreat
open Go.RowKit

theorem r_SepBad (mv : Value) (ms : Ms) (V : Option Addr) (c : Nat) (sz d most : Int) (w m : World) (hV : Vw m w) (hm : MasterR m mv ms) (ok : MsOk ms) (hbad : sz < 3 ∨ 5 < sz ∨ d < 2 ∨ sz ≤ d ∨ most < 0) :
  Calls Tryz.prog 40 #[mv, .slice V ms.cols.length c, .int .i64 sz, .int .i64 d, .int .i64 most] w (RetV w m fun _ r => r = .tuple #[.slice none 0 0, .int .i64 5]) := by
 have HM := Lib.hid hm
 obtain ⟨A, nr, ca, B, nc, cb, C, nk, cc, rfl, hm1⟩ := hm.lit
 have hnc := master_nc hm1
 have KV : Hid (∀ u m', Vw m' u → Le m m' → Calls Tryz.prog 107 #[.agg #[.int .i64 ms.nf, .slice A nr ca, .int .i64 ms.pen, .slice B nc cb, .slice C nk cc], .slice V ms.cols.length c] u (RetV u m' fun _ r => r = .int .i64 0)) := by
  show ∀ u m', _
  exact fun u m' hV hle => r_valued _ ms V ms.cols.length c 0 u m' hV (HM.out.le hle) ok (by rw [if_pos rfl])
 rw [← hnc] at KV ⊢
 have hL := Loc.start hV
 clear hV hm1 HM ok hnc
 generalize ms.nf = nf at *
 generalize ms.pen = pen at *
 go_enter Tryz.func40, Tryz.ntmps40
 go_upto_region 0 with (fail)
 refine wp_region_lit ?_
 refine t_box hL rfl rfl ?_; clear hL; intro Wh5 mh5 hL eh5; simp only [Act.put, zq1, zq2, zq3]
 go_wp2_with (first | go_skip | refine tP ?_ | (refine tS ?_; clear hL; intro _ hL) | (refine tB ?_; clear hL; intro _ _ hL _) | (refine tC ?_; clear hL; intro _ _ hL _ hBs))
 refine (KV.out _ _ hL.vw leX).mono ?_
 rintro e Wc1 ⟨_, mc1, rfl, hE, hMc1, hV, rfl⟩
 replace hL := hL.call hE (by assumption) hV; clear hE hV
 have hcase : (decide (sz < 3) = true) ∨ (decide (sz < 3) = false ∧ decide (5 < sz) = true) ∨ (decide (sz < 3) = false ∧ decide (5 < sz) = false ∧ decide (d < 2) = true) ∨ (decide (sz < 3) = false ∧ decide (5 < sz) = false ∧ decide (d < 2) = false ∧ decide (sz ≤ d) = true) ∨ (decide (sz < 3) = false ∧ decide (5 < sz) = false ∧ decide (d < 2) = false ∧ decide (sz ≤ d) = false ∧ decide (most < 0) = true) := by
  simp only [decide_eq_true_eq, decide_eq_false_iff_not]
  omega
 clear hbad
 rcases hcase with h1 | ⟨h1, h2⟩ | ⟨h1, h2, h3⟩ | ⟨h1, h2, h3, h4⟩ | ⟨h1, h2, h3, h4, h5⟩
 all_goals
  go_wp2_with (first | go_skip | refine tP ?_ | (refine tS ?_; clear hL; intro _ hL) | (refine tB ?_; clear hL; intro _ _ hL _) | (refine tC ?_; clear hL; intro _ _ hL _ hBs))
  (try simp only [Exit.inBlock, Exit.then])
  refine bodyPost_ret (results_tmp2 rfl _ _ _) rfl ?_
  exact RetV.mk hL rfl
end Go.Proofs.YtmhkmmmompediaaGreat

/- The walk through the law CutsSeparate. (Leans on r_Separate, whose last case is open yet.) -/
namespace Go.Proofs.YtmhkmmmompediaaGreat
open Go.RowKit

theorem sepF_len (ms : Ms) (us : List Rat) (sz d most : Nat) : (sepF ms us sz d most).length ≤ most := by
 unfold sepF; rw [List.length_take]; omega
theorem sep_both (ms : Ms) (us : List Rat) (vok : VOk ms us) (h5 : ms.rows.length ≤ 5) (h6 : ms.cols.length ≤ 6) (sz d most : Int) (hmo : most ≤ 1000) : ∃ (E : Int) (L : List Cut), L.length ≤ 1000000 ∧
  ∀ (mv vv : Value) (w m : World), Vw m w → MasterR m mv ms → FracL m vv us →
   Calls Tryz.prog 39 #[mv, vv, .int .i64 sz, .int .i64 d, .int .i64 most] w (RetV w m fun m' r => ∃ v, r = .tuple #[v, .int .i64 E] ∧ CutL m' v L) ∧ Calls Tryz.prog 40 #[mv, vv, .int .i64 sz, .int .i64 d, .int .i64 most] w (RetV w m fun m' r => ∃ v, r = .tuple #[v, .int .i64 E] ∧ CutL m' v L) := by
 by_cases hbad : sz < 3 ∨ 5 < sz ∨ d < 2 ∨ sz ≤ d ∨ most < 0
 ·refine ⟨5, [], by simp, fun mv vv w m hV hm hv => ?_⟩
  obtain ⟨V, c, rfl, -, -⟩ := hv.lit
  rw [vok.len]
  refine ⟨(u_SepBad mv ms V c sz d most w m hV hm vok.ms hbad).mono fun e w' h => ?_, (r_SepBad mv ms V c sz d most w m hV hm vok.ms hbad).mono fun e w' h => ?_⟩
  ·exact RetV.imp h fun m' r h => ⟨_, h, ListV.nil⟩
  ·exact RetV.imp h fun m' r h => ⟨_, h, ListV.nil⟩
 ·obtain ⟨sz', rfl⟩ : ∃ k : Nat, sz = (k : Int) := ⟨sz.toNat, by omega⟩
  obtain ⟨d', rfl⟩ : ∃ k : Nat, d = (k : Int) := ⟨d.toNat, by omega⟩
  obtain ⟨mo', rfl⟩ : ∃ k : Nat, most = (k : Int) := ⟨most.toNat, by omega⟩
  refine ⟨0, sepF ms us sz' d' mo', Nat.le_trans (sepF_len _ _ _ _ _) (by omega), fun mv vv w m hV hm hv => ⟨?_, ?_⟩⟩
  ·exact u_Separate mv vv ms us sz' d' mo' w m hV hm hv vok h5 h6 (by omega) (by omega) (by omega) (by omega) (by omega)
  ·exact r_Separate mv vv ms us sz' d' mo' w m hV hm hv vok h5 (by omega) (by omega) (by omega) (by omega) (by omega)

theorem law_CutsSeparate (Al Aa : Option Addr) (cl ca : Nat) (l a : List Int) (n : Int) (w m : World) (hV : Vw m w) (hl : Sl m Al (l.map I64)) (ha : Sl m Aa (a.map I64)) (n1 : -9223372036854775808 ≤ n) (n2 : n ≤ 9223372036854775807) :
  Calls Tryz.prog 8 #[.slice Al l.length cl, .slice Aa a.length ca, .int .i64 n] w (RetV w m fun _ r => r = .bool true) := by
 have KM : Hid (∀ w m', Vw m' w → Le m m' → Calls Tryz.prog 15 #[.slice Al l.length cl] w (RetV w m' fun m'' r => MasterR m'' r (masF l))) := by
  show ∀ w m', _
  exact fun w m' hV hle => d_Master Al cl l w m' hV (hl.le hle) trivial
 have KA : Hid (∀ (z : Int) (k : Nat) w m', Vw m' w → Le m m' → z = k → k ≤ 1000 → Calls Tryz.prog 36 #[.slice Aa a.length ca, .int .i64 z] w (RetV w m' fun m'' r => FracL m'' r (valsF a k))) := by
  show ∀ z k w m', _
  exact fun z k w m' hV hle hz hk => d_Values Aa ca a k z w m' hV (ha.le hle) hz hk
 have OK : Hid (MsOk (masF l)) := masF_ok l
 have HFEW : Hid ((masF l).cols.length ≤ 6) := masF_cols6 l
 have HR5 : Hid ((masF l).rows.length ≤ 5) := (rowsF_ok l).l5
 have e1 := i64_and2' n
 have e2 := i64_and1 (n / 4)
 have e3 := i64_and2' (n / 8)
 have e4 := i64_and3 (n / 32)
 have e5 := i64_and4 (n / 256)
 have p1 : 0 ≤ n % 4 ∧ n % 4 < 4 := by omega
 have p2 : 0 ≤ n / 4 % 2 ∧ n / 4 % 2 < 2 := by omega
 have p3 : 0 ≤ n / 8 % 4 ∧ n / 8 % 4 < 4 := by omega
 have p4 : 0 ≤ n / 32 % 8 ∧ n / 32 % 8 < 8 := by omega
 have p5 : 0 ≤ n / 256 % 16 ∧ n / 256 % 16 < 16 := by omega
 generalize n % 4 = a1 at *
 generalize n / 4 % 2 = a2 at *
 generalize n / 8 % 4 = a3 at *
 generalize n / 32 % 8 = a4 at *
 generalize n / 256 % 16 = a5 at *
 have q5 : 0 ≤ a5 / 15 ∧ a5 / 15 ≤ 1 := by omega
 have hL := Loc.start hV
 clear hV hl ha n1 n2
 generalize l.length = N1 at *
 generalize a.length = N2 at *
 generalize masF l = x at *
 go_enter Tryz.func8, Tryz.ntmps8
 go_wp2_with (first | go_skip | refine tP ?_ | (refine tS ?_; clear hL; intro _ hL) | (refine tB ?_; clear hL; intro _ _ hL _))
 refine (KM.out _ _ hL.vw leX).mono ?_
 rintro e Wc1 ⟨vc1, mc1, rfl, hE, hMc1, hV, hc1⟩
 replace hL := hL.call hE (by assumption) hV; clear hE hV
 obtain ⟨M1, nr, d1, M2, nc, d2, M3, nk, d3, rfl, hx1⟩ := hc1.lit
 have hnc := master_nc hx1
 have HM := Lib.hid hx1
 have hn6 : nc ≤ 6 := by have := HFEW.out; omega
 have HNC := Lib.hid hnc
 clear hx1 KM hnc
 generalize x.nf = nf at *
 generalize x.pen = pen at *
 go_wp2_with (first | go_skip | refine tP ?_ | (refine tS ?_; clear hL; intro _ hL) | (refine tB ?_; clear hL; intro _ _ hL _))
 refine (KA.out (nc : Int) nc _ _ hL.vw leX rfl (by omega)).mono ?_
 rintro e Wc2 ⟨vc2, mc2, rfl, hE, hMc2, hV, hc2⟩
 replace hL := hL.call hE (by assumption) hV; clear hE hV
 have VK : Hid (VOk x (valsF a nc)) := ⟨OK.out, by rw [valsF_len, HNC.out], valsF_tw a nc, by rw [← HNC.out]; omega⟩
 obtain ⟨V, cv, rfl, hcv, hc2⟩ := hc2.lit
 have HV := Lib.hid hc2
 clear hc2 hcv KA hn6
 generalize valsF a nc = us at *
 obtain ⟨E, L, hl0, kb⟩ := sep_both x us VK.out HR5.out HFEW.out (2 + a1 + a2) (1 + a3) (a4 - a5 / 15 * 8) (by omega)
 have KB := Lib.hid kb
 clear kb
 generalize us.length = nu at *
 go_wp2_with (first | go_skip | refine tP ?_ | (refine tS ?_; clear hL; intro _ hL) | (refine tB ?_; clear hL; intro _ _ hL _))
 refine ((KB.out _ _ _ _ hL.vw (HM.out.le leX) (FracL.le HV.out leX)).1).mono ?_
 rintro e Wc3 ⟨_, mc3, rfl, hE, hMc3, hV, v3, rfl, hy3⟩
 replace hL := hL.call hE (by assumption) hV; clear hE hV
 obtain ⟨Y3, y3, rfl, -, hy3⟩ := hy3.lit
 have HY3 := Lib.hid hy3
 clear hy3
 go_wp2_with (first | go_skip | refine tP ?_ | (refine tS ?_; clear hL; intro _ hL) | (refine tB ?_; clear hL; intro _ _ hL _))
 refine ((KB.out _ _ _ _ hL.vw (HM.out.le leX) (FracL.le HV.out leX)).2).mono ?_
 rintro e Wc4 ⟨_, mc4, rfl, hE, hMc4, hV, v4, rfl, hy4⟩
 replace hL := hL.call hE (by assumption) hV; clear hE hV
 obtain ⟨Y4, y4, rfl, -, hy4⟩ := hy4.lit
 have HY4 := Lib.hid hy4
 clear hy4 KB
 go_wp2_with (first | go_skip | refine tP ?_ | (refine tS ?_; clear hL; intro _ hL) | (refine tB ?_; clear hL; intro _ _ hL _))
 refine (r_SameCuts _ _ L _ _ hL.vw (CutL.le HY3.out leX) (CutL.le HY4.out leX) hl0).mono ?_
 rintro e Wc5 ⟨_, mc5, rfl, hE, hMc5, hV, rfl⟩
 replace hL := hL.call hE (by assumption) hV; clear hE hV
 go_wp2_with (first | go_skip | refine tP ?_ | (refine tS ?_; clear hL; intro _ hL) | (refine tB ?_; clear hL; intro _ _ hL _))
 refine (kc_known _ _ hL.vw).mono ?_
 rintro e Wc6 ⟨_, mc6, rfl, hE, hMc6, hV, rfl⟩
 replace hL := hL.call hE (by assumption) hV; clear hE hV
 go_wp2_with (first | go_skip | refine tP ?_ | (refine tS ?_; clear hL; intro _ hL) | (refine tB ?_; clear hL; intro _ _ hL _))
 go_ret
 exact RetV.mk hL rfl
end Go.Proofs.YtmhkmmmompediaaGreat
