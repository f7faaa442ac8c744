/- Part 5 of 8 of the proof: the law BranchRounds returns true for every input, and its arguments read as before; there is no condition. -/
import Derived.Laws.IdiomCopy
import Derived.Test.YtniigfikpfinfaaGreatBD4
set_option linter.unusedVariables false
set_option linter.unusedSimpArgs false
set_option maxRecDepth 100000
set_option maxHeartbeats 64000000
/- Contracts of pairingref27.Follows and Allowed, and of branch.Fits. -/
namespace Go.Proofs.YtniigfikpfinfaaGreat
open Go.RowKit

theorem fol_end {l : List Int} {p q : Int} {k n : Nat} (hn : l.length = n) (hk : ¬ k + 1 < n) (h : ∀ j, j < k → (pairsOf l)[j]? ≠ some (p, q)) : decide ((p, q) ∈ pairsOf l) = false := by
 refine decide_eq_false fun hm => ?_
 obtain ⟨j, hj⟩ := List.mem_iff_getElem?.1 hm
 have h1 := (List.getElem?_eq_some_iff.1 hj).1
 rw [pairs_len] at h1
 exact h j (by omega) hj
theorem fol_step {l : List Int} {p q a b : Int} {k : Nat} (h : ∀ j, j < k → (pairsOf l)[j]? ≠ some (p, q)) (ha : l[k]? = some a) (hb : l[k + 1]? = some b) (hn : ¬ (a = p ∧ b = q)) : ∀ j, j < k + 1 → (pairsOf l)[j]? ≠ some (p, q) := by
 intro j hj
 rcases Nat.lt_succ_iff_lt_or_eq.1 hj with h' | rfl
 ·exact h j h'
 ·rw [pairs_at ha hb]
  intro e
  simp only [Option.some.injEq, Prod.mk.injEq] at e
  exact hn e

theorem r_FollowsB (v : Value) (l : List Int) (p q : Int) (w m : World) (hV : Vw m w) (h : IntL m v l) (hl : l.length ≤ 1000000) :
  Calls Tryz.prog 99 #[v, .int .i64 p, .int .i64 q] w (RetV w m fun _ r => r = .bool (decide ((p, q) ∈ pairsOf l))) := by
 obtain ⟨A, c, rfl, hc, h⟩ := h.lit
 have hL := Loc.start hV
 clear hV
 generalize hn : l.length = n at *
 have HN := Lib.hid hn
 clear hn
 go_enter Tryz.func99, Tryz.ntmps99
 go_wp2_with (first | go_skip | refine tP ?_)
 go_loopw [7] (fun i wr => ∃ (k : Nat) (mm : World), k ≤ n ∧ i = .int .i64 k ∧ Loc w m wr mm [] ∧ Hid (∀ j, j < k → (pairsOf l)[j]? ≠ some (p, q))) (fun i _ => n - (intOf i).toNat)
 case atStart => exact ⟨0, m, Nat.zero_le _, rfl, hL, fun _ h => absurd h (Nat.not_lt_zero _)⟩
 case round =>
  clear hL
  obtain ⟨k, mm, hk, rfl, hL, HJ⟩ := hrel
  have hM := hL.mext
  have w1 : wrap64 ((k : Int) + 1) = ((k + 1 : Nat) : Int) := by unfold wrap64; omega
  have w2 : (k : Int) + 1 = ((k + 1 : Nat) : Int) := by omega
  obtain ⟨k1, hk1⟩ : ∃ k1, k1 = k + 1 := ⟨_, rfl⟩
  rw [← hk1] at w1 w2
  have HK := Lib.hid hk1
  by_cases hlt : k1 < n
  ·obtain ⟨a, ha⟩ := at_some HN (show k < n by omega)
   obtain ⟨b, hb⟩ := at_some HN hlt
   obtain ⟨b1, o1, rfl, hc1⟩ := IntL.at_ h ha
   obtain ⟨b2, o2, e2, hc2⟩ := IntL.at_ h hb
   obtain ⟨rfl, rfl⟩ : b1 = b2 ∧ o1 = o2 := by simpa using e2
   have hkn : k < n := by omega
   have HA := Lib.hid ha
   have HB : Hid (l[k + 1]? = some b) := by show _ = _; rw [← hk1]; exact hb
   clear ha hb e2 hk1
   by_cases e1 : a = p
   ·by_cases e2 : b = q
    ·have HR : Hid (decide ((p, q) ∈ pairsOf l) = true) := by
      refine decide_eq_true ?_
      have := pairs_at HA.out HB.out
      rw [e1, e2] at this
      exact List.mem_of_getElem? this
     subst e1 e2
     go_wp2_with (first | go_skip | refine tP ?_)
     go_ret
     exact RetV.mk hL (by rw [HR.out]; rfl)
    ·have HJ2 := Lib.hid (fol_step HJ.out HA.out HB.out (fun h => e2 h.2))
     subst e1
     clear HJ
     go_wp2_with (first | go_skip | refine tP ?_)
     go_roundw
     case rel => exact ⟨k1, _, by omega, by go_num, hL, by rw [HK.out]; exact HJ2.out⟩
     case measure => have := HK.out; simp [intOf] <;> omega
   ·have HJ2 := Lib.hid (fol_step HJ.out HA.out HB.out (fun h => e1 h.1))
    clear HJ
    go_wp2_with (first | go_skip | refine tP ?_)
    go_roundw
    case rel => exact ⟨k1, _, by omega, by go_num, hL, by rw [HK.out]; exact HJ2.out⟩
    case measure => have := HK.out; simp [intOf] <;> omega
  ·have HR := Lib.hid (fol_end HN.out (by rw [← hk1]; exact hlt) HJ.out)
   clear hk1
   go_wp2_with (first | go_skip | refine tP ?_)
   go_ret
   exact RetV.mk hL (by rw [HR.out]; rfl)

end Go.Proofs.YtniigfikpfinfaaGreat

/- Contract of branch.Fits, and what the law BranchFits compares. -/
namespace Go.Proofs.YtniigfikpfinfaaGreat
open Go.RowKit

theorem ap_Pairs : apS Tryz.prog 96 = some (99, 2, 40, 2) := by kernel_rfl
instance iAC17_1 : ApC Tryz.prog 96 99 2 40 := ⟨ap_Pairs⟩
theorem zc_Pairing : zc Tryz.prog 99 = some #[.string ⟨#[]⟩, .slice none 0 0] := by kernel_rfl
instance iAC17_2 : ZcC Tryz.prog 99 #[.string ⟨#[]⟩, .slice none 0 0] := ⟨zc_Pairing⟩
abbrev Pg := ByteArray × List (List Task)
def PairR (m : World) (v : Value) (x : Pg) : Prop := ∃ s, v = .agg #[.string x.1, s] ∧ DutsL m s x.2
theorem PairR.mono (m m' : World) (v : Value) (x : Pg) (h : PairR m v x) (hb : Le m m') : PairR m' v x := by
 obtain ⟨s, e, h⟩ := h
 exact ⟨s, e, DutsL.le h hb⟩
abbrev PairL := ListV (α := Pg) 2 PairR
theorem PairL.le {m m' : World} {v : Value} {xs : List Pg} (h : PairL m v xs) (hb : Le m m') : PairL m' v xs := ListV.le PairR.mono h hb
theorem PairL.at_ {m : World} {A : Option Addr} {n c : Nat} {xs : List Pg} (h : PairL m (.slice A n c) xs) {k : Nat} {x : Pg} (hk : xs[k]? = some x) :
  ∃ b off D cd, A = some ⟨b, off, none⟩ ∧ DutsL m (.slice D x.2.length cd) x.2 ∧ m.rangeAt b (off + k * 2) [.string x.1, .slice D x.2.length cd] := by
 obtain ⟨b, off, v, e, ⟨s, rfl, hs⟩, _, hr⟩ := ListV.at_ h (by omega) hk
 obtain ⟨D, cd, rfl, _, hs⟩ := hs.lit
 exact ⟨b, off, D, cd, e, hs, hr⟩
theorem range_two {m : World} {b off : Nat} {x y : Value} {r : List Value} (h : m.rangeAt b off (x :: y :: r)) : m.rangeAt b off [x, y] := fun j v hv => h j v (by
 match j, hv with
 | 0, hv => exact hv
 | 1, hv => exact hv)
end Go.Proofs.YtniigfikpfinfaaGreat

/- The list of follow-ons in the reference's order: its form, and that it is the ascending list of the sums that are not 0. -/
namespace Go.Proofs.YtniigfikpfinfaaGreat
open Go.RowKit

theorem pairs_nodup {l : List Int} (h : l.Nodup) : (pairsOf l).Nodup := by
 unfold pairsOf
 refine List.Pairwise.of_map (S := fun a b => a ≠ b) Prod.snd (fun a b h e => h (by rw [e])) ?_
 rw [List.map_snd_zip (by simp)]
 exact h.sublist (List.tail_sublist l)
theorem filt_one (x : Rat) (p : Int × Int) : ∀ {L : List (Int × Int)} (s : Rat), L.Nodup → ((L.map fun q => ((q, x) : PQ)).filter fun e => decide (e.1 = p)).foldl (fun s e => s + e.2) s = if p ∈ L then s + x else s
 | [], s, _ => by simp
 | q :: L, s, h => by
  obtain ⟨h1, h2⟩ := List.nodup_cons.1 h
  simp only [List.map_cons]
  by_cases e : q = p
  ·subst e
   rw [List.filter_cons_of_pos (by simp), List.foldl_cons, filt_one x q _ h2, if_neg h1, if_pos List.mem_cons_self]
  ·rw [List.filter_cons_of_neg (by simpa using e), filt_one x p _ h2]
   have hm : p ∈ q :: L ↔ p ∈ L := by rw [List.mem_cons]; exact ⟨fun h => h.resolve_left fun h => e h.symm, .inr⟩
   simp only [hm]
theorem sumAt_app (S : List PQ) (l : List Int) (x : Rat) (p : Int × Int) (h : l.Nodup) : sumAt (S ++ entE l x) p = if p ∈ pairsOf l then sumAt S p + x else sumAt S p := by
 unfold sumAt entE
 rw [List.filter_append, List.foldl_append]
 exact filt_one x p _ (pairs_nodup h)
theorem sum_step {cols : List Col} {vs : List Rat} {k : Nat} {c : Col} {x : Rat} (hc : cols[k]? = some c) (hx : vs[k]? = some x) (h : (opF c.2.1).Nodup) (p : Int × Int) :
  sumAt (entS cols vs (k + 1)) p = if p ∈ pairsOf (opF c.2.1) then sumAt (entS cols vs k) p + x else sumAt (entS cols vs k) p := by
 rw [← entS_step hc hx]; exact sumAt_app _ _ _ _ h
theorem sum_zero (cols : List Col) (vs : List Rat) (p : Int × Int) : sumAt (entS cols vs 0) p = ((0 : Int) : Rat) := by
 unfold entS; exact sumAt_none fun e he => by simp at he

def rowY (S : List PQ) (a : Int) (cs : List Int) : List PQ := cs.flatMap fun c => if sumAt S (a, c) = 0 then [] else [((a, c), sumAt S (a, c))]
def flY (S : List PQ) (bs cs : List Int) : List PQ := bs.flatMap fun a => rowY S a cs
theorem rowY_step {S : List PQ} {a c : Int} {cs : List Int} {k : Nat} (h : cs[k]? = some c) : rowY S a (cs.take (k + 1)) = rowY S a (cs.take k) ++ (if sumAt S (a, c) = 0 then [] else [((a, c), sumAt S (a, c))]) := by
 unfold rowY; rw [← take_snoc h, List.flatMap_append, List.flatMap_cons, List.flatMap_nil, List.append_nil]
theorem flY_step {S : List PQ} {a : Int} {bs cs : List Int} {k : Nat} (h : bs[k]? = some a) : flY S (bs.take (k + 1)) cs = flY S (bs.take k) cs ++ rowY S a cs := by
 unfold flY; rw [← take_snoc h, List.flatMap_append, List.flatMap_cons, List.flatMap_nil, List.append_nil]
theorem mem_rowY {S : List PQ} {a : Int} {cs : List Int} {y : PQ} : y ∈ rowY S a cs ↔ ∃ c ∈ cs, y = ((a, c), sumAt S (a, c)) ∧ sumAt S (a, c) ≠ 0 := by
 unfold rowY
 rw [List.mem_flatMap]
 constructor
 ·rintro ⟨c, hc, hy⟩
  by_cases h : sumAt S (a, c) = 0
  ·rw [if_pos h] at hy; cases hy
  ·rw [if_neg h] at hy; exact ⟨c, hc, List.mem_singleton.1 hy, h⟩
 ·rintro ⟨c, hc, rfl, h⟩
  exact ⟨c, hc, by rw [if_neg h]; exact List.mem_singleton_self _⟩
theorem rowY_pw {S : List PQ} {a : Int} : ∀ {cs : List Int}, cs.Pairwise (· < ·) → (rowY S a cs).Pairwise ltP
 | [], _ => List.Pairwise.nil
 | c :: cs, h => by
  obtain ⟨h1, h2⟩ := List.pairwise_cons.1 h
  have e : rowY S a (c :: cs) = (if sumAt S (a, c) = 0 then [] else [((a, c), sumAt S (a, c))]) ++ rowY S a cs := by unfold rowY; rw [List.flatMap_cons]
  rw [e, List.pairwise_append]
  refine ⟨?_, rowY_pw h2, ?_⟩
  ·split
   ·exact List.Pairwise.nil
   ·exact List.pairwise_singleton _ _
  ·intro x hx y hy
   split at hx
   ·cases hx
   ·rcases List.mem_singleton.1 hx with rfl
    obtain ⟨c', hc', rfl, -⟩ := mem_rowY.1 hy
    exact .inr ⟨rfl, h1 c' hc'⟩
theorem flY_pw {S : List PQ} {cs : List Int} (h' : cs.Pairwise (· < ·)) : ∀ {bs : List Int}, bs.Pairwise (· < ·) → (flY S bs cs).Pairwise ltP
 | [], _ => List.Pairwise.nil
 | a :: bs, h => by
  obtain ⟨h1, h2⟩ := List.pairwise_cons.1 h
  have e : flY S (a :: bs) cs = rowY S a cs ++ flY S bs cs := by unfold flY; rw [List.flatMap_cons]
  rw [e, List.pairwise_append]
  refine ⟨rowY_pw h', flY_pw h' h2, ?_⟩
  intro x hx y hy
  obtain ⟨c, hc, rfl, -⟩ := mem_rowY.1 hx
  obtain ⟨a', ha', hy⟩ := List.mem_flatMap.1 hy
  obtain ⟨c', hc', rfl, -⟩ := mem_rowY.1 hy
  exact .inl (h1 a' ha')
theorem asc_pw : ∀ {xs : List Int}, AscP xs → xs.Pairwise (· < ·)
 | [], _ => List.Pairwise.nil
 | [x], _ => List.pairwise_singleton _ _
 | x :: y :: xs, h => by
  have ih := asc_pw (xs := y :: xs) fun j a b ha hb => h (j + 1) a b (by simpa using ha) (by simpa using hb)
  have hxy := h 0 x y rfl rfl
  refine List.pairwise_cons.2 ⟨fun z hz => ?_, ih⟩
  rcases List.mem_cons.1 hz with rfl | hz
  ·exact hxy
  ·exact Int.lt_trans hxy ((List.pairwise_cons.1 ih).1 z hz)
theorem fl_is {x : Ms} {vs : List Rat} (ok : VOk x vs) : IsFol (entS x.cols vs x.cols.length) (flY (entS x.cols vs x.cols.length) x.rows x.rows) := by
 have hp := asc_pw ok.ms.asc
 refine ⟨flY_pw hp hp, fun y => ⟨fun hy => ?_, fun ⟨h1, h2⟩ => ?_⟩⟩
 ·obtain ⟨a, ha, hy⟩ := List.mem_flatMap.1 hy
  obtain ⟨c, hc, rfl, h⟩ := mem_rowY.1 hy
  exact ⟨rfl, h⟩
 ·obtain ⟨e, he, e1⟩ : ∃ e ∈ entS x.cols vs x.cols.length, e.1 = y.1 := by
   by_cases he : ∃ e ∈ entS x.cols vs x.cols.length, e.1 = y.1
   ·exact he
   ·exact absurd (h1.trans (sumAt_none fun e h h' => he ⟨e, h, h'⟩)) h2
  obtain ⟨-, r1, r2⟩ := ok.entS_mem he
  rw [e1] at r1 r2
  obtain ⟨⟨a, c⟩, q⟩ := y
  simp only at h1 h2 r1 r2
  exact List.mem_flatMap.2 ⟨a, r1, mem_rowY.2 ⟨c, r2, by rw [h1], by rw [← h1]; exact h2⟩⟩
theorem rowY_len (S : List PQ) (a : Int) (cs : List Int) : (rowY S a cs).length ≤ cs.length := by
 have := flatMap_len (B := 1) (l := cs) (f := fun c => if sumAt S (a, c) = 0 then [] else [((a, c), sumAt S (a, c))]) fun c _ => by split <;> simp
 unfold rowY; omega
theorem flY_len (S : List PQ) (bs cs : List Int) : (flY S bs cs).length ≤ cs.length * bs.length := flatMap_len fun a _ => rowY_len S a cs
theorem part_len {S : List PQ} {a : Int} {rs : List Int} (h : rs.length ≤ 32) (k j : Nat) : (flY S (rs.take k) rs ++ rowY S a (rs.take j)).length ≤ 1056 := by
 rw [List.length_append]
 have h1 := flY_len S (rs.take k) rs
 have h2 := rowY_len S a (rs.take j)
 have h3 : rs.length * (rs.take k).length ≤ 32 * 32 := Nat.mul_le_mul h (by simp; omega)
 have h4 : (rs.take j).length ≤ 32 := by simp; omega
 omega
theorem flY_len1 {S : List PQ} {rs : List Int} (h : rs.length ≤ 32) (k : Nat) : (flY S (rs.take k) rs).length ≤ 1056 := by
 have h1 := flY_len S (rs.take k) rs
 have h3 : rs.length * (rs.take k).length ≤ 32 * 32 := Nat.mul_le_mul h (by simp; omega)
 omega

end Go.Proofs.YtniigfikpfinfaaGreat

/- Contract of pairingdata.Values. -/
namespace Go.Proofs.YtniigfikpfinfaaGreat
open Go.RowKit

def valT (a : Int) : Rat := if a % 29 = 28 then Rat.divInt (-1) 3 else Rat.divInt (a % 4) (2 + a / 4 % 2)
def valsF (l : List Int) (n : Nat) : List Rat := (List.range n).map fun i => valT (atF l i)
theorem valsF_snoc (l : List Int) (j : Nat) {a : Int} (h : Hid (atF l j = a)) : valsF l j ++ [valT a] = valsF l (j + 1) := by
 unfold valsF; rw [List.range_succ, List.map_append, ← h.out]; rfl
theorem valsF_len (l : List Int) (n : Nat) : (valsF l n).length = n := by simp [valsF]
theorem valT_tw (a : Int) : Tw 18 (valT a) := by
 unfold valT
 split
 ·exact ⟨-12, by rw [← Rat.divInt_mul_right (n := -1) (d := 3) (a := 12) (by decide)]; rfl, by decide⟩
 ·rcases (by omega : a / 4 % 2 = 0 ∨ a / 4 % 2 = 1) with e | e
  ·rw [e]
   exact ⟨a % 4 * 18, by rw [← Rat.divInt_mul_right (n := a % 4) (d := 2 + 0) (a := 18) (by decide)]; rfl, by omega⟩
  ·rw [e]
   exact ⟨a % 4 * 12, by rw [← Rat.divInt_mul_right (n := a % 4) (d := 2 + 1) (a := 12) (by decide)]; rfl, by omega⟩
theorem valsF_tw (l : List Int) (n : Nat) : ∀ v ∈ valsF l n, Tw 18 v := by
 intro v hv
 obtain ⟨i, -, rfl⟩ := List.mem_map.1 hv
 exact valT_tw _

end Go.Proofs.YtniigfikpfinfaaGreat

/- Contract of pairingref27.FollowList. -/
namespace Go.Proofs.YtniigfikpfinfaaGreat
open Go.RowKit

theorem r_FollowList_len (xv : Value) (x : Ms) (V : Option Addr) (n c : Nat) (w m : World) (hV : Vw m w) (hx : MasterR m xv x) (ok : MsOk x) (hn : n ≠ x.cols.length) :
  Calls Tryz.prog 39 #[xv, .slice V n c] w (RetV w m fun _ r => r = .tuple #[.slice none 0 0, .int .i64 12]) := by
 have HX := Lib.hid hx
 obtain ⟨A, nr, ca, B, nc, cb, C, nk, cc, rfl, hx1⟩ := hx.lit
 have KV : Hid (∀ w m', Vw m' w → Le m m' → Calls Tryz.prog 98 #[.agg #[.int .i64 x.nf, .slice A nr ca, .int .i64 x.pen, .slice B nc cb, .slice C nk cc], .slice V n c] w (RetV w m' fun _ r => r = .int .i64 12)) := by
  show ∀ w m', _
  exact fun w m' hV hle => r_valued _ x V n c 12 w m' hV (HX.out.le hle) ok (by rw [if_neg hn])
 have hL := Loc.start hV
 clear hV hx1 HX ok hn
 generalize x.nf = nf at *
 generalize x.pen = pen at *
 go_enter Tryz.func39, Tryz.ntmps39
 go_upto_region 0 with (fail)
 refine wp_region_lit ?_
 refine t_box hL rfl rfl ?_; clear hL; intro Wh2 mh2 hL eh2; simp only [Act.put, zq1, zq2, zq3]
 go_wp2_with (first | go_skip | refine tP ?_ | (refine tS ?_; clear hL; intro _ hL) | (refine tB ?_; clear hL; intro _ _ hL _) | (refine tC ?_; clear hL; intro _ _ hL _ hBs))
 refine (KV.out _ _ hL.vw leX).mono ?_
 rintro e Wc1 ⟨_, mc1, rfl, hE, hMc1, hV, rfl⟩
 replace hL := hL.call hE (by assumption) hV; clear hE hV
 go_wp2_with (first | go_skip | refine tP ?_ | (refine tS ?_; clear hL; intro _ hL) | (refine tB ?_; clear hL; intro _ _ hL _) | (refine tC ?_; clear hL; intro _ _ hL _ hBs))
 go_ret2
 exact RetV.mk hL rfl

theorem r_FollowList (xv vv : Value) (x : Ms) (us : List Rat) (w m : World) (hV : Vw m w) (hx : MasterR m xv x) (hvv : FracL m vv us) (ok : VOk x us) :
  Calls Tryz.prog 39 #[xv, vv] w (RetV w m fun m' r => ∃ v, r = .tuple #[v, .int .i64 0] ∧ FolL m' v (flY (entS x.cols us x.cols.length) x.rows x.rows)) := by
 have HX := Lib.hid hx
 obtain ⟨nf, rws, pen, cols, cuts⟩ := x
 obtain ⟨va, vb, vc, rfl, ha, hb, hc⟩ := hx
 simp only at ha hb hc
 obtain ⟨A, ca, rfl, hca, ha⟩ := ha.lit
 obtain ⟨B, cb, rfl, hcb, hb⟩ := hb.lit
 obtain ⟨C, cc, rfl, hcc, hc⟩ := hc.lit
 obtain ⟨V, cv, rfl, hcv, hvv⟩ := hvv.lit
 have KV : Hid (∀ w m', Vw m' w → Le m m' → Calls Tryz.prog 98 #[.agg #[.int .i64 nf, .slice A rws.length ca, .int .i64 pen, .slice B cols.length cb, .slice C cuts.length cc], .slice V us.length cv] w (RetV w m' fun _ r => r = .int .i64 0)) := by
  show ∀ w m', _
  exact fun w m' hV hle => r_valued _ _ V us.length cv 0 w m' hV (HX.out.le hle) ok.ms (by rw [if_pos ok.len])
 have HRO := Lib.hid ha
 have HCO := Lib.hid hb
 have HVA := Lib.hid hvv
 have HC : Hid (∀ c ∈ cols, ColOk rws c) := ok.ms.cols
 have HT : Hid (∀ v ∈ us, Tw 18 v) := ok.tw
 have HE : Hid (∀ k p, Tw 117000 (sumAt (entS cols us k) p)) := by
  show ∀ k p, _
  exact fun k p => sum_tw (fun e he => (ok.entS_mem he).1) (Nat.le_trans (ok.entS_len k) (by decide)) p
 have HLN : Hid (∀ c ∈ cols, (opF c.2.1).length ≤ 32) := by
  show ∀ c ∈ cols, _
  exact fun c hc => ok.col_len hc
 have hfew : cols.length ≤ 100 := ok.few
 have hr32 : rws.length ≤ 32 := ok.ms.r1
 have hlen : us.length = cols.length := ok.len
 have HPL : Hid (∀ S a k j, (flY S (rws.take k) rws ++ rowY S a (rws.take j)).length ≤ 1056) := by
  show ∀ S a k j, _
  exact fun S a k j => part_len hr32 k j
 have HPL1 : Hid (∀ S k, (flY S (rws.take k) rws).length ≤ 1056) := by
  show ∀ S k, _
  exact fun S k => flY_len1 hr32 k
 have hL := Loc.start hV
 clear hV ok ha hb hc hvv HX
 rw [hlen] at HVA hcv KV ⊢
 have HNV := Lib.hid hlen
 clear hlen
 simp only
 generalize hn1 : cols.length = nc at *
 have HN1 := Lib.hid hn1
 clear hn1
 generalize hn2 : rws.length = nr at *
 have HN2 := Lib.hid hn2
 clear hn2
 generalize cuts.length = nk at *
 generalize hSS : entS cols us nc = SS at *
 have HSS := Lib.hid hSS
 clear hSS
 go_enter Tryz.func39, Tryz.ntmps39
 go_upto_region 0 with (fail)
 refine wp_region_lit ?_
 refine t_box hL rfl rfl ?_; clear hL; intro Wh2 mh2 hL eh2; simp only [Act.put, zq1, zq2, zq3]
 go_wp2_with (first | go_skip | refine tP ?_ | (refine tS ?_; clear hL; intro _ hL) | (refine tB ?_; clear hL; intro _ _ hL _) | (refine tC ?_; clear hL; intro _ _ hL _ hBs))
 refine (KV.out _ _ hL.vw leX).mono ?_
 rintro e Wc1 ⟨_, mc1, rfl, hE, hMc1, hV, rfl⟩
 replace hL := hL.call hE (by assumption) hV; clear hE hV
 clear KV
 go_wp2_with (first | go_skip | refine tP ?_ | (refine tS ?_; clear hL; intro _ hL) | (refine tB ?_; clear hL; intro _ _ hL _) | (refine tC ?_; clear hL; intro _ _ hL _ hBs))
 go_loopw [7, 8] (fun ov i wr => ∃ (k : Nat) (mm : World) (q : Nat) (Rr : List Lo), k ≤ nr ∧ i = .int .i64 k ∧ Loc w m wr mm ((w.heap.size, 26, #[.int .i64 nf, .slice A nr ca, .int .i64 pen, .slice B nc cb, .slice C nk cc]) :: Rr) ∧ Hid (RowA 137 6 FolR mm ov q (flY SS (rws.take k) rws) Rr)) (fun _ i _ => nr - (intOf i).toNat)
 case atStart => exact ⟨0, _, 0, [], Nat.zero_le _, rfl, hL, RowA.nil⟩
 case round =>
  clear hL
  obtain ⟨k, mm, q, Rr, hk, rfl, hL, row⟩ := hrel
  have hM := hL.mext
  obtain ⟨A3, c3, rfl, row1⟩ := row.out.lit
  have ROW := Lib.hid row1
  clear row row1
  by_cases hlt : k < nr
  ·obtain ⟨a, hra⟩ := at_some HN2 hlt
   have HFS := Lib.hid (flY_step (S := SS) (cs := rws) hra)
   obtain ⟨b3, o3, rfl, hc3⟩ := IntL.at_ HRO.out hra
   have hlt' : (k : Int) < (nr : Int) := by omega
   clear hra
   go_wp2_with (first | go_skip | refine tP ?_ | (refine tS ?_; clear hL; intro _ hL) | (refine tB ?_; clear hL; intro _ _ hL _) | (refine tC ?_; clear hL; intro _ _ hL _ hBs))
   go_loopw [7, 9] (fun ov i wr => ∃ (j : Nat) (m2 : World) (q2 : Nat) (R2 : List Lo), j ≤ nr ∧ i = .int .i64 j ∧ Loc w m wr m2 ((w.heap.size, 26, #[.int .i64 nf, .slice (some ⟨b3, o3, none⟩) nr ca, .int .i64 pen, .slice B nc cb, .slice C nk cc]) :: R2) ∧ Hid (RowA 137 6 FolR m2 ov q2 (flY SS (rws.take k) rws ++ rowY SS a (rws.take j)) R2)) (fun _ i _ => nr - (intOf i).toNat)
   case atStart => exact ⟨0, _, q, Rr, Nat.zero_le _, rfl, hL, by rw [show rowY SS a (rws.take 0) = [] from rfl, List.append_nil]; exact ROW.out⟩
   case round =>
    clear hL ROW hM
    obtain ⟨j, m2, q2, R2, hj, rfl, hL, row⟩ := hrel
    have hM := hL.mext
    obtain ⟨A4, c4, rfl, row1⟩ := row.out.lit
    have hq2 : q2 ≤ 1056 := by
     have h1 := row1.len
     have h2 := HPL.out SS a k j
     omega
    have ROW := Lib.hid row1
    clear row row1
    by_cases hlt2 : j < nr
    ·obtain ⟨c, hrc⟩ := at_some HN2 hlt2
     have HRS := Lib.hid (rowY_step (S := SS) (a := a) hrc)
     obtain ⟨b4, o4, e4, hc4⟩ := IntL.at_ HRO.out hrc
     obtain ⟨rfl, rfl⟩ : b3 = b4 ∧ o3 = o4 := by simpa using e4
     have hlt2' : (j : Int) < (nr : Int) := by omega
     clear hrc e4
     go_wp2_with (first | go_skip | refine tP ?_ | (refine tS ?_; clear hL; intro _ hL) | (refine tB ?_; clear hL; intro _ _ hL _) | (refine tC ?_; clear hL; intro _ _ hL _ hBs))
     refine (r_Int 0 _ _ hL.vw (by decide) (by decide)).mono ?_
     rintro e Ws0 ⟨vs0, ms0, rfl, hE, hMs0, hV, hs0⟩
     replace hL := hL.call hE (by assumption) hV; clear hE hV
     obtain ⟨gs0', As0', ns0', cs0', hs0', Bs0', ks0', ds0', rfl, hs0⟩ := hs0.lit
     go_wp2_with (first | go_skip | refine tP ?_ | (refine tS ?_; clear hL; intro _ hL) | (refine tB ?_; clear hL; intro _ _ hL _) | (refine tC ?_; clear hL; intro _ _ hL _ hBs))
     go_loopw [11] (fun i wr => ∃ (t : Nat) (m3 : World) (gs fs : Bool) (As Bs : Option Addr) (ns cs ps qs : Nat), t ≤ nc ∧ i = .int .i64 t ∧ Loc w m wr m3 ((Ws0.heap.size, 39, #[.bool gs, .slice As ns cs, .bool fs, .slice Bs ps qs]) :: (w.heap.size, 26, #[.int .i64 nf, .slice (some ⟨b3, o3, none⟩) nr ca, .int .i64 pen, .slice B nc cb, .slice C nk cc]) :: R2) ∧ Hid (FracC m3 (.agg #[.bool gs, .slice As ns cs, .bool fs, .slice Bs ps qs]) (sumAt (entS cols us t) (a, c))) ∧ Hid (Ext m2 m3)) (fun i _ => nc - (intOf i).toNat)
     case atStart => exact ⟨0, _, _, _, _, _, _, _, _, _, Nat.zero_le _, rfl, hL, by rw [sum_zero]; exact hs0.le leX, exX⟩
     case round =>
      clear hL
      obtain ⟨t, m3, gs, fs, As, Bs, ns, cs, ps, qs, ht, rfl, hL, HS, HX3⟩ := hrel
      have hX3 := HX3.out
      have hM3 := hL.mext
      by_cases hlt3 : t < nc
      ·have hlt3' : (t : Int) < (nc : Int) := by omega
       obtain ⟨⟨s, ds, cost⟩, hx⟩ := at_some HN1 hlt3
       obtain ⟨q, hq⟩ := at_some HNV hlt3
       have hco := HCO.out
       have hva := HVA.out
       obtain ⟨b1, o1, D, cd, rfl, hds, hr1⟩ := ColL.at_ hco hx
       obtain ⟨b2, o2, g2, A2, n2, c2, h2, B2, k2, d2, rfl, hp2, hr2⟩ := FracL.at_ hva hq
       obtain ⟨i1, i2, i3, i4, i5, i6, i7⟩ := HC.out _ (List.mem_of_getElem? hx)
       simp only at hds hr1 i1 i2 i3 i4 i5 i6 i7
       have hr3 := range_two hr1
       have HD := Lib.hid hds
       have H3 := Lib.hid i3
       have H4 := Lib.hid i4
       have HP2 := Lib.hid hp2
       have HTQ : Hid (Fit 200 q) := (HT.out q (List.mem_of_getElem? hq)).fit (by decide)
       have HTS : Hid (Fit 200 (sumAt (entS cols us t) (a, c))) := (HE.out t (a, c)).fit (by decide)
       have H32 : Hid ((opF ds).length ≤ 1000000) := Nat.le_trans (HLN.out _ (List.mem_of_getElem? hx)) (by decide)
       have HST := Lib.hid (sum_step hx hq i7 (a, c))
       simp only at HST
       clear hx hq hds hp2 i1 i2 i3 i4 i5 i6 i7 hco hva hr1
       generalize hnd : ds.length = nd at *
       have HND := Lib.hid hnd
       clear hnd
       by_cases hp : (a, c) ∈ pairsOf (opF ds)
       ·have KF : Hid (∀ v w m', Vw m' w → IntL m' v (opF ds) → Calls Tryz.prog 99 #[v, .int .i64 a, .int .i64 c] w (RetV w m' fun _ r => r = .bool true)) := by
         show ∀ v w m', _
         intro v w m' hV h
         have h1 := r_FollowsB v (opF ds) a c w m' hV h H32.out
         rwa [decide_eq_true hp] at h1
        rw [if_pos hp] at HST
        clear hp
        go_upto_region 15 with ((first | go_skip | refine tP ?_ | (refine tS ?_; clear hL; intro _ hL) | (refine tB ?_; clear hL; intro _ _ hL _) | (refine tC ?_; clear hL; intro _ _ hL _ hBs)))
        (try simp only [eq_self] at *)
        refine wp_region_by2 18 [false, false, false, false, false, false, false, false, false, false, false, false, false, false, false, false, false, false] [false, false, false, false, false, false, false, false, false, false, false, false, false, false, false, false, false, false] [(fun v _ _ => v = ?c15_0a), (fun v _ _ => v = ?c15_1a), (fun v _ _ => v = ?c15_2a), (fun v _ _ => v = ?c15_3a), (fun v _ _ => v = ?c15_4a), (fun v _ _ => v = ?c15_5a), Of (fun um v => IntL um v (opF ds)), (fun v _ _ => v = ?c15_7a), (fun v _ _ => v = ?c15_8a), (fun v _ _ => v = ?c15_9a), (fun v _ _ => v = ?c15_10a), (fun v _ _ => v = ?c15_11a), (fun v _ _ => v = ?c15_12a), (fun v _ _ => v = ?c15_13a), (fun v _ _ => v = ?c15_14a), (fun v _ _ => v = ?c15_15a), (fun v _ _ => v = ?c15_16a), Is (.bool true)] hL.vw mixed [40, 41, 42, 43, 44, 45, 46, 47, 48, 49, 50, 51, 52, 53, 54, 55, 56, 57] _ (by kernel_rfl) (fun vs => by simp only [lay, Act.put, zq1, zq2, zq3]; rfl) (by kernel_rfl) (by decide) (by decide) ?s15a ?l15a ?r15a
        case s15a =>
         refine ⟨?_, ?_, ?_, ?_, ?_, ?_, ?_, ?_, ?_, ?_, ?_, ?_, ?_, ?_, ?_, ?_, ?_, ?_, trivial⟩
         ·intro vs W1 m1 hE hM hV hD; clear hD
          exact sFe
         ·intro vs W1 m1 hE hM hV hD; obtain ⟨⟨_, _, -, -, f40⟩, -⟩ := hD
          rw [(f40 : vs 40 = _)]; clear f40; exact sLe
         ·intro vs W1 m1 hE hM hV hD; clear hD
          exact sPw
         ·intro vs W1 m1 hE hM hV hD; obtain ⟨⟨_, _, -, -, f41⟩, ⟨_, _, -, -, f42⟩, -⟩ := hD
          rw [(f41 : vs 41 = _), (f42 : vs 42 = _)]; clear f41 f42; exact sIy
         ·intro vs W1 m1 hE hM hV hD; obtain ⟨⟨_, _, -, -, f43⟩, -⟩ := hD
          rw [(f43 : vs 43 = _)]; clear f43; exact sFe
         ·intro vs W1 m1 hE hM hV hD; obtain ⟨⟨_, _, -, -, f44⟩, -⟩ := hD
          rw [(f44 : vs 44 = _)]; clear f44; exact sLe
         ·intro vs W1 m1 hE hM hV hD; obtain ⟨⟨_, _, -, -, f45⟩, -⟩ := hD
          rw [(f45 : vs 45 = _)]
          clear f45
          go_wp2_with fail
          refine (r_Operated s _ ds _ _ hV (DutsL.le HD.out leX) (by rw [HND.out]; exact H3.out) H4.out).mono ?_
          rintro e W2 ⟨v, m2, rfl, hE2, hM2, hV2, h⟩
          go_wp2_with fail
          refine One2.call hE2 hM2 hV2 ?_; first | exact h | exact rfl
         ·intro vs W1 m1 hE hM hV hD; clear hD
          exact sFe
         ·intro vs W1 m1 hE hM hV hD; obtain ⟨⟨_, _, -, -, f47⟩, -⟩ := hD
          rw [(f47 : vs 47 = _)]; clear f47; exact sLe
         ·intro vs W1 m1 hE hM hV hD; clear hD
          exact sPw
         ·intro vs W1 m1 hE hM hV hD; obtain ⟨⟨_, _, -, -, f48⟩, ⟨_, _, -, -, f49⟩, -⟩ := hD
          rw [(f48 : vs 48 = _), (f49 : vs 49 = _)]; clear f48 f49; exact sIy
         ·intro vs W1 m1 hE hM hV hD; obtain ⟨⟨_, _, -, -, f50⟩, -⟩ := hD
          rw [(f50 : vs 50 = _)]; clear f50; exact sLe
         ·intro vs W1 m1 hE hM hV hD; clear hD
          exact sFe
         ·intro vs W1 m1 hE hM hV hD; obtain ⟨⟨_, _, -, -, f52⟩, -⟩ := hD
          rw [(f52 : vs 52 = _)]; clear f52; exact sLe
         ·intro vs W1 m1 hE hM hV hD; clear hD
          exact sPw
         ·intro vs W1 m1 hE hM hV hD; obtain ⟨⟨_, _, -, -, f53⟩, ⟨_, _, -, -, f54⟩, -⟩ := hD
          rw [(f53 : vs 53 = _), (f54 : vs 54 = _)]; clear f53 f54; exact sIy
         ·intro vs W1 m1 hE hM hV hD; obtain ⟨⟨_, _, -, -, f55⟩, -⟩ := hD
          rw [(f55 : vs 55 = _)]; clear f55; exact sLe
         ·intro vs W1 m1 hE hM hV hD; obtain ⟨⟨_, _, -, i46, f46⟩, ⟨_, _, -, -, f51⟩, ⟨_, _, -, -, f56⟩, -, -⟩ := hD
          rw [(f51 : vs 51 = _), (f56 : vs 56 = _)]
          clear f51 f56
          have f46 : IntL _ (vs 46) (opF ds) := f46
          replace f46 := f46.le i46.le
          clear i46
          go_wp2_with fail
          refine (KF.out _ _ _ hV f46).mono ?_
          rintro e W2 ⟨v, m2, rfl, hE2, hM2, hV2, h⟩
          go_wp2_with fail
          refine One2.call hE2 hM2 hV2 ?_; first | exact h | exact rfl
        case l15a =>
         refine ⟨nF, nF, nF, nF, nF, nF, nF, nF, nF, nF, nF, nF, nF, nF, nF, nF, nF, nF, trivial⟩
        intro vs W1 m1 hE hM hV hF hD
        clear hD
        obtain ⟨⟨_, _, -, -, f40⟩, ⟨_, _, -, -, f41⟩, ⟨_, _, -, -, f42⟩, ⟨_, _, -, -, f43⟩, ⟨_, _, -, -, f44⟩, ⟨_, _, -, -, f45⟩, ⟨_, _, -, i46, f46⟩, ⟨_, _, -, -, f47⟩, ⟨_, _, -, -, f48⟩, ⟨_, _, -, -, f49⟩, ⟨_, _, -, -, f50⟩, ⟨_, _, -, -, f51⟩, ⟨_, _, -, -, f52⟩, ⟨_, _, -, -, f53⟩, ⟨_, _, -, -, f54⟩, ⟨_, _, -, -, f55⟩, ⟨_, _, -, -, f56⟩, ⟨_, _, -, -, f57⟩, -⟩ := hF
        replace hL := hL.call hE hM hV
        have f40 : vs 40 = _ := f40
        generalize vs 40 = x40 at f40 ⊢
        subst x40
        have f41 : vs 41 = _ := f41
        generalize vs 41 = x41 at f41 ⊢
        subst x41
        have f42 : vs 42 = _ := f42
        generalize vs 42 = x42 at f42 ⊢
        subst x42
        have f43 : vs 43 = _ := f43
        generalize vs 43 = x43 at f43 ⊢
        subst x43
        have f44 : vs 44 = _ := f44
        generalize vs 44 = x44 at f44 ⊢
        subst x44
        have f45 : vs 45 = _ := f45
        generalize vs 45 = x45 at f45 ⊢
        subst x45
        replace f46 : IntL _ (vs 46) (opF ds) := f46
        replace f46 := f46.le i46.le
        clear i46
        have f47 : vs 47 = _ := f47
        generalize vs 47 = x47 at f47 ⊢
        subst x47
        have f48 : vs 48 = _ := f48
        generalize vs 48 = x48 at f48 ⊢
        subst x48
        have f49 : vs 49 = _ := f49
        generalize vs 49 = x49 at f49 ⊢
        subst x49
        have f50 : vs 50 = _ := f50
        generalize vs 50 = x50 at f50 ⊢
        subst x50
        have f51 : vs 51 = _ := f51
        generalize vs 51 = x51 at f51 ⊢
        subst x51
        have f52 : vs 52 = _ := f52
        generalize vs 52 = x52 at f52 ⊢
        subst x52
        have f53 : vs 53 = _ := f53
        generalize vs 53 = x53 at f53 ⊢
        subst x53
        have f54 : vs 54 = _ := f54
        generalize vs 54 = x54 at f54 ⊢
        subst x54
        have f55 : vs 55 = _ := f55
        generalize vs 55 = x55 at f55 ⊢
        subst x55
        have f56 : vs 56 = _ := f56
        generalize vs 56 = x56 at f56 ⊢
        subst x56
        have f57 : vs 57 = _ := f57
        generalize vs 57 = x57 at f57 ⊢
        subst x57
        clear hE hV
        simp only [List.drop_succ_cons, List.drop_zero]
        go_wp2_with (first | go_skip | refine tP ?_ | (refine tS ?_; clear hL; intro _ hL) | (refine tB ?_; clear hL; intro _ _ hL _) | (refine tC ?_; clear hL; intro _ _ hL _ hBs))
        refine QN.mk ?_
        go_upto_region 16 with ((first | go_skip | refine tP ?_ | (refine tS ?_; clear hL; intro _ hL) | (refine tB ?_; clear hL; intro _ _ hL _) | (refine tC ?_; clear hL; intro _ _ hL _ hBs)))
        refine wp_region_by2 6 [false, false, false, false, false, false] [false, false, false, false, false, false] [(fun v _ _ => v = ?c16_0a), (fun v _ _ => v = ?c16_1a), (fun v _ _ => v = ?c16_2a), (fun v _ _ => v = ?c16_3a), (fun v _ _ => v = ?c16_4a), Of (fun um v => FracC um v (sumAt (entS cols us t) (a, c) + q))] hL.vw mixed [58, 59, 60, 61, 62, 63] _ (by kernel_rfl) (fun vs => by simp only [lay, Act.put, zq1, zq2, zq3]; rfl) (by kernel_rfl) (by decide) (by decide) ?s16a ?l16a ?r16a
        case s16a =>
         refine ⟨?_, ?_, ?_, ?_, ?_, ?_, trivial⟩
         ·intro vs W1 m1 hE hM hV hD; clear hD
          exact sLe
         ·intro vs W1 m1 hE hM hV hD; clear hD
          exact sPw
         ·intro vs W1 m1 hE hM hV hD; clear hD
          exact sPw
         ·intro vs W1 m1 hE hM hV hD; obtain ⟨⟨_, _, -, -, f59⟩, ⟨_, _, -, -, f60⟩, -⟩ := hD
          rw [(f59 : vs 59 = _), (f60 : vs 60 = _)]; clear f59 f60; exact sIy
         ·intro vs W1 m1 hE hM hV hD; obtain ⟨⟨_, _, -, -, f61⟩, -⟩ := hD
          rw [(f61 : vs 61 = _)]; clear f61; exact sLe
         ·intro vs W1 m1 hE hM hV hD; obtain ⟨⟨_, _, -, -, f58⟩, ⟨_, _, -, -, f62⟩, -⟩ := hD
          rw [(f58 : vs 58 = _), (f62 : vs 62 = _)]
          clear f58 f62
          go_wp2_with fail
          refine (r_AddC _ _ _ _ _ _ hV (HS.out.le leX) (HP2.out.le leX) HTS.out HTQ.out).mono ?_
          rintro e W2 ⟨v, m2, rfl, hE2, hM2, hV2, h⟩
          go_wp2_with fail
          refine One2.call hE2 hM2 hV2 ?_; first | exact h | exact rfl
        case l16a =>
         refine ⟨nF, nF, nF, nF, nF, nF, trivial⟩
        intro vs W1 m1 hE hM hV hF hD
        clear hD
        obtain ⟨-, -, -, -, -, ⟨_, _, -, i63, f63⟩, -⟩ := hF
        replace hL := hL.call hE hM hV
        replace f63 : FracC _ (vs 63) (sumAt (entS cols us t) (a, c) + q) := f63
        replace f63 := f63.le i63.le
        clear i63
        obtain ⟨g63, A63, n63, c63, h63, B63, k63, d63, e63, f63⟩ := f63.lit
        generalize vs 63 = x63 at e63 ⊢
        subst x63
        clear hE hV
        simp only [List.drop_succ_cons, List.drop_zero]
        go_wp2_with (first | go_skip | refine tP ?_ | (refine tS ?_; clear hL; intro _ hL) | (refine tB ?_; clear hL; intro _ _ hL _) | (refine tC ?_; clear hL; intro _ _ hL _ hBs))
        refine QN.mk ?_
        go_wp2_with (first | go_skip | refine tP ?_ | (refine tS ?_; clear hL; intro _ hL) | (refine tB ?_; clear hL; intro _ _ hL _) | (refine tC ?_; clear hL; intro _ _ hL _ hBs))
        go_roundw
        case rel => exact ⟨t + 1, _, _, _, _, _, _, _, _, _, by omega, by go_num, hL, by rw [HST.out]; exact f63.le leX, hX3.trans exX⟩
        case measure => simp [intOf] <;> omega
       ·have KF : Hid (∀ v w m', Vw m' w → IntL m' v (opF ds) → Calls Tryz.prog 99 #[v, .int .i64 a, .int .i64 c] w (RetV w m' fun _ r => r = .bool false)) := by
         show ∀ v w m', _
         intro v w m' hV h
         have h1 := r_FollowsB v (opF ds) a c w m' hV h H32.out
         rwa [decide_eq_false hp] at h1
        rw [if_neg hp] at HST
        clear hp
        go_upto_region 15 with ((first | go_skip | refine tP ?_ | (refine tS ?_; clear hL; intro _ hL) | (refine tB ?_; clear hL; intro _ _ hL _) | (refine tC ?_; clear hL; intro _ _ hL _ hBs)))
        (try simp only [eq_self] at *)
        refine wp_region_by2 18 [false, false, false, false, false, false, false, false, false, false, false, false, false, false, false, false, false, false] [false, false, false, false, false, false, false, false, false, false, false, false, false, false, false, false, false, false] [(fun v _ _ => v = ?c15_0b), (fun v _ _ => v = ?c15_1b), (fun v _ _ => v = ?c15_2b), (fun v _ _ => v = ?c15_3b), (fun v _ _ => v = ?c15_4b), (fun v _ _ => v = ?c15_5b), Of (fun um v => IntL um v (opF ds)), (fun v _ _ => v = ?c15_7b), (fun v _ _ => v = ?c15_8b), (fun v _ _ => v = ?c15_9b), (fun v _ _ => v = ?c15_10b), (fun v _ _ => v = ?c15_11b), (fun v _ _ => v = ?c15_12b), (fun v _ _ => v = ?c15_13b), (fun v _ _ => v = ?c15_14b), (fun v _ _ => v = ?c15_15b), (fun v _ _ => v = ?c15_16b), Is (.bool false)] hL.vw mixed [40, 41, 42, 43, 44, 45, 46, 47, 48, 49, 50, 51, 52, 53, 54, 55, 56, 57] _ (by kernel_rfl) (fun vs => by simp only [lay, Act.put, zq1, zq2, zq3]; rfl) (by kernel_rfl) (by decide) (by decide) ?s15b ?l15b ?r15b
        case s15b =>
         refine ⟨?_, ?_, ?_, ?_, ?_, ?_, ?_, ?_, ?_, ?_, ?_, ?_, ?_, ?_, ?_, ?_, ?_, ?_, trivial⟩
         ·intro vs W1 m1 hE hM hV hD; clear hD
          exact sFe
         ·intro vs W1 m1 hE hM hV hD; obtain ⟨⟨_, _, -, -, f40⟩, -⟩ := hD
          rw [(f40 : vs 40 = _)]; clear f40; exact sLe
         ·intro vs W1 m1 hE hM hV hD; clear hD
          exact sPw
         ·intro vs W1 m1 hE hM hV hD; obtain ⟨⟨_, _, -, -, f41⟩, ⟨_, _, -, -, f42⟩, -⟩ := hD
          rw [(f41 : vs 41 = _), (f42 : vs 42 = _)]; clear f41 f42; exact sIy
         ·intro vs W1 m1 hE hM hV hD; obtain ⟨⟨_, _, -, -, f43⟩, -⟩ := hD
          rw [(f43 : vs 43 = _)]; clear f43; exact sFe
         ·intro vs W1 m1 hE hM hV hD; obtain ⟨⟨_, _, -, -, f44⟩, -⟩ := hD
          rw [(f44 : vs 44 = _)]; clear f44; exact sLe
         ·intro vs W1 m1 hE hM hV hD; obtain ⟨⟨_, _, -, -, f45⟩, -⟩ := hD
          rw [(f45 : vs 45 = _)]
          clear f45
          go_wp2_with fail
          refine (r_Operated s _ ds _ _ hV (DutsL.le HD.out leX) (by rw [HND.out]; exact H3.out) H4.out).mono ?_
          rintro e W2 ⟨v, m2, rfl, hE2, hM2, hV2, h⟩
          go_wp2_with fail
          refine One2.call hE2 hM2 hV2 ?_; first | exact h | exact rfl
         ·intro vs W1 m1 hE hM hV hD; clear hD
          exact sFe
         ·intro vs W1 m1 hE hM hV hD; obtain ⟨⟨_, _, -, -, f47⟩, -⟩ := hD
          rw [(f47 : vs 47 = _)]; clear f47; exact sLe
         ·intro vs W1 m1 hE hM hV hD; clear hD
          exact sPw
         ·intro vs W1 m1 hE hM hV hD; obtain ⟨⟨_, _, -, -, f48⟩, ⟨_, _, -, -, f49⟩, -⟩ := hD
          rw [(f48 : vs 48 = _), (f49 : vs 49 = _)]; clear f48 f49; exact sIy
         ·intro vs W1 m1 hE hM hV hD; obtain ⟨⟨_, _, -, -, f50⟩, -⟩ := hD
          rw [(f50 : vs 50 = _)]; clear f50; exact sLe
         ·intro vs W1 m1 hE hM hV hD; clear hD
          exact sFe
         ·intro vs W1 m1 hE hM hV hD; obtain ⟨⟨_, _, -, -, f52⟩, -⟩ := hD
          rw [(f52 : vs 52 = _)]; clear f52; exact sLe
         ·intro vs W1 m1 hE hM hV hD; clear hD
          exact sPw
         ·intro vs W1 m1 hE hM hV hD; obtain ⟨⟨_, _, -, -, f53⟩, ⟨_, _, -, -, f54⟩, -⟩ := hD
          rw [(f53 : vs 53 = _), (f54 : vs 54 = _)]; clear f53 f54; exact sIy
         ·intro vs W1 m1 hE hM hV hD; obtain ⟨⟨_, _, -, -, f55⟩, -⟩ := hD
          rw [(f55 : vs 55 = _)]; clear f55; exact sLe
         ·intro vs W1 m1 hE hM hV hD; obtain ⟨⟨_, _, -, i46, f46⟩, ⟨_, _, -, -, f51⟩, ⟨_, _, -, -, f56⟩, -, -⟩ := hD
          rw [(f51 : vs 51 = _), (f56 : vs 56 = _)]
          clear f51 f56
          have f46 : IntL _ (vs 46) (opF ds) := f46
          replace f46 := f46.le i46.le
          clear i46
          go_wp2_with fail
          refine (KF.out _ _ _ hV f46).mono ?_
          rintro e W2 ⟨v, m2, rfl, hE2, hM2, hV2, h⟩
          go_wp2_with fail
          refine One2.call hE2 hM2 hV2 ?_; first | exact h | exact rfl
        case l15b =>
         refine ⟨nF, nF, nF, nF, nF, nF, nF, nF, nF, nF, nF, nF, nF, nF, nF, nF, nF, nF, trivial⟩
        intro vs W1 m1 hE hM hV hF hD
        clear hD
        obtain ⟨⟨_, _, -, -, f40⟩, ⟨_, _, -, -, f41⟩, ⟨_, _, -, -, f42⟩, ⟨_, _, -, -, f43⟩, ⟨_, _, -, -, f44⟩, ⟨_, _, -, -, f45⟩, ⟨_, _, -, i46, f46⟩, ⟨_, _, -, -, f47⟩, ⟨_, _, -, -, f48⟩, ⟨_, _, -, -, f49⟩, ⟨_, _, -, -, f50⟩, ⟨_, _, -, -, f51⟩, ⟨_, _, -, -, f52⟩, ⟨_, _, -, -, f53⟩, ⟨_, _, -, -, f54⟩, ⟨_, _, -, -, f55⟩, ⟨_, _, -, -, f56⟩, ⟨_, _, -, -, f57⟩, -⟩ := hF
        replace hL := hL.call hE hM hV
        have f40 : vs 40 = _ := f40
        generalize vs 40 = x40 at f40 ⊢
        subst x40
        have f41 : vs 41 = _ := f41
        generalize vs 41 = x41 at f41 ⊢
        subst x41
        have f42 : vs 42 = _ := f42
        generalize vs 42 = x42 at f42 ⊢
        subst x42
        have f43 : vs 43 = _ := f43
        generalize vs 43 = x43 at f43 ⊢
        subst x43
        have f44 : vs 44 = _ := f44
        generalize vs 44 = x44 at f44 ⊢
        subst x44
        have f45 : vs 45 = _ := f45
        generalize vs 45 = x45 at f45 ⊢
        subst x45
        replace f46 : IntL _ (vs 46) (opF ds) := f46
        replace f46 := f46.le i46.le
        clear i46
        have f47 : vs 47 = _ := f47
        generalize vs 47 = x47 at f47 ⊢
        subst x47
        have f48 : vs 48 = _ := f48
        generalize vs 48 = x48 at f48 ⊢
        subst x48
        have f49 : vs 49 = _ := f49
        generalize vs 49 = x49 at f49 ⊢
        subst x49
        have f50 : vs 50 = _ := f50
        generalize vs 50 = x50 at f50 ⊢
        subst x50
        have f51 : vs 51 = _ := f51
        generalize vs 51 = x51 at f51 ⊢
        subst x51
        have f52 : vs 52 = _ := f52
        generalize vs 52 = x52 at f52 ⊢
        subst x52
        have f53 : vs 53 = _ := f53
        generalize vs 53 = x53 at f53 ⊢
        subst x53
        have f54 : vs 54 = _ := f54
        generalize vs 54 = x54 at f54 ⊢
        subst x54
        have f55 : vs 55 = _ := f55
        generalize vs 55 = x55 at f55 ⊢
        subst x55
        have f56 : vs 56 = _ := f56
        generalize vs 56 = x56 at f56 ⊢
        subst x56
        have f57 : vs 57 = _ := f57
        generalize vs 57 = x57 at f57 ⊢
        subst x57
        clear hE hV
        simp only [List.drop_succ_cons, List.drop_zero]
        go_wp2_with (first | go_skip | refine tP ?_ | (refine tS ?_; clear hL; intro _ hL) | (refine tB ?_; clear hL; intro _ _ hL _) | (refine tC ?_; clear hL; intro _ _ hL _ hBs))
        refine QN.mk ?_
        go_wp2_with (first | go_skip | refine tP ?_ | (refine tS ?_; clear hL; intro _ hL) | (refine tB ?_; clear hL; intro _ _ hL _) | (refine tC ?_; clear hL; intro _ _ hL _ hBs))
        go_roundw
        case rel => exact ⟨t + 1, _, _, _, _, _, _, _, _, _, by omega, by go_num, hL, by rw [HST.out]; exact HS.out.le leX, hX3.trans exX⟩
        case measure => simp [intOf] <;> omega
      ·have htn : t = nc := by omega
       subst htn
       have HS1 : Hid (FracC m3 (.agg #[.bool gs, .slice As ns cs, .bool fs, .slice Bs ps qs]) (sumAt SS (a, c))) := by rw [← HSS.out]; exact HS.out
       have HTS : Hid (Fit 200 (sumAt SS (a, c))) := by rw [← HSS.out]; exact (HE.out t (a, c)).fit (by decide)
       have HTS2 : Hid (Fit 1000 (sumAt SS (a, c))) := HTS.out.mono (by decide)
       clear HS
       by_cases h0 : sumAt SS (a, c) = 0
       ·have hz : rs (sumAt SS (a, c)) = 0 := by rw [h0]; rfl
        rw [if_pos h0, List.append_nil] at HRS
        clear h0
        go_wp2_with (first | go_skip | refine tP ?_ | (refine tS ?_; clear hL; intro _ hL) | (refine tB ?_; clear hL; intro _ _ hL _) | (refine tC ?_; clear hL; intro _ _ hL _ hBs))
        refine (r_Sign _ (sumAt SS (a, c)) _ _ hL.vw ((HS1.out.toV HTS.out (by decide)).le leX) HTS2.out).mono ?_
        rintro e Ws1 ⟨_, ms1, rfl, hE, hMs1, hV, rfl⟩
        replace hL := hL.call hE (by assumption) hV; clear hE hV
        rw [hz]
        go_wp2_with (first | go_skip | refine tP ?_ | (refine tS ?_; clear hL; intro _ hL) | (refine tB ?_; clear hL; intro _ _ hL _) | (refine tC ?_; clear hL; intro _ _ hL _ hBs))
        go_roundw
        case rel => exact ⟨j + 1, _, q2, R2, by omega, by go_num, hL.tail, by rw [HRS.out]; exact RowA.le FolR.mono ROW.out (Le.trans hX3.le leX)⟩
        case measure => simp [intOf] <;> omega
       ·have hz : ¬ rs (sumAt SS (a, c)) = 0 := fun h => icmp_ne h0 h
        have hz2 : (rs (sumAt SS (a, c)) != 0) = true := by simpa using hz
        rw [if_neg h0] at HRS
        clear h0 hz
        generalize hzz : rs (sumAt SS (a, c)) = zz at *
        have HZZ := Lib.hid hzz
        clear hzz
        go_wp2_with (first | go_skip | refine tP ?_ | (refine tS ?_; clear hL; intro _ hL) | (refine tB ?_; clear hL; intro _ _ hL _) | (refine tC ?_; clear hL; intro _ _ hL _ hBs))
        refine (r_Sign _ (sumAt SS (a, c)) _ _ hL.vw ((HS1.out.toV HTS.out (by decide)).le leX) HTS2.out).mono ?_
        rintro e Ws1 ⟨_, ms1, rfl, hE, hMs1, hV, rfl⟩
        replace hL := hL.call hE (by assumption) hV; clear hE hV
        rw [HZZ.out]
        clear HZZ
        go_upto_region 18 with ((first | go_skip | refine tP ?_ | (refine tS ?_; clear hL; intro _ hL) | (refine tB ?_; clear hL; intro _ _ hL _) | (refine tC ?_; clear hL; intro _ _ hL _ hBs)))
        clear hz2
        (try simp only [eq_self] at *)
        refine wp_region_by2 14 [false, false, false, false, false, false, false, false, false, false, false, false, false, false] [false, false, false, false, false, false, false, false, false, false, false, false, false, false] [(fun v _ _ => v = ?c18_0), (fun v _ _ => v = ?c18_1), (fun v _ _ => v = ?c18_2), (fun v _ _ => v = ?c18_3), (fun v _ _ => v = ?c18_4), (fun v _ _ => v = ?c18_5), (fun v _ _ => v = ?c18_6), (fun v _ _ => v = ?c18_7), (fun v _ _ => v = ?c18_8), (fun v _ _ => v = ?c18_9), (fun v _ _ => v = ?c18_10), (fun v _ _ => v = ?c18_11), (fun v _ _ => v = ?c18_12), (NewS1 137 (fun um v => FolR um v ((a, c), sumAt SS (a, c))))] hL.vw mixed [67, 68, 69, 70, 71, 72, 73, 74, 75, 76, 77, 78, 79, 80] _ (by kernel_rfl) (fun vs => by simp only [lay, Act.put, zq1, zq2, zq3]; rfl) (by kernel_rfl) (by decide) (by decide) ?s18 ?l18 ?r18
        case s18 =>
         refine ⟨?_, ?_, ?_, ?_, ?_, ?_, ?_, ?_, ?_, ?_, ?_, ?_, ?_, ?_, trivial⟩
         ·intro vs W1 m1 hE hM hV hD; clear hD
          exact sPw
         ·intro vs W1 m1 hE hM hV hD; clear hD
          exact sFe
         ·intro vs W1 m1 hE hM hV hD; obtain ⟨⟨_, _, -, -, f68⟩, -⟩ := hD
          rw [(f68 : vs 68 = _)]; clear f68; exact sLe
         ·intro vs W1 m1 hE hM hV hD; clear hD
          exact sPw
         ·intro vs W1 m1 hE hM hV hD; obtain ⟨⟨_, _, -, -, f69⟩, ⟨_, _, -, -, f70⟩, -⟩ := hD
          rw [(f69 : vs 69 = _), (f70 : vs 70 = _)]; clear f69 f70; exact sIy
         ·intro vs W1 m1 hE hM hV hD; obtain ⟨⟨_, _, -, -, f71⟩, -⟩ := hD
          rw [(f71 : vs 71 = _)]; clear f71; exact sLe
         ·intro vs W1 m1 hE hM hV hD; clear hD
          exact sFe
         ·intro vs W1 m1 hE hM hV hD; obtain ⟨⟨_, _, -, -, f73⟩, -⟩ := hD
          rw [(f73 : vs 73 = _)]; clear f73; exact sLe
         ·intro vs W1 m1 hE hM hV hD; clear hD
          exact sPw
         ·intro vs W1 m1 hE hM hV hD; obtain ⟨⟨_, _, -, -, f74⟩, ⟨_, _, -, -, f75⟩, -⟩ := hD
          rw [(f74 : vs 74 = _), (f75 : vs 75 = _)]; clear f74 f75; exact sIy
         ·intro vs W1 m1 hE hM hV hD; obtain ⟨⟨_, _, -, -, f76⟩, -⟩ := hD
          rw [(f76 : vs 76 = _)]; clear f76; exact sLe
         ·intro vs W1 m1 hE hM hV hD; clear hD
          exact sLe
         ·intro vs W1 m1 hE hM hV hD; obtain ⟨⟨_, _, -, -, f72⟩, ⟨_, _, -, -, f77⟩, ⟨_, _, -, -, f78⟩, -⟩ := hD
          rw [(f72 : vs 72 = _), (f77 : vs 77 = _), (f78 : vs 78 = _)]; clear f72 f77 f78; exact sPw
         ·intro vs W1 m1 hE hM hV hD; obtain ⟨⟨_, _, -, -, f79⟩, -⟩ := hD
          rw [(f79 : vs 79 = _)]
          clear f79
          (go_wp2_with fail; exact one2_s1 hV fun m' h => ⟨⟨a, c, gs, As, ns, cs, fs, Bs, ps, qs⟩, rfl, rfl, rfl, HS1.out.le (Le.trans leX h.le)⟩)
        case l18 =>
         refine ⟨nF, nF, nF, nF, nF, nF, nF, nF, nF, nF, nF, nF, nF, nF, trivial⟩
        intro vs W1 m1 hE hM hV hF hD
        clear hD
        obtain ⟨⟨_, _, -, -, f67⟩, -, -, -, -, -, -, -, -, -, -, -, -, ⟨_, _, j80, i80, f80⟩, -⟩ := hF
        replace hL := hL.call hE hM hV
        have f67 : vs 67 = _ := f67
        generalize vs 67 = x67 at f67 ⊢
        subst x67
        clear hE hV
        obtain ⟨g15, cs15, e15, q15, f15⟩ := f80
        generalize vs 80 = x15 at e15 ⊢
        subst x15
        replace q15 := q15.ext j80
        have f16 : FolR _ (.agg cs15) ((a, c), sumAt SS (a, c)) := f15
        replace f16 := FolR.mono _ _ _ _ f16 i80.le
        clear f15 i80 j80
        obtain ⟨⟨a9, c9, g9, A9, n9, k9, f9, B9, p9, q9⟩, e9, e91, e92, f16⟩ := f16
        simp only [encV, encF] at e9 e91 e92 f16
        injection e9 with e9
        subst e9
        simp only [List.drop_succ_cons, List.drop_zero]
        obtain ⟨vs7, r7, z7, y7, l7⟩ := ROW.out
        refine wl_append (A := [_, _]) hL r7 (wanted_none rfl) rfl ap_Fols (by omega) rfl rfl (news := [.int .i64 a9, .int .i64 c9, .bool g9, .slice A9 n9 k9, .bool f9, .slice B9 p9 q9]) rfl (Blk.sl q15 (n := 6) rfl) rfl (by omega) (by omega) ?_
        clear hL
        intro v1 W5 m5 R5 hL r8 e8
        obtain ⟨A11, c11, rfl, -⟩ := r8.lit
        simp only [List.cons_append, List.nil_append] at hL
        have rd := RowA.snoc (R := FolR) (m := m5) (x := ((a, c), sumAt SS (a, c))) r8 z7 (y7.mono fun v x hv => FolR.mono _ _ _ _ hv (Le.trans hX3.le leX)) l7 rfl ⟨⟨a9, c9, g9, A9, n9, k9, f9, B9, p9, q9⟩, rfl, e91, e92, f16.le e8.le⟩
        rw [List.append_assoc, ← HRS.out] at rd
        have RD := Lib.hid rd
        clear rd r8 r7 z7 y7 l7 f16 e91 e92
        simp only [Act.put, zq1, zq2, zq3]
        go_wp2_with (first | go_skip | refine tP ?_ | (refine tS ?_; clear hL; intro _ hL) | (refine tB ?_; clear hL; intro _ _ hL _) | (refine tC ?_; clear hL; intro _ _ hL _ hBs))
        refine QN.mk ?_
        go_wp2_with (first | go_skip | refine tP ?_ | (refine tS ?_; clear hL; intro _ hL) | (refine tB ?_; clear hL; intro _ _ hL _) | (refine tC ?_; clear hL; intro _ _ hL _ hBs))
        go_roundw
        case rel => exact ⟨j + 1, m5, q2 + 1, R5, by omega, by go_num, hL.tail, RD.out⟩
        case measure => simp [intOf] <;> omega
    ·have hjn : j = nr := by omega
     have HRE : Hid (rowY SS a (rws.take j) = rowY SS a rws) := by
      show _ = _
      rw [List.take_of_length_le (by rw [HN2.out]; omega)]
     have h9 : (nr : Int) ≤ (j : Int) := by omega
     go_wp2_with (first | go_skip | refine tP ?_ | (refine tS ?_; clear hL; intro _ hL) | (refine tB ?_; clear hL; intro _ _ hL _) | (refine tC ?_; clear hL; intro _ _ hL _ hBs))
     go_roundw
     case rel => exact ⟨k + 1, m2, q2, R2, by omega, by go_num, hL, by rw [HFS.out, ← HRE.out]; exact ROW.out⟩
     case measure => simp [intOf] <;> omega
  ·have HRE : Hid (flY SS (rws.take k) rws = flY SS rws rws) := by
    show _ = _
    rw [List.take_of_length_le (by rw [HN2.out]; omega)]
   obtain ⟨m9, hL9, hle9, hl9, -⟩ := RowA.show (A := [_]) FolR.mono hL ROW.out
   clear hL
   have hL := hL9
   rw [HRE.out] at hl9
   have HL9 := Lib.hid hl9
   clear hL9 hl9 ROW
   have h9 : (nr : Int) ≤ (k : Int) := by omega
   go_wp2_with (first | go_skip | refine tP ?_ | (refine tS ?_; clear hL; intro _ hL) | (refine tB ?_; clear hL; intro _ _ hL _) | (refine tC ?_; clear hL; intro _ _ hL _ hBs))
   go_ret2
   exact RetV.mk hL ⟨_, rfl, HL9.out⟩
end Go.Proofs.YtniigfikpfinfaaGreat

/- Contracts of pairingref27.SameFollows and pairingref25.IsInt. -/
namespace Go.Proofs.YtniigfikpfinfaaGreat
open Go.RowKit

theorem range_fol {m : World} {b off : Nat} {v0 v1 v2 v3 v4 v5 : Value} (h : m.rangeAt b off [v0, v1, v2, v3, v4, v5]) : m.rangeAt b (off + 2) [v2, v3, v4, v5] := fun j v hv => by
 have h1 := h (j + 2) v (by simpa using hv)
 rw [Nat.add_comm j 2, ← Nat.add_assoc] at h1
 exact h1
theorem r_IsInt (a : Value) (q : Rat) (w m : World) (hV : Vw m w) (ha : FracV m a q) (k : Fit 1000 q) :
  Calls Tryz.prog 53 #[a] w (RetV w m fun _ r => r = .bool (decide (q.den = 1))) := by
 obtain ⟨_, _, g1, A1, n1, c1, h1, B1, k1, d1, rfl, -, -, -⟩ := ha.lit
 obtain ⟨l1, l2⟩ := FracC.refl_len k
 have HE : Hid ((icmp (q.den : Int) 1 == 0) = decide (q.den = 1)) := by
  show _ = _
  by_cases h : q.den = 1
  ·rw [h]; rfl
  ·rw [decide_eq_false h]
   have h1 : ¬ (q.den : Int) = 1 := by omega
   unfold icmp
   split
   ·rfl
   ·rfl
 have hL := Loc.start hV
 clear hV
 go_enter Tryz.func53, Tryz.ntmps53
 go_wp2_with (first | go_skip | refine tP ?_ | (refine tB ?_; clear hL; intro _ _ hL _))
 refine (r_Canon _ q _ _ hL.vw (ha.le leX)).mono ?_
 rintro e W1 ⟨v1, m1, rfl, hE, hM1, hV, h1⟩
 replace hL := hL.call hE (by assumption) hV; clear hE hV
 obtain ⟨g1', A1', n1', c1', h1', B1', k1', d1', rfl, h1⟩ := h1.lit
 obtain ⟨a1, a2⟩ := h1.open_
 go_wp2_with (first | go_skip | refine tP ?_ | (refine tB ?_; clear hL; intro _ _ hL _))
 refine (c_FromInt64 1 _ _ hL.vw (by omega) (by omega)).mono ?_
 rintro e W2 ⟨v2, m2, rfl, hE, hM2, hV, h2⟩
 replace hL := hL.call hE (by assumption) hV; clear hE hV
 obtain ⟨g2, A2, n2, c2, rfl, h2⟩ := h2.lit
 have L1 : Hid ((digs (1 : Int).natAbs).length ≤ 1000) := Nat.le_trans (length_digs_le (k := 1) (by decide)) (by decide)
 go_wp2_with (first | go_skip | refine tP ?_ | (refine tB ?_; clear hL; intro _ _ hL _))
 refine (c_Compare _ _ (q.den : Int) 1 _ _ hL.vw ((a2.toV l2).le leX) ((h2.toV L1.out).le leX)).mono ?_
 rintro e W3 ⟨_, m3, rfl, hE, hM3, hV, rfl⟩
 replace hL := hL.call hE (by assumption) hV; clear hE hV
 generalize icmp (q.den : Int) 1 = s at *
 go_wp2_with (first | go_skip | refine tP ?_ | (refine tB ?_; clear hL; intro _ _ hL _))
 go_ret
 exact RetV.mk hL (by rw [← HE.out]; rfl)

theorem FracC.ofInt {m : World} {a b c d : Value} {z : Int} (h1 : IntC m (.agg #[a, b]) z) (h2 : IntC m (.agg #[c, d]) 1) : FracC m (.agg #[a, b, c, d]) (z : Rat) := ⟨_, _, _, _, rfl, by simpa using h1, by simpa using h2⟩
def OneF (m : World) (v : Value) : Prop := ∃ g A n c h B k d, v = .agg #[.bool g, .slice A n c, .bool h, .slice B k d] ∧ IntC m (.agg #[.bool g, .slice A n c]) 1
theorem OneF.le {m m' : World} {v : Value} (h : OneF m v) (hb : Le m m') : OneF m' v := by
 obtain ⟨g, A, n, c, h', B, k, d, e, h⟩ := h
 exact ⟨g, A, n, c, h', B, k, d, e, h.le hb⟩
end Go.Proofs.YtniigfikpfinfaaGreat

/- Contract of pairingref27.Choose. -/
namespace Go.Proofs.YtniigfikpfinfaaGreat
open Go.RowKit

def PickI (ys : List PQ) (k : Nat) (b : Int) : Prop :=
 (b = -1 ∧ (pickT ys k).f = 0 ∧ (pickT ys k).n = 0 ∧ (pickT ys k).s = false) ∨ (∃ (j : Nat) (y : PQ), b = j ∧ ys[j]? = some y ∧ (pickT ys k).f = y.1.1 ∧ (pickT ys k).n = y.1.2 ∧ (pickT ys k).s = true)
theorem PickI.same {ys : List PQ} {k : Nat} {b : Int} (h : PickI ys k b) (e : pickT ys (k + 1) = pickT ys k) : PickI ys (k + 1) b := by unfold PickI; rw [e]; exact h
theorem PickI.some {ys : List PQ} {k : Nat} {y : PQ} {r : Rat} (hy : ys[k]? = some y) (e : pickT ys (k + 1) = ⟨y.1.1, y.1.2, true, r⟩) : PickI ys (k + 1) k := .inr ⟨k, y, rfl, hy, by rw [e], by rw [e], by rw [e]⟩
theorem PickI.start (ys : List PQ) : PickI ys 0 (-1) := .inl ⟨rfl, rfl, rfl, rfl⟩

end Go.Proofs.YtniigfikpfinfaaGreat

/- The walk through the law BranchFollows. -/
namespace Go.Proofs.YtniigfikpfinfaaGreat
open Go.RowKit

theorem masF_few (l : List Int) : (masF l).cols.length ≤ 6 := by
 show ((List.range _).map _).length ≤ 6
 simp only [List.length_map, List.length_range]
 have h2 := atF_bd l 2 (by omega)
 omega
end Go.Proofs.YtniigfikpfinfaaGreat

/- Picking the cheapest column for each list of flights: the program's way and the reference's way give the same places. No program. -/
namespace Go.Proofs.YtniigfikpfinfaaGreat

section
variable (op : Nat → List Int) (co : Nat → Int) (pos : Nat → Bool)
def betC (k j : Nat) : Prop := co k < co j ∨ (co k = co j ∧ k < j)
instance (k j : Nat) : Decidable (betC co k j) := by unfold betC; infer_instance
def picT (out : List Nat) (i : Nat) : List Nat :=
 if pos i = true then
  if out.findIdx (fun j => decide (op i = op j)) = out.length then out ++ [i]
  else if co i < co (out.getD (out.findIdx (fun j => decide (op i = op j))) 0) then out.set (out.findIdx (fun j => decide (op i = op j))) i else out
 else out
def picF (n : Nat) : List Nat := (List.range n).foldl (picT op co pos) []
theorem picF_step (n : Nat) : picF op co pos (n + 1) = picT op co pos (picF op co pos n) n := by
 unfold picF; rw [List.range_succ, List.foldl_append]; rfl
def besC (n j : Nat) : Prop := ∀ k, k < n → pos k = true → op k = op j → ¬ betC co k j
structure PicOk (i : Nat) (out : List Nat) : Prop where
 low : ∀ j ∈ out, j < i ∧ pos j = true ∧ besC op co pos i j
 all : ∀ j, j < i → pos j = true → ∃ m ∈ out, op m = op j
 ne : out.Pairwise fun a b => op a ≠ op b
theorem betC_irr {k : Nat} : ¬ betC co k k := by unfold betC; omega
theorem betC_tri {k j : Nat} (h1 : ¬ betC co k j) (h2 : ¬ betC co j k) : k = j := by
 unfold betC at h1 h2; omega
theorem besC_more {i j : Nat} (h : besC op co pos i j) (hi : pos i = true → op i = op j → ¬ betC co i j) : besC op co pos (i + 1) j := by
 intro k hk hp he
 rcases Nat.lt_or_ge k i with h' | h'
 ·exact h k h' hp he
 ·obtain rfl : k = i := by omega
  exact hi hp he
theorem picT_len (out : List Nat) (i : Nat) : (picT op co pos out i).length ≤ out.length + 1 := by
 unfold picT
 split
 ·split
  ·simp
  ·split <;> simp
 ·omega
theorem picT_ok {i : Nat} {out : List Nat} (h : PicOk op co pos i out) : PicOk op co pos (i + 1) (picT op co pos out i) := by
 unfold picT
 by_cases hp : pos i = true
 ·rw [if_pos hp]
  by_cases hf : out.findIdx (fun j => decide (op i = op j)) = out.length
  ·rw [if_pos hf]
   have hno : ∀ j ∈ out, op i ≠ op j := fun j hj e => by
    have := (List.findIdx_lt_length (p := fun j => decide (op i = op j)) (xs := out)).2 ⟨j, hj, decide_eq_true e⟩
    omega
   refine ⟨fun j hj => ?_, fun j hj hpj => ?_, ?_⟩
   ·rcases List.mem_append.1 hj with hj | hj
    ·obtain ⟨a, b, c⟩ := h.low j hj
     exact ⟨by omega, b, besC_more op co pos c fun _ e => absurd e (hno j hj)⟩
    ·obtain rfl := List.mem_singleton.1 hj
     refine ⟨by omega, hp, fun k hk hpk e => ?_⟩
     rcases Nat.lt_or_ge k j with h' | h'
     ·obtain ⟨m, hm, e2⟩ := h.all k h' hpk
      exact absurd (e.symm.trans e2.symm) (hno m hm)
     ·obtain rfl : k = j := by omega
      exact betC_irr co
   ·rcases Nat.lt_or_ge j i with h' | h'
    ·obtain ⟨m, hm, e⟩ := h.all j h' hpj
     exact ⟨m, List.mem_append_left _ hm, e⟩
    ·obtain rfl : j = i := by omega
     exact ⟨j, by simp, rfl⟩
   ·rw [List.pairwise_append]
    refine ⟨h.ne, List.pairwise_singleton _ _, fun a ha b hb => ?_⟩
    obtain rfl := List.mem_singleton.1 hb
    exact fun e => hno a ha e.symm
  ·rw [if_neg hf]
   have hlt : out.findIdx (fun j => decide (op i = op j)) < out.length := by
    have := List.findIdx_le_length (p := fun j => decide (op i = op j)) (xs := out)
    omega
   have he : op i = op (out[out.findIdx (fun j => decide (op i = op j))]'hlt) := of_decide_eq_true (List.findIdx_getElem (w := hlt))
   generalize out.findIdx (fun j => decide (op i = op j)) = t at *
   rw [List.getD_eq_getElem?_getD, List.getElem?_eq_getElem hlt, Option.getD_some]
   have hmt : out[t] ∈ out := List.getElem_mem hlt
   obtain ⟨a1, a2, a3⟩ := h.low _ hmt
   have hpw := List.pairwise_iff_getElem.1 h.ne
   have huni : ∀ s (hs : s < out.length), s ≠ t → op out[s] ≠ op i := fun s hs hst e => by
    rcases Nat.lt_or_gt_of_ne hst with h' | h'
    ·exact hpw s t hs hlt h' (e.trans he)
    ·exact hpw t s hlt hs h' (he.symm.trans e.symm)
   by_cases hc : co i < co out[t]
   ·rw [if_pos hc]
    refine ⟨fun j hj => ?_, fun j hj hpj => ?_, ?_⟩
    ·obtain ⟨s, hs, rfl⟩ := List.getElem_of_mem hj
     rw [List.length_set] at hs
     by_cases hst : t = s
     ·subst hst
      rw [List.getElem_set_self]
      refine ⟨by omega, hp, fun k hk hpk e hb => ?_⟩
      rcases Nat.lt_or_ge k i with h' | h'
      ·refine a3 k h' hpk (e.trans he) ?_
       unfold betC at hb ⊢; omega
      ·obtain rfl : k = i := by omega
       exact betC_irr co hb
     ·rw [List.getElem_set_ne hst]
      obtain ⟨b1, b2, b3⟩ := h.low _ (List.getElem_mem hs)
      exact ⟨by omega, b2, besC_more op co pos b3 fun _ e => absurd e.symm (huni s hs (Ne.symm hst))⟩
    ·rcases Nat.lt_or_ge j i with h' | h'
     ·obtain ⟨m, hm, e⟩ := h.all j h' hpj
      obtain ⟨s, hs, rfl⟩ := List.getElem_of_mem hm
      by_cases hst : t = s
      ·subst hst
       exact ⟨i, List.mem_iff_getElem.2 ⟨t, by rw [List.length_set]; exact hlt, List.getElem_set_self _⟩, he.trans e⟩
      ·exact ⟨out[s], List.mem_iff_getElem.2 ⟨s, by rw [List.length_set]; exact hs, List.getElem_set_ne hst _⟩, e⟩
     ·obtain rfl : j = i := by omega
      exact ⟨j, List.mem_iff_getElem.2 ⟨t, by rw [List.length_set]; exact hlt, List.getElem_set_self _⟩, rfl⟩
    ·rw [List.pairwise_iff_getElem]
     intro a b ha hb hab
     rw [List.length_set] at ha hb
     by_cases hta : t = a
     ·subst hta
      rw [List.getElem_set_self, List.getElem_set_ne (by omega)]
      exact (huni b hb (by omega)).symm
     ·by_cases htb : t = b
      ·subst htb
       rw [List.getElem_set_ne hta, List.getElem_set_self]
       exact huni a ha (by omega)
      ·rw [List.getElem_set_ne hta, List.getElem_set_ne htb]
       exact hpw a b ha hb hab
   ·rw [if_neg hc]
    refine ⟨fun j hj => ?_, fun j hj hpj => ?_, h.ne⟩
    ·obtain ⟨b1, b2, b3⟩ := h.low j hj
     refine ⟨by omega, b2, besC_more op co pos b3 fun _ e hb => ?_⟩
     obtain ⟨s, hs, rfl⟩ := List.getElem_of_mem hj
     by_cases hst : s = t
     ·subst hst
      unfold betC at hb; omega
     ·exact huni s hs hst e.symm
    ·rcases Nat.lt_or_ge j i with h' | h'
     ·exact h.all j h' hpj
     ·obtain rfl : j = i := by omega
      exact ⟨out[t], hmt, he.symm⟩
 ·rw [if_neg hp]
  refine ⟨fun j hj => ?_, fun j hj hpj => ?_, h.ne⟩
  ·obtain ⟨b1, b2, b3⟩ := h.low j hj
   exact ⟨by omega, b2, besC_more op co pos b3 fun hpi => absurd hpi hp⟩
  ·rcases Nat.lt_or_ge j i with h' | h'
   ·exact h.all j h' hpj
   ·obtain rfl : j = i := by omega
    exact absurd hpj hp
theorem picF_ok : ∀ n, PicOk op co pos n (picF op co pos n)
 | 0 => ⟨(fun _ h => by cases h), (fun _ h => by omega), List.Pairwise.nil⟩
 | n + 1 => by rw [picF_step]; exact picT_ok op co pos (picF_ok n)
theorem picF_len : ∀ n, (picF op co pos n).length ≤ n
 | 0 => Nat.le_refl _
 | n + 1 => by
  rw [picF_step]
  have := picT_len op co pos (picF op co pos n) n
  have := picF_len n
  omega
theorem picF_mem {n j : Nat} : j ∈ picF op co pos n ↔ j < n ∧ pos j = true ∧ besC op co pos n j := by
 have h := picF_ok op co pos n
 constructor
 ·exact h.low j
 ·rintro ⟨a, b, c⟩
  obtain ⟨m, hm, e⟩ := h.all j a b
  obtain ⟨a', b', c'⟩ := h.low m hm
  have : m = j := betC_tri co (fun hb => c m a' b' e hb) (fun hb => c' j a b e.symm hb)
  rw [← this]; exact hm
theorem picF_nodup (n : Nat) : (picF op co pos n).Nodup := (picF_ok op co pos n).ne.imp fun {a b} h e => h (by rw [e])
end
theorem asc_same : ∀ {xs ys : List Nat}, xs.Pairwise (· < ·) → ys.Pairwise (· < ·) → (∀ x, x ∈ xs ↔ x ∈ ys) → xs = ys
 | [], [], _, _, _ => rfl
 | [], y :: ys, _, _, h => absurd ((h y).2 List.mem_cons_self) List.not_mem_nil
 | x :: xs, [], _, _, h => absurd ((h x).1 List.mem_cons_self) List.not_mem_nil
 | x :: xs, y :: ys, hx, hy, h => by
  obtain ⟨hx1, hx2⟩ := List.pairwise_cons.1 hx
  obtain ⟨hy1, hy2⟩ := List.pairwise_cons.1 hy
  have e : x = y := by
   rcases List.mem_cons.1 ((h x).1 List.mem_cons_self) with e | e
   ·exact e
   ·rcases List.mem_cons.1 ((h y).2 List.mem_cons_self) with e' | e'
    ·exact e'.symm
    ·have := hy1 x e; have := hx1 y e'; omega
  subst e
  rw [asc_same hx2 hy2 fun z => ?_]
  constructor
  ·intro hz
   rcases List.mem_cons.1 ((h z).1 (List.mem_cons_of_mem _ hz)) with e' | e'
   ·have := hx1 z hz; omega
   ·exact e'
  ·intro hz
   rcases List.mem_cons.1 ((h z).2 (List.mem_cons_of_mem _ hz)) with e' | e'
   ·have := hy1 z hz; omega
   ·exact e'
theorem pic_list (op : Nat → List Int) (co : Nat → Int) (pos keep : Nat → Bool) (n : Nat) {zs : List Nat} (hz : zs.Pairwise (· < ·)) (hp : zs.Perm ((picF op co pos n).filter keep)) :
  zs = (List.range n).filter fun j => pos j && decide (∀ k, k < n → pos k = true → op k = op j → ¬ betC co k j) && keep j := by
 refine asc_same hz (List.Pairwise.filter _ List.pairwise_lt_range) fun x => ?_
 rw [hp.mem_iff, List.mem_filter, picF_mem, List.mem_filter, List.mem_range]
 simp only [Bool.and_eq_true, decide_eq_true_eq]
 unfold besC
 constructor
 ·rintro ⟨⟨a, b, c⟩, d⟩; exact ⟨a, ⟨b, c⟩, d⟩
 ·rintro ⟨a, ⟨b, c⟩, d⟩; exact ⟨⟨a, b, c⟩, d⟩
end Go.Proofs.YtniigfikpfinfaaGreat

/- Round in plain words: the entries that the columns give, their sums, the error, and the columns that are listed. No program. -/
namespace Go.Proofs.YtniigfikpfinfaaGreat

abbrev IQ := Int × Rat
def sumI (S : List IQ) (p : Int) : Rat := (S.filter fun e => decide (e.1 = p)).foldl (fun s e => s + e.2) ((0 : Int) : Rat)
theorem sumI_same (S : List IQ) (p : Int) (x : Rat) : sumI (S ++ [(p, x)]) p = sumI S p + x := by
 unfold sumI; rw [List.filter_append, List.foldl_append]; simp
theorem sumI_other (S : List IQ) {p q : Int} (x : Rat) (h : q ≠ p) : sumI (S ++ [(q, x)]) p = sumI S p := by
 unfold sumI; rw [List.filter_append, List.foldl_append]; simp [h]
theorem sumI_none {S : List IQ} {p : Int} (h : ∀ e ∈ S, e.1 ≠ p) : sumI S p = ((0 : Int) : Rat) := by
 unfold sumI; rw [List.filter_eq_nil_iff.2 (by simpa using h)]; rfl

theorem sumI_map (op : List Int) (q : Rat) (r : Int) (hn : op.Nodup) : ∀ (S : List IQ), sumI (S ++ op.map fun f => (f, q)) r = if r ∈ op then sumI S r + q else sumI S r := by
 induction op with
 | nil => intro S; simp
 | cons f op ih =>
  intro S
  obtain ⟨h1, h2⟩ := List.nodup_cons.1 hn
  have e : S ++ (f :: op).map (fun f => (f, q)) = (S ++ [(f, q)]) ++ op.map fun f => (f, q) := by simp
  rw [e, ih h2]
  by_cases hr : r = f
  ·subst hr
   rw [if_neg h1, if_pos List.mem_cons_self, sumI_same]
  ·have hm : r ∈ f :: op ↔ r ∈ op := by simp [hr]
   rw [sumI_other S q (fun h => hr h.symm)]
   by_cases h : r ∈ op
   ·rw [if_pos h, if_pos (hm.2 h)]
   ·rw [if_neg h, if_neg (fun h' => h (hm.1 h'))]
def entI (cols : List Col) (vs : List Rat) (k : Nat) : List IQ := ((cols.zip vs).take k).flatMap fun e => (opF e.1.2.1).map fun f => (f, e.2)
theorem entI_step {cols : List Col} {vs : List Rat} {k : Nat} {c : Col} {x : Rat} (hc : cols[k]? = some c) (hx : vs[k]? = some x) : entI cols vs k ++ ((opF c.2.1).map fun f => (f, x)) = entI cols vs (k + 1) := by
 unfold entI
 have : (cols.zip vs)[k]? = some (c, x) := List.getElem?_zip_eq_some.2 ⟨hc, hx⟩
 rw [List.take_add_one, this]; simp
def sumR (cols : List Col) (vs : List Rat) (r : Int) (k : Nat) : Rat := ((cols.zip vs).take k).foldl (fun s e => if r ∈ opF e.1.2.1 then s + e.2 else s) ((0 : Int) : Rat)
theorem sumR_step {cols : List Col} {vs : List Rat} {r : Int} {k : Nat} {c : Col} {x : Rat} (hc : cols[k]? = some c) (hx : vs[k]? = some x) : sumR cols vs r (k + 1) = if r ∈ opF c.2.1 then sumR cols vs r k + x else sumR cols vs r k := by
 unfold sumR
 have : (cols.zip vs)[k]? = some (c, x) := List.getElem?_zip_eq_some.2 ⟨hc, hx⟩
 rw [List.take_add_one, this, Option.toList_some, List.foldl_append]; rfl
theorem sum_one (cols : List Col) (vs : List Rat) (r : Int) (hn : ∀ c ∈ cols, (opF c.2.1).Nodup) : ∀ k, sumI (entI cols vs k) r = sumR cols vs r k
 | 0 => rfl
 | k + 1 => by
  cases hz : (cols.zip vs)[k]? with
  | none =>
   have h := List.getElem?_eq_none_iff.1 hz
   have e1 : entI cols vs (k + 1) = entI cols vs k := by unfold entI; rw [List.take_of_length_le (by omega), List.take_of_length_le h]
   have e2 : sumR cols vs r (k + 1) = sumR cols vs r k := by unfold sumR; rw [List.take_of_length_le (by omega), List.take_of_length_le h]
   rw [e1, e2]; exact sum_one cols vs r hn k
  | some e =>
   obtain ⟨hc, hx⟩ := List.getElem?_zip_eq_some.1 hz
   rw [← entI_step hc hx, sumR_step hc hx, sumI_map _ _ _ (hn _ (List.mem_of_getElem? hc)), sum_one cols vs r hn k]
def rndE (ms : Ms) (us : List Rat) : Int :=
 if ∃ u ∈ us, u < 0 then 5
 else if ∃ r ∈ ms.rows, ((1 : Int) : Rat) < sumR ms.cols us r ms.cols.length then 5
 else if ∃ y ∈ flY (entS ms.cols us ms.cols.length) ms.rows ms.rows, y.2.den ≠ 1 then 16
 else 0
def opJ (ms : Ms) (j : Nat) : List Int := match ms.cols[j]? with | some c => opF c.2.1 | none => []
def coJ (ms : Ms) (j : Nat) : Int := match ms.cols[j]? with | some c => c.2.2 | none => 0
def posJ (us : List Rat) (j : Nat) : Bool := match us[j]? with | some u => decide (0 < u) | none => false
def keepJ (ms : Ms) (j : Nat) : Bool := !(decide ((opJ ms j).length = 1) && decide (ms.pen ≤ coJ ms j))
def rndL (ms : Ms) (us : List Rat) : List Nat :=
 (List.range ms.cols.length).filter fun j => posJ us j && decide (∀ k, k < ms.cols.length → posJ us k = true → opJ ms k = opJ ms j → ¬ betC (coJ ms) k j) && keepJ ms j
end Go.Proofs.YtniigfikpfinfaaGreat

/- What the loops of Round build, step by step. No program. -/
namespace Go.Proofs.YtniigfikpfinfaaGreat

def bstT (ms : Ms) (us : List Rat) (j k : Nat) : Bool := (List.range k).foldl (fun s i => if posJ us i = true ∧ opJ ms j = opJ ms i ∧ betC (coJ ms) i j then false else s) true
theorem bstT_step (ms : Ms) (us : List Rat) (j k : Nat) : bstT ms us j (k + 1) = if posJ us k = true ∧ opJ ms j = opJ ms k ∧ betC (coJ ms) k j then false else bstT ms us j k := by
 unfold bstT; rw [List.range_succ, List.foldl_append]; rfl
theorem bstT_is (ms : Ms) (us : List Rat) (j : Nat) : ∀ k, bstT ms us j k = decide (∀ i, i < k → posJ us i = true → opJ ms i = opJ ms j → ¬ betC (coJ ms) i j)
 | 0 => by
  rw [decide_eq_true (fun i hi => by omega)]; rfl
 | k + 1 => by
  rw [bstT_step, bstT_is ms us j k]
  by_cases h : posJ us k = true ∧ opJ ms j = opJ ms k ∧ betC (coJ ms) k j
  ·rw [if_pos h, decide_eq_false fun h' => h' k (by omega) h.1 h.2.1.symm h.2.2]
  ·rw [if_neg h, decide_eq_decide]
   constructor
   ·intro h1 i hi hp he
    rcases Nat.lt_or_ge i k with h' | h'
    ·exact h1 i h' hp he
    ·obtain rfl : i = k := by omega
     exact fun hb => h ⟨hp, he.symm, hb⟩
   ·exact fun h1 i hi => h1 i (by omega)
def rndT (ms : Ms) (us : List Rat) (k : Nat) : List Nat := (List.range k).filter fun j => posJ us j && bstT ms us j ms.cols.length && keepJ ms j
theorem rndT_step (ms : Ms) (us : List Rat) (k : Nat) : rndT ms us (k + 1) = rndT ms us k ++ if (posJ us k && bstT ms us k ms.cols.length && keepJ ms k) = true then [k] else [] := by
 unfold rndT
 rw [List.range_succ, List.filter_append]
 congr 1
 by_cases h : (posJ us k && bstT ms us k ms.cols.length && keepJ ms k) = true
 ·rw [if_pos h]; simp [List.filter_cons, h]
 ·rw [if_neg h]; simp only [List.filter_cons, List.filter_nil]; rw [if_neg h]
theorem rndT_all (ms : Ms) (us : List Rat) : rndT ms us ms.cols.length = rndL ms us := by
 unfold rndT rndL
 congr 1
 funext j
 rw [bstT_is]
theorem rndT_len (ms : Ms) (us : List Rat) (k : Nat) : (rndT ms us k).length ≤ k := by
 unfold rndT
 have := List.length_filter_le (fun j => posJ us j && bstT ms us j ms.cols.length && keepJ ms j) (List.range k)
 rw [List.length_range] at this
 exact this
def pckT (ms : Ms) (us : List Rat) (k : Nat) : List Nat := picF (opJ ms) (coJ ms) (posJ us) k
theorem pck_list (ms : Ms) (us : List Rat) {zs : List Nat} (hz : zs.Pairwise (· < ·)) (hp : zs.Perm ((pckT ms us ms.cols.length).filter (keepJ ms))) : zs = rndL ms us := by
 rw [pic_list (opJ ms) (coJ ms) (posJ us) (keepJ ms) ms.cols.length hz hp]; rfl
theorem keepJ_is {ms : Ms} {j : Nat} (hp : 0 < (opJ ms j).length) : keepJ ms j = (decide (1 < (opJ ms j).length) || decide (coJ ms j < ms.pen)) := by
 unfold keepJ
 by_cases h1 : (opJ ms j).length = 1
 ·rw [decide_eq_true h1, decide_eq_false (by omega : ¬ 1 < (opJ ms j).length), Bool.true_and, Bool.false_or]
  by_cases h2 : ms.pen ≤ coJ ms j
  ·rw [decide_eq_true h2, decide_eq_false (by omega)]; rfl
  ·rw [decide_eq_false h2, decide_eq_true (by omega)]; rfl
 ·rw [decide_eq_false h1, decide_eq_true (by omega : 1 < (opJ ms j).length)]; rfl
end Go.Proofs.YtniigfikpfinfaaGreat

/- Rows that append built: an element is read, written, cut off; 'clear'. (The cuts' texts AE2, AE5, AE6, AL1 hold the same.) -/
namespace Go.Proofs.YtniigfikpfinfaaGreat
open Go.RowKit

theorem RowA.block {α : Type} {e : TypeId} {size : Nat} {R : World → Value → α → Prop} {m : World} {v : Value} {n : Nat} {xs : List α} {Rr : List Lo} (h : RowA e size R m v n xs Rr) (hn : 0 < n) :
  ∃ g cap cur, v = .slice (some ⟨g, 0, none⟩) n cap ∧ Rr = [(g, e, cur)] ∧ n ≤ cap ∧ cur.size = cap * size := by
 obtain ⟨vs, ⟨h0, h1⟩, h2, h3, h4⟩ := h
 rcases h1 with ⟨-, h1, -⟩ | ⟨g, cap, cur, e1, e2, h5, -, h6, -⟩
 ·omega
 ·exact ⟨g, cap, cur, e1, e2, h5, h6⟩
theorem RowA.at_ {α : Type} {e : TypeId} {size : Nat} {R : World → Value → α → Prop} {m : World} {v : Value} {n g : Nat} {cur : Array Value} {xs : List α} (h : RowA e size R m v n xs [(g, e, cur)]) {k : Nat} {x : α} (hk : xs[k]? = some x) :
  ∃ u, R m u x ∧ u.cells.size = size ∧ ∀ j, j < size → cur[0 + k * size + j]? = u.cells[j]? := by
 obtain ⟨vs, ⟨h0, h1⟩, h2, h3, h4⟩ := h
 obtain ⟨u, hu, hR⟩ := h3.at_ hk
 refine ⟨u, hR, h2 u (List.mem_of_getElem? hu), fun j hj => ?_⟩
 have hc := cellsOf_at h2 hu j hj
 rcases h1 with ⟨-, -, h1⟩ | ⟨g', cap, cur', e1, e2, h5, -, h6, h7⟩
 ·cases h1
 ·cases e2
  rw [← h7, List.getElem?_take] at hc
  have hkn : k < n := by rw [← h4]; exact (List.getElem?_eq_some_iff.1 hu).1
  have hlt : k * size + j < n * size := by
   have : (k + 1) * size ≤ n * size := Nat.mul_le_mul_right _ hkn
   rw [Nat.succ_mul] at this; omega
  rw [if_pos hlt, Array.getElem?_toList] at hc
  rw [Nat.zero_add, hc, Array.getElem?_toList]
theorem RowA.put {α : Type} {e : TypeId} {size : Nat} {R : World → Value → α → Prop} {m : World} {v : Value} {n g : Nat} {cur : Array Value} {xs : List α} (h : RowA e size R m v n xs [(g, e, cur)]) {k o : Nat} {x : α} {ws cs : List Value} (hk : k < xs.length) (ho : o + ws.length ≤ size)
  (hcs : cs.length = size) (hc : ∀ j, j < size → cs[j]? = if o ≤ j ∧ j < o + ws.length then ws[j - o]? else cur[0 + k * size + j]?) (hR : R m (.agg cs.toArray) x) :
  RowA e size R m v n (xs.set k x) [(g, e, splice cur (k * size + o) ws)] := by
 obtain ⟨vs, ⟨h0, h1⟩, h2, h3, h4⟩ := h
 have hl := h3.length
 have hkn : k < n := by omega
 have hle : (k + 1) * size ≤ n * size := Nat.mul_le_mul_right _ hkn
 rw [Nat.succ_mul] at hle
 rcases h1 with ⟨-, h1, -⟩ | ⟨g', cap, cur', e1, e2, h5, h5', h6, h7⟩
 ·omega
 ·cases e2
  have hcap : n * size ≤ cap * size := Nat.mul_le_mul_right _ h5
  have hset : ∀ j, (cellsOf (vs.set k (.agg cs.toArray)))[j]? = if k * size ≤ j ∧ j < k * size + size then cs[j - k * size]? else (cellsOf vs)[j]? := cellsOf_set h2 hcs (by omega)
  refine ⟨vs.set k (.agg cs.toArray), ⟨?_, .inr ⟨g, cap, _, e1, rfl, h5, h5', by rw [splice_size]; exact h6, ?_⟩⟩, ?_, h3.set hR, by simpa using h4⟩
  ·have h8 := cellsOf_length (vs := vs.set k (.agg cs.toArray)) (size := size) (by
    intro u hu
    rcases List.mem_or_eq_of_mem_set hu with hu | rfl
    ·exact h2 u hu
    ·simpa [Value.cells] using hcs)
   rw [h8]; simp [h4]
  ·apply List.ext_getElem?
   intro j
   rw [List.getElem?_take, Array.getElem?_toList, splice_at ws _ _ (by rw [h6]; omega), hset, ← h7]
   by_cases hj : j < n * size
   ·rw [if_pos hj, List.getElem?_take, if_pos hj, Array.getElem?_toList]
    by_cases h9 : k * size ≤ j ∧ j < k * size + size
    ·rw [if_pos h9, hc _ (by omega)]
     by_cases h10 : k * size + o ≤ j ∧ j < k * size + o + ws.length
     ·rw [if_pos h10, if_pos (by omega), show j - (k * size + o) = j - k * size - o by omega]; simp
     ·rw [if_neg h10, if_neg (by omega), show 0 + k * size + (j - k * size) = j by omega]
    ·rw [if_neg h9, if_neg (by omega)]; simp
   ·rw [if_neg hj, if_neg (by omega), List.getElem?_take, if_neg hj]
  ·intro u hu
   rcases List.mem_or_eq_of_mem_set hu with hu | rfl
   ·exact h2 u hu
   ·simpa [Value.cells] using hcs
theorem RowA.fit {α : Type} {e : TypeId} {size : Nat} {R : World → Value → α → Prop} {m : World} {v : Value} {n g : Nat} {cur : Array Value} {xs : List α} (h : RowA e size R m v n xs [(g, e, cur)]) : n * size ≤ cur.size := by
 obtain ⟨vs, ⟨h0, h1⟩, h2, h3, h4⟩ := h
 rcases h1 with ⟨-, -, h1⟩ | ⟨g', cap, cur', e1, e2, h5, -, h6, h7⟩
 ·cases h1
 ·cases e2
  rw [h6]; exact Nat.mul_le_mul_right _ h5
theorem RowA.capd {α : Type} {e : TypeId} {size : Nat} {R : World → Value → α → Prop} {m : World} {n g cap : Nat} {cur : Array Value} {xs : List α} (h : RowA e size R m (.slice (some ⟨g, 0, none⟩) n cap) n xs [(g, e, cur)]) : n ≤ cap ∧ cur.size = cap * size := by
 obtain ⟨vs, ⟨h0, h1⟩, h2, h3, h4⟩ := h
 rcases h1 with ⟨h1, -, -⟩ | ⟨g', cap', cur', e1, e2, h5, -, h6, h7⟩
 ·cases h1
 ·cases e2; cases e1
  exact ⟨h5, h6⟩
theorem RowA.putW {α : Type} {e : TypeId} {size : Nat} {R : World → Value → α → Prop} {m : World} {v : Value} {n g : Nat} {cur : Array Value} {xs : List α} (h : RowA e size R m v n xs [(g, e, cur)]) {k : Nat} {x : α} {ws : List Value} (hk : k < xs.length) (hw : ws.length = size) (hR : R m (.agg ws.toArray) x) :
  RowA e size R m v n (xs.set k x) [(g, e, splice cur (0 + k * size) ws)] := by
 have h1 := RowA.put (o := 0) (ws := ws) h hk (by omega) hw (fun j hj => by rw [if_pos (by omega), Nat.sub_zero]) hR
 rwa [Nat.add_zero, ← Nat.zero_add (k * size)] at h1
theorem All2.takes {α : Type} {R : Value → α → Prop} : ∀ {vs : List Value} {xs : List α}, All2 R vs xs → ∀ i, All2 R (vs.take i) (xs.take i)
 | _, _, _, 0 => by simp [All2]
 | [], [], _, _ + 1 => trivial
 | v :: vs, x :: xs, h, i + 1 => ⟨h.1, All2.takes h.2 i⟩
 | [], _ :: _, h, _ + 1 => h.elim
 | _ :: _, [], h, _ + 1 => h.elim
theorem RowA.cut {α : Type} {e : TypeId} {size : Nat} {R : World → Value → α → Prop} {m : World} {n g cap i : Nat} {cur cur2 : Array Value} {xs : List α} (h : RowA e size R m (.slice (some ⟨g, 0, none⟩) n cap) n xs [(g, e, cur)]) (hi : i ≤ n) (hs : cur2.size = cur.size) (ha : ∀ j, j < i * size → cur2[j]? = cur[j]?) :
  RowA e size R m (.slice (some ⟨g, 0, none⟩) i cap) i (xs.take i) [(g, e, cur2)] := by
 obtain ⟨vs, ⟨h0, h1⟩, h2, h3, h4⟩ := h
 rcases h1 with ⟨h1, -, -⟩ | ⟨g', cap', cur', e1, e2, h5, h5', h6, h7⟩
 ·cases h1
 ·cases e2; cases e1
  have h8 : ∀ u ∈ vs.take i, u.cells.size = size := fun u hu => h2 u (List.mem_of_mem_take hu)
  have h9 := cellsOf_length h8
  have h10 : (vs.take i).length = i := by rw [List.length_take]; omega
  rw [h10] at h9
  have h11 : (cellsOf vs).take (i * size) = cellsOf (vs.take i) := by
   conv => lhs; rw [← List.take_append_drop i vs, cellsOf_append]
   rw [List.take_left' h9]
  refine ⟨vs.take i, ⟨h9, .inr ⟨g, cap, cur2, rfl, rfl, by omega, h5', by rw [hs]; exact h6, ?_⟩⟩, h8, h3.takes i, h10⟩
  rw [← h11, ← h7, List.take_take]
  have hle : i * size ≤ n * size := Nat.mul_le_mul_right _ hi
  rw [Nat.min_eq_left hle]
  apply List.ext_getElem?
  intro j
  rw [List.getElem?_take, List.getElem?_take, Array.getElem?_toList, Array.getElem?_toList]
  by_cases hj : j < i * size
  ·rw [if_pos hj, if_pos hj, ha j hj]
  ·rw [if_neg hj, if_neg hj]
theorem zero_len (zs : Array Value) (n : Nat) : (Builtin.zeroCells zs n).toList.length = n * zs.size := by simp [Builtin.zeroCells]
theorem zero_one (zs : Array Value) (n : Nat) (h1 : zs.toList.all (·.oneCell') = true) : ∀ v ∈ (Builtin.zeroCells zs n).toList, v.oneCell' = true := by
 intro v hv
 simp only [Builtin.zeroCells, Array.toList_map, List.mem_map] at hv
 obtain ⟨j, hj, rfl⟩ := hv
 have hlt : j < n * zs.size := by simpa using hj
 have hz : 0 < zs.size := by
  rcases Nat.eq_zero_or_pos zs.size with h | h
  ·rw [h] at hlt; simp at hlt
  ·exact h
 have hm : j % zs.size < zs.size := Nat.mod_lt _ hz
 rw [getElem!_pos zs _ hm]
 exact List.all_eq_true.1 h1 _ (by simp)
theorem run_clearB {P : Program} {W : World} {g off n c : Nat} {t e ts : TypeId} {cs zs : Array Value} (hb : Blk W g t cs) (hn : 0 < n) (ht : P.underlying ts = some (.slice e)) (hz : zc P e = some zs) (h1 : zs.toList.all (·.oneCell') = true) (hfit : off + n * zs.size ≤ cs.size) (ty : TypeId) :
  (Builtin.clear_ #[ts] ty #[.slice (some ⟨g, off, none⟩) n c]).run P W = .ok (.tuple #[]) (W.setCells g off (Builtin.zeroCells zs n).toList) := by
 obtain ⟨z, hzc, hv⟩ := run_zero (P := P) hz W
 have hl := zero_len zs n
 have hst := run_storeCells_cells (P := P) g off (Builtin.zeroCells zs n).toList 0 W (fun j hj => by rw [hb.cell]; simp; omega) (fun j hj => hb.frozen _) (zero_one zs n h1)
 simp only [Nat.add_zero] at hst
 obtain ⟨k, rfl⟩ : ∃ k, n = k + 1 := ⟨n - 1, by omega⟩
 subst hzc
 simp [Builtin.clear_, run_underlying ht, hv, hst]
theorem still_setCells {W : World} {g off : Nat} {t : TypeId} {cs : Array Value} (hb : Blk W g t cs) (vs : List Value) : Still W (W.setCells g off vs) := fun b o ho hn => by
 by_cases e : b = g
 ·subst e
  unfold Blk at hb
  rw [hb] at ho
  cases ho
  exact absurd rfl (hn _ _ _)
 ·exact (heap_setCells_other g vs off W b e).trans ho
section
variable {P : Program} {ops : Array Oper} {Q : Exit → Act → World → Prop} {rest : List Oper} {o : Oper} {a : Act} {w0 m0 W m : World} {Ls : List Lo}
theorem wl_storeS (hL : Loc w0 m0 W m Ls) (hw : Region.wanted o (yielded ops a.tmps) = true) {ty : TypeId} {x y : Operand} (ho : o.op = .store ty x y) {g off : Nat} (hx : a.eval x = .pointer (some ⟨g, off, none⟩)) {vs : List Value}
  (hy : a.eval y = .agg vs.toArray) {k : Nat} (hty : agS P ty = some k) (hk : vs.length = k) {n : Nat} {t : TypeId} {cs : Array Value} (hn : Ls[n]? = some (g, t, cs)) (hfit : off + k ≤ cs.size) (h1 : vs.all (·.oneCell') = true)
  (h : ∀ W', Loc w0 m0 W' m (Ls.set n (g, t, splice cs off vs)) → Still W W' → wpList P ops Q rest (a.put o.dst undef) W') : wpList P ops Q (o :: rest) a W :=
 wpList_wanted hw fun _ hK => op_store ho hx hy (hk ▸ hty) (hL.at_ hn) (by rw [hk]; exact hfit) h1 (hK _ _ (h _ (hL.store hn off vs) (still_setCells (hL.at_ hn) vs)))
end
theorem stS {P : Program} {ops : Array Oper} {Q : Exit → Act → World → Prop} {rest : List Oper} {a : Act} {W : World} {d : Option Tmp} {ty t : TypeId} {pos : String} {af : Array Edge} {gd : Option (Nat × Bool)} {p q : Operand}
  (h : Hid (wpList P ops Q (⟨d, .store t p q, ty, pos, af, gd⟩ :: rest) a W)) : wpList P ops Q (⟨d, .store t p q, ty, pos, af, gd⟩ :: rest) a W := h
def natL (s : List Nat) : List Int := s.map fun (i : Nat) => (i : Int)
theorem natL_len (s : List Nat) : (natL s).length = s.length := by simp [natL]
theorem natL_at {s : List Nat} {i x : Nat} (h : s[i]? = some x) : (natL s)[i]? = some (x : Int) := by simp [natL, h]
theorem natL_set {s : List Nat} {i x : Nat} : (natL s).set i (x : Int) = natL (s.set i x) := by simp [natL, List.map_set]
theorem zc_I : zc Tryz.prog 3 = some #[.int .i64 0] := by kernel_rfl
theorem lb_int : lfB Tryz.prog 3 = true := by kernel_rfl
theorem row_int {m : World} {v : Value} {n g : Nat} {cur : Array Value} {xs : List Int} (h : RowA 3 1 IsI m v n xs [(g, 3, cur)]) {k : Nat} {x : Int} (hk : xs[k]? = some x) : cur[0 + k]? = some (.int .i64 x) := by
 obtain ⟨u, hu, -, hr⟩ := h.at_ hk
 have h0 := hr 0 (by omega)
 have hu' : u = .int .i64 x := hu
 rw [hu', Nat.mul_one, Nat.add_zero] at h0
 rw [h0]; rfl
theorem RowA.putI {m : World} {v : Value} {n g k : Nat} {cur : Array Value} {xs : List Int} {x : Int} (h : RowA 3 1 IsI m v n xs [(g, 3, cur)]) : RowA 3 1 IsI m v n (xs.set k x) [(g, 3, splice cur (0 + k) [.int .i64 x])] := by
 obtain ⟨vs, ⟨h0, h1⟩, h2, h3, h4⟩ := h
 have hvs := all2_ints h3
 subst hvs
 rcases h1 with ⟨-, -, h1⟩ | ⟨g', cap, cur', e1, e2, h5, h5', h6, h7⟩
 ·cases h1
 ·cases e2
  refine ⟨(xs.set k x).map I64, ⟨?_, .inr ⟨g, cap, _, e1, rfl, h5, h5', by rw [splice_size]; exact h6, ?_⟩⟩, fun u hu => by obtain ⟨y, -, rfl⟩ := List.mem_map.1 hu; rfl, all2_of_ints m _, ?_⟩
  ·rw [cellsOf_ints, List.length_map] at h0 ⊢
   rw [List.length_set]; exact h0
  ·simp only [splice]
   rw [Array.toList_setIfInBounds, List.take_set, h7, cellsOf_ints, cellsOf_ints, Nat.zero_add, List.map_set]; rfl
  ·rw [List.length_map] at h4 ⊢
   rw [List.length_set]; exact h4
end Go.Proofs.YtniigfikpfinfaaGreat

/- What a callee that only reads leaves of the hidden blocks; loads of numbers from a hidden row. -/
namespace Go.Proofs.YtniigfikpfinfaaGreat
open Go.RowKit

theorem Loc.again {w0 m0 W m W' : World} {Ls : List Lo} (h : Loc w0 m0 W m Ls) (hE : Ext W W') : Loc w0 m0 W' (hidTo m W'.heap.size) Ls := by
 have hs : m.heap.size ≤ W'.heap.size := by rw [h.vw.size]; exact hE.size
 refine ⟨h.size0, h.ext.trans hE, h.mext.trans (hidTo_ext hs), ⟨h.vw.os.trans hE.os.symm, h.vw.tape.trans hE.tape.symm, h.vw.output.trans hE.output.symm, hidTo_size hs, fun a u hu => ?_⟩, h.low, fun x hx => ?_, fun x hx a ha => ?_, h.apart⟩
 ·rcases Nat.lt_or_ge a.block m.heap.size with hlt | hlt
  ·rw [cell_of_heap (hidTo_old hlt)] at hu
   exact hE.le.cell _ _ (h.vw.cell _ _ hu)
  ·rw [hidTo_new hlt] at hu; cases hu
 ·exact (h.blk x hx).ext hE
 ·have hlt : a.block < m.heap.size := by rw [ha, h.vw.size]; exact (h.blk x hx).lt
  rw [cell_of_heap (hidTo_old hlt)]
  exact h.hid x hx a ha
theorem Loc.again_ext {w0 m0 W m W' : World} {Ls : List Lo} (h : Loc w0 m0 W m Ls) (hE : Ext W W') : Ext m (hidTo m W'.heap.size) := hidTo_ext (by rw [h.vw.size]; exact hE.size)
end Go.Proofs.YtniigfikpfinfaaGreat

/- Searching, striking and sorting a row of numbers, step by step. No program. -/
namespace Go.Proofs.YtniigfikpfinfaaGreat

theorem find_true {P : Nat → Bool} {xs : List Nat} {k x : Nat} (hk : xs[k]? = some x) (h : k ≤ xs.findIdx P) (hp : P x = true) : xs.findIdx P = k := by
 obtain ⟨hlt, rfl⟩ := List.getElem?_eq_some_iff.1 hk
 rcases Nat.lt_or_ge k (xs.findIdx P) with h1 | h1
 ·have := List.not_of_lt_findIdx h1
  rw [hp] at this; simp at this
 ·omega
theorem find_false {P : Nat → Bool} {xs : List Nat} {k x : Nat} (hk : xs[k]? = some x) (h : k ≤ xs.findIdx P) (hp : P x = false) : k + 1 ≤ xs.findIdx P := by
 obtain ⟨hlt, rfl⟩ := List.getElem?_eq_some_iff.1 hk
 rcases Nat.lt_or_ge k (xs.findIdx P) with h1 | h1
 ·exact h1
 ·have e : xs.findIdx P = k := by omega
  have hl : xs.findIdx P < xs.length := by omega
  have h2 := List.findIdx_getElem (w := hl)
  simp only [e] at h2
  rw [hp] at h2; cases h2
def idxZ (P : Nat → Bool) (xs : List Nat) : Int := if xs.findIdx P < xs.length then (xs.findIdx P : Int) else -1
theorem find_le (P : Nat → Bool) (xs : List Nat) : xs.findIdx P ≤ xs.length := List.findIdx_le_length
theorem find_at {P : Nat → Bool} {xs : List Nat} (h : xs.findIdx P < xs.length) : P xs[xs.findIdx P] = true := List.findIdx_getElem (w := h)

structure DelI (P : Nat → Bool) (xs ys : List Nat) (i j : Nat) : Prop where
 len : ys.length = xs.length
 lt : i < j
 le : j ≤ xs.length
 tk : ys.take i = (xs.take j).filter fun x => !P x
 dr : ∀ k, j ≤ k → ys[k]? = xs[k]?
theorem DelI.start {P : Nat → Bool} {xs : List Nat} (h : xs.findIdx P < xs.length) : DelI P xs xs (xs.findIdx P) (xs.findIdx P + 1) := by
 refine ⟨rfl, by omega, h, ?_, fun _ _ => rfl⟩
 have h1 := find_at h
 have h2 : ∀ x ∈ xs.take (xs.findIdx P), P x = false := fun x hx => by
  obtain ⟨k, hk, rfl⟩ := List.getElem_of_mem hx
  rw [List.length_take] at hk
  rw [List.getElem_take]
  have := List.not_of_lt_findIdx (p := P) (xs := xs) (i := k) (by omega)
  simpa using this
 rw [List.take_add_one, List.getElem?_eq_getElem h, Option.toList_some, List.filter_append, List.filter_eq_self.2 fun x hx => by rw [h2 x hx]; rfl]
 simp [h1]
theorem DelI.skip {P : Nat → Bool} {xs ys : List Nat} {i j x : Nat} (h : DelI P xs ys i j) (hx : xs[j]? = some x) (hp : P x = true) : DelI P xs ys i (j + 1) := by
 obtain ⟨a, b, c, d, e⟩ := h
 have hlt := (List.getElem?_eq_some_iff.1 hx).1
 refine ⟨a, by omega, hlt, ?_, fun k hk => e k (by omega)⟩
 rw [d, List.take_add_one, hx, Option.toList_some, List.filter_append]
 simp [hp]
theorem DelI.keep {P : Nat → Bool} {xs ys : List Nat} {i j x : Nat} (h : DelI P xs ys i j) (hx : xs[j]? = some x) (hp : P x = false) : DelI P xs (ys.set i x) (i + 1) (j + 1) := by
 obtain ⟨a, b, c, d, e⟩ := h
 have hlt := (List.getElem?_eq_some_iff.1 hx).1
 refine ⟨by simpa using a, by omega, hlt, ?_, fun k hk => ?_⟩
 ·have hi : i < (ys.set i x).length := by rw [List.length_set]; omega
  rw [List.take_add_one, List.getElem?_eq_getElem hi, List.getElem_set_self, List.take_set_of_le (Nat.le_refl i), d, List.take_add_one, hx, Option.toList_some, List.filter_append]
  simp [hp]
 ·rw [List.getElem?_set_ne (by omega), e k (by omega)]
theorem DelI.at_ {P : Nat → Bool} {xs ys : List Nat} {i j x : Nat} (h : DelI P xs ys i j) (hx : xs[j]? = some x) : ys[j]? = some x := (h.dr j (Nat.le_refl _)).trans hx
theorem DelI.done {P : Nat → Bool} {xs ys : List Nat} {i : Nat} (h : DelI P xs ys i xs.length) : ys.take i = xs.filter fun x => !P x := by rw [h.tk, List.take_length]
theorem del_none {P : Nat → Bool} {xs : List Nat} (h : xs.findIdx P = xs.length) : (xs.filter fun x => !P x) = xs := by
 refine List.filter_eq_self.2 fun x hx => ?_
 obtain ⟨k, hk, rfl⟩ := List.getElem_of_mem hx
 have := List.not_of_lt_findIdx (p := P) (xs := xs) (i := k) (by omega)
 simpa using this

def SortI (ys : List Nat) (i : Nat) : Prop := ∀ p q, p < q → q < i → ys.getD p 0 ≤ ys.getD q 0
def MidI (ys : List Nat) (i j : Nat) : Prop := ∀ p q, p < q → q ≤ i → q ≠ j → ys.getD p 0 ≤ ys.getD q 0
theorem SortI.one (ys : List Nat) : SortI ys 1 := fun p q h1 h2 => by omega
theorem MidI.start {ys : List Nat} {i : Nat} (h : SortI ys i) : MidI ys i i := fun p q hp hq hne => h p q hp (by omega)
theorem MidI.stop0 {ys : List Nat} {i : Nat} (h : MidI ys i 0) : SortI ys (i + 1) := fun p q hp hq => h p q hp (by omega) (by omega)
theorem getD_at {ys : List Nat} {k a : Nat} (h : ys[k]? = some a) : ys.getD k 0 = a := by rw [List.getD_eq_getElem?_getD, h]; rfl
theorem MidI.stop {ys : List Nat} {i j a b : Nat} (h : MidI ys i (j + 1)) (ha : ys[j + 1]? = some a) (hb : ys[j]? = some b) (hle : ¬ a < b) : SortI ys (i + 1) := by
 intro p q hp hq
 by_cases hqj : q = j + 1
 ·subst hqj
  rw [getD_at ha]
  by_cases hpj : p = j
  ·subst hpj; rw [getD_at hb]; omega
  ·have := h p j (by omega) (by omega) (by omega)
   rw [getD_at hb] at this
   omega
 ·exact h p q hp (by omega) hqj
theorem swap_getD {ys : List Nat} {j a b : Nat} (ha : ys[j + 1]? = some a) (p : Nat) : ((ys.set (j + 1) b).set j a).getD p 0 = if p = j then a else if p = j + 1 then b else ys.getD p 0 := by
 have hlt := (List.getElem?_eq_some_iff.1 ha).1
 simp only [List.getD_eq_getElem?_getD, List.getElem?_set, List.length_set]
 by_cases h1 : p = j
 ·subst h1
  have : p < ys.length := by omega
  simp [this]
 ·rw [if_neg (by omega), if_neg h1]
  by_cases h2 : p = j + 1
  ·subst h2; simp [hlt]
  ·rw [if_neg (by omega), if_neg h2]
theorem MidI.go {ys : List Nat} {i j a b : Nat} (h : MidI ys i (j + 1)) (ha : ys[j + 1]? = some a) (hb : ys[j]? = some b) (hlt : a < b) (hi : j + 1 ≤ i) : MidI ((ys.set (j + 1) b).set j a) i j := by
 intro p q hp hq hne
 rw [swap_getD ha, swap_getD ha, if_neg hne]
 have eb := getD_at hb
 have ea := getD_at ha
 by_cases hq1 : q = j + 1
 ·rw [if_pos hq1]
  by_cases hp1 : p = j
  ·rw [if_pos hp1]; omega
  ·rw [if_neg hp1, if_neg (by omega)]
   have := h p j (by omega) (by omega) (by omega)
   omega
 ·rw [if_neg hq1]
  by_cases hp1 : p = j
  ·rw [if_pos hp1]
   have := h (j + 1) q (by omega) hq hq1
   omega
  ·rw [if_neg hp1]
   by_cases hp2 : p = j + 1
   ·rw [if_pos hp2]
    have := h j q (by omega) hq hq1
    omega
   ·rw [if_neg hp2]
    exact h p q hp hq hq1
theorem swap_perm {ys : List Nat} {i j a b : Nat} (ha : ys[i]? = some a) (hb : ys[j]? = some b) : ((ys.set i b).set j a).Perm ys := by
 obtain ⟨hi, rfl⟩ := List.getElem?_eq_some_iff.1 ha
 obtain ⟨hj, rfl⟩ := List.getElem?_eq_some_iff.1 hb
 have h := Array.swap_perm (xs := ys.toArray) (i := i) (j := j) (by simpa using hi) (by simpa using hj)
 have h2 := Array.perm_iff_toList_perm.1 h
 simpa [Array.swap_def] using h2
theorem SortI.all {ys : List Nat} (h : SortI ys ys.length) (hn : ys.Nodup) : ys.Pairwise (· < ·) := by
 rw [List.pairwise_iff_getElem]
 intro p q hp hq hpq
 have h1 := h p q hpq hq
 rw [List.getD_eq_getElem?_getD, List.getD_eq_getElem?_getD, List.getElem?_eq_getElem hp, List.getElem?_eq_getElem hq] at h1
 have h2 := List.pairwise_iff_getElem.1 hn p q hp hq hpq
 simp only [Option.getD_some] at h1
 omega
end Go.Proofs.YtniigfikpfinfaaGreat

/- Lists of numbers compared, whichever they are: slices.Equal, pairingref27.SameInts. -/
namespace Go.Proofs.YtniigfikpfinfaaGreat
open Go.RowKit

theorem eq_of_first {xs ys : List Int} {n : Nat} (h1 : xs.length = n) (h2 : ys.length = n) (h : ∀ (j : Nat) (x y : Int), j < n → xs[j]? = some x → ys[j]? = some y → x = y) : xs = ys := by
 refine List.ext_getElem? fun j => ?_
 by_cases hj : j < n
 ·have e1 := List.getElem?_eq_getElem (l := xs) (i := j) (by omega)
  have e2 := List.getElem?_eq_getElem (l := ys) (i := j) (by omega)
  rw [e1, e2, h j _ _ hj e1 e2]
 ·rw [List.getElem?_eq_none (by omega), List.getElem?_eq_none (by omega)]

theorem s_EqualB (a b : Value) (xs ys : List Int) (w m : World) (hV : Vw m w) (ha : IntL m a xs) (hb : IntL m b ys) (hl : xs.length ≤ 1000000) :
  Calls Tryz.prog 147 #[a, b] w (RetV w m fun _ r => r = .bool (decide (xs = ys))) := by
 obtain ⟨A, c, rfl, hc, ha⟩ := ha.lit
 obtain ⟨B, d, rfl, hd, hb⟩ := hb.lit
 have hL := Loc.start hV
 clear hV
 obtain ⟨ez, hez⟩ : ∃ ez : Bool, ez = decide (xs = ys) := ⟨_, rfl⟩
 rw [← hez]
 have HEZ := Lib.hid hez
 clear hez
 generalize hn : xs.length = n at *
 have HN := Lib.hid hn
 clear hn
 generalize hn2 : ys.length = n2 at *
 have HN2 := Lib.hid hn2
 clear hn2
 by_cases hnn : n = n2
 ·subst hnn
  have hnn : ((n : Int) != (n : Int)) = false := by simp
  go_enter Tryz.func147, Tryz.ntmps147
  go_wp2_with (first | go_skip | refine tP ?_)
  go_loopw [13] (fun i wr => ∃ (k : Nat) (mm : World), k ≤ n ∧ i = .int .i64 k ∧ Loc w m wr mm [] ∧ Hid (∀ (j : Nat) (x y : Int), j < k → xs[j]? = some x → ys[j]? = some y → x = y)) (fun i _ => n - (intOf i).toNat)
  case atStart => exact ⟨0, m, Nat.zero_le _, rfl, hL, (fun _ _ _ h => absurd h (Nat.not_lt_zero _))⟩
  case round =>
   clear hL
   obtain ⟨k, mm, hk, rfl, hL, HJ⟩ := hrel
   have hM := hL.mext
   by_cases hlt : k < n
   ·obtain ⟨x, hx⟩ := at_some HN hlt
    obtain ⟨y, hy⟩ := at_some HN2 hlt
    obtain ⟨b1, o1, rfl, hc1⟩ := IntL.at_ ha hx
    obtain ⟨b2, o2, rfl, hc2⟩ := IntL.at_ hb hy
    have HX := Lib.hid hx
    have HY := Lib.hid hy
    clear hx hy
    by_cases hxy : x = y
    ·subst hxy
     have hxx : (x != x) = false := by simp
     have HJ2 : Hid (∀ (j : Nat) (x y : Int), j < k + 1 → xs[j]? = some x → ys[j]? = some y → x = y) := by
      show ∀ j x y, _
      intro j x' y' hj hx' hy'
      rcases Nat.lt_succ_iff_lt_or_eq.1 hj with h' | rfl
      ·exact HJ.out j x' y' h' hx' hy'
      ·rw [HX.out] at hx'; rw [HY.out] at hy'; cases hx'; cases hy'; rfl
     go_upto_region 6 with ((first | go_skip | refine tP ?_))
     (try simp only [eq_self] at *)
     refine wp_region_by2 9 [false, false, false, false, false, false, false, false, false] [false, false, false, false, false, false, false, false, false] [(fun v _ _ => v = ?c6_0a), (fun v _ _ => v = ?c6_1a), (fun v _ _ => v = ?c6_2a), (fun v _ _ => v = ?c6_3a), (fun v _ _ => v = ?c6_4a), (fun v _ _ => v = ?c6_5a), (fun v _ _ => v = ?c6_6a), (fun v _ _ => v = ?c6_7a), (fun v _ _ => v = ?c6_8a)] hL.vw mixed [16, 17, 18, 19, 20, 21, 22, 23, 24] _ (by kernel_rfl) (fun vs => by simp only [lay, Act.put, zq1, zq2, zq3]; rfl) (by kernel_rfl) (by decide) (by decide) ?s6a ?l6a ?r6a
     case s6a =>
      refine ⟨?_, ?_, ?_, ?_, ?_, ?_, ?_, ?_, ?_, trivial⟩
      ·intro vs W1 m1 hE hM hV hD; clear hD
       exact sPw
      ·intro vs W1 m1 hE hM hV hD; clear hD
       exact sPw
      ·intro vs W1 m1 hE hM hV hD; obtain ⟨⟨_, _, -, -, f16⟩, ⟨_, _, -, -, f17⟩, -⟩ := hD
       rw [(f16 : vs 16 = _), (f17 : vs 17 = _)]; clear f16 f17; exact sIy
      ·intro vs W1 m1 hE hM hV hD; obtain ⟨⟨_, _, -, -, f18⟩, -⟩ := hD
       rw [(f18 : vs 18 = _)]; clear f18; exact sLe
      ·intro vs W1 m1 hE hM hV hD; clear hD
       exact sPw
      ·intro vs W1 m1 hE hM hV hD; clear hD
       exact sPw
      ·intro vs W1 m1 hE hM hV hD; obtain ⟨⟨_, _, -, -, f20⟩, ⟨_, _, -, -, f21⟩, -⟩ := hD
       rw [(f20 : vs 20 = _), (f21 : vs 21 = _)]; clear f20 f21; exact sIy
      ·intro vs W1 m1 hE hM hV hD; obtain ⟨⟨_, _, -, -, f22⟩, -⟩ := hD
       rw [(f22 : vs 22 = _)]; clear f22; exact sLe
      ·intro vs W1 m1 hE hM hV hD; obtain ⟨⟨_, _, -, -, f19⟩, ⟨_, _, -, -, f23⟩, -⟩ := hD
       rw [(f19 : vs 19 = _), (f23 : vs 23 = _)]; clear f19 f23; exact sPw
     case l6a =>
      refine ⟨nF, nF, nF, nF, nF, nF, nF, nF, nF, trivial⟩
     intro vs W1 m1 hE hM hV hF hD
     clear hD
     obtain ⟨⟨_, _, -, -, f16⟩, ⟨_, _, -, -, f17⟩, ⟨_, _, -, -, f18⟩, ⟨_, _, -, -, f19⟩, ⟨_, _, -, -, f20⟩, ⟨_, _, -, -, f21⟩, ⟨_, _, -, -, f22⟩, ⟨_, _, -, -, f23⟩, ⟨_, _, -, -, f24⟩, -⟩ := hF
     replace hL := hL.call hE hM hV
     have f16 : vs 16 = _ := f16
     generalize vs 16 = x16 at f16 ⊢
     subst x16
     have f17 : vs 17 = _ := f17
     generalize vs 17 = x17 at f17 ⊢
     subst x17
     have f18 : vs 18 = _ := f18
     generalize vs 18 = x18 at f18 ⊢
     subst x18
     have f19 : vs 19 = _ := f19
     generalize vs 19 = x19 at f19 ⊢
     subst x19
     have f20 : vs 20 = _ := f20
     generalize vs 20 = x20 at f20 ⊢
     subst x20
     have f21 : vs 21 = _ := f21
     generalize vs 21 = x21 at f21 ⊢
     subst x21
     have f22 : vs 22 = _ := f22
     generalize vs 22 = x22 at f22 ⊢
     subst x22
     have f23 : vs 23 = _ := f23
     generalize vs 23 = x23 at f23 ⊢
     subst x23
     have f24 : vs 24 = _ := f24
     generalize vs 24 = x24 at f24 ⊢
     subst x24
     clear hE hV
     simp only [List.drop_succ_cons, List.drop_zero]
     go_wp2_with (first | go_skip | refine tP ?_)
     refine QN.mk ?_
     go_wp2_with (first | go_skip | refine tP ?_)
     go_roundw
     case rel => exact ⟨k + 1, _, by omega, by go_num, hL, HJ2.out⟩
     case measure => simp [intOf] <;> omega
    ·have hxx : (x != y) = true := by simpa using hxy
     have HF : Hid (ez = false) := by
      show _ = _
      rw [HEZ.out]
      refine decide_eq_false fun e => hxy ?_
      have h1 := HX.out
      rw [e, HY.out] at h1
      cases h1; rfl
     clear hxy
     go_upto_region 6 with ((first | go_skip | refine tP ?_))
     (try simp only [eq_self] at *)
     refine wp_region_by2 9 [false, false, false, false, false, false, false, false, false] [false, false, false, false, false, false, false, false, false] [(fun v _ _ => v = ?c6_0b), (fun v _ _ => v = ?c6_1b), (fun v _ _ => v = ?c6_2b), (fun v _ _ => v = ?c6_3b), (fun v _ _ => v = ?c6_4b), (fun v _ _ => v = ?c6_5b), (fun v _ _ => v = ?c6_6b), (fun v _ _ => v = ?c6_7b), (fun v _ _ => v = ?c6_8b)] hL.vw mixed [16, 17, 18, 19, 20, 21, 22, 23, 24] _ (by kernel_rfl) (fun vs => by simp only [lay, Act.put, zq1, zq2, zq3]; rfl) (by kernel_rfl) (by decide) (by decide) ?s6b ?l6b ?r6b
     case s6b =>
      refine ⟨?_, ?_, ?_, ?_, ?_, ?_, ?_, ?_, ?_, trivial⟩
      ·intro vs W1 m1 hE hM hV hD; clear hD
       exact sPw
      ·intro vs W1 m1 hE hM hV hD; clear hD
       exact sPw
      ·intro vs W1 m1 hE hM hV hD; obtain ⟨⟨_, _, -, -, f16⟩, ⟨_, _, -, -, f17⟩, -⟩ := hD
       rw [(f16 : vs 16 = _), (f17 : vs 17 = _)]; clear f16 f17; exact sIy
      ·intro vs W1 m1 hE hM hV hD; obtain ⟨⟨_, _, -, -, f18⟩, -⟩ := hD
       rw [(f18 : vs 18 = _)]; clear f18; exact sLe
      ·intro vs W1 m1 hE hM hV hD; clear hD
       exact sPw
      ·intro vs W1 m1 hE hM hV hD; clear hD
       exact sPw
      ·intro vs W1 m1 hE hM hV hD; obtain ⟨⟨_, _, -, -, f20⟩, ⟨_, _, -, -, f21⟩, -⟩ := hD
       rw [(f20 : vs 20 = _), (f21 : vs 21 = _)]; clear f20 f21; exact sIy
      ·intro vs W1 m1 hE hM hV hD; obtain ⟨⟨_, _, -, -, f22⟩, -⟩ := hD
       rw [(f22 : vs 22 = _)]; clear f22; exact sLe
      ·intro vs W1 m1 hE hM hV hD; obtain ⟨⟨_, _, -, -, f19⟩, ⟨_, _, -, -, f23⟩, -⟩ := hD
       rw [(f19 : vs 19 = _), (f23 : vs 23 = _)]; clear f19 f23; exact sPw
     case l6b =>
      refine ⟨nF, nF, nF, nF, nF, nF, nF, nF, nF, trivial⟩
     intro vs W1 m1 hE hM hV hF hD
     clear hD
     obtain ⟨⟨_, _, -, -, f16⟩, ⟨_, _, -, -, f17⟩, ⟨_, _, -, -, f18⟩, ⟨_, _, -, -, f19⟩, ⟨_, _, -, -, f20⟩, ⟨_, _, -, -, f21⟩, ⟨_, _, -, -, f22⟩, ⟨_, _, -, -, f23⟩, ⟨_, _, -, -, f24⟩, -⟩ := hF
     replace hL := hL.call hE hM hV
     have f16 : vs 16 = _ := f16
     generalize vs 16 = x16 at f16 ⊢
     subst x16
     have f17 : vs 17 = _ := f17
     generalize vs 17 = x17 at f17 ⊢
     subst x17
     have f18 : vs 18 = _ := f18
     generalize vs 18 = x18 at f18 ⊢
     subst x18
     have f19 : vs 19 = _ := f19
     generalize vs 19 = x19 at f19 ⊢
     subst x19
     have f20 : vs 20 = _ := f20
     generalize vs 20 = x20 at f20 ⊢
     subst x20
     have f21 : vs 21 = _ := f21
     generalize vs 21 = x21 at f21 ⊢
     subst x21
     have f22 : vs 22 = _ := f22
     generalize vs 22 = x22 at f22 ⊢
     subst x22
     have f23 : vs 23 = _ := f23
     generalize vs 23 = x23 at f23 ⊢
     subst x23
     have f24 : vs 24 = _ := f24
     generalize vs 24 = x24 at f24 ⊢
     subst x24
     clear hE hV
     simp only [List.drop_succ_cons, List.drop_zero]
     go_wp2_with (first | go_skip | refine tP ?_)
     refine QN.mk ?_
     go_wp2_with (first | go_skip | refine tP ?_)
     go_ret
     exact RetV.mk hL (by rw [HF.out]; rfl)
   ·have hkn : k = n := by omega
    subst hkn
    have HT : Hid (ez = true) := by
     show _ = _
     rw [HEZ.out]
     exact decide_eq_true (eq_of_first HN.out HN2.out HJ.out)
    have h9 : (k : Int) ≤ (k : Int) := Int.le_refl _
    go_wp2_with (first | go_skip | refine tP ?_)
    go_ret
    exact RetV.mk hL (by rw [HT.out]; rfl)
 ·have h2 : ((n : Int) != (n2 : Int)) = true := by simp; omega
  have HF : Hid (ez = false) := by
   show _ = _
   rw [HEZ.out]
   refine decide_eq_false fun e => hnn ?_
   rw [← HN.out, ← HN2.out, e]
  clear hnn
  go_enter Tryz.func147, Tryz.ntmps147
  go_wp2_with (first | go_skip | refine tP ?_)
  go_ret
  exact RetV.mk hL (by rw [HF.out]; rfl)

theorem same_end {xs ys : List Int} {k : Nat} (hl : xs.length = ys.length) (hk : xs.length ≤ k) (h : ∀ t, t < k → xs[t]? = ys[t]?) : xs = ys := by
 apply List.ext_getElem?
 intro t
 by_cases ht : t < k
 ·exact h t ht
 ·rw [List.getElem?_eq_none (by omega), List.getElem?_eq_none (by omega)]

theorem r_SameIntsB (a b : Value) (xs ys : List Int) (w m : World) (hV : Vw m w) (ha : IntL m a xs) (hb : IntL m b ys) (hl : xs.length ≤ 1000000) :
  Calls Tryz.prog 56 #[a, b] w (RetV w m fun _ r => r = .bool (decide (xs = ys))) := by
 obtain ⟨A, c, rfl, hc, ha⟩ := ha.lit
 obtain ⟨B, d, rfl, hd, hb⟩ := hb.lit
 have hL := Loc.start hV
 clear hV
 by_cases hne : xs.length = ys.length
 ·have HNE := Lib.hid hne
  rw [← hne] at hb hd ⊢
  clear hne
  generalize hn : xs.length = n at *
  have HN := Lib.hid hn
  clear hn
  have HNY : Hid (ys.length = n) := HNE.out.symm
  have hnn : ((n : Int) != (n : Int)) = false := by simp
  go_enter Tryz.func56, Tryz.ntmps56
  go_wp2_with (first | go_skip | refine tP ?_)
  go_loopw [5] (fun i wr => ∃ (k : Nat) (mm : World), k ≤ n ∧ i = .int .i64 k ∧ Loc w m wr mm [] ∧ Ext m mm ∧ Hid (∀ t, t < k → xs[t]? = ys[t]?)) (fun i _ => n - (intOf i).toNat)
  case atStart => exact ⟨0, m, Nat.zero_le _, rfl, hL, Ext.refl _, fun t h => absurd h (by omega)⟩
  case round =>
   clear hL
   obtain ⟨k, mm, hk, rfl, hL, hM, HP⟩ := hrel
   by_cases hlt : k < n
   ·have hlt' : (k : Int) < (n : Int) := by omega
    obtain ⟨x, hx⟩ := at_some HN hlt
    obtain ⟨y, hy⟩ := at_some HNY hlt
    obtain ⟨b1, o1, rfl, hc1⟩ := IntL.at_ ha hx
    obtain ⟨b2, o2, rfl, hc2⟩ := IntL.at_ hb hy
    have HX := Lib.hid hx
    have HY := Lib.hid hy
    clear hx hy
    go_upto_region 6 with ((first | go_skip | refine tP ?_))
    (try simp only [eq_self] at *)
    refine wp_region_by2 9 [false, false, false, false, false, false, false, false, false] [false, false, false, false, false, false, false, false, false] [(fun v _ _ => v = ?c6_0), (fun v _ _ => v = ?c6_1), (fun v _ _ => v = ?c6_2), (fun v _ _ => v = ?c6_3), (fun v _ _ => v = ?c6_4), (fun v _ _ => v = ?c6_5), (fun v _ _ => v = ?c6_6), (fun v _ _ => v = ?c6_7), (fun v _ _ => v = ?c6_8)] hL.vw mixed [17, 18, 19, 20, 21, 22, 23, 24, 25] _ (by kernel_rfl) (fun vs => by simp only [lay, Act.put, zq1, zq2, zq3]; rfl) (by kernel_rfl) (by decide) (by decide) ?s6 ?l6 ?r6
    case s6 =>
     refine ⟨?_, ?_, ?_, ?_, ?_, ?_, ?_, ?_, ?_, trivial⟩
     ·intro vs W1 m1 hE hM hV hD; clear hD
      exact sPw
     ·intro vs W1 m1 hE hM hV hD; clear hD
      exact sPw
     ·intro vs W1 m1 hE hM hV hD; obtain ⟨⟨_, _, -, -, f17⟩, ⟨_, _, -, -, f18⟩, -⟩ := hD
      rw [(f17 : vs 17 = _), (f18 : vs 18 = _)]; clear f17 f18; exact sIy
     ·intro vs W1 m1 hE hM hV hD; obtain ⟨⟨_, _, -, -, f19⟩, -⟩ := hD
      rw [(f19 : vs 19 = _)]; clear f19; exact sLe
     ·intro vs W1 m1 hE hM hV hD; clear hD
      exact sPw
     ·intro vs W1 m1 hE hM hV hD; clear hD
      exact sPw
     ·intro vs W1 m1 hE hM hV hD; obtain ⟨⟨_, _, -, -, f21⟩, ⟨_, _, -, -, f22⟩, -⟩ := hD
      rw [(f21 : vs 21 = _), (f22 : vs 22 = _)]; clear f21 f22; exact sIy
     ·intro vs W1 m1 hE hM hV hD; obtain ⟨⟨_, _, -, -, f23⟩, -⟩ := hD
      rw [(f23 : vs 23 = _)]; clear f23; exact sLe
     ·intro vs W1 m1 hE hM hV hD; obtain ⟨⟨_, _, -, -, f20⟩, ⟨_, _, -, -, f24⟩, -⟩ := hD
      rw [(f20 : vs 20 = _), (f24 : vs 24 = _)]; clear f20 f24; exact sPw
    case l6 =>
     refine ⟨nF, nF, nF, nF, nF, nF, nF, nF, nF, trivial⟩
    intro vs W1 m1 hE hM hV hF hD
    clear hD
    obtain ⟨⟨_, _, -, -, f17⟩, ⟨_, _, -, -, f18⟩, ⟨_, _, -, -, f19⟩, ⟨_, _, -, -, f20⟩, ⟨_, _, -, -, f21⟩, ⟨_, _, -, -, f22⟩, ⟨_, _, -, -, f23⟩, ⟨_, _, -, -, f24⟩, ⟨_, _, -, -, f25⟩, -⟩ := hF
    replace hL := hL.call hE hM hV
    have f17 : vs 17 = _ := f17
    generalize vs 17 = x17 at f17 ⊢
    subst x17
    have f18 : vs 18 = _ := f18
    generalize vs 18 = x18 at f18 ⊢
    subst x18
    have f19 : vs 19 = _ := f19
    generalize vs 19 = x19 at f19 ⊢
    subst x19
    have f20 : vs 20 = _ := f20
    generalize vs 20 = x20 at f20 ⊢
    subst x20
    have f21 : vs 21 = _ := f21
    generalize vs 21 = x21 at f21 ⊢
    subst x21
    have f22 : vs 22 = _ := f22
    generalize vs 22 = x22 at f22 ⊢
    subst x22
    have f23 : vs 23 = _ := f23
    generalize vs 23 = x23 at f23 ⊢
    subst x23
    have f24 : vs 24 = _ := f24
    generalize vs 24 = x24 at f24 ⊢
    subst x24
    have f25 : vs 25 = _ := f25
    generalize vs 25 = x25 at f25 ⊢
    subst x25
    clear hE hV
    simp only [List.drop_succ_cons, List.drop_zero]
    go_wp2_with (first | go_skip | refine tP ?_)
    refine QN.mk ?_
    by_cases hxy : x = y
    ·have hxx : ((x : Int) != (y : Int)) = false := by simp [hxy]
     have HP2 : Hid (∀ t, t < k + 1 → xs[t]? = ys[t]?) := by
      show ∀ t, _
      intro t ht
      by_cases e : t = k
      ·rw [e, HX.out, HY.out, hxy]
      ·exact HP.out t (by omega)
     clear hxy
     go_wp2_with (first | go_skip | refine tP ?_)
     go_roundw
     case rel => exact ⟨k + 1, _, by omega, by go_num, hL, hL.mext, HP2.out⟩
     case measure => simp [intOf] <;> omega
    ·have hxx : ((x : Int) != (y : Int)) = true := by simp [hxy]
     have HD : Hid (decide (xs = ys) = false) := by
      show _ = _
      refine decide_eq_false fun e => hxy ?_
      have h1 := HX.out
      rw [e, HY.out] at h1
      exact (Option.some.inj h1).symm
     clear hxy
     go_wp2_with (first | go_skip | refine tP ?_)
     go_ret
     exact RetV.mk hL (congrArg Value.bool HD.out.symm)
   ·have hkn : n = k := by omega
    have HE : Hid (decide (xs = ys) = true) := decide_eq_true (same_end (by rw [HN.out, HNY.out]) (by rw [HN.out]; omega) HP.out)
    subst hkn
    have h9 : (n : Int) ≤ (n : Int) := Int.le_refl _
    go_wp2_with (first | go_skip | refine tP ?_)
    go_ret
    exact RetV.mk hL (congrArg Value.bool HE.out.symm)
 ·have HD : Hid (decide (xs = ys) = false) := decide_eq_false fun e => hne (by rw [e])
  have hnn : ((xs.length : Int) != (ys.length : Int)) = true := by simp; omega
  clear hne
  generalize xs.length = n1 at *
  generalize ys.length = n2 at *
  go_enter Tryz.func56, Tryz.ntmps56
  go_wp2_with (first | go_skip | refine tP ?_)
  go_ret
  exact RetV.mk hL (congrArg Value.bool HD.out.symm)
end Go.Proofs.YtniigfikpfinfaaGreat

/- Maps from flights to fractions: what the block of such a map holds. -/
namespace Go.Proofs.YtniigfikpfinfaaGreat
open Go.RowKit Go.Maps Go.WideShapes

structure IMap (D : DataW Value) (m : World) (S : List IQ) : Prop where
 mp : IsMap D
 some : ∀ e ∈ S, ∃ v, (∀ z, D.atKey (.int .i64 e.1) z = .held v) ∧ FracC m v (sumI S e.1)
 none : ∀ a, (∀ e ∈ S, e.1 ≠ a) → ∀ z, D.atKey (.int .i64 a) z = z
theorem IMap.le {D : DataW Value} {m m' : World} {S : List IQ} (h : IMap D m S) (hl : Le m m') : IMap D m' S :=
 ⟨h.mp, fun e he => by obtain ⟨v, h1, h2⟩ := h.some e he; exact ⟨v, h1, h2.le hl⟩, h.none⟩
theorem IMap.made (m : World) : IMap (.map []) m [] := ⟨⟨[], rfl⟩, (fun _ h => by cases h), (fun _ _ _ => rfl)⟩
theorem litI_inj {a b : Int} (h : Lit.int .i64 a = Lit.int .i64 b) : a = b := by cases h; rfl
theorem IMap.put {D : DataW Value} {m : World} {S : List IQ} (h : IMap D m S) {a : Int} {x : Rat} {v : Value} (hv : FracC m v (sumI S a + x)) : IMap (D.put (.int .i64 a) (.held v)) m (S ++ [(a, x)]) := by
 have hk := isKey_int a
 refine ⟨h.mp.put _ _, fun e he => ?_, fun a' hn z => ?_⟩
 ·by_cases hp : e.1 = a
  ·refine ⟨v, fun z => ?_, ?_⟩
   ·rw [hp]; exact atKey_put_same h.mp hk _ _
   ·rw [hp, sumI_same]; exact hv
  ·rcases List.mem_append.1 he with he | he
   ·obtain ⟨u, h1, h2⟩ := h.some e he
    refine ⟨u, fun z => ?_, ?_⟩
    ·rw [atKey_put_other (fun hh => hp (litI_inj hh))]
     exact h1 z
    ·rw [sumI_other _ _ (fun hh => hp hh.symm)]; exact h2
   ·rcases List.mem_singleton.1 he with rfl
    exact absurd rfl hp
 ·have hne : a ≠ a' := hn (a, x) (by simp)
  rw [atKey_put_other (fun hh => hne (litI_inj hh).symm)]
  exact h.none a' (fun e he => hn e (List.mem_append_left _ he)) z
def GMap (W m : World) (b : Nat) (S : List IQ) : Prop := ∃ n D, n ≤ S.length ∧ W.ownsMap (H := Value) Tryz.prog 3 RV b n D ∧ IMap D m S
theorem GMap.made (W m : World) : GMap (W.alloc (.map #[] 0)) m W.heap.size [] := ⟨0, _, Nat.le_refl _, World.ownsMap_made _ _ _ _, IMap.made m⟩
theorem GMap.le {W m m' : World} {b : Nat} {S : List IQ} (h : GMap W m b S) (hl : Le m m') : GMap W m' b S := by
 obtain ⟨n, D, hn, h1, h2⟩ := h
 exact ⟨n, D, hn, h1, h2.le hl⟩
theorem ownsMapI_ext {W W' : World} {b n : Nat} {D : DataW Value} (h : W.ownsMap (H := Value) Tryz.prog 3 RV b n D) (hE : Ext W W') : W'.ownsMap (H := Value) Tryz.prog 3 RV b n D := by
 obtain ⟨es, clock, hb, h⟩ := h
 have hlt : b < W.heap.size := (Array.getElem?_eq_some_iff.1 hb).1
 exact ⟨es, clock, (hE.block b hlt).trans hb, h⟩
theorem GMap.ext {W W' m : World} {b : Nat} {S : List IQ} (h : GMap W m b S) (hE : Ext W W') : GMap W' m b S := by
 obtain ⟨n, D, hn, h1, h2⟩ := h
 exact ⟨n, D, hn, ownsMapI_ext h1 hE, h2⟩
theorem GMap.notCells {W m : World} {b : Nat} {S : List IQ} (h : GMap W m b S) : ∀ cs t fr, W.heap[b]? ≠ some (.cells cs t fr) := by
 obtain ⟨n, D, hn, ⟨es, clock, hb, _⟩, -⟩ := h
 intro cs t fr e
 rw [hb] at e
 cases e
theorem GMap.look {W m : World} {b : Nat} {S : List IQ} (h : GMap W m b S) {a : Int} (wa : Wf a) :
  ∃ v, SumV m v (sumI S a) ∧ ∀ W', Ext W W' → (Instr.lookup 153 (.map (some b)) (.int .i64 a) false).run Tryz.prog W' = .ok v W' := by
 obtain ⟨n, D, hn, h1, h2⟩ := h
 have key : ∀ W', Ext W W' → ∃ v, (Instr.lookup 153 (.map (some b)) (.int .i64 a) false).run Tryz.prog W' = .ok v W' ∧ DataW.held v = D.atKey (.int .i64 a) (.held (.agg #[.bool false, .slice none 0 0, .bool false, .slice none 0 0])) := by
  intro W' hE
  obtain ⟨v, ps, hrun, hv⟩ := (ownsMapI_ext h1 hE).lookup keyI Tryz.underlying153 (zeroF W') (zd := .held (.agg #[.bool false, .slice none 0 0, .bool false, .slice none 0 0])) (zp := []) rfl (keyOf_int_mk Tryz.underlying3 wa)
  exact ⟨v, hrun, (Prod.mk.inj (Option.some.inj hv)).1⟩
 obtain ⟨v, -, hv⟩ := key W (Ext.refl _)
 refine ⟨v, ?_, fun W' hE => ?_⟩
 ·by_cases he : ∃ e ∈ S, e.1 = a
  ·obtain ⟨e, he, hp⟩ := he
   obtain ⟨u, h3, h4⟩ := h2.some e he
   rw [hp] at h3 h4
   rw [h3] at hv
   cases hv
   exact .inl h4
  ·have hn' : ∀ e ∈ S, e.1 ≠ a := fun e h h' => he ⟨e, h, h'⟩
   rw [h2.none a hn'] at hv
   cases hv
   exact .inr ⟨rfl, sumI_none hn'⟩
 ·obtain ⟨u, hr, hu⟩ := key W' hE
  rw [← hu] at hv
  cases hv
  exact hr
theorem GMap.up {W m : World} {b : Nat} {S : List IQ} (h : GMap W m b S) (hl : S.length ≤ 1000000) {a : Int} {x : Rat} {v : Value} (wa : Wf a) (hv : FracC m v (sumI S a + x)) :
  ∃ W', (Instr.mapUpdate 153 (.map (some b)) (.int .i64 a) v).run Tryz.prog W = .ok () W' ∧ GMap W' m b (S ++ [(a, x)]) ∧ W.grownBy W' (some b) := by
 obtain ⟨n, D, hn, h1, h2⟩ := h
 obtain ⟨W', e1, e2, e3⟩ := h1.update keyI Tryz.underlying153 (by unfold maxLen; omega) (keyOf_int_mk Tryz.underlying3 wa) (val := v) (d := .held v) (ps := []) rfl
 exact ⟨W', e1, ⟨n + 1, _, by simp; omega, e2, h2.put hv⟩, e3⟩
end Go.Proofs.YtniigfikpfinfaaGreat

/- Contract of pairingdata.Values whose row stays the caller's. -/
namespace Go.Proofs.YtniigfikpfinfaaGreat
open Go.RowKit

def ValPost (w m : World) (us : List Rat) (e : Ending) (w' : World) : Prop :=
 ∃ m' A c R, e = .returned (.slice A us.length c) ∧ Loc w m w' m' R ∧ RowA 39 4 FracC m' (.slice A us.length c) us.length us R

theorem d_ValuesR (A : Option Addr) (c : Nat) (l : List Int) (n : Nat) (z : Int) (w m : World) (hV : Vw m w) (h : Sl m A (l.map I64)) (hz : z = n) (hn : n ≤ 1000) :
  Calls Tryz.prog 37 #[.slice A l.length c, .int .i64 z] w (ValPost w m (valsF l n)) := by
 subst hz
 have HL : Hid True := trivial
 generalize hN : l.length = N
 have HN := Lib.hid hN
 clear hN
 have hL := Loc.start hV
 clear hV
 go_enter Tryz.func37, Tryz.ntmps37
 go_wp2_with (first | go_skip | refine tP ?_ | (refine tS ?_; clear hL; intro _ hL) | (refine tB ?_; clear hL; intro _ _ hL _) | (refine tC ?_; clear hL; intro _ _ hL _ hBs))
 go_loopw [5, 6] (fun ov i wr => ∃ (j : Nat) (mm : World) (Rr : List Lo), j ≤ n ∧ i = .int .i64 j ∧ Loc w m wr mm Rr ∧ Hid (RowA 39 4 FracC mm ov j (valsF l j) Rr)) (fun _ i _ => n - (intOf i).toNat)
 case atStart => exact ⟨0, _, [], Nat.zero_le _, rfl, hL, RowA.nil⟩
 case round =>
  clear hL
  obtain ⟨j, mm, Rr, hj, rfl, hL, row⟩ := hrel
  have hM := hL.mext
  have hA := h.le hM.le
  obtain ⟨A7, c7, rfl, row1⟩ := row.out.lit
  have ROW := Lib.hid row1
  clear row row1 hM
  by_cases hlt : j < n
  ·obtain ⟨a, Ea, pa, pa'⟩ := atX l j (by omega)
   have hlt' : (j : Int) < (n : Int) := by omega
   have e1 := i64_and1 (a / 4)
   have VT := Lib.hid (valsF_snoc l j Ea)
   have F0 : Hid (Fit 200 ((a % 4 : Int) : Rat)) := (Tn.int (k := 1000) (by omega) (by decide)).fit (by decide)
   have F1 : Hid (Fit 200 ((2 + a / 4 % 2 : Int) : Rat)) := (Tn.int (k := 1000) (by omega) (by decide)).fit (by decide)
   have F2 : Hid (Fit 200 ((-1 : Int) : Rat)) := (Tn.int (k := 1000) (by decide) (by decide)).fit (by decide)
   have F3 : Hid (Fit 200 ((3 : Int) : Rat)) := (Tn.int (k := 1000) (by decide) (by decide)).fit (by decide)
   go_wp2_with (first | go_skip | refine tP ?_ | (refine tS ?_; clear hL; intro _ hL) | (refine tB ?_; clear hL; intro _ _ hL _) | (refine tC ?_; clear hL; intro _ _ hL _ hBs))
   refine (d_AtE _ _ _ l _ j a _ _ hL.vw (hA.le leX) HN HL Ea rfl (by omega)).mono ?_
   rintro e Wc1 ⟨_, mc1, rfl, hE, hMc1, hV, rfl⟩
   replace hL := hL.call hE (by assumption) hV; clear hE hV
   go_wp2_with (first | go_skip | refine tP ?_ | (refine tS ?_; clear hL; intro _ hL) | (refine tB ?_; clear hL; intro _ _ hL _) | (refine tC ?_; clear hL; intro _ _ hL _ hBs))
   refine (r_Int (a % 4) _ _ hL.vw (by omega) (by omega)).mono ?_
   rintro e Wc2 ⟨vc2, mc2, rfl, hE, hMc2, hV, hc2⟩
   replace hL := hL.call hE (by assumption) hV; clear hE hV
   obtain ⟨gc2', Ac2', nc2', cc2', hc2', Bc2', kc2', dc2', rfl, hc2⟩ := hc2.lit
   go_wp2_with (first | go_skip | refine tP ?_ | (refine tS ?_; clear hL; intro _ hL) | (refine tB ?_; clear hL; intro _ _ hL _) | (refine tC ?_; clear hL; intro _ _ hL _ hBs))
   refine (r_Int (2 + a / 4 % 2) _ _ hL.vw (by omega) (by omega)).mono ?_
   rintro e Wc3 ⟨vc3, mc3, rfl, hE, hMc3, hV, hc3⟩
   replace hL := hL.call hE (by assumption) hV; clear hE hV
   obtain ⟨gc3', Ac3', nc3', cc3', hc3', Bc3', kc3', dc3', rfl, hc3⟩ := hc3.lit
   go_wp2_with (first | go_skip | refine tP ?_ | (refine tS ?_; clear hL; intro _ hL) | (refine tB ?_; clear hL; intro _ _ hL _) | (refine tC ?_; clear hL; intro _ _ hL _ hBs))
   refine (r_DivC _ _ _ _ _ _ hL.vw (hc2.le leX) hc3 F0.out F1.out).mono ?_
   rintro e Wc4 ⟨vc4, mc4, rfl, hE, hMc4, hV, hc4⟩
   replace hL := hL.call hE (by assumption) hV; clear hE hV
   obtain ⟨gc4', Ac4', nc4', cc4', hc4', Bc4', kc4', dc4', rfl, hc4⟩ := hc4.lit
   rw [div_mix] at hc4
   clear hc2 hc3
   by_cases h29 : a % 29 = 28
   ·have b1 := bt h29
    have HW : Hid (valT a = Rat.divInt (-1) 3) := by show _ = _; unfold valT; rw [if_pos h29]
    clear h29 hc4
    go_wp2_with (first | go_skip | refine tP ?_ | (refine tS ?_; clear hL; intro _ hL) | (refine tB ?_; clear hL; intro _ _ hL _) | (refine tC ?_; clear hL; intro _ _ hL _ hBs))
    refine (r_Int (-1) _ _ hL.vw (by decide) (by decide)).mono ?_
    rintro e Wc5 ⟨vc5, mc5, rfl, hE, hMc5, hV, hc5⟩
    replace hL := hL.call hE (by assumption) hV; clear hE hV
    obtain ⟨gc5', Ac5', nc5', cc5', hc5', Bc5', kc5', dc5', rfl, hc5⟩ := hc5.lit
    go_wp2_with (first | go_skip | refine tP ?_ | (refine tS ?_; clear hL; intro _ hL) | (refine tB ?_; clear hL; intro _ _ hL _) | (refine tC ?_; clear hL; intro _ _ hL _ hBs))
    refine (r_Int 3 _ _ hL.vw (by decide) (by decide)).mono ?_
    rintro e Wc6 ⟨vc6, mc6, rfl, hE, hMc6, hV, hc6⟩
    replace hL := hL.call hE (by assumption) hV; clear hE hV
    obtain ⟨gc6', Ac6', nc6', cc6', hc6', Bc6', kc6', dc6', rfl, hc6⟩ := hc6.lit
    go_wp2_with (first | go_skip | refine tP ?_ | (refine tS ?_; clear hL; intro _ hL) | (refine tB ?_; clear hL; intro _ _ hL _) | (refine tC ?_; clear hL; intro _ _ hL _ hBs))
    refine (r_DivC _ _ _ _ _ _ hL.vw (hc5.le leX) hc6 F2.out F3.out).mono ?_
    rintro e Wc4 ⟨vc4, mc4, rfl, hE, hMc4, hV, hc4⟩
    replace hL := hL.call hE (by assumption) hV; clear hE hV
    obtain ⟨gc4', Ac4', nc4', cc4', hc4', Bc4', kc4', dc4', rfl, hc4⟩ := hc4.lit
    rw [div_mix] at hc4
    have HC4 : Hid (FracC mc4 (.agg #[.bool gc4', .slice Ac4' nc4' cc4', .bool hc4', .slice Bc4' kc4' dc4']) (valT a)) := by rw [HW.out]; exact hc4
    clear hc5 hc6 hc4
    go_wp2_with (first | go_skip | refine tP ?_ | (refine tS ?_; clear hL; intro _ hL) | (refine tB ?_; clear hL; intro _ _ hL _) | (refine tC ?_; clear hL; intro _ _ hL _ hBs))
    refine goA ?_
    obtain ⟨vs7, r7, z7, y7, l7⟩ := ROW.out
    refine wl_append (A := [_]) hL r7 (wanted_none rfl) rfl ap_Fracs (by omega) rfl rfl (news := [.bool gc4', .slice Ac4' nc4' cc4', .bool hc4', .slice Bc4' kc4' dc4']) rfl ((Blk.sl hBs (n := 4) rfl).le hL.vw.le) rfl (by omega) (by omega) ?_
    clear hL
    intro v1 W5 m5 R5 hL r8 e8
    obtain ⟨A9, c9, rfl, -⟩ := r8.lit
    simp only [List.cons_append, List.nil_append] at hL
    have rd := RowA.snoc (R := FracC) (m := m5) (x := valT a) r8 z7 (y7.mono fun v x hv => hv.le (leX : Le mm m5)) l7 rfl (HC4.out.le leX)
    rw [VT.out] at rd
    have RD := Lib.hid rd
    clear rd r8 r7 z7 y7 l7
    simp only [Act.put, zq1, zq2, zq3]
    go_wp2_with (first | go_skip | refine tP ?_ | (refine tS ?_; clear hL; intro _ hL) | (refine tB ?_; clear hL; intro _ _ hL _) | (refine tC ?_; clear hL; intro _ _ hL _ hBs))
    go_roundw
    case rel => exact ⟨j + 1, m5, R5, by omega, by go_num, hL.tail, RD.out⟩
    case measure => simp [intOf] <;> omega
   ·have b1 := bf h29
    have HW : Hid (valT a = Rat.divInt (a % 4) (2 + a / 4 % 2)) := by show _ = _; unfold valT; rw [if_neg h29]
    have HC4 : Hid (FracC mc4 (.agg #[.bool gc4', .slice Ac4' nc4' cc4', .bool hc4', .slice Bc4' kc4' dc4']) (valT a)) := by rw [HW.out]; exact hc4
    clear h29 hc4
    go_wp2_with (first | go_skip | refine tP ?_ | (refine tS ?_; clear hL; intro _ hL) | (refine tB ?_; clear hL; intro _ _ hL _) | (refine tC ?_; clear hL; intro _ _ hL _ hBs))
    refine goA ?_
    obtain ⟨vs7, r7, z7, y7, l7⟩ := ROW.out
    refine wl_append (A := [_]) hL r7 (wanted_none rfl) rfl ap_Fracs (by omega) rfl rfl (news := [.bool gc4', .slice Ac4' nc4' cc4', .bool hc4', .slice Bc4' kc4' dc4']) rfl ((Blk.sl hBs (n := 4) rfl).le hL.vw.le) rfl (by omega) (by omega) ?_
    clear hL
    intro v1 W5 m5 R5 hL r8 e8
    obtain ⟨A9, c9, rfl, -⟩ := r8.lit
    simp only [List.cons_append, List.nil_append] at hL
    have rd := RowA.snoc (R := FracC) (m := m5) (x := valT a) r8 z7 (y7.mono fun v x hv => hv.le (leX : Le mm m5)) l7 rfl (HC4.out.le leX)
    rw [VT.out] at rd
    have RD := Lib.hid rd
    clear rd r8 r7 z7 y7 l7
    simp only [Act.put, zq1, zq2, zq3]
    go_wp2_with (first | go_skip | refine tP ?_ | (refine tS ?_; clear hL; intro _ hL) | (refine tB ?_; clear hL; intro _ _ hL _) | (refine tC ?_; clear hL; intro _ _ hL _ hBs))
    go_roundw
    case rel => exact ⟨j + 1, m5, R5, by omega, by go_num, hL.tail, RD.out⟩
    case measure => simp [intOf] <;> omega
  ·have hjn : j = n := by omega
   subst hjn
   go_wp2_with (first | go_skip | refine tP ?_ | (refine tS ?_; clear hL; intro _ hL) | (refine tB ?_; clear hL; intro _ _ hL _) | (refine tC ?_; clear hL; intro _ _ hL _ hBs))
   go_ret
   refine ⟨_, A7, c7, Rr, ?_, hL, ?_⟩
   ·rw [valsF_len]; rfl
   ·rw [valsF_len]; exact ROW.out
end Go.Proofs.YtniigfikpfinfaaGreat

/- The closures of branch.cheapest; slices.IndexFunc of numbers. -/
namespace Go.Proofs.YtniigfikpfinfaaGreat
open Go.RowKit

theorem b_same (bo bm : Nat) (O B : Option Addr) (no co nc cb : Nat) (os : List Int) (cols : List Col) (rws : List Int) (j : Nat) (x : Col) (w m : World) (hV : Vw m w) (h1 : m.cell? ⟨bo, 0, none⟩ = some (.slice O no co)) (h2 : IntL m (.slice O no co) os) (hno : os.length ≤ 1000000)
  (h3 : m.cell? ⟨bm, 3, none⟩ = some (.slice B nc cb)) (h4 : ColL m (.slice B nc cb) cols) (hn : cols.length = nc) (hx : cols[j]? = some x) (hok : ColOk rws x) :
  Calls Tryz.prog 170 #[.int .i64 (j : Int), .pointer (some ⟨bo, 0, none⟩), .pointer (some ⟨bm, 0, none⟩)] w (RetV w m fun _ r => r = .bool (decide (os = opF x.2.1))) := by
 obtain ⟨s, ds, cost⟩ := x
 have hlt : j < nc := by rw [← hn]; exact (List.getElem?_eq_some_iff.1 hx).1
 obtain ⟨b1, o1, D, cd, rfl, hds, hr1⟩ := ColL.at_ h4 hx
 simp only at hds hr1
 have hr3 := range_two hr1
 have H3 : Hid (ds.length ≤ 100) := hok.nd
 have H4 : Hid (∀ d ∈ ds, d.length ≤ 100) := hok.nt
 have HD := Lib.hid hds
 obtain ⟨ez, hez⟩ : ∃ ez, ez = decide (os = opF ds) := ⟨_, rfl⟩
 have KE : Hid (∀ v w m', Vw m' w → Le m m' → IntL m' v (opF ds) → Calls Tryz.prog 147 #[.slice O no co, v] w (RetV w m' fun _ r => r = .bool ez)) := by
  show ∀ v w m', _
  intro v w m' hV hle h
  rw [hez]
  exact s_EqualB _ v os (opF ds) w m' hV (IntL.le h2 hle) h hno
 simp only
 rw [← hez]
 have hL := Loc.start hV
 clear hV hok hds hx hn h4 hez h2 hno hr1
 generalize hnd : ds.length = nd at *
 have HND := Lib.hid hnd
 clear hnd
 go_enter Tryz.func170, Tryz.ntmps170
 go_upto_region 1 with ((first | go_skip | refine tP ?_))
 (try simp only [eq_self] at *)
 refine wp_region_by2 9 [false, false, false, false, false, false, false, false, false] [false, false, false, false, false, false, false, false, false] [(fun v _ _ => v = ?c1_0), (fun v _ _ => v = ?c1_1), (fun v _ _ => v = ?c1_2), (fun v _ _ => v = ?c1_3), (fun v _ _ => v = ?c1_4), (fun v _ _ => v = ?c1_5), (fun v _ _ => v = ?c1_6), Of (fun um v => IntL um v (opF ds)), Is (.bool ez)] hL.vw mixed [5, 6, 7, 8, 9, 10, 11, 12, 13] _ (by kernel_rfl) (fun vs => by simp only [lay, Act.put, zq1, zq2, zq3]; rfl) (by kernel_rfl) (by decide) (by decide) ?s1 ?l1 ?r1
 case s1 =>
  refine ⟨?_, ?_, ?_, ?_, ?_, ?_, ?_, ?_, ?_, trivial⟩
  ·intro vs W1 m1 hE hM hV hD; clear hD
   exact sLe
  ·intro vs W1 m1 hE hM hV hD; clear hD
   exact sFe
  ·intro vs W1 m1 hE hM hV hD; obtain ⟨⟨_, _, -, -, f6⟩, -⟩ := hD
   rw [(f6 : vs 6 = _)]; clear f6; exact sLe
  ·intro vs W1 m1 hE hM hV hD; clear hD
   exact sPw
  ·intro vs W1 m1 hE hM hV hD; obtain ⟨⟨_, _, -, -, f7⟩, ⟨_, _, -, -, f8⟩, -⟩ := hD
   rw [(f7 : vs 7 = _), (f8 : vs 8 = _)]; clear f7 f8; exact sIy
  ·intro vs W1 m1 hE hM hV hD; obtain ⟨⟨_, _, -, -, f9⟩, -⟩ := hD
   rw [(f9 : vs 9 = _)]; clear f9; exact sFe
  ·intro vs W1 m1 hE hM hV hD; obtain ⟨⟨_, _, -, -, f10⟩, -⟩ := hD
   rw [(f10 : vs 10 = _)]; clear f10; exact sLe
  ·intro vs W1 m1 hE hM hV hD; obtain ⟨⟨_, _, -, -, f11⟩, -⟩ := hD
   rw [(f11 : vs 11 = _)]
   clear f11
   go_wp2_with fail
   refine (e_Operated s _ ds _ _ hV (DutsL.le HD.out leX) (by rw [HND.out]; exact H3.out) H4.out).mono ?_
   rintro e W2 ⟨v, m2, rfl, hE2, hM2, hV2, h⟩
   go_wp2_with fail
   refine One2.call hE2 hM2 hV2 ?_; first | exact h | exact rfl
  ·intro vs W1 m1 hE hM hV hD; obtain ⟨⟨_, _, -, -, f5⟩, ⟨_, _, -, i12, f12⟩, -, -⟩ := hD
   rw [(f5 : vs 5 = _)]
   clear f5
   have f12 : IntL _ (vs 12) (opF ds) := f12
   replace f12 := f12.le i12.le
   clear i12
   go_wp2_with fail
   refine (KE.out _ _ _ hV leX f12).mono ?_
   rintro e W2 ⟨v, m2, rfl, hE2, hM2, hV2, h⟩
   go_wp2_with fail
   refine One2.call hE2 hM2 hV2 ?_; first | exact h | exact rfl
 case l1 =>
  refine ⟨nF, nF, nF, nF, nF, nF, nF, nF, nF, trivial⟩
 intro vs W1 m1 hE hM hV hF hD
 clear hD
 obtain ⟨-, -, -, -, -, -, -, ⟨_, _, -, i12, f12⟩, ⟨_, _, -, -, f13⟩, -⟩ := hF
 replace hL := hL.call hE hM hV
 replace f12 : IntL _ (vs 12) (opF ds) := f12
 replace f12 := f12.le i12.le
 clear i12
 have f13 : vs 13 = _ := f13
 generalize vs 13 = x13 at f13 ⊢
 subst x13
 clear hE hV
 simp only [List.drop_succ_cons, List.drop_zero]
 go_wp2_with (first | go_skip | refine tP ?_)
 refine QN.mk ?_
 go_wp2_with (first | go_skip | refine tP ?_)
 go_ret
 exact RetV.mk hL rfl

theorem b_bad (bm : Nat) (B : Option Addr) (nc cb : Nat) (pen : Int) (cols : List Col) (rws : List Int) (j : Nat) (x : Col) (w m : World) (hV : Vw m w) (h5 : m.cell? ⟨bm, 2, none⟩ = some (.int .i64 pen))
  (h3 : m.cell? ⟨bm, 3, none⟩ = some (.slice B nc cb)) (h4 : ColL m (.slice B nc cb) cols) (hn : cols.length = nc) (hx : cols[j]? = some x) (hok : ColOk rws x) :
  Calls Tryz.prog 173 #[.int .i64 (j : Int), .pointer (some ⟨bm, 0, none⟩)] w (RetV w m fun _ r => r = .bool (decide ((opF x.2.1).length = 1) && decide (pen ≤ x.2.2))) := by
 obtain ⟨s, ds, cost⟩ := x
 have hlt : j < nc := by rw [← hn]; exact (List.getElem?_eq_some_iff.1 hx).1
 obtain ⟨b1, o1, D, cd, rfl, hds, hr1⟩ := ColL.at_ h4 hx
 simp only at hds hr1
 have H3 : Hid (ds.length ≤ 100) := hok.nd
 have H4 : Hid (∀ d ∈ ds, d.length ≤ 100) := hok.nt
 have HD := Lib.hid hds
 simp only
 obtain ⟨rb, hrb⟩ : ∃ rb, rb = (decide ((opF ds).length = 1) && decide (pen ≤ cost)) := ⟨_, rfl⟩
 rw [← hrb]
 have HRB := Lib.hid hrb
 clear hrb
 have KO : Hid (∀ w m', Vw m' w → Le m m' → Calls Tryz.prog 114 #[.agg #[.string s, .slice D ds.length cd]] w (RetV w m' fun m'' r => IntL m'' r (opF ds))) := by
  show ∀ w m', _
  exact fun w m' hV hle => e_Operated s _ ds w m' hV (DutsL.le HD.out hle) H3.out H4.out
 have hL := Loc.start hV
 clear hV hok hds hx hn h4 HD H3 H4
 generalize ds.length = nd at *
 go_enter Tryz.func173, Tryz.ntmps173
 go_wp2_with (first | go_skip | refine tP ?_ | (refine tS ?_; clear hL; intro _ hL) | (refine tB ?_; clear hL; intro _ _ hL _))
 refine (KO.out _ _ hL.vw leX).mono ?_
 rintro e Wc1 ⟨vc1, mc1, rfl, hE, hMc1, hV, hc1⟩
 replace hL := hL.call hE (by assumption) hV; clear hE hV
 obtain ⟨O, co, rfl, -, -⟩ := hc1.lit
 clear KO hc1
 generalize (opF ds).length = no at *
 by_cases h1 : no = 1
 ·subst h1
  by_cases h2 : pen ≤ cost
  ·have h2' : cost ≥ pen := h2
   have HB : Hid (rb = true) := by show _ = _; rw [HRB.out, decide_eq_true h2]; rfl
   go_wp2_with (first | go_skip | refine tP ?_ | (refine tS ?_; clear hL; intro _ hL) | (refine tB ?_; clear hL; intro _ _ hL _))
   go_ret
   exact RetV.mk hL (congrArg Value.bool HB.out.symm)
  ·have h2' : ¬ cost ≥ pen := h2
   have HB : Hid (decide (pen ≤ cost) = rb) := by show _ = _; rw [HRB.out, decide_eq_false h2]; rfl
   go_wp2_with (first | go_skip | refine tP ?_ | (refine tS ?_; clear hL; intro _ hL) | (refine tB ?_; clear hL; intro _ _ hL _))
   go_ret
   exact RetV.mk hL (congrArg Value.bool HB.out)
 ·have h1' : ((no : Int) == 1) = false := by simp; omega
  have HB : Hid (rb = false) := by show _ = _; rw [HRB.out, decide_eq_false h1]; rfl
  clear h1
  go_wp2_with (first | go_skip | refine tP ?_ | (refine tS ?_; clear hL; intro _ hL) | (refine tB ?_; clear hL; intro _ _ hL _))
  go_ret
  exact RetV.mk hL (congrArg Value.bool HB.out.symm)

theorem s_IndexS (v : Value) (xs : List Nat) (p q : Value) (P : Nat → Bool) (w m : World) (hV : Vw m w) (h : IntL m v (natL xs)) (hl : xs.length ≤ 1000)
  (hf : ∀ j, j ∈ xs → ∀ w m', Vw m' w → Le m m' → Calls Tryz.prog 170 #[.int .i64 (j : Int), p, q] w (RetV w m' fun _ r => r = .bool (P j))) :
  Calls Tryz.prog 171 #[v, .func (.func 170) #[] #[p, q]] w (RetV w m fun _ r => r = .int .i64 (idxZ P xs)) := by
 obtain ⟨A, c, rfl, hc, h⟩ := h.lit
 have HF := Lib.hid hf
 rw [natL_len] at h hc ⊢
 obtain ⟨z, hz⟩ : ∃ z, z = idxZ P xs := ⟨_, rfl⟩
 rw [← hz]
 have HZ := Lib.hid hz
 have hL := Loc.start hV
 clear hV hf hz
 generalize hn : xs.length = n at *
 have HN := Lib.hid hn
 clear hn
 go_enter Tryz.func171, Tryz.ntmps171
 go_wp2_with (first | go_skip | refine tP ?_)
 go_loopw [8] (fun i wr => ∃ (k : Nat) (mm : World), k ≤ n ∧ i = .int .i64 k ∧ Loc w m wr mm [] ∧ Hid (k ≤ xs.findIdx P)) (fun i _ => n - (intOf i).toNat)
 case atStart => exact ⟨0, m, Nat.zero_le _, rfl, hL, Nat.zero_le _⟩
 case round =>
  clear hL
  obtain ⟨k, mm, hk, rfl, hL, HJ⟩ := hrel
  have hM := hL.mext
  by_cases hlt : k < n
  ·have hlt' : (k : Int) < (n : Int) := by omega
   obtain ⟨x, hx⟩ := at_some HN hlt
   obtain ⟨b1, o1, rfl, hc1⟩ := IntL.at_ h (natL_at hx)
   have HX := Lib.hid hx
   have KG : Hid (∀ w m', Vw m' w → Le m m' → Calls Tryz.prog 170 #[.int .i64 (x : Int), p, q] w (RetV w m' fun _ r => r = .bool (P x))) := HF.out x (List.mem_of_getElem? hx)
   clear hx
   go_wp2_with (first | go_skip | refine tP ?_)
   refine (KG.out _ _ hL.vw leX).mono ?_
   rintro e Wc2 ⟨_, mc2, rfl, hE, hMc2, hV, rfl⟩
   replace hL := hL.call hE (by assumption) hV; clear hE hV
   by_cases h0 : P x = true
   ·have HE : Hid (z = (k : Int)) := by
     show _ = _
     have h1 := find_true HX.out HJ.out h0
     rw [HZ.out]
     unfold idxZ
     rw [h1, if_pos (by rw [HN.out]; exact hlt)]
    rw [h0]
    clear h0
    go_wp2_with (first | go_skip | refine tP ?_)
    go_ret
    exact RetV.mk hL (congrArg (Value.int .i64) HE.out.symm)
   ·have h0' : P x = false := by simpa using h0
    have HJ2 : Hid (k + 1 ≤ xs.findIdx P) := find_false HX.out HJ.out h0'
    rw [h0']
    clear h0 h0'
    go_wp2_with (first | go_skip | refine tP ?_)
    go_roundw
    case rel => exact ⟨k + 1, _, by omega, by go_num, hL, HJ2.out⟩
    case measure => simp [intOf] <;> omega
  ·have hkn : k = n := by omega
   subst hkn
   have HE : Hid (z = -1) := by
    show _ = _
    rw [HZ.out]
    unfold idxZ
    rw [if_neg]
    have := HJ.out
    have := HN.out
    omega
   have h9 : (k : Int) ≤ (k : Int) := Int.le_refl _
   go_wp2_with (first | go_skip | refine tP ?_)
   go_ret
   exact RetV.mk hL (congrArg (Value.int .i64) HE.out.symm)
theorem s_IndexB (v : Value) (xs : List Nat) (p : Value) (P : Nat → Bool) (w m : World) (hV : Vw m w) (h : IntL m v (natL xs)) (hl : xs.length ≤ 1000)
  (hf : ∀ j, j ∈ xs → ∀ w m', Vw m' w → Le m m' → Calls Tryz.prog 173 #[.int .i64 (j : Int), p] w (RetV w m' fun _ r => r = .bool (P j))) :
  Calls Tryz.prog 171 #[v, .func (.func 173) #[] #[p]] w (RetV w m fun _ r => r = .int .i64 (idxZ P xs)) := by
 obtain ⟨A, c, rfl, hc, h⟩ := h.lit
 have HF := Lib.hid hf
 rw [natL_len] at h hc ⊢
 obtain ⟨z, hz⟩ : ∃ z, z = idxZ P xs := ⟨_, rfl⟩
 rw [← hz]
 have HZ := Lib.hid hz
 have hL := Loc.start hV
 clear hV hf hz
 generalize hn : xs.length = n at *
 have HN := Lib.hid hn
 clear hn
 go_enter Tryz.func171, Tryz.ntmps171
 go_wp2_with (first | go_skip | refine tP ?_)
 go_loopw [8] (fun i wr => ∃ (k : Nat) (mm : World), k ≤ n ∧ i = .int .i64 k ∧ Loc w m wr mm [] ∧ Hid (k ≤ xs.findIdx P)) (fun i _ => n - (intOf i).toNat)
 case atStart => exact ⟨0, m, Nat.zero_le _, rfl, hL, Nat.zero_le _⟩
 case round =>
  clear hL
  obtain ⟨k, mm, hk, rfl, hL, HJ⟩ := hrel
  have hM := hL.mext
  by_cases hlt : k < n
  ·have hlt' : (k : Int) < (n : Int) := by omega
   obtain ⟨x, hx⟩ := at_some HN hlt
   obtain ⟨b1, o1, rfl, hc1⟩ := IntL.at_ h (natL_at hx)
   have HX := Lib.hid hx
   have KG : Hid (∀ w m', Vw m' w → Le m m' → Calls Tryz.prog 173 #[.int .i64 (x : Int), p] w (RetV w m' fun _ r => r = .bool (P x))) := HF.out x (List.mem_of_getElem? hx)
   clear hx
   go_wp2_with (first | go_skip | refine tP ?_)
   refine (KG.out _ _ hL.vw leX).mono ?_
   rintro e Wc2 ⟨_, mc2, rfl, hE, hMc2, hV, rfl⟩
   replace hL := hL.call hE (by assumption) hV; clear hE hV
   by_cases h0 : P x = true
   ·have HE : Hid (z = (k : Int)) := by
     show _ = _
     have h1 := find_true HX.out HJ.out h0
     rw [HZ.out]
     unfold idxZ
     rw [h1, if_pos (by rw [HN.out]; exact hlt)]
    rw [h0]
    clear h0
    go_wp2_with (first | go_skip | refine tP ?_)
    go_ret
    exact RetV.mk hL (congrArg (Value.int .i64) HE.out.symm)
   ·have h0' : P x = false := by simpa using h0
    have HJ2 : Hid (k + 1 ≤ xs.findIdx P) := find_false HX.out HJ.out h0'
    rw [h0']
    clear h0 h0'
    go_wp2_with (first | go_skip | refine tP ?_)
    go_roundw
    case rel => exact ⟨k + 1, _, by omega, by go_num, hL, HJ2.out⟩
    case measure => simp [intOf] <;> omega
  ·have hkn : k = n := by omega
   subst hkn
   have HE : Hid (z = -1) := by
    show _ = _
    rw [HZ.out]
    unfold idxZ
    rw [if_neg]
    have := HJ.out
    have := HN.out
    omega
   have h9 : (k : Int) ≤ (k : Int) := Int.le_refl _
   go_wp2_with (first | go_skip | refine tP ?_)
   go_ret
   exact RetV.mk hL (congrArg (Value.int .i64) HE.out.symm)
end Go.Proofs.YtniigfikpfinfaaGreat

/- slices.DeleteFunc of numbers, over a row that lies hidden among the caller's blocks. -/
namespace Go.Proofs.YtniigfikpfinfaaGreat
open Go.RowKit

theorem s_DeleteNil (p : Value) (w m : World) (hV : Vw m w) : Calls Tryz.prog 172 #[.slice none 0 0, .func (.func 173) #[] #[p]] w (RetV w m fun _ r => r = .slice none 0 0) := by
 have hL := Loc.start hV
 clear hV
 have KI : Hid (∀ w m', Vw m' w → Calls Tryz.prog 171 #[.slice none 0 0, .func (.func 173) #[] #[p]] w (RetV w m' fun _ r => r = .int .i64 (-1))) := by
  show ∀ w m', _
  exact fun w m' hV => s_IndexB (.slice none 0 0) [] p (fun _ => false) w m' hV ListV.nil (Nat.zero_le _) (fun _ h => by cases h)
 go_enter Tryz.func172, Tryz.ntmps172
 go_wp2_with (first | go_skip | refine tP ?_ | (refine tS ?_; clear hL; intro _ hL))
 refine (KI.out _ _ hL.vw).mono ?_
 rintro e Wc1 ⟨_, mc1, rfl, hE, hMc1, hV, rfl⟩
 replace hL := hL.call hE (by assumption) hV; clear hE hV
 go_wp2_with (first | go_skip | refine tP ?_ | (refine tS ?_; clear hL; intro _ hL))
 go_ret
 exact RetV.mk hL rfl

theorem s_DeleteI {w0 m0 W m : World} {A : List Lo} {g n cap : Nat} {cur : Array Value} {xs : List Nat} (hL : Loc w0 m0 W m ((g, 3, cur) :: A)) (row : RowA 3 1 IsI m (.slice (some ⟨g, 0, none⟩) n cap) n (natL xs) [(g, 3, cur)]) (hn : n ≤ 1000) (p : Value) (P : Nat → Bool)
  (hf : ∀ j, j ∈ xs → ∀ w m', Vw m' w → Le m m' → Calls Tryz.prog 173 #[.int .i64 (j : Int), p] w (RetV w m' fun _ r => r = .bool (P j))) :
  Calls Tryz.prog 172 #[.slice (some ⟨g, 0, none⟩) n cap, .func (.func 173) #[] #[p]] W (fun e W' => ∃ (m' : World) (n' : Nat) (cur' : Array Value), e = .returned (.slice (some ⟨g, 0, none⟩) n' cap) ∧ Loc w0 m0 W' m' ((g, 3, cur') :: A) ∧ Ext m m' ∧
   RowA 3 1 IsI m' (.slice (some ⟨g, 0, none⟩) n' cap) n' (natL (xs.filter fun x => !P x)) [(g, 3, cur')]) := by
 have hlen : xs.length = n := by have := row.len; rw [natL_len] at this; exact this.symm
 have ROW := Lib.hid row
 have HF := Lib.hid hf
 have hL9 := hL.perm (List.perm_append_comm (l₁ := [(g, 3, cur)]) (l₂ := A))
 obtain ⟨m8, hL8, hle8, hl8, -⟩ := RowA.show (A := A) isI_mono hL9 row
 have KI : Hid (Calls Tryz.prog 171 #[.slice (some ⟨g, 0, none⟩) n cap, .func (.func 173) #[] #[p]] W (RetV W m8 fun _ r => r = .int .i64 (idxZ P xs))) := by
  show Calls _ _ _ _ _
  exact s_IndexB _ xs p P W m8 hL8.vw hl8 (by omega) (fun j hj w m' hV hle => HF.out j hj w m' hV (hle8.trans hle))
 have HN := Lib.hid hlen
 clear row hf hlen hL9 hL8 hle8 hl8
 go_enter Tryz.func172, Tryz.ntmps172
 go_wp2_with (first | go_skip | refine tP ?_ | (refine tS ?_; clear hL; intro _ hL))
 refine KI.out.mono ?_
 rintro e W1 ⟨_, m9, rfl, hE, -, -, rfl⟩
 have hX1 : Ext m (hidTo m W1.heap.size) := hL.again_ext hE
 have hL1 := hL.again hE
 clear hL KI hE
 have hL := hL1
 clear hL1
 obtain ⟨m1, hm1⟩ : ∃ m1, m1 = hidTo m W1.heap.size := ⟨_, rfl⟩
 rw [← hm1] at hL hX1
 have ROW1 : Hid (RowA 3 1 IsI m1 (.slice (some ⟨g, 0, none⟩) n cap) n (natL xs) [(g, 3, cur)]) := RowA.le isI_mono ROW.out hX1.le
 clear hm1 m9 m8
 by_cases hi : xs.findIdx P < xs.length
 ·have hz : idxZ P xs = (xs.findIdx P : Int) := if_pos hi
  have HFI := Lib.hid (DelI.start hi)
  rw [hz]
  have hi0 : xs.findIdx P < n := by rw [← HN.out]; exact hi
  clear hz hi
  generalize xs.findIdx P = i0 at *
  have hne : ((i0 : Int) == -1) = false := by simp
  clear ROW
  go_wp2_with (first | go_skip | refine tP ?_ | (refine tS ?_; clear hL; intro _ hL))
  go_loopw [5, 6] (fun ii kk wr => ∃ (i k : Nat) (mm : World) (ys : List Nat) (cur' : Array Value), ii = .int .i64 i ∧ kk = .int .i64 k ∧ k ≤ n ∧ Loc w0 m0 wr mm ((g, 3, cur') :: A) ∧ Ext m mm ∧ Hid (RowA 3 1 IsI mm (.slice (some ⟨g, 0, none⟩) n cap) n (natL ys) [(g, 3, cur')]) ∧ Hid (DelI P xs ys i k)) (fun _ kk _ => n - (intOf kk).toNat)
  case atStart => exact ⟨i0, i0 + 1, _, xs, cur, rfl, by go_num, by omega, hL, hX1, ROW1.out, HFI.out⟩
  case round =>
   clear hL hX1 ROW1 HFI hne
   obtain ⟨i, k, mm, ys, cur', rfl, rfl, hk, hL, hX, ROW, HD⟩ := hrel
   have hik := HD.out.lt
   by_cases hlt : k < n
   ·have hlt' : (k : Int) < (n : Int) := by omega
    obtain ⟨x, hx⟩ := at_some HN hlt
    have hcell := row_int ROW.out (natL_at (HD.out.at_ hx))
    have hfit : 0 + i < cur'.size := by have h1 := ROW.out.fit; omega
    have hin : i < n := by omega
    have KG : Hid (∀ w m', Vw m' w → Le mm m' → Calls Tryz.prog 173 #[.int .i64 (x : Int), p] w (RetV w m' fun _ r => r = .bool (P x))) := by
     show ∀ w m', _
     exact fun w m' hV hle => HF.out x (List.mem_of_getElem? hx) w m' hV (hX.le.trans hle)
    have HX := Lib.hid hx
    clear hx
    go_wp2_with (first | (refine wl_load1 hL (wanted_none rfl) rfl rfl lb_int (n := 0) rfl hcell ?_; simp only [Act.put, zq1, zq2, zq3]) | (first | go_skip | refine tP ?_ | (refine tS ?_; clear hL; intro _ hL)))
    refine (KG.out _ _ hL.vw leX).mono ?_
    rintro e Wc2 ⟨_, mc2, rfl, hE, hMc2, hV, rfl⟩
    replace hL := hL.call hE (by assumption) hV; clear hE hV
    by_cases h0 : P x = true
    ·have HD2 := Lib.hid (HD.out.skip HX.out h0)
     rw [h0]
     clear h0
     go_wp2_with (first | go_skip | refine tP ?_ | (refine tS ?_; clear hL; intro _ hL))
     go_roundw
     case rel => exact ⟨i, k + 1, _, ys, cur', rfl, by go_num, by omega, hL, hX.trans exX, RowA.le isI_mono ROW.out leX, HD2.out⟩
     case measure => simp [intOf] <;> omega
    ·have h0' : P x = false := by simpa using h0
     have HD2 := Lib.hid (HD.out.keep HX.out h0')
     rw [h0']
     clear h0 h0'
     go_wp2_with (first | (with_reducible refine stS ?_) | (first | go_skip | refine tP ?_ | (refine tS ?_; clear hL; intro _ hL)))
     refine goA ?_
     refine wl_store1 hL (wanted_none rfl) (v := .int .i64 (x : Int)) (off := 0 + i) rfl rfl rfl lb_int (n := 0) rfl hfit rfl rfl ?_
     have ra := RowA.putI (k := i) (x := (x : Int)) (RowA.le isI_mono ROW.out (leX : Le mm mc2))
     rw [natL_set] at ra
     clear hL
     intro W6 hL
     simp only [List.set_cons_zero] at hL
     have RA := Lib.hid ra
     clear ra hcell hfit ROW
     simp only [Act.put, zq1, zq2, zq3]
     go_wp2_with (first | go_skip | refine tP ?_ | (refine tS ?_; clear hL; intro _ hL))
     go_roundw
     case rel => exact ⟨i + 1, k + 1, _, _, _, by go_num, by go_num, by omega, hL, hX.trans exX, RA.out, HD2.out⟩
     case measure => simp [intOf] <;> omega
   ·have hkn : k = n := by omega
    subst hkn
    have h9 : (k : Int) ≤ (k : Int) := Int.le_refl _
    obtain ⟨hcap, hcsz⟩ := ROW.out.capd
    have hic : i ≠ cap := by omega
    have hbk := hL.at_ (n := 0) rfl
    have hsz : i + (k - i) * 1 ≤ cur'.size := by rw [hcsz]; omega
    have hcl : ∀ ty, (Builtin.clear_ #[22] ty #[.slice (some ⟨g, i, none⟩) (k - i) (cap - i)]).run Tryz.prog wr = .ok (.tuple #[]) (wr.setCells g i (Builtin.zeroCells #[.int .i64 0] (k - i)).toList) := run_clearB hbk (by omega) Tryz.underlying22 zc_I rfl hsz
    have hL9 := hL.store (n := 0) rfl i (Builtin.zeroCells #[.int .i64 0] (k - i)).toList
    simp only [List.set_cons_zero] at hL9
    have HR : Hid (RowA 3 1 IsI mm (.slice (some ⟨g, 0, none⟩) i cap) i (natL (xs.filter fun x => !P x)) [(g, 3, splice cur' i (Builtin.zeroCells #[.int .i64 0] (k - i)).toList)]) := by
     have h1 := RowA.cut (i := i) (cur2 := splice cur' i (Builtin.zeroCells #[.int .i64 0] (k - i)).toList) ROW.out (by omega) (by rw [splice_size]) (fun j hj => by
      rw [splice_at _ _ _ (by rw [zero_len]; exact hsz), if_neg (by omega)])
     have h2 := HD.out
     rw [← HN.out] at h2
     have h3 := h2.done
     unfold natL at h1 ⊢
     rw [← List.map_take, h3] at h1
     exact h1
    have HL9 := Lib.hid hL9
    generalize wr.setCells g i (Builtin.zeroCells #[.int .i64 0] (k - i)).toList = W9 at *
    generalize splice cur' i (Builtin.zeroCells #[.int .i64 0] (k - i)).toList = cur9 at *
    clear hbk hsz hL9 ROW HD
    go_wp2_with (first | go_skip | refine tP ?_ | (refine tS ?_; clear hL; intro _ hL))
    go_ret
    exact ⟨mm, i, cur9, rfl, HL9.out, hX, HR.out⟩
 ·have hz : idxZ P xs = -1 := if_neg hi
  have HE : Hid ((xs.filter fun x => !P x) = xs) := del_none (by have := find_le P xs; omega)
  rw [hz]
  clear hz hi
  go_wp2_with (first | go_skip | refine tP ?_ | (refine tS ?_; clear hL; intro _ hL))
  go_ret
  exact ⟨_, n, cur, rfl, hL, hX1, by rw [HE.out]; exact ROW1.out⟩
end Go.Proofs.YtniigfikpfinfaaGreat

/- slices.Sort of at most six numbers, over a row that lies hidden among the caller's blocks. -/
namespace Go.Proofs.YtniigfikpfinfaaGreat
open Go.RowKit

theorem less_w (x y : Int) (w m : World) (hV : Vw m w) : Calls Tryz.prog 176 #[.int .i64 x, .int .i64 y] w (RetV w m fun _ r => r = .bool (decide (x < y))) := by
 have h1 := nan_w x w
 have h2 := nan_w y w
 generalize hz : decide (x < y) = z
 go_enter Tryz.func176, Tryz.ntmps176
 go_wp2_with (go_at_call 191; first | (refine h1.mono ?_; rintro e w' ⟨rfl, rfl⟩) | (refine h2.mono ?_; rintro e w' ⟨rfl, rfl⟩))
 go_ret
 exact ⟨_, m, rfl, Ext.refl _, Ext.refl _, hV, rfl⟩
theorem bits_w (k : Nat) (hk : k ≤ 6) (w m : World) (hV : Vw m w) : Calls Tryz.prog 190 #[.int .u64 (k : Int)] w (RetV w m fun _ r => ∃ z, r = .int .i64 z) := by
 have hL := Loc.start hV
 clear hV
 have K : Hid (∀ k : Nat, k ≤ 6 → ∀ w m, Vw m w → Calls Tryz.prog 227 #[.int .u64 (k : Int)] w (RetV w m fun _ r => ∃ z, r = .int .i64 z)) := by
  show ∀ k, _
  intro k hk w m hV
  have hL := Loc.start hV
  obtain rfl | rfl | rfl | rfl | rfl | rfl | rfl : k = 0 ∨ k = 1 ∨ k = 2 ∨ k = 3 ∨ k = 4 ∨ k = 5 ∨ k = 6 := by omega
  all_goals
   go_enter Tryz.func227, Tryz.ntmps227
   go_wp2
   go_ret
   exact RetV.mk hL ⟨_, rfl⟩
 go_enter Tryz.func190, Tryz.ntmps190
 go_wp2_with (first | go_skip | refine tP ?_)
 refine (K.out k hk _ _ hL.vw).mono ?_
 rintro e W1 ⟨_, m1, rfl, hE, hM1, hV, z, rfl⟩
 replace hL := hL.call hE (by assumption) hV; clear hE hV
 go_wp2_with (first | go_skip | refine tP ?_)
 go_ret
 exact RetV.mk hL ⟨_, rfl⟩

theorem s_InsI {w0 m0 W m : World} {A : List Lo} {g n cap : Nat} {cur : Array Value} {xs : List Nat} (hL : Loc w0 m0 W m ((g, 3, cur) :: A)) (row : RowA 3 1 IsI m (.slice (some ⟨g, 0, none⟩) n cap) n (natL xs) [(g, 3, cur)]) (hn1 : 1 ≤ n) (hn : n ≤ 1000) :
  Calls Tryz.prog 253 #[.slice (some ⟨g, 0, none⟩) n cap, .int .i64 0, .int .i64 n] W (fun e W' => ∃ (m' : World) (cur' : Array Value) (ys : List Nat), (∃ v, e = .returned v) ∧ Loc w0 m0 W' m' ((g, 3, cur') :: A) ∧ Ext m m' ∧
   RowA 3 1 IsI m' (.slice (some ⟨g, 0, none⟩) n cap) n (natL ys) [(g, 3, cur')] ∧ ys.Perm xs ∧ SortI ys n) := by
 have hlen : xs.length = n := by have := row.len; rw [natL_len] at this; exact this.symm
 have HN := Lib.hid hlen
 have ROW := Lib.hid row
 have hX0 : Ext m m := Ext.refl _
 have KL : Hid (∀ a b w m, Vw m w → Calls Tryz.prog 176 #[.int .i64 a, .int .i64 b] w (RetV w m fun _ r => r = .bool (decide (a < b)))) := less_w
 clear row hlen
 go_enter Tryz.func253, Tryz.ntmps253
 go_wp2_with (first | go_skip | refine tP ?_ | (refine tS ?_; clear hL; intro _ hL))
 go_loopw [6] (fun iv wr => ∃ (i : Nat) (mm : World) (cur' : Array Value) (ys : List Nat), 1 ≤ i ∧ i ≤ n ∧ iv = .int .i64 i ∧ Loc w0 m0 wr mm ((g, 3, cur') :: A) ∧ Ext m mm ∧ Hid (RowA 3 1 IsI mm (.slice (some ⟨g, 0, none⟩) n cap) n (natL ys) [(g, 3, cur')]) ∧ Hid (ys.Perm xs) ∧ Hid (SortI ys i)) (fun iv _ => n - (intOf iv).toNat)
 case atStart => exact ⟨1, m, cur, xs, by omega, hn1, by go_num, hL, hX0, ROW.out, List.Perm.refl _, SortI.one _⟩
 case round =>
  clear hL hX0 ROW
  obtain ⟨i, mm, cur1, ys0, hi1, hi, rfl, hL, hX, ROW1, HP0, HS0⟩ := hrel
  by_cases hlt : i < n
  ·have hlt' : (i : Int) < (n : Int) := by omega
   have HM0 : Hid (MidI ys0 i i) := MidI.start HS0.out
   clear HS0
   go_wp2_with (first | go_skip | refine tP ?_ | (refine tS ?_; clear hL; intro _ hL))
   go_loopw [7] (fun jv wr => ∃ (j : Nat) (m2 : World) (ys : List Nat) (cur2 : Array Value), j ≤ i ∧ jv = .int .i64 j ∧ Loc w0 m0 wr m2 ((g, 3, cur2) :: A) ∧ Hid (Ext m m2) ∧ Hid (RowA 3 1 IsI m2 (.slice (some ⟨g, 0, none⟩) n cap) n (natL ys) [(g, 3, cur2)]) ∧ Hid (ys.Perm xs) ∧ Hid (MidI ys i j)) (fun jv _ => (intOf jv).toNat)
   case atStart => exact ⟨i, _, ys0, cur1, Nat.le_refl _, rfl, hL, hX, ROW1.out, HP0.out, HM0.out⟩
   case round =>
    clear hL ROW1 HP0 HM0 hX
    obtain ⟨j, m2, ys, cur2, hj, rfl, hL, HX2, ROW2, HP, HM⟩ := hrel
    have hX := HX2.out
    by_cases hj0 : j = 0
    ·subst hj0
     have HS2 : Hid (SortI ys (i + 1)) := HM.out.stop0
     clear HM
     go_upto_region 4 with ((first | go_skip | refine tP ?_ | (refine tS ?_; clear hL; intro _ hL)))
     (try simp only [eq_self] at *)
     refine wp_region_by2 15 [false, false, false, false, false, false, false, false, false, false, false, false, false, false, false] [false, false, false, false, false, false, false, false, false, false, false, false, false, false, false] [(fun v _ _ => v = ?c4_0a), (fun v _ _ => v = ?c4_1a), (fun v _ _ => v = ?c4_2a), (fun v _ _ => v = ?c4_3a), (fun v _ _ => v = ?c4_4a), (fun v _ _ => v = ?c4_5a), (fun v _ _ => v = ?c4_6a), (fun v _ _ => v = ?c4_7a), (fun v _ _ => v = ?c4_8a), (fun v _ _ => v = ?c4_9a), (fun v _ _ => v = ?c4_10a), (fun v _ _ => v = ?c4_11a), (fun v _ _ => v = ?c4_12a), (fun v _ _ => v = ?c4_13a), (fun v _ _ => v = ?c4_14a)] hL.vw mixed [16, 17, 18, 19, 20, 21, 22, 23, 24, 25, 26, 27, 28, 29, 30] _ (by kernel_rfl) (fun vs => by simp only [lay, Act.put, zq1, zq2, zq3]; rfl) (by kernel_rfl) (by decide) (by decide) ?s4a ?l4a ?r4a
     case s4a =>
      refine ⟨?_, ?_, ?_, ?_, ?_, ?_, ?_, ?_, ?_, ?_, ?_, ?_, ?_, ?_, ?_, trivial⟩
      ·intro vs W1 m1 hE hM hV hD; clear hD
       exact sPw
      ·intro vs W1 m1 hE hM hV hD; clear hD
       exact sPw
      ·intro vs W1 m1 hE hM hV hD; obtain ⟨⟨_, _, -, -, f16⟩, ⟨_, _, -, -, f17⟩, -⟩ := hD
       rw [(f16 : vs 16 = _), (f17 : vs 17 = _)]; clear f16 f17; exact sPw
      ·intro vs W1 m1 hE hM hV hD; obtain ⟨⟨_, _, -, -, f18⟩, -⟩ := hD
       rw [(f18 : vs 18 = _)]; clear f18; exact sPw
      ·intro vs W1 m1 hE hM hV hD; obtain ⟨⟨_, _, -, -, f19⟩, -⟩ := hD
       rw [(f19 : vs 19 = _)]; clear f19; exact sPw
      ·intro vs W1 m1 hE hM hV hD; obtain ⟨⟨_, _, -, -, f19⟩, -⟩ := hD
       rw [(f19 : vs 19 = _)]; clear f19; exact sPw
      ·intro vs W1 m1 hE hM hV hD; obtain ⟨⟨_, _, -, -, f20⟩, ⟨_, _, -, -, f21⟩, ⟨_, _, -, -, f19⟩, -⟩ := hD
       rw [(f20 : vs 20 = _), (f21 : vs 21 = _), (f19 : vs 19 = _)]; clear f20 f21 f19; exact sPw
      ·intro vs W1 m1 hE hM hV hD; obtain ⟨⟨_, _, -, -, f22⟩, ⟨_, _, -, -, f19⟩, -⟩ := hD
       rw [(f22 : vs 22 = _), (f19 : vs 19 = _)]; clear f22 f19; exact sPw
      ·intro vs W1 m1 hE hM hV hD; obtain ⟨⟨_, _, -, -, f19⟩, -⟩ := hD
       rw [(f19 : vs 19 = _)]; clear f19; exact sPw
      ·intro vs W1 m1 hE hM hV hD; obtain ⟨⟨_, _, -, -, f19⟩, -⟩ := hD
       rw [(f19 : vs 19 = _)]; clear f19; exact sPw
      ·intro vs W1 m1 hE hM hV hD; obtain ⟨⟨_, _, -, -, f25⟩, ⟨_, _, -, -, f19⟩, -⟩ := hD
       rw [(f25 : vs 25 = _), (f19 : vs 19 = _)]; clear f25 f19; exact sPw
      ·intro vs W1 m1 hE hM hV hD; obtain ⟨⟨_, _, -, -, f24⟩, ⟨_, _, -, -, f26⟩, ⟨_, _, -, -, f19⟩, -⟩ := hD
       rw [(f24 : vs 24 = _), (f26 : vs 26 = _), (f19 : vs 19 = _)]; clear f24 f26 f19; exact sPw
      ·intro vs W1 m1 hE hM hV hD; obtain ⟨⟨_, _, -, -, f27⟩, ⟨_, _, -, -, f19⟩, -⟩ := hD
       rw [(f27 : vs 27 = _), (f19 : vs 19 = _)]; clear f27 f19; exact sPw
      ·intro vs W1 m1 hE hM hV hD; obtain ⟨⟨_, _, -, -, f23⟩, ⟨_, _, -, -, f28⟩, ⟨_, _, -, -, f19⟩, -, -⟩ := hD
       rw [(f23 : vs 23 = _), (f28 : vs 28 = _), (f19 : vs 19 = _)]; clear f23 f28 f19; exact sPw
      ·intro vs W1 m1 hE hM hV hD; obtain ⟨⟨_, _, -, -, f19⟩, ⟨_, _, -, -, f29⟩, -⟩ := hD
       rw [(f19 : vs 19 = _), (f29 : vs 29 = _)]; clear f19 f29; exact sPw
     case l4a =>
      refine ⟨nF, nF, nF, nF, nF, nF, nF, nF, nF, nF, nF, nF, nF, nF, nF, trivial⟩
     intro vs W1 m1 hE hM hV hF hD
     clear hD
     obtain ⟨⟨_, _, -, -, f16⟩, ⟨_, _, -, -, f17⟩, ⟨_, _, -, -, f18⟩, ⟨_, _, -, -, f19⟩, ⟨_, _, -, -, f20⟩, ⟨_, _, -, -, f21⟩, ⟨_, _, -, -, f22⟩, ⟨_, _, -, -, f23⟩, ⟨_, _, -, -, f24⟩, ⟨_, _, -, -, f25⟩, ⟨_, _, -, -, f26⟩, ⟨_, _, -, -, f27⟩, ⟨_, _, -, -, f28⟩, ⟨_, _, -, -, f29⟩, ⟨_, _, -, -, f30⟩, -⟩ := hF
     replace hL := hL.call hE hM hV
     have f16 : vs 16 = _ := f16
     generalize vs 16 = x16 at f16 ⊢
     subst x16
     have f17 : vs 17 = _ := f17
     generalize vs 17 = x17 at f17 ⊢
     subst x17
     have f18 : vs 18 = _ := f18
     generalize vs 18 = x18 at f18 ⊢
     subst x18
     have f19 : vs 19 = _ := f19
     generalize vs 19 = x19 at f19 ⊢
     subst x19
     have f20 : vs 20 = _ := f20
     generalize vs 20 = x20 at f20 ⊢
     subst x20
     have f21 : vs 21 = _ := f21
     generalize vs 21 = x21 at f21 ⊢
     subst x21
     have f22 : vs 22 = _ := f22
     generalize vs 22 = x22 at f22 ⊢
     subst x22
     have f23 : vs 23 = _ := f23
     generalize vs 23 = x23 at f23 ⊢
     subst x23
     have f24 : vs 24 = _ := f24
     generalize vs 24 = x24 at f24 ⊢
     subst x24
     have f25 : vs 25 = _ := f25
     generalize vs 25 = x25 at f25 ⊢
     subst x25
     have f26 : vs 26 = _ := f26
     generalize vs 26 = x26 at f26 ⊢
     subst x26
     have f27 : vs 27 = _ := f27
     generalize vs 27 = x27 at f27 ⊢
     subst x27
     have f28 : vs 28 = _ := f28
     generalize vs 28 = x28 at f28 ⊢
     subst x28
     have f29 : vs 29 = _ := f29
     generalize vs 29 = x29 at f29 ⊢
     subst x29
     have f30 : vs 30 = _ := f30
     generalize vs 30 = x30 at f30 ⊢
     subst x30
     clear hE hV
     simp only [List.drop_succ_cons, List.drop_zero]
     go_wp2_with (first | go_skip | refine tP ?_ | (refine tS ?_; clear hL; intro _ hL))
     refine QN.mk ?_
     go_wp2_with (first | go_skip | refine tP ?_ | (refine tS ?_; clear hL; intro _ hL))
     go_roundw
     case rel => exact ⟨i + 1, _, _, ys, by omega, by omega, by go_num, hL, exX, RowA.le isI_mono ROW2.out leX, HP.out, HS2.out⟩
     case measure => simp [intOf] <;> omega
    ·obtain ⟨j1, hj1⟩ : ∃ j1, j1 + 1 = j := ⟨j - 1, by omega⟩
     have HYN : Hid (ys.length = n) := HP.out.length_eq.trans HN.out
     have hjn : j < n := by omega
     have hjn1 : j1 < n := by omega
     obtain ⟨xa, hxa⟩ := at_some HYN hjn
     obtain ⟨xb, hxb⟩ := at_some HYN hjn1
     have hca := row_int ROW2.out (natL_at hxa)
     have hcb := row_int ROW2.out (natL_at hxb)
     have hjd : decide (0 < j) = true := decide_eq_true (by omega)
     have hjp : decide ((0 : Int) < (j : Int)) = true := decide_eq_true (by omega)
     have hw1 : wrap64 ((j : Int) - 1) = (j1 : Int) := by unfold wrap64; omega
     have hw2 : (j : Int) - 1 = (j1 : Int) := by omega
     have hw3 : IntKind.i64.wrap ((j : Int) - 1) = (j1 : Int) := by rw [IntKind.wrap_i64]; omega
     have HJ := Lib.hid hj1
     have HXA := Lib.hid hxa
     have HXB := Lib.hid hxb
     have HST : Hid (¬ xa < xb → SortI ys (i + 1)) := by
      show _ → _
      intro h
      have hm := HM.out
      rw [← hj1] at hm hxa
      exact hm.stop hxa hxb h
     have HGO : Hid (xa < xb → MidI ((ys.set j xb).set j1 xa) i j1) := by
      show _ → _
      intro h
      have hm := HM.out
      have hx := hxa
      rw [← hj1] at hm hx ⊢
      exact hm.go hx hxb h (by omega)
     have HPP : Hid (((ys.set j xb).set j1 xa).Perm xs) := (swap_perm hxa hxb).trans HP.out
     obtain ⟨bl, hbl⟩ : ∃ bl, bl = decide ((xa : Int) < (xb : Int)) := ⟨_, rfl⟩
     have KC : Hid (∀ w m', Vw m' w → Calls Tryz.prog 176 #[.int .i64 (xa : Int), .int .i64 (xb : Int)] w (RetV w m' fun _ r => r = .bool bl)) := by
      show ∀ w m', _
      intro w m' hV
      rw [hbl]
      exact KL.out _ _ w m' hV
     have hfj : j < cur2.size := by have h1 := ROW2.out.fit; omega
     have hfj1 : j1 < cur2.size := by have h1 := ROW2.out.fit; omega
     clear hxa hxb hj1 hj0 HM HP
     by_cases hc : xa < xb
     ·have HMG := Lib.hid (HGO.out hc)
      obtain rfl : bl = true := hbl.trans (decide_eq_true (by omega))
      clear hbl hc HST HGO
      have HFJ := Lib.hid hfj
      have HFJ1 := Lib.hid hfj1
      clear hfj hfj1
      go_upto_region 4 with ((first | go_skip | refine tP ?_ | (refine tS ?_; clear hL; intro _ hL)))
      (try simp only [eq_self] at *)
      refine wp_region_by2 15 [false, false, false, false, false, false, false, false, false, false, false, false, false, false, false] [false, false, false, false, false, false, false, false, false, false, false, false, false, false, false] [(fun v _ _ => v = ?c4_0b), (fun v _ _ => v = ?c4_1b), (fun v _ _ => v = ?c4_2b), (fun v _ _ => v = ?c4_3b), (fun v _ _ => v = ?c4_4b), (fun v _ _ => v = ?c4_5b), (fun v _ _ => v = ?c4_6b), Is (.int .i64 (xa : Int)), (fun v _ _ => v = ?c4_8b), (fun v _ _ => v = ?c4_9b), (fun v _ _ => v = ?c4_10b), (fun v _ _ => v = ?c4_11b), Is (.int .i64 (xb : Int)), Is (.bool true), (fun v _ _ => v = ?c4_14b)] hL.vw mixed [16, 17, 18, 19, 20, 21, 22, 23, 24, 25, 26, 27, 28, 29, 30] _ (by kernel_rfl) (fun vs => by simp only [lay, Act.put, zq1, zq2, zq3]; rfl) (by kernel_rfl) (by decide) (by decide) ?s4b ?l4b ?r4b
      case s4b =>
       refine ⟨?_, ?_, ?_, ?_, ?_, ?_, ?_, ?_, ?_, ?_, ?_, ?_, ?_, ?_, ?_, trivial⟩
       ·intro vs W1 m1 hE hM hV hD; clear hD
        exact sPw
       ·intro vs W1 m1 hE hM hV hD; clear hD
        exact sPw
       ·intro vs W1 m1 hE hM hV hD; obtain ⟨⟨_, _, -, -, f16⟩, ⟨_, _, -, -, f17⟩, -⟩ := hD
        rw [(f16 : vs 16 = _), (f17 : vs 17 = _)]; clear f16 f17; exact sPw
       ·intro vs W1 m1 hE hM hV hD; obtain ⟨⟨_, _, -, -, f18⟩, -⟩ := hD
        rw [(f18 : vs 18 = _)]; clear f18; exact sPw
       ·intro vs W1 m1 hE hM hV hD; obtain ⟨⟨_, _, -, -, f19⟩, -⟩ := hD
        rw [(f19 : vs 19 = _)]; clear f19; exact sPw
       ·intro vs W1 m1 hE hM hV hD; obtain ⟨⟨_, _, -, -, f19⟩, -⟩ := hD
        rw [(f19 : vs 19 = _)]; clear f19; exact sPw
       ·intro vs W1 m1 hE hM hV hD; obtain ⟨⟨_, _, -, -, f20⟩, ⟨_, _, -, -, f21⟩, ⟨_, _, -, -, f19⟩, -⟩ := hD
        rw [(f20 : vs 20 = _), (f21 : vs 21 = _), (f19 : vs 19 = _)]; clear f20 f21 f19; exact sIy
       ·intro vs W1 m1 hE hM hV hD; obtain ⟨⟨_, _, -, -, f22⟩, ⟨_, _, -, -, f19⟩, -⟩ := hD
        rw [(f22 : vs 22 = _), (f19 : vs 19 = _)]
        clear f22 f19
        (replace hL := hL.call hE hM hV; refine wl_load1 hL (by first | exact wanted_none rfl | exact wanted_some rfl rfl rfl rfl) rfl rfl lb_int (n := 0) rfl hca ?_; simp only [Act.put, zq1, zq2, zq3]; refine One2.still hV ?_; exact rfl)
       ·intro vs W1 m1 hE hM hV hD; obtain ⟨⟨_, _, -, -, f19⟩, -⟩ := hD
        rw [(f19 : vs 19 = _)]; clear f19; exact sPw
       ·intro vs W1 m1 hE hM hV hD; obtain ⟨⟨_, _, -, -, f19⟩, -⟩ := hD
        rw [(f19 : vs 19 = _)]; clear f19; exact sPw
       ·intro vs W1 m1 hE hM hV hD; obtain ⟨⟨_, _, -, -, f25⟩, ⟨_, _, -, -, f19⟩, -⟩ := hD
        rw [(f25 : vs 25 = _), (f19 : vs 19 = _)]; clear f25 f19; exact sPw
       ·intro vs W1 m1 hE hM hV hD; obtain ⟨⟨_, _, -, -, f24⟩, ⟨_, _, -, -, f26⟩, ⟨_, _, -, -, f19⟩, -⟩ := hD
        rw [(f24 : vs 24 = _), (f26 : vs 26 = _), (f19 : vs 19 = _)]; clear f24 f26 f19; exact sIy
       ·intro vs W1 m1 hE hM hV hD; obtain ⟨⟨_, _, -, -, f27⟩, ⟨_, _, -, -, f19⟩, -⟩ := hD
        rw [(f27 : vs 27 = _), (f19 : vs 19 = _)]
        clear f27 f19
        (replace hL := hL.call hE hM hV; refine wl_load1 hL (by first | exact wanted_none rfl | exact wanted_some rfl rfl rfl rfl) rfl rfl lb_int (n := 0) rfl hcb ?_; simp only [Act.put, zq1, zq2, zq3]; refine One2.still hV ?_; exact rfl)
       ·intro vs W1 m1 hE hM hV hD; obtain ⟨⟨_, _, -, -, f23⟩, ⟨_, _, -, -, f28⟩, ⟨_, _, -, -, f19⟩, -, -⟩ := hD
        rw [(f23 : vs 23 = _), (f28 : vs 28 = _), (f19 : vs 19 = _)]
        clear f23 f28 f19
        go_wp2_with fail
        refine (KC.out _ _ hV).mono ?_
        rintro e W2 ⟨v, m2, rfl, hE2, hM2, hV2, h⟩
        go_wp2_with fail
        refine One2.call hE2 hM2 hV2 ?_; first | exact h | exact rfl
       ·intro vs W1 m1 hE hM hV hD; obtain ⟨⟨_, _, -, -, f19⟩, ⟨_, _, -, -, f29⟩, -⟩ := hD
        rw [(f19 : vs 19 = _), (f29 : vs 29 = _)]; clear f19 f29; exact sPw
      case l4b =>
       refine ⟨nF, nF, nF, nF, nF, nF, nF, nF, nF, nF, nF, nF, nF, nF, nF, trivial⟩
      intro vs W1 m1 hE hM hV hF hD
      clear hD
      obtain ⟨⟨_, _, -, -, f16⟩, ⟨_, _, -, -, f17⟩, ⟨_, _, -, -, f18⟩, ⟨_, _, -, -, f19⟩, ⟨_, _, -, -, f20⟩, ⟨_, _, -, -, f21⟩, ⟨_, _, -, -, f22⟩, ⟨_, _, -, -, f23⟩, ⟨_, _, -, -, f24⟩, ⟨_, _, -, -, f25⟩, ⟨_, _, -, -, f26⟩, ⟨_, _, -, -, f27⟩, ⟨_, _, -, -, f28⟩, ⟨_, _, -, -, f29⟩, ⟨_, _, -, -, f30⟩, -⟩ := hF
      replace hL := hL.call hE hM hV
      have f16 : vs 16 = _ := f16
      generalize vs 16 = x16 at f16 ⊢
      subst x16
      have f17 : vs 17 = _ := f17
      generalize vs 17 = x17 at f17 ⊢
      subst x17
      have f18 : vs 18 = _ := f18
      generalize vs 18 = x18 at f18 ⊢
      subst x18
      have f19 : vs 19 = _ := f19
      generalize vs 19 = x19 at f19 ⊢
      subst x19
      have f20 : vs 20 = _ := f20
      generalize vs 20 = x20 at f20 ⊢
      subst x20
      have f21 : vs 21 = _ := f21
      generalize vs 21 = x21 at f21 ⊢
      subst x21
      have f22 : vs 22 = _ := f22
      generalize vs 22 = x22 at f22 ⊢
      subst x22
      have f23 : vs 23 = _ := f23
      generalize vs 23 = x23 at f23 ⊢
      subst x23
      have f24 : vs 24 = _ := f24
      generalize vs 24 = x24 at f24 ⊢
      subst x24
      have f25 : vs 25 = _ := f25
      generalize vs 25 = x25 at f25 ⊢
      subst x25
      have f26 : vs 26 = _ := f26
      generalize vs 26 = x26 at f26 ⊢
      subst x26
      have f27 : vs 27 = _ := f27
      generalize vs 27 = x27 at f27 ⊢
      subst x27
      have f28 : vs 28 = _ := f28
      generalize vs 28 = x28 at f28 ⊢
      subst x28
      have f29 : vs 29 = _ := f29
      generalize vs 29 = x29 at f29 ⊢
      subst x29
      have f30 : vs 30 = _ := f30
      generalize vs 30 = x30 at f30 ⊢
      subst x30
      clear hE hV
      simp only [List.drop_succ_cons, List.drop_zero]
      go_wp2_with (first | go_skip | refine tP ?_ | (refine tS ?_; clear hL; intro _ hL))
      refine QN.mk ?_
      have HM1 : Hid (Ext m2 m1) := exX
      have HXB1 := Lib.hid hX
      clear hX
      go_upto_region 6 with ((first | go_skip | refine tP ?_ | (refine tS ?_; clear hL; intro _ hL)))
      (try simp only [eq_self] at *)
      refine wp_region_by2 14 [false, false, false, false, false, false, false, false, false, false, false, false, false, false] [false, false, true, true, true, false, false, false, false, false, false, false, false, false] [(fun v _ _ => v = ?c6_0b), (fun v _ _ => v = ?c6_1b), (fun v _ _ => v = ?c6_2b), (fun v _ _ => v = ?c6_3b), (fun v _ _ => v = ?c6_4b), (fun v _ _ => v = ?c6_5b), (fun v _ _ => v = ?c6_6b), (fun v _ _ => v = ?c6_7b), (fun v _ _ => v = ?c6_8b), Is (.int .i64 (xb : Int)), (fun v _ _ => v = ?c6_10b), (fun v _ _ => v = ?c6_11b), (fun v _ _ => v = ?c6_12b), Is (.int .i64 (xa : Int))] hL.vw mixed [33, 34, 35, 36, 37, 38, 39, 40, 41, 42, 43, 44, 45, 46] _ (by kernel_rfl) (fun vs => by simp only [lay, Act.put, zq1, zq2, zq3]; rfl) (by kernel_rfl) (by decide) (by decide) ?s6b ?l6b ?r6b
      case s6b =>
       refine ⟨?_, ?_, ?_, ?_, ?_, ?_, ?_, ?_, ?_, ?_, ?_, ?_, ?_, ?_, trivial⟩
       ·intro vs W1 m1 hE hM hV hD; clear hD
        exact sPw
       ·intro vs W1 m1 hE hM hV hD; clear hD
        exact sPw
       ·intro vs W1 m1 hE hM hV hD; clear hD
        exact sPw
       ·intro vs W1 m1 hE hM hV hD; clear hD
        exact sPw
       ·intro vs W1 m1 hE hM hV hD; obtain ⟨⟨_, _, -, -, f36⟩, -, -⟩ := hD
        rw [(f36 : vs 36 = _)]; clear f36; exact sPw
       ·intro vs W1 m1 hE hM hV hD; clear hD
        exact sPw
       ·intro vs W1 m1 hE hM hV hD; clear hD
        exact sPw
       ·intro vs W1 m1 hE hM hV hD; obtain ⟨⟨_, _, -, -, f39⟩, -⟩ := hD
        rw [(f39 : vs 39 = _)]; clear f39; exact sPw
       ·intro vs W1 m1 hE hM hV hD; obtain ⟨⟨_, _, -, -, f38⟩, ⟨_, _, -, -, f40⟩, -⟩ := hD
        rw [(f38 : vs 38 = _), (f40 : vs 40 = _)]; clear f38 f40; exact sIy
       ·intro vs W1 m1 hE hM hV hD; obtain ⟨⟨_, _, -, -, f41⟩, -⟩ := hD
        rw [(f41 : vs 41 = _)]
        clear f41
        (replace hL := hL.call hE hM hV; refine wl_load1 hL (by first | exact wanted_none rfl | exact wanted_some rfl rfl rfl rfl) rfl rfl lb_int (n := 0) rfl hcb ?_; simp only [Act.put, zq1, zq2, zq3]; refine One2.still hV ?_; exact rfl)
       ·intro vs W1 m1 hE hM hV hD; clear hD
        exact sPw
       ·intro vs W1 m1 hE hM hV hD; clear hD
        exact sPw
       ·intro vs W1 m1 hE hM hV hD; obtain ⟨⟨_, _, -, -, f43⟩, ⟨_, _, -, -, f44⟩, -⟩ := hD
        rw [(f43 : vs 43 = _), (f44 : vs 44 = _)]; clear f43 f44; exact sIy
       ·intro vs W1 m1 hE hM hV hD; obtain ⟨⟨_, _, -, -, f45⟩, -⟩ := hD
        rw [(f45 : vs 45 = _)]
        clear f45
        (replace hL := hL.call hE hM hV; refine wl_load1 hL (by first | exact wanted_none rfl | exact wanted_some rfl rfl rfl rfl) rfl rfl lb_int (n := 0) rfl hca ?_; simp only [Act.put, zq1, zq2, zq3]; refine One2.still hV ?_; exact rfl)
      case l6b =>
       refine ⟨nF, nF, fun _ => ?_, fun _ => ?_, fun _ => ?_, nF, nF, nF, nF, nF, nF, nF, nF, nF, trivial⟩
       ·intro vs W1 m1 hE hM hV hD; clear hD
        exact ⟨_, Or.inl ⟨(by rfl), fun w => (by rfl)⟩, (by first | exact rfl | exact congrArg (Value.int .i64) hw3)⟩
       ·intro vs W1 m1 hE hM hV hD; clear hD
        exact ⟨_, Or.inl ⟨(by rfl), fun w => (by rfl)⟩, (by first | exact rfl | exact congrArg (Value.int .i64) hw3)⟩
       ·intro vs W1 m1 hE hM hV hD; obtain ⟨⟨_, _, -, -, f36⟩, -, -⟩ := hD
        rw [(f36 : vs 36 = _)]
        clear f36
        exact ⟨_, Or.inl ⟨(by rfl), fun w => (by rfl)⟩, (by first | exact rfl | exact congrArg (Value.int .i64) hw3)⟩
      intro vs W1 m1 hE hM hV hF hD
      clear hD
      obtain ⟨⟨_, _, -, -, f33⟩, ⟨_, _, -, -, f34⟩, ⟨_, _, -, -, f35⟩, -, ⟨_, _, -, -, f37⟩, -, -, -, -, ⟨_, _, -, -, f42⟩, -, -, -, ⟨_, _, -, -, f46⟩, -⟩ := hF
      replace hL := hL.call hE hM hV
      have f33 : vs 33 = _ := f33
      generalize vs 33 = x33 at f33 ⊢
      subst x33
      have f34 : vs 34 = _ := f34
      generalize vs 34 = x34 at f34 ⊢
      subst x34
      have f35 : vs 35 = _ := f35
      generalize vs 35 = x35 at f35 ⊢
      subst x35
      have f37 : vs 37 = _ := f37
      generalize vs 37 = x37 at f37 ⊢
      subst x37
      have f42 : vs 42 = _ := f42
      generalize vs 42 = x42 at f42 ⊢
      subst x42
      have f46 : vs 46 = _ := f46
      generalize vs 46 = x46 at f46 ⊢
      subst x46
      clear hE hV
      simp only [List.drop_succ_cons, List.drop_zero]
      go_wp2_with (first | (with_reducible refine stS ?_) | (first | go_skip | refine tP ?_ | (refine tS ?_; clear hL; intro _ hL)))
      refine goA ?_
      refine wl_store1 hL (wanted_none rfl) (v := .int .i64 (xb : Int)) (off := j) rfl rfl rfl lb_int (n := 0) rfl HFJ.out rfl rfl ?_
      have hra1 := RowA.putI (k := j) (x := (xb : Int)) ROW2.out
      rw [natL_set] at hra1
      simp only [Nat.zero_add] at hra1
      clear hL
      intro W7 hL
      simp only [List.set_cons_zero] at hL
      simp only [Act.put, zq1, zq2, zq3]
      go_wp2_with (first | (with_reducible refine stS ?_) | (first | go_skip | refine tP ?_ | (refine tS ?_; clear hL; intro _ hL)))
      refine goA ?_
      refine wl_store1 hL (wanted_none rfl) (v := .int .i64 (xa : Int)) (off := 0 + j1) rfl rfl rfl lb_int (n := 0) rfl (by rw [splice_size, Nat.zero_add]; exact HFJ1.out) rfl rfl ?_
      have hra2 := RowA.putI (k := j1) (x := (xa : Int)) hra1
      rw [natL_set] at hra2
      clear hL hra1
      intro W8 hL
      simp only [List.set_cons_zero] at hL
      have RA2 := Lib.hid hra2
      clear hra2
      simp only [Act.put, zq1, zq2, zq3]
      go_wp2_with (first | go_skip | refine tP ?_ | (refine tS ?_; clear hL; intro _ hL))
      refine QN.mk ?_
      go_wp2_with (first | go_skip | refine tP ?_ | (refine tS ?_; clear hL; intro _ hL))
      go_roundw
      case rel => exact ⟨j1, _, _, _, by have := HJ.out; omega, by have := HJ.out; go_num, hL, HXB1.out.trans exX, RowA.le isI_mono RA2.out leX, HPP.out, HMG.out⟩
      case measure => have := HJ.out; simp [intOf] <;> omega
     ·have HS2 := Lib.hid (HST.out hc)
      obtain rfl : bl = false := hbl.trans (decide_eq_false (by omega))
      clear hbl hc HST HGO hfj hfj1
      have HPO : Hid (ys.Perm xs) := by
       show _
       have := HPP.out
       exact (swap_perm HXA.out HXB.out).symm.trans this
      go_upto_region 4 with ((first | go_skip | refine tP ?_ | (refine tS ?_; clear hL; intro _ hL)))
      (try simp only [eq_self] at *)
      refine wp_region_by2 15 [false, false, false, false, false, false, false, false, false, false, false, false, false, false, false] [false, false, false, false, false, false, false, false, false, false, false, false, false, false, false] [(fun v _ _ => v = ?c4_0c), (fun v _ _ => v = ?c4_1c), (fun v _ _ => v = ?c4_2c), (fun v _ _ => v = ?c4_3c), (fun v _ _ => v = ?c4_4c), (fun v _ _ => v = ?c4_5c), (fun v _ _ => v = ?c4_6c), Is (.int .i64 (xa : Int)), (fun v _ _ => v = ?c4_8c), (fun v _ _ => v = ?c4_9c), (fun v _ _ => v = ?c4_10c), (fun v _ _ => v = ?c4_11c), Is (.int .i64 (xb : Int)), Is (.bool false), (fun v _ _ => v = ?c4_14c)] hL.vw mixed [16, 17, 18, 19, 20, 21, 22, 23, 24, 25, 26, 27, 28, 29, 30] _ (by kernel_rfl) (fun vs => by simp only [lay, Act.put, zq1, zq2, zq3]; rfl) (by kernel_rfl) (by decide) (by decide) ?s4c ?l4c ?r4c
      case s4c =>
       refine ⟨?_, ?_, ?_, ?_, ?_, ?_, ?_, ?_, ?_, ?_, ?_, ?_, ?_, ?_, ?_, trivial⟩
       ·intro vs W1 m1 hE hM hV hD; clear hD
        exact sPw
       ·intro vs W1 m1 hE hM hV hD; clear hD
        exact sPw
       ·intro vs W1 m1 hE hM hV hD; obtain ⟨⟨_, _, -, -, f16⟩, ⟨_, _, -, -, f17⟩, -⟩ := hD
        rw [(f16 : vs 16 = _), (f17 : vs 17 = _)]; clear f16 f17; exact sPw
       ·intro vs W1 m1 hE hM hV hD; obtain ⟨⟨_, _, -, -, f18⟩, -⟩ := hD
        rw [(f18 : vs 18 = _)]; clear f18; exact sPw
       ·intro vs W1 m1 hE hM hV hD; obtain ⟨⟨_, _, -, -, f19⟩, -⟩ := hD
        rw [(f19 : vs 19 = _)]; clear f19; exact sPw
       ·intro vs W1 m1 hE hM hV hD; obtain ⟨⟨_, _, -, -, f19⟩, -⟩ := hD
        rw [(f19 : vs 19 = _)]; clear f19; exact sPw
       ·intro vs W1 m1 hE hM hV hD; obtain ⟨⟨_, _, -, -, f20⟩, ⟨_, _, -, -, f21⟩, ⟨_, _, -, -, f19⟩, -⟩ := hD
        rw [(f20 : vs 20 = _), (f21 : vs 21 = _), (f19 : vs 19 = _)]; clear f20 f21 f19; exact sIy
       ·intro vs W1 m1 hE hM hV hD; obtain ⟨⟨_, _, -, -, f22⟩, ⟨_, _, -, -, f19⟩, -⟩ := hD
        rw [(f22 : vs 22 = _), (f19 : vs 19 = _)]
        clear f22 f19
        (replace hL := hL.call hE hM hV; refine wl_load1 hL (by first | exact wanted_none rfl | exact wanted_some rfl rfl rfl rfl) rfl rfl lb_int (n := 0) rfl hca ?_; simp only [Act.put, zq1, zq2, zq3]; refine One2.still hV ?_; exact rfl)
       ·intro vs W1 m1 hE hM hV hD; obtain ⟨⟨_, _, -, -, f19⟩, -⟩ := hD
        rw [(f19 : vs 19 = _)]; clear f19; exact sPw
       ·intro vs W1 m1 hE hM hV hD; obtain ⟨⟨_, _, -, -, f19⟩, -⟩ := hD
        rw [(f19 : vs 19 = _)]; clear f19; exact sPw
       ·intro vs W1 m1 hE hM hV hD; obtain ⟨⟨_, _, -, -, f25⟩, ⟨_, _, -, -, f19⟩, -⟩ := hD
        rw [(f25 : vs 25 = _), (f19 : vs 19 = _)]; clear f25 f19; exact sPw
       ·intro vs W1 m1 hE hM hV hD; obtain ⟨⟨_, _, -, -, f24⟩, ⟨_, _, -, -, f26⟩, ⟨_, _, -, -, f19⟩, -⟩ := hD
        rw [(f24 : vs 24 = _), (f26 : vs 26 = _), (f19 : vs 19 = _)]; clear f24 f26 f19; exact sIy
       ·intro vs W1 m1 hE hM hV hD; obtain ⟨⟨_, _, -, -, f27⟩, ⟨_, _, -, -, f19⟩, -⟩ := hD
        rw [(f27 : vs 27 = _), (f19 : vs 19 = _)]
        clear f27 f19
        (replace hL := hL.call hE hM hV; refine wl_load1 hL (by first | exact wanted_none rfl | exact wanted_some rfl rfl rfl rfl) rfl rfl lb_int (n := 0) rfl hcb ?_; simp only [Act.put, zq1, zq2, zq3]; refine One2.still hV ?_; exact rfl)
       ·intro vs W1 m1 hE hM hV hD; obtain ⟨⟨_, _, -, -, f23⟩, ⟨_, _, -, -, f28⟩, ⟨_, _, -, -, f19⟩, -, -⟩ := hD
        rw [(f23 : vs 23 = _), (f28 : vs 28 = _), (f19 : vs 19 = _)]
        clear f23 f28 f19
        go_wp2_with fail
        refine (KC.out _ _ hV).mono ?_
        rintro e W2 ⟨v, m2, rfl, hE2, hM2, hV2, h⟩
        go_wp2_with fail
        refine One2.call hE2 hM2 hV2 ?_; first | exact h | exact rfl
       ·intro vs W1 m1 hE hM hV hD; obtain ⟨⟨_, _, -, -, f19⟩, ⟨_, _, -, -, f29⟩, -⟩ := hD
        rw [(f19 : vs 19 = _), (f29 : vs 29 = _)]; clear f19 f29; exact sPw
      case l4c =>
       refine ⟨nF, nF, nF, nF, nF, nF, nF, nF, nF, nF, nF, nF, nF, nF, nF, trivial⟩
      intro vs W1 m1 hE hM hV hF hD
      clear hD
      obtain ⟨⟨_, _, -, -, f16⟩, ⟨_, _, -, -, f17⟩, ⟨_, _, -, -, f18⟩, ⟨_, _, -, -, f19⟩, ⟨_, _, -, -, f20⟩, ⟨_, _, -, -, f21⟩, ⟨_, _, -, -, f22⟩, ⟨_, _, -, -, f23⟩, ⟨_, _, -, -, f24⟩, ⟨_, _, -, -, f25⟩, ⟨_, _, -, -, f26⟩, ⟨_, _, -, -, f27⟩, ⟨_, _, -, -, f28⟩, ⟨_, _, -, -, f29⟩, ⟨_, _, -, -, f30⟩, -⟩ := hF
      replace hL := hL.call hE hM hV
      have f16 : vs 16 = _ := f16
      generalize vs 16 = x16 at f16 ⊢
      subst x16
      have f17 : vs 17 = _ := f17
      generalize vs 17 = x17 at f17 ⊢
      subst x17
      have f18 : vs 18 = _ := f18
      generalize vs 18 = x18 at f18 ⊢
      subst x18
      have f19 : vs 19 = _ := f19
      generalize vs 19 = x19 at f19 ⊢
      subst x19
      have f20 : vs 20 = _ := f20
      generalize vs 20 = x20 at f20 ⊢
      subst x20
      have f21 : vs 21 = _ := f21
      generalize vs 21 = x21 at f21 ⊢
      subst x21
      have f22 : vs 22 = _ := f22
      generalize vs 22 = x22 at f22 ⊢
      subst x22
      have f23 : vs 23 = _ := f23
      generalize vs 23 = x23 at f23 ⊢
      subst x23
      have f24 : vs 24 = _ := f24
      generalize vs 24 = x24 at f24 ⊢
      subst x24
      have f25 : vs 25 = _ := f25
      generalize vs 25 = x25 at f25 ⊢
      subst x25
      have f26 : vs 26 = _ := f26
      generalize vs 26 = x26 at f26 ⊢
      subst x26
      have f27 : vs 27 = _ := f27
      generalize vs 27 = x27 at f27 ⊢
      subst x27
      have f28 : vs 28 = _ := f28
      generalize vs 28 = x28 at f28 ⊢
      subst x28
      have f29 : vs 29 = _ := f29
      generalize vs 29 = x29 at f29 ⊢
      subst x29
      have f30 : vs 30 = _ := f30
      generalize vs 30 = x30 at f30 ⊢
      subst x30
      clear hE hV
      simp only [List.drop_succ_cons, List.drop_zero]
      go_wp2_with (first | go_skip | refine tP ?_ | (refine tS ?_; clear hL; intro _ hL))
      refine QN.mk ?_
      go_wp2_with (first | go_skip | refine tP ?_ | (refine tS ?_; clear hL; intro _ hL))
      go_roundw
      case rel => exact ⟨i + 1, _, _, ys, by omega, by omega, by go_num, hL, exX, RowA.le isI_mono ROW2.out leX, HPO.out, HS2.out⟩
      case measure => simp [intOf] <;> omega
  ·have hin : i = n := by omega
   subst hin
   have h9 : (i : Int) ≤ (i : Int) := Int.le_refl _
   go_wp2_with (first | go_skip | refine tP ?_ | (refine tS ?_; clear hL; intro _ hL))
   refine bodyPost_end (results_none rfl _ _ _) rfl ?_
   exact ⟨_, cur1, ys0, ⟨_, rfl⟩, hL, hX, ROW1.out, HP0.out, HS0.out⟩

theorem s_PdqI {w0 m0 W m : World} {A : List Lo} {g n cap : Nat} {cur : Array Value} {xs : List Nat} (hL : Loc w0 m0 W m ((g, 3, cur) :: A)) (row : RowA 3 1 IsI m (.slice (some ⟨g, 0, none⟩) n cap) n (natL xs) [(g, 3, cur)]) (hn1 : 1 ≤ n) (hn : n ≤ 6) (z : Int) :
  Calls Tryz.prog 210 #[.slice (some ⟨g, 0, none⟩) n cap, .int .i64 0, .int .i64 n, .int .i64 z] W (fun e W' => ∃ (m' : World) (cur' : Array Value) (ys : List Nat), (∃ v, e = .returned v) ∧ Loc w0 m0 W' m' ((g, 3, cur') :: A) ∧ Ext m m' ∧
   RowA 3 1 IsI m' (.slice (some ⟨g, 0, none⟩) n cap) n (natL ys) [(g, 3, cur')] ∧ ys.Perm xs ∧ SortI ys n) := by
 have ROW := Lib.hid row
 have h12 : (n : Int) ≤ 12 := by omega
 have h0 : wrap64 ((n : Int) - 0) = (n : Int) := by unfold wrap64; omega
 clear row
 go_enter Tryz.func210, Tryz.ntmps210
 go_wp2_with (first | go_skip | refine tP ?_)
 refine wp_loop_once ?_
 go_wp2_with (first | go_skip | refine tP ?_)
 refine (s_InsI hL ROW.out hn1 (by omega)).mono ?_
 rintro e W1 ⟨m1, cur1, ys, ⟨v, rfl⟩, hL1, hX1, row1, hp, hs⟩
 go_wp2_with (first | go_skip | refine tP ?_)
 first | refine bodyPost_end (results_none rfl _ _ _) rfl ?_ | refine bodyPost_ret (results_none rfl _ _ _) rfl ?_
 exact ⟨_, cur1, ys, ⟨_, rfl⟩, hL1, hX1, row1, hp, hs⟩

theorem s_SortI {w0 m0 W m : World} {A : List Lo} {g n cap : Nat} {cur : Array Value} {xs : List Nat} (hL : Loc w0 m0 W m ((g, 3, cur) :: A)) (row : RowA 3 1 IsI m (.slice (some ⟨g, 0, none⟩) n cap) n (natL xs) [(g, 3, cur)]) (hn1 : 1 ≤ n) (hn : n ≤ 6) :
  Calls Tryz.prog 174 #[.slice (some ⟨g, 0, none⟩) n cap] W (fun e W' => ∃ (m' : World) (cur' : Array Value) (ys : List Nat), (∃ v, e = .returned v) ∧ Loc w0 m0 W' m' ((g, 3, cur') :: A) ∧ Ext m m' ∧
   RowA 3 1 IsI m' (.slice (some ⟨g, 0, none⟩) n cap) n (natL ys) [(g, 3, cur')] ∧ ys.Perm xs ∧ SortI ys n) := by
 have ROW := Lib.hid row
 have hX0 : Ext m m := Ext.refl _
 clear row
 go_enter Tryz.func174, Tryz.ntmps174
 go_wp2_with (first | go_skip | refine tP ?_)
 refine (bits_w n hn _ _ hL.vw).mono ?_
 rintro e W1 ⟨_, m1, rfl, hE, hM1, hV, z, rfl⟩
 replace hL := hL.call hE (by assumption) hV; clear hE hV
 have ROW1 := Lib.hid (RowA.le isI_mono ROW.out hM1.le)
 clear ROW
 go_wp2_with (first | go_skip | refine tP ?_)
 refine (s_PdqI hL ROW1.out hn1 hn z).mono ?_
 rintro e W2 ⟨m2, cur2, ys, ⟨v, rfl⟩, hL2, hX2, row2, hp, hs⟩
 go_wp2_with (first | go_skip | refine tP ?_)
 first | refine bodyPost_end (results_none rfl _ _ _) rfl ?_ | refine bodyPost_ret (results_none rfl _ _ _) rfl ?_
 exact ⟨_, cur2, ys, ⟨_, rfl⟩, hL2, hM1.trans hX2, row2, hp, hs⟩
theorem s_SortNil (A : Option Addr) (c : Nat) (w m : World) (hV : Vw m w) : Calls Tryz.prog 174 #[.slice A 0 c] w (RetV w m fun _ _ => True) := by
 have hL := Loc.start hV
 clear hV
 have KI : Hid (∀ w m', Vw m' w → Calls Tryz.prog 253 #[.slice A 0 c, .int .i64 0, .int .i64 0] w (RetV w m' fun _ _ => True)) := by
  show ∀ w m', _
  intro w m' hV
  have hL := Loc.start hV
  clear hV
  go_enter Tryz.func253, Tryz.ntmps253
  go_wp2_with (first | go_skip | refine tP ?_ | (refine tS ?_; clear hL; intro _ hL))
  refine wp_loop_once ?_
  go_wp2_with (first | go_skip | refine tP ?_ | (refine tS ?_; clear hL; intro _ hL))
  refine bodyPost_end (results_none rfl _ _ _) rfl ?_
  exact RetV.mk hL trivial
 have KP : Hid (∀ z w m', Vw m' w → Calls Tryz.prog 210 #[.slice A 0 c, .int .i64 0, .int .i64 0, .int .i64 z] w (RetV w m' fun _ _ => True)) := by
  show ∀ z w m', _
  intro z w m' hV
  have hL := Loc.start hV
  clear hV
  go_enter Tryz.func210, Tryz.ntmps210
  go_wp2_with (first | go_skip | refine tP ?_)
  refine wp_loop_once ?_
  go_wp2_with (first | go_skip | refine tP ?_)
  refine (KI.out _ _ hL.vw).mono ?_
  rintro e W1 ⟨_, m1, rfl, hE, hM1, hV, -⟩
  replace hL := hL.call hE (by assumption) hV; clear hE hV
  go_wp2_with (first | go_skip | refine tP ?_)
  first | refine bodyPost_end (results_none rfl _ _ _) rfl ?_ | refine bodyPost_ret (results_none rfl _ _ _) rfl ?_
  exact RetV.mk hL trivial
 have KB : Hid (∀ w m', Vw m' w → Calls Tryz.prog 190 #[.int .u64 0] w (RetV w m' fun _ r => ∃ z, r = .int .i64 z)) := fun w m' hV => bits_w 0 (by decide) w m' hV
 go_enter Tryz.func174, Tryz.ntmps174
 go_wp2_with (first | go_skip | refine tP ?_)
 refine (KB.out _ _ hL.vw).mono ?_
 rintro e W1 ⟨_, m1, rfl, hE, hM1, hV, z, rfl⟩
 replace hL := hL.call hE (by assumption) hV; clear hE hV
 go_wp2_with (first | go_skip | refine tP ?_)
 refine (KP.out z _ _ hL.vw).mono ?_
 rintro e W2 ⟨_, m2, rfl, hE, hM2, hV, -⟩
 replace hL := hL.call hE (by assumption) hV; clear hE hV
 go_wp2_with (first | go_skip | refine tP ?_)
 first | refine bodyPost_end (results_none rfl _ _ _) rfl ?_ | refine bodyPost_ret (results_none rfl _ _ _) rfl ?_
 exact RetV.mk hL trivial
end Go.Proofs.YtniigfikpfinfaaGreat

/- Contract of branch.cheapest. -/
namespace Go.Proofs.YtniigfikpfinfaaGreat
open Go.RowKit

theorem zc_ints : zc Tryz.prog 22 = some #[.slice none 0 0] := by kernel_rfl
instance iAM12_1 : ZcC Tryz.prog 22 #[.slice none 0 0] := ⟨zc_ints⟩
theorem Sl.cellAt {m : World} {g k : Nat} {l : List Value} {v : Value} (h : Sl m (some ⟨g, 0, none⟩) l) (hk : l[k]? = some v) : m.cell? ⟨g, k, none⟩ = some v := by
 obtain ⟨b, off, e, -, hc⟩ := h (by have := (List.getElem?_eq_some_iff.1 hk).1; omega)
 cases e
 have := hc k v hk
 rwa [Nat.zero_add] at this
theorem Loc.showBox {w0 m0 W m : World} {A : List Lo} {g : Nat} {t : TypeId} {cs : List Value} (hL : Loc w0 m0 W m ((g, t, cs.toArray) :: A)) :
  ∃ m', Loc w0 m0 W m' A ∧ Le m m' ∧ ∀ k v, cs[k]? = some v → m'.cell? ⟨g, k, none⟩ = some v := by
 obtain ⟨m', h1, h2, h3⟩ := Loc.show1 (A := A) (hL.perm (List.perm_append_comm (l₁ := [(g, t, cs.toArray)]))) cs.length
 rw [List.take_length] at h3
 exact ⟨m', h1, h2, fun k v hk => h3.cellAt hk⟩
section
variable {ms : Ms} {us : List Rat} {k : Nat}
theorem pck_skip (h : posJ us k = false) : pckT ms us (k + 1) = pckT ms us k := by
 unfold pckT; rw [picF_step]; unfold picT; rw [h]; rfl
theorem pck_new (h : posJ us k = true) (hi : ¬ (pckT ms us k).findIdx (fun j => decide (opJ ms k = opJ ms j)) < (pckT ms us k).length) : pckT ms us (k + 1) = pckT ms us k ++ [k] := by
 unfold pckT at *; rw [picF_step]; unfold picT; rw [if_pos h, if_pos]
 have := List.findIdx_le_length (p := fun j => decide (opJ ms k = opJ ms j)) (xs := picF (opJ ms) (coJ ms) (posJ us) k)
 omega
theorem pck_old (h : posJ us k = true) {i j : Nat} (hi : (pckT ms us k).findIdx (fun j => decide (opJ ms k = opJ ms j)) = i) (hj : (pckT ms us k)[i]? = some j) :
  pckT ms us (k + 1) = if coJ ms k < coJ ms j then (pckT ms us k).set i k else pckT ms us k := by
 have hlt := (List.getElem?_eq_some_iff.1 hj).1
 unfold pckT at *; rw [picF_step]; unfold picT; rw [if_pos h, hi, if_neg (by omega), List.getD_eq_getElem?_getD, hj]; rfl
theorem pck_lt {j : Nat} (h : j ∈ pckT ms us k) : j < k := ((picF_ok (opJ ms) (coJ ms) (posJ us) k).low j h).1
theorem pck_len : (pckT ms us k).length ≤ k := picF_len _ _ _ k
theorem natL_snoc (xs : List Nat) (k : Nat) : natL xs ++ [(k : Int)] = natL (xs ++ [k]) := by simp [natL]
theorem posJ_at {q : Rat} (h : us[k]? = some q) : posJ us k = decide (0 < q) := by unfold posJ; rw [h]
theorem opJ_at {x : Col} (h : ms.cols[k]? = some x) : opJ ms k = opF x.2.1 := by unfold opJ; rw [h]
theorem coJ_at {x : Col} (h : ms.cols[k]? = some x) : coJ ms k = x.2.2 := by unfold coJ; rw [h]
end
theorem b_sameJ (bo bm : Nat) (O B : Option Addr) (no co nc cb : Nat) (os : List Int) (ms : Ms) (cols : List Col) (rws : List Int) (j : Nat) (w m : World) (hV : Vw m w) (h1 : m.cell? ⟨bo, 0, none⟩ = some (.slice O no co)) (h2 : IntL m (.slice O no co) os) (hno : os.length ≤ 1000000)
  (h3 : m.cell? ⟨bm, 3, none⟩ = some (.slice B nc cb)) (h4 : ColL m (.slice B nc cb) cols) (hn : cols.length = nc) (hm : ms.cols = cols) (hj : j < nc) (hok : ∀ c ∈ cols, ColOk rws c) :
  Calls Tryz.prog 170 #[.int .i64 (j : Int), .pointer (some ⟨bo, 0, none⟩), .pointer (some ⟨bm, 0, none⟩)] w (RetV w m fun _ r => r = .bool (decide (os = opJ ms j))) := by
 obtain ⟨y, hy⟩ : ∃ y, cols[j]? = some y := ⟨_, List.getElem?_eq_getElem (by omega)⟩
 rw [opJ_at (ms := ms) (by rw [hm]; exact hy)]
 exact b_same bo bm O B no co nc cb os cols rws j y w m hV h1 h2 hno h3 h4 hn hy (hok y (List.mem_of_getElem? hy))
theorem b_badJ (bm : Nat) (B : Option Addr) (nc cb : Nat) (pen : Int) (ms : Ms) (cols : List Col) (rws : List Int) (j : Nat) (w m : World) (hV : Vw m w) (h5 : m.cell? ⟨bm, 2, none⟩ = some (.int .i64 pen))
  (h3 : m.cell? ⟨bm, 3, none⟩ = some (.slice B nc cb)) (h4 : ColL m (.slice B nc cb) cols) (hn : cols.length = nc) (hm : ms.cols = cols) (hp : ms.pen = pen) (hj : j < nc) (hok : ∀ c ∈ cols, ColOk rws c) :
  Calls Tryz.prog 173 #[.int .i64 (j : Int), .pointer (some ⟨bm, 0, none⟩)] w (RetV w m fun _ r => r = .bool (!keepJ ms j)) := by
 obtain ⟨y, hy⟩ : ∃ y, cols[j]? = some y := ⟨_, List.getElem?_eq_getElem (by omega)⟩
 have e : (!keepJ ms j) = (decide ((opF y.2.1).length = 1) && decide (pen ≤ y.2.2)) := by
  unfold keepJ
  rw [Bool.not_not, opJ_at (ms := ms) (by rw [hm]; exact hy), coJ_at (ms := ms) (by rw [hm]; exact hy), hp]
 rw [e]
 exact b_bad bm B nc cb pen cols rws j y w m hV h5 h3 h4 hn hy (hok y (List.mem_of_getElem? hy))
theorem num_pos' {q : Rat} : 0 < q ↔ 0 < q.num := by rw [Rat.lt_iff]; simp
theorem num_neg' {q : Rat} : q < 0 ↔ q.num < 0 := by rw [Rat.lt_iff]; simp
theorem icq_pos {q : Rat} (h : 0 < q) : ¬ icmp q.num 0 ≤ 0 := by
 have : 0 < q.num := num_pos'.1 h
 unfold icmp
 rw [if_neg (by omega), if_neg (by omega)]; omega
theorem icq_npos {q : Rat} (h : ¬ 0 < q) : icmp q.num 0 ≤ 0 := by
 have : ¬ 0 < q.num := fun h' => h (num_pos'.2 h')
 unfold icmp
 split <;> (try split) <;> omega

theorem b_cheapest (xv vv : Value) (x : Ms) (us : List Rat) (w m : World) (hV : Vw m w) (hx : MasterR m xv x) (hvv : FracL m vv us) (ok : VOk x us) (h6 : x.cols.length ≤ 6) :
  Calls Tryz.prog 116 #[xv, vv] w (RetV w m fun m' r => IntL m' r (natL (rndL x us))) := by
 obtain ⟨ms, hms⟩ : ∃ ms, ms = x := ⟨_, rfl⟩
 rw [← hms]
 have OK : Hid (VOk ms us) := by rw [hms]; exact ok
 obtain ⟨xnf, rws, pen, cols, cuts⟩ := x
 obtain ⟨va, vb, vc, rfl, ha, hb, hc⟩ := hx
 simp only at ha hb hc
 obtain ⟨A, ca, rfl, hca, ha⟩ := ha.lit
 obtain ⟨B, cb, rfl, hcb, hb⟩ := hb.lit
 obtain ⟨C, cc, rfl, hcc, hc⟩ := hc.lit
 obtain ⟨V, cv, rfl, hcv, hvv⟩ := hvv.lit
 have HMC : Hid (ms.cols = cols) := by show _ = _; rw [hms]
 have HMP : Hid (ms.pen = pen) := by show _ = _; rw [hms]
 have HCO := Lib.hid hb
 have HVA := Lib.hid hvv
 have HC : Hid (∀ c ∈ cols, ColOk rws c) := ok.ms.cols
 have HT : Hid (∀ v ∈ us, Tw 18 v) := ok.tw
 have HLN : Hid (∀ c ∈ cols, (opF c.2.1).length ≤ 32) := by
  show ∀ c ∈ cols, _
  exact fun c hc => ok.col_len hc
 have hlen : us.length = cols.length := ok.len
 simp only at h6
 have hL := Loc.start hV
 clear hV ok ha hb hc hvv hms
 rw [hlen] at HVA hcv ⊢
 have HNV := Lib.hid hlen
 clear hlen
 simp only
 generalize hn1 : cols.length = nc at *
 have HN1 := Lib.hid hn1
 clear hn1
 generalize rws.length = nr at *
 generalize cuts.length = nk at *
 go_enter Tryz.func116, Tryz.ntmps116
 go_upto_region 0 with (fail)
 refine wp_region_lit ?_
 refine t_box hL rfl rfl ?_; clear hL; intro Wh2 mh2 hL eh2; simp only [Act.put, zq1, zq2, zq3]
 obtain ⟨m2, hL2, hle2, hbx⟩ := Loc.showBox (cs := [.int .i64 xnf, .slice A nr ca, .int .i64 pen, .slice B nc cb, .slice C nk cc]) hL
 have H3 := Lib.hid (hbx 3 _ rfl)
 have H2 := Lib.hid (hbx 2 _ rfl)
 have HCO2 : Hid (ColL m2 (.slice B nc cb) cols) := ColL.le HCO.out (Le.trans leX hle2)
 have HVA2 : Hid (FracL m2 (.slice V nc cv) us) := FracL.le HVA.out (Le.trans leX hle2)
 clear hL hle2 hbx HCO HVA
 have hL := hL2
 clear hL2
 have hb3 := H3.out
 go_wp2_with (first | go_skip | refine tP ?_ | (refine tS ?_; clear hL; intro _ hL) | (refine tB ?_; clear hL; intro _ _ hL _) | (refine tC ?_; clear hL; intro _ _ hL _ hBs))
 clear hb3
 go_loopw [5, 14] (fun out i wr => ∃ (k : Nat) (mm : World) (n : Nat) (Rr : List Lo), k ≤ nc ∧ i = .int .i64 k ∧ Loc w m wr mm Rr ∧ Hid (Le m2 mm) ∧ Hid (RowA 3 1 IsI mm out n (natL (pckT ms us k)) Rr)) (fun _ i _ => nc - (intOf i).toNat)
 case atStart => exact ⟨0, _, 0, [], Nat.zero_le _, rfl, hL, Le.refl _, RowA.nil⟩
 case round =>
  clear hL
  obtain ⟨k, mm, n, Rr, hk, rfl, hL, HLE, row⟩ := hrel
  obtain ⟨A5, c5, rfl, row1⟩ := row.out.lit
  have hn : n ≤ 6 := by
   have h1 := row1.len
   have h2 := pck_len (ms := ms) (us := us) (k := k)
   rw [natL_len] at h1
   omega
  have ROW := Lib.hid row1
  clear row row1
  by_cases hlt : k < nc
  ·have hlt' : (k : Int) < (nc : Int) := by omega
   obtain ⟨⟨s, ds, cost⟩, hx⟩ := at_some HN1 hlt
   obtain ⟨q, hq⟩ := at_some HNV hlt
   have HCO := Lib.hid (ColL.le HCO2.out HLE.out)
   have HVA := Lib.hid (FracL.le HVA2.out HLE.out)
   have h3 := HLE.out.cell _ _ H3.out
   have hco := HCO.out
   have hva := HVA.out
   obtain ⟨b1, o1, D, cd, rfl, hds, hr1⟩ := ColL.at_ hco hx
   obtain ⟨b2, o2, g2, A2, n2, c2, h2, B2, k2, d2, rfl, hp2, hr2⟩ := FracL.at_ hva hq
   obtain ⟨i1, i2, i3, i4, i5, i6, i7⟩ := HC.out _ (List.mem_of_getElem? hx)
   simp only at hds hr1 i1 i2 i3 i4 i5 i6 i7
   have HD := Lib.hid hds
   have HD3 := Lib.hid i3
   have HD4 := Lib.hid i4
   have HP2 := Lib.hid hp2
   have HFQ : Hid (Fit 200 q) := (HT.out q (List.mem_of_getElem? hq)).fit (by decide)
   have HL32 : Hid ((opF ds).length ≤ 1000000) := Nat.le_trans (HLN.out _ (List.mem_of_getElem? hx)) (by decide)
   have HPO := Lib.hid (posJ_at hq)
   have HOP : Hid (opJ ms k = opF ds) := by
    show _ = _
    exact opJ_at (by rw [HMC.out]; exact hx)
   have HCJ : Hid (coJ ms k = cost) := by
    show _ = _
    exact coJ_at (by rw [HMC.out]; exact hx)
   clear hx hq hds hp2 i1 i2 i3 i4 i5 i6 i7 hco hva
   generalize hnd : ds.length = nd at *
   have HND := Lib.hid hnd
   clear hnd
   go_wp2_with (first | go_skip | refine tP ?_ | (refine tS ?_; clear hL; intro _ hL) | (refine tB ?_; clear hL; intro _ _ hL _) | (refine tC ?_; clear hL; intro _ _ hL _ hBs))
   refine (q_Sign _ q _ _ hL.vw (HP2.out.le leX) HFQ.out).mono ?_
   rintro e Wc1 ⟨_, mc1, rfl, hE, hMc1, hV, rfl⟩
   replace hL := hL.call hE (by assumption) hV; clear hE hV
   by_cases hpos : 0 < q
   ·have HPT : Hid (posJ us k = true) := HPO.out.trans (decide_eq_true hpos)
    have hsg := icq_pos hpos
    have hsg2 : decide (icmp q.num 0 ≤ 0) = false := decide_eq_false hsg
    clear hpos HPO hsg
    generalize icmp q.num 0 = sg at *
    go_wp2_with (first | go_skip | refine tP ?_ | (refine tS ?_; clear hL; intro _ hL) | (refine tB ?_; clear hL; intro _ _ hL _) | (refine tC ?_; clear hL; intro _ _ hL _ hBs))
    refine (e_Operated s _ ds _ _ hL.vw (DutsL.le HD.out leX) (by rw [HND.out]; exact HD3.out) HD4.out).mono ?_
    rintro e Wo1 ⟨vo1, mo1, rfl, hE, hMo1, hV, ho1⟩
    replace hL := hL.call hE (by assumption) hV; clear hE hV
    obtain ⟨O, co, rfl, hco, ho1⟩ := ho1.lit
    rw [← HOP.out] at ho1 HL32 ⊢
    have HOL := Lib.hid ho1
    clear ho1 hco hsg2 HOP
    generalize hno : (opJ ms k).length = no at *
    have HNO := Lib.hid hno
    clear hno
    by_cases hf : (pckT ms us k).findIdx (fun j => decide (opJ ms k = opJ ms j)) < (pckT ms us k).length
    ·obtain ⟨i0, hi0⟩ : ∃ i0, (pckT ms us k).findIdx (fun j => decide (opJ ms k = opJ ms j)) = i0 := ⟨_, rfl⟩
     have hz : idxZ (fun j => decide (opJ ms k = opJ ms j)) (pckT ms us k) = (i0 : Int) := by rw [← hi0]; exact if_pos hf
     obtain ⟨j0, hj0⟩ : ∃ j0, (pckT ms us k)[i0]? = some j0 := ⟨_, List.getElem?_eq_getElem (by rw [← hi0]; exact hf)⟩
     have hjk : j0 < k := pck_lt (List.mem_of_getElem? hj0)
     have hin : i0 < n := by
      have h1 := ROW.out.len
      rw [natL_len] at h1
      omega
     have HE := Lib.hid (pck_old HPT.out hi0 hj0)
     rw [HCJ.out] at HE
     obtain ⟨g, cap, cur, e5, rfl, hcap, hcsz⟩ := ROW.out.block (by omega)
     injection e5 with e51 e52 e53
     subst e51 e53
     obtain ⟨⟨s0, ds0, cost0⟩, hx0⟩ := at_some HN1 (show j0 < nc by omega)
     have HC0 : Hid (coJ ms j0 = cost0) := by
      show _ = _
      exact coJ_at (by rw [HMC.out]; exact hx0)
     rw [HC0.out] at HE
     have HJ0 := Lib.hid hj0
     have HX0 := Lib.hid hx0
     have HZ := Lib.hid hz
     clear hf hi0 hj0 hx0 e52 HC0 HCJ HPT hz hcap hcsz
     go_upto_region 8 with ((first | go_skip | refine tP ?_ | (refine tS ?_; clear hL; intro _ hL) | (refine tB ?_; clear hL; intro _ _ hL _) | (refine tC ?_; clear hL; intro _ _ hL _ hBs)))
     obtain ⟨m8, hL8, hle8, hb8⟩ := Loc.showBox (cs := [.slice O no co]) hL
     have hc8 := hb8 0 _ rfl
     have hme : Le mm m8 := Le.trans leX hle8
     have HLE8 : Hid (Le m2 m8) := HLE.out.trans hme
     have HCO8 := Lib.hid (ColL.le HCO.out hme)
     have h38 := hme.cell _ _ h3
     have HOL8 := Lib.hid (IntL.le HOL.out (Le.trans leX hle8))
     have ROW8 := Lib.hid (RowA.le isI_mono ROW.out hme)
     obtain ⟨m9, hL9, hle9, hl9, -⟩ := RowA.show (A := [_]) isI_mono hL8 ROW8.out
     have HL9 := Lib.hid hl9
     have HF9 := Lib.hid (fun (j : Nat) (hj : j ∈ pckT ms us k) (u : World) (m' : World) (hV : Vw m' u) (hle : Le m9 m') =>
      b_sameJ _ w.heap.size O _ no co nc cb (opJ ms k) ms cols rws j u m' hV ((hle9.trans hle).cell _ _ hc8) (IntL.le HOL8.out (hle9.trans hle)) (by rw [HNO.out]; exact HL32.out) ((hle9.trans hle).cell _ _ h38) (ColL.le HCO8.out (hle9.trans hle)) HN1.out HMC.out (by have := pck_lt hj; omega) HC.out)
     have HCO9 := Lib.hid (ColL.le HCO8.out hle9)
     have h39 := hle9.cell _ _ h38
     have HL8 := Lib.hid hL8
     clear hL hle8 hb8 hc8 h38 HOL8 HCO8 hl9 hL8
     have hL := hL9
     clear hL9 HOL ROW h3
     go_wp2_with (first | go_skip | refine tP ?_ | (refine tS ?_; clear hL; intro _ hL) | (refine tB ?_; clear hL; intro _ _ hL _) | (refine tC ?_; clear hL; intro _ _ hL _ hBs))
     refine (s_IndexS _ (pckT ms us k) _ _ (fun j => decide (opJ ms k = opJ ms j)) _ _ hL.vw HL9.out (by have := pck_len (ms := ms) (us := us) (k := k); omega) HF9.out).mono ?_
     rintro e Wi ⟨_, mi, rfl, hE, hMi, hV, rfl⟩
     have HEI := Lib.hid hE
     replace hL := hL.call hE (by assumption) hV; clear hE hV
     rw [HZ.out]
     clear HF9 HZ
     obtain ⟨b5, o5, e5, hc5⟩ := IntL.at_ (IntL.le HL9.out hMi.le) (natL_at HJ0.out)
     cases e5
     obtain ⟨b6, o6, D0, cd0, e6, hds0, hr0⟩ := ColL.at_ (ColL.le HCO9.out hMi.le) HX0.out
     cases e6
     have hcost := hr0 2 _ rfl
     have hge : ¬ (i0 : Int) < 0 := by omega
     have hgd : decide ((i0 : Int) < 0) = false := decide_eq_false hge
     have hjn : j0 < nc := by omega
     have h3i := hMi.le.cell _ _ h39
     clear hds0 hr0 h39 hge HL9 HCO9
     by_cases hcc : cost < cost0
     ·rw [if_pos hcc] at HE
      have hcd : decide (cost < cost0) = true := decide_eq_true hcc
      clear hcc
      go_upto_region 11 with ((first | go_skip | refine tP ?_ | (refine tS ?_; clear hL; intro _ hL) | (refine tB ?_; clear hL; intro _ _ hL _) | (refine tC ?_; clear hL; intro _ _ hL _ hBs)))
      (try simp only [eq_self] at *)
      refine wp_region_by2 12 [false, false, false, false, false, false, false, false, false, false, false, false] [false, false, false, false, false, false, false, false, false, false, false, false] [(fun v _ _ => v = ?c11_0a), (fun v _ _ => v = ?c11_1a), (fun v _ _ => v = ?c11_2a), (fun v _ _ => v = ?c11_3a), (fun v _ _ => v = ?c11_4a), (fun v _ _ => v = ?c11_5a), (fun v _ _ => v = ?c11_6a), (fun v _ _ => v = ?c11_7a), (fun v _ _ => v = ?c11_8a), (fun v _ _ => v = ?c11_9a), (fun v _ _ => v = ?c11_10a), (fun v _ _ => v = ?c11_11a)] hL.vw mixed [40, 41, 42, 43, 44, 45, 46, 47, 48, 49, 50, 51] _ (by kernel_rfl) (fun vs => by simp only [lay, Act.put, zq1, zq2, zq3]; rfl) (by kernel_rfl) (by decide) (by decide) ?s11a ?l11a ?r11a
      case s11a =>
       refine ⟨?_, ?_, ?_, ?_, ?_, ?_, ?_, ?_, ?_, ?_, ?_, ?_, trivial⟩
       ·intro vs W1 m1 hE hM hV hD; clear hD
        exact sFe
       ·intro vs W1 m1 hE hM hV hD; obtain ⟨⟨_, _, -, -, f40⟩, -⟩ := hD
        rw [(f40 : vs 40 = _)]; clear f40; exact sLe
       ·intro vs W1 m1 hE hM hV hD; clear hD
        exact sFe
       ·intro vs W1 m1 hE hM hV hD; obtain ⟨⟨_, _, -, -, f42⟩, -⟩ := hD
        rw [(f42 : vs 42 = _)]; clear f42; exact sLe
       ·intro vs W1 m1 hE hM hV hD; clear hD
        exact sPw
       ·intro vs W1 m1 hE hM hV hD; clear hD
        exact sPw
       ·intro vs W1 m1 hE hM hV hD; obtain ⟨⟨_, _, -, -, f44⟩, ⟨_, _, -, -, f45⟩, -⟩ := hD
        rw [(f44 : vs 44 = _), (f45 : vs 45 = _)]; clear f44 f45; exact sIy
       ·intro vs W1 m1 hE hM hV hD; obtain ⟨⟨_, _, -, -, f46⟩, -⟩ := hD
        rw [(f46 : vs 46 = _)]; clear f46; exact sLe
       ·intro vs W1 m1 hE hM hV hD; obtain ⟨⟨_, _, -, -, f43⟩, ⟨_, _, -, -, f47⟩, -⟩ := hD
        rw [(f43 : vs 43 = _), (f47 : vs 47 = _)]; clear f43 f47; exact sIy
       ·intro vs W1 m1 hE hM hV hD; obtain ⟨⟨_, _, -, -, f48⟩, -⟩ := hD
        rw [(f48 : vs 48 = _)]; clear f48; exact sFe
       ·intro vs W1 m1 hE hM hV hD; obtain ⟨⟨_, _, -, -, f49⟩, -⟩ := hD
        rw [(f49 : vs 49 = _)]; clear f49; exact sLe
       ·intro vs W1 m1 hE hM hV hD; obtain ⟨⟨_, _, -, -, f41⟩, ⟨_, _, -, -, f50⟩, -⟩ := hD
        rw [(f41 : vs 41 = _), (f50 : vs 50 = _)]; clear f41 f50; exact sPw
      case l11a =>
       refine ⟨nF, nF, nF, nF, nF, nF, nF, nF, nF, nF, nF, nF, trivial⟩
      intro vs W1 m1 hE hM hV hF hD
      clear hD
      obtain ⟨-, -, -, -, -, -, -, -, -, -, -, ⟨_, _, -, -, f51⟩, -⟩ := hF
      replace hL := hL.call hE hM hV
      have f51 : vs 51 = _ := f51
      generalize vs 51 = x51 at f51 ⊢
      subst x51
      have HEX := Lib.hid hE
      clear hE hV
      simp only [List.drop_succ_cons, List.drop_zero]
      go_wp2_with (first | go_skip | refine tP ?_ | (refine tS ?_; clear hL; intro _ hL) | (refine tB ?_; clear hL; intro _ _ hL _) | (refine tC ?_; clear hL; intro _ _ hL _ hBs))
      refine QN.mk ?_
      have hLc := HL8.out.again (HEI.out.trans HEX.out)
      have hXc := HL8.out.again_ext (HEI.out.trans HEX.out)
      have ra := RowA.putI (k := i0) (x := (k : Int)) (RowA.le isI_mono ROW8.out hXc.le)
      rw [natL_set, ← HE.out] at ra
      have RA := Lib.hid ra
      have hfit : 0 + i0 < cur.size := by have h1 := ROW8.out.fit; omega
      have HLM := Lib.hid (HLE8.out.trans hXc.le)
      clear hL ra HL8 HEI HEX ROW8 hXc
      have hL := hLc
      clear hLc
      go_wp2_with (first | (with_reducible refine stS ?_) | (first | go_skip | refine tP ?_ | (refine tS ?_; clear hL; intro _ hL) | (refine tB ?_; clear hL; intro _ _ hL _) | (refine tC ?_; clear hL; intro _ _ hL _ hBs)))
      refine goA ?_
      refine wl_store1 hL (wanted_none rfl) (v := .int .i64 (k : Int)) (off := 0 + i0) rfl rfl rfl lb_int (n := 1) rfl hfit rfl rfl ?_
      clear hL
      intro W6 hL
      (try simp only [List.cons_append, List.nil_append, List.set_cons_zero, List.set_cons_succ] at hL)
      simp only [Act.put, zq1, zq2, zq3]
      go_wp2_with (first | go_skip | refine tP ?_ | (refine tS ?_; clear hL; intro _ hL) | (refine tB ?_; clear hL; intro _ _ hL _) | (refine tC ?_; clear hL; intro _ _ hL _ hBs))
      go_roundw
      case rel => exact ⟨k + 1, _, n, _, by omega, by go_num, hL.tail, HLM.out, RA.out⟩
      case measure => simp [intOf] <;> omega
     ·rw [if_neg hcc] at HE
      have hcd : decide (cost < cost0) = false := decide_eq_false hcc
      clear hcc
      go_upto_region 11 with ((first | go_skip | refine tP ?_ | (refine tS ?_; clear hL; intro _ hL) | (refine tB ?_; clear hL; intro _ _ hL _) | (refine tC ?_; clear hL; intro _ _ hL _ hBs)))
      (try simp only [eq_self] at *)
      refine wp_region_by2 12 [false, false, false, false, false, false, false, false, false, false, false, false] [false, false, false, false, false, false, false, false, false, false, false, false] [(fun v _ _ => v = ?c11_0b), (fun v _ _ => v = ?c11_1b), (fun v _ _ => v = ?c11_2b), (fun v _ _ => v = ?c11_3b), (fun v _ _ => v = ?c11_4b), (fun v _ _ => v = ?c11_5b), (fun v _ _ => v = ?c11_6b), (fun v _ _ => v = ?c11_7b), (fun v _ _ => v = ?c11_8b), (fun v _ _ => v = ?c11_9b), (fun v _ _ => v = ?c11_10b), (fun v _ _ => v = ?c11_11b)] hL.vw mixed [40, 41, 42, 43, 44, 45, 46, 47, 48, 49, 50, 51] _ (by kernel_rfl) (fun vs => by simp only [lay, Act.put, zq1, zq2, zq3]; rfl) (by kernel_rfl) (by decide) (by decide) ?s11b ?l11b ?r11b
      case s11b =>
       refine ⟨?_, ?_, ?_, ?_, ?_, ?_, ?_, ?_, ?_, ?_, ?_, ?_, trivial⟩
       ·intro vs W1 m1 hE hM hV hD; clear hD
        exact sFe
       ·intro vs W1 m1 hE hM hV hD; obtain ⟨⟨_, _, -, -, f40⟩, -⟩ := hD
        rw [(f40 : vs 40 = _)]; clear f40; exact sLe
       ·intro vs W1 m1 hE hM hV hD; clear hD
        exact sFe
       ·intro vs W1 m1 hE hM hV hD; obtain ⟨⟨_, _, -, -, f42⟩, -⟩ := hD
        rw [(f42 : vs 42 = _)]; clear f42; exact sLe
       ·intro vs W1 m1 hE hM hV hD; clear hD
        exact sPw
       ·intro vs W1 m1 hE hM hV hD; clear hD
        exact sPw
       ·intro vs W1 m1 hE hM hV hD; obtain ⟨⟨_, _, -, -, f44⟩, ⟨_, _, -, -, f45⟩, -⟩ := hD
        rw [(f44 : vs 44 = _), (f45 : vs 45 = _)]; clear f44 f45; exact sIy
       ·intro vs W1 m1 hE hM hV hD; obtain ⟨⟨_, _, -, -, f46⟩, -⟩ := hD
        rw [(f46 : vs 46 = _)]; clear f46; exact sLe
       ·intro vs W1 m1 hE hM hV hD; obtain ⟨⟨_, _, -, -, f43⟩, ⟨_, _, -, -, f47⟩, -⟩ := hD
        rw [(f43 : vs 43 = _), (f47 : vs 47 = _)]; clear f43 f47; exact sIy
       ·intro vs W1 m1 hE hM hV hD; obtain ⟨⟨_, _, -, -, f48⟩, -⟩ := hD
        rw [(f48 : vs 48 = _)]; clear f48; exact sFe
       ·intro vs W1 m1 hE hM hV hD; obtain ⟨⟨_, _, -, -, f49⟩, -⟩ := hD
        rw [(f49 : vs 49 = _)]; clear f49; exact sLe
       ·intro vs W1 m1 hE hM hV hD; obtain ⟨⟨_, _, -, -, f41⟩, ⟨_, _, -, -, f50⟩, -⟩ := hD
        rw [(f41 : vs 41 = _), (f50 : vs 50 = _)]; clear f41 f50; exact sPw
      case l11b =>
       refine ⟨nF, nF, nF, nF, nF, nF, nF, nF, nF, nF, nF, nF, trivial⟩
      intro vs W1 m1 hE hM hV hF hD
      clear hD
      obtain ⟨-, -, -, -, -, -, -, -, -, -, -, ⟨_, _, -, -, f51⟩, -⟩ := hF
      replace hL := hL.call hE hM hV
      have f51 : vs 51 = _ := f51
      generalize vs 51 = x51 at f51 ⊢
      subst x51
      have HEX := Lib.hid hE
      clear hE hV
      simp only [List.drop_succ_cons, List.drop_zero]
      go_wp2_with (first | go_skip | refine tP ?_ | (refine tS ?_; clear hL; intro _ hL) | (refine tB ?_; clear hL; intro _ _ hL _) | (refine tC ?_; clear hL; intro _ _ hL _ hBs))
      refine QN.mk ?_
      have hLc := HL8.out.again (HEI.out.trans HEX.out)
      have hXc := HL8.out.again_ext (HEI.out.trans HEX.out)
      have RA := Lib.hid (RowA.le isI_mono ROW8.out hXc.le)
      have HLM := Lib.hid (HLE8.out.trans hXc.le)
      clear hL HL8 HEI HEX ROW8 hXc
      have hL := hLc
      clear hLc
      (try simp only [List.cons_append, List.nil_append] at hL)
      go_wp2_with (first | go_skip | refine tP ?_ | (refine tS ?_; clear hL; intro _ hL) | (refine tB ?_; clear hL; intro _ _ hL _) | (refine tC ?_; clear hL; intro _ _ hL _ hBs))
      go_roundw
      case rel => exact ⟨k + 1, _, n, _, by omega, by go_num, hL.tail, HLM.out, by rw [HE.out]; exact RA.out⟩
      case measure => simp [intOf] <;> omega
    ·have hz : idxZ (fun j => decide (opJ ms k = opJ ms j)) (pckT ms us k) = -1 := if_neg hf
     have HE := Lib.hid (pck_new HPT.out hf)
     have HZ := Lib.hid hz
     clear hf HCJ HPT hz
     go_upto_region 8 with ((first | go_skip | refine tP ?_ | (refine tS ?_; clear hL; intro _ hL) | (refine tB ?_; clear hL; intro _ _ hL _) | (refine tC ?_; clear hL; intro _ _ hL _ hBs)))
     obtain ⟨m8, hL8, hle8, hb8⟩ := Loc.showBox (cs := [.slice O no co]) hL
     have hc8 := hb8 0 _ rfl
     have hme : Le mm m8 := Le.trans leX hle8
     have HLE8 : Hid (Le m2 m8) := HLE.out.trans hme
     have HCO8 := Lib.hid (ColL.le HCO.out hme)
     have h38 := hme.cell _ _ h3
     have HOL8 := Lib.hid (IntL.le HOL.out (Le.trans leX hle8))
     have ROW8 := Lib.hid (RowA.le isI_mono ROW.out hme)
     obtain ⟨m9, hL9, hle9, hl9, -⟩ := RowA.show (A := [_]) isI_mono hL8 ROW8.out
     have HL9 := Lib.hid hl9
     have HF9 := Lib.hid (fun (j : Nat) (hj : j ∈ pckT ms us k) (u : World) (m' : World) (hV : Vw m' u) (hle : Le m9 m') =>
      b_sameJ _ w.heap.size O _ no co nc cb (opJ ms k) ms cols rws j u m' hV ((hle9.trans hle).cell _ _ hc8) (IntL.le HOL8.out (hle9.trans hle)) (by rw [HNO.out]; exact HL32.out) ((hle9.trans hle).cell _ _ h38) (ColL.le HCO8.out (hle9.trans hle)) HN1.out HMC.out (by have := pck_lt hj; omega) HC.out)
     have HL8 := Lib.hid hL8
     clear hL hle8 hb8 hc8 h38 HOL8 HCO8 hl9 hL8
     have hL := hL9
     clear hL9 HOL ROW h3
     go_wp2_with (first | go_skip | refine tP ?_ | (refine tS ?_; clear hL; intro _ hL) | (refine tB ?_; clear hL; intro _ _ hL _) | (refine tC ?_; clear hL; intro _ _ hL _ hBs))
     refine (s_IndexS _ (pckT ms us k) _ _ (fun j => decide (opJ ms k = opJ ms j)) _ _ hL.vw HL9.out (by have := pck_len (ms := ms) (us := us) (k := k); omega) HF9.out).mono ?_
     rintro e Wi ⟨_, mi, rfl, hE, -, -, rfl⟩
     have hLc := HL8.out.again hE
     have hXc := HL8.out.again_ext hE
     have ROWC := Lib.hid (RowA.le isI_mono ROW8.out hXc.le)
     have HLM := Lib.hid (HLE8.out.trans hXc.le)
     rw [HZ.out]
     clear hL HL8 hE ROW8 hXc HF9 HZ HL9 mi
     have hL := hLc
     clear hLc
     (try simp only [List.cons_append, List.nil_append] at hL)
     go_wp2_with (first | go_skip | refine tP ?_ | (refine tS ?_; clear hL; intro _ hL) | (refine tB ?_; clear hL; intro _ _ hL _) | (refine tC ?_; clear hL; intro _ _ hL _ hBs))
     refine goA ?_
     obtain ⟨vs7, r7, z7, y7, l7⟩ := ROWC.out
     refine wl_append (A := [_]) hL r7 (wanted_none rfl) rfl ap_ints (by omega) rfl rfl (news := [.int .i64 (k : Int)]) rfl ((Blk.sl hBs (n := 1) rfl).le hL.vw.le) rfl (by omega) (by omega) ?_
     clear hL
     intro v1 W5 m5 R5 hL r8 e8
     obtain ⟨A9, c9, rfl, -⟩ := r8.lit
     (try simp only [List.cons_append, List.nil_append] at hL)
     have rd2 := RowA.snocV (R := IsI) (m := m5) (x := (k : Int)) r8 z7 (y7.mono fun _ _ hv => hv) l7 rfl rfl rfl
     rw [natL_snoc, ← HE.out] at rd2
     simp only [Act.put, zq1, zq2, zq3]
     go_wp2_with (first | go_skip | refine tP ?_ | (refine tS ?_; clear hL; intro _ hL) | (refine tB ?_; clear hL; intro _ _ hL _) | (refine tC ?_; clear hL; intro _ _ hL _ hBs))
     go_roundw
     case rel => exact ⟨k + 1, m5, n + 1, R5, by omega, by go_num, hL.tail, HLM.out.trans leX, rd2⟩
     case measure => simp [intOf] <;> omega
   ·have HPF : Hid (posJ us k = false) := HPO.out.trans (decide_eq_false hpos)
    have hsg := icq_npos hpos
    have HE := Lib.hid (pck_skip (ms := ms) HPF.out)
    clear hpos HPO
    generalize icmp q.num 0 = sg at *
    go_wp2_with (first | go_skip | refine tP ?_ | (refine tS ?_; clear hL; intro _ hL) | (refine tB ?_; clear hL; intro _ _ hL _) | (refine tC ?_; clear hL; intro _ _ hL _ hBs))
    go_roundw
    case rel => exact ⟨k + 1, _, n, Rr, by omega, by go_num, hL.tail, HLE.out.trans leX, by rw [HE.out]; exact RowA.le isI_mono ROW.out leX⟩
    case measure => simp [intOf] <;> omega
  ·have hkn : k = nc := by omega
   subst hkn
   have h9 : (k : Int) ≤ (k : Int) := Int.le_refl _
   have HNC : Hid (ms.cols.length = k) := by show _ = _; rw [HMC.out]; exact HN1.out
   have HFB := Lib.hid (fun (j : Nat) (hj : j ∈ pckT ms us k) (u : World) (m' : World) (hV : Vw m' u) (hle : Le mm m') =>
    b_badJ w.heap.size B k cb pen ms cols rws j u m' hV ((HLE.out.trans hle).cell _ _ H2.out) ((HLE.out.trans hle).cell _ _ H3.out) (ColL.le HCO2.out (HLE.out.trans hle)) HN1.out HMC.out HMP.out (pck_lt hj) HC.out)
   have HND : Hid (((pckT ms us k).filter (keepJ ms)).Nodup) := (picF_nodup (opJ ms) (coJ ms) (posJ us) k).filter _
   have HRN : Hid (∀ zs : List Nat, zs.Pairwise (· < ·) → zs.Perm ((pckT ms us k).filter (keepJ ms)) → zs = rndL ms us) := by
    show ∀ zs, _
    intro zs h1 h2
    rw [← HNC.out] at h2
    exact pck_list ms us h1 h2
   have HLEN : Hid ((pckT ms us k).length ≤ 6) := by
    show _ ≤ _
    have := pck_len (ms := ms) (us := us) (k := k)
    omega
   generalize pckT ms us k = ps at *
   have row := ROW.out
   obtain ⟨vs7, ⟨h71, h72⟩, z7, y7, l7⟩ := row
   rcases h72 with ⟨e1, e2, rfl⟩ | ⟨g, cap, cur, e5, rfl, hcap, -, hcsz, -⟩
   ·injection e1 with e51 e52 e53
    subst e51 e52 e53
    have hps : ps = [] := by
     have h1 := ROW.out.len
     rw [natL_len] at h1
     exact List.length_eq_zero_iff.1 h1.symm
    have HR : Hid ([] = rndL ms us) := by
     show _ = _
     refine HRN.out [] List.Pairwise.nil ?_
     rw [hps]; exact List.Perm.nil
    clear h71 y7 z7 l7 hps ROW HFB HRN HND HLEN
    go_wp2_with (first | go_skip | refine tP ?_ | (refine tS ?_; clear hL; intro _ hL) | (refine tB ?_; clear hL; intro _ _ hL _) | (refine tC ?_; clear hL; intro _ _ hL _ hBs))
    refine (s_DeleteNil _ _ _ hL.vw).mono ?_
    rintro e W1 ⟨_, m1', rfl, hE, hM1, hV, rfl⟩
    replace hL := hL.call hE (by assumption) hV; clear hE hV
    go_wp2_with (first | go_skip | refine tP ?_ | (refine tS ?_; clear hL; intro _ hL) | (refine tB ?_; clear hL; intro _ _ hL _) | (refine tC ?_; clear hL; intro _ _ hL _ hBs))
    refine (s_SortNil _ _ _ _ hL.vw).mono ?_
    rintro e W2 ⟨v2, m2', rfl, hE, hM2, hV, -⟩
    replace hL := hL.call hE (by assumption) hV; clear hE hV
    go_wp2_with (first | go_skip | refine tP ?_ | (refine tS ?_; clear hL; intro _ hL) | (refine tB ?_; clear hL; intro _ _ hL _) | (refine tC ?_; clear hL; intro _ _ hL _ hBs))
    go_ret
    rw [← HR.out]
    exact RetV.mk hL ListV.nil
   ·injection e5 with e51 e52 e53
    subst e51 e53
    clear e52 h71 y7 z7 l7
    go_wp2_with (first | go_skip | refine tP ?_ | (refine tS ?_; clear hL; intro _ hL) | (refine tB ?_; clear hL; intro _ _ hL _) | (refine tC ?_; clear hL; intro _ _ hL _ hBs))
    refine (s_DeleteI (A := []) hL ROW.out (by omega) _ (fun j => !keepJ ms j) HFB.out).mono ?_
    rintro e W1 ⟨m1, n1, cur1, rfl, hL1, hX1, row1⟩
    clear hL
    have hL := hL1
    clear hL1
    simp only [Bool.not_not] at row1
    have hn1 : n1 ≤ 6 := by
     have h1 := row1.len
     rw [natL_len] at h1
     have := List.length_filter_le (fun x => keepJ ms x) ps
     have := HLEN.out
     omega
    have ROW1 := Lib.hid row1
    clear row1 ROW HFB
    by_cases h1 : n1 = 0
    ·have HR : Hid ([] = rndL ms us) := by
      show _ = _
      refine HRN.out [] List.Pairwise.nil ?_
      have h2 := ROW1.out.len
      rw [natL_len] at h2
      rw [List.length_eq_zero_iff.1 (h2.symm.trans h1)]
     subst h1
     go_wp2_with (first | go_skip | refine tP ?_ | (refine tS ?_; clear hL; intro _ hL) | (refine tB ?_; clear hL; intro _ _ hL _) | (refine tC ?_; clear hL; intro _ _ hL _ hBs))
     refine (s_SortNil _ _ _ _ hL.vw).mono ?_
     rintro e W2 ⟨v2, m2', rfl, hE, hM2, hV, -⟩
     replace hL := hL.call hE (by assumption) hV; clear hE hV
     go_wp2_with (first | go_skip | refine tP ?_ | (refine tS ?_; clear hL; intro _ hL) | (refine tB ?_; clear hL; intro _ _ hL _) | (refine tC ?_; clear hL; intro _ _ hL _ hBs))
     go_ret
     rw [← HR.out]
     exact RetV.mk hL ListV.nil
    ·go_wp2_with (first | go_skip | refine tP ?_ | (refine tS ?_; clear hL; intro _ hL) | (refine tB ?_; clear hL; intro _ _ hL _) | (refine tC ?_; clear hL; intro _ _ hL _ hBs))
     refine (s_SortI (A := []) hL ROW1.out (by omega) hn1).mono ?_
     rintro e W2 ⟨m3, cur2, ys, ⟨v, rfl⟩, hL2, hX2, row2, hp, hs⟩
     clear hL
     have hL := hL2
     clear hL2
     have HR : Hid (ys = rndL ms us) := by
      show _ = _
      have h2 := row2.len
      rw [natL_len] at h2
      rw [h2] at hs
      exact HRN.out ys (hs.all (hp.nodup_iff.2 HND.out)) hp
     rw [HR.out] at row2
     obtain ⟨m9, hL9, hle9, hl9, -⟩ := RowA.show (A := []) isI_mono hL row2
     go_wp2_with (first | go_skip | refine tP ?_ | (refine tS ?_; clear hL; intro _ hL) | (refine tB ?_; clear hL; intro _ _ hL _) | (refine tC ?_; clear hL; intro _ _ hL _ hBs))
     go_ret
     exact RetV.mk hL9 hl9
end Go.Proofs.YtniigfikpfinfaaGreat

/- What Round's loops hold, in plain words; a denominator's digits. -/
namespace Go.Proofs.YtniigfikpfinfaaGreat
open Go.RowKit

def rndO (ms : Ms) (us : List Rat) : List Int := if rndE ms us = 0 then natL (rndL ms us) else []
theorem rnd_neg {ms : Ms} {us : List Rat} (h : ∃ u ∈ us, u < 0) : rndE ms us = 5 ∧ rndO ms us = [] := by
 have e : rndE ms us = 5 := by unfold rndE; rw [if_pos h]
 exact ⟨e, by unfold rndO; rw [e]; rfl⟩
theorem rnd_big {ms : Ms} {us : List Rat} (h0 : ¬ ∃ u ∈ us, u < 0) (h : ∃ r ∈ ms.rows, ((1 : Int) : Rat) < sumR ms.cols us r ms.cols.length) : rndE ms us = 5 ∧ rndO ms us = [] := by
 have e : rndE ms us = 5 := by unfold rndE; rw [if_neg h0, if_pos h]
 exact ⟨e, by unfold rndO; rw [e]; rfl⟩
theorem rnd_frac {ms : Ms} {us : List Rat} (h0 : ¬ ∃ u ∈ us, u < 0) (h1 : ¬ ∃ r ∈ ms.rows, ((1 : Int) : Rat) < sumR ms.cols us r ms.cols.length) (h : ∃ y ∈ flY (entS ms.cols us ms.cols.length) ms.rows ms.rows, y.2.den ≠ 1) : rndE ms us = 16 ∧ rndO ms us = [] := by
 have e : rndE ms us = 16 := by unfold rndE; rw [if_neg h0, if_neg h1, if_pos h]
 exact ⟨e, by unfold rndO; rw [e]; rfl⟩
theorem rnd_ok {ms : Ms} {us : List Rat} (h0 : ¬ ∃ u ∈ us, u < 0) (h1 : ¬ ∃ r ∈ ms.rows, ((1 : Int) : Rat) < sumR ms.cols us r ms.cols.length) (h : ¬ ∃ y ∈ flY (entS ms.cols us ms.cols.length) ms.rows ms.rows, y.2.den ≠ 1) : rndE ms us = 0 ∧ rndO ms us = natL (rndL ms us) := by
 have e : rndE ms us = 0 := by unfold rndE; rw [if_neg h0, if_neg h1, if_neg h]
 exact ⟨e, by unfold rndO; rw [e]; rfl⟩
def colI (l : List Int) (x : Rat) (j : Nat) : List IQ := (l.take j).map fun f => (f, x)
theorem colI_step {l : List Int} {x : Rat} {j : Nat} {a : Int} (h : l[j]? = some a) : colI l x j ++ [(a, x)] = colI l x (j + 1) := by
 unfold colI; rw [← take_snoc h, List.map_append]; rfl
theorem colI_end {l : List Int} {x : Rat} {j : Nat} (h : l.length ≤ j) : colI l x j = l.map fun f => (f, x) := by unfold colI; rw [List.take_of_length_le h]
theorem colI_len (l : List Int) (x : Rat) (j : Nat) : (colI l x j).length ≤ l.length := by unfold colI; simp; omega
theorem VOk.entI_mem {x : Ms} {us : List Rat} (ok : VOk x us) {k : Nat} {e : IQ} (h : e ∈ entI x.cols us k) : Tw 18 e.2 ∧ e.1 ∈ x.rows := by
 obtain ⟨p, hp, he⟩ := List.mem_flatMap.1 h
 obtain ⟨h1, h2⟩ := ok.ent_mem hp
 obtain ⟨f, hf, rfl⟩ := List.mem_map.1 he
 exact ⟨ok.tw _ h2, (ok.ms.cols _ h1).sub f hf⟩
theorem VOk.entI_len {x : Ms} {us : List Rat} (ok : VOk x us) (k : Nat) : (entI x.cols us k).length ≤ 3200 := by
 have h1 := flatMap_len (B := 32) (l := (x.cols.zip us).take k) (f := fun e => (opF e.1.2.1).map fun f => (f, e.2)) fun e he => by
  rw [List.length_map]; exact ok.col_len (ok.ent_mem he).1
 have h2 : ((x.cols.zip us).take k).length ≤ 100 := by
  rw [List.length_take, List.length_zip]
  have := ok.few
  omega
 have h3 : 32 * ((x.cols.zip us).take k).length ≤ 32 * 100 := Nat.mul_le_mul_left _ h2
 exact Nat.le_trans h1 h3
theorem foldl_twI {B : Nat} : ∀ {l : List IQ} {s : Rat}, Tw B s → (∀ e ∈ l, Tw 18 e.2) → Tw (B + 18 * l.length) (l.foldl (fun s e => s + e.2) s)
 | [], s, h, _ => by simpa using h
 | e :: l, s, h, hl => by
  have h1 := foldl_twI (l := l) (h.add (hl e List.mem_cons_self)) fun y hy => hl y (List.mem_cons_of_mem _ hy)
  refine Tw.mono h1 ?_
  simp only [List.length_cons]; omega
theorem sumI_tw {S : List IQ} (h : ∀ e ∈ S, Tw 18 e.2) (hl : S.length ≤ 6500) (p : Int) : Tw 117000 (sumI S p) := by
 unfold sumI
 have h1 := foldl_twI tw0 (l := S.filter fun e => decide (e.1 = p)) fun e he => h e (List.mem_filter.1 he).1
 have h2 := List.length_filter_le (fun e : IQ => decide (e.1 = p)) S
 exact h1.mono (by omega)
theorem q_CompareSum (a b : Value) (p q : Rat) (w m : World) (hV : Vw m w) (ha : SumV m a p) (hb : FracC m b q) (hs : Sm p.num p.den) (hs' : Sm q.num q.den) :
  Calls Tryz.prog 83 #[a, b] w (RetV w m fun _ r => r = .int .i64 (rs (p - q))) := by
 rcases ha with ha | ⟨rfl, rfl⟩
 ·exact q_CompareC a b p q w m hV ha hb hs hs'
 ·have h := q_Compare _ b 0 0 q.num q.den w m hV (frac0 m) (hb.toS hs') ⟨by decide, by decide⟩ hs'
  rw [← rs_cmp, Rat.num_divInt_den] at h
  have e : Rat.divInt 0 0 - q = ((0 : Int) : Rat) - q := by simp
  rwa [e] at h
theorem den_dig {m : World} {g f : Bool} {A B : Option Addr} {n c p d : Nat} {q : Rat} (h : FracC m (.agg #[.bool g, .slice A n c, .bool f, .slice B p d]) q) :
  (q.den ≠ 1 ∧ p ≠ 1) ∨ (p = 1 ∧ ∃ b o e, B = some ⟨b, o, none⟩ ∧ m.cell? ⟨b, o, none⟩ = some (.int .u32 ((e : Nat) : Int)) ∧ (q.den = 1 ↔ e = 1)) := by
 obtain ⟨_, _, _, _, e, -, A', c', e2, -, hs⟩ := h
 have hq : 0 < q.den := q.den_pos
 have e3 : p = (digs q.den).length ∧ B = A' := by
  injection e with e
  simp at e
  obtain ⟨-, -, e4, e5⟩ := e
  rw [← e4, ← e5] at e2
  injection e2 with e2
  simp at e2
  exact ⟨e2.2.2.1, e2.2.1⟩
 obtain ⟨e3, rfl⟩ := e3
 rw [Int.natAbs_natCast] at hs
 have hd := digs_pos (n := q.den) (by omega)
 by_cases h0 : q.den / 4294967296 = 0
 ·rw [h0, digs_zero] at hd
  have h1 : q.den % 4294967296 = q.den := by omega
  rw [h1] at hd
  rw [hd] at e3 hs
  refine .inr ⟨e3, ?_⟩
  obtain ⟨b, o, e4, -, hc⟩ := hs (by simp)
  refine ⟨b, o, q.den, e4, ?_, Iff.rfl⟩
  have := hc 0 _ rfl
  rwa [Nat.add_zero] at this
 ·refine .inl ⟨fun e => by rw [e] at h0; exact h0 rfl, ?_⟩
  have := digs_len_pos h0
  rw [e3, hd, List.length_cons]
  omega
end Go.Proofs.YtniigfikpfinfaaGreat
