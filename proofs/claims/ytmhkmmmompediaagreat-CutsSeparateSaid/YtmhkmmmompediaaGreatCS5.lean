/- Part 5 of 8 of the proof: the law CutsSeparate returns true for every input, and its arguments read as before; there is no condition. -/
import Derived.Laws.IdiomCopy
import Derived.Maps.OwnSet
import Derived.RangeFuncNested
import Derived.RangeFuncBound
import Derived.RangeFuncCalls
import Derived.RangeFuncLeaves
import Derived.OwnWalkIn
import Derived.TacticsInMore
import Derived.LoopNIn
import Derived.LoopIn
import Derived.Test.YtmhkmmmompediaaGreatCS4
set_option linter.unusedVariables false
set_option linter.unusedSimpArgs false
set_option maxRecDepth 100000
set_option maxHeartbeats 64000000
/- Contract of cuts.known: a cut is among others. -/
namespace Go.Proofs.YtmhkmmmompediaaGreat
open Go.RowKit

theorem eq_of_first {xs ys : List Int} {n : Nat} (h1 : xs.length = n) (h2 : ys.length = n) (h : ∀ (j : Nat) (x y : Int), j < n → xs[j]? = some x → ys[j]? = some y → x = y) : xs = ys := by
 refine List.ext_getElem? fun j => ?_
 by_cases hj : j < n
 ·have e1 := List.getElem?_eq_getElem (l := xs) (i := j) (by omega)
  have e2 := List.getElem?_eq_getElem (l := ys) (i := j) (by omega)
  rw [e1, e2, h j _ _ hj e1 e2]
 ·rw [List.getElem?_eq_none (by omega), List.getElem?_eq_none (by omega)]

theorem s_EqualB (a b : Value) (xs ys : List Int) (w m : World) (hV : Vw m w) (ha : IntL m a xs) (hb : IntL m b ys) (hl : xs.length ≤ 1000000) :
  Calls Tryz.prog 151 #[a, b] w (RetV w m fun _ r => r = .bool (decide (xs = ys))) := by
 obtain ⟨A, c, rfl, hc, ha⟩ := ha.lit
 obtain ⟨B, d, rfl, hd, hb⟩ := hb.lit
 have hL := Loc.start hV
 clear hV
 obtain ⟨ez, hez⟩ : ∃ ez : Bool, ez = decide (xs = ys) := ⟨_, rfl⟩
 rw [← hez]
 have HEZ := Lib.hid hez
 clear hez
 generalize hn : xs.length = n at *
 have HN := Lib.hid hn
 clear hn
 generalize hn2 : ys.length = n2 at *
 have HN2 := Lib.hid hn2
 clear hn2
 by_cases hnn : n = n2
 ·subst hnn
  have hnn : ((n : Int) != (n : Int)) = false := by simp
  go_enter Tryz.func151, Tryz.ntmps151
  go_wp2_with (first | go_skip | refine tP ?_)
  go_loopw [13] (fun i wr => ∃ (k : Nat) (mm : World), k ≤ n ∧ i = .int .i64 k ∧ Loc w m wr mm [] ∧ Hid (∀ (j : Nat) (x y : Int), j < k → xs[j]? = some x → ys[j]? = some y → x = y)) (fun i _ => n - (intOf i).toNat)
  case atStart => exact ⟨0, m, Nat.zero_le _, rfl, hL, (fun _ _ _ h => absurd h (Nat.not_lt_zero _))⟩
  case round =>
   clear hL
   obtain ⟨k, mm, hk, rfl, hL, HJ⟩ := hrel
   have hM := hL.mext
   by_cases hlt : k < n
   ·obtain ⟨x, hx⟩ := at_some HN hlt
    obtain ⟨y, hy⟩ := at_some HN2 hlt
    obtain ⟨b1, o1, rfl, hc1⟩ := IntL.at_ ha hx
    obtain ⟨b2, o2, rfl, hc2⟩ := IntL.at_ hb hy
    have HX := Lib.hid hx
    have HY := Lib.hid hy
    clear hx hy
    by_cases hxy : x = y
    ·subst hxy
     have hxx : (x != x) = false := by simp
     have HJ2 : Hid (∀ (j : Nat) (x y : Int), j < k + 1 → xs[j]? = some x → ys[j]? = some y → x = y) := by
      show ∀ j x y, _
      intro j x' y' hj hx' hy'
      rcases Nat.lt_succ_iff_lt_or_eq.1 hj with h' | rfl
      ·exact HJ.out j x' y' h' hx' hy'
      ·rw [HX.out] at hx'; rw [HY.out] at hy'; cases hx'; cases hy'; rfl
     go_upto_region 6 with ((first | go_skip | refine tP ?_))
     (try simp only [eq_self] at *)
     refine wp_region_by2 9 [false, false, false, false, false, false, false, false, false] [false, false, false, false, false, false, false, false, false] [(fun v _ _ => v = ?c6_0a), (fun v _ _ => v = ?c6_1a), (fun v _ _ => v = ?c6_2a), (fun v _ _ => v = ?c6_3a), (fun v _ _ => v = ?c6_4a), (fun v _ _ => v = ?c6_5a), (fun v _ _ => v = ?c6_6a), (fun v _ _ => v = ?c6_7a), (fun v _ _ => v = ?c6_8a)] hL.vw mixed [16, 17, 18, 19, 20, 21, 22, 23, 24] _ (by kernel_rfl) (fun vs => by simp only [lay, Act.put, zq1, zq2, zq3]; rfl) (by kernel_rfl) (by decide) (by decide) ?s6a ?l6a ?r6a
     case s6a =>
      refine ⟨?_, ?_, ?_, ?_, ?_, ?_, ?_, ?_, ?_, trivial⟩
      ·intro vs W1 m1 hE hM hV hD; clear hD
       exact sPw
      ·intro vs W1 m1 hE hM hV hD; clear hD
       exact sPw
      ·intro vs W1 m1 hE hM hV hD; obtain ⟨⟨_, _, -, -, f16⟩, ⟨_, _, -, -, f17⟩, -⟩ := hD
       rw [(f16 : vs 16 = _), (f17 : vs 17 = _)]; clear f16 f17; exact sIy
      ·intro vs W1 m1 hE hM hV hD; obtain ⟨⟨_, _, -, -, f18⟩, -⟩ := hD
       rw [(f18 : vs 18 = _)]; clear f18; exact sLe
      ·intro vs W1 m1 hE hM hV hD; clear hD
       exact sPw
      ·intro vs W1 m1 hE hM hV hD; clear hD
       exact sPw
      ·intro vs W1 m1 hE hM hV hD; obtain ⟨⟨_, _, -, -, f20⟩, ⟨_, _, -, -, f21⟩, -⟩ := hD
       rw [(f20 : vs 20 = _), (f21 : vs 21 = _)]; clear f20 f21; exact sIy
      ·intro vs W1 m1 hE hM hV hD; obtain ⟨⟨_, _, -, -, f22⟩, -⟩ := hD
       rw [(f22 : vs 22 = _)]; clear f22; exact sLe
      ·intro vs W1 m1 hE hM hV hD; obtain ⟨⟨_, _, -, -, f19⟩, ⟨_, _, -, -, f23⟩, -⟩ := hD
       rw [(f19 : vs 19 = _), (f23 : vs 23 = _)]; clear f19 f23; exact sPw
     case l6a =>
      refine ⟨nF, nF, nF, nF, nF, nF, nF, nF, nF, trivial⟩
     intro vs W1 m1 hE hM hV hF hD
     clear hD
     obtain ⟨⟨_, _, -, -, f16⟩, ⟨_, _, -, -, f17⟩, ⟨_, _, -, -, f18⟩, ⟨_, _, -, -, f19⟩, ⟨_, _, -, -, f20⟩, ⟨_, _, -, -, f21⟩, ⟨_, _, -, -, f22⟩, ⟨_, _, -, -, f23⟩, ⟨_, _, -, -, f24⟩, -⟩ := hF
     replace hL := hL.call hE hM hV
     have f16 : vs 16 = _ := f16
     generalize vs 16 = x16 at f16 ⊢
     subst x16
     have f17 : vs 17 = _ := f17
     generalize vs 17 = x17 at f17 ⊢
     subst x17
     have f18 : vs 18 = _ := f18
     generalize vs 18 = x18 at f18 ⊢
     subst x18
     have f19 : vs 19 = _ := f19
     generalize vs 19 = x19 at f19 ⊢
     subst x19
     have f20 : vs 20 = _ := f20
     generalize vs 20 = x20 at f20 ⊢
     subst x20
     have f21 : vs 21 = _ := f21
     generalize vs 21 = x21 at f21 ⊢
     subst x21
     have f22 : vs 22 = _ := f22
     generalize vs 22 = x22 at f22 ⊢
     subst x22
     have f23 : vs 23 = _ := f23
     generalize vs 23 = x23 at f23 ⊢
     subst x23
     have f24 : vs 24 = _ := f24
     generalize vs 24 = x24 at f24 ⊢
     subst x24
     clear hE hV
     simp only [List.drop_succ_cons, List.drop_zero]
     go_wp2_with (first | go_skip | refine tP ?_)
     refine QN.mk ?_
     go_wp2_with (first | go_skip | refine tP ?_)
     go_roundw
     case rel => exact ⟨k + 1, _, by omega, by go_num, hL, HJ2.out⟩
     case measure => simp [intOf] <;> omega
    ·have hxx : (x != y) = true := by simpa using hxy
     have HF : Hid (ez = false) := by
      show _ = _
      rw [HEZ.out]
      refine decide_eq_false fun e => hxy ?_
      have h1 := HX.out
      rw [e, HY.out] at h1
      cases h1; rfl
     clear hxy
     go_upto_region 6 with ((first | go_skip | refine tP ?_))
     (try simp only [eq_self] at *)
     refine wp_region_by2 9 [false, false, false, false, false, false, false, false, false] [false, false, false, false, false, false, false, false, false] [(fun v _ _ => v = ?c6_0b), (fun v _ _ => v = ?c6_1b), (fun v _ _ => v = ?c6_2b), (fun v _ _ => v = ?c6_3b), (fun v _ _ => v = ?c6_4b), (fun v _ _ => v = ?c6_5b), (fun v _ _ => v = ?c6_6b), (fun v _ _ => v = ?c6_7b), (fun v _ _ => v = ?c6_8b)] hL.vw mixed [16, 17, 18, 19, 20, 21, 22, 23, 24] _ (by kernel_rfl) (fun vs => by simp only [lay, Act.put, zq1, zq2, zq3]; rfl) (by kernel_rfl) (by decide) (by decide) ?s6b ?l6b ?r6b
     case s6b =>
      refine ⟨?_, ?_, ?_, ?_, ?_, ?_, ?_, ?_, ?_, trivial⟩
      ·intro vs W1 m1 hE hM hV hD; clear hD
       exact sPw
      ·intro vs W1 m1 hE hM hV hD; clear hD
       exact sPw
      ·intro vs W1 m1 hE hM hV hD; obtain ⟨⟨_, _, -, -, f16⟩, ⟨_, _, -, -, f17⟩, -⟩ := hD
       rw [(f16 : vs 16 = _), (f17 : vs 17 = _)]; clear f16 f17; exact sIy
      ·intro vs W1 m1 hE hM hV hD; obtain ⟨⟨_, _, -, -, f18⟩, -⟩ := hD
       rw [(f18 : vs 18 = _)]; clear f18; exact sLe
      ·intro vs W1 m1 hE hM hV hD; clear hD
       exact sPw
      ·intro vs W1 m1 hE hM hV hD; clear hD
       exact sPw
      ·intro vs W1 m1 hE hM hV hD; obtain ⟨⟨_, _, -, -, f20⟩, ⟨_, _, -, -, f21⟩, -⟩ := hD
       rw [(f20 : vs 20 = _), (f21 : vs 21 = _)]; clear f20 f21; exact sIy
      ·intro vs W1 m1 hE hM hV hD; obtain ⟨⟨_, _, -, -, f22⟩, -⟩ := hD
       rw [(f22 : vs 22 = _)]; clear f22; exact sLe
      ·intro vs W1 m1 hE hM hV hD; obtain ⟨⟨_, _, -, -, f19⟩, ⟨_, _, -, -, f23⟩, -⟩ := hD
       rw [(f19 : vs 19 = _), (f23 : vs 23 = _)]; clear f19 f23; exact sPw
     case l6b =>
      refine ⟨nF, nF, nF, nF, nF, nF, nF, nF, nF, trivial⟩
     intro vs W1 m1 hE hM hV hF hD
     clear hD
     obtain ⟨⟨_, _, -, -, f16⟩, ⟨_, _, -, -, f17⟩, ⟨_, _, -, -, f18⟩, ⟨_, _, -, -, f19⟩, ⟨_, _, -, -, f20⟩, ⟨_, _, -, -, f21⟩, ⟨_, _, -, -, f22⟩, ⟨_, _, -, -, f23⟩, ⟨_, _, -, -, f24⟩, -⟩ := hF
     replace hL := hL.call hE hM hV
     have f16 : vs 16 = _ := f16
     generalize vs 16 = x16 at f16 ⊢
     subst x16
     have f17 : vs 17 = _ := f17
     generalize vs 17 = x17 at f17 ⊢
     subst x17
     have f18 : vs 18 = _ := f18
     generalize vs 18 = x18 at f18 ⊢
     subst x18
     have f19 : vs 19 = _ := f19
     generalize vs 19 = x19 at f19 ⊢
     subst x19
     have f20 : vs 20 = _ := f20
     generalize vs 20 = x20 at f20 ⊢
     subst x20
     have f21 : vs 21 = _ := f21
     generalize vs 21 = x21 at f21 ⊢
     subst x21
     have f22 : vs 22 = _ := f22
     generalize vs 22 = x22 at f22 ⊢
     subst x22
     have f23 : vs 23 = _ := f23
     generalize vs 23 = x23 at f23 ⊢
     subst x23
     have f24 : vs 24 = _ := f24
     generalize vs 24 = x24 at f24 ⊢
     subst x24
     clear hE hV
     simp only [List.drop_succ_cons, List.drop_zero]
     go_wp2_with (first | go_skip | refine tP ?_)
     refine QN.mk ?_
     go_wp2_with (first | go_skip | refine tP ?_)
     go_ret
     exact RetV.mk hL (by rw [HF.out]; rfl)
   ·have hkn : k = n := by omega
    subst hkn
    have HT : Hid (ez = true) := by
     show _ = _
     rw [HEZ.out]
     exact decide_eq_true (eq_of_first HN.out HN2.out HJ.out)
    have h9 : (k : Int) ≤ (k : Int) := Int.le_refl _
    go_wp2_with (first | go_skip | refine tP ?_)
    go_ret
    exact RetV.mk hL (by rw [HT.out]; rfl)
 ·have h2 : ((n : Int) != (n2 : Int)) = true := by simp; omega
  have HF : Hid (ez = false) := by
   show _ = _
   rw [HEZ.out]
   refine decide_eq_false fun e => hnn ?_
   rw [← HN.out, ← HN2.out, e]
  clear hnn
  go_enter Tryz.func151, Tryz.ntmps151
  go_wp2_with (first | go_skip | refine tP ?_)
  go_ret
  exact RetV.mk hL (by rw [HF.out]; rfl)

theorem u_known1 (yv : Value) (y x : Cut) (g c : Nat) (X : Option Addr) (w m : World) (hV : Vw m w) (hy : CutR m yv y) (hx : IntL m (.slice X x.1.length c) x.1) (hc0 : m.cell? ⟨g, 0, none⟩ = some (.slice X x.1.length c)) (hc1 : m.cell? ⟨g, 1, none⟩ = some (.int .i64 x.2)) :
  Calls Tryz.prog 164 #[yv, .pointer (some ⟨g, 0, none⟩)] w (RetV w m fun _ r => r = .bool (decide (y = x))) := by
 obtain ⟨ys, yd⟩ := y
 obtain ⟨xs, xd⟩ := x
 obtain ⟨sv, rfl, hs, hsl⟩ := hy
 simp only at hs hsl hx hc0 hc1
 obtain ⟨Y, cy, rfl, hcy, hs⟩ := hs.lit
 have HS := Lib.hid hs
 have HX := Lib.hid hx
 have HYL := Lib.hid hsl
 obtain ⟨ez, hez⟩ : ∃ ez : Bool, ez = decide (((ys, yd) : Cut) = (xs, xd)) := ⟨_, rfl⟩
 rw [← hez]
 have HEZ := Lib.hid hez
 have KE : Hid (∀ w m', Vw m' w → Le m m' → Calls Tryz.prog 151 #[.slice Y ys.length cy, .slice X xs.length c] w (RetV w m' fun _ r => r = .bool (decide (ys = xs)))) := by
  show ∀ w m', _
  exact fun w m' hV hle => s_EqualB _ _ ys xs w m' hV (IntL.le HS.out hle) (IntL.le HX.out hle) HYL.out
 have hL := Loc.start hV
 clear hV hez hs hx hsl
 generalize ys.length = ny at *
 generalize xs.length = nx at *
 by_cases hd : yd = xd
 ·subst hd
  have hdd : (yd == yd) = true := by simp
  have HE : Hid (ez = decide (ys = xs)) := by
   show _ = _
   rw [HEZ.out]
   simp
  go_enter Tryz.func164, Tryz.ntmps164
  go_upto_region 0 with (fail)
  refine wp_region_lit ?_
  refine t_box hL rfl rfl ?_; clear hL; intro Wh2 mh2 hL eh2; simp only [Act.put, zq1, zq2, zq3]
  go_wp2_with (first | go_skip | refine tP ?_ | (refine tB ?_; clear hL; intro _ _ hL _))
  refine (KE.out _ _ hL.vw leX).mono ?_
  rintro e Wc1 ⟨_, mc1, rfl, hE, hMc1, hV, rfl⟩
  replace hL := hL.call hE (by assumption) hV; clear hE hV
  go_wp2_with (first | go_skip | refine tP ?_ | (refine tB ?_; clear hL; intro _ _ hL _))
  go_ret
  exact RetV.mk hL (by rw [HE.out]; rfl)
 ·have hdd : (yd == xd) = false := by simpa using hd
  have HE : Hid (ez = false) := by
   show _ = _
   rw [HEZ.out]
   exact decide_eq_false fun e => hd (congrArg Prod.snd e)
  clear hd
  go_enter Tryz.func164, Tryz.ntmps164
  go_upto_region 0 with (fail)
  refine wp_region_lit ?_
  refine t_box hL rfl rfl ?_; clear hL; intro Wh2 mh2 hL eh2; simp only [Act.put, zq1, zq2, zq3]
  go_wp2_with (first | go_skip | refine tP ?_ | (refine tB ?_; clear hL; intro _ _ hL _))
  go_ret
  exact RetV.mk hL (by rw [HE.out]; rfl)

theorem s_IndexCut (lv : Value) (cs : List Cut) (x : Cut) (g c : Nat) (X : Option Addr) (w m : World) (hV : Vw m w) (hl : CutL m lv cs) (hx : IntL m (.slice X x.1.length c) x.1) (hc0 : m.cell? ⟨g, 0, none⟩ = some (.slice X x.1.length c)) (hc1 : m.cell? ⟨g, 1, none⟩ = some (.int .i64 x.2)) (hn : cs.length ≤ 1000000) :
  Calls Tryz.prog 193 #[lv, .func (.func 164) #[] #[.pointer (some ⟨g, 0, none⟩)]] w (RetV w m fun _ r => ∃ z : Int, r = .int .i64 z ∧ decide (z ≥ 0) = decide (x ∈ cs)) := by
 obtain ⟨A, cl, rfl, hcl, hl⟩ := hl.lit
 have HL := Lib.hid hl
 have KE : Hid (∀ yv y w m', Vw m' w → Le m m' → CutR m' yv y → Calls Tryz.prog 164 #[yv, .pointer (some ⟨g, 0, none⟩)] w (RetV w m' fun _ r => r = .bool (decide (y = x)))) := by
  show ∀ yv y w m', _
  exact fun yv y w m' hV hle hy => u_known1 yv y x g c X w m' hV hy (IntL.le hx hle) (hle.cell _ _ hc0) (hle.cell _ _ hc1)
 have hL := Loc.start hV
 clear hV hl hx hc0 hc1
 generalize hn1 : cs.length = n at *
 have HN := Lib.hid hn1
 clear hn1
 go_enter Tryz.func193, Tryz.ntmps193
 go_wp2_with (first | go_skip | refine tP ?_)
 go_loopw [8] (fun i wr => ∃ (k : Nat) (mm : World), k ≤ n ∧ i = .int .i64 k ∧ Loc w m wr mm [] ∧ Hid (∀ (j : Nat) (y : Cut), j < k → cs[j]? = some y → y ≠ x)) (fun i _ => n - (intOf i).toNat)
 case atStart => exact ⟨0, m, Nat.zero_le _, rfl, hL, (fun _ _ h => absurd h (Nat.not_lt_zero _))⟩
 case round =>
  clear hL
  obtain ⟨k, mm, hk, rfl, hL, HJ⟩ := hrel
  have hM := hL.mext
  by_cases hlt : k < n
  ·have hlt' : (k : Int) < (n : Int) := by omega
   obtain ⟨⟨ys, yd⟩, hx⟩ := at_some HN hlt
   have hcu := HL.out
   obtain ⟨b1, o1, D, cd, rfl, hcx, hr1⟩ := CutL.at_' hcu hx
   have HCX := Lib.hid hcx
   have HX := Lib.hid hx
   simp only at hr1
   clear hx hcx hcu
   go_wp2_with (first | go_skip | refine tP ?_)
   refine (KE.out _ (ys, yd) _ _ hL.vw leX (HCX.out.le leX)).mono ?_
   rintro e Wc2 ⟨_, mc2, rfl, hE, hMc2, hV, rfl⟩
   replace hL := hL.call hE (by assumption) hV; clear hE hV
   by_cases hyx : ((ys, yd) : Cut) = x
   ·have HM : Hid (decide (x ∈ cs) = true) := decide_eq_true (hyx ▸ List.mem_of_getElem? HX.out)
    rw [decide_eq_true hyx]
    clear hyx
    go_wp2_with (first | go_skip | refine tP ?_)
    go_ret
    exact RetV.mk hL ⟨(k : Int), rfl, by rw [HM.out]; exact decide_eq_true (by omega)⟩
   ·have HJ2 : Hid (∀ (j : Nat) (y : Cut), j < k + 1 → cs[j]? = some y → y ≠ x) := by
     show ∀ j y, _
     intro j y hj hy
     rcases Nat.lt_succ_iff_lt_or_eq.1 hj with h' | rfl
     ·exact HJ.out j y h' hy
     ·rw [HX.out] at hy; cases hy; exact hyx
    rw [decide_eq_false hyx]
    clear hyx
    go_wp2_with (first | go_skip | refine tP ?_)
    go_roundw
    case rel => exact ⟨k + 1, _, by omega, by go_num, hL, HJ2.out⟩
    case measure => simp [intOf] <;> omega
  ·have HM : Hid (decide (x ∈ cs) = false) := by
    refine decide_eq_false fun h => ?_
    obtain ⟨j, hj⟩ := List.mem_iff_getElem?.1 h
    have h1 := (List.getElem?_eq_some_iff.1 hj).1
    have h2 := HN.out
    exact HJ.out j x (by omega) hj rfl
   have h9 : (n : Int) ≤ (k : Int) := by omega
   go_wp2_with (first | go_skip | refine tP ?_)
   go_ret
   exact RetV.mk hL ⟨-1, rfl, by rw [HM.out]; rfl⟩
end Go.Proofs.YtmhkmmmompediaaGreat

/- Contract of cuts.known. -/
namespace Go.Proofs.YtmhkmmmompediaaGreat
open Go.RowKit

theorem s_ContainsCut (lv : Value) (cs : List Cut) (x : Cut) (g c : Nat) (X : Option Addr) (w m : World) (hV : Vw m w) (hl : CutL m lv cs) (hx : IntL m (.slice X x.1.length c) x.1) (hc0 : m.cell? ⟨g, 0, none⟩ = some (.slice X x.1.length c)) (hc1 : m.cell? ⟨g, 1, none⟩ = some (.int .i64 x.2)) (hn : cs.length ≤ 1000000) :
  Calls Tryz.prog 163 #[lv, .func (.func 164) #[] #[.pointer (some ⟨g, 0, none⟩)]] w (RetV w m fun _ r => r = .bool (decide (x ∈ cs))) := by
 obtain ⟨A, cl, rfl, hcl, hl⟩ := hl.lit
 have KE : Hid (∀ w m', Vw m' w → Le m m' → Calls Tryz.prog 193 #[.slice A cs.length cl, .func (.func 164) #[] #[.pointer (some ⟨g, 0, none⟩)]] w (RetV w m' fun _ r => ∃ z : Int, r = .int .i64 z ∧ decide (z ≥ 0) = decide (x ∈ cs))) := by
  show ∀ w m', _
  exact fun w m' hV hle => s_IndexCut _ cs x g c X w m' hV (CutL.le hl hle) (IntL.le hx hle) (hle.cell _ _ hc0) (hle.cell _ _ hc1) hn
 have hL := Loc.start hV
 clear hV hl hx hc0 hc1
 obtain ⟨ez, hez⟩ : ∃ ez : Bool, ez = decide (x ∈ cs) := ⟨_, rfl⟩
 rw [← hez] at KE ⊢
 clear hez
 generalize cs.length = n at *
 go_enter Tryz.func163, Tryz.ntmps163
 go_wp2_with (first | go_skip | refine tP ?_)
 refine (KE.out _ _ hL.vw leX).mono ?_
 rintro e W2 ⟨_, m2, rfl, hE, hM2, hV, z, rfl, hz⟩
 replace hL := hL.call hE (by assumption) hV; clear hE hV
 have HZ := Lib.hid hz
 clear hz
 go_wp2_with (first | go_skip | refine tP ?_)
 go_ret
 exact RetV.mk hL (by rw [← HZ.out]; rfl)

theorem Sl.cell {m : World} {g : Nat} {cs : List Value} (h : Sl m (some ⟨g, 0, none⟩) cs) {j : Nat} {v : Value} (hj : cs[j]? = some v) : m.cell? ⟨g, j, none⟩ = some v := by
 obtain ⟨b, off, e, _, hc⟩ := h (by have := (List.getElem?_eq_some_iff.1 hj).1; omega)
 cases e
 have := hc j v hj
 rwa [Nat.zero_add] at this

theorem u_known (lv xv : Value) (cs : List Cut) (x : Cut) (w m : World) (hV : Vw m w) (hl : CutL m lv cs) (hx : CutR m xv x) (hn : cs.length ≤ 1000000) :
  Calls Tryz.prog 104 #[lv, xv] w (RetV w m fun _ r => r = .bool (decide (x ∈ cs))) := by
 obtain ⟨A, cl, rfl, hcl, hl⟩ := hl.lit
 obtain ⟨sv, rfl, hs, hsl⟩ := hx
 obtain ⟨X, c, rfl, hc, hs⟩ := hs.lit
 have KE : Hid (∀ g w m', Vw m' w → Le m m' → m'.cell? ⟨g, 0, none⟩ = some (.slice X x.1.length c) → m'.cell? ⟨g, 1, none⟩ = some (.int .i64 x.2) → Calls Tryz.prog 163 #[.slice A cs.length cl, .func (.func 164) #[] #[.pointer (some ⟨g, 0, none⟩)]] w (RetV w m' fun _ r => r = .bool (decide (x ∈ cs)))) := by
  show ∀ g w m', _
  exact fun g w m' hV hle h0 h1 => s_ContainsCut _ cs x g c X w m' hV (CutL.le hl hle) (IntL.le hs hle) h0 h1 hn
 have hL := Loc.start hV
 clear hV hl hs hsl hcl hc hn
 generalize decide (x ∈ cs) = ez at *
 generalize cs.length = n at *
 generalize x.1.length = nx at *
 generalize x.2 = dv at *
 go_enter Tryz.func104, Tryz.ntmps104
 go_upto_region 0 with (fail)
 refine wp_region_lit ?_
 refine t_box hL rfl rfl ?_; clear hL; intro Wh3 mh3 hL eh3; simp only [Act.put, zq1, zq2, zq3]
 obtain ⟨m2, hL2, hle, hsl⟩ := Loc.show1 (A := []) hL 2
 have h0 := hsl.cell (j := 0) rfl
 have h1 := hsl.cell (j := 1) rfl
 have H0 := Lib.hid h0
 have H1 := Lib.hid h1
 have HLE : Hid (Le m m2) := Le.trans leX hle
 clear hL hsl h0 h1
 have hL := hL2
 clear hL2
 go_wp2_with (first | go_skip | refine tP ?_ | (refine tB ?_; clear hL; intro _ _ hL _))
 refine (KE.out _ _ _ hL.vw (Le.trans HLE.out leX) H0.out H1.out).mono ?_
 rintro e Wc1 ⟨_, mc1, rfl, hE, hMc1, hV, rfl⟩
 replace hL := hL.call hE (by assumption) hV; clear hE hV
 go_wp2_with (first | go_skip | refine tP ?_ | (refine tB ?_; clear hL; intro _ _ hL _))
 go_ret
 exact RetV.mk hL rfl
end Go.Proofs.YtmhkmmmompediaaGreat

/- Contract of math/bits.OnesCount32 for small numbers. -/
namespace Go.Proofs.YtmhkmmmompediaaGreat
open Go.RowKit

def popF (n : Nat) : Nat := (List.range 5).countP fun i => n.testBit i
theorem pop_tab : ∀ x : Fin 32, (Lib.pop8 0 + Lib.pop8 0 + Lib.pop8 0 + Lib.pop8 (x.1 : Int)) % 256 = (popF x.1 : Int) := by decide +kernel
theorem and_255 : ∀ x : Fin 32, bits .and .u32 (x.1 : Int) 255 = (x.1 : Int) := by decide +kernel
theorem and_32 : ∀ x y : Fin 32, bits .and .u32 (x.1 : Int) (y.1 : Int) = ((x.1 &&& y.1 : Nat) : Int) := by decide +kernel
theorem popF_le : ∀ x : Fin 32, popF x.1 ≤ 5 := by decide +kernel

theorem u_ones (n : Nat) (hn : n < 32) (w m : World) (hV : Vw m w) : Calls Tryz.prog 161 #[.int .u32 n] w (RetV w m fun _ r => r = .int .i64 (popF n : Nat)) := by
 have HP := Lib.hid (pop_tab ⟨n, hn⟩)
 have a1 : bits .and .u32 (n : Int) 255 = (n : Int) := and_255 ⟨n, hn⟩
 have hL := Loc.start hV
 clear hV
 simp only at HP
 obtain ⟨x, hx⟩ : ∃ x : Int, x = (n : Int) := ⟨_, rfl⟩
 rw [← hx] at a1 HP ⊢
 have a0 : bits .and .u32 0 255 = 0 := rfl
 have h0 : 0 ≤ x := by omega
 have h255 : x ≤ 255 := by omega
 have s1 : x / 16777216 = 0 := by omega
 have s2 : x / 65536 = 0 := by omega
 have s3 : x / 256 = 0 := by omega
 clear hx hn
 go_enter Tryz.func161, Tryz.ntmps161
 go_upto_region 1 with ((first | go_skip | refine tP ?_))
 refine wp_region_by2 18 [false, false, false, false, false, false, false, false, false, false, false, false, false, false, false, false, false, false] [false, false, false, false, false, false, false, false, false, false, false, false, false, false, false, false, false, false] [(fun v _ _ => v = ?c1_0), (fun v _ _ => v = ?c1_1), (fun v _ _ => v = ?c1_2), (fun v _ _ => v = ?c1_3), (fun v _ _ => v = ?c1_4), (fun v _ _ => v = ?c1_5), (fun v _ _ => v = ?c1_6), (fun v _ _ => v = ?c1_7), (fun v _ _ => v = ?c1_8), (fun v _ _ => v = ?c1_9), (fun v _ _ => v = ?c1_10), (fun v _ _ => v = ?c1_11), (fun v _ _ => v = ?c1_12), (fun v _ _ => v = ?c1_13), (fun v _ _ => v = ?c1_14), (fun v _ _ => v = ?c1_15), (fun v _ _ => v = ?c1_16), (fun v _ _ => v = ?c1_17)] hL.vw mixed [3, 4, 5, 6, 7, 8, 9, 10, 11, 12, 13, 14, 15, 16, 17, 18, 19, 20] _ (by kernel_rfl) (fun vs => by simp only [lay, Act.put, zq1, zq2, zq3]; rfl) (by kernel_rfl) (by decide) (by decide) ?s1 ?l1 ?r1
 case s1 =>
  refine ⟨?_, ?_, ?_, ?_, ?_, ?_, ?_, ?_, ?_, ?_, ?_, ?_, ?_, ?_, ?_, ?_, ?_, ?_, trivial⟩
  ·intro vs W1 m1 hE hM hV hD; clear hD
   exact sPw
  ·intro vs W1 m1 hE hM hV hD; obtain ⟨⟨_, _, -, -, f3⟩, -⟩ := hD
   rw [(f3 : vs 3 = _)]; clear f3; exact sPw
  ·intro vs W1 m1 hE hM hV hD; obtain ⟨⟨_, _, -, -, f4⟩, -⟩ := hD
   rw [(f4 : vs 4 = _)]
   clear f4
   replace hL := hL.call hE hM hV
   go_wp2_with (first | go_skip | refine tP ?_)
   refine One2.still hV ?_; exact rfl
  ·intro vs W1 m1 hE hM hV hD; clear hD
   exact sPw
  ·intro vs W1 m1 hE hM hV hD; obtain ⟨⟨_, _, -, -, f6⟩, -⟩ := hD
   rw [(f6 : vs 6 = _)]; clear f6; exact sPw
  ·intro vs W1 m1 hE hM hV hD; obtain ⟨⟨_, _, -, -, f7⟩, -⟩ := hD
   rw [(f7 : vs 7 = _)]; clear f7; exact sPw
  ·intro vs W1 m1 hE hM hV hD; obtain ⟨⟨_, _, -, -, f8⟩, -⟩ := hD
   rw [(f8 : vs 8 = _)]
   clear f8
   replace hL := hL.call hE hM hV
   go_wp2_with (first | go_skip | refine tP ?_)
   refine One2.still hV ?_; exact rfl
  ·intro vs W1 m1 hE hM hV hD; obtain ⟨⟨_, _, -, -, f5⟩, ⟨_, _, -, -, f9⟩, -⟩ := hD
   rw [(f5 : vs 5 = _), (f9 : vs 9 = _)]; clear f5 f9; exact sPw
  ·intro vs W1 m1 hE hM hV hD; clear hD
   exact sPw
  ·intro vs W1 m1 hE hM hV hD; obtain ⟨⟨_, _, -, -, f11⟩, -⟩ := hD
   rw [(f11 : vs 11 = _)]; clear f11; exact sPw
  ·intro vs W1 m1 hE hM hV hD; obtain ⟨⟨_, _, -, -, f12⟩, -⟩ := hD
   rw [(f12 : vs 12 = _)]; clear f12; exact sPw
  ·intro vs W1 m1 hE hM hV hD; obtain ⟨⟨_, _, -, -, f13⟩, -⟩ := hD
   rw [(f13 : vs 13 = _)]
   clear f13
   replace hL := hL.call hE hM hV
   go_wp2_with (first | go_skip | refine tP ?_)
   refine One2.still hV ?_; exact rfl
  ·intro vs W1 m1 hE hM hV hD; obtain ⟨⟨_, _, -, -, f10⟩, ⟨_, _, -, -, f14⟩, -⟩ := hD
   rw [(f10 : vs 10 = _), (f14 : vs 14 = _)]; clear f10 f14; exact sPw
  ·intro vs W1 m1 hE hM hV hD; clear hD
   exact sPw
  ·intro vs W1 m1 hE hM hV hD; obtain ⟨⟨_, _, -, -, f16⟩, -⟩ := hD
   rw [(f16 : vs 16 = _)]; clear f16; exact sPw
  ·intro vs W1 m1 hE hM hV hD; obtain ⟨⟨_, _, -, -, f17⟩, -⟩ := hD
   rw [(f17 : vs 17 = _)]
   clear f17
   replace hL := hL.call hE hM hV
   go_wp2_with (first | go_skip | refine tP ?_)
   refine One2.still hV ?_; exact rfl
  ·intro vs W1 m1 hE hM hV hD; obtain ⟨⟨_, _, -, -, f15⟩, ⟨_, _, -, -, f18⟩, -⟩ := hD
   rw [(f15 : vs 15 = _), (f18 : vs 18 = _)]; clear f15 f18; exact sPw
  ·intro vs W1 m1 hE hM hV hD; obtain ⟨⟨_, _, -, -, f19⟩, -⟩ := hD
   rw [(f19 : vs 19 = _)]; clear f19; exact sPw
 case l1 =>
  refine ⟨nF, nF, nF, nF, nF, nF, nF, nF, nF, nF, nF, nF, nF, nF, nF, nF, nF, nF, trivial⟩
 intro vs W1 m1 hE hM hV hF hD
 clear hD
 obtain ⟨-, -, -, -, -, -, -, -, -, -, -, -, -, -, -, -, -, ⟨_, _, -, -, f20⟩, -⟩ := hF
 replace hL := hL.call hE hM hV
 have f20 : vs 20 = _ := f20
 generalize vs 20 = x20 at f20 ⊢
 subst x20
 clear hE hV
 simp only [List.drop_succ_cons, List.drop_zero]
 go_wp2_with (first | go_skip | refine tP ?_)
 refine QN.mk ?_
 go_wp2_with (first | go_skip | refine tP ?_)
 go_ret
 exact RetV.mk hL (by rw [← HP.out]; rfl)
end Go.Proofs.YtmhkmmmompediaaGreat

/- Rows that append built: an element is read, a part of an element is written. Groups of columns. No program but for the types. -/
namespace Go.Proofs.YtmhkmmmompediaaGreat
open Go.RowKit

theorem RowA.block {α : Type} {e : TypeId} {size : Nat} {R : World → Value → α → Prop} {m : World} {v : Value} {n : Nat} {xs : List α} {Rr : List Lo} (h : RowA e size R m v n xs Rr) (hn : 0 < n) :
  ∃ g cap cur, v = .slice (some ⟨g, 0, none⟩) n cap ∧ Rr = [(g, e, cur)] ∧ n ≤ cap ∧ cur.size = cap * size := by
 obtain ⟨vs, ⟨h0, h1⟩, h2, h3, h4⟩ := h
 rcases h1 with ⟨-, h1, -⟩ | ⟨g, cap, cur, e1, e2, h5, -, h6, -⟩
 ·omega
 ·exact ⟨g, cap, cur, e1, e2, h5, h6⟩
theorem RowA.at_ {α : Type} {e : TypeId} {size : Nat} {R : World → Value → α → Prop} {m : World} {v : Value} {n g : Nat} {cur : Array Value} {xs : List α} (h : RowA e size R m v n xs [(g, e, cur)]) {k : Nat} {x : α} (hk : xs[k]? = some x) :
  ∃ u, R m u x ∧ u.cells.size = size ∧ ∀ j, j < size → cur[0 + k * size + j]? = u.cells[j]? := by
 obtain ⟨vs, ⟨h0, h1⟩, h2, h3, h4⟩ := h
 obtain ⟨u, hu, hR⟩ := h3.at_ hk
 refine ⟨u, hR, h2 u (List.mem_of_getElem? hu), fun j hj => ?_⟩
 have hc := cellsOf_at h2 hu j hj
 rcases h1 with ⟨-, -, h1⟩ | ⟨g', cap, cur', e1, e2, h5, -, h6, h7⟩
 ·cases h1
 ·cases e2
  rw [← h7, List.getElem?_take] at hc
  have hkn : k < n := by rw [← h4]; exact (List.getElem?_eq_some_iff.1 hu).1
  have hlt : k * size + j < n * size := by
   have : (k + 1) * size ≤ n * size := Nat.mul_le_mul_right _ hkn
   rw [Nat.succ_mul] at this; omega
  rw [if_pos hlt, Array.getElem?_toList] at hc
  rw [Nat.zero_add, hc, Array.getElem?_toList]
theorem RowA.put {α : Type} {e : TypeId} {size : Nat} {R : World → Value → α → Prop} {m : World} {v : Value} {n g : Nat} {cur : Array Value} {xs : List α} (h : RowA e size R m v n xs [(g, e, cur)]) {k o : Nat} {x : α} {ws cs : List Value} (hk : k < xs.length) (ho : o + ws.length ≤ size)
  (hcs : cs.length = size) (hc : ∀ j, j < size → cs[j]? = if o ≤ j ∧ j < o + ws.length then ws[j - o]? else cur[0 + k * size + j]?) (hR : R m (.agg cs.toArray) x) :
  RowA e size R m v n (xs.set k x) [(g, e, splice cur (k * size + o) ws)] := by
 obtain ⟨vs, ⟨h0, h1⟩, h2, h3, h4⟩ := h
 have hl := h3.length
 have hkn : k < n := by omega
 have hle : (k + 1) * size ≤ n * size := Nat.mul_le_mul_right _ hkn
 rw [Nat.succ_mul] at hle
 rcases h1 with ⟨-, h1, -⟩ | ⟨g', cap, cur', e1, e2, h5, h5', h6, h7⟩
 ·omega
 ·cases e2
  have hcap : n * size ≤ cap * size := Nat.mul_le_mul_right _ h5
  have hset : ∀ j, (cellsOf (vs.set k (.agg cs.toArray)))[j]? = if k * size ≤ j ∧ j < k * size + size then cs[j - k * size]? else (cellsOf vs)[j]? := cellsOf_set h2 hcs (by omega)
  refine ⟨vs.set k (.agg cs.toArray), ⟨?_, .inr ⟨g, cap, _, e1, rfl, h5, h5', by rw [splice_size]; exact h6, ?_⟩⟩, ?_, h3.set hR, by simpa using h4⟩
  ·have h8 := cellsOf_length (vs := vs.set k (.agg cs.toArray)) (size := size) (by
    intro u hu
    rcases List.mem_or_eq_of_mem_set hu with hu | rfl
    ·exact h2 u hu
    ·simpa [Value.cells] using hcs)
   rw [h8]; simp [h4]
  ·apply List.ext_getElem?
   intro j
   rw [List.getElem?_take, Array.getElem?_toList, splice_at ws _ _ (by rw [h6]; omega), hset, ← h7]
   by_cases hj : j < n * size
   ·rw [if_pos hj, List.getElem?_take, if_pos hj, Array.getElem?_toList]
    by_cases h9 : k * size ≤ j ∧ j < k * size + size
    ·rw [if_pos h9, hc _ (by omega)]
     by_cases h10 : k * size + o ≤ j ∧ j < k * size + o + ws.length
     ·rw [if_pos h10, if_pos (by omega), show j - (k * size + o) = j - k * size - o by omega]; simp
     ·rw [if_neg h10, if_neg (by omega), show 0 + k * size + (j - k * size) = j by omega]
    ·rw [if_neg h9, if_neg (by omega)]; simp
   ·rw [if_neg hj, if_neg (by omega), List.getElem?_take, if_neg hj]
  ·intro u hu
   rcases List.mem_or_eq_of_mem_set hu with hu | rfl
   ·exact h2 u hu
   ·simpa [Value.cells] using hcs

abbrev Grp := Nat × Rat × Int
def GrpR (m : World) (v : Value) (x : Grp) : Prop := ∃ g A n c h B k d, v = .agg #[.int .u32 x.1, .bool g, .slice A n c, .bool h, .slice B k d, .int .i64 x.2.2] ∧ FracC m (.agg #[.bool g, .slice A n c, .bool h, .slice B k d]) x.2.1
theorem GrpR.mono (m m' : World) (v : Value) (x : Grp) (h : GrpR m v x) (hl : Le m m') : GrpR m' v x := by
 obtain ⟨g, A, n, c, h', B, k, d, e, hf⟩ := h
 exact ⟨g, A, n, c, h', B, k, d, e, hf.le hl⟩
abbrev GrpL := ListV (α := Grp) 6 GrpR
theorem GrpL.le {m m' : World} {v : Value} {xs : List Grp} (h : GrpL m v xs) (hl : Le m m') : GrpL m' v xs := ListV.le GrpR.mono h hl
theorem GrpL.at_ {m : World} {A : Option Addr} {n c : Nat} {xs : List Grp} (h : GrpL m (.slice A n c) xs) {k : Nat} {x : Grp} (hk : xs[k]? = some x) :
  ∃ b off g A' n' c' f B p q, A = some ⟨b, off, none⟩ ∧ FracC m (.agg #[.bool g, .slice A' n' c', .bool f, .slice B p q]) x.2.1 ∧ m.rangeAt b (off + k * 6) [.int .u32 x.1, .bool g, .slice A' n' c', .bool f, .slice B p q, .int .i64 x.2.2] := by
 obtain ⟨b, off, v, e, ⟨g, A', n', c', f, B, p, q, rfl, hf⟩, _, hr⟩ := ListV.at_ h (by omega) hk
 exact ⟨b, off, g, A', n', c', f, B, p, q, e, hf, hr⟩
theorem ap_Grps : apS Tryz.prog 117 = some (171, 6, 80, 6) := by kernel_rfl
instance iAE2_1 : ApC Tryz.prog 117 171 6 80 := ⟨ap_Grps⟩
theorem zc_Grp : zc Tryz.prog 171 = some #[.int .u32 0, .bool false, .slice none 0 0, .bool false, .slice none 0 0, .int .i64 0] := by kernel_rfl
instance iAE2_2 : ZcC Tryz.prog 171 #[.int .u32 0, .bool false, .slice none 0 0, .bool false, .slice none 0 0, .int .i64 0] := ⟨zc_Grp⟩
theorem ag_Grp : agS Tryz.prog 171 = some 6 := by kernel_rfl
instance iAE2_3 : AgC Tryz.prog 171 6 := ⟨ag_Grp⟩
theorem fd_Grp0 : fdS Tryz.prog 171 0 = some 0 := by kernel_rfl
instance iAE2_4 : FdC Tryz.prog 171 0 0 := ⟨fd_Grp0⟩
theorem fd_Grp1 : fdS Tryz.prog 171 1 = some 1 := by kernel_rfl
instance iAE2_5 : FdC Tryz.prog 171 1 1 := ⟨fd_Grp1⟩
theorem fd_Grp2 : fdS Tryz.prog 171 2 = some 5 := by kernel_rfl
instance iAE2_6 : FdC Tryz.prog 171 2 5 := ⟨fd_Grp2⟩
end Go.Proofs.YtmhkmmmompediaaGreat

/- Contract of cuts.excess for groups that are scaled (small values). -/
namespace Go.Proofs.YtmhkmmmompediaaGreat
open Go.RowKit

def grN (mk d : Nat) (x : Grp) : Int := ((popF (x.1 &&& mk) : Nat) : Int) / (d : Int)
def exT (ls : List Grp) (mk sz d : Nat) (cm : Int) (k : Nat) : Int := (ls.take k).foldl (fun s x => s + grN mk d x * x.2.2) (-((sz : Int) / (d : Int)) * cm)
def exI (ls : List Grp) (mk sz d : Nat) (cm : Int) : Int := exT ls mk sz d cm ls.length
theorem exT_step {ls : List Grp} {mk sz d : Nat} {cm : Int} {k : Nat} {x : Grp} (h : ls[k]? = some x) : exT ls mk sz d cm (k + 1) = exT ls mk sz d cm k + grN mk d x * x.2.2 := by
 unfold exT; rw [← take_snoc h, List.foldl_append]; rfl
theorem and_lt32 {a b : Nat} (h : a < 32) : a &&& b < 32 := Nat.lt_of_le_of_lt Nat.and_le_left h
theorem grN_le {mk d : Nat} {x : Grp} (h : x.1 < 32) : 0 ≤ grN mk d x ∧ grN mk d x ≤ 5 := by
 have h1 := popF_le ⟨x.1 &&& mk, and_lt32 h⟩
 simp only at h1
 have h2 := Int.natAbs_ediv_le_natAbs ((popF (x.1 &&& mk) : Nat) : Int) (d : Int)
 have h3 : 0 ≤ ((popF (x.1 &&& mk) : Nat) : Int) / (d : Int) := Int.ediv_nonneg (by omega) (by omega)
 unfold grN
 simp at h2
 omega
theorem mul_le5 {a b : Int} (h1 : 0 ≤ a) (h2 : a ≤ 5) (h3 : b.natAbs ≤ 1000) : (a * b).natAbs ≤ 5000 := by
 rw [Int.natAbs_mul]
 have h4 : a.natAbs ≤ 5 := by omega
 exact Nat.mul_le_mul h4 h3
theorem exT_le {ls : List Grp} {mk sz d : Nat} {cm : Int} (hm : ∀ x ∈ ls, x.1 < 32) (hs : ∀ x ∈ ls, x.2.2.natAbs ≤ 1000) (h1 : sz ≤ 5) (h2 : cm.natAbs ≤ 1000) : ∀ k, (exT ls mk sz d cm k).natAbs ≤ 5000 + 5000 * k := by
 intro k
 induction k with
 | zero =>
  have h3 := Int.natAbs_ediv_le_natAbs (sz : Int) (d : Int)
  simp at h3
  have h4 : ((-((sz : Int) / (d : Int))) * cm).natAbs ≤ 5 * 1000 := by
   rw [Int.natAbs_mul, Int.natAbs_neg]
   exact Nat.mul_le_mul (by omega) h2
  show ((-((sz : Int) / (d : Int))) * cm).natAbs ≤ _
  omega
 | succ k ih =>
  cases hk : ls[k]? with
  | none =>
   have h3 := List.getElem?_eq_none_iff.1 hk
   have e : exT ls mk sz d cm (k + 1) = exT ls mk sz d cm k := by
    unfold exT
    rw [List.take_of_length_le (by omega), List.take_of_length_le (by omega)]
   rw [e]; omega
  | some x =>
   rw [exT_step hk]
   have hx := List.mem_of_getElem? hk
   obtain ⟨g1, g2⟩ := grN_le (mk := mk) (d := d) (hm x hx)
   have h3 := mul_le5 g1 g2 (hs x hx)
   generalize grN mk d x * x.2.2 = z at *
   omega

def ExR (m : World) (v : Value) (s cm : Int) : Prop := (s ≤ 0 ∧ v = .agg #[.bool false, .slice none 0 0, .bool false, .slice none 0 0]) ∨ (0 < s ∧ FracC m v (Rat.divInt s cm))

theorem u_excess (lv : Value) (ls : List Grp) (mk sz d : Nat) (cm : Int) (w m : World) (hV : Vw m w) (hl : GrpL m lv ls) (hm : ∀ x ∈ ls, x.1 < 32) (hs : ∀ x ∈ ls, x.2.2.natAbs ≤ 1000) (hk : mk < 32) (hz : sz ≤ 5) (hd : 2 ≤ d) (hd2 : d ≤ 5) (hc : 1 ≤ cm) (hc2 : cm ≤ 1000) (hn : ls.length ≤ 100) :
  Calls Tryz.prog 102 #[lv, .int .u32 mk, .int .i64 sz, .int .i64 d, .int .i64 cm, .bool true] w (RetV w m fun m' r => ExR m' r (exI ls mk sz d cm) cm) := by
 obtain ⟨A, c, rfl, hca, hl⟩ := hl.lit
 have HLL := Lib.hid hl
 have HM := Lib.hid hm
 have HS := Lib.hid hs
 have HT : Hid (∀ k, (exT ls mk sz d cm k).natAbs ≤ 5000 + 5000 * k) := by
  show ∀ k, _
  exact exT_le hm hs hz (by omega)
 have h0 : (exT ls mk sz d cm 0) = -((sz : Int) / (d : Int)) * cm := rfl
 have h0b := HT.out 0
 rw [h0] at h0b
 have H0 := Lib.hid h0
 have hq0 : wrap64 ((sz : Int) / (d : Int)) = (sz : Int) / (d : Int) := (quoE (by omega) (by omega)).2.1
 have hq1 : wrap64 (-((sz : Int) / (d : Int))) = -((sz : Int) / (d : Int)) := by
  have h3 := Int.natAbs_ediv_le_natAbs (sz : Int) (d : Int)
  simp at h3
  unfold wrap64; omega
 have hq2 : wrap64 (-((sz : Int) / (d : Int)) * cm) = -((sz : Int) / (d : Int)) * cm := by unfold wrap64; omega
 have HW0 : Hid (wrap64 (wrap64 (-wrap64 ((sz : Int) / (d : Int))) * cm) = exT ls mk sz d cm 0) := by
  show _ = _
  rw [hq0, hq1, hq2, h0]
 have hd0 : (d : Int) ≠ 0 := by omega
 have HQ : Hid (∀ n : Nat, n ≤ 5 → wrap64 ((n : Int) / (d : Int)) = (n : Int) / (d : Int)) := by
  show ∀ n : Nat, _
  exact fun n hn => (quoE (by omega) (by omega)).2.1
 unfold exI
 have hL := Loc.start hV
 clear hV hl hm hs h0 h0b hq0 hq1 hq2 H0
 generalize hn1 : ls.length = n at *
 have HN := Lib.hid hn1
 clear hn1
 have hd1 : 0 < (d : Int) := by omega
 go_enter Tryz.func102, Tryz.ntmps102
 go_upto_region 0 with (fail)
 refine wp_region_lit ?_
 refine t_alloc hL rfl ?_; clear hL; intro Wh12 mh12 hL eh12; simp only [Act.put, zq1, zq2, zq3]
 go_wp2_with (first | go_skip | refine tP ?_ | (refine tS ?_; clear hL; intro _ hL) | (refine tB ?_; clear hL; intro _ _ hL _))
 go_loopw [13, 30] (fun sm i wr => ∃ (k : Nat) (mm : World), k ≤ n ∧ i = .int .i64 k ∧ sm = .int .i64 (exT ls mk sz d cm k) ∧ Loc w m wr mm [(w.heap.size, 39, #[.bool false, .slice none 0 0, .bool false, .slice none 0 0])]) (fun _ i _ => n - (intOf i).toNat)
 case atStart => exact ⟨0, _, Nat.zero_le _, rfl, by rw [← HW0.out], hL⟩
 case round =>
  clear hL
  obtain ⟨k, mm, hkn, rfl, rfl, hL⟩ := hrel
  have hM := hL.mext
  by_cases hlt : k < n
  ·have hlt' : (k : Int) < (n : Int) := by omega
   obtain ⟨x, hx⟩ := at_some HN hlt
   obtain ⟨b1, o1, g1, A1, n1, c1, f1, B1, p1, q1, rfl, -, hr1⟩ := GrpL.at_ HLL.out hx
   have hxm := HM.out x (List.mem_of_getElem? hx)
   have hxs := HS.out x (List.mem_of_getElem? hx)
   have HST := Lib.hid (exT_step (mk := mk) (sz := sz) (d := d) (cm := cm) hx)
   have hb1 := HT.out k
   have hb2 := HT.out (k + 1)
   obtain ⟨gr1, gr2⟩ := grN_le (mk := mk) (d := d) hxm
   have hmu := mul_le5 gr1 gr2 hxs
   have hpl := popF_le ⟨x.1 &&& mk, and_lt32 hxm⟩
   simp only at hpl
   have hqq := HQ.out _ hpl
   have HAL := and_lt32 (b := mk) hxm
   have hand : bits .and .u32 ((x.1 : Nat) : Int) (mk : Int) = ((x.1 &&& mk : Nat) : Int) := and_32 ⟨x.1, hxm⟩ ⟨mk, hk⟩
   rw [HST.out] at hb2
   have hgr : ((popF (x.1 &&& mk) : Nat) : Int) / (d : Int) = grN mk d x := rfl
   rw [hgr] at hqq
   have hw1 : wrap64 (grN mk d x * x.2.2) = grN mk d x * x.2.2 := by unfold wrap64; omega
   have hw2 : wrap64 (exT ls mk sz d cm k + grN mk d x * x.2.2) = exT ls mk sz d cm k + grN mk d x * x.2.2 := by unfold wrap64; omega
   have HW : Hid (wrap64 (exT ls mk sz d cm k + wrap64 (grN mk d x * x.2.2)) = exT ls mk sz d cm (k + 1)) := by
    show _ = _
    rw [hw1, hw2, HST.out]
   have KO : Hid (∀ w m', Vw m' w → Calls Tryz.prog 161 #[.int .u32 ((x.1 &&& mk : Nat) : Int)] w (RetV w m' fun _ r => r = .int .i64 (popF (x.1 &&& mk) : Nat))) := by
    show ∀ w m', _
    exact fun w m' hV => u_ones _ HAL w m' hV
   have hc1 : m.cell? ⟨b1, o1 + k * 6, none⟩ = some (.int .u32 x.1) := hr1 0 _ rfl
   have hc2 : m.cell? ⟨b1, o1 + k * 6 + 5, none⟩ = some (.int .i64 x.2.2) := hr1 5 _ rfl
   obtain ⟨xm, xq, xs⟩ := x
   simp only at *
   clear hw1 hw2 HST hx hr1 hb1 hb2 gr1 gr2 hmu hpl HAL hxm hxs
   generalize grN mk d (xm, xq, xs) = gn at *
   generalize popF (xm &&& mk) = pn at *
   generalize (xm &&& mk) = an at *
   go_upto_region 6 with ((first | go_skip | refine tP ?_ | (refine tS ?_; clear hL; intro _ hL) | (refine tB ?_; clear hL; intro _ _ hL _)))
   (try simp only [eq_self] at *)
   refine wp_region_by2 18 [false, false, false, false, false, false, false, false, false, false, false, false, false, false, false, false, false, false] [false, false, false, false, false, false, false, false, false, false, false, false, false, false, false, false, false, false] [(fun v _ _ => v = ?c6_0), (fun v _ _ => v = ?c6_1), (fun v _ _ => v = ?c6_2), (fun v _ _ => v = ?c6_3), (fun v _ _ => v = ?c6_4), (fun v _ _ => v = ?c6_5), (fun v _ _ => v = ?c6_6), (fun v _ _ => v = ?c6_7), Is (.int .i64 (pn : Int)), (fun v _ _ => v = ?c6_9), (fun v _ _ => v = ?c6_10), (fun v _ _ => v = ?c6_11), (fun v _ _ => v = ?c6_12), (fun v _ _ => v = ?c6_13), (fun v _ _ => v = ?c6_14), (fun v _ _ => v = ?c6_15), (fun v _ _ => v = ?c6_16), (fun v _ _ => v = ?c6_17)] hL.vw mixed [33, 34, 35, 36, 37, 38, 39, 40, 41, 42, 43, 44, 45, 46, 47, 48, 49, 50] _ (by kernel_rfl) (fun vs => by simp only [lay, Act.put, zq1, zq2, zq3]; rfl) (by kernel_rfl) (by decide) (by decide) ?s6 ?l6 ?r6
   case s6 =>
    refine ⟨?_, ?_, ?_, ?_, ?_, ?_, ?_, ?_, ?_, ?_, ?_, ?_, ?_, ?_, ?_, ?_, ?_, ?_, trivial⟩
    ·intro vs W1 m1 hE hM hV hD; clear hD
     exact sPw
    ·intro vs W1 m1 hE hM hV hD; clear hD
     exact sPw
    ·intro vs W1 m1 hE hM hV hD; clear hD
     exact sPw
    ·intro vs W1 m1 hE hM hV hD; obtain ⟨⟨_, _, -, -, f34⟩, ⟨_, _, -, -, f35⟩, -⟩ := hD
     rw [(f34 : vs 34 = _), (f35 : vs 35 = _)]; clear f34 f35; exact sIy
    ·intro vs W1 m1 hE hM hV hD; obtain ⟨⟨_, _, -, -, f36⟩, -⟩ := hD
     rw [(f36 : vs 36 = _)]; clear f36; exact sFe
    ·intro vs W1 m1 hE hM hV hD; obtain ⟨⟨_, _, -, -, f37⟩, -⟩ := hD
     rw [(f37 : vs 37 = _)]; clear f37; exact sLe
    ·intro vs W1 m1 hE hM hV hD; clear hD
     exact sPw
    ·intro vs W1 m1 hE hM hV hD; obtain ⟨⟨_, _, -, -, f38⟩, ⟨_, _, -, -, f39⟩, -⟩ := hD
     rw [(f38 : vs 38 = _), (f39 : vs 39 = _)]; clear f38 f39; exact sPw
    ·intro vs W1 m1 hE hM hV hD; obtain ⟨⟨_, _, -, -, f40⟩, -⟩ := hD
     rw [(f40 : vs 40 = _)]
     clear f40
     go_wp2_with fail
     refine (KO.out _ _ hV).mono ?_
     rintro e W2 ⟨v, m2, rfl, hE2, hM2, hV2, h⟩
     go_wp2_with fail
     refine One2.call hE2 hM2 hV2 ?_; first | exact h | exact rfl
    ·intro vs W1 m1 hE hM hV hD; clear hD
     exact sPw
    ·intro vs W1 m1 hE hM hV hD; obtain ⟨⟨_, _, -, -, f41⟩, ⟨_, _, -, -, f42⟩, -⟩ := hD
     rw [(f41 : vs 41 = _), (f42 : vs 42 = _)]; clear f41 f42; exact sPw
    ·intro vs W1 m1 hE hM hV hD; clear hD
     exact sPw
    ·intro vs W1 m1 hE hM hV hD; clear hD
     exact sPw
    ·intro vs W1 m1 hE hM hV hD; obtain ⟨⟨_, _, -, -, f44⟩, ⟨_, _, -, -, f45⟩, -⟩ := hD
     rw [(f44 : vs 44 = _), (f45 : vs 45 = _)]; clear f44 f45; exact sIy
    ·intro vs W1 m1 hE hM hV hD; obtain ⟨⟨_, _, -, -, f46⟩, -⟩ := hD
     rw [(f46 : vs 46 = _)]; clear f46; exact sFe
    ·intro vs W1 m1 hE hM hV hD; obtain ⟨⟨_, _, -, -, f47⟩, -⟩ := hD
     rw [(f47 : vs 47 = _)]; clear f47; exact sLe
    ·intro vs W1 m1 hE hM hV hD; obtain ⟨⟨_, _, -, -, f43⟩, ⟨_, _, -, -, f48⟩, -⟩ := hD
     rw [(f43 : vs 43 = _), (f48 : vs 48 = _)]; clear f43 f48; exact sPw
    ·intro vs W1 m1 hE hM hV hD; obtain ⟨⟨_, _, -, -, f33⟩, ⟨_, _, -, -, f49⟩, -⟩ := hD
     rw [(f33 : vs 33 = _), (f49 : vs 49 = _)]; clear f33 f49; exact sPw
   case l6 =>
    refine ⟨nF, nF, nF, nF, nF, nF, nF, nF, nF, nF, nF, nF, nF, nF, nF, nF, nF, nF, trivial⟩
   intro vs W1 m1 hE hM hV hF hD
   clear hD
   obtain ⟨-, -, -, -, -, -, -, -, -, -, -, -, -, -, -, -, -, ⟨_, _, -, -, f50⟩, -⟩ := hF
   replace hL := hL.call hE hM hV
   have f50 : vs 50 = _ := f50
   generalize vs 50 = x50 at f50 ⊢
   subst x50
   clear hE hV
   simp only [List.drop_succ_cons, List.drop_zero]
   go_wp2_with (first | go_skip | refine tP ?_ | (refine tS ?_; clear hL; intro _ hL) | (refine tB ?_; clear hL; intro _ _ hL _))
   refine QN.mk ?_
   go_wp2_with (first | go_skip | refine tP ?_ | (refine tS ?_; clear hL; intro _ hL) | (refine tB ?_; clear hL; intro _ _ hL _))
   go_roundw
   case rel => exact ⟨k + 1, _, by omega, by go_num, by rw [← HW.out], hL⟩
   case measure => simp [intOf] <;> omega
  ·have hkn' : k = n := by omega
   subst hkn'
   have h9 : (k : Int) ≤ (k : Int) := Int.le_refl _
   have hb := HT.out k
   generalize hS0 : exT ls mk sz d cm k = S0 at *
   have HS0 := Lib.hid hS0
   clear hS0
   by_cases hs0 : S0 ≤ 0
   ·go_wp2_with (first | go_skip | refine tP ?_ | (refine tS ?_; clear hL; intro _ hL) | (refine tB ?_; clear hL; intro _ _ hL _))
    refine fin_agg hL Tryz.results102 rfl rfl loX AgC.h (by exact rfl) ?_
    exact .inl ⟨by rw [HS0.out]; exact hs0, rfl⟩
   ·have hs1 : 0 < S0 := by omega
    have KF : Hid (∀ w m, Vw m w → Calls Tryz.prog 94 #[.int .i64 S0, .int .i64 cm] w (RetV w m fun m' v => ∃ r, v = .tuple #[r, .int .i64 0] ∧ FracC m' r (Rat.divInt S0 cm))) := by
     show ∀ w m, _
     exact fun w m hV => q_FromInts S0 cm w m hV (by omega) (by omega) (by omega)
    clear hb hs0
    go_wp2_with (first | go_skip | refine tP ?_ | (refine tS ?_; clear hL; intro _ hL) | (refine tB ?_; clear hL; intro _ _ hL _))
    refine (KF.out _ _ hL.vw).mono ?_
    rintro e W11 ⟨_, m11, rfl, hE, hM11, hV, va, rfl, h1⟩
    replace hL := hL.call hE (by assumption) hV; clear hE hV
    obtain ⟨g, A', n', c', g', B', n2, c2, rfl, h1⟩ := h1.lit
    go_wp2_with (first | go_skip | refine tP ?_ | (refine tS ?_; clear hL; intro _ hL) | (refine tB ?_; clear hL; intro _ _ hL _))
    refine fin_agg hL Tryz.results102 rfl rfl loX AgC.h (by exact rfl) ?_
    exact .inr (by rw [HS0.out]; exact ⟨hs1, h1.le leX⟩)
end Go.Proofs.YtmhkmmmompediaaGreat

/- The closure of cuts.groups and slices.IndexFunc of groups: over a row that lies hidden among the caller's blocks. -/
namespace Go.Proofs.YtmhkmmmompediaaGreat
open Go.RowKit

theorem ld41 (a v0 v1 v2 v3 b : Value) : ∀ j, j < 4 → (#[a, v0, v1, v2, v3, b] : Array Value)[1 + j]? = [v0, v1, v2, v3][j]? := by
 intro j hj
 match j, hj with
 | 0, _ => rfl
 | 1, _ => rfl
 | 2, _ => rfl
 | 3, _ => rfl
theorem u_groups1 (v : Value) (x : Grp) (w m : World) (hV : Vw m w) (hx : GrpR m v x) (hf : Fit 200 x.2.1) :
  Calls Tryz.prog 157 #[v] w (RetV w m fun _ r => r = .bool (decide (x.2.1 = 0))) := by
 obtain ⟨xm, xq, xs⟩ := x
 obtain ⟨g, A, n, c, h', B, k, d, rfl, hq⟩ := hx
 simp only at hq hf
 have HQ := Lib.hid hq
 have HF := Lib.hid hf
 have h14 := ld41 (.int .u32 (xm : Int)) (.bool g) (.slice A n c) (.bool h') (.slice B k d) (.int .i64 xs)
 have hL := Loc.start hV
 clear hV hq hf
 by_cases h0 : xq = 0
 ·have KS : Hid (∀ v w m', Vw m' w → FracC m' v xq → Calls Tryz.prog 103 #[v] w (RetV w m' fun _ r => r = .int .i64 0)) := by
   show ∀ v w m', _
   intro v w m' hV h
   have h1 := q_Sign v xq w m' hV h HF.out
   rwa [show icmp xq.num 0 = 0 by rw [h0]; rfl] at h1
  have HD : Hid (decide (xq = 0) = true) := decide_eq_true h0
  clear h0
  go_enter Tryz.func157, Tryz.ntmps157
  go_upto_region 0 with (fail)
  refine wp_region_lit ?_
  refine t_box hL rfl rfl ?_; clear hL; intro Wh1 mh1 hL eh1; simp only [Act.put, zq1, zq2, zq3]
  go_wp2_with (first | go_skip | refine tP ?_ | (refine tB ?_; clear hL; intro _ _ hL _))
  refine (KS.out _ _ _ hL.vw (HQ.out.le leX)).mono ?_
  rintro e Wc1 ⟨_, mc1, rfl, hE, hMc1, hV, rfl⟩
  replace hL := hL.call hE (by assumption) hV; clear hE hV
  go_wp2_with (first | go_skip | refine tP ?_ | (refine tB ?_; clear hL; intro _ _ hL _))
  go_ret
  exact RetV.mk hL (by rw [HD.out]; rfl)
 ·obtain ⟨zz, hzz⟩ : ∃ zz, icmp xq.num 0 = zz := ⟨_, rfl⟩
  have hz : ¬ zz = 0 := fun h => icmp_ne h0 (hzz.trans h)
  have hz2 : (zz == 0) = false := by simpa using hz
  have KS : Hid (∀ v w m', Vw m' w → FracC m' v xq → Calls Tryz.prog 103 #[v] w (RetV w m' fun _ r => r = .int .i64 zz)) := by
   show ∀ v w m', _
   intro v w m' hV h
   have h1 := q_Sign v xq w m' hV h HF.out
   rwa [hzz] at h1
  have HD : Hid (decide (xq = 0) = false) := decide_eq_false h0
  clear h0 hzz hz
  go_enter Tryz.func157, Tryz.ntmps157
  go_upto_region 0 with (fail)
  refine wp_region_lit ?_
  refine t_box hL rfl rfl ?_; clear hL; intro Wh1 mh1 hL eh1; simp only [Act.put, zq1, zq2, zq3]
  go_wp2_with (first | go_skip | refine tP ?_ | (refine tB ?_; clear hL; intro _ _ hL _))
  refine (KS.out _ _ _ hL.vw (HQ.out.le leX)).mono ?_
  rintro e Wc1 ⟨_, mc1, rfl, hE, hMc1, hV, rfl⟩
  replace hL := hL.call hE (by assumption) hV; clear hE hV
  go_wp2_with (first | go_skip | refine tP ?_ | (refine tB ?_; clear hL; intro _ _ hL _))
  go_ret
  exact RetV.mk hL (by rw [HD.out]; rfl)

theorem grp_at {m : World} {v : Value} {n g : Nat} {cur : Array Value} {xs : List Grp} {e : TypeId} (h : RowA e 6 GrpR m v n xs [(g, e, cur)]) {k : Nat} {x : Grp} (hk : xs[k]? = some x) :
  ∃ gv A' n' c' f B p q, FracC m (.agg #[.bool gv, .slice A' n' c', .bool f, .slice B p q]) x.2.1 ∧ ∀ j, j < 6 → cur[0 + k * 6 + j]? = [.int .u32 (x.1 : Int), .bool gv, .slice A' n' c', .bool f, .slice B p q, .int .i64 x.2.2][j]? := by
 obtain ⟨u, ⟨gv, A', n', c', f, B, p, q, rfl, hf⟩, -, hr⟩ := h.at_ hk
 refine ⟨gv, A', n', c', f, B, p, q, hf, fun j hj => ?_⟩
 rw [hr j hj]
 simp [Value.cells]

theorem s_IndexGrp {w0 m0 W m : World} {A : List Lo} {g n cap : Nat} {cur : Array Value} {xs : List Grp} (hL : Loc w0 m0 W m ((g, 171, cur) :: A)) (row : RowA 171 6 GrpR m (.slice (some ⟨g, 0, none⟩) n cap) n xs [(g, 171, cur)]) (hn : n ≤ 1000) (hf : ∀ x ∈ xs, Fit 200 x.2.1) :
  Calls Tryz.prog 191 #[.slice (some ⟨g, 0, none⟩) n cap, .func (.func 157) #[] #[]] W (fun e W' => ∃ (m' : World) (z : Int), e = .returned (.int .i64 z) ∧ Loc w0 m0 W' m' ((g, 171, cur) :: A) ∧ Ext m m' ∧
   ((z = -1 ∧ ∀ x ∈ xs, x.2.1 ≠ 0) ∨ ∃ (i : Nat) (x : Grp), z = i ∧ xs[i]? = some x ∧ x.2.1 = 0 ∧ ∀ (j : Nat) (y : Grp), j < i → xs[j]? = some y → y.2.1 ≠ 0)) := by
 have hlen := row.len
 have HN : Hid (xs.length = n) := hlen.symm
 have ROW := Lib.hid row
 have HF := Lib.hid hf
 have hX0 : Ext m m := Ext.refl _
 clear row hf hlen
 go_enter Tryz.func191, Tryz.ntmps191
 go_wp2_with (first | go_skip | refine tP ?_)
 go_loopw [8] (fun i wr => ∃ (k : Nat) (mm : World), k ≤ n ∧ i = .int .i64 k ∧ Loc w0 m0 wr mm ((g, 171, cur) :: A) ∧ Ext m mm ∧ Hid (∀ (j : Nat) (y : Grp), j < k → xs[j]? = some y → y.2.1 ≠ 0)) (fun i _ => n - (intOf i).toNat)
 case atStart => exact ⟨0, m, Nat.zero_le _, rfl, hL, hX0, (fun _ _ h => absurd h (Nat.not_lt_zero _))⟩
 case round =>
  clear hL hX0
  obtain ⟨k, mm, hk, rfl, hL, hX, HJ⟩ := hrel
  by_cases hlt : k < n
  ·have hlt' : (k : Int) < (n : Int) := by omega
   obtain ⟨⟨xm, xq, xsc⟩, hx⟩ := at_some HN hlt
   obtain ⟨gv, A1, n1, c1, f1, B1, p1, q1, hq1, hr1⟩ := grp_at ROW.out hx
   simp only at hq1 hr1
   have HFX : Hid (Fit 200 xq) := HF.out _ (List.mem_of_getElem? hx)
   have HX := Lib.hid hx
   have HQ1 := Lib.hid hq1
   have KG : Hid (∀ w m', Vw m' w → Le m m' → Calls Tryz.prog 157 #[.agg #[.int .u32 (xm : Int), .bool gv, .slice A1 n1 c1, .bool f1, .slice B1 p1 q1, .int .i64 xsc]] w (RetV w m' fun _ r => r = .bool (decide (xq = 0)))) := by
    show ∀ w m', _
    exact fun w m' hV hle => u_groups1 _ (xm, xq, xsc) w m' hV ⟨gv, A1, n1, c1, f1, B1, p1, q1, rfl, HQ1.out.le hle⟩ HFX.out
   clear hx hq1
   go_wp2_with (first | go_skip | refine tP ?_)
   refine (KG.out _ _ hL.vw leX).mono ?_
   rintro e Wc2 ⟨_, mc2, rfl, hE, hMc2, hV, rfl⟩
   replace hL := hL.call hE (by assumption) hV; clear hE hV
   by_cases h0 : xq = 0
   ·rw [decide_eq_true h0]
    have H0 := Lib.hid h0
    clear h0
    go_wp2_with (first | go_skip | refine tP ?_)
    go_ret
    exact ⟨_, (k : Int), rfl, hL, exX, .inr ⟨k, (xm, xq, xsc), rfl, HX.out, H0.out, HJ.out⟩⟩
   ·have HJ2 : Hid (∀ (j : Nat) (y : Grp), j < k + 1 → xs[j]? = some y → y.2.1 ≠ 0) := by
     show ∀ j y, _
     intro j y hj hy
     rcases Nat.lt_succ_iff_lt_or_eq.1 hj with h' | rfl
     ·exact HJ.out j y h' hy
     ·rw [HX.out] at hy; cases hy; exact h0
    rw [decide_eq_false h0]
    clear h0
    go_wp2_with (first | go_skip | refine tP ?_)
    go_roundw
    case rel => exact ⟨k + 1, _, by omega, by go_num, hL, exX, HJ2.out⟩
    case measure => simp [intOf] <;> omega
  ·have HA : Hid (∀ x ∈ xs, x.2.1 ≠ 0) := by
    show ∀ x ∈ xs, _
    intro x hx
    obtain ⟨j, hj⟩ := List.mem_iff_getElem?.1 hx
    have h1 := (List.getElem?_eq_some_iff.1 hj).1
    have h2 := HN.out
    exact HJ.out j x (by omega) hj
   have h9 : (n : Int) ≤ (k : Int) := by omega
   go_wp2_with (first | go_skip | refine tP ?_)
   go_ret
   exact ⟨_, -1, rfl, hL, exX, .inl ⟨rfl, HA.out⟩⟩
end Go.Proofs.YtmhkmmmompediaaGreat

/- slices.DeleteFunc of groups: over a row that lies hidden among the caller's blocks. -/
namespace Go.Proofs.YtmhkmmmompediaaGreat
open Go.RowKit

def keepG (x : Grp) : Bool := decide (x.2.1 ≠ 0)
theorem filt_step {xs : List Grp} {k : Nat} {x : Grp} (h : xs[k]? = some x) : (xs.take (k + 1)).filter keepG = (xs.take k).filter keepG ++ (if x.2.1 = 0 then [] else [x]) := by
 rw [← take_snoc h, List.filter_append]
 by_cases h0 : x.2.1 = 0
 ·rw [if_pos h0]; simp [keepG, h0]
 ·rw [if_neg h0]; simp [keepG, h0]
theorem filt_first {xs : List Grp} {i : Nat} {x : Grp} (h : xs[i]? = some x) (h0 : x.2.1 = 0) (hj : ∀ (j : Nat) (y : Grp), j < i → xs[j]? = some y → y.2.1 ≠ 0) : xs.take i = (xs.take (i + 1)).filter keepG := by
 rw [filt_step h, if_pos h0, List.append_nil]
 refine (List.filter_eq_self.2 fun y hy => ?_).symm
 obtain ⟨j, hj'⟩ := List.mem_iff_getElem?.1 hy
 rw [List.getElem?_take] at hj'
 by_cases hlt : j < i
 ·rw [if_pos hlt] at hj'
  have := hj j y hlt hj'
  simpa [keepG] using this
 ·rw [if_neg hlt] at hj'; cases hj'
theorem filt_none {xs : List Grp} (h : ∀ x ∈ xs, x.2.1 ≠ 0) : xs.filter keepG = xs := List.filter_eq_self.2 fun y hy => by simpa [keepG] using h y hy
theorem RowA.fit {α : Type} {e : TypeId} {size : Nat} {R : World → Value → α → Prop} {m : World} {v : Value} {n g : Nat} {cur : Array Value} {xs : List α} (h : RowA e size R m v n xs [(g, e, cur)]) : n * size ≤ cur.size := by
 obtain ⟨vs, ⟨h0, h1⟩, h2, h3, h4⟩ := h
 rcases h1 with ⟨-, -, h1⟩ | ⟨g', cap, cur', e1, e2, h5, -, h6, h7⟩
 ·cases h1
 ·cases e2
  rw [h6]; exact Nat.mul_le_mul_right _ h5
theorem RowA.capd {α : Type} {e : TypeId} {size : Nat} {R : World → Value → α → Prop} {m : World} {n g cap : Nat} {cur : Array Value} {xs : List α} (h : RowA e size R m (.slice (some ⟨g, 0, none⟩) n cap) n xs [(g, e, cur)]) : n ≤ cap ∧ cur.size = cap * size := by
 obtain ⟨vs, ⟨h0, h1⟩, h2, h3, h4⟩ := h
 rcases h1 with ⟨h1, -, -⟩ | ⟨g', cap', cur', e1, e2, h5, -, h6, h7⟩
 ·cases h1
 ·cases e2; cases e1
  exact ⟨h5, h6⟩
theorem RowA.putW {α : Type} {e : TypeId} {size : Nat} {R : World → Value → α → Prop} {m : World} {v : Value} {n g : Nat} {cur : Array Value} {xs : List α} (h : RowA e size R m v n xs [(g, e, cur)]) {k : Nat} {x : α} {ws : List Value} (hk : k < xs.length) (hw : ws.length = size) (hR : R m (.agg ws.toArray) x) :
  RowA e size R m v n (xs.set k x) [(g, e, splice cur (0 + k * size) ws)] := by
 have h1 := RowA.put (o := 0) (ws := ws) h hk (by omega) hw (fun j hj => by rw [if_pos (by omega), Nat.sub_zero]) hR
 rwa [Nat.add_zero, ← Nat.zero_add (k * size)] at h1
theorem All2.takes {α : Type} {R : Value → α → Prop} : ∀ {vs : List Value} {xs : List α}, All2 R vs xs → ∀ i, All2 R (vs.take i) (xs.take i)
 | _, _, _, 0 => by simp [All2]
 | [], [], _, _ + 1 => trivial
 | v :: vs, x :: xs, h, i + 1 => ⟨h.1, All2.takes h.2 i⟩
 | [], _ :: _, h, _ + 1 => h.elim
 | _ :: _, [], h, _ + 1 => h.elim
theorem RowA.cut {α : Type} {e : TypeId} {size : Nat} {R : World → Value → α → Prop} {m : World} {n g cap i : Nat} {cur cur2 : Array Value} {xs : List α} (h : RowA e size R m (.slice (some ⟨g, 0, none⟩) n cap) n xs [(g, e, cur)]) (hi : i ≤ n) (hs : cur2.size = cur.size) (ha : ∀ j, j < i * size → cur2[j]? = cur[j]?) :
  RowA e size R m (.slice (some ⟨g, 0, none⟩) i cap) i (xs.take i) [(g, e, cur2)] := by
 obtain ⟨vs, ⟨h0, h1⟩, h2, h3, h4⟩ := h
 rcases h1 with ⟨h1, -, -⟩ | ⟨g', cap', cur', e1, e2, h5, h5', h6, h7⟩
 ·cases h1
 ·cases e2; cases e1
  have h8 : ∀ u ∈ vs.take i, u.cells.size = size := fun u hu => h2 u (List.mem_of_mem_take hu)
  have h9 := cellsOf_length h8
  have h10 : (vs.take i).length = i := by rw [List.length_take]; omega
  rw [h10] at h9
  have h11 : (cellsOf vs).take (i * size) = cellsOf (vs.take i) := by
   conv => lhs; rw [← List.take_append_drop i vs, cellsOf_append]
   rw [List.take_left' h9]
  refine ⟨vs.take i, ⟨h9, .inr ⟨g, cap, cur2, rfl, rfl, by omega, h5', by rw [hs]; exact h6, ?_⟩⟩, h8, h3.takes i, h10⟩
  rw [← h11, ← h7, List.take_take]
  have hle : i * size ≤ n * size := Nat.mul_le_mul_right _ hi
  rw [Nat.min_eq_left hle]
  apply List.ext_getElem?
  intro j
  rw [List.getElem?_take, List.getElem?_take, Array.getElem?_toList, Array.getElem?_toList]
  by_cases hj : j < i * size
  ·rw [if_pos hj, if_pos hj, ha j hj]
  ·rw [if_neg hj, if_neg hj]
theorem zero_len (zs : Array Value) (n : Nat) : (Builtin.zeroCells zs n).toList.length = n * zs.size := by simp [Builtin.zeroCells]
theorem zero_one (zs : Array Value) (n : Nat) (h1 : zs.toList.all (·.oneCell') = true) : ∀ v ∈ (Builtin.zeroCells zs n).toList, v.oneCell' = true := by
 intro v hv
 simp only [Builtin.zeroCells, Array.toList_map, List.mem_map] at hv
 obtain ⟨j, hj, rfl⟩ := hv
 have hlt : j < n * zs.size := by simpa using hj
 have hz : 0 < zs.size := by
  rcases Nat.eq_zero_or_pos zs.size with h | h
  ·rw [h] at hlt; simp at hlt
  ·exact h
 have hm : j % zs.size < zs.size := Nat.mod_lt _ hz
 rw [getElem!_pos zs _ hm]
 exact List.all_eq_true.1 h1 _ (by simp)
theorem run_clearB {P : Program} {W : World} {g off n c : Nat} {t e ts : TypeId} {cs zs : Array Value} (hb : Blk W g t cs) (hn : 0 < n) (ht : P.underlying ts = some (.slice e)) (hz : zc P e = some zs) (h1 : zs.toList.all (·.oneCell') = true) (hfit : off + n * zs.size ≤ cs.size) (ty : TypeId) :
  (Builtin.clear_ #[ts] ty #[.slice (some ⟨g, off, none⟩) n c]).run P W = .ok (.tuple #[]) (W.setCells g off (Builtin.zeroCells zs n).toList) := by
 obtain ⟨z, hzc, hv⟩ := run_zero (P := P) hz W
 have hl := zero_len zs n
 have hst := run_storeCells_cells (P := P) g off (Builtin.zeroCells zs n).toList 0 W (fun j hj => by rw [hb.cell]; simp; omega) (fun j hj => hb.frozen _) (zero_one zs n h1)
 simp only [Nat.add_zero] at hst
 obtain ⟨k, rfl⟩ : ∃ k, n = k + 1 := ⟨n - 1, by omega⟩
 subst hzc
 simp [Builtin.clear_, run_underlying ht, hv, hst]

theorem s_DeleteGrp {w0 m0 W m : World} {A : List Lo} {g n cap : Nat} {cur : Array Value} {xs : List Grp} (hL : Loc w0 m0 W m ((g, 171, cur) :: A)) (row : RowA 171 6 GrpR m (.slice (some ⟨g, 0, none⟩) n cap) n xs [(g, 171, cur)]) (hn : n ≤ 1000) (hf : ∀ x ∈ xs, Fit 200 x.2.1) :
  Calls Tryz.prog 156 #[.slice (some ⟨g, 0, none⟩) n cap, .func (.func 157) #[] #[]] W (fun e W' => ∃ (m' : World) (n' : Nat) (cur' : Array Value), e = .returned (.slice (some ⟨g, 0, none⟩) n' cap) ∧ Loc w0 m0 W' m' ((g, 171, cur') :: A) ∧ Ext m m' ∧
   RowA 171 6 GrpR m' (.slice (some ⟨g, 0, none⟩) n' cap) n' (xs.filter keepG) [(g, 171, cur')]) := by
 have hlen := row.len
 have HN : Hid (xs.length = n) := hlen.symm
 have ROW := Lib.hid row
 have HF := Lib.hid hf
 have hX0 : Ext m m := Ext.refl _
 clear row hf hlen
 go_enter Tryz.func156, Tryz.ntmps156
 go_wp2_with (first | go_skip | refine tP ?_ | (refine tS ?_; clear hL; intro _ hL) | (refine tB ?_; clear hL; intro _ _ hL _))
 refine (s_IndexGrp hL ROW.out hn HF.out).mono ?_
 rintro e W1 ⟨m1, z, rfl, hL1, hX1, hz⟩
 clear hL hX0
 have hL := hL1
 clear hL1
 have ROW1 : Hid (RowA 171 6 GrpR m1 (.slice (some ⟨g, 0, none⟩) n cap) n xs [(g, 171, cur)]) := RowA.le GrpR.mono ROW.out hX1.le
 rcases hz with ⟨rfl, hz⟩ | ⟨i0, x0, rfl, hx0, hq0, hj0⟩
 ·have HE := Lib.hid (filt_none hz)
  clear hz
  go_wp2_with (first | go_skip | refine tP ?_ | (refine tS ?_; clear hL; intro _ hL) | (refine tB ?_; clear hL; intro _ _ hL _))
  go_ret
  exact ⟨_, n, cur, rfl, hL, hX1, by rw [HE.out]; exact ROW1.out⟩
 ·have hi0 : i0 < n := by have := (List.getElem?_eq_some_iff.1 hx0).1; have := HN.out; omega
  have HFI := Lib.hid (filt_first hx0 hq0 hj0)
  have hne : ((i0 : Int) == -1) = false := by simp
  clear hx0 hq0 hj0 ROW
  go_wp2_with (first | go_skip | refine tP ?_ | (refine tS ?_; clear hL; intro _ hL) | (refine tB ?_; clear hL; intro _ _ hL _))
  go_loopw [5, 6] (fun ii kk wr => ∃ (i k : Nat) (mm : World) (ys : List Grp) (cur' : Array Value), i < k ∧ k ≤ n ∧ ii = .int .i64 i ∧ kk = .int .i64 k ∧ Loc w0 m0 wr mm ((g, 171, cur') :: A) ∧ Ext m mm ∧ Hid (RowA 171 6 GrpR mm (.slice (some ⟨g, 0, none⟩) n cap) n ys [(g, 171, cur')]) ∧ Hid (ys.take i = (xs.take k).filter keepG) ∧ Hid (ys.drop k = xs.drop k)) (fun _ kk _ => n - (intOf kk).toNat)
  case atStart => exact ⟨i0, i0 + 1, _, xs, cur, by omega, by omega, rfl, by go_num, hL, hX1, ROW1.out, HFI.out, rfl⟩
  case round =>
   clear hL hX1 ROW1 HFI hne
   obtain ⟨i, k, mm, ys, cur', hik, hk, rfl, rfl, hL, hX, ROW, HTK, HDR⟩ := hrel
   by_cases hlt : k < n
   ·have hlt' : (k : Int) < (n : Int) := by omega
    obtain ⟨⟨xm, xq, xsc⟩, hx⟩ := at_some HN hlt
    have hy : ys[k]? = some (xm, xq, xsc) := by
     have h1 := congrArg (·[0]?) HDR.out
     simp only [List.getElem?_drop, Nat.add_zero] at h1
     rw [h1, hx]
    obtain ⟨gv, A1, n1, c1, f1, B1, p1, q1, hq1, hr1⟩ := grp_at ROW.out hy
    simp only at hq1 hr1
    have HFX : Hid (Fit 200 xq) := HF.out _ (List.mem_of_getElem? hx)
    have HX := Lib.hid hx
    have HQ1 := Lib.hid hq1
    have HST := Lib.hid (filt_step hx)
    have hfit : 0 + i * 6 + 6 ≤ cur'.size := by
     have h1 := ROW.out.fit
     have h2 : (i + 1) * 6 ≤ n * 6 := Nat.mul_le_mul_right _ (by omega)
     omega
    have hin : i < n := by omega
    have KG : Hid (∀ w m', Vw m' w → Le mm m' → Calls Tryz.prog 157 #[.agg #[.int .u32 (xm : Int), .bool gv, .slice A1 n1 c1, .bool f1, .slice B1 p1 q1, .int .i64 xsc]] w (RetV w m' fun _ r => r = .bool (decide (xq = 0)))) := by
     show ∀ w m', _
     exact fun w m' hV hle => u_groups1 _ (xm, xq, xsc) w m' hV ⟨gv, A1, n1, c1, f1, B1, p1, q1, rfl, HQ1.out.le hle⟩ HFX.out
    have HDN : Hid (ys.drop (k + 1) = xs.drop (k + 1)) := by
     show _ = _
     have h1 := congrArg (List.drop 1) HDR.out
     simpa [List.drop_drop, Nat.add_comm] using h1
    have HYL : Hid (ys.length = n) := ROW.out.len.symm
    simp only at HST
    clear hx hy hq1
    go_wp2_with (first | go_skip | refine tP ?_ | (refine tS ?_; clear hL; intro _ hL) | (refine tB ?_; clear hL; intro _ _ hL _))
    refine (KG.out _ _ hL.vw leX).mono ?_
    rintro e Wc2 ⟨_, mc2, rfl, hE, hMc2, hV, rfl⟩
    replace hL := hL.call hE (by assumption) hV; clear hE hV
    by_cases h0 : xq = 0
    ·rw [decide_eq_true h0]
     rw [if_pos h0, List.append_nil] at HST
     clear h0
     go_wp2_with (first | go_skip | refine tP ?_ | (refine tS ?_; clear hL; intro _ hL) | (refine tB ?_; clear hL; intro _ _ hL _))
     go_roundw
     case rel => exact ⟨i, k + 1, _, ys, cur', by omega, by omega, rfl, by go_num, hL.tail, exX, RowA.le GrpR.mono ROW.out leX, by rw [HST.out]; exact HTK.out, HDN.out⟩
     case measure => simp [intOf] <;> omega
    ·rw [decide_eq_false h0]
     rw [if_neg h0] at HST
     clear h0
     go_wp2_with (first | go_skip | refine tP ?_ | (refine tS ?_; clear hL; intro _ hL) | (refine tB ?_; clear hL; intro _ _ hL _))
     go_roundw
     case rel =>
      have hmr := RowA.putW (k := i) (x := (xm, xq, xsc)) (ws := [.int .u32 (xm : Int), .bool gv, .slice A1 n1 c1, .bool f1, .slice B1 p1 q1, .int .i64 xsc]) (RowA.le GrpR.mono ROW.out (leX : Le mm mc2)) (by rw [HYL.out]; exact hin) rfl ⟨gv, A1, n1, c1, f1, B1, p1, q1, rfl, HQ1.out.le leX⟩
      refine ⟨i + 1, k + 1, _, ys.set i (xm, xq, xsc), _, by omega, by omega, by go_num, by go_num, hL.tail, exX, hmr, ?_, ?_⟩
      ·show _ = _
       rw [HST.out, ← HTK.out, List.take_set, List.take_add_one]
       have hyl := HYL.out
       have hl1 : (ys.take i).length = i := by rw [List.length_take]; omega
       rw [List.getElem?_eq_getElem (by omega : i < ys.length), List.set_append_right _ _ (by omega), hl1, Nat.sub_self]; rfl
      ·show _ = _
       rw [← HDN.out, List.drop_set_of_lt (by omega)]
     case measure => simp [intOf] <;> omega
   ·have hkn : k = n := by omega
    subst hkn
    have h9 : (k : Int) ≤ (k : Int) := Int.le_refl _
    obtain ⟨hcap, hcsz⟩ := ROW.out.capd
    have hic : i ≠ cap := by omega
    have hbk := hL.at_ (n := 0) rfl
    have hsz : i * 6 + (k - i) * 6 ≤ cur'.size := by
     rw [hcsz, ← Nat.add_mul]
     exact Nat.mul_le_mul_right _ (by omega)
    have hcl : ∀ ty, (Builtin.clear_ #[117] ty #[.slice (some ⟨g, i * 6, none⟩) (k - i) (cap - i)]).run Tryz.prog wr = .ok (.tuple #[]) (wr.setCells g (i * 6) (Builtin.zeroCells #[.int .u32 0, .bool false, .slice none 0 0, .bool false, .slice none 0 0, .int .i64 0] (k - i)).toList) := run_clearB hbk (by omega) Tryz.underlying117 zc_Grp rfl hsz
    have hL9 := hL.store (n := 0) rfl (i * 6) (Builtin.zeroCells #[.int .u32 0, .bool false, .slice none 0 0, .bool false, .slice none 0 0, .int .i64 0] (k - i)).toList
    simp only [List.set_cons_zero] at hL9
    have HR : Hid (RowA 171 6 GrpR mm (.slice (some ⟨g, 0, none⟩) i cap) i (xs.filter keepG) [(g, 171, splice cur' (i * 6) (Builtin.zeroCells #[.int .u32 0, .bool false, .slice none 0 0, .bool false, .slice none 0 0, .int .i64 0] (k - i)).toList)]) := by
     have h1 := RowA.cut (i := i) (cur2 := splice cur' (i * 6) (Builtin.zeroCells #[.int .u32 0, .bool false, .slice none 0 0, .bool false, .slice none 0 0, .int .i64 0] (k - i)).toList) ROW.out (by omega) (by rw [splice_size]) (fun j hj => by
      rw [splice_at _ _ _ (by rw [zero_len]; exact hsz), if_neg (by omega)])
     rw [HTK.out, List.take_of_length_le (by rw [HN.out]; omega)] at h1
     exact h1
    have HL9 := Lib.hid hL9
    generalize wr.setCells g (i * 6) (Builtin.zeroCells #[.int .u32 0, .bool false, .slice none 0 0, .bool false, .slice none 0 0, .int .i64 0] (k - i)).toList = W9 at *
    generalize splice cur' (i * 6) (Builtin.zeroCells #[.int .u32 0, .bool false, .slice none 0 0, .bool false, .slice none 0 0, .int .i64 0] (k - i)).toList = cur9 at *
    clear hbk hsz hL9 ROW HTK HDR
    go_wp2_with (first | go_skip | refine tP ?_ | (refine tS ?_; clear hL; intro _ hL) | (refine tB ?_; clear hL; intro _ _ hL _))
    go_ret
    exact ⟨mm, i, cur9, rfl, HL9.out, hX, HR.out⟩
end Go.Proofs.YtmhkmmmompediaaGreat

/- A map of bit masks to places, beside the view. -/
namespace Go.Proofs.YtmhkmmmompediaaGreat
open Go.RowKit Go.Maps

theorem keyU : Keyed Tryz.prog 102 := int_keyed Tryz.underlying102
def IMap (W : World) (b : Nat) (ks : List Nat) : Prop := ∃ n D, n ≤ ks.length ∧ IsMap D ∧ W.ownsMap (H := Unit) Tryz.prog 102 (plainElem Tryz.prog 3) b n D ∧
 (∀ q : Nat, has D (.int .u32 q) = decide (q ∈ ks)) ∧ ∀ (q j : Nat), ks[j]? = some q → D.atKey (.int .u32 q) (.lit (.int .i64 0)) = .lit (.int .i64 j)
theorem isKey_u32 (x : Int) : WideAt.IsKeyLit (.int .u32 x) := trivial
theorem IMap.made (W : World) : IMap (W.alloc (.map #[] 0)) W.heap.size [] :=
 ⟨0, .map [], Nat.le_refl _, ⟨[], rfl⟩, World.ownsMap_made _ _ _ _, (fun q => by simp [has]), (fun q j h => by simp at h)⟩
theorem IMap.ext {W W' : World} {b : Nat} {ks : List Nat} (h : IMap W b ks) (hE : Ext W W') : IMap W' b ks := by
 obtain ⟨n, D, hn, hm, ⟨es, clock, hb, h⟩, h1, h2⟩ := h
 have hlt : b < W.heap.size := (Array.getElem?_eq_some_iff.1 hb).1
 exact ⟨n, D, hn, hm, ⟨es, clock, (hE.block b hlt).trans hb, h⟩, h1, h2⟩
theorem IMap.notCells {W : World} {b : Nat} {ks : List Nat} (h : IMap W b ks) : ∀ cs t fr, W.heap[b]? ≠ some (.cells cs t fr) := by
 obtain ⟨n, D, hn, hm, ⟨es, clock, hb, h⟩, h1, h2⟩ := h
 intro cs t fr e
 rw [hb] at e
 cases e
theorem wf_mask {q : Nat} (h : q < 4294967296) : (Lit.int .u32 q).wf = true := by
 simp [Lit.wf, IntKind.min, IntKind.max, IntKind.signed, IntKind.bits]
 omega
theorem zeroI (w : World) : (zeroValue 3).run Tryz.prog w = .ok (.int .i64 0) w := by kernel_rfl
theorem IMap.look {W : World} {b : Nat} {ks : List Nat} (h : IMap W b ks) {q : Nat} (hq : q < 4294967296) :
  ∃ c : Int, (Instr.lookup 169 (.map (some b)) (.int .u32 q) true).run Tryz.prog W = .ok (.tuple #[.int .i64 c, .bool (decide (q ∈ ks))]) W ∧ ∀ j : Nat, ks[j]? = some q → c = j := by
 obtain ⟨n, D, hn, hm, h, h1, h2⟩ := h
 obtain ⟨v, ps, hrun, hv⟩ := h.look_ok keyU Tryz.underlying169 (zeroI W) (plainElem_int Tryz.underlying3 (by decide)) (keyOf_int_mk Tryz.underlying102 (wf_mask hq))
 obtain ⟨c, rfl, hc, -⟩ := plainElem_int_inv Tryz.underlying3 hv
 rw [h1] at hrun
 refine ⟨c, hrun, fun j hj => ?_⟩
 have h3 := congrArg Prod.fst hc
 simp only at h3
 rw [h2 q j hj] at h3
 simpa using h3.symm
theorem IMap.up {W : World} {b : Nat} {ks : List Nat} (h : IMap W b ks) (hl : ks.length ≤ 1000000) {q : Nat} (hq : q < 4294967296) (hnew : q ∉ ks) :
  ∃ W', (Instr.mapUpdate 169 (.map (some b)) (.int .u32 q) (.int .i64 ks.length)).run Tryz.prog W = .ok () W' ∧ IMap W' b (ks ++ [q]) ∧ W.grownBy W' (some b) := by
 obtain ⟨n, D, hn, hm, h, h1, h2⟩ := h
 have hwl : (Lit.int .i64 (ks.length : Int)).wf = true := WalkArith.wf_i64 (by omega)
 obtain ⟨W', h3, h4, h5⟩ := h.update keyU Tryz.underlying169 (by unfold maxLen; omega) (keyOf_int_mk Tryz.underlying102 (wf_mask hq)) (plainElem_int Tryz.underlying3 hwl)
 have hne : ∀ q' : Nat, q' ≠ q → (Lit.int .u32 (q' : Int)) ≠ .int .u32 (q : Int) := fun q' h e => h (by
  simp only [Lit.int.injEq, true_and] at e
  omega)
 refine ⟨W', h3, ⟨n + 1, D.put (.int .u32 q) (.lit (.int .i64 ks.length)), by simp; omega, hm.put _ _, h4, fun q' => ?_, fun q' j hj => ?_⟩, h5⟩
 ·by_cases e : q' = q
  ·subst e
   rw [has_put_same hm (isKey_u32 _)]; simp
  ·rw [has_put_other (hne q' e), h1]
   simp [e]
 ·by_cases e : q' = q
  ·subst e
   rw [atKey_put_same hm (isKey_u32 _)]
   have hlt := (List.getElem?_eq_some_iff.1 hj).1
   simp only [List.length_append, List.length_cons, List.length_nil] at hlt
   by_cases hj2 : j < ks.length
   ·rw [List.getElem?_append_left hj2] at hj
    exact absurd (List.mem_of_getElem? hj) hnew
   ·have : j = ks.length := by omega
    rw [this]
  ·rw [atKey_put_other (hne q' e)]
   have hlt := (List.getElem?_eq_some_iff.1 hj).1
   simp only [List.length_append, List.length_cons, List.length_nil] at hlt
   by_cases hj2 : j < ks.length
   ·rw [List.getElem?_append_left hj2] at hj
    exact h2 q' j hj
   ·have h6 : j = ks.length := by omega
    rw [h6, List.getElem?_append_right (Nat.le_refl _)] at hj
    simp at hj
    exact absurd hj.symm e
theorem IMap.still {W W' : World} {b : Nat} {ks : List Nat} (h : IMap W b ks) (hE : Still W W') : IMap W' b ks := by
 obtain ⟨n, D, hn, hm, ⟨es, clock, hb, h⟩, h1, h2⟩ := h
 exact ⟨n, D, hn, hm, ⟨es, clock, hE b _ hb (fun _ _ _ e => by cases e), h⟩, h1, h2⟩
theorem still_setCells {W : World} {g off : Nat} {t : TypeId} {cs : Array Value} (hb : Blk W g t cs) (vs : List Value) : Still W (W.setCells g off vs) := fun b o ho hn => by
 by_cases e : b = g
 ·subst e
  unfold Blk at hb
  rw [hb] at ho
  cases ho
  exact absurd rfl (hn _ _ _)
 ·exact (heap_setCells_other g vs off W b e).trans ho
section
variable {P : Program} {ops : Array Oper} {Q : Exit → Act → World → Prop} {rest : List Oper} {o : Oper} {a : Act} {w0 m0 W m : World} {Ls : List Lo}
theorem wl_storeS (hL : Loc w0 m0 W m Ls) (hw : Region.wanted o (yielded ops a.tmps) = true) {ty : TypeId} {x y : Operand} (ho : o.op = .store ty x y) {g off : Nat} (hx : a.eval x = .pointer (some ⟨g, off, none⟩)) {vs : List Value}
  (hy : a.eval y = .agg vs.toArray) {k : Nat} (hty : agS P ty = some k) (hk : vs.length = k) {n : Nat} {t : TypeId} {cs : Array Value} (hn : Ls[n]? = some (g, t, cs)) (hfit : off + k ≤ cs.size) (h1 : vs.all (·.oneCell') = true)
  (h : ∀ W', Loc w0 m0 W' m (Ls.set n (g, t, splice cs off vs)) → Still W W' → wpList P ops Q rest (a.put o.dst undef) W') : wpList P ops Q (o :: rest) a W :=
 wpList_wanted hw fun _ hK => op_store ho hx hy (hk ▸ hty) (hL.at_ hn) (by rw [hk]; exact hfit) h1 (hK _ _ (h _ (hL.store hn off vs) (still_setCells (hL.at_ hn) vs)))
end
theorem stS {P : Program} {ops : Array Oper} {Q : Exit → Act → World → Prop} {rest : List Oper} {a : Act} {W : World} {d : Option Tmp} {ty t : TypeId} {pos : String} {af : Array Edge} {gd : Option (Nat × Bool)} {p q : Operand}
  (h : Hid (wpList P ops Q (⟨d, .store t p q, ty, pos, af, gd⟩ :: rest) a W)) : wpList P ops Q (⟨d, .store t p q, ty, pos, af, gd⟩ :: rest) a W := h
end Go.Proofs.YtmhkmmmompediaaGreat

/- Contract of cuts.groups. -/
namespace Go.Proofs.YtmhkmmmompediaaGreat
open Go.RowKit

def posF (rws : List Int) (f : Int) : Nat := rws.findIdx fun r => decide (r = f)
theorem posF_eq {rws : List Int} (hn : rws.Nodup) {i : Nat} {f : Int} (h : rws[i]? = some f) : posF rws f = i := by
 unfold posF
 have hlt := (List.getElem?_eq_some_iff.1 h).1
 have he := (List.getElem?_eq_some_iff.1 h).2
 rw [List.findIdx_eq hlt]
 refine ⟨by simp [he], fun j hj => ?_⟩
 have := List.pairwise_iff_getElem.1 hn j i (by omega) hlt hj
 rw [he] at this
 simpa using this
def maskT (rws l : List Int) (k : Nat) : Nat := (l.take k).foldl (fun s f => s ||| 2 ^ posF rws f) 0
theorem maskT_step {rws l : List Int} {k : Nat} {f : Int} (h : l[k]? = some f) : maskT rws l (k + 1) = maskT rws l k ||| 2 ^ posF rws f := by
 unfold maskT; rw [← take_snoc h, List.foldl_append]; rfl
theorem posF_lt {rws : List Int} {f : Int} (h : f ∈ rws) : posF rws f < rws.length := by
 unfold posF
 exact List.findIdx_lt_length_of_exists ⟨f, h, by simp⟩
theorem or_lt : ∀ x : Fin 32, ∀ i : Fin 5, (x.1 ||| 2 ^ i.1) < 32 := by decide +kernel
theorem maskT_lt {rws l : List Int} (h5 : rws.length ≤ 5) (hs : ∀ f ∈ l, f ∈ rws) : ∀ k, maskT rws l k < 32 := by
 intro k
 induction k with
 | zero => show (0 : Nat) < 32; decide
 | succ k ih =>
  cases hk : l[k]? with
  | none =>
   have h3 := List.getElem?_eq_none_iff.1 hk
   have e : maskT rws l (k + 1) = maskT rws l k := by
    unfold maskT
    rw [List.take_of_length_le (by omega), List.take_of_length_le (by omega)]
   rw [e]; exact ih
  | some f =>
   rw [maskT_step hk]
   have h1 := posF_lt (hs f (List.mem_of_getElem? hk))
   exact or_lt ⟨_, ih⟩ ⟨posF rws f, by omega⟩
theorem or_33 : ∀ x : Fin 32, ∀ i : Fin 5, bits .or .u32 (x.1 : Int) ((2 : Int) ^ i.1 % 4294967296) = ((x.1 ||| 2 ^ i.1 : Nat) : Int) := by decide +kernel
def maskF (rws l : List Int) : Nat := maskT rws l l.length
def grpS (ls : List Grp) (mk : Nat) (v : Rat) : List Grp := if mk ∈ ls.map Prod.fst then ls.map fun x => if x.1 = mk then (x.1, x.2.1 + v, x.2.2) else x else ls ++ [(mk, ((0 : Int) : Rat) + v, 0)]
def grpT (rws : List Int) (cols : List Col) (us : List Rat) (k : Nat) : List Grp := ((cols.zip us).take k).foldl (fun ls e => grpS ls (maskF rws (opF e.1.2.1)) e.2) []
theorem grpT_step {rws : List Int} {cols : List Col} {us : List Rat} {k : Nat} {c : Col} {q : Rat} (hc : cols[k]? = some c) (hq : us[k]? = some q) : grpT rws cols us (k + 1) = grpS (grpT rws cols us k) (maskF rws (opF c.2.1)) q := by
 unfold grpT
 have h : (cols.zip us)[k]? = some (c, q) := List.getElem?_zip_eq_some.2 ⟨hc, hq⟩
 rw [← take_snoc h, List.foldl_append]; rfl
def GrpO (m : World) (v : Value) : Grp ⊕ Nat → Prop
 | .inl x => GrpR m v x
 | .inr mk => v = .agg #[.int .u32 (mk : Int), .bool false, .slice none 0 0, .bool false, .slice none 0 0, .int .i64 0]
theorem GrpO.mono (m m' : World) (v : Value) (x : Grp ⊕ Nat) (h : GrpO m v x) (hl : Le m m') : GrpO m' v x := by
 cases x with
 | inl x => exact GrpR.mono m m' v x h hl
 | inr k => exact h
theorem all2_toO {m : World} : ∀ {vs : List Value} {xs : List Grp}, All2 (GrpR m) vs xs → All2 (GrpO m) vs (xs.map Sum.inl)
 | [], [], _ => trivial
 | _ :: _, _ :: _, h => ⟨h.1, all2_toO h.2⟩
 | [], _ :: _, h => h.elim
 | _ :: _, [], h => h.elim
theorem all2_ofO {m : World} : ∀ {vs : List Value} {xs : List Grp}, All2 (GrpO m) vs (xs.map Sum.inl) → All2 (GrpR m) vs xs
 | [], [], _ => trivial
 | _ :: _, _ :: _, h => ⟨h.1, all2_ofO h.2⟩
 | [], _ :: _, h => h.elim
 | _ :: _, [], h => h.elim
theorem RowA.ofO {m : World} {v : Value} {n : Nat} {xs : List Grp} {Rr : List Lo} {e : TypeId} (h : RowA e 6 GrpO m v n (xs.map Sum.inl) Rr) : RowA e 6 GrpR m v n xs Rr := by
 obtain ⟨vs, h1, h2, h3, h4⟩ := h
 exact ⟨vs, h1, h2, all2_ofO h3, h4⟩
theorem set_last {ls : List Grp} {n : Nat} (h : n = ls.length) (mk : Nat) (x : Grp) : (ls.map Sum.inl ++ [(.inr mk : Grp ⊕ Nat)]).set n (.inl x) = (ls ++ [x]).map Sum.inl := by
 subst h
 rw [List.set_append_right _ _ (by simp)]
 simp
def GrpOk (ls : List Grp) : Prop := (ls.map Prod.fst).Nodup
theorem grpS_set {ls : List Grp} (hn : GrpOk ls) {j : Nat} {x : Grp} (h : ls[j]? = some x) (v : Rat) : grpS ls x.1 v = ls.set j (x.1, x.2.1 + v, x.2.2) := by
 have hm : x.1 ∈ ls.map Prod.fst := List.mem_map.2 ⟨x, List.mem_of_getElem? h, rfl⟩
 unfold grpS
 rw [if_pos hm]
 apply List.ext_getElem?
 intro i
 have hlt := (List.getElem?_eq_some_iff.1 h).1
 rw [List.getElem?_map, List.getElem?_set]
 by_cases e : j = i
 ·subst e
  rw [if_pos rfl, if_pos hlt, h]
  simp
 ·rw [if_neg e]
  cases hi : ls[i]? with
  | none => rfl
  | some y =>
   have hne : y.1 ≠ x.1 := by
    intro he
    have h1 := (List.getElem?_eq_some_iff.1 hi).1
    have a1 : (ls.map Prod.fst)[i]? = some y.1 := by rw [List.getElem?_map, hi]; rfl
    have a2 : (ls.map Prod.fst)[j]? = some x.1 := by rw [List.getElem?_map, h]; rfl
    obtain ⟨b1, c1⟩ := List.getElem?_eq_some_iff.1 a1
    obtain ⟨b2, c2⟩ := List.getElem?_eq_some_iff.1 a2
    rcases Nat.lt_or_ge i j with hij | hij
    ·exact List.pairwise_iff_getElem.1 hn i j b1 b2 hij (c1.trans (he.trans c2.symm))
    ·exact List.pairwise_iff_getElem.1 hn j i b2 b1 (by omega) (c2.trans (he.symm.trans c1.symm))
   simp [hne]
theorem grpS_keys {ls : List Grp} {mk : Nat} (h : mk ∈ ls.map Prod.fst) (v : Rat) : (grpS ls mk v).map Prod.fst = ls.map Prod.fst := by
 unfold grpS
 rw [if_pos h, List.map_map]
 refine List.map_congr_left fun x _ => ?_
 simp only [Function.comp]
 split <;> rfl
theorem grpS_new {ls : List Grp} {mk : Nat} (h : mk ∉ ls.map Prod.fst) (v : Rat) : grpS ls mk v = ls ++ [(mk, ((0 : Int) : Rat) + v, 0)] := by unfold grpS; rw [if_neg h]
theorem grpS_ok {ls : List Grp} (h : GrpOk ls) (mk : Nat) (v : Rat) : GrpOk (grpS ls mk v) := by
 unfold GrpOk
 by_cases hm : mk ∈ ls.map Prod.fst
 ·rw [grpS_keys hm]; exact h
 ·rw [grpS_new hm, List.map_append]
  exact List.nodup_append.2 ⟨h, by simp, fun a ha b hb => by
   simp at hb; subst hb
   exact fun e => hm (e ▸ ha)⟩
theorem grpT_ok (rws : List Int) (cols : List Col) (us : List Rat) : ∀ k, GrpOk (grpT rws cols us k) := by
 intro k
 induction k with
 | zero => exact List.nodup_nil
 | succ k ih =>
  cases hk : (cols.zip us)[k]? with
  | none =>
   have h3 := List.getElem?_eq_none_iff.1 hk
   have e : grpT rws cols us (k + 1) = grpT rws cols us k := by
    unfold grpT
    rw [List.take_of_length_le (by omega), List.take_of_length_le (by omega)]
   rw [e]; exact ih
  | some e =>
   obtain ⟨c, q⟩ := e
   obtain ⟨h1, h2⟩ := List.getElem?_zip_eq_some.1 hk
   rw [grpT_step h1 h2]
   exact grpS_ok ih _ _
theorem grpT_len (rws : List Int) (cols : List Col) (us : List Rat) : ∀ k, (grpT rws cols us k).length ≤ k := by
 intro k
 induction k with
 | zero => simp [grpT]
 | succ k ih =>
  cases hk : (cols.zip us)[k]? with
  | none =>
   have h3 := List.getElem?_eq_none_iff.1 hk
   have e : grpT rws cols us (k + 1) = grpT rws cols us k := by
    unfold grpT
    rw [List.take_of_length_le (by omega), List.take_of_length_le (by omega)]
   rw [e]; omega
  | some e =>
   obtain ⟨c, q⟩ := e
   obtain ⟨h1, h2⟩ := List.getElem?_zip_eq_some.1 hk
   rw [grpT_step h1 h2]
   unfold grpS
   split
   ·simpa using Nat.le_succ_of_le ih
   ·simp; exact ih
theorem grpS_tw {ls : List Grp} {B mk : Nat} {v : Rat} (h : ∀ x ∈ ls, Tw B x.2.1) (hv : Tw 18 v) : ∀ x ∈ grpS ls mk v, Tw (B + 18) x.2.1 := by
 intro x hx
 unfold grpS at hx
 split at hx
 ·obtain ⟨y, hy, rfl⟩ := List.mem_map.1 hx
  split
  ·exact (h y hy).add hv
  ·exact (h y hy).mono (by omega)
 ·rcases List.mem_append.1 hx with hx | hx
  ·exact (h x hx).mono (by omega)
  ·rcases List.mem_singleton.1 hx with rfl
   exact ((Tw.int (K := 0) (k := 0) (by decide)).add hv).mono (by omega)
theorem grpT_tw (rws : List Int) {cols : List Col} {us : List Rat} (hu : ∀ v ∈ us, Tw 18 v) : ∀ k, ∀ x ∈ grpT rws cols us k, Tw (18 * k) x.2.1 := by
 intro k
 induction k with
 | zero => intro x hx; simp [grpT] at hx
 | succ k ih =>
  cases hk : (cols.zip us)[k]? with
  | none =>
   have h3 := List.getElem?_eq_none_iff.1 hk
   have e : grpT rws cols us (k + 1) = grpT rws cols us k := by
    unfold grpT
    rw [List.take_of_length_le (by omega), List.take_of_length_le (by omega)]
   rw [e]; exact fun x hx => (ih x hx).mono (by omega)
  | some e =>
   obtain ⟨c, q⟩ := e
   obtain ⟨h1, h2⟩ := List.getElem?_zip_eq_some.1 hk
   rw [grpT_step h1 h2]
   exact fun x hx => (grpS_tw ih (hu q (List.mem_of_getElem? h2)) x hx).mono (by omega)

theorem s_IndexGrp0 (w m : World) (hV : Vw m w) : Calls Tryz.prog 191 #[.slice none 0 0, .func (.func 157) #[] #[]] w (RetV w m fun _ r => r = .int .i64 (-1)) := by
 have hL := Loc.start hV
 clear hV
 go_enter Tryz.func191, Tryz.ntmps191
 go_wp2_with (first | go_skip | refine tP ?_)
 refine wp_loop_once ?_
 go_wp2_with (first | go_skip | refine tP ?_)
 go_ret
 exact RetV.mk hL rfl
theorem s_DeleteGrp0 (w m : World) (hV : Vw m w) : Calls Tryz.prog 156 #[.slice none 0 0, .func (.func 157) #[] #[]] w (RetV w m fun _ r => r = .slice none 0 0) := by
 have hL := Loc.start hV
 clear hV
 go_enter Tryz.func156, Tryz.ntmps156
 go_wp2_with (first | go_skip | refine tP ?_ | (refine tS ?_; clear hL; intro _ hL) | (refine tB ?_; clear hL; intro _ _ hL _))
 refine (s_IndexGrp0 _ _ hL.vw).mono ?_
 rintro e Wc1 ⟨_, mc1, rfl, hE, hMc1, hV, rfl⟩
 replace hL := hL.call hE (by assumption) hV; clear hE hV
 go_wp2_with (first | go_skip | refine tP ?_ | (refine tS ?_; clear hL; intro _ hL) | (refine tB ?_; clear hL; intro _ _ hL _))
 go_ret
 exact RetV.mk hL rfl
def GrpPost (w m : World) (xs : List Grp) (e : Ending) (w' : World) : Prop := ∃ v m' R n, e = .returned v ∧ Loc w m w' m' R ∧ RowA 171 6 GrpR m' v n xs R
def grpF (rws : List Int) (cols : List Col) (us : List Rat) : List Grp := (grpT rws cols us cols.length).filter keepG

theorem u_groups (mv vv : Value) (ms : Ms) (us : List Rat) (w m : World) (hV : Vw m w) (hm : MasterR m mv ms) (hvv : FracL m vv us) (ok : VOk ms us) (h5 : ms.rows.length ≤ 5) (h6 : ms.cols.length ≤ 6) :
  Calls Tryz.prog 99 #[mv, vv] w (GrpPost w m (grpF ms.rows ms.cols us)) := by
 obtain ⟨nf, rws, pen, cols, cuts⟩ := ms
 obtain ⟨va, vb, vc, rfl, ha, hb, hcu⟩ := hm
 simp only at ha hb hcu
 obtain ⟨A, ca, rfl, hca, ha⟩ := ha.lit
 obtain ⟨B, cb, rfl, hcb, hb⟩ := hb.lit
 obtain ⟨C, cc, rfl, hcc, hcu⟩ := hcu.lit
 obtain ⟨V, cv, rfl, hcv, hvv⟩ := hvv.lit
 have HRO := Lib.hid ha
 have HCO := Lib.hid hb
 have HVA := Lib.hid hvv
 have HC : Hid (∀ c ∈ cols, ColOk rws c) := ok.ms.cols
 have HT : Hid (∀ v ∈ us, Tw 18 v) := ok.tw
 have HAS : Hid (AscP rws) := ok.ms.asc
 have HND : Hid rws.Nodup := (asc_pw ok.ms.asc).imp fun hab e => by omega
 have HLN : Hid (∀ c ∈ cols, (opF c.2.1).length ≤ 32) := by
  show ∀ c ∈ cols, _
  exact fun c hc => ok.col_len hc
 have H5 : Hid (rws.length ≤ 5) := h5
 have hlen : us.length = cols.length := ok.len
 simp only at h5 h6
 have hL := Loc.start hV
 clear hV ok ha hb hcu hvv
 rw [hlen] at HVA hcv ⊢
 have HNV := Lib.hid hlen
 clear hlen
 simp only
 unfold grpF
 generalize hn1 : cols.length = nc at *
 have HN1 := Lib.hid hn1
 clear hn1
 generalize hn2 : rws.length = nr at *
 have HN2 := Lib.hid hn2
 clear hn2
 generalize cuts.length = nk at *
 have hmm := @run_makeMap Tryz.prog
 go_enter Tryz.func99, Tryz.ntmps99
 go_upto_region 0 with (fail)
 refine wp_region_lit ?_
 refine t_box hL rfl rfl ?_; clear hL; intro Wh2 mh2 hL eh2; simp only [Act.put, zq1, zq2, zq3]
 obtain ⟨m2, hL2, hle2, hsl⟩ := Loc.show1 (A := []) hL 5
 have hbA := hsl.cell (j := 1) rfl
 have hbB := hsl.cell (j := 3) rfl
 clear hL hsl hle2
 have hL := hL2
 clear hL2
 have hM2 := hL.mext
 go_upto_region 2 with ((first | go_skip | refine tP ?_ | (refine tS ?_; clear hL; intro _ hL) | (refine tB ?_; clear hL; intro _ _ hL _) | (refine tC ?_; clear hL; intro _ _ hL _ hBs)))
 clear hmm
 have hlow : w.heap.size ≤ Wh2.heap.size := hL.ext.size
 have hsz2 := hL.vw.size
 have hL9 := hL.allocM (.map #[] 0)
 have hXh : Ext m2 (hidTo m2 (Wh2.alloc (.map #[] 0)).heap.size) := hidTo_ext (by rw [hsz2]; simp)
 clear hL
 have hL := hL9
 clear hL9
 refine wp_region_lit ?_
 go_wp2_with (first | go_skip | refine tP ?_ | (refine tS ?_; clear hL; intro _ hL) | (refine tB ?_; clear hL; intro _ _ hL _) | (refine tC ?_; clear hL; intro _ _ hL _ hBs))
 go_loopw [6, 20] (fun ov i wr => ∃ (k : Nat) (mm : World) (n : Nat) (Rr : List Lo), k ≤ nc ∧ i = .int .i64 k ∧ Loc w m wr mm Rr ∧ Hid (Ext m2 mm) ∧ Hid (RowA 171 6 GrpR mm ov n (grpT rws cols us k) Rr) ∧ Hid (IMap wr Wh2.heap.size ((grpT rws cols us k).map Prod.fst))) (fun _ i _ => nc - (intOf i).toNat)
 case atStart => exact ⟨0, _, 0, [], Nat.zero_le _, rfl, hL, hXh, RowA.nil, IMap.made _⟩
 case round =>
  clear hL
  obtain ⟨k, mm, n, Rr, hk, rfl, hL0, HX, ROW, HI⟩ := hrel
  obtain ⟨wq, rfl⟩ := hL0.world
  have hM := hL0.mext
  have hX := HX.out
  have hL := Loc.start hL0.vw
  obtain ⟨A3, c3, rfl, row1⟩ := ROW.out.lit
  have ROW := Lib.hid row1
  clear row1
  by_cases hlt : k < nc
  ·have hlt' : (k : Int) < (nc : Int) := by omega
   obtain ⟨⟨s, ds, cost⟩, hx⟩ := at_some HN1 hlt
   obtain ⟨q, hq⟩ := at_some HNV hlt
   have hco := HCO.out
   have hva := HVA.out
   obtain ⟨b1, o1, D, cd, rfl, hds, hr1⟩ := ColL.at_ hco hx
   obtain ⟨b2, o2, g2, A2, n2, c2, h2, B2, k2, d2, rfl, hp2, hr2⟩ := FracL.at_ hva hq
   obtain ⟨i1, i2, i3, i4, i5, i6, i7⟩ := HC.out _ (List.mem_of_getElem? hx)
   simp only at hds hr1 i1 i2 i3 i4 i5 i6 i7
   have HD := Lib.hid hds
   have H3 := Lib.hid i3
   have H4 := Lib.hid i4
   have H6 := Lib.hid i6
   have HP2 := Lib.hid hp2
   have HTQ : Hid (Tw 18 q) := HT.out q (List.mem_of_getElem? hq)
   have H32 : Hid ((opF ds).length ≤ 32) := HLN.out _ (List.mem_of_getElem? hx)
   have HST := Lib.hid (grpT_step (rws := rws) hx hq)
   simp only at HST
   clear hx hq hds hp2 i1 i2 i3 i4 i5 i6 i7 hco hva
   generalize hnd : ds.length = nd at *
   have HNDS := Lib.hid hnd
   clear hnd
   have HMB : Hid (∀ t, maskT rws (opF ds) t < 32) := by
    show ∀ t, _
    exact maskT_lt (by rw [HN2.out]; exact h5) H6.out
   go_wp2_with (first | go_skip | refine tP ?_ | (refine tS ?_; clear hL; intro _ hL) | (refine tB ?_; clear hL; intro _ _ hL _) | (refine tC ?_; clear hL; intro _ _ hL _ hBs))
   refine (e_Operated s _ ds _ _ hL.vw (DutsL.le HD.out leX) (by rw [HNDS.out]; exact H3.out) H4.out).mono ?_
   rintro e Wc1 ⟨vc1, mc1, rfl, hE, hMc1, hV, hc1⟩
   replace hL := hL.call hE (by assumption) hV; clear hE hV
   obtain ⟨Ao, co, rfl, hco, ho1⟩ := hc1.lit
   have HOP := Lib.hid ho1
   have HI1 : Hid (IMap Wc1 Wh2.heap.size ((grpT rws cols us k).map Prod.fst)) := HI.out.ext hL.ext
   clear ho1 hc1
   generalize hno : (opF ds).length = no at *
   have HNO := Lib.hid hno
   clear hno
   go_wp2_with (first | go_skip | refine tP ?_ | (refine tS ?_; clear hL; intro _ hL) | (refine tB ?_; clear hL; intro _ _ hL _) | (refine tC ?_; clear hL; intro _ _ hL _ hBs))
   go_loopw [9, 29] (fun mk i wr => ∃ (t : Nat) (m3 : World), t ≤ no ∧ i = .int .i64 t ∧ mk = .int .u32 (maskT rws (opF ds) t : Nat) ∧ Loc wq mm wr m3 [(wq.heap.size, 72, #[.string s, .slice D nd cd, .int .i64 cost])] ∧ Hid (Ext mc1 m3)) (fun _ i _ => no - (intOf i).toNat)
   case atStart => exact ⟨0, _, Nat.zero_le _, rfl, rfl, hL, exX⟩
   case round =>
    clear hL
    obtain ⟨t, m3, ht, rfl, rfl, hL, HX2⟩ := hrel
    have hM3 := hL.mext
    have h32 := H32.out
    have hX2 := HX2.out
    by_cases hlt2 : t < no
    ·obtain ⟨f, hf⟩ := at_some HNO hlt2
     obtain ⟨b3, o3, rfl, hc3⟩ := IntL.at_ HOP.out hf
     have hfr := H6.out f (List.mem_of_getElem? hf)
     have HFR := Lib.hid hfr
     have hlt2' : (t : Int) < (no : Int) := by omega
     have HSM := Lib.hid (maskT_step (rws := rws) hf)
     clear hf hfr
     go_wp2_with (first | go_skip | refine tP ?_ | (refine tS ?_; clear hL; intro _ hL) | (refine tB ?_; clear hL; intro _ _ hL _) | (refine tC ?_; clear hL; intro _ _ hL _ hBs))
     refine (s_BinarySearch _ rws f _ _ hL.vw (IntL.le HRO.out leX) (by rw [HN2.out]; omega) HAS.out).mono ?_
     rintro e W2 ⟨_, m4, rfl, hE, hM4, hV, i0, rfl, hi0⟩
     replace hL := hL.call hE (by assumption) hV; clear hE hV
     have HPO : Hid (posF rws f = i0) := posF_eq HND.out (hi0 HFR.out)
     have hi5 : i0 < 5 := by
      have h1 := posF_lt HFR.out
      rw [HPO.out, HN2.out] at h1
      omega
     have hor : bits .or .u32 (maskT rws (opF ds) t : Nat) ((2 : Int) ^ i0 % 4294967296) = (maskT rws (opF ds) (t + 1) : Nat) := by
      rw [HSM.out, HPO.out]
      exact or_33 ⟨_, HMB.out t⟩ ⟨i0, hi5⟩
     clear hi0
     go_wp2_with (first | go_skip | refine tP ?_ | (refine tS ?_; clear hL; intro _ hL) | (refine tB ?_; clear hL; intro _ _ hL _) | (refine tC ?_; clear hL; intro _ _ hL _ hBs))
     go_roundw
     case rel => exact ⟨t + 1, _, by omega, by go_num, rfl, hL, hX2.trans exX⟩
     case measure => simp [intOf] <;> omega
    ·have htn : t = no := by omega
     have HMF : Hid (maskT rws (opF ds) t = maskF rws (opF ds)) := by
      show _ = _
      unfold maskF
      rw [htn, HNO.out]
     subst htn
     have hmk : maskF rws (opF ds) < 32 := by rw [← HMF.out]; exact HMB.out t
     rw [HMF.out]
     have HI3 := Lib.hid (HI.out.ext hL.ext)
     have h9 : (t : Int) ≤ (t : Int) := Int.le_refl _
     generalize maskF rws (opF ds) = mk at *
     have HOKL := Lib.hid (grpT_ok rws cols us k)
     have HLL : Hid ((grpT rws cols us k).length ≤ 6) := Nat.le_trans (grpT_len rws cols us k) (by omega)
     have HTW : Hid (∀ x ∈ grpT rws cols us k, Tw (18 * k) x.2.1) := grpT_tw rws HT.out k
     generalize grpT rws cols us k = ls at *
     obtain ⟨c, hlk, hcj⟩ := HI3.out.look (q := mk) (by omega)
     have HCJ := Lib.hid hcj
     clear hcj HMF HMB
     by_cases hin : mk ∈ ls.map Prod.fst
     ·rw [decide_eq_true hin] at hlk
      obtain ⟨j, hj⟩ := List.mem_iff_getElem?.1 hin
      have hcj := HCJ.out j hj
      subst hcj
      obtain ⟨x, hxj, hx1⟩ : ∃ x, ls[j]? = some x ∧ x.1 = mk := by
       rw [List.getElem?_map] at hj
       cases hy : ls[j]? with
       | none => rw [hy] at hj; cases hj
       | some y => rw [hy] at hj; exact ⟨y, rfl, by simpa using hj⟩
      have hln : n = ls.length := ROW.out.len
      have hjl : j < ls.length := (List.getElem?_eq_some_iff.1 hxj).1
      have hjn : j < n := by omega
      obtain ⟨g, cap, cur, e1, e2, hcap, hcsz⟩ := ROW.out.block (by omega)
      simp only [Value.slice.injEq, true_and] at e1
      obtain ⟨rfl, rfl⟩ := e1
      subst e2
      have hLj := hL0.join hL
      simp only [List.cons_append, List.nil_append] at hLj
      have ROW3 : Hid (RowA 171 6 GrpR m3 (.slice (some ⟨g, 0, none⟩) n c3) n ls [(g, 171, cur)]) := RowA.le GrpR.mono ROW.out hM3.le
      obtain ⟨gv, A1, n1, c1, f1, B1, p1, q1, hq1, hr6⟩ := grp_at ROW3.out hxj
      have HKS := Lib.hid (grpS_set HOKL.out hxj q)
      have HKK := Lib.hid (grpS_keys hin q)
      have HTX : Hid (Tw 108 x.2.1) := (HTW.out x (List.mem_of_getElem? hxj)).mono (by omega)
      obtain ⟨xm, xq, xsc⟩ := x
      simp only at hx1 hq1 hr6 HKS HTX
      subst hx1
      have hr4 : ∀ i, i < 4 → cur[j * 6 + 1 + i]? = [.bool gv, .slice A1 n1 c1, .bool f1, .slice B1 p1 q1][i]? := fun i hi => by
       have h1 := hr6 (i + 1) (by omega)
       rw [show j * 6 + 1 + i = 0 + j * 6 + (i + 1) by omega, h1]
       match i, hi with
       | 0, _ => rfl
       | 1, _ => rfl
       | 2, _ => rfl
       | 3, _ => rfl
      have hfit : j * 6 + 1 + 4 ≤ cur.size := by
       have h1 : (j + 1) * 6 ≤ c3 * 6 := Nat.mul_le_mul_right _ (by omega)
       omega
      have HQ1 := Lib.hid hq1
      have HR6 := Lib.hid hr6
      have SX : Hid (Sm xq.num xq.den) := HTX.out.sm (by decide)
      have SQ : Hid (Sm q.num q.den) := HTQ.out.sm (by decide)
      clear hj hxj hq1 hr6 hin hL hL0 hln hjl hcap hcsz
      have hL := hLj
      clear hLj
      have hr7 : m.rangeAt b2 (o2 + k * 4) [.bool g2, .slice A2 n2 c2, .bool h2, .slice B2 k2 d2] := hr2
      have hMM := hL.mext
      go_upto_region 18 with ((first | go_skip | refine tP ?_ | (refine tS ?_; clear hL; intro _ hL) | (refine tB ?_; clear hL; intro _ _ hL _) | (refine tC ?_; clear hL; intro _ _ hL _ hBs)))
      (try simp only [eq_self] at *)
      refine wp_region_by2 12 [false, false, false, false, false, false, false, false, false, false, false, false] [false, false, false, false, false, false, false, false, false, false, false, false] [(fun v _ _ => v = ?c18_0), (fun v _ _ => v = ?c18_1), (fun v _ _ => v = ?c18_2), (fun v _ _ => v = ?c18_3), (fun v _ _ => v = ?c18_4), (fun v _ _ => v = ?c18_5), (fun v _ _ => v = ?c18_6), (fun v _ _ => v = ?c18_7), (fun v _ _ => v = ?c18_8), (fun v _ _ => v = ?c18_9), (fun v _ _ => v = ?c18_10), Of (fun um v => FracC um v (xq + q))] hL.vw mixed [63, 64, 65, 66, 67, 68, 69, 70, 71, 72, 73, 74] _ (by kernel_rfl) (fun vs => by simp only [lay, Act.put, zq1, zq2, zq3]; rfl) (by kernel_rfl) (by decide) (by decide) ?s18 ?l18 ?r18
      case s18 =>
       refine ⟨?_, ?_, ?_, ?_, ?_, ?_, ?_, ?_, ?_, ?_, ?_, ?_, trivial⟩
       ·intro vs W1 m1 hE hM hV hD; clear hD
        exact sPw
       ·intro vs W1 m1 hE hM hV hD; clear hD
        exact sPw
       ·intro vs W1 m1 hE hM hV hD; clear hD
        exact sPw
       ·intro vs W1 m1 hE hM hV hD; clear hD
        exact sPw
       ·intro vs W1 m1 hE hM hV hD; obtain ⟨⟨_, _, -, -, f65⟩, ⟨_, _, -, -, f66⟩, -⟩ := hD
        rw [(f65 : vs 65 = _), (f66 : vs 66 = _)]; clear f65 f66; exact sIy
       ·intro vs W1 m1 hE hM hV hD; obtain ⟨⟨_, _, -, -, f67⟩, -⟩ := hD
        rw [(f67 : vs 67 = _)]; clear f67; exact sFe
       ·intro vs W1 m1 hE hM hV hD; obtain ⟨⟨_, _, -, -, f68⟩, -⟩ := hD
        rw [(f68 : vs 68 = _)]; clear f68; exact sLe
       ·intro vs W1 m1 hE hM hV hD; clear hD
        exact sPw
       ·intro vs W1 m1 hE hM hV hD; clear hD
        exact sPw
       ·intro vs W1 m1 hE hM hV hD; obtain ⟨⟨_, _, -, -, f70⟩, ⟨_, _, -, -, f71⟩, -⟩ := hD
        rw [(f70 : vs 70 = _), (f71 : vs 71 = _)]; clear f70 f71; exact sIy
       ·intro vs W1 m1 hE hM hV hD; obtain ⟨⟨_, _, -, -, f72⟩, -⟩ := hD
        rw [(f72 : vs 72 = _)]; clear f72; exact sLe
       ·intro vs W1 m1 hE hM hV hD; obtain ⟨⟨_, _, -, -, f69⟩, ⟨_, _, -, -, f73⟩, -⟩ := hD
        rw [(f69 : vs 69 = _), (f73 : vs 73 = _)]
        clear f69 f73
        go_wp2_with fail
        refine (q_AddC _ _ _ _ _ _ hV (HQ1.out.le leX) (HP2.out.le leX) SX.out SQ.out).mono ?_
        rintro e W2 ⟨v, m2, rfl, hE2, hM2, hV2, h⟩
        go_wp2_with fail
        refine One2.call hE2 hM2 hV2 ?_; first | exact h | exact rfl
      case l18 =>
       refine ⟨nF, nF, nF, nF, nF, nF, nF, nF, nF, nF, nF, nF, trivial⟩
      intro vs W1 m1 hE hM hV hF hD
      clear hD
      obtain ⟨⟨_, _, -, -, f63⟩, ⟨_, _, -, -, f64⟩, -, -, -, -, -, -, -, -, -, ⟨_, _, -, i74, f74⟩, -⟩ := hF
      replace hL := hL.call hE hM hV
      have f63 : vs 63 = _ := f63
      generalize vs 63 = x63 at f63 ⊢
      subst x63
      have f64 : vs 64 = _ := f64
      generalize vs 64 = x64 at f64 ⊢
      subst x64
      replace f74 : FracC _ (vs 74) (xq + q) := f74
      replace f74 := f74.le i74.le
      clear i74
      obtain ⟨g74, A74, n74, c74, h74, B74, k74, d74, e74, f74⟩ := f74.lit
      generalize vs 74 = x74 at e74 ⊢
      subst x74
      have HEX := Lib.hid hE
      clear hE hV
      simp only [List.drop_succ_cons, List.drop_zero]
      go_wp2_with (first | (with_reducible refine stS ?_) | (first | go_skip | refine tP ?_ | (refine tS ?_; clear hL; intro _ hL) | (refine tB ?_; clear hL; intro _ _ hL _) | (refine tC ?_; clear hL; intro _ _ hL _ hBs)))
      refine goA ?_
      refine wl_storeS hL (wanted_none rfl) rfl rfl rfl ag_Frac rfl (n := 1) rfl (by omega) rfl ?_
      clear hL
      intro W9 hL hst
      simp only [List.set_cons_succ, List.set_cons_zero] at hL
      have HP : Hid (RowA 171 6 GrpR m1 (.slice (some ⟨g, 0, none⟩) n c3) n (ls.set j (xm, xq + q, xsc)) [(g, 171, splice cur (j * 6 + 1) [.bool g74, .slice A74 n74 c74, .bool h74, .slice B74 k74 d74])]) := by
       refine RowA.put (k := j) (o := 1) (x := (xm, xq + q, xsc)) (ws := [.bool g74, .slice A74 n74 c74, .bool h74, .slice B74 k74 d74]) (cs := [.int .u32 (xm : Int), .bool g74, .slice A74 n74 c74, .bool h74, .slice B74 k74 d74, .int .i64 xsc]) (RowA.le GrpR.mono ROW3.out leX) (by rw [← ROW3.out.len]; exact hjn) (by simp) rfl (fun i hi => ?_) ⟨_, _, _, _, _, _, _, _, rfl, f74⟩
       match i, hi with
       | 0, _ => exact (HR6.out 0 (by omega)).symm
       | 1, _ => rfl
       | 2, _ => rfl
       | 3, _ => rfl
       | 4, _ => rfl
       | 5, _ => exact (HR6.out 5 (by omega)).symm
      have HI9 := Lib.hid (HI3.out.still (HEX.out.still.trans hst))
      clear hst
      simp only [Act.put, zq1, zq2, zq3]
      go_wp2_with (first | go_skip | refine tP ?_ | (refine tS ?_; clear hL; intro _ hL) | (refine tB ?_; clear hL; intro _ _ hL _) | (refine tC ?_; clear hL; intro _ _ hL _ hBs))
      refine QN.mk ?_
      go_wp2_with (first | go_skip | refine tP ?_ | (refine tS ?_; clear hL; intro _ hL) | (refine tB ?_; clear hL; intro _ _ hL _) | (refine tC ?_; clear hL; intro _ _ hL _ hBs))
      go_roundw
      case rel => exact ⟨k + 1, _, n, _, by omega, by go_num, hL.tail, hX.trans exX, by rw [HST.out, HKS.out]; exact HP.out, by rw [HST.out, HKK.out]; exact HI9.out⟩
      case measure => simp [intOf] <;> omega
     ·rw [decide_eq_false hin] at hlk
      have hln : n = ls.length := ROW.out.len
      have hn6 : n ≤ 6 := by
       have h1 := HLL.out
       omega
      have HLN2 := Lib.hid hln
      have HNEW := Lib.hid (grpS_new hin q)
      obtain ⟨W9, hup, hb9, hg9⟩ := HI3.out.up (by simp; omega) (by omega : mk < 4294967296) hin
      rw [List.length_map, ← hln] at hup
      have HB9 := Lib.hid hb9
      have HG9 := Lib.hid hg9
      have HNC := Lib.hid HI3.out.notCells
      have hLj := hL0.join hL
      simp only [List.cons_append, List.nil_append] at hLj
      have ROW3 : Hid (RowA 171 6 GrpR m3 (.slice A3 n c3) n ls Rr) := RowA.le GrpR.mono ROW.out hM3.le
      have SQ : Hid (Sm q.num q.den) := HTQ.out.sm (by decide)
      clear hL hL0 hln hin hb9 hg9 HCJ
      have hL := hLj
      clear hLj
      go_upto_region 17 with ((first | go_skip | refine tP ?_ | (refine tS ?_; clear hL; intro _ hL) | (refine tB ?_; clear hL; intro _ _ hL _) | (refine tC ?_; clear hL; intro _ _ hL _ hBs)))
      have hsz9 := hL.vw.size
      have hxh : Ext m3 (hidTo m3 W9.heap.size) := hidTo_ext (by rw [hsz9]; exact HG9.out.size)
      have hLb := hL.mapTurn HG9.out hlow HNC.out
      clear hL hup hlk
      have hL := Loc.start hLb.vw
      refine wp_region_lit ?_
      go_wp2_with (first | go_skip | refine tP ?_ | (refine tS ?_; clear hL; intro _ hL) | (refine tB ?_; clear hL; intro _ _ hL _) | (refine tC ?_; clear hL; intro _ _ hL _ hBs))
      refine goA ?_
      obtain ⟨vs7, r7, z7, y7, l7⟩ := ROW3.out
      have hs9 := hL.ext.still
      have hm9 := hL.mext
      have hLj := hLb.join hL
      simp only [List.nil_append] at hLj
      refine wl_appendS (A := [_]) hLj r7 (wanted_none rfl) rfl ap_Grps (by omega) rfl rfl (news := [.int .u32 (mk : Int), .bool false, .slice none 0 0, .bool false, .slice none 0 0, .int .i64 0]) rfl ((Blk.sl hBs (n := 6) rfl).le hL.vw.le) rfl (by omega) (by omega) ?_
      clear hL hLj hLb hBs
      intro v1 W5 m5 R5 hL r8 e8 hst
      obtain ⟨A9, c9, rfl, -⟩ := r8.lit
      simp only [List.cons_append, List.nil_append] at hL
      have hle5 : Le m3 m5 := Le.trans hxh.le (Le.trans hm9.le e8.le)
      have rd : RowA 171 6 GrpO m5 (.slice A9 (n + 1) c9) (n + 1) (ls.map Sum.inl ++ [.inr mk]) R5 := RowA.snoc (R := GrpO) (m := m5) (x := .inr mk) r8 z7 (all2_toO (y7.mono fun v x hv => GrpR.mono _ _ _ _ hv hle5)) l7 rfl rfl
      have HI5 := Lib.hid (HB9.out.still (hs9.trans hst))
      have hX5 : Ext m3 m5 := hxh.trans (hm9.trans e8)
      clear r8 r7 z7 y7 l7 hs9 hst hm9 e8 hle5 hxh hsz9
      obtain ⟨g, cap, cur, e1, e2, hcap, hcsz⟩ := rd.block (by omega)
      simp only [Value.slice.injEq, true_and] at e1
      obtain ⟨rfl, rfl⟩ := e1
      subst e2
      have RD := Lib.hid rd
      clear rd
      obtain ⟨u, hu, -, hr6⟩ := RD.out.at_ (k := n) (x := .inr mk) (by rw [HLN2.out, List.getElem?_append_right (by simp)]; simp)
      have hu' : u = .agg #[.int .u32 (mk : Int), .bool false, .slice none 0 0, .bool false, .slice none 0 0, .int .i64 0] := hu
      subst hu'
      have hr4 : ∀ i, i < 4 → cur[n * 6 + 1 + i]? = [.bool false, .slice none 0 0, .bool false, .slice none 0 0][i]? := fun i hi => by
       have h1 := hr6 (i + 1) (by omega)
       rw [show n * 6 + 1 + i = 0 + n * 6 + (i + 1) by omega, h1]
       match i, hi with
       | 0, _ => rfl
       | 1, _ => rfl
       | 2, _ => rfl
       | 3, _ => rfl
      have hfit : n * 6 + 1 + 4 ≤ cur.size := by
       have h1 : (n + 1) * 6 ≤ c9 * 6 := Nat.mul_le_mul_right _ hcap
       omega
      have HR6 := Lib.hid hr6
      have SZ : Hid (Sm ((0 : Int) : Rat).num ((0 : Int) : Rat).den) := (Tw.int (K := 0) (k := 0) (by decide)).sm (by decide)
      have hMM := hL.mext
      have hnn1 : n < n + 1 := by omega
      clear hr6 hu hcap hcsz
      simp only [Act.put, zq1, zq2, zq3]
      go_upto_region 18 with ((first | go_skip | refine tP ?_ | (refine tS ?_; clear hL; intro _ hL) | (refine tB ?_; clear hL; intro _ _ hL _) | (refine tC ?_; clear hL; intro _ _ hL _ hBs)))
      (try simp only [eq_self] at *)
      refine wp_region_by2 12 [false, false, false, false, false, false, false, false, false, false, false, false] [false, false, false, false, false, false, false, false, false, false, false, false] [(fun v _ _ => v = ?c18_0n), (fun v _ _ => v = ?c18_1n), (fun v _ _ => v = ?c18_2n), (fun v _ _ => v = ?c18_3n), (fun v _ _ => v = ?c18_4n), (fun v _ _ => v = ?c18_5n), (fun v _ _ => v = ?c18_6n), (fun v _ _ => v = ?c18_7n), (fun v _ _ => v = ?c18_8n), (fun v _ _ => v = ?c18_9n), (fun v _ _ => v = ?c18_10n), Of (fun um v => FracC um v (((0 : Int) : Rat) + q))] hL.vw mixed [63, 64, 65, 66, 67, 68, 69, 70, 71, 72, 73, 74] _ (by kernel_rfl) (fun vs => by simp only [lay, Act.put, zq1, zq2, zq3]; rfl) (by kernel_rfl) (by decide) (by decide) ?s18n ?l18n ?r18n
      case s18n =>
       refine ⟨?_, ?_, ?_, ?_, ?_, ?_, ?_, ?_, ?_, ?_, ?_, ?_, trivial⟩
       ·intro vs W1 m1 hE hM hV hD; clear hD
        exact sPw
       ·intro vs W1 m1 hE hM hV hD; clear hD
        exact sPw
       ·intro vs W1 m1 hE hM hV hD; clear hD
        exact sPw
       ·intro vs W1 m1 hE hM hV hD; clear hD
        exact sPw
       ·intro vs W1 m1 hE hM hV hD; obtain ⟨⟨_, _, -, -, f65⟩, ⟨_, _, -, -, f66⟩, -⟩ := hD
        rw [(f65 : vs 65 = _), (f66 : vs 66 = _)]; clear f65 f66; exact sIy
       ·intro vs W1 m1 hE hM hV hD; obtain ⟨⟨_, _, -, -, f67⟩, -⟩ := hD
        rw [(f67 : vs 67 = _)]; clear f67; exact sFe
       ·intro vs W1 m1 hE hM hV hD; obtain ⟨⟨_, _, -, -, f68⟩, -⟩ := hD
        rw [(f68 : vs 68 = _)]; clear f68; exact sLe
       ·intro vs W1 m1 hE hM hV hD; clear hD
        exact sPw
       ·intro vs W1 m1 hE hM hV hD; clear hD
        exact sPw
       ·intro vs W1 m1 hE hM hV hD; obtain ⟨⟨_, _, -, -, f70⟩, ⟨_, _, -, -, f71⟩, -⟩ := hD
        rw [(f70 : vs 70 = _), (f71 : vs 71 = _)]; clear f70 f71; exact sIy
       ·intro vs W1 m1 hE hM hV hD; obtain ⟨⟨_, _, -, -, f72⟩, -⟩ := hD
        rw [(f72 : vs 72 = _)]; clear f72; exact sLe
       ·intro vs W1 m1 hE hM hV hD; obtain ⟨⟨_, _, -, -, f69⟩, ⟨_, _, -, -, f73⟩, -⟩ := hD
        rw [(f69 : vs 69 = _), (f73 : vs 73 = _)]
        clear f69 f73
        go_wp2_with fail
        refine (q_AddSum _ _ _ _ _ _ hV (.inr ⟨rfl, rfl⟩) (HP2.out.le leX) SZ.out SQ.out).mono ?_
        rintro e W2 ⟨v, m2, rfl, hE2, hM2, hV2, h⟩
        go_wp2_with fail
        refine One2.call hE2 hM2 hV2 ?_; first | exact h | exact rfl
      case l18n =>
       refine ⟨nF, nF, nF, nF, nF, nF, nF, nF, nF, nF, nF, nF, trivial⟩
      intro vs W1 m1 hE hM hV hF hD
      clear hD
      obtain ⟨⟨_, _, -, -, f63⟩, ⟨_, _, -, -, f64⟩, -, -, -, -, -, -, -, -, -, ⟨_, _, -, i74, f74⟩, -⟩ := hF
      replace hL := hL.call hE hM hV
      have f63 : vs 63 = _ := f63
      generalize vs 63 = x63 at f63 ⊢
      subst x63
      have f64 : vs 64 = _ := f64
      generalize vs 64 = x64 at f64 ⊢
      subst x64
      replace f74 : FracC _ (vs 74) (((0 : Int) : Rat) + q) := f74
      replace f74 := f74.le i74.le
      clear i74
      obtain ⟨g74, A74, n74, c74, h74, B74, k74, d74, e74, f74⟩ := f74.lit
      generalize vs 74 = x74 at e74 ⊢
      subst x74
      have HEX := Lib.hid hE
      clear hE hV
      simp only [List.drop_succ_cons, List.drop_zero]
      go_wp2_with (first | (with_reducible refine stS ?_) | (first | go_skip | refine tP ?_ | (refine tS ?_; clear hL; intro _ hL) | (refine tB ?_; clear hL; intro _ _ hL _) | (refine tC ?_; clear hL; intro _ _ hL _ hBs)))
      refine goA ?_
      refine wl_storeS hL (wanted_none rfl) rfl rfl rfl ag_Frac rfl (n := 1) rfl (by omega) rfl ?_
      clear hL
      intro W9 hL hst
      simp only [List.set_cons_succ, List.set_cons_zero] at hL
      have HP : Hid (RowA 171 6 GrpR m1 (.slice (some ⟨g, 0, none⟩) (n + 1) c9) (n + 1) (ls ++ [(mk, ((0 : Int) : Rat) + q, 0)]) [(g, 171, splice cur (n * 6 + 1) [.bool g74, .slice A74 n74 c74, .bool h74, .slice B74 k74 d74])]) := by
       refine RowA.ofO ?_
       rw [← set_last HLN2.out mk]
       refine RowA.put (k := n) (o := 1) (x := .inl (mk, ((0 : Int) : Rat) + q, 0)) (ws := [.bool g74, .slice A74 n74 c74, .bool h74, .slice B74 k74 d74]) (cs := [.int .u32 (mk : Int), .bool g74, .slice A74 n74 c74, .bool h74, .slice B74 k74 d74, .int .i64 0]) (RowA.le GrpO.mono RD.out leX) (by rw [← RD.out.len]; omega) (by simp) rfl (fun i hi => ?_) ⟨_, _, _, _, _, _, _, _, rfl, f74⟩
       match i, hi with
       | 0, _ => exact (HR6.out 0 (by omega)).symm
       | 1, _ => rfl
       | 2, _ => rfl
       | 3, _ => rfl
       | 4, _ => rfl
       | 5, _ => exact (HR6.out 5 (by omega)).symm
      have HI9 := Lib.hid (HI5.out.still (HEX.out.still.trans hst))
      clear hst
      simp only [Act.put, zq1, zq2, zq3]
      go_wp2_with (first | go_skip | refine tP ?_ | (refine tS ?_; clear hL; intro _ hL) | (refine tB ?_; clear hL; intro _ _ hL _) | (refine tC ?_; clear hL; intro _ _ hL _ hBs))
      refine QN.mk ?_
      go_wp2_with (first | go_skip | refine tP ?_ | (refine tS ?_; clear hL; intro _ hL) | (refine tB ?_; clear hL; intro _ _ hL _) | (refine tC ?_; clear hL; intro _ _ hL _ hBs))
      go_roundw
      case rel => exact ⟨k + 1, _, n + 1, _, by omega, by go_num, hL.tail, hX.trans (hM3.trans (hX5.trans exX)), by rw [HST.out, HNEW.out]; exact HP.out, by rw [HST.out, HNEW.out, List.map_append]; exact HI9.out⟩
      case measure => simp [intOf] <;> omega
  ·have hkn : k = nc := by omega
   subst hkn
   have h9 : (k : Int) ≤ (k : Int) := Int.le_refl _
   have hl6 : n ≤ 6 := by
    have h1 := ROW.out.len
    have h2 := grpT_len rws cols us k
    omega
   have HFI : Hid (∀ x ∈ grpT rws cols us k, Fit 200 x.2.1) := by
    show ∀ x ∈ _, _
    exact fun x hx => ((grpT_tw rws HT.out k x hx).mono (by omega : 18 * k ≤ 108)).fit (by decide)
   clear hL
   have hL := hL0
   clear hL0
   generalize grpT rws cols us k = ls at *
   obtain ⟨vs, ⟨h0, h1⟩, h2, h3, h4⟩ := ROW.out
   rcases h1 with ⟨hv, hn0, hR⟩ | ⟨g, cap, cur, hv, hR, -, -, -, -⟩
   ·simp only [Value.slice.injEq] at hv
    obtain ⟨rfl, -, rfl⟩ := hv
    subst hn0 hR
    have hls : Hid (ls = []) := by
     show _ = _
     have h5 := ROW.out.len
     exact List.length_eq_zero_iff.1 h5.symm
    clear h0 h2 h3 h4
    go_wp2_with (first | go_skip | refine tP ?_ | (refine tS ?_; clear hL; intro _ hL) | (refine tB ?_; clear hL; intro _ _ hL _) | (refine tC ?_; clear hL; intro _ _ hL _ hBs))
    refine (s_DeleteGrp0 _ _ hL.vw).mono ?_
    rintro e Wd1 ⟨_, md1, rfl, hE, hMd1, hV, rfl⟩
    replace hL := hL.call hE (by assumption) hV; clear hE hV
    go_wp2_with (first | go_skip | refine tP ?_ | (refine tS ?_; clear hL; intro _ hL) | (refine tB ?_; clear hL; intro _ _ hL _) | (refine tC ?_; clear hL; intro _ _ hL _ hBs))
    go_ret
    exact ⟨_, _, [], 0, rfl, hL, by rw [hls.out]; exact RowA.nil⟩
   ·simp only [Value.slice.injEq, true_and] at hv
    obtain ⟨rfl, rfl⟩ := hv
    subst hR
    clear h0 h2 h3 h4
    go_wp2_with (first | go_skip | refine tP ?_ | (refine tS ?_; clear hL; intro _ hL) | (refine tB ?_; clear hL; intro _ _ hL _) | (refine tC ?_; clear hL; intro _ _ hL _ hBs))
    refine (s_DeleteGrp (A := []) hL ROW.out (by omega) HFI.out).mono ?_
    rintro e W9 ⟨m9, n9, cur9, rfl, hL9, hX9, row9⟩
    clear hL
    have hL := hL9
    have ROW9 := Lib.hid row9
    clear hL9 row9
    go_wp2_with (first | go_skip | refine tP ?_ | (refine tS ?_; clear hL; intro _ hL) | (refine tB ?_; clear hL; intro _ _ hL _) | (refine tC ?_; clear hL; intro _ _ hL _ hBs))
    go_ret
    exact ⟨_, m9, _, n9, rfl, hL, ROW9.out⟩
end Go.Proofs.YtmhkmmmompediaaGreat

/- cuts.scale: the common denominator of the groups, and every value times it. -/
namespace Go.Proofs.YtmhkmmmompediaaGreat
open Go.RowKit

def cmT (ls : List Grp) (k : Nat) : Nat := (ls.take k).foldl (fun c x => Nat.lcm c x.2.1.den) 1
def cmF (ls : List Grp) : Nat := cmT ls ls.length
def scF (c : Nat) (x : Grp) : Grp := (x.1, x.2.1, flr (x.2.1 * ((c : Int) : Rat)))
def scT (c : Nat) (ls : List Grp) (k : Nat) : List Grp := (ls.take k).map (scF c) ++ ls.drop k
theorem cmT_step {ls : List Grp} {k : Nat} {x : Grp} (h : ls[k]? = some x) : cmT ls (k + 1) = Nat.lcm (cmT ls k) x.2.1.den := by
 unfold cmT; rw [← take_snoc h, List.foldl_append]; rfl
theorem lcm_quo (a b : Nat) : a * (b / Nat.gcd a b) = Nat.lcm a b := by
 unfold Nat.lcm; rw [Nat.mul_div_assoc _ (Nat.gcd_dvd_right a b)]
theorem Tw.den {B : Nat} {q : Rat} (h : Tw B q) : q.den ∣ 12 := by
 obtain ⟨z, rfl, -⟩ := h
 have h1 : ((Rat.divInt z 12).den : Int) ∣ 12 := by
  rw [(frac_pos (x := z) (y := 12) (by decide)).2]
  exact Int.ediv_dvd_of_dvd (Int.gcd_dvd_right _ _)
 exact Int.natCast_dvd_natCast.1 h1
theorem cmT_dvd {ls : List Grp} (h : ∀ x ∈ ls, x.2.1.den ∣ 12) : ∀ k, cmT ls k ∣ 12 := by
 intro k
 induction k with
 | zero => exact Nat.one_dvd _
 | succ k ih =>
  cases hk : ls[k]? with
  | none => rw [show cmT ls (k + 1) = cmT ls k by unfold cmT; rw [List.take_of_length_le (by have := List.getElem?_eq_none_iff.1 hk; omega), List.take_of_length_le (List.getElem?_eq_none_iff.1 hk)]]; exact ih
  | some x => rw [cmT_step hk]; exact Nat.lcm_dvd ih (h x (List.mem_of_getElem? hk))
theorem cmT_le {ls : List Grp} (h : ∀ x ∈ ls, x.2.1.den ∣ 12) (k : Nat) : 1 ≤ cmT ls k ∧ cmT ls k ≤ 12 := by
 have h1 := cmT_dvd h k
 exact ⟨Nat.pos_of_dvd_of_pos h1 (by decide), Nat.le_of_dvd (by decide) h1⟩
theorem cmT_den {ls : List Grp} : ∀ k, ∀ x ∈ ls.take k, x.2.1.den ∣ cmT ls k := by
 intro k
 induction k with
 | zero => intro x hx; simp at hx
 | succ k ih =>
  intro x hx
  cases hk : ls[k]? with
  | none =>
   have h1 := List.getElem?_eq_none_iff.1 hk
   rw [List.take_of_length_le (by omega)] at hx
   rw [show cmT ls (k + 1) = cmT ls k by unfold cmT; rw [List.take_of_length_le (by omega), List.take_of_length_le h1]]
   exact ih x (by rw [List.take_of_length_le h1]; exact hx)
  | some y =>
   rw [cmT_step hk]
   rw [← take_snoc hk, List.mem_append] at hx
   rcases hx with hx | hx
   ·exact Nat.dvd_trans (ih x hx) (Nat.dvd_lcm_left _ _)
   ·rw [List.mem_singleton] at hx; subst hx; exact Nat.dvd_lcm_right _ _
theorem cmF_den {ls : List Grp} {x : Grp} (h : x ∈ ls) : x.2.1.den ∣ cmF ls := cmT_den ls.length x (by rw [List.take_length]; exact h)
theorem scT_zero (c : Nat) (ls : List Grp) : scT c ls 0 = ls := by simp [scT]
theorem scT_all (c : Nat) (ls : List Grp) : scT c ls ls.length = ls.map (scF c) := by simp [scT]
theorem scT_at {c : Nat} {ls : List Grp} {k : Nat} {x : Grp} (h : ls[k]? = some x) : (scT c ls k)[k]? = some x := by
 have hk := (List.getElem?_eq_some_iff.1 h).1
 have h1 : ((ls.take k).map (scF c)).length = k := by simp; omega
 unfold scT
 rw [List.getElem?_append_right (by omega), h1, Nat.sub_self, List.getElem?_drop, Nat.add_zero, h]
theorem scT_step {c : Nat} {ls : List Grp} {k : Nat} {x : Grp} (h : ls[k]? = some x) : (scT c ls k).set k (scF c x) = scT c ls (k + 1) := by
 have hk := (List.getElem?_eq_some_iff.1 h)
 obtain ⟨hk, hx⟩ := hk
 have h1 : ((ls.take k).map (scF c)).length = k := by simp; omega
 unfold scT
 rw [List.set_append_right _ _ (by omega), h1, Nat.sub_self, ← take_snoc h, List.map_append, List.append_assoc, List.drop_eq_getElem_cons hk, hx]
 rfl
theorem IntC.tv {m : World} {v : Value} {z : Int} (h : IntC m v z) (hz : z.natAbs < 18446744073709551616) : IntV m v z := h.toV (Nat.le_trans (len2 hz) (by omega))

theorem u_scale {w0 m0 W m : World} {A Rr : List Lo} {n : Nat} {v : Value} {ls : List Grp} (hL : Loc w0 m0 W m (Rr ++ A)) (row : RowA 171 6 GrpR m v n ls Rr) (hn : n ≤ 100) (ht : ∀ x ∈ ls, Tw 108 x.2.1) :
  Calls Tryz.prog 100 #[v] W (fun e W' => ∃ (m' : World) (Rr' : List Lo), e = .returned (.tuple #[.int .i64 (cmF ls : Nat), .bool true]) ∧ Loc w0 m0 W' m' (Rr' ++ A) ∧ Ext m m' ∧ RowA 171 6 GrpR m' v n (ls.map (scF (cmF ls))) Rr') := by
 obtain ⟨A3, c3, rfl, row1⟩ := row.lit
 have hlen := row1.len
 have HN : Hid (ls.length = n) := hlen.symm
 have ROW := Lib.hid row1
 have HT := Lib.hid ht
 have HDN : Hid (∀ x ∈ ls, x.2.1.den ∣ 12) := by
  show ∀ x ∈ ls, _
  exact fun x hx => (ht x hx).den
 have HCL : Hid (∀ k, 1 ≤ cmT ls k ∧ cmT ls k ≤ 12) := by
  show ∀ k, _
  exact cmT_le HDN.out
 have hX0 : Ext m m := Ext.refl _
 clear row row1 ht hlen
 go_enter Tryz.func100, Tryz.ntmps100
 go_wp2_with (first | go_skip | refine tP ?_ | (refine tS ?_; clear hL; intro _ hL) | (refine tB ?_; clear hL; intro _ _ hL _))
 refine (i_FromInt64 1 _ _ hL.vw (by decide) (by decide)).mono ?_
 rintro e W19 ⟨v19, m19, rfl, hE, hM19, hV, h19⟩
 replace hL := hL.call hE (by assumption) hV; clear hE hV
 obtain ⟨g19', A19', n19', c19', rfl, h19⟩ := h19.lit
 go_wp2_with (first | go_skip | refine tP ?_ | (refine tS ?_; clear hL; intro _ hL) | (refine tB ?_; clear hL; intro _ _ hL _))
 go_loopw [22] (fun i wr => ∃ (k : Nat) (mm : World) (g4 : Bool) (A4 : Option Addr) (n4 c4 : Nat), k ≤ n ∧ i = .int .i64 k ∧ Loc w0 m0 wr mm ((W19.heap.size, 37, #[.bool g4, .slice A4 n4 c4]) :: (Rr ++ A)) ∧ Ext m mm ∧ Hid (IntC mm (.agg #[.bool g4, .slice A4 n4 c4]) (cmT ls k : Nat))) (fun i _ => n - (intOf i).toNat)
 case atStart => exact ⟨0, _, _, _, _, _, Nat.zero_le _, rfl, hL, exX, h19.le leX⟩
 case round =>
  clear hL hX0
  obtain ⟨k, mm, g4, A4, n4, c4, hk, rfl, hL, hX, HC⟩ := hrel
  by_cases hlt : k < n
  ·have hlt' : (k : Int) < (n : Int) := by omega
   obtain ⟨⟨xm, xq, xsc⟩, hx⟩ := at_some HN hlt
   obtain ⟨g, cap, cur, e1, e2, hcap, hcsz⟩ := ROW.out.block (by omega)
   simp only [Value.slice.injEq, true_and] at e1
   obtain ⟨rfl, rfl⟩ := e1
   subst e2
   simp only [List.cons_append, List.nil_append] at hL
   obtain ⟨gv, A1, n1, c1, f1, B1, p1, q1, hq1, hr1⟩ := grp_at ROW.out hx
   simp only at hq1 hr1
   have HQD := Lib.hid hq1.open_.2
   have HST := Lib.hid (cmT_step hx)
   simp only at HST
   have h12 : xq.den ≤ 12 := Nat.le_of_dvd (by decide) (HDN.out _ (List.mem_of_getElem? hx))
   obtain ⟨hc1, hc2⟩ := HCL.out k
   have hgp : 0 < Nat.gcd (cmT ls k) xq.den := Nat.gcd_pos_of_pos_left _ (by omega)
   have hgl : Nat.gcd (cmT ls k) xq.den ≤ 12 := Nat.le_trans (Nat.le_of_dvd (by omega) (Nat.gcd_dvd_left _ _)) hc2
   have hq12 : xq.den / Nat.gcd (cmT ls k) xq.den ≤ 12 := Nat.le_trans (Nat.div_le_self _ _) h12
   have HLQ := Lib.hid (lcm_quo (cmT ls k) xq.den)
   have KG : Hid (∀ a b w m', Vw m' w → IntC m' a (cmT ls k : Nat) → IntC m' b (xq.den : Nat) → Calls Tryz.prog 158 #[a, b] w (RetV w m' fun m' r => IntC m' r (Nat.gcd (cmT ls k) xq.den : Nat))) := by
    show ∀ a b w m', _
    exact fun a b w m' hV ha hb => i_GCD a b (cmT ls k : Nat) (xq.den : Nat) w m' hV (ha.tv (by omega)) (hb.tv (by omega)) (by omega) (by omega)
   have KD : Hid (∀ a b w m', Vw m' w → IntC m' a (xq.den : Nat) → IntC m' b (Nat.gcd (cmT ls k) xq.den : Nat) → Calls Tryz.prog 146 #[a, b] w (RetV w m' fun m' v => DMr m' v (xq.den : Nat) (Nat.gcd (cmT ls k) xq.den : Nat))) := by
    show ∀ a b w m', _
    exact fun a b w m' hV ha hb => i_DivModA a b (xq.den : Nat) (Nat.gcd (cmT ls k) xq.den : Nat) w m' hV (ha.tv (by omega)) (hb.tv (by omega)) (by omega) (by omega) (by omega)
   have KM : Hid (∀ a b w m', Vw m' w → IntC m' a (cmT ls k : Nat) → IntC m' b (xq.den / Nat.gcd (cmT ls k) xq.den : Nat) → Calls Tryz.prog 139 #[a, b] w (RetV w m' fun m' r => IntC m' r (cmT ls (k + 1) : Nat))) := by
    show ∀ a b w m', _
    intro a b w m' hV ha hb
    have h9 := HLQ.out
    rw [← HST.out] at h9
    generalize xq.den / Nat.gcd (cmT ls k) xq.den = qq at *
    have h1 := i_Mul a b (cmT ls k : Nat) (qq : Nat) w m' hV (ha.tv (by omega)) (hb.tv (by omega)) (by omega) (by omega)
    rwa [← Int.natCast_mul, h9] at h1
   clear hx hq1 h12 hc1 hc2 hgp hgl hq12 HLQ HST hcap hcsz
   generalize hce : cmT ls (k + 1) = cn at *
   have HCN := Lib.hid hce
   clear hce
   generalize hgg : Nat.gcd (cmT ls k) xq.den = gg at *
   clear hgg
   generalize cmT ls k = cc at *
   generalize xq.den = dd at *
   go_wp2_with (first | go_skip | refine tP ?_ | (refine tS ?_; clear hL; intro _ hL) | (refine tB ?_; clear hL; intro _ _ hL _))
   refine (KG.out _ _ _ _ hL.vw (HC.out.le leX) (HQD.out.le leX)).mono ?_
   rintro e W30 ⟨v30, m30, rfl, hE, hM30, hV, h30⟩
   replace hL := hL.call hE (by assumption) hV; clear hE hV
   obtain ⟨g30', A30', n30', c30', rfl, h30⟩ := h30.lit
   go_wp2_with (first | go_skip | refine tP ?_ | (refine tS ?_; clear hL; intro _ hL) | (refine tB ?_; clear hL; intro _ _ hL _))
   refine (KD.out _ _ _ _ hL.vw (HQD.out.le leX) (h30.le leX)).mono ?_
   rintro e W6 ⟨_, m6, rfl, hE, hM6, hV, q6, r6, rfl, h6, k6⟩
   replace hL := hL.call hE (by assumption) hV; clear hE hV
   obtain ⟨g6, A6, n6, c6, rfl, h6⟩ := h6.lit
   obtain ⟨g7, A7, n7, c7, rfl, k6⟩ := k6.lit
   have H6 := Lib.hid h6
   clear h6 k6
   go_wp2_with (first | go_skip | refine tP ?_ | (refine tS ?_; clear hL; intro _ hL) | (refine tB ?_; clear hL; intro _ _ hL _))
   refine (KM.out _ _ _ _ hL.vw (HC.out.le leX) (H6.out.le leX)).mono ?_
   rintro e W42 ⟨v42, m42, rfl, hE, hM42, hV, h42⟩
   replace hL := hL.call hE (by assumption) hV; clear hE hV
   obtain ⟨g42', A42', n42', c42', rfl, h42⟩ := h42.lit
   go_wp2_with (first | go_skip | refine tP ?_ | (refine tS ?_; clear hL; intro _ hL) | (refine tB ?_; clear hL; intro _ _ hL _))
   go_roundw
   case rel => exact ⟨k + 1, _, _, _, _, _, by omega, by go_num, hL.tail.tail.tail.tail, exX, by rw [HCN.out]; exact h42.le leX⟩
   case measure => simp [intOf] <;> omega
  ·have hkn : k = n := by omega
   have HCF : Hid (IntC mm (.agg #[.bool g4, .slice A4 n4 c4]) (cmF ls : Nat)) := by
    show IntC _ _ _
    unfold cmF
    rw [HN.out, ← hkn]; exact HC.out
   subst hkn
   have h9 : (k : Int) ≤ (k : Int) := Int.le_refl _
   obtain ⟨hcm1, hcm2⟩ : 1 ≤ cmF ls ∧ cmF ls ≤ 12 := HCL.out _
   have HDF : Hid (∀ x ∈ ls, x.2.1.den ∣ cmF ls) := by
    show ∀ x ∈ ls, _
    exact fun x hx => cmF_den hx
   clear HC HCL HDN
   generalize hce : cmF ls = cm at *
   have HCE := Lib.hid hce
   clear hce
   have KM : Hid (∀ a b w m', Vw m' w → IntC m' a (cm : Nat) → IntC m' b 5 → Calls Tryz.prog 139 #[a, b] w (RetV w m' fun m' r => IntC m' r ((cm : Nat) * 5))) := by
    show ∀ a b w m', _
    exact fun a b w m' hV ha hb => i_Mul a b (cm : Nat) 5 w m' hV (ha.tv (by omega)) (hb.tv (by omega)) (by omega) (by omega)
   go_upto_region 9 with ((first | go_skip | refine tP ?_ | (refine tS ?_; clear hL; intro _ hL) | (refine tB ?_; clear hL; intro _ _ hL _)))
   (try simp only [eq_self] at *)
   obtain ⟨B, hB1, hB2, hB3⟩ := hL.bound
   refine wp_region_by2 4 [false, false, false, true] [false, false, false, false] [(fun v _ _ => v = ?c9_0), Of (fun um v => IntC um v 5), Of (fun um v => IntC um v ((cm : Nat) * 5)), NewBlk B 37 #[.bool false, .slice none 0 0]] hL.vw mixed [44, 45, 46, 11] _ (by kernel_rfl) (fun vs => by simp only [lay, Act.put, zq1, zq2, zq3]; rfl) (by kernel_rfl) (by decide) (by decide) ?s9 ?l9 ?r9
   case s9 =>
    refine ⟨?_, ?_, ?_, ?_, trivial⟩
    ·intro vs W1 m1 hE hM hV hD; clear hD
     exact sLe
    ·intro vs W1 m1 hE hM hV hD; clear hD
     go_wp2_with fail
     refine (i_FromInt64 5 _ _ hV (by decide) (by decide)).mono ?_
     rintro e W2 ⟨v, m2, rfl, hE2, hM2, hV2, h⟩
     go_wp2_with fail
     refine One2.call hE2 hM2 hV2 ?_; first | exact h | exact rfl
    ·intro vs W1 m1 hE hM hV hD; obtain ⟨⟨_, _, -, -, f44⟩, ⟨_, _, -, i45, f45⟩, -, -⟩ := hD
     rw [(f44 : vs 44 = _)]
     clear f44
     have f45 : IntC _ (vs 45) 5 := f45
     replace f45 := f45.le i45.le
     clear i45
     go_wp2_with fail
     refine (KM.out _ _ _ _ hV (HCF.out.le leX) f45).mono ?_
     rintro e W2 ⟨v, m2, rfl, hE2, hM2, hV2, h⟩
     go_wp2_with fail
     refine One2.call hE2 hM2 hV2 ?_; first | exact h | exact rfl
    ·intro vs W1 m1 hE hM hV hD; clear hD
     exact one2_alloc hV (Nat.le_trans hB3 hE.size) rfl rfl rfl ZcC.h
   case l9 =>
    refine ⟨nF, nF, nF, nF, trivial⟩
   intro vs W1 m1 hE hM hV hF hD
   obtain ⟨-, ⟨_, _, -, i45, f45⟩, ⟨_, _, -, i46, f46⟩, ⟨_, _, j11, i11, f11⟩, -⟩ := hF
   replace hL := hL.call hE hM hV
   replace f45 : IntC _ (vs 45) 5 := f45
   replace f45 := f45.le i45.le
   clear i45
   replace f46 : IntC _ (vs 46) ((cm : Nat) * 5) := f46
   replace f46 := f46.le i46.le
   clear i46
   obtain ⟨g46, A46, n46, c46, e46, f46⟩ := f46.lit
   generalize vs 46 = x46 at e46 ⊢
   subst x46
   obtain ⟨b11, e11, hL⟩ := Loc.addB (Lt := []) hB1 hB2 hL f11 j11 i11 ad0
   simp only [e11, List.cons_append, List.nil_append] at hL ⊢
   clear e11 f11 j11 i11
   clear hB1 hB2 hB3 hD
   clear hE hV
   simp only [List.drop_succ_cons, List.drop_zero]
   go_wp2_with (first | go_skip | refine tP ?_ | (refine tS ?_; clear hL; intro _ hL) | (refine tB ?_; clear hL; intro _ _ hL _))
   refine QN.mk ?_
   go_wp2_with (first | go_skip | refine tP ?_ | (refine tS ?_; clear hL; intro _ hL) | (refine tB ?_; clear hL; intro _ _ hL _))
   go_loopw [49] (fun i wr => ∃ (j : Nat) (mm2 : World) (z : Int) (gs : Bool) (As : Option Addr) (ns cs : Nat) (R2 : List Lo), j ≤ k ∧ i = .int .i64 j ∧ Loc w0 m0 wr mm2 ((b11, 37, #[.bool gs, .slice As ns cs]) :: (W19.heap.size, 37, #[.bool g4, .slice A4 n4 c4]) :: (R2 ++ A)) ∧ Ext m1 mm2 ∧ Hid (RowA 171 6 GrpR mm2 (.slice A3 k c3) k (scT cm ls j) R2) ∧ Hid (IntC mm2 (.agg #[.bool gs, .slice As ns cs]) z) ∧ Hid (0 ≤ z ∧ z ≤ 60 + 6480 * j)) (fun i _ => k - (intOf i).toNat)
   case atStart => exact ⟨0, _, _, _, _, _, _, _, Nat.zero_le _, rfl, hL, exX, by rw [scT_zero]; exact RowA.le GrpR.mono ROW.out leX, f46.le leX, ⟨by omega, by omega⟩⟩
   case round =>
    clear hL KM f46
    obtain ⟨j, mm2, z, gs, As, ns, cs, R2, hj, rfl, hL, hX2, ROW2, HS, HZ⟩ := hrel
    by_cases hlt2 : j < k
    ·have hlt2' : (j : Int) < (k : Int) := by omega
     obtain ⟨x, hx⟩ := at_some HN hlt2
     obtain ⟨g, cap, cur, e1, e2, hcap, hcsz⟩ := ROW2.out.block (by omega)
     simp only [Value.slice.injEq, true_and] at e1
     obtain ⟨rfl, rfl⟩ := e1
     subst e2
     simp only [List.cons_append, List.nil_append] at hL
     obtain ⟨gv, A1, n1, c1, f1, B1, p1, q1, hq1, hr1⟩ := grp_at ROW2.out (scT_at hx)
     have HST := Lib.hid (scT_step (c := cm) hx)
     have hTX := HT.out x (List.mem_of_getElem? hx)
     obtain ⟨xm, xq, xsc⟩ := x
     simp only at hq1 hr1 hTX
     have hTC : Tw (108 * 12) (xq * (((cm : Nat) : Int) : Rat)) := hTX.mulI (by omega)
     have SX : Hid (Sm xq.num xq.den) := hTX.sm (by decide)
     have SC : Hid (Sm (((cm : Nat) : Int) : Rat).num (((cm : Nat) : Int) : Rat).den) := (Tw.int (K := 12) (k := ((cm : Nat) : Int)) (by omega)).sm (by decide)
     have hfn : (flr (xq * (((cm : Nat) : Int) : Rat))).natAbs ≤ 1296 := Nat.le_trans (flr_le _) hTC.num_le
     have HFB : Hid ((xq * (((cm : Nat) : Int) : Rat)).num.natAbs < 18446744073709551616) := by
      show _ < _
      have := hTC.num_le
      omega
     have HFD : Hid ((xq * (((cm : Nat) : Int) : Rat)).den < 18446744073709551616) := by
      show _ < _
      have := Nat.le_of_dvd (by decide) hTC.den
      omega
     have HCMB : Hid (((cm : Nat) : Int).natAbs < 18446744073709551616) := by
      show _ < _
      omega
     have HQ1 := Lib.hid hq1
     have hfit : j * 6 + 5 + 1 ≤ cur.size := by
      have h1 : (j + 1) * 6 ≤ c3 * 6 := Nat.mul_le_mul_right _ (by omega)
      omega
     unfold scF at HST
     simp only at HST
     have KQ : Hid (∀ a b w m', Vw m' w → FracC m' a xq → FracC m' b (((cm : Nat) : Int) : Rat) → Calls Tryz.prog 74 #[a, b] w (RetV w m' fun m' r => FracC m' r (xq * (((cm : Nat) : Int) : Rat)))) := by
      show ∀ a b w m', _
      exact fun a b w m' hV ha hb => q_MulC a b _ _ w m' hV ha hb SX.out SC.out
     have KF : Hid (∀ a w m', Vw m' w → FracC m' a (xq * (((cm : Nat) : Int) : Rat)) → Calls Tryz.prog 117 #[a] w (RetV w m' fun m' r => IntC m' r (flr (xq * (((cm : Nat) : Int) : Rat))))) := by
      show ∀ a w m', _
      exact fun a w m' hV ha => q_Floor a _ w m' hV ha HFB.out HFD.out
     generalize flr (xq * (((cm : Nat) : Int) : Rat)) = fz at *
     generalize xq * (((cm : Nat) : Int) : Rat) = xc at *
     have HZ1 := HZ.out
     have hzb : z.natAbs < 18446744073709551616 := by omega
     have hza : (z + (fz.natAbs : Int) * 5).natAbs < 18446744073709551616 := by omega
     have KT : Hid (∀ a w m', Vw m' w → IntC m' a fz → Calls Tryz.prog 87 #[a] w (RetV w m' fun _ r => r = .tuple #[.int .i64 fz, .int .i64 0])) := by
      show ∀ a w m', _
      exact fun a w m' hV ha => i_ToInt64 a fz w m' hV (ha.tv (by omega)) (by omega)
     have KA : Hid (∀ a w m', Vw m' w → IntC m' a fz → Calls Tryz.prog 159 #[a] w (RetV w m' fun m' r => IntC m' r (fz.natAbs : Int))) := by
      show ∀ a w m', _
      exact fun a w m' hV ha => i_Abs a fz w m' hV (ha.tv (by omega))
     have KM : Hid (∀ a b w m', Vw m' w → IntC m' a (fz.natAbs : Int) → IntC m' b 5 → Calls Tryz.prog 139 #[a, b] w (RetV w m' fun m' r => IntC m' r ((fz.natAbs : Int) * 5))) := by
      show ∀ a b w m', _
      exact fun a b w m' hV ha hb => i_Mul a b _ 5 w m' hV (ha.tv (by omega)) (hb.tv (by omega)) (by omega) (by omega)
     have KS : Hid (∀ a b w m', Vw m' w → IntC m' a z → IntC m' b ((fz.natAbs : Int) * 5) → Calls Tryz.prog 138 #[a, b] w (RetV w m' fun m' r => IntC m' r (z + (fz.natAbs : Int) * 5))) := by
      show ∀ a b w m', _
      exact fun a b w m' hV ha hb => i_Add a b _ _ w m' hV (ha.tv (by omega)) (hb.tv (by omega)) (by omega) (by omega)
     have HZN : Hid (0 ≤ z + (fz.natAbs : Int) * 5 ∧ z + (fz.natAbs : Int) * 5 ≤ 60 + 6480 * ((j + 1 : Nat) : Int)) := by
      show _ ∧ _
      omega
     have HR1 := Lib.hid hr1
     have hr5 : ∀ i, i < 4 → (#[.int .u32 (xm : Int), .bool gv, .slice A1 n1 c1, .bool f1, .slice B1 p1 q1, .int .i64 xsc] : Array Value)[1 + i]? = [.bool gv, .slice A1 n1 c1, .bool f1, .slice B1 p1 q1][i]? := fun i hi => by
      match i, hi with
      | 0, _ => rfl
      | 1, _ => rfl
      | 2, _ => rfl
      | 3, _ => rfl
     clear hx hq1 hTX hTC hfn hza hzb HZ1 hcap hcsz SX SC HFB HFD
     go_upto_region 13 with ((first | go_skip | refine tP ?_ | (refine tS ?_; clear hL; intro _ hL) | (refine tB ?_; clear hL; intro _ _ hL _)))
     (try simp only [Nat.zero_add])
     (try simp only [eq_self] at *)
     obtain ⟨B, hB1, hB2, hB3⟩ := hL.bound
     refine wp_region_by2 7 [false, false, false, false, false, false, true] [false, false, false, false, false, false, false] [(fun v _ _ => v = ?c13_0), (fun v _ _ => v = ?c13_1), (fun v _ _ => v = ?c13_2), Of (fun um v => FracC um v (((cm : Nat) : Int) : Rat)), Of (fun um v => FracC um v xc), Of (fun um v => IntC um v fz), NewBlk B 37 #[.bool false, .slice none 0 0]] hL.vw mixed [54, 55, 56, 57, 58, 59, 14] _ (by kernel_rfl) (fun vs => by simp only [lay, Act.put, zq1, zq2, zq3]; rfl) (by kernel_rfl) (by decide) (by decide) ?s13 ?l13 ?r13
     case s13 =>
      refine ⟨?_, ?_, ?_, ?_, ?_, ?_, ?_, trivial⟩
      ·intro vs W1 m1 hE hM hV hD; clear hD
       exact sFe
      ·intro vs W1 m1 hE hM hV hD; obtain ⟨⟨_, _, -, -, f54⟩, -⟩ := hD
       rw [(f54 : vs 54 = _)]; clear f54; exact sLe
      ·intro vs W1 m1 hE hM hV hD; clear hD
       exact sLe
      ·intro vs W1 m1 hE hM hV hD; obtain ⟨⟨_, _, -, -, f56⟩, -⟩ := hD
       rw [(f56 : vs 56 = _)]
       clear f56
       go_wp2_with fail
       refine (q_FromInt _ ((cm : Nat) : Int) _ _ hV (HCF.out.le leX) HCMB.out).mono ?_
       rintro e W2 ⟨v, m2, rfl, hE2, hM2, hV2, h⟩
       go_wp2_with fail
       refine One2.call hE2 hM2 hV2 ?_; first | exact h | exact rfl
      ·intro vs W1 m1 hE hM hV hD; obtain ⟨⟨_, _, -, -, f55⟩, ⟨_, _, -, i57, f57⟩, -, -⟩ := hD
       rw [(f55 : vs 55 = _)]
       clear f55
       have f57 : FracC _ (vs 57) (((cm : Nat) : Int) : Rat) := f57
       replace f57 := f57.le i57.le
       clear i57
       go_wp2_with fail
       refine (KQ.out _ _ _ _ hV (HQ1.out.le leX) f57).mono ?_
       rintro e W2 ⟨v, m2, rfl, hE2, hM2, hV2, h⟩
       go_wp2_with fail
       refine One2.call hE2 hM2 hV2 ?_; first | exact h | exact rfl
      ·intro vs W1 m1 hE hM hV hD; obtain ⟨⟨_, _, -, i58, f58⟩, -, -⟩ := hD; have f58 : FracC _ (vs 58) xc := f58; replace f58 := f58.le i58.le; clear i58
       go_wp2_with fail
       refine (KF.out _ _ _ hV f58).mono ?_
       rintro e W2 ⟨v, m2, rfl, hE2, hM2, hV2, h⟩
       go_wp2_with fail
       refine One2.call hE2 hM2 hV2 ?_; first | exact h | exact rfl
      ·intro vs W1 m1 hE hM hV hD; clear hD
       exact one2_alloc hV (Nat.le_trans hB3 hE.size) rfl rfl rfl ZcC.h
     case l13 =>
      refine ⟨nF, nF, nF, nF, nF, nF, nF, trivial⟩
     intro vs W1 m1 hE hM hV hF hD
     obtain ⟨-, -, -, ⟨_, _, -, i57, f57⟩, ⟨_, _, -, i58, f58⟩, ⟨_, _, -, i59, f59⟩, ⟨_, _, j14, i14, f14⟩, -⟩ := hF
     replace hL := hL.call hE hM hV
     replace f57 : FracC _ (vs 57) (((cm : Nat) : Int) : Rat) := f57
     replace f57 := f57.le i57.le
     clear i57
     replace f58 : FracC _ (vs 58) xc := f58
     replace f58 := f58.le i58.le
     clear i58
     replace f59 : IntC _ (vs 59) fz := f59
     replace f59 := f59.le i59.le
     clear i59
     obtain ⟨g59, A59, n59, c59, e59, f59⟩ := f59.lit
     generalize vs 59 = x59 at e59 ⊢
     subst x59
     obtain ⟨b14, e14, hL⟩ := Loc.addB (Lt := []) hB1 hB2 hL f14 j14 i14 ad0
     simp only [e14, List.cons_append, List.nil_append] at hL ⊢
     clear e14 f14 j14 i14
     clear hB1 hB2 hB3 hD
     clear hE hV
     simp only [List.drop_succ_cons, List.drop_zero]
     go_wp2_with (first | go_skip | refine tP ?_ | (refine tS ?_; clear hL; intro _ hL) | (refine tB ?_; clear hL; intro _ _ hL _))
     refine QN.mk ?_
     go_upto_region 14 with ((first | go_skip | refine tP ?_ | (refine tS ?_; clear hL; intro _ hL) | (refine tB ?_; clear hL; intro _ _ hL _)))
     (try simp only [eq_self] at *)
     refine wp_region_by2 6 [false, false, false, false, false, false] [false, false, false, false, false, false] [(fun v _ _ => v = ?c14_0), (fun v _ _ => v = ?c14_1), Of (fun um v => IntC um v (fz.natAbs : Int)), Of (fun um v => IntC um v 5), Of (fun um v => IntC um v ((fz.natAbs : Int) * 5)), Of (fun um v => IntC um v (z + (fz.natAbs : Int) * 5))] hL.vw mixed [60, 61, 62, 63, 64, 65] _ (by kernel_rfl) (fun vs => by simp only [lay, Act.put, zq1, zq2, zq3]; rfl) (by kernel_rfl) (by decide) (by decide) ?s14 ?l14 ?r14
     case s14 =>
      refine ⟨?_, ?_, ?_, ?_, ?_, ?_, trivial⟩
      ·intro vs W1 m1 hE hM hV hD; clear hD
       exact sLe
      ·intro vs W1 m1 hE hM hV hD; clear hD
       exact sLe
      ·intro vs W1 m1 hE hM hV hD; obtain ⟨⟨_, _, -, -, f61⟩, -⟩ := hD
       rw [(f61 : vs 61 = _)]
       clear f61
       go_wp2_with fail
       refine (KA.out _ _ _ hV (f59.le leX)).mono ?_
       rintro e W2 ⟨v, m2, rfl, hE2, hM2, hV2, h⟩
       go_wp2_with fail
       refine One2.call hE2 hM2 hV2 ?_; first | exact h | exact rfl
      ·intro vs W1 m1 hE hM hV hD; clear hD
       go_wp2_with fail
       refine (i_FromInt64 5 _ _ hV (by decide) (by decide)).mono ?_
       rintro e W2 ⟨v, m2, rfl, hE2, hM2, hV2, h⟩
       go_wp2_with fail
       refine One2.call hE2 hM2 hV2 ?_; first | exact h | exact rfl
      ·intro vs W1 m1 hE hM hV hD; obtain ⟨⟨_, _, -, i62, f62⟩, ⟨_, _, -, i63, f63⟩, -, -⟩ := hD; have f62 : IntC _ (vs 62) (fz.natAbs : Int) := f62; replace f62 := f62.le i62.le; clear i62; have f63 : IntC _ (vs 63) 5 := f63; replace f63 := f63.le i63.le; clear i63
       go_wp2_with fail
       refine (KM.out _ _ _ _ hV f62 f63).mono ?_
       rintro e W2 ⟨v, m2, rfl, hE2, hM2, hV2, h⟩
       go_wp2_with fail
       refine One2.call hE2 hM2 hV2 ?_; first | exact h | exact rfl
      ·intro vs W1 m1 hE hM hV hD; obtain ⟨⟨_, _, -, -, f60⟩, ⟨_, _, -, i64, f64⟩, -, -⟩ := hD
       rw [(f60 : vs 60 = _)]
       clear f60
       have f64 : IntC _ (vs 64) ((fz.natAbs : Int) * 5) := f64
       replace f64 := f64.le i64.le
       clear i64
       go_wp2_with fail
       refine (KS.out _ _ _ _ hV (HS.out.le leX) f64).mono ?_
       rintro e W2 ⟨v, m2, rfl, hE2, hM2, hV2, h⟩
       go_wp2_with fail
       refine One2.call hE2 hM2 hV2 ?_; first | exact h | exact rfl
     case l14 =>
      refine ⟨nF, nF, nF, nF, nF, nF, trivial⟩
     intro vs W1 m1 hE hM hV hF hD
     clear hD
     obtain ⟨-, -, ⟨_, _, -, i62, f62⟩, ⟨_, _, -, i63, f63⟩, ⟨_, _, -, i64, f64⟩, ⟨_, _, -, i65, f65⟩, -⟩ := hF
     replace hL := hL.call hE hM hV
     replace f62 : IntC _ (vs 62) (fz.natAbs : Int) := f62
     replace f62 := f62.le i62.le
     clear i62
     replace f63 : IntC _ (vs 63) 5 := f63
     replace f63 := f63.le i63.le
     clear i63
     replace f64 : IntC _ (vs 64) ((fz.natAbs : Int) * 5) := f64
     replace f64 := f64.le i64.le
     clear i64
     replace f65 : IntC _ (vs 65) (z + (fz.natAbs : Int) * 5) := f65
     replace f65 := f65.le i65.le
     clear i65
     obtain ⟨g65, A65, n65, c65, e65, f65⟩ := f65.lit
     generalize vs 65 = x65 at e65 ⊢
     subst x65
     clear hE hV
     simp only [List.drop_succ_cons, List.drop_zero]
     go_wp2_with (first | go_skip | refine tP ?_ | (refine tS ?_; clear hL; intro _ hL) | (refine tB ?_; clear hL; intro _ _ hL _))
     refine QN.mk ?_
     go_wp2_with (first | go_skip | refine tP ?_ | (refine tS ?_; clear hL; intro _ hL) | (refine tB ?_; clear hL; intro _ _ hL _))
     refine (KT.out _ _ _ hL.vw (f59.le leX)).mono ?_
     rintro e W68 ⟨_, m68, rfl, hE, hM68, hV, rfl⟩
     replace hL := hL.call hE (by assumption) hV; clear hE hV
     go_wp2_with (first | (with_reducible refine stS ?_) | (first | go_skip | refine tP ?_ | (refine tS ?_; clear hL; intro _ hL) | (refine tB ?_; clear hL; intro _ _ hL _)))
     refine goA ?_
     refine wl_store1 hL (wanted_none rfl) rfl rfl rfl lf_int (n := 4) rfl (by omega) rfl rfl ?_
     clear hL
     intro W9 hL
     simp only [List.set_cons_succ, List.set_cons_zero] at hL
     have HP : Hid (RowA 171 6 GrpR m68 (.slice (some ⟨g, 0, none⟩) k c3) k (scT cm ls (j + 1)) [(g, 171, splice cur (j * 6 + 5) [.int .i64 fz])]) := by
      show RowA _ _ _ _ _ _ _ _
      rw [← HST.out]
      refine RowA.put (k := j) (o := 5) (x := (xm, xq, fz)) (ws := [.int .i64 fz]) (cs := [.int .u32 (xm : Int), .bool gv, .slice A1 n1 c1, .bool f1, .slice B1 p1 q1, .int .i64 fz]) (RowA.le GrpR.mono ROW2.out leX) (by rw [← ROW2.out.len]; exact hlt2) (by simp) rfl (fun i hi => ?_) ⟨_, _, _, _, _, _, _, _, rfl, HQ1.out.le leX⟩
      match i, hi with
      | 0, _ => exact (HR1.out 0 (by omega)).symm
      | 1, _ => exact (HR1.out 1 (by omega)).symm
      | 2, _ => exact (HR1.out 2 (by omega)).symm
      | 3, _ => exact (HR1.out 3 (by omega)).symm
      | 4, _ => exact (HR1.out 4 (by omega)).symm
      | 5, _ => rfl
     simp only [Act.put, zq1, zq2, zq3]
     go_wp2_with (first | go_skip | refine tP ?_ | (refine tS ?_; clear hL; intro _ hL) | (refine tB ?_; clear hL; intro _ _ hL _))
     go_roundw
     case rel => exact ⟨j + 1, _, _, _, _, _, _, _, by omega, by go_num, hL.tail.tail, hX2.trans exX, HP.out, f65.le leX, HZN.out⟩
     case measure => simp [intOf] <;> omega
    ·have hjk : j = k := by omega
     have HALL : Hid (RowA 171 6 GrpR mm2 (.slice A3 k c3) k (ls.map (scF cm)) R2) := by
      show RowA _ _ _ _ _ _ _ _
      have h1 := ROW2.out
      rw [hjk, ← HN.out, scT_all, HN.out] at h1
      exact h1
     have HZ1 := HZ.out
     have KC : Hid (∀ a b w m', Vw m' w → IntC m' a z → IntC m' b 72057594037927936 → Calls Tryz.prog 136 #[a, b] w (RetV w m' fun _ r => r = .int .i64 (-1))) := by
      show ∀ a b w m', _
      intro a b w m' hV ha hb
      have h1 := i_Compare a b z 72057594037927936 w m' hV (ha.tv (by omega)) (hb.tv (by omega))
      rwa [icmp_lt (by omega)] at h1
     have KT : Hid (∀ a w m', Vw m' w → IntC m' a ((cm : Nat) : Int) → Calls Tryz.prog 87 #[a] w (RetV w m' fun _ r => r = .tuple #[.int .i64 ((cm : Nat) : Int), .int .i64 0])) := by
      show ∀ a w m', _
      exact fun a w m' hV ha => i_ToInt64 a _ w m' hV (ha.tv (by omega)) (by omega)
     clear HZ1
     subst hjk
     have h8 : (j : Int) ≤ (j : Int) := Int.le_refl _
     go_upto_region 18 with ((first | go_skip | refine tP ?_ | (refine tS ?_; clear hL; intro _ hL) | (refine tB ?_; clear hL; intro _ _ hL _)))
     (try simp only [eq_self] at *)
     refine wp_region_by2 4 [false, false, false, false] [false, false, false, false] [(fun v _ _ => v = ?c18_0), Of (fun um v => IntC um v 72057594037927936), Is (.int .i64 (-1)), (fun v _ _ => v = ?c18_3)] hL.vw mixed [77, 78, 79, 80] _ (by kernel_rfl) (fun vs => by simp only [lay, Act.put, zq1, zq2, zq3]; rfl) (by kernel_rfl) (by decide) (by decide) ?s18 ?l18 ?r18
     case s18 =>
      refine ⟨?_, ?_, ?_, ?_, trivial⟩
      ·intro vs W1 m1 hE hM hV hD; clear hD
       exact sLe
      ·intro vs W1 m1 hE hM hV hD; clear hD
       go_wp2_with fail
       refine (i_FromInt64 72057594037927936 _ _ hV (by decide) (by decide)).mono ?_
       rintro e W2 ⟨v, m2, rfl, hE2, hM2, hV2, h⟩
       go_wp2_with fail
       refine One2.call hE2 hM2 hV2 ?_; first | exact h | exact rfl
      ·intro vs W1 m1 hE hM hV hD; obtain ⟨⟨_, _, -, -, f77⟩, ⟨_, _, -, i78, f78⟩, -, -⟩ := hD
       rw [(f77 : vs 77 = _)]
       clear f77
       have f78 : IntC _ (vs 78) 72057594037927936 := f78
       replace f78 := f78.le i78.le
       clear i78
       go_wp2_with fail
       refine (KC.out _ _ _ _ hV (HS.out.le leX) f78).mono ?_
       rintro e W2 ⟨v, m2, rfl, hE2, hM2, hV2, h⟩
       go_wp2_with fail
       refine One2.call hE2 hM2 hV2 ?_; first | exact h | exact rfl
      ·intro vs W1 m1 hE hM hV hD; obtain ⟨⟨_, _, -, -, f79⟩, -⟩ := hD
       rw [(f79 : vs 79 = _)]; clear f79; exact sPw
     case l18 =>
      refine ⟨nF, nF, nF, nF, trivial⟩
     intro vs W1 m1 hE hM hV hF hD
     clear hD
     obtain ⟨⟨_, _, -, -, f77⟩, ⟨_, _, -, i78, f78⟩, ⟨_, _, -, -, f79⟩, ⟨_, _, -, -, f80⟩, -⟩ := hF
     replace hL := hL.call hE hM hV
     have f77 : vs 77 = _ := f77
     generalize vs 77 = x77 at f77 ⊢
     subst x77
     replace f78 : IntC _ (vs 78) 72057594037927936 := f78
     replace f78 := f78.le i78.le
     clear i78
     have f79 : vs 79 = _ := f79
     generalize vs 79 = x79 at f79 ⊢
     subst x79
     have f80 : vs 80 = _ := f80
     generalize vs 80 = x80 at f80 ⊢
     subst x80
     clear hE hV
     simp only [List.drop_succ_cons, List.drop_zero]
     go_wp2_with (first | go_skip | refine tP ?_ | (refine tS ?_; clear hL; intro _ hL) | (refine tB ?_; clear hL; intro _ _ hL _))
     refine QN.mk ?_
     go_wp2_with (first | go_skip | refine tP ?_ | (refine tS ?_; clear hL; intro _ hL) | (refine tB ?_; clear hL; intro _ _ hL _))
     refine (KT.out _ _ _ hL.vw (HCF.out.le leX)).mono ?_
     rintro e W83 ⟨_, m83, rfl, hE, hM83, hV, rfl⟩
     replace hL := hL.call hE (by assumption) hV; clear hE hV
     go_wp2_with (first | go_skip | refine tP ?_ | (refine tS ?_; clear hL; intro _ hL) | (refine tB ?_; clear hL; intro _ _ hL _))
     refine bodyPost_ret (results_tmp2 rfl _ _ _) rfl ?_
     rw [HCE.out]
     exact ⟨_, R2, rfl, hL.tail.tail, exX, RowA.le GrpR.mono HALL.out leX⟩
end Go.Proofs.YtmhkmmmompediaaGreat

/- Candidates: a cut and its violation; Separate$1 compares them. -/
namespace Go.Proofs.YtmhkmmmompediaaGreat
open Go.RowKit

theorem ap_Cans : apS Tryz.prog 121 = some (128, 6, 96, 6) := by kernel_rfl
instance iAE9_1 : ApC Tryz.prog 121 128 6 96 := ⟨ap_Cans⟩
theorem zc_Can : zc Tryz.prog 128 = some #[.slice none 0 0, .int .i64 0, .bool false, .slice none 0 0, .bool false, .slice none 0 0] := by kernel_rfl
instance iAE9_2 : ZcC Tryz.prog 128 #[.slice none 0 0, .int .i64 0, .bool false, .slice none 0 0, .bool false, .slice none 0 0] := ⟨zc_Can⟩
theorem ag_Can : agS Tryz.prog 128 = some 6 := by kernel_rfl
instance iAE9_3 : AgC Tryz.prog 128 6 := ⟨ag_Can⟩
theorem fd_Can0 : fdS Tryz.prog 128 0 = some 0 := by kernel_rfl
instance iAE9_4 : FdC Tryz.prog 128 0 0 := ⟨fd_Can0⟩
theorem fd_Can1 : fdS Tryz.prog 128 1 = some 2 := by kernel_rfl
instance iAE9_5 : FdC Tryz.prog 128 1 2 := ⟨fd_Can1⟩
abbrev Can := Cut × Rat
def CanR (m : World) (v : Value) (x : Can) : Prop := ∃ R n c d g A k e h B p q, v = .agg #[.slice R n c, .int .i64 d, .bool g, .slice A k e, .bool h, .slice B p q] ∧ CutR m (.agg #[.slice R n c, .int .i64 d]) x.1 ∧ FracC m (.agg #[.bool g, .slice A k e, .bool h, .slice B p q]) x.2
theorem CanR.mono (m m' : World) (v : Value) (x : Can) (h : CanR m v x) (hl : Le m m') : CanR m' v x := by
 obtain ⟨R, n, c, d, g, A, k, e, h, B, p, q, rfl, h1, h2⟩ := h
 exact ⟨R, n, c, d, g, A, k, e, h, B, p, q, rfl, h1.le hl, h2.le hl⟩
end Go.Proofs.YtmhkmmmompediaaGreat

/- Separate$1: the greater violation stands first. -/
namespace Go.Proofs.YtmhkmmmompediaaGreat
open Go.RowKit

def canC (x y : Can) : Int := rs (y.2 - x.2)

theorem u_Separate1 (a b : Value) (x y : Can) (w m : World) (hV : Vw m w) (ha : CanR m a x) (hb : CanR m b y) (hx : Sm x.2.num x.2.den) (hy : Sm y.2.num y.2.den) :
  Calls Tryz.prog 106 #[a, b] w (RetV w m fun _ r => r = .int .i64 (canC x y)) := by
 obtain ⟨R1, n1, c1, d1, g1, A1, k1, e1, h1, B1, p1, q1, rfl, -, fx⟩ := ha
 obtain ⟨R2, n2, c2, d2, g2, A2, k2, e2, h2, B2, p2, q2, rfl, -, fy⟩ := hb
 have KC : Hid (∀ a b w m', Vw m' w → FracC m' a y.2 → FracC m' b x.2 → Calls Tryz.prog 83 #[a, b] w (RetV w m' fun _ r => r = .int .i64 (canC x y))) := by
  show ∀ a b w m', _
  intro a b w m' hV ha hb
  exact q_CompareC a b y.2 x.2 w m' hV ha hb hy hx
 have FX := Lib.hid fx
 have FY := Lib.hid fy
 have hr1 : ∀ i, i < 4 → (#[.slice R1 n1 c1, .int .i64 d1, .bool g1, .slice A1 k1 e1, .bool h1, .slice B1 p1 q1] : Array Value)[2 + i]? = [.bool g1, .slice A1 k1 e1, .bool h1, .slice B1 p1 q1][i]? := fun i hi => by
  match i, hi with
  | 0, _ => rfl
  | 1, _ => rfl
  | 2, _ => rfl
  | 3, _ => rfl
 have hr2 : ∀ i, i < 4 → (#[.slice R2 n2 c2, .int .i64 d2, .bool g2, .slice A2 k2 e2, .bool h2, .slice B2 p2 q2] : Array Value)[2 + i]? = [.bool g2, .slice A2 k2 e2, .bool h2, .slice B2 p2 q2][i]? := fun i hi => by
  match i, hi with
  | 0, _ => rfl
  | 1, _ => rfl
  | 2, _ => rfl
  | 3, _ => rfl
 have hL := Loc.start hV
 clear hV fx fy
 go_enter Tryz.func106, Tryz.ntmps106
 go_upto_region 0 with (fail)
 refine wp_region_lit ?_
 refine t_box hL rfl rfl ?_; clear hL; intro Wh2 mh2 hL eh2; simp only [Act.put, zq1, zq2, zq3]
 refine t_box hL rfl rfl ?_; clear hL; intro Wh3 mh3 hL eh3; simp only [Act.put, zq1, zq2, zq3]
 go_wp2_with (first | go_skip | refine tP ?_ | (refine tB ?_; clear hL; intro _ _ hL _))
 refine (KC.out _ _ _ _ hL.vw (FY.out.le leX) (FX.out.le leX)).mono ?_
 rintro e W9 ⟨_, m9, rfl, hE, hM9, hV, rfl⟩
 replace hL := hL.call hE (by assumption) hV; clear hE hV
 go_wp2_with (first | go_skip | refine tP ?_ | (refine tB ?_; clear hL; intro _ _ hL _))
 go_ret
 exact RetV.mk hL rfl
end Go.Proofs.YtmhkmmmompediaaGreat

/- slices.insertionSortCmpFunc of candidates: the plain word. -/
namespace Go.Proofs.YtmhkmmmompediaaGreat
open Go.RowKit

def swp (xs : List Can) (j : Nat) : List Can :=
 match xs[j]?, xs[j - 1]? with
 | some a, some b => (xs.set j b).set (j - 1) a
 | _, _ => xs
def bubC : List Can → Nat → List Can
 | xs, 0 => xs
 | xs, j + 1 => match xs[j + 1]?, xs[j]? with
  | some a, some b => if canC a b < 0 then bubC (swp xs (j + 1)) j else xs
  | _, _ => xs
def insC (xs : List Can) : Nat → List Can
 | 0 => xs
 | i + 1 => bubC (insC xs i) i
theorem swp_mem {xs : List Can} {j : Nat} {x : Can} (h : x ∈ swp xs j) : x ∈ xs := by
 unfold swp at h
 split at h
 ·next a b ha hb =>
  rcases List.mem_or_eq_of_mem_set h with h | rfl
  ·rcases List.mem_or_eq_of_mem_set h with h | rfl
   ·exact h
   ·exact List.mem_of_getElem? hb
  ·exact List.mem_of_getElem? ha
 ·exact h
theorem bubC_go {xs : List Can} {j : Nat} {a b : Can} (ha : xs[j + 1]? = some a) (hb : xs[j]? = some b) : bubC xs (j + 1) = if canC a b < 0 then bubC (swp xs (j + 1)) j else xs := by
 rw [bubC, ha, hb]
theorem bubC_mem : ∀ j (ys : List Can) (x : Can), x ∈ bubC ys j → x ∈ ys := by
 intro j
 induction j with
 | zero => intro ys x h; exact h
 | succ j ih =>
  intro ys x h
  rw [bubC] at h
  split at h
  ·split at h
   ·exact swp_mem (ih _ _ h)
   ·exact h
  ·exact h
theorem insC_mem (xs : List Can) : ∀ i (x : Can), x ∈ insC xs i → x ∈ xs := by
 intro i
 induction i with
 | zero => intro x h; exact h
 | succ i ih => intro x h; exact ih x (bubC_mem _ _ _ h)
end Go.Proofs.YtmhkmmmompediaaGreat

/- slices.SortStableFunc of no or one candidate: nothing is touched. -/
namespace Go.Proofs.YtmhkmmmompediaaGreat
open Go.RowKit

theorem s_Ins1 (p : Option Addr) (n c : Nat) (hn : n ≤ 1) (w m : World) (hV : Vw m w) : Calls Tryz.prog 194 #[.slice p n c, .int .i64 0, .int .i64 n, .func (.func 106) #[] #[]] w (RetV w m fun _ _ => True) := by
 have hL := Loc.start hV
 have hn1 : (n : Int) ≤ 1 := by omega
 clear hV
 go_enter Tryz.func194, Tryz.ntmps194
 go_wp2_with (first | go_skip | refine tP ?_ | (refine tS ?_; clear hL; intro _ hL))
 refine wp_loop_once ?_
 go_wp2_with (first | go_skip | refine tP ?_ | (refine tS ?_; clear hL; intro _ hL))
 refine bodyPost_ret (results_none rfl _ _ _) rfl ?_
 exact RetV.mk hL trivial
theorem s_Stable1 (p : Option Addr) (n c : Nat) (hn : n ≤ 1) (w m : World) (hV : Vw m w) : Calls Tryz.prog 165 #[.slice p n c, .int .i64 n, .func (.func 106) #[] #[]] w (RetV w m fun _ _ => True) := by
 have hL := Loc.start hV
 have h20 : (n : Int) < 20 := by omega
 have h21 : (n : Int) ≤ 20 := by omega
 clear hV
 go_enter Tryz.func165, Tryz.ntmps165
 go_wp2_with (first | go_skip | refine tP ?_)
 refine wp_loop_once ?_
 go_wp2_with (first | go_skip | refine tP ?_)
 refine (s_Ins1 _ _ _ hn _ _ hL.vw).mono ?_
 rintro e W1 ⟨v1, m1, rfl, hE, hM1, hV, -⟩
 replace hL := hL.call hE (by assumption) hV; clear hE hV
 go_wp2_with (first | go_skip | refine tP ?_)
 refine wp_loop_once ?_
 go_wp2_with (first | go_skip | refine tP ?_)
 refine bodyPost_ret (results_none rfl _ _ _) rfl ?_
 exact RetV.mk hL trivial
theorem s_Sort1 (p : Option Addr) (n c : Nat) (hn : n ≤ 1) (w m : World) (hV : Vw m w) : Calls Tryz.prog 105 #[.slice p n c, .func (.func 106) #[] #[]] w (RetV w m fun _ _ => True) := by
 have hL := Loc.start hV
 clear hV
 go_enter Tryz.func105, Tryz.ntmps105
 go_wp2_with (first | go_skip | refine tP ?_)
 refine (s_Stable1 _ _ _ hn _ _ hL.vw).mono ?_
 rintro e W1 ⟨v1, m1, rfl, hE, hM1, hV, -⟩
 replace hL := hL.call hE (by assumption) hV; clear hE hV
 go_wp2_with (first | go_skip | refine tP ?_)
 refine bodyPost_ret (results_none rfl _ _ _) rfl ?_
 exact RetV.mk hL trivial
end Go.Proofs.YtmhkmmmompediaaGreat

/- Two ways to keep candidates sorted, and lists of rows in lexicographic order: the plain law. -/
namespace Go.Proofs.YtmhkmmmompediaaGreat
open Go.RowKit

def insR (x : Can) : List Can → List Can
 | [] => [x]
 | y :: r => if canC x y < 0 then y :: insR x r else x :: y :: r
def sortR (xs : List Can) : List Can := xs.foldl (fun r x => insR x r) []
def srtC (xs : List Can) : List Can := (sortR xs).reverse
theorem insR_len (x : Can) : ∀ r, (insR x r).length = r.length + 1
 | [] => rfl
 | y :: r => by
  unfold insR
  split
  ·simp [insR_len x r]
  ·simp
theorem insR_mem {x z : Can} : ∀ {r}, z ∈ insR x r → z = x ∨ z ∈ r
 | [], h => by simpa [insR] using h
 | y :: r, h => by
  unfold insR at h
  split at h
  ·rcases List.mem_cons.1 h with rfl | h
   ·exact .inr (List.mem_cons_self)
   ·rcases insR_mem h with h | h
    ·exact .inl h
    ·exact .inr (List.mem_cons_of_mem _ h)
  ·rcases List.mem_cons.1 h with h | h
   ·exact .inl h
   ·exact .inr h
theorem sortR_snoc (xs : List Can) (x : Can) : sortR (xs ++ [x]) = insR x (sortR xs) := by simp [sortR]
theorem foldR_len : ∀ (xs acc : List Can), (xs.foldl (fun r x => insR x r) acc).length = acc.length + xs.length
 | [], acc => rfl
 | x :: xs, acc => by
  rw [List.foldl_cons, foldR_len xs, insR_len, List.length_cons]; omega
theorem foldR_mem {z : Can} : ∀ {xs acc : List Can}, z ∈ xs.foldl (fun r x => insR x r) acc → z ∈ acc ∨ z ∈ xs
 | [], acc, h => .inl h
 | x :: xs, acc, h => by
  rw [List.foldl_cons] at h
  rcases foldR_mem h with h | h
  ·rcases insR_mem h with rfl | h
   ·exact .inr (List.mem_cons_self)
   ·exact .inl h
  ·exact .inr (List.mem_cons_of_mem _ h)
theorem sortR_len (xs : List Can) : (sortR xs).length = xs.length := by
 have := foldR_len xs []
 simpa [sortR] using this
theorem sortR_mem {xs : List Can} {z : Can} (h : z ∈ sortR xs) : z ∈ xs := by
 rcases foldR_mem h with h | h
 ·cases h
 ·exact h
theorem srtC_len (xs : List Can) : (srtC xs).length = xs.length := by rw [srtC, List.length_reverse, sortR_len]
theorem srtC_mem {xs : List Can} {z : Can} (h : z ∈ srtC xs) : z ∈ xs := sortR_mem (List.mem_reverse.1 h)
theorem mid_at (r : List Can) (y x : Can) (zs : List Can) : ((y :: r).reverse ++ x :: zs)[r.length]? = some y ∧ ((y :: r).reverse ++ x :: zs)[r.length + 1]? = some x ∧ swp ((y :: r).reverse ++ x :: zs) (r.length + 1) = r.reverse ++ x :: y :: zs := by
 have e : (y :: r).reverse ++ x :: zs = r.reverse ++ y :: x :: zs := by simp
 have h1 : ((y :: r).reverse ++ x :: zs)[r.length]? = some y := by
  rw [e, List.getElem?_append_right (by simp)]; simp
 have h2 : ((y :: r).reverse ++ x :: zs)[r.length + 1]? = some x := by
  rw [e, List.getElem?_append_right (by simp)]; simp
 refine ⟨h1, h2, ?_⟩
 unfold swp
 rw [h2, Nat.add_sub_cancel, h1]
 simp only
 rw [e, List.set_append_right _ _ (by simp)]
 simp only [List.length_reverse, Nat.add_sub_cancel_left, List.set_cons_succ, List.set_cons_zero]
 rw [List.set_append_right _ _ (by simp)]
 simp
theorem bubC_ins (x : Can) : ∀ (r zs : List Can), bubC (r.reverse ++ x :: zs) r.length = (insR x r).reverse ++ zs
 | [], zs => by simp [bubC, insR]
 | y :: r, zs => by
  obtain ⟨h1, h2, h3⟩ := mid_at r y x zs
  rw [List.length_cons, bubC_go h2 h1, h3]
  unfold insR
  by_cases hc : canC x y < 0
  ·rw [if_pos hc, if_pos hc, bubC_ins x r (y :: zs)]; simp
  ·rw [if_neg hc, if_neg hc]; simp
theorem insC_is (xs : List Can) : ∀ i, i ≤ xs.length → insC xs i = srtC (xs.take i) ++ xs.drop i
 | 0, _ => by simp [insC, srtC, sortR]
 | i + 1, h => by
  rw [insC, insC_is xs i (by omega)]
  have hd : xs.drop i = xs[i] :: xs.drop (i + 1) := List.drop_eq_getElem_cons (by omega)
  have ht : xs.take (i + 1) = xs.take i ++ [xs[i]] := by rw [List.take_succ_eq_append_getElem]
  have hl : (sortR (xs.take i)).length = i := by rw [sortR_len, List.length_take]; omega
  rw [hd, ht]
  unfold srtC
  rw [sortR_snoc]
  have := bubC_ins xs[i] (sortR (xs.take i)) (xs.drop (i + 1))
  rw [hl] at this
  exact this
theorem insC_all (xs : List Can) : insC xs xs.length = srtC xs := by
 rw [insC_is xs _ (Nat.le_refl _), List.take_length, List.drop_length, List.append_nil]

def befF : List Int → List Int → Bool
 | a :: l, b :: m => if a = b then befF l m else decide (a < b)
 | [], _ :: _ => true
 | _, [] => false
def stopD (a b : Can) : Bool := decide (0 < canC a b) || (decide (canC a b = 0) && !befF a.1.1 b.1.1)
def bubD : List Can → Nat → List Can
 | xs, 0 => xs
 | xs, j + 1 => match xs[j + 1]?, xs[j]? with
  | some a, some b => if stopD a b = true then xs else bubD (swp xs (j + 1)) j
  | _, _ => xs
theorem bubD_go {xs : List Can} {j : Nat} {a b : Can} (ha : xs[j + 1]? = some a) (hb : xs[j]? = some b) : bubD xs (j + 1) = if stopD a b = true then xs else bubD (swp xs (j + 1)) j := by
 rw [bubD, ha, hb]
theorem bubD_ins (x : Can) : ∀ (r zs : List Can), (∀ y ∈ r, befF x.1.1 y.1.1 = false) → bubD (r.reverse ++ x :: zs) r.length = (insR x r).reverse ++ zs
 | [], zs, _ => by simp [bubD, insR]
 | y :: r, zs, hb => by
  obtain ⟨h1, h2, h3⟩ := mid_at r y x zs
  rw [List.length_cons, bubD_go h2 h1, h3]
  have hs : stopD x y = decide (0 ≤ canC x y) := by
   unfold stopD
   rw [hb y (List.mem_cons_self)]
   rw [Bool.eq_iff_iff]
   simp
   omega
  rw [hs]
  unfold insR
  by_cases hc : canC x y < 0
  ·rw [if_neg (by simp; omega), if_pos hc, bubD_ins x r (y :: zs) (fun z hz => hb z (List.mem_cons_of_mem _ hz))]; simp
  ·rw [if_pos (by simp; omega), if_neg hc]; simp
theorem bubD_snoc (xs : List Can) (x : Can) (hb : ∀ y ∈ xs, befF x.1.1 y.1.1 = false) : bubD (srtC xs ++ [x]) xs.length = srtC (xs ++ [x]) := by
 have := bubD_ins x (sortR xs) [] (fun y hy => hb y (sortR_mem hy))
 rw [sortR_len, List.append_nil] at this
 unfold srtC
 rw [sortR_snoc]
 exact this
theorem befF_map {f : Nat → Int} {n : Nat} (hf : ∀ i j, i < j → j < n → f i < f j) : ∀ (s t : List Nat), (∀ i ∈ s, i < n) → (∀ i ∈ t, i < n) → befF (s.map f) (t.map f) = befF (s.map fun (i : Nat) => (i : Int)) (t.map fun (i : Nat) => (i : Int))
 | [], [], _, _ => rfl
 | [], _ :: _, _, _ => rfl
 | _ :: _, [], _, _ => rfl
 | a :: s, b :: t, hs, ht => by
  have ha := hs a (List.mem_cons_self)
  have hb := ht b (List.mem_cons_self)
  simp only [List.map_cons, befF]
  rcases Nat.lt_trichotomy a b with h | h | h
  ·have := hf a b h hb
   rw [if_neg (by omega), if_neg (by omega)]
   rw [decide_eq_true this, decide_eq_true (by omega)]
  ·subst h
   rw [if_pos rfl, if_pos rfl]
   exact befF_map hf s t (fun i hi => hs i (List.mem_cons_of_mem _ hi)) (fun i hi => ht i (List.mem_cons_of_mem _ hi))
  ·have := hf b a h ha
   rw [if_neg (by omega), if_neg (by omega)]
   rw [decide_eq_false (by omega), decide_eq_false (by omega)]

def piv (n : Nat) (l : List Nat) : Nat → Option Nat
 | 0 => none
 | i + 1 => if l.getD i 0 = n - l.length + i then piv n l i else some i
def filS (l : List Nat) (i : Nat) : List Nat := l.take i ++ (List.range (l.length - i)).map fun t => l.getD i 0 + 1 + t
def nxtS (n : Nat) (l : List Nat) : Option (List Nat) := (piv n l l.length).map fun i => filS l i
def runS (n : Nat) : Nat → List Nat → List (List Nat)
 | 0, _ => []
 | f + 1, l => l :: match nxtS n l with | none => [] | some l' => runS n f l'
def subsF (n size : Nat) : List (List Nat) := if size ≤ n then runS n 11 (List.range size) else []
def filP (l : List Nat) (i j : Nat) : List Nat := (List.range l.length).map fun t => if t < i then l.getD t 0 else if t < j then l.getD i 0 + 1 + (t - i) else l.getD t 0
theorem filP_len (l : List Nat) (i j : Nat) : (filP l i j).length = l.length := by simp [filP]
theorem filP_at {l : List Nat} {i j t : Nat} (h : t < l.length) : (filP l i j)[t]? = some (if t < i then l.getD t 0 else if t < j then l.getD i 0 + 1 + (t - i) else l.getD t 0) := by
 unfold filP
 rw [List.getElem?_map, List.getElem?_range h]; rfl
theorem at_getD {l : List Nat} {t : Nat} (h : t < l.length) : l[t]? = some (l.getD t 0) := by
 rw [List.getD_eq_getElem?_getD, List.getElem?_eq_getElem h]; rfl
theorem filP_one {l : List Nat} {i : Nat} (h : i < l.length) : l.set i (l.getD i 0 + 1) = filP l i (i + 1) := by
 apply List.ext_getElem?
 intro t
 by_cases ht : t < l.length
 ·rw [filP_at ht, List.getElem?_set]
  by_cases e : i = t
  ·subst e
   rw [if_pos rfl, if_pos h, if_neg (by omega), if_pos (by omega)]
   simp
  ·rw [if_neg e, at_getD ht]
   by_cases h2 : t < i
   ·rw [if_pos h2]
   ·rw [if_neg h2, if_neg (by omega)]
 ·rw [List.getElem?_eq_none (by simp; omega), List.getElem?_eq_none (by rw [filP_len]; omega)]
theorem filP_step {l : List Nat} {i j : Nat} (hij : i < j) (hj : j < l.length) : (filP l i j).set j (l.getD i 0 + 1 + (j - 1 - i) + 1) = filP l i (j + 1) := by
 apply List.ext_getElem?
 intro t
 by_cases ht : t < l.length
 ·rw [filP_at ht, List.getElem?_set, filP_len]
  by_cases e : j = t
  ·subst e
   rw [if_pos rfl, if_pos hj, if_neg (by omega), if_pos (by omega)]
   congr 1; omega
  ·rw [if_neg e, filP_at ht]
   by_cases h2 : t < i
   ·rw [if_pos h2, if_pos h2]
   ·rw [if_neg h2, if_neg h2]
    by_cases h3 : t < j
    ·rw [if_pos h3, if_pos (by omega)]
    ·rw [if_neg h3, if_neg (by omega)]
 ·rw [List.getElem?_eq_none (by rw [List.length_set, filP_len]; omega), List.getElem?_eq_none (by rw [filP_len]; omega)]
theorem filP_prev {l : List Nat} {i j : Nat} (hij : i < j) (hj : j ≤ l.length) : (filP l i j)[j - 1]? = some (l.getD i 0 + 1 + (j - 1 - i)) := by
 rw [filP_at (by omega), if_neg (by omega), if_pos (by omega)]
theorem filP_end {l : List Nat} {i : Nat} (h : i < l.length) : filP l i l.length = filS l i := by
 apply List.ext_getElem?
 intro t
 have hl : (filS l i).length = l.length := by unfold filS; simp; omega
 by_cases ht : t < l.length
 ·rw [filP_at ht]
  unfold filS
  by_cases h2 : t < i
  ·rw [if_pos h2, List.getElem?_append_left (by simp; omega), List.getElem?_take, if_pos h2, at_getD ht]
  ·have h3 : (l.take i).length = i := by rw [List.length_take]; omega
   rw [if_neg h2, if_pos ht, List.getElem?_append_right (by omega), h3, List.getElem?_map, List.getElem?_range (by omega)]; rfl
 ·rw [List.getElem?_eq_none (by rw [filP_len]; omega), List.getElem?_eq_none (by omega)]
theorem piv_yes {n : Nat} {l : List Nat} {i : Nat} : ∀ j, i < j → (∀ t, i < t → t < j → l.getD t 0 = n - l.length + t) → l.getD i 0 ≠ n - l.length + i → piv n l j = some i
 | 0, h, _, _ => by omega
 | j + 1, h, h1, h2 => by
  unfold piv
  by_cases e : i = j
  ·subst e; rw [if_neg h2]
  ·rw [if_pos (h1 j (by omega) (by omega))]
   exact piv_yes j (by omega) (fun t ht hj => h1 t ht (by omega)) h2
theorem piv_no {n : Nat} {l : List Nat} : ∀ j, (∀ t, t < j → l.getD t 0 = n - l.length + t) → piv n l j = none
 | 0, _ => rfl
 | j + 1, h => by
  unfold piv
  rw [if_pos (h j (by omega))]
  exact piv_no j fun t ht => h t (by omega)
def subsB (n size : Nat) : Bool :=
 (subsF n size).all (fun l => decide (l.length = size) && (List.range size).all (fun i => decide (l.getD i 0 ≤ n - size + i)) && l.all (fun i => decide (i < n))) &&
 (List.range (subsF n size).length).all (fun k => nxtS n ((subsF n size).getD k []) == (subsF n size)[k + 1]?) &&
 decide ((subsF n size).Pairwise fun s t => befF (t.map fun (i : Nat) => (i : Int)) (s.map fun (i : Nat) => (i : Int)) = false) && decide ((subsF n size).length ≤ 10) &&
 (!decide (size ≤ n) || (subsF n size)[0]? == some (List.range size)) && (subsF n size).all (fun l => decide (l.Pairwise (· < ·)))
structure SubOk (n size : Nat) : Prop where
 len : ∀ l ∈ subsF n size, l.length = size
 le : ∀ l ∈ subsF n size, ∀ i, i < size → l.getD i 0 ≤ n - size + i
 lt : ∀ l ∈ subsF n size, ∀ i ∈ l, i < n
 next : ∀ k l, (subsF n size)[k]? = some l → nxtS n l = (subsF n size)[k + 1]?
 pw : (subsF n size).Pairwise fun s t => befF (t.map fun (i : Nat) => (i : Int)) (s.map fun (i : Nat) => (i : Int)) = false
 few : (subsF n size).length ≤ 10
 first : size ≤ n → (subsF n size)[0]? = some (List.range size)
 none : n < size → subsF n size = []
 asc : ∀ l ∈ subsF n size, l.Pairwise (· < ·)
theorem subsB_all : ((List.range 6).all fun n => (List.range 6).all fun s => decide (s < 3) || subsB n s) = true := by decide +kernel
theorem subs_ok {n size : Nat} (hn : n ≤ 5) (h3 : 3 ≤ size) (h5 : size ≤ 5) : SubOk n size := by
 have h1 := List.all_eq_true.1 subsB_all n (List.mem_range.2 (by omega))
 have h2 := List.all_eq_true.1 h1 size (List.mem_range.2 (by omega))
 rw [Bool.or_eq_true, decide_eq_true_eq] at h2
 have h := h2.resolve_left (by omega)
 unfold subsB at h
 simp only [Bool.and_eq_true] at h
 obtain ⟨⟨⟨⟨⟨ha, hb⟩, hc⟩, hd⟩, he⟩, hf⟩ := h
 have ha' : ∀ l ∈ subsF n size, (l.length = size ∧ (∀ i, i < size → l.getD i 0 ≤ n - size + i)) ∧ ∀ i ∈ l, i < n := fun l hl => by
  have := List.all_eq_true.1 ha l hl
  simp only [Bool.and_eq_true, decide_eq_true_eq] at this
  refine ⟨⟨this.1.1, fun i hi => ?_⟩, fun i hi => ?_⟩
  ·exact of_decide_eq_true (List.all_eq_true.1 this.1.2 i (List.mem_range.2 hi))
  ·exact of_decide_eq_true (List.all_eq_true.1 this.2 i hi)
 refine ⟨fun l hl => (ha' l hl).1.1, fun l hl => (ha' l hl).1.2, fun l hl => (ha' l hl).2, fun k l hk => ?_, of_decide_eq_true hc, of_decide_eq_true hd, fun hs => ?_, fun hs => ?_, fun l hl => of_decide_eq_true (List.all_eq_true.1 hf l hl)⟩
 ·have hlt := (List.getElem?_eq_some_iff.1 hk).1
  have := List.all_eq_true.1 hb k (List.mem_range.2 hlt)
  rw [List.getD_eq_getElem?_getD, hk] at this
  exact eq_of_beq this
 ·rw [Bool.or_eq_true, Bool.not_eq_true', decide_eq_false_iff_not] at he
  exact eq_of_beq (he.resolve_left (by omega))
 ·unfold subsF; rw [if_neg (by omega)]
end Go.Proofs.YtmhkmmmompediaaGreat

/- A range over a function: a round's body is walked by the same laws as everything else. No program. -/
namespace Go.Proofs.YtmhkmmmompediaaGreat
open Go.RowKit

abbrev Rnd (l : Nat) : Fence := Fence.wide.inRound l
section
variable {P : Program} {l n : Nat} {o : Oper} {a : Act} {W : World} {K : Act → World → Prop} {Q : Exit → Act → World → Prop} {ops : Array Oper}
theorem wpIn_of_wp (hd : ∀ c, o.op ≠ .defer c) (h : o.wp P a W K Q) : o.wpIn (Rnd l) n P a W K Q := by
 refine ⟨fun _ _ => trivial, ?_⟩
 have e : o.semAt (Rnd l).round a.eval = execOp a.eval o := Oper.semAt_some l _ _ hd
 rw [e]
 unfold Oper.wp at h
 generalize (execOp a.eval o).run P W = r at h
 cases r with
 | ok x w' =>
  cases x <;> simp only [Oper.upon] at h <;> simp only [Oper.uponIn]
  all_goals first
   | exact h
   | exact ⟨fun h => (by cases h), (callsIn_wide.2 h).inRound l⟩
   | exact ⟨fun h => (by cases h), fun c cs _ => let ⟨v, w', r, s⟩ := h c cs; ⟨v, w', r, stepsIn_wide.2 s⟩⟩
   | exact h.elim
 | halt x w' => cases x <;> simp only [Oper.upon] at h <;> simp only [Oper.uponIn] <;> exact h
def noDefer (l : List Oper) : Bool := l.all fun o => match o.op with | .defer _ => false | _ => true
theorem noDefer_op (h : (match o.op with | .defer _ => false | _ => true) = true) : ∀ c, o.op ≠ .defer c := by
 intro c e
 rw [e] at h
 cases h
theorem listIn_of_list (hno : ∀ a w, ¬ Q .outgrown a w) : ∀ {ol : List Oper} {a : Act} {w : World}, noDefer ol = true → wpList P ops Q ol a w → wpListIn (Rnd l) n P ops Q ol a w
 | [], _, _, _, h => h
 | o :: ol, a, w, hd, h => by
  unfold noDefer at hd
  rw [List.all_cons, Bool.and_eq_true] at hd
  have hn : noDefer ol = true := hd.2
  unfold wpList at h
  unfold wpListIn
  split at h
  ·next hw =>
   rw [if_pos hw]
   rcases h with h | ⟨_, a0, w0, h⟩
   ·exact wpIn_of_wp (noDefer_op hd.1) (Oper.wp_mono (fun a w h => listIn_of_list hno hn h) h)
   ·exact absurd h (hno _ _)
  ·next hw =>
   rw [if_neg hw]
   exact ⟨fun _ _ => trivial, listIn_of_list hno hn h⟩
theorem wpIn_lit {id : Nat} {ol : List Oper} (hno : ∀ a w, ¬ Q .outgrown a w) (hd : noDefer ol = true) (h : wpList P ol.toArray Q ol a W) : (Code.region id ol.toArray false).wpIn (Rnd l) n P Q a W :=
 wpIn_region_lit (listIn_of_list hno hd h)
theorem opIn_of_op (hd : noDefer ops.toList = true) {i : Nat} (h : wpOp P ops Q i K a W) (hno : ∀ a w, ¬ Q .outgrown a w) : wpOpIn (Rnd l) n P ops Q i K a W := by
 unfold wpOp at h
 unfold wpOpIn
 split
 ·next e => rw [e] at h; exact h
 ·next o e =>
  rw [e] at h
  simp only at h
  split
  ·next hw =>
   rw [if_pos hw] at h
   rcases h with h | ⟨_, a0, w0, h⟩
   ·refine wpIn_of_wp (noDefer_op ?_) h
    exact List.all_eq_true.1 hd o (by have := Array.mem_of_getElem? e; simpa using this)
   ·exact absurd h (hno _ _)
  ·next hw =>
   rw [if_neg hw] at h
   exact ⟨fun _ _ => trivial, h⟩
theorem anyIn_of_any {md : Region.Mode} (hd : noDefer ops.toList = true) (hno : ∀ a w, ¬ Q .outgrown a w) : ∀ {f : Nat} {L : Array Bool} {a : Act} {w : World}, wpAny P md ops Q f L a w → wpAnyIn (Rnd l) n P md ops Q f L a w
 | 0, _, _, _, h => h
 | f + 1, _, _, _, h => ⟨h.1, fun i hi => opIn_of_op hd (wpOp_mono (fun a w h => anyIn_of_any hd hno h) (h.2 i hi)) hno⟩
theorem wpIn_of_any {id : Nat} (hm : P.follows .mixedOrders = true) (hd : noDefer ops.toList = true) (h : RegAny P ops Q a W) : (Code.region id ops true).wpIn (Rnd l) n P Q a W := by
 refine wpIn_mono (Q := QN Q) (wpIn_region_any hm (anyIn_of_any hd (fun a w h => by cases h.1) h)) ?_
 rintro e a w ⟨rfl, h⟩; exact h
end
end Go.Proofs.YtmhkmmmompediaaGreat

/- A range over a function of the program: the statement, out of its body's walk and the iterator's. No program. -/
namespace Go.Proofs.YtmhkmmmompediaaGreat
open Go.RowKit

theorem Still.putObj {W : World} {b : Nat} {o o' : Obj} (h : W.heap[b]? = some o) : ∀ (k : Nat) (p : Obj), W.heap[k]? = some p → k ≠ b → (W.putObj b o').heap[k]? = some p := fun k p hk hne => (World.putObj_heap_other hne).trans hk
theorem Loc.putObj {w0 m0 W m : World} {Ls : List Lo} (h : Loc w0 m0 W m Ls) {b : Nat} {o : Obj} (o' : Obj) (hb : W.heap[b]? = some o) (hlow : w0.heap.size ≤ b) (hn : ∀ cs t fr, W.heap[b]? ≠ some (.cells cs t fr)) : ∃ m', Loc w0 m0 (W.putObj b o') m' Ls ∧ Ext m m' := by
 have hg := grownBy_putObj' W b o'
 exact ⟨_, h.mapTurn hg hlow hn, hidTo_ext (by rw [h.vw.size]; exact hg.size)⟩
theorem Loc.allocO {w0 m0 W m : World} {Ls : List Lo} (h : Loc w0 m0 W m Ls) (o : Obj) : ∃ m', Loc w0 m0 (W.alloc o) m' Ls ∧ Ext m m' := by
 have hg := World.grownBy_alloc W o none
 exact ⟨_, h.grow0 hg, hidTo_ext (by rw [h.vw.size]; exact hg.size)⟩
def rPost (Z : World → Prop) (W : World) : Exit → Act → World → Prop
 | .normal, _, W' => Still W W' ∧ Z W'
 | _, _, _ => False
theorem wp_rangeF {P : Program} {g : Operand} {ps : Array Tmp} {assign body : Code} {Q : Exit → Act → World → Prop} {a : Act} {w : World} {gf : Nat} {lb : Array Value} {p : Tmp} (n : Nat)
  (hg : a.eval g = .func (.func gf) #[] lb) (eg : ∀ args w, (callFunc gf args).run P w = .ok (.enter gf args) w) (hps : ps = #[p])
  (Y Z : Nat → Value → World → Prop) (S E : World → Prop)
  (hY : ∀ k v W b o o', Y k v W → w.heap.size ≤ b → W.heap[b]? = some o → (∀ cs t fr, o ≠ .cells cs t fr) → Y k v (W.putObj b o'))
  (hZ : ∀ k v W b o o', Z k v W → w.heap.size ≤ b → W.heap[b]? = some o → (∀ cs t fr, o ≠ .cells cs t fr) → Z k v (W.putObj b o'))
  (hE : ∀ W b o o', E W → w.heap.size ≤ b → W.heap[b]? = some o → (∀ cs t fr, o ≠ .cells cs t fr) → E (W.putObj b o'))
  (hS : ∀ o o', S ((w.alloc o).alloc o'))
  (hcall : ∀ (l : Nat) (R : World → Prop), (∀ W W', R W → Still W W' → R W') →
   (∀ k v W, Y k v W → R W → YieldAt Fence.wide n P l #[v] W fun e W' => e = .returned (.bool true) ∧ Z k v W' ∧ R W') →
   ∀ W1, S W1 → R W1 → Calls P gf (#[.func (.yield l) #[] #[]] ++ lb) W1 fun e W' => (∃ v, e = .returned v) ∧ E W' ∧ R W')
  (hround : ∀ (l k : Nat) (v : Value) (W : World), assign.wpIn (Rnd l) n P (Exit.then (fun a₁ w₁ => w₁ = W ∧ ∀ W2, Y k v W2 → body.wpIn (Rnd l) n P (rPost (Z k v) W2) a₁ W2) (fun _ _ _ => False))
   { tmps := a.tmps.setIfInBounds p v, defers := [] } W)
  (hdone : ∀ (D : Nat) (W : World), w.heap.size ≤ D → E W → W.heap[D]? = some (.deferred (some [])) → Q .normal { a with defers := { target := .collected D, args := #[] } :: a.defers } W) :
  (Code.rangeFunc g ps assign body).wp P Q a w := by
 subst hps
 refine (wpIn_wide (n := n)).1 ?_
 refine wpIn_rangeFunc ?_
 intro fn hfn
 obtain ⟨rec, hrec⟩ : ∃ rec : LoopState → Loop, rec = fun st => { state := st, pending := none, fn, tmps := a.tmps, params := #[p], assign, body, defers := w.heap.size } := ⟨_, rfl⟩
 obtain ⟨W1, hW1⟩ : ∃ W1, (w.alloc (.deferred (some []))).alloc (.loop (rec .ready)) = W1 := ⟨_, rfl⟩
 have hL1 : W1.heap[w.heap.size + 1]? = some (.loop (rec .ready)) := by
  rw [← hW1]; have := World.alloc_heap_new (w.alloc (.deferred (some []))) (.loop (rec .ready)); rwa [World.size_alloc] at this
 have hK1 : W1.heap[w.heap.size]? = some (.deferred (some [])) := by
  rw [← hW1]; exact (Below.heap_alloc _ _ _ (by simp)).trans (World.alloc_heap_new w _)
 have hncl : ∀ (x : Loop) cs t fr, Obj.loop x ≠ .cells cs t fr := fun _ _ _ _ e => by cases e
 have hncd : ∀ cs t fr, Obj.deferred (some []) ≠ .cells cs t fr := fun _ _ _ e => by cases e
 refine ⟨w.heap.size + 1, [{ target := .collected w.heap.size, args := #[] }], W1, { target := .fn (.func gf) lb, args := #[.func (.yield (w.heap.size + 1)) #[] #[]] }, W1, gf,
  #[.func (.yield (w.heap.size + 1)) #[] #[]] ++ lb, W1, ?_, ?_, ?_, ?_, fun h => (by cases h), ?_⟩
 ·rw [← hW1, hrec]; exact run_enterLoop_outer _ _ _ _ _
 ·simp only [resolve, hg]
  simp [go_sem]
 ·intro f' hf'; exact trivial
 ·simp [invoke, go_sem, eg]
 ·have hc := hcall (w.heap.size + 1) (fun W => W.heap[w.heap.size + 1]? = some (.loop (rec .ready)) ∧ W.heap[w.heap.size]? = some (.deferred (some [])))
   (fun W W' hR hs => ⟨hs _ _ hR.1 (hncl _), hs _ _ hR.2 hncd⟩) ?_ W1 (by rw [← hW1]; exact hS _ _) ⟨hL1, hK1⟩
  ·refine (callsIn_wide.2 hc).mono ?_
   rintro e W2 ⟨⟨v, rfl⟩, he, hl, hk⟩
   refine ⟨none, _, by have := run_endLoop (P := P) hl (by rw [hrec]; simp); rw [hrec] at this; exact this, ?_⟩
   exact hdone _ _ (Nat.le_refl _) (hE _ _ _ _ he (by omega) hl (hncl _)) ((World.putObj_heap_other (by omega)).trans hk)
  ·rintro k v W hy ⟨hl, hk⟩
   have hlt : w.heap.size + 1 < W.heap.size := (Array.getElem?_eq_some_iff.1 hl).1
   have hyl := run_yield (P := P) (args := #[v]) hl (by rw [hrec]; rfl)
   rw [hrec] at hyl
   refine ⟨fn, _, assign, body, hyl, roundIn_of_wpIn (F := Fence.wide) trivial ?_⟩
   have ez : (#[p].zip #[v]).foldl (fun t (x : Tmp × Value) => t.setIfInBounds x.1 x.2) a.tmps = a.tmps.setIfInBounds p v := by simp
   have hr0 := hround (w.heap.size + 1) k v W
   rw [← ez] at hr0
   refine wpIn_mono hr0 ?_
   rintro e0 a0 w0 h0
   cases e0 with
   | exit id => exact h0.elim
   | goto t => exact h0.elim
   | ret => exact h0.elim
   | panic ch => exact h0.elim
   | outgrown => exact h0.elim
   | normal =>
   obtain ⟨e9, hbody⟩ := h0
   rw [e9]
   refine ⟨_, run_beginRound hl (by rw [hrec]), ?_⟩
   have hl2 : (W.putObj (w.heap.size + 1) (.loop { rec .ready with state := .busy })).heap[w.heap.size + 1]? = some (.loop { rec .ready with state := .busy }) := World.putObj_heap_same hlt
   have hk2 : (W.putObj (w.heap.size + 1) (.loop { rec .ready with state := .busy })).heap[w.heap.size]? = some (.deferred (some [])) := (World.putObj_heap_other (by omega)).trans hk
   refine wpIn_mono (hbody _ (hY _ _ _ _ _ _ hy (by omega) hl (hncl _))) ?_
   rintro e a3 W3 hp
   cases e with
   | normal =>
    obtain ⟨hs3, hz3⟩ := hp
    have hl3 := hs3 _ _ hl2 (hncl _)
    have hr3 := run_endRound (P := P) none hl3
    rw [hrec] at hr3
    refine ⟨_, _, hr3, rfl, hZ _ _ _ _ _ _ hz3 (by omega) hl3 (hncl _), ?_, (World.putObj_heap_other (by omega)).trans (hs3 _ _ hk2 hncd)⟩
    rw [World.putObj_heap_same (Array.getElem?_eq_some_iff.1 hl3).1, hrec]
    rfl
   | ret => exact hp.elim
   | exit id => exact hp.elim
   | goto t => exact hp.elim
   | panic ch => exact hp.elim
   | outgrown => exact hp.elim
theorem still_setB {W : World} {g off : Nat} {t : TypeId} {cs : Array Value} (hb : Blk W g t cs) (vs : List Value) : Still W (W.setCells g off vs) := fun b o ho hn => by
 by_cases e : b = g
 ·subst e
  unfold Blk at hb
  rw [hb] at ho
  cases ho
  exact absurd rfl (hn _ _ _)
 ·exact (heap_setCells_other g vs off W b e).trans ho
section
variable {P : Program} {ops : Array Oper} {Q : Exit → Act → World → Prop} {rest : List Oper} {o : Oper} {a : Act} {w0 m0 W m : World} {Ls : List Lo}
theorem wl_box1 (hL : Loc w0 m0 W m Ls) (hw : Region.wanted o (yielded ops a.tmps) = true) {t : TypeId} {x : Operand} (ho : o.op = .box t x) {v : Value} (hx : a.eval x = v) (hc : v.cells = #[v])
  (h : ∀ W' m', Loc w0 m0 W' m' ((W.heap.size, t, #[v]) :: Ls) → Ext m m' → wpList P ops Q rest (a.put o.dst (.pointer (some ⟨W.heap.size, 0, none⟩))) W') : wpList P ops Q (o :: rest) a W :=
 wpList_wanted hw fun _ hK => op_box ho (by rw [hx, hc]; exact hK _ _ (h _ _ (hL.alloc #[v] t) (Ext.new _ _)))
theorem wl_loadB (hL : Loc w0 m0 W m Ls) (hw : Region.wanted o (yielded ops a.tmps) = true) {ty : TypeId} {x : Operand} (ho : o.op = .load ty x) {g off : Nat} (hx : a.eval x = .pointer (some ⟨g, off, none⟩))
  (hty : lfB P ty = true) {t : TypeId} {cs : Array Value} (hb : Blk w0 g t cs) {v : Value} (hv : cs[off]? = some v)
  (h : wpList P ops Q rest (a.put o.dst v) W) : wpList P ops Q (o :: rest) a W :=
 wpList_wanted hw fun _ hK => op_load1 ho hx hty (((hb.ext hL.ext).cell off).trans hv) (hK _ _ h)
theorem wl_store1S (hL : Loc w0 m0 W m Ls) (hw : Region.wanted o (yielded ops a.tmps) = true) {ty : TypeId} {x y : Operand} (ho : o.op = .store ty x y) {g off : Nat} (hx : a.eval x = .pointer (some ⟨g, off, none⟩)) {v : Value}
  (hy : a.eval y = v) (hty : lfB P ty = true) {n : Nat} {t : TypeId} {cs : Array Value} (hn : Ls[n]? = some (g, t, cs)) (hfit : off < cs.size) (h1 : v.oneCell' = true) (hc : v.cells = #[v])
  (h : ∀ W', Loc w0 m0 W' m (Ls.set n (g, t, splice cs off [v])) → Still W W' → wpList P ops Q rest (a.put o.dst undef) W') : wpList P ops Q (o :: rest) a W :=
 wpList_wanted hw fun _ hK => op_store1 ho hx hy hty (hL.at_ hn) hfit h1 hc (hK _ _ (h _ (hL.store hn off [v]) (still_setB (hL.at_ hn) [v])))
end
end Go.Proofs.YtmhkmmmompediaaGreat

/- The violation that the groups give is the violation of the cut: the plain law. -/
namespace Go.Proofs.YtmhkmmmompediaaGreat
open Go.RowKit

def sumG (F : Nat → Int) : List Grp → Rat
 | [] => 0
 | x :: ls => ((F x.1 : Int) : Rat) * x.2.1 + sumG F ls
theorem sumG_append (F : Nat → Int) : ∀ (a b : List Grp), sumG F (a ++ b) = sumG F a + sumG F b
 | [], b => by simp [sumG, Rat.zero_add]
 | x :: a, b => by
  simp only [List.cons_append, sumG]
  rw [sumG_append F a b, Rat.add_assoc]
theorem sumG_upd (F : Nat → Int) (mk : Nat) (v : Rat) : ∀ (ls : List Grp), (ls.map Prod.fst).Nodup → mk ∈ ls.map Prod.fst → sumG F (ls.map fun x => if x.1 = mk then (x.1, x.2.1 + v, x.2.2) else x) = sumG F ls + ((F mk : Int) : Rat) * v
 | [], _, h => by simp at h
 | x :: ls, hn, h => by
  rw [List.map_cons, List.nodup_cons] at hn
  simp only [List.map_cons, sumG]
  by_cases hx : x.1 = mk
  ·have hno : mk ∉ ls.map Prod.fst := hx ▸ hn.1
   have e : (ls.map fun x => if x.1 = mk then (x.1, x.2.1 + v, x.2.2) else x) = ls := by
    refine (List.map_congr_left fun y hy => ?_).trans (List.map_id _)
    rw [if_neg (fun he => hno (List.mem_map.2 ⟨y, hy, he⟩))]; rfl
   rw [if_pos hx, e]
   simp only
   rw [hx, Rat.mul_add, Rat.add_assoc, Rat.add_assoc, Rat.add_comm (sumG F ls)]
  ·have h' : mk ∈ ls.map Prod.fst := by
    rw [List.map_cons, List.mem_cons] at h
    exact h.resolve_left fun he => hx he.symm
   rw [if_neg hx, sumG_upd F mk v ls hn.2 h', Rat.add_assoc]
theorem sumG_grpS (F : Nat → Int) {ls : List Grp} (hn : GrpOk ls) (mk : Nat) (v : Rat) : sumG F (grpS ls mk v) = sumG F ls + ((F mk : Int) : Rat) * v := by
 unfold grpS
 split
 ·next h => exact sumG_upd F mk v ls hn h
 ·rw [sumG_append]
  simp only [sumG]
  rw [Rat.add_zero, show (((0 : Int) : Rat) + v) = v from Rat.zero_add v]
theorem sumG_keep (F : Nat → Int) : ∀ ls : List Grp, sumG F (ls.filter keepG) = sumG F ls
 | [] => rfl
 | x :: ls => by
  rw [List.filter_cons]
  split
  ·simp only [sumG]; rw [sumG_keep F ls]
  ·next h =>
   have h0 : x.2.1 = 0 := by simpa [keepG] using h
   simp only [sumG]
   rw [sumG_keep F ls, h0, Rat.mul_zero, Rat.zero_add]
def sumC (F : Nat → Int) (rws : List Int) (cols : List Col) (us : List Rat) (k : Nat) : Rat := ((cols.zip us).take k).foldl (fun s e => s + ((F (maskF rws (opF e.1.2.1)) : Int) : Rat) * e.2) 0
theorem sumG_grpT (F : Nat → Int) (rws : List Int) (cols : List Col) (us : List Rat) : ∀ k, sumG F (grpT rws cols us k) = sumC F rws cols us k
 | 0 => by simp [grpT, sumC, sumG]
 | k + 1 => by
  cases hk : (cols.zip us)[k]? with
  | none =>
   have h1 := List.getElem?_eq_none_iff.1 hk
   have e1 : grpT rws cols us (k + 1) = grpT rws cols us k := by unfold grpT; rw [List.take_of_length_le (by omega), List.take_of_length_le (by omega)]
   have e2 : sumC F rws cols us (k + 1) = sumC F rws cols us k := by unfold sumC; rw [List.take_of_length_le (by omega), List.take_of_length_le (by omega)]
   rw [e1, e2]; exact sumG_grpT F rws cols us k
  | some e =>
   obtain ⟨c, q⟩ := e
   obtain ⟨h1, h2⟩ := List.getElem?_zip_eq_some.1 hk
   rw [grpT_step h1 h2, sumG_grpS F (grpT_ok rws cols us k), sumG_grpT F rws cols us k]
   unfold sumC
   rw [← take_snoc hk, List.foldl_append]; rfl
theorem vio_sum {F : Nat → Int} {rws : List Int} {x : Cut} {cols : List Col} (us : List Rat) (hF : ∀ c ∈ cols, F (maskF rws (opF c.2.1)) = coefF x (opF c.2.1)) : ∀ k, vioT x cols us k = ((-((x.1.length : Int) / x.2) : Int) : Rat) + sumC F rws cols us k
 | 0 => by simp [vioT, sumC, Rat.add_zero]
 | k + 1 => by
  cases hk : (cols.zip us)[k]? with
  | none =>
   have h1 := List.getElem?_eq_none_iff.1 hk
   have e1 : vioT x cols us (k + 1) = vioT x cols us k := by unfold vioT; rw [List.take_of_length_le (by omega), List.take_of_length_le (by omega)]
   have e2 : sumC F rws cols us (k + 1) = sumC F rws cols us k := by unfold sumC; rw [List.take_of_length_le (by omega), List.take_of_length_le (by omega)]
   rw [e1, e2]; exact vio_sum us hF k
  | some e =>
   obtain ⟨c, q⟩ := e
   obtain ⟨h1, h2⟩ := List.getElem?_zip_eq_some.1 hk
   rw [vioT_step h1 h2, vio_sum us hF k]
   have e2 : sumC F rws cols us (k + 1) = sumC F rws cols us k + ((F (maskF rws (opF c.2.1)) : Int) : Rat) * q := by
    unfold sumC
    rw [← take_snoc hk, List.foldl_append]; rfl
   rw [e2, hF c (List.mem_of_getElem? h1), Rat.add_assoc]
theorem scF_val {x : Grp} {c : Nat} (hd : x.2.1.den ∣ c) : (((scF c x).2.2 : Int) : Rat) = x.2.1 * ((c : Int) : Rat) := by
 obtain ⟨z, hz⟩ := hd
 have h : x.2.1 * ((c : Int) : Rat) = ((x.2.1.num * z : Int) : Rat) := by
  have hdn : (x.2.1.den : Int) ≠ 0 := by have := x.2.1.den_nz; omega
  have h1 : x.2.1 = Rat.divInt x.2.1.num x.2.1.den := (Rat.num_divInt_den _).symm
  conv => lhs; rw [h1]
  rw [← rat_one (c : Int), ← rat_one (x.2.1.num * z), Rat.divInt_mul_divInt, Rat.divInt_eq_divInt_iff (by rw [Int.mul_one]; exact hdn) (by decide), hz, Int.natCast_mul]
  simp only [Int.mul_one, Int.one_mul, Int.mul_assoc, Int.mul_comm (x.2.1.den : Int)]
 show ((flr (x.2.1 * ((c : Int) : Rat)) : Int) : Rat) = _
 rw [h]
 unfold flr
 rw [Rat.num_intCast, Rat.den_intCast]
 simp
def grF (mk d : Nat) (q : Nat) : Int := ((popF (q &&& mk) : Nat) : Int) / (d : Int)
theorem exT_is {ls : List Grp} {mk sz d cm : Nat} (hd : ∀ x ∈ ls, x.2.1.den ∣ cm) : ∀ k, ((exT (ls.map (scF cm)) mk sz d cm k : Int) : Rat) = (((-((sz : Int) / (d : Int)) : Int) : Rat) + sumG (grF mk d) (ls.take k)) * ((cm : Int) : Rat)
 | 0 => by
  show (((-((sz : Int) / (d : Int))) * (cm : Int) : Int) : Rat) = _
  rw [Rat.intCast_mul]
  simp [sumG, Rat.add_zero]
 | k + 1 => by
  cases hk : ls[k]? with
  | none =>
   have h1 := List.getElem?_eq_none_iff.1 hk
   have e1 : exT (ls.map (scF cm)) mk sz d cm (k + 1) = exT (ls.map (scF cm)) mk sz d cm k := by
    unfold exT; rw [List.take_of_length_le (by simp; omega), List.take_of_length_le (by simp; omega)]
   have e2 : ls.take (k + 1) = ls.take k := by rw [List.take_of_length_le (by omega), List.take_of_length_le (by omega)]
   rw [e1, e2]; exact exT_is hd k
  | some x =>
   have hk' : (ls.map (scF cm))[k]? = some (scF cm x) := by rw [List.getElem?_map, hk]; rfl
   rw [exT_step hk', Rat.intCast_add, exT_is hd k, Rat.intCast_mul, scF_val (hd x (List.mem_of_getElem? hk)), ← take_snoc hk, sumG_append]
   have e : grN mk d (scF cm x) = grF mk d x.1 := rfl
   rw [e]
   simp only [sumG]
   rw [Rat.add_zero, ← Rat.add_assoc, Rat.add_mul, Rat.add_mul, Rat.add_mul, Rat.mul_assoc]
theorem exI_is {ls : List Grp} {mk sz d cm : Nat} (hd : ∀ x ∈ ls, x.2.1.den ∣ cm) (hc : 1 ≤ cm) : Rat.divInt (exI (ls.map (scF cm)) mk sz d cm) cm = ((-((sz : Int) / (d : Int)) : Int) : Rat) + sumG (grF mk d) ls := by
 have h := exT_is (mk := mk) (sz := sz) (d := d) hd (ls.map (scF cm)).length
 have hl : ls.take (ls.map (scF cm)).length = ls := by rw [List.length_map, List.take_length]
 rw [hl] at h
 have hne : ((cm : Int) : Rat) ≠ 0 := by
  intro e
  have : (cm : Int) = 0 := Rat.intCast_inj.1 e
  omega
 unfold exI
 rw [Rat.divInt_eq_div, h, Rat.div_def, Rat.mul_assoc, Rat.mul_inv_cancel _ hne, Rat.mul_one]
def maskS (s : List Nat) : Nat := s.foldl (fun m r => m ||| 2 ^ r) 0
theorem fold_bit {α : Type} (f : α → Nat) (i : Nat) : ∀ (l : List α) (acc : Nat), ((l.foldl (fun s x => s ||| 2 ^ f x) acc).testBit i = true) ↔ (acc.testBit i = true ∨ ∃ x ∈ l, f x = i)
 | [], acc => by simp
 | x :: l, acc => by
  rw [List.foldl_cons, fold_bit f i l, Nat.testBit_or, Nat.testBit_two_pow]
  simp only [Bool.or_eq_true, decide_eq_true_eq, List.mem_cons, or_assoc]
  constructor
  ·rintro (h | h | ⟨y, hy, h⟩)
   ·exact .inl h
   ·exact .inr ⟨x, .inl rfl, h⟩
   ·exact .inr ⟨y, .inr hy, h⟩
  ·rintro (h | ⟨y, rfl | hy, h⟩)
   ·exact .inl h
   ·exact .inr (.inl h)
   ·exact .inr (.inr ⟨y, hy, h⟩)
theorem maskF_bit (rws l : List Int) (i : Nat) : ((maskF rws l).testBit i = true) ↔ ∃ f ∈ l, posF rws f = i := by
 unfold maskF maskT
 rw [List.take_length, fold_bit (posF rws) i l 0]
 simp
theorem maskS_bit (s : List Nat) (i : Nat) : ((maskS s).testBit i = true) ↔ i ∈ s := by
 unfold maskS
 rw [fold_bit (fun r => r) i s 0]
 simp
theorem posF_at {rws : List Int} {f : Int} (h : f ∈ rws) : rws[posF rws f]? = some f := by
 have hlt := posF_lt h
 have := List.findIdx_getElem (p := fun r => decide (r = f)) (xs := rws) (w := hlt)
 rw [List.getElem?_eq_getElem hlt]
 simp only [decide_eq_true_eq] at this
 exact congrArg some this
def rowsS (rws : List Int) (s : List Nat) : List Int := s.map fun i => rws.getD i 0
theorem pop_mask {rws l : List Int} {s : List Nat} (hn : rws.Nodup) (h5 : rws.length ≤ 5) (hl : ∀ f ∈ l, f ∈ rws) (hln : l.Nodup) (hs : ∀ i ∈ s, i < rws.length) : popF (maskF rws l &&& maskS s) = coefN (rowsS rws s) l := by
 unfold popF coefN
 rw [List.countP_eq_length_filter]
 have hp : ((List.range 5).filter fun i => (maskF rws l &&& maskS s).testBit i).Perm ((l.filter fun f => decide (f ∈ rowsS rws s)).map (posF rws)) := by
  refine (List.perm_ext_iff_of_nodup ?_ ?_).2 fun i => ?_
  ·exact List.Nodup.sublist List.filter_sublist List.nodup_range
  ·rw [List.nodup_iff_pairwise_ne, List.pairwise_map]
   refine (List.Pairwise.sublist List.filter_sublist (List.nodup_iff_pairwise_ne.1 hln)).imp_of_mem fun {a b} ha hb hab e => ?_
   have h1 := posF_at (hl a (List.mem_filter.1 ha |>.1))
   have h2 := posF_at (hl b (List.mem_filter.1 hb |>.1))
   rw [e, h2] at h1
   exact hab (Option.some.inj h1).symm
  ·rw [List.mem_filter, List.mem_map, List.mem_range, Nat.testBit_and, Bool.and_eq_true, maskF_bit, maskS_bit]
   constructor
   ·rintro ⟨hi, ⟨f, hf, rfl⟩, hsi⟩
    refine ⟨f, List.mem_filter.2 ⟨hf, decide_eq_true (List.mem_map.2 ⟨_, hsi, ?_⟩)⟩, rfl⟩
    rw [List.getD_eq_getElem?_getD, posF_at (hl f hf)]; rfl
   ·rintro ⟨f, hf, rfl⟩
    obtain ⟨hfl, hfs⟩ := List.mem_filter.1 hf
    obtain ⟨j, hj, hjf⟩ := List.mem_map.1 (of_decide_eq_true hfs)
    have hjl := hs j hj
    have hja : rws[j]? = some f := by
     rw [List.getElem?_eq_getElem hjl]
     rw [List.getD_eq_getElem?_getD, List.getElem?_eq_getElem hjl] at hjf
     exact congrArg some hjf
    have hpj := posF_eq hn hja
    exact ⟨by have := posF_lt (hl f hfl); omega, ⟨f, hfl, rfl⟩, by rw [hpj]; exact hj⟩
 have := hp.length_eq
 rwa [List.length_map] at this
theorem exI_vio {ms : Ms} {us : List Rat} (ok : VOk ms us) (h5 : ms.rows.length ≤ 5) {s : List Nat} {d cm : Nat} (hs : ∀ i ∈ s, i < ms.rows.length) (hd : ∀ x ∈ grpF ms.rows ms.cols us, x.2.1.den ∣ cm) (hc : 1 ≤ cm) :
  Rat.divInt (exI ((grpF ms.rows ms.cols us).map (scF cm)) (maskS s) s.length d cm) cm = vioF (rowsS ms.rows s, (d : Int)) ms.cols us := by
 have hn : ms.rows.Nodup := (asc_pw ok.ms.asc).imp fun h => Int.ne_of_lt h
 rw [exI_is hd hc]
 unfold vioF
 rw [vio_sum (F := grF (maskS s) d) (rws := ms.rows) us (fun c hcm => ?_)]
 ·unfold grpF
  rw [sumG_keep, sumG_grpT]
  simp [rowsS]
 ·have hco := ok.ms.cols c hcm
  unfold grF coefF
  rw [pop_mask hn h5 hco.sub hco.nodup hs]
theorem grpS_mask {ls : List Grp} {mk : Nat} {v : Rat} (h : ∀ x ∈ ls, x.1 < 32) (hm : mk < 32) : ∀ x ∈ grpS ls mk v, x.1 < 32 := by
 intro x hx
 unfold grpS at hx
 split at hx
 ·obtain ⟨y, hy, rfl⟩ := List.mem_map.1 hx
  split
  ·exact h y hy
  ·exact h y hy
 ·rcases List.mem_append.1 hx with hx | hx
  ·exact h x hx
  ·rw [List.mem_singleton.1 hx]; exact hm
theorem grpT_mask {rws : List Int} {cols : List Col} (us : List Rat) (h5 : rws.length ≤ 5) (hc : ∀ c ∈ cols, ∀ f ∈ opF c.2.1, f ∈ rws) : ∀ k, ∀ x ∈ grpT rws cols us k, x.1 < 32
 | 0 => fun x hx => by simp [grpT] at hx
 | k + 1 => by
  cases hk : (cols.zip us)[k]? with
  | none =>
   have h1 := List.getElem?_eq_none_iff.1 hk
   have e1 : grpT rws cols us (k + 1) = grpT rws cols us k := by unfold grpT; rw [List.take_of_length_le (by omega), List.take_of_length_le (by omega)]
   rw [e1]; exact grpT_mask us h5 hc k
  | some e =>
   obtain ⟨c, q⟩ := e
   obtain ⟨h1, h2⟩ := List.getElem?_zip_eq_some.1 hk
   rw [grpT_step h1 h2]
   exact grpS_mask (grpT_mask us h5 hc k) (maskT_lt h5 (hc c (List.mem_of_getElem? h1)) _)
theorem scF_le {x : Grp} {cm : Nat} (ht : Tw 108 x.2.1) (hd : x.2.1.den ∣ cm) (hc : cm ≤ 12) : (scF cm x).2.2.natAbs ≤ 1000 := by
 have h := scF_val hd
 obtain ⟨z, hz, hb⟩ := ht
 generalize (scF cm x).2.2 = s at *
 rw [hz, ← rat_one s, ← rat_one (cm : Int), Rat.divInt_mul_divInt, Rat.divInt_eq_divInt_iff (by decide) (by decide)] at h
 have h2 : s * 12 = z * (cm : Int) := by omega
 have h3 : s.natAbs * 12 = z.natAbs * cm := by
  have := congrArg Int.natAbs h2
  rwa [Int.natAbs_mul, Int.natAbs_mul, Int.natAbs_natCast] at this
 have h4 : z.natAbs * cm ≤ 108 * 12 := Nat.mul_le_mul hb hc
 omega
end Go.Proofs.YtmhkmmmompediaaGreat

/- cuts.subsets$1: the iterator over lists of places, whose one row turns between the rounds. -/
namespace Go.Proofs.YtmhkmmmompediaaGreat
open Go.RowKit

def intsA (s : List Nat) : Array Value := (s.map fun (x : Nat) => Value.int .i64 (x : Int)).toArray
theorem intsA_size (s : List Nat) : (intsA s).size = s.length := by simp [intsA]
theorem intsA_at {s : List Nat} {i x : Nat} (h : s[i]? = some x) : (intsA s)[i]? = some (.int .i64 (x : Int)) := by
 simp [intsA, h]
theorem intsA_set {s : List Nat} {i x : Nat} : (intsA s).setIfInBounds i (.int .i64 (x : Int)) = intsA (s.set i x) := by
 unfold intsA
 rw [List.map_set, List.setIfInBounds_toArray]
def curL (W : World) (g : Nat) : List Nat := match W.heap[g]? with
 | some (.cells cs _ _) => cs.toList.map fun v => (intOf v).toNat
 | _ => []
theorem curL_is {W : World} {g : Nat} {t : TypeId} {s : List Nat} (h : Blk W g t (intsA s)) : curL W g = s := by
 unfold Blk at h
 unfold curL
 rw [h]
 simp only [intsA, List.map_map]
 have : ((fun v => (intOf v).toNat) ∘ fun (x : Nat) => Value.int .i64 (x : Int)) = id := by
  funext x; simp [intOf]
 rw [this, List.map_id]
theorem lb_int : lfB Tryz.prog 3 = true := by kernel_rfl
theorem zc_int1 : zc Tryz.prog 3 = some #[.int .i64 0] := by kernel_rfl
theorem fidx_ok : ((List.range 6).all fun n => (List.range 6).all fun z => decide (z < 3) || (List.range (subsF n z).length).all fun k => (subsF n z).findIdx (fun l => l == (subsF n z).getD k []) == k) = true := by decide +kernel
theorem fidx {n size k : Nat} {s : List Nat} (hn : n ≤ 5) (h3 : 3 ≤ size) (h5 : size ≤ 5) (h : (subsF n size)[k]? = some s) : (subsF n size).findIdx (fun l => l == s) = k := by
 have h1 := List.all_eq_true.1 fidx_ok n (List.mem_range.2 (by omega))
 have h2 := List.all_eq_true.1 h1 size (List.mem_range.2 (by omega))
 rw [Bool.or_eq_true, decide_eq_true_eq] at h2
 have h3 := List.all_eq_true.1 (h2.resolve_left (by omega)) k (List.mem_range.2 (List.getElem?_eq_some_iff.1 h).1)
 rw [List.getD_eq_getElem?_getD, h] at h3
 exact eq_of_beq h3
def fillA (size i : Nat) : Array Value := ((List.range i).map (fun (x : Nat) => Value.int .i64 (x : Int)) ++ List.replicate (size - i) (Value.int .i64 0)).toArray
theorem fillA_size {size i : Nat} (h : i ≤ size) : (fillA size i).size = size := by simp [fillA]; omega
theorem fillA_step {size i : Nat} (h : i < size) : (fillA size i).setIfInBounds i (.int .i64 (i : Int)) = fillA size (i + 1) := by
 unfold fillA
 rw [List.setIfInBounds_toArray, List.set_append_right _ _ (by simp)]
 simp only [List.length_map, List.length_range, Nat.sub_self]
 obtain ⟨k, hk⟩ : ∃ k, size - i = k + 1 := ⟨size - i - 1, by omega⟩
 rw [hk, List.replicate_succ, List.set_cons_zero, List.range_succ, List.map_append, show size - (i + 1) = k by omega]
 simp
theorem fillA_put {size i : Nat} (h : i < size) : splice (fillA size i) (0 + i) [.int .i64 (i : Int)] = fillA size (i + 1) := by
 rw [Nat.zero_add, ← fillA_step h]
 simp only [splice]
theorem fillA_all (size : Nat) : fillA size size = intsA (List.range size) := by simp [fillA, intsA]
theorem made_ints (n : Nat) : madeCells #[.int .i64 0] (n * 1) = fillA n 0 := by
 unfold madeCells fillA
 apply Array.ext
 ·simp
 ·intro i h1 h2
  simp [Nat.mod_one]

end Go.Proofs.YtmhkmmmompediaaGreat

/- cuts.subsets: the closure and what it has captured. -/
namespace Go.Proofs.YtmhkmmmompediaaGreat
open Go.RowKit

theorem u_subsets (n size : Int) (w m : World) (hV : Vw m w) : Calls Tryz.prog 101 #[.int .i64 n, .int .i64 size] w (RetV w m fun m' r => ∃ bs bn, r = .func (.func 160) #[] #[.pointer (some ⟨bs, 0, none⟩), .pointer (some ⟨bn, 0, none⟩)] ∧ m'.cell? ⟨bs, 0, none⟩ = some (.int .i64 size) ∧ m'.cell? ⟨bn, 0, none⟩ = some (.int .i64 n)) := by
 have hL := Loc.start hV
 clear hV
 go_enter Tryz.func101, Tryz.ntmps101
 go_upto_region 0 with (fail)
 refine wp_region_lit ?_
 refine wl_box1 hL (wanted_none rfl) rfl rfl rfl ?_
 clear hL
 intro W2 m2 hL e2
 simp only [Act.put, zq1, zq2, zq3]
 refine wl_box1 hL (wanted_none rfl) rfl rfl rfl ?_
 clear hL
 intro W3 m3 hL e3
 simp only [Act.put, zq1, zq2, zq3]
 obtain ⟨m4, hL4, hle4, hsl4⟩ := Loc.show1 (A := [(_, _, _)]) hL 1
 have h4 := hsl4.cell (j := 0) rfl
 obtain ⟨m5, hL5, hle5, hsl5⟩ := Loc.show1 (A := []) hL4 1
 have h5 := hsl5.cell (j := 0) rfl
 have h4' := hle5.cell _ _ h4
 clear hL hL4 hsl4 hsl5 h4
 have hL := hL5
 clear hL5
 have H4 := Lib.hid h4'
 have H5 := Lib.hid h5
 clear h4' h5
 go_wp2_with (first | go_skip | refine tP ?_ | (refine tB ?_; clear hL; intro _ _ hL _))
 go_ret
 exact RetV.mk hL ⟨_, _, rfl, H5.out, H4.out⟩
end Go.Proofs.YtmhkmmmompediaaGreat

/- cuts.Separate: sizes out of range; what is found. -/
namespace Go.Proofs.YtmhkmmmompediaaGreat
open Go.RowKit

theorem Sl.range {m : World} {g : Nat} {cs : List Value} (h : Sl m (some ⟨g, 0, none⟩) cs) : m.rangeAt g 0 cs := by
 intro j v hj
 rw [Nat.zero_add]
 exact h.cell hj

def cutS (ms : Ms) (d : Nat) (s : List Nat) : Cut := (rowsS ms.rows s, (d : Int))
def fndS (ms : Ms) (us : List Rat) (d : Nat) (fs : List Can) (s : List Nat) : List Can :=
 if vioF (cutS ms d s) ms.cols us ≤ 0 then fs else if cutS ms d s ∈ ms.cuts then fs else fs ++ [(cutS ms d s, vioF (cutS ms d s) ms.cols us)]
def fndT (ms : Ms) (us : List Rat) (sz d : Nat) (k : Nat) : List Can := ((subsF ms.rows.length sz).take k).foldl (fndS ms us d) []
def fndF (ms : Ms) (us : List Rat) (sz d : Nat) : List Can := fndT ms us sz d (subsF ms.rows.length sz).length
def sepF (ms : Ms) (us : List Rat) (sz d most : Nat) : List Cut := ((srtC (fndF ms us sz d)).map Prod.fst).take most
theorem fndT_step {ms : Ms} {us : List Rat} {sz d k : Nat} {s : List Nat} (h : (subsF ms.rows.length sz)[k]? = some s) : fndT ms us sz d (k + 1) = fndS ms us d (fndT ms us sz d k) s := by
 unfold fndT; rw [← take_snoc h, List.foldl_append]; rfl
theorem fndS_len (ms : Ms) (us : List Rat) (d : Nat) (fs : List Can) (s : List Nat) : (fndS ms us d fs s).length ≤ fs.length + 1 := by
 unfold fndS
 split
 ·omega
 ·split
  ·omega
  ·simp
theorem fndT_len (ms : Ms) (us : List Rat) (sz d : Nat) : ∀ k, (fndT ms us sz d k).length ≤ k
 | 0 => Nat.le_refl _
 | k + 1 => by
  have ih := fndT_len ms us sz d k
  cases hk : (subsF ms.rows.length sz)[k]? with
  | none =>
   have h1 := List.getElem?_eq_none_iff.1 hk
   have e : fndT ms us sz d (k + 1) = fndT ms us sz d k := by unfold fndT; rw [List.take_of_length_le (by omega), List.take_of_length_le (by omega)]
   rw [e]; omega
  | some s =>
   rw [fndT_step hk]
   have := fndS_len ms us d (fndT ms us sz d k) s
   omega
theorem fndS_mem {ms : Ms} {us : List Rat} {d : Nat} {fs : List Can} {s : List Nat} {x : Can} (h : x ∈ fndS ms us d fs s) : x ∈ fs ∨ x = (cutS ms d s, vioF (cutS ms d s) ms.cols us) := by
 unfold fndS at h
 split at h
 ·exact .inl h
 ·split at h
  ·exact .inl h
  ·rcases List.mem_append.1 h with h | h
   ·exact .inl h
   ·exact .inr (List.mem_singleton.1 h)
theorem fndT_mem {ms : Ms} {us : List Rat} {sz d : Nat} {x : Can} : ∀ {k}, x ∈ fndT ms us sz d k → ∃ s ∈ subsF ms.rows.length sz, x = (cutS ms d s, vioF (cutS ms d s) ms.cols us)
 | 0, h => by cases h
 | k + 1, h => by
  cases hk : (subsF ms.rows.length sz)[k]? with
  | none =>
   have h1 := List.getElem?_eq_none_iff.1 hk
   have e : fndT ms us sz d (k + 1) = fndT ms us sz d k := by unfold fndT; rw [List.take_of_length_le (by omega), List.take_of_length_le (by omega)]
   rw [e] at h
   exact fndT_mem h
  | some s =>
   rw [fndT_step hk] at h
   rcases fndS_mem h with h | h
   ·exact fndT_mem h
   ·exact ⟨s, List.mem_of_getElem? hk, h⟩
end Go.Proofs.YtmhkmmmompediaaGreat

/- The master problem of pairinglaw29.known: the plain law. -/
namespace Go.Proofs.YtmhkmmmompediaaGreat
open Go.RowKit

def knC (a b : Int) : Col := (⟨#[]⟩, [[(a, false), (b, false)]], 0)
def knM : Ms := ⟨3, [0, 1, 2], 10, [knC 0 1, knC 1 2, knC 2 0], []⟩
def knU : List Rat := [halfR, halfR, halfR]
theorem knC_ok {a b : Int} (h : (a = 0 ∧ b = 1) ∨ (a = 1 ∧ b = 2) ∨ (a = 2 ∧ b = 0)) : ColOk [0, 1, 2] (knC a b) := by
 rcases h with ⟨rfl, rfl⟩ | ⟨rfl, rfl⟩ | ⟨rfl, rfl⟩ <;> exact ⟨by decide, by decide, by decide, by decide, by decide, by decide, by decide⟩
theorem knM_ok : MsOk knM := by
 refine ⟨by decide, by decide, by decide, by decide, by decide, by decide, ?_, by decide, by decide, ?_, by decide, ?_⟩
 ·intro j x y hx hy
  rcases j with _ | _ | j
  ·cases hx; cases hy; decide
  ·cases hx; cases hy; decide
  ·rcases j with _ | j
   ·cases hy
   ·cases hy
 ·intro c hc
  rcases List.mem_cons.1 hc with rfl | hc
  ·exact knC_ok (by decide)
  ·rcases List.mem_cons.1 hc with rfl | hc
   ·exact knC_ok (by decide)
   ·rw [List.mem_singleton.1 hc]; exact knC_ok (by decide)
 ·intro c hc; cases hc
theorem tw_half : Tw 18 halfR := half_tw.mono (by decide)
theorem knV_ok : VOk knM knU := by
 refine ⟨knM_ok, rfl, fun v hv => ?_, by decide⟩
 rcases List.mem_cons.1 hv with rfl | hv
 ·exact tw_half
 ·rcases List.mem_cons.1 hv with rfl | hv
  ·exact tw_half
  ·rw [List.mem_singleton.1 hv]; exact tw_half
theorem kn_vio : vioF ([0, 1, 2], 2) knM.cols knU = halfR := by decide +kernel
theorem kn_sep : sepF knM knU 3 2 10 = [([0, 1, 2], 2)] := by decide +kernel
theorem kn_cut : cutB knM.rows ([0, 1, 2], 2) = true := by decide +kernel
end Go.Proofs.YtmhkmmmompediaaGreat

/- pairinglaw29.half; a new slice in a drawn region, shown at once. -/
namespace Go.Proofs.YtmhkmmmompediaaGreat
open Go.RowKit

theorem one2_new {a : Act} {dst : Option Nat} {W1 m1 : World} {e : TypeId} {R : World → Value → Prop} {cs : Array Value} {n : Nat} (hV : Vw m1 W1) (hR : ∀ m', Ext m1 m' → Blk m' W1.heap.size e cs → R m' (.slice (some ⟨W1.heap.size, 0, none⟩) n n)) :
  One2 (Of R) false a dst W1 m1 .normal (a.put dst (.slice (some ⟨W1.heap.size, 0, none⟩) n n)) (W1.alloc (.cells cs e)) := by
 have h := (Loc.start hV).allocV cs e
 refine ⟨rfl, h.ext, _, _, h.mext, h.vw, rfl, hR _ h.mext ?_, fun h => by cases h⟩
 rw [← hV.size]
 exact Blk.new m1 e cs

theorem k_half (w m : World) (hV : Vw m w) : Calls Tryz.prog 95 #[] w (RetV w m fun m' r => FracC m' r halfR) := by
 have hL := Loc.start hV
 clear hV
 go_enter Tryz.func95, Tryz.ntmps95
 go_wp2_with (first | go_skip | refine tP ?_ | (refine tS ?_; clear hL; intro _ hL) | (refine tB ?_; clear hL; intro _ _ hL _))
 refine (r_Int 1 _ _ hL.vw (by decide) (by decide)).mono ?_
 rintro e Wc1 ⟨vc1, mc1, rfl, hE, hMc1, hV, hc1⟩
 replace hL := hL.call hE (by assumption) hV; clear hE hV
 obtain ⟨gc1', Ac1', nc1', cc1', hc1', Bc1', kc1', dc1', rfl, hc1⟩ := hc1.lit
 go_wp2_with (first | go_skip | refine tP ?_ | (refine tS ?_; clear hL; intro _ hL) | (refine tB ?_; clear hL; intro _ _ hL _))
 refine (r_Int 2 _ _ hL.vw (by decide) (by decide)).mono ?_
 rintro e Wc2 ⟨vc2, mc2, rfl, hE, hMc2, hV, hc2⟩
 replace hL := hL.call hE (by assumption) hV; clear hE hV
 obtain ⟨gc2', Ac2', nc2', cc2', hc2', Bc2', kc2', dc2', rfl, hc2⟩ := hc2.lit
 go_wp2_with (first | go_skip | refine tP ?_ | (refine tS ?_; clear hL; intro _ hL) | (refine tB ?_; clear hL; intro _ _ hL _))
 refine (r_DivC _ _ _ _ _ _ hL.vw (hc1.le leX) hc2 ((Tn.int (k := 1000) (by decide) (by decide)).fit (by decide)) ((Tn.int (k := 1000) (by decide) (by decide)).fit (by decide))).mono ?_
 rintro e Wc3 ⟨vc3, mc3, rfl, hE, hMc3, hV, hc3⟩
 replace hL := hL.call hE (by assumption) hV; clear hE hV
 obtain ⟨gc3', Ac3', nc3', cc3', hc3', Bc3', kc3', dc3', rfl, hc3⟩ := hc3.lit
 rw [div_mix] at hc3
 have HH : Hid (FracC mc3 (.agg #[.bool gc3', .slice Ac3' nc3' cc3', .bool hc3', .slice Bc3' kc3' dc3']) halfR) := hc3
 clear hc1 hc2 hc3
 go_wp2_with (first | go_skip | refine tP ?_ | (refine tS ?_; clear hL; intro _ hL) | (refine tB ?_; clear hL; intro _ _ hL _))
 refine fin_agg hL Tryz.results95 rfl rfl loX AgC.h (by exact rfl) ?_
 exact HH.out
end Go.Proofs.YtmhkmmmompediaaGreat

/- cuts.Separate: one round of the range over the lists of places. -/
namespace Go.Proofs.YtmhkmmmompediaaGreat
open Go.RowKit

theorem grpF_len (rws : List Int) (cols : List Col) (us : List Rat) : (grpF rws cols us).length ≤ cols.length := Nat.le_trans (List.length_filter_le _ _) (grpT_len rws cols us _)
structure SepG (ms : Ms) (us : List Rat) (ls : List Grp) (cm : Nat) : Prop where
 c1 : 1 ≤ cm
 c2 : cm ≤ 12
 len : ls.length ≤ 6
 mask : ∀ x ∈ ls, x.1 < 32
 sc : ∀ x ∈ ls, x.2.2.natAbs ≤ 1000
 vio : ∀ (s : List Nat) (d : Nat), (∀ i ∈ s, i < ms.rows.length) → Rat.divInt (exI ls (maskS s) s.length d cm) cm = vioF (rowsS ms.rows s, (d : Int)) ms.cols us
theorem sepG {ms : Ms} {us : List Rat} (ok : VOk ms us) (h5 : ms.rows.length ≤ 5) (h6 : ms.cols.length ≤ 6) : SepG ms us ((grpF ms.rows ms.cols us).map (scF (cmF (grpF ms.rows ms.cols us)))) (cmF (grpF ms.rows ms.cols us)) := by
 have ht : ∀ x ∈ grpF ms.rows ms.cols us, Tw 108 x.2.1 := fun x hx => (grpT_tw ms.rows ok.tw _ x (List.mem_filter.1 hx |>.1)).mono (by omega)
 have hd : ∀ x ∈ grpF ms.rows ms.cols us, x.2.1.den ∣ cmF (grpF ms.rows ms.cols us) := fun x hx => cmF_den hx
 have hc := cmT_le (ls := grpF ms.rows ms.cols us) (fun x hx => (ht x hx).den) (grpF ms.rows ms.cols us).length
 have hm : ∀ x ∈ grpF ms.rows ms.cols us, x.1 < 32 := fun x hx => grpT_mask us h5 (fun c hc => (ok.ms.cols c hc).sub) _ x (List.mem_filter.1 hx |>.1)
 refine ⟨hc.1, hc.2, ?_, fun x hx => ?_, fun x hx => ?_, fun s d hs => exI_vio ok h5 hs hd hc.1⟩
 ·rw [List.length_map]; have := grpF_len ms.rows ms.cols us; omega
 ·obtain ⟨y, hy, rfl⟩ := List.mem_map.1 hx
  exact hm y hy
 ·obtain ⟨y, hy, rfl⟩ := List.mem_map.1 hx
  exact scF_le (ht y hy) (hd y hy) hc.2
theorem maskS_step {s : List Nat} {j x : Nat} (h : s[j]? = some x) : maskS (s.take (j + 1)) = maskS (s.take j) ||| 2 ^ x := by
 unfold maskS
 rw [← take_snoc h, List.foldl_append]; rfl
theorem maskS_lt {s : List Nat} (h : ∀ i ∈ s, i < 5) : maskS s < 32 := by
 have hk : ∀ (s : List Nat) (acc : Nat), acc < 32 → (∀ i ∈ s, i < 5) → s.foldl (fun m r => m ||| 2 ^ r) acc < 32 := by
  intro s
  induction s with
  | nil => intro acc ha _; exact ha
  | cons x s ih =>
   intro acc ha hs
   rw [List.foldl_cons]
   refine ih _ ?_ fun i hi => hs i (List.mem_cons_of_mem _ hi)
   have hx := hs x (List.mem_cons_self)
   have h2 : 2 ^ x < 2 ^ 5 := Nat.pow_lt_pow_right (by decide) hx
   exact Nat.or_lt_two_pow (n := 5) ha h2
 exact hk s 0 (by decide) h
theorem rowsS_step {rws : List Int} {s : List Nat} {j x : Nat} {r : Int} (h : s[j]? = some x) (hr : rws[x]? = some r) : rowsS rws (s.take j) ++ [r] = rowsS rws (s.take (j + 1)) := by
 unfold rowsS
 rw [← take_snoc h, List.map_append, List.map_singleton, List.getD_eq_getElem?_getD, hr]; rfl
theorem Loc.dropA {w0 m0 W m : World} : ∀ {A B : List Lo}, Loc w0 m0 W m (A ++ B) → Loc w0 m0 W m B
 | [], _, h => h
 | _ :: _, _, h => Loc.dropA h.tail
theorem divInt_pos' {s : Int} {c : Nat} (hc : 1 ≤ c) : (0 < s ↔ 0 < Rat.divInt s c) ∧ (s ≤ 0 ↔ Rat.divInt s c ≤ 0) := by
 have A := Rat.divInt_nonneg_iff_of_pos_right (a := s) (b := (c : Int)) (by omega)
 have B : Rat.divInt s c = 0 → s = 0 := fun h => by
  rw [← Rat.zero_divInt 1, Rat.divInt_eq_divInt_iff (by omega) (by decide)] at h
  omega
 have C : s ≤ 0 ↔ Rat.divInt s c ≤ 0 := by
  constructor
  ·intro h
   by_cases h0 : s = 0
   ·rw [h0, Rat.zero_divInt]; exact Rat.le_refl
   ·rcases Rat.le_total (a := Rat.divInt s c) (b := 0) with h' | h'
    ·exact h'
    ·exact absurd (A.1 h') (by omega)
  ·intro h
   refine Int.not_lt.1 fun h' => ?_
   have := B (Rat.le_antisymm h (A.2 (by omega)))
   omega
 refine ⟨?_, C⟩
 rw [← Rat.not_le, ← C]
 omega
theorem icmp_posQ {q : Rat} (h : 0 < q) : icmp q.num 0 = 1 := by
 have h1 := Rat.num_nonneg.2 (Rat.le_of_lt h)
 have h2 : q.num ≠ 0 := fun e => by
  rw [Rat.num_eq_zero] at e
  subst e
  exact Rat.lt_irrefl h
 unfold icmp
 rw [if_neg (by omega), if_neg (by omega)]
def rfBody : Code → Option Code
 | .seq x y => (rfBody x).or (rfBody y)
 | .block _ c => rfBody c
 | .rangeFunc _ _ _ b => some b
 | _ => none

theorem u_SignZ (w m : World) (hV : Vw m w) : Calls Tryz.prog 103 #[.agg #[.bool false, .slice none 0 0, .bool false, .slice none 0 0]] w (RetV w m fun _ r => r = .int .i64 0) := by
 have K0 : Hid (∀ w m', Vw m' w → Calls Tryz.prog 162 #[.agg #[.bool false, .slice none 0 0]] w (RetV w m' fun _ r => r = .int .i64 0)) := by
  show ∀ w m', _
  intro w m' hV
  exact i_Sign _ 0 w m' hV (IntC.nil.toV z_len)
 have hL := Loc.start hV
 clear hV
 go_enter Tryz.func103, Tryz.ntmps103
 go_upto_region 1 with ((first | go_skip | refine tP ?_ | (refine tB ?_; clear hL; intro _ _ hL _)))
 refine wp_region_by2 7 [false, false, false, false, false, false, false] [false, false, false, false, false, false, false] [(fun v _ _ => v = ?c1_0), (fun v _ _ => v = ?c1_1), Is (.int .i64 0), (fun v _ _ => v = ?c1_3), (fun v _ _ => v = ?c1_4), Is (.int .i64 0), (fun v _ _ => v = ?c1_6)] hL.vw mixed [3, 4, 5, 6, 7, 8, 9] _ (by kernel_rfl) (fun vs => by simp only [lay, Act.put, zq1, zq2, zq3]; rfl) (by kernel_rfl) (by decide) (by decide) ?s1 ?l1 ?r1
 case s1 =>
  refine ⟨?_, ?_, ?_, ?_, ?_, ?_, ?_, trivial⟩
  ·intro vs W1 m1 hE hM hV hD; clear hD
   exact sFe
  ·intro vs W1 m1 hE hM hV hD; obtain ⟨⟨_, _, -, -, f3⟩, -⟩ := hD
   rw [(f3 : vs 3 = _)]; clear f3; exact sLe
  ·intro vs W1 m1 hE hM hV hD; obtain ⟨⟨_, _, -, -, f4⟩, -⟩ := hD
   rw [(f4 : vs 4 = _)]
   clear f4
   go_wp2_with fail
   refine (K0.out _ _ hV).mono ?_
   rintro e W2 ⟨v, m2, rfl, hE2, hM2, hV2, h⟩
   go_wp2_with fail
   refine One2.call hE2 hM2 hV2 ?_; first | exact h | exact rfl
  ·intro vs W1 m1 hE hM hV hD; clear hD
   exact sFe
  ·intro vs W1 m1 hE hM hV hD; obtain ⟨⟨_, _, -, -, f6⟩, -⟩ := hD
   rw [(f6 : vs 6 = _)]; clear f6; exact sLe
  ·intro vs W1 m1 hE hM hV hD; obtain ⟨⟨_, _, -, -, f7⟩, -, -⟩ := hD
   rw [(f7 : vs 7 = _)]
   clear f7
   go_wp2_with fail
   refine (K0.out _ _ hV).mono ?_
   rintro e W2 ⟨v, m2, rfl, hE2, hM2, hV2, h⟩
   go_wp2_with fail
   refine One2.call hE2 hM2 hV2 ?_; first | exact h | exact rfl
  ·intro vs W1 m1 hE hM hV hD; obtain ⟨⟨_, _, -, -, f5⟩, ⟨_, _, -, -, f8⟩, -⟩ := hD
   rw [(f5 : vs 5 = _), (f8 : vs 8 = _)]; clear f5 f8; exact sPw
 case l1 =>
  refine ⟨nF, nF, nF, nF, nF, nF, nF, trivial⟩
 intro vs W1 m1 hE hM hV hF hD
 clear hD
 obtain ⟨-, -, -, -, -, -, ⟨_, _, -, -, f9⟩, -⟩ := hF
 replace hL := hL.call hE hM hV
 have f9 : vs 9 = _ := f9
 generalize vs 9 = x9 at f9 ⊢
 subst x9
 clear hE hV
 simp only [List.drop_succ_cons, List.drop_zero]
 go_wp2_with (first | go_skip | refine tP ?_ | (refine tB ?_; clear hL; intro _ _ hL _))
 refine QN.mk ?_
 go_wp2_with (first | go_skip | refine tP ?_ | (refine tB ?_; clear hL; intro _ _ hL _))
 go_ret
 exact RetV.mk hL (by go_num)

theorem lb_cans : lfB Tryz.prog 121 = true := by kernel_rfl
theorem zc_Grps : zc Tryz.prog 117 = some #[.slice none 0 0] := by kernel_rfl
instance iAF7_1 : ZcC Tryz.prog 117 #[.slice none 0 0] := ⟨zc_Grps⟩
theorem zc_Cans : zc Tryz.prog 121 = some #[.slice none 0 0] := by kernel_rfl
instance iAF7_2 : ZcC Tryz.prog 121 #[.slice none 0 0] := ⟨zc_Cans⟩
instance iAF7_3 : ZcC Tryz.prog 3 #[.int .i64 0] := ⟨zc_int1⟩
theorem zc_bool1 : zc Tryz.prog 4 = some #[.bool false] := by kernel_rfl
instance iAF7_4 : ZcC Tryz.prog 4 #[.bool false] := ⟨zc_bool1⟩
instance iAF7_5 : LfC Tryz.prog 121 := ⟨lb_cans⟩
theorem lb_Grps : lfB Tryz.prog 117 = true := by kernel_rfl
instance iAF7_6 : LfC Tryz.prog 117 := ⟨lb_Grps⟩
def SepE (w0 m0 m : World) (g b16 : Nat) (s : List Nat) (fs : List Can) (W' : World) : Prop :=
 ∃ m' fd Rf n, Loc w0 m0 W' m' ((g, 3, intsA s) :: (b16, 121, #[fd]) :: Rf) ∧ Ext m m' ∧ RowA 128 6 CanR m' fd n fs Rf ∧ (n = 0 → fd = .slice none 0 0)

theorem sep_round {l n : Nat} {c : Code} (hc : Tryz.f39.body.bind rfBody = some c) {u0 u1 u2 u3 u4 u6 u9 u10 u11 u12 u18 u19 u20 u21 u22 u23 u24 u25 u26 u27 u28 u29 u30 u31 u32 u33 u34 u35 u36 u37 u38 u39 u40 u41 u42 u43 u44 u45 u46 u47 u48 u49 u50 u51 u52 u53 u54 u55 u56 u57 u58 u59 u60 u61 u62 u63 u64 u65 u66 u67 u68 u69 u70 u71 u72 u73 u74 u75 u76 u77 u78 u79 u80 u81 u82 u83 u84 u85 u86 u87 u88 u89 u90 u91 u92 u93 u94 u95 u96 u97 u98 u99 u100 u101 u102 u103 u104 u105 u106 u107 u108 u109 u110 u111 u112 u113 u114 u115 u116 u117 u118 u119 u120 u121 u122 u123 u124 u125 u126 u127 u128 u129 u130 u131 u132 u133 u134 u135 u136 u137 u138 u139 u140 u141 u142 : Value} {b5 b7 b8 b13 b14 b15 b16 g sz d cm nr ca nk cc ng cg n0 : Nat} {A C G : Option Addr}
  {ms : Ms} {us : List Rat} {ls : List Grp} {s : List Nat} {fs : List Can} {fd : Value} {Rf : List Lo} {w0 m0 W m : World}
  (hL : Loc w0 m0 W m ((g, 3, intsA s) :: (b16, 121, #[fd]) :: Rf)) (row : RowA 128 6 CanR m fd n0 fs Rf) (hn0 : n0 = 0 → fd = .slice none 0 0) (hn1 : n0 ≤ 1000)
  (h51 : m.cell? ⟨b5, 1, none⟩ = some (.slice A nr ca)) (h54 : m.cell? ⟨b5, 4, none⟩ = some (.slice C nk cc)) (h7 : m.cell? ⟨b7, 0, none⟩ = some (.int .i64 (sz : Int))) (h8 : m.cell? ⟨b8, 0, none⟩ = some (.int .i64 (d : Int)))
  (h13 : m.cell? ⟨b13, 0, none⟩ = some (.slice G ng cg)) (h14 : m.cell? ⟨b14, 0, none⟩ = some (.int .i64 (cm : Int))) (h15 : m.cell? ⟨b15, 0, none⟩ = some (.bool true))
  (hro : IntL m (.slice A nr ca) ms.rows) (hcu : CutL m (.slice C nk cc) ms.cuts) (hgl : GrpL m (.slice G ng cg) ls) (SG : SepG ms us ls cm) (vok : VOk ms us)
  (hsl : s.length = sz) (hs : ∀ i ∈ s, i < nr) (hnr : nr = ms.rows.length) (hnr5 : nr ≤ 5) (hs3 : 3 ≤ sz) (hs5 : sz ≤ 5) (hd2 : 2 ≤ d) (hds : d < sz) (hcut : CutOk ms.rows (cutS ms d s)) :
  c.wpIn (Rnd l) n Tryz.prog (rPost (SepE w0 m0 m g b16 s (fndS ms us d fs s)) W) { tmps := #[u0, u1, u2, u3, u4, .pointer (some ⟨b5, 0, none⟩), u6, .pointer (some ⟨b7, 0, none⟩), .pointer (some ⟨b8, 0, none⟩), u9, u10, u11, u12, .pointer (some ⟨b13, 0, none⟩), .pointer (some ⟨b14, 0, none⟩), .pointer (some ⟨b15, 0, none⟩), .pointer (some ⟨b16, 0, none⟩), .slice (some ⟨g, 0, none⟩) sz sz, u18, u19, u20, u21, u22, u23, u24, u25, u26, u27, u28, u29, u30, u31, u32, u33, u34, u35, u36, u37, u38, u39, u40, u41, u42, u43, u44, u45, u46, u47, u48, u49, u50, u51, u52, u53, u54, u55, u56, u57, u58, u59, u60, u61, u62, u63, u64, u65, u66, u67, u68, u69, u70, u71, u72, u73, u74, u75, u76, u77, u78, u79, u80, u81, u82, u83, u84, u85, u86, u87, u88, u89, u90, u91, u92, u93, u94, u95, u96, u97, u98, u99, u100, u101, u102, u103, u104, u105, u106, u107, u108, u109, u110, u111, u112, u113, u114, u115, u116, u117, u118, u119, u120, u121, u122, u123, u124, u125, u126, u127, u128, u129, u130, u131, u132, u133, u134, u135, u136, u137, u138, u139, u140, u141, u142], defers := [] } W := by
 have hL0 := hL
 have hBg : Blk W g 3 (intsA s) := hL.at_ (n := 0) rfl
 have hBf : Blk W b16 121 #[fd] := hL.at_ (n := 1) rfl
 have HL0 := Lib.hid hL0
 have ROW := Lib.hid row
 have HN0 := Lib.hid hn0
 have HRO := Lib.hid hro
 have HCU := Lib.hid hcu
 have HGL := Lib.hid hgl
 have SG := Lib.hid SG
 have OK := Lib.hid vok
 have HSL := Lib.hid hsl
 have HS := Lib.hid hs
 have HNR := Lib.hid hnr
 have HCT := Lib.hid hcut
 replace hL := Loc.start hL.vw
 clear hL0 row hn0 hro hcu hgl vok hsl hs hnr hcut
 injection hc with hc
 subst hc
 have HNR' : Hid (ms.rows.length = nr) := HNR.out.symm
 have HVI : Hid (Rat.divInt (exI ls (maskS s) sz d cm) cm = vioF (cutS ms d s) ms.cols us) := by
  show _ = _
  rw [← HSL.out]
  exact SG.out.vio s d fun i hi => by rw [HNR'.out]; exact HS.out i hi
 have HMK : Hid (maskS s < 32) := maskS_lt fun i hi => by have := HS.out i hi; omega
 have HFT : Hid (Fit 200 (vioF (cutS ms d s) ms.cols us)) := (OK.out.vio HCT.out).fit (by decide)
 (repeat (first | ((with_reducible show Code.wpIn _ _ _ (Code.region _ _ false) _ _ _); refine wpIn_lit (fun _ _ h => h) rfl ?_) | ((with_reducible show wpList _ _ _ _ _ _); go_wp2_with (first | go_skip | refine tP ?_ | (refine tS ?_; clear hL; intro _ hL) | (refine tB ?_; clear hL; intro _ _ hL _) | (refine tC ?_; clear hL; intro _ _ hL _ hBs)); fail_if_success (with_reducible show wpList _ _ _ _ _ _)) | gi_step))
 gi_loopw [18, 74] (fun mk iv wr => ∃ (j : Nat) (mm : World), j ≤ sz ∧ iv = .int .i64 j ∧ mk = .int .u32 (maskS (s.take j) : Nat) ∧ Loc W m wr mm []) (fun _ iv _ => sz - (intOf iv).toNat)
 case atStart => exact ⟨0, _, Nat.zero_le _, rfl, rfl, hL⟩
 case round =>
  clear hL
  obtain ⟨j, mm, hj, rfl, rfl, hL⟩ := hrel
  have hM := hL.mext
  by_cases hlt : j < sz
  ·have hlt' : (j : Int) < (sz : Int) := by omega
   obtain ⟨x, hx⟩ := at_some HSL hlt
   have hx5 : x < 5 := by have := HS.out x (List.mem_of_getElem? hx); omega
   have hcell : (intsA s)[0 + j]? = some (.int .i64 (x : Int)) := by rw [Nat.zero_add]; exact intsA_at hx
   have hml : maskS (s.take j) < 32 := maskS_lt fun i hi => by have := HS.out i (List.mem_of_mem_take hi); omega
   have hor : bits .or .u32 (maskS (s.take j) : Nat) ((2 : Int) ^ x % 4294967296) = (maskS (s.take (j + 1)) : Nat) := by
    rw [maskS_step hx]; exact or_33 ⟨_, hml⟩ ⟨x, hx5⟩
   clear hx hml
   (repeat (first | ((with_reducible show Code.wpIn _ _ _ (Code.region _ _ false) _ _ _); refine wpIn_lit (fun _ _ h => h) rfl ?_) | ((with_reducible show wpList _ _ _ _ _ _); go_wp2_with (first | (refine wl_loadB hL (wanted_none rfl) rfl rfl lb_int hBg hcell ?_; simp only [Act.put, zq1, zq2, zq3]) | (first | go_skip | refine tP ?_ | (refine tS ?_; clear hL; intro _ hL) | (refine tB ?_; clear hL; intro _ _ hL _) | (refine tC ?_; clear hL; intro _ _ hL _ hBs))); fail_if_success (with_reducible show wpList _ _ _ _ _ _)) | gi_step))
   go_roundw
   case rel => exact ⟨j + 1, _, by omega, by go_num, rfl, hL⟩
   case measure => simp [intOf] <;> omega
  ·have hjs : sz = j := by omega
   have HM2 : Hid (maskS (s.take j) = maskS s) := by show _ = _; rw [List.take_of_length_le (by have := HSL.out; omega)]
   subst hjs
   rw [HM2.out]
   have h9 : (sz : Int) ≤ (sz : Int) := Int.le_refl _
   generalize maskS s = mk at *
   (repeat (first | ((with_reducible show Code.wpIn _ _ _ (Code.region _ _ false) _ _ _); refine wpIn_lit (fun _ _ h => h) rfl ?_) | ((with_reducible show wpList _ _ _ _ _ _); go_wp2_with (first | go_skip | refine tP ?_ | (refine tS ?_; clear hL; intro _ hL) | (refine tB ?_; clear hL; intro _ _ hL _) | (refine tC ?_; clear hL; intro _ _ hL _ hBs)); fail_if_success (with_reducible show wpList _ _ _ _ _ _)) | gi_step))
   refine (u_excess _ ls mk sz d cm _ _ hL.vw (ListV.le GrpR.mono HGL.out leX) SG.out.mask SG.out.sc HMK.out hs5 hd2 (by omega) (by have := SG.out.c1; omega) (by have := SG.out.c2; omega) (by have := SG.out.len; omega)).mono ?_
   rintro e Wx ⟨vx, mx, rfl, hE, hMx, hV, hx⟩
   replace hL := hL.call hE (by assumption) hV; clear hE hV
   rcases hx with ⟨hx0, rfl⟩ | ⟨hx0, hx⟩
   ·have HE : Hid (fndS ms us d fs s = fs) := by
     show _ = _
     unfold fndS
     rw [if_pos]
     rw [← HVI.out]
     exact (divInt_pos' SG.out.c1).2.1 hx0
    clear hx0
    dsimp only
    (repeat (first | ((with_reducible show Code.wpIn _ _ _ (Code.region _ _ false) _ _ _); refine wpIn_lit (fun _ _ h => h) rfl ?_) | ((with_reducible show wpList _ _ _ _ _ _); go_wp2_with (first | go_skip | refine tP ?_ | (refine tS ?_; clear hL; intro _ hL) | (refine tB ?_; clear hL; intro _ _ hL _) | (refine tC ?_; clear hL; intro _ _ hL _ hBs)); fail_if_success (with_reducible show wpList _ _ _ _ _ _)) | gi_step))
    refine (u_SignZ _ _ hL.vw).mono ?_
    rintro e Wc1 ⟨_, mc1, rfl, hE, hMc1, hV, rfl⟩
    replace hL := hL.call hE (by assumption) hV; clear hE hV
    dsimp only
    (repeat (first | ((with_reducible show Code.wpIn _ _ _ (Code.region _ _ false) _ _ _); refine wpIn_lit (fun _ _ h => h) rfl ?_) | ((with_reducible show wpList _ _ _ _ _ _); go_wp2_with (first | go_skip | refine tP ?_ | (refine tS ?_; clear hL; intro _ hL) | (refine tB ?_; clear hL; intro _ _ hL _) | (refine tC ?_; clear hL; intro _ _ hL _ hBs)); fail_if_success (with_reducible show wpList _ _ _ _ _ _)) | gi_step))
    refine And.intro hL.ext.still ⟨_, fd, Rf, n0, Loc.dropA (A := [_]) (HL0.out.join hL), hL.mext, ?_, HN0.out⟩
    rw [HE.out]
    exact RowA.le CanR.mono ROW.out leX
   ·have HQ0 : Hid (0 < vioF (cutS ms d s) ms.cols us) := by
     show _ < _
     rw [← HVI.out]
     exact (divInt_pos' SG.out.c1).1.1 hx0
    rw [HVI.out] at hx
    obtain ⟨gv, Av, nv, cv, fv, Bv, kv, dv, rfl, hx⟩ := hx.lit
    have HVX := Lib.hid hx
    have KS : Hid (∀ w m', Vw m' w → Le mx m' → Calls Tryz.prog 103 #[.agg #[.bool gv, .slice Av nv cv, .bool fv, .slice Bv kv dv]] w (RetV w m' fun _ r => r = .int .i64 1)) := by
     show ∀ w m', _
     intro w m' hV hle
     rw [← icmp_posQ HQ0.out]
     exact q_Sign _ _ w m' hV (HVX.out.le hle) HFT.out
    clear hx hx0
    dsimp only
    (repeat (first | ((with_reducible show Code.wpIn _ _ _ (Code.region _ _ false) _ _ _); refine wpIn_lit (fun _ _ h => h) rfl ?_) | ((with_reducible show wpList _ _ _ _ _ _); go_wp2_with (first | go_skip | refine tP ?_ | (refine tS ?_; clear hL; intro _ hL) | (refine tB ?_; clear hL; intro _ _ hL _) | (refine tC ?_; clear hL; intro _ _ hL _ hBs)); fail_if_success (with_reducible show wpList _ _ _ _ _ _)) | gi_step))
    refine (KS.out _ _ hL.vw leX).mono ?_
    rintro e Wc1 ⟨_, mc1, rfl, hE, hMc1, hV, rfl⟩
    replace hL := hL.call hE (by assumption) hV; clear hE hV
    clear KS
    dsimp only
    (repeat (first | ((with_reducible show Code.wpIn _ _ _ (Code.region _ _ false) _ _ _); refine wpIn_lit (fun _ _ h => h) rfl ?_) | ((with_reducible show wpList _ _ _ _ _ _); go_wp2_with (first | go_skip | refine tP ?_ | (refine tS ?_; clear hL; intro _ hL) | (refine tB ?_; clear hL; intro _ _ hL _) | (refine tC ?_; clear hL; intro _ _ hL _ hBs)); fail_if_success (with_reducible show wpList _ _ _ _ _ _)) | gi_step))
    gi_loopw [97] (fun iv wr => ∃ (j : Nat) (mm : World) (A7 : Option Addr) (c7 : Nat) (Rx : List Lo), j ≤ sz ∧ iv = .int .i64 j ∧ Loc W m wr mm ((Wc1.heap.size, 34, #[.slice A7 j c7, .int .i64 d]) :: (Wx.heap.size, 39, #[.bool gv, .slice Av nv cv, .bool fv, .slice Bv kv dv]) :: Rx) ∧ Hid (RowA 3 1 IsI mm (.slice A7 j c7) j (rowsS ms.rows (s.take j)) Rx) ∧ Hid (Ext mc1 mm)) (fun iv _ => sz - (intOf iv).toNat)
    case atStart => exact ⟨0, _, none, 0, [], Nat.zero_le _, rfl, hL, RowA.nil, exX⟩
    case round =>
     clear hL
     obtain ⟨j, mm2, A7, c7, Rx, hj, rfl, hL, RX, HX2⟩ := hrel
     have hX2 := HX2.out
     by_cases hlt : j < sz
     ·have hlt' : (j : Int) < (sz : Int) := by omega
      obtain ⟨x, hx⟩ := at_some HSL hlt
      have hxr : x < nr := HS.out x (List.mem_of_getElem? hx)
      obtain ⟨r, hr⟩ := at_some HNR' hxr
      have hro := HRO.out
      obtain ⟨b9, o9, rfl, hc9⟩ := IntL.at_ hro hr
      have hcell : (intsA s)[0 + j]? = some (.int .i64 (x : Int)) := by rw [Nat.zero_add]; exact intsA_at hx
      have HT := Lib.hid (rowsS_step hx hr)
      clear hx hr hro
      (repeat (first | ((with_reducible show Code.wpIn _ _ _ (Code.region _ _ false) _ _ _); refine wpIn_lit (fun _ _ h => h) rfl ?_) | ((with_reducible show wpList _ _ _ _ _ _); go_wp2_with (first | (refine wl_loadB hL (wanted_none rfl) rfl rfl lb_int hBg hcell ?_; simp only [Act.put, zq1, zq2, zq3]) | (first | go_skip | refine tP ?_ | (refine tS ?_; clear hL; intro _ hL) | (refine tB ?_; clear hL; intro _ _ hL _) | (refine tC ?_; clear hL; intro _ _ hL _ hBs))); fail_if_success (with_reducible show wpList _ _ _ _ _ _)) | gi_step))
      (try simp only [eq_self] at *)
      refine wpIn_of_any mixed (by kernel_rfl) (region_by2 8 [false, false, false, false, false, false, false, false] [false, false, false, false, false, false, false, false] [(fun v _ _ => v = ?c25_0), (fun v _ _ => v = ?c25_1), (fun v _ _ => v = ?c25_2), (fun v _ _ => v = ?c25_3), (fun v _ _ => v = ?c25_4), (fun v _ _ => v = ?c25_5), (fun v _ _ => v = ?c25_6), (NewS1 3 (fun _ v => v = .agg #[.int .i64 r]))] hL.vw mixed [101, 102, 103, 104, 105, 106, 107, 108] _ (by kernel_rfl) (fun vs => by simp only [lay, Act.put, zq1, zq2, zq3]; rfl) (by kernel_rfl) (by decide) (by decide) ?s25 ?l25 ?r25)
      case s25 =>
       refine ⟨?_, ?_, ?_, ?_, ?_, ?_, ?_, ?_, trivial⟩
       ·intro vs W1 m1 hE hM hV hD; clear hD
        exact sFe
       ·intro vs W1 m1 hE hM hV hD; obtain ⟨⟨_, _, -, -, f101⟩, -⟩ := hD
        rw [(f101 : vs 101 = _)]; clear f101; exact sLe
       ·intro vs W1 m1 hE hM hV hD; clear hD
        exact sFe
       ·intro vs W1 m1 hE hM hV hD; obtain ⟨⟨_, _, -, -, f103⟩, -⟩ := hD
        rw [(f103 : vs 103 = _)]; clear f103; exact sLe
       ·intro vs W1 m1 hE hM hV hD; clear hD
        exact sPw
       ·intro vs W1 m1 hE hM hV hD; obtain ⟨⟨_, _, -, -, f104⟩, ⟨_, _, -, -, f105⟩, -⟩ := hD
        rw [(f104 : vs 104 = _), (f105 : vs 105 = _)]; clear f104 f105; exact sIy
       ·intro vs W1 m1 hE hM hV hD; obtain ⟨⟨_, _, -, -, f106⟩, -⟩ := hD
        rw [(f106 : vs 106 = _)]; clear f106; exact sLe
       ·intro vs W1 m1 hE hM hV hD; obtain ⟨⟨_, _, -, -, f107⟩, -⟩ := hD
        rw [(f107 : vs 107 = _)]
        clear f107
        (go_wp2_with fail; exact one2_s1 hV fun _ _ => rfl)
      case l25 =>
       refine ⟨nF, nF, nF, nF, nF, nF, nF, nF, trivial⟩
      intro vs W1 m1 hE hM hV hF hD
      clear hD
      obtain ⟨-, ⟨_, _, -, -, f102⟩, -, -, -, -, -, ⟨_, _, j108, i108, f108⟩, -⟩ := hF
      replace hL := hL.call hE hM hV
      have f102 : vs 102 = _ := f102
      generalize vs 102 = x102 at f102 ⊢
      subst x102
      clear hE hV
      obtain ⟨g15, cs15, e15, q15, f15⟩ := f108
      generalize vs 108 = x15 at e15 ⊢
      subst x15
      replace q15 := q15.ext j108
      have f16 : Value.agg cs15 = .agg #[.int .i64 r] := f15
      injection f16 with f16
      subst f16
      clear f15 i108 j108
      simp only [List.drop_succ_cons, List.drop_zero]
      obtain ⟨vs7, r7, z7, y7, l7⟩ := RX.out
      refine wl_append (A := [_, _]) hL r7 (wanted_none rfl) rfl ap_ints (by omega) rfl rfl (news := [.int .i64 r]) rfl (Blk.sl q15 (n := 1) rfl) rfl (by omega) (by omega) ?_
      clear hL
      intro v1 W2 m2 R2 hL r8 e8
      obtain ⟨A11, c11, rfl, -⟩ := r8.lit
      simp only [List.cons_append, List.nil_append] at hL
      have rx2 := RowA.snocV (R := IsI) (m := m2) (x := r) r8 z7 (y7.mono fun _ _ h => h) l7 rfl rfl rfl
      rw [HT.out] at rx2
      have RX2 := Lib.hid rx2
      clear rx2 r7 z7 y7 l7 r8
      simp only [Act.put, zq1, zq2, zq3]
      go_wp2_with (first | go_skip | refine tP ?_ | (refine tS ?_; clear hL; intro _ hL) | (refine tB ?_; clear hL; intro _ _ hL _) | (refine tC ?_; clear hL; intro _ _ hL _ hBs))
      refine QN.mk ?_
      (repeat (first | ((with_reducible show Code.wpIn _ _ _ (Code.region _ _ false) _ _ _); refine wpIn_lit (fun _ _ h => h) rfl ?_) | ((with_reducible show wpList _ _ _ _ _ _); go_wp2_with (first | go_skip | refine tP ?_ | (refine tS ?_; clear hL; intro _ hL) | (refine tB ?_; clear hL; intro _ _ hL _) | (refine tC ?_; clear hL; intro _ _ hL _ hBs)); fail_if_success (with_reducible show wpList _ _ _ _ _ _)) | gi_step))
      go_roundw
      case rel => exact ⟨j + 1, m2, A11, c11, R2, by omega, by go_num, hL, RX2.out, exX⟩
      case measure => simp [intOf] <;> omega
     ·have hjs : sz = j := by omega
      have HTK : Hid (rowsS ms.rows (s.take j) = (cutS ms d s).1) := by
       show rowsS _ _ = rowsS _ _
       rw [List.take_of_length_le (by have := HSL.out; omega)]
      subst hjs
      have row2 := RX.out
      rw [HTK.out] at row2
      obtain ⟨m9, hL9, hle9, hl9, -⟩ := RowA.show (A := [_, _]) IsI.mono hL row2
      have HXR : Hid (CutR m9 (.agg #[.slice A7 sz c7, .int .i64 d]) (cutS ms d s)) := ⟨_, rfl, hl9, by show (rowsS _ _).length ≤ _; unfold rowsS; rw [List.length_map, HSL.out]; omega⟩
      have HVX9 := Lib.hid (HVX.out.le ((leX : Le mx mm2).trans hle9))
      have hM9 := hL9.mext
      clear hL row2 hle9 hl9 RX HTK hX2 HX2 HVX
      have hL := hL9
      clear hL9
      (repeat (first | ((with_reducible show Code.wpIn _ _ _ (Code.region _ _ false) _ _ _); refine wpIn_lit (fun _ _ h => h) rfl ?_) | ((with_reducible show wpList _ _ _ _ _ _); go_wp2_with (first | go_skip | refine tP ?_ | (refine tS ?_; clear hL; intro _ hL) | (refine tB ?_; clear hL; intro _ _ hL _) | (refine tC ?_; clear hL; intro _ _ hL _ hBs)); fail_if_success (with_reducible show wpList _ _ _ _ _ _)) | gi_step))
      refine (u_known _ _ ms.cuts (cutS ms d s) _ _ hL.vw (CutL.le HCU.out leX) (HXR.out.le leX) (by have := OK.out.ms.k2; omega)).mono ?_
      rintro e Wc2 ⟨_, mc2, rfl, hE, hMc2, hV, rfl⟩
      replace hL := hL.call hE (by assumption) hV; clear hE hV
      by_cases hk : cutS ms d s ∈ ms.cuts
      ·rw [decide_eq_true hk]
       have HE : Hid (fndS ms us d fs s = fs) := by
        show _ = _
        unfold fndS
        rw [if_neg (Rat.not_le.2 HQ0.out), if_pos hk]
       clear hk
       dsimp only
       (repeat (first | ((with_reducible show Code.wpIn _ _ _ (Code.region _ _ false) _ _ _); refine wpIn_lit (fun _ _ h => h) rfl ?_) | ((with_reducible show wpList _ _ _ _ _ _); go_wp2_with (first | go_skip | refine tP ?_ | (refine tS ?_; clear hL; intro _ hL) | (refine tB ?_; clear hL; intro _ _ hL _) | (refine tC ?_; clear hL; intro _ _ hL _ hBs)); fail_if_success (with_reducible show wpList _ _ _ _ _ _)) | gi_step))
       refine And.intro hL.ext.still ⟨_, fd, Rf, n0, Loc.dropA (A := [_, _]) (HL0.out.join hL), hL.mext, ?_, HN0.out⟩
       rw [HE.out]
       exact RowA.le CanR.mono ROW.out leX
      ·rw [decide_eq_false hk]
       have HE : Hid (fndS ms us d fs s = fs ++ [(cutS ms d s, vioF (cutS ms d s) ms.cols us)]) := by
        show _ = _
        unfold fndS
        rw [if_neg (Rat.not_le.2 HQ0.out), if_neg hk]
       clear hk
       dsimp only
       (repeat (first | ((with_reducible show Code.wpIn _ _ _ (Code.region _ _ false) _ _ _); refine wpIn_lit (fun _ _ h => h) rfl ?_) | ((with_reducible show wpList _ _ _ _ _ _); go_wp2_with (first | (refine wl_loadB hL (wanted_none rfl) rfl rfl lb_cans hBf rfl ?_; simp only [Act.put, zq1, zq2, zq3]) | (first | go_skip | refine tP ?_ | (refine tS ?_; clear hL; intro _ hL) | (refine tB ?_; clear hL; intro _ _ hL _) | (refine tC ?_; clear hL; intro _ _ hL _ hBs))); fail_if_success (with_reducible show wpList _ _ _ _ _ _)) | gi_step))
       refine goA ?_
       have HS0 := Lib.hid hL.ext.still
       have hJ := HL0.out.join hL
       have hCN : CanR mc2 (.agg #[.slice A7 sz c7, .int .i64 d, .bool gv, .slice Av nv cv, .bool fv, .slice Bv kv dv]) (cutS ms d s, vioF (cutS ms d s) ms.cols us) := ⟨_, _, _, _, _, _, _, _, _, _, _, _, rfl, HXR.out.le leX, HVX9.out.le leX⟩
       obtain ⟨vs7, r7, z7, y7, l7⟩ := ROW.out
       refine wl_appendS (A := [_, _, _, _]) hJ r7 (wanted_none rfl) rfl ap_Cans (by omega) rfl rfl (news := [.slice A7 sz c7, .int .i64 d, .bool gv, .slice Av nv cv, .bool fv, .slice Bv kv dv]) rfl ((Blk.sl hBs (n := 6) rfl).le hJ.vw.le) rfl (by omega) (by omega) ?_
       have HX7 := Lib.hid hL.mext
       clear hL hJ
       intro v1 W5 m5 R5 hL r8 e8 hS8
       obtain ⟨A11, c11, rfl, -⟩ := r8.lit
       simp only [List.cons_append, List.nil_append] at hL
       have rd := RowA.snoc (R := CanR) (m := m5) (x := (cutS ms d s, vioF (cutS ms d s) ms.cols us)) r8 z7 (y7.mono fun v x hv => CanR.mono _ _ _ _ hv (HX7.out.trans e8).le) l7 rfl (CanR.mono _ _ _ _ hCN leX)
       rw [← HE.out] at rd
       have RD := Lib.hid rd
       clear rd r8 r7 z7 y7 l7
       simp only [Act.put, zq1, zq2, zq3]
       refine wl_store1S hL (wanted_none rfl) rfl rfl rfl lb_cans (n := 3) rfl (Nat.le_of_ble_eq_true rfl) rfl rfl ?_
       clear hL
       intro W6 hL hS6
       simp only [List.set_cons_zero, List.set_cons_succ, splice, zq1, zq2, zq3] at hL
       simp only [Act.put, zq1, zq2, zq3]
       (repeat (first | ((with_reducible show Code.wpIn _ _ _ (Code.region _ _ false) _ _ _); refine wpIn_lit (fun _ _ h => h) rfl ?_) | ((with_reducible show wpList _ _ _ _ _ _); go_wp2_with (first | go_skip | refine tP ?_ | (refine tS ?_; clear hL; intro _ hL) | (refine tB ?_; clear hL; intro _ _ hL _) | (refine tC ?_; clear hL; intro _ _ hL _ hBs)); fail_if_success (with_reducible show wpList _ _ _ _ _ _)) | gi_step))
       exact And.intro ((HS0.out.trans hS8).trans hS6) ⟨_, _, R5, n0 + 1, hL.tail.tail, HX7.out.trans e8, RD.out, fun h => absurd h (by omega)⟩
end Go.Proofs.YtmhkmmmompediaaGreat
