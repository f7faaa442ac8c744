/- Part 4 of 5 of the proof: the law MasterProgram returns true for every input, and its arguments read as before; there is no condition. -/
import Derived.Test.YtabmjadcoepbeaaGreatEV38
import Derived.Test.YtabmjadcoepbeaaGreatRows
import Derived.Test.YtabmjadcoepbeaaGreatMP3
set_option linter.unusedVariables false
set_option linter.unusedSimpArgs false
set_option maxRecDepth 100000
set_option maxHeartbeats 64000000
/- slices.Sort of at most six numbers, over a row that lies hidden among the caller's blocks. -/
namespace Go.Proofs.YtabmjadcoepbeaaGreat
open Go.RowKit

theorem less_w (x y : Int) (w m : World) (hV : Vw m w) : Calls Tryz.prog 69 #[.int .i64 x, .int .i64 y] w (RetV w m fun _ r => r = .bool (decide (x < y))) := by
 have h1 := nan_w x w
 have h2 := nan_w y w
 generalize hz : decide (x < y) = z
 go_enter Tryz.func69, Tryz.ntmps69
 go_wp2_with (go_at_call 100; first | (refine h1.mono ?_; rintro e w' ⟨rfl, rfl⟩) | (refine h2.mono ?_; rintro e w' ⟨rfl, rfl⟩))
 go_ret
 exact ⟨_, m, rfl, Ext.refl _, Ext.refl _, hV, rfl⟩
theorem bits_w (k : Nat) (hk : k ≤ 6) (w m : World) (hV : Vw m w) : Calls Tryz.prog 82 #[.int .u64 (k : Int)] w (RetV w m fun _ r => ∃ z, r = .int .i64 z) := by
 have hL := Loc.start hV
 clear hV
 have K : Hid (∀ k : Nat, k ≤ 6 → ∀ w m, Vw m w → Calls Tryz.prog 122 #[.int .u64 (k : Int)] w (RetV w m fun _ r => ∃ z, r = .int .i64 z)) := by
  show ∀ k, _
  intro k hk w m hV
  have hL := Loc.start hV
  obtain rfl | rfl | rfl | rfl | rfl | rfl | rfl : k = 0 ∨ k = 1 ∨ k = 2 ∨ k = 3 ∨ k = 4 ∨ k = 5 ∨ k = 6 := by omega
  all_goals
   go_enter Tryz.func122, Tryz.ntmps122
   go_wp2
   go_ret
   exact RetV.mk hL ⟨_, rfl⟩
 go_enter Tryz.func82, Tryz.ntmps82
 go_wp2_with (first | go_skip | refine tP ?_)
 refine (K.out k hk _ _ hL.vw).mono ?_
 rintro e W1 ⟨_, m1, rfl, hE, hM1, hV, z, rfl⟩
 replace hL := hL.call hE (by assumption) hV; clear hE hV
 go_wp2_with (first | go_skip | refine tP ?_)
 go_ret
 exact RetV.mk hL ⟨_, rfl⟩

theorem s_InsI {w0 m0 W m : World} {A : List Lo} {g n cap : Nat} {cur : Array Value} {xs : List Nat} (hL : Loc w0 m0 W m ((g, 3, cur) :: A)) (row : RowA 3 1 IsI m (.slice (some ⟨g, 0, none⟩) n cap) n (natL xs) [(g, 3, cur)]) (hn1 : 1 ≤ n) (hn : n ≤ 1000) :
  Calls Tryz.prog 113 #[.slice (some ⟨g, 0, none⟩) n cap, .int .i64 0, .int .i64 n] W (fun e W' => ∃ (m' : World) (cur' : Array Value) (ys : List Nat), (∃ v, e = .returned v) ∧ Loc w0 m0 W' m' ((g, 3, cur') :: A) ∧ Ext m m' ∧
   RowA 3 1 IsI m' (.slice (some ⟨g, 0, none⟩) n cap) n (natL ys) [(g, 3, cur')] ∧ ys.Perm xs ∧ SortI ys n) := by
 have hlen : xs.length = n := by have := row.len; rw [natL_len] at this; exact this.symm
 have HN := Lib.hid hlen
 have ROW := Lib.hid row
 have hX0 : Ext m m := Ext.refl _
 have KL : Hid (∀ a b w m, Vw m w → Calls Tryz.prog 69 #[.int .i64 a, .int .i64 b] w (RetV w m fun _ r => r = .bool (decide (a < b)))) := less_w
 clear row hlen
 go_enter Tryz.func113, Tryz.ntmps113
 go_wp2_with (first | go_skip | refine tP ?_ | (refine tS ?_; clear hL; intro _ hL))
 go_loopw [6] (fun iv wr => ∃ (i : Nat) (mm : World) (cur' : Array Value) (ys : List Nat), 1 ≤ i ∧ i ≤ n ∧ iv = .int .i64 i ∧ Loc w0 m0 wr mm ((g, 3, cur') :: A) ∧ Ext m mm ∧ Hid (RowA 3 1 IsI mm (.slice (some ⟨g, 0, none⟩) n cap) n (natL ys) [(g, 3, cur')]) ∧ Hid (ys.Perm xs) ∧ Hid (SortI ys i)) (fun iv _ => n - (intOf iv).toNat)
 case atStart => exact ⟨1, m, cur, xs, by omega, hn1, by go_num, hL, hX0, ROW.out, List.Perm.refl _, SortI.one _⟩
 case round =>
  clear hL hX0 ROW
  obtain ⟨i, mm, cur1, ys0, hi1, hi, rfl, hL, hX, ROW1, HP0, HS0⟩ := hrel
  by_cases hlt : i < n
  ·have hlt' : (i : Int) < (n : Int) := by omega
   have HM0 : Hid (MidI ys0 i i) := MidI.start HS0.out
   clear HS0
   go_wp2_with (first | go_skip | refine tP ?_ | (refine tS ?_; clear hL; intro _ hL))
   go_loopw [7] (fun jv wr => ∃ (j : Nat) (m2 : World) (ys : List Nat) (cur2 : Array Value), j ≤ i ∧ jv = .int .i64 j ∧ Loc w0 m0 wr m2 ((g, 3, cur2) :: A) ∧ Hid (Ext m m2) ∧ Hid (RowA 3 1 IsI m2 (.slice (some ⟨g, 0, none⟩) n cap) n (natL ys) [(g, 3, cur2)]) ∧ Hid (ys.Perm xs) ∧ Hid (MidI ys i j)) (fun jv _ => (intOf jv).toNat)
   case atStart => exact ⟨i, _, ys0, cur1, Nat.le_refl _, rfl, hL, hX, ROW1.out, HP0.out, HM0.out⟩
   case round =>
    clear hL ROW1 HP0 HM0 hX
    obtain ⟨j, m2, ys, cur2, hj, rfl, hL, HX2, ROW2, HP, HM⟩ := hrel
    have hX := HX2.out
    by_cases hj0 : j = 0
    ·subst hj0
     have HS2 : Hid (SortI ys (i + 1)) := HM.out.stop0
     clear HM
     go_upto_region 4 with ((first | go_skip | refine tP ?_ | (refine tS ?_; clear hL; intro _ hL)))
     (try simp only [eq_self] at *)
     refine wp_region_by2 15 [false, false, false, false, false, false, false, false, false, false, false, false, false, false, false] [false, false, false, false, false, false, false, false, false, false, false, false, false, false, false] [(fun v _ _ => v = ?c4_0a), (fun v _ _ => v = ?c4_1a), (fun v _ _ => v = ?c4_2a), (fun v _ _ => v = ?c4_3a), (fun v _ _ => v = ?c4_4a), (fun v _ _ => v = ?c4_5a), (fun v _ _ => v = ?c4_6a), (fun v _ _ => v = ?c4_7a), (fun v _ _ => v = ?c4_8a), (fun v _ _ => v = ?c4_9a), (fun v _ _ => v = ?c4_10a), (fun v _ _ => v = ?c4_11a), (fun v _ _ => v = ?c4_12a), (fun v _ _ => v = ?c4_13a), (fun v _ _ => v = ?c4_14a)] hL.vw mixed [16, 17, 18, 19, 20, 21, 22, 23, 24, 25, 26, 27, 28, 29, 30] _ (by kernel_rfl) (fun vs => by simp only [lay, Act.put, zq1, zq2, zq3]; rfl) (by kernel_rfl) (by decide) (by decide) ?s4a ?l4a ?r4a
     case s4a =>
      refine ⟨?_, ?_, ?_, ?_, ?_, ?_, ?_, ?_, ?_, ?_, ?_, ?_, ?_, ?_, ?_, trivial⟩
      ·intro vs W1 m1 hE hM hV hD; clear hD
       exact sPw
      ·intro vs W1 m1 hE hM hV hD; clear hD
       exact sPw
      ·intro vs W1 m1 hE hM hV hD; obtain ⟨⟨_, _, -, -, f16⟩, ⟨_, _, -, -, f17⟩, -⟩ := hD
       rw [(f16 : vs 16 = _), (f17 : vs 17 = _)]; clear f16 f17; exact sPw
      ·intro vs W1 m1 hE hM hV hD; obtain ⟨⟨_, _, -, -, f18⟩, -⟩ := hD
       rw [(f18 : vs 18 = _)]; clear f18; exact sPw
      ·intro vs W1 m1 hE hM hV hD; obtain ⟨⟨_, _, -, -, f19⟩, -⟩ := hD
       rw [(f19 : vs 19 = _)]; clear f19; exact sPw
      ·intro vs W1 m1 hE hM hV hD; obtain ⟨⟨_, _, -, -, f19⟩, -⟩ := hD
       rw [(f19 : vs 19 = _)]; clear f19; exact sPw
      ·intro vs W1 m1 hE hM hV hD; obtain ⟨⟨_, _, -, -, f20⟩, ⟨_, _, -, -, f21⟩, ⟨_, _, -, -, f19⟩, -⟩ := hD
       rw [(f20 : vs 20 = _), (f21 : vs 21 = _), (f19 : vs 19 = _)]; clear f20 f21 f19; exact sPw
      ·intro vs W1 m1 hE hM hV hD; obtain ⟨⟨_, _, -, -, f22⟩, ⟨_, _, -, -, f19⟩, -⟩ := hD
       rw [(f22 : vs 22 = _), (f19 : vs 19 = _)]; clear f22 f19; exact sPw
      ·intro vs W1 m1 hE hM hV hD; obtain ⟨⟨_, _, -, -, f19⟩, -⟩ := hD
       rw [(f19 : vs 19 = _)]; clear f19; exact sPw
      ·intro vs W1 m1 hE hM hV hD; obtain ⟨⟨_, _, -, -, f19⟩, -⟩ := hD
       rw [(f19 : vs 19 = _)]; clear f19; exact sPw
      ·intro vs W1 m1 hE hM hV hD; obtain ⟨⟨_, _, -, -, f25⟩, ⟨_, _, -, -, f19⟩, -⟩ := hD
       rw [(f25 : vs 25 = _), (f19 : vs 19 = _)]; clear f25 f19; exact sPw
      ·intro vs W1 m1 hE hM hV hD; obtain ⟨⟨_, _, -, -, f24⟩, ⟨_, _, -, -, f26⟩, ⟨_, _, -, -, f19⟩, -⟩ := hD
       rw [(f24 : vs 24 = _), (f26 : vs 26 = _), (f19 : vs 19 = _)]; clear f24 f26 f19; exact sPw
      ·intro vs W1 m1 hE hM hV hD; obtain ⟨⟨_, _, -, -, f27⟩, ⟨_, _, -, -, f19⟩, -⟩ := hD
       rw [(f27 : vs 27 = _), (f19 : vs 19 = _)]; clear f27 f19; exact sPw
      ·intro vs W1 m1 hE hM hV hD; obtain ⟨⟨_, _, -, -, f23⟩, ⟨_, _, -, -, f28⟩, ⟨_, _, -, -, f19⟩, -, -⟩ := hD
       rw [(f23 : vs 23 = _), (f28 : vs 28 = _), (f19 : vs 19 = _)]; clear f23 f28 f19; exact sPw
      ·intro vs W1 m1 hE hM hV hD; obtain ⟨⟨_, _, -, -, f19⟩, ⟨_, _, -, -, f29⟩, -⟩ := hD
       rw [(f19 : vs 19 = _), (f29 : vs 29 = _)]; clear f19 f29; exact sPw
     case l4a =>
      refine ⟨nF, nF, nF, nF, nF, nF, nF, nF, nF, nF, nF, nF, nF, nF, nF, trivial⟩
     intro vs W1 m1 hE hM hV hF hD
     clear hD
     obtain ⟨⟨_, _, -, -, f16⟩, ⟨_, _, -, -, f17⟩, ⟨_, _, -, -, f18⟩, ⟨_, _, -, -, f19⟩, ⟨_, _, -, -, f20⟩, ⟨_, _, -, -, f21⟩, ⟨_, _, -, -, f22⟩, ⟨_, _, -, -, f23⟩, ⟨_, _, -, -, f24⟩, ⟨_, _, -, -, f25⟩, ⟨_, _, -, -, f26⟩, ⟨_, _, -, -, f27⟩, ⟨_, _, -, -, f28⟩, ⟨_, _, -, -, f29⟩, ⟨_, _, -, -, f30⟩, -⟩ := hF
     replace hL := hL.call hE hM hV
     have f16 : vs 16 = _ := f16
     generalize vs 16 = x16 at f16 ⊢
     subst x16
     have f17 : vs 17 = _ := f17
     generalize vs 17 = x17 at f17 ⊢
     subst x17
     have f18 : vs 18 = _ := f18
     generalize vs 18 = x18 at f18 ⊢
     subst x18
     have f19 : vs 19 = _ := f19
     generalize vs 19 = x19 at f19 ⊢
     subst x19
     have f20 : vs 20 = _ := f20
     generalize vs 20 = x20 at f20 ⊢
     subst x20
     have f21 : vs 21 = _ := f21
     generalize vs 21 = x21 at f21 ⊢
     subst x21
     have f22 : vs 22 = _ := f22
     generalize vs 22 = x22 at f22 ⊢
     subst x22
     have f23 : vs 23 = _ := f23
     generalize vs 23 = x23 at f23 ⊢
     subst x23
     have f24 : vs 24 = _ := f24
     generalize vs 24 = x24 at f24 ⊢
     subst x24
     have f25 : vs 25 = _ := f25
     generalize vs 25 = x25 at f25 ⊢
     subst x25
     have f26 : vs 26 = _ := f26
     generalize vs 26 = x26 at f26 ⊢
     subst x26
     have f27 : vs 27 = _ := f27
     generalize vs 27 = x27 at f27 ⊢
     subst x27
     have f28 : vs 28 = _ := f28
     generalize vs 28 = x28 at f28 ⊢
     subst x28
     have f29 : vs 29 = _ := f29
     generalize vs 29 = x29 at f29 ⊢
     subst x29
     have f30 : vs 30 = _ := f30
     generalize vs 30 = x30 at f30 ⊢
     subst x30
     clear hE hV
     simp only [List.drop_succ_cons, List.drop_zero]
     go_wp2_with (first | go_skip | refine tP ?_ | (refine tS ?_; clear hL; intro _ hL))
     refine QN.mk ?_
     go_wp2_with (first | go_skip | refine tP ?_ | (refine tS ?_; clear hL; intro _ hL))
     go_roundw
     case rel => exact ⟨i + 1, _, _, ys, by omega, by omega, by go_num, hL, exX, RowA.le isI_mono ROW2.out leX, HP.out, HS2.out⟩
     case measure => simp [intOf] <;> omega
    ·obtain ⟨j1, hj1⟩ : ∃ j1, j1 + 1 = j := ⟨j - 1, by omega⟩
     have HYN : Hid (ys.length = n) := HP.out.length_eq.trans HN.out
     have hjn : j < n := by omega
     have hjn1 : j1 < n := by omega
     obtain ⟨xa, hxa⟩ := at_some HYN hjn
     obtain ⟨xb, hxb⟩ := at_some HYN hjn1
     have hca := row_int ROW2.out (natL_at hxa)
     have hcb := row_int ROW2.out (natL_at hxb)
     have hjd : decide (0 < j) = true := decide_eq_true (by omega)
     have hjp : decide ((0 : Int) < (j : Int)) = true := decide_eq_true (by omega)
     have hw1 : wrap64 ((j : Int) - 1) = (j1 : Int) := by unfold wrap64; omega
     have hw2 : (j : Int) - 1 = (j1 : Int) := by omega
     have hw3 : IntKind.i64.wrap ((j : Int) - 1) = (j1 : Int) := by rw [IntKind.wrap_i64]; omega
     have HJ := Lib.hid hj1
     have HXA := Lib.hid hxa
     have HXB := Lib.hid hxb
     have HST : Hid (¬ xa < xb → SortI ys (i + 1)) := by
      show _ → _
      intro h
      have hm := HM.out
      rw [← hj1] at hm hxa
      exact hm.stop hxa hxb h
     have HGO : Hid (xa < xb → MidI ((ys.set j xb).set j1 xa) i j1) := by
      show _ → _
      intro h
      have hm := HM.out
      have hx := hxa
      rw [← hj1] at hm hx ⊢
      exact hm.go hx hxb h (by omega)
     have HPP : Hid (((ys.set j xb).set j1 xa).Perm xs) := (swap_perm hxa hxb).trans HP.out
     obtain ⟨bl, hbl⟩ : ∃ bl, bl = decide ((xa : Int) < (xb : Int)) := ⟨_, rfl⟩
     have KC : Hid (∀ w m', Vw m' w → Calls Tryz.prog 69 #[.int .i64 (xa : Int), .int .i64 (xb : Int)] w (RetV w m' fun _ r => r = .bool bl)) := by
      show ∀ w m', _
      intro w m' hV
      rw [hbl]
      exact KL.out _ _ w m' hV
     have hfj : j < cur2.size := by have h1 := ROW2.out.fit; omega
     have hfj1 : j1 < cur2.size := by have h1 := ROW2.out.fit; omega
     clear hxa hxb hj1 hj0 HM HP
     by_cases hc : xa < xb
     ·have HMG := Lib.hid (HGO.out hc)
      obtain rfl : bl = true := hbl.trans (decide_eq_true (by omega))
      clear hbl hc HST HGO
      have HFJ := Lib.hid hfj
      have HFJ1 := Lib.hid hfj1
      clear hfj hfj1
      go_upto_region 4 with ((first | go_skip | refine tP ?_ | (refine tS ?_; clear hL; intro _ hL)))
      (try simp only [eq_self] at *)
      refine wp_region_by2 15 [false, false, false, false, false, false, false, false, false, false, false, false, false, false, false] [false, false, false, false, false, false, false, false, false, false, false, false, false, false, false] [(fun v _ _ => v = ?c4_0b), (fun v _ _ => v = ?c4_1b), (fun v _ _ => v = ?c4_2b), (fun v _ _ => v = ?c4_3b), (fun v _ _ => v = ?c4_4b), (fun v _ _ => v = ?c4_5b), (fun v _ _ => v = ?c4_6b), Is (.int .i64 (xa : Int)), (fun v _ _ => v = ?c4_8b), (fun v _ _ => v = ?c4_9b), (fun v _ _ => v = ?c4_10b), (fun v _ _ => v = ?c4_11b), Is (.int .i64 (xb : Int)), Is (.bool true), (fun v _ _ => v = ?c4_14b)] hL.vw mixed [16, 17, 18, 19, 20, 21, 22, 23, 24, 25, 26, 27, 28, 29, 30] _ (by kernel_rfl) (fun vs => by simp only [lay, Act.put, zq1, zq2, zq3]; rfl) (by kernel_rfl) (by decide) (by decide) ?s4b ?l4b ?r4b
      case s4b =>
       refine ⟨?_, ?_, ?_, ?_, ?_, ?_, ?_, ?_, ?_, ?_, ?_, ?_, ?_, ?_, ?_, trivial⟩
       ·intro vs W1 m1 hE hM hV hD; clear hD
        exact sPw
       ·intro vs W1 m1 hE hM hV hD; clear hD
        exact sPw
       ·intro vs W1 m1 hE hM hV hD; obtain ⟨⟨_, _, -, -, f16⟩, ⟨_, _, -, -, f17⟩, -⟩ := hD
        rw [(f16 : vs 16 = _), (f17 : vs 17 = _)]; clear f16 f17; exact sPw
       ·intro vs W1 m1 hE hM hV hD; obtain ⟨⟨_, _, -, -, f18⟩, -⟩ := hD
        rw [(f18 : vs 18 = _)]; clear f18; exact sPw
       ·intro vs W1 m1 hE hM hV hD; obtain ⟨⟨_, _, -, -, f19⟩, -⟩ := hD
        rw [(f19 : vs 19 = _)]; clear f19; exact sPw
       ·intro vs W1 m1 hE hM hV hD; obtain ⟨⟨_, _, -, -, f19⟩, -⟩ := hD
        rw [(f19 : vs 19 = _)]; clear f19; exact sPw
       ·intro vs W1 m1 hE hM hV hD; obtain ⟨⟨_, _, -, -, f20⟩, ⟨_, _, -, -, f21⟩, ⟨_, _, -, -, f19⟩, -⟩ := hD
        rw [(f20 : vs 20 = _), (f21 : vs 21 = _), (f19 : vs 19 = _)]; clear f20 f21 f19; exact sIy
       ·intro vs W1 m1 hE hM hV hD; obtain ⟨⟨_, _, -, -, f22⟩, ⟨_, _, -, -, f19⟩, -⟩ := hD
        rw [(f22 : vs 22 = _), (f19 : vs 19 = _)]
        clear f22 f19
        (replace hL := hL.call hE hM hV; refine wl_load1 hL (by first | exact wanted_none rfl | exact wanted_some rfl rfl rfl rfl) rfl rfl lb_int (n := 0) rfl hca ?_; simp only [Act.put, zq1, zq2, zq3]; refine One2.still hV ?_; exact rfl)
       ·intro vs W1 m1 hE hM hV hD; obtain ⟨⟨_, _, -, -, f19⟩, -⟩ := hD
        rw [(f19 : vs 19 = _)]; clear f19; exact sPw
       ·intro vs W1 m1 hE hM hV hD; obtain ⟨⟨_, _, -, -, f19⟩, -⟩ := hD
        rw [(f19 : vs 19 = _)]; clear f19; exact sPw
       ·intro vs W1 m1 hE hM hV hD; obtain ⟨⟨_, _, -, -, f25⟩, ⟨_, _, -, -, f19⟩, -⟩ := hD
        rw [(f25 : vs 25 = _), (f19 : vs 19 = _)]; clear f25 f19; exact sPw
       ·intro vs W1 m1 hE hM hV hD; obtain ⟨⟨_, _, -, -, f24⟩, ⟨_, _, -, -, f26⟩, ⟨_, _, -, -, f19⟩, -⟩ := hD
        rw [(f24 : vs 24 = _), (f26 : vs 26 = _), (f19 : vs 19 = _)]; clear f24 f26 f19; exact sIy
       ·intro vs W1 m1 hE hM hV hD; obtain ⟨⟨_, _, -, -, f27⟩, ⟨_, _, -, -, f19⟩, -⟩ := hD
        rw [(f27 : vs 27 = _), (f19 : vs 19 = _)]
        clear f27 f19
        (replace hL := hL.call hE hM hV; refine wl_load1 hL (by first | exact wanted_none rfl | exact wanted_some rfl rfl rfl rfl) rfl rfl lb_int (n := 0) rfl hcb ?_; simp only [Act.put, zq1, zq2, zq3]; refine One2.still hV ?_; exact rfl)
       ·intro vs W1 m1 hE hM hV hD; obtain ⟨⟨_, _, -, -, f23⟩, ⟨_, _, -, -, f28⟩, ⟨_, _, -, -, f19⟩, -, -⟩ := hD
        rw [(f23 : vs 23 = _), (f28 : vs 28 = _), (f19 : vs 19 = _)]
        clear f23 f28 f19
        go_wp2_with fail
        refine (KC.out _ _ hV).mono ?_
        rintro e W2 ⟨v, m2, rfl, hE2, hM2, hV2, h⟩
        go_wp2_with fail
        refine One2.call hE2 hM2 hV2 ?_; first | exact h | exact rfl
       ·intro vs W1 m1 hE hM hV hD; obtain ⟨⟨_, _, -, -, f19⟩, ⟨_, _, -, -, f29⟩, -⟩ := hD
        rw [(f19 : vs 19 = _), (f29 : vs 29 = _)]; clear f19 f29; exact sPw
      case l4b =>
       refine ⟨nF, nF, nF, nF, nF, nF, nF, nF, nF, nF, nF, nF, nF, nF, nF, trivial⟩
      intro vs W1 m1 hE hM hV hF hD
      clear hD
      obtain ⟨⟨_, _, -, -, f16⟩, ⟨_, _, -, -, f17⟩, ⟨_, _, -, -, f18⟩, ⟨_, _, -, -, f19⟩, ⟨_, _, -, -, f20⟩, ⟨_, _, -, -, f21⟩, ⟨_, _, -, -, f22⟩, ⟨_, _, -, -, f23⟩, ⟨_, _, -, -, f24⟩, ⟨_, _, -, -, f25⟩, ⟨_, _, -, -, f26⟩, ⟨_, _, -, -, f27⟩, ⟨_, _, -, -, f28⟩, ⟨_, _, -, -, f29⟩, ⟨_, _, -, -, f30⟩, -⟩ := hF
      replace hL := hL.call hE hM hV
      have f16 : vs 16 = _ := f16
      generalize vs 16 = x16 at f16 ⊢
      subst x16
      have f17 : vs 17 = _ := f17
      generalize vs 17 = x17 at f17 ⊢
      subst x17
      have f18 : vs 18 = _ := f18
      generalize vs 18 = x18 at f18 ⊢
      subst x18
      have f19 : vs 19 = _ := f19
      generalize vs 19 = x19 at f19 ⊢
      subst x19
      have f20 : vs 20 = _ := f20
      generalize vs 20 = x20 at f20 ⊢
      subst x20
      have f21 : vs 21 = _ := f21
      generalize vs 21 = x21 at f21 ⊢
      subst x21
      have f22 : vs 22 = _ := f22
      generalize vs 22 = x22 at f22 ⊢
      subst x22
      have f23 : vs 23 = _ := f23
      generalize vs 23 = x23 at f23 ⊢
      subst x23
      have f24 : vs 24 = _ := f24
      generalize vs 24 = x24 at f24 ⊢
      subst x24
      have f25 : vs 25 = _ := f25
      generalize vs 25 = x25 at f25 ⊢
      subst x25
      have f26 : vs 26 = _ := f26
      generalize vs 26 = x26 at f26 ⊢
      subst x26
      have f27 : vs 27 = _ := f27
      generalize vs 27 = x27 at f27 ⊢
      subst x27
      have f28 : vs 28 = _ := f28
      generalize vs 28 = x28 at f28 ⊢
      subst x28
      have f29 : vs 29 = _ := f29
      generalize vs 29 = x29 at f29 ⊢
      subst x29
      have f30 : vs 30 = _ := f30
      generalize vs 30 = x30 at f30 ⊢
      subst x30
      clear hE hV
      simp only [List.drop_succ_cons, List.drop_zero]
      go_wp2_with (first | go_skip | refine tP ?_ | (refine tS ?_; clear hL; intro _ hL))
      refine QN.mk ?_
      have HM1 : Hid (Ext m2 m1) := exX
      have HXB1 := Lib.hid hX
      clear hX
      go_upto_region 6 with ((first | go_skip | refine tP ?_ | (refine tS ?_; clear hL; intro _ hL)))
      (try simp only [eq_self] at *)
      refine wp_region_by2 14 [false, false, false, false, false, false, false, false, false, false, false, false, false, false] [false, false, true, true, true, false, false, false, false, false, false, false, false, false] [(fun v _ _ => v = ?c6_0b), (fun v _ _ => v = ?c6_1b), (fun v _ _ => v = ?c6_2b), (fun v _ _ => v = ?c6_3b), (fun v _ _ => v = ?c6_4b), (fun v _ _ => v = ?c6_5b), (fun v _ _ => v = ?c6_6b), (fun v _ _ => v = ?c6_7b), (fun v _ _ => v = ?c6_8b), Is (.int .i64 (xb : Int)), (fun v _ _ => v = ?c6_10b), (fun v _ _ => v = ?c6_11b), (fun v _ _ => v = ?c6_12b), Is (.int .i64 (xa : Int))] hL.vw mixed [33, 34, 35, 36, 37, 38, 39, 40, 41, 42, 43, 44, 45, 46] _ (by kernel_rfl) (fun vs => by simp only [lay, Act.put, zq1, zq2, zq3]; rfl) (by kernel_rfl) (by decide) (by decide) ?s6b ?l6b ?r6b
      case s6b =>
       refine ⟨?_, ?_, ?_, ?_, ?_, ?_, ?_, ?_, ?_, ?_, ?_, ?_, ?_, ?_, trivial⟩
       ·intro vs W1 m1 hE hM hV hD; clear hD
        exact sPw
       ·intro vs W1 m1 hE hM hV hD; clear hD
        exact sPw
       ·intro vs W1 m1 hE hM hV hD; clear hD
        exact sPw
       ·intro vs W1 m1 hE hM hV hD; clear hD
        exact sPw
       ·intro vs W1 m1 hE hM hV hD; obtain ⟨⟨_, _, -, -, f36⟩, -, -⟩ := hD
        rw [(f36 : vs 36 = _)]; clear f36; exact sPw
       ·intro vs W1 m1 hE hM hV hD; clear hD
        exact sPw
       ·intro vs W1 m1 hE hM hV hD; clear hD
        exact sPw
       ·intro vs W1 m1 hE hM hV hD; obtain ⟨⟨_, _, -, -, f39⟩, -⟩ := hD
        rw [(f39 : vs 39 = _)]; clear f39; exact sPw
       ·intro vs W1 m1 hE hM hV hD; obtain ⟨⟨_, _, -, -, f38⟩, ⟨_, _, -, -, f40⟩, -⟩ := hD
        rw [(f38 : vs 38 = _), (f40 : vs 40 = _)]; clear f38 f40; exact sIy
       ·intro vs W1 m1 hE hM hV hD; obtain ⟨⟨_, _, -, -, f41⟩, -⟩ := hD
        rw [(f41 : vs 41 = _)]
        clear f41
        (replace hL := hL.call hE hM hV; refine wl_load1 hL (by first | exact wanted_none rfl | exact wanted_some rfl rfl rfl rfl) rfl rfl lb_int (n := 0) rfl hcb ?_; simp only [Act.put, zq1, zq2, zq3]; refine One2.still hV ?_; exact rfl)
       ·intro vs W1 m1 hE hM hV hD; clear hD
        exact sPw
       ·intro vs W1 m1 hE hM hV hD; clear hD
        exact sPw
       ·intro vs W1 m1 hE hM hV hD; obtain ⟨⟨_, _, -, -, f43⟩, ⟨_, _, -, -, f44⟩, -⟩ := hD
        rw [(f43 : vs 43 = _), (f44 : vs 44 = _)]; clear f43 f44; exact sIy
       ·intro vs W1 m1 hE hM hV hD; obtain ⟨⟨_, _, -, -, f45⟩, -⟩ := hD
        rw [(f45 : vs 45 = _)]
        clear f45
        (replace hL := hL.call hE hM hV; refine wl_load1 hL (by first | exact wanted_none rfl | exact wanted_some rfl rfl rfl rfl) rfl rfl lb_int (n := 0) rfl hca ?_; simp only [Act.put, zq1, zq2, zq3]; refine One2.still hV ?_; exact rfl)
      case l6b =>
       refine ⟨nF, nF, fun _ => ?_, fun _ => ?_, fun _ => ?_, nF, nF, nF, nF, nF, nF, nF, nF, nF, trivial⟩
       ·intro vs W1 m1 hE hM hV hD; clear hD
        exact ⟨_, Or.inl ⟨(by rfl), fun w => (by rfl)⟩, (by first | exact rfl | exact congrArg (Value.int .i64) hw3)⟩
       ·intro vs W1 m1 hE hM hV hD; clear hD
        exact ⟨_, Or.inl ⟨(by rfl), fun w => (by rfl)⟩, (by first | exact rfl | exact congrArg (Value.int .i64) hw3)⟩
       ·intro vs W1 m1 hE hM hV hD; obtain ⟨⟨_, _, -, -, f36⟩, -, -⟩ := hD
        rw [(f36 : vs 36 = _)]
        clear f36
        exact ⟨_, Or.inl ⟨(by rfl), fun w => (by rfl)⟩, (by first | exact rfl | exact congrArg (Value.int .i64) hw3)⟩
      intro vs W1 m1 hE hM hV hF hD
      clear hD
      obtain ⟨⟨_, _, -, -, f33⟩, ⟨_, _, -, -, f34⟩, ⟨_, _, -, -, f35⟩, -, ⟨_, _, -, -, f37⟩, -, -, -, -, ⟨_, _, -, -, f42⟩, -, -, -, ⟨_, _, -, -, f46⟩, -⟩ := hF
      replace hL := hL.call hE hM hV
      have f33 : vs 33 = _ := f33
      generalize vs 33 = x33 at f33 ⊢
      subst x33
      have f34 : vs 34 = _ := f34
      generalize vs 34 = x34 at f34 ⊢
      subst x34
      have f35 : vs 35 = _ := f35
      generalize vs 35 = x35 at f35 ⊢
      subst x35
      have f37 : vs 37 = _ := f37
      generalize vs 37 = x37 at f37 ⊢
      subst x37
      have f42 : vs 42 = _ := f42
      generalize vs 42 = x42 at f42 ⊢
      subst x42
      have f46 : vs 46 = _ := f46
      generalize vs 46 = x46 at f46 ⊢
      subst x46
      clear hE hV
      simp only [List.drop_succ_cons, List.drop_zero]
      go_wp2_with (first | (with_reducible refine stS ?_) | (first | go_skip | refine tP ?_ | (refine tS ?_; clear hL; intro _ hL)))
      refine goA ?_
      refine wl_store1 hL (wanted_none rfl) (v := .int .i64 (xb : Int)) (off := j) rfl rfl rfl lb_int (n := 0) rfl HFJ.out rfl rfl ?_
      have hra1 := RowA.putI (k := j) (x := (xb : Int)) ROW2.out
      rw [natL_set] at hra1
      simp only [Nat.zero_add] at hra1
      clear hL
      intro W7 hL
      simp only [List.set_cons_zero] at hL
      simp only [Act.put, zq1, zq2, zq3]
      go_wp2_with (first | (with_reducible refine stS ?_) | (first | go_skip | refine tP ?_ | (refine tS ?_; clear hL; intro _ hL)))
      refine goA ?_
      refine wl_store1 hL (wanted_none rfl) (v := .int .i64 (xa : Int)) (off := 0 + j1) rfl rfl rfl lb_int (n := 0) rfl (by rw [splice_size, Nat.zero_add]; exact HFJ1.out) rfl rfl ?_
      have hra2 := RowA.putI (k := j1) (x := (xa : Int)) hra1
      rw [natL_set] at hra2
      clear hL hra1
      intro W8 hL
      simp only [List.set_cons_zero] at hL
      have RA2 := Lib.hid hra2
      clear hra2
      simp only [Act.put, zq1, zq2, zq3]
      go_wp2_with (first | go_skip | refine tP ?_ | (refine tS ?_; clear hL; intro _ hL))
      refine QN.mk ?_
      go_wp2_with (first | go_skip | refine tP ?_ | (refine tS ?_; clear hL; intro _ hL))
      go_roundw
      case rel => exact ⟨j1, _, _, _, by have := HJ.out; omega, by have := HJ.out; go_num, hL, HXB1.out.trans exX, RowA.le isI_mono RA2.out leX, HPP.out, HMG.out⟩
      case measure => have := HJ.out; simp [intOf] <;> omega
     ·have HS2 := Lib.hid (HST.out hc)
      obtain rfl : bl = false := hbl.trans (decide_eq_false (by omega))
      clear hbl hc HST HGO hfj hfj1
      have HPO : Hid (ys.Perm xs) := by
       show _
       have := HPP.out
       exact (swap_perm HXA.out HXB.out).symm.trans this
      go_upto_region 4 with ((first | go_skip | refine tP ?_ | (refine tS ?_; clear hL; intro _ hL)))
      (try simp only [eq_self] at *)
      refine wp_region_by2 15 [false, false, false, false, false, false, false, false, false, false, false, false, false, false, false] [false, false, false, false, false, false, false, false, false, false, false, false, false, false, false] [(fun v _ _ => v = ?c4_0c), (fun v _ _ => v = ?c4_1c), (fun v _ _ => v = ?c4_2c), (fun v _ _ => v = ?c4_3c), (fun v _ _ => v = ?c4_4c), (fun v _ _ => v = ?c4_5c), (fun v _ _ => v = ?c4_6c), Is (.int .i64 (xa : Int)), (fun v _ _ => v = ?c4_8c), (fun v _ _ => v = ?c4_9c), (fun v _ _ => v = ?c4_10c), (fun v _ _ => v = ?c4_11c), Is (.int .i64 (xb : Int)), Is (.bool false), (fun v _ _ => v = ?c4_14c)] hL.vw mixed [16, 17, 18, 19, 20, 21, 22, 23, 24, 25, 26, 27, 28, 29, 30] _ (by kernel_rfl) (fun vs => by simp only [lay, Act.put, zq1, zq2, zq3]; rfl) (by kernel_rfl) (by decide) (by decide) ?s4c ?l4c ?r4c
      case s4c =>
       refine ⟨?_, ?_, ?_, ?_, ?_, ?_, ?_, ?_, ?_, ?_, ?_, ?_, ?_, ?_, ?_, trivial⟩
       ·intro vs W1 m1 hE hM hV hD; clear hD
        exact sPw
       ·intro vs W1 m1 hE hM hV hD; clear hD
        exact sPw
       ·intro vs W1 m1 hE hM hV hD; obtain ⟨⟨_, _, -, -, f16⟩, ⟨_, _, -, -, f17⟩, -⟩ := hD
        rw [(f16 : vs 16 = _), (f17 : vs 17 = _)]; clear f16 f17; exact sPw
       ·intro vs W1 m1 hE hM hV hD; obtain ⟨⟨_, _, -, -, f18⟩, -⟩ := hD
        rw [(f18 : vs 18 = _)]; clear f18; exact sPw
       ·intro vs W1 m1 hE hM hV hD; obtain ⟨⟨_, _, -, -, f19⟩, -⟩ := hD
        rw [(f19 : vs 19 = _)]; clear f19; exact sPw
       ·intro vs W1 m1 hE hM hV hD; obtain ⟨⟨_, _, -, -, f19⟩, -⟩ := hD
        rw [(f19 : vs 19 = _)]; clear f19; exact sPw
       ·intro vs W1 m1 hE hM hV hD; obtain ⟨⟨_, _, -, -, f20⟩, ⟨_, _, -, -, f21⟩, ⟨_, _, -, -, f19⟩, -⟩ := hD
        rw [(f20 : vs 20 = _), (f21 : vs 21 = _), (f19 : vs 19 = _)]; clear f20 f21 f19; exact sIy
       ·intro vs W1 m1 hE hM hV hD; obtain ⟨⟨_, _, -, -, f22⟩, ⟨_, _, -, -, f19⟩, -⟩ := hD
        rw [(f22 : vs 22 = _), (f19 : vs 19 = _)]
        clear f22 f19
        (replace hL := hL.call hE hM hV; refine wl_load1 hL (by first | exact wanted_none rfl | exact wanted_some rfl rfl rfl rfl) rfl rfl lb_int (n := 0) rfl hca ?_; simp only [Act.put, zq1, zq2, zq3]; refine One2.still hV ?_; exact rfl)
       ·intro vs W1 m1 hE hM hV hD; obtain ⟨⟨_, _, -, -, f19⟩, -⟩ := hD
        rw [(f19 : vs 19 = _)]; clear f19; exact sPw
       ·intro vs W1 m1 hE hM hV hD; obtain ⟨⟨_, _, -, -, f19⟩, -⟩ := hD
        rw [(f19 : vs 19 = _)]; clear f19; exact sPw
       ·intro vs W1 m1 hE hM hV hD; obtain ⟨⟨_, _, -, -, f25⟩, ⟨_, _, -, -, f19⟩, -⟩ := hD
        rw [(f25 : vs 25 = _), (f19 : vs 19 = _)]; clear f25 f19; exact sPw
       ·intro vs W1 m1 hE hM hV hD; obtain ⟨⟨_, _, -, -, f24⟩, ⟨_, _, -, -, f26⟩, ⟨_, _, -, -, f19⟩, -⟩ := hD
        rw [(f24 : vs 24 = _), (f26 : vs 26 = _), (f19 : vs 19 = _)]; clear f24 f26 f19; exact sIy
       ·intro vs W1 m1 hE hM hV hD; obtain ⟨⟨_, _, -, -, f27⟩, ⟨_, _, -, -, f19⟩, -⟩ := hD
        rw [(f27 : vs 27 = _), (f19 : vs 19 = _)]
        clear f27 f19
        (replace hL := hL.call hE hM hV; refine wl_load1 hL (by first | exact wanted_none rfl | exact wanted_some rfl rfl rfl rfl) rfl rfl lb_int (n := 0) rfl hcb ?_; simp only [Act.put, zq1, zq2, zq3]; refine One2.still hV ?_; exact rfl)
       ·intro vs W1 m1 hE hM hV hD; obtain ⟨⟨_, _, -, -, f23⟩, ⟨_, _, -, -, f28⟩, ⟨_, _, -, -, f19⟩, -, -⟩ := hD
        rw [(f23 : vs 23 = _), (f28 : vs 28 = _), (f19 : vs 19 = _)]
        clear f23 f28 f19
        go_wp2_with fail
        refine (KC.out _ _ hV).mono ?_
        rintro e W2 ⟨v, m2, rfl, hE2, hM2, hV2, h⟩
        go_wp2_with fail
        refine One2.call hE2 hM2 hV2 ?_; first | exact h | exact rfl
       ·intro vs W1 m1 hE hM hV hD; obtain ⟨⟨_, _, -, -, f19⟩, ⟨_, _, -, -, f29⟩, -⟩ := hD
        rw [(f19 : vs 19 = _), (f29 : vs 29 = _)]; clear f19 f29; exact sPw
      case l4c =>
       refine ⟨nF, nF, nF, nF, nF, nF, nF, nF, nF, nF, nF, nF, nF, nF, nF, trivial⟩
      intro vs W1 m1 hE hM hV hF hD
      clear hD
      obtain ⟨⟨_, _, -, -, f16⟩, ⟨_, _, -, -, f17⟩, ⟨_, _, -, -, f18⟩, ⟨_, _, -, -, f19⟩, ⟨_, _, -, -, f20⟩, ⟨_, _, -, -, f21⟩, ⟨_, _, -, -, f22⟩, ⟨_, _, -, -, f23⟩, ⟨_, _, -, -, f24⟩, ⟨_, _, -, -, f25⟩, ⟨_, _, -, -, f26⟩, ⟨_, _, -, -, f27⟩, ⟨_, _, -, -, f28⟩, ⟨_, _, -, -, f29⟩, ⟨_, _, -, -, f30⟩, -⟩ := hF
      replace hL := hL.call hE hM hV
      have f16 : vs 16 = _ := f16
      generalize vs 16 = x16 at f16 ⊢
      subst x16
      have f17 : vs 17 = _ := f17
      generalize vs 17 = x17 at f17 ⊢
      subst x17
      have f18 : vs 18 = _ := f18
      generalize vs 18 = x18 at f18 ⊢
      subst x18
      have f19 : vs 19 = _ := f19
      generalize vs 19 = x19 at f19 ⊢
      subst x19
      have f20 : vs 20 = _ := f20
      generalize vs 20 = x20 at f20 ⊢
      subst x20
      have f21 : vs 21 = _ := f21
      generalize vs 21 = x21 at f21 ⊢
      subst x21
      have f22 : vs 22 = _ := f22
      generalize vs 22 = x22 at f22 ⊢
      subst x22
      have f23 : vs 23 = _ := f23
      generalize vs 23 = x23 at f23 ⊢
      subst x23
      have f24 : vs 24 = _ := f24
      generalize vs 24 = x24 at f24 ⊢
      subst x24
      have f25 : vs 25 = _ := f25
      generalize vs 25 = x25 at f25 ⊢
      subst x25
      have f26 : vs 26 = _ := f26
      generalize vs 26 = x26 at f26 ⊢
      subst x26
      have f27 : vs 27 = _ := f27
      generalize vs 27 = x27 at f27 ⊢
      subst x27
      have f28 : vs 28 = _ := f28
      generalize vs 28 = x28 at f28 ⊢
      subst x28
      have f29 : vs 29 = _ := f29
      generalize vs 29 = x29 at f29 ⊢
      subst x29
      have f30 : vs 30 = _ := f30
      generalize vs 30 = x30 at f30 ⊢
      subst x30
      clear hE hV
      simp only [List.drop_succ_cons, List.drop_zero]
      go_wp2_with (first | go_skip | refine tP ?_ | (refine tS ?_; clear hL; intro _ hL))
      refine QN.mk ?_
      go_wp2_with (first | go_skip | refine tP ?_ | (refine tS ?_; clear hL; intro _ hL))
      go_roundw
      case rel => exact ⟨i + 1, _, _, ys, by omega, by omega, by go_num, hL, exX, RowA.le isI_mono ROW2.out leX, HPO.out, HS2.out⟩
      case measure => simp [intOf] <;> omega
  ·have hin : i = n := by omega
   subst hin
   have h9 : (i : Int) ≤ (i : Int) := Int.le_refl _
   go_wp2_with (first | go_skip | refine tP ?_ | (refine tS ?_; clear hL; intro _ hL))
   refine bodyPost_end (results_none rfl _ _ _) rfl ?_
   exact ⟨_, cur1, ys0, ⟨_, rfl⟩, hL, hX, ROW1.out, HP0.out, HS0.out⟩

theorem s_PdqI {w0 m0 W m : World} {A : List Lo} {g n cap : Nat} {cur : Array Value} {xs : List Nat} (hL : Loc w0 m0 W m ((g, 3, cur) :: A)) (row : RowA 3 1 IsI m (.slice (some ⟨g, 0, none⟩) n cap) n (natL xs) [(g, 3, cur)]) (hn1 : 1 ≤ n) (hn : n ≤ 6) (z : Int) :
  Calls Tryz.prog 81 #[.slice (some ⟨g, 0, none⟩) n cap, .int .i64 0, .int .i64 n, .int .i64 z] W (fun e W' => ∃ (m' : World) (cur' : Array Value) (ys : List Nat), (∃ v, e = .returned v) ∧ Loc w0 m0 W' m' ((g, 3, cur') :: A) ∧ Ext m m' ∧
   RowA 3 1 IsI m' (.slice (some ⟨g, 0, none⟩) n cap) n (natL ys) [(g, 3, cur')] ∧ ys.Perm xs ∧ SortI ys n) := by
 have ROW := Lib.hid row
 have h12 : (n : Int) ≤ 12 := by omega
 have h0 : wrap64 ((n : Int) - 0) = (n : Int) := by unfold wrap64; omega
 clear row
 go_enter Tryz.func81, Tryz.ntmps81
 go_wp2_with (first | go_skip | refine tP ?_)
 refine wp_loop_once ?_
 go_wp2_with (first | go_skip | refine tP ?_)
 refine (s_InsI hL ROW.out hn1 (by omega)).mono ?_
 rintro e W1 ⟨m1, cur1, ys, ⟨v, rfl⟩, hL1, hX1, row1, hp, hs⟩
 go_wp2_with (first | go_skip | refine tP ?_)
 first | refine bodyPost_end (results_none rfl _ _ _) rfl ?_ | refine bodyPost_ret (results_none rfl _ _ _) rfl ?_
 exact ⟨_, cur1, ys, ⟨_, rfl⟩, hL1, hX1, row1, hp, hs⟩

theorem s_SortI {w0 m0 W m : World} {A : List Lo} {g n cap : Nat} {cur : Array Value} {xs : List Nat} (hL : Loc w0 m0 W m ((g, 3, cur) :: A)) (row : RowA 3 1 IsI m (.slice (some ⟨g, 0, none⟩) n cap) n (natL xs) [(g, 3, cur)]) (hn1 : 1 ≤ n) (hn : n ≤ 6) :
  Calls Tryz.prog 59 #[.slice (some ⟨g, 0, none⟩) n cap] W (fun e W' => ∃ (m' : World) (cur' : Array Value) (ys : List Nat), (∃ v, e = .returned v) ∧ Loc w0 m0 W' m' ((g, 3, cur') :: A) ∧ Ext m m' ∧
   RowA 3 1 IsI m' (.slice (some ⟨g, 0, none⟩) n cap) n (natL ys) [(g, 3, cur')] ∧ ys.Perm xs ∧ SortI ys n) := by
 have ROW := Lib.hid row
 have hX0 : Ext m m := Ext.refl _
 clear row
 go_enter Tryz.func59, Tryz.ntmps59
 go_wp2_with (first | go_skip | refine tP ?_)
 refine (bits_w n hn _ _ hL.vw).mono ?_
 rintro e W1 ⟨_, m1, rfl, hE, hM1, hV, z, rfl⟩
 replace hL := hL.call hE (by assumption) hV; clear hE hV
 have ROW1 := Lib.hid (RowA.le isI_mono ROW.out hM1.le)
 clear ROW
 go_wp2_with (first | go_skip | refine tP ?_)
 refine (s_PdqI hL ROW1.out hn1 hn z).mono ?_
 rintro e W2 ⟨m2, cur2, ys, ⟨v, rfl⟩, hL2, hX2, row2, hp, hs⟩
 go_wp2_with (first | go_skip | refine tP ?_)
 first | refine bodyPost_end (results_none rfl _ _ _) rfl ?_ | refine bodyPost_ret (results_none rfl _ _ _) rfl ?_
 exact ⟨_, cur2, ys, ⟨_, rfl⟩, hL2, hM1.trans hX2, row2, hp, hs⟩
end Go.Proofs.YtabmjadcoepbeaaGreat

/- Linear programs: their types, and the contracts of pairingref27.SameVector and pairingref27.SameProgram (equal programs). -/
namespace Go.Proofs.YtabmjadcoepbeaaGreat
open Go.RowKit

theorem zc_Ent : zc Tryz.prog 71 = some #[.int .i64 0, .bool false, .slice none 0 0, .bool false, .slice none 0 0] := by kernel_rfl
instance iAR1_1 : ZcC Tryz.prog 71 #[.int .i64 0, .bool false, .slice none 0 0, .bool false, .slice none 0 0] := ⟨zc_Ent⟩
theorem fd_Ent0 : fdS Tryz.prog 71 0 = some 0 := by kernel_rfl
instance iAR1_2 : FdC Tryz.prog 71 0 0 := ⟨fd_Ent0⟩
theorem fd_Ent1 : fdS Tryz.prog 71 1 = some 1 := by kernel_rfl
instance iAR1_3 : FdC Tryz.prog 71 1 1 := ⟨fd_Ent1⟩
theorem ag_Ent : agS Tryz.prog 71 = some 5 := by kernel_rfl
instance iAR1_4 : AgC Tryz.prog 71 5 := ⟨ag_Ent⟩
theorem ap_Ents : apS Tryz.prog 73 = some (71, 5, 72, 5) := by kernel_rfl
instance iAR1_5 : ApC Tryz.prog 73 71 5 72 := ⟨ap_Ents⟩
theorem lf_Ents : lfB Tryz.prog 73 = true := by kernel_rfl
instance iAR1_6 : LfC Tryz.prog 73 := ⟨lf_Ents⟩
theorem ap_Vecs : apS Tryz.prog 29 = some (73, 1, 24, 1) := by kernel_rfl
instance iAR1_7 : ApC Tryz.prog 29 73 1 24 := ⟨ap_Vecs⟩
theorem lf_Vecs : lfB Tryz.prog 29 = true := by kernel_rfl
instance iAR1_8 : LfC Tryz.prog 29 := ⟨lf_Vecs⟩
theorem zc_LP : zc Tryz.prog 31 = some #[.slice none 0 0, .slice none 0 0, .slice none 0 0] := by kernel_rfl
instance iAR1_9 : ZcC Tryz.prog 31 #[.slice none 0 0, .slice none 0 0, .slice none 0 0] := ⟨zc_LP⟩
theorem ag_LP : agS Tryz.prog 31 = some 3 := by kernel_rfl
instance iAR1_10 : AgC Tryz.prog 31 3 := ⟨ag_LP⟩
theorem fd_LP0 : fdS Tryz.prog 31 0 = some 0 := by kernel_rfl
instance iAR1_11 : FdC Tryz.prog 31 0 0 := ⟨fd_LP0⟩
theorem fd_LP1 : fdS Tryz.prog 31 1 = some 1 := by kernel_rfl
instance iAR1_12 : FdC Tryz.prog 31 1 1 := ⟨fd_LP1⟩
theorem fd_LP2 : fdS Tryz.prog 31 2 = some 2 := by kernel_rfl
instance iAR1_13 : FdC Tryz.prog 31 2 2 := ⟨fd_LP2⟩

abbrev Ent := Int × Rat
def EntR (m : World) (v : Value) (x : Ent) : Prop := ∃ g A n c h B k d, v = .agg #[.int .i64 x.1, .bool g, .slice A n c, .bool h, .slice B k d] ∧ FracC m (.agg #[.bool g, .slice A n c, .bool h, .slice B k d]) x.2
theorem EntR.mono (m m' : World) (v : Value) (x : Ent) (h : EntR m v x) (hl : Le m m') : EntR m' v x := by
 obtain ⟨g, A, n, c, h, B, k, d, e, hf⟩ := h
 exact ⟨g, A, n, c, h, B, k, d, e, hf.le hl⟩
abbrev EntL := ListV (α := Ent) 5 EntR
theorem EntL.le {m m' : World} {v : Value} {xs : List Ent} (h : EntL m v xs) (hl : Le m m') : EntL m' v xs := ListV.le EntR.mono h hl
theorem EntL.mono (m m' : World) (v : Value) (x : List Ent) (h : EntL m v x) (hb : Le m m') : EntL m' v x := EntL.le h hb
abbrev VecL := ListV (α := List Ent) 1 EntL
theorem VecL.le {m m' : World} {v : Value} {xs : List (List Ent)} (h : VecL m v xs) (hl : Le m m') : VecL m' v xs := ListV.le EntL.mono h hl
theorem EntL.at_ {m : World} {A : Option Addr} {n c : Nat} {ys : List Ent} (h : EntL m (.slice A n c) ys) {k : Nat} {y : Ent} (hk : ys[k]? = some y) :
  ∃ b off g A' n' c' f B p q, A = some ⟨b, off, none⟩ ∧ FracC m (.agg #[.bool g, .slice A' n' c', .bool f, .slice B p q]) y.2 ∧ m.rangeAt b (off + k * 5) [.int .i64 y.1, .bool g, .slice A' n' c', .bool f, .slice B p q] := by
 obtain ⟨b, off, v, e, ⟨g, A', n', c', f, B, p, q, rfl, hf⟩, _, hr⟩ := ListV.at_ h (by omega) hk
 exact ⟨b, off, g, A', n', c', f, B, p, q, e, hf, hr⟩
theorem VecL.at_ {m : World} {A : Option Addr} {n c : Nat} {ds : List (List Ent)} (h : VecL m (.slice A n c) ds) {k : Nat} {d : List Ent} (hk : ds[k]? = some d) :
  ∃ b off A' c', A = some ⟨b, off, none⟩ ∧ EntL m (.slice A' d.length c') d ∧ m.cell? ⟨b, off + k, none⟩ = some (.slice A' d.length c') := by
 obtain ⟨b, off, v, e, hv, _, hr⟩ := ListV.at_ h (by omega) hk
 obtain ⟨A', c', rfl, _, hv⟩ := hv.lit
 exact ⟨b, off, A', c', e, hv, by simpa using hr 0 _ rfl⟩
theorem range_ent {m : World} {b off : Nat} {v0 v1 v2 v3 v4 : Value} (h : m.rangeAt b off [v0, v1, v2, v3, v4]) : m.rangeAt b (off + 1) [v1, v2, v3, v4] := fun j v hv => by
 have h1 := h (j + 1) v (by simpa using hv)
 rw [Nat.add_comm j 1, ← Nat.add_assoc] at h1
 exact h1
structure LPd where
 cost : List Rat
 cols : List (List Ent)
 right : List Rat
def LPR (m : World) (v : Value) (x : LPd) : Prop := ∃ a b c, v = .agg #[a, b, c] ∧ FracL m a x.cost ∧ VecL m b x.cols ∧ FracL m c x.right
theorem LPR.le {m m' : World} {v : Value} {x : LPd} (h : LPR m v x) (hb : Le m m') : LPR m' v x := by
 obtain ⟨a, b, c, e, h1, h2, h3⟩ := h
 exact ⟨a, b, c, e, FracL.le h1 hb, VecL.le h2 hb, FracL.le h3 hb⟩
structure LPd.fit (x : LPd) : Prop where
 cost : ∀ q ∈ x.cost, Fit 200 q
 right : ∀ q ∈ x.right, Fit 200 q
 cols : ∀ l ∈ x.cols, l.length ≤ 1000000 ∧ ∀ y ∈ l, Fit 1000 y.2
 n1 : x.cost.length ≤ 1000000
 n2 : x.cols.length ≤ 1000000
 n3 : x.right.length ≤ 1000000

theorem r_SameVector (a b : Value) (ys : List Ent) (w m : World) (hV : Vw m w) (ha : EntL m a ys) (hb : EntL m b ys) (hl : ys.length ≤ 1000000) (hf : ∀ y ∈ ys, Fit 1000 y.2) :
  Calls Tryz.prog 31 #[a, b] w (RetV w m fun _ r => r = .bool true) := by
 obtain ⟨A, c, rfl, hc, ha⟩ := ha.lit
 obtain ⟨B, d, rfl, hd, hb⟩ := hb.lit
 have HF := Lib.hid hf
 have hL := Loc.start hV
 clear hV hf
 generalize hn : ys.length = n at *
 have HN := Lib.hid hn
 clear hn
 have hnn : ((n : Int) != (n : Int)) = false := by simp
 go_enter Tryz.func31, Tryz.ntmps31
 go_wp2_with (first | go_skip | refine tP ?_)
 go_loopw [5] (fun i wr => ∃ (k : Nat) (mm : World), k ≤ n ∧ i = .int .i64 k ∧ Loc w m wr mm [] ∧ Ext m mm) (fun i _ => n - (intOf i).toNat)
 case atStart => exact ⟨0, m, Nat.zero_le _, rfl, hL, Ext.refl _⟩
 case round =>
  clear hL
  obtain ⟨k, mm, hk, rfl, hL, hM⟩ := hrel
  by_cases hlt : k < n
  ·obtain ⟨⟨f, q⟩, hx⟩ := at_some HN hlt
   obtain ⟨b1, o1, g1, A1, n1, c1, f1, B1, p1, q1, rfl, hq1, hr1⟩ := EntL.at_ ha hx
   obtain ⟨b2, o2, g2, A2, n2, c2, f2, B2, p2, q2, rfl, hq2, hr2⟩ := EntL.at_ hb hx
   have HFQ : Hid (Fit 1000 q) := HF.out _ (List.mem_of_getElem? hx)
   clear hx
   simp only at hq1 hr1 hq2 hr2
   have hff : (f != f) = false := by simp
   have HQ1 := Lib.hid hq1
   have HQ2 := Lib.hid hq2
   have h10 : m.cell? ⟨b1, o1 + k * 5, none⟩ = some (.int .i64 f) := hr1 0 _ rfl
   have h12 := range_ent hr1
   have h20 : m.cell? ⟨b2, o2 + k * 5, none⟩ = some (.int .i64 f) := hr2 0 _ rfl
   have h22 := range_ent hr2
   clear hr1 hr2 hq1 hq2
   go_upto_region 6 with ((first | go_skip | refine tP ?_))
   (try simp only [eq_self] at *)
   refine wp_region_by2 25 [false, false, false, false, false, false, false, false, false, false, false, false, false, false, false, false, false, false, false, false, false, false, false, false, false] [false, false, false, false, false, false, false, false, false, false, false, false, false, false, false, false, false, false, false, false, false, false, false, false, false] [(fun v _ _ => v = ?c6_0), (fun v _ _ => v = ?c6_1), (fun v _ _ => v = ?c6_2), (fun v _ _ => v = ?c6_3), (fun v _ _ => v = ?c6_4), (fun v _ _ => v = ?c6_5), (fun v _ _ => v = ?c6_6), (fun v _ _ => v = ?c6_7), (fun v _ _ => v = ?c6_8), (fun v _ _ => v = ?c6_9), (fun v _ _ => v = ?c6_10), (fun v _ _ => v = ?c6_11), (fun v _ _ => v = ?c6_12), (fun v _ _ => v = ?c6_13), (fun v _ _ => v = ?c6_14), (fun v _ _ => v = ?c6_15), (fun v _ _ => v = ?c6_16), (fun v _ _ => v = ?c6_17), (fun v _ _ => v = ?c6_18), (fun v _ _ => v = ?c6_19), (fun v _ _ => v = ?c6_20), (fun v _ _ => v = ?c6_21), Is (.bool true), (fun v _ _ => v = ?c6_23), (fun v _ _ => v = ?c6_24)] hL.vw mixed [17, 18, 19, 20, 21, 22, 23, 24, 25, 26, 27, 28, 29, 30, 31, 32, 33, 34, 35, 36, 37, 38, 39, 40, 41] _ (by kernel_rfl) (fun vs => by simp only [lay, Act.put, zq1, zq2, zq3]; rfl) (by kernel_rfl) (by decide) (by decide) ?s6 ?l6 ?r6
   case s6 =>
    refine ⟨?_, ?_, ?_, ?_, ?_, ?_, ?_, ?_, ?_, ?_, ?_, ?_, ?_, ?_, ?_, ?_, ?_, ?_, ?_, ?_, ?_, ?_, ?_, ?_, ?_, trivial⟩
    ·intro vs W1 m1 hE hM hV hD; clear hD
     exact sPw
    ·intro vs W1 m1 hE hM hV hD; clear hD
     exact sPw
    ·intro vs W1 m1 hE hM hV hD; obtain ⟨⟨_, _, -, -, f17⟩, ⟨_, _, -, -, f18⟩, -⟩ := hD
     rw [(f17 : vs 17 = _), (f18 : vs 18 = _)]; clear f17 f18; exact sIy
    ·intro vs W1 m1 hE hM hV hD; obtain ⟨⟨_, _, -, -, f19⟩, -⟩ := hD
     rw [(f19 : vs 19 = _)]; clear f19; exact sFe
    ·intro vs W1 m1 hE hM hV hD; obtain ⟨⟨_, _, -, -, f20⟩, -⟩ := hD
     rw [(f20 : vs 20 = _)]; clear f20; exact sLe
    ·intro vs W1 m1 hE hM hV hD; clear hD
     exact sPw
    ·intro vs W1 m1 hE hM hV hD; clear hD
     exact sPw
    ·intro vs W1 m1 hE hM hV hD; obtain ⟨⟨_, _, -, -, f22⟩, ⟨_, _, -, -, f23⟩, -⟩ := hD
     rw [(f22 : vs 22 = _), (f23 : vs 23 = _)]; clear f22 f23; exact sIy
    ·intro vs W1 m1 hE hM hV hD; obtain ⟨⟨_, _, -, -, f24⟩, -⟩ := hD
     rw [(f24 : vs 24 = _)]; clear f24; exact sFe
    ·intro vs W1 m1 hE hM hV hD; obtain ⟨⟨_, _, -, -, f25⟩, -⟩ := hD
     rw [(f25 : vs 25 = _)]; clear f25; exact sLe
    ·intro vs W1 m1 hE hM hV hD; obtain ⟨⟨_, _, -, -, f21⟩, ⟨_, _, -, -, f26⟩, -⟩ := hD
     rw [(f21 : vs 21 = _), (f26 : vs 26 = _)]; clear f21 f26; exact sPw
    ·intro vs W1 m1 hE hM hV hD; obtain ⟨⟨_, _, -, -, f27⟩, -⟩ := hD
     rw [(f27 : vs 27 = _)]; clear f27; exact sPw
    ·intro vs W1 m1 hE hM hV hD; obtain ⟨⟨_, _, -, -, f28⟩, -⟩ := hD
     rw [(f28 : vs 28 = _)]; clear f28; exact sPw
    ·intro vs W1 m1 hE hM hV hD; obtain ⟨⟨_, _, -, -, f28⟩, -⟩ := hD
     rw [(f28 : vs 28 = _)]; clear f28; exact sPw
    ·intro vs W1 m1 hE hM hV hD; obtain ⟨⟨_, _, -, -, f29⟩, ⟨_, _, -, -, f30⟩, ⟨_, _, -, -, f28⟩, -⟩ := hD
     rw [(f29 : vs 29 = _), (f30 : vs 30 = _), (f28 : vs 28 = _)]; clear f29 f30 f28; exact sIy
    ·intro vs W1 m1 hE hM hV hD; obtain ⟨⟨_, _, -, -, f31⟩, ⟨_, _, -, -, f28⟩, -⟩ := hD
     rw [(f31 : vs 31 = _), (f28 : vs 28 = _)]; clear f31 f28; exact sFe
    ·intro vs W1 m1 hE hM hV hD; obtain ⟨⟨_, _, -, -, f32⟩, ⟨_, _, -, -, f28⟩, -⟩ := hD
     rw [(f32 : vs 32 = _), (f28 : vs 28 = _)]; clear f32 f28; exact sLe
    ·intro vs W1 m1 hE hM hV hD; obtain ⟨⟨_, _, -, -, f28⟩, -⟩ := hD
     rw [(f28 : vs 28 = _)]; clear f28; exact sPw
    ·intro vs W1 m1 hE hM hV hD; obtain ⟨⟨_, _, -, -, f28⟩, -⟩ := hD
     rw [(f28 : vs 28 = _)]; clear f28; exact sPw
    ·intro vs W1 m1 hE hM hV hD; obtain ⟨⟨_, _, -, -, f34⟩, ⟨_, _, -, -, f35⟩, ⟨_, _, -, -, f28⟩, -⟩ := hD
     rw [(f34 : vs 34 = _), (f35 : vs 35 = _), (f28 : vs 28 = _)]; clear f34 f35 f28; exact sIy
    ·intro vs W1 m1 hE hM hV hD; obtain ⟨⟨_, _, -, -, f36⟩, ⟨_, _, -, -, f28⟩, -⟩ := hD
     rw [(f36 : vs 36 = _), (f28 : vs 28 = _)]; clear f36 f28; exact sFe
    ·intro vs W1 m1 hE hM hV hD; obtain ⟨⟨_, _, -, -, f37⟩, ⟨_, _, -, -, f28⟩, -⟩ := hD
     rw [(f37 : vs 37 = _), (f28 : vs 28 = _)]; clear f37 f28; exact sLe
    ·intro vs W1 m1 hE hM hV hD; obtain ⟨⟨_, _, -, -, f33⟩, ⟨_, _, -, -, f38⟩, ⟨_, _, -, -, f28⟩, -, -⟩ := hD
     rw [(f33 : vs 33 = _), (f38 : vs 38 = _), (f28 : vs 28 = _)]
     clear f33 f38 f28
     go_wp2_with fail
     refine (r_Same _ _ q _ _ hV (HQ1.out.le leX) (HQ2.out.le leX) HFQ.out).mono ?_
     rintro e W2 ⟨v, m2, rfl, hE2, hM2, hV2, h⟩
     go_wp2_with fail
     refine One2.call hE2 hM2 hV2 ?_; first | exact h | exact rfl
    ·intro vs W1 m1 hE hM hV hD; obtain ⟨⟨_, _, -, -, f39⟩, ⟨_, _, -, -, f28⟩, -⟩ := hD
     rw [(f39 : vs 39 = _), (f28 : vs 28 = _)]; clear f39 f28; exact sPw
    ·intro vs W1 m1 hE hM hV hD; obtain ⟨⟨_, _, -, -, f28⟩, ⟨_, _, -, -, f40⟩, -⟩ := hD
     rw [(f28 : vs 28 = _), (f40 : vs 40 = _)]; clear f28 f40; exact sPw
   case l6 =>
    refine ⟨nF, nF, nF, nF, nF, nF, nF, nF, nF, nF, nF, nF, nF, nF, nF, nF, nF, nF, nF, nF, nF, nF, nF, nF, nF, trivial⟩
   intro vs W1 m1 hE hM hV hF hD
   clear hD
   obtain ⟨⟨_, _, -, -, f17⟩, ⟨_, _, -, -, f18⟩, ⟨_, _, -, -, f19⟩, ⟨_, _, -, -, f20⟩, ⟨_, _, -, -, f21⟩, ⟨_, _, -, -, f22⟩, ⟨_, _, -, -, f23⟩, ⟨_, _, -, -, f24⟩, ⟨_, _, -, -, f25⟩, ⟨_, _, -, -, f26⟩, ⟨_, _, -, -, f27⟩, ⟨_, _, -, -, f28⟩, ⟨_, _, -, -, f29⟩, ⟨_, _, -, -, f30⟩, ⟨_, _, -, -, f31⟩, ⟨_, _, -, -, f32⟩, ⟨_, _, -, -, f33⟩, ⟨_, _, -, -, f34⟩, ⟨_, _, -, -, f35⟩, ⟨_, _, -, -, f36⟩, ⟨_, _, -, -, f37⟩, ⟨_, _, -, -, f38⟩, ⟨_, _, -, -, f39⟩, ⟨_, _, -, -, f40⟩, ⟨_, _, -, -, f41⟩, -⟩ := hF
   replace hL := hL.call hE hM hV
   have f17 : vs 17 = _ := f17
   generalize vs 17 = x17 at f17 ⊢
   subst x17
   have f18 : vs 18 = _ := f18
   generalize vs 18 = x18 at f18 ⊢
   subst x18
   have f19 : vs 19 = _ := f19
   generalize vs 19 = x19 at f19 ⊢
   subst x19
   have f20 : vs 20 = _ := f20
   generalize vs 20 = x20 at f20 ⊢
   subst x20
   have f21 : vs 21 = _ := f21
   generalize vs 21 = x21 at f21 ⊢
   subst x21
   have f22 : vs 22 = _ := f22
   generalize vs 22 = x22 at f22 ⊢
   subst x22
   have f23 : vs 23 = _ := f23
   generalize vs 23 = x23 at f23 ⊢
   subst x23
   have f24 : vs 24 = _ := f24
   generalize vs 24 = x24 at f24 ⊢
   subst x24
   have f25 : vs 25 = _ := f25
   generalize vs 25 = x25 at f25 ⊢
   subst x25
   have f26 : vs 26 = _ := f26
   generalize vs 26 = x26 at f26 ⊢
   subst x26
   have f27 : vs 27 = _ := f27
   generalize vs 27 = x27 at f27 ⊢
   subst x27
   have f28 : vs 28 = _ := f28
   generalize vs 28 = x28 at f28 ⊢
   subst x28
   have f29 : vs 29 = _ := f29
   generalize vs 29 = x29 at f29 ⊢
   subst x29
   have f30 : vs 30 = _ := f30
   generalize vs 30 = x30 at f30 ⊢
   subst x30
   have f31 : vs 31 = _ := f31
   generalize vs 31 = x31 at f31 ⊢
   subst x31
   have f32 : vs 32 = _ := f32
   generalize vs 32 = x32 at f32 ⊢
   subst x32
   have f33 : vs 33 = _ := f33
   generalize vs 33 = x33 at f33 ⊢
   subst x33
   have f34 : vs 34 = _ := f34
   generalize vs 34 = x34 at f34 ⊢
   subst x34
   have f35 : vs 35 = _ := f35
   generalize vs 35 = x35 at f35 ⊢
   subst x35
   have f36 : vs 36 = _ := f36
   generalize vs 36 = x36 at f36 ⊢
   subst x36
   have f37 : vs 37 = _ := f37
   generalize vs 37 = x37 at f37 ⊢
   subst x37
   have f38 : vs 38 = _ := f38
   generalize vs 38 = x38 at f38 ⊢
   subst x38
   have f39 : vs 39 = _ := f39
   generalize vs 39 = x39 at f39 ⊢
   subst x39
   have f40 : vs 40 = _ := f40
   generalize vs 40 = x40 at f40 ⊢
   subst x40
   have f41 : vs 41 = _ := f41
   generalize vs 41 = x41 at f41 ⊢
   subst x41
   clear hE hV
   simp only [List.drop_succ_cons, List.drop_zero]
   go_wp2_with (first | go_skip | refine tP ?_)
   refine QN.mk ?_
   go_wp2_with (first | go_skip | refine tP ?_)
   go_roundw
   case rel => exact ⟨k + 1, _, by omega, by go_num, hL, hL.mext⟩
   case measure => simp [intOf] <;> omega
  ·go_wp2_with (first | go_skip | refine tP ?_)
   go_ret
   exact RetV.mk hL rfl

theorem r_SameProgram (va vb : Value) (x : LPd) (w m : World) (hV : Vw m w) (ha : LPR m va x) (hb : LPR m vb x) (ok : x.fit) :
  Calls Tryz.prog 9 #[va, vb] w (RetV w m fun _ r => r = .bool true) := by
 obtain ⟨cost, cols, right⟩ := x
 obtain ⟨a, b, c, rfl, a1, a2, a3⟩ := ha
 obtain ⟨a', b', c', rfl, b1, b2, b3⟩ := hb
 simp only at a1 a2 a3 b1 b2 b3
 obtain ⟨A1, c1, rfl, -, a1⟩ := a1.lit
 obtain ⟨A2, c2, rfl, -, a2⟩ := a2.lit
 obtain ⟨A3, c3, rfl, -, a3⟩ := a3.lit
 obtain ⟨B1, d1, rfl, -, b1⟩ := b1.lit
 obtain ⟨B2, d2, rfl, -, b2⟩ := b2.lit
 obtain ⟨B3, d3, rfl, -, b3⟩ := b3.lit
 have OK := Lib.hid ok
 have hn6 : cols.length ≤ 1000000 := ok.n2
 have HA2 := Lib.hid a2
 have HB2 := Lib.hid b2
 clear ok a2 b2
 have hL := Loc.start hV
 clear hV
 generalize hn : cols.length = n at *
 have HN := Lib.hid hn
 clear hn
 have hnn : ((n : Int) != (n : Int)) = false := by simp
 go_enter Tryz.func9, Tryz.ntmps9
 go_upto_region 0 with (fail)
 refine wp_region_lit ?_
 refine t_box hL rfl rfl ?_; clear hL; intro Wh2 mh2 hL eh2; simp only [Act.put, zq1, zq2, zq3]
 refine t_box hL rfl rfl ?_; clear hL; intro Wh3 mh3 hL eh3; simp only [Act.put, zq1, zq2, zq3]
 go_wp2_with (first | go_skip | refine tP ?_ | (refine tB ?_; clear hL; intro _ _ hL _))
 refine (r_SameList _ _ cost _ _ hL.vw (FracL.le a1 leX) (FracL.le b1 leX) OK.out.cost OK.out.n1).mono ?_
 rintro e Wc1 ⟨_, mc1, rfl, hE, hMc1, hV, rfl⟩
 replace hL := hL.call hE (by assumption) hV; clear hE hV
 go_wp2_with (first | go_skip | refine tP ?_ | (refine tB ?_; clear hL; intro _ _ hL _))
 refine (r_SameList _ _ right _ _ hL.vw (FracL.le a3 leX) (FracL.le b3 leX) OK.out.right OK.out.n3).mono ?_
 rintro e Wc2 ⟨_, mc2, rfl, hE, hMc2, hV, rfl⟩
 replace hL := hL.call hE (by assumption) hV; clear hE hV
 go_wp2_with (first | go_skip | refine tP ?_ | (refine tB ?_; clear hL; intro _ _ hL _))
 go_loopw [5] (fun i wr => ∃ (k : Nat) (mm : World), k ≤ n ∧ i = .int .i64 k ∧ Loc w m wr mm [(Wh2.heap.size, 31, #[.slice B1 cost.length d1, .slice B2 n d2, .slice B3 right.length d3]), (w.heap.size, 31, #[.slice A1 cost.length c1, .slice A2 n c2, .slice A3 right.length c3])]) (fun i _ => n - (intOf i).toNat)
 case atStart => exact ⟨0, _, Nat.zero_le _, rfl, hL⟩
 case round =>
  clear hL
  obtain ⟨k, mm, hk, rfl, hL⟩ := hrel
  have hM := hL.mext
  by_cases hlt : k < n
  ·obtain ⟨l, hx⟩ := at_some HN hlt
   have ha2 := HA2.out
   have hb2 := HB2.out
   obtain ⟨g1, o1, A5, c5, rfl, he1, hc1⟩ := VecL.at_ ha2 hx
   obtain ⟨g2, o2, A6, c6, rfl, he2, hc2⟩ := VecL.at_ hb2 hx
   have HE1 := Lib.hid he1
   have HE2 := Lib.hid he2
   have HLO := Lib.hid (OK.out.cols l (List.mem_of_getElem? hx))
   clear hx he1 he2 ha2 hb2
   go_upto_region 6 with ((first | go_skip | refine tP ?_ | (refine tB ?_; clear hL; intro _ _ hL _)))
   (try simp only [eq_self] at *)
   refine wp_region_by2 12 [false, false, false, false, false, false, false, false, false, false, false, false] [false, false, false, false, false, false, false, false, false, false, false, false] [(fun v _ _ => v = ?c6_0), (fun v _ _ => v = ?c6_1), (fun v _ _ => v = ?c6_2), (fun v _ _ => v = ?c6_3), (fun v _ _ => v = ?c6_4), (fun v _ _ => v = ?c6_5), (fun v _ _ => v = ?c6_6), (fun v _ _ => v = ?c6_7), (fun v _ _ => v = ?c6_8), (fun v _ _ => v = ?c6_9), Is (.bool true), (fun v _ _ => v = ?c6_11)] hL.vw mixed [36, 37, 38, 39, 40, 41, 42, 43, 44, 45, 46, 47] _ (by kernel_rfl) (fun vs => by simp only [lay, Act.put, zq1, zq2, zq3]; rfl) (by kernel_rfl) (by decide) (by decide) ?s6 ?l6 ?r6
   case s6 =>
    refine ⟨?_, ?_, ?_, ?_, ?_, ?_, ?_, ?_, ?_, ?_, ?_, ?_, trivial⟩
    ·intro vs W1 m1 hE hM hV hD; clear hD
     exact sFe
    ·intro vs W1 m1 hE hM hV hD; obtain ⟨⟨_, _, -, -, f36⟩, -⟩ := hD
     rw [(f36 : vs 36 = _)]; clear f36; exact sLe
    ·intro vs W1 m1 hE hM hV hD; clear hD
     exact sPw
    ·intro vs W1 m1 hE hM hV hD; obtain ⟨⟨_, _, -, -, f37⟩, ⟨_, _, -, -, f38⟩, -⟩ := hD
     rw [(f37 : vs 37 = _), (f38 : vs 38 = _)]; clear f37 f38; exact sIy
    ·intro vs W1 m1 hE hM hV hD; obtain ⟨⟨_, _, -, -, f39⟩, -⟩ := hD
     rw [(f39 : vs 39 = _)]; clear f39; exact sLe
    ·intro vs W1 m1 hE hM hV hD; clear hD
     exact sFe
    ·intro vs W1 m1 hE hM hV hD; obtain ⟨⟨_, _, -, -, f41⟩, -⟩ := hD
     rw [(f41 : vs 41 = _)]; clear f41; exact sLe
    ·intro vs W1 m1 hE hM hV hD; clear hD
     exact sPw
    ·intro vs W1 m1 hE hM hV hD; obtain ⟨⟨_, _, -, -, f42⟩, ⟨_, _, -, -, f43⟩, -⟩ := hD
     rw [(f42 : vs 42 = _), (f43 : vs 43 = _)]; clear f42 f43; exact sIy
    ·intro vs W1 m1 hE hM hV hD; obtain ⟨⟨_, _, -, -, f44⟩, -⟩ := hD
     rw [(f44 : vs 44 = _)]; clear f44; exact sLe
    ·intro vs W1 m1 hE hM hV hD; obtain ⟨⟨_, _, -, -, f40⟩, ⟨_, _, -, -, f45⟩, -⟩ := hD
     rw [(f40 : vs 40 = _), (f45 : vs 45 = _)]
     clear f40 f45
     go_wp2_with fail
     refine (r_SameVector _ _ l _ _ hV (EntL.le HE1.out leX) (EntL.le HE2.out leX) HLO.out.1 HLO.out.2).mono ?_
     rintro e W2 ⟨v, m2, rfl, hE2, hM2, hV2, h⟩
     go_wp2_with fail
     refine One2.call hE2 hM2 hV2 ?_; first | exact h | exact rfl
    ·intro vs W1 m1 hE hM hV hD; obtain ⟨⟨_, _, -, -, f46⟩, -⟩ := hD
     rw [(f46 : vs 46 = _)]; clear f46; exact sPw
   case l6 =>
    refine ⟨nF, nF, nF, nF, nF, nF, nF, nF, nF, nF, nF, nF, trivial⟩
   intro vs W1 m1 hE hM hV hF hD
   clear hD
   obtain ⟨⟨_, _, -, -, f36⟩, ⟨_, _, -, -, f37⟩, ⟨_, _, -, -, f38⟩, ⟨_, _, -, -, f39⟩, ⟨_, _, -, -, f40⟩, ⟨_, _, -, -, f41⟩, ⟨_, _, -, -, f42⟩, ⟨_, _, -, -, f43⟩, ⟨_, _, -, -, f44⟩, ⟨_, _, -, -, f45⟩, ⟨_, _, -, -, f46⟩, ⟨_, _, -, -, f47⟩, -⟩ := hF
   replace hL := hL.call hE hM hV
   have f36 : vs 36 = _ := f36
   generalize vs 36 = x36 at f36 ⊢
   subst x36
   have f37 : vs 37 = _ := f37
   generalize vs 37 = x37 at f37 ⊢
   subst x37
   have f38 : vs 38 = _ := f38
   generalize vs 38 = x38 at f38 ⊢
   subst x38
   have f39 : vs 39 = _ := f39
   generalize vs 39 = x39 at f39 ⊢
   subst x39
   have f40 : vs 40 = _ := f40
   generalize vs 40 = x40 at f40 ⊢
   subst x40
   have f41 : vs 41 = _ := f41
   generalize vs 41 = x41 at f41 ⊢
   subst x41
   have f42 : vs 42 = _ := f42
   generalize vs 42 = x42 at f42 ⊢
   subst x42
   have f43 : vs 43 = _ := f43
   generalize vs 43 = x43 at f43 ⊢
   subst x43
   have f44 : vs 44 = _ := f44
   generalize vs 44 = x44 at f44 ⊢
   subst x44
   have f45 : vs 45 = _ := f45
   generalize vs 45 = x45 at f45 ⊢
   subst x45
   have f46 : vs 46 = _ := f46
   generalize vs 46 = x46 at f46 ⊢
   subst x46
   have f47 : vs 47 = _ := f47
   generalize vs 47 = x47 at f47 ⊢
   subst x47
   clear hE hV
   simp only [List.drop_succ_cons, List.drop_zero]
   go_wp2_with (first | go_skip | refine tP ?_ | (refine tB ?_; clear hL; intro _ _ hL _))
   refine QN.mk ?_
   go_wp2_with (first | go_skip | refine tP ?_ | (refine tB ?_; clear hL; intro _ _ hL _))
   go_roundw
   case rel => exact ⟨k + 1, _, by omega, by go_num, hL⟩
   case measure => simp [intOf] <;> omega
  ·go_wp2_with (first | go_skip | refine tP ?_ | (refine tB ?_; clear hL; intro _ _ hL _))
   go_ret
   exact RetV.mk hL rfl
end Go.Proofs.YtabmjadcoepbeaaGreat

/- The linear program of a master problem: plain facts; the program's vector of a pairing is the reference's. -/
namespace Go.Proofs.YtabmjadcoepbeaaGreat
open Go.RowKit

def oneQ : Rat := ((1 : Int) : Rat)
def rowV (rs l : List Int) : Nat → List Ent
 | 0 => []
 | i + 1 => if rs.getD i 0 ∈ l then rowV rs l i ++ [((i : Int), oneQ)] else rowV rs l i
def cutV (n : Nat) (cs : List Cut) (l : List Int) : Nat → List Ent
 | 0 => []
 | k + 1 => if 0 < coefF (cs.getD k ([], 0)) l then cutV n cs l k ++ [(((n + k : Nat) : Int), ((coefF (cs.getD k ([], 0)) l : Int) : Rat))] else cutV n cs l k
def vecF (x : Ms) (l : List Int) : List Ent := rowV x.rows l x.rows.length ++ cutV x.rows.length x.cuts l x.cuts.length
theorem rowV_in {rs l : List Int} {i : Nat} {r : Int} (h : rs[i]? = some r) (hr : r ∈ l) : rowV rs l (i + 1) = rowV rs l i ++ [((i : Int), oneQ)] := by
 have e : rs.getD i 0 = r := by rw [List.getD_eq_getElem?_getD, h]; rfl
 rw [rowV, e, if_pos hr]
theorem rowV_out {rs l : List Int} {i : Nat} {r : Int} (h : rs[i]? = some r) (hr : ¬ r ∈ l) : rowV rs l (i + 1) = rowV rs l i := by
 have e : rs.getD i 0 = r := by rw [List.getD_eq_getElem?_getD, h]; rfl
 rw [rowV, e, if_neg hr]
theorem cutV_in {n : Nat} {cs : List Cut} {l : List Int} {k : Nat} {c : Cut} (h : cs[k]? = some c) (hr : 0 < coefF c l) : cutV n cs l (k + 1) = cutV n cs l k ++ [(((n + k : Nat) : Int), ((coefF c l : Int) : Rat))] := by
 have e : cs.getD k ([], 0) = c := by rw [List.getD_eq_getElem?_getD, h]; rfl
 rw [cutV, e, if_pos hr]
theorem cutV_out {n : Nat} {cs : List Cut} {l : List Int} {k : Nat} {c : Cut} (h : cs[k]? = some c) (hr : ¬ 0 < coefF c l) : cutV n cs l (k + 1) = cutV n cs l k := by
 have e : cs.getD k ([], 0) = c := by rw [List.getD_eq_getElem?_getD, h]; rfl
 rw [cutV, e, if_neg hr]
theorem rowV_len (rs l : List Int) : ∀ i, (rowV rs l i).length ≤ i
 | 0 => Nat.le_refl _
 | i + 1 => by
  have := rowV_len rs l i
  rw [rowV]
  split
  ·rw [List.length_append]; simp; omega
  ·omega
theorem cutV_len (n : Nat) (cs : List Cut) (l : List Int) : ∀ i, (cutV n cs l i).length ≤ i
 | 0 => Nat.le_refl _
 | i + 1 => by
  have := cutV_len n cs l i
  rw [cutV]
  split
  ·rw [List.length_append]; simp; omega
  ·omega
def lpR (x : Ms) (i : Nat) : LPd := ⟨List.replicate i (x.pen : Rat), (List.range i).map fun (j : Nat) => [((j : Int), oneQ)], List.replicate i oneQ⟩
def quoF (c : Cut) : Int := (c.1.length : Int) / c.2
def lpK (x : Ms) (k : Nat) : LPd := ⟨(lpR x x.rows.length).cost ++ List.replicate k ((0 : Int) : Rat), (lpR x x.rows.length).cols ++ (List.range k).map fun (j : Nat) => [(((x.rows.length + j : Nat) : Int), oneQ)], (lpR x x.rows.length).right ++ (x.cuts.take k).map fun c => ((quoF c : Int) : Rat)⟩
def lpC (x : Ms) (j : Nat) : LPd := ⟨(lpK x x.cuts.length).cost ++ (x.cols.take j).map fun c => ((c.2.2 : Int) : Rat), (lpK x x.cuts.length).cols ++ (x.cols.take j).map fun c => vecF x (opF c.2.1), (lpK x x.cuts.length).right⟩
def lpF (x : Ms) : LPd := lpC x x.cols.length
theorem lpR_step (x : Ms) (i : Nat) : (lpR x (i + 1)).cost = (lpR x i).cost ++ [(x.pen : Rat)] ∧ (lpR x (i + 1)).cols = (lpR x i).cols ++ [[((i : Int), oneQ)]] ∧ (lpR x (i + 1)).right = (lpR x i).right ++ [oneQ] := by
 unfold lpR
 simp only [List.replicate_succ', List.range_succ, List.map_append, List.map_singleton, and_self]
theorem lpK_zero (x : Ms) : lpK x 0 = lpR x x.rows.length := by unfold lpK; simp
theorem lpK_step (x : Ms) {k : Nat} {c : Cut} (h : x.cuts[k]? = some c) : (lpK x (k + 1)).cost = (lpK x k).cost ++ [((0 : Int) : Rat)] ∧ (lpK x (k + 1)).cols = (lpK x k).cols ++ [[(((x.rows.length + k : Nat) : Int), oneQ)]] ∧ (lpK x (k + 1)).right = (lpK x k).right ++ [((quoF c : Int) : Rat)] := by
 unfold lpK
 simp only [List.replicate_succ', List.range_succ, ← take_snoc h, List.map_append, List.map_singleton, List.append_assoc, and_self]
theorem lpC_zero (x : Ms) : lpC x 0 = lpK x x.cuts.length := by unfold lpC; simp
theorem lpC_step (x : Ms) {j : Nat} {c : Col} (h : x.cols[j]? = some c) : (lpC x (j + 1)).cost = (lpC x j).cost ++ [((c.2.2 : Int) : Rat)] ∧ (lpC x (j + 1)).cols = (lpC x j).cols ++ [vecF x (opF c.2.1)] ∧ (lpC x (j + 1)).right = (lpC x j).right := by
 unfold lpC
 simp only [← take_snoc h, List.map_append, List.map_singleton, List.append_assoc, and_self]

theorem asc_same : ∀ {xs ys : List Int}, xs.Pairwise (· < ·) → ys.Pairwise (· < ·) → (∀ z, z ∈ xs ↔ z ∈ ys) → xs = ys
 | [], [], _, _, _ => rfl
 | [], y :: _, _, _, h => by have := (h y).2 (List.mem_cons_self); cases this
 | x :: _, [], _, _, h => by have := (h x).1 (List.mem_cons_self); cases this
 | x :: xs, y :: ys, hx, hy, h => by
  obtain ⟨hx1, hx2⟩ := List.pairwise_cons.1 hx
  obtain ⟨hy1, hy2⟩ := List.pairwise_cons.1 hy
  have e : x = y := by
   rcases List.mem_cons.1 ((h x).1 (List.mem_cons_self)) with e | e
   ·exact e
   ·rcases List.mem_cons.1 ((h y).2 (List.mem_cons_self)) with e' | e'
    ·exact e'.symm
    ·have := hy1 x e; have := hx1 y e'; omega
  subst e
  refine congrArg (x :: ·) (asc_same hx2 hy2 fun z => ⟨fun hz => ?_, fun hz => ?_⟩)
  ·rcases List.mem_cons.1 ((h z).1 (List.mem_cons_of_mem _ hz)) with e | e
   ·have := hx1 z hz; omega
   ·exact e
  ·rcases List.mem_cons.1 ((h z).2 (List.mem_cons_of_mem _ hz)) with e | e
   ·have := hy1 z hz; omega
   ·exact e
theorem AscP.pairwise {xs : List Int} (h : AscP xs) : xs.Pairwise (· < ·) := by
 rw [List.pairwise_iff_getElem]
 intro i j hi hj hij
 exact h.lt (j - i - 1) i _ _ (List.getElem?_eq_getElem hi) (by rw [show i + (j - i - 1) + 1 = j by omega]; exact List.getElem?_eq_getElem hj)
def plcF (rs : List Int) (f : Int) : Ent := ((rs.idxOf f : Int), oneQ)
theorem plc_at {rs : List Int} (hn : rs.Nodup) {i : Nat} {f : Int} (h : rs[i]? = some f) : plcF rs f = ((i : Int), oneQ) := by
 obtain ⟨hi, rfl⟩ := List.getElem?_eq_some_iff.1 h
 unfold plcF
 rw [hn.idxOf_getElem]
theorem row_plc {rs : List Int} (hn : rs.Nodup) (l : List Int) : ∀ k, k ≤ rs.length → ((rs.take k).filter fun f => decide (f ∈ l)).map (plcF rs) = rowV rs l k
 | 0, _ => rfl
 | k + 1, hk => by
  have hx : rs[k]? = some rs[k] := List.getElem?_eq_getElem (by omega)
  rw [← take_snoc hx, List.filter_append, List.map_append, row_plc hn l k (by omega)]
  by_cases h : rs[k] ∈ l
  ·rw [rowV_in hx h, List.filter_cons_of_pos (by simpa using h)]
   simp [plc_at hn hx]
  ·rw [rowV_out hx h, List.filter_cons_of_neg (by simpa using h)]
   simp
theorem vec_rows {rs l ys : List Int} (ha : AscP rs) (hs : ∀ f ∈ l, f ∈ rs) (hy : ys.Pairwise (· < ·)) (hm : ∀ f, f ∈ ys ↔ f ∈ l) : ys.map (plcF rs) = rowV rs l rs.length := by
 have hp := ha.pairwise
 have hn : rs.Nodup := hp.imp fun h e => by omega
 rw [← row_plc hn l _ (Nat.le_refl _), List.take_length]
 refine congrArg (List.map (plcF rs)) (asc_same hy (hp.filter _) fun f => ?_)
 rw [hm, List.mem_filter]
 exact ⟨fun h => ⟨hs f h, by simpa using h⟩, fun h => by simpa using h.2⟩
end Go.Proofs.YtabmjadcoepbeaaGreat

/- Linear programs: rows of fractions and vectors of the caller's own; a vector of one entry. -/
namespace Go.Proofs.YtabmjadcoepbeaaGreat
open Go.RowKit

theorem EntR.le {m m' : World} {v : Value} {x : Ent} (h : EntR m v x) (hl : Le m m') : EntR m' v x := EntR.mono _ _ _ _ h hl
theorem EntL.one {m : World} {g : Nat} {z : Int} {q : Rat} {a : Bool} {A : Option Addr} {n c : Nat} {f : Bool} {B : Option Addr} {k d : Nat} (hb : Blk m g 71 #[.int .i64 z, .bool a, .slice A n c, .bool f, .slice B k d]) (h : FracC m (.agg #[.bool a, .slice A n c, .bool f, .slice B k d]) q) :
  EntL m (.slice (some ⟨g, 0, none⟩) 1 1) [(z, q)] :=
 ListV.mk (vs := [.agg #[.int .i64 z, .bool a, .slice A n c, .bool f, .slice B k d]]) (by omega) rfl (fun u hu => by simp at hu; subst hu; rfl) (Blk.sl hb (n := 5) rfl) ⟨⟨_, _, _, _, _, _, _, _, rfl, h⟩, trivial⟩
def VecO (m : World) (v : Value) (l : List Ent) : Prop := ∃ A n c, v = .agg #[.slice A n c] ∧ EntL m (.slice A n c) l
theorem VecO.le {m m' : World} {v : Value} {l : List Ent} (h : VecO m v l) (hl : Le m m') : VecO m' v l := by
 obtain ⟨A, n, c, e, h⟩ := h
 exact ⟨A, n, c, e, EntL.le h hl⟩
theorem one2_new {a : Act} {dst : Option Nat} {W1 m1 : World} {e : TypeId} {R : World → Value → Prop} {cs : Array Value} {n : Nat} (hV : Vw m1 W1) (hR : ∀ m', Ext m1 m' → Blk m' W1.heap.size e cs → R m' (.slice (some ⟨W1.heap.size, 0, none⟩) n n)) :
  One2 (Of R) false a dst W1 m1 .normal (a.put dst (.slice (some ⟨W1.heap.size, 0, none⟩) n n)) (W1.alloc (.cells cs e)) := by
 have h := (Loc.start hV).allocV cs e
 refine ⟨rfl, h.ext, _, _, h.mext, h.vw, rfl, hR _ h.mext ?_, fun h => by cases h⟩
 rw [← hV.size]
 exact Blk.new m1 e cs
theorem perm_rot (A B C : List Lo) : ((A ++ B) ++ C).Perm ((B ++ C) ++ A) := by rw [List.append_assoc]; exact List.perm_append_comm
theorem Loc.rot3 {w0 m0 W m : World} {x y z : Lo} {A B C : List Lo} (h : Loc w0 m0 W m (x :: y :: z :: ((A ++ B) ++ C))) : Loc w0 m0 W m (x :: y :: z :: ((B ++ C) ++ A)) := h.perm ((((perm_rot A B C).cons z).cons y).cons x)
theorem Loc.rot4 {w0 m0 W m : World} {u x y z : Lo} {A B C : List Lo} (h : Loc w0 m0 W m (u :: x :: y :: z :: ((A ++ B) ++ C))) : Loc w0 m0 W m (u :: x :: y :: z :: ((B ++ C) ++ A)) := h.perm (((((perm_rot A B C).cons z).cons y).cons x).cons u)
theorem range_2 {m : World} {b off : Nat} {x y : Value} {r : List Value} (h : m.rangeAt b off (x :: y :: r)) : m.rangeAt b off [x, y] := fun j v hv => h j v (by
 match j, hv with
 | 0, hv => exact hv
 | 1, hv => exact hv)
theorem quo_fit {cl : Nat} {dv : Int} (hd : 2 ≤ dv) (hl : cl ≤ 1000000) : 0 ≤ (cl : Int) / dv ∧ (cl : Int) / dv ≤ 1000000 := by
 refine ⟨Int.ediv_nonneg (by omega) (by omega), ?_⟩
 have := Int.ediv_le_self dv (a := (cl : Int)) (by omega)
 omega
theorem results_lp {P : Program} {fn : Func} {p k : Tmp} {ty : TypeId} (h : fn.results = #[.cell p ty, .tmp k]) (tmps : Array Value) (w : World) (g : Nat) (t : TypeId) (cs : Array Value) (fr : Nat × Nat) (d : TypeDesc)
  (hp : tmps.getD p undef = .pointer (some ⟨g, 0, none⟩)) (hg : w.heap[g]? = some (.cells cs t fr))
  (hu : P.underlying ty = some d) (hd : (match d with | .struct _ | .array _ _ => true | _ => false) = true) (hi : (P.info? ty).map (·.size) = some cs.size) :
  (results fn tmps).run P w = .ok (.tuple #[.agg cs, tmps.getD k undef]) w := by
 have hp' : tmps[p]?.getD undef = .pointer (some ⟨g, 0, none⟩) := by simpa using hp
 simp [results, h, hp', asAddr, run_loadVar_row w g t ty cs fr d hg hu hd hi]
theorem fin_lp {P : Program} {fn : Func} {R : World → Value → Prop} {w m W mm : World} {Ls : List Lo} (hL : Loc w m W mm Ls) {p q : Nat} {ty : TypeId} (hr : fn.results = #[.cell p ty, .tmp q]) {a : Act} (hdf : a.defers = []) {g : Nat}
  (hp : a.tmps.getD p undef = .pointer (some ⟨g, 0, none⟩)) {n : Nat} {t : TypeId} {cs : Array Value} (hn : Ls[n]? = some (g, t, cs)) {k : Nat} (hty : agS P ty = some k) (hk : cs.size = k) {u : Value} (hu : a.tmps.getD q undef = u) {m' : World} (hL' : Loc w m W m' []) (h : R m' (.tuple #[.agg cs, u])) :
  bodyPost P fn (RetV w m R) .ret a W := by
 subst hk
 obtain ⟨d, hd', hd, hi⟩ := ag_desc hty
 subst hu
 exact bodyPost_ret (results_lp hr _ _ g t cs (0, 0) d hp (hL.at_ hn) hd' (by cases d <;> first | rfl | exact hd) hi) hdf (RetV.mk hL' h)
end Go.Proofs.YtabmjadcoepbeaaGreat

/- Contracts of master.whole and master.vector. -/
namespace Go.Proofs.YtabmjadcoepbeaaGreat
open Go.RowKit

theorem m_whole (z : Int) (w m : World) (hV : Vw m w) (h1 : z.natAbs < 9223372036854775808) :
  Calls Tryz.prog 25 #[.int .i64 z] w (RetV w m fun m' r => FracC m' r (z : Rat)) := by
 have hq : Hid (Rat.divInt z 1 = (z : Rat)) := by show _ = _; rw [← Rat.num_divInt_den (z : Rat)]; simp
 have K : Hid (∀ w m, Vw m w → Calls Tryz.prog 58 #[.int .i64 z, .int .i64 1] w (RetV w m fun m' v => ∃ r, v = .tuple #[r, .int .i64 0] ∧ FracC m' r (Rat.divInt z 1))) := by
  show ∀ w m, _
  exact fun w m hV => q_FromInts z 1 w m hV (by omega) (by decide) (by omega)
 have hL := Loc.start hV
 clear hV h1
 go_enter Tryz.func25, Tryz.ntmps25
 go_wp2_with (first | go_skip | refine tP ?_ | (refine tS ?_; clear hL; intro _ hL) | (refine tB ?_; clear hL; intro _ _ hL _))
 refine (K.out _ _ hL.vw).mono ?_
 rintro e W11 ⟨_, m11, rfl, hE, hM11, hV, va, rfl, h1⟩
 replace hL := hL.call hE (by assumption) hV; clear hE hV
 obtain ⟨g, A, n, c, g', B', n', c', rfl, h1⟩ := h1.lit
 go_wp2_with (first | go_skip | refine tP ?_ | (refine tS ?_; clear hL; intro _ hL) | (refine tB ?_; clear hL; intro _ _ hL _))
 refine fin_agg hL Tryz.results25 rfl rfl loX AgC.h (by exact rfl) ?_
 rw [← hq.out]; exact h1.le leX

theorem nat_list {l : List Int} (h : ∀ f ∈ l, 0 ≤ f) : natL (l.map Int.toNat) = l := by
 unfold natL
 rw [List.map_map]
 exact (List.map_congr_left fun f hf => by simp [Int.toNat_of_nonneg (h f hf)]).trans (List.map_id l)
theorem coefF_fit {c : Cut} {l : List Int} (hd : 2 ≤ c.2) (hl : l.length ≤ 1000000) : 0 ≤ coefF c l ∧ coefF c l ≤ 1000000 := by
 unfold coefF
 have h := coefN_le c.1 l
 have h1 : (((coefN c.1 l : Nat) : Int) / c.2).natAbs ≤ coefN c.1 l := by have := Int.natAbs_ediv_le_natAbs ((coefN c.1 l : Nat) : Int) c.2; simpa using this
 have h2 : 0 ≤ ((coefN c.1 l : Nat) : Int) / c.2 := Int.ediv_nonneg (by omega) (by omega)
 omega
theorem sorted_fin {l : List Int} {ys : List Nat} (h0 : ∀ f ∈ l, 0 ≤ f) (hn : l.Nodup) (hp : ys.Perm (l.map Int.toNat)) (hs : SortI ys ys.length) : (natL ys).Pairwise (· < ·) ∧ ∀ f, f ∈ natL ys ↔ f ∈ l := by
 have hx : (l.map Int.toNat).Nodup := by
  rw [List.Nodup, List.pairwise_map]
  exact hn.imp_of_mem fun ha hb hne e => hne (by have := h0 _ ha; have := h0 _ hb; omega)
 have hy := hp.nodup_iff.2 hx
 refine ⟨?_, fun f => ?_⟩
 ·unfold natL
  rw [List.pairwise_map]
  exact (hs.all hy).imp fun h => by omega
 ·rw [← nat_list h0]
  unfold natL
  exact (hp.map _).mem_iff
theorem idx_of {rs : List Int} (h : AscP rs) {i : Nat} {f : Int} (hx : rs[i]? = some f) : rs.idxOf f = i := by
 have hn : rs.Nodup := h.pairwise.imp fun h e => by omega
 obtain ⟨hi, rfl⟩ := List.getElem?_eq_some_iff.1 hx
 exact hn.idxOf_getElem i hi

theorem m_vector (mv v : Value) (s : ByteArray) (x : Ms) (ds : List (List Task)) (co : Int) (w m : World) (hV : Vw m w) (hm : MasterR m mv x) (h : DutsL m v ds) (ok : MsOk x) (ck : ColOk x.rows (s, ds, co)) (h6 : x.rows.length ≤ 6) :
  Calls Tryz.prog 26 #[mv, .agg #[.string s, v]] w (RetV w m fun m' r => EntL m' r (vecF x (opF ds))) := by
 obtain ⟨nf, rs, pen, cols, cuts⟩ := x
 obtain ⟨va, vb, vc, rfl, ha, hb, hc⟩ := hm
 simp only at ha hb hc h6
 obtain ⟨A, ca, rfl, hca, ha⟩ := ha.lit
 obtain ⟨B, cb, rfl, hcb, hb⟩ := hb.lit
 obtain ⟨C, cc, rfl, hcc, hc⟩ := hc.lit
 obtain ⟨D, cd, rfl, hcd, h⟩ := h.lit
 obtain ⟨f0, f1, p0, p1, r0, r1, o1, o2, k1, o3, k2, o4⟩ := ok
 obtain ⟨i1, i2, i3, i4, i5, i6, i7⟩ := ck
 simp only at f0 f1 p0 p1 r0 r1 o1 o2 k1 o3 k2 o4 i1 i2 i3 i4 i5 i6 i7
 have HA := Lib.hid ha
 have HC := Lib.hid hc
 have HDS := Lib.hid h
 have H3 := Lib.hid i3
 have H4 := Lib.hid i4
 have HCO : Hid (∀ c ∈ cuts, CutOk rs c) := o4
 have HNN : Hid (∀ f ∈ opF ds, 0 ≤ f ∧ f < 200) := by
  show ∀ f ∈ _, _
  intro f hf
  have := o2 f (i6 f hf)
  omega
 have HLO : Hid (∀ r ∈ rs, 0 ≤ r ∧ r < 200) := by
  show ∀ r ∈ _, _
  intro f hf
  have := o2 f hf
  omega
 have HOL : Hid ((opF ds).length ≤ 6) := by
  show _ ≤ _
  exact Nat.le_trans (nodup_length i7 i6) h6
 have HND := Lib.hid i7
 have KB : Hid (∀ f ∈ opF ds, ∀ w m', Vw m' w → Le m m' → Calls Tryz.prog 41 #[.slice A rs.length ca, .int .i64 f] w (RetV w m' fun _ r => r = .tuple #[.int .i64 (rs.idxOf f : Nat), .bool true])) := by
  show ∀ f ∈ _, _
  intro f hf w m' hV hle
  refine (s_BinarySearch _ rs f w m' hV (IntL.le ha hle) (by omega) o1).mono fun e w' h => ?_
  obtain ⟨v, m2, h1, h2, h3, h4, i, h5, h6⟩ := h
  refine ⟨v, m2, h1, h2, h3, h4, ?_⟩
  rw [h5, idx_of o1 (h6 (i6 f hf)), decide_eq_true (i6 f hf)]
 have KC : Hid (∀ c ∈ cuts, ∀ cv w m', Vw m' w → Le m m' → CutR m' cv c → Calls Tryz.prog 60 #[cv, .agg #[.string s, .slice D ds.length cd]] w (RetV w m' fun _ r => r = .tuple #[.int .i64 (coefF c (opF ds)), .int .i64 0])) := by
  show ∀ c ∈ _, _
  intro c hc cv w m' hV hle hcv
  have hc4 := o4 c hc
  exact e_Coefficient cv _ c s ds w m' hV hcv (DutsL.le h hle) hc4.len i3 i4 (by have := HOL.out; omega) hc4.two (fun r hr => by have := HLO.out r (hc4.sub r hr); exact wf_small (by omega) (by omega)) (fun f hf => by have := HNN.out f hf; exact wf_small (by omega) (by omega))
 have HVR : Hid (∀ ys : List Nat, ys.Perm ((opF ds).map Int.toNat) → SortI ys ys.length → (∀ f, f ∈ natL ys → f ∈ opF ds) ∧ (natL ys).map (plcF rs) = rowV rs (opF ds) rs.length) := by
  show ∀ ys : List Nat, _
  intro ys hp hs
  obtain ⟨h1, h2⟩ := sorted_fin (fun f hf => (HNN.out f hf).1) i7 hp hs
  exact ⟨fun f hf => (h2 f).1 hf, vec_rows o1 i6 h1 h2⟩
 have HCZ : Hid (∀ c ∈ cuts, 0 ≤ coefF c (opF ds) ∧ coefF c (opF ds) ≤ 1000000) := by
  show ∀ c ∈ _, _
  exact fun c hc => coefF_fit (o4 c hc).two (by have := HOL.out; omega)
 have HRW : Hid ((rowV rs (opF ds) rs.length).length ≤ rs.length) := rowV_len _ _ _
 have HPOS : 0 < (opF ds).length := i5
 have hL := Loc.start hV
 clear hV ha hb hc h o1 o2 o3 o4 i1 i2 i3 i4 i5 i6 i7 f0 f1 p0 p1 k1 hca hcb hcc hcd r1
 show Calls _ _ _ _ (RetV w m fun m' r => EntL m' r (rowV rs (opF ds) rs.length ++ cutV rs.length cuts (opF ds) cuts.length))
 generalize hnr : rs.length = nr at *
 have HNR := Lib.hid hnr
 generalize hnk : cuts.length = nk at *
 have HNK := Lib.hid hnk
 generalize hnd : ds.length = nd at *
 have HND2 := Lib.hid hnd
 clear hnr hnk hnd
 generalize cols.length = nc at *
 go_enter Tryz.func26, Tryz.ntmps26
 go_upto_region 0 with (fail)
 refine wp_region_lit ?_
 refine t_box hL rfl rfl ?_; clear hL; intro Wh2 mh2 hL eh2; simp only [Act.put, zq1, zq2, zq3]
 refine t_box hL rfl rfl ?_; clear hL; intro Wh3 mh3 hL eh3; simp only [Act.put, zq1, zq2, zq3]
 go_wp2_with (first | go_skip | refine tP ?_ | (refine tS ?_; clear hL; intro _ hL) | (refine tB ?_; clear hL; intro _ _ hL _) | (refine tC ?_; clear hL; intro _ _ hL _ hBs))
 refine (e_OperatedR s _ ds _ _ hL.vw (DutsL.le HDS.out leX) (by rw [HND2.out]; exact H3.out) H4.out).mono ?_
 rintro e W1 ⟨m1, no, O, oc, R, rfl, hL1, row⟩
 have hJ := hL.join hL1
 have hX1 := hL1.mext
 have hno : (opF ds).length = no := row.len.symm
 clear hL hL1
 have hno6 : no ≤ 6 := by have := HOL.out; omega
 have hno1 : 1 ≤ no := by omega
 have HNO := Lib.hid hno
 clear hno HPOS
 obtain ⟨g, cap, cur, e, rfl, hcap, hsz⟩ := row.block (by omega)
 injection e with e1 e2 e3
 subst e1 e3
 clear e2
 simp only [List.cons_append, List.nil_append] at hJ
 rw [← nat_list (fun f hf => (HNN.out f hf).1)] at row
 go_wp2_with (first | go_skip | refine tP ?_ | (refine tS ?_; clear hL; intro _ hL) | (refine tB ?_; clear hL; intro _ _ hL _) | (refine tC ?_; clear hL; intro _ _ hL _ hBs))
 refine (s_SortI hJ row hno1 hno6).mono ?_
 rintro e W2 ⟨m2, cur2, ys, ⟨v2, rfl⟩, hL2, hX2, row2, hp, hs⟩
 have hyl : ys.length = no := by rw [hp.length_eq, List.length_map]; exact HNO.out
 have HYL : Hid ((natL ys).length = no) := by show _ = _; rw [natL_len]; exact hyl
 have HYF := Lib.hid (HVR.out ys hp (by rw [hyl]; exact hs))
 clear hJ row hp hs hyl HVR hcap hsz HND
 obtain ⟨m3, hL3, hle3, hl3, -⟩ := RowA.show (A := [_, _]) isI_mono (hL2.perm (List.perm_append_comm (l₁ := [_]) (l₂ := [_, _]))) row2
 have HX3 : Hid (Le m m3) := Le.trans (Le.trans (leX : Le m m1) hX2.le) hle3
 clear hL2 row2 hle3 hX1 hX2
 have hL := hL3
 have HYS := Lib.hid hl3
 clear hL3 hl3
 generalize hzs : natL ys = zs at *
 clear hzs
 go_wp2_with (first | go_skip | refine tP ?_ | (refine tS ?_; clear hL; intro _ hL) | (refine tB ?_; clear hL; intro _ _ hL _) | (refine tC ?_; clear hL; intro _ _ hL _ hBs))
 go_loopw [5, 21] (fun vv iv wr => ∃ (k : Nat) (mm : World) (R5 : List Lo), k ≤ no ∧ iv = .int .i64 (k : Int) ∧ Loc w m wr mm ((Wh2.heap.size, 64, #[.string s, .slice D nd cd]) :: (w.heap.size, 26, #[.int .i64 nf, .slice A nr ca, .int .i64 pen, .slice B nc cb, .slice C nk cc]) :: R5) ∧ Hid (RowA 71 5 EntR mm vv k ((zs.take k).map (plcF rs)) R5) ∧ Hid (Ext m3 mm)) (fun _ iv _ => no - (intOf iv).toNat)
 case atStart => exact ⟨0, _, [], Nat.zero_le _, rfl, hL, RowA.nil, Ext.refl _⟩
 case round =>
  clear hL
  obtain ⟨k, mm, R5, hk, rfl, hL, row, HXM⟩ := hrel
  obtain ⟨A5, c5, rfl, row1⟩ := row.out.lit
  have ROW := Lib.hid row1
  clear row row1
  by_cases hlt : k < no
  ·have hlt' : (k : Int) < (no : Int) := by omega
   obtain ⟨f, hf⟩ := at_some HYL hlt
   have hXM := HXM.out
   have hys := IntL.le HYS.out hXM.le
   obtain ⟨b1, o1, e1, hc1⟩ := IntL.at_ hys hf
   injection e1 with e1
   injection e1 with e1 e2
   subst e1 e2
   have HFO : Hid (f ∈ opF ds) := HYF.out.1 f (List.mem_of_getElem? hf)
   have HT : Hid ((zs.take k).map (plcF rs) ++ [plcF rs f] = (zs.take (k + 1)).map (plcF rs)) := by
    show _ = _
    rw [← take_snoc hf, List.map_append]
    rfl
   have HLM : Hid (Le m mm) := HX3.out.trans hXM.le
   clear hf hys hXM
   have HPF : Hid (plcF rs f = (((rs.idxOf f : Nat) : Int), oneQ)) := rfl
   go_wp2_with (first | go_skip | refine tP ?_ | (refine tS ?_; clear hL; intro _ hL) | (refine tB ?_; clear hL; intro _ _ hL _) | (refine tC ?_; clear hL; intro _ _ hL _ hBs))
   refine (KB.out f HFO.out _ _ hL.vw (HLM.out.trans leX)).mono ?_
   rintro e Wb ⟨_, mb, rfl, hE, hMb, hV, rfl⟩
   replace hL := hL.call hE (by assumption) hV; clear hE hV
   generalize rs.idxOf f = ix at *
   go_wp2_with (first | go_skip | refine tP ?_ | (refine tS ?_; clear hL; intro _ hL) | (refine tB ?_; clear hL; intro _ _ hL _) | (refine tC ?_; clear hL; intro _ _ hL _ hBs))
   refine (m_whole 1 _ _ hL.vw (by decide)).mono ?_
   rintro e Wp1 ⟨vp1, mp1, rfl, hE, hMp1, hV, hp1⟩
   replace hL := hL.call hE (by assumption) hV; clear hE hV
   obtain ⟨gp1', Ap1', np1', cp1', hp1', Bp1', kp1', dp1', rfl, hp1⟩ := hp1.lit
   have HZ := Lib.hid hp1
   clear hp1
   go_wp2_with (first | go_skip | refine tP ?_ | (refine tS ?_; clear hL; intro _ hL) | (refine tB ?_; clear hL; intro _ _ hL _) | (refine tC ?_; clear hL; intro _ _ hL _ hBs))
   refine goA ?_
   obtain ⟨vs7, r7, z7, y7, l7⟩ := ROW.out
   refine wl_append (A := [_, _]) hL r7 (wanted_none rfl) rfl ap_Ents (by omega) rfl rfl (news := [.int .i64 (ix : Int), .bool gp1', .slice Ap1' np1' cp1', .bool hp1', .slice Bp1' kp1' dp1']) rfl ((Blk.sl hBs (n := 5) rfl).le hL.vw.le) rfl (by omega) (by omega) ?_
   have HX7 := Lib.hid hL.mext
   clear hL
   intro v1 W5 m5 R6 hL r8 e8
   obtain ⟨A11, c11, rfl, -⟩ := r8.lit
   simp only [List.cons_append, List.nil_append] at hL
   have rd := RowA.snoc (R := EntR) (m := m5) (x := plcF rs f) r8 z7 (y7.mono fun v x hv => hv.le (leX : Le mm m5)) l7 rfl (by rw [HPF.out]; exact ⟨_, _, _, _, _, _, _, _, rfl, HZ.out.le leX⟩)
   rw [HT.out] at rd
   have RD := Lib.hid rd
   have HXN : Hid (Ext m3 m5) := HXM.out.trans (exX : Ext mm m5)
   clear rd r8 r7 z7 y7 l7
   simp only [Act.put, zq1, zq2, zq3]
   go_wp2_with (first | go_skip | refine tP ?_ | (refine tS ?_; clear hL; intro _ hL) | (refine tB ?_; clear hL; intro _ _ hL _) | (refine tC ?_; clear hL; intro _ _ hL _ hBs))
   go_roundw
   case rel => exact ⟨k + 1, m5, R6, by omega, by go_num, hL, RD.out, HXN.out⟩
   case measure => simp [intOf] <;> omega
  ·have hkn : k = no := by omega
   subst hkn
   have h9 : (k : Int) ≤ (k : Int) := Int.le_refl _
   have HXM2 : Hid (Le m mm) := HX3.out.trans HXM.out.le
   have HE0 : Hid ((zs.take k).map (plcF rs) = rowV rs (opF ds) nr) := by
    show _ = _
    rw [List.take_of_length_le (by rw [HYL.out]; exact Nat.le_refl _)]
    exact HYF.out.2
   rw [HE0.out] at ROW
   clear hlt hk HXM HE0 HYS HYF HX3
   generalize hrv : rowV rs (opF ds) nr = rv at *
   have HRV := Lib.hid hrv
   clear hrv
   go_wp2_with (first | go_skip | refine tP ?_ | (refine tS ?_; clear hL; intro _ hL) | (refine tB ?_; clear hL; intro _ _ hL _) | (refine tC ?_; clear hL; intro _ _ hL _ hBs))
   clear h9
   go_loopw [5, 42] (fun vv jv wr => ∃ (j n6 : Nat) (m6 : World) (R6 : List Lo), j ≤ nk ∧ jv = .int .i64 (j : Int) ∧ Loc w m wr m6 ((Wh2.heap.size, 64, #[.string s, .slice D nd cd]) :: (w.heap.size, 26, #[.int .i64 nf, .slice A nr ca, .int .i64 pen, .slice B nc cb, .slice C nk cc]) :: R6) ∧ n6 ≤ 6 + j ∧ Hid (RowA 71 5 EntR m6 vv n6 (rv ++ cutV nr cuts (opF ds) j) R6) ∧ Hid (Ext mm m6)) (fun _ jv _ => nk - (intOf jv).toNat)
   case atStart => exact ⟨0, k, _, R5, Nat.zero_le _, rfl, hL, by omega, by rw [cutV, List.append_nil]; exact ROW.out, exX⟩
   case round =>
    clear hL ROW
    obtain ⟨j, n6, m6, R6, hj, rfl, hL, hn6, row, HXM⟩ := hrel
    obtain ⟨A6, c6, rfl, row1⟩ := row.out.lit
    have ROW := Lib.hid row1
    clear row row1
    by_cases hlt : j < nk
    ·have hlt' : (j : Int) < (nk : Int) := by omega
     obtain ⟨c, hx⟩ := at_some HNK hlt
     have hXM := HXM.out
     have HLM : Hid (Le m m6) := HXM2.out.trans hXM.le
     have hcu := CutL.le HC.out HLM.out
     obtain ⟨b1, o1, D1, d1, e1, hcv, hr1⟩ := CutL.at_' hcu hx
     subst e1
     have HCV := Lib.hid hcv
     have HCC : Hid (c ∈ cuts) := List.mem_of_getElem? hx
     obtain ⟨z, hz⟩ : ∃ z, z = coefF c (opF ds) := ⟨_, rfl⟩
     have hz0 : 0 ≤ z := by rw [hz]; exact (HCZ.out c HCC.out).1
     have hz1 : z ≤ 1000000 := by rw [hz]; exact (HCZ.out c HCC.out).2
     have HKC : Hid (∀ w m', Vw m' w → Le m m' → CutR m' (.agg #[.slice D1 c.1.length d1, .int .i64 c.2]) c → Calls Tryz.prog 60 #[.agg #[.slice D1 c.1.length d1, .int .i64 c.2], .agg #[.string s, .slice D nd cd]] w (RetV w m' fun _ r => r = .tuple #[.int .i64 z, .int .i64 0])) := by
      show ∀ w m', _
      intro w m' hV hle hcv
      rw [hz]
      exact KC.out c HCC.out _ w m' hV hle hcv
     have HIN : Hid (0 < z → cutV nr cuts (opF ds) j ++ [(((nr : Int) + j : Int), (z : Rat))] = cutV nr cuts (opF ds) (j + 1)) := by
      show _ → _
      intro h
      rw [cutV_in hx (by rw [← hz]; exact h), ← hz]
      rfl
     have HOUT : Hid (z ≤ 0 → cutV nr cuts (opF ds) j = cutV nr cuts (opF ds) (j + 1)) := by
      show _ → _
      intro h
      rw [cutV_out hx (by rw [← hz]; omega)]
     clear hcu hcv hx hz hXM
     go_wp2_with (first | go_skip | refine tP ?_ | (refine tS ?_; clear hL; intro _ hL) | (refine tB ?_; clear hL; intro _ _ hL _) | (refine tC ?_; clear hL; intro _ _ hL _ hBs))
     refine (HKC.out _ _ hL.vw (HLM.out.trans leX) (HCV.out.le leX)).mono ?_
     rintro e Wc ⟨_, mc, rfl, hE, hMc, hV, rfl⟩
     replace hL := hL.call hE (by assumption) hV; clear hE hV
     by_cases hzp : 0 < z
     ·have hzn : (z != 0) = true := by simp; omega
      have HIJ : Hid (cutV nr cuts (opF ds) j ++ [(((nr : Int) + j : Int), (z : Rat))] = cutV nr cuts (opF ds) (j + 1)) := HIN.out hzp
      clear HIN HOUT
      go_upto_region 15 with ((first | go_skip | refine tP ?_ | (refine tS ?_; clear hL; intro _ hL) | (refine tB ?_; clear hL; intro _ _ hL _) | (refine tC ?_; clear hL; intro _ _ hL _ hBs)))
      clear hzn
      (try simp only [eq_self] at *)
      refine wp_region_by2 10 [false, false, false, false, false, false, false, false, false, false] [false, false, false, false, false, false, false, false, false, false] [(fun v _ _ => v = ?c15_0), (fun v _ _ => v = ?c15_1), (fun v _ _ => v = ?c15_2), (fun v _ _ => v = ?c15_3), (fun v _ _ => v = ?c15_4), (fun v _ _ => v = ?c15_5), (fun v _ _ => v = ?c15_6), Of (fun um v => FracC um v (z : Rat)), Of (fun um v => EntR um v (((nr : Int) + j : Int), (z : Rat))), (NewS1 71 (fun um v => EntR um v (((nr : Int) + j : Int), (z : Rat))))] hL.vw mixed [55, 56, 57, 58, 59, 60, 61, 62, 63, 64] _ (by kernel_rfl) (fun vs => by simp only [lay, Act.put, zq1, zq2, zq3]; rfl) (by kernel_rfl) (by decide) (by decide) ?s15 ?l15 ?r15
      case s15 =>
       refine ⟨?_, ?_, ?_, ?_, ?_, ?_, ?_, ?_, ?_, ?_, trivial⟩
       ·intro vs W1 m1 hE hM hV hD; clear hD
        exact sPw
       ·intro vs W1 m1 hE hM hV hD; clear hD
        exact sFe
       ·intro vs W1 m1 hE hM hV hD; obtain ⟨⟨_, _, -, -, f56⟩, -⟩ := hD
        rw [(f56 : vs 56 = _)]; clear f56; exact sLe
       ·intro vs W1 m1 hE hM hV hD; obtain ⟨⟨_, _, -, -, f57⟩, -⟩ := hD
        rw [(f57 : vs 57 = _)]
        clear f57
        replace hL := hL.call hE hM hV
        go_wp2_with (first | go_skip | refine tP ?_ | (refine tS ?_; clear hL; intro _ hL) | (refine tB ?_; clear hL; intro _ _ hL _) | (refine tC ?_; clear hL; intro _ _ hL _ hBs))
        refine One2.still hV ?_; exact rfl
       ·intro vs W1 m1 hE hM hV hD; clear hD
        exact sPw
       ·intro vs W1 m1 hE hM hV hD; obtain ⟨⟨_, _, -, -, f58⟩, ⟨_, _, -, -, f59⟩, -⟩ := hD
        rw [(f58 : vs 58 = _), (f59 : vs 59 = _)]; clear f58 f59; exact sPw
       ·intro vs W1 m1 hE hM hV hD; clear hD
        exact sPw
       ·intro vs W1 m1 hE hM hV hD; obtain ⟨⟨_, _, -, -, f61⟩, -⟩ := hD
        rw [(f61 : vs 61 = _)]
        clear f61
        go_wp2_with fail
        refine (m_whole z _ _ hV (by omega)).mono ?_
        rintro e W2 ⟨v, m2, rfl, hE2, hM2, hV2, h⟩
        go_wp2_with fail
        refine One2.call hE2 hM2 hV2 ?_; first | exact h | exact rfl
       ·intro vs W1 m1 hE hM hV hD; obtain ⟨⟨_, _, -, -, f60⟩, ⟨_, _, -, i62, f62⟩, -⟩ := hD
        rw [(f60 : vs 60 = _)]
        clear f60
        have f62 : FracC _ (vs 62) (z : Rat) := f62
        replace f62 := f62.le i62.le
        clear i62
        (obtain ⟨g9, A9, n9, c9, h9, B9, k9, d9, e9, f9⟩ := f62.lit; generalize vs 62 = x9 at e9 ⊢; subst x9; go_wp2_with fail; refine One2.still hV ?_; exact ⟨_, _, _, _, _, _, _, _, rfl, f9⟩)
       ·intro vs W1 m1 hE hM hV hD; obtain ⟨⟨_, _, -, i63, f63⟩, -⟩ := hD; have f63 : EntR _ (vs 63) (((nr : Int) + j : Int), (z : Rat)) := f63; replace f63 := f63.le i63.le; clear i63
        (obtain ⟨g9, A9, n9, c9, h9, B9, k9, d9, e9, f9⟩ := f63; generalize vs 63 = x9 at e9 ⊢; subst x9; go_wp2_with fail; exact one2_s1 hV fun m' h => ⟨_, _, _, _, _, _, _, _, rfl, f9.le h.le⟩)
      case l15 =>
       refine ⟨nF, nF, nF, nF, nF, nF, nF, nF, nF, nF, trivial⟩
      intro vs W1 m1 hE hM hV hF hD
      clear hD
      obtain ⟨⟨_, _, -, -, f55⟩, -, -, -, -, -, -, ⟨_, _, -, i62, f62⟩, ⟨_, _, -, i63, f63⟩, ⟨_, _, j64, i64, f64⟩, -⟩ := hF
      replace hL := hL.call hE hM hV
      have f55 : vs 55 = _ := f55
      generalize vs 55 = x55 at f55 ⊢
      subst x55
      replace f62 : FracC _ (vs 62) (z : Rat) := f62
      replace f62 := f62.le i62.le
      clear i62
      replace f63 : EntR _ (vs 63) (((nr : Int) + j : Int), (z : Rat)) := f63
      replace f63 := f63.le i63.le
      clear i63
      clear hE hV
      obtain ⟨g15, cs15, e15, q15, f15⟩ := f64
      generalize vs 64 = x15 at e15 ⊢
      subst x15
      replace q15 := q15.ext j64
      have f16 : EntR _ (.agg cs15) (((nr : Int) + j : Int), (z : Rat)) := f15
      replace f16 := f16.le i64.le
      clear f15 i64 j64
      obtain ⟨g9, A9, n9, c9, h9, B9, k9, d9, e9, f16⟩ := f16
      injection e9 with e9
      subst e9
      simp only [List.drop_succ_cons, List.drop_zero]
      obtain ⟨vs7, r7, z7, y7, l7⟩ := ROW.out
      refine wl_append (A := [_, _, _]) hL r7 (wanted_none rfl) rfl ap_Ents (by omega) rfl rfl (news := [.int .i64 ((nr : Int) + j), .bool g9, .slice A9 n9 c9, .bool h9, .slice B9 k9 d9]) rfl (Blk.sl q15 (n := 5) rfl) rfl (by omega) (by omega) ?_
      clear hL
      intro v1 W2 m2 R2 hL r8 e8
      obtain ⟨A8, c8, rfl, -⟩ := r8.lit
      simp only [List.cons_append, List.nil_append] at hL
      have rd := RowA.snoc (R := EntR) (m := m2) (x := (((nr : Int) + j : Int), (z : Rat))) r8 z7 (y7.mono fun v x hv => hv.le (leX : Le m6 m2)) l7 rfl ⟨_, _, _, _, _, _, _, _, rfl, f16.le e8.le⟩
      rw [List.append_assoc, HIJ.out] at rd
      have RD := Lib.hid rd
      have HXN : Hid (Ext mm m2) := HXM.out.trans (exX : Ext m6 m2)
      clear rd r8 r7 z7 y7 l7 f16 q15
      simp only [Act.put, zq1, zq2, zq3]
      go_wp2_with (first | go_skip | refine tP ?_ | (refine tS ?_; clear hL; intro _ hL) | (refine tB ?_; clear hL; intro _ _ hL _) | (refine tC ?_; clear hL; intro _ _ hL _ hBs))
      refine QN.mk ?_
      go_wp2_with (first | go_skip | refine tP ?_ | (refine tS ?_; clear hL; intro _ hL) | (refine tB ?_; clear hL; intro _ _ hL _) | (refine tC ?_; clear hL; intro _ _ hL _ hBs))
      go_roundw
      case rel => exact ⟨j + 1, n6 + 1, _, R2, by omega, by go_num, hL.tail, by omega, RD.out, HXN.out⟩
      case measure => simp [intOf] <;> omega
     ·have hzz : z = 0 := by omega
      have ROWN : Hid (RowA 71 5 EntR mc (.slice A6 n6 c6) n6 (rv ++ cutV nr cuts (opF ds) (j + 1)) R6) := by
       show RowA _ _ _ _ _ _ _ _
       rw [← HOUT.out (by omega)]
       exact RowA.le EntR.mono ROW.out leX
      have HXN : Hid (Ext mm mc) := HXM.out.trans (exX : Ext m6 mc)
      clear HIN HOUT
      subst hzz
      go_wp2_with (first | go_skip | refine tP ?_ | (refine tS ?_; clear hL; intro _ hL) | (refine tB ?_; clear hL; intro _ _ hL _) | (refine tC ?_; clear hL; intro _ _ hL _ hBs))
      go_roundw
      case rel => exact ⟨j + 1, n6, _, R6, by omega, by go_num, hL.tail, by omega, ROWN.out, HXN.out⟩
      case measure => simp [intOf] <;> omega
    ·have hjk : j = nk := by omega
     subst hjk
     have h9 : (j : Int) ≤ (j : Int) := Int.le_refl _
     go_wp2_with (first | go_skip | refine tP ?_ | (refine tS ?_; clear hL; intro _ hL) | (refine tB ?_; clear hL; intro _ _ hL _) | (refine tC ?_; clear hL; intro _ _ hL _ hBs))
     obtain ⟨m9, hL9, hle9, hl9, -⟩ := RowA.show (A := [_, _]) EntR.mono hL ROW.out
     go_ret
     exact RetV.mk hL9 (by show EntL _ _ (rowV rs (opF ds) nr ++ _); rw [HRV.out]; exact hl9)
end Go.Proofs.YtabmjadcoepbeaaGreat

/- Contract of master.Program for valid master problems (printed by genAR4.py). -/
namespace Go.Proofs.YtabmjadcoepbeaaGreat
open Go.RowKit

theorem m_Program (mv : Value) (x : Ms) (w m : World) (hV : Vw m w) (hm : MasterR m mv x) (ok : MsOk x) (h6 : x.rows.length ≤ 6) :
  Calls Tryz.prog 7 #[mv] w (RetV w m fun m' r => ∃ v, r = .tuple #[v, .int .i64 0] ∧ LPR m' v (lpF x)) := by
 have hm0 := hm
 obtain ⟨va, vb, vc, rfl, ha, hb, hc⟩ := hm
 obtain ⟨A, ca, rfl, hca, ha⟩ := ha.lit
 obtain ⟨B, cb, rfl, hcb, hb⟩ := hb.lit
 obtain ⟨C, cc, rfl, hcc, hc⟩ := hc.lit
 have KV : Hid (∀ w m', Vw m' w → Le m m' → Calls Tryz.prog 13 #[.agg #[.int .i64 x.nf, .slice A x.rows.length ca, .int .i64 x.pen, .slice B x.cols.length cb, .slice C x.cuts.length cc]] w (RetV w m' fun _ r => r = .int .i64 0)) := by
  show ∀ w m', _
  exact fun w m' hV hle => m_ValidateMaster _ x w m' hV (hm0.le hle) ok
 have KX : Hid (∀ c ∈ x.cols, ∀ v w m', Vw m' w → Le m m' → DutsL m' v c.2.1 → Calls Tryz.prog 26 #[.agg #[.int .i64 x.nf, .slice A x.rows.length ca, .int .i64 x.pen, .slice B x.cols.length cb, .slice C x.cuts.length cc], .agg #[.string c.1, v]] w (RetV w m' fun m' r => EntL m' r (vecF x (opF c.2.1)))) := by
  show ∀ c ∈ x.cols, _
  exact fun c hc v w m' hV hle hd => m_vector _ v c.1 x c.2.1 c.2.2 w m' hV (hm0.le hle) hd ok (ok.cols c hc) h6
 obtain ⟨f0, f1, p0, p1, r0, r1, o1, o2, k1, o3, k2, o4⟩ := ok
 have HA := Lib.hid ha
 have HB := Lib.hid hb
 have HC := Lib.hid hc
 have HCO : Hid (∀ c ∈ x.cols, ColOk x.rows c) := o3
 have HCU : Hid (∀ c ∈ x.cuts, CutOk x.rows c) := o4
 have HK0 : Hid (lpK x 0 = lpR x x.rows.length) := lpK_zero x
 have HC0 : Hid (lpC x 0 = lpK x x.cuts.length) := lpC_zero x
 have HFIN : Hid (lpF x = lpC x x.cols.length) := rfl
 have HSR : Hid (∀ i, (lpR x (i + 1)).cost = (lpR x i).cost ++ [(x.pen : Rat)] ∧ (lpR x (i + 1)).cols = (lpR x i).cols ++ [[((i : Int), ((1 : Int) : Rat))]] ∧ (lpR x (i + 1)).right = (lpR x i).right ++ [((1 : Int) : Rat)]) := lpR_step x
 have HSK : Hid (∀ (k : Nat) (c : Cut), x.cuts[k]? = some c → (lpK x (k + 1)).cost = (lpK x k).cost ++ [((0 : Int) : Rat)] ∧ (lpK x (k + 1)).cols = (lpK x k).cols ++ [[(((x.rows.length : Int) + k : Int), ((1 : Int) : Rat))]] ∧ (lpK x (k + 1)).right = (lpK x k).right ++ [((quoF c : Int) : Rat)]) := fun _ _ => lpK_step x
 have HSC : Hid (∀ (j : Nat) (c : Col), x.cols[j]? = some c → (lpC x (j + 1)).cost = (lpC x j).cost ++ [((c.2.2 : Int) : Rat)] ∧ (lpC x (j + 1)).cols = (lpC x j).cols ++ [vecF x (opF c.2.1)] ∧ (lpC x (j + 1)).right = (lpC x j).right) := fun _ _ => lpC_step x
 have hL := Loc.start hV
 clear hV hm0 ha hb hc o1 o2 o3 o4 f0 f1 hca hcb hcc r0
 generalize x.nf = nf at *
 generalize x.pen = pen at *
 generalize hnr : x.rows.length = nr at *
 have HNR := Lib.hid hnr
 generalize hnk : x.cuts.length = nk at *
 have HNK := Lib.hid hnk
 generalize hnc : x.cols.length = nc at *
 have HNC := Lib.hid hnc
 clear hnr hnk hnc
 go_enter Tryz.func7, Tryz.ntmps7
 go_upto_region 0 with (fail)
 refine wp_region_lit ?_
 refine t_box hL rfl rfl ?_; clear hL; intro Wh1 mh1 hL eh1; simp only [Act.put, zq1, zq2, zq3]
 refine t_alloc hL rfl ?_; clear hL; intro Wh2 mh2 hL eh2; simp only [Act.put, zq1, zq2, zq3]
 go_wp2_with (first | go_skip | refine tP ?_ | (refine tS ?_; clear hL; intro _ hL) | (refine tB ?_; clear hL; intro _ _ hL _) | (refine tC ?_; clear hL; intro _ _ hL _ hBs))
 refine (KV.out _ _ hL.vw leX).mono ?_
 rintro e Wc1 ⟨_, mc1, rfl, hE, hMc1, hV, rfl⟩
 replace hL := hL.call hE (by assumption) hV; clear hE hV
 go_wp2_with (first | go_skip | refine tP ?_ | (refine tS ?_; clear hL; intro _ hL) | (refine tB ?_; clear hL; intro _ _ hL _) | (refine tC ?_; clear hL; intro _ _ hL _ hBs))
 go_loopw [24] (fun iv wr => ∃ (i : Nat) (mm : World) (A0 A1 A2 : Option Addr) (c0 c1 c2 : Nat) (R0 R1 R2 : List Lo), i ≤ nr ∧ iv = .int .i64 (i : Int) ∧ Loc w m wr mm ((Wc1.heap.size, 31, #[.slice A0 (i) c0, .slice A1 (i) c1, .slice A2 (i) c2]) :: (Wh1.heap.size, 31, #[.slice none 0 0, .slice none 0 0, .slice none 0 0]) :: (w.heap.size, 26, #[.int .i64 nf, .slice A nr ca, .int .i64 pen, .slice B nc cb, .slice C nk cc]) :: ((R0 ++ R1) ++ R2)) ∧ Hid (RowA 55 4 FracC mm (.slice A0 (i) c0) (i) (lpR x i).cost R0) ∧ Hid (RowA 73 1 EntL mm (.slice A1 (i) c1) (i) (lpR x i).cols R1) ∧ Hid (RowA 55 4 FracC mm (.slice A2 (i) c2) (i) (lpR x i).right R2)) (fun iv _ => nr - (intOf iv).toNat)
 case atStart => exact ⟨0, _, none, none, none, 0, 0, 0, [], [], [], Nat.zero_le _, rfl, hL, RowA.nil, RowA.nil, RowA.nil⟩
 case round =>
  clear hL
  obtain ⟨i, mm, A0, A1, A2, c0, c1, c2, R0, R1, R2, hi, rfl, hL, ROWA, ROWB, ROWC⟩ := hrel
  have hir : i ≤ 32 := by omega
  by_cases hlt : i < nr
  ·have HS := Lib.hid (HSR.out i)
   go_upto_region 9 with ((first | go_skip | refine tP ?_ | (refine tS ?_; clear hL; intro _ hL) | (refine tB ?_; clear hL; intro _ _ hL _) | (refine tC ?_; clear hL; intro _ _ hL _ hBs)))
   (try simp only [eq_self] at *)
   refine wp_region_by2 4 [false, false, false, false] [false, false, false, false] [(fun v _ _ => v = ?c9_0), (fun v _ _ => v = ?c9_1), Of (fun um v => FracC um v ((1 : Int) : Rat)), (NewS1 55 (fun um v => FracC um v ((1 : Int) : Rat)))] hL.vw mixed [27, 28, 29, 30] _ (by kernel_rfl) (fun vs => by simp only [lay, Act.put, zq1, zq2, zq3]; rfl) (by kernel_rfl) (by decide) (by decide) ?s9 ?l9 ?r9
   case s9 =>
    refine ⟨?_, ?_, ?_, ?_, trivial⟩
    ·intro vs W1 m1 hE hM hV hD; clear hD
     exact sFe
    ·intro vs W1 m1 hE hM hV hD; obtain ⟨⟨_, _, -, -, f27⟩, -⟩ := hD
     rw [(f27 : vs 27 = _)]; clear f27; exact sLe
    ·intro vs W1 m1 hE hM hV hD; clear hD
     go_wp2_with fail
     refine (m_whole 1 _ _ hV (by decide)).mono ?_
     rintro e W2 ⟨v, m2, rfl, hE2, hM2, hV2, h⟩
     go_wp2_with fail
     refine One2.call hE2 hM2 hV2 ?_; first | exact h | exact rfl
    ·intro vs W1 m1 hE hM hV hD; obtain ⟨⟨_, _, -, i29, f29⟩, -⟩ := hD; have f29 : FracC _ (vs 29) ((1 : Int) : Rat) := f29; replace f29 := f29.le i29.le; clear i29
     (obtain ⟨g9, A9, n9, c9, h9, B9, k9, d9, e9, f9⟩ := f29.lit; generalize vs 29 = x9 at e9 ⊢; subst x9; go_wp2_with fail; exact one2_s1 hV fun m' h => f9.le h.le)
   case l9 =>
    refine ⟨nF, nF, nF, nF, trivial⟩
   intro vs W1 m1 hE hM hV hF hD
   clear hD
   obtain ⟨-, ⟨_, _, -, -, f28⟩, ⟨_, _, -, i29, f29⟩, ⟨_, _, j30, i30, f30⟩, -⟩ := hF
   replace hL := hL.call hE hM hV
   have f28 : vs 28 = _ := f28
   generalize vs 28 = x28 at f28 ⊢
   subst x28
   replace f29 : FracC _ (vs 29) ((1 : Int) : Rat) := f29
   replace f29 := f29.le i29.le
   clear i29
   clear hE hV
   obtain ⟨g15, cs15, e15, q15, f15⟩ := f30
   generalize vs 30 = x15 at e15 ⊢
   subst x15
   replace q15 := q15.ext j30
   have f16 : FracC _ (.agg cs15) ((1 : Int) : Rat) := f15
   replace f16 := f16.le i30.le
   clear f15 i30 j30
   obtain ⟨g9, A9, n9, c9, h9, B9, k9, d9, e9, f16⟩ := f16.lit
   injection e9 with e9
   subst e9
   simp only [List.drop_succ_cons, List.drop_zero]
   obtain ⟨vs7, r7, z7, y7, l7⟩ := ROWC.out
   refine wl_append (A := _ :: _ :: _ :: (R0 ++ R1)) hL r7 (wanted_none rfl) rfl ap_Fracs (by omega) rfl rfl (news := [.bool g9, .slice A9 n9 c9, .bool h9, .slice B9 k9 d9]) rfl (Blk.sl q15 (n := 4) rfl) rfl (by omega) (by omega) ?_
   clear hL
   intro vp Wp mp Rp hL r8 e8
   obtain ⟨Ap, cp, rfl, -⟩ := r8.lit
   simp only [List.cons_append, List.nil_append] at hL
   have rd := RowA.snoc (R := FracC) (m := mp) (x := ((1 : Int) : Rat)) r8 z7 (y7.mono fun v x hv => hv.le (leX : Le mm mp)) l7 rfl (f16.le e8.le)
   have NROWC := Lib.hid rd
   have NROWA := Lib.hid (RowA.le FracC.mono ROWA.out (leX : Le mm mp))
   have NROWB := Lib.hid (RowA.le EntL.mono ROWB.out (leX : Le mm mp))
   clear rd r8 r7 z7 y7 l7 ROWA ROWB ROWC q15 f16 
   have ROWA := NROWA
   have ROWB := NROWB
   have ROWC := NROWC
   clear NROWA NROWB NROWC
   simp only [Act.put, zq1, zq2, zq3]
   go_wp2_with (first | go_skip | refine tP ?_ | (refine tS ?_; clear hL; intro _ hL) | (refine tB ?_; clear hL; intro _ _ hL _) | (refine tC ?_; clear hL; intro _ _ hL _ hBs))
   refine QN.mk ?_
   replace hL := hL.rot3
   go_upto_region 10 with ((first | go_skip | refine tP ?_ | (refine tS ?_; clear hL; intro _ hL) | (refine tB ?_; clear hL; intro _ _ hL _) | (refine tC ?_; clear hL; intro _ _ hL _ hBs)))
   (try simp only [eq_self] at *)
   refine wp_region_by2 6 [false, false, false, false, false, false] [false, false, false, false, false, false] [(fun v _ _ => v = ?c10_0), (fun v _ _ => v = ?c10_1), (fun v _ _ => v = ?c10_2), (fun v _ _ => v = ?c10_3), Of (fun um v => FracC um v (pen : Rat)), (NewS1 55 (fun um v => FracC um v (pen : Rat)))] hL.vw mixed [33, 34, 35, 36, 37, 38] _ (by kernel_rfl) (fun vs => by simp only [lay, Act.put, zq1, zq2, zq3]; rfl) (by kernel_rfl) (by decide) (by decide) ?s10 ?l10 ?r10
   case s10 =>
    refine ⟨?_, ?_, ?_, ?_, ?_, ?_, trivial⟩
    ·intro vs W1 m1 hE hM hV hD; clear hD
     exact sFe
    ·intro vs W1 m1 hE hM hV hD; obtain ⟨⟨_, _, -, -, f33⟩, -⟩ := hD
     rw [(f33 : vs 33 = _)]; clear f33; exact sLe
    ·intro vs W1 m1 hE hM hV hD; clear hD
     exact sFe
    ·intro vs W1 m1 hE hM hV hD; obtain ⟨⟨_, _, -, -, f35⟩, -⟩ := hD
     rw [(f35 : vs 35 = _)]; clear f35; exact sLe
    ·intro vs W1 m1 hE hM hV hD; obtain ⟨⟨_, _, -, -, f36⟩, -⟩ := hD
     rw [(f36 : vs 36 = _)]
     clear f36
     go_wp2_with fail
     refine (m_whole pen _ _ hV (by omega)).mono ?_
     rintro e W2 ⟨v, m2, rfl, hE2, hM2, hV2, h⟩
     go_wp2_with fail
     refine One2.call hE2 hM2 hV2 ?_; first | exact h | exact rfl
    ·intro vs W1 m1 hE hM hV hD; obtain ⟨⟨_, _, -, i37, f37⟩, -⟩ := hD; have f37 : FracC _ (vs 37) (pen : Rat) := f37; replace f37 := f37.le i37.le; clear i37
     (obtain ⟨g9, A9, n9, c9, h9, B9, k9, d9, e9, f9⟩ := f37.lit; generalize vs 37 = x9 at e9 ⊢; subst x9; go_wp2_with fail; exact one2_s1 hV fun m' h => f9.le h.le)
   case l10 =>
    refine ⟨nF, nF, nF, nF, nF, nF, trivial⟩
   intro vs W1 m1 hE hM hV hF hD
   clear hD
   obtain ⟨-, ⟨_, _, -, -, f34⟩, -, -, ⟨_, _, -, i37, f37⟩, ⟨_, _, j38, i38, f38⟩, -⟩ := hF
   replace hL := hL.call hE hM hV
   have f34 : vs 34 = _ := f34
   generalize vs 34 = x34 at f34 ⊢
   subst x34
   replace f37 : FracC _ (vs 37) (pen : Rat) := f37
   replace f37 := f37.le i37.le
   clear i37
   clear hE hV
   obtain ⟨g15, cs15, e15, q15, f15⟩ := f38
   generalize vs 38 = x15 at e15 ⊢
   subst x15
   replace q15 := q15.ext j38
   have f16 : FracC _ (.agg cs15) (pen : Rat) := f15
   replace f16 := f16.le i38.le
   clear f15 i38 j38
   obtain ⟨g9, A9, n9, c9, h9, B9, k9, d9, e9, f16⟩ := f16.lit
   injection e9 with e9
   subst e9
   simp only [List.drop_succ_cons, List.drop_zero]
   obtain ⟨vs7, r7, z7, y7, l7⟩ := ROWA.out
   refine wl_append (A := _ :: _ :: _ :: (R1 ++ Rp)) hL r7 (wanted_none rfl) rfl ap_Fracs (by omega) rfl rfl (news := [.bool g9, .slice A9 n9 c9, .bool h9, .slice B9 k9 d9]) rfl (Blk.sl q15 (n := 4) rfl) rfl (by omega) (by omega) ?_
   clear hL
   intro vq Wq mq Rq hL r8 e8
   obtain ⟨Aq, cq, rfl, -⟩ := r8.lit
   simp only [List.cons_append, List.nil_append] at hL
   have rd := RowA.snoc (R := FracC) (m := mq) (x := (pen : Rat)) r8 z7 (y7.mono fun v x hv => hv.le (leX : Le mp mq)) l7 rfl (f16.le e8.le)
   have NROWA := Lib.hid rd
   have NROWB := Lib.hid (RowA.le EntL.mono ROWB.out (leX : Le mp mq))
   have NROWC := Lib.hid (RowA.le FracC.mono ROWC.out (leX : Le mp mq))
   clear rd r8 r7 z7 y7 l7 ROWB ROWC ROWA q15 f16 
   have ROWB := NROWB
   have ROWC := NROWC
   have ROWA := NROWA
   clear NROWB NROWC NROWA
   simp only [Act.put, zq1, zq2, zq3]
   go_wp2_with (first | go_skip | refine tP ?_ | (refine tS ?_; clear hL; intro _ hL) | (refine tB ?_; clear hL; intro _ _ hL _) | (refine tC ?_; clear hL; intro _ _ hL _ hBs))
   refine QN.mk ?_
   replace hL := hL.rot3
   go_upto_region 11 with ((first | go_skip | refine tP ?_ | (refine tS ?_; clear hL; intro _ hL) | (refine tB ?_; clear hL; intro _ _ hL _) | (refine tC ?_; clear hL; intro _ _ hL _ hBs)))
   (try simp only [eq_self] at *)
   refine wp_region_by2 7 [false, false, false, false, false, false, false] [false, false, false, false, false, false, false] [(fun v _ _ => v = ?c11_0), (fun v _ _ => v = ?c11_1), (fun v _ _ => v = ?c11_2), Of (fun um v => FracC um v ((1 : Int) : Rat)), Of (fun um v => EntR um v ((i : Int), ((1 : Int) : Rat))), Of (fun um v => EntL um v [((i : Int), ((1 : Int) : Rat))]), (NewS1 73 (fun um v => VecO um v [((i : Int), ((1 : Int) : Rat))]))] hL.vw mixed [41, 42, 43, 44, 45, 46, 47] _ (by kernel_rfl) (fun vs => by simp only [lay, Act.put, zq1, zq2, zq3]; rfl) (by kernel_rfl) (by decide) (by decide) ?s11 ?l11 ?r11
   case s11 =>
    refine ⟨?_, ?_, ?_, ?_, ?_, ?_, ?_, trivial⟩
    ·intro vs W1 m1 hE hM hV hD; clear hD
     exact sFe
    ·intro vs W1 m1 hE hM hV hD; obtain ⟨⟨_, _, -, -, f41⟩, -⟩ := hD
     rw [(f41 : vs 41 = _)]; clear f41; exact sLe
    ·intro vs W1 m1 hE hM hV hD; clear hD
     exact sPw
    ·intro vs W1 m1 hE hM hV hD; clear hD
     go_wp2_with fail
     refine (m_whole 1 _ _ hV (by decide)).mono ?_
     rintro e W2 ⟨v, m2, rfl, hE2, hM2, hV2, h⟩
     go_wp2_with fail
     refine One2.call hE2 hM2 hV2 ?_; first | exact h | exact rfl
    ·intro vs W1 m1 hE hM hV hD; obtain ⟨⟨_, _, -, -, f43⟩, ⟨_, _, -, i44, f44⟩, -⟩ := hD
     rw [(f43 : vs 43 = _)]
     clear f43
     have f44 : FracC _ (vs 44) ((1 : Int) : Rat) := f44
     replace f44 := f44.le i44.le
     clear i44
     (obtain ⟨g9, A9, n9, c9, h9, B9, k9, d9, e9, f9⟩ := f44.lit; generalize vs 44 = x9 at e9 ⊢; subst x9; go_wp2_with fail; refine One2.still hV ?_; exact ⟨_, _, _, _, _, _, _, _, rfl, f9⟩)
    ·intro vs W1 m1 hE hM hV hD; obtain ⟨⟨_, _, -, i45, f45⟩, -⟩ := hD; have f45 : EntR _ (vs 45) ((i : Int), ((1 : Int) : Rat)) := f45; replace f45 := f45.le i45.le; clear i45
     (obtain ⟨g9, A9, n9, c9, h9, B9, k9, d9, e9, f9⟩ := f45; generalize vs 45 = x9 at e9 ⊢; subst x9; go_wp2_with fail; exact one2_new hV fun m' h hb => EntL.one hb (f9.le h.le))
    ·intro vs W1 m1 hE hM hV hD; obtain ⟨⟨_, _, -, i46, f46⟩, -⟩ := hD; have f46 : EntL _ (vs 46) [((i : Int), ((1 : Int) : Rat))] := f46; replace f46 := f46.le i46.le; clear i46
     (obtain ⟨A9, c9, e9, -, f9⟩ := f46.lit; generalize vs 46 = x9 at e9 ⊢; subst x9; go_wp2_with fail; exact one2_s1 hV fun m' h => ⟨_, _, _, rfl, EntL.le f9 h.le⟩)
   case l11 =>
    refine ⟨nF, nF, nF, nF, nF, nF, nF, trivial⟩
   intro vs W1 m1 hE hM hV hF hD
   clear hD
   obtain ⟨-, ⟨_, _, -, -, f42⟩, -, ⟨_, _, -, i44, f44⟩, ⟨_, _, -, i45, f45⟩, ⟨_, _, -, i46, f46⟩, ⟨_, _, j47, i47, f47⟩, -⟩ := hF
   replace hL := hL.call hE hM hV
   have f42 : vs 42 = _ := f42
   generalize vs 42 = x42 at f42 ⊢
   subst x42
   replace f44 : FracC _ (vs 44) ((1 : Int) : Rat) := f44
   replace f44 := f44.le i44.le
   clear i44
   replace f45 : EntR _ (vs 45) ((i : Int), ((1 : Int) : Rat)) := f45
   replace f45 := f45.le i45.le
   clear i45
   replace f46 : EntL _ (vs 46) [((i : Int), ((1 : Int) : Rat))] := f46
   replace f46 := f46.le i46.le
   clear i46
   clear hE hV
   obtain ⟨g15, cs15, e15, q15, f15⟩ := f47
   generalize vs 47 = x15 at e15 ⊢
   subst x15
   replace q15 := q15.ext j47
   have f16 : VecO _ (.agg cs15) [((i : Int), ((1 : Int) : Rat))] := f15
   replace f16 := f16.le i47.le
   clear f15 i47 j47
   obtain ⟨A9, n9, c9, e9, f16⟩ := f16
   injection e9 with e9
   subst e9
   simp only [List.drop_succ_cons, List.drop_zero]
   obtain ⟨vs7, r7, z7, y7, l7⟩ := ROWB.out
   refine wl_append (A := _ :: _ :: _ :: (Rp ++ Rq)) hL r7 (wanted_none rfl) rfl ap_Vecs (by omega) rfl rfl (news := [.slice A9 n9 c9]) rfl (Blk.sl q15 (n := 1) rfl) rfl (by omega) (by omega) ?_
   clear hL
   intro vr Wr mr Rr hL r8 e8
   obtain ⟨Ar, cr, rfl, -⟩ := r8.lit
   simp only [List.cons_append, List.nil_append] at hL
   have rd := RowA.snocV (R := EntL) (m := mr) (x := [((i : Int), ((1 : Int) : Rat))]) r8 z7 (y7.mono fun v x hv => EntL.le hv (leX : Le mq mr)) l7 rfl rfl (EntL.le f16 e8.le)
   have NROWB := Lib.hid rd
   have NROWC := Lib.hid (RowA.le FracC.mono ROWC.out (leX : Le mq mr))
   have NROWA := Lib.hid (RowA.le FracC.mono ROWA.out (leX : Le mq mr))
   clear rd r8 r7 z7 y7 l7 ROWC ROWA ROWB q15 f16 
   have ROWC := NROWC
   have ROWA := NROWA
   have ROWB := NROWB
   clear NROWC NROWA NROWB
   simp only [Act.put, zq1, zq2, zq3]
   go_wp2_with (first | go_skip | refine tP ?_ | (refine tS ?_; clear hL; intro _ hL) | (refine tB ?_; clear hL; intro _ _ hL _) | (refine tC ?_; clear hL; intro _ _ hL _ hBs))
   refine QN.mk ?_
   replace hL := hL.rot3
   go_wp2_with (first | go_skip | refine tP ?_ | (refine tS ?_; clear hL; intro _ hL) | (refine tB ?_; clear hL; intro _ _ hL _) | (refine tC ?_; clear hL; intro _ _ hL _ hBs))
   go_roundw
   case rel => exact ⟨i + 1, _, _, _, _, _, _, _, _, _, _, by omega, by go_num, hL, by show RowA _ _ _ _ _ _ _ _; rw [HS.out.1]; exact ROWA.out, by show RowA _ _ _ _ _ _ _ _; rw [HS.out.2.1]; exact ROWB.out, by show RowA _ _ _ _ _ _ _ _; rw [HS.out.2.2]; exact ROWC.out⟩
   case measure => simp [intOf] <;> omega
  ·have hin : nr = i := by omega
   subst hin
   have h9 : (nr : Int) ≤ (nr : Int) := Int.le_refl _
   rw [← HK0.out] at ROWA ROWB ROWC
   have HLM : Hid (Le m mm) := hL.mext.le
   clear HK0 HSR hlt
   go_wp2_with (first | go_skip | refine tP ?_ | (refine tS ?_; clear hL; intro _ hL) | (refine tB ?_; clear hL; intro _ _ hL _) | (refine tC ?_; clear hL; intro _ _ hL _ hBs))
   clear h9 hi
   go_loopw [54] (fun iv wr => ∃ (k : Nat) (mm : World) (A0 A1 A2 : Option Addr) (c0 c1 c2 : Nat) (R0 R1 R2 : List Lo), k ≤ nk ∧ iv = .int .i64 (k : Int) ∧ Loc w m wr mm ((Wc1.heap.size, 31, #[.slice A0 (nr + k) c0, .slice A1 (nr + k) c1, .slice A2 (nr + k) c2]) :: (Wh1.heap.size, 31, #[.slice none 0 0, .slice none 0 0, .slice none 0 0]) :: (w.heap.size, 26, #[.int .i64 nf, .slice A nr ca, .int .i64 pen, .slice B nc cb, .slice C nk cc]) :: ((R0 ++ R1) ++ R2)) ∧ Hid (RowA 55 4 FracC mm (.slice A0 (nr + k) c0) (nr + k) (lpK x k).cost R0) ∧ Hid (RowA 73 1 EntL mm (.slice A1 (nr + k) c1) (nr + k) (lpK x k).cols R1) ∧ Hid (RowA 55 4 FracC mm (.slice A2 (nr + k) c2) (nr + k) (lpK x k).right R2)) (fun iv _ => nk - (intOf iv).toNat)
   case atStart => exact ⟨0, _, A0, A1, A2, c0, c1, c2, R0, R1, R2, Nat.zero_le _, rfl, hL, ROWA.out, ROWB.out, ROWC.out⟩
   case round =>
    clear hL ROWA ROWB ROWC HLM
    obtain ⟨k, mm, A0, A1, A2, c0, c1, c2, R0, R1, R2, hk, rfl, hL, ROWA, ROWB, ROWC⟩ := hrel
    have HLM : Hid (Le m mm) := hL.mext.le
    have hkr : k ≤ 32 := by omega
    by_cases hlt : k < nk
    ·have hlt' : (k : Int) < (nk : Int) := by omega
     obtain ⟨⟨cr, dv⟩, hx⟩ := at_some HNK hlt
     have hcu := CutL.le HC.out HLM.out
     obtain ⟨b1, o1, D1, d1, e1, -, hr1⟩ := CutL.at_' hcu hx
     subst e1
     have hco := HCU.out _ (List.mem_of_getElem? hx)
     have hdv : 2 ≤ dv := hco.two
     have hcl : cr.length ≤ 1000000 := hco.len
     have HS := Lib.hid (HSK.out k _ hx)
     simp only at hr1
     have hquo : quoF (cr, dv) = (cr.length : Int) / dv := rfl
     obtain ⟨hq0, hq1⟩ := quo_fit hdv hcl
     rw [hquo] at HS
     generalize cr.length = cl at *
     obtain ⟨z, hz⟩ : ∃ z, z = (cl : Int) / dv := ⟨_, rfl⟩
     have HQ : Hid (wrap64 ((cl : Int).tdiv dv) = z ∧ wrap64 ((cl : Int) / dv) = z ∧ (cl : Int).tdiv dv = z) := by show _ ∧ _; rw [hz]; exact quoE (by omega) hcl
     rw [← hz] at hq0 hq1 HS
     have hd0 : dv ≠ 0 := by omega
     clear hcu hco hx hquo hz
     go_upto_region 16 with ((first | go_skip | refine tP ?_ | (refine tS ?_; clear hL; intro _ hL) | (refine tB ?_; clear hL; intro _ _ hL _) | (refine tC ?_; clear hL; intro _ _ hL _ hBs)))
     (try simp only [eq_self] at *)
     refine wp_region_by2 10 [false, false, false, false, false, false, false, false, false, false] [false, false, false, false, false, false, false, false, false, false] [(fun v _ _ => v = ?c16_0), (fun v _ _ => v = ?c16_1), (fun v _ _ => v = ?c16_2), (fun v _ _ => v = ?c16_3), (fun v _ _ => v = ?c16_4), (fun v _ _ => v = ?c16_5), (fun v _ _ => v = ?c16_6), Is (.int .i64 z), Of (fun um v => FracC um v (z : Rat)), (NewS1 55 (fun um v => FracC um v (z : Rat)))] hL.vw mixed [59, 60, 61, 62, 63, 64, 65, 66, 67, 68] _ (by kernel_rfl) (fun vs => by simp only [lay, Act.put, zq1, zq2, zq3]; rfl) (by kernel_rfl) (by decide) (by decide) ?s16 ?l16 ?r16
     case s16 =>
      refine ⟨?_, ?_, ?_, ?_, ?_, ?_, ?_, ?_, ?_, ?_, trivial⟩
      ·intro vs W1 m1 hE hM hV hD; clear hD
       exact sFe
      ·intro vs W1 m1 hE hM hV hD; obtain ⟨⟨_, _, -, -, f59⟩, -⟩ := hD
       rw [(f59 : vs 59 = _)]; clear f59; exact sLe
      ·intro vs W1 m1 hE hM hV hD; clear hD
       exact sFe
      ·intro vs W1 m1 hE hM hV hD; obtain ⟨⟨_, _, -, -, f61⟩, -⟩ := hD
       rw [(f61 : vs 61 = _)]; clear f61; exact sLe
      ·intro vs W1 m1 hE hM hV hD; obtain ⟨⟨_, _, -, -, f62⟩, -⟩ := hD
       rw [(f62 : vs 62 = _)]
       clear f62
       replace hL := hL.call hE hM hV
       go_wp2_with (first | go_skip | refine tP ?_ | (refine tS ?_; clear hL; intro _ hL) | (refine tB ?_; clear hL; intro _ _ hL _) | (refine tC ?_; clear hL; intro _ _ hL _ hBs))
       refine One2.still hV ?_; exact rfl
      ·intro vs W1 m1 hE hM hV hD; clear hD
       exact sFe
      ·intro vs W1 m1 hE hM hV hD; obtain ⟨⟨_, _, -, -, f64⟩, -⟩ := hD
       rw [(f64 : vs 64 = _)]; clear f64; exact sLe
      ·intro vs W1 m1 hE hM hV hD; obtain ⟨⟨_, _, -, -, f63⟩, ⟨_, _, -, -, f65⟩, -⟩ := hD
       rw [(f63 : vs 63 = _), (f65 : vs 65 = _)]
       clear f63 f65
       (replace hL := hL.call hE hM hV; go_wp2_with (first | go_skip | refine tP ?_ | (refine tS ?_; clear hL; intro _ hL) | (refine tB ?_; clear hL; intro _ _ hL _) | (refine tC ?_; clear hL; intro _ _ hL _ hBs)); refine One2.still hV ?_; show Value.int .i64 _ = Value.int .i64 z; first | with_reducible exact congrArg (Value.int .i64) HQ.out.2.1 | with_reducible exact congrArg (Value.int .i64) HQ.out.1 | with_reducible exact congrArg (Value.int .i64) HQ.out.2.2 | with_reducible exact rfl)
      ·intro vs W1 m1 hE hM hV hD; obtain ⟨⟨_, _, -, -, f66⟩, -⟩ := hD
       rw [(f66 : vs 66 = _)]
       clear f66
       go_wp2_with fail
       refine (m_whole z _ _ hV (by omega)).mono ?_
       rintro e W2 ⟨v, m2, rfl, hE2, hM2, hV2, h⟩
       go_wp2_with fail
       refine One2.call hE2 hM2 hV2 ?_; first | exact h | exact rfl
      ·intro vs W1 m1 hE hM hV hD; obtain ⟨⟨_, _, -, i67, f67⟩, -⟩ := hD; have f67 : FracC _ (vs 67) (z : Rat) := f67; replace f67 := f67.le i67.le; clear i67
       (obtain ⟨g9, A9, n9, c9, h9, B9, k9, d9, e9, f9⟩ := f67.lit; generalize vs 67 = x9 at e9 ⊢; subst x9; go_wp2_with fail; exact one2_s1 hV fun m' h => f9.le h.le)
     case l16 =>
      refine ⟨nF, nF, nF, nF, nF, nF, nF, nF, nF, nF, trivial⟩
     intro vs W1 m1 hE hM hV hF hD
     clear hD
     obtain ⟨-, ⟨_, _, -, -, f60⟩, -, -, -, -, -, -, ⟨_, _, -, i67, f67⟩, ⟨_, _, j68, i68, f68⟩, -⟩ := hF
     replace hL := hL.call hE hM hV
     have f60 : vs 60 = _ := f60
     generalize vs 60 = x60 at f60 ⊢
     subst x60
     replace f67 : FracC _ (vs 67) (z : Rat) := f67
     replace f67 := f67.le i67.le
     clear i67
     clear hE hV
     obtain ⟨g15, cs15, e15, q15, f15⟩ := f68
     generalize vs 68 = x15 at e15 ⊢
     subst x15
     replace q15 := q15.ext j68
     have f16 : FracC _ (.agg cs15) (z : Rat) := f15
     replace f16 := f16.le i68.le
     clear f15 i68 j68
     obtain ⟨g9, A9, n9, c9, h9, B9, k9, d9, e9, f16⟩ := f16.lit
     injection e9 with e9
     subst e9
     simp only [List.drop_succ_cons, List.drop_zero]
     obtain ⟨vs7, r7, z7, y7, l7⟩ := ROWC.out
     refine wl_append (A := _ :: _ :: _ :: _ :: (R0 ++ R1)) hL r7 (wanted_none rfl) rfl ap_Fracs (by omega) rfl rfl (news := [.bool g9, .slice A9 n9 c9, .bool h9, .slice B9 k9 d9]) rfl (Blk.sl q15 (n := 4) rfl) rfl (by omega) (by omega) ?_
     clear hL
     intro vp Wp mp Rp hL r8 e8
     obtain ⟨Ap, cp, rfl, -⟩ := r8.lit
     simp only [List.cons_append, List.nil_append] at hL
     have rd := RowA.snoc (R := FracC) (m := mp) (x := (z : Rat)) r8 z7 (y7.mono fun v x hv => hv.le (leX : Le mm mp)) l7 rfl (f16.le e8.le)
     have NROWC := Lib.hid rd
     have NROWA := Lib.hid (RowA.le FracC.mono ROWA.out (leX : Le mm mp))
     have NROWB := Lib.hid (RowA.le EntL.mono ROWB.out (leX : Le mm mp))
     clear rd r8 r7 z7 y7 l7 ROWA ROWB ROWC q15 f16 
     have ROWA := NROWA
     have ROWB := NROWB
     have ROWC := NROWC
     clear NROWA NROWB NROWC
     simp only [Act.put, zq1, zq2, zq3]
     go_wp2_with (first | go_skip | refine tP ?_ | (refine tS ?_; clear hL; intro _ hL) | (refine tB ?_; clear hL; intro _ _ hL _) | (refine tC ?_; clear hL; intro _ _ hL _ hBs))
     refine QN.mk ?_
     replace hL := hL.rot4
     go_upto_region 17 with ((first | go_skip | refine tP ?_ | (refine tS ?_; clear hL; intro _ hL) | (refine tB ?_; clear hL; intro _ _ hL _) | (refine tC ?_; clear hL; intro _ _ hL _ hBs)))
     (try simp only [eq_self] at *)
     refine wp_region_by2 4 [false, false, false, false] [false, false, false, false] [(fun v _ _ => v = ?c17_0), (fun v _ _ => v = ?c17_1), Of (fun um v => FracC um v ((0 : Int) : Rat)), (NewS1 55 (fun um v => FracC um v ((0 : Int) : Rat)))] hL.vw mixed [71, 72, 73, 74] _ (by kernel_rfl) (fun vs => by simp only [lay, Act.put, zq1, zq2, zq3]; rfl) (by kernel_rfl) (by decide) (by decide) ?s17 ?l17 ?r17
     case s17 =>
      refine ⟨?_, ?_, ?_, ?_, trivial⟩
      ·intro vs W1 m1 hE hM hV hD; clear hD
       exact sFe
      ·intro vs W1 m1 hE hM hV hD; obtain ⟨⟨_, _, -, -, f71⟩, -⟩ := hD
       rw [(f71 : vs 71 = _)]; clear f71; exact sLe
      ·intro vs W1 m1 hE hM hV hD; clear hD
       go_wp2_with fail
       refine (m_whole 0 _ _ hV (by decide)).mono ?_
       rintro e W2 ⟨v, m2, rfl, hE2, hM2, hV2, h⟩
       go_wp2_with fail
       refine One2.call hE2 hM2 hV2 ?_; first | exact h | exact rfl
      ·intro vs W1 m1 hE hM hV hD; obtain ⟨⟨_, _, -, i73, f73⟩, -⟩ := hD; have f73 : FracC _ (vs 73) ((0 : Int) : Rat) := f73; replace f73 := f73.le i73.le; clear i73
       (obtain ⟨g9, A9, n9, c9, h9, B9, k9, d9, e9, f9⟩ := f73.lit; generalize vs 73 = x9 at e9 ⊢; subst x9; go_wp2_with fail; exact one2_s1 hV fun m' h => f9.le h.le)
     case l17 =>
      refine ⟨nF, nF, nF, nF, trivial⟩
     intro vs W1 m1 hE hM hV hF hD
     clear hD
     obtain ⟨-, ⟨_, _, -, -, f72⟩, ⟨_, _, -, i73, f73⟩, ⟨_, _, j74, i74, f74⟩, -⟩ := hF
     replace hL := hL.call hE hM hV
     have f72 : vs 72 = _ := f72
     generalize vs 72 = x72 at f72 ⊢
     subst x72
     replace f73 : FracC _ (vs 73) ((0 : Int) : Rat) := f73
     replace f73 := f73.le i73.le
     clear i73
     clear hE hV
     obtain ⟨g15, cs15, e15, q15, f15⟩ := f74
     generalize vs 74 = x15 at e15 ⊢
     subst x15
     replace q15 := q15.ext j74
     have f16 : FracC _ (.agg cs15) ((0 : Int) : Rat) := f15
     replace f16 := f16.le i74.le
     clear f15 i74 j74
     obtain ⟨g9, A9, n9, c9, h9, B9, k9, d9, e9, f16⟩ := f16.lit
     injection e9 with e9
     subst e9
     simp only [List.drop_succ_cons, List.drop_zero]
     obtain ⟨vs7, r7, z7, y7, l7⟩ := ROWA.out
     refine wl_append (A := _ :: _ :: _ :: _ :: (R1 ++ Rp)) hL r7 (wanted_none rfl) rfl ap_Fracs (by omega) rfl rfl (news := [.bool g9, .slice A9 n9 c9, .bool h9, .slice B9 k9 d9]) rfl (Blk.sl q15 (n := 4) rfl) rfl (by omega) (by omega) ?_
     clear hL
     intro vq Wq mq Rq hL r8 e8
     obtain ⟨Aq, cq, rfl, -⟩ := r8.lit
     simp only [List.cons_append, List.nil_append] at hL
     have rd := RowA.snoc (R := FracC) (m := mq) (x := ((0 : Int) : Rat)) r8 z7 (y7.mono fun v x hv => hv.le (leX : Le mp mq)) l7 rfl (f16.le e8.le)
     have NROWA := Lib.hid rd
     have NROWB := Lib.hid (RowA.le EntL.mono ROWB.out (leX : Le mp mq))
     have NROWC := Lib.hid (RowA.le FracC.mono ROWC.out (leX : Le mp mq))
     clear rd r8 r7 z7 y7 l7 ROWB ROWC ROWA q15 f16 
     have ROWB := NROWB
     have ROWC := NROWC
     have ROWA := NROWA
     clear NROWB NROWC NROWA
     simp only [Act.put, zq1, zq2, zq3]
     go_wp2_with (first | go_skip | refine tP ?_ | (refine tS ?_; clear hL; intro _ hL) | (refine tB ?_; clear hL; intro _ _ hL _) | (refine tC ?_; clear hL; intro _ _ hL _ hBs))
     refine QN.mk ?_
     replace hL := hL.rot4
     go_upto_region 18 with ((first | go_skip | refine tP ?_ | (refine tS ?_; clear hL; intro _ hL) | (refine tB ?_; clear hL; intro _ _ hL _) | (refine tC ?_; clear hL; intro _ _ hL _ hBs)))
     (try simp only [eq_self] at *)
     refine wp_region_by2 9 [false, false, false, false, false, false, false, false, false] [false, false, false, false, false, false, false, false, false] [(fun v _ _ => v = ?c18_0), (fun v _ _ => v = ?c18_1), (fun v _ _ => v = ?c18_2), (fun v _ _ => v = ?c18_3), (fun v _ _ => v = ?c18_4), Of (fun um v => FracC um v ((1 : Int) : Rat)), Of (fun um v => EntR um v ((nr : Int) + k, ((1 : Int) : Rat))), Of (fun um v => EntL um v [((nr : Int) + k, ((1 : Int) : Rat))]), (NewS1 73 (fun um v => VecO um v [((nr : Int) + k, ((1 : Int) : Rat))]))] hL.vw mixed [77, 78, 79, 80, 81, 82, 83, 84, 85] _ (by kernel_rfl) (fun vs => by simp only [lay, Act.put, zq1, zq2, zq3]; rfl) (by kernel_rfl) (by decide) (by decide) ?s18 ?l18 ?r18
     case s18 =>
      refine ⟨?_, ?_, ?_, ?_, ?_, ?_, ?_, ?_, ?_, trivial⟩
      ·intro vs W1 m1 hE hM hV hD; clear hD
       exact sFe
      ·intro vs W1 m1 hE hM hV hD; obtain ⟨⟨_, _, -, -, f77⟩, -⟩ := hD
       rw [(f77 : vs 77 = _)]; clear f77; exact sLe
      ·intro vs W1 m1 hE hM hV hD; clear hD
       exact sPw
      ·intro vs W1 m1 hE hM hV hD; clear hD
       exact sPw
      ·intro vs W1 m1 hE hM hV hD; obtain ⟨⟨_, _, -, -, f79⟩, ⟨_, _, -, -, f80⟩, -⟩ := hD
       rw [(f79 : vs 79 = _), (f80 : vs 80 = _)]; clear f79 f80; exact sPw
      ·intro vs W1 m1 hE hM hV hD; clear hD
       go_wp2_with fail
       refine (m_whole 1 _ _ hV (by decide)).mono ?_
       rintro e W2 ⟨v, m2, rfl, hE2, hM2, hV2, h⟩
       go_wp2_with fail
       refine One2.call hE2 hM2 hV2 ?_; first | exact h | exact rfl
      ·intro vs W1 m1 hE hM hV hD; obtain ⟨⟨_, _, -, -, f81⟩, ⟨_, _, -, i82, f82⟩, -⟩ := hD
       rw [(f81 : vs 81 = _)]
       clear f81
       have f82 : FracC _ (vs 82) ((1 : Int) : Rat) := f82
       replace f82 := f82.le i82.le
       clear i82
       (obtain ⟨g9, A9, n9, c9, h9, B9, k9, d9, e9, f9⟩ := f82.lit; generalize vs 82 = x9 at e9 ⊢; subst x9; go_wp2_with fail; refine One2.still hV ?_; exact ⟨_, _, _, _, _, _, _, _, rfl, f9⟩)
      ·intro vs W1 m1 hE hM hV hD; obtain ⟨⟨_, _, -, i83, f83⟩, -⟩ := hD; have f83 : EntR _ (vs 83) ((nr : Int) + k, ((1 : Int) : Rat)) := f83; replace f83 := f83.le i83.le; clear i83
       (obtain ⟨g9, A9, n9, c9, h9, B9, k9, d9, e9, f9⟩ := f83; generalize vs 83 = x9 at e9 ⊢; subst x9; go_wp2_with fail; exact one2_new hV fun m' h hb => EntL.one hb (f9.le h.le))
      ·intro vs W1 m1 hE hM hV hD; obtain ⟨⟨_, _, -, i84, f84⟩, -⟩ := hD; have f84 : EntL _ (vs 84) [((nr : Int) + k, ((1 : Int) : Rat))] := f84; replace f84 := f84.le i84.le; clear i84
       (obtain ⟨A9, c9, e9, -, f9⟩ := f84.lit; generalize vs 84 = x9 at e9 ⊢; subst x9; go_wp2_with fail; exact one2_s1 hV fun m' h => ⟨_, _, _, rfl, EntL.le f9 h.le⟩)
     case l18 =>
      refine ⟨nF, nF, nF, nF, nF, nF, nF, nF, nF, trivial⟩
     intro vs W1 m1 hE hM hV hF hD
     clear hD
     obtain ⟨-, ⟨_, _, -, -, f78⟩, -, -, -, ⟨_, _, -, i82, f82⟩, ⟨_, _, -, i83, f83⟩, ⟨_, _, -, i84, f84⟩, ⟨_, _, j85, i85, f85⟩, -⟩ := hF
     replace hL := hL.call hE hM hV
     have f78 : vs 78 = _ := f78
     generalize vs 78 = x78 at f78 ⊢
     subst x78
     replace f82 : FracC _ (vs 82) ((1 : Int) : Rat) := f82
     replace f82 := f82.le i82.le
     clear i82
     replace f83 : EntR _ (vs 83) ((nr : Int) + k, ((1 : Int) : Rat)) := f83
     replace f83 := f83.le i83.le
     clear i83
     replace f84 : EntL _ (vs 84) [((nr : Int) + k, ((1 : Int) : Rat))] := f84
     replace f84 := f84.le i84.le
     clear i84
     clear hE hV
     obtain ⟨g15, cs15, e15, q15, f15⟩ := f85
     generalize vs 85 = x15 at e15 ⊢
     subst x15
     replace q15 := q15.ext j85
     have f16 : VecO _ (.agg cs15) [((nr : Int) + k, ((1 : Int) : Rat))] := f15
     replace f16 := f16.le i85.le
     clear f15 i85 j85
     obtain ⟨A9, n9, c9, e9, f16⟩ := f16
     injection e9 with e9
     subst e9
     simp only [List.drop_succ_cons, List.drop_zero]
     obtain ⟨vs7, r7, z7, y7, l7⟩ := ROWB.out
     refine wl_append (A := _ :: _ :: _ :: _ :: (Rp ++ Rq)) hL r7 (wanted_none rfl) rfl ap_Vecs (by omega) rfl rfl (news := [.slice A9 n9 c9]) rfl (Blk.sl q15 (n := 1) rfl) rfl (by omega) (by omega) ?_
     clear hL
     intro vr Wr mr Rr hL r8 e8
     obtain ⟨Ar, cr, rfl, -⟩ := r8.lit
     simp only [List.cons_append, List.nil_append] at hL
     have rd := RowA.snocV (R := EntL) (m := mr) (x := [((nr : Int) + k, ((1 : Int) : Rat))]) r8 z7 (y7.mono fun v x hv => EntL.le hv (leX : Le mq mr)) l7 rfl rfl (EntL.le f16 e8.le)
     have NROWB := Lib.hid rd
     have NROWC := Lib.hid (RowA.le FracC.mono ROWC.out (leX : Le mq mr))
     have NROWA := Lib.hid (RowA.le FracC.mono ROWA.out (leX : Le mq mr))
     clear rd r8 r7 z7 y7 l7 ROWC ROWA ROWB q15 f16 
     have ROWC := NROWC
     have ROWA := NROWA
     have ROWB := NROWB
     clear NROWC NROWA NROWB
     simp only [Act.put, zq1, zq2, zq3]
     go_wp2_with (first | go_skip | refine tP ?_ | (refine tS ?_; clear hL; intro _ hL) | (refine tB ?_; clear hL; intro _ _ hL _) | (refine tC ?_; clear hL; intro _ _ hL _ hBs))
     refine QN.mk ?_
     replace hL := hL.rot4
     go_wp2_with (first | go_skip | refine tP ?_ | (refine tS ?_; clear hL; intro _ hL) | (refine tB ?_; clear hL; intro _ _ hL _) | (refine tC ?_; clear hL; intro _ _ hL _ hBs))
     go_roundw
     case rel => exact ⟨k + 1, _, _, _, _, _, _, _, _, _, _, by omega, by go_num, hL.tail, by show RowA _ _ _ _ _ _ _ _; rw [HS.out.1]; exact ROWA.out, by show RowA _ _ _ _ _ _ _ _; rw [HS.out.2.1]; exact ROWB.out, by show RowA _ _ _ _ _ _ _ _; rw [HS.out.2.2]; exact ROWC.out⟩
     case measure => simp [intOf] <;> omega
    ·have hin : nk = k := by omega
     subst hin
     have h9 : (nk : Int) ≤ (nk : Int) := Int.le_refl _
     rw [← HC0.out] at ROWA ROWB ROWC
     clear HC0 HSK hlt
     go_wp2_with (first | go_skip | refine tP ?_ | (refine tS ?_; clear hL; intro _ hL) | (refine tB ?_; clear hL; intro _ _ hL _) | (refine tC ?_; clear hL; intro _ _ hL _ hBs))
     clear h9 hk HLM
     go_loopw [92] (fun iv wr => ∃ (j : Nat) (mm : World) (A0 A1 A2 : Option Addr) (c0 c1 c2 : Nat) (R0 R1 R2 : List Lo), j ≤ nc ∧ iv = .int .i64 (j : Int) ∧ Loc w m wr mm ((Wc1.heap.size, 31, #[.slice A0 (nr + nk + j) c0, .slice A1 (nr + nk + j) c1, .slice A2 (nr + nk) c2]) :: (Wh1.heap.size, 31, #[.slice none 0 0, .slice none 0 0, .slice none 0 0]) :: (w.heap.size, 26, #[.int .i64 nf, .slice A nr ca, .int .i64 pen, .slice B nc cb, .slice C nk cc]) :: ((R0 ++ R1) ++ R2)) ∧ Hid (RowA 55 4 FracC mm (.slice A0 (nr + nk + j) c0) (nr + nk + j) (lpC x j).cost R0) ∧ Hid (RowA 73 1 EntL mm (.slice A1 (nr + nk + j) c1) (nr + nk + j) (lpC x j).cols R1) ∧ Hid (RowA 55 4 FracC mm (.slice A2 (nr + nk) c2) (nr + nk) (lpC x j).right R2)) (fun iv _ => nc - (intOf iv).toNat)
     case atStart => exact ⟨0, _, A0, A1, A2, c0, c1, c2, R0, R1, R2, Nat.zero_le _, rfl, hL, ROWA.out, ROWB.out, ROWC.out⟩
     case round =>
      clear hL ROWA ROWB ROWC
      obtain ⟨j, mm, A0, A1, A2, c0, c1, c2, R0, R1, R2, hj, rfl, hL, ROWA, ROWB, ROWC⟩ := hrel
      have HLM : Hid (Le m mm) := hL.mext.le
      have hjr : j ≤ 1000 := by omega
      by_cases hlt : j < nc
      ·have hlt' : (j : Int) < (nc : Int) := by omega
       obtain ⟨⟨s, ds, z⟩, hx⟩ := at_some HNC hlt
       have hcl := ListV.le ColR.mono HB.out HLM.out
       obtain ⟨b1, o1, D, cd, e1, hds, hr1⟩ := ColL.at_ hcl hx
       subst e1
       simp only at hds hr1
       have hck := HCO.out _ (List.mem_of_getElem? hx)
       have hz1 : -1125899906842624 ≤ z := hck.c1
       have hz2 : z ≤ 1125899906842624 := hck.c2
       have HDS := Lib.hid hds
       have HS := Lib.hid (HSC.out j _ hx)
       have kq := KX.out (s, ds, z) (List.mem_of_getElem? hx) (.slice D ds.length cd)
       simp only at kq HS
       have KY := Lib.hid kq
       clear kq
       clear hcl hck hds hx
       generalize ds.length = nd at *
       replace hL := hL.rot3
       go_upto_region 23 with ((first | go_skip | refine tP ?_ | (refine tS ?_; clear hL; intro _ hL) | (refine tB ?_; clear hL; intro _ _ hL _) | (refine tC ?_; clear hL; intro _ _ hL _ hBs)))
       (try simp only [eq_self] at *)
       refine wp_region_by2 6 [false, false, false, false, false, false] [false, false, false, false, false, false] [(fun v _ _ => v = ?c23_0), (fun v _ _ => v = ?c23_1), (fun v _ _ => v = ?c23_2), (fun v _ _ => v = ?c23_3), Of (fun um v => FracC um v (z : Rat)), (NewS1 55 (fun um v => FracC um v (z : Rat)))] hL.vw mixed [96, 97, 98, 99, 100, 101] _ (by kernel_rfl) (fun vs => by simp only [lay, Act.put, zq1, zq2, zq3]; rfl) (by kernel_rfl) (by decide) (by decide) ?s23 ?l23 ?r23
       case s23 =>
        refine ⟨?_, ?_, ?_, ?_, ?_, ?_, trivial⟩
        ·intro vs W1 m1 hE hM hV hD; clear hD
         exact sFe
        ·intro vs W1 m1 hE hM hV hD; obtain ⟨⟨_, _, -, -, f96⟩, -⟩ := hD
         rw [(f96 : vs 96 = _)]; clear f96; exact sLe
        ·intro vs W1 m1 hE hM hV hD; clear hD
         exact sFe
        ·intro vs W1 m1 hE hM hV hD; obtain ⟨⟨_, _, -, -, f98⟩, -⟩ := hD
         rw [(f98 : vs 98 = _)]; clear f98; exact sLe
        ·intro vs W1 m1 hE hM hV hD; obtain ⟨⟨_, _, -, -, f99⟩, -⟩ := hD
         rw [(f99 : vs 99 = _)]
         clear f99
         go_wp2_with fail
         refine (m_whole z _ _ hV (by omega)).mono ?_
         rintro e W2 ⟨v, m2, rfl, hE2, hM2, hV2, h⟩
         go_wp2_with fail
         refine One2.call hE2 hM2 hV2 ?_; first | exact h | exact rfl
        ·intro vs W1 m1 hE hM hV hD; obtain ⟨⟨_, _, -, i100, f100⟩, -⟩ := hD; have f100 : FracC _ (vs 100) (z : Rat) := f100; replace f100 := f100.le i100.le; clear i100
         (obtain ⟨g9, A9, n9, c9, h9, B9, k9, d9, e9, f9⟩ := f100.lit; generalize vs 100 = x9 at e9 ⊢; subst x9; go_wp2_with fail; exact one2_s1 hV fun m' h => f9.le h.le)
       case l23 =>
        refine ⟨nF, nF, nF, nF, nF, nF, trivial⟩
       intro vs W1 m1 hE hM hV hF hD
       clear hD
       obtain ⟨-, ⟨_, _, -, -, f97⟩, -, -, ⟨_, _, -, i100, f100⟩, ⟨_, _, j101, i101, f101⟩, -⟩ := hF
       replace hL := hL.call hE hM hV
       have f97 : vs 97 = _ := f97
       generalize vs 97 = x97 at f97 ⊢
       subst x97
       replace f100 : FracC _ (vs 100) (z : Rat) := f100
       replace f100 := f100.le i100.le
       clear i100
       clear hE hV
       obtain ⟨g15, cs15, e15, q15, f15⟩ := f101
       generalize vs 101 = x15 at e15 ⊢
       subst x15
       replace q15 := q15.ext j101
       have f16 : FracC _ (.agg cs15) (z : Rat) := f15
       replace f16 := f16.le i101.le
       clear f15 i101 j101
       obtain ⟨g9, A9, n9, c9, h9, B9, k9, d9, e9, f16⟩ := f16.lit
       injection e9 with e9
       subst e9
       simp only [List.drop_succ_cons, List.drop_zero]
       obtain ⟨vs7, r7, z7, y7, l7⟩ := ROWA.out
       refine wl_append (A := _ :: _ :: _ :: _ :: (R1 ++ R2)) hL r7 (wanted_none rfl) rfl ap_Fracs (by omega) rfl rfl (news := [.bool g9, .slice A9 n9 c9, .bool h9, .slice B9 k9 d9]) rfl (Blk.sl q15 (n := 4) rfl) rfl (by omega) (by omega) ?_
       clear hL
       intro vp Wp mp Rp hL r8 e8
       obtain ⟨Ap, cp, rfl, -⟩ := r8.lit
       simp only [List.cons_append, List.nil_append] at hL
       have rd := RowA.snoc (R := FracC) (m := mp) (x := (z : Rat)) r8 z7 (y7.mono fun v x hv => hv.le (leX : Le mm mp)) l7 rfl (f16.le e8.le)
       have NROWA := Lib.hid rd
       have NROWB := Lib.hid (RowA.le EntL.mono ROWB.out (leX : Le mm mp))
       have NROWC := Lib.hid (RowA.le FracC.mono ROWC.out (leX : Le mm mp))
       clear rd r8 r7 z7 y7 l7 ROWB ROWC ROWA q15 f16 
       have ROWB := NROWB
       have ROWC := NROWC
       have ROWA := NROWA
       clear NROWB NROWC NROWA
       simp only [Act.put, zq1, zq2, zq3]
       go_wp2_with (first | go_skip | refine tP ?_ | (refine tS ?_; clear hL; intro _ hL) | (refine tB ?_; clear hL; intro _ _ hL _) | (refine tC ?_; clear hL; intro _ _ hL _ hBs))
       refine QN.mk ?_
       replace hL := hL.rot4
       go_upto_region 24 with ((first | go_skip | refine tP ?_ | (refine tS ?_; clear hL; intro _ hL) | (refine tB ?_; clear hL; intro _ _ hL _) | (refine tC ?_; clear hL; intro _ _ hL _ hBs)))
       (try simp only [eq_self] at *)
       refine wp_region_by2 7 [false, false, false, false, false, false, false] [false, false, false, false, false, false, false] [(fun v _ _ => v = ?c24_0), (fun v _ _ => v = ?c24_1), (fun v _ _ => v = ?c24_2), (fun v _ _ => v = ?c24_3), (fun v _ _ => v = ?c24_4), Of (fun um v => EntL um v (vecF x (opF ds))), (NewS1 73 (fun um v => VecO um v (vecF x (opF ds))))] hL.vw mixed [104, 105, 106, 107, 108, 109, 110] _ (by kernel_rfl) (fun vs => by simp only [lay, Act.put, zq1, zq2, zq3]; rfl) (by kernel_rfl) (by decide) (by decide) ?s24 ?l24 ?r24
       case s24 =>
        refine ⟨?_, ?_, ?_, ?_, ?_, ?_, ?_, trivial⟩
        ·intro vs W1 m1 hE hM hV hD; clear hD
         exact sFe
        ·intro vs W1 m1 hE hM hV hD; obtain ⟨⟨_, _, -, -, f104⟩, -⟩ := hD
         rw [(f104 : vs 104 = _)]; clear f104; exact sLe
        ·intro vs W1 m1 hE hM hV hD; clear hD
         exact sLe
        ·intro vs W1 m1 hE hM hV hD; clear hD
         exact sFe
        ·intro vs W1 m1 hE hM hV hD; obtain ⟨⟨_, _, -, -, f107⟩, -⟩ := hD
         rw [(f107 : vs 107 = _)]; clear f107; exact sLe
        ·intro vs W1 m1 hE hM hV hD; obtain ⟨⟨_, _, -, -, f106⟩, ⟨_, _, -, -, f108⟩, -⟩ := hD
         rw [(f106 : vs 106 = _), (f108 : vs 108 = _)]
         clear f106 f108
         go_wp2_with fail
         refine (KY.out _ _ hV (HLM.out.trans leX) (DutsL.le HDS.out leX)).mono ?_
         rintro e W2 ⟨v, m2, rfl, hE2, hM2, hV2, h⟩
         go_wp2_with fail
         refine One2.call hE2 hM2 hV2 ?_; first | exact h | exact rfl
        ·intro vs W1 m1 hE hM hV hD; obtain ⟨⟨_, _, -, i109, f109⟩, -⟩ := hD; have f109 : EntL _ (vs 109) (vecF x (opF ds)) := f109; replace f109 := f109.le i109.le; clear i109
         (obtain ⟨A9, c9, e9, -, f9⟩ := f109.lit; generalize vs 109 = x9 at e9 ⊢; subst x9; go_wp2_with fail; exact one2_s1 hV fun m' h => ⟨_, _, _, rfl, EntL.le f9 h.le⟩)
       case l24 =>
        refine ⟨nF, nF, nF, nF, nF, nF, nF, trivial⟩
       intro vs W1 m1 hE hM hV hF hD
       clear hD
       obtain ⟨-, ⟨_, _, -, -, f105⟩, -, -, -, ⟨_, _, -, i109, f109⟩, ⟨_, _, j110, i110, f110⟩, -⟩ := hF
       replace hL := hL.call hE hM hV
       have f105 : vs 105 = _ := f105
       generalize vs 105 = x105 at f105 ⊢
       subst x105
       replace f109 : EntL _ (vs 109) (vecF x (opF ds)) := f109
       replace f109 := f109.le i109.le
       clear i109
       clear hE hV
       obtain ⟨g15, cs15, e15, q15, f15⟩ := f110
       generalize vs 110 = x15 at e15 ⊢
       subst x15
       replace q15 := q15.ext j110
       have f16 : VecO _ (.agg cs15) (vecF x (opF ds)) := f15
       replace f16 := f16.le i110.le
       clear f15 i110 j110
       obtain ⟨A9, n9, c9, e9, f16⟩ := f16
       injection e9 with e9
       subst e9
       simp only [List.drop_succ_cons, List.drop_zero]
       obtain ⟨vs7, r7, z7, y7, l7⟩ := ROWB.out
       refine wl_append (A := _ :: _ :: _ :: _ :: (R2 ++ Rp)) hL r7 (wanted_none rfl) rfl ap_Vecs (by omega) rfl rfl (news := [.slice A9 n9 c9]) rfl (Blk.sl q15 (n := 1) rfl) rfl (by omega) (by omega) ?_
       clear hL
       intro vq Wq mq Rq hL r8 e8
       obtain ⟨Aq, cq, rfl, -⟩ := r8.lit
       simp only [List.cons_append, List.nil_append] at hL
       have rd := RowA.snocV (R := EntL) (m := mq) (x := (vecF x (opF ds))) r8 z7 (y7.mono fun v x hv => EntL.le hv (leX : Le mp mq)) l7 rfl rfl (EntL.le f16 e8.le)
       have NROWB := Lib.hid rd
       have NROWC := Lib.hid (RowA.le FracC.mono ROWC.out (leX : Le mp mq))
       have NROWA := Lib.hid (RowA.le FracC.mono ROWA.out (leX : Le mp mq))
       clear rd r8 r7 z7 y7 l7 ROWC ROWA ROWB q15 f16 
       have ROWC := NROWC
       have ROWA := NROWA
       have ROWB := NROWB
       clear NROWC NROWA NROWB
       simp only [Act.put, zq1, zq2, zq3]
       go_wp2_with (first | go_skip | refine tP ?_ | (refine tS ?_; clear hL; intro _ hL) | (refine tB ?_; clear hL; intro _ _ hL _) | (refine tC ?_; clear hL; intro _ _ hL _ hBs))
       refine QN.mk ?_
       replace hL := hL.rot4
       go_wp2_with (first | go_skip | refine tP ?_ | (refine tS ?_; clear hL; intro _ hL) | (refine tB ?_; clear hL; intro _ _ hL _) | (refine tC ?_; clear hL; intro _ _ hL _ hBs))
       go_roundw
       case rel => exact ⟨j + 1, _, _, _, _, _, _, _, _, _, _, by omega, by go_num, hL.tail, by show RowA _ _ _ _ _ _ _ _; rw [HS.out.1]; exact ROWA.out, by show RowA _ _ _ _ _ _ _ _; rw [HS.out.2.1]; exact ROWB.out, by show RowA _ _ _ _ _ _ _ _; rw [HS.out.2.2]; exact ROWC.out⟩
       case measure => simp [intOf] <;> omega
      ·have hin : nc = j := by omega
       subst hin
       have h9 : (nc : Int) ≤ (nc : Int) := Int.le_refl _
       go_wp2_with (first | go_skip | refine tP ?_ | (refine tS ?_; clear hL; intro _ hL) | (refine tB ?_; clear hL; intro _ _ hL _) | (refine tC ?_; clear hL; intro _ _ hL _ hBs))
       obtain ⟨ma, hLa, hlea, hra, -⟩ := RowA.show (A := _ :: _ :: _ :: (R0 ++ R1)) FracC.mono hL ROWC.out
       obtain ⟨mb, hLb, hleb, hrb, -⟩ := RowA.show (A := _ :: _ :: _ :: R0) EntL.mono hLa (RowA.le EntL.mono ROWB.out hlea)
       obtain ⟨mc, hLc, hlec, hrc, -⟩ := RowA.show (A := _ :: _ :: _ :: []) FracC.mono hLb (RowA.le FracC.mono ROWA.out (hlea.trans hleb))
       clear hL hLa hLb
       have hL := hLc
       clear hLc
       have HLP : Hid (LPR mc (.agg #[.slice A0 (nr + nk + nc) c0, .slice A1 (nr + nk + nc) c1, .slice A2 (nr + nk) c2]) (lpF x)) := by
        show LPR _ _ _
        rw [HFIN.out]
        exact ⟨_, _, _, rfl, hrc, VecL.le hrb hlec, FracL.le hra (hleb.trans hlec)⟩
       clear hra hrb hrc ROWA ROWB ROWC
       refine fin_lp hL Tryz.results7 rfl rfl loX ag_LP (by exact rfl) rfl (hL.sub (List.nil_sublist _)) ?_
       exact ⟨_, rfl, HLP.out⟩
end Go.Proofs.YtabmjadcoepbeaaGreat

/- Contract of pairingref27.Program for valid master problems (printed by genAR4.py). -/
namespace Go.Proofs.YtabmjadcoepbeaaGreat
open Go.RowKit

theorem wp_region_via {P : Program} {Q : Exit → Act → World → Prop} {id : Nat} {ops : Array Oper} {dr : Bool} {a : Act} {w : World} (D : Act → Act → World → Prop) (h1 : ∀ Q : Exit → Act → World → Prop, (∀ a' w', D a a' w' → Q .normal a' w') → (Code.region id ops dr).wp P Q a w) (h2 : ∀ a' w', D a a' w' → Q .normal a' w') : (Code.region id ops dr).wp P Q a w := h1 Q h2

theorem r_Program (mv : Value) (x : Ms) (w m : World) (hV : Vw m w) (hm : MasterR m mv x) (ok : MsOk x) (h6 : x.rows.length ≤ 6) :
  Calls Tryz.prog 8 #[mv] w (RetV w m fun m' r => ∃ v, r = .tuple #[v, .int .i64 0] ∧ LPR m' v (lpF x)) := by
 have hm0 := hm
 obtain ⟨va, vb, vc, rfl, ha, hb, hc⟩ := hm
 obtain ⟨A, ca, rfl, hca, ha⟩ := ha.lit
 obtain ⟨B, cb, rfl, hcb, hb⟩ := hb.lit
 obtain ⟨C, cc, rfl, hcc, hc⟩ := hc.lit
 have KV : Hid (∀ w m', Vw m' w → Le m m' → Calls Tryz.prog 12 #[.agg #[.int .i64 x.nf, .slice A x.rows.length ca, .int .i64 x.pen, .slice B x.cols.length cb, .slice C x.cuts.length cc]] w (RetV w m' fun _ r => r = .int .i64 0)) := by
  show ∀ w m', _
  exact fun w m' hV hle => r_ValidateMaster _ x w m' hV (hm0.le hle) ok
 obtain ⟨f0, f1, p0, p1, r0, r1, o1, o2, k1, o3, k2, o4⟩ := ok
 have HA := Lib.hid ha
 have HB := Lib.hid hb
 have HC := Lib.hid hc
 have HCO : Hid (∀ c ∈ x.cols, ColOk x.rows c) := o3
 have HCU : Hid (∀ c ∈ x.cuts, CutOk x.rows c) := o4
 have HK0 : Hid (lpK x 0 = lpR x x.rows.length) := lpK_zero x
 have HC0 : Hid (lpC x 0 = lpK x x.cuts.length) := lpC_zero x
 have HFIN : Hid (lpF x = lpC x x.cols.length) := rfl
 have HSR : Hid (∀ i, (lpR x (i + 1)).cost = (lpR x i).cost ++ [(x.pen : Rat)] ∧ (lpR x (i + 1)).cols = (lpR x i).cols ++ [[((i : Int), ((1 : Int) : Rat))]] ∧ (lpR x (i + 1)).right = (lpR x i).right ++ [((1 : Int) : Rat)]) := lpR_step x
 have HSK : Hid (∀ (k : Nat) (c : Cut), x.cuts[k]? = some c → (lpK x (k + 1)).cost = (lpK x k).cost ++ [((0 : Int) : Rat)] ∧ (lpK x (k + 1)).cols = (lpK x k).cols ++ [[(((x.rows.length : Int) + k : Int), ((1 : Int) : Rat))]] ∧ (lpK x (k + 1)).right = (lpK x k).right ++ [((quoF c : Int) : Rat)]) := fun _ _ => lpK_step x
 have HSC : Hid (∀ (j : Nat) (c : Col), x.cols[j]? = some c → (lpC x (j + 1)).cost = (lpC x j).cost ++ [((c.2.2 : Int) : Rat)] ∧ (lpC x (j + 1)).cols = (lpC x j).cols ++ [vecF x (opF c.2.1)] ∧ (lpC x (j + 1)).right = (lpC x j).right) := fun _ _ => lpC_step x
 have HVF : Hid (∀ l, rowV x.rows l x.rows.length ++ cutV x.rows.length x.cuts l x.cuts.length = vecF x l) := fun _ => rfl
 have hL := Loc.start hV
 clear hV hm0 ha hb hc o1 o2 o3 o4 f0 f1 hca hcb hcc r0
 generalize x.nf = nf at *
 generalize x.pen = pen at *
 generalize hnr : x.rows.length = nr at *
 have HNR := Lib.hid hnr
 generalize hnk : x.cuts.length = nk at *
 have HNK := Lib.hid hnk
 generalize hnc : x.cols.length = nc at *
 have HNC := Lib.hid hnc
 clear hnr hnk hnc
 go_enter Tryz.func8, Tryz.ntmps8
 go_upto_region 0 with (fail)
 refine wp_region_lit ?_
 refine t_box hL rfl rfl ?_; clear hL; intro Wh1 mh1 hL eh1; simp only [Act.put, zq1, zq2, zq3]
 refine t_alloc hL rfl ?_; clear hL; intro Wh2 mh2 hL eh2; simp only [Act.put, zq1, zq2, zq3]
 go_wp2_with (first | go_skip | refine tP ?_ | (refine tS ?_; clear hL; intro _ hL) | (refine tB ?_; clear hL; intro _ _ hL _) | (refine tC ?_; clear hL; intro _ _ hL _ hBs))
 refine (KV.out _ _ hL.vw leX).mono ?_
 rintro e Wc1 ⟨_, mc1, rfl, hE, hMc1, hV, rfl⟩
 replace hL := hL.call hE (by assumption) hV; clear hE hV
 go_upto_region 5 with ((first | go_skip | refine tP ?_ | (refine tS ?_; clear hL; intro _ hL) | (refine tB ?_; clear hL; intro _ _ hL _) | (refine tC ?_; clear hL; intro _ _ hL _ hBs)))
 refine wp_region_via (fun a a' W2 => ∃ (g0 : Nat) (m5 : World) (g1 : Bool) (A1' : Option Addr) (n1 c1' : Nat) (f1 : Bool) (B1' : Option Addr) (k1 d1 : Nat), a' = ((((((a.put (some 23) (.pointer (some ⟨w.heap.size, 1, none⟩))).put (some 24) (.slice A nr ca)).put (some 25) (.int .i64 (nr : Int))).put (some 22) (.agg #[.bool g1, .slice A1' n1 c1', .bool f1, .slice B1' k1 d1])).put (some 6) (.pointer (some ⟨g0, 0, none⟩))).put (some 7) (.int .i64 (nr : Int))) ∧ Loc w m W2 m5 ((Wc1.heap.size, 31, #[.slice none 0 0, .slice none 0 0, .slice none 0 0]) :: (g0, 55, #[.bool g1, .slice A1' n1 c1', .bool f1, .slice B1' k1 d1]) :: (Wh1.heap.size, 31, #[.slice none 0 0, .slice none 0 0, .slice none 0 0]) :: [(w.heap.size, 26, #[.int .i64 nf, .slice A nr ca, .int .i64 pen, .slice B nc cb, .slice C nk cc])]) ∧ Hid (FracC m5 (.agg #[.bool g1, .slice A1' n1 c1', .bool f1, .slice B1' k1 d1]) ((1 : Int) : Rat))) ?_ ?_
 ·intro Q9 hQ9
  refine wp_region_L 6 (fun w' => Blk w' w.heap.size 26 #[.int .i64 nf, .slice A nr ca, .int .i64 pen, .slice B nc cb, .slice C nk cc]) (by kernel_rfl) ?_
  have hL9 := hL.drew
  clear hL
  have hL := hL9
  clear hL9
  refine wpL_take 1 1 (v := ?_) rfl (by kernel_rfl) (fun _ _ _ h => h) (hL.at_ lo2) (by rfl) ?yld ?_
  case yld => (intro w' hSw; obtain ⟨s1, s2, s3, s4, s5, s6, s7, s8, s9, s10⟩ := hSw.facts5; go_simp; try with_reducible rfl)
  simp only [List.getElem_toArray, List.getElem_cons_succ, List.getElem_cons_zero, Act.put, zq1, zq2, zq3]
  refine wpL_take 2 2 (v := ?_) rfl (by kernel_rfl) (fun _ _ _ h => h) (hL.at_ lo2) (by rfl) ?yld ?_
  case yld => (intro w' hSw; obtain ⟨s1, s2, s3, s4, s5, s6, s7, s8, s9, s10⟩ := hSw.facts5; go_simp; try with_reducible rfl)
  simp only [List.getElem_toArray, List.getElem_cons_succ, List.getElem_cons_zero, Act.put, zq1, zq2, zq3]
  refine wpL_take 3 3 (v := ?_) rfl (by kernel_rfl) (fun _ _ _ h => h) (hL.at_ lo2) (by rfl) ?yld ?_
  case yld => (intro w' hSw; obtain ⟨s1, s2, s3, s4, s5, s6, s7, s8, s9, s10⟩ := hSw.facts5; go_simp; try with_reducible rfl)
  simp only [List.getElem_toArray, List.getElem_cons_succ, List.getElem_cons_zero, Act.put, zq1, zq2, zq3]
  refine wpL_two 0 4 (by kernel_rfl) rfl rfl ?_ ?_
  ·go_wp2_with (first | go_skip | refine tP ?_ | (refine tS ?_; clear hL; intro _ hL) | (refine tB ?_; clear hL; intro _ _ hL _) | (refine tC ?_; clear hL; intro _ _ hL _ hBs))
   refine (r_Int 1 _ _ hL.vw (by decide) (by decide)).mono ?_
   rintro e Wq1 ⟨vq1, mq1, rfl, hE, hMq1, hV, hq1⟩
   replace hL := hL.call hE (by assumption) hV; clear hE hV
   obtain ⟨gq1', Aq1', nq1', cq1', hq1', Bq1', kq1', dq1', rfl, hq1⟩ := hq1.lit
   go_wp2_with (first | go_skip | refine tP ?_ | (refine tS ?_; clear hL; intro _ hL) | (refine tB ?_; clear hL; intro _ _ hL _) | (refine tC ?_; clear hL; intro _ _ hL _ hBs))
   refine StepL.mk (S := fun w' => Blk w' w.heap.size 26 #[.int .i64 nf, .slice A nr ca, .int .i64 pen, .slice B nc cb, .slice C nk cc]) (hL.at_ lo2) ?_
   refine wpL_one 4 (by kernel_rfl) rfl ?_
   go_wp2_with (first | go_skip | refine tP ?_ | (refine tS ?_; clear hL; intro _ hL) | (refine tB ?_; clear hL; intro _ _ hL _) | (refine tC ?_; clear hL; intro _ _ hL _ hBs))
   refine StepL.mk (S := fun w' => Blk w' w.heap.size 26 #[.int .i64 nf, .slice A nr ca, .int .i64 pen, .slice B nc cb, .slice C nk cc]) (hL.at_ lo3) ?_
   refine wpL_one 5 (by kernel_rfl) rfl ?_
   go_wp2_with (first | go_skip | refine tP ?_ | (refine tS ?_; clear hL; intro _ hL) | (refine tB ?_; clear hL; intro _ _ hL _) | (refine tC ?_; clear hL; intro _ _ hL _ hBs))
   refine StepL.mk (S := fun w' => Blk w' w.heap.size 26 #[.int .i64 nf, .slice A nr ca, .int .i64 pen, .slice B nc cb, .slice C nk cc]) (hL.at_ lo3) ?_
   refine wpL_one 6 (by kernel_rfl) rfl ?_
   go_wp2_with (first | go_skip | refine tP ?_ | (refine tS ?_; clear hL; intro _ hL) | (refine tB ?_; clear hL; intro _ _ hL _) | (refine tC ?_; clear hL; intro _ _ hL _ hBs))
   refine StepL.mkL (by kernel_rfl) ?_
   refine wpL_done (by kernel_rfl) ?_ _
   refine NoPanic.normal ?_
   exact hQ9 _ _ ⟨_, _, _, _, _, _, _, _, _, _, (by simp only [Act.put, zq1, zq2, zq3]), hL.perm (List.Perm.swap _ _ _), hq1.le leX⟩
  ·have hdr : ∀ W : World, W.drew.heap = W.heap := fun _ => rfl
   go_wp2_with (first | go_skip | refine tP ?_ | (refine tS ?_; clear hL; intro _ hL) | (refine tB ?_; clear hL; intro _ _ hL _) | (refine tC ?_; clear hL; intro _ _ hL _ hBs))
   simp only [hdr] at hL
   refine StepL.mk (S := fun w' => Blk w' w.heap.size 26 #[.int .i64 nf, .slice A nr ca, .int .i64 pen, .slice B nc cb, .slice C nk cc]) (hL.at_ lo3) ?_
   refine wpL_one 0 (by kernel_rfl) rfl ?_
   go_wp2_with (first | go_skip | refine tP ?_ | (refine tS ?_; clear hL; intro _ hL) | (refine tB ?_; clear hL; intro _ _ hL _) | (refine tC ?_; clear hL; intro _ _ hL _ hBs))
   refine (r_Int 1 _ _ hL.vw (by decide) (by decide)).mono ?_
   rintro e Wq2 ⟨vq2, mq2, rfl, hE, hMq2, hV, hq2⟩
   replace hL := hL.call hE (by assumption) hV; clear hE hV
   obtain ⟨gq2', Aq2', nq2', cq2', hq2', Bq2', kq2', dq2', rfl, hq2⟩ := hq2.lit
   go_wp2_with (first | go_skip | refine tP ?_ | (refine tS ?_; clear hL; intro _ hL) | (refine tB ?_; clear hL; intro _ _ hL _) | (refine tC ?_; clear hL; intro _ _ hL _ hBs))
   refine StepL.mk (S := fun w' => Blk w' w.heap.size 26 #[.int .i64 nf, .slice A nr ca, .int .i64 pen, .slice B nc cb, .slice C nk cc]) (hL.at_ lo3) ?_
   refine wpL_one 5 (by kernel_rfl) rfl ?_
   go_wp2_with (first | go_skip | refine tP ?_ | (refine tS ?_; clear hL; intro _ hL) | (refine tB ?_; clear hL; intro _ _ hL _) | (refine tC ?_; clear hL; intro _ _ hL _ hBs))
   refine StepL.mk (S := fun w' => Blk w' w.heap.size 26 #[.int .i64 nf, .slice A nr ca, .int .i64 pen, .slice B nc cb, .slice C nk cc]) (hL.at_ lo3) ?_
   refine wpL_one 6 (by kernel_rfl) rfl ?_
   go_wp2_with (first | go_skip | refine tP ?_ | (refine tS ?_; clear hL; intro _ hL) | (refine tB ?_; clear hL; intro _ _ hL _) | (refine tC ?_; clear hL; intro _ _ hL _ hBs))
   refine StepL.mkL (by kernel_rfl) ?_
   refine wpL_done (by kernel_rfl) ?_ _
   refine NoPanic.normal ?_
   exact hQ9 _ _ ⟨_, _, _, _, _, _, _, _, _, _, (by simp only [Act.put, zq1, zq2, zq3]), hL.perm (List.Perm.swap _ _ _), hq2.le leX⟩
 ·rintro a9 W9 ⟨g0, m5, g1, A1', n1, c1', f1, B1', k1, d1, rfl, hL9, HONE⟩
  have hX9 : Ext m m5 := hL9.mext
  clear hL
  have hL := hL9
  clear hL9
  simp only [Act.put, zq1, zq2, zq3]
  go_wp2_with (first | go_skip | refine tP ?_ | (refine tS ?_; clear hL; intro _ hL) | (refine tB ?_; clear hL; intro _ _ hL _) | (refine tC ?_; clear hL; intro _ _ hL _ hBs))
  go_loopw [8] (fun iv wr => ∃ (i : Nat) (mm : World) (A0 A1 A2 : Option Addr) (c0 c1 c2 : Nat) (R0 R1 R2 : List Lo), i ≤ nr ∧ iv = .int .i64 (i : Int) ∧ Loc w m wr mm ((Wc1.heap.size, 31, #[.slice A0 (i) c0, .slice A1 (i) c1, .slice A2 (i) c2]) :: (g0, 55, #[.bool g1, .slice A1' n1 c1', .bool f1, .slice B1' k1 d1]) :: (Wh1.heap.size, 31, #[.slice none 0 0, .slice none 0 0, .slice none 0 0]) :: (w.heap.size, 26, #[.int .i64 nf, .slice A nr ca, .int .i64 pen, .slice B nc cb, .slice C nk cc]) :: ((R0 ++ R1) ++ R2)) ∧ Hid (RowA 55 4 FracC mm (.slice A0 (i) c0) (i) (lpR x i).cost R0) ∧ Hid (RowA 73 1 EntL mm (.slice A1 (i) c1) (i) (lpR x i).cols R1) ∧ Hid (RowA 55 4 FracC mm (.slice A2 (i) c2) (i) (lpR x i).right R2) ∧ Hid (Le m5 mm)) (fun iv _ => nr - (intOf iv).toNat)
  case atStart => exact ⟨0, _, none, none, none, 0, 0, 0, [], [], [], Nat.zero_le _, rfl, hL, RowA.nil, RowA.nil, RowA.nil, Le.refl _⟩
  case round =>
   clear hL
   obtain ⟨i, mm, A0, A1, A2, c0, c1, c2, R0, R1, R2, hi, rfl, hL, ROWA, ROWB, ROWC, HXM⟩ := hrel
   have hir : i ≤ 32 := by omega
   have hXM := HXM.out
   by_cases hlt : i < nr
   ·have hlt' : (i : Int) < (nr : Int) := by omega
    have HS := Lib.hid (HSR.out i)
    go_wp2_with (first | go_skip | refine tP ?_ | (refine tS ?_; clear hL; intro _ hL) | (refine tB ?_; clear hL; intro _ _ hL _) | (refine tC ?_; clear hL; intro _ _ hL _ hBs))
    refine goA ?_
    obtain ⟨vs7, r7, z7, y7, l7⟩ := ROWC.out
    refine wl_append (A := _ :: _ :: _ :: _ :: (R0 ++ R1)) hL r7 (wanted_none rfl) rfl ap_Fracs (by omega) rfl rfl (news := [.bool g1, .slice A1' n1 c1', .bool f1, .slice B1' k1 d1]) rfl ((Blk.sl hBs (n := 4) rfl).le hL.vw.le) rfl (by omega) (by omega) ?_
    clear hL
    intro vp Wp mp Rp hL r8 e8
    obtain ⟨Ap, cp, rfl, -⟩ := r8.lit
    simp only [List.cons_append, List.nil_append] at hL
    have rd := RowA.snoc (R := FracC) (m := mp) (x := ((1 : Int) : Rat)) r8 z7 (y7.mono fun v x hv => hv.le (leX : Le mm mp)) l7 rfl (HONE.out.le (HXM.out.trans leX))
    have NROWC := Lib.hid rd
    have NROWA := Lib.hid (RowA.le FracC.mono ROWA.out (leX : Le mm mp))
    have NROWB := Lib.hid (RowA.le EntL.mono ROWB.out (leX : Le mm mp))
    clear rd r8 r7 z7 y7 l7 ROWA ROWB ROWC 
    have ROWA := NROWA
    have ROWB := NROWB
    have ROWC := NROWC
    clear NROWA NROWB NROWC
    simp only [Act.put, zq1, zq2, zq3]
    go_wp2_with (first | go_skip | refine tP ?_ | (refine tS ?_; clear hL; intro _ hL) | (refine tB ?_; clear hL; intro _ _ hL _) | (refine tC ?_; clear hL; intro _ _ hL _ hBs))
    replace hL := hL.rot4
    have HXP : Hid (Le m5 mp) := hXM.trans (leX : Le mm mp)
    go_upto_region 10 with ((first | go_skip | refine tP ?_ | (refine tS ?_; clear hL; intro _ hL) | (refine tB ?_; clear hL; intro _ _ hL _) | (refine tC ?_; clear hL; intro _ _ hL _ hBs)))
    (try simp only [eq_self] at *)
    refine wp_region_by2 6 [false, false, false, false, false, false] [false, false, false, false, false, false] [(fun v _ _ => v = ?c10_0), (fun v _ _ => v = ?c10_1), (fun v _ _ => v = ?c10_2), (fun v _ _ => v = ?c10_3), Of (fun um v => FracC um v (pen : Rat)), (NewS1 55 (fun um v => FracC um v (pen : Rat)))] hL.vw mixed [37, 38, 39, 40, 41, 42] _ (by kernel_rfl) (fun vs => by simp only [lay, Act.put, zq1, zq2, zq3]; rfl) (by kernel_rfl) (by decide) (by decide) ?s10 ?l10 ?r10
    case s10 =>
     refine ⟨?_, ?_, ?_, ?_, ?_, ?_, trivial⟩
     ·intro vs W1 m1 hE hM hV hD; clear hD
      exact sFe
     ·intro vs W1 m1 hE hM hV hD; obtain ⟨⟨_, _, -, -, f37⟩, -⟩ := hD
      rw [(f37 : vs 37 = _)]; clear f37; exact sLe
     ·intro vs W1 m1 hE hM hV hD; clear hD
      exact sFe
     ·intro vs W1 m1 hE hM hV hD; obtain ⟨⟨_, _, -, -, f39⟩, -⟩ := hD
      rw [(f39 : vs 39 = _)]; clear f39; exact sLe
     ·intro vs W1 m1 hE hM hV hD; obtain ⟨⟨_, _, -, -, f40⟩, -⟩ := hD
      rw [(f40 : vs 40 = _)]
      clear f40
      go_wp2_with fail
      refine (r_Int pen _ _ hV (by omega) (by omega)).mono ?_
      rintro e W2 ⟨v, m2, rfl, hE2, hM2, hV2, h⟩
      go_wp2_with fail
      refine One2.call hE2 hM2 hV2 ?_; first | exact h | exact rfl
     ·intro vs W1 m1 hE hM hV hD; obtain ⟨⟨_, _, -, i41, f41⟩, -⟩ := hD; have f41 : FracC _ (vs 41) (pen : Rat) := f41; replace f41 := f41.le i41.le; clear i41
      (obtain ⟨g9, A9, n9, c9, h9, B9, k9, d9, e9, f9⟩ := f41.lit; generalize vs 41 = x9 at e9 ⊢; subst x9; go_wp2_with fail; exact one2_s1 hV fun m' h => f9.le h.le)
    case l10 =>
     refine ⟨nF, nF, nF, nF, nF, nF, trivial⟩
    intro vs W1 m1 hE hM hV hF hD
    clear hD
    obtain ⟨-, ⟨_, _, -, -, f38⟩, -, -, ⟨_, _, -, i41, f41⟩, ⟨_, _, j42, i42, f42⟩, -⟩ := hF
    replace hL := hL.call hE hM hV
    have f38 : vs 38 = _ := f38
    generalize vs 38 = x38 at f38 ⊢
    subst x38
    replace f41 : FracC _ (vs 41) (pen : Rat) := f41
    replace f41 := f41.le i41.le
    clear i41
    clear hE hV
    obtain ⟨g15, cs15, e15, q15, f15⟩ := f42
    generalize vs 42 = x15 at e15 ⊢
    subst x15
    replace q15 := q15.ext j42
    have f16 : FracC _ (.agg cs15) (pen : Rat) := f15
    replace f16 := f16.le i42.le
    clear f15 i42 j42
    obtain ⟨g9, A9, n9, c9, h9, B9, k9, d9, e9, f16⟩ := f16.lit
    injection e9 with e9
    subst e9
    simp only [List.drop_succ_cons, List.drop_zero]
    obtain ⟨vs7, r7, z7, y7, l7⟩ := ROWA.out
    refine wl_append (A := _ :: _ :: _ :: _ :: (R1 ++ Rp)) hL r7 (wanted_none rfl) rfl ap_Fracs (by omega) rfl rfl (news := [.bool g9, .slice A9 n9 c9, .bool h9, .slice B9 k9 d9]) rfl (Blk.sl q15 (n := 4) rfl) rfl (by omega) (by omega) ?_
    clear hL
    intro vq Wq mq Rq hL r8 e8
    obtain ⟨Aq, cq, rfl, -⟩ := r8.lit
    simp only [List.cons_append, List.nil_append] at hL
    have rd := RowA.snoc (R := FracC) (m := mq) (x := (pen : Rat)) r8 z7 (y7.mono fun v x hv => hv.le (leX : Le mp mq)) l7 rfl (f16.le e8.le)
    have NROWA := Lib.hid rd
    have NROWB := Lib.hid (RowA.le EntL.mono ROWB.out (leX : Le mp mq))
    have NROWC := Lib.hid (RowA.le FracC.mono ROWC.out (leX : Le mp mq))
    clear rd r8 r7 z7 y7 l7 ROWB ROWC ROWA q15 f16 
    have ROWB := NROWB
    have ROWC := NROWC
    have ROWA := NROWA
    clear NROWB NROWC NROWA
    simp only [Act.put, zq1, zq2, zq3]
    go_wp2_with (first | go_skip | refine tP ?_ | (refine tS ?_; clear hL; intro _ hL) | (refine tB ?_; clear hL; intro _ _ hL _) | (refine tC ?_; clear hL; intro _ _ hL _ hBs))
    refine QN.mk ?_
    replace hL := hL.rot4
    go_wp2_with (first | go_skip | refine tP ?_ | (refine tS ?_; clear hL; intro _ hL) | (refine tB ?_; clear hL; intro _ _ hL _) | (refine tC ?_; clear hL; intro _ _ hL _ hBs))
    refine goA ?_
    have hB1 := (by assumption : Blk _ _ 71 #[.int .i64 (i : Int), .bool g1, .slice A1' n1 c1', .bool f1, .slice B1' k1 d1])
    have HENT := Lib.hid (EntL.one hB1 (HONE.out.le (HXM.out.trans leX)))
    clear hB1
    obtain ⟨vs7, r7, z7, y7, l7⟩ := ROWB.out
    refine wl_append (A := _ :: _ :: _ :: _ :: (Rp ++ Rq)) hL r7 (wanted_none rfl) rfl ap_Vecs (by omega) rfl rfl (news := [_]) rfl ((Blk.sl hBs (n := 1) rfl).le hL.vw.le) rfl (by omega) (by omega) ?_
    clear hL
    intro vr Wr mr Rr hL r8 e8
    obtain ⟨Ar, cr, rfl, -⟩ := r8.lit
    simp only [List.cons_append, List.nil_append] at hL
    have rd := RowA.snocV (R := EntL) (m := mr) (x := [((i : Int), ((1 : Int) : Rat))]) r8 z7 (y7.mono fun v x hv => EntL.le hv (leX : Le mq mr)) l7 rfl rfl (EntL.le HENT.out leX)
    have NROWB := Lib.hid rd
    have NROWC := Lib.hid (RowA.le FracC.mono ROWC.out (leX : Le mq mr))
    have NROWA := Lib.hid (RowA.le FracC.mono ROWA.out (leX : Le mq mr))
    clear rd r8 r7 z7 y7 l7 ROWC ROWA ROWB 
    have ROWC := NROWC
    have ROWA := NROWA
    have ROWB := NROWB
    clear NROWC NROWA NROWB
    simp only [Act.put, zq1, zq2, zq3]
    go_wp2_with (first | go_skip | refine tP ?_ | (refine tS ?_; clear hL; intro _ hL) | (refine tB ?_; clear hL; intro _ _ hL _) | (refine tC ?_; clear hL; intro _ _ hL _ hBs))
    replace hL := hL.rot4
    have HXR : Hid (Le m5 mr) := hXM.trans (leX : Le mm mr)
    go_roundw
    case rel => exact ⟨i + 1, _, _, _, _, _, _, _, _, _, _, by omega, by go_num, hL, by show RowA _ _ _ _ _ _ _ _; rw [HS.out.1]; exact ROWA.out, by show RowA _ _ _ _ _ _ _ _; rw [HS.out.2.1]; exact ROWB.out, by show RowA _ _ _ _ _ _ _ _; rw [HS.out.2.2]; exact ROWC.out, HXR.out⟩
    case measure => simp [intOf] <;> omega
   ·have hin : nr = i := by omega
    subst hin
    have h9 : (nr : Int) ≤ (nr : Int) := Int.le_refl _
    rw [← HK0.out] at ROWA ROWB ROWC
    clear HK0 HSR hlt hXM
    go_wp2_with (first | go_skip | refine tP ?_ | (refine tS ?_; clear hL; intro _ hL) | (refine tB ?_; clear hL; intro _ _ hL _) | (refine tC ?_; clear hL; intro _ _ hL _ hBs))
    clear h9 hi
    go_loopw [9] (fun iv wr => ∃ (k : Nat) (mm : World) (A0 A1 A2 : Option Addr) (c0 c1 c2 : Nat) (R0 R1 R2 : List Lo), k ≤ nk ∧ iv = .int .i64 (k : Int) ∧ Loc w m wr mm ((Wc1.heap.size, 31, #[.slice A0 (nr + k) c0, .slice A1 (nr + k) c1, .slice A2 (nr + k) c2]) :: (g0, 55, #[.bool g1, .slice A1' n1 c1', .bool f1, .slice B1' k1 d1]) :: (Wh1.heap.size, 31, #[.slice none 0 0, .slice none 0 0, .slice none 0 0]) :: (w.heap.size, 26, #[.int .i64 nf, .slice A nr ca, .int .i64 pen, .slice B nc cb, .slice C nk cc]) :: ((R0 ++ R1) ++ R2)) ∧ Hid (RowA 55 4 FracC mm (.slice A0 (nr + k) c0) (nr + k) (lpK x k).cost R0) ∧ Hid (RowA 73 1 EntL mm (.slice A1 (nr + k) c1) (nr + k) (lpK x k).cols R1) ∧ Hid (RowA 55 4 FracC mm (.slice A2 (nr + k) c2) (nr + k) (lpK x k).right R2) ∧ Hid (Le m5 mm)) (fun iv _ => nk - (intOf iv).toNat)
    case atStart => exact ⟨0, _, A0, A1, A2, c0, c1, c2, R0, R1, R2, Nat.zero_le _, rfl, hL, ROWA.out, ROWB.out, ROWC.out, HXM.out⟩
    case round =>
     clear hL ROWA ROWB ROWC HXM
     obtain ⟨k, mm, A0, A1, A2, c0, c1, c2, R0, R1, R2, hk, rfl, hL, ROWA, ROWB, ROWC, HXM⟩ := hrel
     have HLM : Hid (Le m mm) := hL.mext.le
     have hXM := HXM.out
     have hkr : k ≤ 32 := by omega
     by_cases hlt : k < nk
     ·have hlt' : (k : Int) < (nk : Int) := by omega
      obtain ⟨⟨cr, dv⟩, hx⟩ := at_some HNK hlt
      have hcu := CutL.le HC.out HLM.out
      obtain ⟨b1, o1, D1, dd1, e1, -, hr1⟩ := CutL.at_' hcu hx
      subst e1
      have hco := HCU.out _ (List.mem_of_getElem? hx)
      have hdv : 2 ≤ dv := hco.two
      have hcl : cr.length ≤ 1000000 := hco.len
      have HS := Lib.hid (HSK.out k _ hx)
      simp only at hr1
      have hquo : quoF (cr, dv) = (cr.length : Int) / dv := rfl
      obtain ⟨hq0, hq1⟩ := quo_fit hdv hcl
      rw [hquo] at HS
      generalize cr.length = cl at *
      obtain ⟨z, hz⟩ : ∃ z, z = (cl : Int) / dv := ⟨_, rfl⟩
      have HQ : Hid (wrap64 ((cl : Int).tdiv dv) = z ∧ wrap64 ((cl : Int) / dv) = z ∧ (cl : Int).tdiv dv = z) := by show _ ∧ _; rw [hz]; exact quoE (by omega) hcl
      rw [← hz] at hq0 hq1 HS
      have hd0 : dv ≠ 0 := by omega
      obtain ⟨hr2, hr3⟩ := rangeAt_cells2 hr1
      clear hcu hco hx hquo hz hr1
      go_upto_region 15 with ((first | go_skip | refine tP ?_ | (refine tS ?_; clear hL; intro _ hL) | (refine tB ?_; clear hL; intro _ _ hL _) | (refine tC ?_; clear hL; intro _ _ hL _ hBs)))
      (try simp only [eq_self] at *)
      refine wp_region_by2 18 [false, false, false, false, false, false, false, false, false, false, false, false, false, false, false, false, false, false] [false, false, false, false, false, false, false, false, false, false, false, false, false, false, false, false, false, false] [(fun v _ _ => v = ?c15_0), (fun v _ _ => v = ?c15_1), (fun v _ _ => v = ?c15_2), (fun v _ _ => v = ?c15_3), (fun v _ _ => v = ?c15_4), (fun v _ _ => v = ?c15_5), (fun v _ _ => v = ?c15_6), (fun v _ _ => v = ?c15_7), (fun v _ _ => v = ?c15_8), (fun v _ _ => v = ?c15_9), (fun v _ _ => v = ?c15_10), (fun v _ _ => v = ?c15_11), (fun v _ _ => v = ?c15_12), (fun v _ _ => v = ?c15_13), (fun v _ _ => v = ?c15_14), Is (.int .i64 z), Of (fun um v => FracC um v (z : Rat)), (NewS1 55 (fun um v => FracC um v (z : Rat)))] hL.vw mixed [61, 62, 63, 64, 65, 66, 67, 68, 69, 70, 71, 72, 73, 74, 75, 76, 77, 78] _ (by kernel_rfl) (fun vs => by simp only [lay, Act.put, zq1, zq2, zq3]; rfl) (by kernel_rfl) (by decide) (by decide) ?s15 ?l15 ?r15
      case s15 =>
       refine ⟨?_, ?_, ?_, ?_, ?_, ?_, ?_, ?_, ?_, ?_, ?_, ?_, ?_, ?_, ?_, ?_, ?_, ?_, trivial⟩
       ·intro vs W1 m1 hE hM hV hD; clear hD
        exact sFe
       ·intro vs W1 m1 hE hM hV hD; obtain ⟨⟨_, _, -, -, f61⟩, -⟩ := hD
        rw [(f61 : vs 61 = _)]; clear f61; exact sLe
       ·intro vs W1 m1 hE hM hV hD; clear hD
        exact sFe
       ·intro vs W1 m1 hE hM hV hD; obtain ⟨⟨_, _, -, -, f63⟩, -⟩ := hD
        rw [(f63 : vs 63 = _)]; clear f63; exact sLe
       ·intro vs W1 m1 hE hM hV hD; clear hD
        exact sPw
       ·intro vs W1 m1 hE hM hV hD; obtain ⟨⟨_, _, -, -, f64⟩, ⟨_, _, -, -, f65⟩, -⟩ := hD
        rw [(f64 : vs 64 = _), (f65 : vs 65 = _)]; clear f64 f65; exact sIy
       ·intro vs W1 m1 hE hM hV hD; obtain ⟨⟨_, _, -, -, f66⟩, -⟩ := hD
        rw [(f66 : vs 66 = _)]; clear f66; exact sFe
       ·intro vs W1 m1 hE hM hV hD; obtain ⟨⟨_, _, -, -, f67⟩, -⟩ := hD
        rw [(f67 : vs 67 = _)]; clear f67; exact sLe
       ·intro vs W1 m1 hE hM hV hD; obtain ⟨⟨_, _, -, -, f68⟩, -⟩ := hD
        rw [(f68 : vs 68 = _)]
        clear f68
        replace hL := hL.call hE hM hV
        go_wp2_with (first | go_skip | refine tP ?_ | (refine tS ?_; clear hL; intro _ hL) | (refine tB ?_; clear hL; intro _ _ hL _) | (refine tC ?_; clear hL; intro _ _ hL _ hBs))
        refine One2.still hV ?_; exact rfl
       ·intro vs W1 m1 hE hM hV hD; clear hD
        exact sFe
       ·intro vs W1 m1 hE hM hV hD; obtain ⟨⟨_, _, -, -, f70⟩, -⟩ := hD
        rw [(f70 : vs 70 = _)]; clear f70; exact sLe
       ·intro vs W1 m1 hE hM hV hD; clear hD
        exact sPw
       ·intro vs W1 m1 hE hM hV hD; obtain ⟨⟨_, _, -, -, f71⟩, ⟨_, _, -, -, f72⟩, -⟩ := hD
        rw [(f71 : vs 71 = _), (f72 : vs 72 = _)]; clear f71 f72; exact sIy
       ·intro vs W1 m1 hE hM hV hD; obtain ⟨⟨_, _, -, -, f73⟩, -⟩ := hD
        rw [(f73 : vs 73 = _)]; clear f73; exact sFe
       ·intro vs W1 m1 hE hM hV hD; obtain ⟨⟨_, _, -, -, f74⟩, -⟩ := hD
        rw [(f74 : vs 74 = _)]; clear f74; exact sLe
       ·intro vs W1 m1 hE hM hV hD; obtain ⟨⟨_, _, -, -, f69⟩, ⟨_, _, -, -, f75⟩, -⟩ := hD
        rw [(f69 : vs 69 = _), (f75 : vs 75 = _)]
        clear f69 f75
        (replace hL := hL.call hE hM hV; go_wp2_with (first | go_skip | refine tP ?_ | (refine tS ?_; clear hL; intro _ hL) | (refine tB ?_; clear hL; intro _ _ hL _) | (refine tC ?_; clear hL; intro _ _ hL _ hBs)); refine One2.still hV ?_; show Value.int .i64 _ = Value.int .i64 z; first | with_reducible exact congrArg (Value.int .i64) HQ.out.2.1 | with_reducible exact congrArg (Value.int .i64) HQ.out.1 | with_reducible exact congrArg (Value.int .i64) HQ.out.2.2 | with_reducible exact rfl)
       ·intro vs W1 m1 hE hM hV hD; obtain ⟨⟨_, _, -, -, f76⟩, -⟩ := hD
        rw [(f76 : vs 76 = _)]
        clear f76
        go_wp2_with fail
        refine (r_Int z _ _ hV (by omega) (by omega)).mono ?_
        rintro e W2 ⟨v, m2, rfl, hE2, hM2, hV2, h⟩
        go_wp2_with fail
        refine One2.call hE2 hM2 hV2 ?_; first | exact h | exact rfl
       ·intro vs W1 m1 hE hM hV hD; obtain ⟨⟨_, _, -, i77, f77⟩, -⟩ := hD; have f77 : FracC _ (vs 77) (z : Rat) := f77; replace f77 := f77.le i77.le; clear i77
        (obtain ⟨g9, A9, n9, c9, h9, B9, k9, d9, e9, f9⟩ := f77.lit; generalize vs 77 = x9 at e9 ⊢; subst x9; go_wp2_with fail; exact one2_s1 hV fun m' h => f9.le h.le)
      case l15 =>
       refine ⟨nF, nF, nF, nF, nF, nF, nF, nF, nF, nF, nF, nF, nF, nF, nF, nF, nF, nF, trivial⟩
      intro vs W1 m1 hE hM hV hF hD
      clear hD
      obtain ⟨-, ⟨_, _, -, -, f62⟩, -, -, -, -, -, -, -, -, -, -, -, -, -, -, ⟨_, _, -, i77, f77⟩, ⟨_, _, j78, i78, f78⟩, -⟩ := hF
      replace hL := hL.call hE hM hV
      have f62 : vs 62 = _ := f62
      generalize vs 62 = x62 at f62 ⊢
      subst x62
      replace f77 : FracC _ (vs 77) (z : Rat) := f77
      replace f77 := f77.le i77.le
      clear i77
      clear hE hV
      obtain ⟨g15, cs15, e15, q15, f15⟩ := f78
      generalize vs 78 = x15 at e15 ⊢
      subst x15
      replace q15 := q15.ext j78
      have f16 : FracC _ (.agg cs15) (z : Rat) := f15
      replace f16 := f16.le i78.le
      clear f15 i78 j78
      obtain ⟨g9, A9, n9, c9, h9, B9, k9, d9, e9, f16⟩ := f16.lit
      injection e9 with e9
      subst e9
      simp only [List.drop_succ_cons, List.drop_zero]
      obtain ⟨vs7, r7, z7, y7, l7⟩ := ROWC.out
      refine wl_append (A := _ :: _ :: _ :: _ :: (R0 ++ R1)) hL r7 (wanted_none rfl) rfl ap_Fracs (by omega) rfl rfl (news := [.bool g9, .slice A9 n9 c9, .bool h9, .slice B9 k9 d9]) rfl (Blk.sl q15 (n := 4) rfl) rfl (by omega) (by omega) ?_
      clear hL
      intro vp Wp mp Rp hL r8 e8
      obtain ⟨Ap, cp, rfl, -⟩ := r8.lit
      simp only [List.cons_append, List.nil_append] at hL
      have rd := RowA.snoc (R := FracC) (m := mp) (x := (z : Rat)) r8 z7 (y7.mono fun v x hv => hv.le (leX : Le mm mp)) l7 rfl (f16.le e8.le)
      have NROWC := Lib.hid rd
      have NROWA := Lib.hid (RowA.le FracC.mono ROWA.out (leX : Le mm mp))
      have NROWB := Lib.hid (RowA.le EntL.mono ROWB.out (leX : Le mm mp))
      clear rd r8 r7 z7 y7 l7 ROWA ROWB ROWC q15 f16 
      have ROWA := NROWA
      have ROWB := NROWB
      have ROWC := NROWC
      clear NROWA NROWB NROWC
      simp only [Act.put, zq1, zq2, zq3]
      go_wp2_with (first | go_skip | refine tP ?_ | (refine tS ?_; clear hL; intro _ hL) | (refine tB ?_; clear hL; intro _ _ hL _) | (refine tC ?_; clear hL; intro _ _ hL _ hBs))
      refine QN.mk ?_
      replace hL := hL.rot4
      go_upto_region 16 with ((first | go_skip | refine tP ?_ | (refine tS ?_; clear hL; intro _ hL) | (refine tB ?_; clear hL; intro _ _ hL _) | (refine tC ?_; clear hL; intro _ _ hL _ hBs)))
      (try simp only [eq_self] at *)
      refine wp_region_by2 4 [false, false, false, false] [false, false, false, false] [(fun v _ _ => v = ?c16_0), (fun v _ _ => v = ?c16_1), Of (fun um v => FracC um v ((0 : Int) : Rat)), (NewS1 55 (fun um v => FracC um v ((0 : Int) : Rat)))] hL.vw mixed [81, 82, 83, 84] _ (by kernel_rfl) (fun vs => by simp only [lay, Act.put, zq1, zq2, zq3]; rfl) (by kernel_rfl) (by decide) (by decide) ?s16 ?l16 ?r16
      case s16 =>
       refine ⟨?_, ?_, ?_, ?_, trivial⟩
       ·intro vs W1 m1 hE hM hV hD; clear hD
        exact sFe
       ·intro vs W1 m1 hE hM hV hD; obtain ⟨⟨_, _, -, -, f81⟩, -⟩ := hD
        rw [(f81 : vs 81 = _)]; clear f81; exact sLe
       ·intro vs W1 m1 hE hM hV hD; clear hD
        go_wp2_with fail
        refine (r_Int 0 _ _ hV (by decide) (by decide)).mono ?_
        rintro e W2 ⟨v, m2, rfl, hE2, hM2, hV2, h⟩
        go_wp2_with fail
        refine One2.call hE2 hM2 hV2 ?_; first | exact h | exact rfl
       ·intro vs W1 m1 hE hM hV hD; obtain ⟨⟨_, _, -, i83, f83⟩, -⟩ := hD; have f83 : FracC _ (vs 83) ((0 : Int) : Rat) := f83; replace f83 := f83.le i83.le; clear i83
        (obtain ⟨g9, A9, n9, c9, h9, B9, k9, d9, e9, f9⟩ := f83.lit; generalize vs 83 = x9 at e9 ⊢; subst x9; go_wp2_with fail; exact one2_s1 hV fun m' h => f9.le h.le)
      case l16 =>
       refine ⟨nF, nF, nF, nF, trivial⟩
      intro vs W1 m1 hE hM hV hF hD
      clear hD
      obtain ⟨-, ⟨_, _, -, -, f82⟩, ⟨_, _, -, i83, f83⟩, ⟨_, _, j84, i84, f84⟩, -⟩ := hF
      replace hL := hL.call hE hM hV
      have f82 : vs 82 = _ := f82
      generalize vs 82 = x82 at f82 ⊢
      subst x82
      replace f83 : FracC _ (vs 83) ((0 : Int) : Rat) := f83
      replace f83 := f83.le i83.le
      clear i83
      clear hE hV
      obtain ⟨g15, cs15, e15, q15, f15⟩ := f84
      generalize vs 84 = x15 at e15 ⊢
      subst x15
      replace q15 := q15.ext j84
      have f16 : FracC _ (.agg cs15) ((0 : Int) : Rat) := f15
      replace f16 := f16.le i84.le
      clear f15 i84 j84
      obtain ⟨g9, A9, n9, c9, h9, B9, k9, d9, e9, f16⟩ := f16.lit
      injection e9 with e9
      subst e9
      simp only [List.drop_succ_cons, List.drop_zero]
      obtain ⟨vs7, r7, z7, y7, l7⟩ := ROWA.out
      refine wl_append (A := _ :: _ :: _ :: _ :: (R1 ++ Rp)) hL r7 (wanted_none rfl) rfl ap_Fracs (by omega) rfl rfl (news := [.bool g9, .slice A9 n9 c9, .bool h9, .slice B9 k9 d9]) rfl (Blk.sl q15 (n := 4) rfl) rfl (by omega) (by omega) ?_
      clear hL
      intro vq Wq mq Rq hL r8 e8
      obtain ⟨Aq, cq, rfl, -⟩ := r8.lit
      simp only [List.cons_append, List.nil_append] at hL
      have rd := RowA.snoc (R := FracC) (m := mq) (x := ((0 : Int) : Rat)) r8 z7 (y7.mono fun v x hv => hv.le (leX : Le mp mq)) l7 rfl (f16.le e8.le)
      have NROWA := Lib.hid rd
      have NROWB := Lib.hid (RowA.le EntL.mono ROWB.out (leX : Le mp mq))
      have NROWC := Lib.hid (RowA.le FracC.mono ROWC.out (leX : Le mp mq))
      clear rd r8 r7 z7 y7 l7 ROWB ROWC ROWA q15 f16 
      have ROWB := NROWB
      have ROWC := NROWC
      have ROWA := NROWA
      clear NROWB NROWC NROWA
      simp only [Act.put, zq1, zq2, zq3]
      go_wp2_with (first | go_skip | refine tP ?_ | (refine tS ?_; clear hL; intro _ hL) | (refine tB ?_; clear hL; intro _ _ hL _) | (refine tC ?_; clear hL; intro _ _ hL _ hBs))
      refine QN.mk ?_
      replace hL := hL.rot4
      go_wp2_with (first | go_skip | refine tP ?_ | (refine tS ?_; clear hL; intro _ hL) | (refine tB ?_; clear hL; intro _ _ hL _) | (refine tC ?_; clear hL; intro _ _ hL _ hBs))
      refine goA ?_
      have hB1 := (by assumption : Blk _ _ 71 #[.int .i64 ((nr : Int) + k), .bool g1, .slice A1' n1 c1', .bool f1, .slice B1' k1 d1])
      have HENT := Lib.hid (EntL.one hB1 (HONE.out.le (HXM.out.trans leX)))
      clear hB1
      obtain ⟨vs7, r7, z7, y7, l7⟩ := ROWB.out
      refine wl_append (A := _ :: _ :: _ :: _ :: (Rp ++ Rq)) hL r7 (wanted_none rfl) rfl ap_Vecs (by omega) rfl rfl (news := [_]) rfl ((Blk.sl hBs (n := 1) rfl).le hL.vw.le) rfl (by omega) (by omega) ?_
      clear hL
      intro vr Wr mr Rr hL r8 e8
      obtain ⟨Ar, cr, rfl, -⟩ := r8.lit
      simp only [List.cons_append, List.nil_append] at hL
      have rd := RowA.snocV (R := EntL) (m := mr) (x := [((nr : Int) + k, ((1 : Int) : Rat))]) r8 z7 (y7.mono fun v x hv => EntL.le hv (leX : Le mq mr)) l7 rfl rfl (EntL.le HENT.out leX)
      have NROWB := Lib.hid rd
      have NROWC := Lib.hid (RowA.le FracC.mono ROWC.out (leX : Le mq mr))
      have NROWA := Lib.hid (RowA.le FracC.mono ROWA.out (leX : Le mq mr))
      clear rd r8 r7 z7 y7 l7 ROWC ROWA ROWB 
      have ROWC := NROWC
      have ROWA := NROWA
      have ROWB := NROWB
      clear NROWC NROWA NROWB
      simp only [Act.put, zq1, zq2, zq3]
      go_wp2_with (first | go_skip | refine tP ?_ | (refine tS ?_; clear hL; intro _ hL) | (refine tB ?_; clear hL; intro _ _ hL _) | (refine tC ?_; clear hL; intro _ _ hL _ hBs))
      replace hL := hL.rot4
      have HXR : Hid (Le m5 mr) := hXM.trans (leX : Le mm mr)
      go_roundw
      case rel => exact ⟨k + 1, _, _, _, _, _, _, _, _, _, _, by omega, by go_num, hL, by show RowA _ _ _ _ _ _ _ _; rw [HS.out.1]; exact ROWA.out, by show RowA _ _ _ _ _ _ _ _; rw [HS.out.2.1]; exact ROWB.out, by show RowA _ _ _ _ _ _ _ _; rw [HS.out.2.2]; exact ROWC.out, HXR.out⟩
      case measure => simp [intOf] <;> omega
     ·have hin : nk = k := by omega
      subst hin
      have h9 : (nk : Int) ≤ (nk : Int) := Int.le_refl _
      rw [← HC0.out] at ROWA ROWB ROWC
      clear HC0 HSK hlt hXM
      go_wp2_with (first | go_skip | refine tP ?_ | (refine tS ?_; clear hL; intro _ hL) | (refine tB ?_; clear hL; intro _ _ hL _) | (refine tC ?_; clear hL; intro _ _ hL _ hBs))
      clear h9 hk HLM
      go_loopw [10] (fun iv wr => ∃ (j : Nat) (mm : World) (A0 A1 A2 : Option Addr) (c0 c1 c2 : Nat) (R0 R1 R2 : List Lo), j ≤ nc ∧ iv = .int .i64 (j : Int) ∧ Loc w m wr mm ((Wc1.heap.size, 31, #[.slice A0 (nr + nk + j) c0, .slice A1 (nr + nk + j) c1, .slice A2 (nr + nk) c2]) :: (g0, 55, #[.bool g1, .slice A1' n1 c1', .bool f1, .slice B1' k1 d1]) :: (Wh1.heap.size, 31, #[.slice none 0 0, .slice none 0 0, .slice none 0 0]) :: (w.heap.size, 26, #[.int .i64 nf, .slice A nr ca, .int .i64 pen, .slice B nc cb, .slice C nk cc]) :: ((R0 ++ R1) ++ R2)) ∧ Hid (RowA 55 4 FracC mm (.slice A0 (nr + nk + j) c0) (nr + nk + j) (lpC x j).cost R0) ∧ Hid (RowA 73 1 EntL mm (.slice A1 (nr + nk + j) c1) (nr + nk + j) (lpC x j).cols R1) ∧ Hid (RowA 55 4 FracC mm (.slice A2 (nr + nk) c2) (nr + nk) (lpC x j).right R2) ∧ Hid (Le m5 mm)) (fun iv _ => nc - (intOf iv).toNat)
      case atStart => exact ⟨0, _, A0, A1, A2, c0, c1, c2, R0, R1, R2, Nat.zero_le _, rfl, hL, ROWA.out, ROWB.out, ROWC.out, HXM.out⟩
      case round =>
       clear hL ROWA ROWB ROWC HXM
       obtain ⟨j, mm, A0, A1, A2, c0, c1, c2, R0, R1, R2, hj, rfl, hL, ROWA, ROWB, ROWC, HXM⟩ := hrel
       have HLM : Hid (Le m mm) := hL.mext.le
       have hXM := HXM.out
       have hjr : j ≤ 1000 := by omega
       by_cases hlt : j < nc
       ·have hlt' : (j : Int) < (nc : Int) := by omega
        obtain ⟨⟨s, ds, z⟩, hx⟩ := at_some HNC hlt
        have hcl := ListV.le ColR.mono HB.out HLM.out
        obtain ⟨b1, o1, D, cd, e1, hds, hr1⟩ := ColL.at_ hcl hx
        simp only at hds hr1
        have hck := HCO.out _ (List.mem_of_getElem? hx)
        have hz1 : -1125899906842624 ≤ z := hck.c1
        have hz2 : z ≤ 1125899906842624 := hck.c2
        have HDS := Lib.hid hds
        have H3 : Hid (ds.length ≤ 100) := hck.nd
        have H4 : Hid (∀ d ∈ ds, d.length ≤ 100) := hck.nt
        have HOL : Hid ((opF ds).length ≤ 6) := by
         show _ ≤ _
         have h1 := nodup_length hck.nodup hck.sub
         have h2 := HNR.out
         simp only at h1
         omega
        have HS := Lib.hid (HSC.out j _ hx)
        simp only at HS
        have hr2 := range_2 hr1
        have hr3 : mm.cell? ⟨b1, o1 + j * 3 + 2, none⟩ = some (.int .i64 z) := hr1 2 _ rfl
        clear hcl hck hds hx hr1
        generalize hnd : ds.length = nd at *
        have HND := Lib.hid hnd
        clear hnd
        subst e1
        go_wp2_with (first | go_skip | refine tP ?_ | (refine tS ?_; clear hL; intro _ hL) | (refine tB ?_; clear hL; intro _ _ hL _) | (refine tC ?_; clear hL; intro _ _ hL _ hBs))
        refine (r_Operated s _ ds _ _ hL.vw (DutsL.le HDS.out leX) (by rw [HND.out]; exact H3.out) H4.out).mono ?_
        rintro e Wo1 ⟨vo1, mo1, rfl, hE, hMo1, hV, ho1⟩
        replace hL := hL.call hE (by assumption) hV; clear hE hV
        obtain ⟨O, co, rfl, -, ho1⟩ := ho1.lit
        have HOF := Lib.hid ho1
        clear ho1
        rw [← HVF.out (opF ds)] at HS
        generalize opF ds = l at *
        generalize hno : l.length = no at *
        have HNO := Lib.hid hno
        clear hno
        have KH : Hid (∀ (r : Int) (w m' : World), Vw m' w → Le mo1 m' → Calls Tryz.prog 29 #[.slice O no co, .int .i64 r] w (RetV w m' fun _ v => v = .bool (decide (r ∈ l)))) := by
         show ∀ (r : Int) (w m' : World), _
         exact fun r w m' hV hle => r_Has _ l r w m' hV (IntL.le HOF.out hle) (by rw [HNO.out]; have := HOL.out; omega)
        have HX1 : Hid (Ext mm mo1) := exX
        go_wp2_with (first | go_skip | refine tP ?_ | (refine tS ?_; clear hL; intro _ hL) | (refine tB ?_; clear hL; intro _ _ hL _) | (refine tC ?_; clear hL; intro _ _ hL _ hBs))
        go_loopw [12, 13] (fun vv iv wr => ∃ (i nv : Nat) (m9 : World) (Rv : List Lo), i ≤ nr ∧ iv = .int .i64 (i : Int) ∧ nv ≤ i ∧ Loc w m wr m9 ((Wc1.heap.size, 31, #[.slice A0 (nr + nk + j) c0, .slice A1 (nr + nk + j) c1, .slice A2 (nr + nk) c2]) :: (g0, 55, #[.bool g1, .slice A1' n1 c1', .bool f1, .slice B1' k1 d1]) :: (Wh1.heap.size, 31, #[.slice none 0 0, .slice none 0 0, .slice none 0 0]) :: (w.heap.size, 26, #[.int .i64 nf, .slice A nr ca, .int .i64 pen, .slice (some ⟨b1, o1, none⟩) nc cb, .slice C nk cc]) :: (((R0 ++ R1) ++ R2) ++ Rv)) ∧ Hid (RowA 71 5 EntR m9 vv nv (rowV x.rows l i) Rv) ∧ Hid (Ext mo1 m9)) (fun _ iv _ => nr - (intOf iv).toNat)
        case atStart => exact ⟨0, 0, _, [], Nat.zero_le _, rfl, Nat.le_refl _, by rw [List.append_nil]; exact hL, RowA.nil, exX⟩
        case round =>
         clear hL
         obtain ⟨i, nv, m9, Rv, hi, rfl, hnv, hL, row, HX9⟩ := hrel
         have hX9 := HX9.out
         obtain ⟨A3, c3, rfl, row1⟩ := row.out.lit
         have ROW := Lib.hid row1
         clear row row1
         have hir : i ≤ 32 := by omega
         by_cases hlt9 : i < nr
         ·have hlt9' : (i : Int) < (nr : Int) := by omega
          obtain ⟨r, hx⟩ := at_some HNR hlt9
          have hrw := IntL.le HA.out (HLM.out.trans (HX1.out.le.trans hX9.le))
          obtain ⟨b2, o2, e2, hc2⟩ := IntL.at_ hrw hx
          have HIN : Hid (r ∈ l → rowV x.rows l (i + 1) = rowV x.rows l i ++ [((i : Int), ((1 : Int) : Rat))]) := fun h => rowV_in hx h
          have HOUT : Hid (¬ r ∈ l → rowV x.rows l (i + 1) = rowV x.rows l i) := fun h => rowV_out hx h
          clear hrw hx
          subst e2
          go_wp2_with (first | go_skip | refine tP ?_ | (refine tS ?_; clear hL; intro _ hL) | (refine tB ?_; clear hL; intro _ _ hL _) | (refine tC ?_; clear hL; intro _ _ hL _ hBs))
          refine (KH.out r _ _ hL.vw (HX9.out.le.trans leX)).mono ?_
          rintro e Wb ⟨_, mb, rfl, hE, hMb, hV, rfl⟩
          replace hL := hL.call hE (by assumption) hV; clear hE hV
          by_cases hmem : r ∈ l
          ·rw [decide_eq_true hmem]
           have HI2 : Hid (rowV x.rows l i ++ [((i : Int), ((1 : Int) : Rat))] = rowV x.rows l (i + 1)) := (HIN.out hmem).symm
           clear HIN HOUT hmem
           go_wp2_with (first | go_skip | refine tP ?_ | (refine tS ?_; clear hL; intro _ hL) | (refine tB ?_; clear hL; intro _ _ hL _) | (refine tC ?_; clear hL; intro _ _ hL _ hBs))
           refine goA ?_
           obtain ⟨vs7, r7, z7, y7, l7⟩ := ROW.out
           refine wl_append (A := _ :: _ :: _ :: _ :: ((R0 ++ R1) ++ R2)) hL r7 (wanted_none rfl) rfl ap_Ents (by omega) rfl rfl (news := [.int .i64 (i : Int), .bool g1, .slice A1' n1 c1', .bool f1, .slice B1' k1 d1]) rfl ((Blk.sl hBs (n := 5) rfl).le hL.vw.le) rfl (by omega) (by omega) ?_
           clear hL
           intro v1 W2 m2 R7 hL r8 e8
           obtain ⟨A8, c8, rfl, -⟩ := r8.lit
           simp only [List.cons_append, List.nil_append] at hL
           have rd := RowA.snoc (R := EntR) (m := m2) (x := ((i : Int), ((1 : Int) : Rat))) r8 z7 (y7.mono fun v x hv => hv.le (leX : Le m9 m2)) l7 rfl ⟨_, _, _, _, _, _, _, _, rfl, HONE.out.le (HXM.out.trans (HX1.out.le.trans (HX9.out.le.trans leX)))⟩
           rw [HI2.out] at rd
           have RD := Lib.hid rd
           have HXN : Hid (Ext mo1 m2) := HX9.out.trans (exX : Ext m9 m2)
           clear rd r8 r7 z7 y7 l7
           simp only [Act.put, zq1, zq2, zq3]
           go_wp2_with (first | go_skip | refine tP ?_ | (refine tS ?_; clear hL; intro _ hL) | (refine tB ?_; clear hL; intro _ _ hL _) | (refine tC ?_; clear hL; intro _ _ hL _ hBs))
           go_roundw
           case rel => exact ⟨i + 1, nv + 1, _, _, by omega, by go_num, by omega, hL, RD.out, HXN.out⟩
           case measure => simp [intOf] <;> omega
          ·rw [decide_eq_false hmem]
           have RD : Hid (RowA 71 5 EntR mb (.slice A3 nv c3) nv (rowV x.rows l (i + 1)) Rv) := by
            show RowA _ _ _ _ _ _ _ _
            rw [HOUT.out hmem]
            exact RowA.le EntR.mono ROW.out leX
           have HXN : Hid (Ext mo1 mb) := HX9.out.trans (exX : Ext m9 mb)
           clear HIN HOUT hmem
           go_wp2_with (first | go_skip | refine tP ?_ | (refine tS ?_; clear hL; intro _ hL) | (refine tB ?_; clear hL; intro _ _ hL _) | (refine tC ?_; clear hL; intro _ _ hL _ hBs))
           go_roundw
           case rel => exact ⟨i + 1, nv, _, Rv, by omega, by go_num, by omega, hL, RD.out, HXN.out⟩
           case measure => simp [intOf] <;> omega
         ·have hin : nr = i := by omega
          subst hin
          have h9 : (nr : Int) ≤ (nr : Int) := Int.le_refl _
          clear hlt9 hi
          go_wp2_with (first | go_skip | refine tP ?_ | (refine tS ?_; clear hL; intro _ hL) | (refine tB ?_; clear hL; intro _ _ hL _) | (refine tC ?_; clear hL; intro _ _ hL _ hBs))
          clear h9 hX9
          go_loopw [12, 14] (fun vv iv wr => ∃ (k nv : Nat) (m9 : World) (Rv : List Lo), k ≤ nk ∧ iv = .int .i64 (k : Int) ∧ nv ≤ nr + k ∧ Loc w m wr m9 ((Wc1.heap.size, 31, #[.slice A0 (nr + nk + j) c0, .slice A1 (nr + nk + j) c1, .slice A2 (nr + nk) c2]) :: (g0, 55, #[.bool g1, .slice A1' n1 c1', .bool f1, .slice B1' k1 d1]) :: (Wh1.heap.size, 31, #[.slice none 0 0, .slice none 0 0, .slice none 0 0]) :: (w.heap.size, 26, #[.int .i64 nf, .slice A nr ca, .int .i64 pen, .slice (some ⟨b1, o1, none⟩) nc cb, .slice C nk cc]) :: (((R0 ++ R1) ++ R2) ++ Rv)) ∧ Hid (RowA 71 5 EntR m9 vv nv (rowV x.rows l nr ++ cutV nr x.cuts l k) Rv) ∧ Hid (Ext mo1 m9)) (fun _ iv _ => nk - (intOf iv).toNat)
          case atStart => exact ⟨0, nv, _, Rv, Nat.zero_le _, rfl, by omega, hL, by rw [cutV, List.append_nil]; exact ROW.out, HX9.out⟩
          case round =>
           clear hL ROW HX9
           obtain ⟨k, nv, m9, Rv, hk, rfl, hnv, hL, row, HX9⟩ := hrel
           have hX9 := HX9.out
           obtain ⟨A3, c3, rfl, row1⟩ := row.out.lit
           have ROW := Lib.hid row1
           clear row row1
           have hkr : k ≤ 32 := by omega
           by_cases hlt9 : k < nk
           ·have hlt9' : (k : Int) < (nk : Int) := by omega
            obtain ⟨c, hx⟩ := at_some HNK hlt9
            have hcu := CutL.le HC.out (HLM.out.trans (HX1.out.le.trans hX9.le))
            obtain ⟨b2, o2, D2, d2, e2, hcv, hr9⟩ := CutL.at_' hcu hx
            have HCV := Lib.hid hcv
            have hco := HCU.out _ (List.mem_of_getElem? hx)
            have hl6 : l.length ≤ 1000000 := by rw [HNO.out]; have := HOL.out; omega
            obtain ⟨z9, hz9⟩ : ∃ z9, z9 = coefF c l := ⟨_, rfl⟩
            obtain ⟨hz0, hz1⟩ := coefF_fit (c := c) (l := l) hco.two hl6
            rw [← hz9] at hz0 hz1
            have HKC : Hid (∀ w m', Vw m' w → Le m9 m' → Calls Tryz.prog 30 #[.agg #[.slice D2 c.1.length d2, .int .i64 c.2], .slice O no co] w (RetV w m' fun _ r => r = .int .i64 z9)) := by
             show ∀ w m', _
             intro w m' hV hle
             rw [hz9]
             exact r_Coefficient _ _ c l w m' hV (HCV.out.le hle) (IntL.le HOF.out (HX9.out.le.trans hle)) hco.len hl6 (by have := hco.two; omega)
            have HIN : Hid (0 < z9 → cutV nr x.cuts l k ++ [((nr : Int) + k, (z9 : Rat))] = cutV nr x.cuts l (k + 1)) := by
             show _ → _
             intro h
             rw [cutV_in hx (by rw [← hz9]; exact h), ← hz9]
             rfl
            have HOUT : Hid (z9 ≤ 0 → cutV nr x.cuts l (k + 1) = cutV nr x.cuts l k) := by
             show _ → _
             intro h
             rw [cutV_out hx (by rw [← hz9]; omega)]
            clear hcu hcv hx hz9 hco hl6
            subst e2
            go_wp2_with (first | go_skip | refine tP ?_ | (refine tS ?_; clear hL; intro _ hL) | (refine tB ?_; clear hL; intro _ _ hL _) | (refine tC ?_; clear hL; intro _ _ hL _ hBs))
            refine (HKC.out _ _ hL.vw leX).mono ?_
            rintro e Wb ⟨_, mb, rfl, hE, hMb, hV, rfl⟩
            replace hL := hL.call hE (by assumption) hV; clear hE hV
            by_cases hzp : 0 < z9
            ·have HI2 := Lib.hid (HIN.out hzp)
             clear HIN HOUT
             go_wp2_with (first | go_skip | refine tP ?_ | (refine tS ?_; clear hL; intro _ hL) | (refine tB ?_; clear hL; intro _ _ hL _) | (refine tC ?_; clear hL; intro _ _ hL _ hBs))
             refine (r_Int z9 _ _ hL.vw (by omega) (by omega)).mono ?_
             rintro e Wu1 ⟨vu1, mu1, rfl, hE, hMu1, hV, hu1⟩
             replace hL := hL.call hE (by assumption) hV; clear hE hV
             obtain ⟨gu1', Au1', nu1', cu1', hu1', Bu1', ku1', du1', rfl, hu1⟩ := hu1.lit
             have HZ := Lib.hid hu1
             clear hu1
             go_wp2_with (first | go_skip | refine tP ?_ | (refine tS ?_; clear hL; intro _ hL) | (refine tB ?_; clear hL; intro _ _ hL _) | (refine tC ?_; clear hL; intro _ _ hL _ hBs))
             refine goA ?_
             obtain ⟨vs7, r7, z7, y7, l7⟩ := ROW.out
             refine wl_append (A := _ :: _ :: _ :: _ :: ((R0 ++ R1) ++ R2)) hL r7 (wanted_none rfl) rfl ap_Ents (by omega) rfl rfl (news := [.int .i64 ((nr : Int) + k), .bool gu1', .slice Au1' nu1' cu1', .bool hu1', .slice Bu1' ku1' du1']) rfl ((Blk.sl hBs (n := 5) rfl).le hL.vw.le) rfl (by omega) (by omega) ?_
             clear hL
             intro v1 W2 m2 R7 hL r8 e8
             obtain ⟨A8, c8, rfl, -⟩ := r8.lit
             simp only [List.cons_append, List.nil_append] at hL
             have rd := RowA.snoc (R := EntR) (m := m2) (x := ((nr : Int) + k, (z9 : Rat))) r8 z7 (y7.mono fun v x hv => hv.le (leX : Le m9 m2)) l7 rfl ⟨_, _, _, _, _, _, _, _, rfl, HZ.out.le leX⟩
             rw [List.append_assoc, HI2.out] at rd
             have RD := Lib.hid rd
             have HXN : Hid (Ext mo1 m2) := HX9.out.trans (exX : Ext m9 m2)
             clear rd r8 r7 z7 y7 l7
             simp only [Act.put, zq1, zq2, zq3]
             go_wp2_with (first | go_skip | refine tP ?_ | (refine tS ?_; clear hL; intro _ hL) | (refine tB ?_; clear hL; intro _ _ hL _) | (refine tC ?_; clear hL; intro _ _ hL _ hBs))
             go_roundw
             case rel => exact ⟨k + 1, nv + 1, _, _, by omega, by go_num, by omega, hL, RD.out, HXN.out⟩
             case measure => simp [intOf] <;> omega
            ·have hzz : z9 = 0 := by omega
             have RD : Hid (RowA 71 5 EntR mb (.slice A3 nv c3) nv (rowV x.rows l nr ++ cutV nr x.cuts l (k + 1)) Rv) := by
              show RowA _ _ _ _ _ _ _ _
              rw [HOUT.out (by omega)]
              exact RowA.le EntR.mono ROW.out leX
             have HXN : Hid (Ext mo1 mb) := HX9.out.trans (exX : Ext m9 mb)
             clear HIN HOUT
             subst hzz
             go_wp2_with (first | go_skip | refine tP ?_ | (refine tS ?_; clear hL; intro _ hL) | (refine tB ?_; clear hL; intro _ _ hL _) | (refine tC ?_; clear hL; intro _ _ hL _ hBs))
             go_roundw
             case rel => exact ⟨k + 1, nv, _, Rv, by omega, by go_num, by omega, hL, RD.out, HXN.out⟩
             case measure => simp [intOf] <;> omega
           ·have hin : nk = k := by omega
            subst hin
            have h9 : (nk : Int) ≤ (nk : Int) := Int.le_refl _
            clear hlt9 hk
            obtain ⟨mv, hLv, hlev, hlv, -⟩ := RowA.show (A := _ :: _ :: _ :: _ :: ((R0 ++ R1) ++ R2)) EntR.mono hL ROW.out
            have HVE := Lib.hid hlv
            have hlv2 : Le mm mv := HX1.out.le.trans (HX9.out.le.trans hlev)
            have HXV : Hid (Le m5 mv) := HXM.out.trans hlv2
            have hr3' := hlv2.cell _ _ hr3
            have NA := Lib.hid (RowA.le FracC.mono ROWA.out hlv2)
            have NB := Lib.hid (RowA.le EntL.mono ROWB.out hlv2)
            have NC := Lib.hid (RowA.le FracC.mono ROWC.out hlv2)
            clear hL hlev hlv ROW ROWA ROWB ROWC hr3 hr2 hX9 HX9 HX1 hMo1 hXM HXM hlv2
            have hL := hLv.rot4
            clear hLv
            have ROWA := NA
            have ROWB := NB
            have ROWC := NC
            clear NA NB NC
            go_upto_region 34 with ((first | go_skip | refine tP ?_ | (refine tS ?_; clear hL; intro _ hL) | (refine tB ?_; clear hL; intro _ _ hL _) | (refine tC ?_; clear hL; intro _ _ hL _ hBs)))
            (try simp only [eq_self] at *)
            refine wp_region_by2 10 [false, false, false, false, false, false, false, false, false, false] [false, false, false, false, false, false, false, false, false, false] [(fun v _ _ => v = ?c34_0), (fun v _ _ => v = ?c34_1), (fun v _ _ => v = ?c34_2), (fun v _ _ => v = ?c34_3), (fun v _ _ => v = ?c34_4), (fun v _ _ => v = ?c34_5), (fun v _ _ => v = ?c34_6), (fun v _ _ => v = ?c34_7), Of (fun um v => FracC um v (z : Rat)), (NewS1 55 (fun um v => FracC um v (z : Rat)))] hL.vw mixed [155, 156, 157, 158, 159, 160, 161, 162, 163, 164] _ (by kernel_rfl) (fun vs => by simp only [lay, Act.put, zq1, zq2, zq3]; rfl) (by kernel_rfl) (by decide) (by decide) ?s34 ?l34 ?r34
            case s34 =>
             refine ⟨?_, ?_, ?_, ?_, ?_, ?_, ?_, ?_, ?_, ?_, trivial⟩
             ·intro vs W1 m1 hE hM hV hD; clear hD
              exact sFe
             ·intro vs W1 m1 hE hM hV hD; obtain ⟨⟨_, _, -, -, f155⟩, -⟩ := hD
              rw [(f155 : vs 155 = _)]; clear f155; exact sLe
             ·intro vs W1 m1 hE hM hV hD; clear hD
              exact sFe
             ·intro vs W1 m1 hE hM hV hD; obtain ⟨⟨_, _, -, -, f157⟩, -⟩ := hD
              rw [(f157 : vs 157 = _)]; clear f157; exact sLe
             ·intro vs W1 m1 hE hM hV hD; clear hD
              exact sPw
             ·intro vs W1 m1 hE hM hV hD; obtain ⟨⟨_, _, -, -, f158⟩, ⟨_, _, -, -, f159⟩, -⟩ := hD
              rw [(f158 : vs 158 = _), (f159 : vs 159 = _)]; clear f158 f159; exact sIy
             ·intro vs W1 m1 hE hM hV hD; obtain ⟨⟨_, _, -, -, f160⟩, -⟩ := hD
              rw [(f160 : vs 160 = _)]; clear f160; exact sFe
             ·intro vs W1 m1 hE hM hV hD; obtain ⟨⟨_, _, -, -, f161⟩, -⟩ := hD
              rw [(f161 : vs 161 = _)]; clear f161; exact sLe
             ·intro vs W1 m1 hE hM hV hD; obtain ⟨⟨_, _, -, -, f162⟩, -⟩ := hD
              rw [(f162 : vs 162 = _)]
              clear f162
              go_wp2_with fail
              refine (r_Int z _ _ hV (by omega) (by omega)).mono ?_
              rintro e W2 ⟨v, m2, rfl, hE2, hM2, hV2, h⟩
              go_wp2_with fail
              refine One2.call hE2 hM2 hV2 ?_; first | exact h | exact rfl
             ·intro vs W1 m1 hE hM hV hD; obtain ⟨⟨_, _, -, i163, f163⟩, -⟩ := hD; have f163 : FracC _ (vs 163) (z : Rat) := f163; replace f163 := f163.le i163.le; clear i163
              (obtain ⟨g9, A9, n9, c9, h9, B9, k9, d9, e9, f9⟩ := f163.lit; generalize vs 163 = x9 at e9 ⊢; subst x9; go_wp2_with fail; exact one2_s1 hV fun m' h => f9.le h.le)
            case l34 =>
             refine ⟨nF, nF, nF, nF, nF, nF, nF, nF, nF, nF, trivial⟩
            intro vs W1 m1 hE hM hV hF hD
            clear hD
            obtain ⟨-, ⟨_, _, -, -, f156⟩, -, -, -, -, -, -, ⟨_, _, -, i163, f163⟩, ⟨_, _, j164, i164, f164⟩, -⟩ := hF
            replace hL := hL.call hE hM hV
            have f156 : vs 156 = _ := f156
            generalize vs 156 = x156 at f156 ⊢
            subst x156
            replace f163 : FracC _ (vs 163) (z : Rat) := f163
            replace f163 := f163.le i163.le
            clear i163
            clear hE hV
            obtain ⟨g15, cs15, e15, q15, f15⟩ := f164
            generalize vs 164 = x15 at e15 ⊢
            subst x15
            replace q15 := q15.ext j164
            have f16 : FracC _ (.agg cs15) (z : Rat) := f15
            replace f16 := f16.le i164.le
            clear f15 i164 j164
            obtain ⟨g9, A9, n9, c9, h9, B9, k9, d9, e9, f16⟩ := f16.lit
            injection e9 with e9
            subst e9
            simp only [List.drop_succ_cons, List.drop_zero]
            obtain ⟨vs7, r7, z7, y7, l7⟩ := ROWA.out
            refine wl_append (A := _ :: _ :: _ :: _ :: (R1 ++ R2)) hL r7 (wanted_none rfl) rfl ap_Fracs (by omega) rfl rfl (news := [.bool g9, .slice A9 n9 c9, .bool h9, .slice B9 k9 d9]) rfl (Blk.sl q15 (n := 4) rfl) rfl (by omega) (by omega) ?_
            clear hL
            intro vp Wp mp Rp hL r8 e8
            obtain ⟨Ap, cp, rfl, -⟩ := r8.lit
            simp only [List.cons_append, List.nil_append] at hL
            have rd := RowA.snoc (R := FracC) (m := mp) (x := (z : Rat)) r8 z7 (y7.mono fun v x hv => hv.le (leX : Le mv mp)) l7 rfl (f16.le e8.le)
            have NROWA := Lib.hid rd
            have NROWB := Lib.hid (RowA.le EntL.mono ROWB.out (leX : Le mv mp))
            have NROWC := Lib.hid (RowA.le FracC.mono ROWC.out (leX : Le mv mp))
            clear rd r8 r7 z7 y7 l7 ROWB ROWC ROWA q15 f16 
            have ROWB := NROWB
            have ROWC := NROWC
            have ROWA := NROWA
            clear NROWB NROWC NROWA
            simp only [Act.put, zq1, zq2, zq3]
            go_wp2_with (first | go_skip | refine tP ?_ | (refine tS ?_; clear hL; intro _ hL) | (refine tB ?_; clear hL; intro _ _ hL _) | (refine tC ?_; clear hL; intro _ _ hL _ hBs))
            refine QN.mk ?_
            replace hL := hL.rot4
            go_wp2_with (first | go_skip | refine tP ?_ | (refine tS ?_; clear hL; intro _ hL) | (refine tB ?_; clear hL; intro _ _ hL _) | (refine tC ?_; clear hL; intro _ _ hL _ hBs))
            refine goA ?_
            obtain ⟨vs7, r7, z7, y7, l7⟩ := ROWB.out
            refine wl_append (A := _ :: _ :: _ :: _ :: (R2 ++ Rp)) hL r7 (wanted_none rfl) rfl ap_Vecs (by omega) rfl rfl (news := [.slice A3 nv c3]) rfl ((Blk.sl hBs (n := 1) rfl).le hL.vw.le) rfl (by omega) (by omega) ?_
            clear hL
            intro vq Wq mq Rq hL r8 e8
            obtain ⟨Aq, cq, rfl, -⟩ := r8.lit
            simp only [List.cons_append, List.nil_append] at hL
            have rd := RowA.snocV (R := EntL) (m := mq) (x := (rowV x.rows l nr ++ cutV nr x.cuts l nk)) r8 z7 (y7.mono fun v x hv => EntL.le hv (leX : Le mp mq)) l7 rfl rfl (EntL.le HVE.out (leX : Le mv mq))
            have NROWB := Lib.hid rd
            have NROWC := Lib.hid (RowA.le FracC.mono ROWC.out (leX : Le mp mq))
            have NROWA := Lib.hid (RowA.le FracC.mono ROWA.out (leX : Le mp mq))
            clear rd r8 r7 z7 y7 l7 ROWC ROWA ROWB 
            have ROWC := NROWC
            have ROWA := NROWA
            have ROWB := NROWB
            clear NROWC NROWA NROWB
            simp only [Act.put, zq1, zq2, zq3]
            go_wp2_with (first | go_skip | refine tP ?_ | (refine tS ?_; clear hL; intro _ hL) | (refine tB ?_; clear hL; intro _ _ hL _) | (refine tC ?_; clear hL; intro _ _ hL _ hBs))
            replace hL := hL.rot4
            have HXR : Hid (Le m5 mq) := HXV.out.trans (leX : Le mv mq)
            go_roundw
            case rel => exact ⟨j + 1, _, _, _, _, _, _, _, _, _, _, by omega, by go_num, hL, by show RowA _ _ _ _ _ _ _ _; rw [HS.out.1]; exact ROWA.out, by show RowA _ _ _ _ _ _ _ _; rw [HS.out.2.1]; exact ROWB.out, by show RowA _ _ _ _ _ _ _ _; rw [HS.out.2.2]; exact ROWC.out, HXR.out⟩
            case measure => simp [intOf] <;> omega
       ·have hin : nc = j := by omega
        subst hin
        have h9 : (nc : Int) ≤ (nc : Int) := Int.le_refl _
        go_wp2_with (first | go_skip | refine tP ?_ | (refine tS ?_; clear hL; intro _ hL) | (refine tB ?_; clear hL; intro _ _ hL _) | (refine tC ?_; clear hL; intro _ _ hL _ hBs))
        obtain ⟨ma, hLa, hlea, hra, -⟩ := RowA.show (A := _ :: _ :: _ :: _ :: (R0 ++ R1)) FracC.mono hL ROWC.out
        obtain ⟨mb, hLb, hleb, hrb, -⟩ := RowA.show (A := _ :: _ :: _ :: _ :: R0) EntL.mono hLa (RowA.le EntL.mono ROWB.out hlea)
        obtain ⟨mc, hLc, hlec, hrc, -⟩ := RowA.show (A := _ :: _ :: _ :: _ :: []) FracC.mono hLb (RowA.le FracC.mono ROWA.out (hlea.trans hleb))
        clear hL hLa hLb
        have hL := hLc
        clear hLc
        have HLP : Hid (LPR mc (.agg #[.slice A0 (nr + nk + nc) c0, .slice A1 (nr + nk + nc) c1, .slice A2 (nr + nk) c2]) (lpF x)) := by
         show LPR _ _ _
         rw [HFIN.out]
         exact ⟨_, _, _, rfl, hrc, VecL.le hrb hlec, FracL.le hra (hleb.trans hlec)⟩
        clear hra hrb hrc ROWA ROWB ROWC
        refine fin_lp hL Tryz.results8 rfl rfl loX ag_LP (by exact rfl) rfl (hL.sub (List.nil_sublist _)) ?_
        exact ⟨_, rfl, HLP.out⟩
end Go.Proofs.YtabmjadcoepbeaaGreat

/- The walk through the law MasterProgram. -/
namespace Go.Proofs.YtabmjadcoepbeaaGreat
open Go.RowKit

theorem fit_mil {z : Int} (h1 : -1000000 ≤ z) (h2 : z ≤ 1000000) : Fit 200 (z : Rat) := (Tn.int (k := 1000000) (by omega) (by decide)).fit (by decide)
theorem rowV_fit (rs l : List Int) : ∀ i, ∀ y ∈ rowV rs l i, Fit 1000 y.2
 | 0, y, h => by cases h
 | i + 1, y, h => by
  rw [rowV] at h
  split at h
  ·rcases List.mem_append.1 h with h | h
   ·exact rowV_fit rs l i y h
   ·rw [List.mem_singleton.1 h]
    exact (fit_mil (by decide) (by decide)).mono (by decide)
  ·exact rowV_fit rs l i y h
theorem cutV_fit (n : Nat) {cs : List Cut} {l : List Int} (hc : ∀ c ∈ cs, 2 ≤ c.2) (hl : l.length ≤ 1000000) : ∀ i, i ≤ cs.length → ∀ y ∈ cutV n cs l i, Fit 1000 y.2
 | 0, _, y, h => by cases h
 | i + 1, hi, y, h => by
  rw [cutV] at h
  split at h
  ·rcases List.mem_append.1 h with h | h
   ·exact cutV_fit n hc hl i (by omega) y h
   ·rw [List.mem_singleton.1 h]
    have hm : cs.getD i ([], 0) ∈ cs := by
     rw [List.getD_eq_getElem?_getD, List.getElem?_eq_getElem (by omega : i < cs.length)]
     exact List.getElem_mem _
    have hb := coefF_fit (hc _ hm) hl
    exact (fit_mil (by omega) (by omega)).mono (by decide)
  ·exact cutV_fit n hc hl i (by omega) y h
theorem lp_fit {x : Ms} (ok : MsOk x) (hp : x.pen ≤ 1000000) (hc : ∀ c ∈ x.cols, -1000000 ≤ c.2.2 ∧ c.2.2 ≤ 1000000) : (lpF x).fit := by
 have hone : Fit 200 oneQ := fit_mil (by decide) (by decide)
 have hr1 := ok.r1
 have hk1 := ok.k1
 have hk2 := ok.k2
 have hp0 := ok.p0
 refine ⟨?_, ?_, ?_, ?_, ?_, ?_⟩
 ·intro q hq
  have hq' : q ∈ (List.replicate x.rows.length (x.pen : Rat) ++ List.replicate x.cuts.length ((0 : Int) : Rat)) ++ (x.cols.take x.cols.length).map fun c => ((c.2.2 : Int) : Rat) := hq
  rcases List.mem_append.1 hq' with h | h
  ·rcases List.mem_append.1 h with h | h
   ·rw [(List.mem_replicate.1 h).2]; exact fit_mil (by omega) hp
   ·rw [(List.mem_replicate.1 h).2]; exact fit_mil (by decide) (by decide)
  ·obtain ⟨c, hm, rfl⟩ := List.mem_map.1 h
   have := hc c (List.mem_of_mem_take hm)
   exact fit_mil this.1 this.2
 ·intro q hq
  have hq' : q ∈ List.replicate x.rows.length oneQ ++ (x.cuts.take x.cuts.length).map fun c => ((quoF c : Int) : Rat) := hq
  rcases List.mem_append.1 hq' with h | h
  ·rw [(List.mem_replicate.1 h).2]; exact hone
  ·obtain ⟨c, hm, rfl⟩ := List.mem_map.1 h
   have h2 := ok.cuts c (List.mem_of_mem_take hm)
   have h3 := quo_fit h2.two h2.len
   exact fit_mil (by unfold quoF; omega) (by unfold quoF; omega)
 ·intro v hv
  have hv' : v ∈ (((List.range x.rows.length).map fun (j : Nat) => [((j : Int), oneQ)]) ++ (List.range x.cuts.length).map fun (j : Nat) => [(((x.rows.length + j : Nat) : Int), oneQ)]) ++ (x.cols.take x.cols.length).map fun c => vecF x (opF c.2.1) := hv
  rcases List.mem_append.1 hv' with h | h
  ·have h1 : ∃ z : Int, v = [(z, oneQ)] := by
    rcases List.mem_append.1 h with h | h
    ·obtain ⟨j, -, rfl⟩ := List.mem_map.1 h; exact ⟨_, rfl⟩
    ·obtain ⟨j, -, rfl⟩ := List.mem_map.1 h; exact ⟨_, rfl⟩
   obtain ⟨z, rfl⟩ := h1
   refine ⟨by simp, fun y hy => ?_⟩
   rw [List.mem_singleton.1 hy]
   exact hone.mono (by decide)
  ·obtain ⟨c, hm, rfl⟩ := List.mem_map.1 h
   have hco := ok.cols c (List.mem_of_mem_take hm)
   have hl : (opF c.2.1).length ≤ 1000000 := by have := nodup_length hco.nodup hco.sub; omega
   refine ⟨?_, fun y hy => ?_⟩
   ·have h1 := rowV_len x.rows (opF c.2.1) x.rows.length
    have h2 := cutV_len x.rows.length x.cuts (opF c.2.1) x.cuts.length
    show (rowV _ _ _ ++ cutV _ _ _ _).length ≤ _
    rw [List.length_append]; omega
   ·have hy' : y ∈ rowV x.rows (opF c.2.1) x.rows.length ++ cutV x.rows.length x.cuts (opF c.2.1) x.cuts.length := hy
    rcases List.mem_append.1 hy' with h | h
    ·exact rowV_fit _ _ _ y h
    ·exact cutV_fit _ (fun c hc => (ok.cuts c hc).two) hl _ (Nat.le_refl _) y h
 ·show ((List.replicate _ _ ++ List.replicate _ _) ++ List.map _ _).length ≤ _
  simp only [List.length_append, List.length_replicate, List.length_map, List.length_take]; omega
 ·show ((List.map _ _ ++ List.map _ _) ++ List.map _ _).length ≤ _
  simp only [List.length_append, List.length_range, List.length_map, List.length_take]; omega
 ·show (List.replicate _ _ ++ List.map _ _).length ≤ _
  simp only [List.length_append, List.length_replicate, List.length_map, List.length_take]; omega
theorem masF_fit (l : List Int) : (lpF (masF l)).fit := by
 have h0 := atF_bd l 0 (by omega)
 refine lp_fit (masF_ok l) (by show atF l 0 % 30 ≤ _; omega) fun c hc => ?_
 obtain ⟨j, hj, rfl⟩ := List.mem_map.1 hc
 have hj' := List.mem_range.1 hj
 have h2 := atF_bd l 2 (by omega)
 have h5 := atF_bd l (5 + 2 * j) (by omega)
 exact ⟨by show _ ≤ atF l (5 + 2 * j) / 32 % 41 - 5; omega, by show atF l (5 + 2 * j) / 32 % 41 - 5 ≤ _; omega⟩
theorem retV_ext {w m : World} {f : Nat} {R : World → Value → Prop} {v : Value} (hV : Vw m w) (h : Calls Tryz.prog f #[] w fun e u => e = .returned v ∧ Ext w u) (hR : ∀ m', R m' v) : Calls Tryz.prog f #[] w (RetV w m R) :=
 h.mono fun e u hu => by
  obtain ⟨rfl, hE⟩ := hu
  exact RetV.mk ((Loc.start hV).again hE) (hR _)

theorem law_MasterProgramK (KN : ∀ w m, Vw m w → Calls Tryz.prog 10 #[] w (RetV w m fun _ r => r = .bool true)) (A : Option Addr) (c : Nat) (l : List Int) (w m : World) (hV : Vw m w) (h : Sl m A (l.map I64)) :
  Calls Tryz.prog 3 #[.slice A l.length c] w (RetV w m fun _ r => r = .bool true) := by
 have KM : Hid (∀ w m', Vw m' w → Le m m' → Calls Tryz.prog 6 #[.slice A l.length c] w (RetV w m' fun m' r => MasterR m' r (masF l))) := by
  show ∀ w m', _
  exact fun w m' hV hle => d_Master A c l w m' hV (h.le hle) trivial
 have OK : Hid (MsOk (masF l)) := masF_ok l
 have FIT : Hid ((lpF (masF l)).fit) := masF_fit l
 have H6 : Hid ((masF l).rows.length ≤ 6) := by
  show (rowsF l).length ≤ 6
  have := (rowsF_ok l).l5
  omega
 have HKN := Lib.hid KN
 have hL := Loc.start hV
 clear hV h KN
 generalize l.length = N1 at *
 generalize masF l = x at *
 go_enter Tryz.func3, Tryz.ntmps3
 go_wp2_with (first | go_skip | refine tP ?_ | (refine tS ?_; clear hL; intro _ hL) | (refine tB ?_; clear hL; intro _ _ hL _))
 refine (KM.out _ _ hL.vw leX).mono ?_
 rintro e W1 ⟨v1, m1, rfl, hE, hM1, hV, h1⟩
 replace hL := hL.call hE (by assumption) hV; clear hE hV
 have HX := Lib.hid h1
 obtain ⟨a1, b1, c1, rfl, ha, hb, hc⟩ := h1
 obtain ⟨A1, ca, rfl, -, ha⟩ := ha.lit
 obtain ⟨B1, cb, rfl, -, hb⟩ := hb.lit
 obtain ⟨C1, cc, rfl, -, hc⟩ := hc.lit
 clear ha hb hc KM
 go_wp2_with (first | go_skip | refine tP ?_ | (refine tS ?_; clear hL; intro _ hL) | (refine tB ?_; clear hL; intro _ _ hL _))
 refine (m_Program _ x _ _ hL.vw (HX.out.le leX) OK.out H6.out).mono ?_
 rintro e W2 ⟨_, m2, rfl, hE, hM2, hV, v2, rfl, h2⟩
 replace hL := hL.call hE (by assumption) hV; clear hE hV
 have HP := Lib.hid h2
 obtain ⟨p1, p2, p3, rfl, g1, g2, g3⟩ := h2
 obtain ⟨P1, cp1, rfl, -, g1⟩ := g1.lit
 obtain ⟨P2, cp2, rfl, -, g2⟩ := g2.lit
 obtain ⟨P3, cp3, rfl, -, g3⟩ := g3.lit
 clear g1 g2 g3
 go_wp2_with (first | go_skip | refine tP ?_ | (refine tS ?_; clear hL; intro _ hL) | (refine tB ?_; clear hL; intro _ _ hL _))
 refine (r_Program _ x _ _ hL.vw (HX.out.le leX) OK.out H6.out).mono ?_
 rintro e W3 ⟨_, m3, rfl, hE, hM3, hV, v3, rfl, h3⟩
 replace hL := hL.call hE (by assumption) hV; clear hE hV
 have HQ := Lib.hid h3
 obtain ⟨q1, q2, q3, rfl, g1, g2, g3⟩ := h3
 obtain ⟨Q1, cq1, rfl, -, g1⟩ := g1.lit
 obtain ⟨Q2, cq2, rfl, -, g2⟩ := g2.lit
 obtain ⟨Q3, cq3, rfl, -, g3⟩ := g3.lit
 clear g1 g2 g3
 go_wp2_with (first | go_skip | refine tP ?_ | (refine tS ?_; clear hL; intro _ hL) | (refine tB ?_; clear hL; intro _ _ hL _))
 refine (r_SameProgram _ _ (lpF x) _ _ hL.vw (HP.out.le leX) (HQ.out.le leX) FIT.out).mono ?_
 rintro e Wc4 ⟨_, mc4, rfl, hE, hMc4, hV, rfl⟩
 replace hL := hL.call hE (by assumption) hV; clear hE hV
 go_wp2_with (first | go_skip | refine tP ?_ | (refine tS ?_; clear hL; intro _ hL) | (refine tB ?_; clear hL; intro _ _ hL _))
 refine (HKN.out _ _ hL.vw).mono ?_
 rintro e Wc5 ⟨_, mc5, rfl, hE, hMc5, hV, rfl⟩
 replace hL := hL.call hE (by assumption) hV; clear hE hV
 go_wp2_with (first | go_skip | refine tP ?_ | (refine tS ?_; clear hL; intro _ hL) | (refine tB ?_; clear hL; intro _ _ hL _))
 go_ret
 exact RetV.mk hL rfl
end Go.Proofs.YtabmjadcoepbeaaGreat

/- The law MasterProgram, with the check known of its package. -/
namespace Go.Proofs.YtabmjadcoepbeaaGreat
open Go.RowKit

theorem kn_known : ∀ w m, Vw m w → Calls Tryz.prog 10 #[] w (RetV w m fun _ r => r = .bool true) := fun w m hV =>
 retV_ext hV ((Ev.known_ok w).mono fun e u h => ⟨h.1, h.2⟩) fun _ => rfl
theorem law_MasterProgram (A : Option Addr) (c : Nat) (l : List Int) (w m : World) (hV : Vw m w) (h : Sl m A (l.map I64)) :
  Calls Tryz.prog 3 #[.slice A l.length c] w (RetV w m fun _ r => r = .bool true) := law_MasterProgramK kn_known A c l w m hV h
end Go.Proofs.YtabmjadcoepbeaaGreat

/- MasterProgram: for every input the law returns true, and each argument reads afterwards as it read before. There is no condition. -/
namespace Go.Proofs.YtabmjadcoepbeaaGreat
open Go.ChangeShapes Go.WideShapes Go.ChangeAt Go.RowKit

theorem masterProgram_lifted (os : Os) (started : os.Started) (H : Type) (enc : TypeId × Value → H) :
  ReturnsInHanded {} Tryz.checked os 3 .any (Rows.masterProgramSpec.pre6 enc Tryz.prog Tryz.f3 Rows.masterProgramRow.domain false) (Rows.masterProgramSpec.post enc Tryz.prog Tryz.f3 false true false false) := by
 refine returnsInHanded_of_change (C := Tryz.checked) ownK started (by kernel_rfl) Tryz.func3
  (ChangeSpec.witness6 (enc := enc) (C := Tryz.checked) false ⟨#[], #[.slice none 0 0], []⟩ 8 (by kernel_rfl) (by kernel_rfl) (by kernel_rfl) (by kernel_rfl)) ?_
 intro W base args ds gs before hval0 hW hcnd _
 have hval : ∀ (j : Nat) t v, Tryz.f3.params[j]? = some t → args[j]? = some v → Value.okWide Tryz.prog W .any base t v := hval0
 have hW' := hW
 obtain ⟨p, q, hA0, hV, rfl, hfz, hnd⟩ := hW
 have hA : DataW.TrodAll enc Tryz.prog W 0 (fun _ => true) true Tryz.f3.params.toList args.toList ds p := hA0
 rw [Tryz.params3] at hA hval
 obtain ⟨v0, vs0, d0, ds0, p0, q0, hargs, rfl, rfl, h0, r0⟩ := trodAll_cons hA
 obtain ⟨rfl, rfl, rfl⟩ := trodAll_nil r0
 obtain rfl : args = #[v0] := by cases args; simp_all
 obtain ⟨rfl, rfl⟩ := trodVars_none hV
 obtain ⟨A0, c0, l0, rfl, s0⟩ := arg_ints (hval 0 22 v0 rfl rfl) h0
 clear hA0 hval0 hA r0 hargs
 refine (law_MasterProgram A0 c0 l0 W W (Vw.refl W) s0).mono fun e W' h => ?_
 obtain ⟨_, _, rfl, hE, _, _, rfl⟩ := h
 have hin : ∀ x ∈ p0 ++ [] ++ [], x.block < W.heap.size := fun x hx => hW'.lt x hx
 have st : ∀ {t : TypeId} {v : Value} {d : DataW H} {ps : List MemPlace}, Tryz.prog.readableRec t = true → t < Tryz.prog.types.size → DataW.Trod enc Tryz.prog W 0 (fun _ => true) true t v d ps → (∀ x ∈ ps, x ∈ p0 ++ [] ++ []) →
   DataW.Trod enc Tryz.prog W' 0 (fun b => decide (b < W.heap.size)) true t v d ps := fun hr ht h hx =>
  WideElems.Trod_stays laidO hr ht h (fun x hp => Below.same hE (hin x (hx x hp))) (fun x hp => by simpa using hin x (hx x hp))
 refine ⟨_, rfl, _, _, _, [], _, [], hW', ?_, trodAll_cons_mk (st (by kernel_rfl) (of_decide_eq_true (by kernel_rfl)) h0 ?_) trodAll_mk0, rfl, Below.frame hE _, fun h => by cases h⟩
 ·exact trodAll_cons_mk (shut_bool Tryz.underlying4 _) trodAll_mk0
 all_goals (intro x hx; simp [hx])
end Go.Proofs.YtabmjadcoepbeaaGreat
