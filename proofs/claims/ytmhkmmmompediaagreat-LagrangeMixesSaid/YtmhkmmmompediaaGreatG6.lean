/- Part 6 of 7 of the proof: the law LagrangeMixes returns true for every input, and its arguments read as before; there is no condition. -/
import Derived.Test.YtmhkmmmompediaaGreatG5
set_option linter.unusedVariables false
set_option linter.unusedSimpArgs false
/- Contract of pairinglaw28.known. -/
namespace Go.Proofs.YtmhkmmmompediaaGreat
open Go.RowKit

/-- Prices of two zero values. -/
def PrZ (m : World) (v : Value) : Prop := ∃ A c, v = .agg #[.slice A 2 c, .slice none 0 0, .slice none 0 0, .slice none 0 0, .bool false] ∧ SFL m (.slice A 2 c) kF2
theorem SFL.le {m m' : World} {v : Value} {ps : List SF} (h : SFL m v ps) (hb : Le m m') : SFL m' v ps := ListV.le (R := SFr) (fun _ _ _ _ h hb => FracS.le h hb) h hb
theorem PrZ.le {m m' : World} {v : Value} (h : PrZ m v) (hb : Le m m') : PrZ m' v := by
  obtain ⟨A, c, e, h⟩ := h
  exact ⟨A, c, e, SFL.le h hb⟩
theorem kz2 (m : World) (g : Nat) (hb : Blk m g 39 (madeCells #[.bool false, .slice none 0 0, .bool false, .slice none 0 0] (2 * 4))) : SFL m (.slice (some ⟨g, 0, none⟩) 2 2) kF2 :=
  ListV.mk (vs := [.agg #[.bool false, .slice none 0 0, .bool false, .slice none 0 0], .agg #[.bool false, .slice none 0 0, .bool false, .slice none 0 0]]) (by omega) rfl
    (fun u hu => by simp at hu; subst hu; rfl) (Blk.sl hb (n := 8) (by kernel_rfl)) ⟨frac0 m, frac0 m, trivial⟩
theorem kB1 (g n0 c0 : Nat) (F : Option Addr) (cf : Nat) (lv : Value) (w m : World) (hV : Vw m w) (hr : IntL m (.slice (some ⟨g, 0, none⟩) 2 2) [0, 1]) (hf : SFL m (.slice F 2 cf) kF1) (hl : FracC m lv ((3 : Int) : Rat)) :
    Calls Tryz.prog 18 #[.agg #[.int .i64 2, .slice (some ⟨g, 0, none⟩) 2 2, .int .i64 10, .slice none 0 0, .slice none 0 0], .agg #[.slice F 2 cf, .slice none 0 0, .slice none 0 0, .slice none 0 0, .bool false], lv] w
      (RetV w m fun m' r => BdR m' r ((20 : Int) : Rat)) := by
  have h := l_Bound0 (some ⟨g, 0, none⟩) none none F none none none 2 2 2 0 0 cf 0 0 0 10 [0, 1] kF1 lv (3, 1) w m hV hr hf (toSI hl (by decide)) (by omega) rfl rfl (by omega) (by omega) (by omega) (by omega) kasc
    (fun p hp => by simp [kF1] at hp; subst hp; exact ⟨⟨by decide, by decide⟩, ⟨by decide, by decide⟩⟩)
    (fun k hk => by
      match k, hk with
      | 0, _ => rw [kb10]; exact SmI 0 (by decide)
      | 1, _ => rw [kb11]; exact SmI 10 (by decide)
      | 2, _ => rw [kb12]; exact SmI 20 (by decide)
      | k + 3, h => omega)
    ⟨by decide, by decide⟩ ⟨by decide, by decide⟩ (by rw [km1]; exact SmI 0 (by decide))
  rw [kv1] at h
  exact h
theorem kB2 (g : Nat) (pv lv : Value) (w m : World) (hV : Vw m w) (hr : IntL m (.slice (some ⟨g, 0, none⟩) 2 2) [0, 1]) (hf : PrZ m pv) (hl : FracC m lv ((0 : Int) : Rat)) :
    Calls Tryz.prog 18 #[.agg #[.int .i64 2, .slice (some ⟨g, 0, none⟩) 2 2, .int .i64 10, .slice none 0 0, .slice none 0 0], pv, lv] w
      (RetV w m fun m' r => BdR m' r ((0 : Int) : Rat)) := by
  obtain ⟨F, cf, rfl, hf⟩ := hf
  have h := l_Bound0 (some ⟨g, 0, none⟩) none none F none none none 2 2 2 0 0 cf 0 0 0 10 [0, 1] kF2 lv (0, 1) w m hV hr hf (toSI hl (by decide)) (by omega) rfl rfl (by omega) (by omega) (by omega) (by omega) kasc
    (fun p hp => by simp [kF2] at hp; subst hp; exact ⟨⟨by decide, by decide⟩, ⟨by decide, by decide⟩⟩)
    (fun k hk => by
      match k, hk with
      | 0, _ => rw [kb20]; exact SmI 0 (by decide)
      | 1, _ => rw [kb21]; exact SmI 0 (by decide)
      | 2, _ => rw [kb22]; exact SmI 0 (by decide)
      | k + 3, h => omega)
    ⟨by decide, by decide⟩ ⟨by decide, by decide⟩ (by rw [km2]; exact SmI 0 (by decide))
  rw [kv2] at h
  exact h
theorem kCeil (v : Value) (w m : World) (hV : Vw m w) (h : FracC m v (Rat.divInt (-7) 2)) : Calls Tryz.prog 26 #[v] w (RetV w m fun _ r => r = .tuple #[.int .i64 (-3), .int .i64 0]) := by
  have e1 : (Rat.divInt (-7) 2).num = -7 := by kernel_rfl
  have e2 : (Rat.divInt (-7) 2).den = 2 := by kernel_rfl
  have := l_CeilInt v (Rat.divInt (-7) 2) w m hV h (by rw [e1]; decide) (by rw [e2]; decide) (.inl (by rw [e1]; decide)) (by rw [kcel]; decide) (by rw [kcel]; decide)
  rwa [kcel] at this
theorem kFit (z : Int) (h : z.natAbs ≤ 1000) : Fit 1000 (z : Rat) := ((Tn.int (k := 1000) h (by decide)).fit (by decide)).mono (by decide)

set_option maxRecDepth 100000 in
set_option maxHeartbeats 16000000 in
theorem k_known (w m : World) (hV : Vw m w) : Calls Tryz.prog 22 #[] w (RetV w m fun _ r => r = .bool true) := by
  have hL := Loc.start hV
  clear hV
  go_enter Tryz.func22, Tryz.ntmps22
  go_upto_region 1 with ((first | ((with_reducible refine kAny ?_); go_skip) | ((first | ((with_reducible refine kLd ?_); first | refine t_loadR hL rfl rfl ?_ | refine t_loadW hL rfl rfl ?_ | refine t_load2 hL rfl rfl ?_ | refine t_load1 hL rfl rfl ?_ | refine t_loadV hL.vw rfl rfl ?_ | refine t_loadV1 hL.vw rfl rfl ?_) | ((with_reducible refine kSt ?_); first | (refine t_storeR hL rfl rfl rfl ?_; clear hL; intro _ hL; simp only [zq2, zq3] at hL) | ((first | refine t_store hL rfl rfl rfl ?_ | refine t_sts hL rfl rfl rfl ?_ | refine t_sti hL rfl rfl rfl ?_ | refine t_stb hL rfl rfl rfl ?_ | refine t_store1 hL rfl rfl rfl ?_); clear hL; intro _ hL; simp only [splice, zq1, zq2, zq3] at hL)) | ((with_reducible refine kAl ?_); (refine t_alloc hL rfl ?_; clear hL; intro _ _ hL _))); simp only [Act.put, zq1, zq2, zq3])))
  refine wp_region_lit ?_
  refine wl_bslice hL (wanted_none rfl) rfl (n := 2) (cs := #[.int .i64 0, .int .i64 1]) (e := 3) (fun w => by go_simp) ?_
  clear hL
  intro Wa ma hL ea hba
  simp only [Act.put, zq1, zq2, zq3]
  have hrows : IntL ma (.slice (some ⟨w.heap.size, 0, none⟩) 2 2) [0, 1] := ListV.mk (vs := [.int .i64 0, .int .i64 1]) (by omega) rfl (fun u hu => by simp at hu; rcases hu with rfl | rfl <;> rfl) (Blk.sl hba (n := 2) rfl) ⟨rfl, rfl, trivial⟩
  clear hba
  go_wp2_with (first | ((with_reducible refine kAny ?_); go_skip) | ((first | ((with_reducible refine kLd ?_); first | refine t_loadR hL rfl rfl ?_ | refine t_loadW hL rfl rfl ?_ | refine t_load2 hL rfl rfl ?_ | refine t_load1 hL rfl rfl ?_ | refine t_loadV hL.vw rfl rfl ?_ | refine t_loadV1 hL.vw rfl rfl ?_) | ((with_reducible refine kSt ?_); first | (refine t_storeR hL rfl rfl rfl ?_; clear hL; intro _ hL; simp only [zq2, zq3] at hL) | ((first | refine t_store hL rfl rfl rfl ?_ | refine t_sts hL rfl rfl rfl ?_ | refine t_sti hL rfl rfl rfl ?_ | refine t_stb hL rfl rfl rfl ?_ | refine t_store1 hL rfl rfl rfl ?_); clear hL; intro _ hL; simp only [splice, zq1, zq2, zq3] at hL)) | ((with_reducible refine kAl ?_); (refine t_alloc hL rfl ?_; clear hL; intro _ _ hL _))); simp only [Act.put, zq1, zq2, zq3]))
  refine (r_Int 20 _ _ hL.vw (by decide) (by decide)).mono ?_
  rintro e Wc1 ⟨vc1, mc1, rfl, hE, hMc1, hV, hc1⟩
  replace hL := hL.call hE (by assumption) hV; clear hE hV
  obtain ⟨gc1', Ac1', nc1', cc1', hc1', Bc1', kc1', dc1', rfl, hc1⟩ := hc1.lit
  go_wp2_with (first | ((with_reducible refine kAny ?_); go_skip) | ((first | ((with_reducible refine kLd ?_); first | refine t_loadR hL rfl rfl ?_ | refine t_loadW hL rfl rfl ?_ | refine t_load2 hL rfl rfl ?_ | refine t_load1 hL rfl rfl ?_ | refine t_loadV hL.vw rfl rfl ?_ | refine t_loadV1 hL.vw rfl rfl ?_) | ((with_reducible refine kSt ?_); first | (refine t_storeR hL rfl rfl rfl ?_; clear hL; intro _ hL; simp only [zq2, zq3] at hL) | ((first | refine t_store hL rfl rfl rfl ?_ | refine t_sts hL rfl rfl rfl ?_ | refine t_sti hL rfl rfl rfl ?_ | refine t_stb hL rfl rfl rfl ?_ | refine t_store1 hL rfl rfl rfl ?_); clear hL; intro _ hL; simp only [splice, zq1, zq2, zq3] at hL)) | ((with_reducible refine kAl ?_); (refine t_alloc hL rfl ?_; clear hL; intro _ _ hL _))); simp only [Act.put, zq1, zq2, zq3]))
  refine (r_Int 20 _ _ hL.vw (by decide) (by decide)).mono ?_
  rintro e Wc2 ⟨vc2, mc2, rfl, hE, hMc2, hV, hc2⟩
  replace hL := hL.call hE (by assumption) hV; clear hE hV
  obtain ⟨gc2', Ac2', nc2', cc2', hc2', Bc2', kc2', dc2', rfl, hc2⟩ := hc2.lit
  go_upto_region 3 with ((first | (refine wl_bslice hL (wanted_none rfl) rfl (n := 2) (cs := #[.bool gc1', .slice Ac1' nc1' cc1', .bool hc1', .slice Bc1' kc1' dc1', .bool gc2', .slice Ac2' nc2' cc2', .bool hc2', .slice Bc2' kc2' dc2']) (e := 39) (fun w => by go_simp) ?_; clear hL; intro Wb mb hL eb hbb; simp only [Act.put, zq1, zq2, zq3]) | (first | ((with_reducible refine kAny ?_); go_skip) | ((first | ((with_reducible refine kLd ?_); first | refine t_loadR hL rfl rfl ?_ | refine t_loadW hL rfl rfl ?_ | refine t_load2 hL rfl rfl ?_ | refine t_load1 hL rfl rfl ?_ | refine t_loadV hL.vw rfl rfl ?_ | refine t_loadV1 hL.vw rfl rfl ?_) | ((with_reducible refine kSt ?_); first | (refine t_storeR hL rfl rfl rfl ?_; clear hL; intro _ hL; simp only [zq2, zq3] at hL) | ((first | refine t_store hL rfl rfl rfl ?_ | refine t_sts hL rfl rfl rfl ?_ | refine t_sti hL rfl rfl rfl ?_ | refine t_stb hL rfl rfl rfl ?_ | refine t_store1 hL rfl rfl rfl ?_); clear hL; intro _ hL; simp only [splice, zq1, zq2, zq3] at hL)) | ((with_reducible refine kAl ?_); (refine t_alloc hL rfl ?_; clear hL; intro _ _ hL _))); simp only [Act.put, zq1, zq2, zq3]))))
  have hfs : SFL mb (.slice (some ⟨Wc2.heap.size, 0, none⟩) 2 2) kF1 := ListV.mk (vs := [.agg #[.bool gc1', .slice Ac1' nc1' cc1', .bool hc1', .slice Bc1' kc1' dc1'], .agg #[.bool gc2', .slice Ac2' nc2' cc2', .bool hc2', .slice Bc2' kc2' dc2']]) (by omega) rfl (fun u hu => by simp at hu; rcases hu with rfl | rfl <;> rfl) (Blk.sl hbb (n := 8) rfl) ⟨(toSI hc1 (by decide)).le leX, (toSI hc2 (by decide)).le leX, trivial⟩
  have hrb := IntL.le hrows (leX : Le ma mb)
  clear hrows hbb hc1 hc2
  obtain ⟨B, hB1, hB2, hB3⟩ := hL.bound
  refine wp_region_by2 8 [false, false, false, false, false, false, false, true] [false, false, false, false, false, false, true, false] [(fun v _ _ => v = ?c3_0), (fun v _ _ => v = ?c3_1), Of (fun um v => FracC um v ((3 : Int) : Rat)), Of (fun um v => BdR um v ((20 : Int) : Rat)), Of (fun um v => BdR um v ((20 : Int) : Rat)), Of (fun um v => FracC um v ((20 : Int) : Rat)), Is (.int .i64 0), NewBlk B 39 #[.bool false, .slice none 0 0, .bool false, .slice none 0 0]] hL.vw mixed [16, 17, 18, 19, 15, 20, 21, 3] _ (by kernel_rfl) (fun vs => by simp only [lay, Act.put, zq1, zq2, zq3]; rfl) (by kernel_rfl) (by decide) (by decide) ?s3 ?l3 ?r3
  case s3 =>
    refine ⟨?_, ?_, ?_, ?_, ?_, ?_, ?_, ?_, trivial⟩
    · intro vs W1 m1 hE hM hV hD
      clear hD
      replace hL := hL.call hE hM hV
      exact sLd
    · intro vs W1 m1 hE hM hV hD
      clear hD
      replace hL := hL.call hE hM hV
      exact sLd
    · intro vs W1 m1 hE hM hV hD
      clear hD
      go_wp2_with fail
      refine (r_Int 3 _ _ hV (by decide) (by decide)).mono ?_
      rintro e W2 ⟨v, m2, rfl, hE2, hM2, hV2, h⟩
      go_wp2_with fail
      refine One2.call hE2 hM2 hV2 ?_; first | exact h | exact rfl
    · intro vs W1 m1 hE hM hV hD
      obtain ⟨⟨_, _, -, -, f16⟩, ⟨_, _, -, -, f17⟩, ⟨_, _, -, i18, f18⟩, -, -⟩ := hD
      have f16 : vs 16 = _ := f16
      generalize vs 16 = x16 at f16 ⊢
      subst x16
      have f17 : vs 17 = _ := f17
      generalize vs 17 = x17 at f17 ⊢
      subst x17
      have f18 : FracC _ (vs 18) ((3 : Int) : Rat) := f18
      replace f18 := f18.le i18.le
      clear i18
      go_wp2_with fail
      refine (kB1 _ 0 0 _ _ _ _ _ hV (IntL.le hrb leX) (SFL.le hfs leX) f18).mono ?_
      rintro e W2 ⟨v, m2, rfl, hE2, hM2, hV2, h⟩
      go_wp2_with fail
      refine One2.call hE2 hM2 hV2 ?_; first | exact h | exact rfl
    · intro vs W1 m1 hE hM hV hD
      obtain ⟨⟨_, _, -, i19, f19⟩, -⟩ := hD
      have f19 : BdR _ (vs 19) ((20 : Int) : Rat) := f19
      replace f19 := f19.le i19.le
      clear i19
      go_wp2_with fail
      refine One2.still hV ?_; exact f19
    · intro vs W1 m1 hE hM hV hD
      obtain ⟨⟨_, _, -, i15, f15⟩, -⟩ := hD
      have f15 : BdR _ (vs 15) ((20 : Int) : Rat) := f15
      replace f15 := f15.le i15.le
      clear i15
      obtain ⟨r0, e15, k⟩ := f15
      generalize vs 15 = x15 at e15 ⊢
      subst x15
      replace hL := hL.call hE hM hV
      go_wp2_with (first | ((with_reducible refine kAny ?_); go_skip) | ((first | ((with_reducible refine kLd ?_); first | refine t_loadR hL rfl rfl ?_ | refine t_loadW hL rfl rfl ?_ | refine t_load2 hL rfl rfl ?_ | refine t_load1 hL rfl rfl ?_ | refine t_loadV hL.vw rfl rfl ?_ | refine t_loadV1 hL.vw rfl rfl ?_) | ((with_reducible refine kSt ?_); first | (refine t_storeR hL rfl rfl rfl ?_; clear hL; intro _ hL; simp only [zq2, zq3] at hL) | ((first | refine t_store hL rfl rfl rfl ?_ | refine t_sts hL rfl rfl rfl ?_ | refine t_sti hL rfl rfl rfl ?_ | refine t_stb hL rfl rfl rfl ?_ | refine t_store1 hL rfl rfl rfl ?_); clear hL; intro _ hL; simp only [splice, zq1, zq2, zq3] at hL)) | ((with_reducible refine kAl ?_); (refine t_alloc hL rfl ?_; clear hL; intro _ _ hL _))); simp only [Act.put, zq1, zq2, zq3]))
      refine One2.still hV ?_; exact k
    · intro vs W1 m1 hE hM hV hD
      obtain ⟨⟨_, _, -, i15, f15⟩, -, -⟩ := hD
      have f15 : BdR _ (vs 15) ((20 : Int) : Rat) := f15
      replace f15 := f15.le i15.le
      clear i15
      obtain ⟨r0, e15, k⟩ := f15
      generalize vs 15 = x15 at e15 ⊢
      subst x15
      replace hL := hL.call hE hM hV
      go_wp2_with (first | ((with_reducible refine kAny ?_); go_skip) | ((first | ((with_reducible refine kLd ?_); first | refine t_loadR hL rfl rfl ?_ | refine t_loadW hL rfl rfl ?_ | refine t_load2 hL rfl rfl ?_ | refine t_load1 hL rfl rfl ?_ | refine t_loadV hL.vw rfl rfl ?_ | refine t_loadV1 hL.vw rfl rfl ?_) | ((with_reducible refine kSt ?_); first | (refine t_storeR hL rfl rfl rfl ?_; clear hL; intro _ hL; simp only [zq2, zq3] at hL) | ((first | refine t_store hL rfl rfl rfl ?_ | refine t_sts hL rfl rfl rfl ?_ | refine t_sti hL rfl rfl rfl ?_ | refine t_stb hL rfl rfl rfl ?_ | refine t_store1 hL rfl rfl rfl ?_); clear hL; intro _ hL; simp only [splice, zq1, zq2, zq3] at hL)) | ((with_reducible refine kAl ?_); (refine t_alloc hL rfl ?_; clear hL; intro _ _ hL _))); simp only [Act.put, zq1, zq2, zq3]))
      refine One2.still hV ?_; exact rfl
    · intro vs W1 m1 hE hM hV hD
      clear hD
      exact one2_alloc hV (Nat.le_trans hB3 hE.size) rfl rfl rfl ZcC.h
  case l3 =>
    refine ⟨fun h => (by cases h), fun h => (by cases h), fun h => (by cases h), fun h => (by cases h), fun h => (by cases h), fun h => (by cases h), fun _ => ?_, fun h => (by cases h), trivial⟩
    · intro vs W1 m1 hE hM hV hD
      obtain ⟨⟨_, _, -, i15, f15⟩, -, -⟩ := hD
      have f15 : BdR _ (vs 15) ((20 : Int) : Rat) := f15
      replace f15 := f15.le i15.le
      clear i15
      obtain ⟨r0, e15, k⟩ := f15
      generalize vs 15 = x15 at e15 ⊢
      subst x15
      exact ⟨_, Or.inl ⟨(by rfl), fun w => (by rfl)⟩, rfl⟩
  intro vs W1 m1 hE hM hV hF hD
  obtain ⟨-, -, ⟨_, _, -, i18, f18⟩, ⟨_, _, -, i19, f19⟩, ⟨_, _, -, i15, f15⟩, ⟨_, _, -, i20, f20⟩, ⟨_, _, -, -, f21⟩, ⟨_, _, j3, i3, f3⟩, -⟩ := hF
  replace hL := hL.call hE hM hV
  replace f18 : FracC _ (vs 18) ((3 : Int) : Rat) := f18
  replace f18 := f18.le i18.le
  clear i18
  replace f19 : BdR _ (vs 19) ((20 : Int) : Rat) := f19
  replace f19 := f19.le i19.le
  clear i19
  replace f15 : BdR _ (vs 15) ((20 : Int) : Rat) := f15
  replace f15 := f15.le i15.le
  clear i15
  replace f20 : FracC _ (vs 20) ((20 : Int) : Rat) := f20
  replace f20 := f20.le i20.le
  clear i20
  obtain ⟨g20, A20, n20, c20, h20, B20, k20, d20, e20, f20⟩ := f20.lit
  generalize vs 20 = x20 at e20 ⊢
  subst x20
  have f21 : vs 21 = _ := f21
  generalize vs 21 = x21 at f21 ⊢
  subst x21
  obtain ⟨b3, e3, hL⟩ := Loc.addB (Lt := []) hB1 hB2 hL f3 j3 i3 ad0
  simp only [e3, List.cons_append, List.nil_append] at hL ⊢
  clear e3 f3 j3 i3
  clear hB1 hB2 hB3 hD
  clear hE hV
  simp only [List.drop_succ_cons, List.drop_zero]
  go_wp2_with (first | ((with_reducible refine kAny ?_); go_skip) | ((first | ((with_reducible refine kLd ?_); first | refine t_loadR hL rfl rfl ?_ | refine t_loadW hL rfl rfl ?_ | refine t_load2 hL rfl rfl ?_ | refine t_load1 hL rfl rfl ?_ | refine t_loadV hL.vw rfl rfl ?_ | refine t_loadV1 hL.vw rfl rfl ?_) | ((with_reducible refine kSt ?_); first | (refine t_storeR hL rfl rfl rfl ?_; clear hL; intro _ hL; simp only [zq2, zq3] at hL) | ((first | refine t_store hL rfl rfl rfl ?_ | refine t_sts hL rfl rfl rfl ?_ | refine t_sti hL rfl rfl rfl ?_ | refine t_stb hL rfl rfl rfl ?_ | refine t_store1 hL rfl rfl rfl ?_); clear hL; intro _ hL; simp only [splice, zq1, zq2, zq3] at hL)) | ((with_reducible refine kAl ?_); (refine t_alloc hL rfl ?_; clear hL; intro _ _ hL _))); simp only [Act.put, zq1, zq2, zq3]))
  refine QN.mk ?_
  have h20 : FracC m1 _ ((20 : Int) : Rat) := f20
  clear f20
  have hrc := IntL.le hrb (leX : Le mb m1)
  go_upto_region 4 with ((first | ((with_reducible refine kAny ?_); go_skip) | ((first | ((with_reducible refine kLd ?_); first | refine t_loadR hL rfl rfl ?_ | refine t_loadW hL rfl rfl ?_ | refine t_load2 hL rfl rfl ?_ | refine t_load1 hL rfl rfl ?_ | refine t_loadV hL.vw rfl rfl ?_ | refine t_loadV1 hL.vw rfl rfl ?_) | ((with_reducible refine kSt ?_); first | (refine t_storeR hL rfl rfl rfl ?_; clear hL; intro _ hL; simp only [zq2, zq3] at hL) | ((first | refine t_store hL rfl rfl rfl ?_ | refine t_sts hL rfl rfl rfl ?_ | refine t_sti hL rfl rfl rfl ?_ | refine t_stb hL rfl rfl rfl ?_ | refine t_store1 hL rfl rfl rfl ?_); clear hL; intro _ hL; simp only [splice, zq1, zq2, zq3] at hL)) | ((with_reducible refine kAl ?_); (refine t_alloc hL rfl ?_; clear hL; intro _ _ hL _))); simp only [Act.put, zq1, zq2, zq3])))
  obtain ⟨B, hB1, hB2, hB3⟩ := hL.bound
  refine wp_region_by2 9 [false, false, false, false, false, false, false, false, true] [false, false, false, false, false, false, false, true, false] [(fun v _ _ => v = ?c4_0), Of (fun um v => SFL um v kF2), Of (fun um v => PrZ um v), Of (fun um v => FracC um v ((0 : Int) : Rat)), Of (fun um v => BdR um v ((0 : Int) : Rat)), Of (fun um v => BdR um v ((0 : Int) : Rat)), Of (fun um v => FracC um v ((0 : Int) : Rat)), Is (.int .i64 0), NewBlk B 39 #[.bool false, .slice none 0 0, .bool false, .slice none 0 0]] hL.vw mixed [23, 24, 25, 26, 27, 22, 28, 29, 5] _ (by kernel_rfl) (fun vs => by simp only [lay, Act.put, zq1, zq2, zq3]; rfl) (by kernel_rfl) (by decide) (by decide) ?s4 ?l4 ?r4
  case s4 =>
    refine ⟨?_, ?_, ?_, ?_, ?_, ?_, ?_, ?_, ?_, trivial⟩
    · intro vs W1 m1 hE hM hV hD
      clear hD
      replace hL := hL.call hE hM hV
      exact sLd
    · intro vs W1 m1 hE hM hV hD
      clear hD
      (exact one2_makeV (b := 0) hV rfl rfl rfl ap_Fracs zc_Frac rfl (by omega) (by omega) (fun m' g _ hb => kz2 m' g hb))
    · intro vs W1 m1 hE hM hV hD
      obtain ⟨⟨_, _, -, i24, f24⟩, -⟩ := hD
      have f24 : SFL _ (vs 24) kF2 := f24
      replace f24 := f24.le i24.le
      clear i24
      (obtain ⟨A24, c24, e24, hc24, f24⟩ := f24.lit; generalize vs 24 = x24 at e24 ⊢; subst x24; go_wp2_with fail; refine One2.still hV ?_; exact ⟨_, _, rfl, f24⟩)
    · intro vs W1 m1 hE hM hV hD
      clear hD
      go_wp2_with fail
      refine (r_Int 0 _ _ hV (by decide) (by decide)).mono ?_
      rintro e W2 ⟨v, m2, rfl, hE2, hM2, hV2, h⟩
      go_wp2_with fail
      refine One2.call hE2 hM2 hV2 ?_; first | exact h | exact rfl
    · intro vs W1 m1 hE hM hV hD
      obtain ⟨⟨_, _, -, -, f23⟩, ⟨_, _, -, i25, f25⟩, ⟨_, _, -, i26, f26⟩, -, -⟩ := hD
      have f23 : vs 23 = _ := f23
      generalize vs 23 = x23 at f23 ⊢
      subst x23
      have f25 : PrZ _ (vs 25) := f25
      replace f25 := f25.le i25.le
      clear i25
      have f26 : FracC _ (vs 26) ((0 : Int) : Rat) := f26
      replace f26 := f26.le i26.le
      clear i26
      go_wp2_with fail
      refine (kB2 _ _ _ _ _ hV (IntL.le hrc leX) f25 f26).mono ?_
      rintro e W2 ⟨v, m2, rfl, hE2, hM2, hV2, h⟩
      go_wp2_with fail
      refine One2.call hE2 hM2 hV2 ?_; first | exact h | exact rfl
    · intro vs W1 m1 hE hM hV hD
      obtain ⟨⟨_, _, -, i27, f27⟩, -⟩ := hD
      have f27 : BdR _ (vs 27) ((0 : Int) : Rat) := f27
      replace f27 := f27.le i27.le
      clear i27
      go_wp2_with fail
      refine One2.still hV ?_; exact f27
    · intro vs W1 m1 hE hM hV hD
      obtain ⟨⟨_, _, -, i22, f22⟩, -⟩ := hD
      have f22 : BdR _ (vs 22) ((0 : Int) : Rat) := f22
      replace f22 := f22.le i22.le
      clear i22
      obtain ⟨r0, e22, k⟩ := f22
      generalize vs 22 = x22 at e22 ⊢
      subst x22
      replace hL := hL.call hE hM hV
      go_wp2_with (first | ((with_reducible refine kAny ?_); go_skip) | ((first | ((with_reducible refine kLd ?_); first | refine t_loadR hL rfl rfl ?_ | refine t_loadW hL rfl rfl ?_ | refine t_load2 hL rfl rfl ?_ | refine t_load1 hL rfl rfl ?_ | refine t_loadV hL.vw rfl rfl ?_ | refine t_loadV1 hL.vw rfl rfl ?_) | ((with_reducible refine kSt ?_); first | (refine t_storeR hL rfl rfl rfl ?_; clear hL; intro _ hL; simp only [zq2, zq3] at hL) | ((first | refine t_store hL rfl rfl rfl ?_ | refine t_sts hL rfl rfl rfl ?_ | refine t_sti hL rfl rfl rfl ?_ | refine t_stb hL rfl rfl rfl ?_ | refine t_store1 hL rfl rfl rfl ?_); clear hL; intro _ hL; simp only [splice, zq1, zq2, zq3] at hL)) | ((with_reducible refine kAl ?_); (refine t_alloc hL rfl ?_; clear hL; intro _ _ hL _))); simp only [Act.put, zq1, zq2, zq3]))
      refine One2.still hV ?_; exact k
    · intro vs W1 m1 hE hM hV hD
      obtain ⟨⟨_, _, -, i22, f22⟩, -, -⟩ := hD
      have f22 : BdR _ (vs 22) ((0 : Int) : Rat) := f22
      replace f22 := f22.le i22.le
      clear i22
      obtain ⟨r0, e22, k⟩ := f22
      generalize vs 22 = x22 at e22 ⊢
      subst x22
      replace hL := hL.call hE hM hV
      go_wp2_with (first | ((with_reducible refine kAny ?_); go_skip) | ((first | ((with_reducible refine kLd ?_); first | refine t_loadR hL rfl rfl ?_ | refine t_loadW hL rfl rfl ?_ | refine t_load2 hL rfl rfl ?_ | refine t_load1 hL rfl rfl ?_ | refine t_loadV hL.vw rfl rfl ?_ | refine t_loadV1 hL.vw rfl rfl ?_) | ((with_reducible refine kSt ?_); first | (refine t_storeR hL rfl rfl rfl ?_; clear hL; intro _ hL; simp only [zq2, zq3] at hL) | ((first | refine t_store hL rfl rfl rfl ?_ | refine t_sts hL rfl rfl rfl ?_ | refine t_sti hL rfl rfl rfl ?_ | refine t_stb hL rfl rfl rfl ?_ | refine t_store1 hL rfl rfl rfl ?_); clear hL; intro _ hL; simp only [splice, zq1, zq2, zq3] at hL)) | ((with_reducible refine kAl ?_); (refine t_alloc hL rfl ?_; clear hL; intro _ _ hL _))); simp only [Act.put, zq1, zq2, zq3]))
      refine One2.still hV ?_; exact rfl
    · intro vs W1 m1 hE hM hV hD
      clear hD
      exact one2_alloc hV (Nat.le_trans hB3 hE.size) rfl rfl rfl ZcC.h
  case l4 =>
    refine ⟨fun h => (by cases h), fun h => (by cases h), fun h => (by cases h), fun h => (by cases h), fun h => (by cases h), fun h => (by cases h), fun h => (by cases h), fun _ => ?_, fun h => (by cases h), trivial⟩
    · intro vs W1 m1 hE hM hV hD
      obtain ⟨⟨_, _, -, i22, f22⟩, -, -⟩ := hD
      have f22 : BdR _ (vs 22) ((0 : Int) : Rat) := f22
      replace f22 := f22.le i22.le
      clear i22
      obtain ⟨r0, e22, k⟩ := f22
      generalize vs 22 = x22 at e22 ⊢
      subst x22
      exact ⟨_, Or.inl ⟨(by rfl), fun w => (by rfl)⟩, rfl⟩
  intro vs W1 m1 hE hM hV hF hD
  obtain ⟨-, ⟨_, _, -, i24, f24⟩, ⟨_, _, -, i25, f25⟩, ⟨_, _, -, i26, f26⟩, ⟨_, _, -, i27, f27⟩, ⟨_, _, -, i22, f22⟩, ⟨_, _, -, i28, f28⟩, ⟨_, _, -, -, f29⟩, ⟨_, _, j5, i5, f5⟩, -⟩ := hF
  replace hL := hL.call hE hM hV
  replace f24 : SFL _ (vs 24) kF2 := f24
  replace f24 := f24.le i24.le
  clear i24
  replace f25 : PrZ _ (vs 25) := f25
  replace f25 := f25.le i25.le
  clear i25
  replace f26 : FracC _ (vs 26) ((0 : Int) : Rat) := f26
  replace f26 := f26.le i26.le
  clear i26
  replace f27 : BdR _ (vs 27) ((0 : Int) : Rat) := f27
  replace f27 := f27.le i27.le
  clear i27
  replace f22 : BdR _ (vs 22) ((0 : Int) : Rat) := f22
  replace f22 := f22.le i22.le
  clear i22
  replace f28 : FracC _ (vs 28) ((0 : Int) : Rat) := f28
  replace f28 := f28.le i28.le
  clear i28
  obtain ⟨g28, A28, n28, c28, h28, B28, k28, d28, e28, f28⟩ := f28.lit
  generalize vs 28 = x28 at e28 ⊢
  subst x28
  have f29 : vs 29 = _ := f29
  generalize vs 29 = x29 at f29 ⊢
  subst x29
  obtain ⟨b5, e5, hL⟩ := Loc.addB (Lt := []) hB1 hB2 hL f5 j5 i5 ad0
  simp only [e5, List.cons_append, List.nil_append] at hL ⊢
  clear e5 f5 j5 i5
  clear hB1 hB2 hB3 hD
  clear hE hV
  simp only [List.drop_succ_cons, List.drop_zero]
  go_wp2_with (first | ((with_reducible refine kAny ?_); go_skip) | ((first | ((with_reducible refine kLd ?_); first | refine t_loadR hL rfl rfl ?_ | refine t_loadW hL rfl rfl ?_ | refine t_load2 hL rfl rfl ?_ | refine t_load1 hL rfl rfl ?_ | refine t_loadV hL.vw rfl rfl ?_ | refine t_loadV1 hL.vw rfl rfl ?_) | ((with_reducible refine kSt ?_); first | (refine t_storeR hL rfl rfl rfl ?_; clear hL; intro _ hL; simp only [zq2, zq3] at hL) | ((first | refine t_store hL rfl rfl rfl ?_ | refine t_sts hL rfl rfl rfl ?_ | refine t_sti hL rfl rfl rfl ?_ | refine t_stb hL rfl rfl rfl ?_ | refine t_store1 hL rfl rfl rfl ?_); clear hL; intro _ hL; simp only [splice, zq1, zq2, zq3] at hL)) | ((with_reducible refine kAl ?_); (refine t_alloc hL rfl ?_; clear hL; intro _ _ hL _))); simp only [Act.put, zq1, zq2, zq3]))
  refine QN.mk ?_
  have h28 : FracC m1 _ ((0 : Int) : Rat) := f28
  replace h20 : FracC m1 _ ((20 : Int) : Rat) := h20.le leX
  clear f28 f24 f25 f26 f27 hrc hrb hfs
  go_wp2_with (first | ((with_reducible refine kAny ?_); go_skip) | ((first | ((with_reducible refine kLd ?_); first | refine t_loadR hL rfl rfl ?_ | refine t_loadW hL rfl rfl ?_ | refine t_load2 hL rfl rfl ?_ | refine t_load1 hL rfl rfl ?_ | refine t_loadV hL.vw rfl rfl ?_ | refine t_loadV1 hL.vw rfl rfl ?_) | ((with_reducible refine kSt ?_); first | (refine t_storeR hL rfl rfl rfl ?_; clear hL; intro _ hL; simp only [zq2, zq3] at hL) | ((first | refine t_store hL rfl rfl rfl ?_ | refine t_sts hL rfl rfl rfl ?_ | refine t_sti hL rfl rfl rfl ?_ | refine t_stb hL rfl rfl rfl ?_ | refine t_store1 hL rfl rfl rfl ?_); clear hL; intro _ hL; simp only [splice, zq1, zq2, zq3] at hL)) | ((with_reducible refine kAl ?_); (refine t_alloc hL rfl ?_; clear hL; intro _ _ hL _))); simp only [Act.put, zq1, zq2, zq3]))
  refine (r_Int (-7) _ _ hL.vw (by decide) (by decide)).mono ?_
  rintro e Wc5 ⟨vc5, mc5, rfl, hE, hMc5, hV, hc5⟩
  replace hL := hL.call hE (by assumption) hV; clear hE hV
  obtain ⟨gc5', Ac5', nc5', cc5', hc5', Bc5', kc5', dc5', rfl, hc5⟩ := hc5.lit
  go_wp2_with (first | ((with_reducible refine kAny ?_); go_skip) | ((first | ((with_reducible refine kLd ?_); first | refine t_loadR hL rfl rfl ?_ | refine t_loadW hL rfl rfl ?_ | refine t_load2 hL rfl rfl ?_ | refine t_load1 hL rfl rfl ?_ | refine t_loadV hL.vw rfl rfl ?_ | refine t_loadV1 hL.vw rfl rfl ?_) | ((with_reducible refine kSt ?_); first | (refine t_storeR hL rfl rfl rfl ?_; clear hL; intro _ hL; simp only [zq2, zq3] at hL) | ((first | refine t_store hL rfl rfl rfl ?_ | refine t_sts hL rfl rfl rfl ?_ | refine t_sti hL rfl rfl rfl ?_ | refine t_stb hL rfl rfl rfl ?_ | refine t_store1 hL rfl rfl rfl ?_); clear hL; intro _ hL; simp only [splice, zq1, zq2, zq3] at hL)) | ((with_reducible refine kAl ?_); (refine t_alloc hL rfl ?_; clear hL; intro _ _ hL _))); simp only [Act.put, zq1, zq2, zq3]))
  refine (r_Int 2 _ _ hL.vw (by decide) (by decide)).mono ?_
  rintro e Wc6 ⟨vc6, mc6, rfl, hE, hMc6, hV, hc6⟩
  replace hL := hL.call hE (by assumption) hV; clear hE hV
  obtain ⟨gc6', Ac6', nc6', cc6', hc6', Bc6', kc6', dc6', rfl, hc6⟩ := hc6.lit
  go_wp2_with (first | ((with_reducible refine kAny ?_); go_skip) | ((first | ((with_reducible refine kLd ?_); first | refine t_loadR hL rfl rfl ?_ | refine t_loadW hL rfl rfl ?_ | refine t_load2 hL rfl rfl ?_ | refine t_load1 hL rfl rfl ?_ | refine t_loadV hL.vw rfl rfl ?_ | refine t_loadV1 hL.vw rfl rfl ?_) | ((with_reducible refine kSt ?_); first | (refine t_storeR hL rfl rfl rfl ?_; clear hL; intro _ hL; simp only [zq2, zq3] at hL) | ((first | refine t_store hL rfl rfl rfl ?_ | refine t_sts hL rfl rfl rfl ?_ | refine t_sti hL rfl rfl rfl ?_ | refine t_stb hL rfl rfl rfl ?_ | refine t_store1 hL rfl rfl rfl ?_); clear hL; intro _ hL; simp only [splice, zq1, zq2, zq3] at hL)) | ((with_reducible refine kAl ?_); (refine t_alloc hL rfl ?_; clear hL; intro _ _ hL _))); simp only [Act.put, zq1, zq2, zq3]))
  refine (r_DivC _ _ _ _ _ _ hL.vw (hc5.le leX) hc6 ((Tn.int (k := 1000) (by decide) (by decide)).fit (by decide)) ((Tn.int (k := 1000) (by decide) (by decide)).fit (by decide))).mono ?_
  rintro e Wc7 ⟨vc7, mc7, rfl, hE, hMc7, hV, hc7⟩
  replace hL := hL.call hE (by assumption) hV; clear hE hV
  obtain ⟨gc7', Ac7', nc7', cc7', hc7', Bc7', kc7', dc7', rfl, hc7⟩ := hc7.lit
  rw [div_mix] at hc7
  go_wp2_with (first | ((with_reducible refine kAny ?_); go_skip) | ((first | ((with_reducible refine kLd ?_); first | refine t_loadR hL rfl rfl ?_ | refine t_loadW hL rfl rfl ?_ | refine t_load2 hL rfl rfl ?_ | refine t_load1 hL rfl rfl ?_ | refine t_loadV hL.vw rfl rfl ?_ | refine t_loadV1 hL.vw rfl rfl ?_) | ((with_reducible refine kSt ?_); first | (refine t_storeR hL rfl rfl rfl ?_; clear hL; intro _ hL; simp only [zq2, zq3] at hL) | ((first | refine t_store hL rfl rfl rfl ?_ | refine t_sts hL rfl rfl rfl ?_ | refine t_sti hL rfl rfl rfl ?_ | refine t_stb hL rfl rfl rfl ?_ | refine t_store1 hL rfl rfl rfl ?_); clear hL; intro _ hL; simp only [splice, zq1, zq2, zq3] at hL)) | ((with_reducible refine kAl ?_); (refine t_alloc hL rfl ?_; clear hL; intro _ _ hL _))); simp only [Act.put, zq1, zq2, zq3]))
  refine (kCeil _ _ _ hL.vw hc7).mono ?_
  rintro e Wc8 ⟨_, mc8, rfl, hE, hMc8, hV, rfl⟩
  replace hL := hL.call hE (by assumption) hV; clear hE hV
  replace h20 : FracC mc8 _ ((20 : Int) : Rat) := h20.le leX
  replace h28 : FracC mc8 _ ((0 : Int) : Rat) := h28.le leX
  clear hc5 hc6 hc7
  go_upto_region 6 with ((first | ((with_reducible refine kAny ?_); go_skip) | ((first | ((with_reducible refine kLd ?_); first | refine t_loadR hL rfl rfl ?_ | refine t_loadW hL rfl rfl ?_ | refine t_load2 hL rfl rfl ?_ | refine t_load1 hL rfl rfl ?_ | refine t_loadV hL.vw rfl rfl ?_ | refine t_loadV1 hL.vw rfl rfl ?_) | ((with_reducible refine kSt ?_); first | (refine t_storeR hL rfl rfl rfl ?_; clear hL; intro _ hL; simp only [zq2, zq3] at hL) | ((first | refine t_store hL rfl rfl rfl ?_ | refine t_sts hL rfl rfl rfl ?_ | refine t_sti hL rfl rfl rfl ?_ | refine t_stb hL rfl rfl rfl ?_ | refine t_store1 hL rfl rfl rfl ?_); clear hL; intro _ hL; simp only [splice, zq1, zq2, zq3] at hL)) | ((with_reducible refine kAl ?_); (refine t_alloc hL rfl ?_; clear hL; intro _ _ hL _))); simp only [Act.put, zq1, zq2, zq3])))
  refine wp_region_by2 24 [false, false, false, false, false, false, false, false, false, false, false, false, false, false, false, false, false, false, false, false, false, false, false, false] [false, false, false, false, false, false, false, false, false, false, false, false, false, false, false, false, false, false, false, false, false, false, false, false] [(fun v _ _ => v = ?c6_0), (fun v _ _ => v = ?c6_1), (fun v _ _ => v = ?c6_2), (fun v _ _ => v = ?c6_3), (fun v _ _ => v = ?c6_4), (fun v _ _ => v = ?c6_5), (fun v _ _ => v = ?c6_6), (fun v _ _ => v = ?c6_7), (fun v _ _ => v = ?c6_8), (fun v _ _ => v = ?c6_9), (fun v _ _ => v = ?c6_10), (fun v _ _ => v = ?c6_11), (fun v _ _ => v = ?c6_12), (fun v _ _ => v = ?c6_13), (fun v _ _ => v = ?c6_14), (fun v _ _ => v = ?c6_15), Of (fun um v => FracC um v ((20 : Int) : Rat)), Is (.bool true), (fun v _ _ => v = ?c6_18), (fun v _ _ => v = ?c6_19), (fun v _ _ => v = ?c6_20), Of (fun um v => FracC um v ((0 : Int) : Rat)), Is (.bool true), (fun v _ _ => v = ?c6_23)] hL.vw mixed [37, 38, 39, 40, 41, 42, 43, 44, 45, 46, 47, 48, 49, 50, 51, 52, 53, 54, 55, 56, 57, 58, 59, 60] _ (by kernel_rfl) (fun vs => by simp only [lay, Act.put, zq1, zq2, zq3]; rfl) (by kernel_rfl) (by decide) (by decide) ?s6 ?l6 ?r6
  case s6 =>
    refine ⟨?_, ?_, ?_, ?_, ?_, ?_, ?_, ?_, ?_, ?_, ?_, ?_, ?_, ?_, ?_, ?_, ?_, ?_, ?_, ?_, ?_, ?_, ?_, ?_, trivial⟩
    · intro vs W1 m1 hE hM hV hD
      clear hD
      replace hL := hL.call hE hM hV
      exact sPu
    · intro vs W1 m1 hE hM hV hD
      obtain ⟨⟨_, _, -, -, f37⟩, -⟩ := hD
      have f37 : vs 37 = _ := f37
      generalize vs 37 = x37 at f37 ⊢
      subst x37
      replace hL := hL.call hE hM hV
      exact sPu
    · intro vs W1 m1 hE hM hV hD
      obtain ⟨⟨_, _, -, -, f38⟩, -⟩ := hD
      have f38 : vs 38 = _ := f38
      generalize vs 38 = x38 at f38 ⊢
      subst x38
      replace hL := hL.call hE hM hV
      exact sPu
    · intro vs W1 m1 hE hM hV hD
      obtain ⟨⟨_, _, -, -, f39⟩, -⟩ := hD
      have f39 : vs 39 = _ := f39
      generalize vs 39 = x39 at f39 ⊢
      subst x39
      replace hL := hL.call hE hM hV
      exact sPu
    · intro vs W1 m1 hE hM hV hD
      obtain ⟨⟨_, _, -, -, f40⟩, ⟨_, _, -, -, f39⟩, -⟩ := hD
      have f40 : vs 40 = _ := f40
      generalize vs 40 = x40 at f40 ⊢
      subst x40
      have f39 : vs 39 = _ := f39
      generalize vs 39 = x39 at f39 ⊢
      subst x39
      replace hL := hL.call hE hM hV
      exact sPu
    · intro vs W1 m1 hE hM hV hD
      obtain ⟨⟨_, _, -, -, f39⟩, ⟨_, _, -, -, f41⟩, -⟩ := hD
      have f39 : vs 39 = _ := f39
      generalize vs 39 = x39 at f39 ⊢
      subst x39
      have f41 : vs 41 = _ := f41
      generalize vs 41 = x41 at f41 ⊢
      subst x41
      replace hL := hL.call hE hM hV
      exact sPu
    · intro vs W1 m1 hE hM hV hD
      obtain ⟨⟨_, _, -, -, f42⟩, -, -⟩ := hD
      have f42 : vs 42 = _ := f42
      generalize vs 42 = x42 at f42 ⊢
      subst x42
      replace hL := hL.call hE hM hV
      exact sPu
    · intro vs W1 m1 hE hM hV hD
      obtain ⟨⟨_, _, -, -, f43⟩, -⟩ := hD
      have f43 : vs 43 = _ := f43
      generalize vs 43 = x43 at f43 ⊢
      subst x43
      replace hL := hL.call hE hM hV
      exact sPu
    · intro vs W1 m1 hE hM hV hD
      obtain ⟨⟨_, _, -, -, f44⟩, ⟨_, _, -, -, f43⟩, -⟩ := hD
      have f44 : vs 44 = _ := f44
      generalize vs 44 = x44 at f44 ⊢
      subst x44
      have f43 : vs 43 = _ := f43
      generalize vs 43 = x43 at f43 ⊢
      subst x43
      replace hL := hL.call hE hM hV
      exact sPu
    · intro vs W1 m1 hE hM hV hD
      obtain ⟨⟨_, _, -, -, f43⟩, ⟨_, _, -, -, f45⟩, -⟩ := hD
      have f43 : vs 43 = _ := f43
      generalize vs 43 = x43 at f43 ⊢
      subst x43
      have f45 : vs 45 = _ := f45
      generalize vs 45 = x45 at f45 ⊢
      subst x45
      replace hL := hL.call hE hM hV
      exact sPu
    · intro vs W1 m1 hE hM hV hD
      obtain ⟨⟨_, _, -, -, f46⟩, -, -⟩ := hD
      have f46 : vs 46 = _ := f46
      generalize vs 46 = x46 at f46 ⊢
      subst x46
      replace hL := hL.call hE hM hV
      exact sPu
    · intro vs W1 m1 hE hM hV hD
      obtain ⟨⟨_, _, -, -, f47⟩, -⟩ := hD
      have f47 : vs 47 = _ := f47
      generalize vs 47 = x47 at f47 ⊢
      subst x47
      replace hL := hL.call hE hM hV
      exact sPu
    · intro vs W1 m1 hE hM hV hD
      obtain ⟨⟨_, _, -, -, f48⟩, ⟨_, _, -, -, f47⟩, -⟩ := hD
      have f48 : vs 48 = _ := f48
      generalize vs 48 = x48 at f48 ⊢
      subst x48
      have f47 : vs 47 = _ := f47
      generalize vs 47 = x47 at f47 ⊢
      subst x47
      replace hL := hL.call hE hM hV
      exact sPu
    · intro vs W1 m1 hE hM hV hD
      obtain ⟨⟨_, _, -, -, f47⟩, ⟨_, _, -, -, f49⟩, -⟩ := hD
      have f47 : vs 47 = _ := f47
      generalize vs 47 = x47 at f47 ⊢
      subst x47
      have f49 : vs 49 = _ := f49
      generalize vs 49 = x49 at f49 ⊢
      subst x49
      replace hL := hL.call hE hM hV
      exact sPu
    · intro vs W1 m1 hE hM hV hD
      obtain ⟨⟨_, _, -, -, f50⟩, -, -⟩ := hD
      have f50 : vs 50 = _ := f50
      generalize vs 50 = x50 at f50 ⊢
      subst x50
      replace hL := hL.call hE hM hV
      exact sPu
    · intro vs W1 m1 hE hM hV hD
      obtain ⟨⟨_, _, -, -, f51⟩, -⟩ := hD
      have f51 : vs 51 = _ := f51
      generalize vs 51 = x51 at f51 ⊢
      subst x51
      replace hL := hL.call hE hM hV
      exact sLd
    · intro vs W1 m1 hE hM hV hD
      obtain ⟨⟨_, _, -, -, f51⟩, -, -⟩ := hD
      have f51 : vs 51 = _ := f51
      generalize vs 51 = x51 at f51 ⊢
      subst x51
      go_wp2_with fail
      refine (r_Int 20 _ _ hV (by decide) (by decide)).mono ?_
      rintro e W2 ⟨v, m2, rfl, hE2, hM2, hV2, h⟩
      go_wp2_with fail
      refine One2.call hE2 hM2 hV2 ?_; first | exact h | exact rfl
    · intro vs W1 m1 hE hM hV hD
      obtain ⟨⟨_, _, -, -, f52⟩, ⟨_, _, -, i53, f53⟩, -, ⟨_, _, -, -, f51⟩, -⟩ := hD
      have f52 : vs 52 = _ := f52
      generalize vs 52 = x52 at f52 ⊢
      subst x52
      have f51 : vs 51 = _ := f51
      generalize vs 51 = x51 at f51 ⊢
      subst x51
      have f53 : FracC _ (vs 53) ((20 : Int) : Rat) := f53
      replace f53 := f53.le i53.le
      clear i53
      go_wp2_with fail
      refine (r_Same _ _ ((20 : Int) : Rat) _ _ hV (h20.le leX) f53 (kFit 20 (by decide))).mono ?_
      rintro e W2 ⟨v, m2, rfl, hE2, hM2, hV2, h⟩
      go_wp2_with fail
      refine One2.call hE2 hM2 hV2 ?_; first | exact h | exact rfl
    · intro vs W1 m1 hE hM hV hD
      obtain ⟨⟨_, _, -, -, f51⟩, ⟨_, _, -, -, f54⟩, -⟩ := hD
      have f51 : vs 51 = _ := f51
      generalize vs 51 = x51 at f51 ⊢
      subst x51
      have f54 : vs 54 = _ := f54
      generalize vs 54 = x54 at f54 ⊢
      subst x54
      replace hL := hL.call hE hM hV
      exact sPu
    · intro vs W1 m1 hE hM hV hD
      obtain ⟨⟨_, _, -, -, f55⟩, -, -⟩ := hD
      have f55 : vs 55 = _ := f55
      generalize vs 55 = x55 at f55 ⊢
      subst x55
      replace hL := hL.call hE hM hV
      exact sPu
    · intro vs W1 m1 hE hM hV hD
      obtain ⟨⟨_, _, -, -, f56⟩, -⟩ := hD
      have f56 : vs 56 = _ := f56
      generalize vs 56 = x56 at f56 ⊢
      subst x56
      replace hL := hL.call hE hM hV
      exact sLd
    · intro vs W1 m1 hE hM hV hD
      obtain ⟨⟨_, _, -, -, f56⟩, -, -⟩ := hD
      have f56 : vs 56 = _ := f56
      generalize vs 56 = x56 at f56 ⊢
      subst x56
      go_wp2_with fail
      refine (r_Int 0 _ _ hV (by decide) (by decide)).mono ?_
      rintro e W2 ⟨v, m2, rfl, hE2, hM2, hV2, h⟩
      go_wp2_with fail
      refine One2.call hE2 hM2 hV2 ?_; first | exact h | exact rfl
    · intro vs W1 m1 hE hM hV hD
      obtain ⟨⟨_, _, -, -, f57⟩, ⟨_, _, -, i58, f58⟩, -, ⟨_, _, -, -, f56⟩, -⟩ := hD
      have f57 : vs 57 = _ := f57
      generalize vs 57 = x57 at f57 ⊢
      subst x57
      have f56 : vs 56 = _ := f56
      generalize vs 56 = x56 at f56 ⊢
      subst x56
      have f58 : FracC _ (vs 58) ((0 : Int) : Rat) := f58
      replace f58 := f58.le i58.le
      clear i58
      go_wp2_with fail
      refine (r_Same _ _ ((0 : Int) : Rat) _ _ hV (h28.le leX) f58 (kFit 0 (by decide))).mono ?_
      rintro e W2 ⟨v, m2, rfl, hE2, hM2, hV2, h⟩
      go_wp2_with fail
      refine One2.call hE2 hM2 hV2 ?_; first | exact h | exact rfl
    · intro vs W1 m1 hE hM hV hD
      obtain ⟨⟨_, _, -, -, f56⟩, ⟨_, _, -, -, f59⟩, -⟩ := hD
      have f56 : vs 56 = _ := f56
      generalize vs 56 = x56 at f56 ⊢
      subst x56
      have f59 : vs 59 = _ := f59
      generalize vs 59 = x59 at f59 ⊢
      subst x59
      replace hL := hL.call hE hM hV
      exact sPu
  case l6 =>
    refine ⟨fun h => (by cases h), fun h => (by cases h), fun h => (by cases h), fun h => (by cases h), fun h => (by cases h), fun h => (by cases h), fun h => (by cases h), fun h => (by cases h), fun h => (by cases h), fun h => (by cases h), fun h => (by cases h), fun h => (by cases h), fun h => (by cases h), fun h => (by cases h), fun h => (by cases h), fun h => (by cases h), fun h => (by cases h), fun h => (by cases h), fun h => (by cases h), fun h => (by cases h), fun h => (by cases h), fun h => (by cases h), fun h => (by cases h), fun h => (by cases h), trivial⟩
  intro vs W1 m1 hE hM hV hF hD
  clear hD
  obtain ⟨-, -, -, -, -, -, -, -, -, -, -, -, -, -, -, -, ⟨_, _, -, i53, f53⟩, -, -, -, -, ⟨_, _, -, i58, f58⟩, -, ⟨_, _, -, -, f60⟩, -⟩ := hF
  replace hL := hL.call hE hM hV
  replace f53 : FracC _ (vs 53) ((20 : Int) : Rat) := f53
  replace f53 := f53.le i53.le
  clear i53
  replace f58 : FracC _ (vs 58) ((0 : Int) : Rat) := f58
  replace f58 := f58.le i58.le
  clear i58
  have f60 : vs 60 = _ := f60
  generalize vs 60 = x60 at f60 ⊢
  subst x60
  clear hE hV
  simp only [List.drop_succ_cons, List.drop_zero]
  go_wp2_with (first | ((with_reducible refine kAny ?_); go_skip) | ((first | ((with_reducible refine kLd ?_); first | refine t_loadR hL rfl rfl ?_ | refine t_loadW hL rfl rfl ?_ | refine t_load2 hL rfl rfl ?_ | refine t_load1 hL rfl rfl ?_ | refine t_loadV hL.vw rfl rfl ?_ | refine t_loadV1 hL.vw rfl rfl ?_) | ((with_reducible refine kSt ?_); first | (refine t_storeR hL rfl rfl rfl ?_; clear hL; intro _ hL; simp only [zq2, zq3] at hL) | ((first | refine t_store hL rfl rfl rfl ?_ | refine t_sts hL rfl rfl rfl ?_ | refine t_sti hL rfl rfl rfl ?_ | refine t_stb hL rfl rfl rfl ?_ | refine t_store1 hL rfl rfl rfl ?_); clear hL; intro _ hL; simp only [splice, zq1, zq2, zq3] at hL)) | ((with_reducible refine kAl ?_); (refine t_alloc hL rfl ?_; clear hL; intro _ _ hL _))); simp only [Act.put, zq1, zq2, zq3]))
  refine QN.mk ?_
  go_wp2_with (first | ((with_reducible refine kAny ?_); go_skip) | ((first | ((with_reducible refine kLd ?_); first | refine t_loadR hL rfl rfl ?_ | refine t_loadW hL rfl rfl ?_ | refine t_load2 hL rfl rfl ?_ | refine t_load1 hL rfl rfl ?_ | refine t_loadV hL.vw rfl rfl ?_ | refine t_loadV1 hL.vw rfl rfl ?_) | ((with_reducible refine kSt ?_); first | (refine t_storeR hL rfl rfl rfl ?_; clear hL; intro _ hL; simp only [zq2, zq3] at hL) | ((first | refine t_store hL rfl rfl rfl ?_ | refine t_sts hL rfl rfl rfl ?_ | refine t_sti hL rfl rfl rfl ?_ | refine t_stb hL rfl rfl rfl ?_ | refine t_store1 hL rfl rfl rfl ?_); clear hL; intro _ hL; simp only [splice, zq1, zq2, zq3] at hL)) | ((with_reducible refine kAl ?_); (refine t_alloc hL rfl ?_; clear hL; intro _ _ hL _))); simp only [Act.put, zq1, zq2, zq3]))
  go_ret
  exact RetV.mk hL rfl
end Go.Proofs.YtmhkmmmompediaaGreat

/- Facts on the types of columns; what pairingdata.Column builds. -/
namespace Go.Proofs.YtmhkmmmompediaaGreat
open Go.RowKit

theorem ap_Tasks : apS Tryz.prog 113 = some (111, 2, 16, 2) := by kernel_rfl
instance iC0_1 : ApC Tryz.prog 113 111 2 16 := ⟨ap_Tasks⟩
theorem ap_Duties : apS Tryz.prog 68 = some (113, 1, 24, 1) := by kernel_rfl
instance iC0_2 : ApC Tryz.prog 68 113 1 24 := ⟨ap_Duties⟩
theorem ap_intss : apS Tryz.prog 95 = some (22, 1, 24, 1) := by kernel_rfl
instance iC0_3 : ApC Tryz.prog 95 22 1 24 := ⟨ap_intss⟩
theorem ag_Task : agS Tryz.prog 111 = some 2 := by kernel_rfl
instance iC0_4 : AgC Tryz.prog 111 2 := ⟨ag_Task⟩
theorem zc_Col : zc Tryz.prog 72 = some #[.string ⟨#[]⟩, .slice none 0 0, .int .i64 0] := by kernel_rfl
instance iC0_5 : ZcC Tryz.prog 72 #[.string ⟨#[]⟩, .slice none 0 0, .int .i64 0] := ⟨zc_Col⟩

theorem i64_mask (n : Int) (j : Nat) (z : Int) (hz : (BitVec.ofInt 64 z).toNat = 2 ^ j - 1) (hj : j ≤ 16) : bits .and .i64 n z = n % 2 ^ j := by
  have key : (BitVec.ofInt 64 n &&& BitVec.ofInt 64 z).toNat = (n % ((2 ^ 64 : Nat) : Int)).toNat % 2 ^ j := by
    rw [BitVec.toNat_and, BitVec.toNat_ofInt, hz, Nat.and_two_pow_sub_one_eq_mod]
  show IntKind.i64.wrap ((BitVec.ofInt 64 n &&& BitVec.ofInt 64 z).toNat : Nat) = n % 2 ^ j
  have hp : (2 : Nat) ^ j ≤ 2 ^ 16 := Nat.pow_le_pow_right (by omega) hj
  have hd : (2 : Int) ^ j ∣ ((2 ^ 64 : Nat) : Int) := by
    refine ⟨2 ^ (64 - j), ?_⟩
    rw [← Int.pow_add, show j + (64 - j) = 64 by omega]; rfl
  have e : (((n % ((2 ^ 64 : Nat) : Int)).toNat % 2 ^ j : Nat) : Int) = n % 2 ^ j := by
    rw [Int.natCast_emod, Int.toNat_of_nonneg (Int.emod_nonneg _ (by decide))]
    have : ((2 ^ j : Nat) : Int) = 2 ^ j := by simp
    rw [this, Int.emod_emod_of_dvd _ hd]
  rw [key, e, IntKind.wrap_i64]
  have h0 : 0 ≤ n % 2 ^ j := Int.emod_nonneg _ (by have : (0 : Int) < 2 ^ j := Int.pow_pos (by decide); omega)
  have h1 : n % 2 ^ j < 2 ^ j := Int.emod_lt_of_pos _ (Int.pow_pos (by decide))
  have h2 : (2 : Int) ^ j ≤ 65536 := by
    have h3 : ((2 ^ j : Nat) : Int) ≤ ((65536 : Nat) : Int) := Int.ofNat_le.2 hp
    rwa [Int.natCast_pow] at h3
  omega
theorem i64_and1 (n : Int) : bits .and .i64 n 1 = n % 2 := i64_mask n 1 1 (by decide) (by decide)
theorem i64_and3 (n : Int) : bits .and .i64 n 7 = n % 8 := i64_mask n 3 7 (by decide) (by decide)
theorem i64_and2' (n : Int) : bits .and .i64 n 3 = n % 4 := i64_mask n 2 3 (by decide) (by decide)

theorem Loc.less {w0 m0 W m : World} {A B : List Lo} (h : Loc w0 m0 W m A) (hs : B.Sublist A) : Loc w0 m0 W m B :=
  ⟨h.size0, h.ext, h.mext, h.vw, fun y hy => h.low y (hs.subset hy), fun y hy => h.blk y (hs.subset hy), fun y hy => h.hid y (hs.subset hy), h.apart.sublist hs⟩
theorem fin_aggR {P : Program} {fn : Func} {R : World → Value → Prop} {w m W mm m' : World} {Ls Lt : List Lo} (hL : Loc w m W mm Ls) {p : Nat} {ty : TypeId} (hr : fn.results = #[.cell p ty]) {a : Act} (hdf : a.defers = []) {g : Nat}
    (hp : a.tmps.getD p undef = .pointer (some ⟨g, 0, none⟩)) {n : Nat} {t : TypeId} {cs : Array Value} (hn : Ls[n]? = some (g, t, cs)) {k : Nat} (hty : agS P ty = some k) (hk : cs.size = k) (hL' : Loc w m W m' Lt) (h : R m' (.agg cs)) :
    bodyPost P fn (RetV w m R) .ret a W := by
  subst hk
  obtain ⟨d, hu, hd, hi⟩ := ag_desc hty
  exact bodyPost_ret (results_cell_row hr _ _ g t cs (0, 0) d hp (hL.at_ hn) hu (by cases d <;> first | rfl | exact hd) hi) hdf (RetV.mk hL' h)
abbrev Task := Int × Bool
def TaskR (_ : World) (v : Value) (x : Task) : Prop := v = .agg #[.int .i64 x.1, .bool x.2]
abbrev DutL := ListV (α := Task) 2 TaskR
theorem TaskR.mono (m m' : World) (v : Value) (x : Task) (h : TaskR m v x) (_ : Le m m') : TaskR m' v x := h
theorem DutL.le {m m' : World} {v : Value} {xs : List Task} (h : DutL m v xs) (hb : Le m m') : DutL m' v xs := ListV.le TaskR.mono h hb
theorem DutL.mono (m m' : World) (v : Value) (x : List Task) (h : DutL m v x) (hb : Le m m') : DutL m' v x := DutL.le h hb
abbrev DutsL := ListV (α := List Task) 1 DutL
theorem DutsL.le {m m' : World} {v : Value} {xs : List (List Task)} (h : DutsL m v xs) (hb : Le m m') : DutsL m' v xs := ListV.le DutL.mono h hb
abbrev Col := ByteArray × List (List Task) × Int
def ColR (m : World) (v : Value) (x : Col) : Prop := ∃ s, v = .agg #[.string x.1, s, .int .i64 x.2.2] ∧ DutsL m s x.2.1
theorem ColR.le {m m' : World} {v : Value} {x : Col} (h : ColR m v x) (hb : Le m m') : ColR m' v x := by
  obtain ⟨s, e, h⟩ := h
  exact ⟨s, e, DutsL.le h hb⟩
theorem ColR.mono (m m' : World) (v : Value) (x : Col) (h : ColR m v x) (hb : Le m m') : ColR m' v x := h.le hb
abbrev ColL := ListV (α := Col) 3 ColR
theorem ColL.le {m m' : World} {v : Value} {xs : List Col} (h : ColL m v xs) (hb : Le m m') : ColL m' v xs := ListV.le ColR.mono h hb

structure CS where
  d : List Task
  l : List (List Task)
  s : Bool
def csBit (n : Int) (i : Nat) : Bool := decide (n / 2 ^ i % 2 = 1)
def csF (rs : List Int) (k : Int) (i : Nat) : Int := if k / 2 % 8 = 7 then rs.getD (rs.length - 1 - i) 0 else rs.getD i 0
def csStep (f : Int) (tk ct : Bool) (c : CS) : CS := if tk then (if ct then ⟨[], c.l ++ [c.d ++ [(f, false)]], true⟩ else ⟨c.d ++ [(f, false)], c.l, true⟩) else c
def csAt (rs : List Int) (n k : Int) : Nat → CS
  | 0 => ⟨if k % 2 = 1 then [(0, true)] else [], [], false⟩
  | i + 1 => csStep (csF rs k i) (csBit n i) (decide (k / 16 % 4 = 3)) (csAt rs n k i)
def csD (rs : List Int) (n k : Int) : List Task := if (csAt rs n k rs.length).s then (csAt rs n k rs.length).d else (csAt rs n k rs.length).d ++ [(rs.getD (n / 64 % rs.length).toNat 0, false)]
def csL (rs : List Int) (n k : Int) : List (List Task) := if 0 < (csD rs n k).length then (csAt rs n k rs.length).l ++ [csD rs n k] else (csAt rs n k rs.length).l
def colF (rs : List Int) (n k : Int) : Col := (⟨#[65, 65, 65]⟩, csL rs n k, n / 32 % 41 - 5)
theorem csAt_len (rs : List Int) (n k : Int) : ∀ i, (csAt rs n k i).d.length ≤ i + 1 ∧ (csAt rs n k i).l.length ≤ i
  | 0 => by simp [csAt]; split <;> simp
  | i + 1 => by
    have := csAt_len rs n k i
    simp only [csAt, csStep]
    split
    · split <;> simp <;> omega
    · omega
end Go.Proofs.YtmhkmmmompediaaGreat

/- Contract of pairingdata.Column. -/
namespace Go.Proofs.YtmhkmmmompediaaGreat
open Go.RowKit

theorem bt {a b : Int} (h : a = b) : (a == b) = true := by simp [h]
theorem bf {a b : Int} (h : ¬ a = b) : (a == b) = false := by simp [h]

set_option maxRecDepth 100000 in
set_option maxHeartbeats 16000000 in
theorem d_Column (A : Option Addr) (c : Nat) (rs : List Int) (n k : Int) (w m : World) (hV : Vw m w) (hr : IntL m (.slice A rs.length c) rs) (h1 : 1 ≤ rs.length) (h2 : rs.length ≤ 6) (n0 : 0 ≤ n) (n1 : n ≤ 100000) (k0 : 0 ≤ k) (k1 : k ≤ 100000) :
    Calls Tryz.prog 63 #[.slice A rs.length c, .int .i64 n, .int .i64 k] w (RetV w m fun m' r => ColR m' r (colF rs n k)) := by
  generalize hq : rs.length = q at *
  have HQ := Lib.hid hq
  clear hq
  have e1 := i64_and1 k
  have hL := Loc.start hV
  clear hV
  by_cases hk : k % 2 = 1
  case' pos =>
    have b1 := bt hk
    have rd0 : Hid (csAt rs n k 0 = ⟨[(0, true)], [], false⟩) := by show _ = _; simp [csAt, hk]
    clear hk
    go_enter Tryz.func63, Tryz.ntmps63
    go_upto_region 0 with (fail)
    refine wp_region_lit ?_
    refine t_alloc hL rfl ?_; clear hL; intro Wh6 mh6 hL eh6; simp only [Act.put, zq1, zq2, zq3]
    go_wp2_with (first | ((with_reducible refine kAny ?_); go_skip) | (with_reducible refine stA ?_) | ((first | ((with_reducible refine kIx ?_); first | (refine t_ixa rfl rfl rfl ?_; (try simp only [Nat.mul_one])) | (refine t_ixaA rfl rfl rfl ?_; (try simp only [Nat.mul_one]))) | ((with_reducible refine kLd ?_); first | refine t_loadR hL rfl rfl ?_ | refine t_loadW hL rfl rfl ?_ | refine t_load2 hL rfl rfl ?_ | refine t_load1 hL rfl rfl ?_ | refine t_loadV hL.vw rfl rfl ?_ | refine t_loadV1 hL.vw rfl rfl ?_) | ((with_reducible refine kSt ?_); first | (refine t_storeR hL rfl rfl rfl ?_; clear hL; intro _ hL; simp only [zq2, zq3] at hL) | ((first | refine t_store hL rfl rfl rfl ?_ | refine t_sts hL rfl rfl rfl ?_ | refine t_sti hL rfl rfl rfl ?_ | refine t_stb hL rfl rfl rfl ?_ | refine t_store1 hL rfl rfl rfl ?_); clear hL; intro _ hL; simp only [splice, zq1, zq2, zq3] at hL)) | ((with_reducible refine kAl ?_); (refine t_alloc hL rfl ?_; clear hL; intro _ _ hL _)) | ((with_reducible refine kBs ?_); ((first | refine t_bsA hL rfl rfl ?_ | refine t_bsV hL rfl rfl ?_); clear hL; intro _ _ hL _ hBs))); simp only [Act.put, zq1, zq2, zq3]))
    refine goA ?_
    refine wl_append (A := [_]) hL (Row.nil _ _) (wanted_none rfl) rfl ap_Tasks (by omega) rfl rfl (news := [.int .i64 0, .bool true]) rfl ((Blk.sl hBs (n := 2) rfl).le hL.vw.le) rfl (by omega) (by omega) ?_
    clear hL
    intro v1 W2 m2 R2 hL r8 e8
    obtain ⟨A8, c8, rfl, -⟩ := r8.lit
    simp only [List.cons_append, List.nil_append] at hL
    simp only [Act.put, zq1, zq2, zq3, Nat.zero_add]
    go_wp2_with (first | ((with_reducible refine kAny ?_); go_skip) | (with_reducible refine stA ?_) | ((first | ((with_reducible refine kIx ?_); first | (refine t_ixa rfl rfl rfl ?_; (try simp only [Nat.mul_one])) | (refine t_ixaA rfl rfl rfl ?_; (try simp only [Nat.mul_one]))) | ((with_reducible refine kLd ?_); first | refine t_loadR hL rfl rfl ?_ | refine t_loadW hL rfl rfl ?_ | refine t_load2 hL rfl rfl ?_ | refine t_load1 hL rfl rfl ?_ | refine t_loadV hL.vw rfl rfl ?_ | refine t_loadV1 hL.vw rfl rfl ?_) | ((with_reducible refine kSt ?_); first | (refine t_storeR hL rfl rfl rfl ?_; clear hL; intro _ hL; simp only [zq2, zq3] at hL) | ((first | refine t_store hL rfl rfl rfl ?_ | refine t_sts hL rfl rfl rfl ?_ | refine t_sti hL rfl rfl rfl ?_ | refine t_stb hL rfl rfl rfl ?_ | refine t_store1 hL rfl rfl rfl ?_); clear hL; intro _ hL; simp only [splice, zq1, zq2, zq3] at hL)) | ((with_reducible refine kAl ?_); (refine t_alloc hL rfl ?_; clear hL; intro _ _ hL _)) | ((with_reducible refine kBs ?_); ((first | refine t_bsA hL rfl rfl ?_ | refine t_bsV hL rfl rfl ?_); clear hL; intro _ _ hL _ hBs))); simp only [Act.put, zq1, zq2, zq3]))
    have rd : Hid (RowA 111 2 TaskR m2 (.slice A8 1 c8) 1 (csAt rs n k 0).d R2) := by
      show RowA _ _ _ _ _ _ _ _
      rw [rd0.out]
      exact RowA.snoc (R := TaskR) (x := (0, true)) (xs := []) (vs := []) r8 (fun _ h => by cases h) trivial rfl rfl rfl
  case' neg =>
    have b1 := bf hk
    have rd0 : Hid (csAt rs n k 0 = ⟨[], [], false⟩) := by show _ = _; simp [csAt, hk]
    clear hk
    go_enter Tryz.func63, Tryz.ntmps63
    go_upto_region 0 with (fail)
    refine wp_region_lit ?_
    refine t_alloc hL rfl ?_; clear hL; intro Wh6 mh6 hL eh6; simp only [Act.put, zq1, zq2, zq3]
    go_wp2_with (first | ((with_reducible refine kAny ?_); go_skip) | (with_reducible refine stA ?_) | ((first | ((with_reducible refine kIx ?_); first | (refine t_ixa rfl rfl rfl ?_; (try simp only [Nat.mul_one])) | (refine t_ixaA rfl rfl rfl ?_; (try simp only [Nat.mul_one]))) | ((with_reducible refine kLd ?_); first | refine t_loadR hL rfl rfl ?_ | refine t_loadW hL rfl rfl ?_ | refine t_load2 hL rfl rfl ?_ | refine t_load1 hL rfl rfl ?_ | refine t_loadV hL.vw rfl rfl ?_ | refine t_loadV1 hL.vw rfl rfl ?_) | ((with_reducible refine kSt ?_); first | (refine t_storeR hL rfl rfl rfl ?_; clear hL; intro _ hL; simp only [zq2, zq3] at hL) | ((first | refine t_store hL rfl rfl rfl ?_ | refine t_sts hL rfl rfl rfl ?_ | refine t_sti hL rfl rfl rfl ?_ | refine t_stb hL rfl rfl rfl ?_ | refine t_store1 hL rfl rfl rfl ?_); clear hL; intro _ hL; simp only [splice, zq1, zq2, zq3] at hL)) | ((with_reducible refine kAl ?_); (refine t_alloc hL rfl ?_; clear hL; intro _ _ hL _)) | ((with_reducible refine kBs ?_); ((first | refine t_bsA hL rfl rfl ?_ | refine t_bsV hL rfl rfl ?_); clear hL; intro _ _ hL _ hBs))); simp only [Act.put, zq1, zq2, zq3]))
  all_goals
    go_loopw [7, 8, 9, 10] (fun d l s i wr => ∃ (j : Nat) (mm : World) (nd nl : Nat) (Rd Rl : List Lo), j ≤ q ∧ i = .int .i64 j ∧ s = .bool (csAt rs n k j).s ∧ Loc w m wr mm ((w.heap.size, 72, #[.string ⟨#[]⟩, .slice none 0 0, .int .i64 0]) :: (Rl ++ Rd)) ∧ Hid (RowA 111 2 TaskR mm d nd (csAt rs n k j).d Rd) ∧ Hid (RowA 113 1 DutL mm l nl (csAt rs n k j).l Rl)) (fun _ _ _ i _ => q - (intOf i).toNat)
    case atStart =>
      first
      | exact ⟨0, m2, 1, 0, R2, [], Nat.zero_le _, rfl, congrArg (fun c => Value.bool c.s) rd0.out.symm, hL, rd, by rw [rd0.out]; exact RowA.nil⟩
      | exact ⟨0, mh6, 0, 0, [], [], Nat.zero_le _, rfl, congrArg (fun c => Value.bool c.s) rd0.out.symm, hL, by rw [rd0.out]; exact RowA.nil, by rw [rd0.out]; exact RowA.nil⟩
    case round =>
      clear hL
      obtain ⟨j, mm, nd, nl, Rd, Rl, hj, rfl, rfl, hL, rd, rl⟩ := hrel
      have hM := hL.mext
      obtain ⟨A7, c7, rfl, rd1⟩ := rd.out.lit
      obtain ⟨A8, c8, rfl, rl1⟩ := rl.out.lit
      have hnd : nd ≤ 10 := by have := rd1.len; have := csAt_len rs n k j; omega
      have hnl : nl ≤ 10 := by have := rl1.len; have := csAt_len rs n k j; omega
      have RD := Lib.hid rd1
      have RL := Lib.hid rl1
      clear rd rl rd1 rl1
      by_cases hlt : j < q
      · obtain ⟨f0, hf0⟩ := at_some HQ hlt
        obtain ⟨f1, hf1⟩ := at_some (k := q - 1 - j) HQ (by omega)
        obtain ⟨b1, o1, rfl, hc1⟩ := IntL.at_ hr hf0
        obtain ⟨b2, o2, e2, hc2⟩ := IntL.at_ hr hf1
        injection e2 with e2
        injection e2 with e2 e3
        subst e2 e3
        have ex : (q : Int) - 1 - (j : Int) = ((q - 1 - j : Nat) : Int) := by omega
        have e7 := i64_and3 (k / 2)
        have e8 := i64_and1 (n / 2 ^ j)
        have e9 := i64_and2' (k / 16)
        by_cases h7 : k / 2 % 8 = 7
        case' pos =>
          have b7 := bt h7
          have HF : Hid (csF rs k j = f1) := by show _ = _; unfold csF; rw [if_pos h7, HQ.out, List.getD_eq_getElem?_getD, hf1]; rfl
          clear h7 hf0 hf1
          generalize f1 = f at *
          go_upto_region 12 with ((first | ((with_reducible refine kAny ?_); go_skip) | (with_reducible refine stA ?_) | ((first | ((with_reducible refine kIx ?_); first | (refine t_ixa rfl rfl rfl ?_; (try simp only [Nat.mul_one])) | (refine t_ixaA rfl rfl rfl ?_; (try simp only [Nat.mul_one]))) | ((with_reducible refine kLd ?_); first | refine t_loadR hL rfl rfl ?_ | refine t_loadW hL rfl rfl ?_ | refine t_load2 hL rfl rfl ?_ | refine t_load1 hL rfl rfl ?_ | refine t_loadV hL.vw rfl rfl ?_ | refine t_loadV1 hL.vw rfl rfl ?_) | ((with_reducible refine kSt ?_); first | (refine t_storeR hL rfl rfl rfl ?_; clear hL; intro _ hL; simp only [zq2, zq3] at hL) | ((first | refine t_store hL rfl rfl rfl ?_ | refine t_sts hL rfl rfl rfl ?_ | refine t_sti hL rfl rfl rfl ?_ | refine t_stb hL rfl rfl rfl ?_ | refine t_store1 hL rfl rfl rfl ?_); clear hL; intro _ hL; simp only [splice, zq1, zq2, zq3] at hL)) | ((with_reducible refine kAl ?_); (refine t_alloc hL rfl ?_; clear hL; intro _ _ hL _)) | ((with_reducible refine kBs ?_); ((first | refine t_bsA hL rfl rfl ?_ | refine t_bsV hL rfl rfl ?_); clear hL; intro _ _ hL _ hBs))); simp only [Act.put, zq1, zq2, zq3])))
        case' neg =>
          have b7 := bf h7
          have HF : Hid (csF rs k j = f0) := by show _ = _; unfold csF; rw [if_neg h7, List.getD_eq_getElem?_getD, hf0]; rfl
          clear h7 hf0 hf1
          generalize f0 = f at *
          go_upto_region 12 with ((first | ((with_reducible refine kAny ?_); go_skip) | (with_reducible refine stA ?_) | ((first | ((with_reducible refine kIx ?_); first | (refine t_ixa rfl rfl rfl ?_; (try simp only [Nat.mul_one])) | (refine t_ixaA rfl rfl rfl ?_; (try simp only [Nat.mul_one]))) | ((with_reducible refine kLd ?_); first | refine t_loadR hL rfl rfl ?_ | refine t_loadW hL rfl rfl ?_ | refine t_load2 hL rfl rfl ?_ | refine t_load1 hL rfl rfl ?_ | refine t_loadV hL.vw rfl rfl ?_ | refine t_loadV1 hL.vw rfl rfl ?_) | ((with_reducible refine kSt ?_); first | (refine t_storeR hL rfl rfl rfl ?_; clear hL; intro _ hL; simp only [zq2, zq3] at hL) | ((first | refine t_store hL rfl rfl rfl ?_ | refine t_sts hL rfl rfl rfl ?_ | refine t_sti hL rfl rfl rfl ?_ | refine t_stb hL rfl rfl rfl ?_ | refine t_store1 hL rfl rfl rfl ?_); clear hL; intro _ hL; simp only [splice, zq1, zq2, zq3] at hL)) | ((with_reducible refine kAl ?_); (refine t_alloc hL rfl ?_; clear hL; intro _ _ hL _)) | ((with_reducible refine kBs ?_); ((first | refine t_bsA hL rfl rfl ?_ | refine t_bsV hL rfl rfl ?_); clear hL; intro _ _ hL _ hBs))); simp only [Act.put, zq1, zq2, zq3])))
        all_goals
          clear hc1 hc2 ex b7 e7
          by_cases hb : n / 2 ^ j % 2 = 1
          · have b8 := bt hb
            have HB : Hid (csBit n j = true) := by show _ = _; exact decide_eq_true hb
            clear hb
            by_cases hc : k / 16 % 4 = 3
            · have b9 := bt hc
              have HS : Hid (csAt rs n k (j + 1) = ⟨[], (csAt rs n k j).l ++ [(csAt rs n k j).d ++ [(f, false)]], true⟩) := by show _ = _; simp [csAt, csStep, HF.out, HB.out, hc]
              clear hc
              go_wp2_with (first | ((with_reducible refine kAny ?_); go_skip) | (with_reducible refine stA ?_) | ((first | ((with_reducible refine kIx ?_); first | (refine t_ixa rfl rfl rfl ?_; (try simp only [Nat.mul_one])) | (refine t_ixaA rfl rfl rfl ?_; (try simp only [Nat.mul_one]))) | ((with_reducible refine kLd ?_); first | refine t_loadR hL rfl rfl ?_ | refine t_loadW hL rfl rfl ?_ | refine t_load2 hL rfl rfl ?_ | refine t_load1 hL rfl rfl ?_ | refine t_loadV hL.vw rfl rfl ?_ | refine t_loadV1 hL.vw rfl rfl ?_) | ((with_reducible refine kSt ?_); first | (refine t_storeR hL rfl rfl rfl ?_; clear hL; intro _ hL; simp only [zq2, zq3] at hL) | ((first | refine t_store hL rfl rfl rfl ?_ | refine t_sts hL rfl rfl rfl ?_ | refine t_sti hL rfl rfl rfl ?_ | refine t_stb hL rfl rfl rfl ?_ | refine t_store1 hL rfl rfl rfl ?_); clear hL; intro _ hL; simp only [splice, zq1, zq2, zq3] at hL)) | ((with_reducible refine kAl ?_); (refine t_alloc hL rfl ?_; clear hL; intro _ _ hL _)) | ((with_reducible refine kBs ?_); ((first | refine t_bsA hL rfl rfl ?_ | refine t_bsV hL rfl rfl ?_); clear hL; intro _ _ hL _ hBs))); simp only [Act.put, zq1, zq2, zq3]))
              refine goA ?_
              obtain ⟨vs7, r7, z7, y7, l7⟩ := RD.out
              refine wl_append (A := _ :: Rl) hL r7 (wanted_none rfl) rfl ap_Tasks (by omega) rfl rfl (news := [.int .i64 f, .bool false]) rfl ((Blk.sl hBs (n := 2) rfl).le hL.vw.le) rfl (by omega) (by omega) ?_
              clear hL
              intro v1 W2 m2 R2 hL r8 e8
              obtain ⟨A9, c9, rfl, -⟩ := r8.lit
              have rd2 := RowA.snoc (R := TaskR) (m := m2) (x := (f, false)) r8 z7 (y7.mono fun _ _ hv => hv) l7 rfl rfl
              simp only [List.cons_append] at hL
              obtain ⟨m3, hL3, hle3, hdu, -⟩ := RowA.show (A := _ :: Rl) TaskR.mono hL rd2
              replace hle3 : Le mm m3 := Le.trans leX hle3
              clear hL
              have hL := hL3
              clear hL3
              simp only [Act.put, zq1, zq2, zq3]
              go_wp2_with (first | ((with_reducible refine kAny ?_); go_skip) | (with_reducible refine stA ?_) | ((first | ((with_reducible refine kIx ?_); first | (refine t_ixa rfl rfl rfl ?_; (try simp only [Nat.mul_one])) | (refine t_ixaA rfl rfl rfl ?_; (try simp only [Nat.mul_one]))) | ((with_reducible refine kLd ?_); first | refine t_loadR hL rfl rfl ?_ | refine t_loadW hL rfl rfl ?_ | refine t_load2 hL rfl rfl ?_ | refine t_load1 hL rfl rfl ?_ | refine t_loadV hL.vw rfl rfl ?_ | refine t_loadV1 hL.vw rfl rfl ?_) | ((with_reducible refine kSt ?_); first | (refine t_storeR hL rfl rfl rfl ?_; clear hL; intro _ hL; simp only [zq2, zq3] at hL) | ((first | refine t_store hL rfl rfl rfl ?_ | refine t_sts hL rfl rfl rfl ?_ | refine t_sti hL rfl rfl rfl ?_ | refine t_stb hL rfl rfl rfl ?_ | refine t_store1 hL rfl rfl rfl ?_); clear hL; intro _ hL; simp only [splice, zq1, zq2, zq3] at hL)) | ((with_reducible refine kAl ?_); (refine t_alloc hL rfl ?_; clear hL; intro _ _ hL _)) | ((with_reducible refine kBs ?_); ((first | refine t_bsA hL rfl rfl ?_ | refine t_bsV hL rfl rfl ?_); clear hL; intro _ _ hL _ hBs))); simp only [Act.put, zq1, zq2, zq3]))
              refine goA ?_
              obtain ⟨vs8, r9, z9, y9, l9⟩ := RL.out
              refine wl_append (A := [_]) hL r9 (wanted_none rfl) rfl ap_Duties (by omega) rfl rfl (news := [.slice A9 (nd + 1) c9]) rfl ((Blk.sl hBs (n := 1) rfl).le hL.vw.le) rfl (by omega) (by omega) ?_
              clear hL
              intro v2 W4 m4 R4 hL r10 e10
              obtain ⟨A10, c10, rfl, -⟩ := r10.lit
              simp only [List.cons_append, List.nil_append] at hL
              have hle4 : Le m3 m4 := leX
              have rl2 := RowA.snocV (R := DutL) (m := m4) r10 z9 (y9.mono fun v x hv => DutL.mono _ _ _ _ hv (Le.trans hle3 hle4)) l9 rfl rfl (DutL.le hdu hle4)
              simp only [Act.put, zq1, zq2, zq3]
              go_wp2_with (first | ((with_reducible refine kAny ?_); go_skip) | (with_reducible refine stA ?_) | ((first | ((with_reducible refine kIx ?_); first | (refine t_ixa rfl rfl rfl ?_; (try simp only [Nat.mul_one])) | (refine t_ixaA rfl rfl rfl ?_; (try simp only [Nat.mul_one]))) | ((with_reducible refine kLd ?_); first | refine t_loadR hL rfl rfl ?_ | refine t_loadW hL rfl rfl ?_ | refine t_load2 hL rfl rfl ?_ | refine t_load1 hL rfl rfl ?_ | refine t_loadV hL.vw rfl rfl ?_ | refine t_loadV1 hL.vw rfl rfl ?_) | ((with_reducible refine kSt ?_); first | (refine t_storeR hL rfl rfl rfl ?_; clear hL; intro _ hL; simp only [zq2, zq3] at hL) | ((first | refine t_store hL rfl rfl rfl ?_ | refine t_sts hL rfl rfl rfl ?_ | refine t_sti hL rfl rfl rfl ?_ | refine t_stb hL rfl rfl rfl ?_ | refine t_store1 hL rfl rfl rfl ?_); clear hL; intro _ hL; simp only [splice, zq1, zq2, zq3] at hL)) | ((with_reducible refine kAl ?_); (refine t_alloc hL rfl ?_; clear hL; intro _ _ hL _)) | ((with_reducible refine kBs ?_); ((first | refine t_bsA hL rfl rfl ?_ | refine t_bsV hL rfl rfl ?_); clear hL; intro _ _ hL _ hBs))); simp only [Act.put, zq1, zq2, zq3]))
              go_roundw
              case rel => exact ⟨j + 1, m4, 0, nl + 1, [], R4, by omega, by go_num, by rw [HS.out], by rw [List.append_nil]; exact hL, by rw [HS.out]; exact RowA.nil, by rw [HS.out]; exact rl2⟩
              case measure => simp [intOf] <;> omega
            · have b9 := bf hc
              have HS : Hid (csAt rs n k (j + 1) = ⟨(csAt rs n k j).d ++ [(f, false)], (csAt rs n k j).l, true⟩) := by show _ = _; simp [csAt, csStep, HF.out, HB.out, hc]
              clear hc
              go_wp2_with (first | ((with_reducible refine kAny ?_); go_skip) | (with_reducible refine stA ?_) | ((first | ((with_reducible refine kIx ?_); first | (refine t_ixa rfl rfl rfl ?_; (try simp only [Nat.mul_one])) | (refine t_ixaA rfl rfl rfl ?_; (try simp only [Nat.mul_one]))) | ((with_reducible refine kLd ?_); first | refine t_loadR hL rfl rfl ?_ | refine t_loadW hL rfl rfl ?_ | refine t_load2 hL rfl rfl ?_ | refine t_load1 hL rfl rfl ?_ | refine t_loadV hL.vw rfl rfl ?_ | refine t_loadV1 hL.vw rfl rfl ?_) | ((with_reducible refine kSt ?_); first | (refine t_storeR hL rfl rfl rfl ?_; clear hL; intro _ hL; simp only [zq2, zq3] at hL) | ((first | refine t_store hL rfl rfl rfl ?_ | refine t_sts hL rfl rfl rfl ?_ | refine t_sti hL rfl rfl rfl ?_ | refine t_stb hL rfl rfl rfl ?_ | refine t_store1 hL rfl rfl rfl ?_); clear hL; intro _ hL; simp only [splice, zq1, zq2, zq3] at hL)) | ((with_reducible refine kAl ?_); (refine t_alloc hL rfl ?_; clear hL; intro _ _ hL _)) | ((with_reducible refine kBs ?_); ((first | refine t_bsA hL rfl rfl ?_ | refine t_bsV hL rfl rfl ?_); clear hL; intro _ _ hL _ hBs))); simp only [Act.put, zq1, zq2, zq3]))
              refine goA ?_
              obtain ⟨vs7, r7, z7, y7, l7⟩ := RD.out
              refine wl_append (A := _ :: Rl) hL r7 (wanted_none rfl) rfl ap_Tasks (by omega) rfl rfl (news := [.int .i64 f, .bool false]) rfl ((Blk.sl hBs (n := 2) rfl).le hL.vw.le) rfl (by omega) (by omega) ?_
              clear hL
              intro v1 W2 m2 R2 hL r8 e8
              obtain ⟨A9, c9, rfl, -⟩ := r8.lit
              have rd2 := RowA.snoc (R := TaskR) (m := m2) (x := (f, false)) r8 z7 (y7.mono fun _ _ hv => hv) l7 rfl rfl
              simp only [List.cons_append] at hL
              simp only [Act.put, zq1, zq2, zq3]
              go_wp2_with (first | ((with_reducible refine kAny ?_); go_skip) | (with_reducible refine stA ?_) | ((first | ((with_reducible refine kIx ?_); first | (refine t_ixa rfl rfl rfl ?_; (try simp only [Nat.mul_one])) | (refine t_ixaA rfl rfl rfl ?_; (try simp only [Nat.mul_one]))) | ((with_reducible refine kLd ?_); first | refine t_loadR hL rfl rfl ?_ | refine t_loadW hL rfl rfl ?_ | refine t_load2 hL rfl rfl ?_ | refine t_load1 hL rfl rfl ?_ | refine t_loadV hL.vw rfl rfl ?_ | refine t_loadV1 hL.vw rfl rfl ?_) | ((with_reducible refine kSt ?_); first | (refine t_storeR hL rfl rfl rfl ?_; clear hL; intro _ hL; simp only [zq2, zq3] at hL) | ((first | refine t_store hL rfl rfl rfl ?_ | refine t_sts hL rfl rfl rfl ?_ | refine t_sti hL rfl rfl rfl ?_ | refine t_stb hL rfl rfl rfl ?_ | refine t_store1 hL rfl rfl rfl ?_); clear hL; intro _ hL; simp only [splice, zq1, zq2, zq3] at hL)) | ((with_reducible refine kAl ?_); (refine t_alloc hL rfl ?_; clear hL; intro _ _ hL _)) | ((with_reducible refine kBs ?_); ((first | refine t_bsA hL rfl rfl ?_ | refine t_bsV hL rfl rfl ?_); clear hL; intro _ _ hL _ hBs))); simp only [Act.put, zq1, zq2, zq3]))
              go_roundw
              case rel => exact ⟨j + 1, m2, nd + 1, nl, R2, Rl, by omega, by go_num, by rw [HS.out], hL, by rw [HS.out]; exact rd2, by rw [HS.out]; exact RowA.le DutL.mono RL.out leX⟩
              case measure => simp [intOf] <;> omega
          · have b8 := bf hb
            have HS : Hid (csAt rs n k (j + 1) = csAt rs n k j) := by show _ = _; simp [csAt, csStep, csBit, hb]
            clear hb
            go_wp2_with (first | ((with_reducible refine kAny ?_); go_skip) | (with_reducible refine stA ?_) | ((first | ((with_reducible refine kIx ?_); first | (refine t_ixa rfl rfl rfl ?_; (try simp only [Nat.mul_one])) | (refine t_ixaA rfl rfl rfl ?_; (try simp only [Nat.mul_one]))) | ((with_reducible refine kLd ?_); first | refine t_loadR hL rfl rfl ?_ | refine t_loadW hL rfl rfl ?_ | refine t_load2 hL rfl rfl ?_ | refine t_load1 hL rfl rfl ?_ | refine t_loadV hL.vw rfl rfl ?_ | refine t_loadV1 hL.vw rfl rfl ?_) | ((with_reducible refine kSt ?_); first | (refine t_storeR hL rfl rfl rfl ?_; clear hL; intro _ hL; simp only [zq2, zq3] at hL) | ((first | refine t_store hL rfl rfl rfl ?_ | refine t_sts hL rfl rfl rfl ?_ | refine t_sti hL rfl rfl rfl ?_ | refine t_stb hL rfl rfl rfl ?_ | refine t_store1 hL rfl rfl rfl ?_); clear hL; intro _ hL; simp only [splice, zq1, zq2, zq3] at hL)) | ((with_reducible refine kAl ?_); (refine t_alloc hL rfl ?_; clear hL; intro _ _ hL _)) | ((with_reducible refine kBs ?_); ((first | refine t_bsA hL rfl rfl ?_ | refine t_bsV hL rfl rfl ?_); clear hL; intro _ _ hL _ hBs))); simp only [Act.put, zq1, zq2, zq3]))
            go_roundw
            case rel => exact ⟨j + 1, mm, nd, nl, Rd, Rl, by omega, by go_num, by rw [HS.out], hL, by rw [HS.out]; exact RD.out, by rw [HS.out]; exact RL.out⟩
            case measure => simp [intOf] <;> omega
      · obtain rfl : j = q := by omega
        have e6 : n / 64 % (j : Int) = ((n / 64 % j).toNat : Int) := by have := Int.emod_nonneg (n / 64) (b := j) (by omega); omega
        have hi6 : (n / 64 % j).toNat < j := by have := Int.emod_lt_of_pos (n / 64) (b := j) (by omega); omega
        cases hs : (csAt rs n k j).s
        · obtain ⟨f, hf⟩ := at_some HQ hi6
          obtain ⟨b1, o1, rfl, hc1⟩ := IntL.at_ hr hf
          have HD : Hid (csD rs n k = (csAt rs n k j).d ++ [(f, false)]) := by
            show _ = _
            unfold csD
            rw [HQ.out, hs, List.getD_eq_getElem?_getD, hf]; rfl
          have HL : Hid (csL rs n k = (csAt rs n k j).l ++ [(csAt rs n k j).d ++ [(f, false)]]) := by
            show _ = _
            unfold csL
            rw [HD.out, HQ.out, if_pos (by simp)]
          clear hs hf
          generalize (n / 64 % j).toNat = i6 at *
          go_wp2_with (first | ((with_reducible refine kAny ?_); go_skip) | (with_reducible refine stA ?_) | ((first | ((with_reducible refine kIx ?_); first | (refine t_ixa rfl rfl rfl ?_; (try simp only [Nat.mul_one])) | (refine t_ixaA rfl rfl rfl ?_; (try simp only [Nat.mul_one]))) | ((with_reducible refine kLd ?_); first | refine t_loadR hL rfl rfl ?_ | refine t_loadW hL rfl rfl ?_ | refine t_load2 hL rfl rfl ?_ | refine t_load1 hL rfl rfl ?_ | refine t_loadV hL.vw rfl rfl ?_ | refine t_loadV1 hL.vw rfl rfl ?_) | ((with_reducible refine kSt ?_); first | (refine t_storeR hL rfl rfl rfl ?_; clear hL; intro _ hL; simp only [zq2, zq3] at hL) | ((first | refine t_store hL rfl rfl rfl ?_ | refine t_sts hL rfl rfl rfl ?_ | refine t_sti hL rfl rfl rfl ?_ | refine t_stb hL rfl rfl rfl ?_ | refine t_store1 hL rfl rfl rfl ?_); clear hL; intro _ hL; simp only [splice, zq1, zq2, zq3] at hL)) | ((with_reducible refine kAl ?_); (refine t_alloc hL rfl ?_; clear hL; intro _ _ hL _)) | ((with_reducible refine kBs ?_); ((first | refine t_bsA hL rfl rfl ?_ | refine t_bsV hL rfl rfl ?_); clear hL; intro _ _ hL _ hBs))); simp only [Act.put, zq1, zq2, zq3]))
          refine goA ?_
          obtain ⟨vs7, r7, z7, y7, l7⟩ := RD.out
          refine wl_append (A := _ :: Rl) hL r7 (wanted_none rfl) rfl ap_Tasks (by omega) rfl rfl (news := [.int .i64 f, .bool false]) rfl ((Blk.sl hBs (n := 2) rfl).le hL.vw.le) rfl (by omega) (by omega) ?_
          clear hL
          intro v1 W2 m2 R2 hL r8 e8
          obtain ⟨A9, c9, rfl, -⟩ := r8.lit
          have rd2 := RowA.snoc (R := TaskR) (m := m2) (x := (f, false)) r8 z7 (y7.mono fun _ _ hv => hv) l7 rfl rfl
          simp only [List.cons_append] at hL
          obtain ⟨m3, hL3, hle3, hdu, -⟩ := RowA.show (A := _ :: Rl) TaskR.mono hL rd2
          replace hle3 : Le mm m3 := Le.trans leX hle3
          clear hL
          have hL := hL3
          clear hL3
          simp only [Act.put, zq1, zq2, zq3]
          have hp6 : 0 < nd + 1 := by omega
          go_wp2_with (first | ((with_reducible refine kAny ?_); go_skip) | (with_reducible refine stA ?_) | ((first | ((with_reducible refine kIx ?_); first | (refine t_ixa rfl rfl rfl ?_; (try simp only [Nat.mul_one])) | (refine t_ixaA rfl rfl rfl ?_; (try simp only [Nat.mul_one]))) | ((with_reducible refine kLd ?_); first | refine t_loadR hL rfl rfl ?_ | refine t_loadW hL rfl rfl ?_ | refine t_load2 hL rfl rfl ?_ | refine t_load1 hL rfl rfl ?_ | refine t_loadV hL.vw rfl rfl ?_ | refine t_loadV1 hL.vw rfl rfl ?_) | ((with_reducible refine kSt ?_); first | (refine t_storeR hL rfl rfl rfl ?_; clear hL; intro _ hL; simp only [zq2, zq3] at hL) | ((first | refine t_store hL rfl rfl rfl ?_ | refine t_sts hL rfl rfl rfl ?_ | refine t_sti hL rfl rfl rfl ?_ | refine t_stb hL rfl rfl rfl ?_ | refine t_store1 hL rfl rfl rfl ?_); clear hL; intro _ hL; simp only [splice, zq1, zq2, zq3] at hL)) | ((with_reducible refine kAl ?_); (refine t_alloc hL rfl ?_; clear hL; intro _ _ hL _)) | ((with_reducible refine kBs ?_); ((first | refine t_bsA hL rfl rfl ?_ | refine t_bsV hL rfl rfl ?_); clear hL; intro _ _ hL _ hBs))); simp only [Act.put, zq1, zq2, zq3]))
          refine goA ?_
          obtain ⟨vs8, r9, z9, y9, l9⟩ := RL.out
          refine wl_append (A := [_]) hL r9 (wanted_none rfl) rfl ap_Duties (by omega) rfl rfl (news := [.slice A9 (nd + 1) c9]) rfl ((Blk.sl hBs (n := 1) rfl).le hL.vw.le) rfl (by omega) (by omega) ?_
          clear hL
          intro v2 W4 m4 R4 hL r10 e10
          obtain ⟨A10, c10, rfl, -⟩ := r10.lit
          simp only [List.cons_append, List.nil_append] at hL
          have hle4 : Le m3 m4 := leX
          have rl2 := RowA.snocV (R := DutL) (m := m4) r10 z9 (y9.mono fun v x hv => DutL.mono _ _ _ _ hv (Le.trans hle3 hle4)) l9 rfl rfl (DutL.le hdu hle4)
          simp only [Act.put, zq1, zq2, zq3]
          go_wp2_with (first | ((with_reducible refine kAny ?_); go_skip) | (with_reducible refine stA ?_) | ((first | ((with_reducible refine kIx ?_); first | (refine t_ixa rfl rfl rfl ?_; (try simp only [Nat.mul_one])) | (refine t_ixaA rfl rfl rfl ?_; (try simp only [Nat.mul_one]))) | ((with_reducible refine kLd ?_); first | refine t_loadR hL rfl rfl ?_ | refine t_loadW hL rfl rfl ?_ | refine t_load2 hL rfl rfl ?_ | refine t_load1 hL rfl rfl ?_ | refine t_loadV hL.vw rfl rfl ?_ | refine t_loadV1 hL.vw rfl rfl ?_) | ((with_reducible refine kSt ?_); first | (refine t_storeR hL rfl rfl rfl ?_; clear hL; intro _ hL; simp only [zq2, zq3] at hL) | ((first | refine t_store hL rfl rfl rfl ?_ | refine t_sts hL rfl rfl rfl ?_ | refine t_sti hL rfl rfl rfl ?_ | refine t_stb hL rfl rfl rfl ?_ | refine t_store1 hL rfl rfl rfl ?_); clear hL; intro _ hL; simp only [splice, zq1, zq2, zq3] at hL)) | ((with_reducible refine kAl ?_); (refine t_alloc hL rfl ?_; clear hL; intro _ _ hL _)) | ((with_reducible refine kBs ?_); ((first | refine t_bsA hL rfl rfl ?_ | refine t_bsV hL rfl rfl ?_); clear hL; intro _ _ hL _ hBs))); simp only [Act.put, zq1, zq2, zq3]))
          obtain ⟨m5, hL5, hle5, hdl, -⟩ := RowA.show (A := [_]) DutL.mono hL rl2
          refine fin_aggR hL Tryz.results63 rfl rfl loX ag_Col (by exact rfl) hL5 ?_
          refine ⟨_, rfl, ?_⟩
          show DutsL _ _ (csL rs n k)
          rw [HL.out]
          exact hdl
        · by_cases hp6 : 0 < nd
          · have HL : Hid (csL rs n k = (csAt rs n k j).l ++ [(csAt rs n k j).d]) := by
              show _ = _
              have h3 := RD.out.len
              unfold csL csD
              rw [HQ.out, hs, if_pos rfl, if_pos (by omega)]
            clear hs
            obtain ⟨m3, hL3, hle3, hdu, -⟩ := RowA.show (A := _ :: Rl) TaskR.mono hL RD.out
            replace hle3 : Le mm m3 := Le.trans leX hle3
            clear hL
            have hL := hL3
            clear hL3
            go_wp2_with (first | ((with_reducible refine kAny ?_); go_skip) | (with_reducible refine stA ?_) | ((first | ((with_reducible refine kIx ?_); first | (refine t_ixa rfl rfl rfl ?_; (try simp only [Nat.mul_one])) | (refine t_ixaA rfl rfl rfl ?_; (try simp only [Nat.mul_one]))) | ((with_reducible refine kLd ?_); first | refine t_loadR hL rfl rfl ?_ | refine t_loadW hL rfl rfl ?_ | refine t_load2 hL rfl rfl ?_ | refine t_load1 hL rfl rfl ?_ | refine t_loadV hL.vw rfl rfl ?_ | refine t_loadV1 hL.vw rfl rfl ?_) | ((with_reducible refine kSt ?_); first | (refine t_storeR hL rfl rfl rfl ?_; clear hL; intro _ hL; simp only [zq2, zq3] at hL) | ((first | refine t_store hL rfl rfl rfl ?_ | refine t_sts hL rfl rfl rfl ?_ | refine t_sti hL rfl rfl rfl ?_ | refine t_stb hL rfl rfl rfl ?_ | refine t_store1 hL rfl rfl rfl ?_); clear hL; intro _ hL; simp only [splice, zq1, zq2, zq3] at hL)) | ((with_reducible refine kAl ?_); (refine t_alloc hL rfl ?_; clear hL; intro _ _ hL _)) | ((with_reducible refine kBs ?_); ((first | refine t_bsA hL rfl rfl ?_ | refine t_bsV hL rfl rfl ?_); clear hL; intro _ _ hL _ hBs))); simp only [Act.put, zq1, zq2, zq3]))
            refine goA ?_
            obtain ⟨vs8, r9, z9, y9, l9⟩ := RL.out
            refine wl_append (A := [_]) hL r9 (wanted_none rfl) rfl ap_Duties (by omega) rfl rfl (news := [.slice A7 nd c7]) rfl ((Blk.sl hBs (n := 1) rfl).le hL.vw.le) rfl (by omega) (by omega) ?_
            clear hL
            intro v2 W4 m4 R4 hL r10 e10
            obtain ⟨A10, c10, rfl, -⟩ := r10.lit
            simp only [List.cons_append, List.nil_append] at hL
            have hle4 : Le m3 m4 := leX
            have rl2 := RowA.snocV (R := DutL) (m := m4) r10 z9 (y9.mono fun v x hv => DutL.mono _ _ _ _ hv (Le.trans hle3 hle4)) l9 rfl rfl (DutL.le hdu hle4)
            simp only [Act.put, zq1, zq2, zq3]
            go_wp2_with (first | ((with_reducible refine kAny ?_); go_skip) | (with_reducible refine stA ?_) | ((first | ((with_reducible refine kIx ?_); first | (refine t_ixa rfl rfl rfl ?_; (try simp only [Nat.mul_one])) | (refine t_ixaA rfl rfl rfl ?_; (try simp only [Nat.mul_one]))) | ((with_reducible refine kLd ?_); first | refine t_loadR hL rfl rfl ?_ | refine t_loadW hL rfl rfl ?_ | refine t_load2 hL rfl rfl ?_ | refine t_load1 hL rfl rfl ?_ | refine t_loadV hL.vw rfl rfl ?_ | refine t_loadV1 hL.vw rfl rfl ?_) | ((with_reducible refine kSt ?_); first | (refine t_storeR hL rfl rfl rfl ?_; clear hL; intro _ hL; simp only [zq2, zq3] at hL) | ((first | refine t_store hL rfl rfl rfl ?_ | refine t_sts hL rfl rfl rfl ?_ | refine t_sti hL rfl rfl rfl ?_ | refine t_stb hL rfl rfl rfl ?_ | refine t_store1 hL rfl rfl rfl ?_); clear hL; intro _ hL; simp only [splice, zq1, zq2, zq3] at hL)) | ((with_reducible refine kAl ?_); (refine t_alloc hL rfl ?_; clear hL; intro _ _ hL _)) | ((with_reducible refine kBs ?_); ((first | refine t_bsA hL rfl rfl ?_ | refine t_bsV hL rfl rfl ?_); clear hL; intro _ _ hL _ hBs))); simp only [Act.put, zq1, zq2, zq3]))
            obtain ⟨m5, hL5, hle5, hdl, -⟩ := RowA.show (A := [_]) DutL.mono hL rl2
            refine fin_aggR hL Tryz.results63 rfl rfl loX ag_Col (by exact rfl) hL5 ?_
            refine ⟨_, rfl, ?_⟩
            show DutsL _ _ (csL rs n k)
            rw [HL.out]
            exact hdl
          · have HL : Hid (csL rs n k = (csAt rs n k j).l) := by
              show _ = _
              have h3 := RD.out.len
              unfold csL csD
              rw [HQ.out, hs, if_pos rfl, if_neg (by omega)]
            clear hs
            replace hL := hL.less (List.Sublist.cons_cons _ (List.sublist_append_left _ _))
            go_wp2_with (first | ((with_reducible refine kAny ?_); go_skip) | (with_reducible refine stA ?_) | ((first | ((with_reducible refine kIx ?_); first | (refine t_ixa rfl rfl rfl ?_; (try simp only [Nat.mul_one])) | (refine t_ixaA rfl rfl rfl ?_; (try simp only [Nat.mul_one]))) | ((with_reducible refine kLd ?_); first | refine t_loadR hL rfl rfl ?_ | refine t_loadW hL rfl rfl ?_ | refine t_load2 hL rfl rfl ?_ | refine t_load1 hL rfl rfl ?_ | refine t_loadV hL.vw rfl rfl ?_ | refine t_loadV1 hL.vw rfl rfl ?_) | ((with_reducible refine kSt ?_); first | (refine t_storeR hL rfl rfl rfl ?_; clear hL; intro _ hL; simp only [zq2, zq3] at hL) | ((first | refine t_store hL rfl rfl rfl ?_ | refine t_sts hL rfl rfl rfl ?_ | refine t_sti hL rfl rfl rfl ?_ | refine t_stb hL rfl rfl rfl ?_ | refine t_store1 hL rfl rfl rfl ?_); clear hL; intro _ hL; simp only [splice, zq1, zq2, zq3] at hL)) | ((with_reducible refine kAl ?_); (refine t_alloc hL rfl ?_; clear hL; intro _ _ hL _)) | ((with_reducible refine kBs ?_); ((first | refine t_bsA hL rfl rfl ?_ | refine t_bsV hL rfl rfl ?_); clear hL; intro _ _ hL _ hBs))); simp only [Act.put, zq1, zq2, zq3]))
            obtain ⟨m5, hL5, hle5, hdl, -⟩ := RowA.show (A := [_]) DutL.mono hL RL.out
            refine fin_aggR hL Tryz.results63 rfl rfl loX ag_Col (by exact rfl) hL5 ?_
            refine ⟨_, rfl, ?_⟩
            show DutsL _ _ (csL rs n k)
            rw [HL.out]
            exact hdl
end Go.Proofs.YtmhkmmmompediaaGreat

/- What pairingdata.Master builds; small lemmas for its walk. -/
namespace Go.Proofs.YtmhkmmmompediaaGreat
open Go.RowKit

theorem atF_bd (l : List Int) (i : Nat) (h : i ≤ 1000) : 0 ≤ atF l i ∧ atF l i ≤ 70000 := by
  unfold atF
  split
  · omega
  · have : i / l.length ≤ 1000 := Nat.le_trans (Nat.div_le_self _ _) h
    generalize i / l.length = q at *
    omega
theorem atX (l : List Int) (i : Nat) (h : i ≤ 1000) : ∃ a : Int, Hid (atF l i = a) ∧ 0 ≤ a ∧ a ≤ 70000 := ⟨_, rfl, atF_bd l i h⟩
theorem d_AtE (A : Option Addr) (c N : Nat) (l : List Int) (z : Int) (i : Nat) (a : Int) (w m : World) (hV : Vw m w) (h : Sl m A (l.map I64)) (hN : Hid (l.length = N)) (hl : Hid (True)) (e : Hid (atF l i = a)) (hz : z = i) (hi : i ≤ 1000) :
    Calls Tryz.prog 62 #[.slice A N c, .int .i64 z] w (RetV w m fun _ r => r = .int .i64 a) := by
  subst hz
  have := d_At A c l i w m hV h hi
  rwa [hN.out, e.out] at this

def rowsT : List (List Int) := [[0, 1, 2], [1, 2, 4], [0, 1, 2, 3], [0, 2, 3, 5], [0, 1, 2, 3, 4], [1, 2, 3, 4, 5]]
def rowsF (l : List Int) : List Int := rowsT.getD (atF l 1 % 6).toNat []
def colsG (rs l : List Int) (n : Nat) : List Col := (List.range n).map fun j => colF rs (atF l (5 + 2 * j)) (atF l (6 + 2 * j))
def cutG (rs : List Int) (sk : Nat) (j : Nat) : Option Int := if j ≠ sk ∨ rs.length = 3 then rs[j]? else none
def cutT (rs : List Int) (sk i : Nat) : List Int := (List.range i).filterMap (cutG rs sk)
def cutF (rs l : List Int) (k : Nat) : Cut := (cutT rs (atF l (20 + k) % rs.length).toNat rs.length, if atF l (24 + k) % 2 = 1 then 3 else 2)
def cutsG (rs l : List Int) (n : Nat) : List Cut := (List.range n).map (cutF rs l)
theorem range_snoc {α : Type} (f : Nat → α) (n : Nat) : (List.range (n + 1)).map f = (List.range n).map f ++ [f n] := by rw [List.range_succ, List.map_append]; rfl
theorem cutT_in {rs : List Int} {sk i : Nat} {f : Int} (h : rs[i]? = some f) (hc : i ≠ sk ∨ rs.length = 3) : cutT rs sk (i + 1) = cutT rs sk i ++ [f] := by
  unfold cutT
  rw [List.range_succ, List.filterMap_append]
  simp [cutG, hc, h]
theorem cutT_out {rs : List Int} {sk i : Nat} (hc : ¬ (i ≠ sk ∨ rs.length = 3)) : cutT rs sk (i + 1) = cutT rs sk i := by
  unfold cutT
  rw [List.range_succ, List.filterMap_append]
  simp [cutG, hc]
theorem cutT_len (rs : List Int) (sk i : Nat) : (cutT rs sk i).length ≤ i := by
  unfold cutT
  exact Nat.le_trans (List.length_filterMap_le _ _) (by simp)
theorem rowsT_len : ∀ i : Fin 6, 3 ≤ (rowsT.getD i.1 []).length ∧ (rowsT.getD i.1 []).length ≤ 5 := by decide
theorem cutT_long : ∀ i : Fin 6, ∀ s : Fin 5, s.1 < (rowsT.getD i.1 []).length → 2 < (cutT (rowsT.getD i.1 []) s.1 (rowsT.getD i.1 []).length).length := by decide

theorem IntL.ofBlk {m : World} {g : Nat} {e : TypeId} (xs : List Int) (h : Blk m g e (xs.map I64).toArray) : IntL m (.slice (some ⟨g, 0, none⟩) xs.length xs.length) xs := by
  refine ListV.mk (vs := xs.map I64) (Nat.le_refl _) (by simp) (fun u hu => ?_) ?_ ?_
  · obtain ⟨x, _, rfl⟩ := List.mem_map.1 hu; rfl
  · refine Blk.sl h (n := xs.length) ?_
    rw [List.take_of_length_le (by simp)]
    exact ih' xs
  · exact all2 xs
  where
  ih' : ∀ xs : List Int, xs.map I64 = cellsOf (xs.map I64)
    | [] => rfl
    | x :: xs => congrArg (I64 x :: ·) (ih' xs)
  all2 : ∀ xs : List Int, All2 (IsI m) (xs.map I64) xs
    | [] => trivial
    | x :: xs => ⟨rfl, all2 xs⟩
theorem cellsOf_ints : ∀ xs : List Int, cellsOf (xs.map I64) = xs.map I64
  | [] => rfl
  | x :: xs => congrArg (I64 x :: ·) (cellsOf_ints xs)
theorem all2_ints {m : World} : ∀ {vs : List Value} {xs : List Int}, All2 (IsI m) vs xs → vs = xs.map I64
  | [], [], _ => rfl
  | v :: vs, x :: xs, h => by rw [h.1, all2_ints h.2]; rfl
  | [], _ :: _, h => h.elim
  | _ :: _, [], h => h.elim
theorem IntL.sl {m : World} {A : Option Addr} {n c : Nat} {xs : List Int} (h : IntL m (.slice A n c) xs) : Sl m A (xs.map I64) := by
  obtain ⟨A', c', vs, e, hc, h1, h2, h3⟩ := h
  injection e with e1 e2 e3
  subst e1
  have := all2_ints h3
  subst this
  rwa [cellsOf_ints] at h2
theorem all2_of_ints (m : World) : ∀ xs : List Int, All2 (IsI m) (xs.map I64) xs
  | [] => trivial
  | x :: xs => ⟨rfl, all2_of_ints m xs⟩
theorem IntL.ofSl {m : World} {A : Option Addr} {n c : Nat} {xs : List Int} (h : Sl m A (xs.map I64)) (hn : xs.length = n) (hc : n ≤ c) : IntL m (.slice A n c) xs := by
  refine ListV.mk (vs := xs.map I64) hc (by simpa using hn) (fun u hu => ?_) ?_ (all2_of_ints m xs)
  · obtain ⟨x, _, rfl⟩ := List.mem_map.1 hu; rfl
  · rwa [cellsOf_ints]
abbrev IntLL := ListV (α := List Int) 1 IntL
theorem IntL.mono (m m' : World) (v : Value) (x : List Int) (h : IntL m v x) (hb : Le m m') : IntL m' v x := IntL.le h hb
theorem IntLL.at_ {m : World} {A : Option Addr} {n c : Nat} {xs : List (List Int)} (h : IntLL m (.slice A n c) xs) {k : Nat} {x : List Int} (hk : xs[k]? = some x) :
    ∃ b off B d, A = some ⟨b, off, none⟩ ∧ IntL m (.slice B x.length d) x ∧ m.cell? ⟨b, off + k, none⟩ = some (.slice B x.length d) := by
  obtain ⟨b, off, v, e, hv, _, hr⟩ := ListV.at_ h (by omega) hk
  obtain ⟨B, d, rfl, _, hv⟩ := hv.lit
  exact ⟨b, off, B, d, e, hv, by simpa using hr 0 _ rfl⟩
theorem rowsT_get (i : Nat) (h : i < 6) : rowsT[i]? = some (rowsT.getD i []) := by
  have : i < rowsT.length := h
  rw [List.getD_eq_getElem?_getD, List.getElem?_eq_getElem this]; rfl
theorem ColR.lit {m : World} {v : Value} {x : Col} (h : ColR m v x) : ∃ b A n c z, v = .agg #[.string b, .slice A n c, .int .i64 z] ∧ ColR m (.agg #[.string b, .slice A n c, .int .i64 z]) x := by
  have h' := h
  obtain ⟨s, rfl, hs⟩ := h
  obtain ⟨A, c, rfl, _, _⟩ := hs.lit
  exact ⟨_, _, _, _, _, rfl, h'⟩
theorem ints_one (rs : List Int) : (rs.map I64).all (·.oneCell') = true := by
  rw [List.all_map, List.all_eq_true]; intro x _; rfl
theorem d_ColumnE (A : Option Addr) (c q : Nat) (rs : List Int) (n k : Int) (w m : World) (hV : Vw m w) (hr : IntL m (.slice A q c) rs) (hq : Hid (rs.length = q)) (h1 : 1 ≤ q) (h2 : q ≤ 6) (n0 : 0 ≤ n) (n1 : n ≤ 100000) (k0 : 0 ≤ k) (k1 : k ≤ 100000) :
    Calls Tryz.prog 63 #[.slice A q c, .int .i64 n, .int .i64 k] w (RetV w m fun m' r => ColR m' r (colF rs n k)) := by
  obtain rfl := hq.out
  exact d_Column A c rs n k w m hV hr h1 h2 n0 n1 k0 k1
theorem colsG_snoc (rs l : List Int) (j : Nat) {a b : Int} (ha : Hid (atF l (5 + 2 * j) = a)) (hb : Hid (atF l (6 + 2 * j) = b)) : colsG rs l j ++ [colF rs a b] = colsG rs l (j + 1) := by
  unfold colsG
  rw [range_snoc, ha.out, hb.out]
theorem cutsG_snoc (rs l : List Int) (k sk q : Nat) {a b : Int} (hq : Hid (rs.length = q)) (ha : Hid (atF l (20 + k) = a)) (hb : Hid (atF l (24 + k) = b)) (hs : (sk : Int) = a % q) (d : Int) (hd : d = if b % 2 = 1 then 3 else 2) :
    cutsG rs l k ++ [(cutT rs sk q, d)] = cutsG rs l (k + 1) := by
  unfold cutsG
  rw [range_snoc]
  unfold cutF
  rw [ha.out, hb.out, hq.out, ← hs, hd]; rfl
structure Ms where
  nf : Int
  rows : List Int
  pen : Int
  cols : List Col
  cuts : List Cut
def MasterR (m : World) (v : Value) (x : Ms) : Prop := ∃ a b c, v = .agg #[.int .i64 x.nf, a, .int .i64 x.pen, b, c] ∧ IntL m a x.rows ∧ ColL m b x.cols ∧ CutL m c x.cuts
theorem MasterR.le {m m' : World} {v : Value} {x : Ms} (h : MasterR m v x) (hb : Le m m') : MasterR m' v x := by
  obtain ⟨a, b, c, e, h1, h2, h3⟩ := h
  exact ⟨a, b, c, e, IntL.le h1 hb, ColL.le h2 hb, CutL.le h3 hb⟩
def masF (l : List Int) : Ms := ⟨6, rowsF l, atF l 0 % 30, colsG (rowsF l) l (atF l 2 % 7).toNat, cutsG (rowsF l) l (atF l 3 % 3).toNat⟩
end Go.Proofs.YtmhkmmmompediaaGreat

/- Contract of pairingdata.Master. -/
namespace Go.Proofs.YtmhkmmmompediaaGreat
open Go.RowKit

theorem CutR.mono' (m m' : World) (v : Value) (x : Cut) (h : CutR m v x) (hb : Le m m') : CutR m' v x := h.le hb
theorem IsI.mono (m m' : World) (v : Value) (x : Int) (h : IsI m v x) (_ : Le m m') : IsI m' v x := h

set_option maxRecDepth 100000 in
set_option maxHeartbeats 32000000 in
theorem d_Master (A : Option Addr) (c : Nat) (l : List Int) (w m : World) (hV : Vw m w) (h : Sl m A (l.map I64)) (hl : True) :
    Calls Tryz.prog 15 #[.slice A l.length c] w (RetV w m fun m' r => MasterR m' r (masF l)) := by
  have HL := Lib.hid hl
  clear hl
  generalize hN : l.length = N
  have HN := Lib.hid hN
  clear hN
  obtain ⟨a0, E0, p0, p0'⟩ := atX l 0 (by omega)
  obtain ⟨a1, E1, p1, p1'⟩ := atX l 1 (by omega)
  obtain ⟨a2, E2, p2, p2'⟩ := atX l 2 (by omega)
  obtain ⟨a3, E3, p3, p3'⟩ := atX l 3 (by omega)
  have hL := Loc.start hV
  clear hV
  go_enter Tryz.func15, Tryz.ntmps15
  go_upto_region 0 with (fail)
  refine wp_region_lit ?_
  refine t_alloc hL rfl ?_; clear hL; intro Wh2 mh2 hL eh2; simp only [Act.put, zq1, zq2, zq3]
  go_wp2_with (first | ((with_reducible refine kAny ?_); go_skip) | (with_reducible refine stA ?_) | ((first | ((with_reducible refine kIx ?_); first | (refine t_ixa rfl rfl rfl ?_; (try simp only [Nat.mul_one])) | (refine t_ixaA rfl rfl rfl ?_; (try simp only [Nat.mul_one]))) | ((with_reducible refine kFd ?_); first | refine t_fda0 rfl rfl ?_ | (refine t_fda rfl rfl ?_; (try simp only [Nat.zero_add, Nat.reduceAdd]))) | ((with_reducible refine kLd ?_); first | refine t_loadR hL rfl rfl ?_ | refine t_loadW hL rfl rfl ?_ | refine t_load2 hL rfl rfl ?_ | refine t_load1 hL rfl rfl ?_ | refine t_loadV hL.vw rfl rfl ?_ | refine t_loadV1 hL.vw rfl rfl ?_) | ((with_reducible refine kSt ?_); first | (refine t_storeR hL rfl rfl rfl ?_; clear hL; intro _ hL; simp only [zq2, zq3] at hL) | ((first | refine t_store hL rfl rfl rfl ?_ | refine t_sts hL rfl rfl rfl ?_ | refine t_sti hL rfl rfl rfl ?_ | refine t_stb hL rfl rfl rfl ?_ | refine t_store1 hL rfl rfl rfl ?_); clear hL; intro _ hL; simp only [splice, zq1, zq2, zq3] at hL)) | ((with_reducible refine kAl ?_); (refine t_alloc hL rfl ?_; clear hL; intro _ _ hL _)) | ((with_reducible refine kBs ?_); ((first | refine t_bsA hL rfl rfl ?_ | refine t_bsV hL rfl rfl ?_); clear hL; intro _ _ hL _ hBs))); simp only [Act.put, zq1, zq2, zq3]))
  refine (d_AtE _ _ _ l _ 0 a0 _ _ hL.vw (h.le leX) HN HL E0 rfl (by omega)).mono ?_
  rintro e Wc0 ⟨_, mc0, rfl, hE, hMc0, hV, rfl⟩
  replace hL := hL.call hE (by assumption) hV; clear hE hV
  go_upto_region 2 with ((first | ((with_reducible refine kAny ?_); go_skip) | (with_reducible refine stA ?_) | ((first | ((with_reducible refine kIx ?_); first | (refine t_ixa rfl rfl rfl ?_; (try simp only [Nat.mul_one])) | (refine t_ixaA rfl rfl rfl ?_; (try simp only [Nat.mul_one]))) | ((with_reducible refine kFd ?_); first | refine t_fda0 rfl rfl ?_ | (refine t_fda rfl rfl ?_; (try simp only [Nat.zero_add, Nat.reduceAdd]))) | ((with_reducible refine kLd ?_); first | refine t_loadR hL rfl rfl ?_ | refine t_loadW hL rfl rfl ?_ | refine t_load2 hL rfl rfl ?_ | refine t_load1 hL rfl rfl ?_ | refine t_loadV hL.vw rfl rfl ?_ | refine t_loadV1 hL.vw rfl rfl ?_) | ((with_reducible refine kSt ?_); first | (refine t_storeR hL rfl rfl rfl ?_; clear hL; intro _ hL; simp only [zq2, zq3] at hL) | ((first | refine t_store hL rfl rfl rfl ?_ | refine t_sts hL rfl rfl rfl ?_ | refine t_sti hL rfl rfl rfl ?_ | refine t_stb hL rfl rfl rfl ?_ | refine t_store1 hL rfl rfl rfl ?_); clear hL; intro _ hL; simp only [splice, zq1, zq2, zq3] at hL)) | ((with_reducible refine kAl ?_); (refine t_alloc hL rfl ?_; clear hL; intro _ _ hL _)) | ((with_reducible refine kBs ?_); ((first | refine t_bsA hL rfl rfl ?_ | refine t_bsV hL rfl rfl ?_); clear hL; intro _ _ hL _ hBs))); simp only [Act.put, zq1, zq2, zq3])))
  refine wp_region_lit ?_
  rename_i W0 _ _
  refine wl_bslice hL (wanted_none rfl) rfl (n := 3) (cs := #[.int .i64 0, .int .i64 1, .int .i64 2]) (e := 3) (fun w => by go_simp) ?_
  clear hL
  intro Wa ma hL ea hab
  simp only [Act.put, zq1, zq2, zq3]
  refine wl_bslice hL (wanted_none rfl) rfl (n := 3) (cs := #[.int .i64 1, .int .i64 2, .int .i64 4]) (e := 3) (fun w => by go_simp) ?_
  clear hL
  intro Wb mb hL eb hbb
  simp only [Act.put, zq1, zq2, zq3]
  refine wl_bslice hL (wanted_none rfl) rfl (n := 4) (cs := #[.int .i64 0, .int .i64 1, .int .i64 2, .int .i64 3]) (e := 3) (fun w => by go_simp) ?_
  clear hL
  intro Wc mc hL ec hcb
  simp only [Act.put, zq1, zq2, zq3]
  refine wl_bslice hL (wanted_none rfl) rfl (n := 4) (cs := #[.int .i64 0, .int .i64 2, .int .i64 3, .int .i64 5]) (e := 3) (fun w => by go_simp) ?_
  clear hL
  intro Wd md hL ed hdb
  simp only [Act.put, zq1, zq2, zq3]
  refine wl_bslice hL (wanted_none rfl) rfl (n := 5) (cs := #[.int .i64 0, .int .i64 1, .int .i64 2, .int .i64 3, .int .i64 4]) (e := 3) (fun w => by go_simp) ?_
  clear hL
  intro We me hL ee heb
  simp only [Act.put, zq1, zq2, zq3]
  refine wl_bslice hL (wanted_none rfl) rfl (n := 5) (cs := #[.int .i64 1, .int .i64 2, .int .i64 3, .int .i64 4, .int .i64 5]) (e := 3) (fun w => by go_simp) ?_
  clear hL
  intro Wf mf hL ef hfb
  simp only [Act.put, zq1, zq2, zq3]
  refine wl_bslice hL (wanted_none rfl) rfl (n := 6) (cs := #[.slice (some ⟨W0.heap.size, 0, none⟩) 3 3, .slice (some ⟨Wa.heap.size, 0, none⟩) 3 3, .slice (some ⟨Wb.heap.size, 0, none⟩) 4 4, .slice (some ⟨Wc.heap.size, 0, none⟩) 4 4, .slice (some ⟨Wd.heap.size, 0, none⟩) 5 5, .slice (some ⟨We.heap.size, 0, none⟩) 5 5]) (e := 22) (fun w => by go_simp) ?_
  clear hL
  intro Wg mg hL eg hgb
  simp only [Act.put, zq1, zq2, zq3]
  have hrows : IntLL mg (.slice (some ⟨Wf.heap.size, 0, none⟩) 6 6) rowsT := ListV.mk (vs := [.slice (some ⟨W0.heap.size, 0, none⟩) 3 3, .slice (some ⟨Wa.heap.size, 0, none⟩) 3 3, .slice (some ⟨Wb.heap.size, 0, none⟩) 4 4, .slice (some ⟨Wc.heap.size, 0, none⟩) 4 4, .slice (some ⟨Wd.heap.size, 0, none⟩) 5 5, .slice (some ⟨We.heap.size, 0, none⟩) 5 5]) (by omega) rfl (fun u hu => by simp at hu; rcases hu with rfl | rfl | rfl | rfl | rfl | rfl <;> rfl) (Blk.sl hgb (n := 6) rfl)
    ⟨IntL.le (IntL.ofBlk [0, 1, 2] hab) leX, IntL.le (IntL.ofBlk [1, 2, 4] hbb) leX, IntL.le (IntL.ofBlk [0, 1, 2, 3] hcb) leX, IntL.le (IntL.ofBlk [0, 2, 3, 5] hdb) leX, IntL.le (IntL.ofBlk [0, 1, 2, 3, 4] heb) leX, IntL.le (IntL.ofBlk [1, 2, 3, 4, 5] hfb) leX, trivial⟩
  clear hab hbb hcb hdb heb hfb hgb
  go_wp2_with (first | ((with_reducible refine kAny ?_); go_skip) | (with_reducible refine stA ?_) | ((first | ((with_reducible refine kIx ?_); first | (refine t_ixa rfl rfl rfl ?_; (try simp only [Nat.mul_one])) | (refine t_ixaA rfl rfl rfl ?_; (try simp only [Nat.mul_one]))) | ((with_reducible refine kFd ?_); first | refine t_fda0 rfl rfl ?_ | (refine t_fda rfl rfl ?_; (try simp only [Nat.zero_add, Nat.reduceAdd]))) | ((with_reducible refine kLd ?_); first | refine t_loadR hL rfl rfl ?_ | refine t_loadW hL rfl rfl ?_ | refine t_load2 hL rfl rfl ?_ | refine t_load1 hL rfl rfl ?_ | refine t_loadV hL.vw rfl rfl ?_ | refine t_loadV1 hL.vw rfl rfl ?_) | ((with_reducible refine kSt ?_); first | (refine t_storeR hL rfl rfl rfl ?_; clear hL; intro _ hL; simp only [zq2, zq3] at hL) | ((first | refine t_store hL rfl rfl rfl ?_ | refine t_sts hL rfl rfl rfl ?_ | refine t_sti hL rfl rfl rfl ?_ | refine t_stb hL rfl rfl rfl ?_ | refine t_store1 hL rfl rfl rfl ?_); clear hL; intro _ hL; simp only [splice, zq1, zq2, zq3] at hL)) | ((with_reducible refine kAl ?_); (refine t_alloc hL rfl ?_; clear hL; intro _ _ hL _)) | ((with_reducible refine kBs ?_); ((first | refine t_bsA hL rfl rfl ?_ | refine t_bsV hL rfl rfl ?_); clear hL; intro _ _ hL _ hBs))); simp only [Act.put, zq1, zq2, zq3]))
  refine (d_AtE _ _ _ l _ 1 a1 _ _ hL.vw (h.le leX) HN HL E1 rfl (by omega)).mono ?_
  rintro e Wc1 ⟨_, mc1, rfl, hE, hMc1, hV, rfl⟩
  replace hL := hL.call hE (by assumption) hV; clear hE hV
  have hi1 : (a1 % 6).toNat < 6 := by omega
  have e6 : a1 % 6 = ((a1 % 6).toNat : Int) := by omega
  have HR : Hid (rowsF l = rowsT.getD (a1 % 6).toNat []) := by show _ = _; unfold rowsF; rw [E1.out]
  obtain ⟨h3, h5⟩ := rowsT_len ⟨_, hi1⟩
  have HC : Hid (∀ s : Nat, s < (rowsT.getD (a1 % 6).toNat []).length → 2 < (cutT (rowsT.getD (a1 % 6).toNat []) s (rowsT.getD (a1 % 6).toNat []).length).length) := by
    show ∀ s : Nat, _
    intro s hs
    exact cutT_long ⟨_, hi1⟩ ⟨s, by simp only at h5; omega⟩ hs
  obtain ⟨b6, o6, A4, c4, e, hrs, hc6⟩ := IntLL.at_ hrows (rowsT_get _ hi1)
  injection e with e
  injection e with e e'
  subst e e'
  simp only at h3 h5
  simp only [Nat.zero_add] at hc6
  generalize rowsT.getD (a1 % 6).toNat [] = rs at *
  generalize (a1 % 6).toNat = i1 at *
  generalize hq : rs.length = q at *
  have HQ := Lib.hid hq
  clear hq hrows
  go_wp2_with (first | ((with_reducible refine kAny ?_); go_skip) | (with_reducible refine stA ?_) | ((first | ((with_reducible refine kIx ?_); first | (refine t_ixa rfl rfl rfl ?_; (try simp only [Nat.mul_one])) | (refine t_ixaA rfl rfl rfl ?_; (try simp only [Nat.mul_one]))) | ((with_reducible refine kFd ?_); first | refine t_fda0 rfl rfl ?_ | (refine t_fda rfl rfl ?_; (try simp only [Nat.zero_add, Nat.reduceAdd]))) | ((with_reducible refine kLd ?_); first | refine t_loadR hL rfl rfl ?_ | refine t_loadW hL rfl rfl ?_ | refine t_load2 hL rfl rfl ?_ | refine t_load1 hL rfl rfl ?_ | refine t_loadV hL.vw rfl rfl ?_ | refine t_loadV1 hL.vw rfl rfl ?_) | ((with_reducible refine kSt ?_); first | (refine t_storeR hL rfl rfl rfl ?_; clear hL; intro _ hL; simp only [zq2, zq3] at hL) | ((first | refine t_store hL rfl rfl rfl ?_ | refine t_sts hL rfl rfl rfl ?_ | refine t_sti hL rfl rfl rfl ?_ | refine t_stb hL rfl rfl rfl ?_ | refine t_store1 hL rfl rfl rfl ?_); clear hL; intro _ hL; simp only [splice, zq1, zq2, zq3] at hL)) | ((with_reducible refine kAl ?_); (refine t_alloc hL rfl ?_; clear hL; intro _ _ hL _)) | ((with_reducible refine kBs ?_); ((first | refine t_bsA hL rfl rfl ?_ | refine t_bsV hL rfl rfl ?_); clear hL; intro _ _ hL _ hBs))); simp only [Act.put, zq1, zq2, zq3]))
  refine goA ?_
  refine wl_append (A := [_, _]) hL (Row.nil _ _) (wanted_none rfl) rfl ap_ints (by omega) rfl rfl (news := rs.map I64) (by simp [HQ.out]) ((IntL.sl (IntL.le hrs leX)).le hL.vw.le) (ints_one rs) (by omega) (by omega) ?_
  clear hL
  intro v1 W4 m4 R4 hL r4 e4
  obtain ⟨m5, A5, c5, hL5, hle5, rfl, hc5, hs5, -⟩ := Loc.show (A := [_, _]) hL r4
  simp only [Nat.zero_add, List.nil_append] at hc5 hs5
  have hrw : IntL m5 (.slice A5 q c5) rs := IntL.ofSl hs5 HQ.out hc5
  have hrs5 : IntL m5 (.slice A4 q c4) rs := IntL.le hrs (Le.trans leX hle5)
  clear hL hs5 hrs hc6
  have hL := hL5
  clear hL5 hle5
  have e7 : a2 % 7 = ((a2 % 7).toNat : Int) := by omega
  have E2' : Hid ((atF l 2 % 7).toNat = (a2 % 7).toNat) := by show _ = _; rw [E2.out]
  have hJ : (a2 % 7).toNat ≤ 6 := by omega
  generalize (a2 % 7).toNat = J at *
  have e3' : a3 % 3 = ((a3 % 3).toNat : Int) := by omega
  have E3' : Hid ((atF l 3 % 3).toNat = (a3 % 3).toNat) := by show _ = _; rw [E3.out]
  have hK : (a3 % 3).toNat ≤ 2 := by omega
  generalize (a3 % 3).toNat = K at *
  clear e6 hi1
  simp only [Act.put, zq1, zq2, zq3, Nat.zero_add]
  go_wp2_with (first | ((with_reducible refine kAny ?_); go_skip) | (with_reducible refine stA ?_) | ((first | ((with_reducible refine kIx ?_); first | (refine t_ixa rfl rfl rfl ?_; (try simp only [Nat.mul_one])) | (refine t_ixaA rfl rfl rfl ?_; (try simp only [Nat.mul_one]))) | ((with_reducible refine kFd ?_); first | refine t_fda0 rfl rfl ?_ | (refine t_fda rfl rfl ?_; (try simp only [Nat.zero_add, Nat.reduceAdd]))) | ((with_reducible refine kLd ?_); first | refine t_loadR hL rfl rfl ?_ | refine t_loadW hL rfl rfl ?_ | refine t_load2 hL rfl rfl ?_ | refine t_load1 hL rfl rfl ?_ | refine t_loadV hL.vw rfl rfl ?_ | refine t_loadV1 hL.vw rfl rfl ?_) | ((with_reducible refine kSt ?_); first | (refine t_storeR hL rfl rfl rfl ?_; clear hL; intro _ hL; simp only [zq2, zq3] at hL) | ((first | refine t_store hL rfl rfl rfl ?_ | refine t_sts hL rfl rfl rfl ?_ | refine t_sti hL rfl rfl rfl ?_ | refine t_stb hL rfl rfl rfl ?_ | refine t_store1 hL rfl rfl rfl ?_); clear hL; intro _ hL; simp only [splice, zq1, zq2, zq3] at hL)) | ((with_reducible refine kAl ?_); (refine t_alloc hL rfl ?_; clear hL; intro _ _ hL _)) | ((with_reducible refine kBs ?_); ((first | refine t_bsA hL rfl rfl ?_ | refine t_bsV hL rfl rfl ?_); clear hL; intro _ _ hL _ hBs))); simp only [Act.put, zq1, zq2, zq3]))
  go_loopw [5] (fun i wr => ∃ (j : Nat) (mm : World) (A7 : Option Addr) (c7 : Nat) (Rr : List Lo), j ≤ J ∧ i = .int .i64 j ∧ Loc w m wr mm ((Wc0.heap.size, 26, #[.int .i64 6, .slice A5 q c5, .int .i64 (a0 % 30), .slice A7 j c7, .slice none 0 0]) :: (w.heap.size, 26, #[.int .i64 0, .slice none 0 0, .int .i64 0, .slice none 0 0, .slice none 0 0]) :: Rr) ∧ Hid (RowA 72 3 ColR mm (.slice A7 j c7) j (colsG rs l j) Rr) ∧ Ext m5 mm) (fun i _ => J - (intOf i).toNat)
  case atStart => exact ⟨0, m5, none, 0, [], Nat.zero_le _, rfl, hL, RowA.nil, Ext.refl _⟩
  case round =>
    clear hL
    obtain ⟨j, mm, A7, c7, Rr, hj, rfl, hL, rr, hX⟩ := hrel
    have hM := hL.mext
    have hA := h.le hM.le
    have hrs6 := IntL.le hrs5 hX.le
    have hrw6 := IntL.le hrw hX.le
    have HX := Lib.hid hX
    clear hX hM
    go_wp2_with (first | ((with_reducible refine kAny ?_); go_skip) | (with_reducible refine stA ?_) | ((first | ((with_reducible refine kIx ?_); first | (refine t_ixa rfl rfl rfl ?_; (try simp only [Nat.mul_one])) | (refine t_ixaA rfl rfl rfl ?_; (try simp only [Nat.mul_one]))) | ((with_reducible refine kFd ?_); first | refine t_fda0 rfl rfl ?_ | (refine t_fda rfl rfl ?_; (try simp only [Nat.zero_add, Nat.reduceAdd]))) | ((with_reducible refine kLd ?_); first | refine t_loadR hL rfl rfl ?_ | refine t_loadW hL rfl rfl ?_ | refine t_load2 hL rfl rfl ?_ | refine t_load1 hL rfl rfl ?_ | refine t_loadV hL.vw rfl rfl ?_ | refine t_loadV1 hL.vw rfl rfl ?_) | ((with_reducible refine kSt ?_); first | (refine t_storeR hL rfl rfl rfl ?_; clear hL; intro _ hL; simp only [zq2, zq3] at hL) | ((first | refine t_store hL rfl rfl rfl ?_ | refine t_sts hL rfl rfl rfl ?_ | refine t_sti hL rfl rfl rfl ?_ | refine t_stb hL rfl rfl rfl ?_ | refine t_store1 hL rfl rfl rfl ?_); clear hL; intro _ hL; simp only [splice, zq1, zq2, zq3] at hL)) | ((with_reducible refine kAl ?_); (refine t_alloc hL rfl ?_; clear hL; intro _ _ hL _)) | ((with_reducible refine kBs ?_); ((first | refine t_bsA hL rfl rfl ?_ | refine t_bsV hL rfl rfl ?_); clear hL; intro _ _ hL _ hBs))); simp only [Act.put, zq1, zq2, zq3]))
    refine (d_AtE _ _ _ l _ 2 a2 _ _ hL.vw (hA.le leX) HN HL E2 rfl (by omega)).mono ?_
    rintro e Wc2 ⟨_, mc2, rfl, hE, hMc2, hV, rfl⟩
    replace hL := hL.call hE (by assumption) hV; clear hE hV
    by_cases hlt : j < J
    · obtain ⟨a5, E5, p5, p5'⟩ := atX l (5 + 2 * j) (by omega)
      obtain ⟨a6, E6, p6, p6'⟩ := atX l (6 + 2 * j) (by omega)
      go_upto_region 7 with ((first | ((with_reducible refine kAny ?_); go_skip) | (with_reducible refine stA ?_) | ((first | ((with_reducible refine kIx ?_); first | (refine t_ixa rfl rfl rfl ?_; (try simp only [Nat.mul_one])) | (refine t_ixaA rfl rfl rfl ?_; (try simp only [Nat.mul_one]))) | ((with_reducible refine kFd ?_); first | refine t_fda0 rfl rfl ?_ | (refine t_fda rfl rfl ?_; (try simp only [Nat.zero_add, Nat.reduceAdd]))) | ((with_reducible refine kLd ?_); first | refine t_loadR hL rfl rfl ?_ | refine t_loadW hL rfl rfl ?_ | refine t_load2 hL rfl rfl ?_ | refine t_load1 hL rfl rfl ?_ | refine t_loadV hL.vw rfl rfl ?_ | refine t_loadV1 hL.vw rfl rfl ?_) | ((with_reducible refine kSt ?_); first | (refine t_storeR hL rfl rfl rfl ?_; clear hL; intro _ hL; simp only [zq2, zq3] at hL) | ((first | refine t_store hL rfl rfl rfl ?_ | refine t_sts hL rfl rfl rfl ?_ | refine t_sti hL rfl rfl rfl ?_ | refine t_stb hL rfl rfl rfl ?_ | refine t_store1 hL rfl rfl rfl ?_); clear hL; intro _ hL; simp only [splice, zq1, zq2, zq3] at hL)) | ((with_reducible refine kAl ?_); (refine t_alloc hL rfl ?_; clear hL; intro _ _ hL _)) | ((with_reducible refine kBs ?_); ((first | refine t_bsA hL rfl rfl ?_ | refine t_bsV hL rfl rfl ?_); clear hL; intro _ _ hL _ hBs))); simp only [Act.put, zq1, zq2, zq3])))
      clear e7 e3'
      (try simp only [eq_self] at *)
      refine wp_region_by2 15 [false, false, false, false, false, false, false, false, false, false, false, false, false, false, false] [false, false, false, false, false, false, false, false, false, false, false, false, false, false, false] [(fun v _ _ => v = ?c7_0), (fun v _ _ => v = ?c7_1), (fun v _ _ => v = ?c7_2), (fun v _ _ => v = ?c7_3), (fun v _ _ => v = ?c7_4), (fun v _ _ => v = ?c7_5), (fun v _ _ => v = ?c7_6), Is (.int .i64 a5), (fun v _ _ => v = ?c7_8), (fun v _ _ => v = ?c7_9), (fun v _ _ => v = ?c7_10), (fun v _ _ => v = ?c7_11), Is (.int .i64 a6), Of (fun um v => ColR um v (colF rs a5 a6)), (NewS1 72 (fun um v => ColR um v (colF rs a5 a6)))] hL.vw mixed [38, 39, 40, 41, 42, 43, 44, 45, 46, 47, 48, 49, 50, 51, 52] _ (by kernel_rfl) (fun vs => by simp only [lay, Act.put, zq1, zq2, zq3]; rfl) (by kernel_rfl) (by decide) (by decide) ?s7 ?l7 ?r7
      case s7 =>
        refine ⟨?_, ?_, ?_, ?_, ?_, ?_, ?_, ?_, ?_, ?_, ?_, ?_, ?_, ?_, ?_, trivial⟩
        · intro vs W1 m1 hE hM hV hD
          clear hD
          replace hL := hL.call hE hM hV
          exact sFd
        · intro vs W1 m1 hE hM hV hD
          obtain ⟨⟨_, _, -, -, f38⟩, -⟩ := hD
          have f38 : vs 38 = _ := f38
          generalize vs 38 = x38 at f38 ⊢
          subst x38
          replace hL := hL.call hE hM hV
          exact sLd
        · intro vs W1 m1 hE hM hV hD
          clear hD
          replace hL := hL.call hE hM hV
          exact sPu
        · intro vs W1 m1 hE hM hV hD
          clear hD
          replace hL := hL.call hE hM hV
          exact sPu
        · intro vs W1 m1 hE hM hV hD
          clear hD
          replace hL := hL.call hE hM hV
          exact sPu
        · intro vs W1 m1 hE hM hV hD
          obtain ⟨⟨_, _, -, -, f42⟩, -⟩ := hD
          have f42 : vs 42 = _ := f42
          generalize vs 42 = x42 at f42 ⊢
          subst x42
          replace hL := hL.call hE hM hV
          exact sPu
        · intro vs W1 m1 hE hM hV hD
          obtain ⟨⟨_, _, -, -, f43⟩, -⟩ := hD
          have f43 : vs 43 = _ := f43
          generalize vs 43 = x43 at f43 ⊢
          subst x43
          replace hL := hL.call hE hM hV
          exact sPu
        · intro vs W1 m1 hE hM hV hD
          obtain ⟨⟨_, _, -, -, f41⟩, ⟨_, _, -, -, f44⟩, -⟩ := hD
          have f41 : vs 41 = _ := f41
          generalize vs 41 = x41 at f41 ⊢
          subst x41
          have f44 : vs 44 = _ := f44
          generalize vs 44 = x44 at f44 ⊢
          subst x44
          go_wp2_with fail
          refine (d_AtE _ _ _ l _ (5 + 2 * j) a5 _ _ hV (hA.le leX) HN HL E5 (by omega) (by omega)).mono ?_
          rintro e W2 ⟨v, m2, rfl, hE2, hM2, hV2, h⟩
          go_wp2_with fail
          refine One2.call hE2 hM2 hV2 ?_; first | exact h | exact rfl
        · intro vs W1 m1 hE hM hV hD
          clear hD
          replace hL := hL.call hE hM hV
          exact sPu
        · intro vs W1 m1 hE hM hV hD
          clear hD
          replace hL := hL.call hE hM hV
          exact sPu
        · intro vs W1 m1 hE hM hV hD
          obtain ⟨⟨_, _, -, -, f47⟩, -⟩ := hD
          have f47 : vs 47 = _ := f47
          generalize vs 47 = x47 at f47 ⊢
          subst x47
          replace hL := hL.call hE hM hV
          exact sPu
        · intro vs W1 m1 hE hM hV hD
          obtain ⟨⟨_, _, -, -, f48⟩, -⟩ := hD
          have f48 : vs 48 = _ := f48
          generalize vs 48 = x48 at f48 ⊢
          subst x48
          replace hL := hL.call hE hM hV
          exact sPu
        · intro vs W1 m1 hE hM hV hD
          obtain ⟨⟨_, _, -, -, f46⟩, ⟨_, _, -, -, f49⟩, -, -⟩ := hD
          have f46 : vs 46 = _ := f46
          generalize vs 46 = x46 at f46 ⊢
          subst x46
          have f49 : vs 49 = _ := f49
          generalize vs 49 = x49 at f49 ⊢
          subst x49
          go_wp2_with fail
          refine (d_AtE _ _ _ l _ (6 + 2 * j) a6 _ _ hV (hA.le leX) HN HL E6 (by omega) (by omega)).mono ?_
          rintro e W2 ⟨v, m2, rfl, hE2, hM2, hV2, h⟩
          go_wp2_with fail
          refine One2.call hE2 hM2 hV2 ?_; first | exact h | exact rfl
        · intro vs W1 m1 hE hM hV hD
          obtain ⟨⟨_, _, -, -, f40⟩, ⟨_, _, -, -, f45⟩, ⟨_, _, -, -, f50⟩, -, -⟩ := hD
          have f40 : vs 40 = _ := f40
          generalize vs 40 = x40 at f40 ⊢
          subst x40
          have f45 : vs 45 = _ := f45
          generalize vs 45 = x45 at f45 ⊢
          subst x45
          have f50 : vs 50 = _ := f50
          generalize vs 50 = x50 at f50 ⊢
          subst x50
          go_wp2_with fail
          refine (d_ColumnE _ _ q rs a5 a6 _ _ hV (IntL.le hrs6 leX) HQ (by omega) (by omega) p5 (by omega) p6 (by omega)).mono ?_
          rintro e W2 ⟨v, m2, rfl, hE2, hM2, hV2, h⟩
          go_wp2_with fail
          refine One2.call hE2 hM2 hV2 ?_; first | exact h | exact rfl
        · intro vs W1 m1 hE hM hV hD
          obtain ⟨⟨_, _, -, i51, f51⟩, -⟩ := hD
          have f51 : ColR _ (vs 51) (colF rs a5 a6) := f51
          replace f51 := f51.le i51.le
          clear i51
          (obtain ⟨b9, A9, n9, c9, z9, e9, f9⟩ := f51.lit; generalize vs 51 = x9 at e9 ⊢; subst x9; go_wp2_with fail; exact one2_s1 hV fun m' h => f9.le h.le)
      case l7 =>
        refine ⟨fun h => (by cases h), fun h => (by cases h), fun h => (by cases h), fun h => (by cases h), fun h => (by cases h), fun h => (by cases h), fun h => (by cases h), fun h => (by cases h), fun h => (by cases h), fun h => (by cases h), fun h => (by cases h), fun h => (by cases h), fun h => (by cases h), fun h => (by cases h), fun h => (by cases h), trivial⟩
      intro vs W1 m1 hE hM hV hF hD
      clear hD
      obtain ⟨-, ⟨_, _, -, -, f39⟩, -, -, -, -, -, -, -, -, -, -, -, ⟨_, _, -, i51, f51⟩, ⟨_, _, j52, i52, f52⟩, -⟩ := hF
      replace hL := hL.call hE hM hV
      have f39 : vs 39 = _ := f39
      generalize vs 39 = x39 at f39 ⊢
      subst x39
      replace f51 : ColR _ (vs 51) (colF rs a5 a6) := f51
      replace f51 := f51.le i51.le
      clear i51
      clear hE hV
      obtain ⟨g15, cs15, e15, q15, f15⟩ := f52
      generalize vs 52 = x15 at e15 ⊢
      subst x15
      replace q15 := q15.ext j52
      have f16 : ColR _ (.agg cs15) (colF rs a5 a6) := f15
      replace f16 := f16.le i52.le
      clear f15 i52 j52
      obtain ⟨b9, A9, n9, c9, z9, e9, f16⟩ := f16.lit
      injection e9 with e9
      subst e9
      simp only [List.drop_succ_cons, List.drop_zero]
      obtain ⟨vs7, r7, z7, y7, l7⟩ := rr.out
      refine wl_append (A := [_, _]) hL r7 (wanted_none rfl) rfl ap_Cols (by omega) rfl rfl (news := [.string b9, .slice A9 n9 c9, .int .i64 z9]) rfl (Blk.sl q15 (n := 3) rfl) rfl (by omega) (by omega) ?_
      clear hL
      intro v1 W2 m2 R2 hL r8 e8
      obtain ⟨A8, c8, rfl, -⟩ := r8.lit
      simp only [List.cons_append, List.nil_append] at hL
      simp only [Act.put, zq1, zq2, zq3]
      go_wp2_with (first | ((with_reducible refine kAny ?_); go_skip) | (with_reducible refine stA ?_) | ((first | ((with_reducible refine kIx ?_); first | (refine t_ixa rfl rfl rfl ?_; (try simp only [Nat.mul_one])) | (refine t_ixaA rfl rfl rfl ?_; (try simp only [Nat.mul_one]))) | ((with_reducible refine kFd ?_); first | refine t_fda0 rfl rfl ?_ | (refine t_fda rfl rfl ?_; (try simp only [Nat.zero_add, Nat.reduceAdd]))) | ((with_reducible refine kLd ?_); first | refine t_loadR hL rfl rfl ?_ | refine t_loadW hL rfl rfl ?_ | refine t_load2 hL rfl rfl ?_ | refine t_load1 hL rfl rfl ?_ | refine t_loadV hL.vw rfl rfl ?_ | refine t_loadV1 hL.vw rfl rfl ?_) | ((with_reducible refine kSt ?_); first | (refine t_storeR hL rfl rfl rfl ?_; clear hL; intro _ hL; simp only [zq2, zq3] at hL) | ((first | refine t_store hL rfl rfl rfl ?_ | refine t_sts hL rfl rfl rfl ?_ | refine t_sti hL rfl rfl rfl ?_ | refine t_stb hL rfl rfl rfl ?_ | refine t_store1 hL rfl rfl rfl ?_); clear hL; intro _ hL; simp only [splice, zq1, zq2, zq3] at hL)) | ((with_reducible refine kAl ?_); (refine t_alloc hL rfl ?_; clear hL; intro _ _ hL _)) | ((with_reducible refine kBs ?_); ((first | refine t_bsA hL rfl rfl ?_ | refine t_bsV hL rfl rfl ?_); clear hL; intro _ _ hL _ hBs))); simp only [Act.put, zq1, zq2, zq3]))
      refine QN.mk ?_
      go_wp2_with (first | ((with_reducible refine kAny ?_); go_skip) | (with_reducible refine stA ?_) | ((first | ((with_reducible refine kIx ?_); first | (refine t_ixa rfl rfl rfl ?_; (try simp only [Nat.mul_one])) | (refine t_ixaA rfl rfl rfl ?_; (try simp only [Nat.mul_one]))) | ((with_reducible refine kFd ?_); first | refine t_fda0 rfl rfl ?_ | (refine t_fda rfl rfl ?_; (try simp only [Nat.zero_add, Nat.reduceAdd]))) | ((with_reducible refine kLd ?_); first | refine t_loadR hL rfl rfl ?_ | refine t_loadW hL rfl rfl ?_ | refine t_load2 hL rfl rfl ?_ | refine t_load1 hL rfl rfl ?_ | refine t_loadV hL.vw rfl rfl ?_ | refine t_loadV1 hL.vw rfl rfl ?_) | ((with_reducible refine kSt ?_); first | (refine t_storeR hL rfl rfl rfl ?_; clear hL; intro _ hL; simp only [zq2, zq3] at hL) | ((first | refine t_store hL rfl rfl rfl ?_ | refine t_sts hL rfl rfl rfl ?_ | refine t_sti hL rfl rfl rfl ?_ | refine t_stb hL rfl rfl rfl ?_ | refine t_store1 hL rfl rfl rfl ?_); clear hL; intro _ hL; simp only [splice, zq1, zq2, zq3] at hL)) | ((with_reducible refine kAl ?_); (refine t_alloc hL rfl ?_; clear hL; intro _ _ hL _)) | ((with_reducible refine kBs ?_); ((first | refine t_bsA hL rfl rfl ?_ | refine t_bsV hL rfl rfl ?_); clear hL; intro _ _ hL _ hBs))); simp only [Act.put, zq1, zq2, zq3]))
      go_roundw
      case rel =>
        refine ⟨j + 1, _, _, _, _, by omega, by go_num, hL, ?_, ?_⟩
        · have hq := RowA.snoc (R := ColR) r8 z7 (y7.mono fun v x hv => hv.le (leX : Le mm m2)) l7 rfl (f16.le e8.le)
          rwa [colsG_snoc rs l j E5 E6] at hq
        · exact HX.out.trans (exX : Ext mm m2)
      case measure => simp [intOf] <;> omega
    · obtain rfl : j = J := by omega
      have rr2 : Hid (RowA 72 3 ColR mc2 (.slice A7 j c7) j (colsG rs l j) Rr) := RowA.le ColR.mono rr.out leX
      have hrs7 := IntL.le hrs6 (leX : Le mm mc2)
      have hrw7 := IntL.le hrw6 (leX : Le mm mc2)
      clear rr hrs6 hrw6 hA hrs5 hrw
      go_wp2_with (first | ((with_reducible refine kAny ?_); go_skip) | (with_reducible refine stA ?_) | ((first | ((with_reducible refine kIx ?_); first | (refine t_ixa rfl rfl rfl ?_; (try simp only [Nat.mul_one])) | (refine t_ixaA rfl rfl rfl ?_; (try simp only [Nat.mul_one]))) | ((with_reducible refine kFd ?_); first | refine t_fda0 rfl rfl ?_ | (refine t_fda rfl rfl ?_; (try simp only [Nat.zero_add, Nat.reduceAdd]))) | ((with_reducible refine kLd ?_); first | refine t_loadR hL rfl rfl ?_ | refine t_loadW hL rfl rfl ?_ | refine t_load2 hL rfl rfl ?_ | refine t_load1 hL rfl rfl ?_ | refine t_loadV hL.vw rfl rfl ?_ | refine t_loadV1 hL.vw rfl rfl ?_) | ((with_reducible refine kSt ?_); first | (refine t_storeR hL rfl rfl rfl ?_; clear hL; intro _ hL; simp only [zq2, zq3] at hL) | ((first | refine t_store hL rfl rfl rfl ?_ | refine t_sts hL rfl rfl rfl ?_ | refine t_sti hL rfl rfl rfl ?_ | refine t_stb hL rfl rfl rfl ?_ | refine t_store1 hL rfl rfl rfl ?_); clear hL; intro _ hL; simp only [splice, zq1, zq2, zq3] at hL)) | ((with_reducible refine kAl ?_); (refine t_alloc hL rfl ?_; clear hL; intro _ _ hL _)) | ((with_reducible refine kBs ?_); ((first | refine t_bsA hL rfl rfl ?_ | refine t_bsV hL rfl rfl ?_); clear hL; intro _ _ hL _ hBs))); simp only [Act.put, zq1, zq2, zq3]))
      clear hlt hj
      obtain ⟨m6, hL6, hle6, hcl, -⟩ := RowA.show (A := [_, _]) ColR.mono hL rr2.out
      replace hrs7 := IntL.le hrs7 hle6
      replace hrw7 := IntL.le hrw7 hle6
      clear hL rr2 hle6 e7
      go_loopw [6] (fun i wr => ∃ (k : Nat) (mm : World) (A8 : Option Addr) (c8 : Nat) (Rr : List Lo), k ≤ K ∧ i = .int .i64 k ∧ Loc w m wr mm ((Wc0.heap.size, 26, #[.int .i64 6, .slice A5 q c5, .int .i64 (a0 % 30), .slice A7 j c7, .slice A8 k c8]) :: (w.heap.size, 26, #[.int .i64 0, .slice none 0 0, .int .i64 0, .slice none 0 0, .slice none 0 0]) :: Rr) ∧ Hid (RowA 34 2 CutR mm (.slice A8 k c8) k (cutsG rs l k) Rr) ∧ Hid (ColL mm (.slice A7 j c7) (colsG rs l j)) ∧ Hid (IntL mm (.slice A5 q c5) rs) ∧ Hid (IntL mm (.slice A4 q c4) rs)) (fun i _ => K - (intOf i).toNat)
      case atStart => exact ⟨0, m6, none, 0, [], Nat.zero_le _, rfl, hL6, RowA.nil, hcl, hrw7, hrs7⟩
      case round =>
        clear hL6 hcl hrs7 hrw7
        obtain ⟨k, mm, A8, c8, Rr, hk, rfl, hL, RC, hcl, hrw, hrs⟩ := hrel
        have hM := hL.mext
        have hA := h.le hM.le
        clear hM
        go_wp2_with (first | ((with_reducible refine kAny ?_); go_skip) | (with_reducible refine stA ?_) | ((first | ((with_reducible refine kIx ?_); first | (refine t_ixa rfl rfl rfl ?_; (try simp only [Nat.mul_one])) | (refine t_ixaA rfl rfl rfl ?_; (try simp only [Nat.mul_one]))) | ((with_reducible refine kFd ?_); first | refine t_fda0 rfl rfl ?_ | (refine t_fda rfl rfl ?_; (try simp only [Nat.zero_add, Nat.reduceAdd]))) | ((with_reducible refine kLd ?_); first | refine t_loadR hL rfl rfl ?_ | refine t_loadW hL rfl rfl ?_ | refine t_load2 hL rfl rfl ?_ | refine t_load1 hL rfl rfl ?_ | refine t_loadV hL.vw rfl rfl ?_ | refine t_loadV1 hL.vw rfl rfl ?_) | ((with_reducible refine kSt ?_); first | (refine t_storeR hL rfl rfl rfl ?_; clear hL; intro _ hL; simp only [zq2, zq3] at hL) | ((first | refine t_store hL rfl rfl rfl ?_ | refine t_sts hL rfl rfl rfl ?_ | refine t_sti hL rfl rfl rfl ?_ | refine t_stb hL rfl rfl rfl ?_ | refine t_store1 hL rfl rfl rfl ?_); clear hL; intro _ hL; simp only [splice, zq1, zq2, zq3] at hL)) | ((with_reducible refine kAl ?_); (refine t_alloc hL rfl ?_; clear hL; intro _ _ hL _)) | ((with_reducible refine kBs ?_); ((first | refine t_bsA hL rfl rfl ?_ | refine t_bsV hL rfl rfl ?_); clear hL; intro _ _ hL _ hBs))); simp only [Act.put, zq1, zq2, zq3]))
        refine (d_AtE _ _ _ l _ 3 a3 _ _ hL.vw (hA.le leX) HN HL E3 rfl (by omega)).mono ?_
        rintro e Wc3 ⟨_, mc3, rfl, hE, hMc3, hV, rfl⟩
        replace hL := hL.call hE (by assumption) hV; clear hE hV
        by_cases hlt : k < K
        · obtain ⟨a20, E20, p20, p20'⟩ := atX l (20 + k) (by omega)
          obtain ⟨a24, E24, p24, p24'⟩ := atX l (24 + k) (by omega)
          have e20 : a20 % (q : Int) = ((a20 % q).toNat : Int) := by have := Int.emod_nonneg a20 (b := q) (by omega); omega
          have hsk : (a20 % q).toNat < q := by have := Int.emod_lt_of_pos a20 (b := q) (by omega); omega
          generalize (a20 % q).toNat = sk at *
          have HS20 : Hid ((sk : Int) = a20 % q) := e20.symm
          have hlong : 2 < (cutT rs sk q).length := HC.out sk hsk
          go_wp2_with (first | ((with_reducible refine kAny ?_); go_skip) | (with_reducible refine stA ?_) | ((first | ((with_reducible refine kIx ?_); first | (refine t_ixa rfl rfl rfl ?_; (try simp only [Nat.mul_one])) | (refine t_ixaA rfl rfl rfl ?_; (try simp only [Nat.mul_one]))) | ((with_reducible refine kFd ?_); first | refine t_fda0 rfl rfl ?_ | (refine t_fda rfl rfl ?_; (try simp only [Nat.zero_add, Nat.reduceAdd]))) | ((with_reducible refine kLd ?_); first | refine t_loadR hL rfl rfl ?_ | refine t_loadW hL rfl rfl ?_ | refine t_load2 hL rfl rfl ?_ | refine t_load1 hL rfl rfl ?_ | refine t_loadV hL.vw rfl rfl ?_ | refine t_loadV1 hL.vw rfl rfl ?_) | ((with_reducible refine kSt ?_); first | (refine t_storeR hL rfl rfl rfl ?_; clear hL; intro _ hL; simp only [zq2, zq3] at hL) | ((first | refine t_store hL rfl rfl rfl ?_ | refine t_sts hL rfl rfl rfl ?_ | refine t_sti hL rfl rfl rfl ?_ | refine t_stb hL rfl rfl rfl ?_ | refine t_store1 hL rfl rfl rfl ?_); clear hL; intro _ hL; simp only [splice, zq1, zq2, zq3] at hL)) | ((with_reducible refine kAl ?_); (refine t_alloc hL rfl ?_; clear hL; intro _ _ hL _)) | ((with_reducible refine kBs ?_); ((first | refine t_bsA hL rfl rfl ?_ | refine t_bsV hL rfl rfl ?_); clear hL; intro _ _ hL _ hBs))); simp only [Act.put, zq1, zq2, zq3]))
          refine (d_AtE _ _ _ l _ (20 + k) a20 _ _ hL.vw (hA.le leX) HN HL E20 (by omega) (by omega)).mono ?_
          rintro e Wc4 ⟨_, mc4, rfl, hE, hMc4, hV, rfl⟩
          replace hL := hL.call hE (by assumption) hV; clear hE hV
          have hrs4 := IntL.le hrs.out (leX : Le mm mc4)
          have RC4 : Hid (RowA 34 2 CutR mc4 (.slice A8 k c8) k (cutsG rs l k) Rr) := RowA.le CutR.mono' RC.out leX
          have hcl4 : Hid (ColL mc4 (.slice A7 j c7) (colsG rs l j)) := ColL.le hcl.out leX
          have hrw4 : Hid (IntL mc4 (.slice A5 q c5) rs) := IntL.le hrw.out leX
          clear RC hcl hrw hrs
          go_wp2_with (first | ((with_reducible refine kAny ?_); go_skip) | (with_reducible refine stA ?_) | ((first | ((with_reducible refine kIx ?_); first | (refine t_ixa rfl rfl rfl ?_; (try simp only [Nat.mul_one])) | (refine t_ixaA rfl rfl rfl ?_; (try simp only [Nat.mul_one]))) | ((with_reducible refine kFd ?_); first | refine t_fda0 rfl rfl ?_ | (refine t_fda rfl rfl ?_; (try simp only [Nat.zero_add, Nat.reduceAdd]))) | ((with_reducible refine kLd ?_); first | refine t_loadR hL rfl rfl ?_ | refine t_loadW hL rfl rfl ?_ | refine t_load2 hL rfl rfl ?_ | refine t_load1 hL rfl rfl ?_ | refine t_loadV hL.vw rfl rfl ?_ | refine t_loadV1 hL.vw rfl rfl ?_) | ((with_reducible refine kSt ?_); first | (refine t_storeR hL rfl rfl rfl ?_; clear hL; intro _ hL; simp only [zq2, zq3] at hL) | ((first | refine t_store hL rfl rfl rfl ?_ | refine t_sts hL rfl rfl rfl ?_ | refine t_sti hL rfl rfl rfl ?_ | refine t_stb hL rfl rfl rfl ?_ | refine t_store1 hL rfl rfl rfl ?_); clear hL; intro _ hL; simp only [splice, zq1, zq2, zq3] at hL)) | ((with_reducible refine kAl ?_); (refine t_alloc hL rfl ?_; clear hL; intro _ _ hL _)) | ((with_reducible refine kBs ?_); ((first | refine t_bsA hL rfl rfl ?_ | refine t_bsV hL rfl rfl ?_); clear hL; intro _ _ hL _ hBs))); simp only [Act.put, zq1, zq2, zq3]))
          go_loopw [9] (fun i wr => ∃ (i9 : Nat) (m3 : World) (A9 : Option Addr) (n9 c9 : Nat) (Rx : List Lo), i9 ≤ q ∧ i = .int .i64 i9 ∧ Loc w m wr m3 ((Wc3.heap.size, 34, #[.slice A9 n9 c9, .int .i64 2]) :: (Wc0.heap.size, 26, #[.int .i64 6, .slice A5 q c5, .int .i64 (a0 % 30), .slice A7 j c7, .slice A8 k c8]) :: (w.heap.size, 26, #[.int .i64 0, .slice none 0 0, .int .i64 0, .slice none 0 0, .slice none 0 0]) :: (Rr ++ Rx)) ∧ Hid (RowA 3 1 IsI m3 (.slice A9 n9 c9) n9 (cutT rs sk i9) Rx) ∧ Ext mc4 m3) (fun i _ => q - (intOf i).toNat)
          case atStart => exact ⟨0, mc4, none, 0, 0, [], Nat.zero_le _, rfl, by rw [List.append_nil]; exact hL, RowA.nil, Ext.refl _⟩
          case round =>
            clear hL
            obtain ⟨i9, m3, A9, n9, c9, Rx, hi9, rfl, hL, rx, hX⟩ := hrel
            have hrs3 := IntL.le hrs4 hX.le
            have HX9 := Lib.hid hX
            have hn9 : n9 ≤ i9 := by have := rx.out.len; have := cutT_len rs sk i9; omega
            clear hX
            by_cases hlt3 : i9 < q
            · obtain ⟨f, hf⟩ := at_some HQ hlt3
              obtain ⟨b1, o1, rfl, hc1⟩ := IntL.at_ hrs3 hf
              by_cases hs : i9 = sk
              · have bs : ((i9 : Int) != (sk : Int)) = false := by simp [hs]
                by_cases hq3 : q = 3
                · have bq : ((q : Int) == 3) = true := by simp [hq3]
                  have HT : Hid (cutT rs sk (i9 + 1) = cutT rs sk i9 ++ [f]) := by show _ = _; exact cutT_in hf (.inr (by rw [HQ.out]; exact hq3))
                  clear hs hq3 hf
                  go_upto_region 17 with ((first | ((with_reducible refine kAny ?_); go_skip) | (with_reducible refine stA ?_) | ((first | ((with_reducible refine kIx ?_); first | (refine t_ixa rfl rfl rfl ?_; (try simp only [Nat.mul_one])) | (refine t_ixaA rfl rfl rfl ?_; (try simp only [Nat.mul_one]))) | ((with_reducible refine kFd ?_); first | refine t_fda0 rfl rfl ?_ | (refine t_fda rfl rfl ?_; (try simp only [Nat.zero_add, Nat.reduceAdd]))) | ((with_reducible refine kLd ?_); first | refine t_loadR hL rfl rfl ?_ | refine t_loadW hL rfl rfl ?_ | refine t_load2 hL rfl rfl ?_ | refine t_load1 hL rfl rfl ?_ | refine t_loadV hL.vw rfl rfl ?_ | refine t_loadV1 hL.vw rfl rfl ?_) | ((with_reducible refine kSt ?_); first | (refine t_storeR hL rfl rfl rfl ?_; clear hL; intro _ hL; simp only [zq2, zq3] at hL) | ((first | refine t_store hL rfl rfl rfl ?_ | refine t_sts hL rfl rfl rfl ?_ | refine t_sti hL rfl rfl rfl ?_ | refine t_stb hL rfl rfl rfl ?_ | refine t_store1 hL rfl rfl rfl ?_); clear hL; intro _ hL; simp only [splice, zq1, zq2, zq3] at hL)) | ((with_reducible refine kAl ?_); (refine t_alloc hL rfl ?_; clear hL; intro _ _ hL _)) | ((with_reducible refine kBs ?_); ((first | refine t_bsA hL rfl rfl ?_ | refine t_bsV hL rfl rfl ?_); clear hL; intro _ _ hL _ hBs))); simp only [Act.put, zq1, zq2, zq3])))
                  clear e3' e20
                  (try simp only [eq_self] at *)
                  refine wp_region_by2 7 [false, false, false, false, false, false, false] [false, false, false, false, false, false, false] [(fun v _ _ => v = ?c17_0a), (fun v _ _ => v = ?c17_1a), (fun v _ _ => v = ?c17_2a), (fun v _ _ => v = ?c17_3a), (fun v _ _ => v = ?c17_4a), (fun v _ _ => v = ?c17_5a), (NewS1 3 (fun _ v => v = .agg #[.int .i64 f]))] hL.vw mixed [84, 85, 86, 87, 88, 89, 90] _ (by kernel_rfl) (fun vs => by simp only [lay, Act.put, zq1, zq2, zq3]; rfl) (by kernel_rfl) (by decide) (by decide) ?s17a ?l17a ?r17a
                  case s17a =>
                    refine ⟨?_, ?_, ?_, ?_, ?_, ?_, ?_, trivial⟩
                    · intro vs W1 m1 hE hM hV hD
                      clear hD
                      replace hL := hL.call hE hM hV
                      exact sFd
                    · intro vs W1 m1 hE hM hV hD
                      obtain ⟨⟨_, _, -, -, f84⟩, -⟩ := hD
                      have f84 : vs 84 = _ := f84
                      generalize vs 84 = x84 at f84 ⊢
                      subst x84
                      replace hL := hL.call hE hM hV
                      exact sLd
                    · intro vs W1 m1 hE hM hV hD
                      clear hD
                      replace hL := hL.call hE hM hV
                      exact sPu
                    · intro vs W1 m1 hE hM hV hD
                      clear hD
                      replace hL := hL.call hE hM hV
                      exact sPu
                    · intro vs W1 m1 hE hM hV hD
                      obtain ⟨⟨_, _, -, -, f86⟩, ⟨_, _, -, -, f87⟩, -⟩ := hD
                      have f86 : vs 86 = _ := f86
                      generalize vs 86 = x86 at f86 ⊢
                      subst x86
                      have f87 : vs 87 = _ := f87
                      generalize vs 87 = x87 at f87 ⊢
                      subst x87
                      replace hL := hL.call hE hM hV
                      exact sIx
                    · intro vs W1 m1 hE hM hV hD
                      obtain ⟨⟨_, _, -, -, f88⟩, -⟩ := hD
                      have f88 : vs 88 = _ := f88
                      generalize vs 88 = x88 at f88 ⊢
                      subst x88
                      replace hL := hL.call hE hM hV
                      exact sLd
                    · intro vs W1 m1 hE hM hV hD
                      obtain ⟨⟨_, _, -, -, f89⟩, -⟩ := hD
                      have f89 : vs 89 = _ := f89
                      generalize vs 89 = x89 at f89 ⊢
                      subst x89
                      (go_wp2_with fail; exact one2_s1 hV fun _ _ => rfl)
                  case l17a =>
                    refine ⟨fun h => (by cases h), fun h => (by cases h), fun h => (by cases h), fun h => (by cases h), fun h => (by cases h), fun h => (by cases h), fun h => (by cases h), trivial⟩
                  intro vs W1 m1 hE hM hV hF hD
                  clear hD
                  obtain ⟨-, ⟨_, _, -, -, f85⟩, -, -, -, -, ⟨_, _, j90, i90, f90⟩, -⟩ := hF
                  replace hL := hL.call hE hM hV
                  have f85 : vs 85 = _ := f85
                  generalize vs 85 = x85 at f85 ⊢
                  subst x85
                  clear hE hV
                  obtain ⟨g15, cs15, e15, q15, f15⟩ := f90
                  generalize vs 90 = x15 at e15 ⊢
                  subst x15
                  replace q15 := q15.ext j90
                  have f16 : Value.agg cs15 = .agg #[.int .i64 f] := f15
                  injection f16 with f16
                  subst f16
                  clear f15 i90 j90
                  simp only [List.drop_succ_cons, List.drop_zero]
                  obtain ⟨vs7, r7, z7, y7, l7⟩ := rx.out
                  refine wl_append (A := _ :: _ :: _ :: Rr) hL r7 (wanted_none rfl) rfl ap_ints (by omega) rfl rfl (news := [.int .i64 f]) rfl (Blk.sl q15 (n := 1) rfl) rfl (by omega) (by omega) ?_
                  clear hL
                  intro v1 W2 m2 R2 hL r8 e8
                  obtain ⟨A11, c11, rfl, -⟩ := r8.lit
                  simp only [List.cons_append] at hL
                  have rx2 := RowA.snocV (R := IsI) (m := m2) (x := f) r8 z7 (y7.mono fun _ _ h => h) l7 rfl rfl rfl
                  rw [← HT.out] at rx2
                  have RX2 := Lib.hid rx2
                  clear rx2 r7 z7 y7 l7 r8
                  simp only [Act.put, zq1, zq2, zq3]
                  go_wp2_with (first | ((with_reducible refine kAny ?_); go_skip) | (with_reducible refine stA ?_) | ((first | ((with_reducible refine kIx ?_); first | (refine t_ixa rfl rfl rfl ?_; (try simp only [Nat.mul_one])) | (refine t_ixaA rfl rfl rfl ?_; (try simp only [Nat.mul_one]))) | ((with_reducible refine kFd ?_); first | refine t_fda0 rfl rfl ?_ | (refine t_fda rfl rfl ?_; (try simp only [Nat.zero_add, Nat.reduceAdd]))) | ((with_reducible refine kLd ?_); first | refine t_loadR hL rfl rfl ?_ | refine t_loadW hL rfl rfl ?_ | refine t_load2 hL rfl rfl ?_ | refine t_load1 hL rfl rfl ?_ | refine t_loadV hL.vw rfl rfl ?_ | refine t_loadV1 hL.vw rfl rfl ?_) | ((with_reducible refine kSt ?_); first | (refine t_storeR hL rfl rfl rfl ?_; clear hL; intro _ hL; simp only [zq2, zq3] at hL) | ((first | refine t_store hL rfl rfl rfl ?_ | refine t_sts hL rfl rfl rfl ?_ | refine t_sti hL rfl rfl rfl ?_ | refine t_stb hL rfl rfl rfl ?_ | refine t_store1 hL rfl rfl rfl ?_); clear hL; intro _ hL; simp only [splice, zq1, zq2, zq3] at hL)) | ((with_reducible refine kAl ?_); (refine t_alloc hL rfl ?_; clear hL; intro _ _ hL _)) | ((with_reducible refine kBs ?_); ((first | refine t_bsA hL rfl rfl ?_ | refine t_bsV hL rfl rfl ?_); clear hL; intro _ _ hL _ hBs))); simp only [Act.put, zq1, zq2, zq3]))
                  refine QN.mk ?_
                  go_wp2_with (first | ((with_reducible refine kAny ?_); go_skip) | (with_reducible refine stA ?_) | ((first | ((with_reducible refine kIx ?_); first | (refine t_ixa rfl rfl rfl ?_; (try simp only [Nat.mul_one])) | (refine t_ixaA rfl rfl rfl ?_; (try simp only [Nat.mul_one]))) | ((with_reducible refine kFd ?_); first | refine t_fda0 rfl rfl ?_ | (refine t_fda rfl rfl ?_; (try simp only [Nat.zero_add, Nat.reduceAdd]))) | ((with_reducible refine kLd ?_); first | refine t_loadR hL rfl rfl ?_ | refine t_loadW hL rfl rfl ?_ | refine t_load2 hL rfl rfl ?_ | refine t_load1 hL rfl rfl ?_ | refine t_loadV hL.vw rfl rfl ?_ | refine t_loadV1 hL.vw rfl rfl ?_) | ((with_reducible refine kSt ?_); first | (refine t_storeR hL rfl rfl rfl ?_; clear hL; intro _ hL; simp only [zq2, zq3] at hL) | ((first | refine t_store hL rfl rfl rfl ?_ | refine t_sts hL rfl rfl rfl ?_ | refine t_sti hL rfl rfl rfl ?_ | refine t_stb hL rfl rfl rfl ?_ | refine t_store1 hL rfl rfl rfl ?_); clear hL; intro _ hL; simp only [splice, zq1, zq2, zq3] at hL)) | ((with_reducible refine kAl ?_); (refine t_alloc hL rfl ?_; clear hL; intro _ _ hL _)) | ((with_reducible refine kBs ?_); ((first | refine t_bsA hL rfl rfl ?_ | refine t_bsV hL rfl rfl ?_); clear hL; intro _ _ hL _ hBs))); simp only [Act.put, zq1, zq2, zq3]))
                  go_roundw
                  case rel => exact ⟨i9 + 1, m2, A11, n9 + 1, c11, R2, by omega, by go_num, hL, RX2.out, HX9.out.trans (exX : Ext m3 m2)⟩
                  case measure => simp [intOf] <;> omega
                · have bq : ((q : Int) == 3) = false := by simp; omega
                  have HT : Hid (cutT rs sk (i9 + 1) = cutT rs sk i9) := by show _ = _; exact cutT_out (by rw [HQ.out]; omega)
                  clear hs hq3 hf
                  go_wp2_with (first | ((with_reducible refine kAny ?_); go_skip) | (with_reducible refine stA ?_) | ((first | ((with_reducible refine kIx ?_); first | (refine t_ixa rfl rfl rfl ?_; (try simp only [Nat.mul_one])) | (refine t_ixaA rfl rfl rfl ?_; (try simp only [Nat.mul_one]))) | ((with_reducible refine kFd ?_); first | refine t_fda0 rfl rfl ?_ | (refine t_fda rfl rfl ?_; (try simp only [Nat.zero_add, Nat.reduceAdd]))) | ((with_reducible refine kLd ?_); first | refine t_loadR hL rfl rfl ?_ | refine t_loadW hL rfl rfl ?_ | refine t_load2 hL rfl rfl ?_ | refine t_load1 hL rfl rfl ?_ | refine t_loadV hL.vw rfl rfl ?_ | refine t_loadV1 hL.vw rfl rfl ?_) | ((with_reducible refine kSt ?_); first | (refine t_storeR hL rfl rfl rfl ?_; clear hL; intro _ hL; simp only [zq2, zq3] at hL) | ((first | refine t_store hL rfl rfl rfl ?_ | refine t_sts hL rfl rfl rfl ?_ | refine t_sti hL rfl rfl rfl ?_ | refine t_stb hL rfl rfl rfl ?_ | refine t_store1 hL rfl rfl rfl ?_); clear hL; intro _ hL; simp only [splice, zq1, zq2, zq3] at hL)) | ((with_reducible refine kAl ?_); (refine t_alloc hL rfl ?_; clear hL; intro _ _ hL _)) | ((with_reducible refine kBs ?_); ((first | refine t_bsA hL rfl rfl ?_ | refine t_bsV hL rfl rfl ?_); clear hL; intro _ _ hL _ hBs))); simp only [Act.put, zq1, zq2, zq3]))
                  go_roundw
                  case rel => exact ⟨i9 + 1, m3, A9, n9, c9, Rx, by omega, by go_num, hL, by rw [HT.out]; exact rx.out, HX9.out⟩
                  case measure => simp [intOf] <;> omega
              · have bs : ((i9 : Int) != (sk : Int)) = true := by simp; omega
                have HT : Hid (cutT rs sk (i9 + 1) = cutT rs sk i9 ++ [f]) := by show _ = _; exact cutT_in hf (.inl hs)
                clear hs hf
                go_upto_region 17 with ((first | ((with_reducible refine kAny ?_); go_skip) | (with_reducible refine stA ?_) | ((first | ((with_reducible refine kIx ?_); first | (refine t_ixa rfl rfl rfl ?_; (try simp only [Nat.mul_one])) | (refine t_ixaA rfl rfl rfl ?_; (try simp only [Nat.mul_one]))) | ((with_reducible refine kFd ?_); first | refine t_fda0 rfl rfl ?_ | (refine t_fda rfl rfl ?_; (try simp only [Nat.zero_add, Nat.reduceAdd]))) | ((with_reducible refine kLd ?_); first | refine t_loadR hL rfl rfl ?_ | refine t_loadW hL rfl rfl ?_ | refine t_load2 hL rfl rfl ?_ | refine t_load1 hL rfl rfl ?_ | refine t_loadV hL.vw rfl rfl ?_ | refine t_loadV1 hL.vw rfl rfl ?_) | ((with_reducible refine kSt ?_); first | (refine t_storeR hL rfl rfl rfl ?_; clear hL; intro _ hL; simp only [zq2, zq3] at hL) | ((first | refine t_store hL rfl rfl rfl ?_ | refine t_sts hL rfl rfl rfl ?_ | refine t_sti hL rfl rfl rfl ?_ | refine t_stb hL rfl rfl rfl ?_ | refine t_store1 hL rfl rfl rfl ?_); clear hL; intro _ hL; simp only [splice, zq1, zq2, zq3] at hL)) | ((with_reducible refine kAl ?_); (refine t_alloc hL rfl ?_; clear hL; intro _ _ hL _)) | ((with_reducible refine kBs ?_); ((first | refine t_bsA hL rfl rfl ?_ | refine t_bsV hL rfl rfl ?_); clear hL; intro _ _ hL _ hBs))); simp only [Act.put, zq1, zq2, zq3])))
                clear e3' e20
                (try simp only [eq_self] at *)
                refine wp_region_by2 7 [false, false, false, false, false, false, false] [false, false, false, false, false, false, false] [(fun v _ _ => v = ?c17_0b), (fun v _ _ => v = ?c17_1b), (fun v _ _ => v = ?c17_2b), (fun v _ _ => v = ?c17_3b), (fun v _ _ => v = ?c17_4b), (fun v _ _ => v = ?c17_5b), (NewS1 3 (fun _ v => v = .agg #[.int .i64 f]))] hL.vw mixed [84, 85, 86, 87, 88, 89, 90] _ (by kernel_rfl) (fun vs => by simp only [lay, Act.put, zq1, zq2, zq3]; rfl) (by kernel_rfl) (by decide) (by decide) ?s17b ?l17b ?r17b
                case s17b =>
                  refine ⟨?_, ?_, ?_, ?_, ?_, ?_, ?_, trivial⟩
                  · intro vs W1 m1 hE hM hV hD
                    clear hD
                    replace hL := hL.call hE hM hV
                    exact sFd
                  · intro vs W1 m1 hE hM hV hD
                    obtain ⟨⟨_, _, -, -, f84⟩, -⟩ := hD
                    have f84 : vs 84 = _ := f84
                    generalize vs 84 = x84 at f84 ⊢
                    subst x84
                    replace hL := hL.call hE hM hV
                    exact sLd
                  · intro vs W1 m1 hE hM hV hD
                    clear hD
                    replace hL := hL.call hE hM hV
                    exact sPu
                  · intro vs W1 m1 hE hM hV hD
                    clear hD
                    replace hL := hL.call hE hM hV
                    exact sPu
                  · intro vs W1 m1 hE hM hV hD
                    obtain ⟨⟨_, _, -, -, f86⟩, ⟨_, _, -, -, f87⟩, -⟩ := hD
                    have f86 : vs 86 = _ := f86
                    generalize vs 86 = x86 at f86 ⊢
                    subst x86
                    have f87 : vs 87 = _ := f87
                    generalize vs 87 = x87 at f87 ⊢
                    subst x87
                    replace hL := hL.call hE hM hV
                    exact sIx
                  · intro vs W1 m1 hE hM hV hD
                    obtain ⟨⟨_, _, -, -, f88⟩, -⟩ := hD
                    have f88 : vs 88 = _ := f88
                    generalize vs 88 = x88 at f88 ⊢
                    subst x88
                    replace hL := hL.call hE hM hV
                    exact sLd
                  · intro vs W1 m1 hE hM hV hD
                    obtain ⟨⟨_, _, -, -, f89⟩, -⟩ := hD
                    have f89 : vs 89 = _ := f89
                    generalize vs 89 = x89 at f89 ⊢
                    subst x89
                    (go_wp2_with fail; exact one2_s1 hV fun _ _ => rfl)
                case l17b =>
                  refine ⟨fun h => (by cases h), fun h => (by cases h), fun h => (by cases h), fun h => (by cases h), fun h => (by cases h), fun h => (by cases h), fun h => (by cases h), trivial⟩
                intro vs W1 m1 hE hM hV hF hD
                clear hD
                obtain ⟨-, ⟨_, _, -, -, f85⟩, -, -, -, -, ⟨_, _, j90, i90, f90⟩, -⟩ := hF
                replace hL := hL.call hE hM hV
                have f85 : vs 85 = _ := f85
                generalize vs 85 = x85 at f85 ⊢
                subst x85
                clear hE hV
                obtain ⟨g15, cs15, e15, q15, f15⟩ := f90
                generalize vs 90 = x15 at e15 ⊢
                subst x15
                replace q15 := q15.ext j90
                have f16 : Value.agg cs15 = .agg #[.int .i64 f] := f15
                injection f16 with f16
                subst f16
                clear f15 i90 j90
                simp only [List.drop_succ_cons, List.drop_zero]
                obtain ⟨vs7, r7, z7, y7, l7⟩ := rx.out
                refine wl_append (A := _ :: _ :: _ :: Rr) hL r7 (wanted_none rfl) rfl ap_ints (by omega) rfl rfl (news := [.int .i64 f]) rfl (Blk.sl q15 (n := 1) rfl) rfl (by omega) (by omega) ?_
                clear hL
                intro v1 W2 m2 R2 hL r8 e8
                obtain ⟨A11, c11, rfl, -⟩ := r8.lit
                simp only [List.cons_append] at hL
                have rx2 := RowA.snocV (R := IsI) (m := m2) (x := f) r8 z7 (y7.mono fun _ _ h => h) l7 rfl rfl rfl
                rw [← HT.out] at rx2
                have RX2 := Lib.hid rx2
                clear rx2 r7 z7 y7 l7 r8
                simp only [Act.put, zq1, zq2, zq3]
                go_wp2_with (first | ((with_reducible refine kAny ?_); go_skip) | (with_reducible refine stA ?_) | ((first | ((with_reducible refine kIx ?_); first | (refine t_ixa rfl rfl rfl ?_; (try simp only [Nat.mul_one])) | (refine t_ixaA rfl rfl rfl ?_; (try simp only [Nat.mul_one]))) | ((with_reducible refine kFd ?_); first | refine t_fda0 rfl rfl ?_ | (refine t_fda rfl rfl ?_; (try simp only [Nat.zero_add, Nat.reduceAdd]))) | ((with_reducible refine kLd ?_); first | refine t_loadR hL rfl rfl ?_ | refine t_loadW hL rfl rfl ?_ | refine t_load2 hL rfl rfl ?_ | refine t_load1 hL rfl rfl ?_ | refine t_loadV hL.vw rfl rfl ?_ | refine t_loadV1 hL.vw rfl rfl ?_) | ((with_reducible refine kSt ?_); first | (refine t_storeR hL rfl rfl rfl ?_; clear hL; intro _ hL; simp only [zq2, zq3] at hL) | ((first | refine t_store hL rfl rfl rfl ?_ | refine t_sts hL rfl rfl rfl ?_ | refine t_sti hL rfl rfl rfl ?_ | refine t_stb hL rfl rfl rfl ?_ | refine t_store1 hL rfl rfl rfl ?_); clear hL; intro _ hL; simp only [splice, zq1, zq2, zq3] at hL)) | ((with_reducible refine kAl ?_); (refine t_alloc hL rfl ?_; clear hL; intro _ _ hL _)) | ((with_reducible refine kBs ?_); ((first | refine t_bsA hL rfl rfl ?_ | refine t_bsV hL rfl rfl ?_); clear hL; intro _ _ hL _ hBs))); simp only [Act.put, zq1, zq2, zq3]))
                refine QN.mk ?_
                go_wp2_with (first | ((with_reducible refine kAny ?_); go_skip) | (with_reducible refine stA ?_) | ((first | ((with_reducible refine kIx ?_); first | (refine t_ixa rfl rfl rfl ?_; (try simp only [Nat.mul_one])) | (refine t_ixaA rfl rfl rfl ?_; (try simp only [Nat.mul_one]))) | ((with_reducible refine kFd ?_); first | refine t_fda0 rfl rfl ?_ | (refine t_fda rfl rfl ?_; (try simp only [Nat.zero_add, Nat.reduceAdd]))) | ((with_reducible refine kLd ?_); first | refine t_loadR hL rfl rfl ?_ | refine t_loadW hL rfl rfl ?_ | refine t_load2 hL rfl rfl ?_ | refine t_load1 hL rfl rfl ?_ | refine t_loadV hL.vw rfl rfl ?_ | refine t_loadV1 hL.vw rfl rfl ?_) | ((with_reducible refine kSt ?_); first | (refine t_storeR hL rfl rfl rfl ?_; clear hL; intro _ hL; simp only [zq2, zq3] at hL) | ((first | refine t_store hL rfl rfl rfl ?_ | refine t_sts hL rfl rfl rfl ?_ | refine t_sti hL rfl rfl rfl ?_ | refine t_stb hL rfl rfl rfl ?_ | refine t_store1 hL rfl rfl rfl ?_); clear hL; intro _ hL; simp only [splice, zq1, zq2, zq3] at hL)) | ((with_reducible refine kAl ?_); (refine t_alloc hL rfl ?_; clear hL; intro _ _ hL _)) | ((with_reducible refine kBs ?_); ((first | refine t_bsA hL rfl rfl ?_ | refine t_bsV hL rfl rfl ?_); clear hL; intro _ _ hL _ hBs))); simp only [Act.put, zq1, zq2, zq3]))
                go_roundw
                case rel => exact ⟨i9 + 1, m2, A11, n9 + 1, c11, R2, by omega, by go_num, hL, RX2.out, HX9.out.trans (exX : Ext m3 m2)⟩
                case measure => simp [intOf] <;> omega
            · obtain rfl : q = i9 := by omega
              obtain ⟨m7, hL7, hle7, hil, -⟩ := RowA.show (A := _ :: _ :: _ :: Rr) IsI.mono hL rx.out
              have hle47 : Le mc4 m7 := Le.trans HX9.out.le hle7
              have hn2 : 2 < n9 := by rw [rx.out.len]; exact hlong
              clear hL hlt3
              have hL := hL7
              clear hL7
              have hA7 := h.le hL.mext.le
              clear hA
              by_cases ha : a24 % 2 = 1
              · have bA := bt ha
                have HD : Hid ((3 : Int) = if a24 % 2 = 1 then 3 else 2) := by show _ = _; rw [if_pos ha]
                clear ha
                go_wp2_with (first | ((with_reducible refine kAny ?_); go_skip) | (with_reducible refine stA ?_) | ((first | ((with_reducible refine kIx ?_); first | (refine t_ixa rfl rfl rfl ?_; (try simp only [Nat.mul_one])) | (refine t_ixaA rfl rfl rfl ?_; (try simp only [Nat.mul_one]))) | ((with_reducible refine kFd ?_); first | refine t_fda0 rfl rfl ?_ | (refine t_fda rfl rfl ?_; (try simp only [Nat.zero_add, Nat.reduceAdd]))) | ((with_reducible refine kLd ?_); first | refine t_loadR hL rfl rfl ?_ | refine t_loadW hL rfl rfl ?_ | refine t_load2 hL rfl rfl ?_ | refine t_load1 hL rfl rfl ?_ | refine t_loadV hL.vw rfl rfl ?_ | refine t_loadV1 hL.vw rfl rfl ?_) | ((with_reducible refine kSt ?_); first | (refine t_storeR hL rfl rfl rfl ?_; clear hL; intro _ hL; simp only [zq2, zq3] at hL) | ((first | refine t_store hL rfl rfl rfl ?_ | refine t_sts hL rfl rfl rfl ?_ | refine t_sti hL rfl rfl rfl ?_ | refine t_stb hL rfl rfl rfl ?_ | refine t_store1 hL rfl rfl rfl ?_); clear hL; intro _ hL; simp only [splice, zq1, zq2, zq3] at hL)) | ((with_reducible refine kAl ?_); (refine t_alloc hL rfl ?_; clear hL; intro _ _ hL _)) | ((with_reducible refine kBs ?_); ((first | refine t_bsA hL rfl rfl ?_ | refine t_bsV hL rfl rfl ?_); clear hL; intro _ _ hL _ hBs))); simp only [Act.put, zq1, zq2, zq3]))
                refine (d_AtE _ _ _ l _ (24 + k) a24 _ _ hL.vw (hA7.le leX) HN HL E24 (by omega) (by omega)).mono ?_
                rintro e Wc5 ⟨_, mc5, rfl, hE, hMc5, hV, rfl⟩
                replace hL := hL.call hE (by assumption) hV; clear hE hV
                have RC5 : Hid (RowA 34 2 CutR mc5 (.slice A8 k c8) k (cutsG rs l k) Rr) := RowA.le CutR.mono' RC4.out (Le.trans hle47 leX)
                have hcl5 := ColL.le hcl4.out (Le.trans hle47 (leX : Le m7 mc5))
                have hrw5 := IntL.le hrw4.out (Le.trans hle47 (leX : Le m7 mc5))
                have hrs5 := IntL.le hrs4 (Le.trans hle47 (leX : Le m7 mc5))
                have hil5 := IntL.le hil (leX : Le m7 mc5)
                clear RC4 hcl4 hrw4 hrs4 hil hrs3 rx
                go_wp2_with (first | ((with_reducible refine kAny ?_); go_skip) | (with_reducible refine stA ?_) | ((first | ((with_reducible refine kIx ?_); first | (refine t_ixa rfl rfl rfl ?_; (try simp only [Nat.mul_one])) | (refine t_ixaA rfl rfl rfl ?_; (try simp only [Nat.mul_one]))) | ((with_reducible refine kFd ?_); first | refine t_fda0 rfl rfl ?_ | (refine t_fda rfl rfl ?_; (try simp only [Nat.zero_add, Nat.reduceAdd]))) | ((with_reducible refine kLd ?_); first | refine t_loadR hL rfl rfl ?_ | refine t_loadW hL rfl rfl ?_ | refine t_load2 hL rfl rfl ?_ | refine t_load1 hL rfl rfl ?_ | refine t_loadV hL.vw rfl rfl ?_ | refine t_loadV1 hL.vw rfl rfl ?_) | ((with_reducible refine kSt ?_); first | (refine t_storeR hL rfl rfl rfl ?_; clear hL; intro _ hL; simp only [zq2, zq3] at hL) | ((first | refine t_store hL rfl rfl rfl ?_ | refine t_sts hL rfl rfl rfl ?_ | refine t_sti hL rfl rfl rfl ?_ | refine t_stb hL rfl rfl rfl ?_ | refine t_store1 hL rfl rfl rfl ?_); clear hL; intro _ hL; simp only [splice, zq1, zq2, zq3] at hL)) | ((with_reducible refine kAl ?_); (refine t_alloc hL rfl ?_; clear hL; intro _ _ hL _)) | ((with_reducible refine kBs ?_); ((first | refine t_bsA hL rfl rfl ?_ | refine t_bsV hL rfl rfl ?_); clear hL; intro _ _ hL _ hBs))); simp only [Act.put, zq1, zq2, zq3]))
                refine goA ?_
                obtain ⟨vs8, r8, z8, y8, l8⟩ := RC5.out
                refine wl_append (A := [_, _, _]) hL r8 (wanted_none rfl) rfl ap_Cuts (by omega) rfl rfl (news := [.slice A9 n9 c9, .int .i64 3]) rfl ((Blk.sl hBs (n := 2) rfl).le hL.vw.le) rfl (by omega) (by omega) ?_
                clear hL
                intro v9 W9 m9 R9 hL r9 e9
                obtain ⟨A10, c10, rfl, -⟩ := r9.lit
                simp only [List.cons_append, List.nil_append] at hL
                have hle9 : Le mc5 m9 := leX
                have rc9 := RowA.snoc (R := CutR) (m := m9) (x := (cutT rs sk q, 3)) r9 z8 (y8.mono fun v x hv => CutR.le hv hle9) l8 rfl ⟨_, rfl, IntL.le hil5 hle9, Nat.le_trans (cutT_len rs sk q) (by omega)⟩
                rw [cutsG_snoc rs l k sk q HQ E20 E24 HS20.out _ HD.out] at rc9
                have RC9 := Lib.hid rc9
                have HC9 := Lib.hid (ColL.le hcl5 hle9)
                have HW9 := Lib.hid (IntL.le hrw5 hle9)
                have HR9 := Lib.hid (IntL.le hrs5 hle9)
                clear rc9 r8 z8 y8 l8 r9 hcl5 hrw5 hrs5 hil5 RC5
                simp only [Act.put, zq1, zq2, zq3]
                go_wp2_with (first | ((with_reducible refine kAny ?_); go_skip) | (with_reducible refine stA ?_) | ((first | ((with_reducible refine kIx ?_); first | (refine t_ixa rfl rfl rfl ?_; (try simp only [Nat.mul_one])) | (refine t_ixaA rfl rfl rfl ?_; (try simp only [Nat.mul_one]))) | ((with_reducible refine kFd ?_); first | refine t_fda0 rfl rfl ?_ | (refine t_fda rfl rfl ?_; (try simp only [Nat.zero_add, Nat.reduceAdd]))) | ((with_reducible refine kLd ?_); first | refine t_loadR hL rfl rfl ?_ | refine t_loadW hL rfl rfl ?_ | refine t_load2 hL rfl rfl ?_ | refine t_load1 hL rfl rfl ?_ | refine t_loadV hL.vw rfl rfl ?_ | refine t_loadV1 hL.vw rfl rfl ?_) | ((with_reducible refine kSt ?_); first | (refine t_storeR hL rfl rfl rfl ?_; clear hL; intro _ hL; simp only [zq2, zq3] at hL) | ((first | refine t_store hL rfl rfl rfl ?_ | refine t_sts hL rfl rfl rfl ?_ | refine t_sti hL rfl rfl rfl ?_ | refine t_stb hL rfl rfl rfl ?_ | refine t_store1 hL rfl rfl rfl ?_); clear hL; intro _ hL; simp only [splice, zq1, zq2, zq3] at hL)) | ((with_reducible refine kAl ?_); (refine t_alloc hL rfl ?_; clear hL; intro _ _ hL _)) | ((with_reducible refine kBs ?_); ((first | refine t_bsA hL rfl rfl ?_ | refine t_bsV hL rfl rfl ?_); clear hL; intro _ _ hL _ hBs))); simp only [Act.put, zq1, zq2, zq3]))
                go_roundw
                case rel => exact ⟨k + 1, m9, A10, c10, R9, by omega, by go_num, hL.tail, RC9.out, HC9.out, HW9.out, HR9.out⟩
                case measure => simp [intOf] <;> omega
              · have bA := bf ha
                have HD : Hid ((2 : Int) = if a24 % 2 = 1 then 3 else 2) := by show _ = _; rw [if_neg ha]
                clear ha
                go_wp2_with (first | ((with_reducible refine kAny ?_); go_skip) | (with_reducible refine stA ?_) | ((first | ((with_reducible refine kIx ?_); first | (refine t_ixa rfl rfl rfl ?_; (try simp only [Nat.mul_one])) | (refine t_ixaA rfl rfl rfl ?_; (try simp only [Nat.mul_one]))) | ((with_reducible refine kFd ?_); first | refine t_fda0 rfl rfl ?_ | (refine t_fda rfl rfl ?_; (try simp only [Nat.zero_add, Nat.reduceAdd]))) | ((with_reducible refine kLd ?_); first | refine t_loadR hL rfl rfl ?_ | refine t_loadW hL rfl rfl ?_ | refine t_load2 hL rfl rfl ?_ | refine t_load1 hL rfl rfl ?_ | refine t_loadV hL.vw rfl rfl ?_ | refine t_loadV1 hL.vw rfl rfl ?_) | ((with_reducible refine kSt ?_); first | (refine t_storeR hL rfl rfl rfl ?_; clear hL; intro _ hL; simp only [zq2, zq3] at hL) | ((first | refine t_store hL rfl rfl rfl ?_ | refine t_sts hL rfl rfl rfl ?_ | refine t_sti hL rfl rfl rfl ?_ | refine t_stb hL rfl rfl rfl ?_ | refine t_store1 hL rfl rfl rfl ?_); clear hL; intro _ hL; simp only [splice, zq1, zq2, zq3] at hL)) | ((with_reducible refine kAl ?_); (refine t_alloc hL rfl ?_; clear hL; intro _ _ hL _)) | ((with_reducible refine kBs ?_); ((first | refine t_bsA hL rfl rfl ?_ | refine t_bsV hL rfl rfl ?_); clear hL; intro _ _ hL _ hBs))); simp only [Act.put, zq1, zq2, zq3]))
                refine (d_AtE _ _ _ l _ (24 + k) a24 _ _ hL.vw (hA7.le leX) HN HL E24 (by omega) (by omega)).mono ?_
                rintro e Wc5 ⟨_, mc5, rfl, hE, hMc5, hV, rfl⟩
                replace hL := hL.call hE (by assumption) hV; clear hE hV
                have RC5 : Hid (RowA 34 2 CutR mc5 (.slice A8 k c8) k (cutsG rs l k) Rr) := RowA.le CutR.mono' RC4.out (Le.trans hle47 leX)
                have hcl5 := ColL.le hcl4.out (Le.trans hle47 (leX : Le m7 mc5))
                have hrw5 := IntL.le hrw4.out (Le.trans hle47 (leX : Le m7 mc5))
                have hrs5 := IntL.le hrs4 (Le.trans hle47 (leX : Le m7 mc5))
                have hil5 := IntL.le hil (leX : Le m7 mc5)
                clear RC4 hcl4 hrw4 hrs4 hil hrs3 rx
                go_wp2_with (first | ((with_reducible refine kAny ?_); go_skip) | (with_reducible refine stA ?_) | ((first | ((with_reducible refine kIx ?_); first | (refine t_ixa rfl rfl rfl ?_; (try simp only [Nat.mul_one])) | (refine t_ixaA rfl rfl rfl ?_; (try simp only [Nat.mul_one]))) | ((with_reducible refine kFd ?_); first | refine t_fda0 rfl rfl ?_ | (refine t_fda rfl rfl ?_; (try simp only [Nat.zero_add, Nat.reduceAdd]))) | ((with_reducible refine kLd ?_); first | refine t_loadR hL rfl rfl ?_ | refine t_loadW hL rfl rfl ?_ | refine t_load2 hL rfl rfl ?_ | refine t_load1 hL rfl rfl ?_ | refine t_loadV hL.vw rfl rfl ?_ | refine t_loadV1 hL.vw rfl rfl ?_) | ((with_reducible refine kSt ?_); first | (refine t_storeR hL rfl rfl rfl ?_; clear hL; intro _ hL; simp only [zq2, zq3] at hL) | ((first | refine t_store hL rfl rfl rfl ?_ | refine t_sts hL rfl rfl rfl ?_ | refine t_sti hL rfl rfl rfl ?_ | refine t_stb hL rfl rfl rfl ?_ | refine t_store1 hL rfl rfl rfl ?_); clear hL; intro _ hL; simp only [splice, zq1, zq2, zq3] at hL)) | ((with_reducible refine kAl ?_); (refine t_alloc hL rfl ?_; clear hL; intro _ _ hL _)) | ((with_reducible refine kBs ?_); ((first | refine t_bsA hL rfl rfl ?_ | refine t_bsV hL rfl rfl ?_); clear hL; intro _ _ hL _ hBs))); simp only [Act.put, zq1, zq2, zq3]))
                refine goA ?_
                obtain ⟨vs8, r8, z8, y8, l8⟩ := RC5.out
                refine wl_append (A := [_, _, _]) hL r8 (wanted_none rfl) rfl ap_Cuts (by omega) rfl rfl (news := [.slice A9 n9 c9, .int .i64 2]) rfl ((Blk.sl hBs (n := 2) rfl).le hL.vw.le) rfl (by omega) (by omega) ?_
                clear hL
                intro v9 W9 m9 R9 hL r9 e9
                obtain ⟨A10, c10, rfl, -⟩ := r9.lit
                simp only [List.cons_append, List.nil_append] at hL
                have hle9 : Le mc5 m9 := leX
                have rc9 := RowA.snoc (R := CutR) (m := m9) (x := (cutT rs sk q, 2)) r9 z8 (y8.mono fun v x hv => CutR.le hv hle9) l8 rfl ⟨_, rfl, IntL.le hil5 hle9, Nat.le_trans (cutT_len rs sk q) (by omega)⟩
                rw [cutsG_snoc rs l k sk q HQ E20 E24 HS20.out _ HD.out] at rc9
                have RC9 := Lib.hid rc9
                have HC9 := Lib.hid (ColL.le hcl5 hle9)
                have HW9 := Lib.hid (IntL.le hrw5 hle9)
                have HR9 := Lib.hid (IntL.le hrs5 hle9)
                clear rc9 r8 z8 y8 l8 r9 hcl5 hrw5 hrs5 hil5 RC5
                simp only [Act.put, zq1, zq2, zq3]
                go_wp2_with (first | ((with_reducible refine kAny ?_); go_skip) | (with_reducible refine stA ?_) | ((first | ((with_reducible refine kIx ?_); first | (refine t_ixa rfl rfl rfl ?_; (try simp only [Nat.mul_one])) | (refine t_ixaA rfl rfl rfl ?_; (try simp only [Nat.mul_one]))) | ((with_reducible refine kFd ?_); first | refine t_fda0 rfl rfl ?_ | (refine t_fda rfl rfl ?_; (try simp only [Nat.zero_add, Nat.reduceAdd]))) | ((with_reducible refine kLd ?_); first | refine t_loadR hL rfl rfl ?_ | refine t_loadW hL rfl rfl ?_ | refine t_load2 hL rfl rfl ?_ | refine t_load1 hL rfl rfl ?_ | refine t_loadV hL.vw rfl rfl ?_ | refine t_loadV1 hL.vw rfl rfl ?_) | ((with_reducible refine kSt ?_); first | (refine t_storeR hL rfl rfl rfl ?_; clear hL; intro _ hL; simp only [zq2, zq3] at hL) | ((first | refine t_store hL rfl rfl rfl ?_ | refine t_sts hL rfl rfl rfl ?_ | refine t_sti hL rfl rfl rfl ?_ | refine t_stb hL rfl rfl rfl ?_ | refine t_store1 hL rfl rfl rfl ?_); clear hL; intro _ hL; simp only [splice, zq1, zq2, zq3] at hL)) | ((with_reducible refine kAl ?_); (refine t_alloc hL rfl ?_; clear hL; intro _ _ hL _)) | ((with_reducible refine kBs ?_); ((first | refine t_bsA hL rfl rfl ?_ | refine t_bsV hL rfl rfl ?_); clear hL; intro _ _ hL _ hBs))); simp only [Act.put, zq1, zq2, zq3]))
                go_roundw
                case rel => exact ⟨k + 1, m9, A10, c10, R9, by omega, by go_num, hL.tail, RC9.out, HC9.out, HW9.out, HR9.out⟩
                case measure => simp [intOf] <;> omega
        · obtain rfl : k = K := by omega
          have RC3 : Hid (RowA 34 2 CutR mc3 (.slice A8 k c8) k (cutsG rs l k) Rr) := RowA.le CutR.mono' RC.out leX
          have hcl3 := Lib.hid (ColL.le hcl.out (leX : Le mm mc3))
          have hrw3 := Lib.hid (IntL.le hrw.out (leX : Le mm mc3))
          clear RC hcl hrw hrs
          go_wp2_with (first | ((with_reducible refine kAny ?_); go_skip) | (with_reducible refine stA ?_) | ((first | ((with_reducible refine kIx ?_); first | (refine t_ixa rfl rfl rfl ?_; (try simp only [Nat.mul_one])) | (refine t_ixaA rfl rfl rfl ?_; (try simp only [Nat.mul_one]))) | ((with_reducible refine kFd ?_); first | refine t_fda0 rfl rfl ?_ | (refine t_fda rfl rfl ?_; (try simp only [Nat.zero_add, Nat.reduceAdd]))) | ((with_reducible refine kLd ?_); first | refine t_loadR hL rfl rfl ?_ | refine t_loadW hL rfl rfl ?_ | refine t_load2 hL rfl rfl ?_ | refine t_load1 hL rfl rfl ?_ | refine t_loadV hL.vw rfl rfl ?_ | refine t_loadV1 hL.vw rfl rfl ?_) | ((with_reducible refine kSt ?_); first | (refine t_storeR hL rfl rfl rfl ?_; clear hL; intro _ hL; simp only [zq2, zq3] at hL) | ((first | refine t_store hL rfl rfl rfl ?_ | refine t_sts hL rfl rfl rfl ?_ | refine t_sti hL rfl rfl rfl ?_ | refine t_stb hL rfl rfl rfl ?_ | refine t_store1 hL rfl rfl rfl ?_); clear hL; intro _ hL; simp only [splice, zq1, zq2, zq3] at hL)) | ((with_reducible refine kAl ?_); (refine t_alloc hL rfl ?_; clear hL; intro _ _ hL _)) | ((with_reducible refine kBs ?_); ((first | refine t_bsA hL rfl rfl ?_ | refine t_bsV hL rfl rfl ?_); clear hL; intro _ _ hL _ hBs))); simp only [Act.put, zq1, zq2, zq3]))
          obtain ⟨m8, hL8, hle8, hcu, -⟩ := RowA.show (A := [_, _]) CutR.mono' hL RC3.out
          refine fin_aggR hL Tryz.results15 rfl rfl loX ag_Master (by exact rfl) hL8 ?_
          unfold masF
          rw [HR.out, E0.out, E2'.out, E3'.out]
          exact ⟨_, _, _, rfl, IntL.le hrw3.out hle8, ColL.le hcl3.out hle8, hcu⟩
end Go.Proofs.YtmhkmmmompediaaGreat

/- What pairingdata.Prices builds. -/
namespace Go.Proofs.YtmhkmmmompediaaGreat
open Go.RowKit

theorem frT (n : Int) : Tn 10 (frF n) := by
  have h1 := fN_bd n
  have h2 := fD_bd n
  unfold frF
  rw [div_mix]
  exact Tn.divInt (by omega) (by omega) (by omega)
def negF (q : Rat) : Rat := if rs q > 0 then -q else q
theorem Tn.neg {k : Nat} {q : Rat} (h : Tn k q) : Tn k (-q) := ⟨by simpa [Rat.neg_num] using h.1, by simpa [Rat.neg_den] using h.2⟩
theorem Tn.negF {k : Nat} {q : Rat} (h : Tn k q) : Tn k (negF q) := by
  unfold Go.Proofs.YtmhkmmmompediaaGreat.negF
  split
  · exact h.neg
  · exact h
def flG (l : List Int) (n : Nat) : List Rat := (List.range n).map fun i => ((3 : Int) : Rat) * frF (atF l i)
def cdG (l : List Int) (n : Nat) : List Rat := (List.range n).map fun k => negF (frF (atF l (10 + k)))
def deO (l : List Int) (k : Nat) : Option Dec := if atF l (21 + k) % 6 = atF l (21 + k) / 8 % 6 then none else some (atF l (21 + k) % 6, atF l (21 + k) / 8 % 6, decide (atF l (21 + k) / 64 % 2 = 1))
def deG (l : List Int) (n : Nat) : List Dec := (List.range n).filterMap (deO l)
def prF (x : Ms) (l : List Int) : Pr := ⟨flG l 6, x.cuts, cdG l x.cuts.length, deG l (atF l 20 % 3).toNat, false⟩
theorem flG_snoc (l : List Int) (j : Nat) {a : Int} (ha : Hid (atF l j = a)) : flG l j ++ [((3 : Int) : Rat) * frF a] = flG l (j + 1) := by
  unfold flG
  rw [range_snoc, ha.out]
theorem cdG_snoc (l : List Int) (j : Nat) {a : Int} (ha : Hid (atF l (10 + j) = a)) {q : Rat} (hq : q = negF (frF a)) : cdG l j ++ [q] = cdG l (j + 1) := by
  unfold cdG
  rw [range_snoc, ha.out, hq]
theorem deG_in (l : List Int) (j : Nat) {a : Int} (ha : Hid (atF l (21 + j) = a)) (h : ¬ a % 6 = a / 8 % 6) {b : Bool} (hb : b = decide (a / 64 % 2 = 1)) : deG l j ++ [(a % 6, a / 8 % 6, b)] = deG l (j + 1) := by
  unfold deG
  rw [List.range_succ, List.filterMap_append]
  simp [deO, ha.out, h, hb]
theorem deG_out (l : List Int) (j : Nat) {a : Int} (ha : Hid (atF l (21 + j) = a)) (h : a % 6 = a / 8 % 6) : deG l (j + 1) = deG l j := by
  unfold deG
  rw [List.range_succ, List.filterMap_append]
  simp [deO, ha.out, h]
theorem deG_len (l : List Int) (i : Nat) : (deG l i).length ≤ i := by
  unfold deG
  exact Nat.le_trans (List.length_filterMap_le _ _) (by simp)
theorem DecR.mono (m m' : World) (v : Value) (x : Dec) (h : DecR m v x) (_ : Le m m') : DecR m' v x := h
/-- The prices as Prices hands them back: its row of duals of cuts stays the caller's. -/
def PricesPost (w m : World) (p : Pr) (e : Ending) (w' : World) : Prop :=
  ∃ m' a b s A c R, e = .returned (.agg #[a, b, .slice A p.cd.length c, s, .bool p.fr]) ∧ Loc w m w' m' R ∧ FracL m' a p.fl ∧ CutL m' b p.cu ∧ RowA 39 4 FracC m' (.slice A p.cd.length c) p.cd.length p.cd R ∧ DecL m' s p.de
theorem fin_aggQ {P : Program} {fn : Func} {Post : Ending → World → Prop} {w m W mm : World} {Ls : List Lo} (hL : Loc w m W mm Ls) {p : Nat} {ty : TypeId} (hr : fn.results = #[.cell p ty]) {a : Act} (hdf : a.defers = []) {g : Nat}
    (hp : a.tmps.getD p undef = .pointer (some ⟨g, 0, none⟩)) {n : Nat} {t : TypeId} {cs : Array Value} (hn : Ls[n]? = some (g, t, cs)) {k : Nat} (hty : agS P ty = some k) (hk : cs.size = k) (h : Post (.returned (.agg cs)) W) :
    bodyPost P fn Post .ret a W := fin_aggP hL hr hdf hp hn hty hk h
end Go.Proofs.YtmhkmmmompediaaGreat

/- Contract of pairingdata.Prices. -/
namespace Go.Proofs.YtmhkmmmompediaaGreat
open Go.RowKit

set_option maxRecDepth 100000 in
set_option maxHeartbeats 32000000 in
theorem d_Prices (v : Value) (x : Ms) (A : Option Addr) (c : Nat) (l : List Int) (w m : World) (hV : Vw m w) (hm : MasterR m v x) (hnf : x.nf = 6) (hcu : x.cuts.length ≤ 10) (h : Sl m A (l.map I64)) (hl : True) :
    Calls Tryz.prog 16 #[v, .slice A l.length c] w (PricesPost w m (prF x l)) := by
  have HL := Lib.hid hl
  clear hl
  generalize hN : l.length = N
  have HN := Lib.hid hN
  clear hN
  obtain ⟨nf, rws, pen, cls, cts⟩ := x
  obtain ⟨va, vb, vc, rfl, h1, h2, h3⟩ := hm
  simp only at hnf hcu h1 h2 h3
  subst hnf
  obtain ⟨A1, c1, rfl, -, h1⟩ := h1.lit
  obtain ⟨A2, c2, rfl, -, h2⟩ := h2.lit
  obtain ⟨A3, c3, rfl, -, h3⟩ := h3.lit
  clear h1 h2
  generalize rws.length = n1
  generalize cls.length = n2
  have HX : Hid (prF ⟨6, rws, pen, cls, cts⟩ l = ⟨flG l 6, cts, cdG l cts.length, deG l (atF l 20 % 3).toNat, false⟩) := rfl
  generalize prF ⟨6, rws, pen, cls, cts⟩ l = px at *
  simp only
  generalize hnc : cts.length = nc at *
  have HC := Lib.hid hnc
  clear hnc
  obtain ⟨a20, E20, p20, p20'⟩ := atX l 20 (by omega)
  have e20 : a20 % 3 = ((a20 % 3).toNat : Int) := by omega
  have E20' : Hid ((atF l 20 % 3).toNat = (a20 % 3).toNat) := by show _ = _; rw [E20.out]
  have hK : (a20 % 3).toNat ≤ 2 := by omega
  generalize (a20 % 3).toNat = K at *
  have hL := Loc.start hV
  clear hV
  go_enter Tryz.func16, Tryz.ntmps16
  go_upto_region 0 with (fail)
  refine wp_region_lit ?_
  refine t_box hL rfl rfl ?_; clear hL; intro Wh2 mh2 hL eh2; simp only [Act.put, zq1, zq2, zq3]
  refine t_alloc hL rfl ?_; clear hL; intro Wh4 mh4 hL eh4; simp only [Act.put, zq1, zq2, zq3]
  go_wp2_with (first | ((with_reducible refine kAny ?_); go_skip) | (with_reducible refine stA ?_) | ((first | ((with_reducible refine kFd ?_); first | refine t_fda0 rfl rfl ?_ | (refine t_fda rfl rfl ?_; (try simp only [Nat.zero_add, Nat.reduceAdd]))) | ((with_reducible refine kLd ?_); first | refine t_loadR hL rfl rfl ?_ | refine t_loadW hL rfl rfl ?_ | refine t_load2 hL rfl rfl ?_ | refine t_load1 hL rfl rfl ?_ | refine t_loadV hL.vw rfl rfl ?_ | refine t_loadV1 hL.vw rfl rfl ?_) | ((with_reducible refine kSt ?_); first | (refine t_storeR hL rfl rfl rfl ?_; clear hL; intro _ hL; simp only [zq2, zq3] at hL) | ((first | refine t_store hL rfl rfl rfl ?_ | refine t_sts hL rfl rfl rfl ?_ | refine t_sti hL rfl rfl rfl ?_ | refine t_stb hL rfl rfl rfl ?_ | refine t_store1 hL rfl rfl rfl ?_); clear hL; intro _ hL; simp only [splice, zq1, zq2, zq3] at hL)) | ((with_reducible refine kBx ?_); (refine t_box hL rfl rfl ?_; clear hL; intro _ _ hL _)) | ((with_reducible refine kAl ?_); (refine t_alloc hL rfl ?_; clear hL; intro _ _ hL _)) | ((with_reducible refine kBs ?_); ((first | refine t_bsA hL rfl rfl ?_ | refine t_bsV hL rfl rfl ?_); clear hL; intro _ _ hL _ hBs))); simp only [Act.put, zq1, zq2, zq3]))
  go_loopw [6] (fun i wr => ∃ (j : Nat) (mm : World) (A7 : Option Addr) (c7 : Nat) (Rr : List Lo), j ≤ 6 ∧ i = .int .i64 j ∧ Loc w m wr mm ((Wh4.heap.size, 31, #[.slice A7 j c7, .slice none 0 0, .slice none 0 0, .slice none 0 0, .bool false]) :: (Wh2.heap.size, 31, #[.slice none 0 0, .slice none 0 0, .slice none 0 0, .slice none 0 0, .bool false]) :: (w.heap.size, 26, #[.int .i64 6, .slice A1 n1 c1, .int .i64 pen, .slice A2 n2 c2, .slice A3 nc c3]) :: Rr) ∧ Hid (RowA 39 4 FracC mm (.slice A7 j c7) j (flG l j) Rr)) (fun i _ => 6 - (intOf i).toNat)
  case atStart => exact ⟨0, _, none, 0, [], Nat.zero_le _, rfl, hL, RowA.nil⟩
  case round =>
    clear hL
    obtain ⟨j, mm, A7, c7, Rr, hj, rfl, hL, rr⟩ := hrel
    have hA := h.le hL.mext.le
    by_cases hlt : j < 6
    · obtain ⟨a, Ea, pa, pa'⟩ := atX l j (by omega)
      have F1 : Hid (Fit 200 ((3 : Int) : Rat)) := (Tn.int (k := 1000) (by decide) (by decide)).fit (by decide)
      have F2 : Hid (Fit 200 (frF a)) := (frT a).fit (by decide)
      clear e20
      have bj : decide ((j : Int) < 6) = true := decide_eq_true (by omega)
      go_upto_region 5 with ((first | ((with_reducible refine kAny ?_); go_skip) | (with_reducible refine stA ?_) | ((first | ((with_reducible refine kFd ?_); first | refine t_fda0 rfl rfl ?_ | (refine t_fda rfl rfl ?_; (try simp only [Nat.zero_add, Nat.reduceAdd]))) | ((with_reducible refine kLd ?_); first | refine t_loadR hL rfl rfl ?_ | refine t_loadW hL rfl rfl ?_ | refine t_load2 hL rfl rfl ?_ | refine t_load1 hL rfl rfl ?_ | refine t_loadV hL.vw rfl rfl ?_ | refine t_loadV1 hL.vw rfl rfl ?_) | ((with_reducible refine kSt ?_); first | (refine t_storeR hL rfl rfl rfl ?_; clear hL; intro _ hL; simp only [zq2, zq3] at hL) | ((first | refine t_store hL rfl rfl rfl ?_ | refine t_sts hL rfl rfl rfl ?_ | refine t_sti hL rfl rfl rfl ?_ | refine t_stb hL rfl rfl rfl ?_ | refine t_store1 hL rfl rfl rfl ?_); clear hL; intro _ hL; simp only [splice, zq1, zq2, zq3] at hL)) | ((with_reducible refine kBx ?_); (refine t_box hL rfl rfl ?_; clear hL; intro _ _ hL _)) | ((with_reducible refine kAl ?_); (refine t_alloc hL rfl ?_; clear hL; intro _ _ hL _)) | ((with_reducible refine kBs ?_); ((first | refine t_bsA hL rfl rfl ?_ | refine t_bsV hL rfl rfl ?_); clear hL; intro _ _ hL _ hBs))); simp only [Act.put, zq1, zq2, zq3])))
      (try simp only [eq_self] at *)
      refine wp_region_by2 9 [false, false, false, false, false, false, false, false, false] [false, false, false, false, false, false, false, false, false] [(fun v _ _ => v = ?c5_0), (fun v _ _ => v = ?c5_1), Of (fun um v => FracC um v ((3 : Int) : Rat)), (fun v _ _ => v = ?c5_3), (fun v _ _ => v = ?c5_4), Is (.int .i64 a), Of (fun um v => FracC um v (frF a)), Of (fun um v => FracC um v (((3 : Int) : Rat) * frF a)), (NewS1 39 (fun um v => FracC um v (((3 : Int) : Rat) * frF a)))] hL.vw mixed [17, 18, 19, 20, 21, 22, 23, 24, 25] _ (by kernel_rfl) (fun vs => by simp only [lay, Act.put, zq1, zq2, zq3]; rfl) (by kernel_rfl) (by decide) (by decide) ?s5 ?l5 ?r5
      case s5 =>
        refine ⟨?_, ?_, ?_, ?_, ?_, ?_, ?_, ?_, ?_, trivial⟩
        · intro vs W1 m1 hE hM hV hD
          clear hD
          replace hL := hL.call hE hM hV
          exact sFd
        · intro vs W1 m1 hE hM hV hD
          obtain ⟨⟨_, _, -, -, f17⟩, -⟩ := hD
          have f17 : vs 17 = _ := f17
          generalize vs 17 = x17 at f17 ⊢
          subst x17
          replace hL := hL.call hE hM hV
          exact sLd
        · intro vs W1 m1 hE hM hV hD
          clear hD
          go_wp2_with fail
          refine (r_Int 3 _ _ hV (by decide) (by decide)).mono ?_
          rintro e W2 ⟨v, m2, rfl, hE2, hM2, hV2, h⟩
          go_wp2_with fail
          refine One2.call hE2 hM2 hV2 ?_; first | exact h | exact rfl
        · intro vs W1 m1 hE hM hV hD
          clear hD
          replace hL := hL.call hE hM hV
          exact sPu
        · intro vs W1 m1 hE hM hV hD
          clear hD
          replace hL := hL.call hE hM hV
          exact sPu
        · intro vs W1 m1 hE hM hV hD
          obtain ⟨⟨_, _, -, -, f20⟩, ⟨_, _, -, -, f21⟩, -, -⟩ := hD
          have f20 : vs 20 = _ := f20
          generalize vs 20 = x20 at f20 ⊢
          subst x20
          have f21 : vs 21 = _ := f21
          generalize vs 21 = x21 at f21 ⊢
          subst x21
          go_wp2_with fail
          refine (d_AtE _ _ _ l _ j a _ _ hV (hA.le leX) HN HL Ea (by omega) (by omega)).mono ?_
          rintro e W2 ⟨v, m2, rfl, hE2, hM2, hV2, h⟩
          go_wp2_with fail
          refine One2.call hE2 hM2 hV2 ?_; first | exact h | exact rfl
        · intro vs W1 m1 hE hM hV hD
          obtain ⟨⟨_, _, -, -, f22⟩, -, -⟩ := hD
          have f22 : vs 22 = _ := f22
          generalize vs 22 = x22 at f22 ⊢
          subst x22
          go_wp2_with fail
          refine (d_Frac a _ _ hV (by omega) (by omega)).mono ?_
          rintro e W2 ⟨v, m2, rfl, hE2, hM2, hV2, h⟩
          go_wp2_with fail
          refine One2.call hE2 hM2 hV2 ?_; first | exact h | exact rfl
        · intro vs W1 m1 hE hM hV hD
          obtain ⟨⟨_, _, -, i19, f19⟩, ⟨_, _, -, i23, f23⟩, -, -⟩ := hD
          have f19 : FracC _ (vs 19) ((3 : Int) : Rat) := f19
          replace f19 := f19.le i19.le
          clear i19
          have f23 : FracC _ (vs 23) (frF a) := f23
          replace f23 := f23.le i23.le
          clear i23
          go_wp2_with fail
          refine (r_MulC _ _ _ _ _ _ hV f19 f23 F1.out F2.out).mono ?_
          rintro e W2 ⟨v, m2, rfl, hE2, hM2, hV2, h⟩
          go_wp2_with fail
          refine One2.call hE2 hM2 hV2 ?_; first | exact h | exact rfl
        · intro vs W1 m1 hE hM hV hD
          obtain ⟨⟨_, _, -, i24, f24⟩, -⟩ := hD
          have f24 : FracC _ (vs 24) (((3 : Int) : Rat) * frF a) := f24
          replace f24 := f24.le i24.le
          clear i24
          (obtain ⟨g9, A9, n9, c9, h9, B9, k9, d9, e9, f9⟩ := f24.lit; generalize vs 24 = x9 at e9 ⊢; subst x9; go_wp2_with fail; exact one2_s1 hV fun m' h => f9.le h.le)
      case l5 =>
        refine ⟨fun h => (by cases h), fun h => (by cases h), fun h => (by cases h), fun h => (by cases h), fun h => (by cases h), fun h => (by cases h), fun h => (by cases h), fun h => (by cases h), fun h => (by cases h), trivial⟩
      intro vs W1 m1 hE hM hV hF hD
      clear hD
      obtain ⟨-, ⟨_, _, -, -, f18⟩, ⟨_, _, -, i19, f19⟩, -, -, -, ⟨_, _, -, i23, f23⟩, ⟨_, _, -, i24, f24⟩, ⟨_, _, j25, i25, f25⟩, -⟩ := hF
      replace hL := hL.call hE hM hV
      have f18 : vs 18 = _ := f18
      generalize vs 18 = x18 at f18 ⊢
      subst x18
      replace f19 : FracC _ (vs 19) ((3 : Int) : Rat) := f19
      replace f19 := f19.le i19.le
      clear i19
      replace f23 : FracC _ (vs 23) (frF a) := f23
      replace f23 := f23.le i23.le
      clear i23
      replace f24 : FracC _ (vs 24) (((3 : Int) : Rat) * frF a) := f24
      replace f24 := f24.le i24.le
      clear i24
      clear hE hV
      obtain ⟨g15, cs15, e15, q15, f15⟩ := f25
      generalize vs 25 = x15 at e15 ⊢
      subst x15
      replace q15 := q15.ext j25
      have f16 : FracC _ (.agg cs15) (((3 : Int) : Rat) * frF a) := f15
      replace f16 := f16.le i25.le
      clear f15 i25 j25
      obtain ⟨g9, A9, n9, c9, h9, B9, k9, d9, e9, f16⟩ := f16.lit
      injection e9 with e9
      subst e9
      simp only [List.drop_succ_cons, List.drop_zero]
      obtain ⟨vs7, r7, z7, y7, l7⟩ := rr.out
      refine wl_append (A := [_, _, _]) hL r7 (wanted_none rfl) rfl ap_Fracs (by omega) rfl rfl (news := [.bool g9, .slice A9 n9 c9, .bool h9, .slice B9 k9 d9]) rfl (Blk.sl q15 (n := 4) rfl) rfl (by omega) (by omega) ?_
      clear hL
      intro v1 W2 m2 R2 hL r8 e8
      obtain ⟨A8, c8, rfl, -⟩ := r8.lit
      simp only [List.cons_append, List.nil_append] at hL
      simp only [Act.put, zq1, zq2, zq3]
      go_wp2_with (first | ((with_reducible refine kAny ?_); go_skip) | (with_reducible refine stA ?_) | ((first | ((with_reducible refine kFd ?_); first | refine t_fda0 rfl rfl ?_ | (refine t_fda rfl rfl ?_; (try simp only [Nat.zero_add, Nat.reduceAdd]))) | ((with_reducible refine kLd ?_); first | refine t_loadR hL rfl rfl ?_ | refine t_loadW hL rfl rfl ?_ | refine t_load2 hL rfl rfl ?_ | refine t_load1 hL rfl rfl ?_ | refine t_loadV hL.vw rfl rfl ?_ | refine t_loadV1 hL.vw rfl rfl ?_) | ((with_reducible refine kSt ?_); first | (refine t_storeR hL rfl rfl rfl ?_; clear hL; intro _ hL; simp only [zq2, zq3] at hL) | ((first | refine t_store hL rfl rfl rfl ?_ | refine t_sts hL rfl rfl rfl ?_ | refine t_sti hL rfl rfl rfl ?_ | refine t_stb hL rfl rfl rfl ?_ | refine t_store1 hL rfl rfl rfl ?_); clear hL; intro _ hL; simp only [splice, zq1, zq2, zq3] at hL)) | ((with_reducible refine kBx ?_); (refine t_box hL rfl rfl ?_; clear hL; intro _ _ hL _)) | ((with_reducible refine kAl ?_); (refine t_alloc hL rfl ?_; clear hL; intro _ _ hL _)) | ((with_reducible refine kBs ?_); ((first | refine t_bsA hL rfl rfl ?_ | refine t_bsV hL rfl rfl ?_); clear hL; intro _ _ hL _ hBs))); simp only [Act.put, zq1, zq2, zq3]))
      refine QN.mk ?_
      go_wp2_with (first | ((with_reducible refine kAny ?_); go_skip) | (with_reducible refine stA ?_) | ((first | ((with_reducible refine kFd ?_); first | refine t_fda0 rfl rfl ?_ | (refine t_fda rfl rfl ?_; (try simp only [Nat.zero_add, Nat.reduceAdd]))) | ((with_reducible refine kLd ?_); first | refine t_loadR hL rfl rfl ?_ | refine t_loadW hL rfl rfl ?_ | refine t_load2 hL rfl rfl ?_ | refine t_load1 hL rfl rfl ?_ | refine t_loadV hL.vw rfl rfl ?_ | refine t_loadV1 hL.vw rfl rfl ?_) | ((with_reducible refine kSt ?_); first | (refine t_storeR hL rfl rfl rfl ?_; clear hL; intro _ hL; simp only [zq2, zq3] at hL) | ((first | refine t_store hL rfl rfl rfl ?_ | refine t_sts hL rfl rfl rfl ?_ | refine t_sti hL rfl rfl rfl ?_ | refine t_stb hL rfl rfl rfl ?_ | refine t_store1 hL rfl rfl rfl ?_); clear hL; intro _ hL; simp only [splice, zq1, zq2, zq3] at hL)) | ((with_reducible refine kBx ?_); (refine t_box hL rfl rfl ?_; clear hL; intro _ _ hL _)) | ((with_reducible refine kAl ?_); (refine t_alloc hL rfl ?_; clear hL; intro _ _ hL _)) | ((with_reducible refine kBs ?_); ((first | refine t_bsA hL rfl rfl ?_ | refine t_bsV hL rfl rfl ?_); clear hL; intro _ _ hL _ hBs))); simp only [Act.put, zq1, zq2, zq3]))
      go_roundw
      case rel =>
        refine ⟨j + 1, _, _, _, _, by omega, by go_num, hL, ?_⟩
        have hq := RowA.snoc (R := FracC) r8 z7 (y7.mono fun v x hv => hv.le (leX : Le mm m2)) l7 rfl (f16.le e8.le)
        rwa [flG_snoc l j Ea] at hq
      case measure => simp [intOf] <;> omega
    · have HJ : Hid (j = 6) := by show _ = _; omega
      go_wp2_with (first | ((with_reducible refine kAny ?_); go_skip) | (with_reducible refine stA ?_) | ((first | ((with_reducible refine kFd ?_); first | refine t_fda0 rfl rfl ?_ | (refine t_fda rfl rfl ?_; (try simp only [Nat.zero_add, Nat.reduceAdd]))) | ((with_reducible refine kLd ?_); first | refine t_loadR hL rfl rfl ?_ | refine t_loadW hL rfl rfl ?_ | refine t_load2 hL rfl rfl ?_ | refine t_load1 hL rfl rfl ?_ | refine t_loadV hL.vw rfl rfl ?_ | refine t_loadV1 hL.vw rfl rfl ?_) | ((with_reducible refine kSt ?_); first | (refine t_storeR hL rfl rfl rfl ?_; clear hL; intro _ hL; simp only [zq2, zq3] at hL) | ((first | refine t_store hL rfl rfl rfl ?_ | refine t_sts hL rfl rfl rfl ?_ | refine t_sti hL rfl rfl rfl ?_ | refine t_stb hL rfl rfl rfl ?_ | refine t_store1 hL rfl rfl rfl ?_); clear hL; intro _ hL; simp only [splice, zq1, zq2, zq3] at hL)) | ((with_reducible refine kBx ?_); (refine t_box hL rfl rfl ?_; clear hL; intro _ _ hL _)) | ((with_reducible refine kAl ?_); (refine t_alloc hL rfl ?_; clear hL; intro _ _ hL _)) | ((with_reducible refine kBs ?_); ((first | refine t_bsA hL rfl rfl ?_ | refine t_bsV hL rfl rfl ?_); clear hL; intro _ _ hL _ hBs))); simp only [Act.put, zq1, zq2, zq3]))
      obtain ⟨m5, hL5, hle5, hfl, -⟩ := RowA.show (A := [_, _, _]) FracC.mono hL rr.out
      have hfl : Hid (FracL m5 (.slice A7 j c7) (flG l 6)) := by
        have := hfl
        rwa [show flG l j = flG l 6 from by rw [HJ.out]] at this
      clear hL rr hle5 hlt hj hA
      generalize j = j6 at *
      go_loopw [7] (fun i wr => ∃ (j : Nat) (mm : World) (A8 : Option Addr) (c8 : Nat) (Rr : List Lo), j ≤ nc ∧ i = .int .i64 j ∧ Loc w m wr mm ((Wh4.heap.size, 31, #[.slice A7 j6 c7, .slice A3 nc c3, .slice A8 j c8, .slice none 0 0, .bool false]) :: (Wh2.heap.size, 31, #[.slice none 0 0, .slice none 0 0, .slice none 0 0, .slice none 0 0, .bool false]) :: (w.heap.size, 26, #[.int .i64 6, .slice A1 n1 c1, .int .i64 pen, .slice A2 n2 c2, .slice A3 nc c3]) :: Rr) ∧ Hid (RowA 39 4 FracC mm (.slice A8 j c8) j (cdG l j) Rr) ∧ Hid (FracL mm (.slice A7 j6 c7) (flG l 6))) (fun i _ => nc - (intOf i).toNat)
      case atStart => exact ⟨0, m5, none, 0, [], Nat.zero_le _, rfl, hL5, RowA.nil, hfl⟩
      case round =>
        clear hL5 hfl
        obtain ⟨j, mm, A8, c8, Rr, hj, rfl, hL, rr, hfl⟩ := hrel
        have hA := h.le hL.mext.le
        by_cases hlt : j < nc
        · obtain ⟨a, Ea, pa, pa'⟩ := atX l (10 + j) (by omega)
          have F2 : Hid (Fit 200 (frF a)) := (frT a).fit (by decide)
          go_wp2_with (first | ((with_reducible refine kAny ?_); go_skip) | (with_reducible refine stA ?_) | ((first | ((with_reducible refine kFd ?_); first | refine t_fda0 rfl rfl ?_ | (refine t_fda rfl rfl ?_; (try simp only [Nat.zero_add, Nat.reduceAdd]))) | ((with_reducible refine kLd ?_); first | refine t_loadR hL rfl rfl ?_ | refine t_loadW hL rfl rfl ?_ | refine t_load2 hL rfl rfl ?_ | refine t_load1 hL rfl rfl ?_ | refine t_loadV hL.vw rfl rfl ?_ | refine t_loadV1 hL.vw rfl rfl ?_) | ((with_reducible refine kSt ?_); first | (refine t_storeR hL rfl rfl rfl ?_; clear hL; intro _ hL; simp only [zq2, zq3] at hL) | ((first | refine t_store hL rfl rfl rfl ?_ | refine t_sts hL rfl rfl rfl ?_ | refine t_sti hL rfl rfl rfl ?_ | refine t_stb hL rfl rfl rfl ?_ | refine t_store1 hL rfl rfl rfl ?_); clear hL; intro _ hL; simp only [splice, zq1, zq2, zq3] at hL)) | ((with_reducible refine kBx ?_); (refine t_box hL rfl rfl ?_; clear hL; intro _ _ hL _)) | ((with_reducible refine kAl ?_); (refine t_alloc hL rfl ?_; clear hL; intro _ _ hL _)) | ((with_reducible refine kBs ?_); ((first | refine t_bsA hL rfl rfl ?_ | refine t_bsV hL rfl rfl ?_); clear hL; intro _ _ hL _ hBs))); simp only [Act.put, zq1, zq2, zq3]))
          refine (d_AtE _ _ _ l _ (10 + j) a _ _ hL.vw (hA.le leX) HN HL Ea (by omega) (by omega)).mono ?_
          rintro e Wc1 ⟨_, mc1, rfl, hE, hMc1, hV, rfl⟩
          replace hL := hL.call hE (by assumption) hV; clear hE hV
          go_wp2_with (first | ((with_reducible refine kAny ?_); go_skip) | (with_reducible refine stA ?_) | ((first | ((with_reducible refine kFd ?_); first | refine t_fda0 rfl rfl ?_ | (refine t_fda rfl rfl ?_; (try simp only [Nat.zero_add, Nat.reduceAdd]))) | ((with_reducible refine kLd ?_); first | refine t_loadR hL rfl rfl ?_ | refine t_loadW hL rfl rfl ?_ | refine t_load2 hL rfl rfl ?_ | refine t_load1 hL rfl rfl ?_ | refine t_loadV hL.vw rfl rfl ?_ | refine t_loadV1 hL.vw rfl rfl ?_) | ((with_reducible refine kSt ?_); first | (refine t_storeR hL rfl rfl rfl ?_; clear hL; intro _ hL; simp only [zq2, zq3] at hL) | ((first | refine t_store hL rfl rfl rfl ?_ | refine t_sts hL rfl rfl rfl ?_ | refine t_sti hL rfl rfl rfl ?_ | refine t_stb hL rfl rfl rfl ?_ | refine t_store1 hL rfl rfl rfl ?_); clear hL; intro _ hL; simp only [splice, zq1, zq2, zq3] at hL)) | ((with_reducible refine kBx ?_); (refine t_box hL rfl rfl ?_; clear hL; intro _ _ hL _)) | ((with_reducible refine kAl ?_); (refine t_alloc hL rfl ?_; clear hL; intro _ _ hL _)) | ((with_reducible refine kBs ?_); ((first | refine t_bsA hL rfl rfl ?_ | refine t_bsV hL rfl rfl ?_); clear hL; intro _ _ hL _ hBs))); simp only [Act.put, zq1, zq2, zq3]))
          refine (d_Frac a _ _ hL.vw (by omega) (by omega)).mono ?_
          rintro e Wc2 ⟨vc2, mc2, rfl, hE, hMc2, hV, hc2⟩
          replace hL := hL.call hE (by assumption) hV; clear hE hV
          obtain ⟨gc2', Ac2', nc2', cc2', hc2', Bc2', kc2', dc2', rfl, hc2⟩ := hc2.lit
          go_wp2_with (first | ((with_reducible refine kAny ?_); go_skip) | (with_reducible refine stA ?_) | ((first | ((with_reducible refine kFd ?_); first | refine t_fda0 rfl rfl ?_ | (refine t_fda rfl rfl ?_; (try simp only [Nat.zero_add, Nat.reduceAdd]))) | ((with_reducible refine kLd ?_); first | refine t_loadR hL rfl rfl ?_ | refine t_loadW hL rfl rfl ?_ | refine t_load2 hL rfl rfl ?_ | refine t_load1 hL rfl rfl ?_ | refine t_loadV hL.vw rfl rfl ?_ | refine t_loadV1 hL.vw rfl rfl ?_) | ((with_reducible refine kSt ?_); first | (refine t_storeR hL rfl rfl rfl ?_; clear hL; intro _ hL; simp only [zq2, zq3] at hL) | ((first | refine t_store hL rfl rfl rfl ?_ | refine t_sts hL rfl rfl rfl ?_ | refine t_sti hL rfl rfl rfl ?_ | refine t_stb hL rfl rfl rfl ?_ | refine t_store1 hL rfl rfl rfl ?_); clear hL; intro _ hL; simp only [splice, zq1, zq2, zq3] at hL)) | ((with_reducible refine kBx ?_); (refine t_box hL rfl rfl ?_; clear hL; intro _ _ hL _)) | ((with_reducible refine kAl ?_); (refine t_alloc hL rfl ?_; clear hL; intro _ _ hL _)) | ((with_reducible refine kBs ?_); ((first | refine t_bsA hL rfl rfl ?_ | refine t_bsV hL rfl rfl ?_); clear hL; intro _ _ hL _ hBs))); simp only [Act.put, zq1, zq2, zq3]))
          refine (r_Sign _ (frF a) _ _ hL.vw ((hc2.toV F2.out (by decide)).le leX) (F2.out.mono (by decide))).mono ?_
          rintro e Wc3 ⟨_, mc3, rfl, hE, hMc3, hV, rfl⟩
          replace hL := hL.call hE (by assumption) hV; clear hE hV
          by_cases hs : rs (frF a) > 0
          · have HN2 : Hid (-frF a = negF (frF a)) := by show _ = _; unfold negF; rw [if_pos hs]
            go_wp2_with (first | ((with_reducible refine kAny ?_); go_skip) | (with_reducible refine stA ?_) | ((first | ((with_reducible refine kFd ?_); first | refine t_fda0 rfl rfl ?_ | (refine t_fda rfl rfl ?_; (try simp only [Nat.zero_add, Nat.reduceAdd]))) | ((with_reducible refine kLd ?_); first | refine t_loadR hL rfl rfl ?_ | refine t_loadW hL rfl rfl ?_ | refine t_load2 hL rfl rfl ?_ | refine t_load1 hL rfl rfl ?_ | refine t_loadV hL.vw rfl rfl ?_ | refine t_loadV1 hL.vw rfl rfl ?_) | ((with_reducible refine kSt ?_); first | (refine t_storeR hL rfl rfl rfl ?_; clear hL; intro _ hL; simp only [zq2, zq3] at hL) | ((first | refine t_store hL rfl rfl rfl ?_ | refine t_sts hL rfl rfl rfl ?_ | refine t_sti hL rfl rfl rfl ?_ | refine t_stb hL rfl rfl rfl ?_ | refine t_store1 hL rfl rfl rfl ?_); clear hL; intro _ hL; simp only [splice, zq1, zq2, zq3] at hL)) | ((with_reducible refine kBx ?_); (refine t_box hL rfl rfl ?_; clear hL; intro _ _ hL _)) | ((with_reducible refine kAl ?_); (refine t_alloc hL rfl ?_; clear hL; intro _ _ hL _)) | ((with_reducible refine kBs ?_); ((first | refine t_bsA hL rfl rfl ?_ | refine t_bsV hL rfl rfl ?_); clear hL; intro _ _ hL _ hBs))); simp only [Act.put, zq1, zq2, zq3]))
            refine (r_Negate _ (frF a) _ _ hL.vw ((hc2.toV F2.out (by decide)).le leX)).mono ?_
            rintro e Wc4 ⟨vc4, mc4, rfl, hE, hMc4, hV, hc4⟩
            replace hL := hL.call hE (by assumption) hV; clear hE hV
            obtain ⟨gc4', Ac4', nc4', cc4', hc4', Bc4', kc4', dc4', rfl, hc4⟩ := hc4.lit
            clear hs e20
            go_wp2_with (first | ((with_reducible refine kAny ?_); go_skip) | (with_reducible refine stA ?_) | ((first | ((with_reducible refine kFd ?_); first | refine t_fda0 rfl rfl ?_ | (refine t_fda rfl rfl ?_; (try simp only [Nat.zero_add, Nat.reduceAdd]))) | ((with_reducible refine kLd ?_); first | refine t_loadR hL rfl rfl ?_ | refine t_loadW hL rfl rfl ?_ | refine t_load2 hL rfl rfl ?_ | refine t_load1 hL rfl rfl ?_ | refine t_loadV hL.vw rfl rfl ?_ | refine t_loadV1 hL.vw rfl rfl ?_) | ((with_reducible refine kSt ?_); first | (refine t_storeR hL rfl rfl rfl ?_; clear hL; intro _ hL; simp only [zq2, zq3] at hL) | ((first | refine t_store hL rfl rfl rfl ?_ | refine t_sts hL rfl rfl rfl ?_ | refine t_sti hL rfl rfl rfl ?_ | refine t_stb hL rfl rfl rfl ?_ | refine t_store1 hL rfl rfl rfl ?_); clear hL; intro _ hL; simp only [splice, zq1, zq2, zq3] at hL)) | ((with_reducible refine kBx ?_); (refine t_box hL rfl rfl ?_; clear hL; intro _ _ hL _)) | ((with_reducible refine kAl ?_); (refine t_alloc hL rfl ?_; clear hL; intro _ _ hL _)) | ((with_reducible refine kBs ?_); ((first | refine t_bsA hL rfl rfl ?_ | refine t_bsV hL rfl rfl ?_); clear hL; intro _ _ hL _ hBs))); simp only [Act.put, zq1, zq2, zq3]))
            refine goA ?_
            obtain ⟨vs7, r7, z7, y7, l7⟩ := rr.out
            refine wl_append (A := [_, _, _, _]) hL r7 (wanted_none rfl) rfl ap_Fracs (by omega) rfl rfl (news := [.bool gc4', .slice Ac4' nc4' cc4', .bool hc4', .slice Bc4' kc4' dc4']) rfl ((Blk.sl hBs (n := 4) rfl).le hL.vw.le) rfl (by omega) (by omega) ?_
            clear hL
            intro v1 W2 m2 R2 hL r8 e8
            obtain ⟨A11, c11, rfl, -⟩ := r8.lit
            simp only [List.cons_append, List.nil_append] at hL
            have rc2 := RowA.snoc (R := FracC) (m := m2) r8 z7 (y7.mono fun v x hv => hv.le (leX : Le mm m2)) l7 rfl (hc4.le (leX : Le mc4 m2))
            rw [cdG_snoc l j Ea HN2.out] at rc2
            have RC2 := Lib.hid rc2
            have hfl2 := Lib.hid (FracL.le hfl.out (leX : Le mm m2))
            clear rc2 r7 z7 y7 l7 r8 hfl rr
            simp only [Act.put, zq1, zq2, zq3]
            go_wp2_with (first | ((with_reducible refine kAny ?_); go_skip) | (with_reducible refine stA ?_) | ((first | ((with_reducible refine kFd ?_); first | refine t_fda0 rfl rfl ?_ | (refine t_fda rfl rfl ?_; (try simp only [Nat.zero_add, Nat.reduceAdd]))) | ((with_reducible refine kLd ?_); first | refine t_loadR hL rfl rfl ?_ | refine t_loadW hL rfl rfl ?_ | refine t_load2 hL rfl rfl ?_ | refine t_load1 hL rfl rfl ?_ | refine t_loadV hL.vw rfl rfl ?_ | refine t_loadV1 hL.vw rfl rfl ?_) | ((with_reducible refine kSt ?_); first | (refine t_storeR hL rfl rfl rfl ?_; clear hL; intro _ hL; simp only [zq2, zq3] at hL) | ((first | refine t_store hL rfl rfl rfl ?_ | refine t_sts hL rfl rfl rfl ?_ | refine t_sti hL rfl rfl rfl ?_ | refine t_stb hL rfl rfl rfl ?_ | refine t_store1 hL rfl rfl rfl ?_); clear hL; intro _ hL; simp only [splice, zq1, zq2, zq3] at hL)) | ((with_reducible refine kBx ?_); (refine t_box hL rfl rfl ?_; clear hL; intro _ _ hL _)) | ((with_reducible refine kAl ?_); (refine t_alloc hL rfl ?_; clear hL; intro _ _ hL _)) | ((with_reducible refine kBs ?_); ((first | refine t_bsA hL rfl rfl ?_ | refine t_bsV hL rfl rfl ?_); clear hL; intro _ _ hL _ hBs))); simp only [Act.put, zq1, zq2, zq3]))
            go_roundw
            case rel => exact ⟨j + 1, m2, A11, c11, R2, by omega, by go_num, hL.tail, RC2.out, hfl2.out⟩
            case measure => simp [intOf] <;> omega
          · have HN2 : Hid (frF a = negF (frF a)) := by show _ = _; unfold negF; rw [if_neg hs]
            clear e20
            go_wp2_with (first | ((with_reducible refine kAny ?_); go_skip) | (with_reducible refine stA ?_) | ((first | ((with_reducible refine kFd ?_); first | refine t_fda0 rfl rfl ?_ | (refine t_fda rfl rfl ?_; (try simp only [Nat.zero_add, Nat.reduceAdd]))) | ((with_reducible refine kLd ?_); first | refine t_loadR hL rfl rfl ?_ | refine t_loadW hL rfl rfl ?_ | refine t_load2 hL rfl rfl ?_ | refine t_load1 hL rfl rfl ?_ | refine t_loadV hL.vw rfl rfl ?_ | refine t_loadV1 hL.vw rfl rfl ?_) | ((with_reducible refine kSt ?_); first | (refine t_storeR hL rfl rfl rfl ?_; clear hL; intro _ hL; simp only [zq2, zq3] at hL) | ((first | refine t_store hL rfl rfl rfl ?_ | refine t_sts hL rfl rfl rfl ?_ | refine t_sti hL rfl rfl rfl ?_ | refine t_stb hL rfl rfl rfl ?_ | refine t_store1 hL rfl rfl rfl ?_); clear hL; intro _ hL; simp only [splice, zq1, zq2, zq3] at hL)) | ((with_reducible refine kBx ?_); (refine t_box hL rfl rfl ?_; clear hL; intro _ _ hL _)) | ((with_reducible refine kAl ?_); (refine t_alloc hL rfl ?_; clear hL; intro _ _ hL _)) | ((with_reducible refine kBs ?_); ((first | refine t_bsA hL rfl rfl ?_ | refine t_bsV hL rfl rfl ?_); clear hL; intro _ _ hL _ hBs))); simp only [Act.put, zq1, zq2, zq3]))
            clear hs
            refine goA ?_
            obtain ⟨vs7, r7, z7, y7, l7⟩ := rr.out
            refine wl_append (A := [_, _, _, _]) hL r7 (wanted_none rfl) rfl ap_Fracs (by omega) rfl rfl (news := [.bool gc2', .slice Ac2' nc2' cc2', .bool hc2', .slice Bc2' kc2' dc2']) rfl ((Blk.sl hBs (n := 4) rfl).le hL.vw.le) rfl (by omega) (by omega) ?_
            clear hL
            intro v1 W2 m2 R2 hL r8 e8
            obtain ⟨A11, c11, rfl, -⟩ := r8.lit
            simp only [List.cons_append, List.nil_append] at hL
            have rc2 := RowA.snoc (R := FracC) (m := m2) r8 z7 (y7.mono fun v x hv => hv.le (leX : Le mm m2)) l7 rfl (hc2.le (leX : Le mc2 m2))
            rw [cdG_snoc l j Ea HN2.out] at rc2
            have RC2 := Lib.hid rc2
            have hfl2 := Lib.hid (FracL.le hfl.out (leX : Le mm m2))
            clear rc2 r7 z7 y7 l7 r8 hfl rr
            simp only [Act.put, zq1, zq2, zq3]
            go_wp2_with (first | ((with_reducible refine kAny ?_); go_skip) | (with_reducible refine stA ?_) | ((first | ((with_reducible refine kFd ?_); first | refine t_fda0 rfl rfl ?_ | (refine t_fda rfl rfl ?_; (try simp only [Nat.zero_add, Nat.reduceAdd]))) | ((with_reducible refine kLd ?_); first | refine t_loadR hL rfl rfl ?_ | refine t_loadW hL rfl rfl ?_ | refine t_load2 hL rfl rfl ?_ | refine t_load1 hL rfl rfl ?_ | refine t_loadV hL.vw rfl rfl ?_ | refine t_loadV1 hL.vw rfl rfl ?_) | ((with_reducible refine kSt ?_); first | (refine t_storeR hL rfl rfl rfl ?_; clear hL; intro _ hL; simp only [zq2, zq3] at hL) | ((first | refine t_store hL rfl rfl rfl ?_ | refine t_sts hL rfl rfl rfl ?_ | refine t_sti hL rfl rfl rfl ?_ | refine t_stb hL rfl rfl rfl ?_ | refine t_store1 hL rfl rfl rfl ?_); clear hL; intro _ hL; simp only [splice, zq1, zq2, zq3] at hL)) | ((with_reducible refine kBx ?_); (refine t_box hL rfl rfl ?_; clear hL; intro _ _ hL _)) | ((with_reducible refine kAl ?_); (refine t_alloc hL rfl ?_; clear hL; intro _ _ hL _)) | ((with_reducible refine kBs ?_); ((first | refine t_bsA hL rfl rfl ?_ | refine t_bsV hL rfl rfl ?_); clear hL; intro _ _ hL _ hBs))); simp only [Act.put, zq1, zq2, zq3]))
            go_roundw
            case rel => exact ⟨j + 1, m2, A11, c11, R2, by omega, by go_num, hL.tail, RC2.out, hfl2.out⟩
            case measure => simp [intOf] <;> omega
        · obtain rfl : nc = j := by omega
          clear hlt hj
          go_wp2_with (first | ((with_reducible refine kAny ?_); go_skip) | (with_reducible refine stA ?_) | ((first | ((with_reducible refine kFd ?_); first | refine t_fda0 rfl rfl ?_ | (refine t_fda rfl rfl ?_; (try simp only [Nat.zero_add, Nat.reduceAdd]))) | ((with_reducible refine kLd ?_); first | refine t_loadR hL rfl rfl ?_ | refine t_loadW hL rfl rfl ?_ | refine t_load2 hL rfl rfl ?_ | refine t_load1 hL rfl rfl ?_ | refine t_loadV hL.vw rfl rfl ?_ | refine t_loadV1 hL.vw rfl rfl ?_) | ((with_reducible refine kSt ?_); first | (refine t_storeR hL rfl rfl rfl ?_; clear hL; intro _ hL; simp only [zq2, zq3] at hL) | ((first | refine t_store hL rfl rfl rfl ?_ | refine t_sts hL rfl rfl rfl ?_ | refine t_sti hL rfl rfl rfl ?_ | refine t_stb hL rfl rfl rfl ?_ | refine t_store1 hL rfl rfl rfl ?_); clear hL; intro _ hL; simp only [splice, zq1, zq2, zq3] at hL)) | ((with_reducible refine kBx ?_); (refine t_box hL rfl rfl ?_; clear hL; intro _ _ hL _)) | ((with_reducible refine kAl ?_); (refine t_alloc hL rfl ?_; clear hL; intro _ _ hL _)) | ((with_reducible refine kBs ?_); ((first | refine t_bsA hL rfl rfl ?_ | refine t_bsV hL rfl rfl ?_); clear hL; intro _ _ hL _ hBs))); simp only [Act.put, zq1, zq2, zq3]))
          go_loopw [9] (fun i wr => ∃ (j : Nat) (mm : World) (n9 : Nat) (A9 : Option Addr) (c9 : Nat) (Rd : List Lo), j ≤ K ∧ i = .int .i64 j ∧ Loc w m wr mm ((Wh4.heap.size, 31, #[.slice A7 j6 c7, .slice A3 nc c3, .slice A8 nc c8, .slice A9 n9 c9, .bool false]) :: (Wh2.heap.size, 31, #[.slice none 0 0, .slice none 0 0, .slice none 0 0, .slice none 0 0, .bool false]) :: (w.heap.size, 26, #[.int .i64 6, .slice A1 n1 c1, .int .i64 pen, .slice A2 n2 c2, .slice A3 nc c3]) :: (Rr ++ Rd)) ∧ Hid (RowA 87 3 DecR mm (.slice A9 n9 c9) n9 (deG l j) Rd) ∧ Hid (RowA 39 4 FracC mm (.slice A8 nc c8) nc (cdG l nc) Rr) ∧ Hid (FracL mm (.slice A7 j6 c7) (flG l 6))) (fun i _ => K - (intOf i).toNat)
          case atStart => exact ⟨0, mm, 0, none, 0, [], Nat.zero_le _, rfl, by rw [List.append_nil]; exact hL, RowA.nil, rr.out, hfl.out⟩
          case round =>
            clear hL rr hfl hA
            obtain ⟨j, mm, n9, A9, c9, Rd, hj, rfl, hL, rd, rc, hfl⟩ := hrel
            have hA := h.le hL.mext.le
            have hn9 : n9 ≤ 10 := by have := rd.out.len; have := deG_len l j; omega
            go_wp2_with (first | ((with_reducible refine kAny ?_); go_skip) | (with_reducible refine stA ?_) | ((first | ((with_reducible refine kFd ?_); first | refine t_fda0 rfl rfl ?_ | (refine t_fda rfl rfl ?_; (try simp only [Nat.zero_add, Nat.reduceAdd]))) | ((with_reducible refine kLd ?_); first | refine t_loadR hL rfl rfl ?_ | refine t_loadW hL rfl rfl ?_ | refine t_load2 hL rfl rfl ?_ | refine t_load1 hL rfl rfl ?_ | refine t_loadV hL.vw rfl rfl ?_ | refine t_loadV1 hL.vw rfl rfl ?_) | ((with_reducible refine kSt ?_); first | (refine t_storeR hL rfl rfl rfl ?_; clear hL; intro _ hL; simp only [zq2, zq3] at hL) | ((first | refine t_store hL rfl rfl rfl ?_ | refine t_sts hL rfl rfl rfl ?_ | refine t_sti hL rfl rfl rfl ?_ | refine t_stb hL rfl rfl rfl ?_ | refine t_store1 hL rfl rfl rfl ?_); clear hL; intro _ hL; simp only [splice, zq1, zq2, zq3] at hL)) | ((with_reducible refine kBx ?_); (refine t_box hL rfl rfl ?_; clear hL; intro _ _ hL _)) | ((with_reducible refine kAl ?_); (refine t_alloc hL rfl ?_; clear hL; intro _ _ hL _)) | ((with_reducible refine kBs ?_); ((first | refine t_bsA hL rfl rfl ?_ | refine t_bsV hL rfl rfl ?_); clear hL; intro _ _ hL _ hBs))); simp only [Act.put, zq1, zq2, zq3]))
            refine (d_AtE _ _ _ l _ 20 a20 _ _ hL.vw (hA.le leX) HN HL E20 rfl (by omega)).mono ?_
            rintro e Wc5 ⟨_, mc5, rfl, hE, hMc5, hV, rfl⟩
            replace hL := hL.call hE (by assumption) hV; clear hE hV
            by_cases hlt : j < K
            · obtain ⟨a, Ea, pa, pa'⟩ := atX l (21 + j) (by omega)
              go_wp2_with (first | ((with_reducible refine kAny ?_); go_skip) | (with_reducible refine stA ?_) | ((first | ((with_reducible refine kFd ?_); first | refine t_fda0 rfl rfl ?_ | (refine t_fda rfl rfl ?_; (try simp only [Nat.zero_add, Nat.reduceAdd]))) | ((with_reducible refine kLd ?_); first | refine t_loadR hL rfl rfl ?_ | refine t_loadW hL rfl rfl ?_ | refine t_load2 hL rfl rfl ?_ | refine t_load1 hL rfl rfl ?_ | refine t_loadV hL.vw rfl rfl ?_ | refine t_loadV1 hL.vw rfl rfl ?_) | ((with_reducible refine kSt ?_); first | (refine t_storeR hL rfl rfl rfl ?_; clear hL; intro _ hL; simp only [zq2, zq3] at hL) | ((first | refine t_store hL rfl rfl rfl ?_ | refine t_sts hL rfl rfl rfl ?_ | refine t_sti hL rfl rfl rfl ?_ | refine t_stb hL rfl rfl rfl ?_ | refine t_store1 hL rfl rfl rfl ?_); clear hL; intro _ hL; simp only [splice, zq1, zq2, zq3] at hL)) | ((with_reducible refine kBx ?_); (refine t_box hL rfl rfl ?_; clear hL; intro _ _ hL _)) | ((with_reducible refine kAl ?_); (refine t_alloc hL rfl ?_; clear hL; intro _ _ hL _)) | ((with_reducible refine kBs ?_); ((first | refine t_bsA hL rfl rfl ?_ | refine t_bsV hL rfl rfl ?_); clear hL; intro _ _ hL _ hBs))); simp only [Act.put, zq1, zq2, zq3]))
              refine (d_AtE _ _ _ l _ (21 + j) a _ _ hL.vw (hA.le leX) HN HL Ea (by omega) (by omega)).mono ?_
              rintro e Wc6 ⟨_, mc6, rfl, hE, hMc6, hV, rfl⟩
              replace hL := hL.call hE (by assumption) hV; clear hE hV
              clear e20
              by_cases hne : a % 6 = a / 8 % 6
              · have bn : ((a % 6 : Int) != a / 8 % 6) = false := by simp [hne]
                have HNE := Lib.hid (deG_out l j Ea hne)
                have RD2 := Lib.hid (RowA.le DecR.mono rd.out (leX : Le mm mc6))
                have RC2 := Lib.hid (RowA.le FracC.mono rc.out (leX : Le mm mc6))
                have hfl2 := Lib.hid (FracL.le hfl.out (leX : Le mm mc6))
                clear hne rd rc hfl
                go_wp2_with (first | ((with_reducible refine kAny ?_); go_skip) | (with_reducible refine stA ?_) | ((first | ((with_reducible refine kFd ?_); first | refine t_fda0 rfl rfl ?_ | (refine t_fda rfl rfl ?_; (try simp only [Nat.zero_add, Nat.reduceAdd]))) | ((with_reducible refine kLd ?_); first | refine t_loadR hL rfl rfl ?_ | refine t_loadW hL rfl rfl ?_ | refine t_load2 hL rfl rfl ?_ | refine t_load1 hL rfl rfl ?_ | refine t_loadV hL.vw rfl rfl ?_ | refine t_loadV1 hL.vw rfl rfl ?_) | ((with_reducible refine kSt ?_); first | (refine t_storeR hL rfl rfl rfl ?_; clear hL; intro _ hL; simp only [zq2, zq3] at hL) | ((first | refine t_store hL rfl rfl rfl ?_ | refine t_sts hL rfl rfl rfl ?_ | refine t_sti hL rfl rfl rfl ?_ | refine t_stb hL rfl rfl rfl ?_ | refine t_store1 hL rfl rfl rfl ?_); clear hL; intro _ hL; simp only [splice, zq1, zq2, zq3] at hL)) | ((with_reducible refine kBx ?_); (refine t_box hL rfl rfl ?_; clear hL; intro _ _ hL _)) | ((with_reducible refine kAl ?_); (refine t_alloc hL rfl ?_; clear hL; intro _ _ hL _)) | ((with_reducible refine kBs ?_); ((first | refine t_bsA hL rfl rfl ?_ | refine t_bsV hL rfl rfl ?_); clear hL; intro _ _ hL _ hBs))); simp only [Act.put, zq1, zq2, zq3]))
                go_roundw
                case rel => exact ⟨j + 1, mc6, n9, A9, c9, Rd, by omega, by go_num, hL, by rw [HNE.out]; exact RD2.out, RC2.out, hfl2.out⟩
                case measure => simp [intOf] <;> omega
              · have bn : ((a % 6 : Int) != a / 8 % 6) = true := by simp [hne]
                have HNE := Lib.hid hne
                have e64 := i64_and1 (a / 64)
                by_cases hb : a / 64 % 2 = 1
                · have bb := bt hb
                  have HB : Hid (true = decide (a / 64 % 2 = 1)) := (decide_eq_true hb).symm
                  clear hne hb
                  go_wp2_with (first | ((with_reducible refine kAny ?_); go_skip) | (with_reducible refine stA ?_) | ((first | ((with_reducible refine kFd ?_); first | refine t_fda0 rfl rfl ?_ | (refine t_fda rfl rfl ?_; (try simp only [Nat.zero_add, Nat.reduceAdd]))) | ((with_reducible refine kLd ?_); first | refine t_loadR hL rfl rfl ?_ | refine t_loadW hL rfl rfl ?_ | refine t_load2 hL rfl rfl ?_ | refine t_load1 hL rfl rfl ?_ | refine t_loadV hL.vw rfl rfl ?_ | refine t_loadV1 hL.vw rfl rfl ?_) | ((with_reducible refine kSt ?_); first | (refine t_storeR hL rfl rfl rfl ?_; clear hL; intro _ hL; simp only [zq2, zq3] at hL) | ((first | refine t_store hL rfl rfl rfl ?_ | refine t_sts hL rfl rfl rfl ?_ | refine t_sti hL rfl rfl rfl ?_ | refine t_stb hL rfl rfl rfl ?_ | refine t_store1 hL rfl rfl rfl ?_); clear hL; intro _ hL; simp only [splice, zq1, zq2, zq3] at hL)) | ((with_reducible refine kBx ?_); (refine t_box hL rfl rfl ?_; clear hL; intro _ _ hL _)) | ((with_reducible refine kAl ?_); (refine t_alloc hL rfl ?_; clear hL; intro _ _ hL _)) | ((with_reducible refine kBs ?_); ((first | refine t_bsA hL rfl rfl ?_ | refine t_bsV hL rfl rfl ?_); clear hL; intro _ _ hL _ hBs))); simp only [Act.put, zq1, zq2, zq3]))
                  refine goA ?_
                  obtain ⟨vs7, r7, z7, y7, l7⟩ := rd.out
                  refine wl_append (A := _ :: _ :: _ :: Rr) hL r7 (wanted_none rfl) rfl ap_Decs (by omega) rfl rfl (news := [.int .i64 (a % 6), .int .i64 (a / 8 % 6), .bool true]) rfl ((Blk.sl hBs (n := 3) rfl).le hL.vw.le) rfl (by omega) (by omega) ?_
                  clear hL
                  intro v1 W2 m2 R2 hL r8 e8
                  obtain ⟨A11, c11, rfl, -⟩ := r8.lit
                  simp only [List.cons_append, List.nil_append] at hL
                  have hle2 : Le mm m2 := leX
                  have rd2 := RowA.snoc (R := DecR) (m := m2) (x := (a % 6, a / 8 % 6, true)) r8 z7 (y7.mono fun v x hv => hv) l7 rfl rfl
                  rw [deG_in l j Ea HNE.out HB.out] at rd2
                  have RD2 := Lib.hid rd2
                  have RC2 := Lib.hid (RowA.le FracC.mono rc.out hle2)
                  have hfl2 := Lib.hid (FracL.le hfl.out hle2)
                  clear rd2 r7 z7 y7 l7 r8 hfl rc rd
                  simp only [Act.put, zq1, zq2, zq3]
                  go_wp2_with (first | ((with_reducible refine kAny ?_); go_skip) | (with_reducible refine stA ?_) | ((first | ((with_reducible refine kFd ?_); first | refine t_fda0 rfl rfl ?_ | (refine t_fda rfl rfl ?_; (try simp only [Nat.zero_add, Nat.reduceAdd]))) | ((with_reducible refine kLd ?_); first | refine t_loadR hL rfl rfl ?_ | refine t_loadW hL rfl rfl ?_ | refine t_load2 hL rfl rfl ?_ | refine t_load1 hL rfl rfl ?_ | refine t_loadV hL.vw rfl rfl ?_ | refine t_loadV1 hL.vw rfl rfl ?_) | ((with_reducible refine kSt ?_); first | (refine t_storeR hL rfl rfl rfl ?_; clear hL; intro _ hL; simp only [zq2, zq3] at hL) | ((first | refine t_store hL rfl rfl rfl ?_ | refine t_sts hL rfl rfl rfl ?_ | refine t_sti hL rfl rfl rfl ?_ | refine t_stb hL rfl rfl rfl ?_ | refine t_store1 hL rfl rfl rfl ?_); clear hL; intro _ hL; simp only [splice, zq1, zq2, zq3] at hL)) | ((with_reducible refine kBx ?_); (refine t_box hL rfl rfl ?_; clear hL; intro _ _ hL _)) | ((with_reducible refine kAl ?_); (refine t_alloc hL rfl ?_; clear hL; intro _ _ hL _)) | ((with_reducible refine kBs ?_); ((first | refine t_bsA hL rfl rfl ?_ | refine t_bsV hL rfl rfl ?_); clear hL; intro _ _ hL _ hBs))); simp only [Act.put, zq1, zq2, zq3]))
                  go_roundw
                  case rel => exact ⟨j + 1, m2, n9 + 1, A11, c11, R2, by omega, by go_num, hL, RD2.out, RC2.out, hfl2.out⟩
                  case measure => simp [intOf] <;> omega
                · have bb := bf hb
                  have HB : Hid (false = decide (a / 64 % 2 = 1)) := (decide_eq_false hb).symm
                  clear hne hb
                  go_wp2_with (first | ((with_reducible refine kAny ?_); go_skip) | (with_reducible refine stA ?_) | ((first | ((with_reducible refine kFd ?_); first | refine t_fda0 rfl rfl ?_ | (refine t_fda rfl rfl ?_; (try simp only [Nat.zero_add, Nat.reduceAdd]))) | ((with_reducible refine kLd ?_); first | refine t_loadR hL rfl rfl ?_ | refine t_loadW hL rfl rfl ?_ | refine t_load2 hL rfl rfl ?_ | refine t_load1 hL rfl rfl ?_ | refine t_loadV hL.vw rfl rfl ?_ | refine t_loadV1 hL.vw rfl rfl ?_) | ((with_reducible refine kSt ?_); first | (refine t_storeR hL rfl rfl rfl ?_; clear hL; intro _ hL; simp only [zq2, zq3] at hL) | ((first | refine t_store hL rfl rfl rfl ?_ | refine t_sts hL rfl rfl rfl ?_ | refine t_sti hL rfl rfl rfl ?_ | refine t_stb hL rfl rfl rfl ?_ | refine t_store1 hL rfl rfl rfl ?_); clear hL; intro _ hL; simp only [splice, zq1, zq2, zq3] at hL)) | ((with_reducible refine kBx ?_); (refine t_box hL rfl rfl ?_; clear hL; intro _ _ hL _)) | ((with_reducible refine kAl ?_); (refine t_alloc hL rfl ?_; clear hL; intro _ _ hL _)) | ((with_reducible refine kBs ?_); ((first | refine t_bsA hL rfl rfl ?_ | refine t_bsV hL rfl rfl ?_); clear hL; intro _ _ hL _ hBs))); simp only [Act.put, zq1, zq2, zq3]))
                  refine goA ?_
                  obtain ⟨vs7, r7, z7, y7, l7⟩ := rd.out
                  refine wl_append (A := _ :: _ :: _ :: Rr) hL r7 (wanted_none rfl) rfl ap_Decs (by omega) rfl rfl (news := [.int .i64 (a % 6), .int .i64 (a / 8 % 6), .bool false]) rfl ((Blk.sl hBs (n := 3) rfl).le hL.vw.le) rfl (by omega) (by omega) ?_
                  clear hL
                  intro v1 W2 m2 R2 hL r8 e8
                  obtain ⟨A11, c11, rfl, -⟩ := r8.lit
                  simp only [List.cons_append, List.nil_append] at hL
                  have hle2 : Le mm m2 := leX
                  have rd2 := RowA.snoc (R := DecR) (m := m2) (x := (a % 6, a / 8 % 6, false)) r8 z7 (y7.mono fun v x hv => hv) l7 rfl rfl
                  rw [deG_in l j Ea HNE.out HB.out] at rd2
                  have RD2 := Lib.hid rd2
                  have RC2 := Lib.hid (RowA.le FracC.mono rc.out hle2)
                  have hfl2 := Lib.hid (FracL.le hfl.out hle2)
                  clear rd2 r7 z7 y7 l7 r8 hfl rc rd
                  simp only [Act.put, zq1, zq2, zq3]
                  go_wp2_with (first | ((with_reducible refine kAny ?_); go_skip) | (with_reducible refine stA ?_) | ((first | ((with_reducible refine kFd ?_); first | refine t_fda0 rfl rfl ?_ | (refine t_fda rfl rfl ?_; (try simp only [Nat.zero_add, Nat.reduceAdd]))) | ((with_reducible refine kLd ?_); first | refine t_loadR hL rfl rfl ?_ | refine t_loadW hL rfl rfl ?_ | refine t_load2 hL rfl rfl ?_ | refine t_load1 hL rfl rfl ?_ | refine t_loadV hL.vw rfl rfl ?_ | refine t_loadV1 hL.vw rfl rfl ?_) | ((with_reducible refine kSt ?_); first | (refine t_storeR hL rfl rfl rfl ?_; clear hL; intro _ hL; simp only [zq2, zq3] at hL) | ((first | refine t_store hL rfl rfl rfl ?_ | refine t_sts hL rfl rfl rfl ?_ | refine t_sti hL rfl rfl rfl ?_ | refine t_stb hL rfl rfl rfl ?_ | refine t_store1 hL rfl rfl rfl ?_); clear hL; intro _ hL; simp only [splice, zq1, zq2, zq3] at hL)) | ((with_reducible refine kBx ?_); (refine t_box hL rfl rfl ?_; clear hL; intro _ _ hL _)) | ((with_reducible refine kAl ?_); (refine t_alloc hL rfl ?_; clear hL; intro _ _ hL _)) | ((with_reducible refine kBs ?_); ((first | refine t_bsA hL rfl rfl ?_ | refine t_bsV hL rfl rfl ?_); clear hL; intro _ _ hL _ hBs))); simp only [Act.put, zq1, zq2, zq3]))
                  go_roundw
                  case rel => exact ⟨j + 1, m2, n9 + 1, A11, c11, R2, by omega, by go_num, hL, RD2.out, RC2.out, hfl2.out⟩
                  case measure => simp [intOf] <;> omega
            · obtain rfl : j = K := by omega
              have RD2 := Lib.hid (RowA.le DecR.mono rd.out (leX : Le mm mc5))
              have RC2 := Lib.hid (RowA.le FracC.mono rc.out (leX : Le mm mc5))
              have hfl2 := Lib.hid (FracL.le hfl.out (leX : Le mm mc5))
              clear rd rc hfl
              go_wp2_with (first | ((with_reducible refine kAny ?_); go_skip) | (with_reducible refine stA ?_) | ((first | ((with_reducible refine kFd ?_); first | refine t_fda0 rfl rfl ?_ | (refine t_fda rfl rfl ?_; (try simp only [Nat.zero_add, Nat.reduceAdd]))) | ((with_reducible refine kLd ?_); first | refine t_loadR hL rfl rfl ?_ | refine t_loadW hL rfl rfl ?_ | refine t_load2 hL rfl rfl ?_ | refine t_load1 hL rfl rfl ?_ | refine t_loadV hL.vw rfl rfl ?_ | refine t_loadV1 hL.vw rfl rfl ?_) | ((with_reducible refine kSt ?_); first | (refine t_storeR hL rfl rfl rfl ?_; clear hL; intro _ hL; simp only [zq2, zq3] at hL) | ((first | refine t_store hL rfl rfl rfl ?_ | refine t_sts hL rfl rfl rfl ?_ | refine t_sti hL rfl rfl rfl ?_ | refine t_stb hL rfl rfl rfl ?_ | refine t_store1 hL rfl rfl rfl ?_); clear hL; intro _ hL; simp only [splice, zq1, zq2, zq3] at hL)) | ((with_reducible refine kBx ?_); (refine t_box hL rfl rfl ?_; clear hL; intro _ _ hL _)) | ((with_reducible refine kAl ?_); (refine t_alloc hL rfl ?_; clear hL; intro _ _ hL _)) | ((with_reducible refine kBs ?_); ((first | refine t_bsA hL rfl rfl ?_ | refine t_bsV hL rfl rfl ?_); clear hL; intro _ _ hL _ hBs))); simp only [Act.put, zq1, zq2, zq3]))
              obtain ⟨m8, hL8, hle8, hde, -⟩ := RowA.show (A := _ :: _ :: _ :: Rr) DecR.mono hL RD2.out
              refine fin_aggQ hL Tryz.results16 rfl rfl loX ag_Prices (by exact rfl) ?_
              rw [HX.out]
              have hcl : (cdG l nc).length = nc := by unfold cdG; rw [List.length_map, List.length_range]
              refine ⟨m8, .slice A7 j6 c7, .slice A3 nc c3, .slice A9 n9 c9, A8, c8, Rr, ?_, hL8.tail.tail.tail, FracL.le hfl2.out hle8, CutL.le h3 hL8.mext.le, ?_, ?_⟩
              · simp only [hcl]
              · simp only [hcl]
                exact RowA.le FracC.mono RC2.out hle8
              · simp only [E20'.out]; exact hde
end Go.Proofs.YtmhkmmmompediaaGreat

/- The prices of the laws; both mixtures alike. -/
namespace Go.Proofs.YtmhkmmmompediaaGreat
open Go.RowKit

/-- Prices whose duals of cuts lie in a row of their own. -/
def PrO (B : Nat) (p : Pr) (v : Value) (u um : World) : Prop := PricesR um v p ∧ ∃ a b s d f cs, v = .agg #[a, b, s, d, f] ∧ u.ownsRow B 39 4 s p.cd.length cs
theorem d_PricesW (v : Value) (x : Ms) (A : Option Addr) (c : Nat) (l : List Int) (w m : World) (hV : Vw m w) (hm : MasterR m v x) (hnf : x.nf = 6) (hcu : x.cuts.length ≤ 10) (h : Sl m A (l.map I64)) (hl : True) :
    Calls Tryz.prog 16 #[v, .slice A l.length c] w (RetW w m fun w' m' v => PrO w.heap.size (prF x l) v w' m') := by
  refine (d_Prices v x A c l w m hV hm hnf hcu h hl).mono ?_
  rintro e w' ⟨m', a, b, s, A, c, R, rfl, hL, h1, h2, h3, h4⟩
  obtain ⟨m2, hL2, hle, h5, cs, ho⟩ := RowA.show (A := []) FracC.mono hL h3
  exact ⟨_, m2, rfl, hL2.ext, hL2.mext, hL2.vw, ⟨_, _, _, _, rfl, FracL.le h1 hle, CutL.le h2 hle, h5, DecL.le h4 hle⟩, _, _, _, _, _, cs, rfl, ho⟩
theorem d_PricesV (v : Value) (x : Ms) (A : Option Addr) (c N : Nat) (l : List Int) (w m : World) (hV : Vw m w) (hm : MasterR m v x) (hnf : Hid (x.nf = 6)) (hcu : Hid (x.cuts.length ≤ 10)) (h : Sl m A (l.map I64)) (hN : Hid (l.length = N)) (hl : Hid (True)) :
    Calls Tryz.prog 16 #[v, .slice A N c] w (RetW w m fun w' m' v => PrO w.heap.size (prF x l) v w' m') := by
  obtain rfl := hN.out
  exact d_PricesW v x A c l w m hV hm hnf.out hcu.out h hl.out
theorem PrO.base {B B' : Nat} {p : Pr} {v : Value} {u um : World} (h : PrO B' p v u um) (hB : B ≤ B') : PrO B p v u um := by
  obtain ⟨h0, a, b, s, d, f, cs, h1, h2, h3⟩ := h
  refine ⟨h0, a, b, s, d, f, cs, h1, h2, ?_⟩
  rcases h3 with h3 | ⟨g, cap, cur, h4, h5, h6⟩
  · exact .inl h3
  · exact .inr ⟨g, cap, cur, h4, Nat.le_trans hB h5, h6⟩
theorem PricesR.lit {m : World} {v : Value} {p : Pr} (h : PricesR m v p) : ∃ A0 c0 A1 c1 A2 c2 A3 c3, v = .agg #[.slice A0 p.fl.length c0, .slice A1 p.cu.length c1, .slice A2 p.cd.length c2, .slice A3 p.de.length c3, .bool p.fr] ∧ p.fl.length ≤ c0 ∧
    PricesR m (.agg #[.slice A0 p.fl.length c0, .slice A1 p.cu.length c1, .slice A2 p.cd.length c2, .slice A3 p.de.length c3, .bool p.fr]) p := by
  have h' := h
  obtain ⟨a, b, c, d, rfl, h1, h2, h3, h4⟩ := h
  obtain ⟨A0, c0, rfl, hc, _⟩ := h1.lit
  obtain ⟨A1, c1, rfl, _, _⟩ := h2.lit
  obtain ⟨A2, c2, rfl, _, _⟩ := h3.lit
  obtain ⟨A3, c3, rfl, _, _⟩ := h4.lit
  exact ⟨_, _, _, _, _, _, _, _, rfl, hc, h'⟩
theorem PrO.lit {B : Nat} {p : Pr} {v : Value} {u um W m : World} (h : PrO B p v u um) (hE : Ext u W) (hM : Ext um m) : ∃ A0 c0 A1 c1 A2 c2 A3 c3 cs, v = .agg #[.slice A0 p.fl.length c0, .slice A1 p.cu.length c1, .slice A2 p.cd.length c2, .slice A3 p.de.length c3, .bool p.fr] ∧
    PricesR m (.agg #[.slice A0 p.fl.length c0, .slice A1 p.cu.length c1, .slice A2 p.cd.length c2, .slice A3 p.de.length c3, .bool p.fr]) p ∧ W.ownsRow B 39 4 (.slice A2 p.cd.length c2) p.cd.length cs := by
  obtain ⟨h0, a, b, s, d, f, cs, h1, h2⟩ := h
  obtain ⟨A0, c0, A1, c1, A2, c2, A3, c3, e, _, h3⟩ := h0.lit
  subst h1
  injection e with e
  injection e with e
  injection e with e1 e
  injection e with e2 e
  injection e with e3 e
  subst e3
  exact ⟨A0, c0, A1, c1, A2, c2, A3, c3, cs, by rw [e1, e2, e], h3.le hM.le, ownsRow_ext h2 hE⟩
theorem d_PricesY (v : Value) (x : Ms) (A : Option Addr) (c N : Nat) (l : List Int) (w m : World) (hV : Vw m w) (hm : MasterR m v x) (hnf : Hid (x.nf = 6)) (hcu : Hid (x.cuts.length ≤ 10)) (h : Sl m A (l.map I64)) (hN : Hid (l.length = N)) (hl : Hid (True)) :
    Calls Tryz.prog 16 #[v, .slice A N c] w (RetV w m fun m' v => PricesR m' v (prF x l)) := by
  refine (d_PricesV v x A c N l w m hV hm hnf hcu h hN hl).mono ?_
  rintro e w' ⟨v, m', rfl, a, b, c, d, -⟩
  exact ⟨v, m', rfl, a, b, c, d⟩
theorem MasterR.lit {m : World} {v : Value} {x : Ms} (h : MasterR m v x) : ∃ A n c A' n' c' A'' n'' c'', v = .agg #[.int .i64 x.nf, .slice A n c, .int .i64 x.pen, .slice A' n' c', .slice A'' n'' c''] ∧ MasterR m (.agg #[.int .i64 x.nf, .slice A n c, .int .i64 x.pen, .slice A' n' c', .slice A'' n'' c'']) x := by
  have h' := h
  obtain ⟨a, b, c, rfl, h1, h2, h3⟩ := h
  obtain ⟨A0, c0, rfl, _, _⟩ := h1.lit
  obtain ⟨A1, c1, rfl, _, _⟩ := h2.lit
  obtain ⟨A2, c2, rfl, _, _⟩ := h3.lit
  exact ⟨_, _, _, _, _, _, _, _, _, rfl, h'⟩
/-- All that is new is hidden, and a row of one's own becomes one's own again. -/
theorem Loc.reown {w0 m0 W m : World} {Ls : List Lo} (hL : Loc w0 m0 W m Ls) {B : Nat} {e : TypeId} {size : Nat} {v : Value} {n : Nat} {xs : List Value} (ho : W.ownsRow B e size v n xs) (hB : w0.heap.size ≤ B) (hne : ∀ x ∈ Ls, x.2.1 ≠ e) :
    ∃ R m', Loc w0 m0 W m' (Ls ++ R) ∧ Row e size v n xs R := by
  have hs : m0.heap.size ≤ W.heap.size := by rw [hL.size0]; exact hL.ext.size
  have key : ∀ R : List Lo, (∀ x ∈ R, w0.heap.size ≤ x.1 ∧ Blk W x.1 x.2.1 x.2.2 ∧ x.2.1 = e) → R.length ≤ 1 → Loc w0 m0 W (hidTo m0 W.heap.size) (Ls ++ R) := by
    intro R hR h1
    refine ⟨hL.size0, hL.ext, hidTo_ext hs, ⟨hL.mext.os.symm.trans hL.vw.os, hL.mext.tape.symm.trans hL.vw.tape, hL.mext.output.symm.trans hL.vw.output, hidTo_size hs, fun a u hu => ?_⟩, fun x hx => ?_, fun x hx => ?_, fun x hx a ha => ?_, ?_⟩
    · rcases Nat.lt_or_ge a.block m0.heap.size with h | h
      · rw [cell_of_heap (hidTo_old h)] at hu
        exact hL.vw.cell _ _ (hL.mext.le.cell _ _ hu)
      · rw [hidTo_new h] at hu; cases hu
    · rcases List.mem_append.1 hx with hx | hx
      · exact hL.low x hx
      · exact (hR x hx).1
    · rcases List.mem_append.1 hx with hx | hx
      · exact hL.blk x hx
      · exact (hR x hx).2.1
    · refine hidTo_new ?_
      rw [ha, hL.size0]
      rcases List.mem_append.1 hx with hx | hx
      · exact hL.low x hx
      · exact (hR x hx).1
    · refine List.pairwise_append.2 ⟨hL.apart, ?_, fun x hx y hy => ?_⟩
      · match R, h1 with
        | [], _ => exact List.Pairwise.nil
        | [x], _ => exact List.pairwise_singleton _ _
      · refine blk_ne (hL.blk x hx) (hR y hy).2.1 (.inl ?_)
        rw [(hR y hy).2.2]
        exact hne x hx
  obtain ⟨h1, ⟨rfl, rfl⟩ | ⟨g, cap, cur, rfl, h4, h5, h6⟩⟩ := ho
  · exact ⟨[], _, key [] (fun _ h => by cases h) (by simp), h1, .inl ⟨rfl, rfl, rfl⟩⟩
  · refine ⟨[(g, e, cur)], _, key _ (fun x hx => ?_) (by simp), h1, .inr ⟨g, cap, cur, rfl, rfl, h6⟩⟩
    rcases List.mem_singleton.1 hx with rfl
    exact ⟨Nat.le_trans hB h4, h5, rfl⟩

theorem Tn.add {k l : Nat} {p q : Rat} (h : Tn k p) (h' : Tn l q) : Tn (2 * (k * l)) (p + q) := by
  rw [rat_add]
  have a1 := h.1
  have a2 := h.2
  have b1 := h'.1
  have b2 := h'.2
  have c1 : p.num.natAbs * q.den ≤ k * l := Nat.mul_le_mul a1 b2
  have c2 : q.num.natAbs * p.den ≤ k * l := by rw [Nat.mul_comm k l]; exact Nat.mul_le_mul b1 a2
  have c3 : p.den * q.den ≤ k * l := Nat.mul_le_mul a2 b2
  refine Tn.divInt (Int.mul_pos (by have := p.den_pos; omega) (by have := q.den_pos; omega)) ?_ ?_
  · refine Nat.le_trans (Int.natAbs_add_le _ _) ?_
    rw [Int.natAbs_mul, Int.natAbs_mul]
    simp only [Int.natAbs_natCast]
    omega
  · have : ((p.den : Int) * (q.den : Int)) = ((p.den * q.den : Nat) : Int) := by simp
    rw [this]
    omega
theorem Tn.fit2 {k : Nat} {q : Rat} (h : Tn k q) (hk : k < 18446744073709551616) : Fit 200 q :=
  Fit.mono (k := 2) ⟨by have := h.1; rw [show (4294967296 : Nat) ^ 2 = 18446744073709551616 from rfl]; omega, by have := h.2; rw [show (4294967296 : Nat) ^ 2 = 18446744073709551616 from rfl]; omega⟩ (by decide)
theorem mixL_mem {s t : Rat} : ∀ {xs ys : List Rat} {z : Rat}, z ∈ mixL s t xs ys → ∃ x ∈ xs, ∃ y ∈ ys, z = s * x + t * y
  | [], _, _, h => by simp [mixL] at h
  | _ :: _, [], _, h => by simp [mixL] at h
  | x :: xs, y :: ys, z, h => by
    simp only [mixL, List.zipWith_cons_cons, List.mem_cons] at h
    rcases h with h | h
    · exact ⟨x, by simp, y, by simp, h⟩
    · obtain ⟨a, ha, b, hb, e⟩ := mixL_mem (xs := xs) (ys := ys) h
      exact ⟨a, by simp [ha], b, by simp [hb], e⟩
theorem mix_fit {s t x y : Rat} (hs : Tn 1000 s) (ht : Tn 1000 t) (hx : Tn 1000 x) (hy : Tn 1000 y) : Fit 200 (s * x + t * y) := ((hs.mul hx).add (ht.mul hy)).fit2 (by decide)

/-- What Mix hands back. -/
def MixR (m : World) (v : Value) (r : Pr) (e : Int) : Prop := ∃ u, v = .tuple #[u, .int .i64 e] ∧ PricesR m u r
theorem MixR.le {m m' : World} {v : Value} {r : Pr} {e : Int} (h : MixR m v r e) (hb : Le m m') : MixR m' v r e := by
  obtain ⟨u, h1, h2⟩ := h
  exact ⟨u, h1, h2.le hb⟩
def nilPr : Pr := ⟨[], [], [], [], false⟩
theorem nilPr_R (m : World) : PricesR m zPr nilPr := ⟨_, _, _, _, rfl, ListV.nil, ListV.nil, ListV.nil, ListV.nil⟩
theorem nilPr_fit : nilPr.fit := ⟨(fun _ h => by cases h), (fun _ h => by cases h), by decide, by decide, by decide, by decide⟩
structure PQ (p q : Pr) : Prop where
  ok : p.ok
  tp : p.tn
  tq : q.tn
  fl : q.fl.length = p.fl.length
  cd : p.cd.length = p.cu.length
  cd' : q.cd.length = p.cu.length
  cu : q.cu = p.cu
  de : q.de.length ≤ 1000
/-- Both calls of Mix end alike. -/
def Both (m : World) (va vb : Value) (num den : Int) : Prop := ∃ r e, Pr.fit r ∧
  (∀ w m', Vw m' w → Le m m' → Calls Tryz.prog 30 #[va, vb, .int .i64 num, .int .i64 den] w (RetV w m' fun m'' v => MixR m'' v r e)) ∧
  (∀ w m', Vw m' w → Le m m' → Calls Tryz.prog 31 #[va, vb, .int .i64 num, .int .i64 den] w (RetV w m' fun m'' v => MixR m'' v r e))
theorem both_err {m : World} {va vb : Value} {num den : Int} (e : Int)
    (h1 : ∀ w m', Vw m' w → Le m m' → Calls Tryz.prog 30 #[va, vb, .int .i64 num, .int .i64 den] w (RetV w m' fun _ v => v = .tuple #[zPr, .int .i64 e]))
    (h2 : ∀ w m', Vw m' w → Le m m' → Calls Tryz.prog 31 #[va, vb, .int .i64 num, .int .i64 den] w (RetV w m' fun _ v => v = .tuple #[zPr, .int .i64 e])) : Both m va vb num den := by
  have key : ∀ {w m' : World} {e' : Ending} {w' : World}, RetV w m' (fun _ v => v = .tuple #[zPr, .int .i64 e]) e' w' → RetV w m' (fun m'' v => MixR m'' v nilPr e) e' w' := by
    rintro w m' e' w' ⟨v, m2, rfl, a, b, c, rfl⟩
    exact ⟨_, m2, rfl, a, b, c, _, rfl, nilPr_R m2⟩
  exact ⟨nilPr, e, nilPr_fit, fun w m' hV hl => (h1 w m' hV hl).mono fun _ _ h => key h, fun w m' hV hl => (h2 w m' hV hl).mono fun _ _ h => key h⟩
theorem both_range (m : World) (a0 a1 a2 a3 a4 b0 b1 b2 b3 b4 : Value) (num den : Int) (h : den < 1 ∨ num < 0 ∨ num > den) : Both m (.agg #[a0, a1, a2, a3, a4]) (.agg #[b0, b1, b2, b3, b4]) num den :=
  both_err 5 (fun w m' hV _ => l_Mix_range a0 a1 a2 a3 a4 b0 b1 b2 b3 b4 num den w m' hV h) (fun w m' hV _ => r_Mix_range a0 a1 a2 a3 a4 b0 b1 b2 b3 b4 num den w m' hV h)
theorem both_len (m : World) (A0 A1 A2 B0 : Option Addr) (n0 n1 n2 c0 c1 c2 k0 d0 : Nat) (a3 a4 b1 b2 b3 b4 : Value) (num den : Int) (h : n0 ≠ k0 ∨ n2 ≠ n1) :
    Both m (.agg #[.slice A0 n0 c0, .slice A1 n1 c1, .slice A2 n2 c2, a3, a4]) (.agg #[.slice B0 k0 d0, b1, b2, b3, b4]) num den := by
  by_cases hr : den < 1 ∨ num < 0 ∨ num > den
  · exact both_range m _ _ _ _ _ _ _ _ _ _ num den hr
  · exact both_err 12 (fun w m' hV _ => l_Mix_len A0 A1 A2 B0 n0 n1 n2 c0 c1 c2 k0 d0 a3 a4 b1 b2 b3 b4 num den w m' hV (by omega) (by omega) (by omega) h) (fun w m' hV _ => r_Mix_len A0 A1 A2 B0 n0 n1 n2 c0 c1 c2 k0 d0 a3 a4 b1 b2 b3 b4 num den w m' hV (by omega) (by omega) (by omega) h)
theorem both_any {m : World} {va vb : Value} {p q : Pr} {num den : Int} (ha : PricesR m va p) (hb : PricesR m vb q) (h : PQ p q) (hd : den ≤ 1000) : Both m va vb num den := by
  by_cases hr : den < 1 ∨ num < 0 ∨ num > den
  · obtain ⟨a, b, c, d, rfl, _⟩ := ha
    obtain ⟨a', b', c', d', rfl, _⟩ := hb
    exact both_range m _ _ _ _ _ _ _ _ _ _ num den hr
  have r1 : ¬ den < 1 := by omega
  have r2 : ¬ num < 0 := by omega
  have r3 : ¬ num > den := by omega
  by_cases hs : p.de = q.de ∧ p.fr = q.fr
  · have ts : Tn 1000 (Rat.divInt num den) := Tn.divInt (by omega) (by omega) (by omega)
    have tt : Tn 1000 (Rat.divInt (den - num) den) := Tn.divInt (by omega) (by omega) (by omega)
    refine ⟨mixP (Rat.divInt num den) (Rat.divInt (den - num) den) p q, 0, ⟨?_, ?_, ?_, ?_, ?_, ?_⟩, fun w m' hV hl => ?_, fun w m' hV hl => ?_⟩
    · intro z hz
      obtain ⟨x, hx, y, hy, rfl⟩ := mixL_mem hz
      exact mix_fit ts tt (h.tp.fl x hx) (h.tq.fl y hy)
    · intro z hz
      obtain ⟨x, hx, y, hy, rfl⟩ := mixL_mem hz
      exact mix_fit ts tt (h.tp.cd x hx) (h.tq.cd y hy)
    · show (mixL _ _ p.fl q.fl).length ≤ 1000
      rw [mixL_len h.fl]; exact h.ok.nf
    · exact h.ok.nc
    · show (mixL _ _ p.cd q.cd).length ≤ 1000
      rw [mixL_len (h.cd'.trans h.cd.symm)]; exact h.ok.nd
    · exact h.ok.ne
    · exact l_Mix_ok va vb p q num den w m' hV (ha.le hl) (hb.le hl) r1 r2 r3 hd h.ok h.tp h.tq h.fl h.cd h.cd' h.cu hs.1.symm hs.2.symm
    · exact r_Mix_ok va vb p q num den w m' hV (ha.le hl) (hb.le hl) r1 r2 r3 hd h.ok h.tp h.tq h.fl h.cd h.cd' h.cu hs.1.symm hs.2.symm
  · exact both_err 12 (fun w m' hV hl => l_Mix_shape va vb p q num den w m' hV (ha.le hl) (hb.le hl) r1 r2 r3 h.fl h.cd h.cd' h.cu h.ok.nc h.ok.ne h.de hs)
      (fun w m' hV hl => r_Mix_shape va vb p q num den w m' hV (ha.le hl) (hb.le hl) r1 r2 r3 h.fl h.cd h.cd' h.cu h.ok.nc h.ok.ne h.de hs)

theorem masF_cuts (l : List Int) : (masF l).cuts.length ≤ 2 ∧ ∀ c ∈ (masF l).cuts, c.1.length ≤ 5 := by
  have h0 := atF_bd l 1 (by omega)
  have h3 := atF_bd l 3 (by omega)
  have h1 : (atF l 1 % 6).toNat < 6 := by omega
  have hr : (rowsF l).length ≤ 5 := (rowsT_len ⟨_, h1⟩).2
  constructor
  · show ((List.range _).map _).length ≤ 2
    simp only [List.length_map, List.length_range]
    omega
  · intro c hc
    obtain ⟨k, _, rfl⟩ := List.mem_map.1 hc
    exact Nat.le_trans (cutT_len _ _ _) hr
theorem prF_tn (x : Ms) (l : List Int) : (prF x l).tn := by
  constructor
  · intro q hq
    obtain ⟨i, _, rfl⟩ := List.mem_map.1 hq
    have h3 : Tn 3 ((3 : Int) : Rat) := Tn.int (by decide) (by decide)
    have := h3.mul (frT (atF l i))
    exact ⟨Nat.le_trans this.1 (by decide), Nat.le_trans this.2 (by decide)⟩
  · intro q hq
    obtain ⟨i, _, rfl⟩ := List.mem_map.1 hq
    have := (frT (atF l (10 + i))).negF
    exact ⟨Nat.le_trans this.1 (by decide), Nat.le_trans this.2 (by decide)⟩
theorem cdG_len (l : List Int) (n : Nat) : (cdG l n).length = n := by simp [cdG]
theorem flG_len (l : List Int) (n : Nat) : (flG l n).length = n := by simp [flG]
theorem prF_de (x : Ms) (l : List Int) : (prF x l).de.length ≤ 2 := by
  have h := atF_bd l 20 (by omega)
  exact Nat.le_trans (deG_len l _) (by omega)
theorem prF_ok (l a : List Int) : (prF (masF l) a).ok := by
  have h := masF_cuts l
  have t := prF_tn (masF l) a
  refine ⟨fun q hq => (t.fl q hq).sm (by decide), fun q hq => (t.cd q hq).sm (by decide), ?_, ?_, ?_, ?_, ?_, ?_⟩
  · show (flG a 6).length ≤ 1000; rw [flG_len]; decide
  · show (masF l).cuts.length ≤ 1000; omega
  · show (cdG a _).length ≤ 1000; rw [cdG_len]; omega
  · have := prF_de (masF l) a; omega
  · intro c hc; have := h.2 c hc; omega
  · show (flG a 6).length ≠ (cdG a _).length; rw [flG_len, cdG_len]; omega
theorem prF_pq (l a b : List Int) (de : List Dec) (fr : Bool) (hd : de.length ≤ 2) : PQ (prF (masF l) a) ⟨(prF (masF l) b).fl, (prF (masF l) b).cu, (prF (masF l) b).cd, de, fr⟩ := by
  refine ⟨prF_ok l a, prF_tn _ a, ⟨(prF_tn (masF l) b).fl, (prF_tn (masF l) b).cd⟩, ?_, ?_, ?_, rfl, by show de.length ≤ 1000; omega⟩
  · show (flG b 6).length = (flG a 6).length; rw [flG_len, flG_len]
  · show (cdG a _).length = _; rw [cdG_len]; rfl
  · show (cdG b _).length = _; rw [cdG_len]; rfl
end Go.Proofs.YtmhkmmmompediaaGreat
