/- Part 7 of 7 of the proof: the law LagrangeMixes returns true for every input, and its arguments read as before; there is no condition. -/
import Derived.Test.YtmhkmmmompediaaGreatRows
import Derived.WalkKit
import Derived.ProofKit
import Derived.OpenShut
import Derived.Test.YtmhkmmmompediaaGreatG6
set_option linter.unusedVariables false
set_option linter.unusedSimpArgs false
/- The walk through the law LagrangeMixes. -/
namespace Go.Proofs.YtmhkmmmompediaaGreat
open Go.RowKit

set_option maxRecDepth 100000 in
set_option maxHeartbeats 32000000 in
theorem law_Mixes (Al Aa Ab : Option Addr) (cl ca cb : Nat) (l a b : List Int) (n : Int) (w m : World) (hV : Vw m w) (hl : Sl m Al (l.map I64)) (ha : Sl m Aa (a.map I64)) (hb : Sl m Ab (b.map I64))
    (ll : True) (la : True) (lb : True) :
    Calls Tryz.prog 5 #[.slice Al l.length cl, .slice Aa a.length ca, .slice Ab b.length cb, .int .i64 n] w (RetV w m fun _ r => r = .bool true) := by
  have KM : Hid (∀ w m', Vw m' w → Le m m' → Calls Tryz.prog 15 #[.slice Al l.length cl] w (RetV w m' fun m'' r => MasterR m'' r (masF l))) := by
    show ∀ w m', _
    exact fun w m' hV hle => d_Master Al cl l w m' hV (hl.le hle) ll
  have HNF : Hid ((masF l).nf = 6) := rfl
  have HCU : Hid ((masF l).cuts.length ≤ 10) := by show _ ≤ _; have := masF_cuts l; omega
  have PF : Hid (∀ de fr, de.length ≤ 2 → PQ (prF (masF l) a) ⟨(prF (masF l) b).fl, (prF (masF l) b).cu, (prF (masF l) b).cd, de, fr⟩) := by
    show ∀ de fr, _
    exact fun de fr hd => prF_pq l a b de fr hd
  have PD1 : Hid ((prF (masF l) a).de.length ≤ 2) := prF_de _ a
  have PD2 : Hid ((prF (masF l) b).de.length ≤ 2) := prF_de _ b
  have P6 : Hid ((prF (masF l) a).fl.length = 6) := flG_len a 6
  have Q6 : Hid ((prF (masF l) b).fl.length = 6) := flG_len b 6
  have PC : Hid ((prF (masF l) a).cd.length = (prF (masF l) a).cu.length) := cdG_len a _
  have PN : Hid ((prF (masF l) a).cd.length ≤ 10) := by show (cdG a _).length ≤ 10; rw [cdG_len]; have := masF_cuts l; omega
  have LA := Lib.hid la
  have LB := Lib.hid lb
  clear hl ll la lb
  generalize l.length = N1 at *
  generalize hN2 : a.length = N2
  generalize hN3 : b.length = N3
  have HN2 := Lib.hid hN2
  have HN3 := Lib.hid hN3
  clear hN2 hN3
  generalize masF l = ms at *
  have e1 := i64_and3 n
  have e2 := i64_and3 (n / 8)
  have e3 := i64_and3 (n / 64)
  have e4 := i64_and3 (n / 512)
  have hd : 1 + n / 8 % 8 - n / 64 % 8 / 7 * 9 ≤ 1000 := by omega
  generalize n / 512 % 8 = s at *
  have hL := Loc.start hV
  clear hV
  by_cases h3 : s = 3
  · have b0 : (s == 0) = false := bf (by omega)
    have b1 : (s == 1) = false := bf (by omega)
    have b2 : (s == 2) = false := bf (by omega)
    have b3 : (s == 3) = true := bt h3
    clear h3
    go_enter Tryz.func5, Tryz.ntmps5
    go_wp2_with (first | ((with_reducible refine kAny ?_); go_skip) | (with_reducible refine stA ?_) | ((first | ((with_reducible refine kFd ?_); first | refine t_fda0 rfl rfl ?_ | (refine t_fda rfl rfl ?_; (try simp only [Nat.zero_add, Nat.reduceAdd]))) | ((with_reducible refine kLd ?_); first | refine t_loadR hL rfl rfl ?_ | refine t_loadW hL rfl rfl ?_ | refine t_load2 hL rfl rfl ?_ | refine t_load1 hL rfl rfl ?_ | refine t_loadV hL.vw rfl rfl ?_ | refine t_loadV1 hL.vw rfl rfl ?_) | ((with_reducible refine kSt ?_); first | (refine t_storeR hL rfl rfl rfl ?_; clear hL; intro _ hL; simp only [zq2, zq3] at hL) | ((first | refine t_store hL rfl rfl rfl ?_ | refine t_sts hL rfl rfl rfl ?_ | refine t_sti hL rfl rfl rfl ?_ | refine t_stb hL rfl rfl rfl ?_ | refine t_store1 hL rfl rfl rfl ?_); clear hL; intro _ hL; simp only [splice, zq1, zq2, zq3] at hL)) | ((with_reducible refine kAl ?_); (refine t_alloc hL rfl ?_; clear hL; intro _ _ hL _)) | ((with_reducible refine kBs ?_); ((first | refine t_bsA hL rfl rfl ?_ | refine t_bsV hL rfl rfl ?_); clear hL; intro _ _ hL _ hBs))); simp only [Act.put, zq1, zq2, zq3]))
    refine (KM.out _ _ hL.vw leX).mono ?_
    rintro e Wc1 ⟨vc1, mc1, rfl, hE, hMc1, hV, hc1⟩
    replace hL := hL.call hE (by assumption) hV; clear hE hV
    obtain ⟨M1, q1, d1, M2, q2, d2, M3, q3, d3, rfl, hc1⟩ := hc1.lit
    go_upto_region 2 with ((first | ((with_reducible refine kAny ?_); go_skip) | (with_reducible refine stA ?_) | ((first | ((with_reducible refine kFd ?_); first | refine t_fda0 rfl rfl ?_ | (refine t_fda rfl rfl ?_; (try simp only [Nat.zero_add, Nat.reduceAdd]))) | ((with_reducible refine kLd ?_); first | refine t_loadR hL rfl rfl ?_ | refine t_loadW hL rfl rfl ?_ | refine t_load2 hL rfl rfl ?_ | refine t_load1 hL rfl rfl ?_ | refine t_loadV hL.vw rfl rfl ?_ | refine t_loadV1 hL.vw rfl rfl ?_) | ((with_reducible refine kSt ?_); first | (refine t_storeR hL rfl rfl rfl ?_; clear hL; intro _ hL; simp only [zq2, zq3] at hL) | ((first | refine t_store hL rfl rfl rfl ?_ | refine t_sts hL rfl rfl rfl ?_ | refine t_sti hL rfl rfl rfl ?_ | refine t_stb hL rfl rfl rfl ?_ | refine t_store1 hL rfl rfl rfl ?_); clear hL; intro _ hL; simp only [splice, zq1, zq2, zq3] at hL)) | ((with_reducible refine kAl ?_); (refine t_alloc hL rfl ?_; clear hL; intro _ _ hL _)) | ((with_reducible refine kBs ?_); ((first | refine t_bsA hL rfl rfl ?_ | refine t_bsV hL rfl rfl ?_); clear hL; intro _ _ hL _ hBs))); simp only [Act.put, zq1, zq2, zq3])))
    obtain ⟨B, hB1, hB2, hB3⟩ := hL.bound
    refine wp_region_by2 8 [false, false, false, false, false, false, true, true] [false, false, false, false, false, false, false, false] [(fun v _ _ => v = ?c2_0), (fun v _ _ => v = ?c2_1), (PrO w.heap.size (prF ms a)), (fun v _ _ => v = ?c2_3), (fun v _ _ => v = ?c2_4), Of (fun um v => PricesR um v (prF ms b)), NewBlk B 31 #[.slice none 0 0, .slice none 0 0, .slice none 0 0, .slice none 0 0, .bool false], NewBlk B 31 #[.slice none 0 0, .slice none 0 0, .slice none 0 0, .slice none 0 0, .bool false]] hL.vw mixed [20, 21, 22, 23, 24, 25, 10, 11] _ (by kernel_rfl) (fun vs => by simp only [lay, Act.put, zq1, zq2, zq3]; rfl) (by kernel_rfl) (by decide) (by decide) ?s2 ?l2 ?r2
    case s2 =>
      refine ⟨?_, ?_, ?_, ?_, ?_, ?_, ?_, ?_, trivial⟩
      · intro vs W1 m1 hE hM hV hD
        clear hD
        replace hL := hL.call hE hM hV
        exact sLd
      · intro vs W1 m1 hE hM hV hD
        clear hD
        replace hL := hL.call hE hM hV
        exact sPu
      · intro vs W1 m1 hE hM hV hD
        obtain ⟨⟨_, _, -, -, f20⟩, ⟨_, _, -, -, f21⟩, -⟩ := hD
        have f20 : vs 20 = _ := f20
        generalize vs 20 = x20 at f20 ⊢
        subst x20
        have f21 : vs 21 = _ := f21
        generalize vs 21 = x21 at f21 ⊢
        subst x21
        (go_wp2_with fail; refine (d_PricesV _ ms _ _ _ a _ _ hV (hc1.le leX) HNF HCU (ha.le leX) HN2 LA).mono ?_; rintro e W2 ⟨v, m2, rfl, hE2, hM2, hV2, h⟩; go_wp2_with fail; refine One2.call hE2 hM2 hV2 ?_; exact h.base (Nat.le_trans hB2 (Nat.le_trans hB3 hE.size)))
      · intro vs W1 m1 hE hM hV hD
        clear hD
        replace hL := hL.call hE hM hV
        exact sLd
      · intro vs W1 m1 hE hM hV hD
        clear hD
        replace hL := hL.call hE hM hV
        exact sPu
      · intro vs W1 m1 hE hM hV hD
        obtain ⟨⟨_, _, -, -, f23⟩, ⟨_, _, -, -, f24⟩, -, -⟩ := hD
        have f23 : vs 23 = _ := f23
        generalize vs 23 = x23 at f23 ⊢
        subst x23
        have f24 : vs 24 = _ := f24
        generalize vs 24 = x24 at f24 ⊢
        subst x24
        go_wp2_with fail
        refine (d_PricesY _ ms _ _ _ b _ _ hV (hc1.le leX) HNF HCU (hb.le leX) HN3 LB).mono ?_
        rintro e W2 ⟨v, m2, rfl, hE2, hM2, hV2, h⟩
        go_wp2_with fail
        refine One2.call hE2 hM2 hV2 ?_; first | exact h | exact rfl
      · intro vs W1 m1 hE hM hV hD
        clear hD
        exact one2_alloc hV (Nat.le_trans hB3 hE.size) rfl rfl rfl ZcC.h
      · intro vs W1 m1 hE hM hV hD
        clear hD
        exact one2_alloc hV (Nat.le_trans hB3 hE.size) rfl rfl rfl ZcC.h
    case l2 =>
      refine ⟨fun h => (by cases h), fun h => (by cases h), fun h => (by cases h), fun h => (by cases h), fun h => (by cases h), fun h => (by cases h), fun h => (by cases h), fun h => (by cases h), trivial⟩
    intro vs W1 m1 hE hM hV hF hD
    obtain ⟨-, -, ⟨_, _, j22, i22, f22⟩, -, -, ⟨_, _, -, i25, f25⟩, ⟨_, _, j10, i10, f10⟩, ⟨_, _, j11, i11, f11⟩, -⟩ := hF
    replace hL := hL.call hE hM hV
    replace f25 : PricesR _ (vs 25) (prF ms b) := f25
    replace f25 := f25.le i25.le
    clear i25
    obtain ⟨b10, e10, hL⟩ := Loc.addB (Lt := []) hB1 hB2 hL f10 j10 i10 ad0
    obtain ⟨b11, e11, hL⟩ := Loc.addB (Lt := [_]) hB1 hB2 hL f11 j11 i11 (adS (by have h := hD 7 6 _ _ _ _ (by decide) (by decide) (by decide) rfl rfl rfl rfl rfl rfl; rw [e10] at h; exact h) ad0)
    simp only [e10, e11, List.cons_append, List.nil_append] at hL ⊢
    clear e10 f10 j10 i10 e11 f11 j11 i11
    clear hB1 hB2 hB3 hD
    clear hE hV
    obtain ⟨A0, c0, A1, c1, A2, c2, A3, c3, cs, e22, -, ow⟩ := f22.lit j22 i22
    generalize vs 22 = x22 at e22 ⊢
    subst x22
    obtain ⟨B0, k0, B1, k1, B2, k2, B3, k3, e25, -, -⟩ := f25.lit
    generalize vs 25 = x25 at e25 ⊢
    subst x25
    clear f22 f25
    obtain ⟨R, m3, hL3, row⟩ := hL.reown ow (Nat.le_refl _) (fun x hx => by simp at hx; rcases hx with rfl | rfl | rfl <;> simp)
    simp only [List.cons_append, List.nil_append] at hL3
    clear hL ow
    have hL := hL3
    clear hL3 i22 j22
    simp only [List.drop_succ_cons, List.drop_zero]
    go_wp2_with (first | ((with_reducible refine kAny ?_); go_skip) | (with_reducible refine stA ?_) | ((first | ((with_reducible refine kFd ?_); first | refine t_fda0 rfl rfl ?_ | (refine t_fda rfl rfl ?_; (try simp only [Nat.zero_add, Nat.reduceAdd]))) | ((with_reducible refine kLd ?_); first | refine t_loadR hL rfl rfl ?_ | refine t_loadW hL rfl rfl ?_ | refine t_load2 hL rfl rfl ?_ | refine t_load1 hL rfl rfl ?_ | refine t_loadV hL.vw rfl rfl ?_ | refine t_loadV1 hL.vw rfl rfl ?_) | ((with_reducible refine kSt ?_); first | (refine t_storeR hL rfl rfl rfl ?_; clear hL; intro _ hL; simp only [zq2, zq3] at hL) | ((first | refine t_store hL rfl rfl rfl ?_ | refine t_sts hL rfl rfl rfl ?_ | refine t_sti hL rfl rfl rfl ?_ | refine t_stb hL rfl rfl rfl ?_ | refine t_store1 hL rfl rfl rfl ?_); clear hL; intro _ hL; simp only [splice, zq1, zq2, zq3] at hL)) | ((with_reducible refine kAl ?_); (refine t_alloc hL rfl ?_; clear hL; intro _ _ hL _)) | ((with_reducible refine kBs ?_); ((first | refine t_bsA hL rfl rfl ?_ | refine t_bsV hL rfl rfl ?_); clear hL; intro _ _ hL _ hBs))); simp only [Act.put, zq1, zq2, zq3]))
    refine QN.mk ?_
    have ROW := Lib.hid row
    clear row
    go_upto_region 4 with ((first | ((with_reducible refine kAny ?_); go_skip) | (with_reducible refine stA ?_) | ((first | ((with_reducible refine kFd ?_); first | refine t_fda0 rfl rfl ?_ | (refine t_fda rfl rfl ?_; (try simp only [Nat.zero_add, Nat.reduceAdd]))) | ((with_reducible refine kLd ?_); first | refine t_loadR hL rfl rfl ?_ | refine t_loadW hL rfl rfl ?_ | refine t_load2 hL rfl rfl ?_ | refine t_load1 hL rfl rfl ?_ | refine t_loadV hL.vw rfl rfl ?_ | refine t_loadV1 hL.vw rfl rfl ?_) | ((with_reducible refine kSt ?_); first | (refine t_storeR hL rfl rfl rfl ?_; clear hL; intro _ hL; simp only [zq2, zq3] at hL) | ((first | refine t_store hL rfl rfl rfl ?_ | refine t_sts hL rfl rfl rfl ?_ | refine t_sti hL rfl rfl rfl ?_ | refine t_stb hL rfl rfl rfl ?_ | refine t_store1 hL rfl rfl rfl ?_); clear hL; intro _ hL; simp only [splice, zq1, zq2, zq3] at hL)) | ((with_reducible refine kAl ?_); (refine t_alloc hL rfl ?_; clear hL; intro _ _ hL _)) | ((with_reducible refine kBs ?_); ((first | refine t_bsA hL rfl rfl ?_ | refine t_bsV hL rfl rfl ?_); clear hL; intro _ _ hL _ hBs))); simp only [Act.put, zq1, zq2, zq3])))
    clear e1 e2 e3
    generalize n % 8 - 1 = num
    generalize 1 + n / 8 % 8 - n / 64 % 8 / 7 * 9 = den at *
    generalize prF ms a = p at *
    generalize prF ms b = q at *
    go_upto_region 12 with ((first | ((with_reducible refine kAny ?_); go_skip) | (with_reducible refine stA ?_) | ((first | ((with_reducible refine kFd ?_); first | refine t_fda0 rfl rfl ?_ | (refine t_fda rfl rfl ?_; (try simp only [Nat.zero_add, Nat.reduceAdd]))) | ((with_reducible refine kLd ?_); first | refine t_loadR hL rfl rfl ?_ | refine t_loadW hL rfl rfl ?_ | refine t_load2 hL rfl rfl ?_ | refine t_load1 hL rfl rfl ?_ | refine t_loadV hL.vw rfl rfl ?_ | refine t_loadV1 hL.vw rfl rfl ?_) | ((with_reducible refine kSt ?_); first | (refine t_storeR hL rfl rfl rfl ?_; clear hL; intro _ hL; simp only [zq2, zq3] at hL) | ((first | refine t_store hL rfl rfl rfl ?_ | refine t_sts hL rfl rfl rfl ?_ | refine t_sti hL rfl rfl rfl ?_ | refine t_stb hL rfl rfl rfl ?_ | refine t_store1 hL rfl rfl rfl ?_); clear hL; intro _ hL; simp only [splice, zq1, zq2, zq3] at hL)) | ((with_reducible refine kAl ?_); (refine t_alloc hL rfl ?_; clear hL; intro _ _ hL _)) | ((with_reducible refine kBs ?_); ((first | refine t_bsA hL rfl rfl ?_ | refine t_bsV hL rfl rfl ?_); clear hL; intro _ _ hL _ hBs))); simp only [Act.put, zq1, zq2, zq3])))
    refine wp_region_by2 4 [false, false, false, false] [false, false, false, false] [(fun v _ _ => v = ?c12_0), (fun v _ _ => v = ?c12_1), Of (fun um v => FracC um v ((0 : Int) : Rat)), (NewS1 39 (fun um v => FracC um v ((0 : Int) : Rat)))] hL.vw mixed [58, 59, 60, 61] _ (by kernel_rfl) (fun vs => by simp only [lay, Act.put, zq1, zq2, zq3]; rfl) (by kernel_rfl) (by decide) (by decide) ?s12 ?l12 ?r12
    case s12 =>
      refine ⟨?_, ?_, ?_, ?_, trivial⟩
      · intro vs W1 m1 hE hM hV hD
        clear hD
        replace hL := hL.call hE hM hV
        exact sFd
      · intro vs W1 m1 hE hM hV hD
        obtain ⟨⟨_, _, -, -, f58⟩, -⟩ := hD
        have f58 : vs 58 = _ := f58
        generalize vs 58 = x58 at f58 ⊢
        subst x58
        replace hL := hL.call hE hM hV
        exact sLd
      · intro vs W1 m1 hE hM hV hD
        clear hD
        go_wp2_with fail
        refine (r_Int 0 _ _ hV (by decide) (by decide)).mono ?_
        rintro e W2 ⟨v, m2, rfl, hE2, hM2, hV2, h⟩
        go_wp2_with fail
        refine One2.call hE2 hM2 hV2 ?_; first | exact h | exact rfl
      · intro vs W1 m1 hE hM hV hD
        obtain ⟨⟨_, _, -, i60, f60⟩, -⟩ := hD
        have f60 : FracC _ (vs 60) ((0 : Int) : Rat) := f60
        replace f60 := f60.le i60.le
        clear i60
        (obtain ⟨g9, A9, n9, c9, h9, B9, k9, d9, e9, f9⟩ := f60.lit; generalize vs 60 = x9 at e9 ⊢; subst x9; go_wp2_with fail; exact one2_s1 hV fun m' h => f9.le h.le)
    case l12 =>
      refine ⟨fun h => (by cases h), fun h => (by cases h), fun h => (by cases h), fun h => (by cases h), trivial⟩
    intro vs W1 m1 hE hM hV hF hD
    clear hD
    obtain ⟨-, ⟨_, _, -, -, f59⟩, ⟨_, _, -, i60, f60⟩, ⟨_, _, j61, i61, f61⟩, -⟩ := hF
    replace hL := hL.call hE hM hV
    have f59 : vs 59 = _ := f59
    generalize vs 59 = x59 at f59 ⊢
    subst x59
    replace f60 : FracC _ (vs 60) ((0 : Int) : Rat) := f60
    replace f60 := f60.le i60.le
    clear i60
    clear hE hV
    obtain ⟨g15, cs15, e15, q15, f15⟩ := f61
    generalize vs 61 = x15 at e15 ⊢
    subst x15
    replace q15 := q15.ext j61
    have f16 : FracC _ (.agg cs15) ((0 : Int) : Rat) := f15
    clear f15 i61 j61
    obtain ⟨g9, A9, n9, c9, h9, B9, k9, d9, e9, f16⟩ := f16.lit
    injection e9 with e9
    subst e9
    simp only [List.drop_succ_cons, List.drop_zero]
    have hpn := PN.out
    refine wl_append (A := [_, _, _]) hL ROW.out (wanted_none rfl) rfl ap_Fracs (by omega) rfl rfl (news := [.bool g9, .slice A9 n9 c9, .bool h9, .slice B9 k9 d9]) rfl (Blk.sl q15 (n := 4) rfl) rfl (by omega) (by omega) ?_
    clear hL
    intro v1 W2 m2 R2 hL r8 e8
    obtain ⟨A8, c8, rfl, -⟩ := r8.lit
    simp only [List.cons_append, List.nil_append] at hL
    simp only [Act.put, zq1, zq2, zq3]
    have KB : Hid (Both m2 (.agg #[.slice A0 p.fl.length c0, .slice A1 p.cu.length c1, .slice A8 (p.cd.length + 1) c8, .slice A3 p.de.length c3, .bool p.fr]) (.agg #[.slice B0 q.fl.length k0, .slice B1 q.cu.length k1, .slice B2 q.cd.length k2, .slice B3 q.de.length k3, .bool q.fr]) num den) :=
      both_len m2 _ _ _ _ _ _ _ _ _ _ _ _ _ _ _ _ _ _ num den (.inr (by rw [PC.out]; omega))
    clear r8 ROW q15 f16
    go_wp2_with (first | ((with_reducible refine kAny ?_); go_skip) | (with_reducible refine stA ?_) | ((first | ((with_reducible refine kFd ?_); first | refine t_fda0 rfl rfl ?_ | (refine t_fda rfl rfl ?_; (try simp only [Nat.zero_add, Nat.reduceAdd]))) | ((with_reducible refine kLd ?_); first | refine t_loadR hL rfl rfl ?_ | refine t_loadW hL rfl rfl ?_ | refine t_load2 hL rfl rfl ?_ | refine t_load1 hL rfl rfl ?_ | refine t_loadV hL.vw rfl rfl ?_ | refine t_loadV1 hL.vw rfl rfl ?_) | ((with_reducible refine kSt ?_); first | (refine t_storeR hL rfl rfl rfl ?_; clear hL; intro _ hL; simp only [zq2, zq3] at hL) | ((first | refine t_store hL rfl rfl rfl ?_ | refine t_sts hL rfl rfl rfl ?_ | refine t_sti hL rfl rfl rfl ?_ | refine t_stb hL rfl rfl rfl ?_ | refine t_store1 hL rfl rfl rfl ?_); clear hL; intro _ hL; simp only [splice, zq1, zq2, zq3] at hL)) | ((with_reducible refine kAl ?_); (refine t_alloc hL rfl ?_; clear hL; intro _ _ hL _)) | ((with_reducible refine kBs ?_); ((first | refine t_bsA hL rfl rfl ?_ | refine t_bsV hL rfl rfl ?_); clear hL; intro _ _ hL _ hBs))); simp only [Act.put, zq1, zq2, zq3]))
    refine QN.mk ?_
    obtain ⟨r, e, hfit, k1, k2⟩ := KB.out
    have K1 := Lib.hid k1
    have K2 := Lib.hid k2
    have HF := Lib.hid hfit
    clear k1 k2 hfit KB
    have bee : ((e : Int) == e) = true := by simp
    go_wp2_with (first | ((with_reducible refine kAny ?_); go_skip) | (with_reducible refine stA ?_) | ((first | ((with_reducible refine kFd ?_); first | refine t_fda0 rfl rfl ?_ | (refine t_fda rfl rfl ?_; (try simp only [Nat.zero_add, Nat.reduceAdd]))) | ((with_reducible refine kLd ?_); first | refine t_loadR hL rfl rfl ?_ | refine t_loadW hL rfl rfl ?_ | refine t_load2 hL rfl rfl ?_ | refine t_load1 hL rfl rfl ?_ | refine t_loadV hL.vw rfl rfl ?_ | refine t_loadV1 hL.vw rfl rfl ?_) | ((with_reducible refine kSt ?_); first | (refine t_storeR hL rfl rfl rfl ?_; clear hL; intro _ hL; simp only [zq2, zq3] at hL) | ((first | refine t_store hL rfl rfl rfl ?_ | refine t_sts hL rfl rfl rfl ?_ | refine t_sti hL rfl rfl rfl ?_ | refine t_stb hL rfl rfl rfl ?_ | refine t_store1 hL rfl rfl rfl ?_); clear hL; intro _ hL; simp only [splice, zq1, zq2, zq3] at hL)) | ((with_reducible refine kAl ?_); (refine t_alloc hL rfl ?_; clear hL; intro _ _ hL _)) | ((with_reducible refine kBs ?_); ((first | refine t_bsA hL rfl rfl ?_ | refine t_bsV hL rfl rfl ?_); clear hL; intro _ _ hL _ hBs))); simp only [Act.put, zq1, zq2, zq3]))
    refine (K1.out _ _ hL.vw leX).mono ?_
    rintro e' Wu ⟨_, mu, rfl, hE, hMu, hV, u, rfl, hu⟩
    replace hL := hL.call hE (by assumption) hV; clear hE hV
    obtain ⟨U0, v0, U1, v1, U2, v2, U3, v3, rfl, -, hu⟩ := hu.lit
    go_wp2_with (first | ((with_reducible refine kAny ?_); go_skip) | (with_reducible refine stA ?_) | ((first | ((with_reducible refine kFd ?_); first | refine t_fda0 rfl rfl ?_ | (refine t_fda rfl rfl ?_; (try simp only [Nat.zero_add, Nat.reduceAdd]))) | ((with_reducible refine kLd ?_); first | refine t_loadR hL rfl rfl ?_ | refine t_loadW hL rfl rfl ?_ | refine t_load2 hL rfl rfl ?_ | refine t_load1 hL rfl rfl ?_ | refine t_loadV hL.vw rfl rfl ?_ | refine t_loadV1 hL.vw rfl rfl ?_) | ((with_reducible refine kSt ?_); first | (refine t_storeR hL rfl rfl rfl ?_; clear hL; intro _ hL; simp only [zq2, zq3] at hL) | ((first | refine t_store hL rfl rfl rfl ?_ | refine t_sts hL rfl rfl rfl ?_ | refine t_sti hL rfl rfl rfl ?_ | refine t_stb hL rfl rfl rfl ?_ | refine t_store1 hL rfl rfl rfl ?_); clear hL; intro _ hL; simp only [splice, zq1, zq2, zq3] at hL)) | ((with_reducible refine kAl ?_); (refine t_alloc hL rfl ?_; clear hL; intro _ _ hL _)) | ((with_reducible refine kBs ?_); ((first | refine t_bsA hL rfl rfl ?_ | refine t_bsV hL rfl rfl ?_); clear hL; intro _ _ hL _ hBs))); simp only [Act.put, zq1, zq2, zq3]))
    refine (K2.out _ _ hL.vw leX).mono ?_
    rintro e'' Wv ⟨_, mv, rfl, hE, hMv, hV, v, rfl, hv⟩
    replace hL := hL.call hE (by assumption) hV; clear hE hV
    obtain ⟨V0, y0, V1, y1, V2, y2, V3, y3, rfl, -, hv⟩ := hv.lit
    go_wp2_with (first | ((with_reducible refine kAny ?_); go_skip) | (with_reducible refine stA ?_) | ((first | ((with_reducible refine kFd ?_); first | refine t_fda0 rfl rfl ?_ | (refine t_fda rfl rfl ?_; (try simp only [Nat.zero_add, Nat.reduceAdd]))) | ((with_reducible refine kLd ?_); first | refine t_loadR hL rfl rfl ?_ | refine t_loadW hL rfl rfl ?_ | refine t_load2 hL rfl rfl ?_ | refine t_load1 hL rfl rfl ?_ | refine t_loadV hL.vw rfl rfl ?_ | refine t_loadV1 hL.vw rfl rfl ?_) | ((with_reducible refine kSt ?_); first | (refine t_storeR hL rfl rfl rfl ?_; clear hL; intro _ hL; simp only [zq2, zq3] at hL) | ((first | refine t_store hL rfl rfl rfl ?_ | refine t_sts hL rfl rfl rfl ?_ | refine t_sti hL rfl rfl rfl ?_ | refine t_stb hL rfl rfl rfl ?_ | refine t_store1 hL rfl rfl rfl ?_); clear hL; intro _ hL; simp only [splice, zq1, zq2, zq3] at hL)) | ((with_reducible refine kAl ?_); (refine t_alloc hL rfl ?_; clear hL; intro _ _ hL _)) | ((with_reducible refine kBs ?_); ((first | refine t_bsA hL rfl rfl ?_ | refine t_bsV hL rfl rfl ?_); clear hL; intro _ _ hL _ hBs))); simp only [Act.put, zq1, zq2, zq3]))
    refine (r_SamePrices _ _ r _ _ hL.vw (hu.le leX) (hv.le leX) HF.out).mono ?_
    rintro e Wc8 ⟨_, mc8, rfl, hE, hMc8, hV, rfl⟩
    replace hL := hL.call hE (by assumption) hV; clear hE hV
    go_wp2_with (first | ((with_reducible refine kAny ?_); go_skip) | (with_reducible refine stA ?_) | ((first | ((with_reducible refine kFd ?_); first | refine t_fda0 rfl rfl ?_ | (refine t_fda rfl rfl ?_; (try simp only [Nat.zero_add, Nat.reduceAdd]))) | ((with_reducible refine kLd ?_); first | refine t_loadR hL rfl rfl ?_ | refine t_loadW hL rfl rfl ?_ | refine t_load2 hL rfl rfl ?_ | refine t_load1 hL rfl rfl ?_ | refine t_loadV hL.vw rfl rfl ?_ | refine t_loadV1 hL.vw rfl rfl ?_) | ((with_reducible refine kSt ?_); first | (refine t_storeR hL rfl rfl rfl ?_; clear hL; intro _ hL; simp only [zq2, zq3] at hL) | ((first | refine t_store hL rfl rfl rfl ?_ | refine t_sts hL rfl rfl rfl ?_ | refine t_sti hL rfl rfl rfl ?_ | refine t_stb hL rfl rfl rfl ?_ | refine t_store1 hL rfl rfl rfl ?_); clear hL; intro _ hL; simp only [splice, zq1, zq2, zq3] at hL)) | ((with_reducible refine kAl ?_); (refine t_alloc hL rfl ?_; clear hL; intro _ _ hL _)) | ((with_reducible refine kBs ?_); ((first | refine t_bsA hL rfl rfl ?_ | refine t_bsV hL rfl rfl ?_); clear hL; intro _ _ hL _ hBs))); simp only [Act.put, zq1, zq2, zq3]))
    refine (k_known _ _ hL.vw).mono ?_
    rintro e Wc9 ⟨_, mc9, rfl, hE, hMc9, hV, rfl⟩
    replace hL := hL.call hE (by assumption) hV; clear hE hV
    go_wp2_with (first | ((with_reducible refine kAny ?_); go_skip) | (with_reducible refine stA ?_) | ((first | ((with_reducible refine kFd ?_); first | refine t_fda0 rfl rfl ?_ | (refine t_fda rfl rfl ?_; (try simp only [Nat.zero_add, Nat.reduceAdd]))) | ((with_reducible refine kLd ?_); first | refine t_loadR hL rfl rfl ?_ | refine t_loadW hL rfl rfl ?_ | refine t_load2 hL rfl rfl ?_ | refine t_load1 hL rfl rfl ?_ | refine t_loadV hL.vw rfl rfl ?_ | refine t_loadV1 hL.vw rfl rfl ?_) | ((with_reducible refine kSt ?_); first | (refine t_storeR hL rfl rfl rfl ?_; clear hL; intro _ hL; simp only [zq2, zq3] at hL) | ((first | refine t_store hL rfl rfl rfl ?_ | refine t_sts hL rfl rfl rfl ?_ | refine t_sti hL rfl rfl rfl ?_ | refine t_stb hL rfl rfl rfl ?_ | refine t_store1 hL rfl rfl rfl ?_); clear hL; intro _ hL; simp only [splice, zq1, zq2, zq3] at hL)) | ((with_reducible refine kAl ?_); (refine t_alloc hL rfl ?_; clear hL; intro _ _ hL _)) | ((with_reducible refine kBs ?_); ((first | refine t_bsA hL rfl rfl ?_ | refine t_bsV hL rfl rfl ?_); clear hL; intro _ _ hL _ hBs))); simp only [Act.put, zq1, zq2, zq3]))
    go_ret
    exact RetV.mk hL rfl
  · have b3 : (s == 3) = false := bf h3
    go_enter Tryz.func5, Tryz.ntmps5
    go_wp2_with (first | ((with_reducible refine kAny ?_); go_skip) | (with_reducible refine stA ?_) | ((first | ((with_reducible refine kFd ?_); first | refine t_fda0 rfl rfl ?_ | (refine t_fda rfl rfl ?_; (try simp only [Nat.zero_add, Nat.reduceAdd]))) | ((with_reducible refine kLd ?_); first | refine t_loadR hL rfl rfl ?_ | refine t_loadW hL rfl rfl ?_ | refine t_load2 hL rfl rfl ?_ | refine t_load1 hL rfl rfl ?_ | refine t_loadV hL.vw rfl rfl ?_ | refine t_loadV1 hL.vw rfl rfl ?_) | ((with_reducible refine kSt ?_); first | (refine t_storeR hL rfl rfl rfl ?_; clear hL; intro _ hL; simp only [zq2, zq3] at hL) | ((first | refine t_store hL rfl rfl rfl ?_ | refine t_sts hL rfl rfl rfl ?_ | refine t_sti hL rfl rfl rfl ?_ | refine t_stb hL rfl rfl rfl ?_ | refine t_store1 hL rfl rfl rfl ?_); clear hL; intro _ hL; simp only [splice, zq1, zq2, zq3] at hL)) | ((with_reducible refine kAl ?_); (refine t_alloc hL rfl ?_; clear hL; intro _ _ hL _)) | ((with_reducible refine kBs ?_); ((first | refine t_bsA hL rfl rfl ?_ | refine t_bsV hL rfl rfl ?_); clear hL; intro _ _ hL _ hBs))); simp only [Act.put, zq1, zq2, zq3]))
    refine (KM.out _ _ hL.vw leX).mono ?_
    rintro e Wc1 ⟨vc1, mc1, rfl, hE, hMc1, hV, hc1⟩
    replace hL := hL.call hE (by assumption) hV; clear hE hV
    obtain ⟨M1, q1, d1, M2, q2, d2, M3, q3, d3, rfl, hc1⟩ := hc1.lit
    go_upto_region 2 with ((first | ((with_reducible refine kAny ?_); go_skip) | (with_reducible refine stA ?_) | ((first | ((with_reducible refine kFd ?_); first | refine t_fda0 rfl rfl ?_ | (refine t_fda rfl rfl ?_; (try simp only [Nat.zero_add, Nat.reduceAdd]))) | ((with_reducible refine kLd ?_); first | refine t_loadR hL rfl rfl ?_ | refine t_loadW hL rfl rfl ?_ | refine t_load2 hL rfl rfl ?_ | refine t_load1 hL rfl rfl ?_ | refine t_loadV hL.vw rfl rfl ?_ | refine t_loadV1 hL.vw rfl rfl ?_) | ((with_reducible refine kSt ?_); first | (refine t_storeR hL rfl rfl rfl ?_; clear hL; intro _ hL; simp only [zq2, zq3] at hL) | ((first | refine t_store hL rfl rfl rfl ?_ | refine t_sts hL rfl rfl rfl ?_ | refine t_sti hL rfl rfl rfl ?_ | refine t_stb hL rfl rfl rfl ?_ | refine t_store1 hL rfl rfl rfl ?_); clear hL; intro _ hL; simp only [splice, zq1, zq2, zq3] at hL)) | ((with_reducible refine kAl ?_); (refine t_alloc hL rfl ?_; clear hL; intro _ _ hL _)) | ((with_reducible refine kBs ?_); ((first | refine t_bsA hL rfl rfl ?_ | refine t_bsV hL rfl rfl ?_); clear hL; intro _ _ hL _ hBs))); simp only [Act.put, zq1, zq2, zq3])))
    obtain ⟨B, hB1, hB2, hB3⟩ := hL.bound
    refine wp_region_by2 8 [false, false, false, false, false, false, true, true] [false, false, false, false, false, false, false, false] [(fun v _ _ => v = ?c2_0x), (fun v _ _ => v = ?c2_1x), Of (fun um v => PricesR um v (prF ms a)), (fun v _ _ => v = ?c2_3x), (fun v _ _ => v = ?c2_4x), Of (fun um v => PricesR um v (prF ms b)), NewBlk B 31 #[.slice none 0 0, .slice none 0 0, .slice none 0 0, .slice none 0 0, .bool false], NewBlk B 31 #[.slice none 0 0, .slice none 0 0, .slice none 0 0, .slice none 0 0, .bool false]] hL.vw mixed [20, 21, 22, 23, 24, 25, 10, 11] _ (by kernel_rfl) (fun vs => by simp only [lay, Act.put, zq1, zq2, zq3]; rfl) (by kernel_rfl) (by decide) (by decide) ?s2x ?l2x ?r2x
    case s2x =>
      refine ⟨?_, ?_, ?_, ?_, ?_, ?_, ?_, ?_, trivial⟩
      · intro vs W1 m1 hE hM hV hD
        clear hD
        replace hL := hL.call hE hM hV
        exact sLd
      · intro vs W1 m1 hE hM hV hD
        clear hD
        replace hL := hL.call hE hM hV
        exact sPu
      · intro vs W1 m1 hE hM hV hD
        obtain ⟨⟨_, _, -, -, f20⟩, ⟨_, _, -, -, f21⟩, -⟩ := hD
        have f20 : vs 20 = _ := f20
        generalize vs 20 = x20 at f20 ⊢
        subst x20
        have f21 : vs 21 = _ := f21
        generalize vs 21 = x21 at f21 ⊢
        subst x21
        go_wp2_with fail
        refine (d_PricesY _ ms _ _ _ a _ _ hV (hc1.le leX) HNF HCU (ha.le leX) HN2 LA).mono ?_
        rintro e W2 ⟨v, m2, rfl, hE2, hM2, hV2, h⟩
        go_wp2_with fail
        refine One2.call hE2 hM2 hV2 ?_; first | exact h | exact rfl
      · intro vs W1 m1 hE hM hV hD
        clear hD
        replace hL := hL.call hE hM hV
        exact sLd
      · intro vs W1 m1 hE hM hV hD
        clear hD
        replace hL := hL.call hE hM hV
        exact sPu
      · intro vs W1 m1 hE hM hV hD
        obtain ⟨⟨_, _, -, -, f23⟩, ⟨_, _, -, -, f24⟩, -, -⟩ := hD
        have f23 : vs 23 = _ := f23
        generalize vs 23 = x23 at f23 ⊢
        subst x23
        have f24 : vs 24 = _ := f24
        generalize vs 24 = x24 at f24 ⊢
        subst x24
        go_wp2_with fail
        refine (d_PricesY _ ms _ _ _ b _ _ hV (hc1.le leX) HNF HCU (hb.le leX) HN3 LB).mono ?_
        rintro e W2 ⟨v, m2, rfl, hE2, hM2, hV2, h⟩
        go_wp2_with fail
        refine One2.call hE2 hM2 hV2 ?_; first | exact h | exact rfl
      · intro vs W1 m1 hE hM hV hD
        clear hD
        exact one2_alloc hV (Nat.le_trans hB3 hE.size) rfl rfl rfl ZcC.h
      · intro vs W1 m1 hE hM hV hD
        clear hD
        exact one2_alloc hV (Nat.le_trans hB3 hE.size) rfl rfl rfl ZcC.h
    case l2x =>
      refine ⟨fun h => (by cases h), fun h => (by cases h), fun h => (by cases h), fun h => (by cases h), fun h => (by cases h), fun h => (by cases h), fun h => (by cases h), fun h => (by cases h), trivial⟩
    intro vs W1 m1 hE hM hV hF hD
    obtain ⟨-, -, ⟨_, _, -, i22, f22⟩, -, -, ⟨_, _, -, i25, f25⟩, ⟨_, _, j10, i10, f10⟩, ⟨_, _, j11, i11, f11⟩, -⟩ := hF
    replace hL := hL.call hE hM hV
    replace f22 : PricesR _ (vs 22) (prF ms a) := f22
    replace f22 := f22.le i22.le
    clear i22
    replace f25 : PricesR _ (vs 25) (prF ms b) := f25
    replace f25 := f25.le i25.le
    clear i25
    obtain ⟨b10, e10, hL⟩ := Loc.addB (Lt := []) hB1 hB2 hL f10 j10 i10 ad0
    obtain ⟨b11, e11, hL⟩ := Loc.addB (Lt := [_]) hB1 hB2 hL f11 j11 i11 (adS (by have h := hD 7 6 _ _ _ _ (by decide) (by decide) (by decide) rfl rfl rfl rfl rfl rfl; rw [e10] at h; exact h) ad0)
    simp only [e10, e11, List.cons_append, List.nil_append] at hL ⊢
    clear e10 f10 j10 i10 e11 f11 j11 i11
    clear hB1 hB2 hB3 hD
    clear hE hV
    obtain ⟨A0, c0, A1, c1, A2, c2, A3, c3, e22, -, hx⟩ := f22.lit
    generalize vs 22 = x22 at e22 ⊢
    subst x22
    obtain ⟨B0, k0, B1, k1, B2, k2, B3, k3, e25, hk0, hy⟩ := f25.lit
    generalize vs 25 = x25 at e25 ⊢
    subst x25
    clear f22 f25
    simp only [List.drop_succ_cons, List.drop_zero]
    go_wp2_with (first | ((with_reducible refine kAny ?_); go_skip) | (with_reducible refine stA ?_) | ((first | ((with_reducible refine kFd ?_); first | refine t_fda0 rfl rfl ?_ | (refine t_fda rfl rfl ?_; (try simp only [Nat.zero_add, Nat.reduceAdd]))) | ((with_reducible refine kLd ?_); first | refine t_loadR hL rfl rfl ?_ | refine t_loadW hL rfl rfl ?_ | refine t_load2 hL rfl rfl ?_ | refine t_load1 hL rfl rfl ?_ | refine t_loadV hL.vw rfl rfl ?_ | refine t_loadV1 hL.vw rfl rfl ?_) | ((with_reducible refine kSt ?_); first | (refine t_storeR hL rfl rfl rfl ?_; clear hL; intro _ hL; simp only [zq2, zq3] at hL) | ((first | refine t_store hL rfl rfl rfl ?_ | refine t_sts hL rfl rfl rfl ?_ | refine t_sti hL rfl rfl rfl ?_ | refine t_stb hL rfl rfl rfl ?_ | refine t_store1 hL rfl rfl rfl ?_); clear hL; intro _ hL; simp only [splice, zq1, zq2, zq3] at hL)) | ((with_reducible refine kAl ?_); (refine t_alloc hL rfl ?_; clear hL; intro _ _ hL _)) | ((with_reducible refine kBs ?_); ((first | refine t_bsA hL rfl rfl ?_ | refine t_bsV hL rfl rfl ?_); clear hL; intro _ _ hL _ hBs))); simp only [Act.put, zq1, zq2, zq3]))
    refine QN.mk ?_
    go_upto_region 4 with ((first | ((with_reducible refine kAny ?_); go_skip) | (with_reducible refine stA ?_) | ((first | ((with_reducible refine kFd ?_); first | refine t_fda0 rfl rfl ?_ | (refine t_fda rfl rfl ?_; (try simp only [Nat.zero_add, Nat.reduceAdd]))) | ((with_reducible refine kLd ?_); first | refine t_loadR hL rfl rfl ?_ | refine t_loadW hL rfl rfl ?_ | refine t_load2 hL rfl rfl ?_ | refine t_load1 hL rfl rfl ?_ | refine t_loadV hL.vw rfl rfl ?_ | refine t_loadV1 hL.vw rfl rfl ?_) | ((with_reducible refine kSt ?_); first | (refine t_storeR hL rfl rfl rfl ?_; clear hL; intro _ hL; simp only [zq2, zq3] at hL) | ((first | refine t_store hL rfl rfl rfl ?_ | refine t_sts hL rfl rfl rfl ?_ | refine t_sti hL rfl rfl rfl ?_ | refine t_stb hL rfl rfl rfl ?_ | refine t_store1 hL rfl rfl rfl ?_); clear hL; intro _ hL; simp only [splice, zq1, zq2, zq3] at hL)) | ((with_reducible refine kAl ?_); (refine t_alloc hL rfl ?_; clear hL; intro _ _ hL _)) | ((with_reducible refine kBs ?_); ((first | refine t_bsA hL rfl rfl ?_ | refine t_bsV hL rfl rfl ?_); clear hL; intro _ _ hL _ hBs))); simp only [Act.put, zq1, zq2, zq3])))
    clear e1 e2 e3
    generalize n % 8 - 1 = num
    generalize 1 + n / 8 % 8 - n / 64 % 8 / 7 * 9 = den at *
    generalize prF ms a = p at *
    generalize prF ms b = q at *
    have HX := Lib.hid hx
    have HY := Lib.hid hy
    clear hx hy
    by_cases h0 : s = 0
    case' pos =>
      have b0 : (s == 0) = true := bt h0
      clear h0 h3
      have KB : Hid (Both m1 (.agg #[.slice A0 p.fl.length c0, .slice A1 p.cu.length c1, .slice A2 p.cd.length c2, .slice A3 p.de.length c3, .bool p.fr]) (.agg #[.slice B0 q.fl.length k0, .slice B1 q.cu.length k1, .slice B2 q.cd.length k2, .slice B3 q.de.length k3, .bool q.fr]) num den) :=
        both_any HX.out HY.out (PF.out q.de q.fr PD2.out) hd
      go_upto_region 13 with ((first | ((with_reducible refine kAny ?_); go_skip) | (with_reducible refine stA ?_) | ((first | ((with_reducible refine kFd ?_); first | refine t_fda0 rfl rfl ?_ | (refine t_fda rfl rfl ?_; (try simp only [Nat.zero_add, Nat.reduceAdd]))) | ((with_reducible refine kLd ?_); first | refine t_loadR hL rfl rfl ?_ | refine t_loadW hL rfl rfl ?_ | refine t_load2 hL rfl rfl ?_ | refine t_load1 hL rfl rfl ?_ | refine t_loadV hL.vw rfl rfl ?_ | refine t_loadV1 hL.vw rfl rfl ?_) | ((with_reducible refine kSt ?_); first | (refine t_storeR hL rfl rfl rfl ?_; clear hL; intro _ hL; simp only [zq2, zq3] at hL) | ((first | refine t_store hL rfl rfl rfl ?_ | refine t_sts hL rfl rfl rfl ?_ | refine t_sti hL rfl rfl rfl ?_ | refine t_stb hL rfl rfl rfl ?_ | refine t_store1 hL rfl rfl rfl ?_); clear hL; intro _ hL; simp only [splice, zq1, zq2, zq3] at hL)) | ((with_reducible refine kAl ?_); (refine t_alloc hL rfl ?_; clear hL; intro _ _ hL _)) | ((with_reducible refine kBs ?_); ((first | refine t_bsA hL rfl rfl ?_ | refine t_bsV hL rfl rfl ?_); clear hL; intro _ _ hL _ hBs))); simp only [Act.put, zq1, zq2, zq3])))
    case' neg =>
      have b0 : (s == 0) = false := bf h0
      by_cases h1 : s = 1
      case' pos =>
        have b1 : (s == 1) = true := bt h1
        clear h0 h1 h3
        have KB : Hid (Both m1 (.agg #[.slice A0 p.fl.length c0, .slice A1 p.cu.length c1, .slice A2 p.cd.length c2, .slice A3 p.de.length c3, .bool p.fr]) (.agg #[.slice B0 q.fl.length k0, .slice B1 q.cu.length k1, .slice B2 q.cd.length k2, .slice B3 q.de.length k3, .bool true]) num den) := by
          obtain ⟨a, b, c, d, e, y1, y2, y3, y4⟩ := HY.out
          injection e with e
          injection e with e
          injection e with e1 e
          injection e with e2 e
          injection e with e3 e
          injection e with e4 e
          subst e1 e2 e3 e4
          exact both_any HX.out (q := ⟨q.fl, q.cu, q.cd, q.de, true⟩) ⟨_, _, _, _, rfl, y1, y2, y3, y4⟩ (PF.out q.de true PD2.out) hd
        go_upto_region 13 with ((first | ((with_reducible refine kAny ?_); go_skip) | (with_reducible refine stA ?_) | ((first | ((with_reducible refine kFd ?_); first | refine t_fda0 rfl rfl ?_ | (refine t_fda rfl rfl ?_; (try simp only [Nat.zero_add, Nat.reduceAdd]))) | ((with_reducible refine kLd ?_); first | refine t_loadR hL rfl rfl ?_ | refine t_loadW hL rfl rfl ?_ | refine t_load2 hL rfl rfl ?_ | refine t_load1 hL rfl rfl ?_ | refine t_loadV hL.vw rfl rfl ?_ | refine t_loadV1 hL.vw rfl rfl ?_) | ((with_reducible refine kSt ?_); first | (refine t_storeR hL rfl rfl rfl ?_; clear hL; intro _ hL; simp only [zq2, zq3] at hL) | ((first | refine t_store hL rfl rfl rfl ?_ | refine t_sts hL rfl rfl rfl ?_ | refine t_sti hL rfl rfl rfl ?_ | refine t_stb hL rfl rfl rfl ?_ | refine t_store1 hL rfl rfl rfl ?_); clear hL; intro _ hL; simp only [splice, zq1, zq2, zq3] at hL)) | ((with_reducible refine kAl ?_); (refine t_alloc hL rfl ?_; clear hL; intro _ _ hL _)) | ((with_reducible refine kBs ?_); ((first | refine t_bsA hL rfl rfl ?_ | refine t_bsV hL rfl rfl ?_); clear hL; intro _ _ hL _ hBs))); simp only [Act.put, zq1, zq2, zq3])))
      case' neg =>
        have b1 : (s == 1) = false := bf h1
        by_cases h2 : s = 2
        case' pos =>
          have b2 : (s == 2) = true := bt h2
          clear h0 h1 h2 h3
          have hk1 : 1 ≤ q.fl.length := by rw [Q6.out]; omega
          have hk9 : ¬ k0 = 1 := by rw [Q6.out] at hk0; omega
          have HNE : Hid (p.fl.length ≠ q.fl.length - 1 ∨ p.cd.length ≠ p.cu.length) := by show _ ∨ _; rw [P6.out, Q6.out]; omega
          obtain ⟨yb, yo, rfl⟩ : ∃ yb yo, B0 = some ⟨yb, yo, none⟩ := by
            obtain ⟨a, b, c, d, e, y1, -⟩ := HY.out
            injection e with e
            injection e with e
            injection e with e1 e
            subst e1
            have h0 : q.fl[0]? = some (q.fl[0]'(by omega)) := List.getElem?_eq_getElem _
            obtain ⟨b9, o9, _, _, _, _, _, _, _, _, e9, -⟩ := FracL.at_ y1 h0
            exact ⟨b9, o9, e9⟩
          generalize q.fl.length = qn at *
          have KB : Hid (Both m1 (.agg #[.slice A0 p.fl.length c0, .slice A1 p.cu.length c1, .slice A2 p.cd.length c2, .slice A3 p.de.length c3, .bool p.fr]) (.agg #[.slice (some ⟨yb, yo + 4, none⟩) (qn - 1) (k0 - 1), .slice B1 q.cu.length k1, .slice B2 q.cd.length k2, .slice B3 q.de.length k3, .bool q.fr]) num den) :=
            both_len m1 _ _ _ _ _ _ _ _ _ _ _ _ _ _ _ _ _ _ num den HNE.out
          go_upto_region 13 with ((first | ((with_reducible refine kAny ?_); go_skip) | (with_reducible refine stA ?_) | ((first | ((with_reducible refine kFd ?_); first | refine t_fda0 rfl rfl ?_ | (refine t_fda rfl rfl ?_; (try simp only [Nat.zero_add, Nat.reduceAdd]))) | ((with_reducible refine kLd ?_); first | refine t_loadR hL rfl rfl ?_ | refine t_loadW hL rfl rfl ?_ | refine t_load2 hL rfl rfl ?_ | refine t_load1 hL rfl rfl ?_ | refine t_loadV hL.vw rfl rfl ?_ | refine t_loadV1 hL.vw rfl rfl ?_) | ((with_reducible refine kSt ?_); first | (refine t_storeR hL rfl rfl rfl ?_; clear hL; intro _ hL; simp only [zq2, zq3] at hL) | ((first | refine t_store hL rfl rfl rfl ?_ | refine t_sts hL rfl rfl rfl ?_ | refine t_sti hL rfl rfl rfl ?_ | refine t_stb hL rfl rfl rfl ?_ | refine t_store1 hL rfl rfl rfl ?_); clear hL; intro _ hL; simp only [splice, zq1, zq2, zq3] at hL)) | ((with_reducible refine kAl ?_); (refine t_alloc hL rfl ?_; clear hL; intro _ _ hL _)) | ((with_reducible refine kBs ?_); ((first | refine t_bsA hL rfl rfl ?_ | refine t_bsV hL rfl rfl ?_); clear hL; intro _ _ hL _ hBs))); simp only [Act.put, zq1, zq2, zq3])))
        case' neg =>
          have b2 : (s == 2) = false := bf h2
          clear h0 h1 h2 h3
          have KB : Hid (Both m1 (.agg #[.slice A0 p.fl.length c0, .slice A1 p.cu.length c1, .slice A2 p.cd.length c2, .slice A3 p.de.length c3, .bool p.fr]) (.agg #[.slice B0 q.fl.length k0, .slice B1 q.cu.length k1, .slice B2 q.cd.length k2, .slice A3 p.de.length c3, .bool q.fr]) num den) := by
            obtain ⟨a, b, c, d, e, y1, y2, y3, y4⟩ := HY.out
            injection e with e
            injection e with e
            injection e with e1 e
            injection e with e2 e
            injection e with e3 e
            injection e with e4 e
            subst e1 e2 e3 e4
            obtain ⟨a, b, c, d, e, x1, x2, x3, x4⟩ := HX.out
            injection e with e
            injection e with e
            injection e with e1 e
            injection e with e2 e
            injection e with e3 e
            injection e with e4 e
            subst e1 e2 e3 e4
            exact both_any HX.out (q := ⟨q.fl, q.cu, q.cd, p.de, q.fr⟩) ⟨_, _, _, _, rfl, y1, y2, y3, x4⟩ (PF.out p.de q.fr PD1.out) hd
          go_upto_region 13 with ((first | ((with_reducible refine kAny ?_); go_skip) | (with_reducible refine stA ?_) | ((first | ((with_reducible refine kFd ?_); first | refine t_fda0 rfl rfl ?_ | (refine t_fda rfl rfl ?_; (try simp only [Nat.zero_add, Nat.reduceAdd]))) | ((with_reducible refine kLd ?_); first | refine t_loadR hL rfl rfl ?_ | refine t_loadW hL rfl rfl ?_ | refine t_load2 hL rfl rfl ?_ | refine t_load1 hL rfl rfl ?_ | refine t_loadV hL.vw rfl rfl ?_ | refine t_loadV1 hL.vw rfl rfl ?_) | ((with_reducible refine kSt ?_); first | (refine t_storeR hL rfl rfl rfl ?_; clear hL; intro _ hL; simp only [zq2, zq3] at hL) | ((first | refine t_store hL rfl rfl rfl ?_ | refine t_sts hL rfl rfl rfl ?_ | refine t_sti hL rfl rfl rfl ?_ | refine t_stb hL rfl rfl rfl ?_ | refine t_store1 hL rfl rfl rfl ?_); clear hL; intro _ hL; simp only [splice, zq1, zq2, zq3] at hL)) | ((with_reducible refine kAl ?_); (refine t_alloc hL rfl ?_; clear hL; intro _ _ hL _)) | ((with_reducible refine kBs ?_); ((first | refine t_bsA hL rfl rfl ?_ | refine t_bsV hL rfl rfl ?_); clear hL; intro _ _ hL _ hBs))); simp only [Act.put, zq1, zq2, zq3])))
    all_goals
      obtain ⟨r, e, hfit, k1, k2⟩ := KB.out
      have K1 := Lib.hid k1
      have K2 := Lib.hid k2
      have HF := Lib.hid hfit
      clear k1 k2 hfit KB
      have bee : ((e : Int) == e) = true := by simp
      go_wp2_with (first | ((with_reducible refine kAny ?_); go_skip) | (with_reducible refine stA ?_) | ((first | ((with_reducible refine kFd ?_); first | refine t_fda0 rfl rfl ?_ | (refine t_fda rfl rfl ?_; (try simp only [Nat.zero_add, Nat.reduceAdd]))) | ((with_reducible refine kLd ?_); first | refine t_loadR hL rfl rfl ?_ | refine t_loadW hL rfl rfl ?_ | refine t_load2 hL rfl rfl ?_ | refine t_load1 hL rfl rfl ?_ | refine t_loadV hL.vw rfl rfl ?_ | refine t_loadV1 hL.vw rfl rfl ?_) | ((with_reducible refine kSt ?_); first | (refine t_storeR hL rfl rfl rfl ?_; clear hL; intro _ hL; simp only [zq2, zq3] at hL) | ((first | refine t_store hL rfl rfl rfl ?_ | refine t_sts hL rfl rfl rfl ?_ | refine t_sti hL rfl rfl rfl ?_ | refine t_stb hL rfl rfl rfl ?_ | refine t_store1 hL rfl rfl rfl ?_); clear hL; intro _ hL; simp only [splice, zq1, zq2, zq3] at hL)) | ((with_reducible refine kAl ?_); (refine t_alloc hL rfl ?_; clear hL; intro _ _ hL _)) | ((with_reducible refine kBs ?_); ((first | refine t_bsA hL rfl rfl ?_ | refine t_bsV hL rfl rfl ?_); clear hL; intro _ _ hL _ hBs))); simp only [Act.put, zq1, zq2, zq3]))
      refine (K1.out _ _ hL.vw leX).mono ?_
      rintro e' Wu ⟨_, mu, rfl, hE, hMu, hV, u, rfl, hu⟩
      replace hL := hL.call hE (by assumption) hV; clear hE hV
      obtain ⟨U0, v0, U1, v1, U2, v2, U3, v3, rfl, -, hu⟩ := hu.lit
      go_wp2_with (first | ((with_reducible refine kAny ?_); go_skip) | (with_reducible refine stA ?_) | ((first | ((with_reducible refine kFd ?_); first | refine t_fda0 rfl rfl ?_ | (refine t_fda rfl rfl ?_; (try simp only [Nat.zero_add, Nat.reduceAdd]))) | ((with_reducible refine kLd ?_); first | refine t_loadR hL rfl rfl ?_ | refine t_loadW hL rfl rfl ?_ | refine t_load2 hL rfl rfl ?_ | refine t_load1 hL rfl rfl ?_ | refine t_loadV hL.vw rfl rfl ?_ | refine t_loadV1 hL.vw rfl rfl ?_) | ((with_reducible refine kSt ?_); first | (refine t_storeR hL rfl rfl rfl ?_; clear hL; intro _ hL; simp only [zq2, zq3] at hL) | ((first | refine t_store hL rfl rfl rfl ?_ | refine t_sts hL rfl rfl rfl ?_ | refine t_sti hL rfl rfl rfl ?_ | refine t_stb hL rfl rfl rfl ?_ | refine t_store1 hL rfl rfl rfl ?_); clear hL; intro _ hL; simp only [splice, zq1, zq2, zq3] at hL)) | ((with_reducible refine kAl ?_); (refine t_alloc hL rfl ?_; clear hL; intro _ _ hL _)) | ((with_reducible refine kBs ?_); ((first | refine t_bsA hL rfl rfl ?_ | refine t_bsV hL rfl rfl ?_); clear hL; intro _ _ hL _ hBs))); simp only [Act.put, zq1, zq2, zq3]))
      refine (K2.out _ _ hL.vw leX).mono ?_
      rintro e'' Wv ⟨_, mv, rfl, hE, hMv, hV, v, rfl, hv⟩
      replace hL := hL.call hE (by assumption) hV; clear hE hV
      obtain ⟨V0, y0, V1, y1, V2, y2, V3, y3, rfl, -, hv⟩ := hv.lit
      go_wp2_with (first | ((with_reducible refine kAny ?_); go_skip) | (with_reducible refine stA ?_) | ((first | ((with_reducible refine kFd ?_); first | refine t_fda0 rfl rfl ?_ | (refine t_fda rfl rfl ?_; (try simp only [Nat.zero_add, Nat.reduceAdd]))) | ((with_reducible refine kLd ?_); first | refine t_loadR hL rfl rfl ?_ | refine t_loadW hL rfl rfl ?_ | refine t_load2 hL rfl rfl ?_ | refine t_load1 hL rfl rfl ?_ | refine t_loadV hL.vw rfl rfl ?_ | refine t_loadV1 hL.vw rfl rfl ?_) | ((with_reducible refine kSt ?_); first | (refine t_storeR hL rfl rfl rfl ?_; clear hL; intro _ hL; simp only [zq2, zq3] at hL) | ((first | refine t_store hL rfl rfl rfl ?_ | refine t_sts hL rfl rfl rfl ?_ | refine t_sti hL rfl rfl rfl ?_ | refine t_stb hL rfl rfl rfl ?_ | refine t_store1 hL rfl rfl rfl ?_); clear hL; intro _ hL; simp only [splice, zq1, zq2, zq3] at hL)) | ((with_reducible refine kAl ?_); (refine t_alloc hL rfl ?_; clear hL; intro _ _ hL _)) | ((with_reducible refine kBs ?_); ((first | refine t_bsA hL rfl rfl ?_ | refine t_bsV hL rfl rfl ?_); clear hL; intro _ _ hL _ hBs))); simp only [Act.put, zq1, zq2, zq3]))
      refine (r_SamePrices _ _ r _ _ hL.vw (hu.le leX) (hv.le leX) HF.out).mono ?_
      rintro e Wc8 ⟨_, mc8, rfl, hE, hMc8, hV, rfl⟩
      replace hL := hL.call hE (by assumption) hV; clear hE hV
      go_wp2_with (first | ((with_reducible refine kAny ?_); go_skip) | (with_reducible refine stA ?_) | ((first | ((with_reducible refine kFd ?_); first | refine t_fda0 rfl rfl ?_ | (refine t_fda rfl rfl ?_; (try simp only [Nat.zero_add, Nat.reduceAdd]))) | ((with_reducible refine kLd ?_); first | refine t_loadR hL rfl rfl ?_ | refine t_loadW hL rfl rfl ?_ | refine t_load2 hL rfl rfl ?_ | refine t_load1 hL rfl rfl ?_ | refine t_loadV hL.vw rfl rfl ?_ | refine t_loadV1 hL.vw rfl rfl ?_) | ((with_reducible refine kSt ?_); first | (refine t_storeR hL rfl rfl rfl ?_; clear hL; intro _ hL; simp only [zq2, zq3] at hL) | ((first | refine t_store hL rfl rfl rfl ?_ | refine t_sts hL rfl rfl rfl ?_ | refine t_sti hL rfl rfl rfl ?_ | refine t_stb hL rfl rfl rfl ?_ | refine t_store1 hL rfl rfl rfl ?_); clear hL; intro _ hL; simp only [splice, zq1, zq2, zq3] at hL)) | ((with_reducible refine kAl ?_); (refine t_alloc hL rfl ?_; clear hL; intro _ _ hL _)) | ((with_reducible refine kBs ?_); ((first | refine t_bsA hL rfl rfl ?_ | refine t_bsV hL rfl rfl ?_); clear hL; intro _ _ hL _ hBs))); simp only [Act.put, zq1, zq2, zq3]))
      refine (k_known _ _ hL.vw).mono ?_
      rintro e Wc9 ⟨_, mc9, rfl, hE, hMc9, hV, rfl⟩
      replace hL := hL.call hE (by assumption) hV; clear hE hV
      go_wp2_with (first | ((with_reducible refine kAny ?_); go_skip) | (with_reducible refine stA ?_) | ((first | ((with_reducible refine kFd ?_); first | refine t_fda0 rfl rfl ?_ | (refine t_fda rfl rfl ?_; (try simp only [Nat.zero_add, Nat.reduceAdd]))) | ((with_reducible refine kLd ?_); first | refine t_loadR hL rfl rfl ?_ | refine t_loadW hL rfl rfl ?_ | refine t_load2 hL rfl rfl ?_ | refine t_load1 hL rfl rfl ?_ | refine t_loadV hL.vw rfl rfl ?_ | refine t_loadV1 hL.vw rfl rfl ?_) | ((with_reducible refine kSt ?_); first | (refine t_storeR hL rfl rfl rfl ?_; clear hL; intro _ hL; simp only [zq2, zq3] at hL) | ((first | refine t_store hL rfl rfl rfl ?_ | refine t_sts hL rfl rfl rfl ?_ | refine t_sti hL rfl rfl rfl ?_ | refine t_stb hL rfl rfl rfl ?_ | refine t_store1 hL rfl rfl rfl ?_); clear hL; intro _ hL; simp only [splice, zq1, zq2, zq3] at hL)) | ((with_reducible refine kAl ?_); (refine t_alloc hL rfl ?_; clear hL; intro _ _ hL _)) | ((with_reducible refine kBs ?_); ((first | refine t_bsA hL rfl rfl ?_ | refine t_bsV hL rfl rfl ?_); clear hL; intro _ _ hL _ hBs))); simp only [Act.put, zq1, zq2, zq3]))
      go_ret
      exact RetV.mk hL rfl
end Go.Proofs.YtmhkmmmompediaaGreat

/- LagrangeMixes: for every input the law returns true, and each argument reads afterwards as it read before. There is no condition. -/
namespace Go.Proofs.YtmhkmmmompediaaGreat
open Go.ChangeShapes Go.WideShapes Go.ChangeAt Go.RowKit

theorem ownK : ownKnob Tryz.prog.godebug = none := by kernel_rfl
theorem laidO : laidOutB Tryz.prog = true := by kernel_rfl
theorem cells_int : Tryz.prog.cellsOf 3 = 1 := by kernel_rfl

set_option maxRecDepth 100000 in
/-- An argument of integers, opened. -/
theorem arg_ints {H : Type} {enc : TypeId × Value → H} {W : World} {base : Nat} {v : Value} {d : DataW H} {p : List MemPlace} (hv : Value.okWide Tryz.prog W .any base 22 v)
    (h : DataW.Trod enc Tryz.prog W 0 (fun _ => true) true 22 v d p) : ∃ A c, ∃ l : List Int, v = .slice A l.length c ∧ Sl W A (l.map I64) := by
  obtain ⟨a0, len, cap, rfl⟩ := okWide_slice Tryz.underlying22 hv
  obtain ⟨fuel, hf⟩ := h
  rcases open_ints Tryz.underlying22 Tryz.underlying3 cells_int hf with ⟨hcs, _⟩ | ⟨a, len', cap', zs, hcs, _, hle, _, hall, _, hcell, _⟩
  · simp [Value.cells] at hcs
    obtain ⟨rfl, rfl, rfl⟩ := hcs
    exact ⟨none, 0, [], rfl, Sl.nil⟩
  · simp [Value.cells] at hcs
    obtain ⟨rfl, rfl, rfl⟩ := hcs
    simp only [if_true] at hall
    have hl : (zs.take len).length = len := by rw [List.length_take]; omega
    refine ⟨some a, cap, zs.take len, by rw [hl], fun h0 => ?_⟩
    have h1 : 0 < zs.length := by simp at h0; omega
    obtain ⟨b, off, rfl, hc⟩ := ints_at hcell h1
    refine ⟨b, off, rfl, World.block_lt_of_cell? W _ (hc 0 h1), fun j u hu => ?_⟩
    rw [List.getElem?_map, List.getElem?_take] at hu
    by_cases hj : j < len
    · rw [if_pos hj] at hu
      have hjz : j < zs.length := by omega
      rw [List.getElem?_eq_getElem hjz] at hu
      simp at hu
      rw [hc j hjz, ← hu, List.getD_eq_getElem?_getD, List.getElem?_eq_getElem hjz]; rfl
    · rw [if_neg hj] at hu; simp at hu

set_option maxRecDepth 100000 in
theorem mixes_lifted (os : Os) (started : os.Started) (H : Type) (enc : TypeId × Value → H) :
    ReturnsInHanded {} Tryz.checked os 5 .any (Rows.lagrangeMixesSpec.pre6 enc Tryz.prog Tryz.f5 Rows.lagrangeMixesRow.domain false) (Rows.lagrangeMixesSpec.post enc Tryz.prog Tryz.f5 false true false false) := by
  refine returnsInHanded_of_change (C := Tryz.checked) ownK started (by kernel_rfl) Tryz.func5
    (ChangeSpec.witness6 (enc := enc) (C := Tryz.checked) false ⟨#[], #[.slice none 0 0, .slice none 0 0, .slice none 0 0, .int .i64 0], []⟩ 8 (by kernel_rfl) (by kernel_rfl) (by kernel_rfl) (by kernel_rfl)) ?_
  intro W base args ds gs before hval0 hW hcnd _
  have hval : ∀ (j : Nat) t v, Tryz.f5.params[j]? = some t → args[j]? = some v → Value.okWide Tryz.prog W .any base t v := hval0
  have hW' := hW
  obtain ⟨p, q, hA0, hV, rfl, hfz, hnd⟩ := hW
  have hA : DataW.TrodAll enc Tryz.prog W 0 (fun _ => true) true Tryz.f5.params.toList args.toList ds p := hA0
  rw [Tryz.params5] at hA hval
  obtain ⟨v0, vs0, d0, ds0, p0, q0, hargs, rfl, rfl, h0, r0⟩ := trodAll_cons hA
  obtain ⟨v1, vs1, d1, ds1, p1, q1, rfl, rfl, rfl, h1, r1⟩ := trodAll_cons r0
  obtain ⟨v2, vs2, d2, ds2, p2, q2, rfl, rfl, rfl, h2, r2⟩ := trodAll_cons r1
  obtain ⟨v3, vs3, d3, ds3, p3, q3, rfl, rfl, rfl, h3, r3⟩ := trodAll_cons r2
  obtain ⟨rfl, rfl, rfl⟩ := trodAll_nil r3
  obtain rfl : args = #[v0, v1, v2, v3] := by cases args; simp_all
  obtain ⟨rfl, rfl⟩ := trodVars_none hV
  obtain ⟨n, rfl, rfl, rfl, wn⟩ := open_int Tryz.underlying3 (hval 3 3 v3 rfl rfl) h3
  obtain ⟨A0, c0, l0, rfl, s0⟩ := arg_ints (hval 0 22 v0 rfl rfl) h0
  obtain ⟨A1, c1, l1, rfl, s1⟩ := arg_ints (hval 1 22 v1 rfl rfl) h1
  obtain ⟨A2, c2, l2, rfl, s2⟩ := arg_ints (hval 2 22 v2 rfl rfl) h2
  clear hA0 hval0 hA r0 r1 r2 r3 hargs
  refine (law_Mixes A0 A1 A2 c0 c1 c2 l0 l1 l2 n W W (Vw.refl W) s0 s1 s2 trivial trivial trivial).mono fun e W' h => ?_
  obtain ⟨_, _, rfl, hE, _, _, rfl⟩ := h
  have hin : ∀ x ∈ p0 ++ (p1 ++ (p2 ++ ([] ++ []))) ++ [], x.block < W.heap.size := fun x hx => hW'.lt x hx
  have st : ∀ {t : TypeId} {v : Value} {d : DataW H} {ps : List MemPlace}, Tryz.prog.readableRec t = true → t < Tryz.prog.types.size → DataW.Trod enc Tryz.prog W 0 (fun _ => true) true t v d ps → (∀ x ∈ ps, x ∈ p0 ++ (p1 ++ (p2 ++ ([] ++ []))) ++ []) →
      DataW.Trod enc Tryz.prog W' 0 (fun b => decide (b < W.heap.size)) true t v d ps := fun hr ht h hx =>
    WideElems.Trod_stays laidO hr ht h (fun x hp => Below.same hE (hin x (hx x hp))) (fun x hp => by simpa using hin x (hx x hp))
  refine ⟨_, rfl, _, _, _, [], _, [], hW', ?_, trodAll_cons_mk (st (by kernel_rfl) (of_decide_eq_true (by kernel_rfl)) h0 ?_) (trodAll_cons_mk (st (by kernel_rfl) (of_decide_eq_true (by kernel_rfl)) h1 ?_) (trodAll_cons_mk (st (by kernel_rfl) (of_decide_eq_true (by kernel_rfl)) h2 ?_) (trodAll_cons_mk (shut_int Tryz.underlying3 wn) trodAll_mk0))), rfl, Below.frame hE _, fun h => by cases h⟩
  · exact trodAll_cons_mk (shut_bool Tryz.underlying4 _) trodAll_mk0
  all_goals (intro x hx; simp [hx])

theorem lagrangeMixes_holds : Rows.LagrangeMixesSaid :=
  OpenClaim.holds_of_wide 5 Tryz.f5 rfl rfl rfl rfl rfl rfl rfl ⟨rfl, rfl, rfl, rfl, rfl⟩ rfl rfl rfl rfl rfl (by kernel_rfl) Tryz.func5 (by kernel_rfl)
    (of_decide_eq_true (by kernel_rfl)) (by unfold Func.isWrapper; first | (rw [if_pos (by decide +kernel)]; kernel_rfl) | (rw [if_neg (by decide +kernel)]; exact ⟨rfl, rfl⟩))
    (fun os started H enc _ => mixes_lifted os started H enc)
#print axioms lagrangeMixes_holds
end Go.Proofs.YtmhkmmmompediaaGreat
