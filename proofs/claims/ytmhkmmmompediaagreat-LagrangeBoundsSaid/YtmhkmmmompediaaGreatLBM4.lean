/- Part 4 of 7 of the proof: the law LagrangeBounds returns true for every input, and its arguments read as before; there is no condition. -/
import Derived.ProofKit
import Derived.OpenShut
import Derived.Test.YtmhkmmmompediaaGreatLBM3
set_option linter.unusedVariables false
set_option linter.unusedSimpArgs false
/- Contract of pairingdata.Column. -/
namespace Go.Proofs.YtmhkmmmompediaaGreat
open Go.RowKit

theorem bt {a b : Int} (h : a = b) : (a == b) = true := by simp [h]
theorem bf {a b : Int} (h : ¬ a = b) : (a == b) = false := by simp [h]

set_option maxRecDepth 100000 in
set_option maxHeartbeats 16000000 in
theorem d_Column (A : Option Addr) (c : Nat) (rs : List Int) (n k : Int) (w m : World) (hV : Vw m w) (hr : IntL m (.slice A rs.length c) rs) (h1 : 1 ≤ rs.length) (h2 : rs.length ≤ 6) (n0 : 0 ≤ n) (n1 : n ≤ 100000) (k0 : 0 ≤ k) (k1 : k ≤ 100000) :
    Calls Tryz.prog 63 #[.slice A rs.length c, .int .i64 n, .int .i64 k] w (RetV w m fun m' r => ColR m' r (colF rs n k)) := by
  generalize hq : rs.length = q at *
  have HQ := Lib.hid hq
  clear hq
  have e1 := i64_and1 k
  have hL := Loc.start hV
  clear hV
  by_cases hk : k % 2 = 1
  case' pos =>
    have b1 := bt hk
    have rd0 : Hid (csAt rs n k 0 = ⟨[(0, true)], [], false⟩) := by show _ = _; simp [csAt, hk]
    clear hk
    go_enter Tryz.func63, Tryz.ntmps63
    go_upto_region 0 with (fail)
    refine wp_region_lit ?_
    refine t_alloc hL rfl ?_; clear hL; intro Wh6 mh6 hL eh6; simp only [Act.put, zq1, zq2, zq3]
    go_wp2_with (first | ((with_reducible refine kAny ?_); go_skip) | (with_reducible refine stA ?_) | ((first | refine tIx ?_ | refine tLd ?_ | ((first | refine tSr ?_ | refine tSt ?_); clear hL; intro _ hL; simp only [splice, zq1, zq2, zq3] at hL) | (refine tAl ?_; clear hL; intro _ _ hL _) | (refine tBs ?_; clear hL; intro _ _ hL _ hBs)); simp only [Act.put, zq1, zq2, zq3]))
    refine goA ?_
    refine wl_append (A := [_]) hL (Row.nil _ _) (wanted_none rfl) rfl ap_Tasks (by omega) rfl rfl (news := [.int .i64 0, .bool true]) rfl ((Blk.sl hBs (n := 2) rfl).le hL.vw.le) rfl (by omega) (by omega) ?_
    clear hL
    intro v1 W2 m2 R2 hL r8 e8
    obtain ⟨A8, c8, rfl, -⟩ := r8.lit
    simp only [List.cons_append, List.nil_append] at hL
    simp only [Act.put, zq1, zq2, zq3, Nat.zero_add]
    go_wp2_with (first | ((with_reducible refine kAny ?_); go_skip) | (with_reducible refine stA ?_) | ((first | refine tIx ?_ | refine tLd ?_ | ((first | refine tSr ?_ | refine tSt ?_); clear hL; intro _ hL; simp only [splice, zq1, zq2, zq3] at hL) | (refine tAl ?_; clear hL; intro _ _ hL _) | (refine tBs ?_; clear hL; intro _ _ hL _ hBs)); simp only [Act.put, zq1, zq2, zq3]))
    have rd : Hid (RowA 111 2 TaskR m2 (.slice A8 1 c8) 1 (csAt rs n k 0).d R2) := by
      show RowA _ _ _ _ _ _ _ _
      rw [rd0.out]
      exact RowA.snoc (R := TaskR) (x := (0, true)) (xs := []) (vs := []) r8 (fun _ h => by cases h) trivial rfl rfl rfl
  case' neg =>
    have b1 := bf hk
    have rd0 : Hid (csAt rs n k 0 = ⟨[], [], false⟩) := by show _ = _; simp [csAt, hk]
    clear hk
    go_enter Tryz.func63, Tryz.ntmps63
    go_upto_region 0 with (fail)
    refine wp_region_lit ?_
    refine t_alloc hL rfl ?_; clear hL; intro Wh6 mh6 hL eh6; simp only [Act.put, zq1, zq2, zq3]
    go_wp2_with (first | ((with_reducible refine kAny ?_); go_skip) | (with_reducible refine stA ?_) | ((first | refine tIx ?_ | refine tLd ?_ | ((first | refine tSr ?_ | refine tSt ?_); clear hL; intro _ hL; simp only [splice, zq1, zq2, zq3] at hL) | (refine tAl ?_; clear hL; intro _ _ hL _) | (refine tBs ?_; clear hL; intro _ _ hL _ hBs)); simp only [Act.put, zq1, zq2, zq3]))
  all_goals
    go_loopw [7, 8, 9, 10] (fun d l s i wr => ∃ (j : Nat) (mm : World) (nd nl : Nat) (Rd Rl : List Lo), j ≤ q ∧ i = .int .i64 j ∧ s = .bool (csAt rs n k j).s ∧ Loc w m wr mm ((w.heap.size, 72, #[.string ⟨#[]⟩, .slice none 0 0, .int .i64 0]) :: (Rl ++ Rd)) ∧ Hid (RowA 111 2 TaskR mm d nd (csAt rs n k j).d Rd) ∧ Hid (RowA 113 1 DutL mm l nl (csAt rs n k j).l Rl)) (fun _ _ _ i _ => q - (intOf i).toNat)
    case atStart =>
      first
      | exact ⟨0, m2, 1, 0, R2, [], Nat.zero_le _, rfl, congrArg (fun c => Value.bool c.s) rd0.out.symm, hL, rd, by rw [rd0.out]; exact RowA.nil⟩
      | exact ⟨0, mh6, 0, 0, [], [], Nat.zero_le _, rfl, congrArg (fun c => Value.bool c.s) rd0.out.symm, hL, by rw [rd0.out]; exact RowA.nil, by rw [rd0.out]; exact RowA.nil⟩
    case round =>
      clear hL
      obtain ⟨j, mm, nd, nl, Rd, Rl, hj, rfl, rfl, hL, rd, rl⟩ := hrel
      have hM := hL.mext
      obtain ⟨A7, c7, rfl, rd1⟩ := rd.out.lit
      obtain ⟨A8, c8, rfl, rl1⟩ := rl.out.lit
      have hnd : nd ≤ 10 := by have := rd1.len; have := csAt_len rs n k j; omega
      have hnl : nl ≤ 10 := by have := rl1.len; have := csAt_len rs n k j; omega
      have RD := Lib.hid rd1
      have RL := Lib.hid rl1
      clear rd rl rd1 rl1
      by_cases hlt : j < q
      · obtain ⟨f0, hf0⟩ := at_some HQ hlt
        obtain ⟨f1, hf1⟩ := at_some (k := q - 1 - j) HQ (by omega)
        obtain ⟨b1, o1, rfl, hc1⟩ := IntL.at_ hr hf0
        obtain ⟨b2, o2, e2, hc2⟩ := IntL.at_ hr hf1
        injection e2 with e2
        injection e2 with e2 e3
        subst e2 e3
        have ex : (q : Int) - 1 - (j : Int) = ((q - 1 - j : Nat) : Int) := by omega
        have e7 := i64_and3 (k / 2)
        have e8 := i64_and1 (n / 2 ^ j)
        have e9 := i64_and2' (k / 16)
        by_cases h7 : k / 2 % 8 = 7
        case' pos =>
          have b7 := bt h7
          have HF : Hid (csF rs k j = f1) := by show _ = _; unfold csF; rw [if_pos h7, HQ.out, List.getD_eq_getElem?_getD, hf1]; rfl
          clear h7 hf0 hf1
          generalize f1 = f at *
          go_upto_region 12 with ((first | ((with_reducible refine kAny ?_); go_skip) | (with_reducible refine stA ?_) | ((first | refine tIx ?_ | refine tLd ?_ | ((first | refine tSr ?_ | refine tSt ?_); clear hL; intro _ hL; simp only [splice, zq1, zq2, zq3] at hL) | (refine tAl ?_; clear hL; intro _ _ hL _) | (refine tBs ?_; clear hL; intro _ _ hL _ hBs)); simp only [Act.put, zq1, zq2, zq3])))
        case' neg =>
          have b7 := bf h7
          have HF : Hid (csF rs k j = f0) := by show _ = _; unfold csF; rw [if_neg h7, List.getD_eq_getElem?_getD, hf0]; rfl
          clear h7 hf0 hf1
          generalize f0 = f at *
          go_upto_region 12 with ((first | ((with_reducible refine kAny ?_); go_skip) | (with_reducible refine stA ?_) | ((first | refine tIx ?_ | refine tLd ?_ | ((first | refine tSr ?_ | refine tSt ?_); clear hL; intro _ hL; simp only [splice, zq1, zq2, zq3] at hL) | (refine tAl ?_; clear hL; intro _ _ hL _) | (refine tBs ?_; clear hL; intro _ _ hL _ hBs)); simp only [Act.put, zq1, zq2, zq3])))
        all_goals
          clear hc1 hc2 ex b7 e7
          by_cases hb : n / 2 ^ j % 2 = 1
          · have b8 := bt hb
            have HB : Hid (csBit n j = true) := by show _ = _; exact decide_eq_true hb
            clear hb
            by_cases hc : k / 16 % 4 = 3
            · have b9 := bt hc
              have HS : Hid (csAt rs n k (j + 1) = ⟨[], (csAt rs n k j).l ++ [(csAt rs n k j).d ++ [(f, false)]], true⟩) := by show _ = _; simp [csAt, csStep, HF.out, HB.out, hc]
              clear hc
              go_wp2_with (first | ((with_reducible refine kAny ?_); go_skip) | (with_reducible refine stA ?_) | ((first | refine tIx ?_ | refine tLd ?_ | ((first | refine tSr ?_ | refine tSt ?_); clear hL; intro _ hL; simp only [splice, zq1, zq2, zq3] at hL) | (refine tAl ?_; clear hL; intro _ _ hL _) | (refine tBs ?_; clear hL; intro _ _ hL _ hBs)); simp only [Act.put, zq1, zq2, zq3]))
              refine goA ?_
              obtain ⟨vs7, r7, z7, y7, l7⟩ := RD.out
              refine wl_append (A := _ :: Rl) hL r7 (wanted_none rfl) rfl ap_Tasks (by omega) rfl rfl (news := [.int .i64 f, .bool false]) rfl ((Blk.sl hBs (n := 2) rfl).le hL.vw.le) rfl (by omega) (by omega) ?_
              clear hL
              intro v1 W2 m2 R2 hL r8 e8
              obtain ⟨A9, c9, rfl, -⟩ := r8.lit
              have rd2 := RowA.snoc (R := TaskR) (m := m2) (x := (f, false)) r8 z7 (y7.mono fun _ _ hv => hv) l7 rfl rfl
              simp only [List.cons_append] at hL
              obtain ⟨m3, hL3, hle3, hdu, -⟩ := RowA.show (A := _ :: Rl) TaskR.mono hL rd2
              replace hle3 : Le mm m3 := Le.trans leX hle3
              clear hL
              have hL := hL3
              clear hL3
              simp only [Act.put, zq1, zq2, zq3]
              go_wp2_with (first | ((with_reducible refine kAny ?_); go_skip) | (with_reducible refine stA ?_) | ((first | refine tIx ?_ | refine tLd ?_ | ((first | refine tSr ?_ | refine tSt ?_); clear hL; intro _ hL; simp only [splice, zq1, zq2, zq3] at hL) | (refine tAl ?_; clear hL; intro _ _ hL _) | (refine tBs ?_; clear hL; intro _ _ hL _ hBs)); simp only [Act.put, zq1, zq2, zq3]))
              refine goA ?_
              obtain ⟨vs8, r9, z9, y9, l9⟩ := RL.out
              refine wl_append (A := [_]) hL r9 (wanted_none rfl) rfl ap_Duties (by omega) rfl rfl (news := [.slice A9 (nd + 1) c9]) rfl ((Blk.sl hBs (n := 1) rfl).le hL.vw.le) rfl (by omega) (by omega) ?_
              clear hL
              intro v2 W4 m4 R4 hL r10 e10
              obtain ⟨A10, c10, rfl, -⟩ := r10.lit
              simp only [List.cons_append, List.nil_append] at hL
              have hle4 : Le m3 m4 := leX
              have rl2 := RowA.snocV (R := DutL) (m := m4) r10 z9 (y9.mono fun v x hv => DutL.mono _ _ _ _ hv (Le.trans hle3 hle4)) l9 rfl rfl (DutL.le hdu hle4)
              simp only [Act.put, zq1, zq2, zq3]
              go_wp2_with (first | ((with_reducible refine kAny ?_); go_skip) | (with_reducible refine stA ?_) | ((first | refine tIx ?_ | refine tLd ?_ | ((first | refine tSr ?_ | refine tSt ?_); clear hL; intro _ hL; simp only [splice, zq1, zq2, zq3] at hL) | (refine tAl ?_; clear hL; intro _ _ hL _) | (refine tBs ?_; clear hL; intro _ _ hL _ hBs)); simp only [Act.put, zq1, zq2, zq3]))
              go_roundw
              case rel => exact ⟨j + 1, m4, 0, nl + 1, [], R4, by omega, by go_num, by rw [HS.out], by rw [List.append_nil]; exact hL, by rw [HS.out]; exact RowA.nil, by rw [HS.out]; exact rl2⟩
              case measure => simp [intOf] <;> omega
            · have b9 := bf hc
              have HS : Hid (csAt rs n k (j + 1) = ⟨(csAt rs n k j).d ++ [(f, false)], (csAt rs n k j).l, true⟩) := by show _ = _; simp [csAt, csStep, HF.out, HB.out, hc]
              clear hc
              go_wp2_with (first | ((with_reducible refine kAny ?_); go_skip) | (with_reducible refine stA ?_) | ((first | refine tIx ?_ | refine tLd ?_ | ((first | refine tSr ?_ | refine tSt ?_); clear hL; intro _ hL; simp only [splice, zq1, zq2, zq3] at hL) | (refine tAl ?_; clear hL; intro _ _ hL _) | (refine tBs ?_; clear hL; intro _ _ hL _ hBs)); simp only [Act.put, zq1, zq2, zq3]))
              refine goA ?_
              obtain ⟨vs7, r7, z7, y7, l7⟩ := RD.out
              refine wl_append (A := _ :: Rl) hL r7 (wanted_none rfl) rfl ap_Tasks (by omega) rfl rfl (news := [.int .i64 f, .bool false]) rfl ((Blk.sl hBs (n := 2) rfl).le hL.vw.le) rfl (by omega) (by omega) ?_
              clear hL
              intro v1 W2 m2 R2 hL r8 e8
              obtain ⟨A9, c9, rfl, -⟩ := r8.lit
              have rd2 := RowA.snoc (R := TaskR) (m := m2) (x := (f, false)) r8 z7 (y7.mono fun _ _ hv => hv) l7 rfl rfl
              simp only [List.cons_append] at hL
              simp only [Act.put, zq1, zq2, zq3]
              go_wp2_with (first | ((with_reducible refine kAny ?_); go_skip) | (with_reducible refine stA ?_) | ((first | refine tIx ?_ | refine tLd ?_ | ((first | refine tSr ?_ | refine tSt ?_); clear hL; intro _ hL; simp only [splice, zq1, zq2, zq3] at hL) | (refine tAl ?_; clear hL; intro _ _ hL _) | (refine tBs ?_; clear hL; intro _ _ hL _ hBs)); simp only [Act.put, zq1, zq2, zq3]))
              go_roundw
              case rel => exact ⟨j + 1, m2, nd + 1, nl, R2, Rl, by omega, by go_num, by rw [HS.out], hL, by rw [HS.out]; exact rd2, by rw [HS.out]; exact RowA.le DutL.mono RL.out leX⟩
              case measure => simp [intOf] <;> omega
          · have b8 := bf hb
            have HS : Hid (csAt rs n k (j + 1) = csAt rs n k j) := by show _ = _; simp [csAt, csStep, csBit, hb]
            clear hb
            go_wp2_with (first | ((with_reducible refine kAny ?_); go_skip) | (with_reducible refine stA ?_) | ((first | refine tIx ?_ | refine tLd ?_ | ((first | refine tSr ?_ | refine tSt ?_); clear hL; intro _ hL; simp only [splice, zq1, zq2, zq3] at hL) | (refine tAl ?_; clear hL; intro _ _ hL _) | (refine tBs ?_; clear hL; intro _ _ hL _ hBs)); simp only [Act.put, zq1, zq2, zq3]))
            go_roundw
            case rel => exact ⟨j + 1, mm, nd, nl, Rd, Rl, by omega, by go_num, by rw [HS.out], hL, by rw [HS.out]; exact RD.out, by rw [HS.out]; exact RL.out⟩
            case measure => simp [intOf] <;> omega
      · obtain rfl : j = q := by omega
        have e6 : n / 64 % (j : Int) = ((n / 64 % j).toNat : Int) := by have := Int.emod_nonneg (n / 64) (b := j) (by omega); omega
        have hi6 : (n / 64 % j).toNat < j := by have := Int.emod_lt_of_pos (n / 64) (b := j) (by omega); omega
        cases hs : (csAt rs n k j).s
        · obtain ⟨f, hf⟩ := at_some HQ hi6
          obtain ⟨b1, o1, rfl, hc1⟩ := IntL.at_ hr hf
          have HD : Hid (csD rs n k = (csAt rs n k j).d ++ [(f, false)]) := by
            show _ = _
            unfold csD
            rw [HQ.out, hs, List.getD_eq_getElem?_getD, hf]; rfl
          have HL : Hid (csL rs n k = (csAt rs n k j).l ++ [(csAt rs n k j).d ++ [(f, false)]]) := by
            show _ = _
            unfold csL
            rw [HD.out, HQ.out, if_pos (by simp)]
          clear hs hf
          generalize (n / 64 % j).toNat = i6 at *
          go_wp2_with (first | ((with_reducible refine kAny ?_); go_skip) | (with_reducible refine stA ?_) | ((first | refine tIx ?_ | refine tLd ?_ | ((first | refine tSr ?_ | refine tSt ?_); clear hL; intro _ hL; simp only [splice, zq1, zq2, zq3] at hL) | (refine tAl ?_; clear hL; intro _ _ hL _) | (refine tBs ?_; clear hL; intro _ _ hL _ hBs)); simp only [Act.put, zq1, zq2, zq3]))
          refine goA ?_
          obtain ⟨vs7, r7, z7, y7, l7⟩ := RD.out
          refine wl_append (A := _ :: Rl) hL r7 (wanted_none rfl) rfl ap_Tasks (by omega) rfl rfl (news := [.int .i64 f, .bool false]) rfl ((Blk.sl hBs (n := 2) rfl).le hL.vw.le) rfl (by omega) (by omega) ?_
          clear hL
          intro v1 W2 m2 R2 hL r8 e8
          obtain ⟨A9, c9, rfl, -⟩ := r8.lit
          have rd2 := RowA.snoc (R := TaskR) (m := m2) (x := (f, false)) r8 z7 (y7.mono fun _ _ hv => hv) l7 rfl rfl
          simp only [List.cons_append] at hL
          obtain ⟨m3, hL3, hle3, hdu, -⟩ := RowA.show (A := _ :: Rl) TaskR.mono hL rd2
          replace hle3 : Le mm m3 := Le.trans leX hle3
          clear hL
          have hL := hL3
          clear hL3
          simp only [Act.put, zq1, zq2, zq3]
          have hp6 : 0 < nd + 1 := by omega
          go_wp2_with (first | ((with_reducible refine kAny ?_); go_skip) | (with_reducible refine stA ?_) | ((first | refine tIx ?_ | refine tLd ?_ | ((first | refine tSr ?_ | refine tSt ?_); clear hL; intro _ hL; simp only [splice, zq1, zq2, zq3] at hL) | (refine tAl ?_; clear hL; intro _ _ hL _) | (refine tBs ?_; clear hL; intro _ _ hL _ hBs)); simp only [Act.put, zq1, zq2, zq3]))
          refine goA ?_
          obtain ⟨vs8, r9, z9, y9, l9⟩ := RL.out
          refine wl_append (A := [_]) hL r9 (wanted_none rfl) rfl ap_Duties (by omega) rfl rfl (news := [.slice A9 (nd + 1) c9]) rfl ((Blk.sl hBs (n := 1) rfl).le hL.vw.le) rfl (by omega) (by omega) ?_
          clear hL
          intro v2 W4 m4 R4 hL r10 e10
          obtain ⟨A10, c10, rfl, -⟩ := r10.lit
          simp only [List.cons_append, List.nil_append] at hL
          have hle4 : Le m3 m4 := leX
          have rl2 := RowA.snocV (R := DutL) (m := m4) r10 z9 (y9.mono fun v x hv => DutL.mono _ _ _ _ hv (Le.trans hle3 hle4)) l9 rfl rfl (DutL.le hdu hle4)
          simp only [Act.put, zq1, zq2, zq3]
          go_wp2_with (first | ((with_reducible refine kAny ?_); go_skip) | (with_reducible refine stA ?_) | ((first | refine tIx ?_ | refine tLd ?_ | ((first | refine tSr ?_ | refine tSt ?_); clear hL; intro _ hL; simp only [splice, zq1, zq2, zq3] at hL) | (refine tAl ?_; clear hL; intro _ _ hL _) | (refine tBs ?_; clear hL; intro _ _ hL _ hBs)); simp only [Act.put, zq1, zq2, zq3]))
          obtain ⟨m5, hL5, hle5, hdl, -⟩ := RowA.show (A := [_]) DutL.mono hL rl2
          refine fin_aggR hL Tryz.results63 rfl rfl loX ag_Col (by exact rfl) hL5 ?_
          refine ⟨_, rfl, ?_⟩
          show DutsL _ _ (csL rs n k)
          rw [HL.out]
          exact hdl
        · by_cases hp6 : 0 < nd
          · have HL : Hid (csL rs n k = (csAt rs n k j).l ++ [(csAt rs n k j).d]) := by
              show _ = _
              have h3 := RD.out.len
              unfold csL csD
              rw [HQ.out, hs, if_pos rfl, if_pos (by omega)]
            clear hs
            obtain ⟨m3, hL3, hle3, hdu, -⟩ := RowA.show (A := _ :: Rl) TaskR.mono hL RD.out
            replace hle3 : Le mm m3 := Le.trans leX hle3
            clear hL
            have hL := hL3
            clear hL3
            go_wp2_with (first | ((with_reducible refine kAny ?_); go_skip) | (with_reducible refine stA ?_) | ((first | refine tIx ?_ | refine tLd ?_ | ((first | refine tSr ?_ | refine tSt ?_); clear hL; intro _ hL; simp only [splice, zq1, zq2, zq3] at hL) | (refine tAl ?_; clear hL; intro _ _ hL _) | (refine tBs ?_; clear hL; intro _ _ hL _ hBs)); simp only [Act.put, zq1, zq2, zq3]))
            refine goA ?_
            obtain ⟨vs8, r9, z9, y9, l9⟩ := RL.out
            refine wl_append (A := [_]) hL r9 (wanted_none rfl) rfl ap_Duties (by omega) rfl rfl (news := [.slice A7 nd c7]) rfl ((Blk.sl hBs (n := 1) rfl).le hL.vw.le) rfl (by omega) (by omega) ?_
            clear hL
            intro v2 W4 m4 R4 hL r10 e10
            obtain ⟨A10, c10, rfl, -⟩ := r10.lit
            simp only [List.cons_append, List.nil_append] at hL
            have hle4 : Le m3 m4 := leX
            have rl2 := RowA.snocV (R := DutL) (m := m4) r10 z9 (y9.mono fun v x hv => DutL.mono _ _ _ _ hv (Le.trans hle3 hle4)) l9 rfl rfl (DutL.le hdu hle4)
            simp only [Act.put, zq1, zq2, zq3]
            go_wp2_with (first | ((with_reducible refine kAny ?_); go_skip) | (with_reducible refine stA ?_) | ((first | refine tIx ?_ | refine tLd ?_ | ((first | refine tSr ?_ | refine tSt ?_); clear hL; intro _ hL; simp only [splice, zq1, zq2, zq3] at hL) | (refine tAl ?_; clear hL; intro _ _ hL _) | (refine tBs ?_; clear hL; intro _ _ hL _ hBs)); simp only [Act.put, zq1, zq2, zq3]))
            obtain ⟨m5, hL5, hle5, hdl, -⟩ := RowA.show (A := [_]) DutL.mono hL rl2
            refine fin_aggR hL Tryz.results63 rfl rfl loX ag_Col (by exact rfl) hL5 ?_
            refine ⟨_, rfl, ?_⟩
            show DutsL _ _ (csL rs n k)
            rw [HL.out]
            exact hdl
          · have HL : Hid (csL rs n k = (csAt rs n k j).l) := by
              show _ = _
              have h3 := RD.out.len
              unfold csL csD
              rw [HQ.out, hs, if_pos rfl, if_neg (by omega)]
            clear hs
            replace hL := hL.less (List.Sublist.cons_cons _ (List.sublist_append_left _ _))
            go_wp2_with (first | ((with_reducible refine kAny ?_); go_skip) | (with_reducible refine stA ?_) | ((first | refine tIx ?_ | refine tLd ?_ | ((first | refine tSr ?_ | refine tSt ?_); clear hL; intro _ hL; simp only [splice, zq1, zq2, zq3] at hL) | (refine tAl ?_; clear hL; intro _ _ hL _) | (refine tBs ?_; clear hL; intro _ _ hL _ hBs)); simp only [Act.put, zq1, zq2, zq3]))
            obtain ⟨m5, hL5, hle5, hdl, -⟩ := RowA.show (A := [_]) DutL.mono hL RL.out
            refine fin_aggR hL Tryz.results63 rfl rfl loX ag_Col (by exact rfl) hL5 ?_
            refine ⟨_, rfl, ?_⟩
            show DutsL _ _ (csL rs n k)
            rw [HL.out]
            exact hdl
end Go.Proofs.YtmhkmmmompediaaGreat

/- What pairingdata.Master builds; small lemmas for its walk. -/
namespace Go.Proofs.YtmhkmmmompediaaGreat
open Go.RowKit

theorem atF_bd (l : List Int) (i : Nat) (h : i ≤ 1000) : 0 ≤ atF l i ∧ atF l i ≤ 70000 := by
  unfold atF
  split
  · omega
  · have : i / l.length ≤ 1000 := Nat.le_trans (Nat.div_le_self _ _) h
    generalize i / l.length = q at *
    omega
theorem atX (l : List Int) (i : Nat) (h : i ≤ 1000) : ∃ a : Int, Hid (atF l i = a) ∧ 0 ≤ a ∧ a ≤ 70000 := ⟨_, rfl, atF_bd l i h⟩
theorem d_AtE (A : Option Addr) (c N : Nat) (l : List Int) (z : Int) (i : Nat) (a : Int) (w m : World) (hV : Vw m w) (h : Sl m A (l.map I64)) (hN : Hid (l.length = N)) (hl : Hid (True)) (e : Hid (atF l i = a)) (hz : z = i) (hi : i ≤ 1000) :
    Calls Tryz.prog 62 #[.slice A N c, .int .i64 z] w (RetV w m fun _ r => r = .int .i64 a) := by
  subst hz
  have := d_At A c l i w m hV h hi
  rwa [hN.out, e.out] at this

def rowsT : List (List Int) := [[0, 1, 2], [1, 2, 4], [0, 1, 2, 3], [0, 2, 3, 5], [0, 1, 2, 3, 4], [1, 2, 3, 4, 5]]
def rowsF (l : List Int) : List Int := rowsT.getD (atF l 1 % 6).toNat []
def colsG (rs l : List Int) (n : Nat) : List Col := (List.range n).map fun j => colF rs (atF l (5 + 2 * j)) (atF l (6 + 2 * j))
def cutG (rs : List Int) (sk : Nat) (j : Nat) : Option Int := if j ≠ sk ∨ rs.length = 3 then rs[j]? else none
def cutT (rs : List Int) (sk i : Nat) : List Int := (List.range i).filterMap (cutG rs sk)
def cutF (rs l : List Int) (k : Nat) : Cut := (cutT rs (atF l (20 + k) % rs.length).toNat rs.length, if atF l (24 + k) % 2 = 1 then 3 else 2)
def cutsG (rs l : List Int) (n : Nat) : List Cut := (List.range n).map (cutF rs l)
theorem range_snoc {α : Type} (f : Nat → α) (n : Nat) : (List.range (n + 1)).map f = (List.range n).map f ++ [f n] := by rw [List.range_succ, List.map_append]; rfl
theorem cutT_in {rs : List Int} {sk i : Nat} {f : Int} (h : rs[i]? = some f) (hc : i ≠ sk ∨ rs.length = 3) : cutT rs sk (i + 1) = cutT rs sk i ++ [f] := by
  unfold cutT
  rw [List.range_succ, List.filterMap_append]
  simp [cutG, hc, h]
theorem cutT_out {rs : List Int} {sk i : Nat} (hc : ¬ (i ≠ sk ∨ rs.length = 3)) : cutT rs sk (i + 1) = cutT rs sk i := by
  unfold cutT
  rw [List.range_succ, List.filterMap_append]
  simp [cutG, hc]
theorem cutT_len (rs : List Int) (sk i : Nat) : (cutT rs sk i).length ≤ i := by
  unfold cutT
  exact Nat.le_trans (List.length_filterMap_le _ _) (by simp)
theorem rowsT_len : ∀ i : Fin 6, 3 ≤ (rowsT.getD i.1 []).length ∧ (rowsT.getD i.1 []).length ≤ 5 := by decide
theorem cutT_long : ∀ i : Fin 6, ∀ s : Fin 5, s.1 < (rowsT.getD i.1 []).length → 2 < (cutT (rowsT.getD i.1 []) s.1 (rowsT.getD i.1 []).length).length := by decide

theorem IntL.ofBlk {m : World} {g : Nat} {e : TypeId} (xs : List Int) (h : Blk m g e (xs.map I64).toArray) : IntL m (.slice (some ⟨g, 0, none⟩) xs.length xs.length) xs := by
  refine ListV.mk (vs := xs.map I64) (Nat.le_refl _) (by simp) (fun u hu => ?_) ?_ ?_
  · obtain ⟨x, _, rfl⟩ := List.mem_map.1 hu; rfl
  · refine Blk.sl h (n := xs.length) ?_
    rw [List.take_of_length_le (by simp)]
    exact ih' xs
  · exact all2 xs
  where
  ih' : ∀ xs : List Int, xs.map I64 = cellsOf (xs.map I64)
    | [] => rfl
    | x :: xs => congrArg (I64 x :: ·) (ih' xs)
  all2 : ∀ xs : List Int, All2 (IsI m) (xs.map I64) xs
    | [] => trivial
    | x :: xs => ⟨rfl, all2 xs⟩
theorem cellsOf_ints : ∀ xs : List Int, cellsOf (xs.map I64) = xs.map I64
  | [] => rfl
  | x :: xs => congrArg (I64 x :: ·) (cellsOf_ints xs)
theorem all2_ints {m : World} : ∀ {vs : List Value} {xs : List Int}, All2 (IsI m) vs xs → vs = xs.map I64
  | [], [], _ => rfl
  | v :: vs, x :: xs, h => by rw [h.1, all2_ints h.2]; rfl
  | [], _ :: _, h => h.elim
  | _ :: _, [], h => h.elim
theorem IntL.sl {m : World} {A : Option Addr} {n c : Nat} {xs : List Int} (h : IntL m (.slice A n c) xs) : Sl m A (xs.map I64) := by
  obtain ⟨A', c', vs, e, hc, h1, h2, h3⟩ := h
  injection e with e1 e2 e3
  subst e1
  have := all2_ints h3
  subst this
  rwa [cellsOf_ints] at h2
theorem all2_of_ints (m : World) : ∀ xs : List Int, All2 (IsI m) (xs.map I64) xs
  | [] => trivial
  | x :: xs => ⟨rfl, all2_of_ints m xs⟩
theorem IntL.ofSl {m : World} {A : Option Addr} {n c : Nat} {xs : List Int} (h : Sl m A (xs.map I64)) (hn : xs.length = n) (hc : n ≤ c) : IntL m (.slice A n c) xs := by
  refine ListV.mk (vs := xs.map I64) hc (by simpa using hn) (fun u hu => ?_) ?_ (all2_of_ints m xs)
  · obtain ⟨x, _, rfl⟩ := List.mem_map.1 hu; rfl
  · rwa [cellsOf_ints]
abbrev IntLL := ListV (α := List Int) 1 IntL
theorem IntL.mono (m m' : World) (v : Value) (x : List Int) (h : IntL m v x) (hb : Le m m') : IntL m' v x := IntL.le h hb
theorem IntLL.at_ {m : World} {A : Option Addr} {n c : Nat} {xs : List (List Int)} (h : IntLL m (.slice A n c) xs) {k : Nat} {x : List Int} (hk : xs[k]? = some x) :
    ∃ b off B d, A = some ⟨b, off, none⟩ ∧ IntL m (.slice B x.length d) x ∧ m.cell? ⟨b, off + k, none⟩ = some (.slice B x.length d) := by
  obtain ⟨b, off, v, e, hv, _, hr⟩ := ListV.at_ h (by omega) hk
  obtain ⟨B, d, rfl, _, hv⟩ := hv.lit
  exact ⟨b, off, B, d, e, hv, by simpa using hr 0 _ rfl⟩
theorem rowsT_get (i : Nat) (h : i < 6) : rowsT[i]? = some (rowsT.getD i []) := by
  have : i < rowsT.length := h
  rw [List.getD_eq_getElem?_getD, List.getElem?_eq_getElem this]; rfl
theorem ColR.lit {m : World} {v : Value} {x : Col} (h : ColR m v x) : ∃ b A n c z, v = .agg #[.string b, .slice A n c, .int .i64 z] ∧ ColR m (.agg #[.string b, .slice A n c, .int .i64 z]) x := by
  have h' := h
  obtain ⟨s, rfl, hs⟩ := h
  obtain ⟨A, c, rfl, _, _⟩ := hs.lit
  exact ⟨_, _, _, _, _, rfl, h'⟩
theorem ints_one (rs : List Int) : (rs.map I64).all (·.oneCell') = true := by
  rw [List.all_map, List.all_eq_true]; intro x _; rfl
theorem d_ColumnE (A : Option Addr) (c q : Nat) (rs : List Int) (n k : Int) (w m : World) (hV : Vw m w) (hr : IntL m (.slice A q c) rs) (hq : Hid (rs.length = q)) (h1 : 1 ≤ q) (h2 : q ≤ 6) (n0 : 0 ≤ n) (n1 : n ≤ 100000) (k0 : 0 ≤ k) (k1 : k ≤ 100000) :
    Calls Tryz.prog 63 #[.slice A q c, .int .i64 n, .int .i64 k] w (RetV w m fun m' r => ColR m' r (colF rs n k)) := by
  obtain rfl := hq.out
  exact d_Column A c rs n k w m hV hr h1 h2 n0 n1 k0 k1
theorem colsG_snoc (rs l : List Int) (j : Nat) {a b : Int} (ha : Hid (atF l (5 + 2 * j) = a)) (hb : Hid (atF l (6 + 2 * j) = b)) : colsG rs l j ++ [colF rs a b] = colsG rs l (j + 1) := by
  unfold colsG
  rw [range_snoc, ha.out, hb.out]
theorem cutsG_snoc (rs l : List Int) (k sk q : Nat) {a b : Int} (hq : Hid (rs.length = q)) (ha : Hid (atF l (20 + k) = a)) (hb : Hid (atF l (24 + k) = b)) (hs : (sk : Int) = a % q) (d : Int) (hd : d = if b % 2 = 1 then 3 else 2) :
    cutsG rs l k ++ [(cutT rs sk q, d)] = cutsG rs l (k + 1) := by
  unfold cutsG
  rw [range_snoc]
  unfold cutF
  rw [ha.out, hb.out, hq.out, ← hs, hd]; rfl
structure Ms where
  nf : Int
  rows : List Int
  pen : Int
  cols : List Col
  cuts : List Cut
def MasterR (m : World) (v : Value) (x : Ms) : Prop := ∃ a b c, v = .agg #[.int .i64 x.nf, a, .int .i64 x.pen, b, c] ∧ IntL m a x.rows ∧ ColL m b x.cols ∧ CutL m c x.cuts
theorem MasterR.le {m m' : World} {v : Value} {x : Ms} (h : MasterR m v x) (hb : Le m m') : MasterR m' v x := by
  obtain ⟨a, b, c, e, h1, h2, h3⟩ := h
  exact ⟨a, b, c, e, IntL.le h1 hb, ColL.le h2 hb, CutL.le h3 hb⟩
def masF (l : List Int) : Ms := ⟨6, rowsF l, atF l 0 % 30, colsG (rowsF l) l (atF l 2 % 7).toNat, cutsG (rowsF l) l (atF l 3 % 3).toNat⟩
end Go.Proofs.YtmhkmmmompediaaGreat

/- Contract of pairingdata.Master. -/
namespace Go.Proofs.YtmhkmmmompediaaGreat
open Go.RowKit

theorem CutR.mono' (m m' : World) (v : Value) (x : Cut) (h : CutR m v x) (hb : Le m m') : CutR m' v x := h.le hb
theorem IsI.mono (m m' : World) (v : Value) (x : Int) (h : IsI m v x) (_ : Le m m') : IsI m' v x := h

set_option maxRecDepth 100000 in
set_option maxHeartbeats 32000000 in
theorem d_Master (A : Option Addr) (c : Nat) (l : List Int) (w m : World) (hV : Vw m w) (h : Sl m A (l.map I64)) (hl : True) :
    Calls Tryz.prog 15 #[.slice A l.length c] w (RetV w m fun m' r => MasterR m' r (masF l)) := by
  have HL := Lib.hid hl
  clear hl
  generalize hN : l.length = N
  have HN := Lib.hid hN
  clear hN
  obtain ⟨a0, E0, p0, p0'⟩ := atX l 0 (by omega)
  obtain ⟨a1, E1, p1, p1'⟩ := atX l 1 (by omega)
  obtain ⟨a2, E2, p2, p2'⟩ := atX l 2 (by omega)
  obtain ⟨a3, E3, p3, p3'⟩ := atX l 3 (by omega)
  have hL := Loc.start hV
  clear hV
  go_enter Tryz.func15, Tryz.ntmps15
  go_upto_region 0 with (fail)
  refine wp_region_lit ?_
  refine t_alloc hL rfl ?_; clear hL; intro Wh2 mh2 hL eh2; simp only [Act.put, zq1, zq2, zq3]
  go_wp2_with (first | ((with_reducible refine kAny ?_); go_skip) | (with_reducible refine stA ?_) | ((first | refine tIx ?_ | refine tFd ?_ | refine tLd ?_ | ((first | refine tSr ?_ | refine tSt ?_); clear hL; intro _ hL; simp only [splice, zq1, zq2, zq3] at hL) | (refine tAl ?_; clear hL; intro _ _ hL _) | (refine tBs ?_; clear hL; intro _ _ hL _ hBs)); simp only [Act.put, zq1, zq2, zq3]))
  refine (d_AtE _ _ _ l _ 0 a0 _ _ hL.vw (h.le leX) HN HL E0 rfl (by omega)).mono ?_
  rintro e Wc0 ⟨_, mc0, rfl, hE, hMc0, hV, rfl⟩
  replace hL := hL.call hE (by assumption) hV; clear hE hV
  go_upto_region 2 with ((first | ((with_reducible refine kAny ?_); go_skip) | (with_reducible refine stA ?_) | ((first | refine tIx ?_ | refine tFd ?_ | refine tLd ?_ | ((first | refine tSr ?_ | refine tSt ?_); clear hL; intro _ hL; simp only [splice, zq1, zq2, zq3] at hL) | (refine tAl ?_; clear hL; intro _ _ hL _) | (refine tBs ?_; clear hL; intro _ _ hL _ hBs)); simp only [Act.put, zq1, zq2, zq3])))
  refine wp_region_lit ?_
  rename_i W0 _ _
  refine wl_bslice hL (wanted_none rfl) rfl (n := 3) (cs := #[.int .i64 0, .int .i64 1, .int .i64 2]) (e := 3) (fun w => by go_simp) ?_
  clear hL
  intro Wa ma hL ea hab
  simp only [Act.put, zq1, zq2, zq3]
  refine wl_bslice hL (wanted_none rfl) rfl (n := 3) (cs := #[.int .i64 1, .int .i64 2, .int .i64 4]) (e := 3) (fun w => by go_simp) ?_
  clear hL
  intro Wb mb hL eb hbb
  simp only [Act.put, zq1, zq2, zq3]
  refine wl_bslice hL (wanted_none rfl) rfl (n := 4) (cs := #[.int .i64 0, .int .i64 1, .int .i64 2, .int .i64 3]) (e := 3) (fun w => by go_simp) ?_
  clear hL
  intro Wc mc hL ec hcb
  simp only [Act.put, zq1, zq2, zq3]
  refine wl_bslice hL (wanted_none rfl) rfl (n := 4) (cs := #[.int .i64 0, .int .i64 2, .int .i64 3, .int .i64 5]) (e := 3) (fun w => by go_simp) ?_
  clear hL
  intro Wd md hL ed hdb
  simp only [Act.put, zq1, zq2, zq3]
  refine wl_bslice hL (wanted_none rfl) rfl (n := 5) (cs := #[.int .i64 0, .int .i64 1, .int .i64 2, .int .i64 3, .int .i64 4]) (e := 3) (fun w => by go_simp) ?_
  clear hL
  intro We me hL ee heb
  simp only [Act.put, zq1, zq2, zq3]
  refine wl_bslice hL (wanted_none rfl) rfl (n := 5) (cs := #[.int .i64 1, .int .i64 2, .int .i64 3, .int .i64 4, .int .i64 5]) (e := 3) (fun w => by go_simp) ?_
  clear hL
  intro Wf mf hL ef hfb
  simp only [Act.put, zq1, zq2, zq3]
  refine wl_bslice hL (wanted_none rfl) rfl (n := 6) (cs := #[.slice (some ⟨W0.heap.size, 0, none⟩) 3 3, .slice (some ⟨Wa.heap.size, 0, none⟩) 3 3, .slice (some ⟨Wb.heap.size, 0, none⟩) 4 4, .slice (some ⟨Wc.heap.size, 0, none⟩) 4 4, .slice (some ⟨Wd.heap.size, 0, none⟩) 5 5, .slice (some ⟨We.heap.size, 0, none⟩) 5 5]) (e := 22) (fun w => by go_simp) ?_
  clear hL
  intro Wg mg hL eg hgb
  simp only [Act.put, zq1, zq2, zq3]
  have hrows : IntLL mg (.slice (some ⟨Wf.heap.size, 0, none⟩) 6 6) rowsT := ListV.mk (vs := [.slice (some ⟨W0.heap.size, 0, none⟩) 3 3, .slice (some ⟨Wa.heap.size, 0, none⟩) 3 3, .slice (some ⟨Wb.heap.size, 0, none⟩) 4 4, .slice (some ⟨Wc.heap.size, 0, none⟩) 4 4, .slice (some ⟨Wd.heap.size, 0, none⟩) 5 5, .slice (some ⟨We.heap.size, 0, none⟩) 5 5]) (by omega) rfl (fun u hu => by simp at hu; rcases hu with rfl | rfl | rfl | rfl | rfl | rfl <;> rfl) (Blk.sl hgb (n := 6) rfl)
    ⟨IntL.le (IntL.ofBlk [0, 1, 2] hab) leX, IntL.le (IntL.ofBlk [1, 2, 4] hbb) leX, IntL.le (IntL.ofBlk [0, 1, 2, 3] hcb) leX, IntL.le (IntL.ofBlk [0, 2, 3, 5] hdb) leX, IntL.le (IntL.ofBlk [0, 1, 2, 3, 4] heb) leX, IntL.le (IntL.ofBlk [1, 2, 3, 4, 5] hfb) leX, trivial⟩
  clear hab hbb hcb hdb heb hfb hgb
  go_wp2_with (first | ((with_reducible refine kAny ?_); go_skip) | (with_reducible refine stA ?_) | ((first | refine tIx ?_ | refine tFd ?_ | refine tLd ?_ | ((first | refine tSr ?_ | refine tSt ?_); clear hL; intro _ hL; simp only [splice, zq1, zq2, zq3] at hL) | (refine tAl ?_; clear hL; intro _ _ hL _) | (refine tBs ?_; clear hL; intro _ _ hL _ hBs)); simp only [Act.put, zq1, zq2, zq3]))
  refine (d_AtE _ _ _ l _ 1 a1 _ _ hL.vw (h.le leX) HN HL E1 rfl (by omega)).mono ?_
  rintro e Wc1 ⟨_, mc1, rfl, hE, hMc1, hV, rfl⟩
  replace hL := hL.call hE (by assumption) hV; clear hE hV
  have hi1 : (a1 % 6).toNat < 6 := by omega
  have e6 : a1 % 6 = ((a1 % 6).toNat : Int) := by omega
  have HR : Hid (rowsF l = rowsT.getD (a1 % 6).toNat []) := by show _ = _; unfold rowsF; rw [E1.out]
  obtain ⟨h3, h5⟩ := rowsT_len ⟨_, hi1⟩
  have HC : Hid (∀ s : Nat, s < (rowsT.getD (a1 % 6).toNat []).length → 2 < (cutT (rowsT.getD (a1 % 6).toNat []) s (rowsT.getD (a1 % 6).toNat []).length).length) := by
    show ∀ s : Nat, _
    intro s hs
    exact cutT_long ⟨_, hi1⟩ ⟨s, by simp only at h5; omega⟩ hs
  obtain ⟨b6, o6, A4, c4, e, hrs, hc6⟩ := IntLL.at_ hrows (rowsT_get _ hi1)
  injection e with e
  injection e with e e'
  subst e e'
  simp only at h3 h5
  simp only [Nat.zero_add] at hc6
  generalize rowsT.getD (a1 % 6).toNat [] = rs at *
  generalize (a1 % 6).toNat = i1 at *
  generalize hq : rs.length = q at *
  have HQ := Lib.hid hq
  clear hq hrows
  go_wp2_with (first | ((with_reducible refine kAny ?_); go_skip) | (with_reducible refine stA ?_) | ((first | refine tIx ?_ | refine tFd ?_ | refine tLd ?_ | ((first | refine tSr ?_ | refine tSt ?_); clear hL; intro _ hL; simp only [splice, zq1, zq2, zq3] at hL) | (refine tAl ?_; clear hL; intro _ _ hL _) | (refine tBs ?_; clear hL; intro _ _ hL _ hBs)); simp only [Act.put, zq1, zq2, zq3]))
  refine goA ?_
  refine wl_append (A := [_, _]) hL (Row.nil _ _) (wanted_none rfl) rfl ap_ints (by omega) rfl rfl (news := rs.map I64) (by simp [HQ.out]) ((IntL.sl (IntL.le hrs leX)).le hL.vw.le) (ints_one rs) (by omega) (by omega) ?_
  clear hL
  intro v1 W4 m4 R4 hL r4 e4
  obtain ⟨m5, A5, c5, hL5, hle5, rfl, hc5, hs5, -⟩ := Loc.show (A := [_, _]) hL r4
  simp only [Nat.zero_add, List.nil_append] at hc5 hs5
  have hrw : IntL m5 (.slice A5 q c5) rs := IntL.ofSl hs5 HQ.out hc5
  have hrs5 : IntL m5 (.slice A4 q c4) rs := IntL.le hrs (Le.trans leX hle5)
  clear hL hs5 hrs hc6
  have hL := hL5
  clear hL5 hle5
  have e7 : a2 % 7 = ((a2 % 7).toNat : Int) := by omega
  have E2' : Hid ((atF l 2 % 7).toNat = (a2 % 7).toNat) := by show _ = _; rw [E2.out]
  have hJ : (a2 % 7).toNat ≤ 6 := by omega
  generalize (a2 % 7).toNat = J at *
  have e3' : a3 % 3 = ((a3 % 3).toNat : Int) := by omega
  have E3' : Hid ((atF l 3 % 3).toNat = (a3 % 3).toNat) := by show _ = _; rw [E3.out]
  have hK : (a3 % 3).toNat ≤ 2 := by omega
  generalize (a3 % 3).toNat = K at *
  clear e6 hi1
  simp only [Act.put, zq1, zq2, zq3, Nat.zero_add]
  go_wp2_with (first | ((with_reducible refine kAny ?_); go_skip) | (with_reducible refine stA ?_) | ((first | refine tIx ?_ | refine tFd ?_ | refine tLd ?_ | ((first | refine tSr ?_ | refine tSt ?_); clear hL; intro _ hL; simp only [splice, zq1, zq2, zq3] at hL) | (refine tAl ?_; clear hL; intro _ _ hL _) | (refine tBs ?_; clear hL; intro _ _ hL _ hBs)); simp only [Act.put, zq1, zq2, zq3]))
  go_loopw [5] (fun i wr => ∃ (j : Nat) (mm : World) (A7 : Option Addr) (c7 : Nat) (Rr : List Lo), j ≤ J ∧ i = .int .i64 j ∧ Loc w m wr mm ((Wc0.heap.size, 26, #[.int .i64 6, .slice A5 q c5, .int .i64 (a0 % 30), .slice A7 j c7, .slice none 0 0]) :: (w.heap.size, 26, #[.int .i64 0, .slice none 0 0, .int .i64 0, .slice none 0 0, .slice none 0 0]) :: Rr) ∧ Hid (RowA 72 3 ColR mm (.slice A7 j c7) j (colsG rs l j) Rr) ∧ Ext m5 mm) (fun i _ => J - (intOf i).toNat)
  case atStart => exact ⟨0, m5, none, 0, [], Nat.zero_le _, rfl, hL, RowA.nil, Ext.refl _⟩
  case round =>
    clear hL
    obtain ⟨j, mm, A7, c7, Rr, hj, rfl, hL, rr, hX⟩ := hrel
    have hM := hL.mext
    have hA := h.le hM.le
    have hrs6 := IntL.le hrs5 hX.le
    have hrw6 := IntL.le hrw hX.le
    have HX := Lib.hid hX
    clear hX hM
    go_wp2_with (first | ((with_reducible refine kAny ?_); go_skip) | (with_reducible refine stA ?_) | ((first | refine tIx ?_ | refine tFd ?_ | refine tLd ?_ | ((first | refine tSr ?_ | refine tSt ?_); clear hL; intro _ hL; simp only [splice, zq1, zq2, zq3] at hL) | (refine tAl ?_; clear hL; intro _ _ hL _) | (refine tBs ?_; clear hL; intro _ _ hL _ hBs)); simp only [Act.put, zq1, zq2, zq3]))
    refine (d_AtE _ _ _ l _ 2 a2 _ _ hL.vw (hA.le leX) HN HL E2 rfl (by omega)).mono ?_
    rintro e Wc2 ⟨_, mc2, rfl, hE, hMc2, hV, rfl⟩
    replace hL := hL.call hE (by assumption) hV; clear hE hV
    by_cases hlt : j < J
    · obtain ⟨a5, E5, p5, p5'⟩ := atX l (5 + 2 * j) (by omega)
      obtain ⟨a6, E6, p6, p6'⟩ := atX l (6 + 2 * j) (by omega)
      go_upto_region 7 with ((first | ((with_reducible refine kAny ?_); go_skip) | (with_reducible refine stA ?_) | ((first | refine tIx ?_ | refine tFd ?_ | refine tLd ?_ | ((first | refine tSr ?_ | refine tSt ?_); clear hL; intro _ hL; simp only [splice, zq1, zq2, zq3] at hL) | (refine tAl ?_; clear hL; intro _ _ hL _) | (refine tBs ?_; clear hL; intro _ _ hL _ hBs)); simp only [Act.put, zq1, zq2, zq3])))
      clear e7 e3'
      (try simp only [eq_self] at *)
      refine wp_region_by2 15 [false, false, false, false, false, false, false, false, false, false, false, false, false, false, false] [false, false, false, false, false, false, false, false, false, false, false, false, false, false, false] [(fun v _ _ => v = ?c7_0), (fun v _ _ => v = ?c7_1), (fun v _ _ => v = ?c7_2), (fun v _ _ => v = ?c7_3), (fun v _ _ => v = ?c7_4), (fun v _ _ => v = ?c7_5), (fun v _ _ => v = ?c7_6), Is (.int .i64 a5), (fun v _ _ => v = ?c7_8), (fun v _ _ => v = ?c7_9), (fun v _ _ => v = ?c7_10), (fun v _ _ => v = ?c7_11), Is (.int .i64 a6), Of (fun um v => ColR um v (colF rs a5 a6)), (NewS1 72 (fun um v => ColR um v (colF rs a5 a6)))] hL.vw mixed [38, 39, 40, 41, 42, 43, 44, 45, 46, 47, 48, 49, 50, 51, 52] _ (by kernel_rfl) (fun vs => by simp only [lay, Act.put, zq1, zq2, zq3]; rfl) (by kernel_rfl) (by decide) (by decide) ?s7 ?l7 ?r7
      case s7 =>
        refine ⟨?_, ?_, ?_, ?_, ?_, ?_, ?_, ?_, ?_, ?_, ?_, ?_, ?_, ?_, ?_, trivial⟩
        · intro vs W1 m1 hE hM hV hD; clear hD; replace hL := hL.call hE hM hV
          exact sFd
        · intro vs W1 m1 hE hM hV hD; obtain ⟨⟨_, _, -, -, f38⟩, -⟩ := hD; have f38 : vs 38 = _ := f38; generalize vs 38 = x38 at f38 ⊢; subst x38; replace hL := hL.call hE hM hV
          exact sLd
        · intro vs W1 m1 hE hM hV hD; clear hD; replace hL := hL.call hE hM hV
          exact sPu
        · intro vs W1 m1 hE hM hV hD; clear hD; replace hL := hL.call hE hM hV
          exact sPu
        · intro vs W1 m1 hE hM hV hD; clear hD; replace hL := hL.call hE hM hV
          exact sPu
        · intro vs W1 m1 hE hM hV hD; obtain ⟨⟨_, _, -, -, f42⟩, -⟩ := hD; have f42 : vs 42 = _ := f42; generalize vs 42 = x42 at f42 ⊢; subst x42; replace hL := hL.call hE hM hV
          exact sPu
        · intro vs W1 m1 hE hM hV hD; obtain ⟨⟨_, _, -, -, f43⟩, -⟩ := hD; have f43 : vs 43 = _ := f43; generalize vs 43 = x43 at f43 ⊢; subst x43; replace hL := hL.call hE hM hV
          exact sPu
        · intro vs W1 m1 hE hM hV hD; obtain ⟨⟨_, _, -, -, f41⟩, ⟨_, _, -, -, f44⟩, -⟩ := hD; have f41 : vs 41 = _ := f41; generalize vs 41 = x41 at f41 ⊢; subst x41; have f44 : vs 44 = _ := f44; generalize vs 44 = x44 at f44 ⊢; subst x44
          go_wp2_with fail
          refine (d_AtE _ _ _ l _ (5 + 2 * j) a5 _ _ hV (hA.le leX) HN HL E5 (by omega) (by omega)).mono ?_
          rintro e W2 ⟨v, m2, rfl, hE2, hM2, hV2, h⟩
          go_wp2_with fail
          refine One2.call hE2 hM2 hV2 ?_; first | exact h | exact rfl
        · intro vs W1 m1 hE hM hV hD; clear hD; replace hL := hL.call hE hM hV
          exact sPu
        · intro vs W1 m1 hE hM hV hD; clear hD; replace hL := hL.call hE hM hV
          exact sPu
        · intro vs W1 m1 hE hM hV hD; obtain ⟨⟨_, _, -, -, f47⟩, -⟩ := hD; have f47 : vs 47 = _ := f47; generalize vs 47 = x47 at f47 ⊢; subst x47; replace hL := hL.call hE hM hV
          exact sPu
        · intro vs W1 m1 hE hM hV hD; obtain ⟨⟨_, _, -, -, f48⟩, -⟩ := hD; have f48 : vs 48 = _ := f48; generalize vs 48 = x48 at f48 ⊢; subst x48; replace hL := hL.call hE hM hV
          exact sPu
        · intro vs W1 m1 hE hM hV hD; obtain ⟨⟨_, _, -, -, f46⟩, ⟨_, _, -, -, f49⟩, -, -⟩ := hD; have f46 : vs 46 = _ := f46; generalize vs 46 = x46 at f46 ⊢; subst x46; have f49 : vs 49 = _ := f49; generalize vs 49 = x49 at f49 ⊢; subst x49
          go_wp2_with fail
          refine (d_AtE _ _ _ l _ (6 + 2 * j) a6 _ _ hV (hA.le leX) HN HL E6 (by omega) (by omega)).mono ?_
          rintro e W2 ⟨v, m2, rfl, hE2, hM2, hV2, h⟩
          go_wp2_with fail
          refine One2.call hE2 hM2 hV2 ?_; first | exact h | exact rfl
        · intro vs W1 m1 hE hM hV hD; obtain ⟨⟨_, _, -, -, f40⟩, ⟨_, _, -, -, f45⟩, ⟨_, _, -, -, f50⟩, -, -⟩ := hD; have f40 : vs 40 = _ := f40; generalize vs 40 = x40 at f40 ⊢; subst x40; have f45 : vs 45 = _ := f45; generalize vs 45 = x45 at f45 ⊢; subst x45; have f50 : vs 50 = _ := f50; generalize vs 50 = x50 at f50 ⊢; subst x50
          go_wp2_with fail
          refine (d_ColumnE _ _ q rs a5 a6 _ _ hV (IntL.le hrs6 leX) HQ (by omega) (by omega) p5 (by omega) p6 (by omega)).mono ?_
          rintro e W2 ⟨v, m2, rfl, hE2, hM2, hV2, h⟩
          go_wp2_with fail
          refine One2.call hE2 hM2 hV2 ?_; first | exact h | exact rfl
        · intro vs W1 m1 hE hM hV hD; obtain ⟨⟨_, _, -, i51, f51⟩, -⟩ := hD; have f51 : ColR _ (vs 51) (colF rs a5 a6) := f51; replace f51 := f51.le i51.le; clear i51
          (obtain ⟨b9, A9, n9, c9, z9, e9, f9⟩ := f51.lit; generalize vs 51 = x9 at e9 ⊢; subst x9; go_wp2_with fail; exact one2_s1 hV fun m' h => f9.le h.le)
      case l7 =>
        refine ⟨fun h => (by cases h), fun h => (by cases h), fun h => (by cases h), fun h => (by cases h), fun h => (by cases h), fun h => (by cases h), fun h => (by cases h), fun h => (by cases h), fun h => (by cases h), fun h => (by cases h), fun h => (by cases h), fun h => (by cases h), fun h => (by cases h), fun h => (by cases h), fun h => (by cases h), trivial⟩
      intro vs W1 m1 hE hM hV hF hD
      clear hD
      obtain ⟨-, ⟨_, _, -, -, f39⟩, -, -, -, -, -, -, -, -, -, -, -, ⟨_, _, -, i51, f51⟩, ⟨_, _, j52, i52, f52⟩, -⟩ := hF
      replace hL := hL.call hE hM hV
      have f39 : vs 39 = _ := f39
      generalize vs 39 = x39 at f39 ⊢
      subst x39
      replace f51 : ColR _ (vs 51) (colF rs a5 a6) := f51
      replace f51 := f51.le i51.le
      clear i51
      clear hE hV
      obtain ⟨g15, cs15, e15, q15, f15⟩ := f52
      generalize vs 52 = x15 at e15 ⊢
      subst x15
      replace q15 := q15.ext j52
      have f16 : ColR _ (.agg cs15) (colF rs a5 a6) := f15
      replace f16 := f16.le i52.le
      clear f15 i52 j52
      obtain ⟨b9, A9, n9, c9, z9, e9, f16⟩ := f16.lit
      injection e9 with e9
      subst e9
      simp only [List.drop_succ_cons, List.drop_zero]
      obtain ⟨vs7, r7, z7, y7, l7⟩ := rr.out
      refine wl_append (A := [_, _]) hL r7 (wanted_none rfl) rfl ap_Cols (by omega) rfl rfl (news := [.string b9, .slice A9 n9 c9, .int .i64 z9]) rfl (Blk.sl q15 (n := 3) rfl) rfl (by omega) (by omega) ?_
      clear hL
      intro v1 W2 m2 R2 hL r8 e8
      obtain ⟨A8, c8, rfl, -⟩ := r8.lit
      simp only [List.cons_append, List.nil_append] at hL
      simp only [Act.put, zq1, zq2, zq3]
      go_wp2_with (first | ((with_reducible refine kAny ?_); go_skip) | (with_reducible refine stA ?_) | ((first | refine tIx ?_ | refine tFd ?_ | refine tLd ?_ | ((first | refine tSr ?_ | refine tSt ?_); clear hL; intro _ hL; simp only [splice, zq1, zq2, zq3] at hL) | (refine tAl ?_; clear hL; intro _ _ hL _) | (refine tBs ?_; clear hL; intro _ _ hL _ hBs)); simp only [Act.put, zq1, zq2, zq3]))
      refine QN.mk ?_
      go_wp2_with (first | ((with_reducible refine kAny ?_); go_skip) | (with_reducible refine stA ?_) | ((first | refine tIx ?_ | refine tFd ?_ | refine tLd ?_ | ((first | refine tSr ?_ | refine tSt ?_); clear hL; intro _ hL; simp only [splice, zq1, zq2, zq3] at hL) | (refine tAl ?_; clear hL; intro _ _ hL _) | (refine tBs ?_; clear hL; intro _ _ hL _ hBs)); simp only [Act.put, zq1, zq2, zq3]))
      go_roundw
      case rel =>
        refine ⟨j + 1, _, _, _, _, by omega, by go_num, hL, ?_, ?_⟩
        · have hq := RowA.snoc (R := ColR) r8 z7 (y7.mono fun v x hv => hv.le (leX : Le mm m2)) l7 rfl (f16.le e8.le)
          rwa [colsG_snoc rs l j E5 E6] at hq
        · exact HX.out.trans (exX : Ext mm m2)
      case measure => simp [intOf] <;> omega
    · obtain rfl : j = J := by omega
      have rr2 : Hid (RowA 72 3 ColR mc2 (.slice A7 j c7) j (colsG rs l j) Rr) := RowA.le ColR.mono rr.out leX
      have hrs7 := IntL.le hrs6 (leX : Le mm mc2)
      have hrw7 := IntL.le hrw6 (leX : Le mm mc2)
      clear rr hrs6 hrw6 hA hrs5 hrw
      go_wp2_with (first | ((with_reducible refine kAny ?_); go_skip) | (with_reducible refine stA ?_) | ((first | refine tIx ?_ | refine tFd ?_ | refine tLd ?_ | ((first | refine tSr ?_ | refine tSt ?_); clear hL; intro _ hL; simp only [splice, zq1, zq2, zq3] at hL) | (refine tAl ?_; clear hL; intro _ _ hL _) | (refine tBs ?_; clear hL; intro _ _ hL _ hBs)); simp only [Act.put, zq1, zq2, zq3]))
      clear hlt hj
      obtain ⟨m6, hL6, hle6, hcl, -⟩ := RowA.show (A := [_, _]) ColR.mono hL rr2.out
      replace hrs7 := IntL.le hrs7 hle6
      replace hrw7 := IntL.le hrw7 hle6
      clear hL rr2 hle6 e7
      go_loopw [6] (fun i wr => ∃ (k : Nat) (mm : World) (A8 : Option Addr) (c8 : Nat) (Rr : List Lo), k ≤ K ∧ i = .int .i64 k ∧ Loc w m wr mm ((Wc0.heap.size, 26, #[.int .i64 6, .slice A5 q c5, .int .i64 (a0 % 30), .slice A7 j c7, .slice A8 k c8]) :: (w.heap.size, 26, #[.int .i64 0, .slice none 0 0, .int .i64 0, .slice none 0 0, .slice none 0 0]) :: Rr) ∧ Hid (RowA 34 2 CutR mm (.slice A8 k c8) k (cutsG rs l k) Rr) ∧ Hid (ColL mm (.slice A7 j c7) (colsG rs l j)) ∧ Hid (IntL mm (.slice A5 q c5) rs) ∧ Hid (IntL mm (.slice A4 q c4) rs)) (fun i _ => K - (intOf i).toNat)
      case atStart => exact ⟨0, m6, none, 0, [], Nat.zero_le _, rfl, hL6, RowA.nil, hcl, hrw7, hrs7⟩
      case round =>
        clear hL6 hcl hrs7 hrw7
        obtain ⟨k, mm, A8, c8, Rr, hk, rfl, hL, RC, hcl, hrw, hrs⟩ := hrel
        have hM := hL.mext
        have hA := h.le hM.le
        clear hM
        go_wp2_with (first | ((with_reducible refine kAny ?_); go_skip) | (with_reducible refine stA ?_) | ((first | refine tIx ?_ | refine tFd ?_ | refine tLd ?_ | ((first | refine tSr ?_ | refine tSt ?_); clear hL; intro _ hL; simp only [splice, zq1, zq2, zq3] at hL) | (refine tAl ?_; clear hL; intro _ _ hL _) | (refine tBs ?_; clear hL; intro _ _ hL _ hBs)); simp only [Act.put, zq1, zq2, zq3]))
        refine (d_AtE _ _ _ l _ 3 a3 _ _ hL.vw (hA.le leX) HN HL E3 rfl (by omega)).mono ?_
        rintro e Wc3 ⟨_, mc3, rfl, hE, hMc3, hV, rfl⟩
        replace hL := hL.call hE (by assumption) hV; clear hE hV
        by_cases hlt : k < K
        · obtain ⟨a20, E20, p20, p20'⟩ := atX l (20 + k) (by omega)
          obtain ⟨a24, E24, p24, p24'⟩ := atX l (24 + k) (by omega)
          have e20 : a20 % (q : Int) = ((a20 % q).toNat : Int) := by have := Int.emod_nonneg a20 (b := q) (by omega); omega
          have hsk : (a20 % q).toNat < q := by have := Int.emod_lt_of_pos a20 (b := q) (by omega); omega
          generalize (a20 % q).toNat = sk at *
          have HS20 : Hid ((sk : Int) = a20 % q) := e20.symm
          have hlong : 2 < (cutT rs sk q).length := HC.out sk hsk
          go_wp2_with (first | ((with_reducible refine kAny ?_); go_skip) | (with_reducible refine stA ?_) | ((first | refine tIx ?_ | refine tFd ?_ | refine tLd ?_ | ((first | refine tSr ?_ | refine tSt ?_); clear hL; intro _ hL; simp only [splice, zq1, zq2, zq3] at hL) | (refine tAl ?_; clear hL; intro _ _ hL _) | (refine tBs ?_; clear hL; intro _ _ hL _ hBs)); simp only [Act.put, zq1, zq2, zq3]))
          refine (d_AtE _ _ _ l _ (20 + k) a20 _ _ hL.vw (hA.le leX) HN HL E20 (by omega) (by omega)).mono ?_
          rintro e Wc4 ⟨_, mc4, rfl, hE, hMc4, hV, rfl⟩
          replace hL := hL.call hE (by assumption) hV; clear hE hV
          have hrs4 := IntL.le hrs.out (leX : Le mm mc4)
          have RC4 : Hid (RowA 34 2 CutR mc4 (.slice A8 k c8) k (cutsG rs l k) Rr) := RowA.le CutR.mono' RC.out leX
          have hcl4 : Hid (ColL mc4 (.slice A7 j c7) (colsG rs l j)) := ColL.le hcl.out leX
          have hrw4 : Hid (IntL mc4 (.slice A5 q c5) rs) := IntL.le hrw.out leX
          clear RC hcl hrw hrs
          go_wp2_with (first | ((with_reducible refine kAny ?_); go_skip) | (with_reducible refine stA ?_) | ((first | refine tIx ?_ | refine tFd ?_ | refine tLd ?_ | ((first | refine tSr ?_ | refine tSt ?_); clear hL; intro _ hL; simp only [splice, zq1, zq2, zq3] at hL) | (refine tAl ?_; clear hL; intro _ _ hL _) | (refine tBs ?_; clear hL; intro _ _ hL _ hBs)); simp only [Act.put, zq1, zq2, zq3]))
          go_loopw [9] (fun i wr => ∃ (i9 : Nat) (m3 : World) (A9 : Option Addr) (n9 c9 : Nat) (Rx : List Lo), i9 ≤ q ∧ i = .int .i64 i9 ∧ Loc w m wr m3 ((Wc3.heap.size, 34, #[.slice A9 n9 c9, .int .i64 2]) :: (Wc0.heap.size, 26, #[.int .i64 6, .slice A5 q c5, .int .i64 (a0 % 30), .slice A7 j c7, .slice A8 k c8]) :: (w.heap.size, 26, #[.int .i64 0, .slice none 0 0, .int .i64 0, .slice none 0 0, .slice none 0 0]) :: (Rr ++ Rx)) ∧ Hid (RowA 3 1 IsI m3 (.slice A9 n9 c9) n9 (cutT rs sk i9) Rx) ∧ Ext mc4 m3) (fun i _ => q - (intOf i).toNat)
          case atStart => exact ⟨0, mc4, none, 0, 0, [], Nat.zero_le _, rfl, by rw [List.append_nil]; exact hL, RowA.nil, Ext.refl _⟩
          case round =>
            clear hL
            obtain ⟨i9, m3, A9, n9, c9, Rx, hi9, rfl, hL, rx, hX⟩ := hrel
            have hrs3 := IntL.le hrs4 hX.le
            have HX9 := Lib.hid hX
            have hn9 : n9 ≤ i9 := by have := rx.out.len; have := cutT_len rs sk i9; omega
            clear hX
            by_cases hlt3 : i9 < q
            · obtain ⟨f, hf⟩ := at_some HQ hlt3
              obtain ⟨b1, o1, rfl, hc1⟩ := IntL.at_ hrs3 hf
              by_cases hs : i9 = sk
              · have bs : ((i9 : Int) != (sk : Int)) = false := by simp [hs]
                by_cases hq3 : q = 3
                · have bq : ((q : Int) == 3) = true := by simp [hq3]
                  have HT : Hid (cutT rs sk (i9 + 1) = cutT rs sk i9 ++ [f]) := by show _ = _; exact cutT_in hf (.inr (by rw [HQ.out]; exact hq3))
                  clear hs hq3 hf
                  go_upto_region 17 with ((first | ((with_reducible refine kAny ?_); go_skip) | (with_reducible refine stA ?_) | ((first | refine tIx ?_ | refine tFd ?_ | refine tLd ?_ | ((first | refine tSr ?_ | refine tSt ?_); clear hL; intro _ hL; simp only [splice, zq1, zq2, zq3] at hL) | (refine tAl ?_; clear hL; intro _ _ hL _) | (refine tBs ?_; clear hL; intro _ _ hL _ hBs)); simp only [Act.put, zq1, zq2, zq3])))
                  clear e3' e20
                  (try simp only [eq_self] at *)
                  refine wp_region_by2 7 [false, false, false, false, false, false, false] [false, false, false, false, false, false, false] [(fun v _ _ => v = ?c17_0a), (fun v _ _ => v = ?c17_1a), (fun v _ _ => v = ?c17_2a), (fun v _ _ => v = ?c17_3a), (fun v _ _ => v = ?c17_4a), (fun v _ _ => v = ?c17_5a), (NewS1 3 (fun _ v => v = .agg #[.int .i64 f]))] hL.vw mixed [84, 85, 86, 87, 88, 89, 90] _ (by kernel_rfl) (fun vs => by simp only [lay, Act.put, zq1, zq2, zq3]; rfl) (by kernel_rfl) (by decide) (by decide) ?s17a ?l17a ?r17a
                  case s17a =>
                    refine ⟨?_, ?_, ?_, ?_, ?_, ?_, ?_, trivial⟩
                    · intro vs W1 m1 hE hM hV hD; clear hD; replace hL := hL.call hE hM hV
                      exact sFd
                    · intro vs W1 m1 hE hM hV hD; obtain ⟨⟨_, _, -, -, f84⟩, -⟩ := hD; have f84 : vs 84 = _ := f84; generalize vs 84 = x84 at f84 ⊢; subst x84; replace hL := hL.call hE hM hV
                      exact sLd
                    · intro vs W1 m1 hE hM hV hD; clear hD; replace hL := hL.call hE hM hV
                      exact sPu
                    · intro vs W1 m1 hE hM hV hD; clear hD; replace hL := hL.call hE hM hV
                      exact sPu
                    · intro vs W1 m1 hE hM hV hD; obtain ⟨⟨_, _, -, -, f86⟩, ⟨_, _, -, -, f87⟩, -⟩ := hD; have f86 : vs 86 = _ := f86; generalize vs 86 = x86 at f86 ⊢; subst x86; have f87 : vs 87 = _ := f87; generalize vs 87 = x87 at f87 ⊢; subst x87; replace hL := hL.call hE hM hV
                      exact sIx
                    · intro vs W1 m1 hE hM hV hD; obtain ⟨⟨_, _, -, -, f88⟩, -⟩ := hD; have f88 : vs 88 = _ := f88; generalize vs 88 = x88 at f88 ⊢; subst x88; replace hL := hL.call hE hM hV
                      exact sLd
                    · intro vs W1 m1 hE hM hV hD; obtain ⟨⟨_, _, -, -, f89⟩, -⟩ := hD; have f89 : vs 89 = _ := f89; generalize vs 89 = x89 at f89 ⊢; subst x89
                      (go_wp2_with fail; exact one2_s1 hV fun _ _ => rfl)
                  case l17a =>
                    refine ⟨fun h => (by cases h), fun h => (by cases h), fun h => (by cases h), fun h => (by cases h), fun h => (by cases h), fun h => (by cases h), fun h => (by cases h), trivial⟩
                  intro vs W1 m1 hE hM hV hF hD
                  clear hD
                  obtain ⟨-, ⟨_, _, -, -, f85⟩, -, -, -, -, ⟨_, _, j90, i90, f90⟩, -⟩ := hF
                  replace hL := hL.call hE hM hV
                  have f85 : vs 85 = _ := f85
                  generalize vs 85 = x85 at f85 ⊢
                  subst x85
                  clear hE hV
                  obtain ⟨g15, cs15, e15, q15, f15⟩ := f90
                  generalize vs 90 = x15 at e15 ⊢
                  subst x15
                  replace q15 := q15.ext j90
                  have f16 : Value.agg cs15 = .agg #[.int .i64 f] := f15
                  injection f16 with f16
                  subst f16
                  clear f15 i90 j90
                  simp only [List.drop_succ_cons, List.drop_zero]
                  obtain ⟨vs7, r7, z7, y7, l7⟩ := rx.out
                  refine wl_append (A := _ :: _ :: _ :: Rr) hL r7 (wanted_none rfl) rfl ap_ints (by omega) rfl rfl (news := [.int .i64 f]) rfl (Blk.sl q15 (n := 1) rfl) rfl (by omega) (by omega) ?_
                  clear hL
                  intro v1 W2 m2 R2 hL r8 e8
                  obtain ⟨A11, c11, rfl, -⟩ := r8.lit
                  simp only [List.cons_append] at hL
                  have rx2 := RowA.snocV (R := IsI) (m := m2) (x := f) r8 z7 (y7.mono fun _ _ h => h) l7 rfl rfl rfl
                  rw [← HT.out] at rx2
                  have RX2 := Lib.hid rx2
                  clear rx2 r7 z7 y7 l7 r8
                  simp only [Act.put, zq1, zq2, zq3]
                  go_wp2_with (first | ((with_reducible refine kAny ?_); go_skip) | (with_reducible refine stA ?_) | ((first | refine tIx ?_ | refine tFd ?_ | refine tLd ?_ | ((first | refine tSr ?_ | refine tSt ?_); clear hL; intro _ hL; simp only [splice, zq1, zq2, zq3] at hL) | (refine tAl ?_; clear hL; intro _ _ hL _) | (refine tBs ?_; clear hL; intro _ _ hL _ hBs)); simp only [Act.put, zq1, zq2, zq3]))
                  refine QN.mk ?_
                  go_wp2_with (first | ((with_reducible refine kAny ?_); go_skip) | (with_reducible refine stA ?_) | ((first | refine tIx ?_ | refine tFd ?_ | refine tLd ?_ | ((first | refine tSr ?_ | refine tSt ?_); clear hL; intro _ hL; simp only [splice, zq1, zq2, zq3] at hL) | (refine tAl ?_; clear hL; intro _ _ hL _) | (refine tBs ?_; clear hL; intro _ _ hL _ hBs)); simp only [Act.put, zq1, zq2, zq3]))
                  go_roundw
                  case rel => exact ⟨i9 + 1, m2, A11, n9 + 1, c11, R2, by omega, by go_num, hL, RX2.out, HX9.out.trans (exX : Ext m3 m2)⟩
                  case measure => simp [intOf] <;> omega
                · have bq : ((q : Int) == 3) = false := by simp; omega
                  have HT : Hid (cutT rs sk (i9 + 1) = cutT rs sk i9) := by show _ = _; exact cutT_out (by rw [HQ.out]; omega)
                  clear hs hq3 hf
                  go_wp2_with (first | ((with_reducible refine kAny ?_); go_skip) | (with_reducible refine stA ?_) | ((first | refine tIx ?_ | refine tFd ?_ | refine tLd ?_ | ((first | refine tSr ?_ | refine tSt ?_); clear hL; intro _ hL; simp only [splice, zq1, zq2, zq3] at hL) | (refine tAl ?_; clear hL; intro _ _ hL _) | (refine tBs ?_; clear hL; intro _ _ hL _ hBs)); simp only [Act.put, zq1, zq2, zq3]))
                  go_roundw
                  case rel => exact ⟨i9 + 1, m3, A9, n9, c9, Rx, by omega, by go_num, hL, by rw [HT.out]; exact rx.out, HX9.out⟩
                  case measure => simp [intOf] <;> omega
              · have bs : ((i9 : Int) != (sk : Int)) = true := by simp; omega
                have HT : Hid (cutT rs sk (i9 + 1) = cutT rs sk i9 ++ [f]) := by show _ = _; exact cutT_in hf (.inl hs)
                clear hs hf
                go_upto_region 17 with ((first | ((with_reducible refine kAny ?_); go_skip) | (with_reducible refine stA ?_) | ((first | refine tIx ?_ | refine tFd ?_ | refine tLd ?_ | ((first | refine tSr ?_ | refine tSt ?_); clear hL; intro _ hL; simp only [splice, zq1, zq2, zq3] at hL) | (refine tAl ?_; clear hL; intro _ _ hL _) | (refine tBs ?_; clear hL; intro _ _ hL _ hBs)); simp only [Act.put, zq1, zq2, zq3])))
                clear e3' e20
                (try simp only [eq_self] at *)
                refine wp_region_by2 7 [false, false, false, false, false, false, false] [false, false, false, false, false, false, false] [(fun v _ _ => v = ?c17_0b), (fun v _ _ => v = ?c17_1b), (fun v _ _ => v = ?c17_2b), (fun v _ _ => v = ?c17_3b), (fun v _ _ => v = ?c17_4b), (fun v _ _ => v = ?c17_5b), (NewS1 3 (fun _ v => v = .agg #[.int .i64 f]))] hL.vw mixed [84, 85, 86, 87, 88, 89, 90] _ (by kernel_rfl) (fun vs => by simp only [lay, Act.put, zq1, zq2, zq3]; rfl) (by kernel_rfl) (by decide) (by decide) ?s17b ?l17b ?r17b
                case s17b =>
                  refine ⟨?_, ?_, ?_, ?_, ?_, ?_, ?_, trivial⟩
                  · intro vs W1 m1 hE hM hV hD; clear hD; replace hL := hL.call hE hM hV
                    exact sFd
                  · intro vs W1 m1 hE hM hV hD; obtain ⟨⟨_, _, -, -, f84⟩, -⟩ := hD; have f84 : vs 84 = _ := f84; generalize vs 84 = x84 at f84 ⊢; subst x84; replace hL := hL.call hE hM hV
                    exact sLd
                  · intro vs W1 m1 hE hM hV hD; clear hD; replace hL := hL.call hE hM hV
                    exact sPu
                  · intro vs W1 m1 hE hM hV hD; clear hD; replace hL := hL.call hE hM hV
                    exact sPu
                  · intro vs W1 m1 hE hM hV hD; obtain ⟨⟨_, _, -, -, f86⟩, ⟨_, _, -, -, f87⟩, -⟩ := hD; have f86 : vs 86 = _ := f86; generalize vs 86 = x86 at f86 ⊢; subst x86; have f87 : vs 87 = _ := f87; generalize vs 87 = x87 at f87 ⊢; subst x87; replace hL := hL.call hE hM hV
                    exact sIx
                  · intro vs W1 m1 hE hM hV hD; obtain ⟨⟨_, _, -, -, f88⟩, -⟩ := hD; have f88 : vs 88 = _ := f88; generalize vs 88 = x88 at f88 ⊢; subst x88; replace hL := hL.call hE hM hV
                    exact sLd
                  · intro vs W1 m1 hE hM hV hD; obtain ⟨⟨_, _, -, -, f89⟩, -⟩ := hD; have f89 : vs 89 = _ := f89; generalize vs 89 = x89 at f89 ⊢; subst x89
                    (go_wp2_with fail; exact one2_s1 hV fun _ _ => rfl)
                case l17b =>
                  refine ⟨fun h => (by cases h), fun h => (by cases h), fun h => (by cases h), fun h => (by cases h), fun h => (by cases h), fun h => (by cases h), fun h => (by cases h), trivial⟩
                intro vs W1 m1 hE hM hV hF hD
                clear hD
                obtain ⟨-, ⟨_, _, -, -, f85⟩, -, -, -, -, ⟨_, _, j90, i90, f90⟩, -⟩ := hF
                replace hL := hL.call hE hM hV
                have f85 : vs 85 = _ := f85
                generalize vs 85 = x85 at f85 ⊢
                subst x85
                clear hE hV
                obtain ⟨g15, cs15, e15, q15, f15⟩ := f90
                generalize vs 90 = x15 at e15 ⊢
                subst x15
                replace q15 := q15.ext j90
                have f16 : Value.agg cs15 = .agg #[.int .i64 f] := f15
                injection f16 with f16
                subst f16
                clear f15 i90 j90
                simp only [List.drop_succ_cons, List.drop_zero]
                obtain ⟨vs7, r7, z7, y7, l7⟩ := rx.out
                refine wl_append (A := _ :: _ :: _ :: Rr) hL r7 (wanted_none rfl) rfl ap_ints (by omega) rfl rfl (news := [.int .i64 f]) rfl (Blk.sl q15 (n := 1) rfl) rfl (by omega) (by omega) ?_
                clear hL
                intro v1 W2 m2 R2 hL r8 e8
                obtain ⟨A11, c11, rfl, -⟩ := r8.lit
                simp only [List.cons_append] at hL
                have rx2 := RowA.snocV (R := IsI) (m := m2) (x := f) r8 z7 (y7.mono fun _ _ h => h) l7 rfl rfl rfl
                rw [← HT.out] at rx2
                have RX2 := Lib.hid rx2
                clear rx2 r7 z7 y7 l7 r8
                simp only [Act.put, zq1, zq2, zq3]
                go_wp2_with (first | ((with_reducible refine kAny ?_); go_skip) | (with_reducible refine stA ?_) | ((first | refine tIx ?_ | refine tFd ?_ | refine tLd ?_ | ((first | refine tSr ?_ | refine tSt ?_); clear hL; intro _ hL; simp only [splice, zq1, zq2, zq3] at hL) | (refine tAl ?_; clear hL; intro _ _ hL _) | (refine tBs ?_; clear hL; intro _ _ hL _ hBs)); simp only [Act.put, zq1, zq2, zq3]))
                refine QN.mk ?_
                go_wp2_with (first | ((with_reducible refine kAny ?_); go_skip) | (with_reducible refine stA ?_) | ((first | refine tIx ?_ | refine tFd ?_ | refine tLd ?_ | ((first | refine tSr ?_ | refine tSt ?_); clear hL; intro _ hL; simp only [splice, zq1, zq2, zq3] at hL) | (refine tAl ?_; clear hL; intro _ _ hL _) | (refine tBs ?_; clear hL; intro _ _ hL _ hBs)); simp only [Act.put, zq1, zq2, zq3]))
                go_roundw
                case rel => exact ⟨i9 + 1, m2, A11, n9 + 1, c11, R2, by omega, by go_num, hL, RX2.out, HX9.out.trans (exX : Ext m3 m2)⟩
                case measure => simp [intOf] <;> omega
            · obtain rfl : q = i9 := by omega
              obtain ⟨m7, hL7, hle7, hil, -⟩ := RowA.show (A := _ :: _ :: _ :: Rr) IsI.mono hL rx.out
              have hle47 : Le mc4 m7 := Le.trans HX9.out.le hle7
              have hn2 : 2 < n9 := by rw [rx.out.len]; exact hlong
              clear hL hlt3
              have hL := hL7
              clear hL7
              have hA7 := h.le hL.mext.le
              clear hA
              by_cases ha : a24 % 2 = 1
              · have bA := bt ha
                have HD : Hid ((3 : Int) = if a24 % 2 = 1 then 3 else 2) := by show _ = _; rw [if_pos ha]
                clear ha
                go_wp2_with (first | ((with_reducible refine kAny ?_); go_skip) | (with_reducible refine stA ?_) | ((first | refine tIx ?_ | refine tFd ?_ | refine tLd ?_ | ((first | refine tSr ?_ | refine tSt ?_); clear hL; intro _ hL; simp only [splice, zq1, zq2, zq3] at hL) | (refine tAl ?_; clear hL; intro _ _ hL _) | (refine tBs ?_; clear hL; intro _ _ hL _ hBs)); simp only [Act.put, zq1, zq2, zq3]))
                refine (d_AtE _ _ _ l _ (24 + k) a24 _ _ hL.vw (hA7.le leX) HN HL E24 (by omega) (by omega)).mono ?_
                rintro e Wc5 ⟨_, mc5, rfl, hE, hMc5, hV, rfl⟩
                replace hL := hL.call hE (by assumption) hV; clear hE hV
                have RC5 : Hid (RowA 34 2 CutR mc5 (.slice A8 k c8) k (cutsG rs l k) Rr) := RowA.le CutR.mono' RC4.out (Le.trans hle47 leX)
                have hcl5 := ColL.le hcl4.out (Le.trans hle47 (leX : Le m7 mc5))
                have hrw5 := IntL.le hrw4.out (Le.trans hle47 (leX : Le m7 mc5))
                have hrs5 := IntL.le hrs4 (Le.trans hle47 (leX : Le m7 mc5))
                have hil5 := IntL.le hil (leX : Le m7 mc5)
                clear RC4 hcl4 hrw4 hrs4 hil hrs3 rx
                go_wp2_with (first | ((with_reducible refine kAny ?_); go_skip) | (with_reducible refine stA ?_) | ((first | refine tIx ?_ | refine tFd ?_ | refine tLd ?_ | ((first | refine tSr ?_ | refine tSt ?_); clear hL; intro _ hL; simp only [splice, zq1, zq2, zq3] at hL) | (refine tAl ?_; clear hL; intro _ _ hL _) | (refine tBs ?_; clear hL; intro _ _ hL _ hBs)); simp only [Act.put, zq1, zq2, zq3]))
                refine goA ?_
                obtain ⟨vs8, r8, z8, y8, l8⟩ := RC5.out
                refine wl_append (A := [_, _, _]) hL r8 (wanted_none rfl) rfl ap_Cuts (by omega) rfl rfl (news := [.slice A9 n9 c9, .int .i64 3]) rfl ((Blk.sl hBs (n := 2) rfl).le hL.vw.le) rfl (by omega) (by omega) ?_
                clear hL
                intro v9 W9 m9 R9 hL r9 e9
                obtain ⟨A10, c10, rfl, -⟩ := r9.lit
                simp only [List.cons_append, List.nil_append] at hL
                have hle9 : Le mc5 m9 := leX
                have rc9 := RowA.snoc (R := CutR) (m := m9) (x := (cutT rs sk q, 3)) r9 z8 (y8.mono fun v x hv => CutR.le hv hle9) l8 rfl ⟨_, rfl, IntL.le hil5 hle9, Nat.le_trans (cutT_len rs sk q) (by omega)⟩
                rw [cutsG_snoc rs l k sk q HQ E20 E24 HS20.out _ HD.out] at rc9
                have RC9 := Lib.hid rc9
                have HC9 := Lib.hid (ColL.le hcl5 hle9)
                have HW9 := Lib.hid (IntL.le hrw5 hle9)
                have HR9 := Lib.hid (IntL.le hrs5 hle9)
                clear rc9 r8 z8 y8 l8 r9 hcl5 hrw5 hrs5 hil5 RC5
                simp only [Act.put, zq1, zq2, zq3]
                go_wp2_with (first | ((with_reducible refine kAny ?_); go_skip) | (with_reducible refine stA ?_) | ((first | refine tIx ?_ | refine tFd ?_ | refine tLd ?_ | ((first | refine tSr ?_ | refine tSt ?_); clear hL; intro _ hL; simp only [splice, zq1, zq2, zq3] at hL) | (refine tAl ?_; clear hL; intro _ _ hL _) | (refine tBs ?_; clear hL; intro _ _ hL _ hBs)); simp only [Act.put, zq1, zq2, zq3]))
                go_roundw
                case rel => exact ⟨k + 1, m9, A10, c10, R9, by omega, by go_num, hL.tail, RC9.out, HC9.out, HW9.out, HR9.out⟩
                case measure => simp [intOf] <;> omega
              · have bA := bf ha
                have HD : Hid ((2 : Int) = if a24 % 2 = 1 then 3 else 2) := by show _ = _; rw [if_neg ha]
                clear ha
                go_wp2_with (first | ((with_reducible refine kAny ?_); go_skip) | (with_reducible refine stA ?_) | ((first | refine tIx ?_ | refine tFd ?_ | refine tLd ?_ | ((first | refine tSr ?_ | refine tSt ?_); clear hL; intro _ hL; simp only [splice, zq1, zq2, zq3] at hL) | (refine tAl ?_; clear hL; intro _ _ hL _) | (refine tBs ?_; clear hL; intro _ _ hL _ hBs)); simp only [Act.put, zq1, zq2, zq3]))
                refine (d_AtE _ _ _ l _ (24 + k) a24 _ _ hL.vw (hA7.le leX) HN HL E24 (by omega) (by omega)).mono ?_
                rintro e Wc5 ⟨_, mc5, rfl, hE, hMc5, hV, rfl⟩
                replace hL := hL.call hE (by assumption) hV; clear hE hV
                have RC5 : Hid (RowA 34 2 CutR mc5 (.slice A8 k c8) k (cutsG rs l k) Rr) := RowA.le CutR.mono' RC4.out (Le.trans hle47 leX)
                have hcl5 := ColL.le hcl4.out (Le.trans hle47 (leX : Le m7 mc5))
                have hrw5 := IntL.le hrw4.out (Le.trans hle47 (leX : Le m7 mc5))
                have hrs5 := IntL.le hrs4 (Le.trans hle47 (leX : Le m7 mc5))
                have hil5 := IntL.le hil (leX : Le m7 mc5)
                clear RC4 hcl4 hrw4 hrs4 hil hrs3 rx
                go_wp2_with (first | ((with_reducible refine kAny ?_); go_skip) | (with_reducible refine stA ?_) | ((first | refine tIx ?_ | refine tFd ?_ | refine tLd ?_ | ((first | refine tSr ?_ | refine tSt ?_); clear hL; intro _ hL; simp only [splice, zq1, zq2, zq3] at hL) | (refine tAl ?_; clear hL; intro _ _ hL _) | (refine tBs ?_; clear hL; intro _ _ hL _ hBs)); simp only [Act.put, zq1, zq2, zq3]))
                refine goA ?_
                obtain ⟨vs8, r8, z8, y8, l8⟩ := RC5.out
                refine wl_append (A := [_, _, _]) hL r8 (wanted_none rfl) rfl ap_Cuts (by omega) rfl rfl (news := [.slice A9 n9 c9, .int .i64 2]) rfl ((Blk.sl hBs (n := 2) rfl).le hL.vw.le) rfl (by omega) (by omega) ?_
                clear hL
                intro v9 W9 m9 R9 hL r9 e9
                obtain ⟨A10, c10, rfl, -⟩ := r9.lit
                simp only [List.cons_append, List.nil_append] at hL
                have hle9 : Le mc5 m9 := leX
                have rc9 := RowA.snoc (R := CutR) (m := m9) (x := (cutT rs sk q, 2)) r9 z8 (y8.mono fun v x hv => CutR.le hv hle9) l8 rfl ⟨_, rfl, IntL.le hil5 hle9, Nat.le_trans (cutT_len rs sk q) (by omega)⟩
                rw [cutsG_snoc rs l k sk q HQ E20 E24 HS20.out _ HD.out] at rc9
                have RC9 := Lib.hid rc9
                have HC9 := Lib.hid (ColL.le hcl5 hle9)
                have HW9 := Lib.hid (IntL.le hrw5 hle9)
                have HR9 := Lib.hid (IntL.le hrs5 hle9)
                clear rc9 r8 z8 y8 l8 r9 hcl5 hrw5 hrs5 hil5 RC5
                simp only [Act.put, zq1, zq2, zq3]
                go_wp2_with (first | ((with_reducible refine kAny ?_); go_skip) | (with_reducible refine stA ?_) | ((first | refine tIx ?_ | refine tFd ?_ | refine tLd ?_ | ((first | refine tSr ?_ | refine tSt ?_); clear hL; intro _ hL; simp only [splice, zq1, zq2, zq3] at hL) | (refine tAl ?_; clear hL; intro _ _ hL _) | (refine tBs ?_; clear hL; intro _ _ hL _ hBs)); simp only [Act.put, zq1, zq2, zq3]))
                go_roundw
                case rel => exact ⟨k + 1, m9, A10, c10, R9, by omega, by go_num, hL.tail, RC9.out, HC9.out, HW9.out, HR9.out⟩
                case measure => simp [intOf] <;> omega
        · obtain rfl : k = K := by omega
          have RC3 : Hid (RowA 34 2 CutR mc3 (.slice A8 k c8) k (cutsG rs l k) Rr) := RowA.le CutR.mono' RC.out leX
          have hcl3 := Lib.hid (ColL.le hcl.out (leX : Le mm mc3))
          have hrw3 := Lib.hid (IntL.le hrw.out (leX : Le mm mc3))
          clear RC hcl hrw hrs
          go_wp2_with (first | ((with_reducible refine kAny ?_); go_skip) | (with_reducible refine stA ?_) | ((first | refine tIx ?_ | refine tFd ?_ | refine tLd ?_ | ((first | refine tSr ?_ | refine tSt ?_); clear hL; intro _ hL; simp only [splice, zq1, zq2, zq3] at hL) | (refine tAl ?_; clear hL; intro _ _ hL _) | (refine tBs ?_; clear hL; intro _ _ hL _ hBs)); simp only [Act.put, zq1, zq2, zq3]))
          obtain ⟨m8, hL8, hle8, hcu, -⟩ := RowA.show (A := [_, _]) CutR.mono' hL RC3.out
          refine fin_aggR hL Tryz.results15 rfl rfl loX ag_Master (by exact rfl) hL8 ?_
          unfold masF
          rw [HR.out, E0.out, E2'.out, E3'.out]
          exact ⟨_, _, _, rfl, IntL.le hrw3.out hle8, ColL.le hcl3.out hle8, hcu⟩
end Go.Proofs.YtmhkmmmompediaaGreat

/- What pairingdata.Prices builds. -/
namespace Go.Proofs.YtmhkmmmompediaaGreat
open Go.RowKit

theorem frT (n : Int) : Tn 10 (frF n) := by
  have h1 := fN_bd n
  have h2 := fD_bd n
  unfold frF
  rw [div_mix]
  exact Tn.divInt (by omega) (by omega) (by omega)
def negF (q : Rat) : Rat := if rs q > 0 then -q else q
theorem Tn.neg {k : Nat} {q : Rat} (h : Tn k q) : Tn k (-q) := ⟨by simpa [Rat.neg_num] using h.1, by simpa [Rat.neg_den] using h.2⟩
theorem Tn.negF {k : Nat} {q : Rat} (h : Tn k q) : Tn k (negF q) := by
  unfold Go.Proofs.YtmhkmmmompediaaGreat.negF
  split
  · exact h.neg
  · exact h
def flG (l : List Int) (n : Nat) : List Rat := (List.range n).map fun i => ((3 : Int) : Rat) * frF (atF l i)
def cdG (l : List Int) (n : Nat) : List Rat := (List.range n).map fun k => negF (frF (atF l (10 + k)))
def deO (l : List Int) (k : Nat) : Option Dec := if atF l (21 + k) % 6 = atF l (21 + k) / 8 % 6 then none else some (atF l (21 + k) % 6, atF l (21 + k) / 8 % 6, decide (atF l (21 + k) / 64 % 2 = 1))
def deG (l : List Int) (n : Nat) : List Dec := (List.range n).filterMap (deO l)
def prF (x : Ms) (l : List Int) : Pr := ⟨flG l 6, x.cuts, cdG l x.cuts.length, deG l (atF l 20 % 3).toNat, false⟩
theorem flG_snoc (l : List Int) (j : Nat) {a : Int} (ha : Hid (atF l j = a)) : flG l j ++ [((3 : Int) : Rat) * frF a] = flG l (j + 1) := by
  unfold flG
  rw [range_snoc, ha.out]
theorem cdG_snoc (l : List Int) (j : Nat) {a : Int} (ha : Hid (atF l (10 + j) = a)) {q : Rat} (hq : q = negF (frF a)) : cdG l j ++ [q] = cdG l (j + 1) := by
  unfold cdG
  rw [range_snoc, ha.out, hq]
theorem deG_in (l : List Int) (j : Nat) {a : Int} (ha : Hid (atF l (21 + j) = a)) (h : ¬ a % 6 = a / 8 % 6) {b : Bool} (hb : b = decide (a / 64 % 2 = 1)) : deG l j ++ [(a % 6, a / 8 % 6, b)] = deG l (j + 1) := by
  unfold deG
  rw [List.range_succ, List.filterMap_append]
  simp [deO, ha.out, h, hb]
theorem deG_out (l : List Int) (j : Nat) {a : Int} (ha : Hid (atF l (21 + j) = a)) (h : a % 6 = a / 8 % 6) : deG l (j + 1) = deG l j := by
  unfold deG
  rw [List.range_succ, List.filterMap_append]
  simp [deO, ha.out, h]
theorem deG_len (l : List Int) (i : Nat) : (deG l i).length ≤ i := by
  unfold deG
  exact Nat.le_trans (List.length_filterMap_le _ _) (by simp)
theorem DecR.mono (m m' : World) (v : Value) (x : Dec) (h : DecR m v x) (_ : Le m m') : DecR m' v x := h
def PricesPost (w m : World) (p : Pr) (e : Ending) (w' : World) : Prop :=
  ∃ m' a b s A c R, e = .returned (.agg #[a, b, .slice A p.cd.length c, s, .bool p.fr]) ∧ Loc w m w' m' R ∧ FracL m' a p.fl ∧ CutL m' b p.cu ∧ RowA 39 4 FracC m' (.slice A p.cd.length c) p.cd.length p.cd R ∧ DecL m' s p.de
theorem fin_aggQ {P : Program} {fn : Func} {Post : Ending → World → Prop} {w m W mm : World} {Ls : List Lo} (hL : Loc w m W mm Ls) {p : Nat} {ty : TypeId} (hr : fn.results = #[.cell p ty]) {a : Act} (hdf : a.defers = []) {g : Nat}
    (hp : a.tmps.getD p undef = .pointer (some ⟨g, 0, none⟩)) {n : Nat} {t : TypeId} {cs : Array Value} (hn : Ls[n]? = some (g, t, cs)) {k : Nat} (hty : agS P ty = some k) (hk : cs.size = k) (h : Post (.returned (.agg cs)) W) :
    bodyPost P fn Post .ret a W := fin_aggP hL hr hdf hp hn hty hk h
end Go.Proofs.YtmhkmmmompediaaGreat

/- Contract of pairingdata.Prices. -/
namespace Go.Proofs.YtmhkmmmompediaaGreat
open Go.RowKit

set_option maxRecDepth 100000 in
set_option maxHeartbeats 32000000 in
theorem d_Prices (v : Value) (x : Ms) (A : Option Addr) (c : Nat) (l : List Int) (w m : World) (hV : Vw m w) (hm : MasterR m v x) (hnf : x.nf = 6) (hcu : x.cuts.length ≤ 10) (h : Sl m A (l.map I64)) (hl : True) :
    Calls Tryz.prog 16 #[v, .slice A l.length c] w (PricesPost w m (prF x l)) := by
  have HL := Lib.hid hl
  clear hl
  generalize hN : l.length = N
  have HN := Lib.hid hN
  clear hN
  obtain ⟨nf, rws, pen, cls, cts⟩ := x
  obtain ⟨va, vb, vc, rfl, h1, h2, h3⟩ := hm
  simp only at hnf hcu h1 h2 h3
  subst hnf
  obtain ⟨A1, c1, rfl, -, h1⟩ := h1.lit
  obtain ⟨A2, c2, rfl, -, h2⟩ := h2.lit
  obtain ⟨A3, c3, rfl, -, h3⟩ := h3.lit
  clear h1 h2
  generalize rws.length = n1
  generalize cls.length = n2
  have HX : Hid (prF ⟨6, rws, pen, cls, cts⟩ l = ⟨flG l 6, cts, cdG l cts.length, deG l (atF l 20 % 3).toNat, false⟩) := rfl
  generalize prF ⟨6, rws, pen, cls, cts⟩ l = px at *
  simp only
  generalize hnc : cts.length = nc at *
  have HC := Lib.hid hnc
  clear hnc
  obtain ⟨a20, E20, p20, p20'⟩ := atX l 20 (by omega)
  have e20 : a20 % 3 = ((a20 % 3).toNat : Int) := by omega
  have E20' : Hid ((atF l 20 % 3).toNat = (a20 % 3).toNat) := by show _ = _; rw [E20.out]
  have hK : (a20 % 3).toNat ≤ 2 := by omega
  generalize (a20 % 3).toNat = K at *
  have hL := Loc.start hV
  clear hV
  go_enter Tryz.func16, Tryz.ntmps16
  go_upto_region 0 with (fail)
  refine wp_region_lit ?_
  refine t_box hL rfl rfl ?_; clear hL; intro Wh2 mh2 hL eh2; simp only [Act.put, zq1, zq2, zq3]
  refine t_alloc hL rfl ?_; clear hL; intro Wh4 mh4 hL eh4; simp only [Act.put, zq1, zq2, zq3]
  go_wp2_with (first | ((with_reducible refine kAny ?_); go_skip) | (with_reducible refine stA ?_) | ((first | refine tFd ?_ | refine tLd ?_ | ((first | refine tSr ?_ | refine tSt ?_); clear hL; intro _ hL; simp only [splice, zq1, zq2, zq3] at hL) | ((first | refine tBx ?_ | refine tAl ?_); clear hL; intro _ _ hL _) | (refine tBs ?_; clear hL; intro _ _ hL _ hBs)); simp only [Act.put, zq1, zq2, zq3]))
  go_loopw [6] (fun i wr => ∃ (j : Nat) (mm : World) (A7 : Option Addr) (c7 : Nat) (Rr : List Lo), j ≤ 6 ∧ i = .int .i64 j ∧ Loc w m wr mm ((Wh4.heap.size, 31, #[.slice A7 j c7, .slice none 0 0, .slice none 0 0, .slice none 0 0, .bool false]) :: (Wh2.heap.size, 31, #[.slice none 0 0, .slice none 0 0, .slice none 0 0, .slice none 0 0, .bool false]) :: (w.heap.size, 26, #[.int .i64 6, .slice A1 n1 c1, .int .i64 pen, .slice A2 n2 c2, .slice A3 nc c3]) :: Rr) ∧ Hid (RowA 39 4 FracC mm (.slice A7 j c7) j (flG l j) Rr)) (fun i _ => 6 - (intOf i).toNat)
  case atStart => exact ⟨0, _, none, 0, [], Nat.zero_le _, rfl, hL, RowA.nil⟩
  case round =>
    clear hL
    obtain ⟨j, mm, A7, c7, Rr, hj, rfl, hL, rr⟩ := hrel
    have hA := h.le hL.mext.le
    by_cases hlt : j < 6
    · obtain ⟨a, Ea, pa, pa'⟩ := atX l j (by omega)
      have F1 : Hid (Fit 200 ((3 : Int) : Rat)) := (Tn.int (k := 1000) (by decide) (by decide)).fit (by decide)
      have F2 : Hid (Fit 200 (frF a)) := (frT a).fit (by decide)
      clear e20
      have bj : decide ((j : Int) < 6) = true := decide_eq_true (by omega)
      go_upto_region 5 with ((first | ((with_reducible refine kAny ?_); go_skip) | (with_reducible refine stA ?_) | ((first | refine tFd ?_ | refine tLd ?_ | ((first | refine tSr ?_ | refine tSt ?_); clear hL; intro _ hL; simp only [splice, zq1, zq2, zq3] at hL) | ((first | refine tBx ?_ | refine tAl ?_); clear hL; intro _ _ hL _) | (refine tBs ?_; clear hL; intro _ _ hL _ hBs)); simp only [Act.put, zq1, zq2, zq3])))
      (try simp only [eq_self] at *)
      refine wp_region_by2 9 [false, false, false, false, false, false, false, false, false] [false, false, false, false, false, false, false, false, false] [(fun v _ _ => v = ?c5_0), (fun v _ _ => v = ?c5_1), Of (fun um v => FracC um v ((3 : Int) : Rat)), (fun v _ _ => v = ?c5_3), (fun v _ _ => v = ?c5_4), Is (.int .i64 a), Of (fun um v => FracC um v (frF a)), Of (fun um v => FracC um v (((3 : Int) : Rat) * frF a)), (NewS1 39 (fun um v => FracC um v (((3 : Int) : Rat) * frF a)))] hL.vw mixed [17, 18, 19, 20, 21, 22, 23, 24, 25] _ (by kernel_rfl) (fun vs => by simp only [lay, Act.put, zq1, zq2, zq3]; rfl) (by kernel_rfl) (by decide) (by decide) ?s5 ?l5 ?r5
      case s5 =>
        refine ⟨?_, ?_, ?_, ?_, ?_, ?_, ?_, ?_, ?_, trivial⟩
        · intro vs W1 m1 hE hM hV hD; clear hD; replace hL := hL.call hE hM hV
          exact sFd
        · intro vs W1 m1 hE hM hV hD; obtain ⟨⟨_, _, -, -, f17⟩, -⟩ := hD; have f17 : vs 17 = _ := f17; generalize vs 17 = x17 at f17 ⊢; subst x17; replace hL := hL.call hE hM hV
          exact sLd
        · intro vs W1 m1 hE hM hV hD; clear hD
          go_wp2_with fail
          refine (r_Int 3 _ _ hV (by decide) (by decide)).mono ?_
          rintro e W2 ⟨v, m2, rfl, hE2, hM2, hV2, h⟩
          go_wp2_with fail
          refine One2.call hE2 hM2 hV2 ?_; first | exact h | exact rfl
        · intro vs W1 m1 hE hM hV hD; clear hD; replace hL := hL.call hE hM hV
          exact sPu
        · intro vs W1 m1 hE hM hV hD; clear hD; replace hL := hL.call hE hM hV
          exact sPu
        · intro vs W1 m1 hE hM hV hD; obtain ⟨⟨_, _, -, -, f20⟩, ⟨_, _, -, -, f21⟩, -, -⟩ := hD; have f20 : vs 20 = _ := f20; generalize vs 20 = x20 at f20 ⊢; subst x20; have f21 : vs 21 = _ := f21; generalize vs 21 = x21 at f21 ⊢; subst x21
          go_wp2_with fail
          refine (d_AtE _ _ _ l _ j a _ _ hV (hA.le leX) HN HL Ea (by omega) (by omega)).mono ?_
          rintro e W2 ⟨v, m2, rfl, hE2, hM2, hV2, h⟩
          go_wp2_with fail
          refine One2.call hE2 hM2 hV2 ?_; first | exact h | exact rfl
        · intro vs W1 m1 hE hM hV hD; obtain ⟨⟨_, _, -, -, f22⟩, -, -⟩ := hD; have f22 : vs 22 = _ := f22; generalize vs 22 = x22 at f22 ⊢; subst x22
          go_wp2_with fail
          refine (d_Frac a _ _ hV (by omega) (by omega)).mono ?_
          rintro e W2 ⟨v, m2, rfl, hE2, hM2, hV2, h⟩
          go_wp2_with fail
          refine One2.call hE2 hM2 hV2 ?_; first | exact h | exact rfl
        · intro vs W1 m1 hE hM hV hD; obtain ⟨⟨_, _, -, i19, f19⟩, ⟨_, _, -, i23, f23⟩, -, -⟩ := hD; have f19 : FracC _ (vs 19) ((3 : Int) : Rat) := f19; replace f19 := f19.le i19.le; clear i19; have f23 : FracC _ (vs 23) (frF a) := f23; replace f23 := f23.le i23.le; clear i23
          go_wp2_with fail
          refine (r_MulC _ _ _ _ _ _ hV f19 f23 F1.out F2.out).mono ?_
          rintro e W2 ⟨v, m2, rfl, hE2, hM2, hV2, h⟩
          go_wp2_with fail
          refine One2.call hE2 hM2 hV2 ?_; first | exact h | exact rfl
        · intro vs W1 m1 hE hM hV hD; obtain ⟨⟨_, _, -, i24, f24⟩, -⟩ := hD; have f24 : FracC _ (vs 24) (((3 : Int) : Rat) * frF a) := f24; replace f24 := f24.le i24.le; clear i24
          (obtain ⟨g9, A9, n9, c9, h9, B9, k9, d9, e9, f9⟩ := f24.lit; generalize vs 24 = x9 at e9 ⊢; subst x9; go_wp2_with fail; exact one2_s1 hV fun m' h => f9.le h.le)
      case l5 =>
        refine ⟨fun h => (by cases h), fun h => (by cases h), fun h => (by cases h), fun h => (by cases h), fun h => (by cases h), fun h => (by cases h), fun h => (by cases h), fun h => (by cases h), fun h => (by cases h), trivial⟩
      intro vs W1 m1 hE hM hV hF hD
      clear hD
      obtain ⟨-, ⟨_, _, -, -, f18⟩, ⟨_, _, -, i19, f19⟩, -, -, -, ⟨_, _, -, i23, f23⟩, ⟨_, _, -, i24, f24⟩, ⟨_, _, j25, i25, f25⟩, -⟩ := hF
      replace hL := hL.call hE hM hV
      have f18 : vs 18 = _ := f18
      generalize vs 18 = x18 at f18 ⊢
      subst x18
      replace f19 : FracC _ (vs 19) ((3 : Int) : Rat) := f19
      replace f19 := f19.le i19.le
      clear i19
      replace f23 : FracC _ (vs 23) (frF a) := f23
      replace f23 := f23.le i23.le
      clear i23
      replace f24 : FracC _ (vs 24) (((3 : Int) : Rat) * frF a) := f24
      replace f24 := f24.le i24.le
      clear i24
      clear hE hV
      obtain ⟨g15, cs15, e15, q15, f15⟩ := f25
      generalize vs 25 = x15 at e15 ⊢
      subst x15
      replace q15 := q15.ext j25
      have f16 : FracC _ (.agg cs15) (((3 : Int) : Rat) * frF a) := f15
      replace f16 := f16.le i25.le
      clear f15 i25 j25
      obtain ⟨g9, A9, n9, c9, h9, B9, k9, d9, e9, f16⟩ := f16.lit
      injection e9 with e9
      subst e9
      simp only [List.drop_succ_cons, List.drop_zero]
      obtain ⟨vs7, r7, z7, y7, l7⟩ := rr.out
      refine wl_append (A := [_, _, _]) hL r7 (wanted_none rfl) rfl ap_Fracs (by omega) rfl rfl (news := [.bool g9, .slice A9 n9 c9, .bool h9, .slice B9 k9 d9]) rfl (Blk.sl q15 (n := 4) rfl) rfl (by omega) (by omega) ?_
      clear hL
      intro v1 W2 m2 R2 hL r8 e8
      obtain ⟨A8, c8, rfl, -⟩ := r8.lit
      simp only [List.cons_append, List.nil_append] at hL
      simp only [Act.put, zq1, zq2, zq3]
      go_wp2_with (first | ((with_reducible refine kAny ?_); go_skip) | (with_reducible refine stA ?_) | ((first | refine tFd ?_ | refine tLd ?_ | ((first | refine tSr ?_ | refine tSt ?_); clear hL; intro _ hL; simp only [splice, zq1, zq2, zq3] at hL) | ((first | refine tBx ?_ | refine tAl ?_); clear hL; intro _ _ hL _) | (refine tBs ?_; clear hL; intro _ _ hL _ hBs)); simp only [Act.put, zq1, zq2, zq3]))
      refine QN.mk ?_
      go_wp2_with (first | ((with_reducible refine kAny ?_); go_skip) | (with_reducible refine stA ?_) | ((first | refine tFd ?_ | refine tLd ?_ | ((first | refine tSr ?_ | refine tSt ?_); clear hL; intro _ hL; simp only [splice, zq1, zq2, zq3] at hL) | ((first | refine tBx ?_ | refine tAl ?_); clear hL; intro _ _ hL _) | (refine tBs ?_; clear hL; intro _ _ hL _ hBs)); simp only [Act.put, zq1, zq2, zq3]))
      go_roundw
      case rel =>
        refine ⟨j + 1, _, _, _, _, by omega, by go_num, hL, ?_⟩
        have hq := RowA.snoc (R := FracC) r8 z7 (y7.mono fun v x hv => hv.le (leX : Le mm m2)) l7 rfl (f16.le e8.le)
        rwa [flG_snoc l j Ea] at hq
      case measure => simp [intOf] <;> omega
    · have HJ : Hid (j = 6) := by show _ = _; omega
      go_wp2_with (first | ((with_reducible refine kAny ?_); go_skip) | (with_reducible refine stA ?_) | ((first | refine tFd ?_ | refine tLd ?_ | ((first | refine tSr ?_ | refine tSt ?_); clear hL; intro _ hL; simp only [splice, zq1, zq2, zq3] at hL) | ((first | refine tBx ?_ | refine tAl ?_); clear hL; intro _ _ hL _) | (refine tBs ?_; clear hL; intro _ _ hL _ hBs)); simp only [Act.put, zq1, zq2, zq3]))
      obtain ⟨m5, hL5, hle5, hfl, -⟩ := RowA.show (A := [_, _, _]) FracC.mono hL rr.out
      have hfl : Hid (FracL m5 (.slice A7 j c7) (flG l 6)) := by
        have := hfl
        rwa [show flG l j = flG l 6 from by rw [HJ.out]] at this
      clear hL rr hle5 hlt hj hA
      generalize j = j6 at *
      go_loopw [7] (fun i wr => ∃ (j : Nat) (mm : World) (A8 : Option Addr) (c8 : Nat) (Rr : List Lo), j ≤ nc ∧ i = .int .i64 j ∧ Loc w m wr mm ((Wh4.heap.size, 31, #[.slice A7 j6 c7, .slice A3 nc c3, .slice A8 j c8, .slice none 0 0, .bool false]) :: (Wh2.heap.size, 31, #[.slice none 0 0, .slice none 0 0, .slice none 0 0, .slice none 0 0, .bool false]) :: (w.heap.size, 26, #[.int .i64 6, .slice A1 n1 c1, .int .i64 pen, .slice A2 n2 c2, .slice A3 nc c3]) :: Rr) ∧ Hid (RowA 39 4 FracC mm (.slice A8 j c8) j (cdG l j) Rr) ∧ Hid (FracL mm (.slice A7 j6 c7) (flG l 6))) (fun i _ => nc - (intOf i).toNat)
      case atStart => exact ⟨0, m5, none, 0, [], Nat.zero_le _, rfl, hL5, RowA.nil, hfl⟩
      case round =>
        clear hL5 hfl
        obtain ⟨j, mm, A8, c8, Rr, hj, rfl, hL, rr, hfl⟩ := hrel
        have hA := h.le hL.mext.le
        by_cases hlt : j < nc
        · obtain ⟨a, Ea, pa, pa'⟩ := atX l (10 + j) (by omega)
          have F2 : Hid (Fit 200 (frF a)) := (frT a).fit (by decide)
          go_wp2_with (first | ((with_reducible refine kAny ?_); go_skip) | (with_reducible refine stA ?_) | ((first | refine tFd ?_ | refine tLd ?_ | ((first | refine tSr ?_ | refine tSt ?_); clear hL; intro _ hL; simp only [splice, zq1, zq2, zq3] at hL) | ((first | refine tBx ?_ | refine tAl ?_); clear hL; intro _ _ hL _) | (refine tBs ?_; clear hL; intro _ _ hL _ hBs)); simp only [Act.put, zq1, zq2, zq3]))
          refine (d_AtE _ _ _ l _ (10 + j) a _ _ hL.vw (hA.le leX) HN HL Ea (by omega) (by omega)).mono ?_
          rintro e Wc1 ⟨_, mc1, rfl, hE, hMc1, hV, rfl⟩
          replace hL := hL.call hE (by assumption) hV; clear hE hV
          go_wp2_with (first | ((with_reducible refine kAny ?_); go_skip) | (with_reducible refine stA ?_) | ((first | refine tFd ?_ | refine tLd ?_ | ((first | refine tSr ?_ | refine tSt ?_); clear hL; intro _ hL; simp only [splice, zq1, zq2, zq3] at hL) | ((first | refine tBx ?_ | refine tAl ?_); clear hL; intro _ _ hL _) | (refine tBs ?_; clear hL; intro _ _ hL _ hBs)); simp only [Act.put, zq1, zq2, zq3]))
          refine (d_Frac a _ _ hL.vw (by omega) (by omega)).mono ?_
          rintro e Wc2 ⟨vc2, mc2, rfl, hE, hMc2, hV, hc2⟩
          replace hL := hL.call hE (by assumption) hV; clear hE hV
          obtain ⟨gc2', Ac2', nc2', cc2', hc2', Bc2', kc2', dc2', rfl, hc2⟩ := hc2.lit
          go_wp2_with (first | ((with_reducible refine kAny ?_); go_skip) | (with_reducible refine stA ?_) | ((first | refine tFd ?_ | refine tLd ?_ | ((first | refine tSr ?_ | refine tSt ?_); clear hL; intro _ hL; simp only [splice, zq1, zq2, zq3] at hL) | ((first | refine tBx ?_ | refine tAl ?_); clear hL; intro _ _ hL _) | (refine tBs ?_; clear hL; intro _ _ hL _ hBs)); simp only [Act.put, zq1, zq2, zq3]))
          refine (r_Sign _ (frF a) _ _ hL.vw ((hc2.toV F2.out (by decide)).le leX) (F2.out.mono (by decide))).mono ?_
          rintro e Wc3 ⟨_, mc3, rfl, hE, hMc3, hV, rfl⟩
          replace hL := hL.call hE (by assumption) hV; clear hE hV
          by_cases hs : rs (frF a) > 0
          · have HN2 : Hid (-frF a = negF (frF a)) := by show _ = _; unfold negF; rw [if_pos hs]
            go_wp2_with (first | ((with_reducible refine kAny ?_); go_skip) | (with_reducible refine stA ?_) | ((first | refine tFd ?_ | refine tLd ?_ | ((first | refine tSr ?_ | refine tSt ?_); clear hL; intro _ hL; simp only [splice, zq1, zq2, zq3] at hL) | ((first | refine tBx ?_ | refine tAl ?_); clear hL; intro _ _ hL _) | (refine tBs ?_; clear hL; intro _ _ hL _ hBs)); simp only [Act.put, zq1, zq2, zq3]))
            refine (r_Negate _ (frF a) _ _ hL.vw ((hc2.toV F2.out (by decide)).le leX)).mono ?_
            rintro e Wc4 ⟨vc4, mc4, rfl, hE, hMc4, hV, hc4⟩
            replace hL := hL.call hE (by assumption) hV; clear hE hV
            obtain ⟨gc4', Ac4', nc4', cc4', hc4', Bc4', kc4', dc4', rfl, hc4⟩ := hc4.lit
            clear hs e20
            go_wp2_with (first | ((with_reducible refine kAny ?_); go_skip) | (with_reducible refine stA ?_) | ((first | refine tFd ?_ | refine tLd ?_ | ((first | refine tSr ?_ | refine tSt ?_); clear hL; intro _ hL; simp only [splice, zq1, zq2, zq3] at hL) | ((first | refine tBx ?_ | refine tAl ?_); clear hL; intro _ _ hL _) | (refine tBs ?_; clear hL; intro _ _ hL _ hBs)); simp only [Act.put, zq1, zq2, zq3]))
            refine goA ?_
            obtain ⟨vs7, r7, z7, y7, l7⟩ := rr.out
            refine wl_append (A := [_, _, _, _]) hL r7 (wanted_none rfl) rfl ap_Fracs (by omega) rfl rfl (news := [.bool gc4', .slice Ac4' nc4' cc4', .bool hc4', .slice Bc4' kc4' dc4']) rfl ((Blk.sl hBs (n := 4) rfl).le hL.vw.le) rfl (by omega) (by omega) ?_
            clear hL
            intro v1 W2 m2 R2 hL r8 e8
            obtain ⟨A11, c11, rfl, -⟩ := r8.lit
            simp only [List.cons_append, List.nil_append] at hL
            have rc2 := RowA.snoc (R := FracC) (m := m2) r8 z7 (y7.mono fun v x hv => hv.le (leX : Le mm m2)) l7 rfl (hc4.le (leX : Le mc4 m2))
            rw [cdG_snoc l j Ea HN2.out] at rc2
            have RC2 := Lib.hid rc2
            have hfl2 := Lib.hid (FracL.le hfl.out (leX : Le mm m2))
            clear rc2 r7 z7 y7 l7 r8 hfl rr
            simp only [Act.put, zq1, zq2, zq3]
            go_wp2_with (first | ((with_reducible refine kAny ?_); go_skip) | (with_reducible refine stA ?_) | ((first | refine tFd ?_ | refine tLd ?_ | ((first | refine tSr ?_ | refine tSt ?_); clear hL; intro _ hL; simp only [splice, zq1, zq2, zq3] at hL) | ((first | refine tBx ?_ | refine tAl ?_); clear hL; intro _ _ hL _) | (refine tBs ?_; clear hL; intro _ _ hL _ hBs)); simp only [Act.put, zq1, zq2, zq3]))
            go_roundw
            case rel => exact ⟨j + 1, m2, A11, c11, R2, by omega, by go_num, hL.tail, RC2.out, hfl2.out⟩
            case measure => simp [intOf] <;> omega
          · have HN2 : Hid (frF a = negF (frF a)) := by show _ = _; unfold negF; rw [if_neg hs]
            clear e20
            go_wp2_with (first | ((with_reducible refine kAny ?_); go_skip) | (with_reducible refine stA ?_) | ((first | refine tFd ?_ | refine tLd ?_ | ((first | refine tSr ?_ | refine tSt ?_); clear hL; intro _ hL; simp only [splice, zq1, zq2, zq3] at hL) | ((first | refine tBx ?_ | refine tAl ?_); clear hL; intro _ _ hL _) | (refine tBs ?_; clear hL; intro _ _ hL _ hBs)); simp only [Act.put, zq1, zq2, zq3]))
            clear hs
            refine goA ?_
            obtain ⟨vs7, r7, z7, y7, l7⟩ := rr.out
            refine wl_append (A := [_, _, _, _]) hL r7 (wanted_none rfl) rfl ap_Fracs (by omega) rfl rfl (news := [.bool gc2', .slice Ac2' nc2' cc2', .bool hc2', .slice Bc2' kc2' dc2']) rfl ((Blk.sl hBs (n := 4) rfl).le hL.vw.le) rfl (by omega) (by omega) ?_
            clear hL
            intro v1 W2 m2 R2 hL r8 e8
            obtain ⟨A11, c11, rfl, -⟩ := r8.lit
            simp only [List.cons_append, List.nil_append] at hL
            have rc2 := RowA.snoc (R := FracC) (m := m2) r8 z7 (y7.mono fun v x hv => hv.le (leX : Le mm m2)) l7 rfl (hc2.le (leX : Le mc2 m2))
            rw [cdG_snoc l j Ea HN2.out] at rc2
            have RC2 := Lib.hid rc2
            have hfl2 := Lib.hid (FracL.le hfl.out (leX : Le mm m2))
            clear rc2 r7 z7 y7 l7 r8 hfl rr
            simp only [Act.put, zq1, zq2, zq3]
            go_wp2_with (first | ((with_reducible refine kAny ?_); go_skip) | (with_reducible refine stA ?_) | ((first | refine tFd ?_ | refine tLd ?_ | ((first | refine tSr ?_ | refine tSt ?_); clear hL; intro _ hL; simp only [splice, zq1, zq2, zq3] at hL) | ((first | refine tBx ?_ | refine tAl ?_); clear hL; intro _ _ hL _) | (refine tBs ?_; clear hL; intro _ _ hL _ hBs)); simp only [Act.put, zq1, zq2, zq3]))
            go_roundw
            case rel => exact ⟨j + 1, m2, A11, c11, R2, by omega, by go_num, hL.tail, RC2.out, hfl2.out⟩
            case measure => simp [intOf] <;> omega
        · obtain rfl : nc = j := by omega
          clear hlt hj
          go_wp2_with (first | ((with_reducible refine kAny ?_); go_skip) | (with_reducible refine stA ?_) | ((first | refine tFd ?_ | refine tLd ?_ | ((first | refine tSr ?_ | refine tSt ?_); clear hL; intro _ hL; simp only [splice, zq1, zq2, zq3] at hL) | ((first | refine tBx ?_ | refine tAl ?_); clear hL; intro _ _ hL _) | (refine tBs ?_; clear hL; intro _ _ hL _ hBs)); simp only [Act.put, zq1, zq2, zq3]))
          go_loopw [9] (fun i wr => ∃ (j : Nat) (mm : World) (n9 : Nat) (A9 : Option Addr) (c9 : Nat) (Rd : List Lo), j ≤ K ∧ i = .int .i64 j ∧ Loc w m wr mm ((Wh4.heap.size, 31, #[.slice A7 j6 c7, .slice A3 nc c3, .slice A8 nc c8, .slice A9 n9 c9, .bool false]) :: (Wh2.heap.size, 31, #[.slice none 0 0, .slice none 0 0, .slice none 0 0, .slice none 0 0, .bool false]) :: (w.heap.size, 26, #[.int .i64 6, .slice A1 n1 c1, .int .i64 pen, .slice A2 n2 c2, .slice A3 nc c3]) :: (Rr ++ Rd)) ∧ Hid (RowA 87 3 DecR mm (.slice A9 n9 c9) n9 (deG l j) Rd) ∧ Hid (RowA 39 4 FracC mm (.slice A8 nc c8) nc (cdG l nc) Rr) ∧ Hid (FracL mm (.slice A7 j6 c7) (flG l 6))) (fun i _ => K - (intOf i).toNat)
          case atStart => exact ⟨0, mm, 0, none, 0, [], Nat.zero_le _, rfl, by rw [List.append_nil]; exact hL, RowA.nil, rr.out, hfl.out⟩
          case round =>
            clear hL rr hfl hA
            obtain ⟨j, mm, n9, A9, c9, Rd, hj, rfl, hL, rd, rc, hfl⟩ := hrel
            have hA := h.le hL.mext.le
            have hn9 : n9 ≤ 10 := by have := rd.out.len; have := deG_len l j; omega
            go_wp2_with (first | ((with_reducible refine kAny ?_); go_skip) | (with_reducible refine stA ?_) | ((first | refine tFd ?_ | refine tLd ?_ | ((first | refine tSr ?_ | refine tSt ?_); clear hL; intro _ hL; simp only [splice, zq1, zq2, zq3] at hL) | ((first | refine tBx ?_ | refine tAl ?_); clear hL; intro _ _ hL _) | (refine tBs ?_; clear hL; intro _ _ hL _ hBs)); simp only [Act.put, zq1, zq2, zq3]))
            refine (d_AtE _ _ _ l _ 20 a20 _ _ hL.vw (hA.le leX) HN HL E20 rfl (by omega)).mono ?_
            rintro e Wc5 ⟨_, mc5, rfl, hE, hMc5, hV, rfl⟩
            replace hL := hL.call hE (by assumption) hV; clear hE hV
            by_cases hlt : j < K
            · obtain ⟨a, Ea, pa, pa'⟩ := atX l (21 + j) (by omega)
              go_wp2_with (first | ((with_reducible refine kAny ?_); go_skip) | (with_reducible refine stA ?_) | ((first | refine tFd ?_ | refine tLd ?_ | ((first | refine tSr ?_ | refine tSt ?_); clear hL; intro _ hL; simp only [splice, zq1, zq2, zq3] at hL) | ((first | refine tBx ?_ | refine tAl ?_); clear hL; intro _ _ hL _) | (refine tBs ?_; clear hL; intro _ _ hL _ hBs)); simp only [Act.put, zq1, zq2, zq3]))
              refine (d_AtE _ _ _ l _ (21 + j) a _ _ hL.vw (hA.le leX) HN HL Ea (by omega) (by omega)).mono ?_
              rintro e Wc6 ⟨_, mc6, rfl, hE, hMc6, hV, rfl⟩
              replace hL := hL.call hE (by assumption) hV; clear hE hV
              clear e20
              by_cases hne : a % 6 = a / 8 % 6
              · have bn : ((a % 6 : Int) != a / 8 % 6) = false := by simp [hne]
                have HNE := Lib.hid (deG_out l j Ea hne)
                have RD2 := Lib.hid (RowA.le DecR.mono rd.out (leX : Le mm mc6))
                have RC2 := Lib.hid (RowA.le FracC.mono rc.out (leX : Le mm mc6))
                have hfl2 := Lib.hid (FracL.le hfl.out (leX : Le mm mc6))
                clear hne rd rc hfl
                go_wp2_with (first | ((with_reducible refine kAny ?_); go_skip) | (with_reducible refine stA ?_) | ((first | refine tFd ?_ | refine tLd ?_ | ((first | refine tSr ?_ | refine tSt ?_); clear hL; intro _ hL; simp only [splice, zq1, zq2, zq3] at hL) | ((first | refine tBx ?_ | refine tAl ?_); clear hL; intro _ _ hL _) | (refine tBs ?_; clear hL; intro _ _ hL _ hBs)); simp only [Act.put, zq1, zq2, zq3]))
                go_roundw
                case rel => exact ⟨j + 1, mc6, n9, A9, c9, Rd, by omega, by go_num, hL, by rw [HNE.out]; exact RD2.out, RC2.out, hfl2.out⟩
                case measure => simp [intOf] <;> omega
              · have bn : ((a % 6 : Int) != a / 8 % 6) = true := by simp [hne]
                have HNE := Lib.hid hne
                have e64 := i64_and1 (a / 64)
                by_cases hb : a / 64 % 2 = 1
                · have bb := bt hb
                  have HB : Hid (true = decide (a / 64 % 2 = 1)) := (decide_eq_true hb).symm
                  clear hne hb
                  go_wp2_with (first | ((with_reducible refine kAny ?_); go_skip) | (with_reducible refine stA ?_) | ((first | refine tFd ?_ | refine tLd ?_ | ((first | refine tSr ?_ | refine tSt ?_); clear hL; intro _ hL; simp only [splice, zq1, zq2, zq3] at hL) | ((first | refine tBx ?_ | refine tAl ?_); clear hL; intro _ _ hL _) | (refine tBs ?_; clear hL; intro _ _ hL _ hBs)); simp only [Act.put, zq1, zq2, zq3]))
                  refine goA ?_
                  obtain ⟨vs7, r7, z7, y7, l7⟩ := rd.out
                  refine wl_append (A := _ :: _ :: _ :: Rr) hL r7 (wanted_none rfl) rfl ap_Decs (by omega) rfl rfl (news := [.int .i64 (a % 6), .int .i64 (a / 8 % 6), .bool true]) rfl ((Blk.sl hBs (n := 3) rfl).le hL.vw.le) rfl (by omega) (by omega) ?_
                  clear hL
                  intro v1 W2 m2 R2 hL r8 e8
                  obtain ⟨A11, c11, rfl, -⟩ := r8.lit
                  simp only [List.cons_append, List.nil_append] at hL
                  have hle2 : Le mm m2 := leX
                  have rd2 := RowA.snoc (R := DecR) (m := m2) (x := (a % 6, a / 8 % 6, true)) r8 z7 (y7.mono fun v x hv => hv) l7 rfl rfl
                  rw [deG_in l j Ea HNE.out HB.out] at rd2
                  have RD2 := Lib.hid rd2
                  have RC2 := Lib.hid (RowA.le FracC.mono rc.out hle2)
                  have hfl2 := Lib.hid (FracL.le hfl.out hle2)
                  clear rd2 r7 z7 y7 l7 r8 hfl rc rd
                  simp only [Act.put, zq1, zq2, zq3]
                  go_wp2_with (first | ((with_reducible refine kAny ?_); go_skip) | (with_reducible refine stA ?_) | ((first | refine tFd ?_ | refine tLd ?_ | ((first | refine tSr ?_ | refine tSt ?_); clear hL; intro _ hL; simp only [splice, zq1, zq2, zq3] at hL) | ((first | refine tBx ?_ | refine tAl ?_); clear hL; intro _ _ hL _) | (refine tBs ?_; clear hL; intro _ _ hL _ hBs)); simp only [Act.put, zq1, zq2, zq3]))
                  go_roundw
                  case rel => exact ⟨j + 1, m2, n9 + 1, A11, c11, R2, by omega, by go_num, hL, RD2.out, RC2.out, hfl2.out⟩
                  case measure => simp [intOf] <;> omega
                · have bb := bf hb
                  have HB : Hid (false = decide (a / 64 % 2 = 1)) := (decide_eq_false hb).symm
                  clear hne hb
                  go_wp2_with (first | ((with_reducible refine kAny ?_); go_skip) | (with_reducible refine stA ?_) | ((first | refine tFd ?_ | refine tLd ?_ | ((first | refine tSr ?_ | refine tSt ?_); clear hL; intro _ hL; simp only [splice, zq1, zq2, zq3] at hL) | ((first | refine tBx ?_ | refine tAl ?_); clear hL; intro _ _ hL _) | (refine tBs ?_; clear hL; intro _ _ hL _ hBs)); simp only [Act.put, zq1, zq2, zq3]))
                  refine goA ?_
                  obtain ⟨vs7, r7, z7, y7, l7⟩ := rd.out
                  refine wl_append (A := _ :: _ :: _ :: Rr) hL r7 (wanted_none rfl) rfl ap_Decs (by omega) rfl rfl (news := [.int .i64 (a % 6), .int .i64 (a / 8 % 6), .bool false]) rfl ((Blk.sl hBs (n := 3) rfl).le hL.vw.le) rfl (by omega) (by omega) ?_
                  clear hL
                  intro v1 W2 m2 R2 hL r8 e8
                  obtain ⟨A11, c11, rfl, -⟩ := r8.lit
                  simp only [List.cons_append, List.nil_append] at hL
                  have hle2 : Le mm m2 := leX
                  have rd2 := RowA.snoc (R := DecR) (m := m2) (x := (a % 6, a / 8 % 6, false)) r8 z7 (y7.mono fun v x hv => hv) l7 rfl rfl
                  rw [deG_in l j Ea HNE.out HB.out] at rd2
                  have RD2 := Lib.hid rd2
                  have RC2 := Lib.hid (RowA.le FracC.mono rc.out hle2)
                  have hfl2 := Lib.hid (FracL.le hfl.out hle2)
                  clear rd2 r7 z7 y7 l7 r8 hfl rc rd
                  simp only [Act.put, zq1, zq2, zq3]
                  go_wp2_with (first | ((with_reducible refine kAny ?_); go_skip) | (with_reducible refine stA ?_) | ((first | refine tFd ?_ | refine tLd ?_ | ((first | refine tSr ?_ | refine tSt ?_); clear hL; intro _ hL; simp only [splice, zq1, zq2, zq3] at hL) | ((first | refine tBx ?_ | refine tAl ?_); clear hL; intro _ _ hL _) | (refine tBs ?_; clear hL; intro _ _ hL _ hBs)); simp only [Act.put, zq1, zq2, zq3]))
                  go_roundw
                  case rel => exact ⟨j + 1, m2, n9 + 1, A11, c11, R2, by omega, by go_num, hL, RD2.out, RC2.out, hfl2.out⟩
                  case measure => simp [intOf] <;> omega
            · obtain rfl : j = K := by omega
              have RD2 := Lib.hid (RowA.le DecR.mono rd.out (leX : Le mm mc5))
              have RC2 := Lib.hid (RowA.le FracC.mono rc.out (leX : Le mm mc5))
              have hfl2 := Lib.hid (FracL.le hfl.out (leX : Le mm mc5))
              clear rd rc hfl
              go_wp2_with (first | ((with_reducible refine kAny ?_); go_skip) | (with_reducible refine stA ?_) | ((first | refine tFd ?_ | refine tLd ?_ | ((first | refine tSr ?_ | refine tSt ?_); clear hL; intro _ hL; simp only [splice, zq1, zq2, zq3] at hL) | ((first | refine tBx ?_ | refine tAl ?_); clear hL; intro _ _ hL _) | (refine tBs ?_; clear hL; intro _ _ hL _ hBs)); simp only [Act.put, zq1, zq2, zq3]))
              obtain ⟨m8, hL8, hle8, hde, -⟩ := RowA.show (A := _ :: _ :: _ :: Rr) DecR.mono hL RD2.out
              refine fin_aggQ hL Tryz.results16 rfl rfl loX ag_Prices (by exact rfl) ?_
              rw [HX.out]
              have hcl : (cdG l nc).length = nc := by unfold cdG; rw [List.length_map, List.length_range]
              refine ⟨m8, .slice A7 j6 c7, .slice A3 nc c3, .slice A9 n9 c9, A8, c8, Rr, ?_, hL8.tail.tail.tail, FracL.le hfl2.out hle8, CutL.le h3 hL8.mext.le, ?_, ?_⟩
              · simp only [hcl]
              · simp only [hcl]
                exact RowA.le FracC.mono RC2.out hle8
              · simp only [E20'.out]; exact hde
end Go.Proofs.YtmhkmmmompediaaGreat

/- The prices of the laws. -/
namespace Go.Proofs.YtmhkmmmompediaaGreat
open Go.RowKit

def PrO (B : Nat) (p : Pr) (v : Value) (u um : World) : Prop := PricesR um v p ∧ ∃ a b s d f cs, v = .agg #[a, b, s, d, f] ∧ u.ownsRow B 39 4 s p.cd.length cs
theorem d_PricesW (v : Value) (x : Ms) (A : Option Addr) (c : Nat) (l : List Int) (w m : World) (hV : Vw m w) (hm : MasterR m v x) (hnf : x.nf = 6) (hcu : x.cuts.length ≤ 10) (h : Sl m A (l.map I64)) (hl : True) :
    Calls Tryz.prog 16 #[v, .slice A l.length c] w (RetW w m fun w' m' v => PrO w.heap.size (prF x l) v w' m') := by
  refine (d_Prices v x A c l w m hV hm hnf hcu h hl).mono ?_
  rintro e w' ⟨m', a, b, s, A, c, R, rfl, hL, h1, h2, h3, h4⟩
  obtain ⟨m2, hL2, hle, h5, cs, ho⟩ := RowA.show (A := []) FracC.mono hL h3
  exact ⟨_, m2, rfl, hL2.ext, hL2.mext, hL2.vw, ⟨_, _, _, _, rfl, FracL.le h1 hle, CutL.le h2 hle, h5, DecL.le h4 hle⟩, _, _, _, _, _, cs, rfl, ho⟩
theorem d_PricesV (v : Value) (x : Ms) (A : Option Addr) (c N : Nat) (l : List Int) (w m : World) (hV : Vw m w) (hm : MasterR m v x) (hnf : Hid (x.nf = 6)) (hcu : Hid (x.cuts.length ≤ 10)) (h : Sl m A (l.map I64)) (hN : Hid (l.length = N)) (hl : Hid (True)) :
    Calls Tryz.prog 16 #[v, .slice A N c] w (RetW w m fun w' m' v => PrO w.heap.size (prF x l) v w' m') := by
  obtain rfl := hN.out
  exact d_PricesW v x A c l w m hV hm hnf.out hcu.out h hl.out
theorem PrO.base {B B' : Nat} {p : Pr} {v : Value} {u um : World} (h : PrO B' p v u um) (hB : B ≤ B') : PrO B p v u um := by
  obtain ⟨h0, a, b, s, d, f, cs, h1, h2, h3⟩ := h
  refine ⟨h0, a, b, s, d, f, cs, h1, h2, ?_⟩
  rcases h3 with h3 | ⟨g, cap, cur, h4, h5, h6⟩
  · exact .inl h3
  · exact .inr ⟨g, cap, cur, h4, Nat.le_trans hB h5, h6⟩
theorem PricesR.lit {m : World} {v : Value} {p : Pr} (h : PricesR m v p) : ∃ A0 c0 A1 c1 A2 c2 A3 c3, v = .agg #[.slice A0 p.fl.length c0, .slice A1 p.cu.length c1, .slice A2 p.cd.length c2, .slice A3 p.de.length c3, .bool p.fr] ∧ p.fl.length ≤ c0 ∧
    PricesR m (.agg #[.slice A0 p.fl.length c0, .slice A1 p.cu.length c1, .slice A2 p.cd.length c2, .slice A3 p.de.length c3, .bool p.fr]) p := by
  have h' := h
  obtain ⟨a, b, c, d, rfl, h1, h2, h3, h4⟩ := h
  obtain ⟨A0, c0, rfl, hc, _⟩ := h1.lit
  obtain ⟨A1, c1, rfl, _, _⟩ := h2.lit
  obtain ⟨A2, c2, rfl, _, _⟩ := h3.lit
  obtain ⟨A3, c3, rfl, _, _⟩ := h4.lit
  exact ⟨_, _, _, _, _, _, _, _, rfl, hc, h'⟩
theorem PrO.lit {B : Nat} {p : Pr} {v : Value} {u um W m : World} (h : PrO B p v u um) (hE : Ext u W) (hM : Ext um m) : ∃ A0 c0 A1 c1 A2 c2 A3 c3 cs, v = .agg #[.slice A0 p.fl.length c0, .slice A1 p.cu.length c1, .slice A2 p.cd.length c2, .slice A3 p.de.length c3, .bool p.fr] ∧
    PricesR m (.agg #[.slice A0 p.fl.length c0, .slice A1 p.cu.length c1, .slice A2 p.cd.length c2, .slice A3 p.de.length c3, .bool p.fr]) p ∧ W.ownsRow B 39 4 (.slice A2 p.cd.length c2) p.cd.length cs := by
  obtain ⟨h0, a, b, s, d, f, cs, h1, h2⟩ := h
  obtain ⟨A0, c0, A1, c1, A2, c2, A3, c3, e, _, h3⟩ := h0.lit
  subst h1
  injection e with e
  injection e with e
  injection e with e1 e
  injection e with e2 e
  injection e with e3 e
  subst e3
  exact ⟨A0, c0, A1, c1, A2, c2, A3, c3, cs, by rw [e1, e2, e], h3.le hM.le, ownsRow_ext h2 hE⟩
theorem d_PricesY (v : Value) (x : Ms) (A : Option Addr) (c N : Nat) (l : List Int) (w m : World) (hV : Vw m w) (hm : MasterR m v x) (hnf : Hid (x.nf = 6)) (hcu : Hid (x.cuts.length ≤ 10)) (h : Sl m A (l.map I64)) (hN : Hid (l.length = N)) (hl : Hid (True)) :
    Calls Tryz.prog 16 #[v, .slice A N c] w (RetV w m fun m' v => PricesR m' v (prF x l)) := by
  refine (d_PricesV v x A c N l w m hV hm hnf hcu h hN hl).mono ?_
  rintro e w' ⟨v, m', rfl, a, b, c, d, -⟩
  exact ⟨v, m', rfl, a, b, c, d⟩
theorem MasterR.lit {m : World} {v : Value} {x : Ms} (h : MasterR m v x) : ∃ A n c A' n' c' A'' n'' c'', v = .agg #[.int .i64 x.nf, .slice A n c, .int .i64 x.pen, .slice A' n' c', .slice A'' n'' c''] ∧ MasterR m (.agg #[.int .i64 x.nf, .slice A n c, .int .i64 x.pen, .slice A' n' c', .slice A'' n'' c'']) x := by
  have h' := h
  obtain ⟨a, b, c, rfl, h1, h2, h3⟩ := h
  obtain ⟨A0, c0, rfl, _, _⟩ := h1.lit
  obtain ⟨A1, c1, rfl, _, _⟩ := h2.lit
  obtain ⟨A2, c2, rfl, _, _⟩ := h3.lit
  exact ⟨_, _, _, _, _, _, _, _, _, rfl, h'⟩
theorem Loc.reown {w0 m0 W m : World} {Ls : List Lo} (hL : Loc w0 m0 W m Ls) {B : Nat} {e : TypeId} {size : Nat} {v : Value} {n : Nat} {xs : List Value} (ho : W.ownsRow B e size v n xs) (hB : w0.heap.size ≤ B) (hne : ∀ x ∈ Ls, x.2.1 ≠ e) :
    ∃ R m', Loc w0 m0 W m' (Ls ++ R) ∧ Row e size v n xs R := by
  have hs : m0.heap.size ≤ W.heap.size := by rw [hL.size0]; exact hL.ext.size
  have key : ∀ R : List Lo, (∀ x ∈ R, w0.heap.size ≤ x.1 ∧ Blk W x.1 x.2.1 x.2.2 ∧ x.2.1 = e) → R.length ≤ 1 → Loc w0 m0 W (hidTo m0 W.heap.size) (Ls ++ R) := by
    intro R hR h1
    refine ⟨hL.size0, hL.ext, hidTo_ext hs, ⟨hL.mext.os.symm.trans hL.vw.os, hL.mext.tape.symm.trans hL.vw.tape, hL.mext.output.symm.trans hL.vw.output, hidTo_size hs, fun a u hu => ?_⟩, fun x hx => ?_, fun x hx => ?_, fun x hx a ha => ?_, ?_⟩
    · rcases Nat.lt_or_ge a.block m0.heap.size with h | h
      · rw [cell_of_heap (hidTo_old h)] at hu
        exact hL.vw.cell _ _ (hL.mext.le.cell _ _ hu)
      · rw [hidTo_new h] at hu; cases hu
    · rcases List.mem_append.1 hx with hx | hx
      · exact hL.low x hx
      · exact (hR x hx).1
    · rcases List.mem_append.1 hx with hx | hx
      · exact hL.blk x hx
      · exact (hR x hx).2.1
    · refine hidTo_new ?_
      rw [ha, hL.size0]
      rcases List.mem_append.1 hx with hx | hx
      · exact hL.low x hx
      · exact (hR x hx).1
    · refine List.pairwise_append.2 ⟨hL.apart, ?_, fun x hx y hy => ?_⟩
      · match R, h1 with
        | [], _ => exact List.Pairwise.nil
        | [x], _ => exact List.pairwise_singleton _ _
      · refine blk_ne (hL.blk x hx) (hR y hy).2.1 (.inl ?_)
        rw [(hR y hy).2.2]
        exact hne x hx
  obtain ⟨h1, ⟨rfl, rfl⟩ | ⟨g, cap, cur, rfl, h4, h5, h6⟩⟩ := ho
  · exact ⟨[], _, key [] (fun _ h => by cases h) (by simp), h1, .inl ⟨rfl, rfl, rfl⟩⟩
  · refine ⟨[(g, e, cur)], _, key _ (fun x hx => ?_) (by simp), h1, .inr ⟨g, cap, cur, rfl, rfl, h6⟩⟩
    rcases List.mem_singleton.1 hx with rfl
    exact ⟨Nat.le_trans hB h4, h5, rfl⟩

theorem Tn.add {k l : Nat} {p q : Rat} (h : Tn k p) (h' : Tn l q) : Tn (2 * (k * l)) (p + q) := by
  rw [rat_add]
  have a1 := h.1
  have a2 := h.2
  have b1 := h'.1
  have b2 := h'.2
  have c1 : p.num.natAbs * q.den ≤ k * l := Nat.mul_le_mul a1 b2
  have c2 : q.num.natAbs * p.den ≤ k * l := by rw [Nat.mul_comm k l]; exact Nat.mul_le_mul b1 a2
  have c3 : p.den * q.den ≤ k * l := Nat.mul_le_mul a2 b2
  refine Tn.divInt (Int.mul_pos (by have := p.den_pos; omega) (by have := q.den_pos; omega)) ?_ ?_
  · refine Nat.le_trans (Int.natAbs_add_le _ _) ?_
    rw [Int.natAbs_mul, Int.natAbs_mul]
    simp only [Int.natAbs_natCast]
    omega
  · have : ((p.den : Int) * (q.den : Int)) = ((p.den * q.den : Nat) : Int) := by simp
    rw [this]
    omega
theorem masF_cuts (l : List Int) : (masF l).cuts.length ≤ 2 ∧ ∀ c ∈ (masF l).cuts, c.1.length ≤ 5 := by
  have h0 := atF_bd l 1 (by omega)
  have h3 := atF_bd l 3 (by omega)
  have h1 : (atF l 1 % 6).toNat < 6 := by omega
  have hr : (rowsF l).length ≤ 5 := (rowsT_len ⟨_, h1⟩).2
  constructor
  · show ((List.range _).map _).length ≤ 2
    simp only [List.length_map, List.length_range]
    omega
  · intro c hc
    obtain ⟨k, _, rfl⟩ := List.mem_map.1 hc
    exact Nat.le_trans (cutT_len _ _ _) hr
theorem prF_tn (x : Ms) (l : List Int) : (prF x l).tn := by
  constructor
  · intro q hq
    obtain ⟨i, _, rfl⟩ := List.mem_map.1 hq
    have h3 : Tn 3 ((3 : Int) : Rat) := Tn.int (by decide) (by decide)
    have := h3.mul (frT (atF l i))
    exact ⟨Nat.le_trans this.1 (by decide), Nat.le_trans this.2 (by decide)⟩
  · intro q hq
    obtain ⟨i, _, rfl⟩ := List.mem_map.1 hq
    have := (frT (atF l (10 + i))).negF
    exact ⟨Nat.le_trans this.1 (by decide), Nat.le_trans this.2 (by decide)⟩
theorem cdG_len (l : List Int) (n : Nat) : (cdG l n).length = n := by simp [cdG]
theorem flG_len (l : List Int) (n : Nat) : (flG l n).length = n := by simp [flG]
theorem prF_de (x : Ms) (l : List Int) : (prF x l).de.length ≤ 2 := by
  have h := atF_bd l 20 (by omega)
  exact Nat.le_trans (deG_len l _) (by omega)
end Go.Proofs.YtmhkmmmompediaaGreat

/- How an argument of integers is opened. -/
namespace Go.Proofs.YtmhkmmmompediaaGreat
open Go.ChangeShapes Go.WideShapes Go.ChangeAt Go.RowKit

theorem ownK : ownKnob Tryz.prog.godebug = none := by kernel_rfl
theorem laidO : laidOutB Tryz.prog = true := by kernel_rfl
theorem cells_int : Tryz.prog.cellsOf 3 = 1 := by kernel_rfl

set_option maxRecDepth 100000 in
theorem arg_ints {H : Type} {enc : TypeId × Value → H} {W : World} {base : Nat} {v : Value} {d : DataW H} {p : List MemPlace} (hv : Value.okWide Tryz.prog W .any base 22 v)
    (h : DataW.Trod enc Tryz.prog W 0 (fun _ => true) true 22 v d p) : ∃ A c, ∃ l : List Int, v = .slice A l.length c ∧ Sl W A (l.map I64) := by
  obtain ⟨a0, len, cap, rfl⟩ := okWide_slice Tryz.underlying22 hv
  obtain ⟨fuel, hf⟩ := h
  rcases open_ints Tryz.underlying22 Tryz.underlying3 cells_int hf with ⟨hcs, _⟩ | ⟨a, len', cap', zs, hcs, _, hle, _, hall, _, hcell, _⟩
  · simp [Value.cells] at hcs
    obtain ⟨rfl, rfl, rfl⟩ := hcs
    exact ⟨none, 0, [], rfl, Sl.nil⟩
  · simp [Value.cells] at hcs
    obtain ⟨rfl, rfl, rfl⟩ := hcs
    simp only [if_true] at hall
    have hl : (zs.take len).length = len := by rw [List.length_take]; omega
    refine ⟨some a, cap, zs.take len, by rw [hl], fun h0 => ?_⟩
    have h1 : 0 < zs.length := by simp at h0; omega
    obtain ⟨b, off, rfl, hc⟩ := ints_at hcell h1
    refine ⟨b, off, rfl, World.block_lt_of_cell? W _ (hc 0 h1), fun j u hu => ?_⟩
    rw [List.getElem?_map, List.getElem?_take] at hu
    by_cases hj : j < len
    · rw [if_pos hj] at hu
      have hjz : j < zs.length := by omega
      rw [List.getElem?_eq_getElem hjz] at hu
      simp at hu
      rw [hc j hjz, ← hu, List.getD_eq_getElem?_getD, List.getElem?_eq_getElem hjz]; rfl
    · rw [if_neg hj] at hu; simp at hu

theorem wf_bd {n : Int} (h : (Lit.int .i64 n).wf = true) : -9223372036854775808 ≤ n ∧ n ≤ 9223372036854775807 := by
  simp [Lit.wf, IntKind.min, IntKind.max, IntKind.signed, IntKind.bits] at h
  omega
end Go.Proofs.YtmhkmmmompediaaGreat

/- Contracts of integer.mulMag, Mul for numbers of one digit; integer.Compare. -/
namespace Go.Proofs.YtmhkmmmompediaaGreat
open Go.RowKit

theorem ap_digits : apS Tryz.prog 35 = some (102, 1, 4, 1) := by kernel_rfl
instance iA1_1 : ApC Tryz.prog 35 102 1 4 := ⟨ap_digits⟩
theorem lf_u32 : lfB Tryz.prog 102 = true := by kernel_rfl
instance iA1_2 : LfC Tryz.prog 102 := ⟨lf_u32⟩
theorem t_ix0 {P : Program} {ops : Array Oper} {Q : Exit → Act → World → Prop} {rest : List Oper} {o : Oper} {a : Act} {W : World} {t : TypeId} {s i : Operand} (ho : o.op = .indexAddr t s i) {e : TypeId} {size bytes : Nat} [hap : ApC P t e size bytes] {b off n c : Nat} {kd : IntKind} (hs : a.eval s = .slice (some ⟨b, off, none⟩) n c) (hi : a.eval i = .int kd 0)
    (h : wpList P ops Q rest (a.put o.dst (.pointer (some ⟨b, off, none⟩))) W) (hk : 0 < n := by omega)
    (hw : Region.wanted o (yielded ops a.tmps) = true := by first | exact wanted_none rfl | exact wanted_some rfl rfl rfl rfl) : wpList P ops Q (o :: rest) a W :=
  wl_indexAddr (k := 0) hw ho hap.h hs hi hk (by rw [Nat.zero_mul, Nat.add_zero]; exact h)
theorem sIz {G : Prop} (h : G := by refine t_ix0 rfl rfl rfl ?_; simp only [Act.put, zq1, zq2, zq3]; refine One2.still hV ?_; exact rfl) : G := h
theorem digs_len_pos {n : Nat} (h : n ≠ 0) : 0 < (digs n).length := by
  have := mt digs_nil.1 h
  exact List.length_pos_iff.2 this
theorem mul32 {x y : Nat} (hx : x < 4294967296) (hy : y < 4294967296) : x * y < 18446744073709551616 := by
  have := mul_lt_sq hx hy; omega
theorem prod_wrap {x y : Nat} (hx : x < 4294967296) (hy : y < 4294967296) : IntKind.u64.wrap ((x : Int) * (y : Int)) = ((x * y : Nat) : Int) := by
  have h := mul32 hx hy
  have e : (x : Int) * (y : Int) = ((x * y : Nat) : Int) := by simp
  rw [e]
  exact wrap64_nat _ h

set_option maxRecDepth 100000 in
set_option maxHeartbeats 8000000 in
theorem i_mulMag1 (a b : Value) (x y : Nat) (w m : World) (hV : Vw m w) (ha : DigV m a (digs x)) (hb : DigV m b (digs y)) (hx : x < 4294967296) (hy : y < 4294967296) :
    Calls Tryz.prog 181 #[a, b] w (RetV w m fun m' r => DigV m' r (digs (x * y))) := by
  have hL := Loc.start hV
  clear hV
  by_cases h0 : x = 0
  · subst h0
    rw [digs_zero] at ha
    rw [Nat.zero_mul, digs_zero]
    obtain ⟨A, c, rfl, -⟩ := ha.lit
    obtain ⟨B, d, rfl, -⟩ := hb.lit
    clear ha hb hx hy
    generalize (digs y).length = n
    simp only [List.length_nil]
    go_enter Tryz.func181, Tryz.ntmps181
    go_wp2_with (first | ((with_reducible refine kAny ?_); go_skip) | (with_reducible refine stA ?_) | ((first | refine tIx ?_ | refine tLd ?_ | ((first | refine tSr ?_ | refine tSt ?_); clear hL; intro _ hL; simp only [splice, zq1, zq2, zq3] at hL)); simp only [Act.put, zq1, zq2, zq3]))
    go_ret
    exact RetV.mk hL ⟨none, 0, rfl, Nat.le_refl _, Sl.nil⟩
  · by_cases h1 : y = 0
    · subst h1
      rw [digs_zero] at hb
      rw [Nat.mul_zero, digs_zero]
      have hp := digs_len_pos h0
      obtain ⟨A, c, rfl, -⟩ := ha.lit
      obtain ⟨B, d, rfl, -⟩ := hb.lit
      clear ha hb hx hy
      generalize (digs x).length = n at *
      have b0 : ((n : Int) == 0) = false := by simp; omega
      simp only [List.length_nil]
      go_enter Tryz.func181, Tryz.ntmps181
      go_wp2_with (first | ((with_reducible refine kAny ?_); go_skip) | (with_reducible refine stA ?_) | ((first | refine tIx ?_ | refine tLd ?_ | ((first | refine tSr ?_ | refine tSt ?_); clear hL; intro _ hL; simp only [splice, zq1, zq2, zq3] at hL)); simp only [Act.put, zq1, zq2, zq3]))
      go_ret
      exact RetV.mk hL ⟨none, 0, rfl, Nat.le_refl _, Sl.nil⟩
    · rw [digs_small h0 hx] at ha
      rw [digs_small h1 hy] at hb
      obtain ⟨A, c, rfl, hc, sa⟩ := ha
      obtain ⟨B, d, rfl, hd, sb⟩ := hb
      obtain ⟨b1, o1, rfl, -, hc1⟩ := sa.at_ (k := 0) (by simp)
      obtain ⟨b2, o2, rfl, -, hc2⟩ := sb.at_ (k := 0) (by simp)
      simp only [List.map_cons, List.map_nil, List.getElem_cons_zero, U, List.length_cons, List.length_nil, Nat.zero_add, Nat.add_zero] at *
      have HP := Lib.hid (prod_wrap hx hy)
      have HM := Lib.hid (mul32 hx hy)
      have w1 := wrap64_small x hx
      have w2 := wrap64_small y hy
      clear hx hy h0 h1 hc hd sa sb
      go_enter Tryz.func181, Tryz.ntmps181
      go_upto_region 4 with ((first | ((with_reducible refine kAny ?_); go_skip) | (with_reducible refine stA ?_) | ((first | refine tIx ?_ | refine tLd ?_ | ((first | refine tSr ?_ | refine tSt ?_); clear hL; intro _ hL; simp only [splice, zq1, zq2, zq3] at hL)); simp only [Act.put, zq1, zq2, zq3])))
      refine wp_region_by2 10 [false, false, false, false, false, false, false, false, false, false] [false, false, false, false, false, false, false, false, false, false] [(fun v _ _ => v = ?c4_0), (fun v _ _ => v = ?c4_1), (fun v _ _ => v = ?c4_2), (fun v _ _ => v = ?c4_3), (fun v _ _ => v = ?c4_4), (fun v _ _ => v = ?c4_5), (fun v _ _ => v = ?c4_6), (fun v _ _ => v = ?c4_7), (fun v _ _ => v = ?c4_8), Of (fun um v => DigV um v (digs (x * y)))] hL.vw mixed [28, 29, 30, 31, 32, 33, 34, 35, 36, 37] _ (by kernel_rfl) (fun vs => by simp only [lay, Act.put, zq1, zq2, zq3]; rfl) (by kernel_rfl) (by decide) (by decide) ?s4 ?l4 ?r4
      case s4 =>
        refine ⟨?_, ?_, ?_, ?_, ?_, ?_, ?_, ?_, ?_, ?_, trivial⟩
        · intro vs W1 m1 hE hM hV hD; clear hD; replace hL := hL.call hE hM hV
          exact sPu
        · intro vs W1 m1 hE hM hV hD; obtain ⟨⟨_, _, -, -, f28⟩, -⟩ := hD; have f28 : vs 28 = _ := f28; generalize vs 28 = x28 at f28 ⊢; subst x28; replace hL := hL.call hE hM hV
          exact sIz
        · intro vs W1 m1 hE hM hV hD; obtain ⟨⟨_, _, -, -, f29⟩, -⟩ := hD; have f29 : vs 29 = _ := f29; generalize vs 29 = x29 at f29 ⊢; subst x29; replace hL := hL.call hE hM hV
          exact sLd
        · intro vs W1 m1 hE hM hV hD; obtain ⟨⟨_, _, -, -, f30⟩, -⟩ := hD; have f30 : vs 30 = _ := f30; generalize vs 30 = x30 at f30 ⊢; subst x30; replace hL := hL.call hE hM hV
          exact sPu
        · intro vs W1 m1 hE hM hV hD; clear hD; replace hL := hL.call hE hM hV
          exact sPu
        · intro vs W1 m1 hE hM hV hD; obtain ⟨⟨_, _, -, -, f32⟩, -⟩ := hD; have f32 : vs 32 = _ := f32; generalize vs 32 = x32 at f32 ⊢; subst x32; replace hL := hL.call hE hM hV
          exact sIz
        · intro vs W1 m1 hE hM hV hD; obtain ⟨⟨_, _, -, -, f33⟩, -⟩ := hD; have f33 : vs 33 = _ := f33; generalize vs 33 = x33 at f33 ⊢; subst x33; replace hL := hL.call hE hM hV
          exact sLd
        · intro vs W1 m1 hE hM hV hD; obtain ⟨⟨_, _, -, -, f34⟩, -⟩ := hD; have f34 : vs 34 = _ := f34; generalize vs 34 = x34 at f34 ⊢; subst x34; replace hL := hL.call hE hM hV
          exact sPu
        · intro vs W1 m1 hE hM hV hD; obtain ⟨⟨_, _, -, -, f31⟩, ⟨_, _, -, -, f35⟩, -⟩ := hD; have f31 : vs 31 = _ := f31; generalize vs 31 = x31 at f31 ⊢; subst x31; have f35 : vs 35 = _ := f35; generalize vs 35 = x35 at f35 ⊢; subst x35; replace hL := hL.call hE hM hV
          exact sPu
        · intro vs W1 m1 hE hM hV hD; obtain ⟨⟨_, _, -, -, f36⟩, -⟩ := hD; have f36 : vs 36 = _ := f36; generalize vs 36 = x36 at f36 ⊢; subst x36
          go_wp2_with fail
          refine (i_fromWordI _ (x * y) _ _ hV (by first | exact HP.out | simp) HM.out).mono ?_
          rintro e W2 ⟨v, m2, rfl, hE2, hM2, hV2, h⟩
          go_wp2_with fail
          refine One2.call hE2 hM2 hV2 ?_; first | exact h | exact rfl
      case l4 =>
        refine ⟨fun h => (by cases h), fun h => (by cases h), fun h => (by cases h), fun h => (by cases h), fun h => (by cases h), fun h => (by cases h), fun h => (by cases h), fun h => (by cases h), fun h => (by cases h), fun h => (by cases h), trivial⟩
      intro vs W1 m1 hE hM hV hF hD
      clear hD
      obtain ⟨-, -, -, -, -, -, -, -, -, ⟨_, _, -, i37, f37⟩, -⟩ := hF
      replace hL := hL.call hE hM hV
      replace f37 : DigV _ (vs 37) (digs (x * y)) := f37
      replace f37 := f37.le i37.le
      clear i37
      clear hE hV
      simp only [List.drop_succ_cons, List.drop_zero]
      go_wp2_with (first | ((with_reducible refine kAny ?_); go_skip) | (with_reducible refine stA ?_) | ((first | refine tIx ?_ | refine tLd ?_ | ((first | refine tSr ?_ | refine tSt ?_); clear hL; intro _ hL; simp only [splice, zq1, zq2, zq3] at hL)); simp only [Act.put, zq1, zq2, zq3]))
      refine QN.mk ?_
      obtain ⟨A7, c7, e7, f37⟩ := f37.lit
      generalize vs 37 = x7 at e7 ⊢
      subst x7
      go_wp2_with (first | ((with_reducible refine kAny ?_); go_skip) | (with_reducible refine stA ?_) | ((first | refine tIx ?_ | refine tLd ?_ | ((first | refine tSr ?_ | refine tSt ?_); clear hL; intro _ hL; simp only [splice, zq1, zq2, zq3] at hL)); simp only [Act.put, zq1, zq2, zq3]))
      go_ret
      exact RetV.mk hL f37
end Go.Proofs.YtmhkmmmompediaaGreat

/- Contracts of rational.smallWord, smallParts, small where a number has two digits or more. -/
namespace Go.Proofs.YtmhkmmmompediaaGreat
open Go.RowKit

set_option maxRecDepth 100000 in
set_option maxHeartbeats 8000000 in
theorem q_smallWordF (g : Bool) (A : Option Addr) (n c : Nat) (w m : World) (hV : Vw m w) (hn : 2 ≤ n) :
    Calls Tryz.prog 203 #[.agg #[.bool g, .slice A n c]] w (RetV w m fun _ r => r = .tuple #[.int .i64 0, .bool false]) := by
  have b0 : ((n : Int) == 0) = false := by simp; omega
  have b1 : ((n : Int) == 1) = false := by simp; omega
  have hL := Loc.start hV
  clear hV hn
  go_enter Tryz.func203, Tryz.ntmps203
  go_wp2_with (first | ((with_reducible refine kAny ?_); go_skip) | (with_reducible refine stA ?_) | ((first | refine tIx ?_ | refine tFd ?_ | refine tLd ?_ | (refine tBx ?_; clear hL; intro _ _ hL _)); simp only [Act.put, zq1, zq2, zq3]))
  go_ret2
  exact RetV.mk hL rfl
set_option maxRecDepth 100000 in
set_option maxHeartbeats 8000000 in
theorem q_smallPartsF (g : Bool) (A : Option Addr) (n c : Nat) (g' : Bool) (B : Option Addr) (k d : Nat) (w m : World) (hV : Vw m w) (hk : 2 ≤ k) :
    Calls Tryz.prog 177 #[.agg #[.bool g, .slice A n c, .bool g', .slice B k d]] w (RetV w m fun _ r => r = .tuple #[.agg #[.int .i64 0, .int .i64 0], .bool false]) := by
  have hL := Loc.start hV
  clear hV
  go_enter Tryz.func177, Tryz.ntmps177
  go_wp2_with (first | ((with_reducible refine kAny ?_); go_skip) | (with_reducible refine stA ?_) | ((first | refine tFd ?_ | refine tLd ?_ | ((first | refine tSr ?_ | refine tSt ?_); clear hL; intro _ hL; simp only [splice, zq1, zq2, zq3] at hL) | ((first | refine tBx ?_ | refine tAl ?_); clear hL; intro _ _ hL _)); simp only [Act.put, zq1, zq2, zq3]))
  refine (q_smallWordF _ _ _ _ _ _ hL.vw hk).mono ?_
  rintro e W1 ⟨_, m1, rfl, hE, hM1, hV, rfl⟩
  replace hL := hL.call hE (by assumption) hV; clear hE hV
  go_wp2_with (first | ((with_reducible refine kAny ?_); go_skip) | (with_reducible refine stA ?_) | ((first | refine tFd ?_ | refine tLd ?_ | ((first | refine tSr ?_ | refine tSt ?_); clear hL; intro _ hL; simp only [splice, zq1, zq2, zq3] at hL) | ((first | refine tBx ?_ | refine tAl ?_); clear hL; intro _ _ hL _)); simp only [Act.put, zq1, zq2, zq3]))
  obtain ⟨p1, p2, _⟩ := (hL.at_ lo0).facts2
  exact bodyPost_ret (v := .tuple #[.agg #[.int .i64 0, .int .i64 0], .bool false]) (by simp [results, Tryz.results177, go_sem, p1, p2]) rfl (RetV.mk hL rfl)
def SPart (m : World) (v : Value) (p q : Int) (ok : Bool) : Prop := (∃ a b c d, v = .agg #[a, b, c, d]) ∧ ∀ w m', Vw m' w → Le m m' → Calls Tryz.prog 177 #[v] w (RetV w m' fun _ r => r = .tuple #[.agg #[.int .i64 p, .int .i64 q], .bool ok])

set_option maxRecDepth 100000 in
set_option maxHeartbeats 8000000 in
theorem q_smallT (a b : Value) (p q p' q' : Int) (ok : Bool) (w m : World) (hV : Vw m w) (ha : SPart m a p q true) (hb : SPart m b p' q' ok) :
    Calls Tryz.prog 133 #[a, b] w (RetV w m fun _ r => r = .tuple #[.agg #[.int .i64 p, .int .i64 q], .agg #[.int .i64 p', .int .i64 q'], .bool ok]) := by
  obtain ⟨⟨a1, a2, a3, a4, rfl⟩, KA⟩ := ha
  obtain ⟨⟨b1, b2, b3, b4, rfl⟩, KB⟩ := hb
  have HA := Lib.hid KA
  have HB := Lib.hid KB
  have hL := Loc.start hV
  clear hV KA KB
  go_enter Tryz.func133, Tryz.ntmps133
  go_upto_region 0 with (fail)
  refine wp_region_lit ?_
  refine t_box hL rfl rfl ?_; clear hL; intro W2 m2 hL e2; simp only [Act.put, zq1, zq2, zq3]
  refine t_box hL rfl rfl ?_; clear hL; intro W3 m3 hL e3; simp only [Act.put, zq1, zq2, zq3]
  refine t_alloc hL rfl ?_; clear hL; intro W4 m4 hL e4; simp only [Act.put, zq1, zq2, zq3]
  refine t_alloc hL rfl ?_; clear hL; intro W5 m5 hL e5; simp only [Act.put, zq1, zq2, zq3]
  go_wp2_with (first | ((with_reducible refine kAny ?_); go_skip) | (with_reducible refine stA ?_) | ((first | refine tLd ?_ | ((first | refine tSr ?_ | refine tSt ?_); clear hL; intro _ hL; simp only [splice, zq1, zq2, zq3] at hL) | ((first | refine tBx ?_ | refine tAl ?_); clear hL; intro _ _ hL _)); simp only [Act.put, zq1, zq2, zq3]))
  refine (HA.out _ _ hL.vw leX).mono ?_
  rintro e W11 ⟨_, m11, rfl, hE, hM11, hV, rfl⟩
  replace hL := hL.call hE (by assumption) hV; clear hE hV
  go_wp2_with (first | ((with_reducible refine kAny ?_); go_skip) | (with_reducible refine stA ?_) | ((first | refine tLd ?_ | ((first | refine tSr ?_ | refine tSt ?_); clear hL; intro _ hL; simp only [splice, zq1, zq2, zq3] at hL) | ((first | refine tBx ?_ | refine tAl ?_); clear hL; intro _ _ hL _)); simp only [Act.put, zq1, zq2, zq3]))
  refine (HB.out _ _ hL.vw leX).mono ?_
  rintro e W12 ⟨_, m12, rfl, hE, hM12, hV, rfl⟩
  replace hL := hL.call hE (by assumption) hV; clear hE hV
  go_upto_region 5 with ((first | ((with_reducible refine kAny ?_); go_skip) | (with_reducible refine stA ?_) | ((first | refine tLd ?_ | ((first | refine tSr ?_ | refine tSt ?_); clear hL; intro _ hL; simp only [splice, zq1, zq2, zq3] at hL) | ((first | refine tBx ?_ | refine tAl ?_); clear hL; intro _ _ hL _)); simp only [Act.put, zq1, zq2, zq3])))
  have B0 := hL.at_ lo0
  have B1 := hL.at_ lo1
  obtain ⟨q1, q2, q3, q4⟩ := B0.facts2
  obtain ⟨q5, q6, q7, q8⟩ := B1.facts2
  obtain ⟨n1, n2⟩ := hL.ne lo0 lo1 (by omega)
  go_region_held3 (fun w' => w'.cell? ⟨W4.heap.size, 0, none⟩ = some (.int .i64 p') ∧ w'.cell? ⟨W4.heap.size, 1, none⟩ = some (.int .i64 q') ∧ w'.cell? ⟨W3.heap.size, 0, none⟩ = some (.int .i64 p) ∧ w'.cell? ⟨W3.heap.size, 1, none⟩ = some (.int .i64 q))
    ((first
      | (have X1 := (B1.set2 (.int .i64 p) (.int .i64 q)).drew.facts2; have X0 := (B0.far2 n1 (.int .i64 p) (.int .i64 q)).drew.facts2; exact ⟨X0.1, X0.2.1, X1.1, X1.2.1⟩)
      | (have X1 := ((B1.set2 (.int .i64 p) (.int .i64 q)).far2 n2 (.int .i64 p') (.int .i64 q')).drew.facts2; have X0 := ((B0.far2 n1 (.int .i64 p) (.int .i64 q)).set2 (.int .i64 p') (.int .i64 q')).drew.facts2; exact ⟨X0.1, X0.2.1, X1.1, X1.2.1⟩)
      | go_keep)) (fail)
  go_wp2_with fail
  refine bodyPost_ret (v := .tuple #[.agg #[.int .i64 p, .int .i64 q], .agg #[.int .i64 p', .int .i64 q'], .bool ok]) (by have X1 := ((B1.set2 (.int .i64 p) (.int .i64 q)).far2 n2 (.int .i64 p') (.int .i64 q')).facts2; have X0 := ((B0.far2 n1 (.int .i64 p) (.int .i64 q)).set2 (.int .i64 p') (.int .i64 q')).facts2; obtain ⟨y1, y2, _⟩ := X0; obtain ⟨y3, y4, _⟩ := X1; simp [results, Tryz.results133, go_sem, y1, y2, y3, y4]) rfl (RetV.mk ((hL.drew.store lo1 0 [.int .i64 p, .int .i64 q]).store lo0 0 [.int .i64 p', .int .i64 q']) rfl)
set_option maxRecDepth 100000 in
set_option maxHeartbeats 8000000 in
theorem q_smallE (a b : Value) (p q : Int) (w m : World) (hV : Vw m w) (ha : SPart m a p q false) (hb : ∃ b1 b2 b3 b4, b = .agg #[b1, b2, b3, b4]) :
    Calls Tryz.prog 133 #[a, b] w (RetV w m fun _ r => r = .tuple #[.agg #[.int .i64 p, .int .i64 q], .agg #[.int .i64 0, .int .i64 0], .bool false]) := by
  obtain ⟨⟨a1, a2, a3, a4, rfl⟩, KA⟩ := ha
  obtain ⟨b1, b2, b3, b4, rfl⟩ := hb
  have HA := Lib.hid KA
  have hL := Loc.start hV
  clear hV KA
  go_enter Tryz.func133, Tryz.ntmps133
  go_upto_region 0 with (fail)
  refine wp_region_lit ?_
  refine t_box hL rfl rfl ?_; clear hL; intro W2 m2 hL e2; simp only [Act.put, zq1, zq2, zq3]
  refine t_box hL rfl rfl ?_; clear hL; intro W3 m3 hL e3; simp only [Act.put, zq1, zq2, zq3]
  refine t_alloc hL rfl ?_; clear hL; intro W4 m4 hL e4; simp only [Act.put, zq1, zq2, zq3]
  refine t_alloc hL rfl ?_; clear hL; intro W5 m5 hL e5; simp only [Act.put, zq1, zq2, zq3]
  go_wp2_with (first | ((with_reducible refine kAny ?_); go_skip) | (with_reducible refine stA ?_) | ((first | refine tLd ?_ | ((first | refine tSr ?_ | refine tSt ?_); clear hL; intro _ hL; simp only [splice, zq1, zq2, zq3] at hL) | ((first | refine tBx ?_ | refine tAl ?_); clear hL; intro _ _ hL _)); simp only [Act.put, zq1, zq2, zq3]))
  refine (HA.out _ _ hL.vw leX).mono ?_
  rintro e W11 ⟨_, m11, rfl, hE, hM11, hV, rfl⟩
  replace hL := hL.call hE (by assumption) hV; clear hE hV
  go_upto_region 3 with ((first | ((with_reducible refine kAny ?_); go_skip) | (with_reducible refine stA ?_) | ((first | refine tLd ?_ | ((first | refine tSr ?_ | refine tSt ?_); clear hL; intro _ hL; simp only [splice, zq1, zq2, zq3] at hL) | ((first | refine tBx ?_ | refine tAl ?_); clear hL; intro _ _ hL _)); simp only [Act.put, zq1, zq2, zq3])))
  have B0 := hL.at_ lo0
  have B1 := hL.at_ lo1
  obtain ⟨q1, q2, q3, q4⟩ := B0.facts2
  obtain ⟨q5, q6, q7, q8⟩ := B1.facts2
  obtain ⟨n1, n2⟩ := hL.ne lo0 lo1 (by omega)
  go_region_held3 (fun w' => w'.cell? ⟨W4.heap.size, 0, none⟩ = some (.int .i64 0) ∧ w'.cell? ⟨W4.heap.size, 1, none⟩ = some (.int .i64 0) ∧ w'.cell? ⟨W3.heap.size, 0, none⟩ = some (.int .i64 p) ∧ w'.cell? ⟨W3.heap.size, 1, none⟩ = some (.int .i64 q))
    ((first
      | (have X1 := (B1.set2 (.int .i64 p) (.int .i64 q)).drew.facts2; have X0 := (B0.far2 n1 (.int .i64 p) (.int .i64 q)).drew.facts2; exact ⟨X0.1, X0.2.1, X1.1, X1.2.1⟩)
      | (have X1 := ((B1.set2 (.int .i64 p) (.int .i64 q)).far2 n2 (.int .i64 0) (.int .i64 0)).drew.facts2; have X0 := ((B0.far2 n1 (.int .i64 p) (.int .i64 q)).set2 (.int .i64 0) (.int .i64 0)).drew.facts2; exact ⟨X0.1, X0.2.1, X1.1, X1.2.1⟩)
      | go_keep)) (fail)
  go_wp2_with fail
  refine bodyPost_ret (v := .tuple #[.agg #[.int .i64 p, .int .i64 q], .agg #[.int .i64 0, .int .i64 0], .bool false]) (by have X1 := ((B1.set2 (.int .i64 p) (.int .i64 q)).far2 n2 (.int .i64 0) (.int .i64 0)).facts2; have X0 := ((B0.far2 n1 (.int .i64 p) (.int .i64 q)).set2 (.int .i64 0) (.int .i64 0)).facts2; obtain ⟨y1, y2, _⟩ := X0; obtain ⟨y3, y4, _⟩ := X1; simp [results, Tryz.results133, go_sem, y1, y2, y3, y4]) rfl (RetV.mk ((hL.drew.store lo1 0 [.int .i64 p, .int .i64 q]).store lo0 0 [.int .i64 0, .int .i64 0]) rfl)
end Go.Proofs.YtmhkmmmompediaaGreat

/- Contract of integer.Mul for numbers of one digit. -/
namespace Go.Proofs.YtmhkmmmompediaaGreat
open Go.RowKit

theorem sgn_self {x : Int} {g : Bool} (h : x ≠ 0 → g = decide (x < 0)) : sgn g x.natAbs = x := by
  by_cases hx : x = 0
  · subst hx; cases g <;> rfl
  · rw [h hx]; exact sgn_canon x
theorem sgn_prod (g1 g2 : Bool) (a b : Nat) : sgn (g1 != g2) (a * b) = sgn g1 a * sgn g2 b := by
  cases g1 <;> cases g2 <;> simp [sgn, Int.neg_mul, Int.mul_neg]
theorem sgn_mul {x y : Int} {g1 g2 : Bool} (h1 : x ≠ 0 → g1 = decide (x < 0)) (h2 : y ≠ 0 → g2 = decide (y < 0)) : sgn (g1 != g2) (x.natAbs * y.natAbs) = x * y := by
  rw [sgn_prod, sgn_self h1, sgn_self h2]
theorem i_wrapE (g : Bool) (v : Value) (n : Nat) (z : Int) (w m : World) (hV : Vw m w) (h : DigA m v n) (hz : Hid (sgn g n = z)) : Calls Tryz.prog 180 #[.bool g, v] w (RetV w m fun m' r => IntC m' r z) := by
  have := i_wrap g v n w m hV h
  rwa [hz.out] at this
set_option maxRecDepth 100000 in
set_option maxHeartbeats 8000000 in
theorem i_Mul (a b : Value) (x y : Int) (w m : World) (hV : Vw m w) (ha : IntV m a x) (hb : IntV m b y) (hx : x.natAbs < 4294967296) (hy : y.natAbs < 4294967296) :
    Calls Tryz.prog 139 #[a, b] w (RetV w m fun m' r => IntC m' r (x * y)) := by
  obtain ⟨g1, A1, l1, c1, rfl⟩ := ha.lit
  obtain ⟨g2, A2, l2, c2, rfl⟩ := hb.lit
  obtain ⟨d1, hg1⟩ := ha.digA
  obtain ⟨d2, hg2⟩ := hb.digA
  have HE := Lib.hid (sgn_mul hg1 hg2)
  have HX := Lib.hid hx
  have HY := Lib.hid hy
  have HL : Hid ((digs (x.natAbs * y.natAbs)).length ≤ 1000) := Nat.le_trans (len2 (mul32 hx hy)) (by decide)
  clear hx hy hg1 hg2 ha hb
  have hL := Loc.start hV
  clear hV
  obtain ⟨g, b9⟩ : ∃ g, (g1 != g2) = g := ⟨_, rfl⟩
  have b8 : (!(g1 == g2)) = g := b9
  rw [b9] at HE
  go_enter Tryz.func139, Tryz.ntmps139
  go_upto_region 1 with ((first | ((with_reducible refine kAny ?_); go_skip) | (with_reducible refine stA ?_) | ((first | refine tFd ?_ | refine tLd ?_ | ((first | refine tSr ?_ | refine tSt ?_); clear hL; intro _ hL; simp only [splice, zq1, zq2, zq3] at hL) | ((first | refine tBx ?_ | refine tAl ?_); clear hL; intro _ _ hL _)); simp only [Act.put, zq1, zq2, zq3])))
  refine wp_region_by2 13 [false, false, false, false, false, false, false, false, false, false, false, false, false] [false, false, false, false, false, false, false, false, false, false, false, false, false] [(fun v _ _ => v = ?c1_0), (fun v _ _ => v = ?c1_1), (fun v _ _ => v = ?c1_2), (fun v _ _ => v = ?c1_3), (fun v _ _ => v = ?c1_4), (fun v _ _ => v = ?c1_5), (fun v _ _ => v = ?c1_6), Of (fun um v => DigV um v (digs x.natAbs)), (fun v _ _ => v = ?c1_8), (fun v _ _ => v = ?c1_9), Of (fun um v => DigV um v (digs y.natAbs)), Of (fun um v => DigV um v (digs (x.natAbs * y.natAbs))), Of (fun um v => IntC um v (x * y))] hL.vw mixed [5, 6, 7, 8, 9, 10, 11, 12, 13, 14, 15, 16, 17] _ (by kernel_rfl) (fun vs => by simp only [lay, Act.put, zq1, zq2, zq3]; rfl) (by kernel_rfl) (by decide) (by decide) ?s1 ?l1 ?r1
  case s1 =>
    refine ⟨?_, ?_, ?_, ?_, ?_, ?_, ?_, ?_, ?_, ?_, ?_, ?_, ?_, trivial⟩
    · intro vs W1 m1 hE hM hV hD; clear hD; replace hL := hL.call hE hM hV
      exact sFd
    · intro vs W1 m1 hE hM hV hD; obtain ⟨⟨_, _, -, -, f5⟩, -⟩ := hD; have f5 : vs 5 = _ := f5; generalize vs 5 = x5 at f5 ⊢; subst x5; replace hL := hL.call hE hM hV
      exact sLd
    · intro vs W1 m1 hE hM hV hD; clear hD; replace hL := hL.call hE hM hV
      exact sFd
    · intro vs W1 m1 hE hM hV hD; obtain ⟨⟨_, _, -, -, f7⟩, -⟩ := hD; have f7 : vs 7 = _ := f7; generalize vs 7 = x7 at f7 ⊢; subst x7; replace hL := hL.call hE hM hV
      exact sLd
    · intro vs W1 m1 hE hM hV hD; obtain ⟨⟨_, _, -, -, f6⟩, ⟨_, _, -, -, f8⟩, -⟩ := hD; have f6 : vs 6 = _ := f6; generalize vs 6 = x6 at f6 ⊢; subst x6; have f8 : vs 8 = _ := f8; generalize vs 8 = x8 at f8 ⊢; subst x8; replace hL := hL.call hE hM hV
      exact sPu
    · intro vs W1 m1 hE hM hV hD; clear hD; replace hL := hL.call hE hM hV
      exact sFd
    · intro vs W1 m1 hE hM hV hD; obtain ⟨⟨_, _, -, -, f10⟩, -⟩ := hD; have f10 : vs 10 = _ := f10; generalize vs 10 = x10 at f10 ⊢; subst x10; replace hL := hL.call hE hM hV
      exact sLd
    · intro vs W1 m1 hE hM hV hD; obtain ⟨⟨_, _, -, -, f11⟩, -⟩ := hD; have f11 : vs 11 = _ := f11; generalize vs 11 = x11 at f11 ⊢; subst x11
      go_wp2_with fail
      refine (i_trim _ x.natAbs _ _ hV (d1.le leX)).mono ?_
      rintro e W2 ⟨v, m2, rfl, hE2, hM2, hV2, h⟩
      go_wp2_with fail
      refine One2.call hE2 hM2 hV2 ?_; first | exact h | exact rfl
    · intro vs W1 m1 hE hM hV hD; clear hD; replace hL := hL.call hE hM hV
      exact sFd
    · intro vs W1 m1 hE hM hV hD; obtain ⟨⟨_, _, -, -, f13⟩, -⟩ := hD; have f13 : vs 13 = _ := f13; generalize vs 13 = x13 at f13 ⊢; subst x13; replace hL := hL.call hE hM hV
      exact sLd
    · intro vs W1 m1 hE hM hV hD; obtain ⟨⟨_, _, -, -, f14⟩, -, -⟩ := hD; have f14 : vs 14 = _ := f14; generalize vs 14 = x14 at f14 ⊢; subst x14
      go_wp2_with fail
      refine (i_trim _ y.natAbs _ _ hV (d2.le leX)).mono ?_
      rintro e W2 ⟨v, m2, rfl, hE2, hM2, hV2, h⟩
      go_wp2_with fail
      refine One2.call hE2 hM2 hV2 ?_; first | exact h | exact rfl
    · intro vs W1 m1 hE hM hV hD; obtain ⟨⟨_, _, -, i12, f12⟩, ⟨_, _, -, i15, f15⟩, -, -⟩ := hD; have f12 : DigV _ (vs 12) (digs x.natAbs) := f12; replace f12 := f12.le i12.le; clear i12; have f15 : DigV _ (vs 15) (digs y.natAbs) := f15; replace f15 := f15.le i15.le; clear i15
      go_wp2_with fail
      refine (i_mulMag1 _ _ _ _ _ _ hV f12 f15 HX.out HY.out).mono ?_
      rintro e W2 ⟨v, m2, rfl, hE2, hM2, hV2, h⟩
      go_wp2_with fail
      refine One2.call hE2 hM2 hV2 ?_; first | exact h | exact rfl
    · intro vs W1 m1 hE hM hV hD; obtain ⟨⟨_, _, -, -, f9⟩, ⟨_, _, -, i16, f16⟩, -, -⟩ := hD; have f9 : vs 9 = _ := f9; generalize vs 9 = x9 at f9 ⊢; subst x9; have f16 : DigV _ (vs 16) (digs (x.natAbs * y.natAbs)) := f16; replace f16 := f16.le i16.le; clear i16
      go_wp2_with fail
      refine (i_wrapE _ _ _ (x * y) _ _ hV (f16.toA HL.out) HE).mono ?_
      rintro e W2 ⟨v, m2, rfl, hE2, hM2, hV2, h⟩
      go_wp2_with fail
      refine One2.call hE2 hM2 hV2 ?_; first | exact h | exact rfl
  case l1 =>
    refine ⟨fun h => (by cases h), fun h => (by cases h), fun h => (by cases h), fun h => (by cases h), fun h => (by cases h), fun h => (by cases h), fun h => (by cases h), fun h => (by cases h), fun h => (by cases h), fun h => (by cases h), fun h => (by cases h), fun h => (by cases h), fun h => (by cases h), trivial⟩
  intro vs W1 m1 hE hM hV hF hD
  clear hD
  obtain ⟨-, -, -, -, -, -, -, ⟨_, _, -, i12, f12⟩, -, -, ⟨_, _, -, i15, f15⟩, ⟨_, _, -, i16, f16⟩, ⟨_, _, -, i17, f17⟩, -⟩ := hF
  replace hL := hL.call hE hM hV
  replace f12 : DigV _ (vs 12) (digs x.natAbs) := f12
  replace f12 := f12.le i12.le
  clear i12
  replace f15 : DigV _ (vs 15) (digs y.natAbs) := f15
  replace f15 := f15.le i15.le
  clear i15
  replace f16 : DigV _ (vs 16) (digs (x.natAbs * y.natAbs)) := f16
  replace f16 := f16.le i16.le
  clear i16
  replace f17 : IntC _ (vs 17) (x * y) := f17
  replace f17 := f17.le i17.le
  clear i17
  obtain ⟨g17, A17, n17, c17, e17, f17⟩ := f17.lit
  generalize vs 17 = x17 at e17 ⊢
  subst x17
  clear hE hV
  simp only [List.drop_succ_cons, List.drop_zero]
  go_wp2_with (first | ((with_reducible refine kAny ?_); go_skip) | (with_reducible refine stA ?_) | ((first | refine tFd ?_ | refine tLd ?_ | ((first | refine tSr ?_ | refine tSt ?_); clear hL; intro _ hL; simp only [splice, zq1, zq2, zq3] at hL) | ((first | refine tBx ?_ | refine tAl ?_); clear hL; intro _ _ hL _)); simp only [Act.put, zq1, zq2, zq3]))
  refine QN.mk ?_
  go_wp2_with (first | ((with_reducible refine kAny ?_); go_skip) | (with_reducible refine stA ?_) | ((first | refine tFd ?_ | refine tLd ?_ | ((first | refine tSr ?_ | refine tSt ?_); clear hL; intro _ hL; simp only [splice, zq1, zq2, zq3] at hL) | ((first | refine tBx ?_ | refine tAl ?_); clear hL; intro _ _ hL _)); simp only [Act.put, zq1, zq2, zq3]))
  refine fin_agg hL Tryz.results139 rfl rfl loX AgC.h (by exact rfl) ?_
  exact f17
end Go.Proofs.YtmhkmmmompediaaGreat

/- Contract of integer.Compare. -/
namespace Go.Proofs.YtmhkmmmompediaaGreat
open Go.RowKit

theorem cmp_pos {x y : Int} (hx : 0 ≤ x) (hy : 0 ≤ y) : cmp3 x.natAbs y.natAbs = icmp x y := by
  unfold cmp3 icmp
  by_cases h : x < y
  · rw [if_pos (by omega), if_pos h]
  · by_cases e : x = y
    · rw [if_neg (by omega), if_neg h, if_pos (by omega), if_pos e]
    · rw [if_neg (by omega), if_neg h, if_neg (by omega), if_neg e]
theorem cmp_neg {x y : Int} (hx : x ≤ 0) (hy : y ≤ 0) : cmp3 y.natAbs x.natAbs = icmp x y := by
  unfold cmp3 icmp
  by_cases h : x < y
  · rw [if_pos (by omega), if_pos h]
  · by_cases e : x = y
    · rw [if_neg (by omega), if_neg h, if_pos (by omega), if_pos e]
    · rw [if_neg (by omega), if_neg h, if_neg (by omega), if_neg e]
theorem int_form {z : Int} {g : Bool} (h : z ≠ 0 → g = decide (z < 0)) : (g = false ∧ 0 ≤ z) ∨ (g = true ∧ (digs z.natAbs).length = 0 ∧ z = 0) ∨ (g = true ∧ 0 < (digs z.natAbs).length ∧ z < 0) := by
  by_cases hz : z = 0
  · subst hz
    cases g
    · exact .inl ⟨rfl, Int.le_refl _⟩
    · exact .inr (.inl ⟨rfl, by simp [digs_zero], rfl⟩)
  · have hg := h hz
    by_cases hn : z < 0
    · exact .inr (.inr ⟨by rw [hg]; simp [hn], digs_len_pos (by omega), hn⟩)
    · exact .inl ⟨by rw [hg]; simp [hn], by omega⟩

set_option maxRecDepth 100000 in
set_option maxHeartbeats 16000000 in
theorem i_Compare (a b : Value) (x y : Int) (w m : World) (hV : Vw m w) (ha : IntV m a x) (hb : IntV m b y) :
    Calls Tryz.prog 136 #[a, b] w (RetV w m fun _ r => r = .int .i64 (icmp x y)) := by
  obtain ⟨g1, A1, l1, c1, rfl⟩ := ha.lit
  obtain ⟨g2, A2, l2, c2, rfl⟩ := hb.lit
  obtain ⟨d1, hg1⟩ := ha.digA
  obtain ⟨d2, hg2⟩ := hb.digA
  have lx : Hid (∀ k, k = x.natAbs → (digs k).length ≤ 1000) := fun k h => by rw [h]; exact ha.length
  have ly : Hid (∀ k, k = y.natAbs → (digs k).length ≤ 1000) := fun k h => by rw [h]; exact hb.length
  have KX := Lib.hid (int_form hg1)
  have KY := Lib.hid (int_form hg2)
  clear hg1 hg2 ha hb
  have hL := Loc.start hV
  clear hV
  go_enter Tryz.func136, Tryz.ntmps136
  go_upto_region 1 with ((first | ((with_reducible refine kAny ?_); go_skip) | (with_reducible refine stA ?_) | ((first | refine tFd ?_ | refine tLd ?_ | (refine tBx ?_; clear hL; intro _ _ hL _)); simp only [Act.put, zq1, zq2, zq3])))
  refine wp_region_by2 6 [false, false, false, false, false, false] [false, false, false, false, false, false] [(fun v _ _ => v = ?c1_0), (fun v _ _ => v = ?c1_1), Of (fun um v => DigV um v (digs x.natAbs)), (fun v _ _ => v = ?c1_3), (fun v _ _ => v = ?c1_4), Of (fun um v => DigV um v (digs y.natAbs))] hL.vw mixed [9, 10, 11, 12, 13, 14] _ (by kernel_rfl) (fun vs => by simp only [lay, Act.put, zq1, zq2, zq3]; rfl) (by kernel_rfl) (by decide) (by decide) ?s1 ?l1 ?r1
  case s1 =>
    refine ⟨?_, ?_, ?_, ?_, ?_, ?_, trivial⟩
    · intro vs W1 m1 hE hM hV hD; clear hD; replace hL := hL.call hE hM hV
      exact sFd
    · intro vs W1 m1 hE hM hV hD; obtain ⟨⟨_, _, -, -, f9⟩, -⟩ := hD; have f9 : vs 9 = _ := f9; generalize vs 9 = x9 at f9 ⊢; subst x9; replace hL := hL.call hE hM hV
      exact sLd
    · intro vs W1 m1 hE hM hV hD; obtain ⟨⟨_, _, -, -, f10⟩, -⟩ := hD; have f10 : vs 10 = _ := f10; generalize vs 10 = x10 at f10 ⊢; subst x10
      go_wp2_with fail
      refine (i_trim _ x.natAbs _ _ hV (d1.le leX)).mono ?_
      rintro e W2 ⟨v, m2, rfl, hE2, hM2, hV2, h⟩
      go_wp2_with fail
      refine One2.call hE2 hM2 hV2 ?_; first | exact h | exact rfl
    · intro vs W1 m1 hE hM hV hD; clear hD; replace hL := hL.call hE hM hV
      exact sFd
    · intro vs W1 m1 hE hM hV hD; obtain ⟨⟨_, _, -, -, f12⟩, -⟩ := hD; have f12 : vs 12 = _ := f12; generalize vs 12 = x12 at f12 ⊢; subst x12; replace hL := hL.call hE hM hV
      exact sLd
    · intro vs W1 m1 hE hM hV hD; obtain ⟨⟨_, _, -, -, f13⟩, -, -⟩ := hD; have f13 : vs 13 = _ := f13; generalize vs 13 = x13 at f13 ⊢; subst x13
      go_wp2_with fail
      refine (i_trim _ y.natAbs _ _ hV (d2.le leX)).mono ?_
      rintro e W2 ⟨v, m2, rfl, hE2, hM2, hV2, h⟩
      go_wp2_with fail
      refine One2.call hE2 hM2 hV2 ?_; first | exact h | exact rfl
  case l1 =>
    refine ⟨fun h => (by cases h), fun h => (by cases h), fun h => (by cases h), fun h => (by cases h), fun h => (by cases h), fun h => (by cases h), trivial⟩
  intro vs W1 m1 hE hM hV hF hD
  clear hD
  obtain ⟨-, -, ⟨_, _, -, i11, f11⟩, -, -, ⟨_, _, -, i14, f14⟩, -⟩ := hF
  replace hL := hL.call hE hM hV
  replace f11 : DigV _ (vs 11) (digs x.natAbs) := f11
  replace f11 := f11.le i11.le
  clear i11
  replace f14 : DigV _ (vs 14) (digs y.natAbs) := f14
  replace f14 := f14.le i14.le
  clear i14
  clear hE hV
  obtain ⟨A3, c3, e11, f11⟩ := f11.lit
  generalize vs 11 = x11 at e11 ⊢
  subst x11
  obtain ⟨A4, c4, e14, f14⟩ := f14.lit
  generalize vs 14 = x14 at e14 ⊢
  subst x14
  simp only [List.drop_succ_cons, List.drop_zero]
  go_wp2_with (first | ((with_reducible refine kAny ?_); go_skip) | (with_reducible refine stA ?_) | ((first | refine tFd ?_ | refine tLd ?_ | (refine tBx ?_; clear hL; intro _ _ hL _)); simp only [Act.put, zq1, zq2, zq3]))
  refine QN.mk ?_
  have F1 : Hid (DigV m1 (.slice A3 (digs x.natAbs).length c3) (digs x.natAbs)) := f11
  have F2 : Hid (DigV m1 (.slice A4 (digs y.natAbs).length c4) (digs y.natAbs)) := f14
  have KX' := KX.out
  have KY' := KY.out
  clear f11 f14 KX KY d1 d2
  generalize hnx : (digs x.natAbs).length = nx at *
  generalize hny : (digs y.natAbs).length = ny at *
  clear hnx hny
  rcases KX' with ⟨rfl, hx⟩ | ⟨rfl, hlx, hx⟩ | ⟨rfl, hlx, hx⟩ <;> rcases KY' with ⟨rfl, hy⟩ | ⟨rfl, hly, hy⟩ | ⟨rfl, hly, hy⟩
  · have E := Lib.hid (cmp_pos (x := x) (y := y) (by omega) (by omega))
    clear hx hy
    go_wp2_with (first | ((with_reducible refine kAny ?_); go_skip) | (with_reducible refine stA ?_) | ((first | refine tFd ?_ | refine tLd ?_ | (refine tBx ?_; clear hL; intro _ _ hL _)); simp only [Act.put, zq1, zq2, zq3]))
    refine (i_compareMag _ _ x.natAbs y.natAbs _ _ hL.vw (F1.out.le leX) (F2.out.le leX) (lx.out _ rfl) (ly.out _ rfl)).mono ?_
    rintro e W9 ⟨_, m9, rfl, hE, hM9, hV, rfl⟩
    replace hL := hL.call hE (by assumption) hV
    go_wp2_with (first | ((with_reducible refine kAny ?_); go_skip) | (with_reducible refine stA ?_) | ((first | refine tFd ?_ | refine tLd ?_ | (refine tBx ?_; clear hL; intro _ _ hL _)); simp only [Act.put, zq1, zq2, zq3]))
    go_ret
    first | exact RetV.mk hL (congrArg (Value.int .i64) E.out) | exact RetV.mk hL (congrArg (Value.int .i64) E.out.symm)
  · have E := Lib.hid (cmp_pos (x := x) (y := y) (by omega) (by omega))
    clear hx hy
    subst hly
    go_wp2_with (first | ((with_reducible refine kAny ?_); go_skip) | (with_reducible refine stA ?_) | ((first | refine tFd ?_ | refine tLd ?_ | (refine tBx ?_; clear hL; intro _ _ hL _)); simp only [Act.put, zq1, zq2, zq3]))
    refine (i_compareMag _ _ x.natAbs y.natAbs _ _ hL.vw (F1.out.le leX) (F2.out.le leX) (lx.out _ rfl) (ly.out _ rfl)).mono ?_
    rintro e W9 ⟨_, m9, rfl, hE, hM9, hV, rfl⟩
    replace hL := hL.call hE (by assumption) hV
    go_wp2_with (first | ((with_reducible refine kAny ?_); go_skip) | (with_reducible refine stA ?_) | ((first | refine tFd ?_ | refine tLd ?_ | (refine tBx ?_; clear hL; intro _ _ hL _)); simp only [Act.put, zq1, zq2, zq3]))
    go_ret
    first | exact RetV.mk hL (congrArg (Value.int .i64) E.out) | exact RetV.mk hL (congrArg (Value.int .i64) E.out.symm)
  · have E := Lib.hid (icmp_gt (x := x) (y := y) (by omega))
    clear hx hy
    have t2 : decide (0 < ny) = true := by simp; omega
    go_wp2_with (first | ((with_reducible refine kAny ?_); go_skip) | (with_reducible refine stA ?_) | ((first | refine tFd ?_ | refine tLd ?_ | (refine tBx ?_; clear hL; intro _ _ hL _)); simp only [Act.put, zq1, zq2, zq3]))
    go_ret
    first | exact RetV.mk hL (congrArg (Value.int .i64) E.out) | exact RetV.mk hL (congrArg (Value.int .i64) E.out.symm)
  · have E := Lib.hid (cmp_pos (x := x) (y := y) (by omega) (by omega))
    clear hx hy
    subst hlx
    go_wp2_with (first | ((with_reducible refine kAny ?_); go_skip) | (with_reducible refine stA ?_) | ((first | refine tFd ?_ | refine tLd ?_ | (refine tBx ?_; clear hL; intro _ _ hL _)); simp only [Act.put, zq1, zq2, zq3]))
    refine (i_compareMag _ _ x.natAbs y.natAbs _ _ hL.vw (F1.out.le leX) (F2.out.le leX) (lx.out _ rfl) (ly.out _ rfl)).mono ?_
    rintro e W9 ⟨_, m9, rfl, hE, hM9, hV, rfl⟩
    replace hL := hL.call hE (by assumption) hV
    go_wp2_with (first | ((with_reducible refine kAny ?_); go_skip) | (with_reducible refine stA ?_) | ((first | refine tFd ?_ | refine tLd ?_ | (refine tBx ?_; clear hL; intro _ _ hL _)); simp only [Act.put, zq1, zq2, zq3]))
    go_ret
    first | exact RetV.mk hL (congrArg (Value.int .i64) E.out) | exact RetV.mk hL (congrArg (Value.int .i64) E.out.symm)
  · have E := Lib.hid (cmp_pos (x := x) (y := y) (by omega) (by omega))
    clear hx hy
    subst hlx
    subst hly
    go_wp2_with (first | ((with_reducible refine kAny ?_); go_skip) | (with_reducible refine stA ?_) | ((first | refine tFd ?_ | refine tLd ?_ | (refine tBx ?_; clear hL; intro _ _ hL _)); simp only [Act.put, zq1, zq2, zq3]))
    refine (i_compareMag _ _ x.natAbs y.natAbs _ _ hL.vw (F1.out.le leX) (F2.out.le leX) (lx.out _ rfl) (ly.out _ rfl)).mono ?_
    rintro e W9 ⟨_, m9, rfl, hE, hM9, hV, rfl⟩
    replace hL := hL.call hE (by assumption) hV
    go_wp2_with (first | ((with_reducible refine kAny ?_); go_skip) | (with_reducible refine stA ?_) | ((first | refine tFd ?_ | refine tLd ?_ | (refine tBx ?_; clear hL; intro _ _ hL _)); simp only [Act.put, zq1, zq2, zq3]))
    go_ret
    first | exact RetV.mk hL (congrArg (Value.int .i64) E.out) | exact RetV.mk hL (congrArg (Value.int .i64) E.out.symm)
  · have E := Lib.hid (icmp_gt (x := x) (y := y) (by omega))
    clear hx hy
    subst hlx
    have t2 : decide (0 < ny) = true := by simp; omega
    go_wp2_with (first | ((with_reducible refine kAny ?_); go_skip) | (with_reducible refine stA ?_) | ((first | refine tFd ?_ | refine tLd ?_ | (refine tBx ?_; clear hL; intro _ _ hL _)); simp only [Act.put, zq1, zq2, zq3]))
    go_ret
    first | exact RetV.mk hL (congrArg (Value.int .i64) E.out) | exact RetV.mk hL (congrArg (Value.int .i64) E.out.symm)
  · have E := Lib.hid (icmp_lt (x := x) (y := y) (by omega))
    clear hx hy
    have t1 : decide (0 < nx) = true := by simp; omega
    go_wp2_with (first | ((with_reducible refine kAny ?_); go_skip) | (with_reducible refine stA ?_) | ((first | refine tFd ?_ | refine tLd ?_ | (refine tBx ?_; clear hL; intro _ _ hL _)); simp only [Act.put, zq1, zq2, zq3]))
    go_ret
    first | exact RetV.mk hL (congrArg (Value.int .i64) E.out) | exact RetV.mk hL (congrArg (Value.int .i64) E.out.symm)
  · have E := Lib.hid (icmp_lt (x := x) (y := y) (by omega))
    clear hx hy
    subst hly
    have t1 : decide (0 < nx) = true := by simp; omega
    go_wp2_with (first | ((with_reducible refine kAny ?_); go_skip) | (with_reducible refine stA ?_) | ((first | refine tFd ?_ | refine tLd ?_ | (refine tBx ?_; clear hL; intro _ _ hL _)); simp only [Act.put, zq1, zq2, zq3]))
    go_ret
    first | exact RetV.mk hL (congrArg (Value.int .i64) E.out) | exact RetV.mk hL (congrArg (Value.int .i64) E.out.symm)
  · have E := Lib.hid (cmp_neg (x := x) (y := y) (by omega) (by omega))
    clear hx hy
    have t1 : decide (0 < nx) = true := by simp; omega
    have t2 : decide (0 < ny) = true := by simp; omega
    go_wp2_with (first | ((with_reducible refine kAny ?_); go_skip) | (with_reducible refine stA ?_) | ((first | refine tFd ?_ | refine tLd ?_ | (refine tBx ?_; clear hL; intro _ _ hL _)); simp only [Act.put, zq1, zq2, zq3]))
    refine (i_compareMag _ _ y.natAbs x.natAbs _ _ hL.vw (F2.out.le leX) (F1.out.le leX) (ly.out _ rfl) (lx.out _ rfl)).mono ?_
    rintro e W9 ⟨_, m9, rfl, hE, hM9, hV, rfl⟩
    replace hL := hL.call hE (by assumption) hV
    go_wp2_with (first | ((with_reducible refine kAny ?_); go_skip) | (with_reducible refine stA ?_) | ((first | refine tFd ?_ | refine tLd ?_ | (refine tBx ?_; clear hL; intro _ _ hL _)); simp only [Act.put, zq1, zq2, zq3]))
    go_ret
    exact RetV.mk hL (congrArg (Value.int .i64) E.out)
end Go.Proofs.YtmhkmmmompediaaGreat

/- Plain facts on floors, ceilings and signs of fractions. -/
namespace Go.Proofs.YtmhkmmmompediaaGreat
open Go.RowKit

theorem pN_val (x y : Int) : 0 < pD y ∧ Rat.divInt (pN x y) (pD y) = Rat.divInt x y := by
  unfold pN pD
  by_cases h0 : y = 0
  · subst h0; simp
  · by_cases hn : y < 0
    · simp only [h0, hn, if_false, if_true]
      exact ⟨by omega, Rat.neg_divInt_neg x y⟩
    · simp only [h0, hn, if_false]
      exact ⟨by omega, trivial⟩
theorem rs_div {a b : Int} (hb : 0 < b) : rs (Rat.divInt a b) = icmp a 0 := by
  unfold rs
  rw [(frac_pos (x := a) hb).1]
  have hg : 0 < Int.gcd a b := Int.gcd_pos_of_ne_zero_right _ (by omega)
  obtain ⟨k, hk⟩ := Int.gcd_dvd_left a b
  generalize Int.gcd a b = g at *
  subst hk
  rw [Int.mul_ediv_cancel_left _ (by omega)]
  unfold icmp
  have hg' : (0 : Int) < g := by omega
  by_cases h : k < 0
  · rw [if_pos h, if_pos (Int.mul_neg_of_pos_of_neg hg' h)]
  · rw [if_neg h]
    by_cases h0 : k = 0
    · subst h0; simp
    · have : 0 < (g : Int) * k := Int.mul_pos hg' (by omega)
      rw [if_neg h0, if_neg (by omega), if_neg (by omega)]
theorem icmp_sub (a b : Int) : icmp (a - b) 0 = icmp a b := by
  unfold icmp
  by_cases h : a < b
  · rw [if_pos h, if_pos (by omega)]
  · rw [if_neg h, if_neg (by omega)]
    by_cases e : a = b
    · rw [if_pos e, if_pos (by omega)]
    · rw [if_neg e, if_neg (by omega)]
theorem rs_cmp (x y x' y' : Int) : rs (Rat.divInt x y - Rat.divInt x' y') = icmp (pN x y * pD y') (pN x' y' * pD y) := by
  obtain ⟨h1, h2⟩ := pN_val x y
  obtain ⟨h3, h4⟩ := pN_val x' y'
  rw [← h2, ← h4, Rat.divInt_sub_divInt _ _ (by omega) (by omega), rs_div (Int.mul_pos h1 h3), icmp_sub]

end Go.Proofs.YtmhkmmmompediaaGreat

/- Contract of rational.parts for fractions of any form. -/
namespace Go.Proofs.YtmhkmmmompediaaGreat
open Go.RowKit

def FrV (m : World) (v : Value) (x y : Int) : Prop := ∃ g A n c g' B k d, v = .agg #[.bool g, .slice A n c, .bool g', .slice B k d] ∧ IntV m (.agg #[.bool g, .slice A n c]) x ∧ IntV m (.agg #[.bool g', .slice B k d]) y
theorem FrV.le {m m' : World} {v : Value} {x y : Int} (h : FrV m v x y) (hb : Le m m') : FrV m' v x y := by
  obtain ⟨g, A, n, c, g', B, k, d, e, h1, h2⟩ := h
  exact ⟨g, A, n, c, g', B, k, d, e, h1.le hb, h2.le hb⟩
theorem len_one : (digs (1 : Int).natAbs).length ≤ 1000 := by
  rw [show (1 : Int).natAbs = 1 from rfl, digs_small (by decide) (by decide)]; decide
def PtR (m : World) (v : Value) (p q : Int) : Prop := ∃ g A n c g' B k d, v = .tuple #[.agg #[.bool g, .slice A n c], .agg #[.bool g', .slice B k d]] ∧ IntV m (.agg #[.bool g, .slice A n c]) p ∧ IntV m (.agg #[.bool g', .slice B k d]) q

set_option maxRecDepth 100000 in
set_option maxHeartbeats 8000000 in
theorem q_partsV (v : Value) (x y : Int) (w m : World) (hV : Vw m w) (h : FrV m v x y) :
    Calls Tryz.prog 135 #[v] w (RetV w m fun m' r => PtR m' r (pN x y) (pD y)) := by
  obtain ⟨g, A, n, c, g', B, n', c', rfl, a1, a2⟩ := h
  have l1 := Lib.hid a1.length
  have l2 := Lib.hid a2.length
  have hL := Loc.start hV
  clear hV
  by_cases h0 : y = 0
  · subst h0
    have E1 : Hid (pN x 0 = 0) := by show _ = _; simp [pN]
    have E2 : Hid (pD 0 = 1) := by show _ = _; simp [pD]
    have E3 : Hid (icmp 0 0 = 0) := by show _ = _; simp [icmp]
    go_enter Tryz.func135, Tryz.ntmps135
    go_upto_region 0 with (fail)
    refine wp_region_lit ?_
    refine t_box hL rfl rfl ?_; clear hL; intro W1 m1 hL e1; simp only [Act.put, zq1, zq2, zq3]
    refine t_alloc hL rfl ?_; clear hL; intro W2 m2 hL e2; simp only [Act.put, zq1, zq2, zq3]
    refine t_alloc hL rfl ?_; clear hL; intro W3 m3 hL e3; simp only [Act.put, zq1, zq2, zq3]
    go_wp2_with (first | ((with_reducible refine kAny ?_); go_skip) | (with_reducible refine stA ?_) | ((first | refine tFd ?_ | refine tLd ?_ | ((first | refine tSr ?_ | refine tSt ?_); clear hL; intro _ hL; simp only [splice, zq1, zq2, zq3] at hL) | ((first | refine tBx ?_ | refine tAl ?_); clear hL; intro _ _ hL _)); simp only [Act.put, zq1, zq2, zq3]))
    refine (i_Sign _ 0 _ _ hL.vw (a2.le leX)).mono ?_
    rintro e W11 ⟨_, m11, rfl, hE, hM11, hV, rfl⟩
    replace hL := hL.call hE (by assumption) hV; clear hE hV
    rw [E3.out]
    go_wp2_with (first | ((with_reducible refine kAny ?_); go_skip) | (with_reducible refine stA ?_) | ((first | refine tFd ?_ | refine tLd ?_ | ((first | refine tSr ?_ | refine tSt ?_); clear hL; intro _ hL; simp only [splice, zq1, zq2, zq3] at hL) | ((first | refine tBx ?_ | refine tAl ?_); clear hL; intro _ _ hL _)); simp only [Act.put, zq1, zq2, zq3]))
    refine (i_FromInt64 1 _ _ hL.vw (by decide) (by decide)).mono ?_
    rintro e W12 ⟨v12, m12, rfl, hE, hM12, hV, h12⟩
    replace hL := hL.call hE (by assumption) hV; clear hE hV
    obtain ⟨g12', A12', n12', c12', rfl, h12⟩ := h12.lit
    go_wp2_with (first | ((with_reducible refine kAny ?_); go_skip) | (with_reducible refine stA ?_) | ((first | refine tFd ?_ | refine tLd ?_ | ((first | refine tSr ?_ | refine tSt ?_); clear hL; intro _ hL; simp only [splice, zq1, zq2, zq3] at hL) | ((first | refine tBx ?_ | refine tAl ?_); clear hL; intro _ _ hL _)); simp only [Act.put, zq1, zq2, zq3]))
    obtain ⟨p1, p2, _⟩ := (hL.at_ lo0).facts2
    obtain ⟨p3, p4, _⟩ := (hL.at_ lo1).facts2
    refine bodyPost_ret (v := .tuple #[.agg #[.bool false, .slice none 0 0], .agg #[.bool g12', .slice A12' n12' c12']]) (by simp [results, Tryz.results135, go_sem, p1, p2, p3, p4]) rfl (RetV.mk hL ?_)
    rw [E1.out, E2.out]
    exact ⟨_, _, _, _, _, _, _, _, rfl, IntC.nil.toV (by simp [digs_zero]), (h12.toV len_one).le leX⟩
  · by_cases hn : y < 0
    · have E1 : Hid (pN x y = -x) := by show _ = _; simp [pN, h0, hn]
      have E2 : Hid (pD y = -y) := by show _ = _; simp [pD, h0, hn]
      have E3 := Lib.hid (icmp_lt (x := y) (y := 0) hn)
      clear h0 hn
      go_enter Tryz.func135, Tryz.ntmps135
      go_upto_region 0 with (fail)
      refine wp_region_lit ?_
      refine t_box hL rfl rfl ?_; clear hL; intro W1 m1 hL e1; simp only [Act.put, zq1, zq2, zq3]
      refine t_alloc hL rfl ?_; clear hL; intro W2 m2 hL e2; simp only [Act.put, zq1, zq2, zq3]
      refine t_alloc hL rfl ?_; clear hL; intro W3 m3 hL e3; simp only [Act.put, zq1, zq2, zq3]
      go_wp2_with (first | ((with_reducible refine kAny ?_); go_skip) | (with_reducible refine stA ?_) | ((first | refine tFd ?_ | refine tLd ?_ | ((first | refine tSr ?_ | refine tSt ?_); clear hL; intro _ hL; simp only [splice, zq1, zq2, zq3] at hL) | ((first | refine tBx ?_ | refine tAl ?_); clear hL; intro _ _ hL _)); simp only [Act.put, zq1, zq2, zq3]))
      refine (i_Sign _ y _ _ hL.vw (a2.le leX)).mono ?_
      rintro e W11 ⟨_, m11, rfl, hE, hM11, hV, rfl⟩
      replace hL := hL.call hE (by assumption) hV; clear hE hV
      rw [E3.out]
      go_upto_region 5 with ((first | ((with_reducible refine kAny ?_); go_skip) | (with_reducible refine stA ?_) | ((first | refine tFd ?_ | refine tLd ?_ | ((first | refine tSr ?_ | refine tSt ?_); clear hL; intro _ hL; simp only [splice, zq1, zq2, zq3] at hL) | ((first | refine tBx ?_ | refine tAl ?_); clear hL; intro _ _ hL _)); simp only [Act.put, zq1, zq2, zq3])))
      refine wp_region_by2 6 [false, false, false, false, false, false] [false, false, false, false, false, false] [(fun v _ _ => v = ?c5_0), (fun v _ _ => v = ?c5_1), Of (fun um v => IntC um v (-x)), (fun v _ _ => v = ?c5_3), (fun v _ _ => v = ?c5_4), Of (fun um v => IntC um v (-y))] hL.vw mixed [13, 14, 15, 16, 17, 18] _ (by kernel_rfl) (fun vs => by simp only [lay, Act.put, zq1, zq2, zq3]; rfl) (by kernel_rfl) (by decide) (by decide) ?s5 ?l5 ?r5
      case s5 =>
        refine ⟨?_, ?_, ?_, ?_, ?_, ?_, trivial⟩
        · intro vs W1 m1 hE hM hV hD; clear hD; replace hL := hL.call hE hM hV
          exact sFd
        · intro vs W1 m1 hE hM hV hD; obtain ⟨⟨_, _, -, -, f13⟩, -⟩ := hD; have f13 : vs 13 = _ := f13; generalize vs 13 = x13 at f13 ⊢; subst x13; replace hL := hL.call hE hM hV
          exact sLd
        · intro vs W1 m1 hE hM hV hD; obtain ⟨⟨_, _, -, -, f14⟩, -⟩ := hD; have f14 : vs 14 = _ := f14; generalize vs 14 = x14 at f14 ⊢; subst x14
          go_wp2_with fail
          refine (i_Negate _ x _ _ hV (a1.le leX)).mono ?_
          rintro e W2 ⟨v, m2, rfl, hE2, hM2, hV2, h⟩
          go_wp2_with fail
          refine One2.call hE2 hM2 hV2 ?_; first | exact h | exact rfl
        · intro vs W1 m1 hE hM hV hD; clear hD; replace hL := hL.call hE hM hV
          exact sFd
        · intro vs W1 m1 hE hM hV hD; obtain ⟨⟨_, _, -, -, f16⟩, -⟩ := hD; have f16 : vs 16 = _ := f16; generalize vs 16 = x16 at f16 ⊢; subst x16; replace hL := hL.call hE hM hV
          exact sLd
        · intro vs W1 m1 hE hM hV hD; obtain ⟨⟨_, _, -, -, f17⟩, -, -⟩ := hD; have f17 : vs 17 = _ := f17; generalize vs 17 = x17 at f17 ⊢; subst x17
          go_wp2_with fail
          refine (i_Negate _ y _ _ hV (a2.le leX)).mono ?_
          rintro e W2 ⟨v, m2, rfl, hE2, hM2, hV2, h⟩
          go_wp2_with fail
          refine One2.call hE2 hM2 hV2 ?_; first | exact h | exact rfl
      case l5 =>
        refine ⟨fun h => (by cases h), fun h => (by cases h), fun h => (by cases h), fun h => (by cases h), fun h => (by cases h), fun h => (by cases h), trivial⟩
      intro vs W1 m1 hE hM hV hF hD
      clear hD
      obtain ⟨-, -, ⟨_, _, -, i15, f15⟩, -, -, ⟨_, _, -, i18, f18⟩, -⟩ := hF
      replace hL := hL.call hE hM hV
      replace f15 : IntC _ (vs 15) (-x) := f15
      replace f15 := f15.le i15.le
      clear i15
      obtain ⟨g15, A15, n15, c15, e15, f15⟩ := f15.lit
      generalize vs 15 = x15 at e15 ⊢
      subst x15
      replace f18 : IntC _ (vs 18) (-y) := f18
      replace f18 := f18.le i18.le
      clear i18
      obtain ⟨g18, A18, n18, c18, e18, f18⟩ := f18.lit
      generalize vs 18 = x18 at e18 ⊢
      subst x18
      clear hE hV
      simp only [List.drop_succ_cons, List.drop_zero]
      go_wp2_with (first | ((with_reducible refine kAny ?_); go_skip) | (with_reducible refine stA ?_) | ((first | refine tFd ?_ | refine tLd ?_ | ((first | refine tSr ?_ | refine tSt ?_); clear hL; intro _ hL; simp only [splice, zq1, zq2, zq3] at hL) | ((first | refine tBx ?_ | refine tAl ?_); clear hL; intro _ _ hL _)); simp only [Act.put, zq1, zq2, zq3]))
      refine QN.mk ?_
      go_wp2_with (first | ((with_reducible refine kAny ?_); go_skip) | (with_reducible refine stA ?_) | ((first | refine tFd ?_ | refine tLd ?_ | ((first | refine tSr ?_ | refine tSt ?_); clear hL; intro _ hL; simp only [splice, zq1, zq2, zq3] at hL) | ((first | refine tBx ?_ | refine tAl ?_); clear hL; intro _ _ hL _)); simp only [Act.put, zq1, zq2, zq3]))
      obtain ⟨p1, p2, _⟩ := (hL.at_ lo0).facts2
      obtain ⟨p3, p4, _⟩ := (hL.at_ lo1).facts2
      refine bodyPost_ret (v := .tuple #[.agg #[.bool g15, .slice A15 n15 c15], .agg #[.bool g18, .slice A18 n18 c18]]) (by simp [results, Tryz.results135, go_sem, p1, p2, p3, p4]) rfl (RetV.mk hL ?_)
      rw [E1.out, E2.out]
      exact ⟨_, _, _, _, _, _, _, _, rfl, f15.toV (by rw [Int.natAbs_neg]; exact l1.out), f18.toV (by rw [Int.natAbs_neg]; exact l2.out)⟩
    · have E1 : Hid (pN x y = x) := by show _ = _; simp [pN, h0, hn]
      have E2 : Hid (pD y = y) := by show _ = _; simp [pD, h0, hn]
      have E3 := Lib.hid (icmp_gt (x := y) (y := 0) (by omega))
      clear h0 hn
      go_enter Tryz.func135, Tryz.ntmps135
      go_upto_region 0 with (fail)
      refine wp_region_lit ?_
      refine t_box hL rfl rfl ?_; clear hL; intro W1 m1 hL e1; simp only [Act.put, zq1, zq2, zq3]
      refine t_alloc hL rfl ?_; clear hL; intro W2 m2 hL e2; simp only [Act.put, zq1, zq2, zq3]
      refine t_alloc hL rfl ?_; clear hL; intro W3 m3 hL e3; simp only [Act.put, zq1, zq2, zq3]
      go_wp2_with (first | ((with_reducible refine kAny ?_); go_skip) | (with_reducible refine stA ?_) | ((first | refine tFd ?_ | refine tLd ?_ | ((first | refine tSr ?_ | refine tSt ?_); clear hL; intro _ hL; simp only [splice, zq1, zq2, zq3] at hL) | ((first | refine tBx ?_ | refine tAl ?_); clear hL; intro _ _ hL _)); simp only [Act.put, zq1, zq2, zq3]))
      refine (i_Sign _ y _ _ hL.vw (a2.le leX)).mono ?_
      rintro e W11 ⟨_, m11, rfl, hE, hM11, hV, rfl⟩
      replace hL := hL.call hE (by assumption) hV; clear hE hV
      rw [E3.out]
      go_upto_region 6 with ((first | ((with_reducible refine kAny ?_); go_skip) | (with_reducible refine stA ?_) | ((first | refine tFd ?_ | refine tLd ?_ | ((first | refine tSr ?_ | refine tSt ?_); clear hL; intro _ hL; simp only [splice, zq1, zq2, zq3] at hL) | ((first | refine tBx ?_ | refine tAl ?_); clear hL; intro _ _ hL _)); simp only [Act.put, zq1, zq2, zq3])))
      obtain ⟨p1, p2, p3, p4⟩ := (hL.at_ lo0).facts2
      obtain ⟨p5, p6, p7, p8⟩ := (hL.at_ lo1).facts2
      obtain ⟨r1, r2, r3, r4, _⟩ := (hL.at_ lo2).facts4
      obtain ⟨n1, n2⟩ := hL.ne lo0 lo1 (by omega)
      obtain ⟨n3, n4⟩ := hL.ne lo0 lo2 (by omega)
      obtain ⟨n5, n6⟩ := hL.ne lo1 lo2 (by omega)
      go_region_held3 (fun w' => w'.cell? ⟨w.heap.size, 0, none⟩ = some (.bool g) ∧ w'.cell? ⟨w.heap.size, 1, none⟩ = some (.slice A n c) ∧ w'.cell? ⟨w.heap.size, 2, none⟩ = some (.bool g') ∧ w'.cell? ⟨w.heap.size, 3, none⟩ = some (.slice B n' c')) (go_keep) (fail)
      go_wp2_with fail
      refine bodyPost_ret (v := .tuple #[.agg #[.bool g, .slice A n c], .agg #[.bool g', .slice B n' c']]) (by simp [results, Tryz.results135, go_sem, *]) rfl (RetV.mk ((hL.drew.store lo1 0 [.bool g, .slice A n c]).store lo0 0 [.bool g', .slice B n' c']) ?_)
      rw [E1.out, E2.out]
      exact ⟨_, _, _, _, _, _, _, _, rfl, a1.le leX, a2.le leX⟩
end Go.Proofs.YtmhkmmmompediaaGreat

/- Contracts of integer.addMag and subMag. -/
namespace Go.Proofs.YtmhkmmmompediaaGreat
open Go.RowKit

theorem DigR.trimC {w : World} {g off : Nat} {ss : List Nat} (h : Sl w (some ⟨g, off, none⟩) (ss.map U)) (hds : Dg ss) (hg : g < w.heap.size) : DigR w g (.slice (some ⟨g, off, none⟩) (trimLen ss ss.length) (trimLen ss ss.length)) (digs (val ss)) := by
  have e := trimLen_eq hds
  rw [e]
  refine ⟨_, _, rfl, Nat.le_refl _, ?_, fun a ha => by cases ha; exact ⟨Nat.le_refl _, hg⟩⟩
  rw [← take_trim hds, List.map_take]; exact h.take _
end Go.Proofs.YtmhkmmmompediaaGreat

/- Contracts of rational.Compare and Add where a number has two digits. -/
namespace Go.Proofs.YtmhkmmmompediaaGreat
open Go.RowKit

def NoS (v : Value) : Prop := ∃ g A n c g' B k d, v = .agg #[.bool g, .slice A n c, .bool g', .slice B k d] ∧ 2 ≤ k
def FrG (m : World) (v : Value) (x y : Int) : Prop := FrV m v x y ∧ (FracS m v x y ∨ NoS v)
theorem FrG.le {m m' : World} {v : Value} {x y : Int} (h : FrG m v x y) (hb : Le m m') : FrG m' v x y :=
  ⟨h.1.le hb, h.2.imp (fun h => h.le hb) id⟩
theorem FracS.part {m : World} {v : Value} {x y : Int} (h : FracS m v x y) : SPart m v (pN x y) (pD y) true := by
  refine ⟨?_, fun w m' hV hl => q_smallParts v x y w m' hV (h.le hl)⟩
  obtain ⟨a, b, c, d, e, _⟩ := h
  exact ⟨a, b, c, d, e⟩
theorem NoS.part {v : Value} (h : NoS v) (m : World) : SPart m v 0 0 false := by
  obtain ⟨g, A, n, c, g', B, k, d, rfl, hk⟩ := h
  exact ⟨⟨_, _, _, _, rfl⟩, fun w m' hV _ => q_smallPartsF g A n c g' B k d w m' hV hk⟩
theorem FrV.agg {m : World} {v : Value} {x y : Int} (h : FrV m v x y) : ∃ a b c d, v = .agg #[a, b, c, d] := by
  obtain ⟨g, A, n, c, g', B, k, d, e, _⟩ := h
  exact ⟨_, _, _, _, e⟩
theorem small_no {m : World} {a b : Value} {x y x' y' : Int} (ha : FrG m a x y) (hb : FrG m b x' y') (h : NoS a ∨ NoS b) :
    ∃ p q p' q', ∀ w m', Vw m' w → Le m m' → Calls Tryz.prog 133 #[a, b] w (RetV w m' fun _ r => r = .tuple #[.agg #[.int .i64 p, .int .i64 q], .agg #[.int .i64 p', .int .i64 q'], .bool false]) := by
  by_cases hn : NoS a
  · exact ⟨0, 0, 0, 0, fun w m' hV _ => q_smallE a b 0 0 w m' hV (hn.part m') hb.1.agg⟩
  · have hn' : NoS b := h.resolve_left hn
    have ha' : FracS m a x y := ha.2.resolve_right hn
    exact ⟨pN x y, pD y, 0, 0, fun w m' hV hl => q_smallT a b _ _ _ _ false w m' hV (ha'.le hl).part (hn'.part m')⟩

theorem len_prod {a b : Int} (ha : a.natAbs < 1073741824) (hb : b.natAbs < 1073741824) : (digs (a * b).natAbs).length ≤ 1000 :=
  Nat.le_trans (len2 (by have := prod_bd ha hb; omega)) (by decide)

set_option maxRecDepth 100000 in
set_option maxHeartbeats 8000000 in
theorem q_CompareL (a b : Value) (x y x' y' : Int) (p q p' q' : Int) (w m : World) (hV : Vw m w) (ha : FrV m a x y) (hb : FrV m b x' y') (hs : Sm x y) (hs' : Sm x' y')
    (hk : ∀ w m', Vw m' w → Le m m' → Calls Tryz.prog 133 #[a, b] w (RetV w m' fun _ r => r = .tuple #[.agg #[.int .i64 p, .int .i64 q], .agg #[.int .i64 p', .int .i64 q'], .bool false])) :
    Calls Tryz.prog 83 #[a, b] w (RetV w m fun _ r => r = .int .i64 (icmp (pN x y * pD y') (pN x' y' * pD y))) := by
  have KS := Lib.hid hk
  clear hk
  have FA := Lib.hid ha
  have FB := Lib.hid hb
  obtain ⟨g, A, n, c, g', B, k, d, rfl, -, -⟩ := ha
  obtain ⟨f, A', n', c', f', B', k', d', rfl, -, -⟩ := hb
  obtain ⟨u1, u2, u3, -⟩ := pN_spec hs
  obtain ⟨v1, v2, v3, -⟩ := pN_spec hs'
  have U1 : Hid ((pN x y).natAbs < 4294967296) := by show _ < _; omega
  have U3 : Hid ((pD y).natAbs < 4294967296) := by show _ < _; omega
  have V1 : Hid ((pN x' y').natAbs < 4294967296) := by show _ < _; omega
  have V3 : Hid ((pD y').natAbs < 4294967296) := by show _ < _; omega
  have L1 := Lib.hid (len_prod u1 v3)
  have L2 := Lib.hid (len_prod v1 u3)
  have hL := Loc.start hV
  clear hV u1 u2 u3 v1 v2 v3 hs hs'
  go_enter Tryz.func83, Tryz.ntmps83
  go_wp2_with (first | ((with_reducible refine kAny ?_); go_skip) | (with_reducible refine stA ?_) | ((first | refine tFd ?_ | refine tLd ?_ | ((first | refine tSr ?_ | refine tSt ?_); clear hL; intro _ hL; simp only [splice, zq1, zq2, zq3] at hL) | ((first | refine tBx ?_ | refine tAl ?_); clear hL; intro _ _ hL _)); simp only [Act.put, zq1, zq2, zq3]))
  refine (KS.out _ _ hL.vw leX).mono ?_
  rintro e W1 ⟨_, m1, rfl, hE, hM1, hV, rfl⟩
  replace hL := hL.call hE (by assumption) hV; clear hE hV
  go_wp2_with (first | ((with_reducible refine kAny ?_); go_skip) | (with_reducible refine stA ?_) | ((first | refine tFd ?_ | refine tLd ?_ | ((first | refine tSr ?_ | refine tSt ?_); clear hL; intro _ hL; simp only [splice, zq1, zq2, zq3] at hL) | ((first | refine tBx ?_ | refine tAl ?_); clear hL; intro _ _ hL _)); simp only [Act.put, zq1, zq2, zq3]))
  refine (q_partsV _ x y _ _ hL.vw (FA.out.le leX)).mono ?_
  rintro e W2 ⟨_, m2, rfl, hE, hM2, hV, g2, A2, n2, c2, g3, A3, n3, c3, rfl, h1, h2⟩
  replace hL := hL.call hE (by assumption) hV; clear hE hV
  go_wp2_with (first | ((with_reducible refine kAny ?_); go_skip) | (with_reducible refine stA ?_) | ((first | refine tFd ?_ | refine tLd ?_ | ((first | refine tSr ?_ | refine tSt ?_); clear hL; intro _ hL; simp only [splice, zq1, zq2, zq3] at hL) | ((first | refine tBx ?_ | refine tAl ?_); clear hL; intro _ _ hL _)); simp only [Act.put, zq1, zq2, zq3]))
  refine (q_partsV _ x' y' _ _ hL.vw (FB.out.le leX)).mono ?_
  rintro e W4 ⟨_, m4, rfl, hE, hM4, hV, g4, A4, n4, c4, g5, A5, n5, c5, rfl, h3, h4⟩
  replace hL := hL.call hE (by assumption) hV; clear hE hV
  go_upto_region 11 with ((first | ((with_reducible refine kAny ?_); go_skip) | (with_reducible refine stA ?_) | ((first | refine tFd ?_ | refine tLd ?_ | ((first | refine tSr ?_ | refine tSt ?_); clear hL; intro _ hL; simp only [splice, zq1, zq2, zq3] at hL) | ((first | refine tBx ?_ | refine tAl ?_); clear hL; intro _ _ hL _)); simp only [Act.put, zq1, zq2, zq3])))
  refine wp_region_by2 7 [false, false, false, false, false, false, false] [false, false, false, false, false, false, false] [(fun v _ _ => v = ?c11_0), (fun v _ _ => v = ?c11_1), Of (fun um v => IntC um v (pN x y * pD y')), (fun v _ _ => v = ?c11_3), (fun v _ _ => v = ?c11_4), Of (fun um v => IntC um v (pN x' y' * pD y)), Is (.int .i64 (icmp (pN x y * pD y') (pN x' y' * pD y)))] hL.vw mixed [50, 51, 52, 53, 54, 55, 56] _ (by kernel_rfl) (fun vs => by simp only [lay, Act.put, zq1, zq2, zq3]; rfl) (by kernel_rfl) (by decide) (by decide) ?s11 ?l11 ?r11
  case s11 =>
    refine ⟨?_, ?_, ?_, ?_, ?_, ?_, ?_, trivial⟩
    · intro vs W1 m1 hE hM hV hD; clear hD; replace hL := hL.call hE hM hV
      exact sLd
    · intro vs W1 m1 hE hM hV hD; clear hD; replace hL := hL.call hE hM hV
      exact sLd
    · intro vs W1 m1 hE hM hV hD; obtain ⟨⟨_, _, -, -, f50⟩, ⟨_, _, -, -, f51⟩, -⟩ := hD; have f50 : vs 50 = _ := f50; generalize vs 50 = x50 at f50 ⊢; subst x50; have f51 : vs 51 = _ := f51; generalize vs 51 = x51 at f51 ⊢; subst x51
      go_wp2_with fail
      refine (i_Mul _ _ _ _ _ _ hV (h1.le leX) (h4.le leX) U1.out V3.out).mono ?_
      rintro e W2 ⟨v, m2, rfl, hE2, hM2, hV2, h⟩
      go_wp2_with fail
      refine One2.call hE2 hM2 hV2 ?_; first | exact h | exact rfl
    · intro vs W1 m1 hE hM hV hD; clear hD; replace hL := hL.call hE hM hV
      exact sLd
    · intro vs W1 m1 hE hM hV hD; clear hD; replace hL := hL.call hE hM hV
      exact sLd
    · intro vs W1 m1 hE hM hV hD; obtain ⟨⟨_, _, -, -, f53⟩, ⟨_, _, -, -, f54⟩, -, -⟩ := hD; have f53 : vs 53 = _ := f53; generalize vs 53 = x53 at f53 ⊢; subst x53; have f54 : vs 54 = _ := f54; generalize vs 54 = x54 at f54 ⊢; subst x54
      go_wp2_with fail
      refine (i_Mul _ _ _ _ _ _ hV (h3.le leX) (h2.le leX) V1.out U3.out).mono ?_
      rintro e W2 ⟨v, m2, rfl, hE2, hM2, hV2, h⟩
      go_wp2_with fail
      refine One2.call hE2 hM2 hV2 ?_; first | exact h | exact rfl
    · intro vs W1 m1 hE hM hV hD; obtain ⟨⟨_, _, -, i52, f52⟩, ⟨_, _, -, i55, f55⟩, -, -⟩ := hD; have f52 : IntC _ (vs 52) (pN x y * pD y') := f52; replace f52 := f52.le i52.le; clear i52; have f55 : IntC _ (vs 55) (pN x' y' * pD y) := f55; replace f55 := f55.le i55.le; clear i55
      go_wp2_with fail
      refine (i_Compare _ _ _ _ _ _ hV (f52.toV L1.out) (f55.toV L2.out)).mono ?_
      rintro e W2 ⟨v, m2, rfl, hE2, hM2, hV2, h⟩
      go_wp2_with fail
      refine One2.call hE2 hM2 hV2 ?_; first | exact h | exact rfl
  case l11 =>
    refine ⟨fun h => (by cases h), fun h => (by cases h), fun h => (by cases h), fun h => (by cases h), fun h => (by cases h), fun h => (by cases h), fun h => (by cases h), trivial⟩
  intro vs W1 m1 hE hM hV hF hD
  clear hD
  obtain ⟨-, -, ⟨_, _, -, i52, f52⟩, -, -, ⟨_, _, -, i55, f55⟩, ⟨_, _, -, -, f56⟩, -⟩ := hF
  replace hL := hL.call hE hM hV
  replace f52 : IntC _ (vs 52) (pN x y * pD y') := f52
  replace f52 := f52.le i52.le
  clear i52
  replace f55 : IntC _ (vs 55) (pN x' y' * pD y) := f55
  replace f55 := f55.le i55.le
  clear i55
  have f56 : vs 56 = _ := f56
  generalize vs 56 = x56 at f56 ⊢
  subst x56
  clear hE hV
  simp only [List.drop_succ_cons, List.drop_zero]
  go_wp2_with (first | ((with_reducible refine kAny ?_); go_skip) | (with_reducible refine stA ?_) | ((first | refine tFd ?_ | refine tLd ?_ | ((first | refine tSr ?_ | refine tSt ?_); clear hL; intro _ hL; simp only [splice, zq1, zq2, zq3] at hL) | ((first | refine tBx ?_ | refine tAl ?_); clear hL; intro _ _ hL _)); simp only [Act.put, zq1, zq2, zq3]))
  refine QN.mk ?_
  go_wp2_with (first | ((with_reducible refine kAny ?_); go_skip) | (with_reducible refine stA ?_) | ((first | refine tFd ?_ | refine tLd ?_ | ((first | refine tSr ?_ | refine tSt ?_); clear hL; intro _ hL; simp only [splice, zq1, zq2, zq3] at hL) | ((first | refine tBx ?_ | refine tAl ?_); clear hL; intro _ _ hL _)); simp only [Act.put, zq1, zq2, zq3]))
  go_ret
  exact RetV.mk hL rfl
theorem q_CompareG (a b : Value) (x y x' y' : Int) (w m : World) (hV : Vw m w) (ha : FrG m a x y) (hb : FrG m b x' y') (hs : Sm x y) (hs' : Sm x' y') :
    Calls Tryz.prog 83 #[a, b] w (RetV w m fun _ r => r = .int .i64 (icmp (pN x y * pD y') (pN x' y' * pD y))) := by
  by_cases hn : NoS a ∨ NoS b
  · obtain ⟨p, q, p', q', hk⟩ := small_no ha hb hn
    exact q_CompareL a b x y x' y' p q p' q' w m hV ha.1 hb.1 hs hs' hk
  · exact q_Compare a b x y x' y' w m hV (ha.2.resolve_right fun h => hn (.inl h)) (hb.2.resolve_right fun h => hn (.inr h)) hs hs'

theorem add_same {a b d : Int} (hd : 0 < d) : Rat.divInt (a + b) d = Rat.divInt a d + Rat.divInt b d := by
  rw [Rat.divInt_add_divInt _ _ (by omega) (by omega), ← Int.add_mul, Rat.divInt_mul_right (by omega)]

end Go.Proofs.YtmhkmmmompediaaGreat

/- Contracts of pairingref25.New, Mul and pairingdata.times that leave the digits of the numerator in a row of the caller's own. -/
namespace Go.Proofs.YtmhkmmmompediaaGreat
open Go.RowKit

theorem IntO.nil (u : World) (B : Nat) : IntO u B (.agg #[.bool false, .slice none 0 0]) 0 := ⟨.slice none 0 0, by simp, by simp [digs_zero], .inl ⟨by simp [digs_zero], by simp [digs_zero]⟩⟩
theorem IntO.lit {u : World} {B : Nat} {v : Value} {z : Int} (h : IntO u B v z) : ∃ A c, v = .agg #[.bool (decide (z < 0)), .slice A (digs z.natAbs).length c] ∧ u.ownsRow B 102 1 (.slice A (digs z.natAbs).length c) (digs z.natAbs).length ((digs z.natAbs).map U) := by
  obtain ⟨s, rfl, ho⟩ := h
  obtain ⟨A, c, rfl, _, _⟩ := Sl.digs_of_own ho
  exact ⟨A, c, rfl, ho⟩
def CanO (B : Nat) (z : Int) : Fct := fun v u _ => IntO u B v z
theorem IntO.litE {u W : World} {B : Nat} {v : Value} {z : Int} (h : IntO u B v z) (hE : Ext u W) : ∃ A c, v = .agg #[.bool (decide (z < 0)), .slice A (digs z.natAbs).length c] ∧ W.ownsRow B 102 1 (.slice A (digs z.natAbs).length c) (digs z.natAbs).length ((digs z.natAbs).map U) := by
  obtain ⟨A, c, e, ho⟩ := IntO.lit h
  exact ⟨A, c, e, ownsRow_ext ho hE⟩
def NumO (B : Nat) (u : World) (v : Value) (z : Int) : Prop := ∃ a b h D k d, v = .agg #[a, b, .bool h, .slice D k d] ∧ IntO u B (.agg #[a, b]) z
theorem NumO.base {u : World} {B B' : Nat} {v : Value} {z : Int} (h : NumO B' u v z) (hB : B ≤ B') : NumO B u v z := by
  obtain ⟨a, b, g, D, k, d, e, h⟩ := h
  exact ⟨a, b, g, D, k, d, e, h.base hB⟩
def NumF (B : Nat) (z : Int) : Fct := fun v u _ => NumO B u v z
theorem NumO.litE {u W : World} {B : Nat} {v : Value} {z : Int} (h : NumO B u v z) (hE : Ext u W) : ∃ A c f D k d, v = .agg #[.bool (decide (z < 0)), .slice A (digs z.natAbs).length c, .bool f, .slice D k d] ∧ W.ownsRow B 102 1 (.slice A (digs z.natAbs).length c) (digs z.natAbs).length ((digs z.natAbs).map U) := by
  obtain ⟨a, b, f, D, k, d, rfl, h⟩ := h
  obtain ⟨A, c, e, ho⟩ := IntO.lit h
  simp only [Value.agg.injEq, Array.mk.injEq, List.cons.injEq, and_true] at e
  obtain ⟨rfl, rfl⟩ := e
  exact ⟨A, c, f, D, k, d, rfl, ownsRow_ext ho hE⟩
theorem Loc.ownS {w0 m0 W m : World} {Ls R : List Lo} (hL : Loc w0 m0 W m Ls) (hs : ∀ x ∈ R, x ∈ Ls) {e : TypeId} {size : Nat} {v : Value} {n : Nat} {xs : List Value} (hR : Row e size v n xs R) : W.ownsRow w0.heap.size e size v n xs := by
  obtain ⟨h1, ⟨rfl, rfl, _⟩ | ⟨g, cap, cur, rfl, rfl, h⟩⟩ := hR
  · exact ⟨h1, .inl ⟨rfl, rfl⟩⟩
  · have hm : (g, e, cur) ∈ Ls := hs _ (by simp)
    exact ⟨h1, .inr ⟨g, cap, cur, rfl, hL.low _ hm, hL.blk _ hm, h⟩⟩
theorem c_CanonW (v : Value) (z : Int) (w m : World) (hV : Vw m w) (h : IntV m v z) : Calls Tryz.prog 127 #[v] w (RetW w m fun w' _ r => IntO w' w.heap.size r z) :=
  (r1_Canon v z w (h.le hV.le)).mono fun _ _ h => by
    obtain ⟨v, rfl, h1, h2⟩ := h
    exact ⟨v, _, rfl, h2, (joined_spec hV h2).1, (joined_spec hV h2).2, h1⟩

set_option maxRecDepth 100000 in
set_option maxHeartbeats 16000000 in
theorem r_NewO (n d : Value) (x y : Int) (w m : World) (hV : Vw m w) (hn : IntV m n x) (hd : IntV m d y) :
    Calls Tryz.prog 66 #[n, d] w (RetW w m fun w' _ r => NumO w.heap.size w' r (Rat.divInt x y).num) := by
  obtain ⟨na, A, la, ca, rfl⟩ := hn.lit
  obtain ⟨nb, B', lb, cb, rfl⟩ := hd.lit
  have hL := Loc.start hV
  clear hV
  go_enter Tryz.func66, Tryz.ntmps66
  go_wp2_with (first | ((with_reducible refine kAny ?_); go_skip) | (with_reducible refine stA ?_) | ((first | refine tLd ?_ | ((first | refine tSr ?_ | refine tSt ?_); clear hL; intro _ hL; simp only [splice, zq1, zq2, zq3] at hL) | ((first | refine tBx ?_ | refine tAl ?_); clear hL; intro _ _ hL _)); simp only [Act.put, zq1, zq2, zq3]))
  refine (c_FromInt64 1 _ _ hL.vw (by omega) (by omega)).mono ?_
  rintro e W1 ⟨v1, m1, rfl, hE, hM1, hV, h1⟩
  replace hL := hL.call hE (by assumption) hV; clear hE hV
  obtain ⟨g1, A1, n1, c1, rfl, h1⟩ := h1.lit
  go_wp2_with (first | ((with_reducible refine kAny ?_); go_skip) | (with_reducible refine stA ?_) | ((first | refine tLd ?_ | ((first | refine tSr ?_ | refine tSt ?_); clear hL; intro _ hL; simp only [splice, zq1, zq2, zq3] at hL) | ((first | refine tBx ?_ | refine tAl ?_); clear hL; intro _ _ hL _)); simp only [Act.put, zq1, zq2, zq3]))
  refine (c_Sign _ y _ _ hL.vw (hd.le leX)).mono ?_
  rintro e W2 ⟨_, m2, rfl, hE, hM2, hV, rfl⟩
  replace hL := hL.call hE (by assumption) hV; clear hE hV
  by_cases hy : y = 0
  · subst hy
    rw [show icmp 0 0 = 0 from rfl]
    go_wp2_with (first | ((with_reducible refine kAny ?_); go_skip) | (with_reducible refine stA ?_) | ((first | refine tLd ?_ | ((first | refine tSr ?_ | refine tSt ?_); clear hL; intro _ hL; simp only [splice, zq1, zq2, zq3] at hL) | ((first | refine tBx ?_ | refine tAl ?_); clear hL; intro _ _ hL _)); simp only [Act.put, zq1, zq2, zq3]))
    refine fin_aggP hL Tryz.results66 rfl rfl loX ag_Frac rfl (RetW.mk hL ?_)
    rw [Rat.divInt_zero]
    exact ⟨_, _, _, _, _, _, rfl, IntO.nil _ _⟩
  · have hyb : (icmp y 0 == 0) = false := by
      unfold icmp; by_cases h : y < 0 <;> simp [h, hy]
    go_wp2_with (first | ((with_reducible refine kAny ?_); go_skip) | (with_reducible refine stA ?_) | ((first | refine tLd ?_ | ((first | refine tSr ?_ | refine tSt ?_); clear hL; intro _ hL; simp only [splice, zq1, zq2, zq3] at hL) | ((first | refine tBx ?_ | refine tAl ?_); clear hL; intro _ _ hL _)); simp only [Act.put, zq1, zq2, zq3]))
    refine (c_Sign _ x _ _ hL.vw (hn.le leX)).mono ?_
    rintro e W3 ⟨_, m3, rfl, hE, hM3, hV, rfl⟩
    replace hL := hL.call hE (by assumption) hV; clear hE hV
    by_cases hx : x = 0
    · subst hx
      rw [show icmp 0 0 = 0 from rfl]
      go_wp2_with (first | ((with_reducible refine kAny ?_); go_skip) | (with_reducible refine stA ?_) | ((first | refine tLd ?_ | ((first | refine tSr ?_ | refine tSt ?_); clear hL; intro _ hL; simp only [splice, zq1, zq2, zq3] at hL) | ((first | refine tBx ?_ | refine tAl ?_); clear hL; intro _ _ hL _)); simp only [Act.put, zq1, zq2, zq3]))
      refine fin_aggP hL Tryz.results66 rfl rfl loX ag_Frac rfl (RetW.mk hL ?_)
      rw [Rat.zero_divInt]
      exact ⟨_, _, _, _, _, _, rfl, IntO.nil _ _⟩
    · have hxb : (icmp x 0 == 0) = false := by
        unfold icmp; by_cases h : x < 0 <;> simp [h, hx]
      go_wp2_with (first | ((with_reducible refine kAny ?_); go_skip) | (with_reducible refine stA ?_) | ((first | refine tLd ?_ | ((first | refine tSr ?_ | refine tSt ?_); clear hL; intro _ hL; simp only [splice, zq1, zq2, zq3] at hL) | ((first | refine tBx ?_ | refine tAl ?_); clear hL; intro _ _ hL _)); simp only [Act.put, zq1, zq2, zq3]))
      refine (c_Sign _ y _ _ hL.vw (hd.le leX)).mono ?_
      rintro e W4 ⟨_, m4, rfl, hE, hM4, hV, rfl⟩
      replace hL := hL.call hE (by assumption) hV; clear hE hV
      clear hyb hxb
      have lx := hn.length
      have ly := hd.length
      by_cases hneg : y < 0
      · rw [icmp_lt hneg]
        go_upto_region 5 with ((first | ((with_reducible refine kAny ?_); go_skip) | (with_reducible refine stA ?_) | ((first | refine tLd ?_ | ((first | refine tSr ?_ | refine tSt ?_); clear hL; intro _ hL; simp only [splice, zq1, zq2, zq3] at hL) | ((first | refine tBx ?_ | refine tAl ?_); clear hL; intro _ _ hL _)); simp only [Act.put, zq1, zq2, zq3])))
        refine wp_region_by2 4 [false, false, false, false] [false, false, false, false] [(fun v _ _ => v = ?c5_0), Of (fun um v => IntC um v (-x)), (fun v _ _ => v = ?c5_2), Of (fun um v => IntC um v (-y))] hL.vw mixed [27, 28, 29, 30] _ (by kernel_rfl) (fun vs => by simp only [lay, Act.put, zq1, zq2, zq3]; rfl) (by kernel_rfl) (by decide) (by decide) ?s5 ?l5 ?r5
        case s5 =>
          refine ⟨?_, ?_, ?_, ?_, trivial⟩
          · intro vs W1 m1 hE hM hV hD; clear hD; replace hL := hL.call hE hM hV
            exact sLd
          · intro vs W1 m1 hE hM hV hD; obtain ⟨⟨_, _, -, -, f27⟩, -⟩ := hD; have f27 : vs 27 = _ := f27; generalize vs 27 = x27 at f27 ⊢; subst x27
            go_wp2_with fail
            refine (c_Negate _ x _ _ hV (hn.le leX)).mono ?_
            rintro e W2 ⟨v, m2, rfl, hE2, hM2, hV2, h⟩
            go_wp2_with fail
            refine One2.call hE2 hM2 hV2 ?_; first | exact h | exact rfl
          · intro vs W1 m1 hE hM hV hD; clear hD; replace hL := hL.call hE hM hV
            exact sLd
          · intro vs W1 m1 hE hM hV hD; obtain ⟨⟨_, _, -, -, f29⟩, -, -⟩ := hD; have f29 : vs 29 = _ := f29; generalize vs 29 = x29 at f29 ⊢; subst x29
            go_wp2_with fail
            refine (c_Negate _ y _ _ hV (hd.le leX)).mono ?_
            rintro e W2 ⟨v, m2, rfl, hE2, hM2, hV2, h⟩
            go_wp2_with fail
            refine One2.call hE2 hM2 hV2 ?_; first | exact h | exact rfl
        case l5 =>
          refine ⟨fun h => (by cases h), fun h => (by cases h), fun h => (by cases h), fun h => (by cases h), trivial⟩
        intro vs W1 m1 hE hM hV hF hD
        clear hD
        obtain ⟨-, ⟨_, _, -, i28, f28⟩, -, ⟨_, _, -, i30, f30⟩, -⟩ := hF
        replace hL := hL.call hE hM hV
        replace f28 : IntC _ (vs 28) (-x) := f28
        replace f28 := f28.le i28.le
        clear i28
        obtain ⟨g28, A28, n28, c28, e28, f28⟩ := f28.lit
        generalize vs 28 = x28 at e28 ⊢
        subst x28
        replace f30 : IntC _ (vs 30) (-y) := f30
        replace f30 := f30.le i30.le
        clear i30
        obtain ⟨g30, A30, n30, c30, e30, f30⟩ := f30.lit
        generalize vs 30 = x30 at e30 ⊢
        subst x30
        clear hE hV
        simp only [List.drop_succ_cons, List.drop_zero]
        go_wp2_with (first | ((with_reducible refine kAny ?_); go_skip) | (with_reducible refine stA ?_) | ((first | refine tLd ?_ | ((first | refine tSr ?_ | refine tSt ?_); clear hL; intro _ hL; simp only [splice, zq1, zq2, zq3] at hL) | ((first | refine tBx ?_ | refine tAl ?_); clear hL; intro _ _ hL _)); simp only [Act.put, zq1, zq2, zq3]))
        refine QN.mk ?_
        have fx := f28.toV (by rw [Int.natAbs_neg]; exact lx)
        have fy := f30.toV (by rw [Int.natAbs_neg]; exact ly)
        have hq : Hid (Rat.divInt x y = Rat.divInt (-x) (-y)) := (Rat.neg_divInt_neg x y).symm
        have hy' : 0 < -y := by omega
        rw [← Int.natAbs_neg] at lx ly
        clear hneg hx hy f28 f30
        generalize -x = x' at *
        generalize -y = y' at *
        go_wp2_with (first | ((with_reducible refine kAny ?_); go_skip) | (with_reducible refine stA ?_) | ((first | refine tLd ?_ | ((first | refine tSr ?_ | refine tSt ?_); clear hL; intro _ hL; simp only [splice, zq1, zq2, zq3] at hL) | ((first | refine tBx ?_ | refine tAl ?_); clear hL; intro _ _ hL _)); simp only [Act.put, zq1, zq2, zq3]))
        have hgp : 0 < Int.gcd x' y' := Int.gcd_pos_of_ne_zero_right _ (by omega)
        have hgl : (digs (((Int.gcd x' y' : Nat) : Int)).natAbs).length ≤ 1000 := Nat.le_trans (length_digs_mono (by simpa using Nat.le_of_dvd (by omega) (Int.gcd_dvd_natAbs_right x' y'))) ly
        have hgq := frac_pos (x := x') hy'
        refine (c_GCD _ _ x' y' _ _ hL.vw (fx.le leX) (fy.le leX)).mono ?_
        rintro e W5 ⟨v5, m5, rfl, hE, hM5, hV, h5⟩
        replace hL := hL.call hE (by assumption) hV; clear hE hV
        obtain ⟨g5, A5, n5, c5, rfl, h5⟩ := h5.lit
        generalize Int.gcd x' y' = gg at *
        go_wp2_with (first | ((with_reducible refine kAny ?_); go_skip) | (with_reducible refine stA ?_) | ((first | refine tLd ?_ | ((first | refine tSr ?_ | refine tSt ?_); clear hL; intro _ hL; simp only [splice, zq1, zq2, zq3] at hL) | ((first | refine tBx ?_ | refine tAl ?_); clear hL; intro _ _ hL _)); simp only [Act.put, zq1, zq2, zq3]))
        refine (c_DivMod _ _ x' gg _ _ hL.vw (fx.le leX) ((h5.toV hgl).le leX) (by omega)).mono ?_
        rintro e W6 ⟨_, m6, rfl, hE, hM6, hV, q6, r6, rfl, h6, k6⟩
        replace hL := hL.call hE (by assumption) hV; clear hE hV
        obtain ⟨g6, A6, n6, c6, rfl, h6⟩ := h6.lit
        obtain ⟨g7, A7, n7, c7, rfl, k6⟩ := k6.lit
        have lq : (digs (x' / (gg : Int)).natAbs).length ≤ 1000 := Nat.le_trans (length_digs_mono (Int.natAbs_ediv_le_natAbs _ _)) lx
        have lr : (digs (y' / (gg : Int)).natAbs).length ≤ 1000 := Nat.le_trans (length_digs_mono (Int.natAbs_ediv_le_natAbs _ _)) ly
        have HQ := Lib.hid hgq
        clear hgq k6
        go_wp2_with (first | ((with_reducible refine kAny ?_); go_skip) | (with_reducible refine stA ?_) | ((first | refine tLd ?_ | ((first | refine tSr ?_ | refine tSt ?_); clear hL; intro _ hL; simp only [splice, zq1, zq2, zq3] at hL) | ((first | refine tBx ?_ | refine tAl ?_); clear hL; intro _ _ hL _)); simp only [Act.put, zq1, zq2, zq3]))
        refine (c_DivMod _ _ y' gg _ _ hL.vw (fy.le leX) ((h5.toV hgl).le leX) (by omega)).mono ?_
        rintro e W7 ⟨_, m7, rfl, hE, hM7, hV, q8, r8, rfl, h8, k8⟩
        replace hL := hL.call hE (by assumption) hV; clear hE hV
        obtain ⟨g8, A8, n8, c8, rfl, h8⟩ := h8.lit
        obtain ⟨g9, A9, n9, c9, rfl, k8⟩ := k8.lit
        clear k8
        go_upto_region 9 with ((first | ((with_reducible refine kAny ?_); go_skip) | (with_reducible refine stA ?_) | ((first | refine tLd ?_ | ((first | refine tSr ?_ | refine tSt ?_); clear hL; intro _ hL; simp only [splice, zq1, zq2, zq3] at hL) | ((first | refine tBx ?_ | refine tAl ?_); clear hL; intro _ _ hL _)); simp only [Act.put, zq1, zq2, zq3])))
        refine wp_region_by2 4 [false, false, false, false] [false, false, false, false] [(fun v _ _ => v = ?c9_0a), (CanO w.heap.size (x' / (gg : Int))), (fun v _ _ => v = ?c9_2a), Of (fun um v => IntC um v (y' / (gg : Int)))] hL.vw mixed [48, 49, 50, 51] _ (by kernel_rfl) (fun vs => by simp only [lay, Act.put, zq1, zq2, zq3]; rfl) (by kernel_rfl) (by decide) (by decide) ?s9a ?l9a ?r9a
        case s9a =>
          refine ⟨?_, ?_, ?_, ?_, trivial⟩
          · intro vs W1 m1 hE hM hV hD; clear hD; replace hL := hL.call hE hM hV
            exact sLd
          · intro vs W1 m1 hE hM hV hD; obtain ⟨⟨_, _, -, -, f48⟩, -⟩ := hD; have f48 : vs 48 = _ := f48; generalize vs 48 = x48 at f48 ⊢; subst x48
            (go_wp2_with fail; refine (c_CanonW _ _ _ _ hV ((h6.toV lq).le leX)).mono ?_; rintro e W2 ⟨v, m2, rfl, hE2, hM2, hV2, h⟩; go_wp2_with fail; refine One2.call hE2 hM2 hV2 ?_; exact h.base (Nat.le_trans hL.ext.size hE.size))
          · intro vs W1 m1 hE hM hV hD; clear hD; replace hL := hL.call hE hM hV
            exact sLd
          · intro vs W1 m1 hE hM hV hD; obtain ⟨⟨_, _, -, -, f50⟩, -, -⟩ := hD; have f50 : vs 50 = _ := f50; generalize vs 50 = x50 at f50 ⊢; subst x50
            go_wp2_with fail
            refine (c_Canon _ _ _ _ hV ((h8.toV lr).le leX)).mono ?_
            rintro e W2 ⟨v, m2, rfl, hE2, hM2, hV2, h⟩
            go_wp2_with fail
            refine One2.call hE2 hM2 hV2 ?_; first | exact h | exact rfl
        case l9a =>
          refine ⟨fun h => (by cases h), fun h => (by cases h), fun h => (by cases h), fun h => (by cases h), trivial⟩
        intro vs W1 m1 hE hM hV hF hD
        clear hD
        obtain ⟨-, ⟨_, _, j49, i49, f49⟩, -, ⟨_, _, -, i51, f51⟩, -⟩ := hF
        replace hL := hL.call hE hM hV
        replace f51 : IntC _ (vs 51) (y' / (gg : Int)) := f51
        replace f51 := f51.le i51.le
        clear i51
        obtain ⟨g51, A51, n51, c51, e51, f51⟩ := f51.lit
        generalize vs 51 = x51 at e51 ⊢
        subst x51
        clear hE hV
        obtain ⟨A49, c49, e49, ow⟩ := IntO.litE f49 j49
        generalize vs 49 = x49 at e49 ⊢
        subst x49
        obtain ⟨R, m3, hL3, row⟩ := hL.reown ow (Nat.le_refl _) (by simp)
        simp only [List.cons_append, List.nil_append] at hL3
        clear hL ow
        have hL := hL3
        clear hL3 i49 j49
        simp only [List.drop_succ_cons, List.drop_zero]
        go_wp2_with (first | ((with_reducible refine kAny ?_); go_skip) | (with_reducible refine stA ?_) | ((first | refine tLd ?_ | ((first | refine tSr ?_ | refine tSt ?_); clear hL; intro _ hL; simp only [splice, zq1, zq2, zq3] at hL) | ((first | refine tBx ?_ | refine tAl ?_); clear hL; intro _ _ hL _)); simp only [Act.put, zq1, zq2, zq3]))
        refine QN.mk ?_
        go_wp2_with (first | ((with_reducible refine kAny ?_); go_skip) | (with_reducible refine stA ?_) | ((first | refine tLd ?_ | ((first | refine tSr ?_ | refine tSt ?_); clear hL; intro _ hL; simp only [splice, zq1, zq2, zq3] at hL) | ((first | refine tBx ?_ | refine tAl ?_); clear hL; intro _ _ hL _)); simp only [Act.put, zq1, zq2, zq3]))
        refine fin_aggP hL Tryz.results66 rfl rfl loX ag_Frac rfl (RetW.mk hL ?_)
        rw [hq.out]
        exact ⟨_, _, _, _, _, _, rfl, by rw [HQ.out.1]; exact ⟨_, rfl, hL.ownS (fun x hx => by simp [hx]) row⟩⟩
      · have hy' : 0 < y := by omega
        rw [icmp_gt hy']
        have fx := hn.le (m' := m4) leX
        have fy := hd.le (m' := m4) leX
        clear hneg hx hy hn hd
        go_wp2_with (first | ((with_reducible refine kAny ?_); go_skip) | (with_reducible refine stA ?_) | ((first | refine tLd ?_ | ((first | refine tSr ?_ | refine tSt ?_); clear hL; intro _ hL; simp only [splice, zq1, zq2, zq3] at hL) | ((first | refine tBx ?_ | refine tAl ?_); clear hL; intro _ _ hL _)); simp only [Act.put, zq1, zq2, zq3]))
        have hgp : 0 < Int.gcd x y := Int.gcd_pos_of_ne_zero_right _ (by omega)
        have hgl : (digs (((Int.gcd x y : Nat) : Int)).natAbs).length ≤ 1000 := Nat.le_trans (length_digs_mono (by simpa using Nat.le_of_dvd (by omega) (Int.gcd_dvd_natAbs_right x y))) ly
        have hgq := frac_pos (x := x) hy'
        refine (c_GCD _ _ x y _ _ hL.vw (fx.le leX) (fy.le leX)).mono ?_
        rintro e W5 ⟨v5, m5, rfl, hE, hM5, hV, h5⟩
        replace hL := hL.call hE (by assumption) hV; clear hE hV
        obtain ⟨g5, A5, n5, c5, rfl, h5⟩ := h5.lit
        generalize Int.gcd x y = gg at *
        go_wp2_with (first | ((with_reducible refine kAny ?_); go_skip) | (with_reducible refine stA ?_) | ((first | refine tLd ?_ | ((first | refine tSr ?_ | refine tSt ?_); clear hL; intro _ hL; simp only [splice, zq1, zq2, zq3] at hL) | ((first | refine tBx ?_ | refine tAl ?_); clear hL; intro _ _ hL _)); simp only [Act.put, zq1, zq2, zq3]))
        refine (c_DivMod _ _ x gg _ _ hL.vw (fx.le leX) ((h5.toV hgl).le leX) (by omega)).mono ?_
        rintro e W6 ⟨_, m6, rfl, hE, hM6, hV, q6, r6, rfl, h6, k6⟩
        replace hL := hL.call hE (by assumption) hV; clear hE hV
        obtain ⟨g6, A6, n6, c6, rfl, h6⟩ := h6.lit
        obtain ⟨g7, A7, n7, c7, rfl, k6⟩ := k6.lit
        have lq : (digs (x / (gg : Int)).natAbs).length ≤ 1000 := Nat.le_trans (length_digs_mono (Int.natAbs_ediv_le_natAbs _ _)) lx
        have lr : (digs (y / (gg : Int)).natAbs).length ≤ 1000 := Nat.le_trans (length_digs_mono (Int.natAbs_ediv_le_natAbs _ _)) ly
        have HQ := Lib.hid hgq
        clear hgq k6
        go_wp2_with (first | ((with_reducible refine kAny ?_); go_skip) | (with_reducible refine stA ?_) | ((first | refine tLd ?_ | ((first | refine tSr ?_ | refine tSt ?_); clear hL; intro _ hL; simp only [splice, zq1, zq2, zq3] at hL) | ((first | refine tBx ?_ | refine tAl ?_); clear hL; intro _ _ hL _)); simp only [Act.put, zq1, zq2, zq3]))
        refine (c_DivMod _ _ y gg _ _ hL.vw (fy.le leX) ((h5.toV hgl).le leX) (by omega)).mono ?_
        rintro e W7 ⟨_, m7, rfl, hE, hM7, hV, q8, r8, rfl, h8, k8⟩
        replace hL := hL.call hE (by assumption) hV; clear hE hV
        obtain ⟨g8, A8, n8, c8, rfl, h8⟩ := h8.lit
        obtain ⟨g9, A9, n9, c9, rfl, k8⟩ := k8.lit
        clear k8
        go_upto_region 9 with ((first | ((with_reducible refine kAny ?_); go_skip) | (with_reducible refine stA ?_) | ((first | refine tLd ?_ | ((first | refine tSr ?_ | refine tSt ?_); clear hL; intro _ hL; simp only [splice, zq1, zq2, zq3] at hL) | ((first | refine tBx ?_ | refine tAl ?_); clear hL; intro _ _ hL _)); simp only [Act.put, zq1, zq2, zq3])))
        refine wp_region_by2 4 [false, false, false, false] [false, false, false, false] [(fun v _ _ => v = ?c9_0b), (CanO w.heap.size (x / (gg : Int))), (fun v _ _ => v = ?c9_2b), Of (fun um v => IntC um v (y / (gg : Int)))] hL.vw mixed [48, 49, 50, 51] _ (by kernel_rfl) (fun vs => by simp only [lay, Act.put, zq1, zq2, zq3]; rfl) (by kernel_rfl) (by decide) (by decide) ?s9b ?l9b ?r9b
        case s9b =>
          refine ⟨?_, ?_, ?_, ?_, trivial⟩
          · intro vs W1 m1 hE hM hV hD; clear hD; replace hL := hL.call hE hM hV
            exact sLd
          · intro vs W1 m1 hE hM hV hD; obtain ⟨⟨_, _, -, -, f48⟩, -⟩ := hD; have f48 : vs 48 = _ := f48; generalize vs 48 = x48 at f48 ⊢; subst x48
            (go_wp2_with fail; refine (c_CanonW _ _ _ _ hV ((h6.toV lq).le leX)).mono ?_; rintro e W2 ⟨v, m2, rfl, hE2, hM2, hV2, h⟩; go_wp2_with fail; refine One2.call hE2 hM2 hV2 ?_; exact h.base (Nat.le_trans hL.ext.size hE.size))
          · intro vs W1 m1 hE hM hV hD; clear hD; replace hL := hL.call hE hM hV
            exact sLd
          · intro vs W1 m1 hE hM hV hD; obtain ⟨⟨_, _, -, -, f50⟩, -, -⟩ := hD; have f50 : vs 50 = _ := f50; generalize vs 50 = x50 at f50 ⊢; subst x50
            go_wp2_with fail
            refine (c_Canon _ _ _ _ hV ((h8.toV lr).le leX)).mono ?_
            rintro e W2 ⟨v, m2, rfl, hE2, hM2, hV2, h⟩
            go_wp2_with fail
            refine One2.call hE2 hM2 hV2 ?_; first | exact h | exact rfl
        case l9b =>
          refine ⟨fun h => (by cases h), fun h => (by cases h), fun h => (by cases h), fun h => (by cases h), trivial⟩
        intro vs W1 m1 hE hM hV hF hD
        clear hD
        obtain ⟨-, ⟨_, _, j49, i49, f49⟩, -, ⟨_, _, -, i51, f51⟩, -⟩ := hF
        replace hL := hL.call hE hM hV
        replace f51 : IntC _ (vs 51) (y / (gg : Int)) := f51
        replace f51 := f51.le i51.le
        clear i51
        obtain ⟨g51, A51, n51, c51, e51, f51⟩ := f51.lit
        generalize vs 51 = x51 at e51 ⊢
        subst x51
        clear hE hV
        obtain ⟨A49, c49, e49, ow⟩ := IntO.litE f49 j49
        generalize vs 49 = x49 at e49 ⊢
        subst x49
        obtain ⟨R, m3, hL3, row⟩ := hL.reown ow (Nat.le_refl _) (by simp)
        simp only [List.cons_append, List.nil_append] at hL3
        clear hL ow
        have hL := hL3
        clear hL3 i49 j49
        simp only [List.drop_succ_cons, List.drop_zero]
        go_wp2_with (first | ((with_reducible refine kAny ?_); go_skip) | (with_reducible refine stA ?_) | ((first | refine tLd ?_ | ((first | refine tSr ?_ | refine tSt ?_); clear hL; intro _ hL; simp only [splice, zq1, zq2, zq3] at hL) | ((first | refine tBx ?_ | refine tAl ?_); clear hL; intro _ _ hL _)); simp only [Act.put, zq1, zq2, zq3]))
        refine QN.mk ?_
        go_wp2_with (first | ((with_reducible refine kAny ?_); go_skip) | (with_reducible refine stA ?_) | ((first | refine tLd ?_ | ((first | refine tSr ?_ | refine tSt ?_); clear hL; intro _ hL; simp only [splice, zq1, zq2, zq3] at hL) | ((first | refine tBx ?_ | refine tAl ?_); clear hL; intro _ _ hL _)); simp only [Act.put, zq1, zq2, zq3]))
        refine fin_aggP hL Tryz.results66 rfl rfl loX ag_Frac rfl (RetW.mk hL ?_)
        exact ⟨_, _, _, _, _, _, rfl, by rw [HQ.out.1]; exact ⟨_, rfl, hL.ownS (fun x hx => by simp [hx]) row⟩⟩

set_option maxRecDepth 100000 in
set_option maxHeartbeats 8000000 in
theorem r_MulO (a b : Value) (p q : Rat) (w m : World) (hV : Vw m w) (ha : FracV m a p) (hb : FracV m b q) (kp : Fit 200 p) (kq : Fit 200 q) :
    Calls Tryz.prog 25 #[a, b] w (RetW w m fun w' _ r => NumO w.heap.size w' r (p * q).num) := by
  have hq := Lib.hid (rat_mul p q)
  have l1 := Nat.le_trans (mul_len kp.n kq.n) (show 200 + 200 ≤ 1000 by omega)
  have l2 := Nat.le_trans (mul_len kp.d kq.d) (show 200 + 200 ≤ 1000 by omega)
  obtain ⟨_, _, g1, A1, n1, c1, h1, B1, k1, d1, rfl, -, -, -⟩ := ha.lit
  obtain ⟨_, _, g2, A2, n2, c2, h2, B2, k2, d2, rfl, -, -, -⟩ := hb.lit
  have hL := Loc.start hV
  clear hV
  go_enter Tryz.func25, Tryz.ntmps25
  go_upto_region 1 with ((first | ((with_reducible refine kAny ?_); go_skip) | (with_reducible refine stA ?_) | ((first | refine tFd ?_ | refine tLd ?_ | ((first | refine tSr ?_ | refine tSt ?_); clear hL; intro _ hL; simp only [splice, zq1, zq2, zq3] at hL) | ((first | refine tBx ?_ | refine tAl ?_); clear hL; intro _ _ hL _)); simp only [Act.put, zq1, zq2, zq3])))
  refine wp_region_by2 4 [false, false, false, false] [false, false, false, false] [(fun v _ _ => v = ?c1_0), Of (fun um v => FracC um v p), (fun v _ _ => v = ?c1_2), Of (fun um v => FracC um v q)] hL.vw mixed [5, 6, 7, 8] _ (by kernel_rfl) (fun vs => by simp only [lay, Act.put, zq1, zq2, zq3]; rfl) (by kernel_rfl) (by decide) (by decide) ?s1 ?l1 ?r1
  case s1 =>
    refine ⟨?_, ?_, ?_, ?_, trivial⟩
    · intro vs W1 m1 hE hM hV hD; clear hD; replace hL := hL.call hE hM hV
      exact sLd
    · intro vs W1 m1 hE hM hV hD; obtain ⟨⟨_, _, -, -, f5⟩, -⟩ := hD; have f5 : vs 5 = _ := f5; generalize vs 5 = x5 at f5 ⊢; subst x5
      go_wp2_with fail
      refine (r_Canon _ p _ _ hV (ha.le leX)).mono ?_
      rintro e W2 ⟨v, m2, rfl, hE2, hM2, hV2, h⟩
      go_wp2_with fail
      refine One2.call hE2 hM2 hV2 ?_; first | exact h | exact rfl
    · intro vs W1 m1 hE hM hV hD; clear hD; replace hL := hL.call hE hM hV
      exact sLd
    · intro vs W1 m1 hE hM hV hD; obtain ⟨⟨_, _, -, -, f7⟩, -, -⟩ := hD; have f7 : vs 7 = _ := f7; generalize vs 7 = x7 at f7 ⊢; subst x7
      go_wp2_with fail
      refine (r_Canon _ q _ _ hV (hb.le leX)).mono ?_
      rintro e W2 ⟨v, m2, rfl, hE2, hM2, hV2, h⟩
      go_wp2_with fail
      refine One2.call hE2 hM2 hV2 ?_; first | exact h | exact rfl
  case l1 =>
    refine ⟨fun h => (by cases h), fun h => (by cases h), fun h => (by cases h), fun h => (by cases h), trivial⟩
  intro vs W1 m1 hE hM hV hF hD
  clear hD
  obtain ⟨-, ⟨_, _, -, i6, f6⟩, -, ⟨_, _, -, i8, f8⟩, -⟩ := hF
  replace hL := hL.call hE hM hV
  replace f6 : FracC _ (vs 6) p := f6
  replace f6 := f6.le i6.le
  clear i6
  obtain ⟨g6, A6, n6, c6, h6, B6, k6, d6, e6, f6⟩ := f6.lit
  generalize vs 6 = x6 at e6 ⊢
  subst x6
  replace f8 : FracC _ (vs 8) q := f8
  replace f8 := f8.le i8.le
  clear i8
  obtain ⟨g8, A8, n8, c8, h8, B8, k8, d8, e8, f8⟩ := f8.lit
  generalize vs 8 = x8 at e8 ⊢
  subst x8
  clear hE hV
  simp only [List.drop_succ_cons, List.drop_zero]
  go_wp2_with (first | ((with_reducible refine kAny ?_); go_skip) | (with_reducible refine stA ?_) | ((first | refine tFd ?_ | refine tLd ?_ | ((first | refine tSr ?_ | refine tSt ?_); clear hL; intro _ hL; simp only [splice, zq1, zq2, zq3] at hL) | ((first | refine tBx ?_ | refine tAl ?_); clear hL; intro _ _ hL _)); simp only [Act.put, zq1, zq2, zq3]))
  refine QN.mk ?_
  obtain ⟨a1, a2⟩ := f6.open_
  obtain ⟨b1, b2⟩ := f8.open_
  replace a1 := a1.toV (kp.num (by omega))
  replace a2 := a2.toV (kp.den (by omega))
  replace b1 := b1.toV (kq.num (by omega))
  replace b2 := b2.toV (kq.den (by omega))
  clear f6 f8
  go_upto_region 2 with ((first | ((with_reducible refine kAny ?_); go_skip) | (with_reducible refine stA ?_) | ((first | refine tFd ?_ | refine tLd ?_ | ((first | refine tSr ?_ | refine tSt ?_); clear hL; intro _ hL; simp only [splice, zq1, zq2, zq3] at hL) | ((first | refine tBx ?_ | refine tAl ?_); clear hL; intro _ _ hL _)); simp only [Act.put, zq1, zq2, zq3])))
  refine wp_region_by2 11 [false, false, false, false, false, false, false, false, false, false, false] [false, false, false, false, false, false, false, false, false, false, false] [(fun v _ _ => v = ?c2_0), (fun v _ _ => v = ?c2_1), (fun v _ _ => v = ?c2_2), (fun v _ _ => v = ?c2_3), Of (fun um v => IntC um v (p.num * q.num)), (fun v _ _ => v = ?c2_5), (fun v _ _ => v = ?c2_6), (fun v _ _ => v = ?c2_7), (fun v _ _ => v = ?c2_8), Of (fun um v => IntC um v (p.den * q.den : Int)), (NumF w.heap.size (Rat.divInt (p.num * q.num) (p.den * q.den : Int)).num)] hL.vw mixed [9, 10, 11, 12, 13, 14, 15, 16, 17, 18, 19] _ (by kernel_rfl) (fun vs => by simp only [lay, Act.put, zq1, zq2, zq3]; rfl) (by kernel_rfl) (by decide) (by decide) ?s2 ?l2 ?r2
  case s2 =>
    refine ⟨?_, ?_, ?_, ?_, ?_, ?_, ?_, ?_, ?_, ?_, ?_, trivial⟩
    · intro vs W1 m1 hE hM hV hD; clear hD; replace hL := hL.call hE hM hV
      exact sFd
    · intro vs W1 m1 hE hM hV hD; obtain ⟨⟨_, _, -, -, f9⟩, -⟩ := hD; have f9 : vs 9 = _ := f9; generalize vs 9 = x9 at f9 ⊢; subst x9; replace hL := hL.call hE hM hV
      exact sLd
    · intro vs W1 m1 hE hM hV hD; clear hD; replace hL := hL.call hE hM hV
      exact sFd
    · intro vs W1 m1 hE hM hV hD; obtain ⟨⟨_, _, -, -, f11⟩, -⟩ := hD; have f11 : vs 11 = _ := f11; generalize vs 11 = x11 at f11 ⊢; subst x11; replace hL := hL.call hE hM hV
      exact sLd
    · intro vs W1 m1 hE hM hV hD; obtain ⟨⟨_, _, -, -, f10⟩, ⟨_, _, -, -, f12⟩, -⟩ := hD; have f10 : vs 10 = _ := f10; generalize vs 10 = x10 at f10 ⊢; subst x10; have f12 : vs 12 = _ := f12; generalize vs 12 = x12 at f12 ⊢; subst x12
      go_wp2_with fail
      refine (c_Mul _ _ _ _ _ _ hV (a1.le leX) (b1.le leX)).mono ?_
      rintro e W2 ⟨v, m2, rfl, hE2, hM2, hV2, h⟩
      go_wp2_with fail
      refine One2.call hE2 hM2 hV2 ?_; first | exact h | exact rfl
    · intro vs W1 m1 hE hM hV hD; clear hD; replace hL := hL.call hE hM hV
      exact sFd
    · intro vs W1 m1 hE hM hV hD; obtain ⟨⟨_, _, -, -, f14⟩, -⟩ := hD; have f14 : vs 14 = _ := f14; generalize vs 14 = x14 at f14 ⊢; subst x14; replace hL := hL.call hE hM hV
      exact sLd
    · intro vs W1 m1 hE hM hV hD; clear hD; replace hL := hL.call hE hM hV
      exact sFd
    · intro vs W1 m1 hE hM hV hD; obtain ⟨⟨_, _, -, -, f16⟩, -⟩ := hD; have f16 : vs 16 = _ := f16; generalize vs 16 = x16 at f16 ⊢; subst x16; replace hL := hL.call hE hM hV
      exact sLd
    · intro vs W1 m1 hE hM hV hD; obtain ⟨⟨_, _, -, -, f15⟩, ⟨_, _, -, -, f17⟩, -, -⟩ := hD; have f15 : vs 15 = _ := f15; generalize vs 15 = x15 at f15 ⊢; subst x15; have f17 : vs 17 = _ := f17; generalize vs 17 = x17 at f17 ⊢; subst x17
      go_wp2_with fail
      refine (c_Mul _ _ _ _ _ _ hV (a2.le leX) (b2.le leX)).mono ?_
      rintro e W2 ⟨v, m2, rfl, hE2, hM2, hV2, h⟩
      go_wp2_with fail
      refine One2.call hE2 hM2 hV2 ?_; first | exact h | exact rfl
    · intro vs W1 m1 hE hM hV hD; obtain ⟨⟨_, _, -, i13, f13⟩, ⟨_, _, -, i18, f18⟩, -, -⟩ := hD; have f13 : IntC _ (vs 13) (p.num * q.num) := f13; replace f13 := f13.le i13.le; clear i13; have f18 : IntC _ (vs 18) (p.den * q.den : Int) := f18; replace f18 := f18.le i18.le; clear i18
      (go_wp2_with fail; refine (r_NewO _ _ _ _ _ _ hV (f13.toV l1) (f18.toV l2)).mono ?_; rintro e W2 ⟨v, m2, rfl, hE2, hM2, hV2, h⟩; go_wp2_with fail; refine One2.call hE2 hM2 hV2 ?_; exact h.base (Nat.le_trans hL.ext.size hE.size))
  case l2 =>
    refine ⟨fun h => (by cases h), fun h => (by cases h), fun h => (by cases h), fun h => (by cases h), fun h => (by cases h), fun h => (by cases h), fun h => (by cases h), fun h => (by cases h), fun h => (by cases h), fun h => (by cases h), fun h => (by cases h), trivial⟩
  intro vs W1 m1 hE hM hV hF hD
  clear hD
  obtain ⟨-, -, -, -, ⟨_, _, -, i13, f13⟩, -, -, -, -, ⟨_, _, -, i18, f18⟩, ⟨_, _, j19, i19, f19⟩, -⟩ := hF
  replace hL := hL.call hE hM hV
  replace f13 : IntC _ (vs 13) (p.num * q.num) := f13
  replace f13 := f13.le i13.le
  clear i13
  replace f18 : IntC _ (vs 18) (p.den * q.den : Int) := f18
  replace f18 := f18.le i18.le
  clear i18
  clear hE hV
  obtain ⟨A19, c19, y1, y2, y3, y4, e19, ow⟩ := NumO.litE f19 j19
  generalize vs 19 = x19 at e19 ⊢
  subst x19
  obtain ⟨R, m3, hL3, row⟩ := hL.reown ow (Nat.le_refl _) (by simp)
  simp only [List.cons_append, List.nil_append] at hL3
  clear hL ow
  have hL := hL3
  clear hL3 i19 j19 f13 f18
  simp only [List.drop_succ_cons, List.drop_zero]
  go_wp2_with (first | ((with_reducible refine kAny ?_); go_skip) | (with_reducible refine stA ?_) | ((first | refine tFd ?_ | refine tLd ?_ | ((first | refine tSr ?_ | refine tSt ?_); clear hL; intro _ hL; simp only [splice, zq1, zq2, zq3] at hL) | ((first | refine tBx ?_ | refine tAl ?_); clear hL; intro _ _ hL _)); simp only [Act.put, zq1, zq2, zq3]))
  refine QN.mk ?_
  go_wp2_with (first | ((with_reducible refine kAny ?_); go_skip) | (with_reducible refine stA ?_) | ((first | refine tFd ?_ | refine tLd ?_ | ((first | refine tSr ?_ | refine tSt ?_); clear hL; intro _ hL; simp only [splice, zq1, zq2, zq3] at hL) | ((first | refine tBx ?_ | refine tAl ?_); clear hL; intro _ _ hL _)); simp only [Act.put, zq1, zq2, zq3]))
  refine fin_aggP hL Tryz.results25 rfl rfl loX ag_Frac rfl (RetW.mk hL ?_)
  rw [hq.out]; exact ⟨_, _, _, _, _, _, rfl, _, rfl, hL.ownS (fun x hx => by simp [hx]) row⟩
end Go.Proofs.YtmhkmmmompediaaGreat

/- Contract of pairingdata.times: its result's digits lie in a row of the caller's own. -/
namespace Go.Proofs.YtmhkmmmompediaaGreat
open Go.RowKit

theorem rat_one (x : Int) : Rat.divInt x 1 = (x : Rat) := by rw [← Rat.num_divInt_den (x : Rat)]; simp
theorem num_mul (x y : Int) : (Rat.divInt x 1 * Rat.divInt y 1).num = x * y := by
  rw [rat_one, rat_one, ← Rat.intCast_mul, Rat.num_intCast]
def IntW (B : Nat) (z : Int) : Fct := fun v u um => IntC um v z ∧ IntO u B v z
theorem IntW.base {u um : World} {B B' : Nat} {v : Value} {z : Int} (h : IntW B' z v u um) (hB : B ≤ B') : IntW B z v u um := ⟨h.1, h.2.base hB⟩

set_option maxRecDepth 100000 in
set_option maxHeartbeats 8000000 in
theorem d_times (a b : Value) (x y : Int) (w m : World) (hV : Vw m w) (ha : IntV m a x) (hb : IntV m b y) (hx : x.natAbs < 4294967296) (hy : y.natAbs < 4294967296) :
    Calls Tryz.prog 75 #[a, b] w (RetW w m fun w' m' v => IntW w.heap.size (x * y) v w' m') := by
  have HA := Lib.hid ha
  have HB := Lib.hid hb
  obtain ⟨g1, A1, n1, c1, rfl⟩ := ha.lit
  obtain ⟨g2, A2, n2, c2, rfl⟩ := hb.lit
  have K1 : Hid (Fit 200 (Rat.divInt x 1)) := by show Fit _ _; rw [rat_one]; exact fit_int x hx
  have K2 : Hid (Fit 200 (Rat.divInt y 1)) := by show Fit _ _; rw [rat_one]; exact fit_int y hy
  have E := Lib.hid (num_mul x y)
  have hL := Loc.start hV
  clear hV hx hy ha hb
  go_enter Tryz.func75, Tryz.ntmps75
  go_upto_region 1 with ((first | ((with_reducible refine kAny ?_); go_skip) | (with_reducible refine stA ?_) | ((first | refine tLd ?_ | ((first | refine tSr ?_ | refine tSt ?_); clear hL; intro _ hL; simp only [splice, zq1, zq2, zq3] at hL) | ((first | refine tBx ?_ | refine tAl ?_); clear hL; intro _ _ hL _) | refine tFl ?_); simp only [Act.put, zq1, zq2, zq3])))
  have ha := HA.out
  have hb := HB.out
  refine wp_region_by2 10 [false, false, false, false, false, false, false, false, false, false] [false, false, false, false, false, false, false, false, false, false] [(fun v _ _ => v = ?c1_0), Of (fun um v => FracC um v ((1 : Int) : Rat)), Of (fun um v => IntC um v 1), Of (fun um v => FracV um v (Rat.divInt x 1)), (fun v _ _ => v = ?c1_4), Of (fun um v => FracC um v ((1 : Int) : Rat)), Of (fun um v => IntC um v 1), Of (fun um v => FracV um v (Rat.divInt y 1)), (NumF w.heap.size (Rat.divInt x 1 * Rat.divInt y 1).num), (CanO w.heap.size (x * y))] hL.vw mixed [5, 6, 7, 8, 9, 10, 11, 12, 13, 14] _ (by kernel_rfl) (fun vs => by simp only [lay, Act.put, zq1, zq2, zq3]; rfl) (by kernel_rfl) (by decide) (by decide) ?s1 ?l1 ?r1
  case s1 =>
    refine ⟨?_, ?_, ?_, ?_, ?_, ?_, ?_, ?_, ?_, ?_, trivial⟩
    · intro vs W1 m1 hE hM hV hD; clear hD; replace hL := hL.call hE hM hV
      exact sLd
    · intro vs W1 m1 hE hM hV hD; clear hD
      go_wp2_with fail
      refine (r_Int 1 _ _ hV (by decide) (by decide)).mono ?_
      rintro e W2 ⟨v, m2, rfl, hE2, hM2, hV2, h⟩
      go_wp2_with fail
      refine One2.call hE2 hM2 hV2 ?_; first | exact h | exact rfl
    · intro vs W1 m1 hE hM hV hD; obtain ⟨⟨_, _, -, i6, f6⟩, -⟩ := hD; have f6 : FracC _ (vs 6) ((1 : Int) : Rat) := f6; replace f6 := f6.le i6.le; clear i6
      (obtain ⟨g6, A6, n6, c6, h6, B6, k6, d6, e6, f6⟩ := f6.lit; generalize vs 6 = x6 at e6 ⊢; subst x6; replace hL := hL.call hE hM hV; go_wp2_with (first | ((with_reducible refine kAny ?_); go_skip) | (with_reducible refine stA ?_) | ((first | refine tLd ?_ | ((first | refine tSr ?_ | refine tSt ?_); clear hL; intro _ hL; simp only [splice, zq1, zq2, zq3] at hL) | ((first | refine tBx ?_ | refine tAl ?_); clear hL; intro _ _ hL _) | refine tFl ?_); simp only [Act.put, zq1, zq2, zq3])); refine One2.still hV ?_; exact f6.open_.1)
    · intro vs W1 m1 hE hM hV hD; obtain ⟨⟨_, _, -, -, f5⟩, ⟨_, _, -, i7, f7⟩, -⟩ := hD; have f5 : vs 5 = _ := f5; generalize vs 5 = x5 at f5 ⊢; subst x5; have f7 : IntC _ (vs 7) 1 := f7; replace f7 := f7.le i7.le; clear i7
      (obtain ⟨g7, A7, n7, c7, e7, f7⟩ := f7.lit; generalize vs 7 = x7 at e7 ⊢; subst x7; go_wp2_with fail; refine One2.still hV ?_; exact ⟨x, 1, _, _, _, _, rfl, ha.le leX, f7.toV len_one, rfl⟩)
    · intro vs W1 m1 hE hM hV hD; clear hD; replace hL := hL.call hE hM hV
      exact sLd
    · intro vs W1 m1 hE hM hV hD; clear hD
      go_wp2_with fail
      refine (r_Int 1 _ _ hV (by decide) (by decide)).mono ?_
      rintro e W2 ⟨v, m2, rfl, hE2, hM2, hV2, h⟩
      go_wp2_with fail
      refine One2.call hE2 hM2 hV2 ?_; first | exact h | exact rfl
    · intro vs W1 m1 hE hM hV hD; obtain ⟨⟨_, _, -, i10, f10⟩, -⟩ := hD; have f10 : FracC _ (vs 10) ((1 : Int) : Rat) := f10; replace f10 := f10.le i10.le; clear i10
      (obtain ⟨g6, A6, n6, c6, h6, B6, k6, d6, e6, f6⟩ := f10.lit; generalize vs 10 = x6 at e6 ⊢; subst x6; replace hL := hL.call hE hM hV; go_wp2_with (first | ((with_reducible refine kAny ?_); go_skip) | (with_reducible refine stA ?_) | ((first | refine tLd ?_ | ((first | refine tSr ?_ | refine tSt ?_); clear hL; intro _ hL; simp only [splice, zq1, zq2, zq3] at hL) | ((first | refine tBx ?_ | refine tAl ?_); clear hL; intro _ _ hL _) | refine tFl ?_); simp only [Act.put, zq1, zq2, zq3])); refine One2.still hV ?_; exact f6.open_.1)
    · intro vs W1 m1 hE hM hV hD; obtain ⟨⟨_, _, -, -, f9⟩, ⟨_, _, -, i11, f11⟩, -⟩ := hD; have f9 : vs 9 = _ := f9; generalize vs 9 = x9 at f9 ⊢; subst x9; have f11 : IntC _ (vs 11) 1 := f11; replace f11 := f11.le i11.le; clear i11
      (obtain ⟨g7, A7, n7, c7, e7, f7⟩ := f11.lit; generalize vs 11 = x7 at e7 ⊢; subst x7; go_wp2_with fail; refine One2.still hV ?_; exact ⟨y, 1, _, _, _, _, rfl, hb.le leX, f7.toV len_one, rfl⟩)
    · intro vs W1 m1 hE hM hV hD; obtain ⟨⟨_, _, -, i8, f8⟩, ⟨_, _, -, i12, f12⟩, -, -⟩ := hD; have f8 : FracV _ (vs 8) (Rat.divInt x 1) := f8; replace f8 := f8.le i8.le; clear i8; have f12 : FracV _ (vs 12) (Rat.divInt y 1) := f12; replace f12 := f12.le i12.le; clear i12
      (go_wp2_with fail; refine (r_MulO _ _ _ _ _ _ hV f8 f12 K1.out K2.out).mono ?_; rintro e W2 ⟨v, m2, rfl, hE2, hM2, hV2, h⟩; go_wp2_with fail; refine One2.call hE2 hM2 hV2 ?_; exact h.base (Nat.le_trans hL.ext.size hE.size))
    · intro vs W1 m1 hE hM hV hD; obtain ⟨⟨_, _, j13, i13, f13⟩, -⟩ := hD
      (obtain ⟨A6, c6, g7, B7, k7, d7, e6, ow⟩ := NumO.litE f13 j13; rw [E.out] at e6 ow; generalize vs 13 = x6 at e6 ⊢; subst x6; replace hL := hL.call hE hM hV; go_wp2_with (first | ((with_reducible refine kAny ?_); go_skip) | (with_reducible refine stA ?_) | ((first | refine tLd ?_ | ((first | refine tSr ?_ | refine tSt ?_); clear hL; intro _ hL; simp only [splice, zq1, zq2, zq3] at hL) | ((first | refine tBx ?_ | refine tAl ?_); clear hL; intro _ _ hL _) | refine tFl ?_); simp only [Act.put, zq1, zq2, zq3])); refine One2.still hV ?_; exact ⟨_, rfl, ow⟩)
  case l1 =>
    refine ⟨fun h => (by cases h), fun h => (by cases h), fun h => (by cases h), fun h => (by cases h), fun h => (by cases h), fun h => (by cases h), fun h => (by cases h), fun h => (by cases h), fun h => (by cases h), fun h => (by cases h), trivial⟩
  intro vs W1 m1 hE hM hV hF hD
  clear hD
  obtain ⟨-, ⟨_, _, -, i6, f6⟩, ⟨_, _, -, i7, f7⟩, ⟨_, _, -, i8, f8⟩, -, ⟨_, _, -, i10, f10⟩, ⟨_, _, -, i11, f11⟩, ⟨_, _, -, i12, f12⟩, ⟨_, _, j13, i13, f13⟩, ⟨_, _, j14, i14, f14⟩, -⟩ := hF
  replace hL := hL.call hE hM hV
  replace f6 : FracC _ (vs 6) ((1 : Int) : Rat) := f6
  replace f6 := f6.le i6.le
  clear i6
  replace f7 : IntC _ (vs 7) 1 := f7
  replace f7 := f7.le i7.le
  clear i7
  replace f8 : FracV _ (vs 8) (Rat.divInt x 1) := f8
  replace f8 := f8.le i8.le
  clear i8
  replace f10 : FracC _ (vs 10) ((1 : Int) : Rat) := f10
  replace f10 := f10.le i10.le
  clear i10
  replace f11 : IntC _ (vs 11) 1 := f11
  replace f11 := f11.le i11.le
  clear i11
  replace f12 : FracV _ (vs 12) (Rat.divInt y 1) := f12
  replace f12 := f12.le i12.le
  clear i12
  clear hE hV
  obtain ⟨A14, c14, e14, ow⟩ := IntO.litE f14 j14
  generalize vs 14 = x14 at e14 ⊢
  subst x14
  obtain ⟨R, m3, hL3, row⟩ := hL.reown ow (Nat.le_refl _) (by simp)
  simp only [List.cons_append, List.nil_append] at hL3
  clear hL ow
  have hL := hL3
  clear hL3
  simp only [List.drop_succ_cons, List.drop_zero]
  go_wp2_with (first | ((with_reducible refine kAny ?_); go_skip) | (with_reducible refine stA ?_) | ((first | refine tLd ?_ | ((first | refine tSr ?_ | refine tSt ?_); clear hL; intro _ hL; simp only [splice, zq1, zq2, zq3] at hL) | ((first | refine tBx ?_ | refine tAl ?_); clear hL; intro _ _ hL _) | refine tFl ?_); simp only [Act.put, zq1, zq2, zq3]))
  refine QN.mk ?_
  go_wp2_with (first | ((with_reducible refine kAny ?_); go_skip) | (with_reducible refine stA ?_) | ((first | refine tLd ?_ | ((first | refine tSr ?_ | refine tSt ?_); clear hL; intro _ hL; simp only [splice, zq1, zq2, zq3] at hL) | ((first | refine tBx ?_ | refine tAl ?_); clear hL; intro _ _ hL _) | refine tFl ?_); simp only [Act.put, zq1, zq2, zq3]))
  obtain ⟨m9, B9, c9, hL9, hle9, e9, hc9, hs9, ho9⟩ := Loc.show (A := [_, _, _]) hL row
  refine fin_aggP hL Tryz.results75 rfl rfl loX ag_Int rfl ⟨_, m9, rfl, hL9.ext, hL9.mext, hL9.vw, ?_, _, rfl, ho9⟩
  injection e9 with e1 e2 e3
  subst e1 e3
  exact ⟨_, _, rfl, hc9, hs9⟩
end Go.Proofs.YtmhkmmmompediaaGreat
