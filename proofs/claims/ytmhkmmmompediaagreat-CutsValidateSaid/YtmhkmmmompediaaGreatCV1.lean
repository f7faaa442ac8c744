/- Part 1 of 2 of the proof: the law CutsValidate returns true for every input, and its arguments read as before; there is no condition. -/
import Derived.WalkKit
import Derived.LoopTactic
import Derived.Lib.Hide
import Derived.Laws.MakeOwn
import Derived.Deep.AppendLies
import Derived.Deep.Draws
import Derived.Deep.LoopGhost
import Derived.Deep.QuietTactic
import Derived.BigQuiet
import Derived.Outline
import Derived.Maps.AppendAt
import Derived.RegionTactic
import Derived.WalkSpells
import Derived.Deep.DeepCutAuto
import Derived.Deep.CutBlock
import Derived.Deep.RegionHeld3
import Derived.StillTailTactics
import Derived.Deep.RegionLaw
import Derived.Deep.RegionWith
import Derived.Deep.DeepFit
import Derived.Laws.Rows
import Derived.Laws.Tables
import Derived.Test.YtmhkmmmompediaaGreatProg
import Derived.Lib.SliceRun
import Derived.Laws.Bits128
import Derived.Laws.StructEq
import Derived.ProofKit
import Derived.OpenShut
import Derived.Maps.Own
import Derived.Maps.Views
import Derived.DeepKeys4
import Derived.Maps.RangeWalk
import Derived.Shelf.SlSortCmp.NoneTotal
import Derived.Laws.IdiomCopy
import Derived.Maps.OwnSet
import Derived.RangeFuncNested
import Derived.RangeFuncBound
import Derived.RangeFuncCalls
import Derived.RangeFuncLeaves
import Derived.OwnWalkIn
import Derived.TacticsInMore
import Derived.LoopNIn
import Derived.LoopIn
import Derived.Test.YtmhkmmmompediaaGreatCT7
set_option linter.unusedVariables false
set_option linter.unusedSimpArgs false
/- The walk through the law CutsValidate. -/
namespace Go.Proofs.YtmhkmmmompediaaGreat
open Go.RowKit

def lowF (r : Int) : Int := r % 8 - 1
def exF (rs : List Int) (x : Cut) : Int := if cutB rs x then 0 else 5

set_option maxRecDepth 100000 in
set_option maxHeartbeats 32000000 in
theorem law_CutsValidate (Al Ar : Option Addr) (cl cr : Nat) (l rows : List Int) (d : Int) (w m : World) (hV : Vw m w) (hl : Sl m Al (l.map I64)) (hr : Sl m Ar (rows.map I64)) (n1 : -9223372036854775808 ≤ d) (n2 : d ≤ 9223372036854775807) (hcr : rows.length ≤ cr) :
    Calls Tryz.prog 6 #[.slice Al l.length cl, .slice Ar rows.length cr, .int .i64 d] w (RetV w m fun _ r => r = .bool true) := by
  have KM : Hid (∀ w m', Vw m' w → Le m m' → Calls Tryz.prog 15 #[.slice Al l.length cl] w (RetV w m' fun m'' r => MasterR m'' r (masF l))) := by
    show ∀ w m', _
    exact fun w m' hV hle => d_Master Al cl l w m' hV (hl.le hle) trivial
  have HS := Lib.hid hr
  have HRL := Lib.hid (IntL.ofSl hr rfl hcr)
  have OK : Hid (MsOk (masF l)) := masF_ok l
  have hL := Loc.start hV
  clear hV hl hr hcr
  by_cases h10 : 10 < rows.length
  · have h10' : (10 : Int) < (rows.length : Int) := by omega
    clear h10
    generalize rows.length = N at *
    generalize l.length = N1 at *
    go_enter Tryz.func6, Tryz.ntmps6
    go_wp2_with (first | ((with_reducible refine kAny ?_); go_skip) | (with_reducible refine stA ?_) | ((first | refine tIx ?_ | refine tLd ?_ | ((first | refine tSr ?_ | refine tSt ?_); clear hL; intro _ hL; simp only [splice, zq1, zq2, zq3] at hL) | (refine tAl ?_; clear hL; intro _ _ hL _) | (refine tBs ?_; clear hL; intro _ _ hL _ hBs)); simp only [Act.put, zq1, zq2, zq3]))
    refine (kc_known _ _ hL.vw).mono ?_
    rintro e Wc1 ⟨_, mc1, rfl, hE, hMc1, hV, rfl⟩
    replace hL := hL.call hE (by assumption) hV; clear hE hV
    go_wp2_with (first | ((with_reducible refine kAny ?_); go_skip) | (with_reducible refine stA ?_) | ((first | refine tIx ?_ | refine tLd ?_ | ((first | refine tSr ?_ | refine tSt ?_); clear hL; intro _ hL; simp only [splice, zq1, zq2, zq3] at hL) | (refine tAl ?_; clear hL; intro _ _ hL _) | (refine tBs ?_; clear hL; intro _ _ hL _ hBs)); simp only [Act.put, zq1, zq2, zq3]))
    go_ret
    exact RetV.mk hL rfl
  · have h10' : (rows.length : Int) ≤ 10 := by omega
    have h10n : rows.length ≤ 10 := by omega
    clear h10
    generalize hn : rows.length = N at *
    have HN := Lib.hid hn
    clear hn
    generalize l.length = N1 at *
    generalize masF l = x at *
    go_enter Tryz.func6, Tryz.ntmps6
    go_wp2_with (first | ((with_reducible refine kAny ?_); go_skip) | (with_reducible refine stA ?_) | ((first | refine tIx ?_ | refine tLd ?_ | ((first | refine tSr ?_ | refine tSt ?_); clear hL; intro _ hL; simp only [splice, zq1, zq2, zq3] at hL) | (refine tAl ?_; clear hL; intro _ _ hL _) | (refine tBs ?_; clear hL; intro _ _ hL _ hBs)); simp only [Act.put, zq1, zq2, zq3]))
    refine (KM.out _ _ hL.vw leX).mono ?_
    rintro e Wc1 ⟨vc1, mc1, rfl, hE, hMc1, hV, hc1⟩
    replace hL := hL.call hE (by assumption) hV; clear hE hV
    obtain ⟨M1, nr, d1, M2, nc, d2, M3, nk, d3, rfl, hx1⟩ := hc1.lit
    have HM := Lib.hid hx1
    clear hx1 KM
    generalize x.nf = nf at *
    generalize x.pen = pen at *
    go_wp2_with (first | ((with_reducible refine kAny ?_); go_skip) | (with_reducible refine stA ?_) | ((first | refine tIx ?_ | refine tLd ?_ | ((first | refine tSr ?_ | refine tSt ?_); clear hL; intro _ hL; simp only [splice, zq1, zq2, zq3] at hL) | (refine tAl ?_; clear hL; intro _ _ hL _) | (refine tBs ?_; clear hL; intro _ _ hL _ hBs)); simp only [Act.put, zq1, zq2, zq3]))
    go_loopw [8, 9] (fun ov iv wr => ∃ (j : Nat) (mm : World) (Rr : List Lo), j ≤ N ∧ iv = .int .i64 (j : Int) ∧ Loc w m wr mm ((Wc1.heap.size, 26, #[.int .i64 nf, .slice M1 nr d1, .int .i64 pen, .slice M2 nc d2, .slice M3 nk d3]) :: Rr) ∧ Hid (RowA 3 1 IsI mm ov j ((rows.take j).map lowF) Rr) ∧ Hid (Ext mc1 mm)) (fun _ iv _ => N - (intOf iv).toNat)
    case atStart => exact ⟨0, _, [], Nat.zero_le _, rfl, hL, RowA.nil, exX⟩
    case round =>
      clear hL
      obtain ⟨j, mm, Rr, hj, rfl, hL, ROW, HX⟩ := hrel
      have hX := HX.out
      obtain ⟨A3, c3, rfl, row1⟩ := ROW.out.lit
      have ROW1 := Lib.hid row1
      clear ROW row1
      by_cases hlt : j < N
      · have hlt' : (j : Int) < (N : Int) := by omega
        obtain ⟨z, hz⟩ := at_some HN hlt
        have hzI : (rows.map I64)[j]? = some (.int .i64 z) := by rw [List.getElem?_map, hz]; rfl
        obtain ⟨b1, o1, rfl, -, hcell⟩ := HS.out (by rw [List.length_map, HN.out]; omega)
        have hc1 := hcell _ _ hzI
        have e1 := i64_and3 z
        have p1 : 0 ≤ z % 8 ∧ z % 8 < 8 := by omega
        have HT : Hid ((rows.take j).map lowF ++ [z % 8 - 1] = (rows.take (j + 1)).map lowF) := by
          show _ = _
          rw [← take_snoc hz, List.map_append]; rfl
        generalize z % 8 = y at *
        clear hz hzI hcell
        go_wp2_with (first | ((with_reducible refine kAny ?_); go_skip) | (with_reducible refine stA ?_) | ((first | refine tIx ?_ | refine tLd ?_ | ((first | refine tSr ?_ | refine tSt ?_); clear hL; intro _ hL; simp only [splice, zq1, zq2, zq3] at hL) | (refine tAl ?_; clear hL; intro _ _ hL _) | (refine tBs ?_; clear hL; intro _ _ hL _ hBs)); simp only [Act.put, zq1, zq2, zq3]))
        refine goA ?_
        obtain ⟨vs7, r7, z7, y7, l7⟩ := ROW1.out
        refine wl_append (A := [_]) hL r7 (wanted_none rfl) rfl ap_ints (by omega) rfl rfl (news := [.int .i64 (y - 1)]) rfl ((Blk.sl hBs (n := 1) rfl).le hL.vw.le) rfl (by omega) (by omega) ?_
        clear hL
        intro v1 W5 m5 R5 hL r8 e8
        obtain ⟨A9, c9, rfl, -⟩ := r8.lit
        simp only [List.cons_append, List.nil_append] at hL
        have rd := RowA.snocV (R := IsI) (m := m5) (x := y - 1) r8 z7 (y7.mono fun _ _ hv => hv) l7 rfl rfl rfl
        rw [HT.out] at rd
        have RD := Lib.hid rd
        clear rd r8 r7 z7 y7 l7
        simp only [Act.put, zq1, zq2, zq3]
        go_wp2_with (first | ((with_reducible refine kAny ?_); go_skip) | (with_reducible refine stA ?_) | ((first | refine tIx ?_ | refine tLd ?_ | ((first | refine tSr ?_ | refine tSt ?_); clear hL; intro _ hL; simp only [splice, zq1, zq2, zq3] at hL) | (refine tAl ?_; clear hL; intro _ _ hL _) | (refine tBs ?_; clear hL; intro _ _ hL _ hBs)); simp only [Act.put, zq1, zq2, zq3]))
        go_roundw
        case rel => exact ⟨j + 1, _, R5, by omega, by go_num, hL, RD.out, exX⟩
        case measure => simp [intOf] <;> omega
      · have hjn : N = j := by omega
        have HTK : Hid ((rows.take j).map lowF = rows.map lowF) := by
          show _ = _
          rw [List.take_of_length_le (by rw [HN.out]; omega)]
        subst hjn
        have row2 := ROW1.out
        rw [HTK.out] at row2
        obtain ⟨m9, hL9, hle9, hl9, -⟩ := RowA.show (A := [_]) IsI.mono hL row2
        have e2 := i64_and3 d
        have HXX : Hid (CutR m9 (.agg #[.slice A3 N c3, .int .i64 (d % 8)]) (rows.map lowF, d % 8)) := ⟨_, rfl, hl9, by show (rows.map lowF).length ≤ _; rw [List.length_map, HN.out]; omega⟩
        have HYY : Hid (CutR m9 (.agg #[.slice Ar N cr, .int .i64 d]) (rows, d)) := ⟨_, rfl, IntL.le HRL.out hL9.mext.le, by show rows.length ≤ _; rw [HN.out]; omega⟩
        have HM9 : Hid (MasterR m9 (.agg #[.int .i64 nf, .slice M1 nr d1, .int .i64 pen, .slice M2 nc d2, .slice M3 nk d3]) x) := HM.out.le (Le.trans leX hle9)
        generalize d % 8 = dy at *
        obtain ⟨ex, hex⟩ : ∃ ex, ex = exF x.rows (rows.map lowF, dy) := ⟨_, rfl⟩
        obtain ⟨ey, hey⟩ : ∃ ey, ey = exF x.rows (rows, d) := ⟨_, rfl⟩
        have KX1 : Hid (∀ u m', Vw m' u → Le m9 m' → Calls Tryz.prog 33 #[.agg #[.int .i64 nf, .slice M1 nr d1, .int .i64 pen, .slice M2 nc d2, .slice M3 nk d3], .agg #[.slice A3 N c3, .int .i64 dy]] u (RetV u m' fun _ r => r = .int .i64 ex)) := by
          show ∀ u m', _
          rw [hex]
          exact fun u m' hV hle => u_Validate _ _ x _ u m' hV (HM9.out.le hle) (HXX.out.le hle) OK.out
        have KX2 : Hid (∀ u m', Vw m' u → Le m9 m' → Calls Tryz.prog 34 #[.agg #[.int .i64 nf, .slice M1 nr d1, .int .i64 pen, .slice M2 nc d2, .slice M3 nk d3], .agg #[.slice A3 N c3, .int .i64 dy]] u (RetV u m' fun _ r => r = .int .i64 ex)) := by
          show ∀ u m', _
          rw [hex]
          exact fun u m' hV hle => r_ValidateCut _ _ x _ u m' hV (HM9.out.le hle) (HXX.out.le hle) OK.out
        have KY1 : Hid (∀ u m', Vw m' u → Le m9 m' → Calls Tryz.prog 33 #[.agg #[.int .i64 nf, .slice M1 nr d1, .int .i64 pen, .slice M2 nc d2, .slice M3 nk d3], .agg #[.slice Ar N cr, .int .i64 d]] u (RetV u m' fun _ r => r = .int .i64 ey)) := by
          show ∀ u m', _
          rw [hey]
          exact fun u m' hV hle => u_Validate _ _ x _ u m' hV (HM9.out.le hle) (HYY.out.le hle) OK.out
        have KY2 : Hid (∀ u m', Vw m' u → Le m9 m' → Calls Tryz.prog 34 #[.agg #[.int .i64 nf, .slice M1 nr d1, .int .i64 pen, .slice M2 nc d2, .slice M3 nk d3], .agg #[.slice Ar N cr, .int .i64 d]] u (RetV u m' fun _ r => r = .int .i64 ey)) := by
          show ∀ u m', _
          rw [hey]
          exact fun u m' hV hle => r_ValidateCut _ _ x _ u m' hV (HM9.out.le hle) (HYY.out.le hle) OK.out
        have KR0 : Hid (∀ u m', Vw m' u → Le m9 m' → Calls Tryz.prog 35 #[.agg #[.slice Ar N cr, .int .i64 d]] u (RetV u m' fun _ r => r = .int .i64 (if d < 1 then 0 else (N : Int) / d))) := by
          show ∀ u m', _
          intro u m' hV hle
          have h := u_RightSide _ (rows, d) u m' hV (HYY.out.le hle) (by show rows.length ≤ _; rw [HN.out]; omega)
          rw [show ((rows, d) : Cut).1.length = N from HN.out] at h
          exact h
        clear hex hey hL row2 hle9 hl9 ROW1 HTK hX HX HXX HYY HM9 HM HRL HS hlt hj
        have hL := hL9
        clear hL9
        by_cases hd : d < 1
        · have KRS : Hid (∀ u m', Vw m' u → Le m9 m' → Calls Tryz.prog 35 #[.agg #[.slice Ar N cr, .int .i64 d]] u (RetV u m' fun _ r => r = .int .i64 0)) := by
            show ∀ u m', _
            have h := KR0.out
            rw [if_pos hd] at h
            exact h
          have h9 : (N : Int) ≤ (N : Int) := Int.le_refl _
          clear KR0
          go_upto_region 13 with ((first | ((with_reducible refine kAny ?_); go_skip) | (with_reducible refine stA ?_) | ((first | refine tIx ?_ | refine tLd ?_ | ((first | refine tSr ?_ | refine tSt ?_); clear hL; intro _ hL; simp only [splice, zq1, zq2, zq3] at hL) | (refine tAl ?_; clear hL; intro _ _ hL _) | (refine tBs ?_; clear hL; intro _ _ hL _ hBs)); simp only [Act.put, zq1, zq2, zq3])))
          (try clear hd0 hd1)
          (try generalize wrap64 ((N : Int) / d) = rr at *)
          refine wp_region_by2 25 [false, false, false, false, false, false, false, false, false, false, false, false, false, false, false, false, false, false, false, false, false, false, false, false, false] [false, false, false, false, false, false, false, false, false, false, false, false, false, false, false, false, false, false, false, false, false, false, false, false, false] [(fun v _ _ => v = ?c13_0b), (fun v _ _ => v = ?c13_1b), Is (.int .i64 ex), (fun v _ _ => v = ?c13_3b), (fun v _ _ => v = ?c13_4b), Is (.int .i64 ex), (fun v _ _ => v = ?c13_6b), (fun v _ _ => v = ?c13_7b), (fun v _ _ => v = ?c13_8b), (fun v _ _ => v = ?c13_9b), Is (.int .i64 ey), (fun v _ _ => v = ?c13_11b), (fun v _ _ => v = ?c13_12b), Is (.int .i64 ey), (fun v _ _ => v = ?c13_14b), (fun v _ _ => v = ?c13_15b), (fun v _ _ => v = ?c13_16b), (fun v _ _ => v = ?c13_17b), Is (.int .i64 0), (fun v _ _ => v = ?c13_19b), (fun v _ _ => v = ?c13_20b), (fun v _ _ => v = ?c13_21b), (fun v _ _ => v = ?c13_22b), Is (.bool true), (fun v _ _ => v = ?c13_24b)] hL.vw mixed [47, 48, 49, 50, 51, 52, 53, 54, 55, 56, 57, 58, 59, 60, 61, 62, 63, 64, 65, 66, 67, 68, 69, 70, 71] _ (by kernel_rfl) (fun vs => by simp only [lay, Act.put, zq1, zq2, zq3]; rfl) (by kernel_rfl) (by decide) (by decide) ?s13b ?l13b ?r13b
          case s13b =>
            refine ⟨?_, ?_, ?_, ?_, ?_, ?_, ?_, ?_, ?_, ?_, ?_, ?_, ?_, ?_, ?_, ?_, ?_, ?_, ?_, ?_, ?_, ?_, ?_, ?_, ?_, trivial⟩
            · intro vs W1 m1 hE hM hV hD; clear hD; replace hL := hL.call hE hM hV
              exact sLd
            · intro vs W1 m1 hE hM hV hD; clear hD; replace hL := hL.call hE hM hV
              exact sLd
            · intro vs W1 m1 hE hM hV hD; obtain ⟨⟨_, _, -, -, f47⟩, ⟨_, _, -, -, f48⟩, -⟩ := hD; have f47 : vs 47 = _ := f47; generalize vs 47 = x47 at f47 ⊢; subst x47; have f48 : vs 48 = _ := f48; generalize vs 48 = x48 at f48 ⊢; subst x48
              go_wp2_with fail
              refine (KX1.out _ _ hV leX).mono ?_
              rintro e W2 ⟨v, m2, rfl, hE2, hM2, hV2, h⟩
              go_wp2_with fail
              refine One2.call hE2 hM2 hV2 ?_; first | exact h | exact rfl
            · intro vs W1 m1 hE hM hV hD; clear hD; replace hL := hL.call hE hM hV
              exact sLd
            · intro vs W1 m1 hE hM hV hD; clear hD; replace hL := hL.call hE hM hV
              exact sLd
            · intro vs W1 m1 hE hM hV hD; obtain ⟨⟨_, _, -, -, f50⟩, ⟨_, _, -, -, f51⟩, -, -⟩ := hD; have f50 : vs 50 = _ := f50; generalize vs 50 = x50 at f50 ⊢; subst x50; have f51 : vs 51 = _ := f51; generalize vs 51 = x51 at f51 ⊢; subst x51
              go_wp2_with fail
              refine (KX2.out _ _ hV leX).mono ?_
              rintro e W2 ⟨v, m2, rfl, hE2, hM2, hV2, h⟩
              go_wp2_with fail
              refine One2.call hE2 hM2 hV2 ?_; first | exact h | exact rfl
            · intro vs W1 m1 hE hM hV hD; obtain ⟨⟨_, _, -, -, f49⟩, ⟨_, _, -, -, f52⟩, -⟩ := hD; have f49 : vs 49 = _ := f49; generalize vs 49 = x49 at f49 ⊢; subst x49; have f52 : vs 52 = _ := f52; generalize vs 52 = x52 at f52 ⊢; subst x52; replace hL := hL.call hE hM hV
              exact sPu
            · intro vs W1 m1 hE hM hV hD; obtain ⟨⟨_, _, -, -, f53⟩, -, -⟩ := hD; have f53 : vs 53 = _ := f53; generalize vs 53 = x53 at f53 ⊢; subst x53; replace hL := hL.call hE hM hV
              exact sPu
            · intro vs W1 m1 hE hM hV hD; obtain ⟨⟨_, _, -, -, f54⟩, -⟩ := hD; have f54 : vs 54 = _ := f54; generalize vs 54 = x54 at f54 ⊢; subst x54; replace hL := hL.call hE hM hV
              exact sLd
            · intro vs W1 m1 hE hM hV hD; obtain ⟨⟨_, _, -, -, f54⟩, -⟩ := hD; have f54 : vs 54 = _ := f54; generalize vs 54 = x54 at f54 ⊢; subst x54; replace hL := hL.call hE hM hV
              exact sLd
            · intro vs W1 m1 hE hM hV hD; obtain ⟨⟨_, _, -, -, f55⟩, ⟨_, _, -, -, f56⟩, ⟨_, _, -, -, f54⟩, -, -⟩ := hD; have f55 : vs 55 = _ := f55; generalize vs 55 = x55 at f55 ⊢; subst x55; have f56 : vs 56 = _ := f56; generalize vs 56 = x56 at f56 ⊢; subst x56; have f54 : vs 54 = _ := f54; generalize vs 54 = x54 at f54 ⊢; subst x54
              go_wp2_with fail
              refine (KY1.out _ _ hV leX).mono ?_
              rintro e W2 ⟨v, m2, rfl, hE2, hM2, hV2, h⟩
              go_wp2_with fail
              refine One2.call hE2 hM2 hV2 ?_; first | exact h | exact rfl
            · intro vs W1 m1 hE hM hV hD; obtain ⟨⟨_, _, -, -, f54⟩, -⟩ := hD; have f54 : vs 54 = _ := f54; generalize vs 54 = x54 at f54 ⊢; subst x54; replace hL := hL.call hE hM hV
              exact sLd
            · intro vs W1 m1 hE hM hV hD; obtain ⟨⟨_, _, -, -, f54⟩, -⟩ := hD; have f54 : vs 54 = _ := f54; generalize vs 54 = x54 at f54 ⊢; subst x54; replace hL := hL.call hE hM hV
              exact sLd
            · intro vs W1 m1 hE hM hV hD; obtain ⟨⟨_, _, -, -, f58⟩, ⟨_, _, -, -, f59⟩, -, ⟨_, _, -, -, f54⟩, -⟩ := hD; have f58 : vs 58 = _ := f58; generalize vs 58 = x58 at f58 ⊢; subst x58; have f59 : vs 59 = _ := f59; generalize vs 59 = x59 at f59 ⊢; subst x59; have f54 : vs 54 = _ := f54; generalize vs 54 = x54 at f54 ⊢; subst x54
              go_wp2_with fail
              refine (KY2.out _ _ hV leX).mono ?_
              rintro e W2 ⟨v, m2, rfl, hE2, hM2, hV2, h⟩
              go_wp2_with fail
              refine One2.call hE2 hM2 hV2 ?_; first | exact h | exact rfl
            · intro vs W1 m1 hE hM hV hD; obtain ⟨⟨_, _, -, -, f57⟩, ⟨_, _, -, -, f60⟩, ⟨_, _, -, -, f54⟩, -⟩ := hD; have f57 : vs 57 = _ := f57; generalize vs 57 = x57 at f57 ⊢; subst x57; have f60 : vs 60 = _ := f60; generalize vs 60 = x60 at f60 ⊢; subst x60; have f54 : vs 54 = _ := f54; generalize vs 54 = x54 at f54 ⊢; subst x54; replace hL := hL.call hE hM hV
              exact sPu
            · intro vs W1 m1 hE hM hV hD; obtain ⟨⟨_, _, -, -, f54⟩, ⟨_, _, -, -, f61⟩, -⟩ := hD; have f54 : vs 54 = _ := f54; generalize vs 54 = x54 at f54 ⊢; subst x54; have f61 : vs 61 = _ := f61; generalize vs 61 = x61 at f61 ⊢; subst x61; replace hL := hL.call hE hM hV
              exact sPu
            · intro vs W1 m1 hE hM hV hD; obtain ⟨⟨_, _, -, -, f62⟩, -, -⟩ := hD; have f62 : vs 62 = _ := f62; generalize vs 62 = x62 at f62 ⊢; subst x62; replace hL := hL.call hE hM hV
              exact sPu
            · intro vs W1 m1 hE hM hV hD; obtain ⟨⟨_, _, -, -, f63⟩, -⟩ := hD; have f63 : vs 63 = _ := f63; generalize vs 63 = x63 at f63 ⊢; subst x63; replace hL := hL.call hE hM hV
              exact sLd
            · intro vs W1 m1 hE hM hV hD; obtain ⟨⟨_, _, -, -, f64⟩, ⟨_, _, -, -, f63⟩, -, -⟩ := hD; have f64 : vs 64 = _ := f64; generalize vs 64 = x64 at f64 ⊢; subst x64; have f63 : vs 63 = _ := f63; generalize vs 63 = x63 at f63 ⊢; subst x63
              go_wp2_with fail
              refine (KRS.out _ _ hV leX).mono ?_
              rintro e W2 ⟨v, m2, rfl, hE2, hM2, hV2, h⟩
              go_wp2_with fail
              refine One2.call hE2 hM2 hV2 ?_; first | exact h | exact rfl
            · intro vs W1 m1 hE hM hV hD; obtain ⟨⟨_, _, -, -, f63⟩, -⟩ := hD; have f63 : vs 63 = _ := f63; generalize vs 63 = x63 at f63 ⊢; subst x63; replace hL := hL.call hE hM hV
              exact sPu
            · intro vs W1 m1 hE hM hV hD; obtain ⟨⟨_, _, -, -, f65⟩, ⟨_, _, -, -, f66⟩, ⟨_, _, -, -, f63⟩, -⟩ := hD; have f65 : vs 65 = _ := f65; generalize vs 65 = x65 at f65 ⊢; subst x65; have f66 : vs 66 = _ := f66; generalize vs 66 = x66 at f66 ⊢; subst x66; have f63 : vs 63 = _ := f63; generalize vs 63 = x63 at f63 ⊢; subst x63; replace hL := hL.call hE hM hV
              exact sPu
            · intro vs W1 m1 hE hM hV hD; obtain ⟨⟨_, _, -, -, f63⟩, ⟨_, _, -, -, f67⟩, -⟩ := hD; have f63 : vs 63 = _ := f63; generalize vs 63 = x63 at f63 ⊢; subst x63; have f67 : vs 67 = _ := f67; generalize vs 67 = x67 at f67 ⊢; subst x67; replace hL := hL.call hE hM hV
              exact sPu
            · intro vs W1 m1 hE hM hV hD; obtain ⟨⟨_, _, -, -, f68⟩, -, -⟩ := hD; have f68 : vs 68 = _ := f68; generalize vs 68 = x68 at f68 ⊢; subst x68; replace hL := hL.call hE hM hV
              exact sPu
            · intro vs W1 m1 hE hM hV hD; obtain ⟨⟨_, _, -, -, f69⟩, -, -⟩ := hD; have f69 : vs 69 = _ := f69; generalize vs 69 = x69 at f69 ⊢; subst x69
              go_wp2_with fail
              refine (kc_known _ _ hV).mono ?_
              rintro e W2 ⟨v, m2, rfl, hE2, hM2, hV2, h⟩
              go_wp2_with fail
              refine One2.call hE2 hM2 hV2 ?_; first | exact h | exact rfl
            · intro vs W1 m1 hE hM hV hD; obtain ⟨⟨_, _, -, -, f69⟩, ⟨_, _, -, -, f70⟩, -⟩ := hD; have f69 : vs 69 = _ := f69; generalize vs 69 = x69 at f69 ⊢; subst x69; have f70 : vs 70 = _ := f70; generalize vs 70 = x70 at f70 ⊢; subst x70; replace hL := hL.call hE hM hV
              exact sPu
          case l13b =>
            refine ⟨fun h => (by cases h), fun h => (by cases h), fun h => (by cases h), fun h => (by cases h), fun h => (by cases h), fun h => (by cases h), fun h => (by cases h), fun h => (by cases h), fun h => (by cases h), fun h => (by cases h), fun h => (by cases h), fun h => (by cases h), fun h => (by cases h), fun h => (by cases h), fun h => (by cases h), fun h => (by cases h), fun h => (by cases h), fun h => (by cases h), fun h => (by cases h), fun h => (by cases h), fun h => (by cases h), fun h => (by cases h), fun h => (by cases h), fun h => (by cases h), fun h => (by cases h), trivial⟩
          intro vs W1 m1 hE hM hV hF hD
          clear hD
          obtain ⟨-, -, -, -, -, -, -, -, -, -, -, -, -, -, -, -, -, -, -, -, -, -, -, -, ⟨_, _, -, -, f71⟩, -⟩ := hF
          replace hL := hL.call hE hM hV
          have f71 : vs 71 = _ := f71
          generalize vs 71 = x71 at f71 ⊢
          subst x71
          clear hE hV
          simp only [List.drop_succ_cons, List.drop_zero]
          go_wp2_with (first | ((with_reducible refine kAny ?_); go_skip) | (with_reducible refine stA ?_) | ((first | refine tIx ?_ | refine tLd ?_ | ((first | refine tSr ?_ | refine tSt ?_); clear hL; intro _ hL; simp only [splice, zq1, zq2, zq3] at hL) | (refine tAl ?_; clear hL; intro _ _ hL _) | (refine tBs ?_; clear hL; intro _ _ hL _ hBs)); simp only [Act.put, zq1, zq2, zq3]))
          refine QN.mk ?_
          go_wp2_with (first | ((with_reducible refine kAny ?_); go_skip) | (with_reducible refine stA ?_) | ((first | refine tIx ?_ | refine tLd ?_ | ((first | refine tSr ?_ | refine tSt ?_); clear hL; intro _ hL; simp only [splice, zq1, zq2, zq3] at hL) | (refine tAl ?_; clear hL; intro _ _ hL _) | (refine tBs ?_; clear hL; intro _ _ hL _ hBs)); simp only [Act.put, zq1, zq2, zq3]))
          go_ret
          exact RetV.mk hL rfl
        · have hq : wrap64 ((N : Int) / d) = (N : Int) / d := (quoE (by omega) (by omega)).2.1
          have KRS : Hid (∀ u m', Vw m' u → Le m9 m' → Calls Tryz.prog 35 #[.agg #[.slice Ar N cr, .int .i64 d]] u (RetV u m' fun _ r => r = .int .i64 (wrap64 ((N : Int) / d)))) := by
            show ∀ u m', _
            have h := KR0.out
            rw [if_neg hd, ← hq] at h
            exact h
          have hd0 : d ≠ 0 := by omega
          have hd1 : 1 ≤ d := by omega
          have h9 : (N : Int) ≤ (N : Int) := Int.le_refl _
          clear KR0 hd hq
          go_upto_region 13 with ((first | ((with_reducible refine kAny ?_); go_skip) | (with_reducible refine stA ?_) | ((first | refine tIx ?_ | refine tLd ?_ | ((first | refine tSr ?_ | refine tSt ?_); clear hL; intro _ hL; simp only [splice, zq1, zq2, zq3] at hL) | (refine tAl ?_; clear hL; intro _ _ hL _) | (refine tBs ?_; clear hL; intro _ _ hL _ hBs)); simp only [Act.put, zq1, zq2, zq3])))
          (try clear hd0 hd1)
          (try generalize wrap64 ((N : Int) / d) = rr at *)
          refine wp_region_by2 25 [false, false, false, false, false, false, false, false, false, false, false, false, false, false, false, false, false, false, false, false, false, false, false, false, false] [false, false, false, false, false, false, false, false, false, false, false, false, false, false, false, false, false, false, false, false, false, false, false, false, false] [(fun v _ _ => v = ?c13_0a), (fun v _ _ => v = ?c13_1a), Is (.int .i64 ex), (fun v _ _ => v = ?c13_3a), (fun v _ _ => v = ?c13_4a), Is (.int .i64 ex), (fun v _ _ => v = ?c13_6a), (fun v _ _ => v = ?c13_7a), (fun v _ _ => v = ?c13_8a), (fun v _ _ => v = ?c13_9a), Is (.int .i64 ey), (fun v _ _ => v = ?c13_11a), (fun v _ _ => v = ?c13_12a), Is (.int .i64 ey), (fun v _ _ => v = ?c13_14a), (fun v _ _ => v = ?c13_15a), (fun v _ _ => v = ?c13_16a), (fun v _ _ => v = ?c13_17a), Is (.int .i64 rr), (fun v _ _ => v = ?c13_19a), (fun v _ _ => v = ?c13_20a), (fun v _ _ => v = ?c13_21a), (fun v _ _ => v = ?c13_22a), Is (.bool true), (fun v _ _ => v = ?c13_24a)] hL.vw mixed [47, 48, 49, 50, 51, 52, 53, 54, 55, 56, 57, 58, 59, 60, 61, 62, 63, 64, 65, 66, 67, 68, 69, 70, 71] _ (by kernel_rfl) (fun vs => by simp only [lay, Act.put, zq1, zq2, zq3]; rfl) (by kernel_rfl) (by decide) (by decide) ?s13a ?l13a ?r13a
          case s13a =>
            refine ⟨?_, ?_, ?_, ?_, ?_, ?_, ?_, ?_, ?_, ?_, ?_, ?_, ?_, ?_, ?_, ?_, ?_, ?_, ?_, ?_, ?_, ?_, ?_, ?_, ?_, trivial⟩
            · intro vs W1 m1 hE hM hV hD; clear hD; replace hL := hL.call hE hM hV
              exact sLd
            · intro vs W1 m1 hE hM hV hD; clear hD; replace hL := hL.call hE hM hV
              exact sLd
            · intro vs W1 m1 hE hM hV hD; obtain ⟨⟨_, _, -, -, f47⟩, ⟨_, _, -, -, f48⟩, -⟩ := hD; have f47 : vs 47 = _ := f47; generalize vs 47 = x47 at f47 ⊢; subst x47; have f48 : vs 48 = _ := f48; generalize vs 48 = x48 at f48 ⊢; subst x48
              go_wp2_with fail
              refine (KX1.out _ _ hV leX).mono ?_
              rintro e W2 ⟨v, m2, rfl, hE2, hM2, hV2, h⟩
              go_wp2_with fail
              refine One2.call hE2 hM2 hV2 ?_; first | exact h | exact rfl
            · intro vs W1 m1 hE hM hV hD; clear hD; replace hL := hL.call hE hM hV
              exact sLd
            · intro vs W1 m1 hE hM hV hD; clear hD; replace hL := hL.call hE hM hV
              exact sLd
            · intro vs W1 m1 hE hM hV hD; obtain ⟨⟨_, _, -, -, f50⟩, ⟨_, _, -, -, f51⟩, -, -⟩ := hD; have f50 : vs 50 = _ := f50; generalize vs 50 = x50 at f50 ⊢; subst x50; have f51 : vs 51 = _ := f51; generalize vs 51 = x51 at f51 ⊢; subst x51
              go_wp2_with fail
              refine (KX2.out _ _ hV leX).mono ?_
              rintro e W2 ⟨v, m2, rfl, hE2, hM2, hV2, h⟩
              go_wp2_with fail
              refine One2.call hE2 hM2 hV2 ?_; first | exact h | exact rfl
            · intro vs W1 m1 hE hM hV hD; obtain ⟨⟨_, _, -, -, f49⟩, ⟨_, _, -, -, f52⟩, -⟩ := hD; have f49 : vs 49 = _ := f49; generalize vs 49 = x49 at f49 ⊢; subst x49; have f52 : vs 52 = _ := f52; generalize vs 52 = x52 at f52 ⊢; subst x52; replace hL := hL.call hE hM hV
              exact sPu
            · intro vs W1 m1 hE hM hV hD; obtain ⟨⟨_, _, -, -, f53⟩, -, -⟩ := hD; have f53 : vs 53 = _ := f53; generalize vs 53 = x53 at f53 ⊢; subst x53; replace hL := hL.call hE hM hV
              exact sPu
            · intro vs W1 m1 hE hM hV hD; obtain ⟨⟨_, _, -, -, f54⟩, -⟩ := hD; have f54 : vs 54 = _ := f54; generalize vs 54 = x54 at f54 ⊢; subst x54; replace hL := hL.call hE hM hV
              exact sLd
            · intro vs W1 m1 hE hM hV hD; obtain ⟨⟨_, _, -, -, f54⟩, -⟩ := hD; have f54 : vs 54 = _ := f54; generalize vs 54 = x54 at f54 ⊢; subst x54; replace hL := hL.call hE hM hV
              exact sLd
            · intro vs W1 m1 hE hM hV hD; obtain ⟨⟨_, _, -, -, f55⟩, ⟨_, _, -, -, f56⟩, ⟨_, _, -, -, f54⟩, -, -⟩ := hD; have f55 : vs 55 = _ := f55; generalize vs 55 = x55 at f55 ⊢; subst x55; have f56 : vs 56 = _ := f56; generalize vs 56 = x56 at f56 ⊢; subst x56; have f54 : vs 54 = _ := f54; generalize vs 54 = x54 at f54 ⊢; subst x54
              go_wp2_with fail
              refine (KY1.out _ _ hV leX).mono ?_
              rintro e W2 ⟨v, m2, rfl, hE2, hM2, hV2, h⟩
              go_wp2_with fail
              refine One2.call hE2 hM2 hV2 ?_; first | exact h | exact rfl
            · intro vs W1 m1 hE hM hV hD; obtain ⟨⟨_, _, -, -, f54⟩, -⟩ := hD; have f54 : vs 54 = _ := f54; generalize vs 54 = x54 at f54 ⊢; subst x54; replace hL := hL.call hE hM hV
              exact sLd
            · intro vs W1 m1 hE hM hV hD; obtain ⟨⟨_, _, -, -, f54⟩, -⟩ := hD; have f54 : vs 54 = _ := f54; generalize vs 54 = x54 at f54 ⊢; subst x54; replace hL := hL.call hE hM hV
              exact sLd
            · intro vs W1 m1 hE hM hV hD; obtain ⟨⟨_, _, -, -, f58⟩, ⟨_, _, -, -, f59⟩, -, ⟨_, _, -, -, f54⟩, -⟩ := hD; have f58 : vs 58 = _ := f58; generalize vs 58 = x58 at f58 ⊢; subst x58; have f59 : vs 59 = _ := f59; generalize vs 59 = x59 at f59 ⊢; subst x59; have f54 : vs 54 = _ := f54; generalize vs 54 = x54 at f54 ⊢; subst x54
              go_wp2_with fail
              refine (KY2.out _ _ hV leX).mono ?_
              rintro e W2 ⟨v, m2, rfl, hE2, hM2, hV2, h⟩
              go_wp2_with fail
              refine One2.call hE2 hM2 hV2 ?_; first | exact h | exact rfl
            · intro vs W1 m1 hE hM hV hD; obtain ⟨⟨_, _, -, -, f57⟩, ⟨_, _, -, -, f60⟩, ⟨_, _, -, -, f54⟩, -⟩ := hD; have f57 : vs 57 = _ := f57; generalize vs 57 = x57 at f57 ⊢; subst x57; have f60 : vs 60 = _ := f60; generalize vs 60 = x60 at f60 ⊢; subst x60; have f54 : vs 54 = _ := f54; generalize vs 54 = x54 at f54 ⊢; subst x54; replace hL := hL.call hE hM hV
              exact sPu
            · intro vs W1 m1 hE hM hV hD; obtain ⟨⟨_, _, -, -, f54⟩, ⟨_, _, -, -, f61⟩, -⟩ := hD; have f54 : vs 54 = _ := f54; generalize vs 54 = x54 at f54 ⊢; subst x54; have f61 : vs 61 = _ := f61; generalize vs 61 = x61 at f61 ⊢; subst x61; replace hL := hL.call hE hM hV
              exact sPu
            · intro vs W1 m1 hE hM hV hD; obtain ⟨⟨_, _, -, -, f62⟩, -, -⟩ := hD; have f62 : vs 62 = _ := f62; generalize vs 62 = x62 at f62 ⊢; subst x62; replace hL := hL.call hE hM hV
              exact sPu
            · intro vs W1 m1 hE hM hV hD; obtain ⟨⟨_, _, -, -, f63⟩, -⟩ := hD; have f63 : vs 63 = _ := f63; generalize vs 63 = x63 at f63 ⊢; subst x63; replace hL := hL.call hE hM hV
              exact sLd
            · intro vs W1 m1 hE hM hV hD; obtain ⟨⟨_, _, -, -, f64⟩, ⟨_, _, -, -, f63⟩, -, -⟩ := hD; have f64 : vs 64 = _ := f64; generalize vs 64 = x64 at f64 ⊢; subst x64; have f63 : vs 63 = _ := f63; generalize vs 63 = x63 at f63 ⊢; subst x63
              go_wp2_with fail
              refine (KRS.out _ _ hV leX).mono ?_
              rintro e W2 ⟨v, m2, rfl, hE2, hM2, hV2, h⟩
              go_wp2_with fail
              refine One2.call hE2 hM2 hV2 ?_; first | exact h | exact rfl
            · intro vs W1 m1 hE hM hV hD; obtain ⟨⟨_, _, -, -, f63⟩, -⟩ := hD; have f63 : vs 63 = _ := f63; generalize vs 63 = x63 at f63 ⊢; subst x63; replace hL := hL.call hE hM hV
              exact sPu
            · intro vs W1 m1 hE hM hV hD; obtain ⟨⟨_, _, -, -, f65⟩, ⟨_, _, -, -, f66⟩, ⟨_, _, -, -, f63⟩, -⟩ := hD; have f65 : vs 65 = _ := f65; generalize vs 65 = x65 at f65 ⊢; subst x65; have f66 : vs 66 = _ := f66; generalize vs 66 = x66 at f66 ⊢; subst x66; have f63 : vs 63 = _ := f63; generalize vs 63 = x63 at f63 ⊢; subst x63; replace hL := hL.call hE hM hV
              exact sPu
            · intro vs W1 m1 hE hM hV hD; obtain ⟨⟨_, _, -, -, f63⟩, ⟨_, _, -, -, f67⟩, -⟩ := hD; have f63 : vs 63 = _ := f63; generalize vs 63 = x63 at f63 ⊢; subst x63; have f67 : vs 67 = _ := f67; generalize vs 67 = x67 at f67 ⊢; subst x67; replace hL := hL.call hE hM hV
              exact sPu
            · intro vs W1 m1 hE hM hV hD; obtain ⟨⟨_, _, -, -, f68⟩, -, -⟩ := hD; have f68 : vs 68 = _ := f68; generalize vs 68 = x68 at f68 ⊢; subst x68; replace hL := hL.call hE hM hV
              exact sPu
            · intro vs W1 m1 hE hM hV hD; obtain ⟨⟨_, _, -, -, f69⟩, -, -⟩ := hD; have f69 : vs 69 = _ := f69; generalize vs 69 = x69 at f69 ⊢; subst x69
              go_wp2_with fail
              refine (kc_known _ _ hV).mono ?_
              rintro e W2 ⟨v, m2, rfl, hE2, hM2, hV2, h⟩
              go_wp2_with fail
              refine One2.call hE2 hM2 hV2 ?_; first | exact h | exact rfl
            · intro vs W1 m1 hE hM hV hD; obtain ⟨⟨_, _, -, -, f69⟩, ⟨_, _, -, -, f70⟩, -⟩ := hD; have f69 : vs 69 = _ := f69; generalize vs 69 = x69 at f69 ⊢; subst x69; have f70 : vs 70 = _ := f70; generalize vs 70 = x70 at f70 ⊢; subst x70; replace hL := hL.call hE hM hV
              exact sPu
          case l13a =>
            refine ⟨fun h => (by cases h), fun h => (by cases h), fun h => (by cases h), fun h => (by cases h), fun h => (by cases h), fun h => (by cases h), fun h => (by cases h), fun h => (by cases h), fun h => (by cases h), fun h => (by cases h), fun h => (by cases h), fun h => (by cases h), fun h => (by cases h), fun h => (by cases h), fun h => (by cases h), fun h => (by cases h), fun h => (by cases h), fun h => (by cases h), fun h => (by cases h), fun h => (by cases h), fun h => (by cases h), fun h => (by cases h), fun h => (by cases h), fun h => (by cases h), fun h => (by cases h), trivial⟩
          intro vs W1 m1 hE hM hV hF hD
          clear hD
          obtain ⟨-, -, -, -, -, -, -, -, -, -, -, -, -, -, -, -, -, -, -, -, -, -, -, -, ⟨_, _, -, -, f71⟩, -⟩ := hF
          replace hL := hL.call hE hM hV
          have f71 : vs 71 = _ := f71
          generalize vs 71 = x71 at f71 ⊢
          subst x71
          clear hE hV
          simp only [List.drop_succ_cons, List.drop_zero]
          go_wp2_with (first | ((with_reducible refine kAny ?_); go_skip) | (with_reducible refine stA ?_) | ((first | refine tIx ?_ | refine tLd ?_ | ((first | refine tSr ?_ | refine tSt ?_); clear hL; intro _ hL; simp only [splice, zq1, zq2, zq3] at hL) | (refine tAl ?_; clear hL; intro _ _ hL _) | (refine tBs ?_; clear hL; intro _ _ hL _ hBs)); simp only [Act.put, zq1, zq2, zq3]))
          refine QN.mk ?_
          go_wp2_with (first | ((with_reducible refine kAny ?_); go_skip) | (with_reducible refine stA ?_) | ((first | refine tIx ?_ | refine tLd ?_ | ((first | refine tSr ?_ | refine tSt ?_); clear hL; intro _ hL; simp only [splice, zq1, zq2, zq3] at hL) | (refine tAl ?_; clear hL; intro _ _ hL _) | (refine tBs ?_; clear hL; intro _ _ hL _ hBs)); simp only [Act.put, zq1, zq2, zq3]))
          go_ret
          exact RetV.mk hL rfl
end Go.Proofs.YtmhkmmmompediaaGreat
