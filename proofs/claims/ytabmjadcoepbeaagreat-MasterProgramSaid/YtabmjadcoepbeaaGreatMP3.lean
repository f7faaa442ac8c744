/- Part 3 of 5 of the proof: the law MasterProgram returns true for every input, and its arguments read as before; there is no condition. -/
import Derived.ProofKit
import Derived.OpenShut
import Derived.Maps.Own
import Derived.Maps.Views
import Derived.DeepKeys4
import Derived.Maps.RangeWalk
import Derived.Laws.IdiomCopy
import Derived.Test.YtabmjadcoepbeaaGreatMP2
set_option linter.unusedVariables false
set_option linter.unusedSimpArgs false
set_option maxRecDepth 100000
set_option maxHeartbeats 64000000
/- Facts on the types of columns; what pairingdata.Column builds. -/
namespace Go.Proofs.YtabmjadcoepbeaaGreat
open Go.RowKit

theorem ap_Tasks : apS Tryz.prog 107 = some (105, 2, 16, 2) := by kernel_rfl
instance iC0_1 : ApC Tryz.prog 107 105 2 16 := ⟨ap_Tasks⟩
theorem ap_Duties : apS Tryz.prog 62 = some (107, 1, 24, 1) := by kernel_rfl
instance iC0_2 : ApC Tryz.prog 62 107 1 24 := ⟨ap_Duties⟩
theorem ap_intss : apS Tryz.prog 61 = some (22, 1, 24, 1) := by kernel_rfl
instance iC0_3 : ApC Tryz.prog 61 22 1 24 := ⟨ap_intss⟩
theorem ag_Task : agS Tryz.prog 105 = some 2 := by kernel_rfl
instance iC0_4 : AgC Tryz.prog 105 2 := ⟨ag_Task⟩
theorem zc_Col : zc Tryz.prog 66 = some #[.string ⟨#[]⟩, .slice none 0 0, .int .i64 0] := by kernel_rfl
instance iC0_5 : ZcC Tryz.prog 66 #[.string ⟨#[]⟩, .slice none 0 0, .int .i64 0] := ⟨zc_Col⟩

theorem i64_mask (n : Int) (j : Nat) (z : Int) (hz : (BitVec.ofInt 64 z).toNat = 2 ^ j - 1) (hj : j ≤ 16) : bits .and .i64 n z = n % 2 ^ j := by
 have key : (BitVec.ofInt 64 n &&& BitVec.ofInt 64 z).toNat = (n % ((2 ^ 64 : Nat) : Int)).toNat % 2 ^ j := by
  rw [BitVec.toNat_and, BitVec.toNat_ofInt, hz, Nat.and_two_pow_sub_one_eq_mod]
 show IntKind.i64.wrap ((BitVec.ofInt 64 n &&& BitVec.ofInt 64 z).toNat : Nat) = n % 2 ^ j
 have hp : (2 : Nat) ^ j ≤ 2 ^ 16 := Nat.pow_le_pow_right (by omega) hj
 have hd : (2 : Int) ^ j ∣ ((2 ^ 64 : Nat) : Int) := by
  refine ⟨2 ^ (64 - j), ?_⟩
  rw [← Int.pow_add, show j + (64 - j) = 64 by omega]; rfl
 have e : (((n % ((2 ^ 64 : Nat) : Int)).toNat % 2 ^ j : Nat) : Int) = n % 2 ^ j := by
  rw [Int.natCast_emod, Int.toNat_of_nonneg (Int.emod_nonneg _ (by decide))]
  have : ((2 ^ j : Nat) : Int) = 2 ^ j := by simp
  rw [this, Int.emod_emod_of_dvd _ hd]
 rw [key, e, IntKind.wrap_i64]
 have h0 : 0 ≤ n % 2 ^ j := Int.emod_nonneg _ (by have : (0 : Int) < 2 ^ j := Int.pow_pos (by decide); omega)
 have h1 : n % 2 ^ j < 2 ^ j := Int.emod_lt_of_pos _ (Int.pow_pos (by decide))
 have h2 : (2 : Int) ^ j ≤ 65536 := by
  have h3 : ((2 ^ j : Nat) : Int) ≤ ((65536 : Nat) : Int) := Int.ofNat_le.2 hp
  rwa [Int.natCast_pow] at h3
 omega
theorem i64_and1 (n : Int) : bits .and .i64 n 1 = n % 2 := i64_mask n 1 1 (by decide) (by decide)
theorem i64_and3 (n : Int) : bits .and .i64 n 7 = n % 8 := i64_mask n 3 7 (by decide) (by decide)
theorem i64_and2' (n : Int) : bits .and .i64 n 3 = n % 4 := i64_mask n 2 3 (by decide) (by decide)

theorem Loc.less {w0 m0 W m : World} {A B : List Lo} (h : Loc w0 m0 W m A) (hs : B.Sublist A) : Loc w0 m0 W m B :=
 ⟨h.size0, h.ext, h.mext, h.vw, fun y hy => h.low y (hs.subset hy), fun y hy => h.blk y (hs.subset hy), fun y hy => h.hid y (hs.subset hy), h.apart.sublist hs⟩
theorem fin_aggR {P : Program} {fn : Func} {R : World → Value → Prop} {w m W mm m' : World} {Ls Lt : List Lo} (hL : Loc w m W mm Ls) {p : Nat} {ty : TypeId} (hr : fn.results = #[.cell p ty]) {a : Act} (hdf : a.defers = []) {g : Nat}
  (hp : a.tmps.getD p undef = .pointer (some ⟨g, 0, none⟩)) {n : Nat} {t : TypeId} {cs : Array Value} (hn : Ls[n]? = some (g, t, cs)) {k : Nat} (hty : agS P ty = some k) (hk : cs.size = k) (hL' : Loc w m W m' Lt) (h : R m' (.agg cs)) :
  bodyPost P fn (RetV w m R) .ret a W := by
 subst hk
 obtain ⟨d, hu, hd, hi⟩ := ag_desc hty
 exact bodyPost_ret (results_cell_row hr _ _ g t cs (0, 0) d hp (hL.at_ hn) hu (by cases d <;> first | rfl | exact hd) hi) hdf (RetV.mk hL' h)
abbrev Task := Int × Bool
def TaskR (_ : World) (v : Value) (x : Task) : Prop := v = .agg #[.int .i64 x.1, .bool x.2]
abbrev DutL := ListV (α := Task) 2 TaskR
theorem TaskR.mono (m m' : World) (v : Value) (x : Task) (h : TaskR m v x) (_ : Le m m') : TaskR m' v x := h
theorem DutL.le {m m' : World} {v : Value} {xs : List Task} (h : DutL m v xs) (hb : Le m m') : DutL m' v xs := ListV.le TaskR.mono h hb
theorem DutL.mono (m m' : World) (v : Value) (x : List Task) (h : DutL m v x) (hb : Le m m') : DutL m' v x := DutL.le h hb
abbrev DutsL := ListV (α := List Task) 1 DutL
theorem DutsL.le {m m' : World} {v : Value} {xs : List (List Task)} (h : DutsL m v xs) (hb : Le m m') : DutsL m' v xs := ListV.le DutL.mono h hb
abbrev Col := ByteArray × List (List Task) × Int
def ColR (m : World) (v : Value) (x : Col) : Prop := ∃ s, v = .agg #[.string x.1, s, .int .i64 x.2.2] ∧ DutsL m s x.2.1
theorem ColR.le {m m' : World} {v : Value} {x : Col} (h : ColR m v x) (hb : Le m m') : ColR m' v x := by
 obtain ⟨s, e, h⟩ := h
 exact ⟨s, e, DutsL.le h hb⟩
theorem ColR.mono (m m' : World) (v : Value) (x : Col) (h : ColR m v x) (hb : Le m m') : ColR m' v x := h.le hb
abbrev ColL := ListV (α := Col) 3 ColR
theorem ColL.le {m m' : World} {v : Value} {xs : List Col} (h : ColL m v xs) (hb : Le m m') : ColL m' v xs := ListV.le ColR.mono h hb

structure CS where
 d : List Task
 l : List (List Task)
 s : Bool
def csBit (n : Int) (i : Nat) : Bool := decide (n / 2 ^ i % 2 = 1)
def csF (rs : List Int) (k : Int) (i : Nat) : Int := if k / 2 % 8 = 7 then rs.getD (rs.length - 1 - i) 0 else rs.getD i 0
def csStep (f : Int) (tk ct : Bool) (c : CS) : CS := if tk then (if ct then ⟨[], c.l ++ [c.d ++ [(f, false)]], true⟩ else ⟨c.d ++ [(f, false)], c.l, true⟩) else c
def csAt (rs : List Int) (n k : Int) : Nat → CS
 | 0 => ⟨if k % 2 = 1 then [(0, true)] else [], [], false⟩
 | i + 1 => csStep (csF rs k i) (csBit n i) (decide (k / 16 % 4 = 3)) (csAt rs n k i)
def csD (rs : List Int) (n k : Int) : List Task := if (csAt rs n k rs.length).s then (csAt rs n k rs.length).d else (csAt rs n k rs.length).d ++ [(rs.getD (n / 64 % rs.length).toNat 0, false)]
def csL (rs : List Int) (n k : Int) : List (List Task) := if 0 < (csD rs n k).length then (csAt rs n k rs.length).l ++ [csD rs n k] else (csAt rs n k rs.length).l
def colF (rs : List Int) (n k : Int) : Col := (⟨#[65, 65, 65]⟩, csL rs n k, n / 32 % 41 - 5)
theorem csAt_len (rs : List Int) (n k : Int) : ∀ i, (csAt rs n k i).d.length ≤ i + 1 ∧ (csAt rs n k i).l.length ≤ i
 | 0 => by simp [csAt]; split <;> simp
 | i + 1 => by
  have := csAt_len rs n k i
  simp only [csAt, csStep]
  split
  ·split <;> simp <;> omega
  ·omega
end Go.Proofs.YtabmjadcoepbeaaGreat

/- Contract of pairingdata.Column. -/
namespace Go.Proofs.YtabmjadcoepbeaaGreat
open Go.RowKit

theorem bt {a b : Int} (h : a = b) : (a == b) = true := by simp [h]
theorem bf {a b : Int} (h : ¬ a = b) : (a == b) = false := by simp [h]

theorem d_Column (A : Option Addr) (c : Nat) (rs : List Int) (n k : Int) (w m : World) (hV : Vw m w) (hr : IntL m (.slice A rs.length c) rs) (h1 : 1 ≤ rs.length) (h2 : rs.length ≤ 6) (n0 : 0 ≤ n) (n1 : n ≤ 100000) (k0 : 0 ≤ k) (k1 : k ≤ 100000) :
  Calls Tryz.prog 24 #[.slice A rs.length c, .int .i64 n, .int .i64 k] w (RetV w m fun m' r => ColR m' r (colF rs n k)) := by
 generalize hq : rs.length = q at *
 have HQ := Lib.hid hq
 clear hq
 have e1 := i64_and1 k
 have hL := Loc.start hV
 clear hV
 by_cases hk : k % 2 = 1
 case' pos =>
  have b1 := bt hk
  have rd0 : Hid (csAt rs n k 0 = ⟨[(0, true)], [], false⟩) := by show _ = _; simp [csAt, hk]
  clear hk
  go_enter Tryz.func24, Tryz.ntmps24
  go_upto_region 0 with (fail)
  refine wp_region_lit ?_
  refine t_alloc hL rfl ?_; clear hL; intro Wh6 mh6 hL eh6; simp only [Act.put, zq1, zq2, zq3]
  go_wp2_with (first | go_skip | refine tP ?_ | (refine tS ?_; clear hL; intro _ hL) | (refine tB ?_; clear hL; intro _ _ hL _) | (refine tC ?_; clear hL; intro _ _ hL _ hBs))
  refine goA ?_
  refine wl_append (A := [_]) hL (Row.nil _ _) (wanted_none rfl) rfl ap_Tasks (by omega) rfl rfl (news := [.int .i64 0, .bool true]) rfl ((Blk.sl hBs (n := 2) rfl).le hL.vw.le) rfl (by omega) (by omega) ?_
  clear hL
  intro v1 W2 m2 R2 hL r8 e8
  obtain ⟨A8, c8, rfl, -⟩ := r8.lit
  simp only [List.cons_append, List.nil_append] at hL
  simp only [Act.put, zq1, zq2, zq3, Nat.zero_add]
  go_wp2_with (first | go_skip | refine tP ?_ | (refine tS ?_; clear hL; intro _ hL) | (refine tB ?_; clear hL; intro _ _ hL _) | (refine tC ?_; clear hL; intro _ _ hL _ hBs))
  have rd : Hid (RowA 105 2 TaskR m2 (.slice A8 1 c8) 1 (csAt rs n k 0).d R2) := by
   show RowA _ _ _ _ _ _ _ _
   rw [rd0.out]
   exact RowA.snoc (R := TaskR) (x := (0, true)) (xs := []) (vs := []) r8 (fun _ h => by cases h) trivial rfl rfl rfl
 case' neg =>
  have b1 := bf hk
  have rd0 : Hid (csAt rs n k 0 = ⟨[], [], false⟩) := by show _ = _; simp [csAt, hk]
  clear hk
  go_enter Tryz.func24, Tryz.ntmps24
  go_upto_region 0 with (fail)
  refine wp_region_lit ?_
  refine t_alloc hL rfl ?_; clear hL; intro Wh6 mh6 hL eh6; simp only [Act.put, zq1, zq2, zq3]
  go_wp2_with (first | go_skip | refine tP ?_ | (refine tS ?_; clear hL; intro _ hL) | (refine tB ?_; clear hL; intro _ _ hL _) | (refine tC ?_; clear hL; intro _ _ hL _ hBs))
 all_goals
  go_loopw [7, 8, 9, 10] (fun d l s i wr => ∃ (j : Nat) (mm : World) (nd nl : Nat) (Rd Rl : List Lo), j ≤ q ∧ i = .int .i64 j ∧ s = .bool (csAt rs n k j).s ∧ Loc w m wr mm ((w.heap.size, 66, #[.string ⟨#[]⟩, .slice none 0 0, .int .i64 0]) :: (Rl ++ Rd)) ∧ Hid (RowA 105 2 TaskR mm d nd (csAt rs n k j).d Rd) ∧ Hid (RowA 107 1 DutL mm l nl (csAt rs n k j).l Rl)) (fun _ _ _ i _ => q - (intOf i).toNat)
  case atStart =>
   first
   | exact ⟨0, m2, 1, 0, R2, [], Nat.zero_le _, rfl, congrArg (fun c => Value.bool c.s) rd0.out.symm, hL, rd, by rw [rd0.out]; exact RowA.nil⟩
   | exact ⟨0, mh6, 0, 0, [], [], Nat.zero_le _, rfl, congrArg (fun c => Value.bool c.s) rd0.out.symm, hL, by rw [rd0.out]; exact RowA.nil, by rw [rd0.out]; exact RowA.nil⟩
  case round =>
   clear hL
   obtain ⟨j, mm, nd, nl, Rd, Rl, hj, rfl, rfl, hL, rd, rl⟩ := hrel
   have hM := hL.mext
   obtain ⟨A7, c7, rfl, rd1⟩ := rd.out.lit
   obtain ⟨A8, c8, rfl, rl1⟩ := rl.out.lit
   have hnd : nd ≤ 10 := by have := rd1.len; have := csAt_len rs n k j; omega
   have hnl : nl ≤ 10 := by have := rl1.len; have := csAt_len rs n k j; omega
   have RD := Lib.hid rd1
   have RL := Lib.hid rl1
   clear rd rl rd1 rl1
   by_cases hlt : j < q
   ·obtain ⟨f0, hf0⟩ := at_some HQ hlt
    obtain ⟨f1, hf1⟩ := at_some (k := q - 1 - j) HQ (by omega)
    obtain ⟨b1, o1, rfl, hc1⟩ := IntL.at_ hr hf0
    obtain ⟨b2, o2, e2, hc2⟩ := IntL.at_ hr hf1
    injection e2 with e2
    injection e2 with e2 e3
    subst e2 e3
    have ex : (q : Int) - 1 - (j : Int) = ((q - 1 - j : Nat) : Int) := by omega
    have e7 := i64_and3 (k / 2)
    have e8 := i64_and1 (n / 2 ^ j)
    have e9 := i64_and2' (k / 16)
    by_cases h7 : k / 2 % 8 = 7
    case' pos =>
     have b7 := bt h7
     have HF : Hid (csF rs k j = f1) := by show _ = _; unfold csF; rw [if_pos h7, HQ.out, List.getD_eq_getElem?_getD, hf1]; rfl
     clear h7 hf0 hf1
     generalize f1 = f at *
     go_upto_region 12 with ((first | go_skip | refine tP ?_ | (refine tS ?_; clear hL; intro _ hL) | (refine tB ?_; clear hL; intro _ _ hL _) | (refine tC ?_; clear hL; intro _ _ hL _ hBs)))
    case' neg =>
     have b7 := bf h7
     have HF : Hid (csF rs k j = f0) := by show _ = _; unfold csF; rw [if_neg h7, List.getD_eq_getElem?_getD, hf0]; rfl
     clear h7 hf0 hf1
     generalize f0 = f at *
     go_upto_region 12 with ((first | go_skip | refine tP ?_ | (refine tS ?_; clear hL; intro _ hL) | (refine tB ?_; clear hL; intro _ _ hL _) | (refine tC ?_; clear hL; intro _ _ hL _ hBs)))
    all_goals
     clear hc1 hc2 ex b7 e7
     by_cases hb : n / 2 ^ j % 2 = 1
     ·have b8 := bt hb
      have HB : Hid (csBit n j = true) := by show _ = _; exact decide_eq_true hb
      clear hb
      by_cases hc : k / 16 % 4 = 3
      ·have b9 := bt hc
       have HS : Hid (csAt rs n k (j + 1) = ⟨[], (csAt rs n k j).l ++ [(csAt rs n k j).d ++ [(f, false)]], true⟩) := by show _ = _; simp [csAt, csStep, HF.out, HB.out, hc]
       clear hc
       go_wp2_with (first | go_skip | refine tP ?_ | (refine tS ?_; clear hL; intro _ hL) | (refine tB ?_; clear hL; intro _ _ hL _) | (refine tC ?_; clear hL; intro _ _ hL _ hBs))
       refine goA ?_
       obtain ⟨vs7, r7, z7, y7, l7⟩ := RD.out
       refine wl_append (A := _ :: Rl) hL r7 (wanted_none rfl) rfl ap_Tasks (by omega) rfl rfl (news := [.int .i64 f, .bool false]) rfl ((Blk.sl hBs (n := 2) rfl).le hL.vw.le) rfl (by omega) (by omega) ?_
       clear hL
       intro v1 W2 m2 R2 hL r8 e8
       obtain ⟨A9, c9, rfl, -⟩ := r8.lit
       have rd2 := RowA.snoc (R := TaskR) (m := m2) (x := (f, false)) r8 z7 (y7.mono fun _ _ hv => hv) l7 rfl rfl
       simp only [List.cons_append] at hL
       obtain ⟨m3, hL3, hle3, hdu, -⟩ := RowA.show (A := _ :: Rl) TaskR.mono hL rd2
       replace hle3 : Le mm m3 := Le.trans leX hle3
       clear hL
       have hL := hL3
       clear hL3
       simp only [Act.put, zq1, zq2, zq3]
       go_wp2_with (first | go_skip | refine tP ?_ | (refine tS ?_; clear hL; intro _ hL) | (refine tB ?_; clear hL; intro _ _ hL _) | (refine tC ?_; clear hL; intro _ _ hL _ hBs))
       refine goA ?_
       obtain ⟨vs8, r9, z9, y9, l9⟩ := RL.out
       refine wl_append (A := [_]) hL r9 (wanted_none rfl) rfl ap_Duties (by omega) rfl rfl (news := [.slice A9 (nd + 1) c9]) rfl ((Blk.sl hBs (n := 1) rfl).le hL.vw.le) rfl (by omega) (by omega) ?_
       clear hL
       intro v2 W4 m4 R4 hL r10 e10
       obtain ⟨A10, c10, rfl, -⟩ := r10.lit
       simp only [List.cons_append, List.nil_append] at hL
       have hle4 : Le m3 m4 := leX
       have rl2 := RowA.snocV (R := DutL) (m := m4) r10 z9 (y9.mono fun v x hv => DutL.mono _ _ _ _ hv (Le.trans hle3 hle4)) l9 rfl rfl (DutL.le hdu hle4)
       simp only [Act.put, zq1, zq2, zq3]
       go_wp2_with (first | go_skip | refine tP ?_ | (refine tS ?_; clear hL; intro _ hL) | (refine tB ?_; clear hL; intro _ _ hL _) | (refine tC ?_; clear hL; intro _ _ hL _ hBs))
       go_roundw
       case rel => exact ⟨j + 1, m4, 0, nl + 1, [], R4, by omega, by go_num, by rw [HS.out], by rw [List.append_nil]; exact hL, by rw [HS.out]; exact RowA.nil, by rw [HS.out]; exact rl2⟩
       case measure => simp [intOf] <;> omega
      ·have b9 := bf hc
       have HS : Hid (csAt rs n k (j + 1) = ⟨(csAt rs n k j).d ++ [(f, false)], (csAt rs n k j).l, true⟩) := by show _ = _; simp [csAt, csStep, HF.out, HB.out, hc]
       clear hc
       go_wp2_with (first | go_skip | refine tP ?_ | (refine tS ?_; clear hL; intro _ hL) | (refine tB ?_; clear hL; intro _ _ hL _) | (refine tC ?_; clear hL; intro _ _ hL _ hBs))
       refine goA ?_
       obtain ⟨vs7, r7, z7, y7, l7⟩ := RD.out
       refine wl_append (A := _ :: Rl) hL r7 (wanted_none rfl) rfl ap_Tasks (by omega) rfl rfl (news := [.int .i64 f, .bool false]) rfl ((Blk.sl hBs (n := 2) rfl).le hL.vw.le) rfl (by omega) (by omega) ?_
       clear hL
       intro v1 W2 m2 R2 hL r8 e8
       obtain ⟨A9, c9, rfl, -⟩ := r8.lit
       have rd2 := RowA.snoc (R := TaskR) (m := m2) (x := (f, false)) r8 z7 (y7.mono fun _ _ hv => hv) l7 rfl rfl
       simp only [List.cons_append] at hL
       simp only [Act.put, zq1, zq2, zq3]
       go_wp2_with (first | go_skip | refine tP ?_ | (refine tS ?_; clear hL; intro _ hL) | (refine tB ?_; clear hL; intro _ _ hL _) | (refine tC ?_; clear hL; intro _ _ hL _ hBs))
       go_roundw
       case rel => exact ⟨j + 1, m2, nd + 1, nl, R2, Rl, by omega, by go_num, by rw [HS.out], hL, by rw [HS.out]; exact rd2, by rw [HS.out]; exact RowA.le DutL.mono RL.out leX⟩
       case measure => simp [intOf] <;> omega
     ·have b8 := bf hb
      have HS : Hid (csAt rs n k (j + 1) = csAt rs n k j) := by show _ = _; simp [csAt, csStep, csBit, hb]
      clear hb
      go_wp2_with (first | go_skip | refine tP ?_ | (refine tS ?_; clear hL; intro _ hL) | (refine tB ?_; clear hL; intro _ _ hL _) | (refine tC ?_; clear hL; intro _ _ hL _ hBs))
      go_roundw
      case rel => exact ⟨j + 1, mm, nd, nl, Rd, Rl, by omega, by go_num, by rw [HS.out], hL, by rw [HS.out]; exact RD.out, by rw [HS.out]; exact RL.out⟩
      case measure => simp [intOf] <;> omega
   ·obtain rfl : j = q := by omega
    have e6 : n / 64 % (j : Int) = ((n / 64 % j).toNat : Int) := by have := Int.emod_nonneg (n / 64) (b := j) (by omega); omega
    have hi6 : (n / 64 % j).toNat < j := by have := Int.emod_lt_of_pos (n / 64) (b := j) (by omega); omega
    cases hs : (csAt rs n k j).s
    ·obtain ⟨f, hf⟩ := at_some HQ hi6
     obtain ⟨b1, o1, rfl, hc1⟩ := IntL.at_ hr hf
     have HD : Hid (csD rs n k = (csAt rs n k j).d ++ [(f, false)]) := by
      show _ = _
      unfold csD
      rw [HQ.out, hs, List.getD_eq_getElem?_getD, hf]; rfl
     have HL : Hid (csL rs n k = (csAt rs n k j).l ++ [(csAt rs n k j).d ++ [(f, false)]]) := by
      show _ = _
      unfold csL
      rw [HD.out, HQ.out, if_pos (by simp)]
     clear hs hf
     generalize (n / 64 % j).toNat = i6 at *
     go_wp2_with (first | go_skip | refine tP ?_ | (refine tS ?_; clear hL; intro _ hL) | (refine tB ?_; clear hL; intro _ _ hL _) | (refine tC ?_; clear hL; intro _ _ hL _ hBs))
     refine goA ?_
     obtain ⟨vs7, r7, z7, y7, l7⟩ := RD.out
     refine wl_append (A := _ :: Rl) hL r7 (wanted_none rfl) rfl ap_Tasks (by omega) rfl rfl (news := [.int .i64 f, .bool false]) rfl ((Blk.sl hBs (n := 2) rfl).le hL.vw.le) rfl (by omega) (by omega) ?_
     clear hL
     intro v1 W2 m2 R2 hL r8 e8
     obtain ⟨A9, c9, rfl, -⟩ := r8.lit
     have rd2 := RowA.snoc (R := TaskR) (m := m2) (x := (f, false)) r8 z7 (y7.mono fun _ _ hv => hv) l7 rfl rfl
     simp only [List.cons_append] at hL
     obtain ⟨m3, hL3, hle3, hdu, -⟩ := RowA.show (A := _ :: Rl) TaskR.mono hL rd2
     replace hle3 : Le mm m3 := Le.trans leX hle3
     clear hL
     have hL := hL3
     clear hL3
     simp only [Act.put, zq1, zq2, zq3]
     have hp6 : 0 < nd + 1 := by omega
     go_wp2_with (first | go_skip | refine tP ?_ | (refine tS ?_; clear hL; intro _ hL) | (refine tB ?_; clear hL; intro _ _ hL _) | (refine tC ?_; clear hL; intro _ _ hL _ hBs))
     refine goA ?_
     obtain ⟨vs8, r9, z9, y9, l9⟩ := RL.out
     refine wl_append (A := [_]) hL r9 (wanted_none rfl) rfl ap_Duties (by omega) rfl rfl (news := [.slice A9 (nd + 1) c9]) rfl ((Blk.sl hBs (n := 1) rfl).le hL.vw.le) rfl (by omega) (by omega) ?_
     clear hL
     intro v2 W4 m4 R4 hL r10 e10
     obtain ⟨A10, c10, rfl, -⟩ := r10.lit
     simp only [List.cons_append, List.nil_append] at hL
     have hle4 : Le m3 m4 := leX
     have rl2 := RowA.snocV (R := DutL) (m := m4) r10 z9 (y9.mono fun v x hv => DutL.mono _ _ _ _ hv (Le.trans hle3 hle4)) l9 rfl rfl (DutL.le hdu hle4)
     simp only [Act.put, zq1, zq2, zq3]
     go_wp2_with (first | go_skip | refine tP ?_ | (refine tS ?_; clear hL; intro _ hL) | (refine tB ?_; clear hL; intro _ _ hL _) | (refine tC ?_; clear hL; intro _ _ hL _ hBs))
     obtain ⟨m5, hL5, hle5, hdl, -⟩ := RowA.show (A := [_]) DutL.mono hL rl2
     refine fin_aggR hL Tryz.results24 rfl rfl loX ag_Col (by exact rfl) hL5 ?_
     refine ⟨_, rfl, ?_⟩
     show DutsL _ _ (csL rs n k)
     rw [HL.out]
     exact hdl
    ·by_cases hp6 : 0 < nd
     ·have HL : Hid (csL rs n k = (csAt rs n k j).l ++ [(csAt rs n k j).d]) := by
       show _ = _
       have h3 := RD.out.len
       unfold csL csD
       rw [HQ.out, hs, if_pos rfl, if_pos (by omega)]
      clear hs
      obtain ⟨m3, hL3, hle3, hdu, -⟩ := RowA.show (A := _ :: Rl) TaskR.mono hL RD.out
      replace hle3 : Le mm m3 := Le.trans leX hle3
      clear hL
      have hL := hL3
      clear hL3
      go_wp2_with (first | go_skip | refine tP ?_ | (refine tS ?_; clear hL; intro _ hL) | (refine tB ?_; clear hL; intro _ _ hL _) | (refine tC ?_; clear hL; intro _ _ hL _ hBs))
      refine goA ?_
      obtain ⟨vs8, r9, z9, y9, l9⟩ := RL.out
      refine wl_append (A := [_]) hL r9 (wanted_none rfl) rfl ap_Duties (by omega) rfl rfl (news := [.slice A7 nd c7]) rfl ((Blk.sl hBs (n := 1) rfl).le hL.vw.le) rfl (by omega) (by omega) ?_
      clear hL
      intro v2 W4 m4 R4 hL r10 e10
      obtain ⟨A10, c10, rfl, -⟩ := r10.lit
      simp only [List.cons_append, List.nil_append] at hL
      have hle4 : Le m3 m4 := leX
      have rl2 := RowA.snocV (R := DutL) (m := m4) r10 z9 (y9.mono fun v x hv => DutL.mono _ _ _ _ hv (Le.trans hle3 hle4)) l9 rfl rfl (DutL.le hdu hle4)
      simp only [Act.put, zq1, zq2, zq3]
      go_wp2_with (first | go_skip | refine tP ?_ | (refine tS ?_; clear hL; intro _ hL) | (refine tB ?_; clear hL; intro _ _ hL _) | (refine tC ?_; clear hL; intro _ _ hL _ hBs))
      obtain ⟨m5, hL5, hle5, hdl, -⟩ := RowA.show (A := [_]) DutL.mono hL rl2
      refine fin_aggR hL Tryz.results24 rfl rfl loX ag_Col (by exact rfl) hL5 ?_
      refine ⟨_, rfl, ?_⟩
      show DutsL _ _ (csL rs n k)
      rw [HL.out]
      exact hdl
     ·have HL : Hid (csL rs n k = (csAt rs n k j).l) := by
       show _ = _
       have h3 := RD.out.len
       unfold csL csD
       rw [HQ.out, hs, if_pos rfl, if_neg (by omega)]
      clear hs
      replace hL := hL.less (List.Sublist.cons_cons _ (List.sublist_append_left _ _))
      go_wp2_with (first | go_skip | refine tP ?_ | (refine tS ?_; clear hL; intro _ hL) | (refine tB ?_; clear hL; intro _ _ hL _) | (refine tC ?_; clear hL; intro _ _ hL _ hBs))
      obtain ⟨m5, hL5, hle5, hdl, -⟩ := RowA.show (A := [_]) DutL.mono hL RL.out
      refine fin_aggR hL Tryz.results24 rfl rfl loX ag_Col (by exact rfl) hL5 ?_
      refine ⟨_, rfl, ?_⟩
      show DutsL _ _ (csL rs n k)
      rw [HL.out]
      exact hdl
end Go.Proofs.YtabmjadcoepbeaaGreat

/- What pairingdata.Master builds; small lemmas for its walk. -/
namespace Go.Proofs.YtabmjadcoepbeaaGreat
open Go.RowKit

theorem atF_bd (l : List Int) (i : Nat) (h : i ≤ 1000) : 0 ≤ atF l i ∧ atF l i ≤ 70000 := by
 unfold atF
 split
 ·omega
 ·have : i / l.length ≤ 1000 := Nat.le_trans (Nat.div_le_self _ _) h
  generalize i / l.length = q at *
  omega
theorem atX (l : List Int) (i : Nat) (h : i ≤ 1000) : ∃ a : Int, Hid (atF l i = a) ∧ 0 ≤ a ∧ a ≤ 70000 := ⟨_, rfl, atF_bd l i h⟩
theorem d_AtE (A : Option Addr) (c N : Nat) (l : List Int) (z : Int) (i : Nat) (a : Int) (w m : World) (hV : Vw m w) (h : Sl m A (l.map I64)) (hN : Hid (l.length = N)) (hl : Hid (True)) (e : Hid (atF l i = a)) (hz : z = i) (hi : i ≤ 1000) :
  Calls Tryz.prog 23 #[.slice A N c, .int .i64 z] w (RetV w m fun _ r => r = .int .i64 a) := by
 subst hz
 have := d_At A c l i w m hV h hi
 rwa [hN.out, e.out] at this

def rowsT : List (List Int) := [[0, 1, 2], [1, 2, 4], [0, 1, 2, 3], [0, 2, 3, 5], [0, 1, 2, 3, 4], [1, 2, 3, 4, 5]]
def rowsF (l : List Int) : List Int := rowsT.getD (atF l 1 % 6).toNat []
def colsG (rs l : List Int) (n : Nat) : List Col := (List.range n).map fun j => colF rs (atF l (5 + 2 * j)) (atF l (6 + 2 * j))
def cutG (rs : List Int) (sk : Nat) (j : Nat) : Option Int := if j ≠ sk ∨ rs.length = 3 then rs[j]? else none
def cutT (rs : List Int) (sk i : Nat) : List Int := (List.range i).filterMap (cutG rs sk)
def cutF (rs l : List Int) (k : Nat) : Cut := (cutT rs (atF l (20 + k) % rs.length).toNat rs.length, if atF l (24 + k) % 2 = 1 then 3 else 2)
def cutsG (rs l : List Int) (n : Nat) : List Cut := (List.range n).map (cutF rs l)
theorem range_snoc {α : Type} (f : Nat → α) (n : Nat) : (List.range (n + 1)).map f = (List.range n).map f ++ [f n] := by rw [List.range_succ, List.map_append]; rfl
theorem cutT_in {rs : List Int} {sk i : Nat} {f : Int} (h : rs[i]? = some f) (hc : i ≠ sk ∨ rs.length = 3) : cutT rs sk (i + 1) = cutT rs sk i ++ [f] := by
 unfold cutT
 rw [List.range_succ, List.filterMap_append]
 simp [cutG, hc, h]
theorem cutT_out {rs : List Int} {sk i : Nat} (hc : ¬ (i ≠ sk ∨ rs.length = 3)) : cutT rs sk (i + 1) = cutT rs sk i := by
 unfold cutT
 rw [List.range_succ, List.filterMap_append]
 simp [cutG, hc]
theorem cutT_len (rs : List Int) (sk i : Nat) : (cutT rs sk i).length ≤ i := by
 unfold cutT
 exact Nat.le_trans (List.length_filterMap_le _ _) (by simp)
theorem rowsT_len : ∀ i : Fin 6, 3 ≤ (rowsT.getD i.1 []).length ∧ (rowsT.getD i.1 []).length ≤ 5 := by decide
theorem cutT_long : ∀ i : Fin 6, ∀ s : Fin 5, s.1 < (rowsT.getD i.1 []).length → 2 < (cutT (rowsT.getD i.1 []) s.1 (rowsT.getD i.1 []).length).length := by decide

theorem IntL.ofBlk {m : World} {g : Nat} {e : TypeId} (xs : List Int) (h : Blk m g e (xs.map I64).toArray) : IntL m (.slice (some ⟨g, 0, none⟩) xs.length xs.length) xs := by
 refine ListV.mk (vs := xs.map I64) (Nat.le_refl _) (by simp) (fun u hu => ?_) ?_ ?_
 ·obtain ⟨x, _, rfl⟩ := List.mem_map.1 hu; rfl
 ·refine Blk.sl h (n := xs.length) ?_
  rw [List.take_of_length_le (by simp)]
  exact ih' xs
 ·exact all2 xs
 where
 ih' : ∀ xs : List Int, xs.map I64 = cellsOf (xs.map I64)
  | [] => rfl
  | x :: xs => congrArg (I64 x :: ·) (ih' xs)
 all2 : ∀ xs : List Int, All2 (IsI m) (xs.map I64) xs
  | [] => trivial
  | x :: xs => ⟨rfl, all2 xs⟩
theorem cellsOf_ints : ∀ xs : List Int, cellsOf (xs.map I64) = xs.map I64
 | [] => rfl
 | x :: xs => congrArg (I64 x :: ·) (cellsOf_ints xs)
theorem all2_ints {m : World} : ∀ {vs : List Value} {xs : List Int}, All2 (IsI m) vs xs → vs = xs.map I64
 | [], [], _ => rfl
 | v :: vs, x :: xs, h => by rw [h.1, all2_ints h.2]; rfl
 | [], _ :: _, h => h.elim
 | _ :: _, [], h => h.elim
theorem IntL.sl {m : World} {A : Option Addr} {n c : Nat} {xs : List Int} (h : IntL m (.slice A n c) xs) : Sl m A (xs.map I64) := by
 obtain ⟨A', c', vs, e, hc, h1, h2, h3⟩ := h
 injection e with e1 e2 e3
 subst e1
 have := all2_ints h3
 subst this
 rwa [cellsOf_ints] at h2
theorem all2_of_ints (m : World) : ∀ xs : List Int, All2 (IsI m) (xs.map I64) xs
 | [] => trivial
 | x :: xs => ⟨rfl, all2_of_ints m xs⟩
theorem IntL.ofSl {m : World} {A : Option Addr} {n c : Nat} {xs : List Int} (h : Sl m A (xs.map I64)) (hn : xs.length = n) (hc : n ≤ c) : IntL m (.slice A n c) xs := by
 refine ListV.mk (vs := xs.map I64) hc (by simpa using hn) (fun u hu => ?_) ?_ (all2_of_ints m xs)
 ·obtain ⟨x, _, rfl⟩ := List.mem_map.1 hu; rfl
 ·rwa [cellsOf_ints]
abbrev IntLL := ListV (α := List Int) 1 IntL
theorem IntL.mono (m m' : World) (v : Value) (x : List Int) (h : IntL m v x) (hb : Le m m') : IntL m' v x := IntL.le h hb
theorem IntLL.at_ {m : World} {A : Option Addr} {n c : Nat} {xs : List (List Int)} (h : IntLL m (.slice A n c) xs) {k : Nat} {x : List Int} (hk : xs[k]? = some x) :
  ∃ b off B d, A = some ⟨b, off, none⟩ ∧ IntL m (.slice B x.length d) x ∧ m.cell? ⟨b, off + k, none⟩ = some (.slice B x.length d) := by
 obtain ⟨b, off, v, e, hv, _, hr⟩ := ListV.at_ h (by omega) hk
 obtain ⟨B, d, rfl, _, hv⟩ := hv.lit
 exact ⟨b, off, B, d, e, hv, by simpa using hr 0 _ rfl⟩
theorem rowsT_get (i : Nat) (h : i < 6) : rowsT[i]? = some (rowsT.getD i []) := by
 have : i < rowsT.length := h
 rw [List.getD_eq_getElem?_getD, List.getElem?_eq_getElem this]; rfl
theorem ColR.lit {m : World} {v : Value} {x : Col} (h : ColR m v x) : ∃ b A n c z, v = .agg #[.string b, .slice A n c, .int .i64 z] ∧ ColR m (.agg #[.string b, .slice A n c, .int .i64 z]) x := by
 have h' := h
 obtain ⟨s, rfl, hs⟩ := h
 obtain ⟨A, c, rfl, _, _⟩ := hs.lit
 exact ⟨_, _, _, _, _, rfl, h'⟩
theorem ints_one (rs : List Int) : (rs.map I64).all (·.oneCell') = true := by
 rw [List.all_map, List.all_eq_true]; intro x _; rfl
theorem d_ColumnE (A : Option Addr) (c q : Nat) (rs : List Int) (n k : Int) (w m : World) (hV : Vw m w) (hr : IntL m (.slice A q c) rs) (hq : Hid (rs.length = q)) (h1 : 1 ≤ q) (h2 : q ≤ 6) (n0 : 0 ≤ n) (n1 : n ≤ 100000) (k0 : 0 ≤ k) (k1 : k ≤ 100000) :
  Calls Tryz.prog 24 #[.slice A q c, .int .i64 n, .int .i64 k] w (RetV w m fun m' r => ColR m' r (colF rs n k)) := by
 obtain rfl := hq.out
 exact d_Column A c rs n k w m hV hr h1 h2 n0 n1 k0 k1
theorem colsG_snoc (rs l : List Int) (j : Nat) {a b : Int} (ha : Hid (atF l (5 + 2 * j) = a)) (hb : Hid (atF l (6 + 2 * j) = b)) : colsG rs l j ++ [colF rs a b] = colsG rs l (j + 1) := by
 unfold colsG
 rw [range_snoc, ha.out, hb.out]
theorem cutsG_snoc (rs l : List Int) (k sk q : Nat) {a b : Int} (hq : Hid (rs.length = q)) (ha : Hid (atF l (20 + k) = a)) (hb : Hid (atF l (24 + k) = b)) (hs : (sk : Int) = a % q) (d : Int) (hd : d = if b % 2 = 1 then 3 else 2) :
  cutsG rs l k ++ [(cutT rs sk q, d)] = cutsG rs l (k + 1) := by
 unfold cutsG
 rw [range_snoc]
 unfold cutF
 rw [ha.out, hb.out, hq.out, ← hs, hd]; rfl
structure Ms where
 nf : Int
 rows : List Int
 pen : Int
 cols : List Col
 cuts : List Cut
def MasterR (m : World) (v : Value) (x : Ms) : Prop := ∃ a b c, v = .agg #[.int .i64 x.nf, a, .int .i64 x.pen, b, c] ∧ IntL m a x.rows ∧ ColL m b x.cols ∧ CutL m c x.cuts
theorem MasterR.le {m m' : World} {v : Value} {x : Ms} (h : MasterR m v x) (hb : Le m m') : MasterR m' v x := by
 obtain ⟨a, b, c, e, h1, h2, h3⟩ := h
 exact ⟨a, b, c, e, IntL.le h1 hb, ColL.le h2 hb, CutL.le h3 hb⟩
def masF (l : List Int) : Ms := ⟨6, rowsF l, atF l 0 % 30, colsG (rowsF l) l (atF l 2 % 7).toNat, cutsG (rowsF l) l (atF l 3 % 3).toNat⟩
end Go.Proofs.YtabmjadcoepbeaaGreat

/- Contract of pairingdata.Master. -/
namespace Go.Proofs.YtabmjadcoepbeaaGreat
open Go.RowKit

theorem CutR.mono' (m m' : World) (v : Value) (x : Cut) (h : CutR m v x) (hb : Le m m') : CutR m' v x := h.le hb
theorem IsI.mono (m m' : World) (v : Value) (x : Int) (h : IsI m v x) (_ : Le m m') : IsI m' v x := h

theorem d_Master (A : Option Addr) (c : Nat) (l : List Int) (w m : World) (hV : Vw m w) (h : Sl m A (l.map I64)) (hl : True) :
  Calls Tryz.prog 6 #[.slice A l.length c] w (RetV w m fun m' r => MasterR m' r (masF l)) := by
 have HL := Lib.hid hl
 clear hl
 generalize hN : l.length = N
 have HN := Lib.hid hN
 clear hN
 obtain ⟨a0, E0, p0, p0'⟩ := atX l 0 (by omega)
 obtain ⟨a1, E1, p1, p1'⟩ := atX l 1 (by omega)
 obtain ⟨a2, E2, p2, p2'⟩ := atX l 2 (by omega)
 obtain ⟨a3, E3, p3, p3'⟩ := atX l 3 (by omega)
 have hL := Loc.start hV
 clear hV
 go_enter Tryz.func6, Tryz.ntmps6
 go_upto_region 0 with (fail)
 refine wp_region_lit ?_
 refine t_alloc hL rfl ?_; clear hL; intro Wh2 mh2 hL eh2; simp only [Act.put, zq1, zq2, zq3]
 go_wp2_with (first | go_skip | refine tP ?_ | (refine tS ?_; clear hL; intro _ hL) | (refine tB ?_; clear hL; intro _ _ hL _) | (refine tC ?_; clear hL; intro _ _ hL _ hBs))
 refine (d_AtE _ _ _ l _ 0 a0 _ _ hL.vw (h.le leX) HN HL E0 rfl (by omega)).mono ?_
 rintro e Wc0 ⟨_, mc0, rfl, hE, hMc0, hV, rfl⟩
 replace hL := hL.call hE (by assumption) hV; clear hE hV
 go_upto_region 2 with ((first | go_skip | refine tP ?_ | (refine tS ?_; clear hL; intro _ hL) | (refine tB ?_; clear hL; intro _ _ hL _) | (refine tC ?_; clear hL; intro _ _ hL _ hBs)))
 refine wp_region_lit ?_
 rename_i W0 _ _
 refine wl_bslice hL (wanted_none rfl) rfl (n := 3) (cs := #[.int .i64 0, .int .i64 1, .int .i64 2]) (e := 3) (fun w => by go_simp) ?_
 clear hL
 intro Wa ma hL ea hab
 simp only [Act.put, zq1, zq2, zq3]
 refine wl_bslice hL (wanted_none rfl) rfl (n := 3) (cs := #[.int .i64 1, .int .i64 2, .int .i64 4]) (e := 3) (fun w => by go_simp) ?_
 clear hL
 intro Wb mb hL eb hbb
 simp only [Act.put, zq1, zq2, zq3]
 refine wl_bslice hL (wanted_none rfl) rfl (n := 4) (cs := #[.int .i64 0, .int .i64 1, .int .i64 2, .int .i64 3]) (e := 3) (fun w => by go_simp) ?_
 clear hL
 intro Wc mc hL ec hcb
 simp only [Act.put, zq1, zq2, zq3]
 refine wl_bslice hL (wanted_none rfl) rfl (n := 4) (cs := #[.int .i64 0, .int .i64 2, .int .i64 3, .int .i64 5]) (e := 3) (fun w => by go_simp) ?_
 clear hL
 intro Wd md hL ed hdb
 simp only [Act.put, zq1, zq2, zq3]
 refine wl_bslice hL (wanted_none rfl) rfl (n := 5) (cs := #[.int .i64 0, .int .i64 1, .int .i64 2, .int .i64 3, .int .i64 4]) (e := 3) (fun w => by go_simp) ?_
 clear hL
 intro We me hL ee heb
 simp only [Act.put, zq1, zq2, zq3]
 refine wl_bslice hL (wanted_none rfl) rfl (n := 5) (cs := #[.int .i64 1, .int .i64 2, .int .i64 3, .int .i64 4, .int .i64 5]) (e := 3) (fun w => by go_simp) ?_
 clear hL
 intro Wf mf hL ef hfb
 simp only [Act.put, zq1, zq2, zq3]
 refine wl_bslice hL (wanted_none rfl) rfl (n := 6) (cs := #[.slice (some ⟨W0.heap.size, 0, none⟩) 3 3, .slice (some ⟨Wa.heap.size, 0, none⟩) 3 3, .slice (some ⟨Wb.heap.size, 0, none⟩) 4 4, .slice (some ⟨Wc.heap.size, 0, none⟩) 4 4, .slice (some ⟨Wd.heap.size, 0, none⟩) 5 5, .slice (some ⟨We.heap.size, 0, none⟩) 5 5]) (e := 22) (fun w => by go_simp) ?_
 clear hL
 intro Wg mg hL eg hgb
 simp only [Act.put, zq1, zq2, zq3]
 have hrows : IntLL mg (.slice (some ⟨Wf.heap.size, 0, none⟩) 6 6) rowsT := ListV.mk (vs := [.slice (some ⟨W0.heap.size, 0, none⟩) 3 3, .slice (some ⟨Wa.heap.size, 0, none⟩) 3 3, .slice (some ⟨Wb.heap.size, 0, none⟩) 4 4, .slice (some ⟨Wc.heap.size, 0, none⟩) 4 4, .slice (some ⟨Wd.heap.size, 0, none⟩) 5 5, .slice (some ⟨We.heap.size, 0, none⟩) 5 5]) (by omega) rfl (fun u hu => by simp at hu; rcases hu with rfl | rfl | rfl | rfl | rfl | rfl <;> rfl) (Blk.sl hgb (n := 6) rfl)
  ⟨IntL.le (IntL.ofBlk [0, 1, 2] hab) leX, IntL.le (IntL.ofBlk [1, 2, 4] hbb) leX, IntL.le (IntL.ofBlk [0, 1, 2, 3] hcb) leX, IntL.le (IntL.ofBlk [0, 2, 3, 5] hdb) leX, IntL.le (IntL.ofBlk [0, 1, 2, 3, 4] heb) leX, IntL.le (IntL.ofBlk [1, 2, 3, 4, 5] hfb) leX, trivial⟩
 clear hab hbb hcb hdb heb hfb hgb
 go_wp2_with (first | go_skip | refine tP ?_ | (refine tS ?_; clear hL; intro _ hL) | (refine tB ?_; clear hL; intro _ _ hL _) | (refine tC ?_; clear hL; intro _ _ hL _ hBs))
 refine (d_AtE _ _ _ l _ 1 a1 _ _ hL.vw (h.le leX) HN HL E1 rfl (by omega)).mono ?_
 rintro e Wc1 ⟨_, mc1, rfl, hE, hMc1, hV, rfl⟩
 replace hL := hL.call hE (by assumption) hV; clear hE hV
 have hi1 : (a1 % 6).toNat < 6 := by omega
 have e6 : a1 % 6 = ((a1 % 6).toNat : Int) := by omega
 have HR : Hid (rowsF l = rowsT.getD (a1 % 6).toNat []) := by show _ = _; unfold rowsF; rw [E1.out]
 obtain ⟨h3, h5⟩ := rowsT_len ⟨_, hi1⟩
 have HC : Hid (∀ s : Nat, s < (rowsT.getD (a1 % 6).toNat []).length → 2 < (cutT (rowsT.getD (a1 % 6).toNat []) s (rowsT.getD (a1 % 6).toNat []).length).length) := by
  show ∀ s : Nat, _
  intro s hs
  exact cutT_long ⟨_, hi1⟩ ⟨s, by simp only at h5; omega⟩ hs
 obtain ⟨b6, o6, A4, c4, e, hrs, hc6⟩ := IntLL.at_ hrows (rowsT_get _ hi1)
 injection e with e
 injection e with e e'
 subst e e'
 simp only at h3 h5
 simp only [Nat.zero_add] at hc6
 generalize rowsT.getD (a1 % 6).toNat [] = rs at *
 generalize (a1 % 6).toNat = i1 at *
 generalize hq : rs.length = q at *
 have HQ := Lib.hid hq
 clear hq hrows
 go_wp2_with (first | go_skip | refine tP ?_ | (refine tS ?_; clear hL; intro _ hL) | (refine tB ?_; clear hL; intro _ _ hL _) | (refine tC ?_; clear hL; intro _ _ hL _ hBs))
 refine goA ?_
 refine wl_append (A := [_, _]) hL (Row.nil _ _) (wanted_none rfl) rfl ap_ints (by omega) rfl rfl (news := rs.map I64) (by simp [HQ.out]) ((IntL.sl (IntL.le hrs leX)).le hL.vw.le) (ints_one rs) (by omega) (by omega) ?_
 clear hL
 intro v1 W4 m4 R4 hL r4 e4
 obtain ⟨m5, A5, c5, hL5, hle5, rfl, hc5, hs5, -⟩ := Loc.show (A := [_, _]) hL r4
 simp only [Nat.zero_add, List.nil_append] at hc5 hs5
 have hrw : IntL m5 (.slice A5 q c5) rs := IntL.ofSl hs5 HQ.out hc5
 have hrs5 : IntL m5 (.slice A4 q c4) rs := IntL.le hrs (Le.trans leX hle5)
 clear hL hs5 hrs hc6
 have hL := hL5
 clear hL5 hle5
 have e7 : a2 % 7 = ((a2 % 7).toNat : Int) := by omega
 have E2' : Hid ((atF l 2 % 7).toNat = (a2 % 7).toNat) := by show _ = _; rw [E2.out]
 have hJ : (a2 % 7).toNat ≤ 6 := by omega
 generalize (a2 % 7).toNat = J at *
 have e3' : a3 % 3 = ((a3 % 3).toNat : Int) := by omega
 have E3' : Hid ((atF l 3 % 3).toNat = (a3 % 3).toNat) := by show _ = _; rw [E3.out]
 have hK : (a3 % 3).toNat ≤ 2 := by omega
 generalize (a3 % 3).toNat = K at *
 clear e6 hi1
 simp only [Act.put, zq1, zq2, zq3, Nat.zero_add]
 go_wp2_with (first | go_skip | refine tP ?_ | (refine tS ?_; clear hL; intro _ hL) | (refine tB ?_; clear hL; intro _ _ hL _) | (refine tC ?_; clear hL; intro _ _ hL _ hBs))
 go_loopw [5] (fun i wr => ∃ (j : Nat) (mm : World) (A7 : Option Addr) (c7 : Nat) (Rr : List Lo), j ≤ J ∧ i = .int .i64 j ∧ Loc w m wr mm ((Wc0.heap.size, 26, #[.int .i64 6, .slice A5 q c5, .int .i64 (a0 % 30), .slice A7 j c7, .slice none 0 0]) :: (w.heap.size, 26, #[.int .i64 0, .slice none 0 0, .int .i64 0, .slice none 0 0, .slice none 0 0]) :: Rr) ∧ Hid (RowA 66 3 ColR mm (.slice A7 j c7) j (colsG rs l j) Rr) ∧ Ext m5 mm) (fun i _ => J - (intOf i).toNat)
 case atStart => exact ⟨0, m5, none, 0, [], Nat.zero_le _, rfl, hL, RowA.nil, Ext.refl _⟩
 case round =>
  clear hL
  obtain ⟨j, mm, A7, c7, Rr, hj, rfl, hL, rr, hX⟩ := hrel
  have hM := hL.mext
  have hA := h.le hM.le
  have hrs6 := IntL.le hrs5 hX.le
  have hrw6 := IntL.le hrw hX.le
  have HX := Lib.hid hX
  clear hX hM
  go_wp2_with (first | go_skip | refine tP ?_ | (refine tS ?_; clear hL; intro _ hL) | (refine tB ?_; clear hL; intro _ _ hL _) | (refine tC ?_; clear hL; intro _ _ hL _ hBs))
  refine (d_AtE _ _ _ l _ 2 a2 _ _ hL.vw (hA.le leX) HN HL E2 rfl (by omega)).mono ?_
  rintro e Wc2 ⟨_, mc2, rfl, hE, hMc2, hV, rfl⟩
  replace hL := hL.call hE (by assumption) hV; clear hE hV
  by_cases hlt : j < J
  ·obtain ⟨a5, E5, p5, p5'⟩ := atX l (5 + 2 * j) (by omega)
   obtain ⟨a6, E6, p6, p6'⟩ := atX l (6 + 2 * j) (by omega)
   go_upto_region 7 with ((first | go_skip | refine tP ?_ | (refine tS ?_; clear hL; intro _ hL) | (refine tB ?_; clear hL; intro _ _ hL _) | (refine tC ?_; clear hL; intro _ _ hL _ hBs)))
   clear e7 e3'
   (try simp only [eq_self] at *)
   refine wp_region_by2 15 [false, false, false, false, false, false, false, false, false, false, false, false, false, false, false] [false, false, false, false, false, false, false, false, false, false, false, false, false, false, false] [(fun v _ _ => v = ?c7_0), (fun v _ _ => v = ?c7_1), (fun v _ _ => v = ?c7_2), (fun v _ _ => v = ?c7_3), (fun v _ _ => v = ?c7_4), (fun v _ _ => v = ?c7_5), (fun v _ _ => v = ?c7_6), Is (.int .i64 a5), (fun v _ _ => v = ?c7_8), (fun v _ _ => v = ?c7_9), (fun v _ _ => v = ?c7_10), (fun v _ _ => v = ?c7_11), Is (.int .i64 a6), Of (fun um v => ColR um v (colF rs a5 a6)), (NewS1 66 (fun um v => ColR um v (colF rs a5 a6)))] hL.vw mixed [38, 39, 40, 41, 42, 43, 44, 45, 46, 47, 48, 49, 50, 51, 52] _ (by kernel_rfl) (fun vs => by simp only [lay, Act.put, zq1, zq2, zq3]; rfl) (by kernel_rfl) (by decide) (by decide) ?s7 ?l7 ?r7
   case s7 =>
    refine ⟨?_, ?_, ?_, ?_, ?_, ?_, ?_, ?_, ?_, ?_, ?_, ?_, ?_, ?_, ?_, trivial⟩
    ·intro vs W1 m1 hE hM hV hD; clear hD
     exact sFe
    ·intro vs W1 m1 hE hM hV hD; obtain ⟨⟨_, _, -, -, f38⟩, -⟩ := hD
     rw [(f38 : vs 38 = _)]; clear f38; exact sLe
    ·intro vs W1 m1 hE hM hV hD; clear hD
     exact sPw
    ·intro vs W1 m1 hE hM hV hD; clear hD
     exact sPw
    ·intro vs W1 m1 hE hM hV hD; clear hD
     exact sPw
    ·intro vs W1 m1 hE hM hV hD; obtain ⟨⟨_, _, -, -, f42⟩, -⟩ := hD
     rw [(f42 : vs 42 = _)]; clear f42; exact sPw
    ·intro vs W1 m1 hE hM hV hD; obtain ⟨⟨_, _, -, -, f43⟩, -⟩ := hD
     rw [(f43 : vs 43 = _)]; clear f43; exact sPw
    ·intro vs W1 m1 hE hM hV hD; obtain ⟨⟨_, _, -, -, f41⟩, ⟨_, _, -, -, f44⟩, -⟩ := hD
     rw [(f41 : vs 41 = _), (f44 : vs 44 = _)]
     clear f41 f44
     go_wp2_with fail
     refine (d_AtE _ _ _ l _ (5 + 2 * j) a5 _ _ hV (hA.le leX) HN HL E5 (by omega) (by omega)).mono ?_
     rintro e W2 ⟨v, m2, rfl, hE2, hM2, hV2, h⟩
     go_wp2_with fail
     refine One2.call hE2 hM2 hV2 ?_; first | exact h | exact rfl
    ·intro vs W1 m1 hE hM hV hD; clear hD
     exact sPw
    ·intro vs W1 m1 hE hM hV hD; clear hD
     exact sPw
    ·intro vs W1 m1 hE hM hV hD; obtain ⟨⟨_, _, -, -, f47⟩, -⟩ := hD
     rw [(f47 : vs 47 = _)]; clear f47; exact sPw
    ·intro vs W1 m1 hE hM hV hD; obtain ⟨⟨_, _, -, -, f48⟩, -⟩ := hD
     rw [(f48 : vs 48 = _)]; clear f48; exact sPw
    ·intro vs W1 m1 hE hM hV hD; obtain ⟨⟨_, _, -, -, f46⟩, ⟨_, _, -, -, f49⟩, -, -⟩ := hD
     rw [(f46 : vs 46 = _), (f49 : vs 49 = _)]
     clear f46 f49
     go_wp2_with fail
     refine (d_AtE _ _ _ l _ (6 + 2 * j) a6 _ _ hV (hA.le leX) HN HL E6 (by omega) (by omega)).mono ?_
     rintro e W2 ⟨v, m2, rfl, hE2, hM2, hV2, h⟩
     go_wp2_with fail
     refine One2.call hE2 hM2 hV2 ?_; first | exact h | exact rfl
    ·intro vs W1 m1 hE hM hV hD; obtain ⟨⟨_, _, -, -, f40⟩, ⟨_, _, -, -, f45⟩, ⟨_, _, -, -, f50⟩, -, -⟩ := hD
     rw [(f40 : vs 40 = _), (f45 : vs 45 = _), (f50 : vs 50 = _)]
     clear f40 f45 f50
     go_wp2_with fail
     refine (d_ColumnE _ _ q rs a5 a6 _ _ hV (IntL.le hrs6 leX) HQ (by omega) (by omega) p5 (by omega) p6 (by omega)).mono ?_
     rintro e W2 ⟨v, m2, rfl, hE2, hM2, hV2, h⟩
     go_wp2_with fail
     refine One2.call hE2 hM2 hV2 ?_; first | exact h | exact rfl
    ·intro vs W1 m1 hE hM hV hD; obtain ⟨⟨_, _, -, i51, f51⟩, -⟩ := hD; have f51 : ColR _ (vs 51) (colF rs a5 a6) := f51; replace f51 := f51.le i51.le; clear i51
     (obtain ⟨b9, A9, n9, c9, z9, e9, f9⟩ := f51.lit; generalize vs 51 = x9 at e9 ⊢; subst x9; go_wp2_with fail; exact one2_s1 hV fun m' h => f9.le h.le)
   case l7 =>
    refine ⟨nF, nF, nF, nF, nF, nF, nF, nF, nF, nF, nF, nF, nF, nF, nF, trivial⟩
   intro vs W1 m1 hE hM hV hF hD
   clear hD
   obtain ⟨-, ⟨_, _, -, -, f39⟩, -, -, -, -, -, -, -, -, -, -, -, ⟨_, _, -, i51, f51⟩, ⟨_, _, j52, i52, f52⟩, -⟩ := hF
   replace hL := hL.call hE hM hV
   have f39 : vs 39 = _ := f39
   generalize vs 39 = x39 at f39 ⊢
   subst x39
   replace f51 : ColR _ (vs 51) (colF rs a5 a6) := f51
   replace f51 := f51.le i51.le
   clear i51
   clear hE hV
   obtain ⟨g15, cs15, e15, q15, f15⟩ := f52
   generalize vs 52 = x15 at e15 ⊢
   subst x15
   replace q15 := q15.ext j52
   have f16 : ColR _ (.agg cs15) (colF rs a5 a6) := f15
   replace f16 := f16.le i52.le
   clear f15 i52 j52
   obtain ⟨b9, A9, n9, c9, z9, e9, f16⟩ := f16.lit
   injection e9 with e9
   subst e9
   simp only [List.drop_succ_cons, List.drop_zero]
   obtain ⟨vs7, r7, z7, y7, l7⟩ := rr.out
   refine wl_append (A := [_, _]) hL r7 (wanted_none rfl) rfl ap_Cols (by omega) rfl rfl (news := [.string b9, .slice A9 n9 c9, .int .i64 z9]) rfl (Blk.sl q15 (n := 3) rfl) rfl (by omega) (by omega) ?_
   clear hL
   intro v1 W2 m2 R2 hL r8 e8
   obtain ⟨A8, c8, rfl, -⟩ := r8.lit
   simp only [List.cons_append, List.nil_append] at hL
   simp only [Act.put, zq1, zq2, zq3]
   go_wp2_with (first | go_skip | refine tP ?_ | (refine tS ?_; clear hL; intro _ hL) | (refine tB ?_; clear hL; intro _ _ hL _) | (refine tC ?_; clear hL; intro _ _ hL _ hBs))
   refine QN.mk ?_
   go_wp2_with (first | go_skip | refine tP ?_ | (refine tS ?_; clear hL; intro _ hL) | (refine tB ?_; clear hL; intro _ _ hL _) | (refine tC ?_; clear hL; intro _ _ hL _ hBs))
   go_roundw
   case rel =>
    refine ⟨j + 1, _, _, _, _, by omega, by go_num, hL, ?_, ?_⟩
    ·have hq := RowA.snoc (R := ColR) r8 z7 (y7.mono fun v x hv => hv.le (leX : Le mm m2)) l7 rfl (f16.le e8.le)
     rwa [colsG_snoc rs l j E5 E6] at hq
    ·exact HX.out.trans (exX : Ext mm m2)
   case measure => simp [intOf] <;> omega
  ·obtain rfl : j = J := by omega
   have rr2 : Hid (RowA 66 3 ColR mc2 (.slice A7 j c7) j (colsG rs l j) Rr) := RowA.le ColR.mono rr.out leX
   have hrs7 := IntL.le hrs6 (leX : Le mm mc2)
   have hrw7 := IntL.le hrw6 (leX : Le mm mc2)
   clear rr hrs6 hrw6 hA hrs5 hrw
   go_wp2_with (first | go_skip | refine tP ?_ | (refine tS ?_; clear hL; intro _ hL) | (refine tB ?_; clear hL; intro _ _ hL _) | (refine tC ?_; clear hL; intro _ _ hL _ hBs))
   clear hlt hj
   obtain ⟨m6, hL6, hle6, hcl, -⟩ := RowA.show (A := [_, _]) ColR.mono hL rr2.out
   replace hrs7 := IntL.le hrs7 hle6
   replace hrw7 := IntL.le hrw7 hle6
   clear hL rr2 hle6 e7
   go_loopw [6] (fun i wr => ∃ (k : Nat) (mm : World) (A8 : Option Addr) (c8 : Nat) (Rr : List Lo), k ≤ K ∧ i = .int .i64 k ∧ Loc w m wr mm ((Wc0.heap.size, 26, #[.int .i64 6, .slice A5 q c5, .int .i64 (a0 % 30), .slice A7 j c7, .slice A8 k c8]) :: (w.heap.size, 26, #[.int .i64 0, .slice none 0 0, .int .i64 0, .slice none 0 0, .slice none 0 0]) :: Rr) ∧ Hid (RowA 69 2 CutR mm (.slice A8 k c8) k (cutsG rs l k) Rr) ∧ Hid (ColL mm (.slice A7 j c7) (colsG rs l j)) ∧ Hid (IntL mm (.slice A5 q c5) rs) ∧ Hid (IntL mm (.slice A4 q c4) rs)) (fun i _ => K - (intOf i).toNat)
   case atStart => exact ⟨0, m6, none, 0, [], Nat.zero_le _, rfl, hL6, RowA.nil, hcl, hrw7, hrs7⟩
   case round =>
    clear hL6 hcl hrs7 hrw7
    obtain ⟨k, mm, A8, c8, Rr, hk, rfl, hL, RC, hcl, hrw, hrs⟩ := hrel
    have hM := hL.mext
    have hA := h.le hM.le
    clear hM
    go_wp2_with (first | go_skip | refine tP ?_ | (refine tS ?_; clear hL; intro _ hL) | (refine tB ?_; clear hL; intro _ _ hL _) | (refine tC ?_; clear hL; intro _ _ hL _ hBs))
    refine (d_AtE _ _ _ l _ 3 a3 _ _ hL.vw (hA.le leX) HN HL E3 rfl (by omega)).mono ?_
    rintro e Wc3 ⟨_, mc3, rfl, hE, hMc3, hV, rfl⟩
    replace hL := hL.call hE (by assumption) hV; clear hE hV
    by_cases hlt : k < K
    ·obtain ⟨a20, E20, p20, p20'⟩ := atX l (20 + k) (by omega)
     obtain ⟨a24, E24, p24, p24'⟩ := atX l (24 + k) (by omega)
     have e20 : a20 % (q : Int) = ((a20 % q).toNat : Int) := by have := Int.emod_nonneg a20 (b := q) (by omega); omega
     have hsk : (a20 % q).toNat < q := by have := Int.emod_lt_of_pos a20 (b := q) (by omega); omega
     generalize (a20 % q).toNat = sk at *
     have HS20 : Hid ((sk : Int) = a20 % q) := e20.symm
     have hlong : 2 < (cutT rs sk q).length := HC.out sk hsk
     go_wp2_with (first | go_skip | refine tP ?_ | (refine tS ?_; clear hL; intro _ hL) | (refine tB ?_; clear hL; intro _ _ hL _) | (refine tC ?_; clear hL; intro _ _ hL _ hBs))
     refine (d_AtE _ _ _ l _ (20 + k) a20 _ _ hL.vw (hA.le leX) HN HL E20 (by omega) (by omega)).mono ?_
     rintro e Wc4 ⟨_, mc4, rfl, hE, hMc4, hV, rfl⟩
     replace hL := hL.call hE (by assumption) hV; clear hE hV
     have hrs4 := IntL.le hrs.out (leX : Le mm mc4)
     have RC4 : Hid (RowA 69 2 CutR mc4 (.slice A8 k c8) k (cutsG rs l k) Rr) := RowA.le CutR.mono' RC.out leX
     have hcl4 : Hid (ColL mc4 (.slice A7 j c7) (colsG rs l j)) := ColL.le hcl.out leX
     have hrw4 : Hid (IntL mc4 (.slice A5 q c5) rs) := IntL.le hrw.out leX
     clear RC hcl hrw hrs
     go_wp2_with (first | go_skip | refine tP ?_ | (refine tS ?_; clear hL; intro _ hL) | (refine tB ?_; clear hL; intro _ _ hL _) | (refine tC ?_; clear hL; intro _ _ hL _ hBs))
     go_loopw [9] (fun i wr => ∃ (i9 : Nat) (m3 : World) (A9 : Option Addr) (n9 c9 : Nat) (Rx : List Lo), i9 ≤ q ∧ i = .int .i64 i9 ∧ Loc w m wr m3 ((Wc3.heap.size, 69, #[.slice A9 n9 c9, .int .i64 2]) :: (Wc0.heap.size, 26, #[.int .i64 6, .slice A5 q c5, .int .i64 (a0 % 30), .slice A7 j c7, .slice A8 k c8]) :: (w.heap.size, 26, #[.int .i64 0, .slice none 0 0, .int .i64 0, .slice none 0 0, .slice none 0 0]) :: (Rr ++ Rx)) ∧ Hid (RowA 3 1 IsI m3 (.slice A9 n9 c9) n9 (cutT rs sk i9) Rx) ∧ Ext mc4 m3) (fun i _ => q - (intOf i).toNat)
     case atStart => exact ⟨0, mc4, none, 0, 0, [], Nat.zero_le _, rfl, by rw [List.append_nil]; exact hL, RowA.nil, Ext.refl _⟩
     case round =>
      clear hL
      obtain ⟨i9, m3, A9, n9, c9, Rx, hi9, rfl, hL, rx, hX⟩ := hrel
      have hrs3 := IntL.le hrs4 hX.le
      have HX9 := Lib.hid hX
      have hn9 : n9 ≤ i9 := by have := rx.out.len; have := cutT_len rs sk i9; omega
      clear hX
      by_cases hlt3 : i9 < q
      ·obtain ⟨f, hf⟩ := at_some HQ hlt3
       obtain ⟨b1, o1, rfl, hc1⟩ := IntL.at_ hrs3 hf
       by_cases hs : i9 = sk
       ·have bs : ((i9 : Int) != (sk : Int)) = false := by simp [hs]
        by_cases hq3 : q = 3
        ·have bq : ((q : Int) == 3) = true := by simp [hq3]
         have HT : Hid (cutT rs sk (i9 + 1) = cutT rs sk i9 ++ [f]) := by show _ = _; exact cutT_in hf (.inr (by rw [HQ.out]; exact hq3))
         clear hs hq3 hf
         go_upto_region 17 with ((first | go_skip | refine tP ?_ | (refine tS ?_; clear hL; intro _ hL) | (refine tB ?_; clear hL; intro _ _ hL _) | (refine tC ?_; clear hL; intro _ _ hL _ hBs)))
         clear e3' e20
         (try simp only [eq_self] at *)
         refine wp_region_by2 7 [false, false, false, false, false, false, false] [false, false, false, false, false, false, false] [(fun v _ _ => v = ?c17_0a), (fun v _ _ => v = ?c17_1a), (fun v _ _ => v = ?c17_2a), (fun v _ _ => v = ?c17_3a), (fun v _ _ => v = ?c17_4a), (fun v _ _ => v = ?c17_5a), (NewS1 3 (fun _ v => v = .agg #[.int .i64 f]))] hL.vw mixed [84, 85, 86, 87, 88, 89, 90] _ (by kernel_rfl) (fun vs => by simp only [lay, Act.put, zq1, zq2, zq3]; rfl) (by kernel_rfl) (by decide) (by decide) ?s17a ?l17a ?r17a
         case s17a =>
          refine ⟨?_, ?_, ?_, ?_, ?_, ?_, ?_, trivial⟩
          ·intro vs W1 m1 hE hM hV hD; clear hD
           exact sFe
          ·intro vs W1 m1 hE hM hV hD; obtain ⟨⟨_, _, -, -, f84⟩, -⟩ := hD
           rw [(f84 : vs 84 = _)]; clear f84; exact sLe
          ·intro vs W1 m1 hE hM hV hD; clear hD
           exact sPw
          ·intro vs W1 m1 hE hM hV hD; clear hD
           exact sPw
          ·intro vs W1 m1 hE hM hV hD; obtain ⟨⟨_, _, -, -, f86⟩, ⟨_, _, -, -, f87⟩, -⟩ := hD
           rw [(f86 : vs 86 = _), (f87 : vs 87 = _)]; clear f86 f87; exact sIy
          ·intro vs W1 m1 hE hM hV hD; obtain ⟨⟨_, _, -, -, f88⟩, -⟩ := hD
           rw [(f88 : vs 88 = _)]; clear f88; exact sLe
          ·intro vs W1 m1 hE hM hV hD; obtain ⟨⟨_, _, -, -, f89⟩, -⟩ := hD
           rw [(f89 : vs 89 = _)]
           clear f89
           (go_wp2_with fail; exact one2_s1 hV fun _ _ => rfl)
         case l17a =>
          refine ⟨nF, nF, nF, nF, nF, nF, nF, trivial⟩
         intro vs W1 m1 hE hM hV hF hD
         clear hD
         obtain ⟨-, ⟨_, _, -, -, f85⟩, -, -, -, -, ⟨_, _, j90, i90, f90⟩, -⟩ := hF
         replace hL := hL.call hE hM hV
         have f85 : vs 85 = _ := f85
         generalize vs 85 = x85 at f85 ⊢
         subst x85
         clear hE hV
         obtain ⟨g15, cs15, e15, q15, f15⟩ := f90
         generalize vs 90 = x15 at e15 ⊢
         subst x15
         replace q15 := q15.ext j90
         have f16 : Value.agg cs15 = .agg #[.int .i64 f] := f15
         injection f16 with f16
         subst f16
         clear f15 i90 j90
         simp only [List.drop_succ_cons, List.drop_zero]
         obtain ⟨vs7, r7, z7, y7, l7⟩ := rx.out
         refine wl_append (A := _ :: _ :: _ :: Rr) hL r7 (wanted_none rfl) rfl ap_ints (by omega) rfl rfl (news := [.int .i64 f]) rfl (Blk.sl q15 (n := 1) rfl) rfl (by omega) (by omega) ?_
         clear hL
         intro v1 W2 m2 R2 hL r8 e8
         obtain ⟨A11, c11, rfl, -⟩ := r8.lit
         simp only [List.cons_append] at hL
         have rx2 := RowA.snocV (R := IsI) (m := m2) (x := f) r8 z7 (y7.mono fun _ _ h => h) l7 rfl rfl rfl
         rw [← HT.out] at rx2
         have RX2 := Lib.hid rx2
         clear rx2 r7 z7 y7 l7 r8
         simp only [Act.put, zq1, zq2, zq3]
         go_wp2_with (first | go_skip | refine tP ?_ | (refine tS ?_; clear hL; intro _ hL) | (refine tB ?_; clear hL; intro _ _ hL _) | (refine tC ?_; clear hL; intro _ _ hL _ hBs))
         refine QN.mk ?_
         go_wp2_with (first | go_skip | refine tP ?_ | (refine tS ?_; clear hL; intro _ hL) | (refine tB ?_; clear hL; intro _ _ hL _) | (refine tC ?_; clear hL; intro _ _ hL _ hBs))
         go_roundw
         case rel => exact ⟨i9 + 1, m2, A11, n9 + 1, c11, R2, by omega, by go_num, hL, RX2.out, HX9.out.trans (exX : Ext m3 m2)⟩
         case measure => simp [intOf] <;> omega
        ·have bq : ((q : Int) == 3) = false := by simp; omega
         have HT : Hid (cutT rs sk (i9 + 1) = cutT rs sk i9) := by show _ = _; exact cutT_out (by rw [HQ.out]; omega)
         clear hs hq3 hf
         go_wp2_with (first | go_skip | refine tP ?_ | (refine tS ?_; clear hL; intro _ hL) | (refine tB ?_; clear hL; intro _ _ hL _) | (refine tC ?_; clear hL; intro _ _ hL _ hBs))
         go_roundw
         case rel => exact ⟨i9 + 1, m3, A9, n9, c9, Rx, by omega, by go_num, hL, by rw [HT.out]; exact rx.out, HX9.out⟩
         case measure => simp [intOf] <;> omega
       ·have bs : ((i9 : Int) != (sk : Int)) = true := by simp; omega
        have HT : Hid (cutT rs sk (i9 + 1) = cutT rs sk i9 ++ [f]) := by show _ = _; exact cutT_in hf (.inl hs)
        clear hs hf
        go_upto_region 17 with ((first | go_skip | refine tP ?_ | (refine tS ?_; clear hL; intro _ hL) | (refine tB ?_; clear hL; intro _ _ hL _) | (refine tC ?_; clear hL; intro _ _ hL _ hBs)))
        clear e3' e20
        (try simp only [eq_self] at *)
        refine wp_region_by2 7 [false, false, false, false, false, false, false] [false, false, false, false, false, false, false] [(fun v _ _ => v = ?c17_0b), (fun v _ _ => v = ?c17_1b), (fun v _ _ => v = ?c17_2b), (fun v _ _ => v = ?c17_3b), (fun v _ _ => v = ?c17_4b), (fun v _ _ => v = ?c17_5b), (NewS1 3 (fun _ v => v = .agg #[.int .i64 f]))] hL.vw mixed [84, 85, 86, 87, 88, 89, 90] _ (by kernel_rfl) (fun vs => by simp only [lay, Act.put, zq1, zq2, zq3]; rfl) (by kernel_rfl) (by decide) (by decide) ?s17b ?l17b ?r17b
        case s17b =>
         refine ⟨?_, ?_, ?_, ?_, ?_, ?_, ?_, trivial⟩
         ·intro vs W1 m1 hE hM hV hD; clear hD
          exact sFe
         ·intro vs W1 m1 hE hM hV hD; obtain ⟨⟨_, _, -, -, f84⟩, -⟩ := hD
          rw [(f84 : vs 84 = _)]; clear f84; exact sLe
         ·intro vs W1 m1 hE hM hV hD; clear hD
          exact sPw
         ·intro vs W1 m1 hE hM hV hD; clear hD
          exact sPw
         ·intro vs W1 m1 hE hM hV hD; obtain ⟨⟨_, _, -, -, f86⟩, ⟨_, _, -, -, f87⟩, -⟩ := hD
          rw [(f86 : vs 86 = _), (f87 : vs 87 = _)]; clear f86 f87; exact sIy
         ·intro vs W1 m1 hE hM hV hD; obtain ⟨⟨_, _, -, -, f88⟩, -⟩ := hD
          rw [(f88 : vs 88 = _)]; clear f88; exact sLe
         ·intro vs W1 m1 hE hM hV hD; obtain ⟨⟨_, _, -, -, f89⟩, -⟩ := hD
          rw [(f89 : vs 89 = _)]
          clear f89
          (go_wp2_with fail; exact one2_s1 hV fun _ _ => rfl)
        case l17b =>
         refine ⟨nF, nF, nF, nF, nF, nF, nF, trivial⟩
        intro vs W1 m1 hE hM hV hF hD
        clear hD
        obtain ⟨-, ⟨_, _, -, -, f85⟩, -, -, -, -, ⟨_, _, j90, i90, f90⟩, -⟩ := hF
        replace hL := hL.call hE hM hV
        have f85 : vs 85 = _ := f85
        generalize vs 85 = x85 at f85 ⊢
        subst x85
        clear hE hV
        obtain ⟨g15, cs15, e15, q15, f15⟩ := f90
        generalize vs 90 = x15 at e15 ⊢
        subst x15
        replace q15 := q15.ext j90
        have f16 : Value.agg cs15 = .agg #[.int .i64 f] := f15
        injection f16 with f16
        subst f16
        clear f15 i90 j90
        simp only [List.drop_succ_cons, List.drop_zero]
        obtain ⟨vs7, r7, z7, y7, l7⟩ := rx.out
        refine wl_append (A := _ :: _ :: _ :: Rr) hL r7 (wanted_none rfl) rfl ap_ints (by omega) rfl rfl (news := [.int .i64 f]) rfl (Blk.sl q15 (n := 1) rfl) rfl (by omega) (by omega) ?_
        clear hL
        intro v1 W2 m2 R2 hL r8 e8
        obtain ⟨A11, c11, rfl, -⟩ := r8.lit
        simp only [List.cons_append] at hL
        have rx2 := RowA.snocV (R := IsI) (m := m2) (x := f) r8 z7 (y7.mono fun _ _ h => h) l7 rfl rfl rfl
        rw [← HT.out] at rx2
        have RX2 := Lib.hid rx2
        clear rx2 r7 z7 y7 l7 r8
        simp only [Act.put, zq1, zq2, zq3]
        go_wp2_with (first | go_skip | refine tP ?_ | (refine tS ?_; clear hL; intro _ hL) | (refine tB ?_; clear hL; intro _ _ hL _) | (refine tC ?_; clear hL; intro _ _ hL _ hBs))
        refine QN.mk ?_
        go_wp2_with (first | go_skip | refine tP ?_ | (refine tS ?_; clear hL; intro _ hL) | (refine tB ?_; clear hL; intro _ _ hL _) | (refine tC ?_; clear hL; intro _ _ hL _ hBs))
        go_roundw
        case rel => exact ⟨i9 + 1, m2, A11, n9 + 1, c11, R2, by omega, by go_num, hL, RX2.out, HX9.out.trans (exX : Ext m3 m2)⟩
        case measure => simp [intOf] <;> omega
      ·obtain rfl : q = i9 := by omega
       obtain ⟨m7, hL7, hle7, hil, -⟩ := RowA.show (A := _ :: _ :: _ :: Rr) IsI.mono hL rx.out
       have hle47 : Le mc4 m7 := Le.trans HX9.out.le hle7
       have hn2 : 2 < n9 := by rw [rx.out.len]; exact hlong
       clear hL hlt3
       have hL := hL7
       clear hL7
       have hA7 := h.le hL.mext.le
       clear hA
       by_cases ha : a24 % 2 = 1
       ·have bA := bt ha
        have HD : Hid ((3 : Int) = if a24 % 2 = 1 then 3 else 2) := by show _ = _; rw [if_pos ha]
        clear ha
        go_wp2_with (first | go_skip | refine tP ?_ | (refine tS ?_; clear hL; intro _ hL) | (refine tB ?_; clear hL; intro _ _ hL _) | (refine tC ?_; clear hL; intro _ _ hL _ hBs))
        refine (d_AtE _ _ _ l _ (24 + k) a24 _ _ hL.vw (hA7.le leX) HN HL E24 (by omega) (by omega)).mono ?_
        rintro e Wc5 ⟨_, mc5, rfl, hE, hMc5, hV, rfl⟩
        replace hL := hL.call hE (by assumption) hV; clear hE hV
        have RC5 : Hid (RowA 69 2 CutR mc5 (.slice A8 k c8) k (cutsG rs l k) Rr) := RowA.le CutR.mono' RC4.out (Le.trans hle47 leX)
        have hcl5 := ColL.le hcl4.out (Le.trans hle47 (leX : Le m7 mc5))
        have hrw5 := IntL.le hrw4.out (Le.trans hle47 (leX : Le m7 mc5))
        have hrs5 := IntL.le hrs4 (Le.trans hle47 (leX : Le m7 mc5))
        have hil5 := IntL.le hil (leX : Le m7 mc5)
        clear RC4 hcl4 hrw4 hrs4 hil hrs3 rx
        go_wp2_with (first | go_skip | refine tP ?_ | (refine tS ?_; clear hL; intro _ hL) | (refine tB ?_; clear hL; intro _ _ hL _) | (refine tC ?_; clear hL; intro _ _ hL _ hBs))
        refine goA ?_
        obtain ⟨vs8, r8, z8, y8, l8⟩ := RC5.out
        refine wl_append (A := [_, _, _]) hL r8 (wanted_none rfl) rfl ap_Cuts (by omega) rfl rfl (news := [.slice A9 n9 c9, .int .i64 3]) rfl ((Blk.sl hBs (n := 2) rfl).le hL.vw.le) rfl (by omega) (by omega) ?_
        clear hL
        intro v9 W9 m9 R9 hL r9 e9
        obtain ⟨A10, c10, rfl, -⟩ := r9.lit
        simp only [List.cons_append, List.nil_append] at hL
        have hle9 : Le mc5 m9 := leX
        have rc9 := RowA.snoc (R := CutR) (m := m9) (x := (cutT rs sk q, 3)) r9 z8 (y8.mono fun v x hv => CutR.le hv hle9) l8 rfl ⟨_, rfl, IntL.le hil5 hle9, Nat.le_trans (cutT_len rs sk q) (by omega)⟩
        rw [cutsG_snoc rs l k sk q HQ E20 E24 HS20.out _ HD.out] at rc9
        have RC9 := Lib.hid rc9
        have HC9 := Lib.hid (ColL.le hcl5 hle9)
        have HW9 := Lib.hid (IntL.le hrw5 hle9)
        have HR9 := Lib.hid (IntL.le hrs5 hle9)
        clear rc9 r8 z8 y8 l8 r9 hcl5 hrw5 hrs5 hil5 RC5
        simp only [Act.put, zq1, zq2, zq3]
        go_wp2_with (first | go_skip | refine tP ?_ | (refine tS ?_; clear hL; intro _ hL) | (refine tB ?_; clear hL; intro _ _ hL _) | (refine tC ?_; clear hL; intro _ _ hL _ hBs))
        go_roundw
        case rel => exact ⟨k + 1, m9, A10, c10, R9, by omega, by go_num, hL.tail, RC9.out, HC9.out, HW9.out, HR9.out⟩
        case measure => simp [intOf] <;> omega
       ·have bA := bf ha
        have HD : Hid ((2 : Int) = if a24 % 2 = 1 then 3 else 2) := by show _ = _; rw [if_neg ha]
        clear ha
        go_wp2_with (first | go_skip | refine tP ?_ | (refine tS ?_; clear hL; intro _ hL) | (refine tB ?_; clear hL; intro _ _ hL _) | (refine tC ?_; clear hL; intro _ _ hL _ hBs))
        refine (d_AtE _ _ _ l _ (24 + k) a24 _ _ hL.vw (hA7.le leX) HN HL E24 (by omega) (by omega)).mono ?_
        rintro e Wc5 ⟨_, mc5, rfl, hE, hMc5, hV, rfl⟩
        replace hL := hL.call hE (by assumption) hV; clear hE hV
        have RC5 : Hid (RowA 69 2 CutR mc5 (.slice A8 k c8) k (cutsG rs l k) Rr) := RowA.le CutR.mono' RC4.out (Le.trans hle47 leX)
        have hcl5 := ColL.le hcl4.out (Le.trans hle47 (leX : Le m7 mc5))
        have hrw5 := IntL.le hrw4.out (Le.trans hle47 (leX : Le m7 mc5))
        have hrs5 := IntL.le hrs4 (Le.trans hle47 (leX : Le m7 mc5))
        have hil5 := IntL.le hil (leX : Le m7 mc5)
        clear RC4 hcl4 hrw4 hrs4 hil hrs3 rx
        go_wp2_with (first | go_skip | refine tP ?_ | (refine tS ?_; clear hL; intro _ hL) | (refine tB ?_; clear hL; intro _ _ hL _) | (refine tC ?_; clear hL; intro _ _ hL _ hBs))
        refine goA ?_
        obtain ⟨vs8, r8, z8, y8, l8⟩ := RC5.out
        refine wl_append (A := [_, _, _]) hL r8 (wanted_none rfl) rfl ap_Cuts (by omega) rfl rfl (news := [.slice A9 n9 c9, .int .i64 2]) rfl ((Blk.sl hBs (n := 2) rfl).le hL.vw.le) rfl (by omega) (by omega) ?_
        clear hL
        intro v9 W9 m9 R9 hL r9 e9
        obtain ⟨A10, c10, rfl, -⟩ := r9.lit
        simp only [List.cons_append, List.nil_append] at hL
        have hle9 : Le mc5 m9 := leX
        have rc9 := RowA.snoc (R := CutR) (m := m9) (x := (cutT rs sk q, 2)) r9 z8 (y8.mono fun v x hv => CutR.le hv hle9) l8 rfl ⟨_, rfl, IntL.le hil5 hle9, Nat.le_trans (cutT_len rs sk q) (by omega)⟩
        rw [cutsG_snoc rs l k sk q HQ E20 E24 HS20.out _ HD.out] at rc9
        have RC9 := Lib.hid rc9
        have HC9 := Lib.hid (ColL.le hcl5 hle9)
        have HW9 := Lib.hid (IntL.le hrw5 hle9)
        have HR9 := Lib.hid (IntL.le hrs5 hle9)
        clear rc9 r8 z8 y8 l8 r9 hcl5 hrw5 hrs5 hil5 RC5
        simp only [Act.put, zq1, zq2, zq3]
        go_wp2_with (first | go_skip | refine tP ?_ | (refine tS ?_; clear hL; intro _ hL) | (refine tB ?_; clear hL; intro _ _ hL _) | (refine tC ?_; clear hL; intro _ _ hL _ hBs))
        go_roundw
        case rel => exact ⟨k + 1, m9, A10, c10, R9, by omega, by go_num, hL.tail, RC9.out, HC9.out, HW9.out, HR9.out⟩
        case measure => simp [intOf] <;> omega
    ·obtain rfl : k = K := by omega
     have RC3 : Hid (RowA 69 2 CutR mc3 (.slice A8 k c8) k (cutsG rs l k) Rr) := RowA.le CutR.mono' RC.out leX
     have hcl3 := Lib.hid (ColL.le hcl.out (leX : Le mm mc3))
     have hrw3 := Lib.hid (IntL.le hrw.out (leX : Le mm mc3))
     clear RC hcl hrw hrs
     go_wp2_with (first | go_skip | refine tP ?_ | (refine tS ?_; clear hL; intro _ hL) | (refine tB ?_; clear hL; intro _ _ hL _) | (refine tC ?_; clear hL; intro _ _ hL _ hBs))
     obtain ⟨m8, hL8, hle8, hcu, -⟩ := RowA.show (A := [_, _]) CutR.mono' hL RC3.out
     refine fin_aggR hL Tryz.results6 rfl rfl loX ag_Master (by exact rfl) hL8 ?_
     unfold masF
     rw [HR.out, E0.out, E2'.out, E3'.out]
     exact ⟨_, _, _, rfl, IntL.le hrw3.out hle8, ColL.le hcl3.out hle8, hcu⟩
end Go.Proofs.YtabmjadcoepbeaaGreat

/- What pairingdata.Prices builds. -/
namespace Go.Proofs.YtabmjadcoepbeaaGreat
open Go.RowKit

theorem Tn.neg {k : Nat} {q : Rat} (h : Tn k q) : Tn k (-q) := ⟨by simpa [Rat.neg_num] using h.1, by simpa [Rat.neg_den] using h.2⟩
theorem DecR.mono (m m' : World) (v : Value) (x : Dec) (h : DecR m v x) (_ : Le m m') : DecR m' v x := h
end Go.Proofs.YtabmjadcoepbeaaGreat

/- The prices of the laws. -/
namespace Go.Proofs.YtabmjadcoepbeaaGreat
open Go.RowKit

def PrO (B : Nat) (p : Pr) (v : Value) (u um : World) : Prop := PricesR um v p ∧ ∃ a b s d f cs, v = .agg #[a, b, s, d, f] ∧ u.ownsRow B 55 4 s p.cd.length cs
theorem PrO.base {B B' : Nat} {p : Pr} {v : Value} {u um : World} (h : PrO B' p v u um) (hB : B ≤ B') : PrO B p v u um := by
 obtain ⟨h0, a, b, s, d, f, cs, h1, h2, h3⟩ := h
 refine ⟨h0, a, b, s, d, f, cs, h1, h2, ?_⟩
 rcases h3 with h3 | ⟨g, cap, cur, h4, h5, h6⟩
 ·exact .inl h3
 ·exact .inr ⟨g, cap, cur, h4, Nat.le_trans hB h5, h6⟩
theorem PricesR.lit {m : World} {v : Value} {p : Pr} (h : PricesR m v p) : ∃ A0 c0 A1 c1 A2 c2 A3 c3, v = .agg #[.slice A0 p.fl.length c0, .slice A1 p.cu.length c1, .slice A2 p.cd.length c2, .slice A3 p.de.length c3, .bool p.fr] ∧ p.fl.length ≤ c0 ∧
  PricesR m (.agg #[.slice A0 p.fl.length c0, .slice A1 p.cu.length c1, .slice A2 p.cd.length c2, .slice A3 p.de.length c3, .bool p.fr]) p := by
 have h' := h
 obtain ⟨a, b, c, d, rfl, h1, h2, h3, h4⟩ := h
 obtain ⟨A0, c0, rfl, hc, _⟩ := h1.lit
 obtain ⟨A1, c1, rfl, _, _⟩ := h2.lit
 obtain ⟨A2, c2, rfl, _, _⟩ := h3.lit
 obtain ⟨A3, c3, rfl, _, _⟩ := h4.lit
 exact ⟨_, _, _, _, _, _, _, _, rfl, hc, h'⟩
theorem PrO.lit {B : Nat} {p : Pr} {v : Value} {u um W m : World} (h : PrO B p v u um) (hE : Ext u W) (hM : Ext um m) : ∃ A0 c0 A1 c1 A2 c2 A3 c3 cs, v = .agg #[.slice A0 p.fl.length c0, .slice A1 p.cu.length c1, .slice A2 p.cd.length c2, .slice A3 p.de.length c3, .bool p.fr] ∧
  PricesR m (.agg #[.slice A0 p.fl.length c0, .slice A1 p.cu.length c1, .slice A2 p.cd.length c2, .slice A3 p.de.length c3, .bool p.fr]) p ∧ W.ownsRow B 55 4 (.slice A2 p.cd.length c2) p.cd.length cs := by
 obtain ⟨h0, a, b, s, d, f, cs, h1, h2⟩ := h
 obtain ⟨A0, c0, A1, c1, A2, c2, A3, c3, e, _, h3⟩ := h0.lit
 subst h1
 injection e with e
 injection e with e
 injection e with e1 e
 injection e with e2 e
 injection e with e3 e
 subst e3
 exact ⟨A0, c0, A1, c1, A2, c2, A3, c3, cs, by rw [e1, e2, e], h3.le hM.le, ownsRow_ext h2 hE⟩
theorem MasterR.lit {m : World} {v : Value} {x : Ms} (h : MasterR m v x) : ∃ A n c A' n' c' A'' n'' c'', v = .agg #[.int .i64 x.nf, .slice A n c, .int .i64 x.pen, .slice A' n' c', .slice A'' n'' c''] ∧ MasterR m (.agg #[.int .i64 x.nf, .slice A n c, .int .i64 x.pen, .slice A' n' c', .slice A'' n'' c'']) x := by
 have h' := h
 obtain ⟨a, b, c, rfl, h1, h2, h3⟩ := h
 obtain ⟨A0, c0, rfl, _, _⟩ := h1.lit
 obtain ⟨A1, c1, rfl, _, _⟩ := h2.lit
 obtain ⟨A2, c2, rfl, _, _⟩ := h3.lit
 exact ⟨_, _, _, _, _, _, _, _, _, rfl, h'⟩
theorem Tn.add {k l : Nat} {p q : Rat} (h : Tn k p) (h' : Tn l q) : Tn (2 * (k * l)) (p + q) := by
 rw [rat_add]
 have a1 := h.1
 have a2 := h.2
 have b1 := h'.1
 have b2 := h'.2
 have c1 : p.num.natAbs * q.den ≤ k * l := Nat.mul_le_mul a1 b2
 have c2 : q.num.natAbs * p.den ≤ k * l := by rw [Nat.mul_comm k l]; exact Nat.mul_le_mul b1 a2
 have c3 : p.den * q.den ≤ k * l := Nat.mul_le_mul a2 b2
 refine Tn.divInt (Int.mul_pos (by have := p.den_pos; omega) (by have := q.den_pos; omega)) ?_ ?_
 ·refine Nat.le_trans (Int.natAbs_add_le _ _) ?_
  rw [Int.natAbs_mul, Int.natAbs_mul]
  simp only [Int.natAbs_natCast]
  omega
 ·have : ((p.den : Int) * (q.den : Int)) = ((p.den * q.den : Nat) : Int) := by simp
  rw [this]
  omega
theorem masF_cuts (l : List Int) : (masF l).cuts.length ≤ 2 ∧ ∀ c ∈ (masF l).cuts, c.1.length ≤ 5 := by
 have h0 := atF_bd l 1 (by omega)
 have h3 := atF_bd l 3 (by omega)
 have h1 : (atF l 1 % 6).toNat < 6 := by omega
 have hr : (rowsF l).length ≤ 5 := (rowsT_len ⟨_, h1⟩).2
 constructor
 ·show ((List.range _).map _).length ≤ 2
  simp only [List.length_map, List.length_range]
  omega
 ·intro c hc
  obtain ⟨k, _, rfl⟩ := List.mem_map.1 hc
  exact Nat.le_trans (cutT_len _ _ _) hr
end Go.Proofs.YtabmjadcoepbeaaGreat

/- How an argument of integers is opened. -/
namespace Go.Proofs.YtabmjadcoepbeaaGreat
open Go.ChangeShapes Go.WideShapes Go.ChangeAt Go.RowKit

theorem ownK : ownKnob Tryz.prog.godebug = none := by kernel_rfl
theorem laidO : laidOutB Tryz.prog = true := by kernel_rfl
theorem cells_int : Tryz.prog.cellsOf 3 = 1 := by kernel_rfl

theorem arg_ints {H : Type} {enc : TypeId × Value → H} {W : World} {base : Nat} {v : Value} {d : DataW H} {p : List MemPlace} (hv : Value.okWide Tryz.prog W .any base 22 v)
  (h : DataW.Trod enc Tryz.prog W 0 (fun _ => true) true 22 v d p) : ∃ A c, ∃ l : List Int, v = .slice A l.length c ∧ Sl W A (l.map I64) := by
 obtain ⟨a0, len, cap, rfl⟩ := okWide_slice Tryz.underlying22 hv
 obtain ⟨fuel, hf⟩ := h
 rcases open_ints Tryz.underlying22 Tryz.underlying3 cells_int hf with ⟨hcs, _⟩ | ⟨a, len', cap', zs, hcs, _, hle, _, hall, _, hcell, _⟩
 ·simp [Value.cells] at hcs
  obtain ⟨rfl, rfl, rfl⟩ := hcs
  exact ⟨none, 0, [], rfl, Sl.nil⟩
 ·simp [Value.cells] at hcs
  obtain ⟨rfl, rfl, rfl⟩ := hcs
  simp only [if_true] at hall
  have hl : (zs.take len).length = len := by rw [List.length_take]; omega
  refine ⟨some a, cap, zs.take len, by rw [hl], fun h0 => ?_⟩
  have h1 : 0 < zs.length := by simp at h0; omega
  obtain ⟨b, off, rfl, hc⟩ := ints_at hcell h1
  refine ⟨b, off, rfl, World.block_lt_of_cell? W _ (hc 0 h1), fun j u hu => ?_⟩
  rw [List.getElem?_map, List.getElem?_take] at hu
  by_cases hj : j < len
  ·rw [if_pos hj] at hu
   have hjz : j < zs.length := by omega
   rw [List.getElem?_eq_getElem hjz] at hu
   simp at hu
   rw [hc j hjz, ← hu, List.getD_eq_getElem?_getD, List.getElem?_eq_getElem hjz]; rfl
  ·rw [if_neg hj] at hu; simp at hu

end Go.Proofs.YtabmjadcoepbeaaGreat

/- Contracts of integer.mulMag, Mul for numbers of one digit; integer.Compare. -/
namespace Go.Proofs.YtabmjadcoepbeaaGreat
open Go.RowKit

theorem ap_digits : apS Tryz.prog 51 = some (121, 1, 4, 1) := by kernel_rfl
instance iA1_1 : ApC Tryz.prog 51 121 1 4 := ⟨ap_digits⟩
theorem lf_u32 : lfB Tryz.prog 121 = true := by kernel_rfl
instance iA1_2 : LfC Tryz.prog 121 := ⟨lf_u32⟩
theorem t_ix0 {P : Program} {ops : Array Oper} {Q : Exit → Act → World → Prop} {rest : List Oper} {o : Oper} {a : Act} {W : World} {t : TypeId} {s i : Operand} (ho : o.op = .indexAddr t s i) {e : TypeId} {size bytes : Nat} [hap : ApC P t e size bytes] {b off n c : Nat} {kd : IntKind} (hs : a.eval s = .slice (some ⟨b, off, none⟩) n c) (hi : a.eval i = .int kd 0)
  (h : wpList P ops Q rest (a.put o.dst (.pointer (some ⟨b, off, none⟩))) W) (hk : 0 < n := by omega)
  (hw : Region.wanted o (yielded ops a.tmps) = true := by first | exact wanted_none rfl | exact wanted_some rfl rfl rfl rfl) : wpList P ops Q (o :: rest) a W :=
 wl_indexAddr (k := 0) hw ho hap.h hs hi hk (by rw [Nat.zero_mul, Nat.add_zero]; exact h)
theorem sIz {G : Prop} (h : G := by refine t_ix0 rfl rfl rfl ?_; simp only [Act.put, zq1, zq2, zq3]; refine One2.still hV ?_; exact rfl) : G := h
end Go.Proofs.YtabmjadcoepbeaaGreat

/- Contracts of rational.smallWord, smallParts, small where a number has two digits or more. -/
namespace Go.Proofs.YtabmjadcoepbeaaGreat
open Go.RowKit

theorem q_smallWordF (g : Bool) (A : Option Addr) (n c : Nat) (w m : World) (hV : Vw m w) (hn : 2 ≤ n) :
  Calls Tryz.prog 216 #[.agg #[.bool g, .slice A n c]] w (RetV w m fun _ r => r = .tuple #[.int .i64 0, .bool false]) := by
 have b0 : ((n : Int) == 0) = false := by simp; omega
 have b1 : ((n : Int) == 1) = false := by simp; omega
 have hL := Loc.start hV
 clear hV hn
 go_enter Tryz.func216, Tryz.ntmps216
 go_wp2_with (first | go_skip | refine tP ?_ | (refine tB ?_; clear hL; intro _ _ hL _))
 go_ret2
 exact RetV.mk hL rfl
theorem q_smallPartsF (g : Bool) (A : Option Addr) (n c : Nat) (g' : Bool) (B : Option Addr) (k d : Nat) (w m : World) (hV : Vw m w) (hk : 2 ≤ k) :
  Calls Tryz.prog 153 #[.agg #[.bool g, .slice A n c, .bool g', .slice B k d]] w (RetV w m fun _ r => r = .tuple #[.agg #[.int .i64 0, .int .i64 0], .bool false]) := by
 have hL := Loc.start hV
 clear hV
 go_enter Tryz.func153, Tryz.ntmps153
 go_wp2_with (first | go_skip | refine tP ?_ | (refine tS ?_; clear hL; intro _ hL) | (refine tB ?_; clear hL; intro _ _ hL _))
 refine (q_smallWordF _ _ _ _ _ _ hL.vw hk).mono ?_
 rintro e W1 ⟨_, m1, rfl, hE, hM1, hV, rfl⟩
 replace hL := hL.call hE (by assumption) hV; clear hE hV
 go_wp2_with (first | go_skip | refine tP ?_ | (refine tS ?_; clear hL; intro _ hL) | (refine tB ?_; clear hL; intro _ _ hL _))
 obtain ⟨p1, p2, _⟩ := (hL.at_ lo0).facts2
 exact bodyPost_ret (v := .tuple #[.agg #[.int .i64 0, .int .i64 0], .bool false]) (by simp [results, Tryz.results153, go_sem, p1, p2]) rfl (RetV.mk hL rfl)
def SPart (m : World) (v : Value) (p q : Int) (ok : Bool) : Prop := (∃ a b c d, v = .agg #[a, b, c, d]) ∧ ∀ w m', Vw m' w → Le m m' → Calls Tryz.prog 153 #[v] w (RetV w m' fun _ r => r = .tuple #[.agg #[.int .i64 p, .int .i64 q], .bool ok])

end Go.Proofs.YtabmjadcoepbeaaGreat

/- Contract of rational.parts for fractions of any form. -/
namespace Go.Proofs.YtabmjadcoepbeaaGreat
open Go.RowKit

def FrV (m : World) (v : Value) (x y : Int) : Prop := ∃ g A n c g' B k d, v = .agg #[.bool g, .slice A n c, .bool g', .slice B k d] ∧ IntV m (.agg #[.bool g, .slice A n c]) x ∧ IntV m (.agg #[.bool g', .slice B k d]) y
theorem FrV.le {m m' : World} {v : Value} {x y : Int} (h : FrV m v x y) (hb : Le m m') : FrV m' v x y := by
 obtain ⟨g, A, n, c, g', B, k, d, e, h1, h2⟩ := h
 exact ⟨g, A, n, c, g', B, k, d, e, h1.le hb, h2.le hb⟩
end Go.Proofs.YtabmjadcoepbeaaGreat

/- Contracts of integer.addMag and subMag. -/
namespace Go.Proofs.YtabmjadcoepbeaaGreat
open Go.RowKit

theorem DigR.trimC {w : World} {g off : Nat} {ss : List Nat} (h : Sl w (some ⟨g, off, none⟩) (ss.map U)) (hds : Dg ss) (hg : g < w.heap.size) : DigR w g (.slice (some ⟨g, off, none⟩) (trimLen ss ss.length) (trimLen ss ss.length)) (digs (val ss)) := by
 have e := trimLen_eq hds
 rw [e]
 refine ⟨_, _, rfl, Nat.le_refl _, ?_, fun a ha => by cases ha; exact ⟨Nat.le_refl _, hg⟩⟩
 rw [← take_trim hds, List.map_take]; exact h.take _
end Go.Proofs.YtabmjadcoepbeaaGreat

/- Contracts of rational.Compare and Add where a number has two digits. -/
namespace Go.Proofs.YtabmjadcoepbeaaGreat
open Go.RowKit

def NoS (v : Value) : Prop := ∃ g A n c g' B k d, v = .agg #[.bool g, .slice A n c, .bool g', .slice B k d] ∧ 2 ≤ k
def FrG (m : World) (v : Value) (x y : Int) : Prop := FrV m v x y ∧ (FracS m v x y ∨ NoS v)
theorem FrG.le {m m' : World} {v : Value} {x y : Int} (h : FrG m v x y) (hb : Le m m') : FrG m' v x y :=
 ⟨h.1.le hb, h.2.imp (fun h => h.le hb) id⟩
theorem FracS.part {m : World} {v : Value} {x y : Int} (h : FracS m v x y) : SPart m v (pN x y) (pD y) true := by
 refine ⟨?_, fun w m' hV hl => q_smallParts v x y w m' hV (h.le hl)⟩
 obtain ⟨a, b, c, d, e, _⟩ := h
 exact ⟨a, b, c, d, e⟩
theorem NoS.part {v : Value} (h : NoS v) (m : World) : SPart m v 0 0 false := by
 obtain ⟨g, A, n, c, g', B, k, d, rfl, hk⟩ := h
 exact ⟨⟨_, _, _, _, rfl⟩, fun w m' hV _ => q_smallPartsF g A n c g' B k d w m' hV hk⟩
theorem FrV.agg {m : World} {v : Value} {x y : Int} (h : FrV m v x y) : ∃ a b c d, v = .agg #[a, b, c, d] := by
 obtain ⟨g, A, n, c, g', B, k, d, e, _⟩ := h
 exact ⟨_, _, _, _, e⟩
theorem add_same {a b d : Int} (hd : 0 < d) : Rat.divInt (a + b) d = Rat.divInt a d + Rat.divInt b d := by
 rw [Rat.divInt_add_divInt _ _ (by omega) (by omega), ← Int.add_mul, Rat.divInt_mul_right (by omega)]

end Go.Proofs.YtabmjadcoepbeaaGreat

/- Contracts of pairingref25.New, Mul and pairingdata.times that leave the digits of the numerator in a row of the caller's own. -/
namespace Go.Proofs.YtabmjadcoepbeaaGreat
open Go.RowKit

theorem IntO.nil (u : World) (B : Nat) : IntO u B (.agg #[.bool false, .slice none 0 0]) 0 := ⟨.slice none 0 0, by simp, by simp [digs_zero], .inl ⟨by simp [digs_zero], by simp [digs_zero]⟩⟩
theorem IntO.lit {u : World} {B : Nat} {v : Value} {z : Int} (h : IntO u B v z) : ∃ A c, v = .agg #[.bool (decide (z < 0)), .slice A (digs z.natAbs).length c] ∧ u.ownsRow B 121 1 (.slice A (digs z.natAbs).length c) (digs z.natAbs).length ((digs z.natAbs).map U) := by
 obtain ⟨s, rfl, ho⟩ := h
 obtain ⟨A, c, rfl, _, _⟩ := Sl.digs_of_own ho
 exact ⟨A, c, rfl, ho⟩
def NumO (B : Nat) (u : World) (v : Value) (z : Int) : Prop := ∃ a b h D k d, v = .agg #[a, b, .bool h, .slice D k d] ∧ IntO u B (.agg #[a, b]) z
theorem NumO.base {u : World} {B B' : Nat} {v : Value} {z : Int} (h : NumO B' u v z) (hB : B ≤ B') : NumO B u v z := by
 obtain ⟨a, b, g, D, k, d, e, h⟩ := h
 exact ⟨a, b, g, D, k, d, e, h.base hB⟩
end Go.Proofs.YtabmjadcoepbeaaGreat

/- Contract of pairingdata.times: its result's digits lie in a row of the caller's own. -/
namespace Go.Proofs.YtabmjadcoepbeaaGreat
open Go.RowKit

theorem rat_one (x : Int) : Rat.divInt x 1 = (x : Rat) := by rw [← Rat.num_divInt_den (x : Rat)]; simp
def IntW (B : Nat) (z : Int) : Fct := fun v u um => IntC um v z ∧ IntO u B v z
theorem IntW.base {u um : World} {B B' : Nat} {v : Value} {z : Int} (h : IntW B' z v u um) (hB : B ≤ B') : IntW B z v u um := ⟨h.1, h.2.base hB⟩

end Go.Proofs.YtabmjadcoepbeaaGreat

/- Regions that draw their order and store, late, into cells that they load before: the loads are taken first under a condition that holds till the first store. No program. -/
namespace Go.Proofs.YtabmjadcoepbeaaGreat
open Go.RowKit
section
variable {P : Program} {ops : Array Oper} {Q : Exit → Act → World → Prop} {S : World → Prop}

def wpL (P : Program) (ops : Array Oper) (Q : Exit → Act → World → Prop) (S : World → Prop) (s : Nat) : Nat → Array Bool → Act → World → Prop
 | 0, listed, a, w => Region.ready .any ops listed = [] ∧ Q .normal a w
 | fuel + 1, listed, a, w =>
  (Region.ready .any ops listed = [] → Q .normal a w) ∧
  ∀ i ∈ Region.ready .any ops listed, wpOp P ops Q i (fun a' w' => ((listed.setIfInBounds i true).getD s false = false → S w') ∧ wpL P ops Q S s fuel (listed.setIfInBounds i true) a' w') a w
theorem wpAny_of_L {s : Nat} : ∀ (fuel : Nat) (listed : Array Bool) (a : Act) (w : World), wpL P ops Q S s fuel listed a w → wpAny P .any ops Q fuel listed a w
 | 0, _, _, _, h => h
 | fuel + 1, _, _, _, h => ⟨h.1, fun i hi => wpOp_mono (fun a' w' h' => wpAny_of_L fuel _ a' w' h'.2) (h.2 i hi)⟩
theorem wpL_first {s i k : Nat} {oi os : Oper} {v : Value} (hi : ops[i]? = some oi) (hos : ops[s]? = some os) (hw : ∃ e ∈ os.after, Region.binds .any e = true ∧ e.on = k) (hk : k = i ∨ ∃ ok, ops[k]? = some ok ∧ ∃ e ∈ ok.after, Region.binds .any e = true ∧ e.on = i) (hsi : s ≠ i)
  (hsel : ∀ (j : Nat) (o : Oper) cs b, ops[j]? = some o → o.op ≠ .select cs b) (hQ : ∀ c a w, Q (.panic c) (a.put oi.dst v) w → Q (.panic c) a w) :
  ∀ (fuel : Nat) (listed : Array Bool) (a : Act) (w : World),
   (∀ j oj, ops[j]? = some oj → j ≠ i → listed.getD j true = false → (∀ e ∈ oj.after, Region.binds .any e = true → e.on ≠ i) → oi.apart ops oj = true) →
   i ∈ Region.ready .any ops listed → listed.getD s false = false → listed.getD k false = false → YieldsIf P ops S oi v a → S w →
   wpL P ops Q S s fuel (listed.setIfInBounds i true) (a.put oi.dst v) w → wpL P ops Q S s (fuel + 1) listed a w := by
 intro fuel
 induction fuel with
 | zero =>
  intro listed a w _ hr _ _ hy hS H
  refine ⟨fun h => (by rw [h] at hr; cases hr), fun j hj => ?_⟩
  by_cases hji : j = i
  ·subst hji; exact hy.wpOp hi hS ⟨fun _ => hS, H⟩
  ·have := ready_mono hj hji
   rw [H.1] at this
   cases this
 | succ fuel ih =>
  intro listed a w hfree hr hsl hkl hy hS H
  refine ⟨fun h => (by rw [h] at hr; cases hr), fun j hj => ?_⟩
  by_cases hji : j = i
  ·subst hji; exact hy.wpOp hi hS ⟨fun _ => hS, H⟩
  ·have h1 := H.2 j (ready_mono hj hji)
   obtain ⟨hjun, oj, hoj, hall⟩ := mem_ready.1 hj
   have hnot : ∀ e ∈ oj.after, Region.binds .any e = true → e.on ≠ i := fun e he hb heq => by
    have h1 := hall e he hb
    have h0 := (mem_ready.1 hr).1
    rw [heq] at h1
    rcases Nat.lt_or_ge i listed.size with h' | h'
    ·simp [h'] at h0 h1; rw [h0] at h1; cases h1
    ·simp [Array.getElem?_eq_none h'] at h1
   have hjs : j ≠ s := by
    rintro rfl
    rw [hos] at hoj
    obtain rfl := Option.some.inj hoj
    obtain ⟨e, he, hb, heq⟩ := hw
    have h9 := hall e he hb
    rw [heq, hkl] at h9
    cases h9
   have hjk : j ≠ k := by
    rintro rfl
    rcases hk with hk | ⟨ok, hok, e, he, hb, heq⟩
    ·exact hji hk
    ·rw [hok] at hoj
     obtain rfl := Option.some.inj hoj
     exact hnot e he hb heq
   have hkl' : (listed.setIfInBounds j true).getD k false = false := by rw [Go.getD_set_ne false hjk]; exact hkl
   have hsl' : (listed.setIfInBounds j true).getD s false = false := by rw [Go.getD_set_ne false hjs]; exact hsl
   have hsl2 : ((listed.setIfInBounds i true).setIfInBounds j true).getD s false = false := by rw [Go.getD_set_ne false hjs, Go.getD_set_ne false (Ne.symm hsi)]; exact hsl
   have h2 := wpOp_putIf hoj (hfree j oj hoj hji hjun hnot) (fun cs b => hsel i oi cs b hi) (fun cs b => hsel j oj cs b hoj) hQ hy h1
   have hfree' : ∀ k ok, ops[k]? = some ok → k ≠ i → (listed.setIfInBounds j true).getD k true = false →
     (∀ e ∈ ok.after, Region.binds .any e = true → e.on ≠ i) → oi.apart ops ok = true := fun k ok hk hki hun hno => by
    refine hfree k ok hk hki ?_ hno
    by_cases hjk : j = k
    ·subst hjk; exact hjun
    ·rw [Go.getD_set_ne true hjk] at hun; exact hun
   refine wpOp_mono (fun a' w' h3 => ⟨fun _ => h3.2.1 hsl2, ih (listed.setIfInBounds j true) a' w' hfree' (ready_mono hr (Ne.symm hji)) hsl' hkl' h3.1 (h3.2.1 hsl2) ?_⟩) h2
   rw [Array.setIfInBounds_comm _ _ hji]
   exact h3.2.2
def waits (ops : Array Oper) (s i : Nat) : Bool := match ops[s]? with
 | some o => o.after.any fun e => Region.binds .any e && e.on == i
 | none => false
theorem waits_spec {s i : Nat} (h : waits ops s i = true) : ∃ os, ops[s]? = some os ∧ ∃ e ∈ os.after, Region.binds .any e = true ∧ e.on = i := by
 unfold waits at h
 cases ho : ops[s]? with
 | none => rw [ho] at h; cases h
 | some os =>
  rw [ho] at h
  obtain ⟨k, hk, he⟩ := Array.any_eq_true.1 h
  simp only [Bool.and_eq_true, beq_iff_eq] at he
  exact ⟨os, rfl, _, Array.getElem_mem hk, he.1, he.2⟩
theorem wpL_take {s : Nat} (i k : Nat) {oi : Oper} {v : Value} {fuel : Nat} {listed : Array Bool} {a : Act} {w : World} (hi : ops[i]? = some oi)
  (hc : (Region.noSelect ops && Region.free .any ops listed i && (Region.ready .any ops listed).contains i && waits ops s k && (k == i || waits ops k i) && !listed.getD k false && !listed.getD s false && s != i) = true)
  (hQ : ∀ c a w, Q (.panic c) (a.put oi.dst v) w → Q (.panic c) a w) (hS : S w) (hw : Region.wanted oi (yielded ops a.tmps) = true) (hy : ∀ w, S w → (execOp a.eval oi).run P w = .ok (.value v) w)
  (h : wpL P ops Q S s fuel (listed.setIfInBounds i true) (a.put oi.dst v) w) : wpL P ops Q S s (fuel + 1) listed a w := by
 simp only [Bool.and_eq_true, Bool.or_eq_true, beq_iff_eq, Bool.not_eq_true', bne_iff_ne] at hc
 obtain ⟨⟨⟨⟨⟨⟨⟨h1, h2⟩, h3⟩, h4⟩, h7⟩, h8⟩, h5⟩, h6⟩ := hc
 obtain ⟨os, hos, hwt⟩ := waits_spec h4
 exact wpL_first hi hos hwt (h7.imp id waits_spec) h6 (Region.noSelect_spec h1) hQ fuel listed a w (Region.free_spec hi h2) (by simpa using h3) h5 h8 (.inl ⟨hw, hy⟩) hS h
def AllL (P : Program) (ops : Array Oper) (Q : Exit → Act → World → Prop) (S : World → Prop) (s fuel : Nat) (listed : Array Bool) (a : Act) (w : World) (rs : List Nat) : Prop :=
 ∀ i ∈ rs, wpOp P ops Q i (fun a' w' => ((listed.setIfInBounds i true).getD s false = false → S w') ∧ wpL P ops Q S s fuel (listed.setIfInBounds i true) a' w') a w
theorem AllL.nil {s fuel : Nat} {listed : Array Bool} {a : Act} {w : World} : AllL P ops Q S s fuel listed a w [] := fun _ h => by cases h
theorem AllL.cons {s fuel : Nat} {listed : Array Bool} {a : Act} {w : World} {i : Nat} {o : Oper} {rs : List Nat} (ho : ops[i]? = some o)
  (h : ∀ K' : Act → World → Prop, Shut (∀ a w, S w → (S w → wpL P ops Q S s fuel (listed.setIfInBounds i true) a w) → K' a w) → if Region.wanted o (yielded ops a.tmps) = true then Oper.wp P o a w K' Q else K' (a.put o.dst undef) w)
  (hs : AllL P ops Q S s fuel listed a w rs) : AllL P ops Q S s fuel listed a w (i :: rs) := fun j hj => by
 rcases List.mem_cons.1 hj with rfl | hj
 ·exact wpOp_step ho (fun K' hK => h K' (fun a w hS hW => hK a w ⟨fun _ => hS, hW hS⟩))
 ·exact hs j hj
theorem wpL_ready {s : Nat} (rs : List Nat) {fuel : Nat} {listed : Array Bool} {a : Act} {w : World} (hr : Region.ready .any ops listed = rs) (hne : rs ≠ [])
  (h : AllL P ops Q S s fuel listed a w rs) : wpL P ops Q S s (fuel + 1) listed a w := ⟨fun h0 => absurd (hr ▸ h0) hne, hr ▸ h⟩
theorem wpL_done {s : Nat} {listed : Array Bool} {a : Act} {w : World} (hr : Region.ready .any ops listed = []) (h : Q .normal a w) : ∀ fuel, wpL P ops Q S s fuel listed a w
 | 0 => ⟨hr, h⟩
 | _ + 1 => ⟨fun _ => h, by rw [hr]; simp⟩
theorem wp_region_L {id : Nat} {a : Act} {w : World} (s : Nat) (S : World → Prop) (hm : P.follows .mixedOrders = true) (h : wpL P ops (NoPanic Q) S s ops.size (Array.replicate ops.size false) a w.drew) : (Code.region id ops true).wp P Q a w :=
 wp_region_noPanic (wp_region_any hm (wpAny_of_L _ _ _ _ h))
end
end Go.Proofs.YtabmjadcoepbeaaGreat

/- Contract of pairingdata.Wild where a digit is appended. -/
namespace Go.Proofs.YtabmjadcoepbeaaGreat
open Go.RowKit

theorem Blk.grown {w w' : World} {g : Nat} {t : TypeId} {cs : Array Value} {row : Option Nat} (h : Blk w g t cs) (hg : w.grownBy w' row) (hne : some g ≠ row) : Blk w' g t cs := (hg.block g h.lt hne).trans h
end Go.Proofs.YtabmjadcoepbeaaGreat

/- Contracts of pairingdata.Wild whole, lagrange.copyPrices as a value, and lagrange.Step. -/
namespace Go.Proofs.YtabmjadcoepbeaaGreat
open Go.RowKit

theorem FrG.lit {m : World} {v : Value} {x y : Int} (h : FrG m v x y) : ∃ g A n c f B k d, v = .agg #[.bool g, .slice A n c, .bool f, .slice B k d] ∧ FrG m (.agg #[.bool g, .slice A n c, .bool f, .slice B k d]) x y := by
 have h' := h
 obtain ⟨⟨g, A, n, c, f, B, k, d, rfl, -, -⟩, -⟩ := h
 exact ⟨_, _, _, _, _, _, _, _, rfl, h'⟩

end Go.Proofs.YtabmjadcoepbeaaGreat

/- The walk through the law LagrangeSteps. -/
namespace Go.Proofs.YtabmjadcoepbeaaGreat
open Go.RowKit

structure WF (x y : Int) : Prop where
 bx : x.natAbs ≤ 20
 by_ : y.natAbs ≤ 20
 q : Tn 10 (Rat.divInt x y)
theorem FrG.toV {m : World} {v : Value} {x y : Int} (h : FrG m v x y) : FracV m v (Rat.divInt x y) := by
 obtain ⟨⟨g, A, n, c, f, B, k, d, rfl, h1, h2⟩, -⟩ := h
 exact ⟨x, y, _, _, _, _, rfl, h1, h2, rfl⟩
end Go.Proofs.YtabmjadcoepbeaaGreat

/- Contracts on lists of numbers: pairingref27.Has, count, within, ascending; slices.Index, Contains, BinarySearch; cmp.Less. -/
namespace Go.Proofs.YtabmjadcoepbeaaGreat
open Go.RowKit

theorem has_step {xs : List Int} {t x : Int} {k : Nat} (h : ∀ j, j < k → xs[j]? ≠ some t) (hx : xs[k]? = some x) (he : ¬ x = t) : ∀ j, j < k + 1 → xs[j]? ≠ some t := by
 intro j hj
 rcases Nat.lt_or_ge j k with h1 | h1
 ·exact h j h1
 ·obtain rfl : j = k := by omega
  rw [hx]
  exact fun e => he (Option.some.inj e)
theorem has_end {xs : List Int} {t : Int} {k n : Nat} (hn : xs.length = n) (hk : ¬ k < n) (h : ∀ j, j < k → xs[j]? ≠ some t) : decide (t ∈ xs) = false := by
 refine decide_eq_false fun hm => ?_
 obtain ⟨j, hj⟩ := List.mem_iff_getElem?.1 hm
 have := (List.getElem?_eq_some_iff.1 hj).1
 exact h j (by omega) hj

theorem r_Has (a : Value) (xs : List Int) (t : Int) (w m : World) (hV : Vw m w) (ha : IntL m a xs) (hl : xs.length ≤ 1000000) :
  Calls Tryz.prog 29 #[a, .int .i64 t] w (RetV w m fun _ r => r = .bool (decide (t ∈ xs))) := by
 obtain ⟨A, c, rfl, hc, ha⟩ := ha.lit
 have hL := Loc.start hV
 clear hV
 generalize hn : xs.length = n at *
 have HN := Lib.hid hn
 clear hn
 go_enter Tryz.func29, Tryz.ntmps29
 go_wp2_with (first | go_skip | refine tP ?_)
 go_loopw [5] (fun i wr => ∃ (k : Nat) (mm : World), k ≤ n ∧ i = .int .i64 k ∧ Loc w m wr mm [] ∧ Hid (∀ j, j < k → xs[j]? ≠ some t)) (fun i _ => n - (intOf i).toNat)
 case atStart => exact ⟨0, m, Nat.zero_le _, rfl, hL, fun j hj => by omega⟩
 case round =>
  clear hL
  obtain ⟨k, mm, hk, rfl, hL, HJ⟩ := hrel
  have hM := hL.mext
  by_cases hlt : k < n
  ·obtain ⟨x, hx⟩ := at_some HN hlt
   obtain ⟨b1, o1, rfl, hc1⟩ := IntL.at_ ha hx
   by_cases he : x = t
   ·have E : Hid (decide (t ∈ xs) = true) := decide_eq_true (he ▸ List.mem_of_getElem? hx)
    have bb : (x == t) = true := by simp [he]
    clear hx he
    go_wp2_with (first | go_skip | refine tP ?_)
    go_ret
    exact RetV.mk hL (congrArg Value.bool E.out.symm)
   ·have bb : (x == t) = false := by simp [he]
    have HS := Lib.hid (has_step HJ.out hx he)
    clear hx he
    go_wp2_with (first | go_skip | refine tP ?_)
    go_roundw
    case rel => exact ⟨k + 1, _, by omega, by go_num, hL, HS.out⟩
    case measure => simp [intOf] <;> omega
  ·have E := Lib.hid (has_end HN.out hlt HJ.out)
   go_wp2_with (first | go_skip | refine tP ?_)
   go_ret
   exact RetV.mk hL (congrArg Value.bool E.out.symm)

theorem count_step {xs : List Int} {t x : Int} {k : Nat} (hx : xs[k]? = some x) : (xs.take (k + 1)).count t = (xs.take k).count t + (if x = t then 1 else 0) := by
 rw [List.take_add_one, hx, List.count_append]
 by_cases h : x = t
 ·subst h; simp
 ·simp [h]
theorem r_count (a : Value) (xs : List Int) (t : Int) (w m : World) (hV : Vw m w) (ha : IntL m a xs) (hl : xs.length ≤ 1000000) :
  Calls Tryz.prog 38 #[a, .int .i64 t] w (RetV w m fun _ r => r = .int .i64 ((xs.count t : Nat) : Int)) := by
 obtain ⟨A, c, rfl, hc, ha⟩ := ha.lit
 have hL := Loc.start hV
 clear hV
 generalize hn : xs.length = n at *
 have HN := Lib.hid hn
 clear hn
 go_enter Tryz.func38, Tryz.ntmps38
 go_wp2_with (first | go_skip | refine tP ?_)
 go_loopw [5, 6] (fun cc i wr => ∃ (k q : Nat) (mm : World), k ≤ n ∧ q ≤ k ∧ i = .int .i64 k ∧ cc = .int .i64 q ∧ Loc w m wr mm [] ∧ Hid (q = (xs.take k).count t)) (fun _ i _ => n - (intOf i).toNat)
 case atStart => exact ⟨0, 0, m, Nat.zero_le _, Nat.zero_le _, rfl, rfl, hL, rfl⟩
 case round =>
  clear hL
  obtain ⟨k, q, mm, hk, hq, rfl, rfl, hL, HJ⟩ := hrel
  have hM := hL.mext
  by_cases hlt : k < n
  ·obtain ⟨x, hx⟩ := at_some HN hlt
   obtain ⟨b1, o1, rfl, hc1⟩ := IntL.at_ ha hx
   have HS := Lib.hid (count_step (t := t) hx)
   by_cases he : x = t
   ·have bb : (x == t) = true := by simp [he]
    have HE : Hid (q + 1 = (xs.take (k + 1)).count t) := by show _ = _; rw [HS.out, if_pos he, HJ.out]
    clear hx he
    go_wp2_with (first | go_skip | refine tP ?_)
    go_roundw
    case rel => exact ⟨k + 1, q + 1, _, by omega, by omega, by go_num, by go_num, hL, HE.out⟩
    case measure => simp [intOf] <;> omega
   ·have bb : (x == t) = false := by simp [he]
    have HE : Hid (q = (xs.take (k + 1)).count t) := by show _ = _; rw [HS.out, if_neg he, HJ.out]; rfl
    clear hx he
    go_wp2_with (first | go_skip | refine tP ?_)
    go_roundw
    case rel => exact ⟨k + 1, q, _, by omega, by omega, by go_num, rfl, hL, HE.out⟩
    case measure => simp [intOf] <;> omega
  ·have E : Hid (q = xs.count t) := by
    show _ = _
    have := HJ.out
    rwa [List.take_of_length_le (by rw [HN.out]; omega)] at this
   go_wp2_with (first | go_skip | refine tP ?_)
   go_ret
   exact RetV.mk hL (congrArg (fun z : Nat => Value.int .i64 (z : Int)) E.out)

theorem within_step {xs ys : List Int} {x : Int} {k : Nat} (h : ∀ j y, j < k → xs[j]? = some y → y ∈ ys) (hx : xs[k]? = some x) (he : x ∈ ys) : ∀ j y, j < k + 1 → xs[j]? = some y → y ∈ ys := by
 intro j y hj hy
 rcases Nat.lt_or_ge j k with h1 | h1
 ·exact h j y h1 hy
 ·obtain rfl : j = k := by omega
  rw [hx] at hy
  exact Option.some.inj hy ▸ he
theorem within_end {xs ys : List Int} {k n : Nat} (hn : xs.length = n) (hk : ¬ k < n) (h : ∀ j y, j < k → xs[j]? = some y → y ∈ ys) : decide (∀ x ∈ xs, x ∈ ys) = true := by
 refine decide_eq_true fun x hm => ?_
 obtain ⟨j, hj⟩ := List.mem_iff_getElem?.1 hm
 have := (List.getElem?_eq_some_iff.1 hj).1
 exact h j x (by omega) hj

theorem r_within (a b : Value) (xs ys : List Int) (w m : World) (hV : Vw m w) (ha : IntL m a xs) (hb : IntL m b ys) (hl : xs.length ≤ 1000000) (hl' : ys.length ≤ 1000000) :
  Calls Tryz.prog 37 #[a, b] w (RetV w m fun _ r => r = .bool (decide (∀ x ∈ xs, x ∈ ys))) := by
 obtain ⟨A, c, rfl, hc, ha⟩ := ha.lit
 obtain ⟨B, d, rfl, hd, hb⟩ := hb.lit
 have HB := Lib.hid hb
 have HL' := Lib.hid hl'
 have hL := Loc.start hV
 clear hV hb
 generalize hn2 : ys.length = n2 at *
 have HN2 := Lib.hid hn2
 clear hn2
 generalize hn : xs.length = n at *
 have HN := Lib.hid hn
 clear hn
 go_enter Tryz.func37, Tryz.ntmps37
 go_wp2_with (first | go_skip | refine tP ?_)
 go_loopw [5] (fun i wr => ∃ (k : Nat) (mm : World), k ≤ n ∧ i = .int .i64 k ∧ Loc w m wr mm [] ∧ Hid (∀ j y, j < k → xs[j]? = some y → y ∈ ys)) (fun i _ => n - (intOf i).toNat)
 case atStart => exact ⟨0, m, Nat.zero_le _, rfl, hL, fun j _ hj => by omega⟩
 case round =>
  clear hL
  obtain ⟨k, mm, hk, rfl, hL, HJ⟩ := hrel
  have hM := hL.mext
  by_cases hlt : k < n
  ·obtain ⟨x, hx⟩ := at_some HN hlt
   obtain ⟨b1, o1, rfl, hc1⟩ := IntL.at_ ha hx
   have HX := Lib.hid hx
   clear hx
   go_wp2_with (first | go_skip | refine tP ?_)
   refine (r_Has _ ys x _ _ hL.vw (IntL.le HB.out leX) (by rw [HN2.out]; exact HL'.out)).mono ?_
   rintro e Wh1 ⟨_, mh1, rfl, hE, hMh1, hV, rfl⟩
   replace hL := hL.call hE (by assumption) hV; clear hE hV
   by_cases he : x ∈ ys
   ·have HS := Lib.hid (within_step HJ.out HX.out he)
    rw [decide_eq_true he]
    clear he
    go_wp2_with (first | go_skip | refine tP ?_)
    go_roundw
    case rel => exact ⟨k + 1, _, by omega, by go_num, hL, HS.out⟩
    case measure => simp [intOf] <;> omega
   ·have E : Hid (decide (∀ x ∈ xs, x ∈ ys) = false) := decide_eq_false fun h => he (h x (List.mem_of_getElem? HX.out))
    rw [decide_eq_false he]
    clear he
    go_wp2_with (first | go_skip | refine tP ?_)
    go_ret
    exact RetV.mk hL (congrArg Value.bool E.out.symm)
  ·have E := Lib.hid (within_end HN.out hlt HJ.out)
   go_wp2_with (first | go_skip | refine tP ?_)
   go_ret
   exact RetV.mk hL (congrArg Value.bool E.out.symm)

def AscP (xs : List Int) : Prop := ∀ (j : Nat) (x y : Int), xs[j]? = some x → xs[j + 1]? = some y → x < y
theorem AscP.lt {xs : List Int} (h : AscP xs) : ∀ (d j : Nat) (x y : Int), xs[j]? = some x → xs[j + d + 1]? = some y → x < y := by
 intro d
 induction d with
 | zero => intro j x y hx hy; exact h j x y hx hy
 | succ d ih =>
  intro j x y hx hy
  have hl := (List.getElem?_eq_some_iff.1 hy).1
  obtain ⟨z, hz⟩ : ∃ z, xs[j + d + 1]? = some z := ⟨_, List.getElem?_eq_getElem (by omega)⟩
  have h1 := ih j x z hx hz
  have h2 := h (j + d + 1) z y hz (by rw [show j + d + 1 + 1 = j + (d + 1) + 1 by omega]; exact hy)
  omega

theorem r_ascT (a : Value) (xs : List Int) (w m : World) (hV : Vw m w) (ha : IntL m a xs) (hl : xs.length ≤ 1000000) (hasc : AscP xs) :
  Calls Tryz.prog 36 #[a] w (RetV w m fun _ r => r = .bool true) := by
 obtain ⟨A, c, rfl, hc, ha⟩ := ha.lit
 have HA := Lib.hid hasc
 have hL := Loc.start hV
 clear hV hasc
 generalize hn : xs.length = n at *
 have HN := Lib.hid hn
 clear hn
 go_enter Tryz.func36, Tryz.ntmps36
 go_wp2_with (first | go_skip | refine tP ?_)
 go_loopw [3] (fun i wr => ∃ (k : Nat) (mm : World), k ≤ n ∧ i = .int .i64 ((k : Int) + 1) ∧ Loc w m wr mm []) (fun i _ => n + 1 - (intOf i).toNat)
 case atStart => exact ⟨0, m, Nat.zero_le _, rfl, hL⟩
 case round =>
  clear hL
  obtain ⟨k, mm, hk, rfl, hL⟩ := hrel
  have hM := hL.mext
  by_cases hlt : k + 1 < n
  ·obtain ⟨x, hx⟩ := at_some HN (show k < n by omega)
   obtain ⟨y, hy⟩ := at_some HN hlt
   obtain ⟨b1, o1, rfl, hc1⟩ := IntL.at_ ha hx
   obtain ⟨b2, o2, e2, hc2⟩ := IntL.at_ ha hy
   obtain ⟨rfl, rfl⟩ : b1 = b2 ∧ o1 = o2 := by simpa using e2
   have hxy : x < y := HA.out k x y hx hy
   have hkn : k < n := by omega
   have e3 : ((k : Int) + 1) = ((k + 1 : Nat) : Int) := by omega
   rw [e3]
   clear hx hy e2 e3 hk
   obtain ⟨k1, hk1⟩ : ∃ k1, k1 = k + 1 := ⟨_, rfl⟩
   rw [← hk1] at hc2 hlt ⊢
   have e1 : (k1 : Int) - 1 = (k : Int) := by omega
   have e4 : wrap64 ((k1 : Int) - 1) = (k : Int) := by unfold wrap64; omega
   have HK := Lib.hid hk1
   have HXY := Lib.hid hxy
   clear hk1 hxy
   go_upto_region 4 with ((first | go_skip | refine tP ?_))
   (try simp only [eq_self] at *)
   refine wp_region_by2 10 [false, false, false, false, false, false, false, false, false, false] [false, false, false, false, false, false, false, false, false, false] [(fun v _ _ => v = ?c4_0), (fun v _ _ => v = ?c4_1), (fun v _ _ => v = ?c4_2), (fun v _ _ => v = ?c4_3), (fun v _ _ => v = ?c4_4), (fun v _ _ => v = ?c4_5), (fun v _ _ => v = ?c4_6), (fun v _ _ => v = ?c4_7), (fun v _ _ => v = ?c4_8), (fun v _ _ => v = ?c4_9)] hL.vw mixed [10, 11, 12, 13, 14, 15, 16, 17, 18, 19] _ (by kernel_rfl) (fun vs => by simp only [lay, Act.put, zq1, zq2, zq3]; rfl) (by kernel_rfl) (by decide) (by decide) ?s4 ?l4 ?r4
   case s4 =>
    refine ⟨?_, ?_, ?_, ?_, ?_, ?_, ?_, ?_, ?_, ?_, trivial⟩
    ·intro vs W1 m1 hE hM hV hD; clear hD
     exact sPw
    ·intro vs W1 m1 hE hM hV hD; clear hD
     exact sPw
    ·intro vs W1 m1 hE hM hV hD; obtain ⟨⟨_, _, -, -, f10⟩, ⟨_, _, -, -, f11⟩, -⟩ := hD
     rw [(f10 : vs 10 = _), (f11 : vs 11 = _)]; clear f10 f11; exact sIy
    ·intro vs W1 m1 hE hM hV hD; obtain ⟨⟨_, _, -, -, f12⟩, -⟩ := hD
     rw [(f12 : vs 12 = _)]; clear f12; exact sLe
    ·intro vs W1 m1 hE hM hV hD; clear hD
     exact sPw
    ·intro vs W1 m1 hE hM hV hD; clear hD
     exact sPw
    ·intro vs W1 m1 hE hM hV hD; obtain ⟨⟨_, _, -, -, f15⟩, -⟩ := hD
     rw [(f15 : vs 15 = _)]; clear f15; exact sPw
    ·intro vs W1 m1 hE hM hV hD; obtain ⟨⟨_, _, -, -, f14⟩, ⟨_, _, -, -, f16⟩, -⟩ := hD
     rw [(f14 : vs 14 = _), (f16 : vs 16 = _)]; clear f14 f16; exact sIy
    ·intro vs W1 m1 hE hM hV hD; obtain ⟨⟨_, _, -, -, f17⟩, -⟩ := hD
     rw [(f17 : vs 17 = _)]; clear f17; exact sLe
    ·intro vs W1 m1 hE hM hV hD; obtain ⟨⟨_, _, -, -, f13⟩, ⟨_, _, -, -, f18⟩, -⟩ := hD
     rw [(f13 : vs 13 = _), (f18 : vs 18 = _)]; clear f13 f18; exact sPw
   case l4 =>
    refine ⟨nF, nF, nF, nF, nF, nF, nF, nF, nF, nF, trivial⟩
   intro vs W1 m1 hE hM hV hF hD
   clear hD
   obtain ⟨⟨_, _, -, -, f10⟩, ⟨_, _, -, -, f11⟩, ⟨_, _, -, -, f12⟩, ⟨_, _, -, -, f13⟩, ⟨_, _, -, -, f14⟩, ⟨_, _, -, -, f15⟩, ⟨_, _, -, -, f16⟩, ⟨_, _, -, -, f17⟩, ⟨_, _, -, -, f18⟩, ⟨_, _, -, -, f19⟩, -⟩ := hF
   replace hL := hL.call hE hM hV
   have f10 : vs 10 = _ := f10
   generalize vs 10 = x10 at f10 ⊢
   subst x10
   have f11 : vs 11 = _ := f11
   generalize vs 11 = x11 at f11 ⊢
   subst x11
   have f12 : vs 12 = _ := f12
   generalize vs 12 = x12 at f12 ⊢
   subst x12
   have f13 : vs 13 = _ := f13
   generalize vs 13 = x13 at f13 ⊢
   subst x13
   have f14 : vs 14 = _ := f14
   generalize vs 14 = x14 at f14 ⊢
   subst x14
   have f15 : vs 15 = _ := f15
   generalize vs 15 = x15 at f15 ⊢
   subst x15
   have f16 : vs 16 = _ := f16
   generalize vs 16 = x16 at f16 ⊢
   subst x16
   have f17 : vs 17 = _ := f17
   generalize vs 17 = x17 at f17 ⊢
   subst x17
   have f18 : vs 18 = _ := f18
   generalize vs 18 = x18 at f18 ⊢
   subst x18
   have f19 : vs 19 = _ := f19
   generalize vs 19 = x19 at f19 ⊢
   subst x19
   clear hE hV
   simp only [List.drop_succ_cons, List.drop_zero]
   go_wp2_with (first | go_skip | refine tP ?_)
   refine QN.mk ?_
   have hxy : ¬ y ≤ x := by have := HXY.out; omega
   go_wp2_with (first | go_skip | refine tP ?_)
   go_roundw
   case rel => exact ⟨k1, _, by omega, by go_num, hL⟩
   case measure => have := HK.out; simp [intOf] <;> omega
  ·have h0 : ¬ (k : Int) + 1 < (n : Int) := by omega
   go_wp2_with (first | go_skip | refine tP ?_)
   go_ret
   exact RetV.mk hL rfl
end Go.Proofs.YtabmjadcoepbeaaGreat

/- Contracts of slices.Index, Contains, BinarySearch and cmp.Less for int. -/
namespace Go.Proofs.YtabmjadcoepbeaaGreat
open Go.RowKit

theorem s_isNaNc (x : Int) (w m : World) (hV : Vw m w) : Calls Tryz.prog 100 #[.int .i64 x] w (RetV w m fun _ r => r = .bool false) := by
 have hL := Loc.start hV
 clear hV
 have bb : (x != x) = false := by simp
 go_enter Tryz.func100, Tryz.ntmps100
 go_wp2_with (first | go_skip | refine tP ?_)
 go_ret
 exact RetV.mk hL rfl
theorem s_isNaN (x : Int) (w m : World) (hV : Vw m w) : Calls Tryz.prog 70 #[.int .i64 x] w (RetV w m fun _ r => r = .bool false) := by
 have hL := Loc.start hV
 clear hV
 have bb : (x != x) = false := by simp
 go_enter Tryz.func70, Tryz.ntmps70
 go_wp2_with (first | go_skip | refine tP ?_)
 go_ret
 exact RetV.mk hL rfl
theorem s_Less (x y : Int) (w m : World) (hV : Vw m w) : Calls Tryz.prog 69 #[.int .i64 x, .int .i64 y] w (RetV w m fun _ r => r = .bool (decide (x < y))) := by
 have hL := Loc.start hV
 clear hV
 go_enter Tryz.func69, Tryz.ntmps69
 go_wp2_with (first | go_skip | refine tP ?_)
 refine (s_isNaNc x _ _ hL.vw).mono ?_
 rintro e Wc1 ⟨_, mc1, rfl, hE, hMc1, hV, rfl⟩
 replace hL := hL.call hE (by assumption) hV; clear hE hV
 go_wp2_with (first | go_skip | refine tP ?_)
 go_ret
 exact RetV.mk hL rfl

def Bs (xs : List Int) (t : Int) (i j : Nat) : Prop := (∀ p x, p < i → xs[p]? = some x → x < t) ∧ (∀ p x, j ≤ p → xs[p]? = some x → t ≤ x)
theorem Bs.start (xs : List Int) (t : Int) : Bs xs t 0 xs.length := ⟨fun p _ hp => by omega, fun p x hp hx => by have := (List.getElem?_eq_some_iff.1 hx).1; omega⟩
theorem Bs.up {xs : List Int} {t x : Int} {i j h : Nat} (ha : AscP xs) (hb : Bs xs t i j) (hx : xs[h]? = some x) (hl : x < t) : Bs xs t (h + 1) j := by
 refine ⟨fun p y hp hy => ?_, hb.2⟩
 rcases Nat.lt_or_ge p h with h1 | h1
 ·have := ha.lt (h - p - 1) p y x hy (by rw [show p + (h - p - 1) + 1 = h by omega]; exact hx)
  omega
 ·obtain rfl : p = h := by omega
  rw [hx] at hy
  have := Option.some.inj hy
  omega
theorem Bs.down {xs : List Int} {t x : Int} {i j h : Nat} (ha : AscP xs) (hb : Bs xs t i j) (hx : xs[h]? = some x) (hl : ¬ x < t) : Bs xs t i h := by
 refine ⟨hb.1, fun p y hp hy => ?_⟩
 rcases Nat.lt_or_ge h p with h1 | h1
 ·have := ha.lt (p - h - 1) h x y hx (by rw [show h + (p - h - 1) + 1 = p by omega]; exact hy)
  omega
 ·obtain rfl : p = h := by omega
  rw [hx] at hy
  have := Option.some.inj hy
  omega
theorem Bs.found {xs : List Int} {t x : Int} {i : Nat} (ha : AscP xs) (hb : Bs xs t i i) (hx : xs[i]? = some x) : decide (t ∈ xs) = decide (x = t) := by
 by_cases he : x = t
 ·rw [decide_eq_true he, decide_eq_true (he ▸ List.mem_of_getElem? hx)]
 ·rw [decide_eq_false he]
  refine decide_eq_false fun hm => ?_
  obtain ⟨p, hp⟩ := List.mem_iff_getElem?.1 hm
  rcases Nat.lt_trichotomy p i with h | h | h
  ·have := hb.1 p t h hp; omega
  ·subst h; rw [hx] at hp; exact he (Option.some.inj hp)
  ·have h1 := hb.2 i x (Nat.le_refl _) hx
   have h2 := ha.lt (p - i - 1) i x t hx (by rw [show i + (p - i - 1) + 1 = p by omega]; exact hp)
   omega
theorem Bs.none {xs : List Int} {t : Int} {i n : Nat} (hb : Bs xs t i i) (hn : xs.length = n) (hi : ¬ i < n) : decide (t ∈ xs) = false := by
 refine decide_eq_false fun hm => ?_
 obtain ⟨p, hp⟩ := List.mem_iff_getElem?.1 hm
 have := (List.getElem?_eq_some_iff.1 hp).1
 have := hb.1 p t (by omega) hp
 omega
theorem s_BinarySearch (a : Value) (xs : List Int) (t : Int) (w m : World) (hV : Vw m w) (ha : IntL m a xs) (hl : xs.length ≤ 1000000) (hasc : AscP xs) :
  Calls Tryz.prog 41 #[a, .int .i64 t] w (RetV w m fun _ r => ∃ i : Nat, r = .tuple #[.int .i64 i, .bool (decide (t ∈ xs))] ∧ (t ∈ xs → xs[i]? = some t)) := by
 obtain ⟨A, c, rfl, hc, ha⟩ := ha.lit
 have HA := Lib.hid hasc
 have HS := Lib.hid (Bs.start xs t)
 have hL := Loc.start hV
 clear hV hasc
 generalize hn : xs.length = n at *
 have HN := Lib.hid hn
 clear hn
 go_enter Tryz.func41, Tryz.ntmps41
 go_wp2_with (first | go_skip | refine tP ?_)
 go_loopw [7, 8] (fun si sj wr => ∃ (i j : Nat) (mm : World), i ≤ j ∧ j ≤ n ∧ si = .int .i64 i ∧ sj = .int .i64 j ∧ Loc w m wr mm [] ∧ Hid (Bs xs t i j)) (fun si sj _ => (intOf sj).toNat - (intOf si).toNat)
 case atStart => exact ⟨0, n, m, Nat.zero_le _, Nat.le_refl _, rfl, rfl, hL, HS⟩
 case round =>
  clear hL HS
  obtain ⟨i, j, mm, hij, hj, rfl, rfl, hL, HB⟩ := hrel
  have hM := hL.mext
  by_cases hlt : i < j
  ·have h1 : i ≤ (i + j) / 2 := by omega
   have h2 : (i + j) / 2 < j := by omega
   obtain ⟨x, hx⟩ := at_some HN (show (i + j) / 2 < n by omega)
   obtain ⟨b1, o1, rfl, hc1⟩ := IntL.at_ ha hx
   have HX := Lib.hid hx
   clear hx
   go_wp2_with (first | go_skip | refine tP ?_)
   refine (s_Less x t _ _ hL.vw).mono ?_
   rintro e Wc1 ⟨_, mc1, rfl, hE, hMc1, hV, rfl⟩
   replace hL := hL.call hE (by assumption) hV; clear hE hV
   by_cases hc : x < t
   ·have HU := Lib.hid (HB.out.up HA.out HX.out hc)
    rw [decide_eq_true hc]
    clear hc
    go_wp2_with (first | go_skip | refine tP ?_)
    go_roundw
    case rel => exact ⟨(i + j) / 2 + 1, j, _, by omega, hj, by go_num, rfl, hL, HU⟩
    case measure => simp [intOf] <;> omega
   ·have HU := Lib.hid (HB.out.down HA.out HX.out hc)
    rw [decide_eq_false hc]
    clear hc
    go_wp2_with (first | go_skip | refine tP ?_)
    go_roundw
    case rel => exact ⟨i, (i + j) / 2, _, by omega, by omega, rfl, by go_num, hL, HU⟩
    case measure => simp [intOf] <;> omega
  ·obtain rfl : i = j := by omega
   by_cases hin : i < n
   ·obtain ⟨x, hx⟩ := at_some HN hin
    obtain ⟨b1, o1, rfl, hc1⟩ := IntL.at_ ha hx
    have HF := Lib.hid (HB.out.found HA.out hx)
    by_cases he : x = t
    ·have bb : (x == t) = true := by simp [he]
     have E : Hid (decide (t ∈ xs) = true ∧ (t ∈ xs → xs[i]? = some t)) := ⟨by rw [HF.out, decide_eq_true he], fun _ => by rw [hx, he]⟩
     clear hx he HF
     go_wp2_with (first | go_skip | refine tP ?_)
     go_ret2
     exact RetV.mk hL ⟨i, by rw [E.out.1]; rfl, E.out.2⟩
    ·have bb : (x == t) = false := by simp [he]
     have E : Hid (decide (t ∈ xs) = false) := by show _ = _; rw [HF.out, decide_eq_false he]
     clear hx he HF
     go_wp2_with (first | go_skip | refine tP ?_)
     refine (s_isNaN x _ _ hL.vw).mono ?_
     rintro e Wc2 ⟨_, mc2, rfl, hE, hMc2, hV, rfl⟩
     replace hL := hL.call hE (by assumption) hV; clear hE hV
     go_wp2_with (first | go_skip | refine tP ?_)
     go_ret2
     exact RetV.mk hL ⟨i, by rw [E.out]; rfl, fun h => by rw [decide_eq_true h] at E; cases E.out⟩
   ·have E := Lib.hid (HB.out.none HN.out hin)
    go_wp2_with (first | go_skip | refine tP ?_)
    go_ret2
    exact RetV.mk hL ⟨i, by rw [E.out]; rfl, fun h => by have := E.out; rw [decide_eq_true h] at this; cases this⟩
end Go.Proofs.YtabmjadcoepbeaaGreat

/- Contracts of enumerate.Operated and pairingref27.Operated. -/
namespace Go.Proofs.YtabmjadcoepbeaaGreat
open Go.RowKit

theorem zc_Task : zc Tryz.prog 105 = some #[.int .i64 0, .bool false] := by kernel_rfl
instance iAB3_1 : ZcC Tryz.prog 105 #[.int .i64 0, .bool false] := ⟨zc_Task⟩
theorem fd_Task0 : fdS Tryz.prog 105 0 = some 0 := by kernel_rfl
instance iAB3_2 : FdC Tryz.prog 105 0 0 := ⟨fd_Task0⟩
theorem fd_Task1 : fdS Tryz.prog 105 1 = some 1 := by kernel_rfl
instance iAB3_3 : FdC Tryz.prog 105 1 1 := ⟨fd_Task1⟩
theorem fd_Pair1 : fdS Tryz.prog 64 1 = some 1 := by kernel_rfl
instance iAB3_4 : FdC Tryz.prog 64 1 1 := ⟨fd_Pair1⟩
theorem lf_Duties : lfB Tryz.prog 62 = true := by kernel_rfl
instance iAB3_5 : LfC Tryz.prog 62 := ⟨lf_Duties⟩
theorem lf_Duty : lfB Tryz.prog 107 = true := by kernel_rfl
instance iAB3_6 : LfC Tryz.prog 107 := ⟨lf_Duty⟩
theorem ag_Pair : agS Tryz.prog 64 = some 2 := by kernel_rfl
instance iAB3_7 : AgC Tryz.prog 64 2 := ⟨ag_Pair⟩
theorem fd_Col0 : fdS Tryz.prog 66 0 = some 0 := by kernel_rfl
instance iAB3_8 : FdC Tryz.prog 66 0 0 := ⟨fd_Col0⟩
theorem fd_Col1 : fdS Tryz.prog 66 1 = some 2 := by kernel_rfl
instance iAB3_9 : FdC Tryz.prog 66 1 2 := ⟨fd_Col1⟩

def opT (ts : List Task) : List Int := ts.filterMap fun t => if t.2 then none else some t.1
def opF (ds : List (List Task)) : List Int := ds.flatMap opT
theorem opT_len (ts : List Task) : (opT ts).length ≤ ts.length := List.length_filterMap_le _ _
theorem opT_in {ts : List Task} {j : Nat} {x : Int} (h : ts[j]? = some (x, false)) : opT (ts.take (j + 1)) = opT (ts.take j) ++ [x] := by
 rw [← take_snoc h]; simp [opT, List.filterMap_append]
theorem opT_out {ts : List Task} {j : Nat} {x : Int} (h : ts[j]? = some (x, true)) : opT (ts.take (j + 1)) = opT (ts.take j) := by
 rw [← take_snoc h]; simp [opT, List.filterMap_append]
theorem opF_next {ds : List (List Task)} {k : Nat} {d : List Task} (h : ds[k]? = some d) : opF (ds.take (k + 1)) = opF (ds.take k) ++ opT d := by
 rw [← take_snoc h]; simp [opF, List.flatMap_append]
theorem opF_len {ds : List (List Task)} (h : ∀ d ∈ ds, d.length ≤ 100) : (opF ds).length ≤ 100 * ds.length := by
 induction ds with
 | nil => simp [opF]
 | cons d ds ih =>
  have h1 := ih fun x hx => h x (List.mem_cons_of_mem _ hx)
  have h2 := opT_len d
  have h3 := h d (by simp)
  simp only [opF, List.flatMap_cons, List.length_append, List.length_cons] at *
  omega
theorem opF_take {ds : List (List Task)} (h : ∀ d ∈ ds, d.length ≤ 100) (k : Nat) (hk : k ≤ 100) : (opF (ds.take k)).length ≤ 10000 := by
 have h1 := opF_len (ds := ds.take k) fun d hd => h d (List.mem_of_mem_take hd)
 have h2 : (ds.take k).length ≤ k := by simp; omega
 omega
theorem DutsL.at_ {m : World} {A : Option Addr} {n c : Nat} {ds : List (List Task)} (h : DutsL m (.slice A n c) ds) {k : Nat} {d : List Task} (hk : ds[k]? = some d) :
  ∃ b off A' c', A = some ⟨b, off, none⟩ ∧ DutL m (.slice A' d.length c') d ∧ m.cell? ⟨b, off + k, none⟩ = some (.slice A' d.length c') := by
 obtain ⟨b, off, v, e, hv, _, hr⟩ := ListV.at_ h (by omega) hk
 obtain ⟨A', c', rfl, _, hv⟩ := hv.lit
 exact ⟨b, off, A', c', e, hv, by simpa using hr 0 _ rfl⟩
theorem DutL.at_ {m : World} {A : Option Addr} {n c : Nat} {ts : List Task} (h : DutL m (.slice A n c) ts) {k : Nat} {x : Int} {g : Bool} (hk : ts[k]? = some (x, g)) :
  ∃ b off, A = some ⟨b, off, none⟩ ∧ m.rangeAt b (off + k * 2) [.int .i64 x, .bool g] := by
 obtain ⟨b, off, v, e, rfl, _, hr⟩ := ListV.at_ h (by omega) hk
 exact ⟨b, off, e, hr⟩
theorem isI_mono (m m' : World) (v : Value) (x : Int) (h : IsI m v x) (_ : Le m m') : IsI m' v x := h

def RowPost {α : Type} (e : TypeId) (size : Nat) (R : World → Value → α → Prop) (w m : World) (xs : List α) (en : Ending) (w' : World) : Prop :=
 ∃ (m' : World) (n : Nat) (A : Option Addr) (c : Nat) (Rr : List Lo), en = .returned (.slice A n c) ∧ Loc w m w' m' Rr ∧ RowA e size R m' (.slice A n c) n xs Rr
theorem RowPost.show {α : Type} {e : TypeId} {size : Nat} {R : World → Value → α → Prop} (hR : ∀ m m' v x, R m v x → Le m m' → R m' v x) {w m w' : World} {xs : List α} {en : Ending} (h : RowPost e size R w m xs en w') : RetV w m (fun m' r => ListV size R m' r xs) en w' := by
 obtain ⟨m', n, A, c, Rr, rfl, hL, row⟩ := h
 obtain ⟨m9, hL9, hle9, hl9, -⟩ := RowA.show (A := []) hR hL row
 exact RetV.mk hL9 hl9
theorem e_OperatedR (s : ByteArray) (v : Value) (ds : List (List Task)) (w m : World) (hV : Vw m w) (h : DutsL m v ds) (h1 : ds.length ≤ 100) (h2 : ∀ d ∈ ds, d.length ≤ 100) :
  Calls Tryz.prog 40 #[.agg #[.string s, v]] w (RowPost 3 1 IsI w m (opF ds)) := by
 obtain ⟨D, cd, rfl, hcd, h⟩ := h.lit
 have H2 := Lib.hid h2
 have hL := Loc.start hV
 clear hV h2
 generalize hq : ds.length = nd at *
 have HQ := Lib.hid hq
 clear hq
 go_enter Tryz.func40, Tryz.ntmps40
 go_upto_region 0 with (fail)
 refine wp_region_lit ?_
 refine t_box hL rfl rfl ?_; clear hL; intro Wh1 mh1 hL eh1; simp only [Act.put, zq1, zq2, zq3]
 go_wp2_with (first | go_skip | refine tP ?_ | (refine tS ?_; clear hL; intro _ hL) | (refine tB ?_; clear hL; intro _ _ hL _) | (refine tC ?_; clear hL; intro _ _ hL _ hBs))
 go_loopw [3, 11] (fun out i wr => ∃ (k : Nat) (mm : World) (n3 : Nat) (R3 : List Lo), k ≤ nd ∧ i = .int .i64 k ∧ Loc w m wr mm ((w.heap.size, 64, #[.string s, .slice D nd cd]) :: R3) ∧ Hid (RowA 3 1 IsI mm out n3 (opF (ds.take k)) R3)) (fun _ i _ => nd - (intOf i).toNat)
 case atStart => exact ⟨0, _, 0, [], Nat.zero_le _, rfl, hL, RowA.nil⟩
 case round =>
  clear hL
  obtain ⟨k, mm, n3, R3, hk, rfl, hL, row⟩ := hrel
  have hM := hL.mext
  obtain ⟨A3, c3, rfl, row1⟩ := row.out.lit
  have ROW := Lib.hid row1
  clear row row1
  by_cases hlt : k < nd
  ·obtain ⟨d, hd⟩ := at_some HQ hlt
   obtain ⟨b1, o1, A4, c4, rfl, hdu, hc1⟩ := DutsL.at_ h hd
   have HD := Lib.hid (opF_next hd)
   have hdl : d.length ≤ 100 := H2.out d (List.mem_of_getElem? hd)
   have HT := Lib.hid (opF_take H2.out k (by omega))
   clear hd
   generalize hq2 : d.length = nt at *
   have HQ2 := Lib.hid hq2
   clear hq2
   go_wp2_with (first | go_skip | refine tP ?_ | (refine tS ?_; clear hL; intro _ hL) | (refine tB ?_; clear hL; intro _ _ hL _) | (refine tC ?_; clear hL; intro _ _ hL _ hBs))
   go_loopw [3, 17] (fun out i wr => ∃ (j : Nat) (m2 : World) (n4 : Nat) (R4 : List Lo), j ≤ nt ∧ i = .int .i64 j ∧ Loc w m wr m2 ((w.heap.size, 64, #[.string s, .slice (some ⟨b1, o1, none⟩) nd cd]) :: R4) ∧ Hid (RowA 3 1 IsI m2 out n4 (opF (ds.take k) ++ opT (d.take j)) R4)) (fun _ i _ => nt - (intOf i).toNat)
   case atStart => exact ⟨0, mm, n3, R3, Nat.zero_le _, rfl, hL, by show RowA _ _ _ _ _ _ _ _; simpa [opT] using ROW.out⟩
   case round =>
    clear hL ROW hM
    obtain ⟨j, m2, n4, R4, hj, rfl, hL, row⟩ := hrel
    have hM := hL.mext
    obtain ⟨A5, c5, rfl, row1⟩ := row.out.lit
    have hn4 : n4 ≤ 10100 := by
     have e := row1.len
     rw [List.length_append] at e
     have := HT.out
     have := opT_len (d.take j)
     have : (d.take j).length ≤ j := by simp; omega
     omega
    have ROW := Lib.hid row1
    clear row row1
    by_cases hlt2 : j < nt
    ·obtain ⟨⟨x, g⟩, hx⟩ := at_some HQ2 hlt2
     obtain ⟨b2, o2, rfl, hr2⟩ := DutL.at_ hdu hx
     cases g
     ·have HS := Lib.hid (opT_in hx)
      clear hx
      go_wp2_with (first | go_skip | refine tP ?_ | (refine tS ?_; clear hL; intro _ hL) | (refine tB ?_; clear hL; intro _ _ hL _) | (refine tC ?_; clear hL; intro _ _ hL _ hBs))
      refine goA ?_
      obtain ⟨vs7, r7, z7, y7, l7⟩ := ROW.out
      refine wl_append (A := [_, _]) hL r7 (wanted_none rfl) rfl ap_ints (by omega) rfl rfl (news := [.int .i64 x]) rfl ((Blk.sl hBs (n := 1) rfl).le hL.vw.le) rfl (by omega) (by omega) ?_
      clear hL
      intro v1 W5 m5 R5 hL r8 e8
      obtain ⟨A9, c9, rfl, -⟩ := r8.lit
      simp only [List.cons_append, List.nil_append] at hL
      have rd2 := RowA.snocV (R := IsI) (m := m5) (x := x) r8 z7 (y7.mono fun _ _ hv => hv) l7 rfl rfl rfl
      simp only [Act.put, zq1, zq2, zq3]
      go_wp2_with (first | go_skip | refine tP ?_ | (refine tS ?_; clear hL; intro _ hL) | (refine tB ?_; clear hL; intro _ _ hL _) | (refine tC ?_; clear hL; intro _ _ hL _ hBs))
      go_roundw
      case rel => exact ⟨j + 1, m5, n4 + 1, R5, by omega, by go_num, hL.tail, by rw [HS.out, ← List.append_assoc]; exact rd2⟩
      case measure => simp [intOf] <;> omega
     ·have HS := Lib.hid (opT_out hx)
      clear hx
      go_wp2_with (first | go_skip | refine tP ?_ | (refine tS ?_; clear hL; intro _ hL) | (refine tB ?_; clear hL; intro _ _ hL _) | (refine tC ?_; clear hL; intro _ _ hL _ hBs))
      go_roundw
      case rel => exact ⟨j + 1, _, n4, R4, by omega, by go_num, hL.tail, by rw [HS.out]; exact RowA.le isI_mono ROW.out leX⟩
      case measure => simp [intOf] <;> omega
    ·have E : Hid (opF (ds.take k) ++ opT (d.take j) = opF (ds.take (k + 1))) := by
      show _ = _
      rw [HD.out, List.take_of_length_le (l := d) (by rw [HQ2.out]; omega)]
     go_wp2_with (first | go_skip | refine tP ?_ | (refine tS ?_; clear hL; intro _ hL) | (refine tB ?_; clear hL; intro _ _ hL _) | (refine tC ?_; clear hL; intro _ _ hL _ hBs))
     go_roundw
     case rel => exact ⟨k + 1, m2, n4, R4, by omega, by go_num, hL, by rw [← E.out]; exact ROW.out⟩
     case measure => simp [intOf] <;> omega
  ·have E : Hid (opF (ds.take k) = opF ds) := by show _ = _; rw [List.take_of_length_le (by rw [HQ.out]; omega)]
   go_wp2_with (first | go_skip | refine tP ?_ | (refine tS ?_; clear hL; intro _ hL) | (refine tB ?_; clear hL; intro _ _ hL _) | (refine tC ?_; clear hL; intro _ _ hL _ hBs))
   have row2 := ROW.out
   rw [E.out] at row2
   go_ret
   exact ⟨_, _, _, _, _, rfl, hL.tail, row2⟩

theorem e_Operated (s : ByteArray) (v : Value) (ds : List (List Task)) (w m : World) (hV : Vw m w) (h : DutsL m v ds) (h1 : ds.length ≤ 100) (h2 : ∀ d ∈ ds, d.length ≤ 100) :
  Calls Tryz.prog 40 #[.agg #[.string s, v]] w (RetV w m fun m' r => IntL m' r (opF ds)) :=
 (e_OperatedR s v ds w m hV h h1 h2).mono fun _ _ h => h.show isI_mono

theorem r_Operated (s : ByteArray) (v : Value) (ds : List (List Task)) (w m : World) (hV : Vw m w) (h : DutsL m v ds) (h1 : ds.length ≤ 100) (h2 : ∀ d ∈ ds, d.length ≤ 100) :
  Calls Tryz.prog 28 #[.agg #[.string s, v]] w (RetV w m fun m' r => IntL m' r (opF ds)) := by
 obtain ⟨D, cd, rfl, hcd, h⟩ := h.lit
 have H2 := Lib.hid h2
 have hL := Loc.start hV
 clear hV h2
 generalize hq : ds.length = nd at *
 have HQ := Lib.hid hq
 clear hq
 go_enter Tryz.func28, Tryz.ntmps28
 go_upto_region 0 with (fail)
 refine wp_region_lit ?_
 refine t_box hL rfl rfl ?_; clear hL; intro Wh1 mh1 hL eh1; simp only [Act.put, zq1, zq2, zq3]
 go_wp2_with (first | go_skip | refine tP ?_ | (refine tB ?_; clear hL; intro _ _ hL _) | (refine tC ?_; clear hL; intro _ _ hL _ hBs))
 go_loopw [3, 4] (fun out i wr => ∃ (k : Nat) (mm : World) (n3 : Nat) (R3 : List Lo), k ≤ nd ∧ i = .int .i64 k ∧ Loc w m wr mm ((w.heap.size, 64, #[.string s, .slice D nd cd]) :: R3) ∧ Hid (RowA 3 1 IsI mm out n3 (opF (ds.take k)) R3)) (fun _ i _ => nd - (intOf i).toNat)
 case atStart => exact ⟨0, _, 0, [], Nat.zero_le _, rfl, hL, RowA.nil⟩
 case round =>
  clear hL
  obtain ⟨k, mm, n3, R3, hk, rfl, hL, row⟩ := hrel
  have hM := hL.mext
  obtain ⟨A3, c3, rfl, row1⟩ := row.out.lit
  have ROW := Lib.hid row1
  clear row row1
  by_cases hlt : k < nd
  ·obtain ⟨d, hd⟩ := at_some HQ hlt
   obtain ⟨b1, o1, A4, c4, rfl, hdu, hc1⟩ := DutsL.at_ h hd
   have HD := Lib.hid (opF_next hd)
   have hdl : d.length ≤ 100 := H2.out d (List.mem_of_getElem? hd)
   have HT := Lib.hid (opF_take H2.out k (by omega))
   clear hd
   generalize hq2 : d.length = nt at *
   have HQ2 := Lib.hid hq2
   clear hq2
   go_wp2_with (first | go_skip | refine tP ?_ | (refine tB ?_; clear hL; intro _ _ hL _) | (refine tC ?_; clear hL; intro _ _ hL _ hBs))
   go_loopw [3, 5] (fun out i wr => ∃ (j : Nat) (m2 : World) (n4 : Nat) (R4 : List Lo), j ≤ nt ∧ i = .int .i64 j ∧ Loc w m wr m2 ((w.heap.size, 64, #[.string s, .slice (some ⟨b1, o1, none⟩) nd cd]) :: R4) ∧ Hid (RowA 3 1 IsI m2 out n4 (opF (ds.take k) ++ opT (d.take j)) R4)) (fun _ i _ => nt - (intOf i).toNat)
   case atStart => exact ⟨0, mm, n3, R3, Nat.zero_le _, rfl, hL, by show RowA _ _ _ _ _ _ _ _; simpa [opT] using ROW.out⟩
   case round =>
    clear hL ROW hM
    obtain ⟨j, m2, n4, R4, hj, rfl, hL, row⟩ := hrel
    have hM := hL.mext
    obtain ⟨A5, c5, rfl, row1⟩ := row.out.lit
    have hn4 : n4 ≤ 10100 := by
     have e := row1.len
     rw [List.length_append] at e
     have := HT.out
     have := opT_len (d.take j)
     have : (d.take j).length ≤ j := by simp; omega
     omega
    have ROW := Lib.hid row1
    clear row row1
    by_cases hlt2 : j < nt
    ·obtain ⟨⟨x, g⟩, hx⟩ := at_some HQ2 hlt2
     obtain ⟨b2, o2, rfl, hr2⟩ := DutL.at_ hdu hx
     have hx0 := hr2 0 _ rfl
     have hx1 := hr2 1 _ rfl
     rw [Nat.add_zero] at hx0
     cases g
     ·have HS := Lib.hid (opT_in hx)
      clear hx hr2
      go_wp2_with (first | go_skip | refine tP ?_ | (refine tB ?_; clear hL; intro _ _ hL _) | (refine tC ?_; clear hL; intro _ _ hL _ hBs))
      refine goA ?_
      obtain ⟨vs7, r7, z7, y7, l7⟩ := ROW.out
      refine wl_append (A := [_]) hL r7 (wanted_none rfl) rfl ap_ints (by omega) rfl rfl (news := [.int .i64 x]) rfl ((Blk.sl hBs (n := 1) rfl).le hL.vw.le) rfl (by omega) (by omega) ?_
      clear hL
      intro v1 W5 m5 R5 hL r8 e8
      obtain ⟨A9, c9, rfl, -⟩ := r8.lit
      simp only [List.cons_append, List.nil_append] at hL
      have rd2 := RowA.snocV (R := IsI) (m := m5) (x := x) r8 z7 (y7.mono fun _ _ hv => hv) l7 rfl rfl rfl
      simp only [Act.put, zq1, zq2, zq3]
      go_wp2_with (first | go_skip | refine tP ?_ | (refine tB ?_; clear hL; intro _ _ hL _) | (refine tC ?_; clear hL; intro _ _ hL _ hBs))
      go_roundw
      case rel => exact ⟨j + 1, m5, n4 + 1, R5, by omega, by go_num, hL, by rw [HS.out, ← List.append_assoc]; exact rd2⟩
      case measure => simp [intOf] <;> omega
     ·have HS := Lib.hid (opT_out hx)
      clear hx hr2
      go_wp2_with (first | go_skip | refine tP ?_ | (refine tB ?_; clear hL; intro _ _ hL _) | (refine tC ?_; clear hL; intro _ _ hL _ hBs))
      go_roundw
      case rel => exact ⟨j + 1, _, n4, R4, by omega, by go_num, hL, by rw [HS.out]; exact ROW.out⟩
      case measure => simp [intOf] <;> omega
    ·have E : Hid (opF (ds.take k) ++ opT (d.take j) = opF (ds.take (k + 1))) := by
      show _ = _
      rw [HD.out, List.take_of_length_le (l := d) (by rw [HQ2.out]; omega)]
     go_wp2_with (first | go_skip | refine tP ?_ | (refine tB ?_; clear hL; intro _ _ hL _) | (refine tC ?_; clear hL; intro _ _ hL _ hBs))
     go_roundw
     case rel => exact ⟨k + 1, m2, n4, R4, by omega, by go_num, hL, by rw [← E.out]; exact ROW.out⟩
     case measure => simp [intOf] <;> omega
  ·have E : Hid (opF (ds.take k) = opF ds) := by show _ = _; rw [List.take_of_length_le (by rw [HQ.out]; omega)]
   go_wp2_with (first | go_skip | refine tP ?_ | (refine tB ?_; clear hL; intro _ _ hL _) | (refine tC ?_; clear hL; intro _ _ hL _ hBs))
   have row2 := ROW.out
   rw [E.out] at row2
   obtain ⟨m9, hL9, hle9, hl9, -⟩ := RowA.show (A := [_]) isI_mono hL row2
   go_ret
   exact RetV.mk hL9 hl9
end Go.Proofs.YtabmjadcoepbeaaGreat

/- Sets of numbers as maps to bool, beside the view; contracts of master.validCut and pairingref27.ValidCut for valid cuts. -/
namespace Go.Proofs.YtabmjadcoepbeaaGreat
open Go.RowKit Go.Maps

theorem Loc.allocM {w0 m0 W m : World} {Ls : List Lo} (h : Loc w0 m0 W m Ls) (o : Obj) : Loc w0 m0 (W.alloc o) (hidTo m (W.alloc o).heap.size) Ls := by
 have hs : m.heap.size ≤ (W.alloc o).heap.size := by rw [h.vw.size]; simp
 refine ⟨h.size0, h.ext.alloc _, h.mext.trans (hidTo_ext hs), ⟨h.vw.os, h.vw.tape, h.vw.output, hidTo_size hs, fun a u hu => ?_⟩, h.low, fun x hx => (h.blk x hx).alloc _, fun x hx a ha => ?_, h.apart⟩
 ·rcases Nat.lt_or_ge a.block m.heap.size with hb | hb
  ·rw [cell_of_heap (hidTo_old hb)] at hu
   exact cell_alloc_old (h.vw.cell _ _ hu)
  ·rw [hidTo_new hb] at hu; cases hu
 ·have hb : a.block < m.heap.size := by rw [ha, h.vw.size]; exact (h.blk x hx).lt
  rw [cell_of_heap (hidTo_old hb)]
  exact h.hid x hx a ha
theorem Loc.mapTurn {w0 m0 W m W' : World} {Ls : List Lo} (h : Loc w0 m0 W m Ls) {b : Nat} (hg : W.grownBy W' (some b)) (hb : w0.heap.size ≤ b) (hm : ∀ cs t fr, W.heap[b]? ≠ some (.cells cs t fr)) : Loc w0 m0 W' (hidTo m W'.heap.size) Ls := by
 have hs : m.heap.size ≤ W'.heap.size := by rw [h.vw.size]; exact hg.size
 refine ⟨h.size0, h.ext.grown hg (fun k hk => by cases hk; exact hb), h.mext.trans (hidTo_ext hs), ⟨h.vw.os.trans hg.os.symm, h.vw.tape.trans hg.tape.symm, h.vw.output.trans hg.output.symm, hidTo_size hs, fun a u hu => ?_⟩, h.low, fun x hx => ?_, fun x hx a ha => ?_, h.apart⟩
 ·rcases Nat.lt_or_ge a.block m.heap.size with hlt | hlt
  ·rw [cell_of_heap (hidTo_old hlt)] at hu
   have hc := h.vw.cell _ _ hu
   have hne : some a.block ≠ some b := by
    intro e
    have e' := Option.some.inj e
    unfold World.cell? at hc
    cases ho : W.heap[a.block]? with
    | none => rw [ho] at hc; cases hc
    | some ob =>
     rw [ho] at hc
     cases ob with
     | cells cs t fr => exact hm cs t fr (by rw [← e', ho])
     | _ => cases hc
   rw [World.cell?_of_block (hg.block _ (by rw [← h.vw.size]; exact hlt) hne)]
   exact hc
  ·rw [hidTo_new hlt] at hu; cases hu
 ·have hbk := h.blk x hx
  refine (hg.block _ hbk.lt fun e => ?_).trans hbk
  exact hm _ _ _ (by rw [← Option.some.inj e]; exact hbk)
 ·have hlt : a.block < m.heap.size := by rw [ha, h.vw.size]; exact (h.blk x hx).lt
  rw [cell_of_heap (hidTo_old hlt)]
  exact h.hid x hx a ha

theorem keyI : Keyed Tryz.prog 3 := int_keyed Tryz.underlying3
def BSet (W : World) (b : Nat) (xs : List Int) : Prop := ∃ n, n ≤ xs.length ∧ W.ownsMap (H := Unit) Tryz.prog 3 (plainElem Tryz.prog 4) b n (setOf (.lit (.bool true)) (xs.map (Lit.int .i64)))
theorem BSet.made (W : World) : BSet (W.alloc (.map #[] 0)) W.heap.size [] := ⟨0, Nat.le_refl _, World.ownsMap_made _ _ _ _⟩
theorem BSet.ext {W W' : World} {b : Nat} {xs : List Int} (h : BSet W b xs) (hE : Ext W W') : BSet W' b xs := by
 obtain ⟨n, hn, es, clock, hb, h⟩ := h
 have hlt : b < W.heap.size := (Array.getElem?_eq_some_iff.1 hb).1
 exact ⟨n, hn, es, clock, (hE.block b hlt).trans hb, h⟩
theorem BSet.notCells {W : World} {b : Nat} {xs : List Int} (h : BSet W b xs) : ∀ cs t fr, W.heap[b]? ≠ some (.cells cs t fr) := by
 obtain ⟨n, hn, es, clock, hb, h⟩ := h
 intro cs t fr e
 rw [hb] at e
 cases e
theorem setOf_at (u z : DataW Unit) (k : Lit) (hk : WideAt.IsKeyLit k) : ∀ (acc : List Lit), (∀ x ∈ acc, WideAt.IsKeyLit x) → (k ∈ acc → (setOf u acc.reverse).atKey k z = u) ∧ (k ∉ acc → (setOf u acc.reverse).atKey k z = z)
 | [], _ => ⟨fun h => absurd h List.not_mem_nil, fun _ => rfl⟩
 | x :: acc, h => by
  rw [List.reverse_cons, setOf_snoc]
  have ih := setOf_at u z k hk acc fun y hy => h y (List.mem_cons_of_mem _ hy)
  have hm : IsMap (setOf u acc.reverse) := (tidy_setOf u acc.reverse fun y hy => h y (List.mem_cons_of_mem _ (List.mem_reverse.1 hy))).isMap
  by_cases e : k = x
  ·subst e
   rw [atKey_put_same hm hk]
   exact ⟨fun _ => rfl, fun hn => absurd (List.mem_cons_self) hn⟩
  ·rw [atKey_put_other e]
   refine ⟨fun hx => ih.1 ?_, fun hn => ih.2 fun hx => hn (List.mem_cons_of_mem _ hx)⟩
   rcases List.mem_cons.1 hx with h1 | h1
   ·exact absurd h1 e
   ·exact h1
theorem isKey_int (x : Int) : WideAt.IsKeyLit (.int .i64 x) := trivial
theorem setOf_atI (xs : List Int) (x : Int) : (setOf (H := Unit) (.lit (.bool true)) (xs.map (Lit.int .i64))).atKey (.int .i64 x) (.lit (.bool false)) = .lit (.bool (decide (x ∈ xs))) := by
 have h := setOf_at (.lit (.bool true)) (.lit (.bool false)) (.int .i64 x) (isKey_int x) ((xs.map (Lit.int .i64)).reverse) (fun y hy => by
  simp only [List.mem_reverse, List.mem_map] at hy
  obtain ⟨z, _, rfl⟩ := hy
  exact isKey_int z)
 rw [List.reverse_reverse] at h
 by_cases hx : x ∈ xs
 ·rw [h.1 (List.mem_reverse.2 (List.mem_map.2 ⟨x, hx, rfl⟩)), decide_eq_true hx]
 ·rw [h.2 fun hm => ?_, decide_eq_false hx]
  obtain ⟨y, hy, e⟩ := List.mem_map.1 (List.mem_reverse.1 hm)
  cases e
  exact hx hy
theorem zeroB (w : World) : (zeroValue 4).run Tryz.prog w = .ok (.bool false) w := by kernel_rfl
theorem plainElem_bool_inv {v : Value} {z : DataW Unit × List MemPlace} (h : plainElem Tryz.prog 4 v = some z) : ∃ x, v = .bool x ∧ z = (.lit (.bool x), []) := by
 unfold plainElem at h
 rw [Tryz.underlying4] at h
 cases v <;> simp at h
 exact ⟨_, rfl, h.symm⟩
theorem BSet.look {W : World} {b : Nat} {xs : List Int} (h : BSet W b xs) {x : Int} (hw : (Lit.int .i64 x).wf = true) : (Instr.lookup 109 (.map (some b)) (.int .i64 x) false).run Tryz.prog W = .ok (.bool (decide (x ∈ xs))) W := by
 obtain ⟨n, hn, h⟩ := h
 obtain ⟨v, ps, hrun, hv⟩ := h.lookup keyI Tryz.underlying109 (zeroB W) (plainElem_bool Tryz.underlying4 false) (keyOf_int_mk Tryz.underlying3 hw)
 rw [setOf_atI] at hv
 obtain ⟨c, rfl, hc⟩ := plainElem_bool_inv hv
 simp only [Prod.mk.injEq, DataW.lit.injEq, Lit.bool.injEq] at hc
 rw [hrun, ← hc.1]
theorem BSet.up {W : World} {b : Nat} {xs : List Int} (h : BSet W b xs) (hl : xs.length ≤ 1000000) {x : Int} (hw : (Lit.int .i64 x).wf = true) :
  ∃ W', (Instr.mapUpdate 109 (.map (some b)) (.int .i64 x) (.bool true)).run Tryz.prog W = .ok () W' ∧ BSet W' b (xs ++ [x]) ∧ W.grownBy W' (some b) := by
 obtain ⟨n, hn, h⟩ := h
 obtain ⟨W', h1, h2, h3⟩ := h.update keyI Tryz.underlying109 (by unfold maxLen; omega) (keyOf_int_mk Tryz.underlying3 hw) (plainElem_bool Tryz.underlying4 true)
 refine ⟨W', h1, ⟨n + 1, by simp; omega, ?_⟩, h3⟩
 rw [List.map_append, List.map_cons, List.map_nil, setOf_snoc]
 exact h2
theorem wf_small {x : Int} (h1 : -1000000 ≤ x) (h2 : x ≤ 1000000) : (Lit.int .i64 x).wf = true := WalkArith.wf_i64 (by omega)

theorem Loc.world {w0 m0 W m : World} {Ls : List Lo} (_ : Loc w0 m0 W m Ls) : ∃ x, x = W := ⟨W, rfl⟩
structure CutOk (rs : List Int) (x : Cut) : Prop where
 asc : AscP x.1
 sub : ∀ r ∈ x.1, r ∈ rs
 two : 2 ≤ x.2
 le : x.2 ≤ (x.1.length : Int)
 len : x.1.length ≤ 1000000
end Go.Proofs.YtabmjadcoepbeaaGreat

/- Contracts of master.validCut and pairingref27.ValidCut for valid cuts. -/
namespace Go.Proofs.YtabmjadcoepbeaaGreat
open Go.RowKit

theorem asc_prev {xs : List Int} (h : AscP xs) {j : Nat} {x y : Int} (hy : xs[j]? = some y) (hx : xs[j + 1]? = some x) : ¬ x ≤ y := by
 have := h j y x hy hx; omega

theorem m_validCut (rv v : Value) (rs : List Int) (x : Cut) (w m : World) (hV : Vw m w) (hr : IntL m rv rs) (hv : CutR m v x) (hrl : rs.length ≤ 1000000) (hra : AscP rs) (ok : CutOk rs x) :
  Calls Tryz.prog 42 #[rv, v] w (RetV w m fun _ r => r = .bool true) := by
 obtain ⟨xs, dv⟩ := x
 obtain ⟨sv, rfl, hs, -⟩ := hv
 simp only at hs
 obtain ⟨B, d, rfl, hd, hr⟩ := hr.lit
 obtain ⟨A, c, rfl, hc, ha⟩ := hs.lit
 obtain ⟨o1, o2, o3, o4, o5⟩ := ok
 simp only at o1 o2 o3 o4 o5
 have HR := Lib.hid hr
 have HRL := Lib.hid hrl
 have HRA := Lib.hid hra
 have HA := Lib.hid o1
 have HS := Lib.hid o2
 have hL := Loc.start hV
 clear hV hr hra o1 o2 hrl
 generalize hn2 : rs.length = n2 at *
 have HN2 := Lib.hid hn2
 clear hn2
 generalize hn : xs.length = n at *
 have HN := Lib.hid hn
 clear hn
 have d1 : dv ≥ 2 := by omega
 have d2 : dv ≤ (n : Int) := o4
 go_enter Tryz.func42, Tryz.ntmps42
 go_upto_region 0 with (fail)
 refine wp_region_lit ?_
 refine t_box hL rfl rfl ?_; clear hL; intro Wh3 mh3 hL eh3; simp only [Act.put, zq1, zq2, zq3]
 go_wp2_with (first | go_skip | refine tP ?_ | (refine tB ?_; clear hL; intro _ _ hL _))
 go_loopw [12] (fun i wr => ∃ (k : Nat) (mm : World), k ≤ n ∧ i = .int .i64 k ∧ Loc w m wr mm [(w.heap.size, 69, #[.slice A n c, .int .i64 dv])]) (fun i _ => n - (intOf i).toNat)
 case atStart => exact ⟨0, _, Nat.zero_le _, rfl, hL⟩
 case round =>
  clear hL
  obtain ⟨k, mm, hk, rfl, hL⟩ := hrel
  have hM := hL.mext
  by_cases hlt : k < n
  ·obtain ⟨x, hx⟩ := at_some HN hlt
   obtain ⟨b1, o1, rfl, hc1⟩ := IntL.at_ ha hx
   have hin : x ∈ rs := HS.out x (List.mem_of_getElem? hx)
   have HIN := Lib.hid hin
   by_cases h0 : k = 0
   ·subst h0
    clear hx hin
    go_wp2_with (first | go_skip | refine tP ?_ | (refine tB ?_; clear hL; intro _ _ hL _))
    refine (s_BinarySearch _ rs x _ _ hL.vw (IntL.le HR.out leX) (by rw [HN2.out]; exact HRL.out) HRA.out).mono ?_
    rintro e W2 ⟨_, m2, rfl, hE, hM2, hV, i, rfl, -⟩
    replace hL := hL.call hE (by assumption) hV; clear hE hV
    rw [decide_eq_true HIN.out]
    go_wp2_with (first | go_skip | refine tP ?_ | (refine tB ?_; clear hL; intro _ _ hL _))
    go_roundw
    case rel => exact ⟨1, _, by omega, by go_num, hL⟩
    case measure => simp [intOf] <;> omega
   ·obtain ⟨j, rfl⟩ : ∃ j, k = j + 1 := ⟨k - 1, by omega⟩
    obtain ⟨y, hy⟩ := at_some HN (show j < n by omega)
    obtain ⟨b2, o2, e2, hc2⟩ := IntL.at_ ha hy
    obtain ⟨rfl, rfl⟩ : b1 = b2 ∧ o1 = o2 := by simpa using e2
    have hk0 : ((j + 1 : Nat) : Int) > 0 := by omega
    have hyx := asc_prev HA.out hy hx
    have hj3 : (j : Int) + 1 - 1 = (j : Int) := by omega
    have hjn : j < n := by omega
    clear hx hy hin e2 h0
    go_wp2_with (first | go_skip | refine tP ?_ | (refine tB ?_; clear hL; intro _ _ hL _))
    refine (s_BinarySearch _ rs x _ _ hL.vw (IntL.le HR.out leX) (by rw [HN2.out]; exact HRL.out) HRA.out).mono ?_
    rintro e W2 ⟨_, m2, rfl, hE, hM2, hV, i, rfl, -⟩
    replace hL := hL.call hE (by assumption) hV; clear hE hV
    rw [decide_eq_true HIN.out]
    go_wp2_with (first | go_skip | refine tP ?_ | (refine tB ?_; clear hL; intro _ _ hL _))
    go_roundw
    case rel => exact ⟨j + 1 + 1, _, by omega, by go_num, hL⟩
    case measure => simp [intOf] <;> omega
  ·go_wp2_with (first | go_skip | refine tP ?_ | (refine tB ?_; clear hL; intro _ _ hL _))
   go_ret
   exact RetV.mk hL rfl

theorem r_ValidCut (rv v : Value) (rs : List Int) (x : Cut) (w m : World) (hV : Vw m w) (hr : IntL m rv rs) (hv : CutR m v x) (hrl : rs.length ≤ 1000000) (ok : CutOk rs x) :
  Calls Tryz.prog 39 #[rv, v] w (RetV w m fun _ r => r = .bool true) := by
 obtain ⟨xs, dv⟩ := x
 obtain ⟨sv, rfl, hs, -⟩ := hv
 simp only at hs
 obtain ⟨B, d, rfl, hd, hr⟩ := hr.lit
 obtain ⟨A, c, rfl, hc, ha⟩ := hs.lit
 obtain ⟨o1, o2, o3, o4, o5⟩ := ok
 simp only at o1 o2 o3 o4 o5
 have HR := Lib.hid hr
 have HRL := Lib.hid hrl
 have HA := Lib.hid o1
 have HX := Lib.hid ha
 have H5 := Lib.hid o5
 have HS : Hid (decide (∀ r ∈ xs, r ∈ rs) = true) := decide_eq_true o2
 have hL := Loc.start hV
 clear hV hr o1 o2 hrl ha
 generalize hn2 : rs.length = n2 at *
 have HN2 := Lib.hid hn2
 clear hn2
 generalize hn : xs.length = n at *
 have HN := Lib.hid hn
 clear hn
 have d1 : dv ≥ 2 := by omega
 have d2 : dv ≤ (n : Int) := o4
 go_enter Tryz.func39, Tryz.ntmps39
 go_upto_region 0 with (fail)
 refine wp_region_lit ?_
 refine t_box hL rfl rfl ?_; clear hL; intro Wh3 mh3 hL eh3; simp only [Act.put, zq1, zq2, zq3]
 go_wp2_with (first | go_skip | refine tP ?_ | (refine tB ?_; clear hL; intro _ _ hL _))
 refine (r_ascT _ xs _ _ hL.vw (IntL.le HX.out leX) (by rw [HN.out]; exact H5.out) HA.out).mono ?_
 rintro e Wc1 ⟨_, mc1, rfl, hE, hMc1, hV, rfl⟩
 replace hL := hL.call hE (by assumption) hV; clear hE hV
 go_wp2_with (first | go_skip | refine tP ?_ | (refine tB ?_; clear hL; intro _ _ hL _))
 refine (r_within _ _ xs rs _ _ hL.vw (IntL.le HX.out leX) (IntL.le HR.out leX) (by rw [HN.out]; exact H5.out) (by rw [HN2.out]; exact HRL.out)).mono ?_
 rintro e Wc2 ⟨_, mc2, rfl, hE, hMc2, hV, rfl⟩
 replace hL := hL.call hE (by assumption) hV; clear hE hV
 rw [HS.out]
 go_wp2_with (first | go_skip | refine tP ?_ | (refine tB ?_; clear hL; intro _ _ hL _))
 go_ret
 exact RetV.mk hL rfl
end Go.Proofs.YtabmjadcoepbeaaGreat

/- Contract of master.ValidateMaster for valid master problems. -/
namespace Go.Proofs.YtabmjadcoepbeaaGreat
open Go.RowKit

structure ColOk (rs : List Int) (x : Col) : Prop where
 c1 : -1125899906842624 ≤ x.2.2
 c2 : x.2.2 ≤ 1125899906842624
 nd : x.2.1.length ≤ 100
 nt : ∀ d ∈ x.2.1, d.length ≤ 100
 pos : 0 < (opF x.2.1).length
 sub : ∀ f ∈ opF x.2.1, f ∈ rs
 nodup : (opF x.2.1).Nodup
structure MsOk (x : Ms) : Prop where
 f0 : 0 ≤ x.nf
 f1 : x.nf ≤ 200
 p0 : 0 ≤ x.pen
 p1 : x.pen ≤ 4294967296
 r0 : 1 ≤ x.rows.length
 r1 : x.rows.length ≤ 32
 asc : AscP x.rows
 low : ∀ r ∈ x.rows, 0 ≤ r ∧ r < x.nf
 k1 : x.cols.length ≤ 1000
 cols : ∀ c ∈ x.cols, ColOk x.rows c
 k2 : x.cuts.length ≤ 32
 cuts : ∀ c ∈ x.cuts, CutOk x.rows c
theorem ColL.at_ {m : World} {A : Option Addr} {n c : Nat} {cs : List Col} (h : ColL m (.slice A n c) cs) {k : Nat} {x : Col} (hk : cs[k]? = some x) :
  ∃ b off D cd, A = some ⟨b, off, none⟩ ∧ DutsL m (.slice D x.2.1.length cd) x.2.1 ∧ m.rangeAt b (off + k * 3) [.string x.1, .slice D x.2.1.length cd, .int .i64 x.2.2] := by
 obtain ⟨b, off, v, e, ⟨s, rfl, hs⟩, _, hr⟩ := ListV.at_ h (by omega) hk
 obtain ⟨D, cd, rfl, _, hs⟩ := hs.lit
 exact ⟨b, off, D, cd, e, hs, hr⟩
theorem CutL.at_' {m : World} {A : Option Addr} {n c : Nat} {cs : List Cut} (h : CutL m (.slice A n c) cs) {k : Nat} {x : Cut} (hk : cs[k]? = some x) :
  ∃ b off D cd, A = some ⟨b, off, none⟩ ∧ CutR m (.agg #[.slice D x.1.length cd, .int .i64 x.2]) x ∧ m.rangeAt b (off + k * 2) [.slice D x.1.length cd, .int .i64 x.2] := by
 obtain ⟨b, off, v, e, hc, _, hr⟩ := ListV.at_ h (by omega) hk
 have hc' := hc
 obtain ⟨s, rfl, hs, hl⟩ := hc
 obtain ⟨D, cd, rfl, _, hs⟩ := hs.lit
 exact ⟨b, off, D, cd, e, hc', hr⟩
theorem nodup_new {xs : List Int} (h : xs.Nodup) {j : Nat} {x : Int} (hx : xs[j]? = some x) : decide (x ∈ xs.take j) = false := by
 refine decide_eq_false fun hm => ?_
 obtain ⟨p, hp⟩ := List.mem_iff_getElem?.1 hm
 rw [List.getElem?_take] at hp
 by_cases hpj : p < j
 ·rw [if_pos hpj] at hp
  obtain ⟨h1, e1⟩ := List.getElem?_eq_some_iff.1 hp
  obtain ⟨h2, e2⟩ := List.getElem?_eq_some_iff.1 hx
  exact List.pairwise_iff_getElem.1 h p j h1 h2 hpj (e1.trans e2.symm)
 ·rw [if_neg hpj] at hp; cases hp

theorem m_ValidateMaster (v : Value) (x : Ms) (w m : World) (hV : Vw m w) (hv : MasterR m v x) (ok : MsOk x) :
  Calls Tryz.prog 13 #[v] w (RetV w m fun _ r => r = .int .i64 0) := by
 obtain ⟨nf, rs, pen, cols, cuts⟩ := x
 obtain ⟨va, vb, vc, rfl, ha, hb, hc⟩ := hv
 simp only at ha hb hc
 obtain ⟨A, ca, rfl, hca, ha⟩ := ha.lit
 obtain ⟨B, cb, rfl, hcb, hb⟩ := hb.lit
 obtain ⟨C, cc, rfl, hcc, hc⟩ := hc.lit
 obtain ⟨f0, f1, p0, p1, r0, r1, o1, o2, k1, o3, k2, o4⟩ := ok
 simp only at f0 f1 p0 p1 r0 r1 o1 o2 k1 o3 k2 o4
 have HR := Lib.hid ha
 have HA := Lib.hid o1
 have HO := Lib.hid o2
 have HC := Lib.hid o3
 have HK := Lib.hid o4
 have HCO := Lib.hid hb
 have HCU := Lib.hid hc
 have HRL : Hid (rs.length ≤ 1000000) := by show _ ≤ _; omega
 have hL := Loc.start hV
 clear hV o1 o2 o3 o4 hb hc
 generalize hn : rs.length = n at *
 have HN := Lib.hid hn
 clear hn
 generalize hn1 : cols.length = nc at *
 have HN1 := Lib.hid hn1
 clear hn1
 generalize hn2 : cuts.length = nk at *
 have HN2 := Lib.hid hn2
 clear hn2
 have q1 : ¬ nf > 200 := by omega
 have q2 : ¬ nf < 0 := by omega
 have q3 : ¬ (n : Int) < 1 := by omega
 have q4 : ¬ (n : Int) > 32 := by omega
 have q5 : ¬ pen < 0 := by omega
 have q6 : ¬ pen > 4294967296 := by omega
 have q7 : ¬ (nc : Int) > 1000 := by omega
 have q8 : ¬ (nk : Int) > 32 := by omega
 go_enter Tryz.func13, Tryz.ntmps13
 go_wp2_with (first | go_skip | refine tP ?_ | (refine tS ?_; clear hL; intro _ hL) | (refine tB ?_; clear hL; intro _ _ hL _))
 go_loopw [58] (fun i wr => ∃ (k : Nat) (mm : World), k ≤ n ∧ i = .int .i64 k ∧ Loc w m wr mm [(w.heap.size, 26, #[.int .i64 nf, .slice A n ca, .int .i64 pen, .slice B nc cb, .slice C nk cc])]) (fun i _ => n - (intOf i).toNat)
 case atStart => exact ⟨0, _, Nat.zero_le _, rfl, hL⟩
 case round =>
  clear hL
  obtain ⟨k, mm, hk, rfl, hL⟩ := hrel
  have hM := hL.mext
  by_cases hlt : k < n
  ·obtain ⟨x, hx⟩ := at_some HN hlt
   obtain ⟨b1, o1, hA, hc1⟩ := IntL.at_ ha hx
   replace hA := Lib.hid hA
   obtain ⟨x1, x2⟩ := HO.out x (List.mem_of_getElem? hx)
   have x1' : ¬ x < 0 := by omega
   have x2' : ¬ x ≥ nf := by omega
   by_cases h0 : k = 0
   ·subst h0
    clear hx x1 x2
    go_wp2_with (first | go_skip | refine tP ?_ | (refine tS ?_; clear hL; intro _ hL) | (refine tB ?_; clear hL; intro _ _ hL _))
    go_roundw
    case rel => exact ⟨1, _, by omega, by go_num, hL⟩
    case measure => simp [intOf] <;> omega
   ·obtain ⟨j, rfl⟩ : ∃ j, k = j + 1 := ⟨k - 1, by omega⟩
    have hk0 : ((j + 1 : Nat) : Int) > 0 := by omega
    have hjn : j < n := by omega
    obtain ⟨y, hy⟩ := at_some HN hjn
    obtain ⟨b2, o2, hA2, hc2⟩ := IntL.at_ ha hy
    have hyx := asc_prev HA.out hy hx
    have e12 : b2 = b1 ∧ o2 = o1 := by
     have := hA.out
     rw [hA2] at this
     simp only [Option.some.injEq, Addr.mk.injEq, and_true] at this
     exact this
    obtain ⟨rfl, rfl⟩ := e12
    have hj1 : ((j + 1 : Nat) : Int) - 1 = (j : Int) := by omega
    have hj2 : wrap64 (((j + 1 : Nat) : Int) - 1) = (j : Int) := by unfold wrap64; omega
    have hj3 : (j : Int) + 1 - 1 = (j : Int) := by omega
    clear hx hy x1 x2 hA2 h0
    go_wp2_with (first | go_skip | refine tP ?_ | (refine tS ?_; clear hL; intro _ hL) | (refine tB ?_; clear hL; intro _ _ hL _))
    go_roundw
    case rel => exact ⟨j + 1 + 1, _, by omega, by go_num, hL⟩
    case measure => simp [intOf] <;> omega
  ·have hmm := @run_makeMap Tryz.prog
   have HMM := Lib.hid hmm
   clear hmm
   go_wp2_with (first | go_skip | refine tP ?_ | (refine tS ?_; clear hL; intro _ hL) | (refine tB ?_; clear hL; intro _ _ hL _))
   clear hlt hk
   go_loopw [89] (fun i wr => ∃ (k : Nat) (mm : World), k ≤ nc ∧ i = .int .i64 k ∧ Loc w m wr mm [(w.heap.size, 26, #[.int .i64 nf, .slice A n ca, .int .i64 pen, .slice B nc cb, .slice C nk cc])]) (fun i _ => nc - (intOf i).toNat)
   case atStart => exact ⟨0, _, Nat.zero_le _, rfl, hL⟩
   case round =>
    clear hL hM
    obtain ⟨k, mm, hk, rfl, hL⟩ := hrel
    obtain ⟨wq, rfl⟩ := hL.world
    have hM := hL.mext
    by_cases hlt : k < nc
    ·obtain ⟨⟨s, ds, cost⟩, hx⟩ := at_some HN1 hlt
     have hco := HCO.out
     obtain ⟨b1, o1, D, cd, rfl, hds, hr1⟩ := ColL.at_ hco hx
     obtain ⟨i1, i2, i3, i4, i5, i6, i7⟩ := HC.out _ (List.mem_of_getElem? hx)
     simp only at hds hr1 i1 i2 i3 i4 i5 i6 i7
     have c1 : ¬ cost < -1125899906842624 := by omega
     have c2 : ¬ cost > 1125899906842624 := by omega
     have HD := Lib.hid hds
     have H3 := Lib.hid i3
     have H4 := Lib.hid i4
     have H6 := Lib.hid i6
     have H7 := Lib.hid i7
     have H5 := Lib.hid i5
     have H8 := Lib.hid (opF_len i4)
     clear hx hds i1 i2 i3 i4 i5 i6 i7 hco
     generalize hnd : ds.length = nd at *
     have HND := Lib.hid hnd
     clear hnd
     go_wp2_with (first | go_skip | refine tP ?_ | (refine tS ?_; clear hL; intro _ hL) | (refine tB ?_; clear hL; intro _ _ hL _))
     refine (e_Operated s _ ds _ _ hL.vw (DutsL.le HD.out leX) (by rw [HND.out]; exact H3.out) H4.out).mono ?_
     rintro e Wo1 ⟨vo1, mo1, rfl, hE, hMo1, hV, ho1⟩
     replace hL := hL.call hE (by assumption) hV; clear hE hV
     obtain ⟨Ao, co, rfl, hco, ho1⟩ := ho1.lit
     have HOP := Lib.hid ho1
     have h5 := H5.out
     have h8 : (opF ds).length ≤ 100000 := by have := H8.out; have := H3.out; omega
     clear ho1 hr1
     generalize hno : (opF ds).length = no at *
     have HNO := Lib.hid hno
     clear hno
     have q9 : ¬ (no : Int) < 1 := by omega
     have hmb := hL.ext.size
     have hmm := HMM.out
     go_wp2_with (first | go_skip | refine tP ?_ | (refine tS ?_; clear hL; intro _ hL) | (refine tB ?_; clear hL; intro _ _ hL _))
     go_loopw [110] (fun i wr => ∃ (j : Nat) (m2 : World), j ≤ no ∧ i = .int .i64 j ∧ Loc w m wr m2 [(wq.heap.size, 66, #[.string s, .slice D nd cd, .int .i64 cost]), (w.heap.size, 26, #[.int .i64 nf, .slice A n ca, .int .i64 pen, .slice (some ⟨b1, o1, none⟩) nc cb, .slice C nk cc])] ∧ Hid (BSet wr Wo1.heap.size ((opF ds).take j)) ∧ Hid (Ext mo1 m2)) (fun i _ => no - (intOf i).toNat)
     case atStart => exact ⟨0, _, Nat.zero_le _, rfl, hL.allocM _, BSet.made _, hidTo_ext (by rw [hL.vw.size]; simp)⟩
     case round =>
      clear hL hM hmm
      obtain ⟨j, m2, hj, rfl, hL, HB, HX⟩ := hrel
      have hM := hL.mext
      by_cases hlt2 : j < no
      ·obtain ⟨f, hf⟩ := at_some HNO hlt2
       obtain ⟨b3, o3, rfl, hc3⟩ := IntL.at_ HOP.out hf
       replace hc3 := HX.out.le.cell _ _ hc3
       have hin : f ∈ rs := H6.out f (List.mem_of_getElem? hf)
       have HIN := Lib.hid hin
       have HNW := Lib.hid (nodup_new H7.out hf)
       obtain ⟨lo, hi⟩ := HO.out f hin
       have HWF : Hid ((Lit.int .i64 f).wf = true) := wf_small (by omega) (by omega)
       have HT : Hid ((opF ds).take j ++ [f] = (opF ds).take (j + 1)) := take_snoc hf
       have HLN : Hid (((opF ds).take j).length ≤ 1000000) := by show _ ≤ _; simp; omega
       clear hf hin lo hi
       go_wp2_with (first | go_skip | refine tP ?_ | (refine tS ?_; clear hL; intro _ hL) | (refine tB ?_; clear hL; intro _ _ hL _))
       refine (s_BinarySearch _ rs f _ _ hL.vw (IntL.le HR.out leX) (by rw [HN.out]; exact HRL.out) HA.out).mono ?_
       rintro e W2 ⟨_, m3, rfl, hE, hM3, hV, i, rfl, -⟩
       have HB2 := HB.out.ext hE
       have HX3 : Hid (Ext mo1 m3) := HX.out.trans hM3
       replace hL := hL.call hE (by assumption) hV; clear hE hV
       rw [decide_eq_true HIN.out]
       have hlk := HB2.look HWF.out
       rw [HNW.out] at hlk
       obtain ⟨W9, hup, hb9, hg9⟩ := HB2.up HLN.out HWF.out
       have HB9 := Lib.hid hb9
       have HG9 := Lib.hid hg9
       have HNC := Lib.hid HB2.notCells
       clear hb9 hg9 HB2
       go_wp2_with (first | go_skip | refine tP ?_ | (refine tS ?_; clear hL; intro _ hL) | (refine tB ?_; clear hL; intro _ _ hL _))
       go_roundw
       case rel => exact ⟨j + 1, _, by omega, by go_num, hL.mapTurn HG9.out hmb HNC.out, by rw [← HT.out]; exact HB9.out, HX3.out.trans (hidTo_ext (by rw [hL.vw.size]; exact HG9.out.size))⟩
       case measure => simp [intOf] <;> omega
      ·go_wp2_with (first | go_skip | refine tP ?_ | (refine tS ?_; clear hL; intro _ hL) | (refine tB ?_; clear hL; intro _ _ hL _))
       go_roundw
       case rel => exact ⟨k + 1, _, by omega, by go_num, hL.tail⟩
       case measure => simp [intOf] <;> omega
    ·go_wp2_with (first | go_skip | refine tP ?_ | (refine tS ?_; clear hL; intro _ hL) | (refine tB ?_; clear hL; intro _ _ hL _))
     clear hlt hk
     go_loopw [135] (fun i wr => ∃ (k : Nat) (mm : World), k ≤ nk ∧ i = .int .i64 k ∧ Loc w m wr mm [(w.heap.size, 26, #[.int .i64 nf, .slice A n ca, .int .i64 pen, .slice B nc cb, .slice C nk cc])]) (fun i _ => nk - (intOf i).toNat)
     case atStart => exact ⟨0, _, Nat.zero_le _, rfl, hL⟩
     case round =>
      clear hL hM
      obtain ⟨k, mm, hk, rfl, hL⟩ := hrel
      have hM := hL.mext
      by_cases hlt : k < nk
      ·obtain ⟨⟨xs, dv⟩, hx⟩ := at_some HN2 hlt
       have hcu := HCU.out
       obtain ⟨b1, o1, D, cd, rfl, hcr, hr1⟩ := CutL.at_' hcu hx
       have HOK := Lib.hid (HK.out _ (List.mem_of_getElem? hx))
       have HCR := Lib.hid hcr
       clear hx hcu hcr
       simp only at hr1
       go_wp2_with (first | go_skip | refine tP ?_ | (refine tS ?_; clear hL; intro _ hL) | (refine tB ?_; clear hL; intro _ _ hL _))
       refine (m_validCut _ _ rs (xs, dv) _ _ hL.vw (IntL.le HR.out leX) (HCR.out.le leX) (by rw [HN.out]; exact HRL.out) HA.out HOK.out).mono ?_
       rintro e Wv1 ⟨_, mv1, rfl, hE, hMv1, hV, rfl⟩
       replace hL := hL.call hE (by assumption) hV; clear hE hV
       go_wp2_with (first | go_skip | refine tP ?_ | (refine tS ?_; clear hL; intro _ hL) | (refine tB ?_; clear hL; intro _ _ hL _))
       go_roundw
       case rel => exact ⟨k + 1, _, by omega, by go_num, hL.tail⟩
       case measure => simp [intOf] <;> omega
      ·go_wp2_with (first | go_skip | refine tP ?_ | (refine tS ?_; clear hL; intro _ hL) | (refine tB ?_; clear hL; intro _ _ hL _))
       go_ret
       exact RetV.mk hL rfl
end Go.Proofs.YtabmjadcoepbeaaGreat

/- Contract of pairingref27.ValidateMaster for valid master problems. -/
namespace Go.Proofs.YtabmjadcoepbeaaGreat
open Go.RowKit

theorem count_one {xs : List Int} (h : xs.Nodup) {j : Nat} {x : Int} (hx : xs[j]? = some x) : xs.count x = 1 := by
 have h1 := List.nodup_iff_count.1 h x
 have h2 : 0 < xs.count x := List.count_pos_iff.2 (List.mem_of_getElem? hx)
 omega
theorem rangeAt_cells2 {m : World} {b o : Nat} {x y : Value} (h : m.rangeAt b o [x, y]) : m.cell? ⟨b, o, none⟩ = some x ∧ m.cell? ⟨b, o + 1, none⟩ = some y := ⟨by simpa using h 0 _ rfl, h 1 _ rfl⟩

theorem r_ValidateMaster (v : Value) (x : Ms) (w m : World) (hV : Vw m w) (hv : MasterR m v x) (ok : MsOk x) :
  Calls Tryz.prog 12 #[v] w (RetV w m fun _ r => r = .int .i64 0) := by
 obtain ⟨nf, rs, pen, cols, cuts⟩ := x
 obtain ⟨va, vb, vc, rfl, ha, hb, hc⟩ := hv
 simp only at ha hb hc
 obtain ⟨A, ca, rfl, hca, ha⟩ := ha.lit
 obtain ⟨B, cb, rfl, hcb, hb⟩ := hb.lit
 obtain ⟨C, cc, rfl, hcc, hc⟩ := hc.lit
 obtain ⟨f0, f1, p0, p1, r0, r1, o1, o2, k1, o3, k2, o4⟩ := ok
 simp only at f0 f1 p0 p1 r0 r1 o1 o2 k1 o3 k2 o4
 have HR := Lib.hid ha
 have HA := Lib.hid o1
 have HO := Lib.hid o2
 have HC := Lib.hid o3
 have HK := Lib.hid o4
 have HCO := Lib.hid hb
 have HCU := Lib.hid hc
 have HRL : Hid (rs.length ≤ 1000000) := by show _ ≤ _; omega
 have hL := Loc.start hV
 clear hV o1 o2 o3 o4 hb hc
 generalize hn : rs.length = n at *
 have HN := Lib.hid hn
 clear hn
 generalize hn1 : cols.length = nc at *
 have HN1 := Lib.hid hn1
 clear hn1
 generalize hn2 : cuts.length = nk at *
 have HN2 := Lib.hid hn2
 clear hn2
 obtain ⟨n', hn'⟩ : ∃ n', n = n' + 1 := ⟨n - 1, by omega⟩
 obtain ⟨y0, hy0⟩ := at_some HN (show 0 < n by omega)
 obtain ⟨y1, hy1⟩ := at_some HN (show n' < n by omega)
 obtain ⟨b0, of, rfl, hc0⟩ := IntL.at_ ha hy0
 obtain ⟨b0', of', e0, hc1⟩ := IntL.at_ ha hy1
 obtain ⟨rfl, rfl⟩ : b0 = b0' ∧ of = of' := by simpa using e0
 rw [Nat.add_zero] at hc0
 have l0 := (HO.out y0 (List.mem_of_getElem? hy0)).1
 have l1 := (HO.out y1 (List.mem_of_getElem? hy1)).2
 have q1 : ¬ nf > 200 := by omega
 have q2 : ¬ nf < 0 := by omega
 have q3 : ((n : Int) == 0) = false := by simp; omega
 have q4 : ¬ (n : Int) > 32 := by omega
 have q5 : ¬ pen < 0 := by omega
 have q6 : ¬ pen > 4294967296 := by omega
 have q7 : ¬ (nc : Int) > 1000 := by omega
 have q8 : ¬ (nk : Int) > 32 := by omega
 have Q9 : Hid (decide (y0 < 0) = false) := decide_eq_false (by omega)
 have Q10 : Hid (decide (y1 ≥ nf) = false) := decide_eq_false (by omega)
 have q11 : (n : Int) - 1 = (n' : Int) := by omega
 have q12 : 0 < n := by omega
 have q13 : n' < n := by omega
 clear hy0 hy1 e0 l0 l1 ha hn'
 go_enter Tryz.func12, Tryz.ntmps12
 go_upto_region 0 with (fail)
 refine wp_region_lit ?_
 refine t_box hL rfl rfl ?_; clear hL; intro Wh1 mh1 hL eh1; simp only [Act.put, zq1, zq2, zq3]
 go_upto_region 5 with ((first | go_skip | refine tP ?_ | (refine tB ?_; clear hL; intro _ _ hL _)))
 clear q1 q2 q4 q5 q6 q7 q8
 have hr := HR.out
 have q9 := Q9.out
 have q10 := Q10.out
 refine wp_region_by2 24 [false, false, false, false, false, false, false, false, false, false, false, false, false, false, false, false, false, false, false, false, false, false, false, false] [false, false, false, false, false, false, false, false, false, false, false, false, false, false, false, false, false, false, false, false, false, false, false, false] [(fun v _ _ => v = ?c5_0), (fun v _ _ => v = ?c5_1), Is (.bool true), (fun v _ _ => v = ?c5_3), (fun v _ _ => v = ?c5_4), (fun v _ _ => v = ?c5_5), (fun v _ _ => v = ?c5_6), (fun v _ _ => v = ?c5_7), (fun v _ _ => v = ?c5_8), (fun v _ _ => v = ?c5_9), (fun v _ _ => v = ?c5_10), (fun v _ _ => v = ?c5_11), (fun v _ _ => v = ?c5_12), (fun v _ _ => v = ?c5_13), (fun v _ _ => v = ?c5_14), (fun v _ _ => v = ?c5_15), (fun v _ _ => v = ?c5_16), (fun v _ _ => v = ?c5_17), (fun v _ _ => v = ?c5_18), (fun v _ _ => v = ?c5_19), (fun v _ _ => v = ?c5_20), (fun v _ _ => v = ?c5_21), (fun v _ _ => v = ?c5_22), (fun v _ _ => v = ?c5_23)] hL.vw mixed [47, 48, 49, 50, 51, 52, 53, 54, 55, 56, 57, 58, 59, 60, 61, 62, 63, 64, 65, 66, 67, 68, 69, 70] _ (by kernel_rfl) (fun vs => by simp only [lay, Act.put, zq1, zq2, zq3]; rfl) (by kernel_rfl) (by decide) (by decide) ?s5 ?l5 ?r5
 case s5 =>
  refine ⟨?_, ?_, ?_, ?_, ?_, ?_, ?_, ?_, ?_, ?_, ?_, ?_, ?_, ?_, ?_, ?_, ?_, ?_, ?_, ?_, ?_, ?_, ?_, ?_, trivial⟩
  ·intro vs W1 m1 hE hM hV hD; clear hD
   exact sFe
  ·intro vs W1 m1 hE hM hV hD; obtain ⟨⟨_, _, -, -, f47⟩, -⟩ := hD
   rw [(f47 : vs 47 = _)]; clear f47; exact sLe
  ·intro vs W1 m1 hE hM hV hD; obtain ⟨⟨_, _, -, -, f48⟩, -⟩ := hD
   rw [(f48 : vs 48 = _)]
   clear f48
   go_wp2_with fail
   refine (r_ascT _ rs _ _ hV (IntL.le hr leX) (by rw [HN.out]; exact HRL.out) HA.out).mono ?_
   rintro e W2 ⟨v, m2, rfl, hE2, hM2, hV2, h⟩
   go_wp2_with fail
   refine One2.call hE2 hM2 hV2 ?_; first | exact h | exact rfl
  ·intro vs W1 m1 hE hM hV hD; obtain ⟨⟨_, _, -, -, f49⟩, -⟩ := hD
   rw [(f49 : vs 49 = _)]; clear f49; exact sPw
  ·intro vs W1 m1 hE hM hV hD; obtain ⟨⟨_, _, -, -, f50⟩, -, -⟩ := hD
   rw [(f50 : vs 50 = _)]; clear f50; exact sPw
  ·intro vs W1 m1 hE hM hV hD; obtain ⟨⟨_, _, -, -, f51⟩, -⟩ := hD
   rw [(f51 : vs 51 = _)]; clear f51; exact sFe
  ·intro vs W1 m1 hE hM hV hD; obtain ⟨⟨_, _, -, -, f52⟩, ⟨_, _, -, -, f51⟩, -⟩ := hD
   rw [(f52 : vs 52 = _), (f51 : vs 51 = _)]; clear f52 f51; exact sLe
  ·intro vs W1 m1 hE hM hV hD; obtain ⟨⟨_, _, -, -, f53⟩, ⟨_, _, -, -, f51⟩, -⟩ := hD
   rw [(f53 : vs 53 = _), (f51 : vs 51 = _)]
   clear f53 f51
   replace hL := hL.call hE hM hV
   exact sIz
  ·intro vs W1 m1 hE hM hV hD; obtain ⟨⟨_, _, -, -, f54⟩, ⟨_, _, -, -, f51⟩, -⟩ := hD
   rw [(f54 : vs 54 = _), (f51 : vs 51 = _)]; clear f54 f51; exact sLe
  ·intro vs W1 m1 hE hM hV hD; obtain ⟨⟨_, _, -, -, f55⟩, ⟨_, _, -, -, f51⟩, -⟩ := hD
   rw [(f55 : vs 55 = _), (f51 : vs 51 = _)]; clear f55 f51; exact sPw
  ·intro vs W1 m1 hE hM hV hD; obtain ⟨⟨_, _, -, -, f51⟩, ⟨_, _, -, -, f56⟩, -⟩ := hD
   rw [(f51 : vs 51 = _), (f56 : vs 56 = _)]; clear f51 f56; exact sPw
  ·intro vs W1 m1 hE hM hV hD; obtain ⟨⟨_, _, -, -, f57⟩, -, -⟩ := hD
   rw [(f57 : vs 57 = _)]; clear f57; exact sPw
  ·intro vs W1 m1 hE hM hV hD; obtain ⟨⟨_, _, -, -, f58⟩, -⟩ := hD
   rw [(f58 : vs 58 = _)]; clear f58; exact sFe
  ·intro vs W1 m1 hE hM hV hD; obtain ⟨⟨_, _, -, -, f59⟩, ⟨_, _, -, -, f58⟩, -⟩ := hD
   rw [(f59 : vs 59 = _), (f58 : vs 58 = _)]; clear f59 f58; exact sLe
  ·intro vs W1 m1 hE hM hV hD; obtain ⟨⟨_, _, -, -, f58⟩, -⟩ := hD
   rw [(f58 : vs 58 = _)]; clear f58; exact sFe
  ·intro vs W1 m1 hE hM hV hD; obtain ⟨⟨_, _, -, -, f61⟩, ⟨_, _, -, -, f58⟩, -⟩ := hD
   rw [(f61 : vs 61 = _), (f58 : vs 58 = _)]; clear f61 f58; exact sLe
  ·intro vs W1 m1 hE hM hV hD; obtain ⟨⟨_, _, -, -, f62⟩, ⟨_, _, -, -, f58⟩, -⟩ := hD
   rw [(f62 : vs 62 = _), (f58 : vs 58 = _)]
   clear f62 f58
   replace hL := hL.call hE hM hV
   go_wp2_with (first | go_skip | refine tP ?_ | (refine tB ?_; clear hL; intro _ _ hL _))
   refine One2.still hV ?_; exact rfl
  ·intro vs W1 m1 hE hM hV hD; obtain ⟨⟨_, _, -, -, f63⟩, ⟨_, _, -, -, f58⟩, -⟩ := hD
   rw [(f63 : vs 63 = _), (f58 : vs 58 = _)]; clear f63 f58; exact sPw
  ·intro vs W1 m1 hE hM hV hD; obtain ⟨⟨_, _, -, -, f60⟩, ⟨_, _, -, -, f64⟩, ⟨_, _, -, -, f58⟩, -⟩ := hD
   rw [(f60 : vs 60 = _), (f64 : vs 64 = _), (f58 : vs 58 = _)]; clear f60 f64 f58; exact sIy
  ·intro vs W1 m1 hE hM hV hD; obtain ⟨⟨_, _, -, -, f65⟩, ⟨_, _, -, -, f58⟩, -⟩ := hD
   rw [(f65 : vs 65 = _), (f58 : vs 58 = _)]; clear f65 f58; exact sLe
  ·intro vs W1 m1 hE hM hV hD; obtain ⟨⟨_, _, -, -, f58⟩, -⟩ := hD
   rw [(f58 : vs 58 = _)]; clear f58; exact sFe
  ·intro vs W1 m1 hE hM hV hD; obtain ⟨⟨_, _, -, -, f67⟩, ⟨_, _, -, -, f58⟩, -⟩ := hD
   rw [(f67 : vs 67 = _), (f58 : vs 58 = _)]; clear f67 f58; exact sLe
  ·intro vs W1 m1 hE hM hV hD; obtain ⟨⟨_, _, -, -, f66⟩, ⟨_, _, -, -, f68⟩, ⟨_, _, -, -, f58⟩, -⟩ := hD
   rw [(f66 : vs 66 = _), (f68 : vs 68 = _), (f58 : vs 58 = _)]; clear f66 f68 f58; exact sPw
  ·intro vs W1 m1 hE hM hV hD; obtain ⟨⟨_, _, -, -, f58⟩, ⟨_, _, -, -, f69⟩, -⟩ := hD
   rw [(f58 : vs 58 = _), (f69 : vs 69 = _)]; clear f58 f69; exact sPw
 case l5 =>
  refine ⟨nF, nF, nF, nF, nF, nF, nF, nF, nF, nF, nF, nF, nF, nF, nF, nF, nF, nF, nF, nF, nF, nF, nF, nF, trivial⟩
 intro vs W1 m1 hE hM hV hF hD
 clear hD
 obtain ⟨⟨_, _, -, -, f47⟩, ⟨_, _, -, -, f48⟩, ⟨_, _, -, -, f49⟩, ⟨_, _, -, -, f50⟩, ⟨_, _, -, -, f51⟩, ⟨_, _, -, -, f52⟩, ⟨_, _, -, -, f53⟩, ⟨_, _, -, -, f54⟩, ⟨_, _, -, -, f55⟩, ⟨_, _, -, -, f56⟩, ⟨_, _, -, -, f57⟩, ⟨_, _, -, -, f58⟩, ⟨_, _, -, -, f59⟩, ⟨_, _, -, -, f60⟩, ⟨_, _, -, -, f61⟩, ⟨_, _, -, -, f62⟩, ⟨_, _, -, -, f63⟩, ⟨_, _, -, -, f64⟩, ⟨_, _, -, -, f65⟩, ⟨_, _, -, -, f66⟩, ⟨_, _, -, -, f67⟩, ⟨_, _, -, -, f68⟩, ⟨_, _, -, -, f69⟩, ⟨_, _, -, -, f70⟩, -⟩ := hF
 replace hL := hL.call hE hM hV
 have f47 : vs 47 = _ := f47
 generalize vs 47 = x47 at f47 ⊢
 subst x47
 have f48 : vs 48 = _ := f48
 generalize vs 48 = x48 at f48 ⊢
 subst x48
 have f49 : vs 49 = _ := f49
 generalize vs 49 = x49 at f49 ⊢
 subst x49
 have f50 : vs 50 = _ := f50
 generalize vs 50 = x50 at f50 ⊢
 subst x50
 have f51 : vs 51 = _ := f51
 generalize vs 51 = x51 at f51 ⊢
 subst x51
 have f52 : vs 52 = _ := f52
 generalize vs 52 = x52 at f52 ⊢
 subst x52
 have f53 : vs 53 = _ := f53
 generalize vs 53 = x53 at f53 ⊢
 subst x53
 have f54 : vs 54 = _ := f54
 generalize vs 54 = x54 at f54 ⊢
 subst x54
 have f55 : vs 55 = _ := f55
 generalize vs 55 = x55 at f55 ⊢
 subst x55
 have f56 : vs 56 = _ := f56
 generalize vs 56 = x56 at f56 ⊢
 subst x56
 have f57 : vs 57 = _ := f57
 generalize vs 57 = x57 at f57 ⊢
 subst x57
 have f58 : vs 58 = _ := f58
 generalize vs 58 = x58 at f58 ⊢
 subst x58
 have f59 : vs 59 = _ := f59
 generalize vs 59 = x59 at f59 ⊢
 subst x59
 have f60 : vs 60 = _ := f60
 generalize vs 60 = x60 at f60 ⊢
 subst x60
 have f61 : vs 61 = _ := f61
 generalize vs 61 = x61 at f61 ⊢
 subst x61
 have f62 : vs 62 = _ := f62
 generalize vs 62 = x62 at f62 ⊢
 subst x62
 have f63 : vs 63 = _ := f63
 generalize vs 63 = x63 at f63 ⊢
 subst x63
 have f64 : vs 64 = _ := f64
 generalize vs 64 = x64 at f64 ⊢
 subst x64
 have f65 : vs 65 = _ := f65
 generalize vs 65 = x65 at f65 ⊢
 subst x65
 have f66 : vs 66 = _ := f66
 generalize vs 66 = x66 at f66 ⊢
 subst x66
 have f67 : vs 67 = _ := f67
 generalize vs 67 = x67 at f67 ⊢
 subst x67
 have f68 : vs 68 = _ := f68
 generalize vs 68 = x68 at f68 ⊢
 subst x68
 have f69 : vs 69 = _ := f69
 generalize vs 69 = x69 at f69 ⊢
 subst x69
 have f70 : vs 70 = _ := f70
 generalize vs 70 = x70 at f70 ⊢
 subst x70
 clear hE hV
 simp only [List.drop_succ_cons, List.drop_zero]
 go_wp2_with (first | go_skip | refine tP ?_ | (refine tB ?_; clear hL; intro _ _ hL _))
 refine QN.mk ?_
 clear hr hc0 hc1
 go_wp2_with (first | go_skip | refine tP ?_ | (refine tB ?_; clear hL; intro _ _ hL _))
 go_loopw [3] (fun i wr => ∃ (k : Nat) (mm : World), k ≤ nc ∧ i = .int .i64 k ∧ Loc w m wr mm [(w.heap.size, 26, #[.int .i64 nf, .slice (some ⟨b0, of, none⟩) n ca, .int .i64 pen, .slice B nc cb, .slice C nk cc])]) (fun i _ => nc - (intOf i).toNat)
 case atStart => exact ⟨0, _, Nat.zero_le _, rfl, hL⟩
 case round =>
  clear hL
  obtain ⟨k, mm, hk, rfl, hL⟩ := hrel
  have hM := hL.mext
  by_cases hlt : k < nc
  ·obtain ⟨⟨s, ds, cost⟩, hx⟩ := at_some HN1 hlt
   obtain ⟨b1, o1, D, cd, rfl, hds, hr1⟩ := ColL.at_ HCO.out hx
   obtain ⟨i1, i2, i3, i4, i5, i6, i7⟩ := HC.out _ (List.mem_of_getElem? hx)
   simp only at hds hr1 i1 i2 i3 i4 i5 i6 i7
   have c1 : ¬ cost < -1125899906842624 := by omega
   have c2 : ¬ cost > 1125899906842624 := by omega
   have HD := Lib.hid hds
   have H3 := Lib.hid i3
   have H4 := Lib.hid i4
   have H6 : Hid (decide (∀ f ∈ opF ds, f ∈ rs) = true) := decide_eq_true i6
   have H7 := Lib.hid i7
   have H5 := Lib.hid i5
   have H8 := Lib.hid (opF_len i4)
   have hx2 := hr1 2 _ rfl
   have hr2 : m.rangeAt b1 (o1 + k * 3) [.string s, .slice D ds.length cd] := fun j u hu => hr1 j u (by
    match j, hu with
    | 0, hu => exact hu
    | 1, hu => exact hu)
   clear hx hds i1 i2 i3 i4 i5 i6 i7 hr1
   generalize hnd : ds.length = nd at *
   have HND := Lib.hid hnd
   clear hnd
   go_wp2_with (first | go_skip | refine tP ?_ | (refine tB ?_; clear hL; intro _ _ hL _))
   refine (r_Operated s _ ds _ _ hL.vw (DutsL.le HD.out leX) (by rw [HND.out]; exact H3.out) H4.out).mono ?_
   rintro e Wo1 ⟨vo1, mo1, rfl, hE, hMo1, hV, ho1⟩
   replace hL := hL.call hE (by assumption) hV; clear hE hV
   obtain ⟨Ao, co, rfl, hco, ho1⟩ := ho1.lit
   have HOP := Lib.hid ho1
   have h5 := H5.out
   have h8 : (opF ds).length ≤ 100000 := by have := H8.out; have := H3.out; omega
   clear ho1 hr2 hx2
   generalize hno : (opF ds).length = no at *
   have HNO := Lib.hid hno
   clear hno
   have q14 : ((no : Int) == 0) = false := by simp; omega
   go_wp2_with (first | go_skip | refine tP ?_ | (refine tB ?_; clear hL; intro _ _ hL _))
   refine (r_within _ _ (opF ds) rs _ _ hL.vw (IntL.le HOP.out leX) (IntL.le HR.out leX) (by rw [HNO.out]; omega) (by rw [HN.out]; exact HRL.out)).mono ?_
   rintro e Wo2 ⟨_, mo2, rfl, hE, hMo2, hV, rfl⟩
   replace hL := hL.call hE (by assumption) hV; clear hE hV
   rw [H6.out]
   go_wp2_with (first | go_skip | refine tP ?_ | (refine tB ?_; clear hL; intro _ _ hL _))
   go_loopw [5] (fun i wr => ∃ (j : Nat) (m2 : World), j ≤ no ∧ i = .int .i64 j ∧ Loc w m wr m2 [(w.heap.size, 26, #[.int .i64 nf, .slice (some ⟨b0, of, none⟩) n ca, .int .i64 pen, .slice (some ⟨b1, o1, none⟩) nc cb, .slice C nk cc])] ∧ Hid (Ext mo1 m2)) (fun i _ => no - (intOf i).toNat)
   case atStart => exact ⟨0, _, Nat.zero_le _, rfl, hL, exX⟩
   case round =>
    clear hL hM
    obtain ⟨j, m2, hj, rfl, hL, HX⟩ := hrel
    have hM := hL.mext
    by_cases hlt2 : j < no
    ·obtain ⟨f, hf⟩ := at_some HNO hlt2
     obtain ⟨b3, o3, rfl, hc3⟩ := IntL.at_ HOP.out hf
     replace hc3 := HX.out.le.cell _ _ hc3
     have HC1 := Lib.hid (count_one H7.out hf)
     have HO2 : Hid (IntL m2 (.slice (some ⟨b3, o3, none⟩) no co) (opF ds)) := IntL.le HOP.out HX.out.le
     clear hf
     go_wp2_with (first | go_skip | refine tP ?_ | (refine tB ?_; clear hL; intro _ _ hL _))
     refine (r_count _ (opF ds) f _ _ hL.vw (IntL.le HO2.out leX) (by rw [HNO.out]; omega)).mono ?_
     rintro e Wn1 ⟨_, mn1, rfl, hE, hMn1, hV, rfl⟩
     replace hL := hL.call hE (by assumption) hV; clear hE hV
     have HX3 : Hid (Ext mo1 mn1) := HX.out.trans hMn1
     rw [HC1.out]
     go_wp2_with (first | go_skip | refine tP ?_ | (refine tB ?_; clear hL; intro _ _ hL _))
     go_roundw
     case rel => exact ⟨j + 1, _, by omega, by go_num, hL, HX3.out⟩
     case measure => simp [intOf] <;> omega
    ·go_wp2_with (first | go_skip | refine tP ?_ | (refine tB ?_; clear hL; intro _ _ hL _))
     go_roundw
     case rel => exact ⟨k + 1, _, by omega, by go_num, hL⟩
     case measure => simp [intOf] <;> omega
  ·go_wp2_with (first | go_skip | refine tP ?_ | (refine tB ?_; clear hL; intro _ _ hL _))
   clear hlt hk
   go_loopw [6] (fun i wr => ∃ (k : Nat) (mm : World), k ≤ nk ∧ i = .int .i64 k ∧ Loc w m wr mm [(w.heap.size, 26, #[.int .i64 nf, .slice (some ⟨b0, of, none⟩) n ca, .int .i64 pen, .slice B nc cb, .slice C nk cc])]) (fun i _ => nk - (intOf i).toNat)
   case atStart => exact ⟨0, _, Nat.zero_le _, rfl, hL⟩
   case round =>
    clear hL hM
    obtain ⟨k, mm, hk, rfl, hL⟩ := hrel
    have hM := hL.mext
    by_cases hlt : k < nk
    ·obtain ⟨⟨xs, dv⟩, hx⟩ := at_some HN2 hlt
     obtain ⟨b1, o1, D, cd, rfl, hcr, hr1⟩ := CutL.at_' HCU.out hx
     have HOK := Lib.hid (HK.out _ (List.mem_of_getElem? hx))
     simp only at hr1
     have hra := HR.out
     clear hx
     go_upto_region 23 with ((first | go_skip | refine tP ?_ | (refine tB ?_; clear hL; intro _ _ hL _)))
     (try simp only [eq_self] at *)
     refine wp_region_by2 9 [false, false, false, false, false, false, false, false, false] [false, false, false, false, false, false, false, false, false] [(fun v _ _ => v = ?c23_0), (fun v _ _ => v = ?c23_1), (fun v _ _ => v = ?c23_2), (fun v _ _ => v = ?c23_3), (fun v _ _ => v = ?c23_4), (fun v _ _ => v = ?c23_5), (fun v _ _ => v = ?c23_6), Is (.bool true), (fun v _ _ => v = ?c23_8)] hL.vw mixed [131, 132, 133, 134, 135, 136, 137, 138, 139] _ (by kernel_rfl) (fun vs => by simp only [lay, Act.put, zq1, zq2, zq3]; rfl) (by kernel_rfl) (by decide) (by decide) ?s23 ?l23 ?r23
     case s23 =>
      refine ⟨?_, ?_, ?_, ?_, ?_, ?_, ?_, ?_, ?_, trivial⟩
      ·intro vs W1 m1 hE hM hV hD; clear hD
       exact sFe
      ·intro vs W1 m1 hE hM hV hD; obtain ⟨⟨_, _, -, -, f131⟩, -⟩ := hD
       rw [(f131 : vs 131 = _)]; clear f131; exact sLe
      ·intro vs W1 m1 hE hM hV hD; clear hD
       exact sFe
      ·intro vs W1 m1 hE hM hV hD; obtain ⟨⟨_, _, -, -, f133⟩, -⟩ := hD
       rw [(f133 : vs 133 = _)]; clear f133; exact sLe
      ·intro vs W1 m1 hE hM hV hD; clear hD
       exact sPw
      ·intro vs W1 m1 hE hM hV hD; obtain ⟨⟨_, _, -, -, f134⟩, ⟨_, _, -, -, f135⟩, -⟩ := hD
       rw [(f134 : vs 134 = _), (f135 : vs 135 = _)]; clear f134 f135; exact sIy
      ·intro vs W1 m1 hE hM hV hD; obtain ⟨⟨_, _, -, -, f136⟩, -⟩ := hD
       rw [(f136 : vs 136 = _)]; clear f136; exact sLe
      ·intro vs W1 m1 hE hM hV hD; obtain ⟨⟨_, _, -, -, f132⟩, ⟨_, _, -, -, f137⟩, -⟩ := hD
       rw [(f132 : vs 132 = _), (f137 : vs 137 = _)]
       clear f132 f137
       go_wp2_with fail
       refine (r_ValidCut _ _ rs (xs, dv) _ _ hV (IntL.le hra leX) (hcr.le leX) (by rw [HN.out]; exact HRL.out) HOK.out).mono ?_
       rintro e W2 ⟨v, m2, rfl, hE2, hM2, hV2, h⟩
       go_wp2_with fail
       refine One2.call hE2 hM2 hV2 ?_; first | exact h | exact rfl
      ·intro vs W1 m1 hE hM hV hD; obtain ⟨⟨_, _, -, -, f138⟩, -⟩ := hD
       rw [(f138 : vs 138 = _)]; clear f138; exact sPw
     case l23 =>
      refine ⟨nF, nF, nF, nF, nF, nF, nF, nF, nF, trivial⟩
     intro vs W1 m1 hE hM hV hF hD
     clear hD
     obtain ⟨⟨_, _, -, -, f131⟩, ⟨_, _, -, -, f132⟩, ⟨_, _, -, -, f133⟩, ⟨_, _, -, -, f134⟩, ⟨_, _, -, -, f135⟩, ⟨_, _, -, -, f136⟩, ⟨_, _, -, -, f137⟩, ⟨_, _, -, -, f138⟩, ⟨_, _, -, -, f139⟩, -⟩ := hF
     replace hL := hL.call hE hM hV
     have f131 : vs 131 = _ := f131
     generalize vs 131 = x131 at f131 ⊢
     subst x131
     have f132 : vs 132 = _ := f132
     generalize vs 132 = x132 at f132 ⊢
     subst x132
     have f133 : vs 133 = _ := f133
     generalize vs 133 = x133 at f133 ⊢
     subst x133
     have f134 : vs 134 = _ := f134
     generalize vs 134 = x134 at f134 ⊢
     subst x134
     have f135 : vs 135 = _ := f135
     generalize vs 135 = x135 at f135 ⊢
     subst x135
     have f136 : vs 136 = _ := f136
     generalize vs 136 = x136 at f136 ⊢
     subst x136
     have f137 : vs 137 = _ := f137
     generalize vs 137 = x137 at f137 ⊢
     subst x137
     have f138 : vs 138 = _ := f138
     generalize vs 138 = x138 at f138 ⊢
     subst x138
     have f139 : vs 139 = _ := f139
     generalize vs 139 = x139 at f139 ⊢
     subst x139
     clear hE hV
     simp only [List.drop_succ_cons, List.drop_zero]
     go_wp2_with (first | go_skip | refine tP ?_ | (refine tB ?_; clear hL; intro _ _ hL _))
     refine QN.mk ?_
     go_wp2_with (first | go_skip | refine tP ?_ | (refine tB ?_; clear hL; intro _ _ hL _))
     go_roundw
     case rel => exact ⟨k + 1, _, by omega, by go_num, hL⟩
     case measure => simp [intOf] <;> omega
    ·go_wp2_with (first | go_skip | refine tP ?_ | (refine tB ?_; clear hL; intro _ _ hL _))
     go_ret
     exact RetV.mk hL rfl
end Go.Proofs.YtabmjadcoepbeaaGreat

/- Contracts of enumerate.ValidatePrices and pairingref27.ValidatePrices for valid prices, and where the number of prices is another one. -/
namespace Go.Proofs.YtabmjadcoepbeaaGreat
open Go.RowKit

structure PcOk (nf : Nat) (x : Cut) : Prop where
 low : ∀ r ∈ x.1, 0 ≤ r ∧ r < nf
 asc : AscP x.1
 two : 2 ≤ x.2
 le : x.2 ≤ (x.1.length : Int)
structure PrOk (nf : Nat) (p : Pr) : Prop where
 fl : p.fl.length = nf
 f1 : nf ≤ 1000
 cd : p.cd.length = p.cu.length
 k1 : p.cu.length ≤ 32
 k2 : p.de.length ≤ 32
 cuts : ∀ c ∈ p.cu, PcOk nf c
 neg : ∀ q ∈ p.cd, Fit 200 q ∧ rs q ≤ 0
 des : ∀ d ∈ p.de, 0 ≤ d.1 ∧ d.1 < nf ∧ 0 ≤ d.2.1 ∧ d.2.1 < nf ∧ d.1 ≠ d.2.1

end Go.Proofs.YtabmjadcoepbeaaGreat

/- The bound of prices, in plain numbers: sums of fractions whose denominators divide 36. -/
namespace Go.Proofs.YtabmjadcoepbeaaGreat
open Go.RowKit

def Tw (B : Nat) (q : Rat) : Prop := ∃ z : Int, q = Rat.divInt z 36 ∧ z.natAbs ≤ 3 * B
theorem Tw.mono {B C : Nat} {q : Rat} (h : Tw B q) (hb : B ≤ C) : Tw C q := by
 obtain ⟨z, e, hz⟩ := h
 exact ⟨z, e, by omega⟩
theorem Tw.add {B C : Nat} {p q : Rat} (h : Tw B p) (h' : Tw C q) : Tw (B + C) (p + q) := by
 obtain ⟨z, rfl, hz⟩ := h
 obtain ⟨y, rfl, hy⟩ := h'
 exact ⟨z + y, (add_same (by decide)).symm, by omega⟩
theorem Tw.int {K : Nat} {k : Int} (hk : k.natAbs ≤ K) : Tw (K * 12) (k : Rat) := by
 refine ⟨k * 36, ?_, by omega⟩
 rw [← rat_one k, ← Rat.divInt_mul_right (n := k) (d := 1) (a := 36) (by decide)]; rfl
theorem Tw.tn {B k : Nat} {q : Rat} (h : Tw B q) (h1 : 3 * B ≤ k) (h2 : 36 ≤ k) : Tn k q := by
 obtain ⟨z, rfl, hz⟩ := h
 exact Tn.divInt (by decide) (by omega) (by omega)
theorem Tw.min {B : Nat} {p q : Rat} (h : Tw B p) (h' : Tw B q) : Tw B (rmin p q) := by
 unfold rmin; split
 ·exact h
 ·exact h'
theorem Tw.neg {B : Nat} {q : Rat} (h : Tw B q) : Tw B (-q) := by
 obtain ⟨z, rfl, hz⟩ := h
 exact ⟨-z, by rw [Rat.neg_divInt], by omega⟩
end Go.Proofs.YtabmjadcoepbeaaGreat

/- What lagrange.Bound and pairingref27.Bound answer (plain). -/
namespace Go.Proofs.YtabmjadcoepbeaaGreat
open Go.RowKit

structure BQ (nf : Nat) (x : Ms) (p : Pr) (l : SF) : Prop where
 nfe : x.nf = nf
 ms : MsOk x
 pr : PrOk nf p
 pen : x.pen ≤ 1000
 fl : ∀ q ∈ p.fl, Tw 1000 q
 cd : ∀ q ∈ p.cd, Tw 1000 q
 cu : ∀ c ∈ p.cu, c.1.length ≤ 1000
 lo : Tw 1000 (vS l)
 sl : Sm l.1 l.2
theorem Tw.fit {B : Nat} {q : Rat} (h : Tw B q) (hb : B ≤ 100000000) : Fit 200 q := (h.tn (k := 300000000) (by omega) (by decide)).fit (by decide)
end Go.Proofs.YtabmjadcoepbeaaGreat

/- The master problems and prices of the laws are valid (plain). -/
namespace Go.Proofs.YtabmjadcoepbeaaGreat
open Go.RowKit

theorem ascP_of {xs : List Int} (h : xs.Pairwise (· < ·)) : AscP xs := by
 intro j x y hx hy
 obtain ⟨h1, e1⟩ := List.getElem?_eq_some_iff.1 hx
 obtain ⟨h2, e2⟩ := List.getElem?_eq_some_iff.1 hy
 have := List.pairwise_iff_getElem.1 h j (j + 1) h1 h2 (by omega)
 rw [e1, e2] at this
 exact this
def selF (rs : List Int) (n k : Int) (i : Nat) : List Int := (List.range i).filterMap fun j => if csBit n j then some (csF rs k j) else none
theorem opT_app (a b : List Task) : opT (a ++ b) = opT a ++ opT b := by simp [opT, List.filterMap_append]
theorem opF_app (a b : List (List Task)) : opF (a ++ b) = opF a ++ opF b := by simp [opF, List.flatMap_append]
theorem opF_one (a : List Task) : opF [a] = opT a := by simp [opF]
theorem opT_one (f : Int) : opT [(f, false)] = [f] := rfl
theorem opT_nil : opT [] = [] := rfl
theorem selF_in {rs : List Int} {n k : Int} {i : Nat} (h : csBit n i = true) : selF rs n k (i + 1) = selF rs n k i ++ [csF rs k i] := by
 unfold selF
 rw [List.range_succ, List.filterMap_append]
 simp [h]
theorem selF_out {rs : List Int} {n k : Int} {i : Nat} (h : csBit n i = false) : selF rs n k (i + 1) = selF rs n k i := by
 unfold selF
 rw [List.range_succ, List.filterMap_append]
 simp [h]
theorem cs_sel (rs : List Int) (n k : Int) : ∀ i, opF (csAt rs n k i).l ++ opT (csAt rs n k i).d = selF rs n k i ∧ ((csAt rs n k i).s = false → selF rs n k i = []) ∧ ((csAt rs n k i).s = true → selF rs n k i ≠ [])
 | 0 => by
  refine ⟨?_, fun _ => rfl, fun h => by simp [csAt] at h⟩
  show opF [] ++ opT (if k % 2 = 1 then [(0, true)] else []) = []
  split <;> rfl
 | i + 1 => by
  obtain ⟨h1, h2, h3⟩ := cs_sel rs n k i
  by_cases hb : csBit n i = true
  ·rw [selF_in hb, ← h1]
   simp only [csAt, csStep, hb, if_true]
   split
   ·simp [opF_app, opF_one, opT_app, opT_one, opT_nil]
   ·simp [opT_app, opT_one]
  ·have hb' : csBit n i = false := by simpa using hb
   rw [selF_out hb']
   simp only [csAt, csStep, hb', Bool.false_eq_true, if_false]
   exact ⟨h1, h2, h3⟩
theorem cs_short (rs : List Int) (n k : Int) : ∀ i, ∀ d ∈ (csAt rs n k i).l, d.length ≤ i + 1
 | 0 => by intro d hd; simp [csAt] at hd
 | i + 1 => by
  intro d hd
  have ih := cs_short rs n k i
  have hl := (csAt_len rs n k i).1
  simp only [csAt, csStep] at hd
  split at hd
  ·split at hd
   ·rcases List.mem_append.1 hd with h | h
    ·have := ih d h; omega
    ·rcases List.mem_singleton.1 h with rfl
     simp; omega
   ·have := ih d hd; omega
  ·have := ih d hd; omega
theorem opF_csL (rs : List Int) (n k : Int) : opF (csL rs n k) = if (csAt rs n k rs.length).s then selF rs n k rs.length else [rs.getD (n / 64 % rs.length).toNat 0] := by
 obtain ⟨h1, h2, -⟩ := cs_sel rs n k rs.length
 have hD : opF (csL rs n k) = opF (csAt rs n k rs.length).l ++ opT (csD rs n k) := by
  unfold csL
  split
  ·rw [opF_app, opF_one]
  ·have : csD rs n k = [] := List.length_eq_zero_iff.1 (by omega)
   rw [this, opT_nil, List.append_nil]
 rw [hD]
 unfold csD
 by_cases hs : (csAt rs n k rs.length).s = true
 ·rw [if_pos hs, if_pos hs, h1]
 ·rw [if_neg hs, if_neg hs, opT_app, opT_one, ← List.append_assoc, h1, h2 (by simpa using hs)]
  rfl
theorem csF_get {rs : List Int} {k : Int} {j : Nat} (hj : j < rs.length) : ∃ i, i < rs.length ∧ csF rs k j = rs.getD i 0 ∧ (i = j ∨ i = rs.length - 1 - j) ∧ (i = if k / 2 % 8 = 7 then rs.length - 1 - j else j) := by
 unfold csF
 split
 ·exact ⟨rs.length - 1 - j, by omega, rfl, .inr rfl, rfl⟩
 ·exact ⟨j, hj, rfl, .inl rfl, rfl⟩
theorem getD_mem {rs : List Int} {i : Nat} (h : i < rs.length) : rs.getD i 0 ∈ rs := by
 rw [List.getD_eq_getElem?_getD, List.getElem?_eq_getElem h]
 exact List.getElem_mem h
theorem getD_inj {rs : List Int} (hn : rs.Nodup) {i j : Nat} (hi : i < rs.length) (hj : j < rs.length) (e : rs.getD i 0 = rs.getD j 0) : i = j := by
 rw [List.getD_eq_getElem?_getD, List.getElem?_eq_getElem hi, List.getD_eq_getElem?_getD, List.getElem?_eq_getElem hj] at e
 exact (List.getElem_inj hn).1 e
theorem csF_inj {rs : List Int} {k : Int} (hn : rs.Nodup) {i j : Nat} (hi : i < rs.length) (hj : j < rs.length) (e : csF rs k i = csF rs k j) : i = j := by
 unfold csF at e
 split at e
 ·have := getD_inj hn (by omega) (by omega) e
  omega
 ·exact getD_inj hn hi hj e
theorem selF_mem {rs : List Int} {n k f : Int} {i : Nat} (h : f ∈ selF rs n k i) : ∃ j, j < i ∧ f = csF rs k j := by
 unfold selF at h
 obtain ⟨j, hj, e⟩ := List.mem_filterMap.1 h
 split at e
 ·exact ⟨j, List.mem_range.1 hj, (Option.some.inj e).symm⟩
 ·cases e
theorem selF_nodup {rs : List Int} {n k : Int} (hn : rs.Nodup) : ∀ i, i ≤ rs.length → (selF rs n k i).Nodup
 | 0, _ => List.Pairwise.nil
 | i + 1, hi => by
  have ih := selF_nodup (n := n) (k := k) hn i (by omega)
  by_cases hb : csBit n i = true
  ·rw [selF_in hb]
   refine List.nodup_append.2 ⟨ih, List.pairwise_singleton _ _, fun a ha b hb' e => ?_⟩
   rcases List.mem_singleton.1 hb' with rfl
   obtain ⟨j, hj, e'⟩ := selF_mem ha
   have := csF_inj (k := k) hn (by omega) (by omega) (e'.symm.trans e)
   omega
  ·rw [selF_out (by simpa using hb)]
   exact ih
theorem colF_ok {rs : List Int} {n k : Int} (hn : rs.Nodup) (h1 : 1 ≤ rs.length) (h6 : rs.length ≤ 6) (n0 : 0 ≤ n) : ColOk rs (colF rs n k) := by
 have hl := csAt_len rs n k rs.length
 have hsh := cs_short rs n k rs.length
 have hD : (csD rs n k).length ≤ 8 := by
  unfold csD; split
  ·omega
  ·simp; omega
 have hop := opF_csL rs n k
 obtain ⟨-, -, h3⟩ := cs_sel rs n k rs.length
 refine ⟨?_, ?_, ?_, ?_, ?_, ?_, ?_⟩
 ·show _ ≤ n / 32 % 41 - 5; omega
 ·show n / 32 % 41 - 5 ≤ _; omega
 ·show (csL rs n k).length ≤ 100
  unfold csL; split
  ·simp; omega
  ·omega
 ·show ∀ d ∈ csL rs n k, d.length ≤ 100
  intro d hd
  unfold csL at hd
  split at hd
  ·rcases List.mem_append.1 hd with h | h
   ·have := hsh d h; omega
   ·rcases List.mem_singleton.1 h with rfl; omega
  ·have := hsh d hd; omega
 ·show 0 < (opF (csL rs n k)).length
  rw [hop]; split
  ·exact List.length_pos_iff.2 (h3 (by assumption))
  ·simp
 ·show ∀ f ∈ opF (csL rs n k), f ∈ rs
  intro f hf
  rw [hop] at hf
  split at hf
  ·obtain ⟨j, hj, rfl⟩ := selF_mem hf
   obtain ⟨i, hi, e, -, -⟩ := csF_get (rs := rs) (k := k) hj
   rw [e]; exact getD_mem hi
  ·rcases List.mem_singleton.1 hf with rfl
   have : n / 64 % (rs.length : Int) < rs.length := Int.emod_lt_of_pos _ (by omega)
   exact getD_mem (by omega)
 ·show (opF (csL rs n k)).Nodup
  rw [hop]; split
  ·exact selF_nodup hn _ (Nat.le_refl _)
  ·exact List.pairwise_singleton _ _
theorem rowsT_ok : ∀ i : Fin 6, (rowsT.getD i.1 []).Pairwise (· < ·) ∧ (∀ r ∈ rowsT.getD i.1 [], 0 ≤ r ∧ r < 6) ∧ (rowsT.getD i.1 []).Nodup := by decide
theorem cutT_ok : ∀ i : Fin 6, ∀ s : Fin 5, s.1 < (rowsT.getD i.1 []).length → (cutT (rowsT.getD i.1 []) s.1 (rowsT.getD i.1 []).length).Pairwise (· < ·) ∧ ∀ r ∈ cutT (rowsT.getD i.1 []) s.1 (rowsT.getD i.1 []).length, r ∈ rowsT.getD i.1 [] := by decide
structure RowsOk (rs : List Int) : Prop where
 asc : AscP rs
 low : ∀ r ∈ rs, 0 ≤ r ∧ r < 6
 nd : rs.Nodup
 l3 : 3 ≤ rs.length
 l5 : rs.length ≤ 5
theorem rowsF_ok (l : List Int) : RowsOk (rowsF l) := by
 have h0 := atF_bd l 1 (by omega)
 have h1 : (atF l 1 % 6).toNat < 6 := by omega
 obtain ⟨a, b, c⟩ := rowsT_ok ⟨_, h1⟩
 obtain ⟨d, e⟩ := rowsT_len ⟨_, h1⟩
 exact ⟨ascP_of a, b, c, d, e⟩
structure CutM (rs : List Int) (c : Cut) : Prop where
 asc : AscP c.1
 sub : ∀ r ∈ c.1, r ∈ rs
 two : 2 ≤ c.2
 le : c.2 ≤ (c.1.length : Int)
 l5 : c.1.length ≤ 5
theorem masF_cutM (l : List Int) : ∀ c ∈ (masF l).cuts, CutM (rowsF l) c := by
 intro c hc
 obtain ⟨k, hk, rfl⟩ := List.mem_map.1 hc
 have h0 := atF_bd l 1 (by omega)
 have h3 := atF_bd l 3 (by omega)
 have hk' := List.mem_range.1 hk
 have h20 := atF_bd l (20 + k) (by omega)
 have h1 : (atF l 1 % 6).toNat < 6 := by omega
 have hr := rowsF_ok l
 have hl5 := hr.l5
 have hl3 := hr.l3
 have hs : atF l (20 + k) % ((rowsF l).length : Int) < (rowsF l).length := Int.emod_lt_of_pos _ (by omega)
 have hs0 : 0 ≤ atF l (20 + k) % ((rowsF l).length : Int) := Int.emod_nonneg _ (by omega)
 have hs1 : (atF l (20 + k) % ((rowsF l).length : Int)).toNat < (rowsF l).length := by omega
 have hs5 : (atF l (20 + k) % ((rowsF l).length : Int)).toNat < 5 := by omega
 obtain ⟨a, b⟩ := cutT_ok ⟨_, h1⟩ ⟨_, hs5⟩ hs1
 have c := cutT_long ⟨_, h1⟩ ⟨_, hs5⟩ hs1
 refine ⟨ascP_of a, b, ?_, ?_, Nat.le_trans (cutT_len _ _ _) hl5⟩
 ·show 2 ≤ (if atF l (24 + k) % 2 = 1 then (3 : Int) else 2); split <;> decide
 ·have c' : 2 < (cutF (rowsF l) l k).1.length := c
  show (if atF l (24 + k) % 2 = 1 then (3 : Int) else 2) ≤ _
  split <;> omega
theorem masF_ok (l : List Int) : MsOk (masF l) := by
 have hr := rowsF_ok l
 have h0 := atF_bd l 0 (by omega)
 have h2 := atF_bd l 2 (by omega)
 have hl5 := hr.l5
 have hl3 := hr.l3
 have hc := masF_cuts l
 refine ⟨by show (0 : Int) ≤ 6; decide, by show (6 : Int) ≤ 200; decide, by show 0 ≤ atF l 0 % 30; omega, by show atF l 0 % 30 ≤ _; omega, by show 1 ≤ (rowsF l).length; omega, by show (rowsF l).length ≤ 32; omega, hr.asc, hr.low, ?_, ?_, by omega, ?_⟩
 ·show ((List.range _).map _).length ≤ 1000
  simp only [List.length_map, List.length_range]
  omega
 ·intro c hc
  obtain ⟨j, hj, rfl⟩ := List.mem_map.1 hc
  have hj' := List.mem_range.1 hj
  exact colF_ok (rs := rowsF l) hr.nd (by omega) (by omega) (atF_bd l (5 + 2 * j) (by omega)).1
 ·intro c hc
  have h := masF_cutM l c hc
  exact ⟨h.asc, h.sub, h.two, h.le, by have := h.l5; omega⟩
end Go.Proofs.YtabmjadcoepbeaaGreat

/- One operation of a region that draws its order, walked by the laws over a list of known blocks. No program. -/
namespace Go.Proofs.YtabmjadcoepbeaaGreat
open Go.RowKit
section
variable {P : Program} {ops : Array Oper} {Q : Exit → Act → World → Prop} {S : World → Prop}
def StepL (P : Program) (ops : Array Oper) (Q : Exit → Act → World → Prop) (S : World → Prop) (s fuel : Nat) (listed : Array Bool) (i : Nat) (e : Exit) (a : Act) (w : World) : Prop :=
 e = .normal ∧ ((listed.setIfInBounds i true).getD s false = false → S w) ∧ wpL P ops Q S s fuel (listed.setIfInBounds i true) a w
theorem StepL.mk {s fuel i : Nat} {listed : Array Bool} {a : Act} {w : World} (hS : S w) (h : wpL P ops Q S s fuel (listed.setIfInBounds i true) a w) : StepL P ops Q S s fuel listed i .normal a w := ⟨rfl, fun _ => hS, h⟩
theorem StepL.mkL {s fuel i : Nat} {listed : Array Bool} {a : Act} {w : World} (hs : (listed.setIfInBounds i true).getD s false = true) (h : wpL P ops Q S s fuel (listed.setIfInBounds i true) a w) : StepL P ops Q S s fuel listed i .normal a w :=
 ⟨rfl, (fun h0 => by rw [hs] at h0; cases h0), h⟩
theorem AllL.one {s fuel : Nat} {listed : Array Bool} {a : Act} {w : World} {i : Nat} {o : Oper} {rs : List Nat} (ho : ops.toList[i]? = some o)
  (h : wpList P ops (StepL P ops Q S s fuel listed i) [o] a w) (hs : AllL P ops Q S s fuel listed a w rs) : AllL P ops Q S s fuel listed a w (i :: rs) := fun j hj => by
 rcases List.mem_cons.1 hj with rfl | hj
 ·exact wpOp_of_one (by rw [← Array.getElem?_toList]; exact ho) (fun _ _ _ h => h.1) (fun _ _ h => h.2) h
 ·exact hs j hj
theorem wpL_one {s : Nat} (i : Nat) {o : Oper} {fuel : Nat} {listed : Array Bool} {a : Act} {w : World} (hr : Region.ready .any ops listed = [i]) (ho : ops.toList[i]? = some o)
  (h : wpList P ops (StepL P ops Q S s fuel listed i) [o] a w) : wpL P ops Q S s (fuel + 1) listed a w := wpL_ready [i] hr (by simp) (AllL.one ho h AllL.nil)
theorem wpL_two {s : Nat} (i j : Nat) {o p : Oper} {fuel : Nat} {listed : Array Bool} {a : Act} {w : World} (hr : Region.ready .any ops listed = [i, j]) (ho : ops.toList[i]? = some o) (hp : ops.toList[j]? = some p)
  (h : wpList P ops (StepL P ops Q S s fuel listed i) [o] a w) (h' : wpList P ops (StepL P ops Q S s fuel listed j) [p] a w) : wpL P ops Q S s (fuel + 1) listed a w := wpL_ready [i, j] hr (by simp) (AllL.one ho h (AllL.one hp h' AllL.nil))
end
end Go.Proofs.YtabmjadcoepbeaaGreat

/- Maps from pairs of flights to fractions: what the block of such a map holds. -/
namespace Go.Proofs.YtabmjadcoepbeaaGreat
open Go.RowKit Go.Maps Go.WideShapes

def Wf (a : Int) : Prop := (Lit.int .i64 a).wf = true
def klP (a c : Int) : Lit := .string (keyBytes [.int .i64 a, .int .i64 c])
abbrev PQ := (Int × Int) × Rat
def sumAt (S : List PQ) (p : Int × Int) : Rat := (S.filter fun e => decide (e.1 = p)).foldl (fun s e => s + e.2) ((0 : Int) : Rat)
structure PMap (D : DataW Value) (m : World) (S : List PQ) : Prop where
 mp : IsMap D
 some : ∀ e ∈ S, ∃ v, (∀ z, D.atKey (klP e.1.1 e.1.2) z = .held v) ∧ FracC m v (sumAt S e.1)
 none : ∀ a c, Wf a → Wf c → (∀ e ∈ S, e.1 ≠ (a, c)) → ∀ z, D.atKey (klP a c) z = z
 wf : ∀ e ∈ S, Wf e.1.1 ∧ Wf e.1.2
 keys : ∀ kl, has D kl = true → ∃ e ∈ S, kl = klP e.1.1 e.1.2
theorem PMap.le {D : DataW Value} {m m' : World} {S : List PQ} (h : PMap D m S) (hl : Le m m') : PMap D m' S :=
 ⟨h.mp, fun e he => by obtain ⟨v, h1, h2⟩ := h.some e he; exact ⟨v, h1, h2.le hl⟩, h.none, h.wf, h.keys⟩
theorem PMap.made (m : World) : PMap (.map []) m [] :=
 ⟨⟨[], rfl⟩, (fun _ h => by cases h), (fun _ _ _ _ _ _ => rfl), (fun _ h => by cases h), (fun kl h => by simp [has] at h)⟩
def SumV (m : World) (v : Value) (q : Rat) : Prop := FracC m v q ∨ (v = .agg #[.bool false, .slice none 0 0, .bool false, .slice none 0 0] ∧ q = ((0 : Int) : Rat))
theorem SumV.le {m m' : World} {v : Value} {q : Rat} (h : SumV m v q) (hl : Le m m') : SumV m' v q := h.imp (fun h => h.le hl) id
theorem SumV.lit {m : World} {v : Value} {q : Rat} (h : SumV m v q) : ∃ g A n c f B k d, v = .agg #[.bool g, .slice A n c, .bool f, .slice B k d] := by
 rcases h with h | ⟨rfl, -⟩
 ·obtain ⟨g, A, n, c, f, B, k, d, e, _⟩ := h.lit
  exact ⟨_, _, _, _, _, _, _, _, e⟩
 ·exact ⟨_, _, _, _, _, _, _, _, rfl⟩
end Go.Proofs.YtabmjadcoepbeaaGreat

/- Blocks that are no rows (maps, iterators) beside the list of known blocks: what leaves them; ranging over a map. No program but for the last law's types. -/
namespace Go.Proofs.YtabmjadcoepbeaaGreat
open Go.RowKit Go.Maps

def Still (W W' : World) : Prop := ∀ (b : Nat) (o : Obj), W.heap[b]? = some o → (∀ cs t fr, o ≠ Obj.cells cs t fr) → W'.heap[b]? = some o
theorem Still.refl (W : World) : Still W W := fun _ _ h _ => h
theorem Still.trans {W W' W2 : World} (h : Still W W') (k : Still W' W2) : Still W W2 := fun b o hb hn => k b o (h b o hb hn) hn
theorem Ext.still {W W' : World} (h : Ext W W') : Still W W' := fun b o hb _ => (h.block b (Array.getElem?_eq_some_iff.1 hb).1).trans hb
theorem Loc.join {w0 m0 W m W2 m2 : World} {A B : List Lo} (hL : Loc w0 m0 W m A) (h2 : Loc W m W2 m2 B) : Loc w0 m0 W2 m2 (B ++ A) := by
 refine ⟨hL.size0, hL.ext.trans h2.ext, hL.mext.trans h2.mext, h2.vw, fun x hx => ?_, fun x hx => ?_, fun x hx a ha => ?_, ?_⟩
 ·rcases List.mem_append.1 hx with hx | hx
  ·exact Nat.le_trans hL.ext.size (h2.low x hx)
  ·exact hL.low x hx
 ·rcases List.mem_append.1 hx with hx | hx
  ·exact h2.blk x hx
  ·exact (hL.blk x hx).ext h2.ext
 ·rcases List.mem_append.1 hx with hx | hx
  ·exact h2.hid x hx a ha
  ·have hlt : a.block < m.heap.size := by rw [ha, hL.vw.size]; exact (hL.blk x hx).lt
   rw [h2.mext.cell (p := a) hlt]
   exact hL.hid x hx a ha
 ·rw [List.pairwise_append]
  refine ⟨h2.apart, hL.apart, fun x hx y hy => ?_⟩
  have h1 := h2.low x hx
  have h3 := (hL.blk y hy).lt
  omega
section
variable {P : Program} {ops : Array Oper} {Q : Exit → Act → World → Prop} {rest : List Oper} {o : Oper} {a : Act} {w0 m0 W m : World}
end
section
variable {ops : Array Oper} {Q : Exit → Act → World → Prop} {rest : List Oper} {o : Oper} {a : Act} {w0 m0 W m : World} {Ls : List Lo}
end
end Go.Proofs.YtabmjadcoepbeaaGreat

/- Sorting numbers: plain facts; cmp.isNaN keeps the memory. -/
namespace Go.Proofs.YtabmjadcoepbeaaGreat
open Go.RowKit

theorem nan_w (x : Int) (W : World) : Calls Tryz.prog 100 #[.int .i64 x] W fun e w' => e = .returned (.bool false) ∧ w' = W := by
 have bb : (x != x) = false := by simp
 go_enter Tryz.func100, Tryz.ntmps100
 go_wp2
 go_ret
 exact ⟨rfl, rfl⟩
def SortI (ys : List Nat) (i : Nat) : Prop := ∀ p q, p < q → q < i → ys.getD p 0 ≤ ys.getD q 0
def MidI (ys : List Nat) (i j : Nat) : Prop := ∀ p q, p < q → q ≤ i → q ≠ j → ys.getD p 0 ≤ ys.getD q 0
theorem SortI.one (ys : List Nat) : SortI ys 1 := fun p q h1 h2 => by omega
theorem MidI.start {ys : List Nat} {i : Nat} (h : SortI ys i) : MidI ys i i := fun p q hp hq hne => h p q hp (by omega)
theorem MidI.stop0 {ys : List Nat} {i : Nat} (h : MidI ys i 0) : SortI ys (i + 1) := fun p q hp hq => h p q hp (by omega) (by omega)
theorem getD_at {ys : List Nat} {k a : Nat} (h : ys[k]? = some a) : ys.getD k 0 = a := by rw [List.getD_eq_getElem?_getD, h]; rfl
theorem MidI.stop {ys : List Nat} {i j a b : Nat} (h : MidI ys i (j + 1)) (ha : ys[j + 1]? = some a) (hb : ys[j]? = some b) (hle : ¬ a < b) : SortI ys (i + 1) := by
 intro p q hp hq
 by_cases hqj : q = j + 1
 ·subst hqj
  rw [getD_at ha]
  by_cases hpj : p = j
  ·subst hpj; rw [getD_at hb]; omega
  ·have := h p j (by omega) (by omega) (by omega)
   rw [getD_at hb] at this
   omega
 ·exact h p q hp (by omega) hqj
theorem swap_getD {ys : List Nat} {j a b : Nat} (ha : ys[j + 1]? = some a) (p : Nat) : ((ys.set (j + 1) b).set j a).getD p 0 = if p = j then a else if p = j + 1 then b else ys.getD p 0 := by
 have hlt := (List.getElem?_eq_some_iff.1 ha).1
 simp only [List.getD_eq_getElem?_getD, List.getElem?_set, List.length_set]
 by_cases h1 : p = j
 ·subst h1
  have : p < ys.length := by omega
  simp [this]
 ·rw [if_neg (by omega), if_neg h1]
  by_cases h2 : p = j + 1
  ·subst h2; simp [hlt]
  ·rw [if_neg (by omega), if_neg h2]
theorem MidI.go {ys : List Nat} {i j a b : Nat} (h : MidI ys i (j + 1)) (ha : ys[j + 1]? = some a) (hb : ys[j]? = some b) (hlt : a < b) (hi : j + 1 ≤ i) : MidI ((ys.set (j + 1) b).set j a) i j := by
 intro p q hp hq hne
 rw [swap_getD ha, swap_getD ha, if_neg hne]
 have eb := getD_at hb
 have ea := getD_at ha
 by_cases hq1 : q = j + 1
 ·rw [if_pos hq1]
  by_cases hp1 : p = j
  ·rw [if_pos hp1]; omega
  ·rw [if_neg hp1, if_neg (by omega)]
   have := h p j (by omega) (by omega) (by omega)
   omega
 ·rw [if_neg hq1]
  by_cases hp1 : p = j
  ·rw [if_pos hp1]
   have := h (j + 1) q (by omega) hq hq1
   omega
  ·rw [if_neg hp1]
   by_cases hp2 : p = j + 1
   ·rw [if_pos hp2]
    have := h j q (by omega) hq hq1
    omega
   ·rw [if_neg hp2]
    exact h p q hp hq hq1
theorem swap_perm {ys : List Nat} {i j a b : Nat} (ha : ys[i]? = some a) (hb : ys[j]? = some b) : ((ys.set i b).set j a).Perm ys := by
 obtain ⟨hi, rfl⟩ := List.getElem?_eq_some_iff.1 ha
 obtain ⟨hj, rfl⟩ := List.getElem?_eq_some_iff.1 hb
 have h := Array.swap_perm (xs := ys.toArray) (i := i) (j := j) (by simpa using hi) (by simpa using hj)
 have h2 := Array.perm_iff_toList_perm.1 h
 simpa [Array.swap_def] using h2
theorem SortI.all {ys : List Nat} (h : SortI ys ys.length) (hn : ys.Nodup) : ys.Pairwise (· < ·) := by
 rw [List.pairwise_iff_getElem]
 intro p q hp hq hpq
 have h1 := h p q hpq hq
 rw [List.getD_eq_getElem?_getD, List.getD_eq_getElem?_getD, List.getElem?_eq_getElem hp, List.getElem?_eq_getElem hq] at h1
 have h2 := List.pairwise_iff_getElem.1 hn p q hp hq hpq
 simp only [Option.getD_some] at h1
 omega
theorem nodup_length : ∀ {xs ys : List Int}, xs.Nodup → (∀ x ∈ xs, x ∈ ys) → xs.length ≤ ys.length
 | [], _, _, _ => Nat.zero_le _
 | x :: xs, ys, hn, hs => by
  obtain ⟨h1, h2⟩ := List.nodup_cons.1 hn
  have hx := hs x List.mem_cons_self
  have ih := nodup_length (ys := ys.erase x) h2 fun y hy => (List.mem_erase_of_ne (fun e => h1 (by rw [← e]; exact hy))).2 (hs y (List.mem_cons_of_mem _ hy))
  rw [List.length_erase_of_mem hx] at ih
  have := List.length_pos_of_mem hx
  simp only [List.length_cons]; omega
end Go.Proofs.YtabmjadcoepbeaaGreat

/- Coefficients of cuts: contracts of enumerate.coefficient, enumerate.Coefficient and pairingref27.Coefficient. -/
namespace Go.Proofs.YtabmjadcoepbeaaGreat
open Go.RowKit

def coefN (rs l : List Int) : Nat := (l.filter fun f => decide (f ∈ rs)).length
def coefF (c : Cut) (l : List Int) : Int := (coefN c.1 l : Int) / c.2
theorem coefN_step {rs l : List Int} {j : Nat} {f : Int} (h : l[j]? = some f) : coefN rs (l.take (j + 1)) = if f ∈ rs then coefN rs (l.take j) + 1 else coefN rs (l.take j) := by
 unfold coefN
 rw [← take_snoc h, List.filter_append, List.length_append]
 by_cases hf : f ∈ rs
 ·rw [if_pos hf]; simp [hf]
 ·rw [if_neg hf]; simp [hf]
theorem coefN_end {rs l : List Int} {j : Nat} (h : l.length ≤ j) : coefN rs (l.take j) = coefN rs l := by rw [List.take_of_length_le h]
theorem coefN_le (rs l : List Int) : coefN rs l ≤ l.length := List.length_filter_le _ _
theorem quoE {n : Nat} {d : Int} (hd : 1 ≤ d) (hn : n ≤ 1000000) : wrap64 ((n : Int).tdiv d) = (n : Int) / d ∧ wrap64 ((n : Int) / d) = (n : Int) / d ∧ (n : Int).tdiv d = (n : Int) / d := by
 have e : (n : Int).tdiv d = (n : Int) / d := Int.tdiv_eq_ediv_of_nonneg (by omega)
 have h1 : ((n : Int) / d).natAbs ≤ n := by have := Int.natAbs_ediv_le_natAbs (n : Int) d; simpa using this
 have h2 : wrap64 ((n : Int) / d) = (n : Int) / d := by unfold wrap64; omega
 exact ⟨by rw [e]; exact h2, h2, e⟩
theorem run_makeMapH (n : Int) (w : World) : (Instr.makeMap 109 (some (.int .i64 n))).run Tryz.prog w = .ok (.map (some w.heap.size)) (w.alloc (.map #[] 0)) := by
 simp [Instr.makeMap, Sem.run_bind, run_underlying Tryz.underlying109 w, asInt, asIntOf, run_newObj_alloc, Result.andThen]

theorem e_coefficient (xv v : Value) (x : Cut) (l : List Int) (w m : World) (hV : Vw m w) (hx : CutR m xv x) (h : IntL m v l) (h1 : x.1.length ≤ 1000000) (h2 : l.length ≤ 1000000) (hd : 1 ≤ x.2)
  (hw1 : ∀ r ∈ x.1, (Lit.int .i64 r).wf = true) (hw2 : ∀ f ∈ l, (Lit.int .i64 f).wf = true) :
  Calls Tryz.prog 83 #[xv, v] w (RetV w m fun _ r => r = .int .i64 (coefF x l)) := by
 obtain ⟨rs, d⟩ := x
 obtain ⟨s, rfl, hs, hsl⟩ := hx
 simp only at hs h1 hd hw1
 obtain ⟨A, ca, rfl, hca, hs⟩ := hs.lit
 obtain ⟨B, cb, rfl, hcb, h⟩ := h.lit
 have HS := Lib.hid hs
 have HB := Lib.hid h
 have HW1 := Lib.hid hw1
 have HW2 := Lib.hid hw2
 have HNB : Hid (coefN rs l ≤ 1000000) := Nat.le_trans (coefN_le rs l) h2
 have hL := Loc.start hV
 clear hV hs h hsl hw1 hw2
 simp only
 generalize hn : rs.length = n at *
 have HN := Lib.hid hn
 clear hn
 generalize hk : l.length = k at *
 have HK := Lib.hid hk
 clear hk
 have hmm := run_makeMapH
 go_enter Tryz.func83, Tryz.ntmps83
 go_upto_region 0 with (fail)
 refine wp_region_lit ?_
 refine t_box hL rfl rfl ?_; clear hL; intro Wh2 mh2 hL eh2; simp only [Act.put, zq1, zq2, zq3]
 go_upto_region 2 with ((first | go_skip | refine tP ?_ | (refine tB ?_; clear hL; intro _ _ hL _)))
 clear hmm
 have hlow : w.heap.size ≤ Wh2.heap.size := hL.ext.size
 have hsz := hL.vw.size
 have hL9 := hL.allocM (.map #[] 0)
 clear hL
 have hL := hL9
 clear hL9
 refine wp_region_lit ?_
 go_wp2_with (first | go_skip | refine tP ?_ | (refine tB ?_; clear hL; intro _ _ hL _))
 go_loopw [18] (fun i wr => ∃ (j : Nat) (mm : World), j ≤ n ∧ i = .int .i64 j ∧ Loc w m wr mm [(w.heap.size, 69, #[.slice A n ca, .int .i64 d])] ∧ Hid (BSet wr Wh2.heap.size (rs.take j))) (fun i _ => n - (intOf i).toNat)
 case atStart => exact ⟨0, _, Nat.zero_le _, rfl, hL, BSet.made _⟩
 case round =>
  clear hL
  obtain ⟨j, mm, hj, rfl, hL, HBS⟩ := hrel
  have hM := hL.mext
  by_cases hlt : j < n
  ·obtain ⟨f, hf⟩ := at_some HN hlt
   obtain ⟨b3, o3, rfl, hc3⟩ := IntL.at_ HS.out hf
   have HT : Hid (rs.take j ++ [f] = rs.take (j + 1)) := take_snoc hf
   have HLN : Hid ((rs.take j).length ≤ 1000000) := by show _ ≤ _; simp; omega
   have hlt' : (j : Int) < (n : Int) := by omega
   obtain ⟨W9, hup, hb9, hg9⟩ := HBS.out.up HLN.out (HW1.out f (List.mem_of_getElem? hf))
   have HB9 := Lib.hid hb9
   have HG9 := Lib.hid hg9
   have HNC := Lib.hid HBS.out.notCells
   clear hf hb9 hg9
   go_wp2_with (first | go_skip | refine tP ?_ | (refine tB ?_; clear hL; intro _ _ hL _))
   go_roundw
   case rel => exact ⟨j + 1, _, by omega, by go_num, hL.mapTurn HG9.out hlow HNC.out, by rw [← HT.out]; exact HB9.out⟩
   case measure => simp [intOf] <;> omega
  ·have HBR : Hid (BSet wr Wh2.heap.size rs) := by
    show BSet _ _ _
    have := HBS.out
    rwa [List.take_of_length_le (by rw [HN.out]; omega)] at this
   have h9 : (n : Int) ≤ (j : Int) := by omega
   clear HBS
   go_wp2_with (first | go_skip | refine tP ?_ | (refine tB ?_; clear hL; intro _ _ hL _))
   clear h9 hlt hj
   go_loopw [8, 27] (fun nn i w2 => ∃ (j : Nat) (mm : World), j ≤ k ∧ i = .int .i64 j ∧ nn = .int .i64 (coefN rs (l.take j) : Nat) ∧ Loc w m w2 mm [(w.heap.size, 69, #[.slice A n ca, .int .i64 d])] ∧ Hid (BSet w2 Wh2.heap.size rs)) (fun _ i _ => k - (intOf i).toNat)
   case atStart => exact ⟨0, _, Nat.zero_le _, rfl, rfl, hL, HBR.out⟩
   case round =>
    clear hL hM HBR
    obtain ⟨j, mm, hj, rfl, rfl, hL, HBS⟩ := hrel
    have hM := hL.mext
    by_cases hlt : j < k
    ·obtain ⟨f, hf⟩ := at_some HK hlt
     obtain ⟨b4, o4, rfl, hc4⟩ := IntL.at_ HB.out hf
     have HST := Lib.hid (coefN_step (rs := rs) hf)
     have hlt' : (j : Int) < (k : Int) := by omega
     have hlk := HBS.out.look (HW2.out f (List.mem_of_getElem? hf))
     have HCL : coefN rs (l.take j) ≤ 1000000 := by
      have h1 := coefN_le rs (l.take j)
      have h2 : (l.take j).length ≤ j := by simp; omega
      omega
     clear hf
     generalize hcn : coefN rs (l.take j) = cn at *
     have HCN := Lib.hid hcn
     clear hcn
     by_cases hin : f ∈ rs
     ·rw [decide_eq_true hin] at hlk
      rw [if_pos hin] at HST
      clear hin
      go_wp2_with (first | go_skip | refine tP ?_ | (refine tB ?_; clear hL; intro _ _ hL _))
      go_roundw
      case rel => exact ⟨j + 1, _, by omega, by go_num, by rw [HST.out]; go_num, hL, HBS.out⟩
      case measure => simp [intOf] <;> omega
     ·rw [decide_eq_false hin] at hlk
      rw [if_neg hin] at HST
      clear hin
      go_wp2_with (first | go_skip | refine tP ?_ | (refine tB ?_; clear hL; intro _ _ hL _))
      go_roundw
      case rel => exact ⟨j + 1, _, by omega, by go_num, by rw [HST.out], hL, HBS.out⟩
      case measure => simp [intOf] <;> omega
    ·have HE : Hid (coefN rs (l.take j) = coefN rs l) := coefN_end (by rw [HK.out]; omega)
     rw [HE.out]
     have h9 : (k : Int) ≤ (j : Int) := by omega
     have HQ := Lib.hid (quoE hd HNB.out)
     have hd0 : d ≠ 0 := by omega
     have HCF : Hid (coefF (rs, d) l = ((coefN rs l : Nat) : Int) / d) := rfl
     generalize coefN rs l = cn at *
     go_wp2_with (first | go_skip | refine tP ?_ | (refine tB ?_; clear hL; intro _ _ hL _))
     go_ret
     exact RetV.mk hL (by rw [HCF.out]; exact congrArg (Value.int .i64) HQ.out.2.1)

theorem r_Coefficient (xv v : Value) (x : Cut) (l : List Int) (w m : World) (hV : Vw m w) (hx : CutR m xv x) (h : IntL m v l) (h1 : x.1.length ≤ 1000000) (h2 : l.length ≤ 1000000) (hd : 1 ≤ x.2) :
  Calls Tryz.prog 30 #[xv, v] w (RetV w m fun _ r => r = .int .i64 (coefF x l)) := by
 obtain ⟨rs, d⟩ := x
 obtain ⟨s, rfl, hs, hsl⟩ := hx
 simp only at hs h1 hd
 obtain ⟨A, ca, rfl, hca, hs⟩ := hs.lit
 obtain ⟨B, cb, rfl, hcb, h⟩ := h.lit
 have HS := Lib.hid hs
 have HB := Lib.hid h
 have HNB : Hid (coefN rs l ≤ 1000000) := Nat.le_trans (coefN_le rs l) h2
 have H1 := Lib.hid h1
 have hL := Loc.start hV
 clear hV hs h hsl
 simp only
 generalize hn : rs.length = n at *
 generalize hk : l.length = k at *
 have HK := Lib.hid hk
 clear hk
 have HN := Lib.hid hn
 clear hn
 go_enter Tryz.func30, Tryz.ntmps30
 go_upto_region 0 with (fail)
 refine wp_region_lit ?_
 refine t_box hL rfl rfl ?_; clear hL; intro Wh2 mh2 hL eh2; simp only [Act.put, zq1, zq2, zq3]
 go_wp2_with (first | go_skip | refine tP ?_ | (refine tB ?_; clear hL; intro _ _ hL _))
 go_loopw [5, 6] (fun nn i w2 => ∃ (j : Nat) (mm : World), j ≤ k ∧ i = .int .i64 j ∧ nn = .int .i64 (coefN rs (l.take j) : Nat) ∧ Loc w m w2 mm [(w.heap.size, 69, #[.slice A n ca, .int .i64 d])]) (fun _ i _ => k - (intOf i).toNat)
 case atStart => exact ⟨0, _, Nat.zero_le _, rfl, rfl, hL⟩
 case round =>
  clear hL
  obtain ⟨j, mm, hj, rfl, rfl, hL⟩ := hrel
  have hM := hL.mext
  by_cases hlt : j < k
  ·obtain ⟨f, hf⟩ := at_some HK hlt
   obtain ⟨b4, o4, rfl, hc4⟩ := IntL.at_ HB.out hf
   have HST := Lib.hid (coefN_step (rs := rs) hf)
   have hlt' : (j : Int) < (k : Int) := by omega
   have HCL : coefN rs (l.take j) ≤ 1000000 := by
    have h1 := coefN_le rs (l.take j)
    have h2 : (l.take j).length ≤ j := by simp; omega
    omega
   clear hf
   generalize hcn : coefN rs (l.take j) = cn at *
   have HCN := Lib.hid hcn
   clear hcn
   by_cases hin : f ∈ rs
   ·rw [if_pos hin] at HST
    have HIN : Hid (decide (f ∈ rs) = true) := decide_eq_true hin
    clear hin
    go_upto_region 5 with ((first | go_skip | refine tP ?_ | (refine tB ?_; clear hL; intro _ _ hL _)))
    (try simp only [eq_self] at *)
    refine wp_region_by2 7 [false, false, false, false, false, false, false] [false, false, false, false, false, false, false] [(fun v _ _ => v = ?c5_0a), (fun v _ _ => v = ?c5_1a), (fun v _ _ => v = ?c5_2a), (fun v _ _ => v = ?c5_3a), (fun v _ _ => v = ?c5_4a), (fun v _ _ => v = ?c5_5a), Is (.bool (decide (f ∈ rs)))] hL.vw mixed [13, 14, 15, 16, 17, 18, 19] _ (by kernel_rfl) (fun vs => by simp only [lay, Act.put, zq1, zq2, zq3]; rfl) (by kernel_rfl) (by decide) (by decide) ?s5a ?l5a ?r5a
    case s5a =>
     refine ⟨?_, ?_, ?_, ?_, ?_, ?_, ?_, trivial⟩
     ·intro vs W1 m1 hE hM hV hD; clear hD
      exact sFe
     ·intro vs W1 m1 hE hM hV hD; obtain ⟨⟨_, _, -, -, f13⟩, -⟩ := hD
      rw [(f13 : vs 13 = _)]; clear f13; exact sLe
     ·intro vs W1 m1 hE hM hV hD; clear hD
      exact sPw
     ·intro vs W1 m1 hE hM hV hD; clear hD
      exact sPw
     ·intro vs W1 m1 hE hM hV hD; obtain ⟨⟨_, _, -, -, f15⟩, ⟨_, _, -, -, f16⟩, -⟩ := hD
      rw [(f15 : vs 15 = _), (f16 : vs 16 = _)]; clear f15 f16; exact sIy
     ·intro vs W1 m1 hE hM hV hD; obtain ⟨⟨_, _, -, -, f17⟩, -⟩ := hD
      rw [(f17 : vs 17 = _)]; clear f17; exact sLe
     ·intro vs W1 m1 hE hM hV hD; obtain ⟨⟨_, _, -, -, f14⟩, ⟨_, _, -, -, f18⟩, -⟩ := hD
      rw [(f14 : vs 14 = _), (f18 : vs 18 = _)]
      clear f14 f18
      go_wp2_with fail
      refine (r_Has _ rs f _ _ hV (IntL.le HS.out leX) (by rw [HN.out]; exact H1.out)).mono ?_
      rintro e W2 ⟨v, m2, rfl, hE2, hM2, hV2, h⟩
      go_wp2_with fail
      refine One2.call hE2 hM2 hV2 ?_; first | exact h | exact rfl
    case l5a =>
     refine ⟨nF, nF, nF, nF, nF, nF, nF, trivial⟩
    intro vs W1 m1 hE hM hV hF hD
    clear hD
    obtain ⟨⟨_, _, -, -, f13⟩, ⟨_, _, -, -, f14⟩, ⟨_, _, -, -, f15⟩, ⟨_, _, -, -, f16⟩, ⟨_, _, -, -, f17⟩, ⟨_, _, -, -, f18⟩, ⟨_, _, -, -, f19⟩, -⟩ := hF
    replace hL := hL.call hE hM hV
    have f13 : vs 13 = _ := f13
    generalize vs 13 = x13 at f13 ⊢
    subst x13
    have f14 : vs 14 = _ := f14
    generalize vs 14 = x14 at f14 ⊢
    subst x14
    have f15 : vs 15 = _ := f15
    generalize vs 15 = x15 at f15 ⊢
    subst x15
    have f16 : vs 16 = _ := f16
    generalize vs 16 = x16 at f16 ⊢
    subst x16
    have f17 : vs 17 = _ := f17
    generalize vs 17 = x17 at f17 ⊢
    subst x17
    have f18 : vs 18 = _ := f18
    generalize vs 18 = x18 at f18 ⊢
    subst x18
    have f19 : vs 19 = _ := f19
    generalize vs 19 = x19 at f19 ⊢
    subst x19
    clear hE hV
    simp only [List.drop_succ_cons, List.drop_zero]
    go_wp2_with (first | go_skip | refine tP ?_ | (refine tB ?_; clear hL; intro _ _ hL _))
    refine QN.mk ?_
    rw [HIN.out]
    go_wp2_with (first | go_skip | refine tP ?_ | (refine tB ?_; clear hL; intro _ _ hL _))
    go_roundw
    case rel => exact ⟨j + 1, _, by omega, by go_num, by rw [HST.out]; go_num, hL⟩
    case measure => simp [intOf] <;> omega
   ·rw [if_neg hin] at HST
    have HIN : Hid (decide (f ∈ rs) = false) := decide_eq_false hin
    clear hin
    go_upto_region 5 with ((first | go_skip | refine tP ?_ | (refine tB ?_; clear hL; intro _ _ hL _)))
    (try simp only [eq_self] at *)
    refine wp_region_by2 7 [false, false, false, false, false, false, false] [false, false, false, false, false, false, false] [(fun v _ _ => v = ?c5_0b), (fun v _ _ => v = ?c5_1b), (fun v _ _ => v = ?c5_2b), (fun v _ _ => v = ?c5_3b), (fun v _ _ => v = ?c5_4b), (fun v _ _ => v = ?c5_5b), Is (.bool (decide (f ∈ rs)))] hL.vw mixed [13, 14, 15, 16, 17, 18, 19] _ (by kernel_rfl) (fun vs => by simp only [lay, Act.put, zq1, zq2, zq3]; rfl) (by kernel_rfl) (by decide) (by decide) ?s5b ?l5b ?r5b
    case s5b =>
     refine ⟨?_, ?_, ?_, ?_, ?_, ?_, ?_, trivial⟩
     ·intro vs W1 m1 hE hM hV hD; clear hD
      exact sFe
     ·intro vs W1 m1 hE hM hV hD; obtain ⟨⟨_, _, -, -, f13⟩, -⟩ := hD
      rw [(f13 : vs 13 = _)]; clear f13; exact sLe
     ·intro vs W1 m1 hE hM hV hD; clear hD
      exact sPw
     ·intro vs W1 m1 hE hM hV hD; clear hD
      exact sPw
     ·intro vs W1 m1 hE hM hV hD; obtain ⟨⟨_, _, -, -, f15⟩, ⟨_, _, -, -, f16⟩, -⟩ := hD
      rw [(f15 : vs 15 = _), (f16 : vs 16 = _)]; clear f15 f16; exact sIy
     ·intro vs W1 m1 hE hM hV hD; obtain ⟨⟨_, _, -, -, f17⟩, -⟩ := hD
      rw [(f17 : vs 17 = _)]; clear f17; exact sLe
     ·intro vs W1 m1 hE hM hV hD; obtain ⟨⟨_, _, -, -, f14⟩, ⟨_, _, -, -, f18⟩, -⟩ := hD
      rw [(f14 : vs 14 = _), (f18 : vs 18 = _)]
      clear f14 f18
      go_wp2_with fail
      refine (r_Has _ rs f _ _ hV (IntL.le HS.out leX) (by rw [HN.out]; exact H1.out)).mono ?_
      rintro e W2 ⟨v, m2, rfl, hE2, hM2, hV2, h⟩
      go_wp2_with fail
      refine One2.call hE2 hM2 hV2 ?_; first | exact h | exact rfl
    case l5b =>
     refine ⟨nF, nF, nF, nF, nF, nF, nF, trivial⟩
    intro vs W1 m1 hE hM hV hF hD
    clear hD
    obtain ⟨⟨_, _, -, -, f13⟩, ⟨_, _, -, -, f14⟩, ⟨_, _, -, -, f15⟩, ⟨_, _, -, -, f16⟩, ⟨_, _, -, -, f17⟩, ⟨_, _, -, -, f18⟩, ⟨_, _, -, -, f19⟩, -⟩ := hF
    replace hL := hL.call hE hM hV
    have f13 : vs 13 = _ := f13
    generalize vs 13 = x13 at f13 ⊢
    subst x13
    have f14 : vs 14 = _ := f14
    generalize vs 14 = x14 at f14 ⊢
    subst x14
    have f15 : vs 15 = _ := f15
    generalize vs 15 = x15 at f15 ⊢
    subst x15
    have f16 : vs 16 = _ := f16
    generalize vs 16 = x16 at f16 ⊢
    subst x16
    have f17 : vs 17 = _ := f17
    generalize vs 17 = x17 at f17 ⊢
    subst x17
    have f18 : vs 18 = _ := f18
    generalize vs 18 = x18 at f18 ⊢
    subst x18
    have f19 : vs 19 = _ := f19
    generalize vs 19 = x19 at f19 ⊢
    subst x19
    clear hE hV
    simp only [List.drop_succ_cons, List.drop_zero]
    go_wp2_with (first | go_skip | refine tP ?_ | (refine tB ?_; clear hL; intro _ _ hL _))
    refine QN.mk ?_
    rw [HIN.out]
    go_wp2_with (first | go_skip | refine tP ?_ | (refine tB ?_; clear hL; intro _ _ hL _))
    go_roundw
    case rel => exact ⟨j + 1, _, by omega, by go_num, by rw [HST.out], hL⟩
    case measure => simp [intOf] <;> omega
  ·have HE : Hid (coefN rs (l.take j) = coefN rs l) := coefN_end (by rw [HK.out]; omega)
   rw [HE.out]
   have h9 : (k : Int) ≤ (j : Int) := by omega
   have HQ := Lib.hid (quoE hd HNB.out)
   have hd0 : d ≠ 0 := by omega
   have HCF : Hid (coefF (rs, d) l = ((coefN rs l : Nat) : Int) / d) := rfl
   generalize coefN rs l = cn at *
   go_wp2_with (first | go_skip | refine tP ?_ | (refine tB ?_; clear hL; intro _ _ hL _))
   go_ret
   exact RetV.mk hL (by rw [HCF.out]; exact congrArg (Value.int .i64) HQ.out.2.1)

theorem e_Coefficient (xv v : Value) (x : Cut) (s : ByteArray) (ds : List (List Task)) (w m : World) (hV : Vw m w) (hx : CutR m xv x) (h : DutsL m v ds) (h1 : x.1.length ≤ 1000000) (h2 : ds.length ≤ 100) (h3 : ∀ d ∈ ds, d.length ≤ 100) (h4 : (opF ds).length ≤ 1000000) (hd : 2 ≤ x.2)
  (hw1 : ∀ r ∈ x.1, (Lit.int .i64 r).wf = true) (hw2 : ∀ f ∈ opF ds, (Lit.int .i64 f).wf = true) :
  Calls Tryz.prog 60 #[xv, .agg #[.string s, v]] w (RetV w m fun _ r => r = .tuple #[.int .i64 (coefF x (opF ds)), .int .i64 0]) := by
 have HX := Lib.hid hx
 obtain ⟨rs, d⟩ := x
 obtain ⟨s', rfl, hs, hsl⟩ := hx
 simp only at hs h1 hd hw1
 obtain ⟨A, ca, rfl, hca, hs⟩ := hs.lit
 obtain ⟨D, cd, rfl, hcd, h⟩ := h.lit
 have HD := Lib.hid h
 have H2 := Lib.hid h2
 have H3 := Lib.hid h3
 have H4 := Lib.hid h4
 have HK : Hid (∀ v w m', Vw m' w → Le m m' → IntL m' v (opF ds) → Calls Tryz.prog 83 #[.agg #[.slice A rs.length ca, .int .i64 d], v] w (RetV w m' fun _ r => r = .int .i64 (coefF (rs, d) (opF ds)))) := by
  show ∀ v w m', _
  exact fun v w m' hV hle hl => e_coefficient _ v (rs, d) (opF ds) w m' hV (HX.out.le hle) hl h1 H4.out (by show 1 ≤ d; omega) hw1 hw2
 have hL := Loc.start hV
 clear hV hs h hsl h1 h2 h3 h4 hw1 hw2 HX
 generalize coefF (rs, d) (opF ds) = z at *
 generalize rs.length = n at *
 generalize hnd : ds.length = nd at *
 have HND := Lib.hid hnd
 clear hnd
 go_enter Tryz.func60, Tryz.ntmps60
 go_upto_region 0 with (fail)
 refine wp_region_lit ?_
 refine t_box hL rfl rfl ?_; clear hL; intro Wh2 mh2 hL eh2; simp only [Act.put, zq1, zq2, zq3]
 refine t_box hL rfl rfl ?_; clear hL; intro Wh3 mh3 hL eh3; simp only [Act.put, zq1, zq2, zq3]
 go_upto_region 3 with ((first | go_skip | refine tP ?_ | (refine tB ?_; clear hL; intro _ _ hL _)))
 refine wp_region_by2 6 [false, false, false, false, false, false] [false, false, false, false, false, false] [(fun v _ _ => v = ?c3_0), (fun v _ _ => v = ?c3_1), Of (fun um v => IntL um v (opF ds)), Is (.int .i64 z), (fun v _ _ => v = ?c3_4), (fun v _ _ => v = ?c3_5)] hL.vw mixed [9, 10, 11, 12, 4, 5] _ (by kernel_rfl) (fun vs => by simp only [lay, Act.put, zq1, zq2, zq3]; rfl) (by kernel_rfl) (by decide) (by decide) ?s3 ?l3 ?r3
 case s3 =>
  refine ⟨?_, ?_, ?_, ?_, ?_, ?_, trivial⟩
  ·intro vs W1 m1 hE hM hV hD; clear hD
   exact sLe
  ·intro vs W1 m1 hE hM hV hD; clear hD
   exact sLe
  ·intro vs W1 m1 hE hM hV hD; obtain ⟨⟨_, _, -, -, f10⟩, -⟩ := hD
   rw [(f10 : vs 10 = _)]
   clear f10
   go_wp2_with fail
   refine (e_Operated s _ ds _ _ hV (DutsL.le HD.out leX) (by rw [HND.out]; exact H2.out) H3.out).mono ?_
   rintro e W2 ⟨v, m2, rfl, hE2, hM2, hV2, h⟩
   go_wp2_with fail
   refine One2.call hE2 hM2 hV2 ?_; first | exact h | exact rfl
  ·intro vs W1 m1 hE hM hV hD; obtain ⟨⟨_, _, -, -, f9⟩, ⟨_, _, -, i11, f11⟩, -, -⟩ := hD
   rw [(f9 : vs 9 = _)]
   clear f9
   have f11 : IntL _ (vs 11) (opF ds) := f11
   replace f11 := f11.le i11.le
   clear i11
   go_wp2_with fail
   refine (HK.out _ _ _ hV leX f11).mono ?_
   rintro e W2 ⟨v, m2, rfl, hE2, hM2, hV2, h⟩
   go_wp2_with fail
   refine One2.call hE2 hM2 hV2 ?_; first | exact h | exact rfl
  ·intro vs W1 m1 hE hM hV hD; obtain ⟨⟨_, _, -, -, f12⟩, -, -, -, -, -, -⟩ := hD
   rw [(f12 : vs 12 = _)]
   clear f12
   replace hL := hL.call hE hM hV
   go_wp2_with (first | go_skip | refine tP ?_ | (refine tB ?_; clear hL; intro _ _ hL _))
   refine One2.still hV ?_; exact rfl
  ·intro vs W1 m1 hE hM hV hD; clear hD; replace hL := hL.call hE hM hV
   go_wp2_with (first | go_skip | refine tP ?_ | (refine tB ?_; clear hL; intro _ _ hL _))
   refine One2.still hV ?_; exact rfl
 case l3 =>
  refine ⟨nF, nF, nF, nF, nF, nF, trivial⟩
 intro vs W1 m1 hE hM hV hF hD
 clear hD
 obtain ⟨⟨_, _, -, -, f9⟩, ⟨_, _, -, -, f10⟩, ⟨_, _, -, i11, f11⟩, ⟨_, _, -, -, f12⟩, ⟨_, _, -, -, f4⟩, ⟨_, _, -, -, f5⟩, -⟩ := hF
 replace hL := hL.call hE hM hV
 have f9 : vs 9 = _ := f9
 generalize vs 9 = x9 at f9 ⊢
 subst x9
 have f10 : vs 10 = _ := f10
 generalize vs 10 = x10 at f10 ⊢
 subst x10
 replace f11 : IntL _ (vs 11) (opF ds) := f11
 replace f11 := f11.le i11.le
 clear i11
 have f12 : vs 12 = _ := f12
 generalize vs 12 = x12 at f12 ⊢
 subst x12
 have f4 : vs 4 = _ := f4
 generalize vs 4 = x4 at f4 ⊢
 subst x4
 have f5 : vs 5 = _ := f5
 generalize vs 5 = x5 at f5 ⊢
 subst x5
 clear hE hV
 simp only [List.drop_succ_cons, List.drop_zero]
 go_wp2_with (first | go_skip | refine tP ?_ | (refine tB ?_; clear hL; intro _ _ hL _))
 refine QN.mk ?_
 go_wp2_with (first | go_skip | refine tP ?_ | (refine tB ?_; clear hL; intro _ _ hL _))
 go_ret2
 exact RetV.mk hL rfl
end Go.Proofs.YtabmjadcoepbeaaGreat

/- Rows that append built: an element is read, written, cut off; 'clear'. (The cuts' texts AE2, AE5, AE6, AL1 hold the same.) -/
namespace Go.Proofs.YtabmjadcoepbeaaGreat
open Go.RowKit

theorem RowA.block {α : Type} {e : TypeId} {size : Nat} {R : World → Value → α → Prop} {m : World} {v : Value} {n : Nat} {xs : List α} {Rr : List Lo} (h : RowA e size R m v n xs Rr) (hn : 0 < n) :
  ∃ g cap cur, v = .slice (some ⟨g, 0, none⟩) n cap ∧ Rr = [(g, e, cur)] ∧ n ≤ cap ∧ cur.size = cap * size := by
 obtain ⟨vs, ⟨h0, h1⟩, h2, h3, h4⟩ := h
 rcases h1 with ⟨-, h1, -⟩ | ⟨g, cap, cur, e1, e2, h5, -, h6, -⟩
 ·omega
 ·exact ⟨g, cap, cur, e1, e2, h5, h6⟩
theorem RowA.at_ {α : Type} {e : TypeId} {size : Nat} {R : World → Value → α → Prop} {m : World} {v : Value} {n g : Nat} {cur : Array Value} {xs : List α} (h : RowA e size R m v n xs [(g, e, cur)]) {k : Nat} {x : α} (hk : xs[k]? = some x) :
  ∃ u, R m u x ∧ u.cells.size = size ∧ ∀ j, j < size → cur[0 + k * size + j]? = u.cells[j]? := by
 obtain ⟨vs, ⟨h0, h1⟩, h2, h3, h4⟩ := h
 obtain ⟨u, hu, hR⟩ := h3.at_ hk
 refine ⟨u, hR, h2 u (List.mem_of_getElem? hu), fun j hj => ?_⟩
 have hc := cellsOf_at h2 hu j hj
 rcases h1 with ⟨-, -, h1⟩ | ⟨g', cap, cur', e1, e2, h5, -, h6, h7⟩
 ·cases h1
 ·cases e2
  rw [← h7, List.getElem?_take] at hc
  have hkn : k < n := by rw [← h4]; exact (List.getElem?_eq_some_iff.1 hu).1
  have hlt : k * size + j < n * size := by
   have : (k + 1) * size ≤ n * size := Nat.mul_le_mul_right _ hkn
   rw [Nat.succ_mul] at this; omega
  rw [if_pos hlt, Array.getElem?_toList] at hc
  rw [Nat.zero_add, hc, Array.getElem?_toList]
theorem RowA.put {α : Type} {e : TypeId} {size : Nat} {R : World → Value → α → Prop} {m : World} {v : Value} {n g : Nat} {cur : Array Value} {xs : List α} (h : RowA e size R m v n xs [(g, e, cur)]) {k o : Nat} {x : α} {ws cs : List Value} (hk : k < xs.length) (ho : o + ws.length ≤ size)
  (hcs : cs.length = size) (hc : ∀ j, j < size → cs[j]? = if o ≤ j ∧ j < o + ws.length then ws[j - o]? else cur[0 + k * size + j]?) (hR : R m (.agg cs.toArray) x) :
  RowA e size R m v n (xs.set k x) [(g, e, splice cur (k * size + o) ws)] := by
 obtain ⟨vs, ⟨h0, h1⟩, h2, h3, h4⟩ := h
 have hl := h3.length
 have hkn : k < n := by omega
 have hle : (k + 1) * size ≤ n * size := Nat.mul_le_mul_right _ hkn
 rw [Nat.succ_mul] at hle
 rcases h1 with ⟨-, h1, -⟩ | ⟨g', cap, cur', e1, e2, h5, h5', h6, h7⟩
 ·omega
 ·cases e2
  have hcap : n * size ≤ cap * size := Nat.mul_le_mul_right _ h5
  have hset : ∀ j, (cellsOf (vs.set k (.agg cs.toArray)))[j]? = if k * size ≤ j ∧ j < k * size + size then cs[j - k * size]? else (cellsOf vs)[j]? := cellsOf_set h2 hcs (by omega)
  refine ⟨vs.set k (.agg cs.toArray), ⟨?_, .inr ⟨g, cap, _, e1, rfl, h5, h5', by rw [splice_size]; exact h6, ?_⟩⟩, ?_, h3.set hR, by simpa using h4⟩
  ·have h8 := cellsOf_length (vs := vs.set k (.agg cs.toArray)) (size := size) (by
    intro u hu
    rcases List.mem_or_eq_of_mem_set hu with hu | rfl
    ·exact h2 u hu
    ·simpa [Value.cells] using hcs)
   rw [h8]; simp [h4]
  ·apply List.ext_getElem?
   intro j
   rw [List.getElem?_take, Array.getElem?_toList, splice_at ws _ _ (by rw [h6]; omega), hset, ← h7]
   by_cases hj : j < n * size
   ·rw [if_pos hj, List.getElem?_take, if_pos hj, Array.getElem?_toList]
    by_cases h9 : k * size ≤ j ∧ j < k * size + size
    ·rw [if_pos h9, hc _ (by omega)]
     by_cases h10 : k * size + o ≤ j ∧ j < k * size + o + ws.length
     ·rw [if_pos h10, if_pos (by omega), show j - (k * size + o) = j - k * size - o by omega]; simp
     ·rw [if_neg h10, if_neg (by omega), show 0 + k * size + (j - k * size) = j by omega]
    ·rw [if_neg h9, if_neg (by omega)]; simp
   ·rw [if_neg hj, if_neg (by omega), List.getElem?_take, if_neg hj]
  ·intro u hu
   rcases List.mem_or_eq_of_mem_set hu with hu | rfl
   ·exact h2 u hu
   ·simpa [Value.cells] using hcs
theorem RowA.fit {α : Type} {e : TypeId} {size : Nat} {R : World → Value → α → Prop} {m : World} {v : Value} {n g : Nat} {cur : Array Value} {xs : List α} (h : RowA e size R m v n xs [(g, e, cur)]) : n * size ≤ cur.size := by
 obtain ⟨vs, ⟨h0, h1⟩, h2, h3, h4⟩ := h
 rcases h1 with ⟨-, -, h1⟩ | ⟨g', cap, cur', e1, e2, h5, -, h6, h7⟩
 ·cases h1
 ·cases e2
  rw [h6]; exact Nat.mul_le_mul_right _ h5
section
variable {P : Program} {ops : Array Oper} {Q : Exit → Act → World → Prop} {rest : List Oper} {o : Oper} {a : Act} {w0 m0 W m : World} {Ls : List Lo}
end
theorem stS {P : Program} {ops : Array Oper} {Q : Exit → Act → World → Prop} {rest : List Oper} {a : Act} {W : World} {d : Option Tmp} {ty t : TypeId} {pos : String} {af : Array Edge} {gd : Option (Nat × Bool)} {p q : Operand}
  (h : Hid (wpList P ops Q (⟨d, .store t p q, ty, pos, af, gd⟩ :: rest) a W)) : wpList P ops Q (⟨d, .store t p q, ty, pos, af, gd⟩ :: rest) a W := h
def natL (s : List Nat) : List Int := s.map fun (i : Nat) => (i : Int)
theorem natL_len (s : List Nat) : (natL s).length = s.length := by simp [natL]
theorem natL_at {s : List Nat} {i x : Nat} (h : s[i]? = some x) : (natL s)[i]? = some (x : Int) := by simp [natL, h]
theorem natL_set {s : List Nat} {i x : Nat} : (natL s).set i (x : Int) = natL (s.set i x) := by simp [natL, List.map_set]
theorem lb_int : lfB Tryz.prog 3 = true := by kernel_rfl
theorem row_int {m : World} {v : Value} {n g : Nat} {cur : Array Value} {xs : List Int} (h : RowA 3 1 IsI m v n xs [(g, 3, cur)]) {k : Nat} {x : Int} (hk : xs[k]? = some x) : cur[0 + k]? = some (.int .i64 x) := by
 obtain ⟨u, hu, -, hr⟩ := h.at_ hk
 have h0 := hr 0 (by omega)
 have hu' : u = .int .i64 x := hu
 rw [hu', Nat.mul_one, Nat.add_zero] at h0
 rw [h0]; rfl
theorem RowA.putI {m : World} {v : Value} {n g k : Nat} {cur : Array Value} {xs : List Int} {x : Int} (h : RowA 3 1 IsI m v n xs [(g, 3, cur)]) : RowA 3 1 IsI m v n (xs.set k x) [(g, 3, splice cur (0 + k) [.int .i64 x])] := by
 obtain ⟨vs, ⟨h0, h1⟩, h2, h3, h4⟩ := h
 have hvs := all2_ints h3
 subst hvs
 rcases h1 with ⟨-, -, h1⟩ | ⟨g', cap, cur', e1, e2, h5, h5', h6, h7⟩
 ·cases h1
 ·cases e2
  refine ⟨(xs.set k x).map I64, ⟨?_, .inr ⟨g, cap, _, e1, rfl, h5, h5', by rw [splice_size]; exact h6, ?_⟩⟩, fun u hu => by obtain ⟨y, -, rfl⟩ := List.mem_map.1 hu; rfl, all2_of_ints m _, ?_⟩
  ·rw [cellsOf_ints, List.length_map] at h0 ⊢
   rw [List.length_set]; exact h0
  ·simp only [splice]
   rw [Array.toList_setIfInBounds, List.take_set, h7, cellsOf_ints, cellsOf_ints, Nat.zero_add, List.map_set]; rfl
  ·rw [List.length_map] at h4 ⊢
   rw [List.length_set]; exact h4
end Go.Proofs.YtabmjadcoepbeaaGreat

/- What a callee that only reads leaves of the hidden blocks; loads of numbers from a hidden row. -/
namespace Go.Proofs.YtabmjadcoepbeaaGreat
open Go.RowKit

theorem Loc.again {w0 m0 W m W' : World} {Ls : List Lo} (h : Loc w0 m0 W m Ls) (hE : Ext W W') : Loc w0 m0 W' (hidTo m W'.heap.size) Ls := by
 have hs : m.heap.size ≤ W'.heap.size := by rw [h.vw.size]; exact hE.size
 refine ⟨h.size0, h.ext.trans hE, h.mext.trans (hidTo_ext hs), ⟨h.vw.os.trans hE.os.symm, h.vw.tape.trans hE.tape.symm, h.vw.output.trans hE.output.symm, hidTo_size hs, fun a u hu => ?_⟩, h.low, fun x hx => ?_, fun x hx a ha => ?_, h.apart⟩
 ·rcases Nat.lt_or_ge a.block m.heap.size with hlt | hlt
  ·rw [cell_of_heap (hidTo_old hlt)] at hu
   exact hE.le.cell _ _ (h.vw.cell _ _ hu)
  ·rw [hidTo_new hlt] at hu; cases hu
 ·exact (h.blk x hx).ext hE
 ·have hlt : a.block < m.heap.size := by rw [ha, h.vw.size]; exact (h.blk x hx).lt
  rw [cell_of_heap (hidTo_old hlt)]
  exact h.hid x hx a ha
end Go.Proofs.YtabmjadcoepbeaaGreat
