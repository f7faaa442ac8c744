/- Part 6 of 8 of the proof: the law CutsSeparate returns true for every input, and its arguments read as before; there is no condition. -/
import Derived.Test.YtmhkmmmompediaaGreatCS5
set_option linter.unusedVariables false
set_option linter.unusedSimpArgs false
set_option maxRecDepth 100000
set_option maxHeartbeats 64000000
/- cuts.Separate, where there is at most one list of places. -/
namespace Go.Proofs.YtmhkmmmompediaaGreat
open Go.RowKit

theorem ListV.n_is {α : Type} {size : Nat} {R : World → Value → α → Prop} {m : World} {A : Option Addr} {n c : Nat} {xs : List α} (h : ListV size R m (.slice A n c) xs) : n = xs.length := by
 obtain ⟨_, _, _, e, _⟩ := h
 injection e
theorem MasterR.parts {m : World} {nf pen : Int} {a b c : Value} {x : Ms} (h : MasterR m (.agg #[.int .i64 nf, a, .int .i64 pen, b, c]) x) : IntL m a x.rows ∧ ColL m b x.cols ∧ CutL m c x.cuts := by
 obtain ⟨_, _, _, e, h1, h2, h3⟩ := h
 injection e with e
 injection e with e
 injection e with e1 e
 injection e with e2 e
 injection e with e3 e
 injection e with e4 e
 injection e with e5 e
 subst e2 e4 e5
 exact ⟨h1, h2, h3⟩
theorem SepE.putObj {w0 m0 m W : World} {g b16 : Nat} {s : List Nat} {fs : List Can} (h : SepE w0 m0 m g b16 s fs W) {b : Nat} {o : Obj} (o' : Obj) (hb : W.heap[b]? = some o) (hlow : w0.heap.size ≤ b) (hn : ∀ cs t fr, o ≠ .cells cs t fr) : SepE w0 m0 m g b16 s fs (W.putObj b o') := by
 obtain ⟨m', fd, Rf, n, hL, hX, row, h0⟩ := h
 obtain ⟨m2, hL2, hX2⟩ := hL.putObj o' hb hlow (fun cs t fr e => by rw [hb] at e; exact hn cs t fr (Option.some.inj e))
 exact ⟨m2, fd, Rf, n, hL2, hX.trans hX2, RowA.le CanR.mono row hX2.le, h0⟩
def SepO (w0 m0 m : World) (b16 : Nat) (fs : List Can) (W' : World) : Prop :=
 ∃ m' fd Rf n, Loc w0 m0 W' m' ((b16, 121, #[fd]) :: Rf) ∧ Ext m m' ∧ RowA 128 6 CanR m' fd n fs Rf ∧ (n = 0 → fd = .slice none 0 0)
theorem SepO.putObj {w0 m0 m W : World} {b16 : Nat} {fs : List Can} (h : SepO w0 m0 m b16 fs W) {b : Nat} {o : Obj} (o' : Obj) (hb : W.heap[b]? = some o) (hlow : w0.heap.size ≤ b) (hn : ∀ cs t fr, o ≠ .cells cs t fr) : SepO w0 m0 m b16 fs (W.putObj b o') := by
 obtain ⟨m', fd, Rf, n, hL, hX, row, h0⟩ := h
 obtain ⟨m2, hL2, hX2⟩ := hL.putObj o' hb hlow (fun cs t fr e => by rw [hb] at e; exact hn cs t fr (Option.some.inj e))
 exact ⟨m2, fd, Rf, n, hL2, hX.trans hX2, RowA.le CanR.mono row hX2.le, h0⟩
theorem enter_go {P : Program} {f : FuncId} {fn : Func} {c : Code} (h1 : P.funcs[f]? = some fn) (h2 : (fn.name == "runtime.NumGoroutine") = false) (h3 : fn.body = some c) (args : Array Value) (w : World) : (callFunc f args).run P w = .ok (.enter f args) w := by
 have h4 : fn.name ≠ "runtime.NumGoroutine" := fun e => by rw [e] at h2; cases h2
 simp [callFunc, h1, h4, h3]
theorem enter_subs (args : Array Value) (w : World) : (callFunc 160 args).run Tryz.prog w = .ok (.enter 160 args) w := enter_go Tryz.func160 (by kernel_rfl) rfl args w
theorem CanL.at_ {m : World} {A : Option Addr} {n c : Nat} {xs : List Can} (h : ListV 6 CanR m (.slice A n c) xs) {k : Nat} {x : Can} (hk : xs[k]? = some x) :
  ∃ b off R a e d gv A' n' c' f B p q, A = some ⟨b, off, none⟩ ∧ CutR m (.agg #[.slice R a e, .int .i64 d]) x.1 ∧ m.rangeAt b (off + k * 6) [.slice R a e, .int .i64 d, .bool gv, .slice A' n' c', .bool f, .slice B p q] := by
 obtain ⟨b, off, v, e, ⟨R, a, c, d, gv, A', n', c', f, B, p, q, rfl, h1, h2⟩, _, hr⟩ := ListV.at_ h (by omega) hk
 exact ⟨b, off, R, a, c, d, gv, A', n', c', f, B, p, q, e, h1, hr⟩
theorem cutS_ok {ms : Ms} (ok : MsOk ms) {d sz : Nat} {s : List Nat} (hl : s.length = sz) (hp : s.Pairwise (· < ·)) (hs : ∀ i ∈ s, i < ms.rows.length) (hd2 : 2 ≤ d) (hds : d < sz) (h5 : sz ≤ 5) : CutOk ms.rows (cutS ms d s) := by
 have hpw := asc_pw ok.asc
 have hg : ∀ i, i < ms.rows.length → ms.rows[i]? = some (ms.rows.getD i 0) := fun i hi => by
  rw [List.getD_eq_getElem?_getD, List.getElem?_eq_getElem hi]; rfl
 refine ⟨ascP_of ?_, fun r hr => ?_, by show (2 : Int) ≤ (d : Int); omega, ?_, ?_⟩
 ·show (rowsS ms.rows s).Pairwise (· < ·)
  unfold rowsS
  rw [List.pairwise_map]
  refine hp.imp_of_mem fun {a b} ha hb hab => ?_
  have h1 := hg a (hs a ha)
  have h2 := hg b (hs b hb)
  obtain ⟨hla, e1⟩ := List.getElem?_eq_some_iff.1 h1
  obtain ⟨hlb, e2⟩ := List.getElem?_eq_some_iff.1 h2
  rw [← e1, ← e2]
  exact List.pairwise_iff_getElem.1 hpw a b hla hlb hab
 ·obtain ⟨i, hi, rfl⟩ := List.mem_map.1 (show r ∈ rowsS ms.rows s from hr)
  exact List.mem_of_getElem? (hg i (hs i hi))
 ·show (d : Int) ≤ ((rowsS ms.rows s).length : Int)
  unfold rowsS
  rw [List.length_map, hl]; omega
 ·show (rowsS ms.rows s).length ≤ 1000000
  unfold rowsS
  rw [List.length_map, hl]; omega

end Go.Proofs.YtmhkmmmompediaaGreat

/- cuts.Separate: sizes out of range. -/
namespace Go.Proofs.YtmhkmmmompediaaGreat
open Go.RowKit

theorem u_SepBad (mv : Value) (ms : Ms) (V : Option Addr) (c : Nat) (sz d most : Int) (w m : World) (hV : Vw m w) (hm : MasterR m mv ms) (ok : MsOk ms) (hbad : sz < 3 ∨ 5 < sz ∨ d < 2 ∨ sz ≤ d ∨ most < 0) :
  Calls Tryz.prog 39 #[mv, .slice V ms.cols.length c, .int .i64 sz, .int .i64 d, .int .i64 most] w (RetV w m fun _ r => r = .tuple #[.slice none 0 0, .int .i64 5]) := by
 have HM := Lib.hid hm
 obtain ⟨A, nr, ca, B, nc, cb, C, nk, cc, rfl, hm1⟩ := hm.lit
 have hnc := master_nc hm1
 have KV : Hid (∀ w m', Vw m' w → Le m m' → Calls Tryz.prog 68 #[.agg #[.int .i64 ms.nf, .slice A nr ca, .int .i64 ms.pen, .slice B nc cb, .slice C nk cc]] w (RetV w m' fun _ r => r = .int .i64 0)) := by
  show ∀ w m', _
  exact fun w m' hV hle => m_ValidateMaster _ ms w m' hV (HM.out.le hle) ok
 rw [← hnc]
 have hL := Loc.start hV
 clear hV hm1 HM ok hnc
 generalize ms.nf = nf at *
 generalize ms.pen = pen at *
 go_enter Tryz.func39, Tryz.ntmps39
 go_upto_region 0 with (fail)
 refine wp_region_lit ?_
 refine t_box hL rfl rfl ?_
 clear hL
 intro W5 m5 hL e5
 simp only [Act.put, zq1, zq2, zq3]
 refine wl_box1 hL (wanted_none rfl) (v := .int .i64 sz) rfl rfl rfl ?_
 clear hL
 intro W7 m7 hL e7
 simp only [Act.put, zq1, zq2, zq3]
 refine wl_box1 hL (wanted_none rfl) (v := .int .i64 d) rfl rfl rfl ?_
 clear hL
 intro W8 m8 hL e8
 simp only [Act.put, zq1, zq2, zq3]
 go_wp2_with (first | go_skip | refine tP ?_ | (refine tS ?_; clear hL; intro _ hL) | (refine tB ?_; clear hL; intro _ _ hL _) | (refine tC ?_; clear hL; intro _ _ hL _ hBs))
 refine (KV.out _ _ hL.vw leX).mono ?_
 rintro e Wc1 ⟨_, mc1, rfl, hE, hMc1, hV, rfl⟩
 replace hL := hL.call hE (by assumption) hV; clear hE hV
 have hcase : (decide (sz < 3) = true) ∨ (decide (sz < 3) = false ∧ decide (5 < sz) = true) ∨ (decide (sz < 3) = false ∧ decide (5 < sz) = false ∧ decide (d < 2) = true) ∨ (decide (sz < 3) = false ∧ decide (5 < sz) = false ∧ decide (d < 2) = false ∧ decide (sz ≤ d) = true) ∨ (decide (sz < 3) = false ∧ decide (5 < sz) = false ∧ decide (d < 2) = false ∧ decide (sz ≤ d) = false ∧ decide (most < 0) = true) := by
  simp only [decide_eq_true_eq, decide_eq_false_iff_not]
  omega
 clear hbad
 rcases hcase with h1 | ⟨h1, h2⟩ | ⟨h1, h2, h3⟩ | ⟨h1, h2, h3, h4⟩ | ⟨h1, h2, h3, h4, h5⟩
 all_goals
  go_wp2_with (first | go_skip | refine tP ?_ | (refine tS ?_; clear hL; intro _ hL) | (refine tB ?_; clear hL; intro _ _ hL _) | (refine tC ?_; clear hL; intro _ _ hL _ hBs))
  (try simp only [Exit.inBlock, Exit.then])
  refine bodyPost_ret (results_tmp2 rfl _ _ _) rfl ?_
  exact RetV.mk hL rfl

end Go.Proofs.YtmhkmmmompediaaGreat

/- cuts.subsets$1 in general: the iterator's one row turns between the rounds. -/
namespace Go.Proofs.YtmhkmmmompediaaGreat
open Go.RowKit

theorem splice_ints {s : List Nat} {i x : Nat} : splice (intsA s) (0 + i) [.int .i64 (x : Int)] = intsA (s.set i x) := by
 rw [Nat.zero_add, ← intsA_set]
 simp only [splice]

theorem it_subsets {w0 m0 W m : World} {Ls : List Lo} {l nr size n bs bn : Nat} (so : SubOk n size) (hn : n ≤ 5) (h3 : 3 ≤ size) (h5 : size ≤ 5) (C : Nat → World → List Lo → Prop) (R : World → Prop)
  (hC : ∀ k m m' Ls, C k m Ls → Ext m m' → C k m' Ls) (hR : ∀ W W', R W → Still W W' → R W')
  (hbox : ∀ k m Ls, C k m Ls → m.cell? ⟨bs, 0, none⟩ = some (.int .i64 (size : Int)) ∧ m.cell? ⟨bn, 0, none⟩ = some (.int .i64 (n : Int)))
  (hY : ∀ k s g W m Ls, (subsF n size)[k]? = some s → Loc w0 m0 W m ((g, 3, intsA s) :: Ls) → C k m Ls → R W →
   YieldAt Fence.wide nr Tryz.prog l #[.slice (some ⟨g, 0, none⟩) size size] W fun e W' => e = .returned (.bool true) ∧ ∃ m' Ls', Loc w0 m0 W' m' ((g, 3, intsA s) :: Ls') ∧ C (k + 1) m' Ls' ∧ R W')
  (hL : Loc w0 m0 W m Ls) (h0 : C 0 m Ls) (hRW : R W) :
  Calls Tryz.prog 160 #[.func (.yield l) #[] #[], .pointer (some ⟨bs, 0, none⟩), .pointer (some ⟨bn, 0, none⟩)] W (fun e W' => (∃ v, e = .returned v) ∧ ∃ m' Ls', Loc w0 m0 W' m' Ls' ∧ C (subsF n size).length m' Ls' ∧ R W') := by
 obtain ⟨hc1, hc2⟩ := hbox _ _ _ h0
 have SO := Lib.hid so
 have HC := Lib.hid hC
 have HR := Lib.hid hR
 have HB := Lib.hid hbox
 have HY := Lib.hid hY
 have H0 := Lib.hid h0
 have HRW := Lib.hid hRW
 have HL0 := Lib.hid hL
 clear so hC hR hbox hY h0 hRW
 replace hL := Loc.start hL.vw
 go_enter Tryz.func160, Tryz.ntmps160
 by_cases hsn : n < size
 ·have hsn' : (n : Int) < (size : Int) := by omega
  have HE : Hid (subsF n size = []) := SO.out.none hsn
  go_wp2_with (first | go_skip | refine tP ?_ | (refine tS ?_; clear hL; intro _ hL))
  refine bodyPost_ret (results_none rfl _ _ _) rfl ?_
  refine ⟨⟨_, rfl⟩, _, _, HL0.out.join hL, ?_, HR.out _ _ HRW.out hL.ext.still⟩
  rw [HE.out]
  exact HC.out _ _ _ _ H0.out hL.mext
 ·have hsn' : (size : Int) ≤ (n : Int) := by omega
  have HS1 : Hid ((subsF n size)[0]? = some (List.range size)) := SO.out.first (by omega)
  have hszb : size ≤ 1000000 := by omega
  go_wp2_with (first | (refine wl_make hL (wanted_none rfl) rfl ap_ints zc_int1 rfl hszb (by decide) ?_; clear hL; intro W1 m1 hL hX1; simp only [Act.put, zq1, zq2, zq3]) | (first | go_skip | refine tP ?_ | (refine tS ?_; clear hL; intro _ hL)))
  rw [made_ints] at hL
  go_loopw [15] (fun iv wr => ∃ (k : Nat) (mm : World), k ≤ size ∧ iv = .int .i64 k ∧ Loc W m wr mm [(W.heap.size, 3, fillA size k)]) (fun iv _ => size - (intOf iv).toNat)
  case atStart => exact ⟨0, m1, Nat.zero_le _, rfl, hL⟩
  case round =>
   clear hL
   obtain ⟨k, mm, hk, rfl, hL⟩ := hrel
   by_cases hlt : k < size
   ·have hlt' : (k : Int) < (size : Int) := by omega
    have hfit : 0 + k < (fillA size k).size := by rw [fillA_size (by omega)]; omega
    have HF := Lib.hid (fillA_put hlt)
    go_wp2_with (first | (with_reducible refine stS ?_) | (first | go_skip | refine tP ?_ | (refine tS ?_; clear hL; intro _ hL)))
    refine goA ?_
    refine wl_store1S hL (wanted_none rfl) (v := .int .i64 (k : Int)) (off := 0 + k) rfl rfl rfl lb_int (n := 0) rfl hfit rfl rfl ?_
    clear hL
    intro W5 hL hS5
    simp only [List.set_cons_zero] at hL
    rw [HF.out] at hL
    simp only [Act.put, zq1, zq2, zq3]
    go_wp2_with (first | go_skip | refine tP ?_ | (refine tS ?_; clear hL; intro _ hL))
    go_roundw
    case rel => exact ⟨k + 1, _, by omega, by go_num, hL⟩
    case measure => simp [intOf] <;> omega
   ·have hks : size = k := by omega
    subst hks
    have h9 : (size : Int) ≤ (size : Int) := Int.le_refl _
    go_wp2_with (first | go_skip | refine tP ?_ | (refine tS ?_; clear hL; intro _ hL))
    have HC1 : Hid (C 0 mm Ls) := HC.out _ _ _ _ H0.out hL.mext
    have HR1 : Hid (R wr) := HR.out _ _ HRW.out hL.ext.still
    replace hL := HL0.out.join hL
    rw [fillA_all, List.singleton_append] at hL
    clear HL0 H0 HRW hc1 hc2
    generalize W.heap.size = g at *
    go_loopw [] (fun wr => ∃ (q : Nat) (s : List Nat) (m2 : World) (L2 : List Lo), (subsF n size)[q]? = some s ∧ Loc w0 m0 wr m2 ((g, 3, intsA s) :: L2) ∧ Hid (C q m2 L2) ∧ Hid (R wr)) (fun wr => (subsF n size).length - (subsF n size).findIdx (fun l => l == curL wr g))
    case atStart => exact ⟨0, _, _, _, HS1.out, hL, HC1.out, HR1.out⟩
    case round =>
     clear hL HC1 HR1 HS1
     obtain ⟨q, s, m2, L2, hq, hL, HCq, HRq⟩ := hrel
     have HCU : Hid (curL wr g = s) := curL_is (hL.at_ (n := 0) rfl)
     have hsm := List.mem_of_getElem? hq
     have HSZ : Hid (s.length = size) := SO.out.len s hsm
     have HSL : Hid (∀ i, i < size → s.getD i 0 ≤ n - size + i) := SO.out.le s hsm
     have HNX : Hid (nxtS n s = (subsF n size)[q + 1]?) := SO.out.next q s hq
     have HQ := Lib.hid hq
     have HFI : Hid ((subsF n size).findIdx (fun l => l == s) = q) := fidx hn h3 h5 hq
     have HQL : Hid (q < (subsF n size).length) := (List.getElem?_eq_some_iff.1 hq).1
     clear hsm
     go_upto_region 7 with ((first | go_skip | refine tP ?_ | (refine tS ?_; clear hL; intro _ hL)))
     refine (wpIn_wide (n := nr + 1)).1 ?_
     obtain ⟨fn, tmps, assign, body, hyl, hrd⟩ := HY.out q s g wr m2 L2 hq hL HCq.out HRq.out
     gi_wp2
     refine hrd.mono ?_
     rintro e W3 ⟨rfl, m3, L3, hL3, hC3, hR3⟩
     clear hrd hyl hq
     obtain ⟨hc1, hc2⟩ := HB.out _ _ _ hC3
     have hBg : Blk W3 g 3 (intsA s) := hL3.at_ (n := 0) rfl
     have HL3 := Lib.hid hL3
     have HC3 := Lib.hid hC3
     have HR3 := Lib.hid hR3
     clear hL HCq HRq
     have hL := Loc.start hL3.vw
     clear hL3 hC3 hR3
     dsimp only
     gi_step
     refine wpListIn_nil ?_
     go_wp2_with (first | go_skip | refine tP ?_ | (refine tS ?_; clear hL; intro _ hL))
     go_loopw [6] (fun iv wr => ∃ (p : Nat) (z : Int) (m4 : World), p ≤ size ∧ z = (p : Int) - 1 ∧ iv = .int .i64 z ∧ Loc W3 m3 wr m4 [] ∧ Hid (∀ t, p ≤ t → t < size → s.getD t 0 = n - size + t)) (fun iv _ => (intOf iv + 1).toNat)
     case atStart => exact ⟨size, (size : Int) - 1, _, Nat.le_refl _, rfl, by go_num, hL, fun t h1 h2 => absurd h1 (by omega)⟩
     case round =>
      clear hL
      obtain ⟨p, z, m4, hp, hz, rfl, hL, HP⟩ := hrel
      have hM := hL.mext
      by_cases hp0 : p = 0
      ·obtain rfl : z = -1 := by omega
       have HEND : Hid ((subsF n size).length = q + 1) := by
        show _ = _
        have h1 : nxtS n s = none := by
         unfold nxtS
         rw [piv_no s.length (fun t ht => by rw [HSZ.out]; exact HP.out t (by omega) (by rw [← HSZ.out]; exact ht))]; rfl
        rw [HNX.out] at h1
        have h2 := List.getElem?_eq_none_iff.1 h1
        have h3 := HQL.out
        omega
       clear hz hp0 hp
       go_upto_region 9 with ((first | go_skip | refine tP ?_ | (refine tS ?_; clear hL; intro _ hL)))
       refine wp_region_by2 14 [false, false, false, false, false, false, false, false, false, false, false, false, false, false] [false, false, false, false, false, false, false, false, false, false, false, false, false, false] [(fun v _ _ => v = ?c9_0a), (fun v _ _ => v = ?c9_1a), (fun v _ _ => v = ?c9_2a), (fun v _ _ => v = ?c9_3a), (fun v _ _ => v = ?c9_4a), (fun v _ _ => v = ?c9_5a), (fun v _ _ => v = ?c9_6a), (fun v _ _ => v = ?c9_7a), (fun v _ _ => v = ?c9_8a), (fun v _ _ => v = ?c9_9a), (fun v _ _ => v = ?c9_10a), (fun v _ _ => v = ?c9_11a), (fun v _ _ => v = ?c9_12a), (fun v _ _ => v = ?c9_13a)] hL.vw mixed [28, 29, 30, 31, 32, 33, 34, 35, 36, 37, 38, 39, 40, 41] _ (by kernel_rfl) (fun vs => by simp only [lay, Act.put, zq1, zq2, zq3]; rfl) (by kernel_rfl) (by decide) (by decide) ?s9a ?l9a ?r9a
       case s9a =>
        refine ⟨?_, ?_, ?_, ?_, ?_, ?_, ?_, ?_, ?_, ?_, ?_, ?_, ?_, ?_, trivial⟩
        ·intro vs W1 m1 hE hM hV hD; clear hD
         exact sPw
        ·intro vs W1 m1 hE hM hV hD; obtain ⟨⟨_, _, -, -, f28⟩, -⟩ := hD
         rw [(f28 : vs 28 = _)]; clear f28; exact sPw
        ·intro vs W1 m1 hE hM hV hD; obtain ⟨⟨_, _, -, -, f29⟩, -⟩ := hD
         rw [(f29 : vs 29 = _)]; clear f29; exact sPw
        ·intro vs W1 m1 hE hM hV hD; obtain ⟨⟨_, _, -, -, f30⟩, -⟩ := hD
         rw [(f30 : vs 30 = _)]; clear f30; exact sPw
        ·intro vs W1 m1 hE hM hV hD; obtain ⟨⟨_, _, -, -, f30⟩, -⟩ := hD
         rw [(f30 : vs 30 = _)]; clear f30; exact sPw
        ·intro vs W1 m1 hE hM hV hD; obtain ⟨⟨_, _, -, -, f31⟩, ⟨_, _, -, -, f32⟩, ⟨_, _, -, -, f30⟩, -⟩ := hD
         rw [(f31 : vs 31 = _), (f32 : vs 32 = _), (f30 : vs 30 = _)]; clear f31 f32 f30; exact sPw
        ·intro vs W1 m1 hE hM hV hD; obtain ⟨⟨_, _, -, -, f33⟩, ⟨_, _, -, -, f30⟩, -⟩ := hD
         rw [(f33 : vs 33 = _), (f30 : vs 30 = _)]; clear f33 f30; exact sPw
        ·intro vs W1 m1 hE hM hV hD; obtain ⟨⟨_, _, -, -, f30⟩, -⟩ := hD
         rw [(f30 : vs 30 = _)]; clear f30; exact sPw
        ·intro vs W1 m1 hE hM hV hD; obtain ⟨⟨_, _, -, -, f30⟩, -⟩ := hD
         rw [(f30 : vs 30 = _)]; clear f30; exact sPw
        ·intro vs W1 m1 hE hM hV hD; obtain ⟨⟨_, _, -, -, f35⟩, ⟨_, _, -, -, f36⟩, ⟨_, _, -, -, f30⟩, -⟩ := hD
         rw [(f35 : vs 35 = _), (f36 : vs 36 = _), (f30 : vs 30 = _)]; clear f35 f36 f30; exact sPw
        ·intro vs W1 m1 hE hM hV hD; obtain ⟨⟨_, _, -, -, f30⟩, -⟩ := hD
         rw [(f30 : vs 30 = _)]; clear f30; exact sPw
        ·intro vs W1 m1 hE hM hV hD; obtain ⟨⟨_, _, -, -, f37⟩, ⟨_, _, -, -, f38⟩, ⟨_, _, -, -, f30⟩, -⟩ := hD
         rw [(f37 : vs 37 = _), (f38 : vs 38 = _), (f30 : vs 30 = _)]; clear f37 f38 f30; exact sPw
        ·intro vs W1 m1 hE hM hV hD; obtain ⟨⟨_, _, -, -, f34⟩, ⟨_, _, -, -, f39⟩, ⟨_, _, -, -, f30⟩, -⟩ := hD
         rw [(f34 : vs 34 = _), (f39 : vs 39 = _), (f30 : vs 30 = _)]; clear f34 f39 f30; exact sPw
        ·intro vs W1 m1 hE hM hV hD; obtain ⟨⟨_, _, -, -, f30⟩, ⟨_, _, -, -, f40⟩, -⟩ := hD
         rw [(f30 : vs 30 = _), (f40 : vs 40 = _)]; clear f30 f40; exact sPw
       case l9a =>
        refine ⟨nF, nF, nF, nF, nF, nF, nF, nF, nF, nF, nF, nF, nF, nF, trivial⟩
       intro vs W1 m1 hE hM hV hF hD
       clear hD
       obtain ⟨⟨_, _, -, -, f28⟩, ⟨_, _, -, -, f29⟩, ⟨_, _, -, -, f30⟩, ⟨_, _, -, -, f31⟩, ⟨_, _, -, -, f32⟩, ⟨_, _, -, -, f33⟩, ⟨_, _, -, -, f34⟩, ⟨_, _, -, -, f35⟩, ⟨_, _, -, -, f36⟩, ⟨_, _, -, -, f37⟩, ⟨_, _, -, -, f38⟩, ⟨_, _, -, -, f39⟩, ⟨_, _, -, -, f40⟩, ⟨_, _, -, -, f41⟩, -⟩ := hF
       replace hL := hL.call hE hM hV
       have f28 : vs 28 = _ := f28
       generalize vs 28 = x28 at f28 ⊢
       subst x28
       have f29 : vs 29 = _ := f29
       generalize vs 29 = x29 at f29 ⊢
       subst x29
       have f30 : vs 30 = _ := f30
       generalize vs 30 = x30 at f30 ⊢
       subst x30
       have f31 : vs 31 = _ := f31
       generalize vs 31 = x31 at f31 ⊢
       subst x31
       have f32 : vs 32 = _ := f32
       generalize vs 32 = x32 at f32 ⊢
       subst x32
       have f33 : vs 33 = _ := f33
       generalize vs 33 = x33 at f33 ⊢
       subst x33
       have f34 : vs 34 = _ := f34
       generalize vs 34 = x34 at f34 ⊢
       subst x34
       have f35 : vs 35 = _ := f35
       generalize vs 35 = x35 at f35 ⊢
       subst x35
       have f36 : vs 36 = _ := f36
       generalize vs 36 = x36 at f36 ⊢
       subst x36
       have f37 : vs 37 = _ := f37
       generalize vs 37 = x37 at f37 ⊢
       subst x37
       have f38 : vs 38 = _ := f38
       generalize vs 38 = x38 at f38 ⊢
       subst x38
       have f39 : vs 39 = _ := f39
       generalize vs 39 = x39 at f39 ⊢
       subst x39
       have f40 : vs 40 = _ := f40
       generalize vs 40 = x40 at f40 ⊢
       subst x40
       have f41 : vs 41 = _ := f41
       generalize vs 41 = x41 at f41 ⊢
       subst x41
       clear hE hV
       simp only [List.drop_succ_cons, List.drop_zero]
       go_wp2_with (first | go_skip | refine tP ?_ | (refine tS ?_; clear hL; intro _ hL))
       refine QN.mk ?_
       go_wp2_with (first | go_skip | refine tP ?_ | (refine tS ?_; clear hL; intro _ hL))
       refine bodyPost_ret (results_none rfl _ _ _) rfl ?_
       refine ⟨⟨_, rfl⟩, _, _, (HL3.out.join hL).tail, ?_, HR.out _ _ HR3.out hL.ext.still⟩
       rw [HEND.out]
       exact HC.out _ _ _ _ HC3.out hL.mext
      ·obtain ⟨p1, rfl⟩ : ∃ p1, p = p1 + 1 := ⟨p - 1, by omega⟩
       obtain rfl : z = (p1 : Int) := by omega
       have hpn : p1 < size := by omega
       have hge : (0 : Int) ≤ (p1 : Int) := by omega
       obtain ⟨y, hy⟩ : ∃ y, s[p1]? = some y := ⟨_, List.getElem?_eq_getElem (by rw [HSZ.out]; exact hpn)⟩
       have hyd : s.getD p1 0 = y := by rw [List.getD_eq_getElem?_getD, hy]; rfl
       have hyl : y ≤ n - size + p1 := by rw [← hyd]; exact HSL.out p1 hpn
       have hy10 : y ≤ 10 := by omega
       have hsn0 : size ≤ n := by omega
       have hcell : (intsA s)[0 + p1]? = some (.int .i64 (y : Int)) := by rw [Nat.zero_add]; exact intsA_at hy
       have HYD := Lib.hid hyd
       clear hz hp0 hy hyd hyl
       by_cases hyn : y = n - size + p1
       ·have hbe : ((y : Int) == (n : Int) - (size : Int) + (p1 : Int)) = true := by simp; omega
        have HP2 : Hid (∀ t, p1 ≤ t → t < size → s.getD t 0 = n - size + t) := by
         show ∀ t, _
         intro t h1 h2
         by_cases e : t = p1
         ·rw [e, HYD.out]; exact hyn
         ·exact HP.out t (by omega) h2
        clear hyn
        go_upto_region 9 with ((first | go_skip | refine tP ?_ | (refine tS ?_; clear hL; intro _ hL)))
        refine wp_region_by2 14 [false, false, false, false, false, false, false, false, false, false, false, false, false, false] [false, false, false, false, false, false, false, false, false, false, false, false, false, false] [(fun v _ _ => v = ?c9_0b), (fun v _ _ => v = ?c9_1b), (fun v _ _ => v = ?c9_2b), (fun v _ _ => v = ?c9_3b), (fun v _ _ => v = ?c9_4b), (fun v _ _ => v = ?c9_5b), Is (.int .i64 (y : Int)), (fun v _ _ => v = ?c9_7b), (fun v _ _ => v = ?c9_8b), (fun v _ _ => v = ?c9_9b), (fun v _ _ => v = ?c9_10b), (fun v _ _ => v = ?c9_11b), (fun v _ _ => v = ?c9_12b), (fun v _ _ => v = ?c9_13b)] hL.vw mixed [28, 29, 30, 31, 32, 33, 34, 35, 36, 37, 38, 39, 40, 41] _ (by kernel_rfl) (fun vs => by simp only [lay, Act.put, zq1, zq2, zq3]; rfl) (by kernel_rfl) (by decide) (by decide) ?s9b ?l9b ?r9b
        case s9b =>
         refine ⟨?_, ?_, ?_, ?_, ?_, ?_, ?_, ?_, ?_, ?_, ?_, ?_, ?_, ?_, trivial⟩
         ·intro vs W1 m1 hE hM hV hD; clear hD
          exact sPw
         ·intro vs W1 m1 hE hM hV hD; obtain ⟨⟨_, _, -, -, f28⟩, -⟩ := hD
          rw [(f28 : vs 28 = _)]; clear f28; exact sPw
         ·intro vs W1 m1 hE hM hV hD; obtain ⟨⟨_, _, -, -, f29⟩, -⟩ := hD
          rw [(f29 : vs 29 = _)]; clear f29; exact sPw
         ·intro vs W1 m1 hE hM hV hD; obtain ⟨⟨_, _, -, -, f30⟩, -⟩ := hD
          rw [(f30 : vs 30 = _)]; clear f30; exact sPw
         ·intro vs W1 m1 hE hM hV hD; obtain ⟨⟨_, _, -, -, f30⟩, -⟩ := hD
          rw [(f30 : vs 30 = _)]; clear f30; exact sPw
         ·intro vs W1 m1 hE hM hV hD; obtain ⟨⟨_, _, -, -, f31⟩, ⟨_, _, -, -, f32⟩, ⟨_, _, -, -, f30⟩, -⟩ := hD
          rw [(f31 : vs 31 = _), (f32 : vs 32 = _), (f30 : vs 30 = _)]; clear f31 f32 f30; exact sIy
         ·intro vs W1 m1 hE hM hV hD; obtain ⟨⟨_, _, -, -, f33⟩, ⟨_, _, -, -, f30⟩, -⟩ := hD
          rw [(f33 : vs 33 = _), (f30 : vs 30 = _)]
          clear f33 f30
          (replace hL := hL.call hE hM hV; refine wl_loadB hL (by first | exact wanted_none rfl | exact wanted_some rfl rfl rfl rfl) rfl rfl lb_int hBg hcell ?_; simp only [Act.put, zq1, zq2, zq3]; refine One2.still hV ?_; exact rfl)
         ·intro vs W1 m1 hE hM hV hD; obtain ⟨⟨_, _, -, -, f30⟩, -⟩ := hD
          rw [(f30 : vs 30 = _)]; clear f30; exact sLe
         ·intro vs W1 m1 hE hM hV hD; obtain ⟨⟨_, _, -, -, f30⟩, -⟩ := hD
          rw [(f30 : vs 30 = _)]; clear f30; exact sLe
         ·intro vs W1 m1 hE hM hV hD; obtain ⟨⟨_, _, -, -, f35⟩, ⟨_, _, -, -, f36⟩, ⟨_, _, -, -, f30⟩, -⟩ := hD
          rw [(f35 : vs 35 = _), (f36 : vs 36 = _), (f30 : vs 30 = _)]; clear f35 f36 f30; exact sPw
         ·intro vs W1 m1 hE hM hV hD; obtain ⟨⟨_, _, -, -, f30⟩, -⟩ := hD
          rw [(f30 : vs 30 = _)]; clear f30; exact sPw
         ·intro vs W1 m1 hE hM hV hD; obtain ⟨⟨_, _, -, -, f37⟩, ⟨_, _, -, -, f38⟩, ⟨_, _, -, -, f30⟩, -⟩ := hD
          rw [(f37 : vs 37 = _), (f38 : vs 38 = _), (f30 : vs 30 = _)]; clear f37 f38 f30; exact sPw
         ·intro vs W1 m1 hE hM hV hD; obtain ⟨⟨_, _, -, -, f34⟩, ⟨_, _, -, -, f39⟩, ⟨_, _, -, -, f30⟩, -⟩ := hD
          rw [(f34 : vs 34 = _), (f39 : vs 39 = _), (f30 : vs 30 = _)]; clear f34 f39 f30; exact sPw
         ·intro vs W1 m1 hE hM hV hD; obtain ⟨⟨_, _, -, -, f30⟩, ⟨_, _, -, -, f40⟩, -⟩ := hD
          rw [(f30 : vs 30 = _), (f40 : vs 40 = _)]; clear f30 f40; exact sPw
        case l9b =>
         refine ⟨nF, nF, nF, nF, nF, nF, nF, nF, nF, nF, nF, nF, nF, nF, trivial⟩
        intro vs W1 m1 hE hM hV hF hD
        clear hD
        obtain ⟨⟨_, _, -, -, f28⟩, ⟨_, _, -, -, f29⟩, ⟨_, _, -, -, f30⟩, ⟨_, _, -, -, f31⟩, ⟨_, _, -, -, f32⟩, ⟨_, _, -, -, f33⟩, ⟨_, _, -, -, f34⟩, ⟨_, _, -, -, f35⟩, ⟨_, _, -, -, f36⟩, ⟨_, _, -, -, f37⟩, ⟨_, _, -, -, f38⟩, ⟨_, _, -, -, f39⟩, ⟨_, _, -, -, f40⟩, ⟨_, _, -, -, f41⟩, -⟩ := hF
        replace hL := hL.call hE hM hV
        have f28 : vs 28 = _ := f28
        generalize vs 28 = x28 at f28 ⊢
        subst x28
        have f29 : vs 29 = _ := f29
        generalize vs 29 = x29 at f29 ⊢
        subst x29
        have f30 : vs 30 = _ := f30
        generalize vs 30 = x30 at f30 ⊢
        subst x30
        have f31 : vs 31 = _ := f31
        generalize vs 31 = x31 at f31 ⊢
        subst x31
        have f32 : vs 32 = _ := f32
        generalize vs 32 = x32 at f32 ⊢
        subst x32
        have f33 : vs 33 = _ := f33
        generalize vs 33 = x33 at f33 ⊢
        subst x33
        have f34 : vs 34 = _ := f34
        generalize vs 34 = x34 at f34 ⊢
        subst x34
        have f35 : vs 35 = _ := f35
        generalize vs 35 = x35 at f35 ⊢
        subst x35
        have f36 : vs 36 = _ := f36
        generalize vs 36 = x36 at f36 ⊢
        subst x36
        have f37 : vs 37 = _ := f37
        generalize vs 37 = x37 at f37 ⊢
        subst x37
        have f38 : vs 38 = _ := f38
        generalize vs 38 = x38 at f38 ⊢
        subst x38
        have f39 : vs 39 = _ := f39
        generalize vs 39 = x39 at f39 ⊢
        subst x39
        have f40 : vs 40 = _ := f40
        generalize vs 40 = x40 at f40 ⊢
        subst x40
        have f41 : vs 41 = _ := f41
        generalize vs 41 = x41 at f41 ⊢
        subst x41
        clear hE hV
        simp only [List.drop_succ_cons, List.drop_zero]
        go_wp2_with (first | go_skip | refine tP ?_ | (refine tS ?_; clear hL; intro _ hL))
        refine QN.mk ?_
        go_wp2_with (first | go_skip | refine tP ?_ | (refine tS ?_; clear hL; intro _ hL))
        go_roundw
        case rel => exact ⟨p1, (p1 : Int) - 1, _, by omega, rfl, by go_num, hL, HP2.out⟩
        case measure => simp [intOf] <;> omega
       ·have hbe : ((y : Int) == (n : Int) - (size : Int) + (p1 : Int)) = false := by simp; omega
        have HNS : Hid ((subsF n size)[q + 1]? = some (filS s p1)) := by
         show _ = _
         rw [← HNX.out]
         unfold nxtS
         rw [piv_yes s.length (by rw [HSZ.out]; exact hpn) (fun t h1 h2 => by rw [HSZ.out]; exact HP.out t (by omega) (by rw [← HSZ.out]; exact h2)) (by rw [HSZ.out, HYD.out]; exact hyn)]; rfl
        clear hyn HP
        go_upto_region 9 with ((first | go_skip | refine tP ?_ | (refine tS ?_; clear hL; intro _ hL)))
        refine wp_region_by2 14 [false, false, false, false, false, false, false, false, false, false, false, false, false, false] [false, false, false, false, false, false, false, false, false, false, false, false, false, false] [(fun v _ _ => v = ?c9_0c), (fun v _ _ => v = ?c9_1c), (fun v _ _ => v = ?c9_2c), (fun v _ _ => v = ?c9_3c), (fun v _ _ => v = ?c9_4c), (fun v _ _ => v = ?c9_5c), Is (.int .i64 (y : Int)), (fun v _ _ => v = ?c9_7c), (fun v _ _ => v = ?c9_8c), (fun v _ _ => v = ?c9_9c), (fun v _ _ => v = ?c9_10c), (fun v _ _ => v = ?c9_11c), (fun v _ _ => v = ?c9_12c), (fun v _ _ => v = ?c9_13c)] hL.vw mixed [28, 29, 30, 31, 32, 33, 34, 35, 36, 37, 38, 39, 40, 41] _ (by kernel_rfl) (fun vs => by simp only [lay, Act.put, zq1, zq2, zq3]; rfl) (by kernel_rfl) (by decide) (by decide) ?s9c ?l9c ?r9c
        case s9c =>
         refine ⟨?_, ?_, ?_, ?_, ?_, ?_, ?_, ?_, ?_, ?_, ?_, ?_, ?_, ?_, trivial⟩
         ·intro vs W1 m1 hE hM hV hD; clear hD
          exact sPw
         ·intro vs W1 m1 hE hM hV hD; obtain ⟨⟨_, _, -, -, f28⟩, -⟩ := hD
          rw [(f28 : vs 28 = _)]; clear f28; exact sPw
         ·intro vs W1 m1 hE hM hV hD; obtain ⟨⟨_, _, -, -, f29⟩, -⟩ := hD
          rw [(f29 : vs 29 = _)]; clear f29; exact sPw
         ·intro vs W1 m1 hE hM hV hD; obtain ⟨⟨_, _, -, -, f30⟩, -⟩ := hD
          rw [(f30 : vs 30 = _)]; clear f30; exact sPw
         ·intro vs W1 m1 hE hM hV hD; obtain ⟨⟨_, _, -, -, f30⟩, -⟩ := hD
          rw [(f30 : vs 30 = _)]; clear f30; exact sPw
         ·intro vs W1 m1 hE hM hV hD; obtain ⟨⟨_, _, -, -, f31⟩, ⟨_, _, -, -, f32⟩, ⟨_, _, -, -, f30⟩, -⟩ := hD
          rw [(f31 : vs 31 = _), (f32 : vs 32 = _), (f30 : vs 30 = _)]; clear f31 f32 f30; exact sIy
         ·intro vs W1 m1 hE hM hV hD; obtain ⟨⟨_, _, -, -, f33⟩, ⟨_, _, -, -, f30⟩, -⟩ := hD
          rw [(f33 : vs 33 = _), (f30 : vs 30 = _)]
          clear f33 f30
          (replace hL := hL.call hE hM hV; refine wl_loadB hL (by first | exact wanted_none rfl | exact wanted_some rfl rfl rfl rfl) rfl rfl lb_int hBg hcell ?_; simp only [Act.put, zq1, zq2, zq3]; refine One2.still hV ?_; exact rfl)
         ·intro vs W1 m1 hE hM hV hD; obtain ⟨⟨_, _, -, -, f30⟩, -⟩ := hD
          rw [(f30 : vs 30 = _)]; clear f30; exact sLe
         ·intro vs W1 m1 hE hM hV hD; obtain ⟨⟨_, _, -, -, f30⟩, -⟩ := hD
          rw [(f30 : vs 30 = _)]; clear f30; exact sLe
         ·intro vs W1 m1 hE hM hV hD; obtain ⟨⟨_, _, -, -, f35⟩, ⟨_, _, -, -, f36⟩, ⟨_, _, -, -, f30⟩, -⟩ := hD
          rw [(f35 : vs 35 = _), (f36 : vs 36 = _), (f30 : vs 30 = _)]; clear f35 f36 f30; exact sPw
         ·intro vs W1 m1 hE hM hV hD; obtain ⟨⟨_, _, -, -, f30⟩, -⟩ := hD
          rw [(f30 : vs 30 = _)]; clear f30; exact sPw
         ·intro vs W1 m1 hE hM hV hD; obtain ⟨⟨_, _, -, -, f37⟩, ⟨_, _, -, -, f38⟩, ⟨_, _, -, -, f30⟩, -⟩ := hD
          rw [(f37 : vs 37 = _), (f38 : vs 38 = _), (f30 : vs 30 = _)]; clear f37 f38 f30; exact sPw
         ·intro vs W1 m1 hE hM hV hD; obtain ⟨⟨_, _, -, -, f34⟩, ⟨_, _, -, -, f39⟩, ⟨_, _, -, -, f30⟩, -⟩ := hD
          rw [(f34 : vs 34 = _), (f39 : vs 39 = _), (f30 : vs 30 = _)]; clear f34 f39 f30; exact sPw
         ·intro vs W1 m1 hE hM hV hD; obtain ⟨⟨_, _, -, -, f30⟩, ⟨_, _, -, -, f40⟩, -⟩ := hD
          rw [(f30 : vs 30 = _), (f40 : vs 40 = _)]; clear f30 f40; exact sPw
        case l9c =>
         refine ⟨nF, nF, nF, nF, nF, nF, nF, nF, nF, nF, nF, nF, nF, nF, trivial⟩
        intro vs W1 m1 hE hM hV hF hD
        clear hD
        obtain ⟨⟨_, _, -, -, f28⟩, ⟨_, _, -, -, f29⟩, ⟨_, _, -, -, f30⟩, ⟨_, _, -, -, f31⟩, ⟨_, _, -, -, f32⟩, ⟨_, _, -, -, f33⟩, ⟨_, _, -, -, f34⟩, ⟨_, _, -, -, f35⟩, ⟨_, _, -, -, f36⟩, ⟨_, _, -, -, f37⟩, ⟨_, _, -, -, f38⟩, ⟨_, _, -, -, f39⟩, ⟨_, _, -, -, f40⟩, ⟨_, _, -, -, f41⟩, -⟩ := hF
        replace hL := hL.call hE hM hV
        have f28 : vs 28 = _ := f28
        generalize vs 28 = x28 at f28 ⊢
        subst x28
        have f29 : vs 29 = _ := f29
        generalize vs 29 = x29 at f29 ⊢
        subst x29
        have f30 : vs 30 = _ := f30
        generalize vs 30 = x30 at f30 ⊢
        subst x30
        have f31 : vs 31 = _ := f31
        generalize vs 31 = x31 at f31 ⊢
        subst x31
        have f32 : vs 32 = _ := f32
        generalize vs 32 = x32 at f32 ⊢
        subst x32
        have f33 : vs 33 = _ := f33
        generalize vs 33 = x33 at f33 ⊢
        subst x33
        have f34 : vs 34 = _ := f34
        generalize vs 34 = x34 at f34 ⊢
        subst x34
        have f35 : vs 35 = _ := f35
        generalize vs 35 = x35 at f35 ⊢
        subst x35
        have f36 : vs 36 = _ := f36
        generalize vs 36 = x36 at f36 ⊢
        subst x36
        have f37 : vs 37 = _ := f37
        generalize vs 37 = x37 at f37 ⊢
        subst x37
        have f38 : vs 38 = _ := f38
        generalize vs 38 = x38 at f38 ⊢
        subst x38
        have f39 : vs 39 = _ := f39
        generalize vs 39 = x39 at f39 ⊢
        subst x39
        have f40 : vs 40 = _ := f40
        generalize vs 40 = x40 at f40 ⊢
        subst x40
        have f41 : vs 41 = _ := f41
        generalize vs 41 = x41 at f41 ⊢
        subst x41
        clear hE hV
        simp only [List.drop_succ_cons, List.drop_zero]
        go_wp2_with (first | go_skip | refine tP ?_ | (refine tS ?_; clear hL; intro _ hL))
        refine QN.mk ?_
        have hfit : 0 + p1 < (intsA s).size := by rw [intsA_size, HSZ.out]; omega
        have HF1 : Hid (splice (intsA s) (0 + p1) [.int .i64 ((y : Int) + 1)] = intsA (filP s p1 (p1 + 1))) := by
         show _ = _
         rw [← filP_one (by rw [HSZ.out]; exact hpn), HYD.out]
         exact splice_ints (x := y + 1)
        have HS5 := Lib.hid hL.ext.still
        have HM5 := Lib.hid hL.mext
        replace hL := HL3.out.join hL
        rw [List.nil_append] at hL
        clear hbe
        go_wp2_with (first | (with_reducible refine stS ?_) | (refine wl_load1 hL (wanted_none rfl) rfl rfl lb_int (n := 0) rfl hcell ?_; simp only [Act.put, zq1, zq2, zq3]) | (first | go_skip | refine tP ?_ | (refine tS ?_; clear hL; intro _ hL)))
        refine goA ?_
        refine wl_store1S hL (wanted_none rfl) (v := .int .i64 ((y : Int) + 1)) (off := 0 + p1) rfl rfl rfl lb_int (n := 0) rfl hfit rfl rfl ?_
        clear hL
        intro W6 hL hS6
        simp only [List.set_cons_zero] at hL
        rw [HF1.out] at hL
        have HS6 := Lib.hid (HS5.out.trans hS6)
        clear hS6 HS5 hcell hfit hBg
        simp only [Act.put, zq1, zq2, zq3]
        go_wp2_with (first | go_skip | refine tP ?_ | (refine tS ?_; clear hL; intro _ hL))
        go_loopw [7] (fun jv wr => ∃ (j : Nat) (mm : World), p1 + 1 ≤ j ∧ j ≤ size ∧ jv = .int .i64 (j : Int) ∧ Loc w0 m0 wr mm ((g, 3, intsA (filP s p1 j)) :: L3) ∧ Hid (Ext m3 mm) ∧ Hid (Still W3 wr)) (fun jv _ => size - (intOf jv).toNat)
        case atStart => exact ⟨p1 + 1, _, Nat.le_refl _, by omega, by go_num, hL, HM5.out, HS6.out⟩
        case round =>
         clear hL HS6 HM5 hM
         obtain ⟨j, mm5, hj1, hj, rfl, hL, HX5, HS7⟩ := hrel
         have hX5 := HX5.out
         by_cases hltj : j < size
         ·have hltj' : (j : Int) < (size : Int) := by omega
          obtain ⟨j0, hj0⟩ : ∃ j0, j0 + 1 = j := ⟨j - 1, by omega⟩
          have hw1 : wrap64 ((j : Int) - 1) = (j0 : Int) := by unfold wrap64; omega
          have hw2 : (j : Int) - 1 = (j0 : Int) := by omega
          have hj0s : j0 < size := by omega
          have hv : s.getD p1 0 + 1 + (j - 1 - p1) = y + 1 + (j0 - p1) := by rw [HYD.out]; omega
          have hcell : (intsA (filP s p1 j))[0 + j0]? = some (.int .i64 ((y + 1 + (j0 - p1) : Nat) : Int)) := by
           rw [Nat.zero_add, ← hv, show j0 = j - 1 by omega]
           exact intsA_at (filP_prev (by omega) (by rw [HSZ.out]; exact hj))
          have hfit : 0 + j < (intsA (filP s p1 j)).size := by rw [intsA_size, filP_len, HSZ.out]; omega
          have HF2 : Hid (splice (intsA (filP s p1 j)) (0 + j) [.int .i64 (((y + 1 + (j0 - p1) : Nat) : Int) + 1)] = intsA (filP s p1 (j + 1))) := by
           show _ = _
           rw [← filP_step (by omega : p1 < j) (by rw [HSZ.out]; exact hltj), hv]
           exact splice_ints (x := y + 1 + (j0 - p1) + 1)
          have hb20 : ((y + 1 + (j0 - p1) : Nat) : Int) ≤ 100 := by omega
          have hb21 : (0 : Int) ≤ ((y + 1 + (j0 - p1) : Nat) : Int) := by omega
          generalize y + 1 + (j0 - p1) = y2 at *
          clear hv
          go_wp2_with (first | (with_reducible refine stS ?_) | (refine wl_load1 hL (wanted_none rfl) rfl rfl lb_int (n := 0) rfl hcell ?_; simp only [Act.put, zq1, zq2, zq3]) | (first | go_skip | refine tP ?_ | (refine tS ?_; clear hL; intro _ hL)))
          refine goA ?_
          refine wl_store1S hL (wanted_none rfl) (v := .int .i64 ((y2 : Int) + 1)) (off := 0 + j) rfl rfl rfl lb_int (n := 0) rfl hfit rfl rfl ?_
          clear hL
          intro W7 hL hS8
          simp only [List.set_cons_zero] at hL
          rw [HF2.out] at hL
          have HS8 := Lib.hid (HS7.out.trans hS8)
          clear hcell hw1 hw2 hj0
          simp only [Act.put, zq1, zq2, zq3]
          go_wp2_with (first | go_skip | refine tP ?_ | (refine tS ?_; clear hL; intro _ hL))
          go_roundw
          case rel => exact ⟨j + 1, _, by omega, by omega, by go_num, hL, HX5.out, HS8.out⟩
          case measure => simp [intOf] <;> omega
         ·have hjs : size = j := by omega
          have HFE : Hid (filP s p1 j = filS s p1) := by
           show _ = _
           rw [← hjs, ← HSZ.out]
           exact filP_end (by rw [HSZ.out]; exact hpn)
          rw [HFE.out] at hL
          subst hjs
          have h8 : (size : Int) ≤ (size : Int) := Int.le_refl _
          have HFJ : Hid ((subsF n size).findIdx (fun l => l == filS s p1) = q + 1) := fidx hn h3 h5 HNS.out
          have HCW := Lib.hid (curL_is (hL.at_ (n := 0) rfl))
          go_wp2_with (first | go_skip | refine tP ?_ | (refine tS ?_; clear hL; intro _ hL))
          go_roundw
          case rel => exact ⟨q + 1, filS s p1, _, _, HNS.out, hL, HC.out _ _ _ _ HC3.out HX5.out, HR.out _ _ HR3.out HS7.out⟩
          case measure =>
           have h1 := HCW.out
           have h2 := HCU.out
           have h4 := HQL.out
           simp only [h1, h2, HFJ.out, HFI.out]
           omega
end Go.Proofs.YtmhkmmmompediaaGreat

/- slices.insertionSortCmpFunc of candidates, over a hidden row. -/
namespace Go.Proofs.YtmhkmmmompediaaGreat
open Go.RowKit

theorem can_at {m : World} {v : Value} {n g : Nat} {cur : Array Value} {xs : List Can} {e : TypeId} (h : RowA e 6 CanR m v n xs [(g, e, cur)]) {k : Nat} {x : Can} (hk : xs[k]? = some x) :
  ∃ R a c d gv A' n' c' f B p q, CanR m (.agg #[.slice R a c, .int .i64 d, .bool gv, .slice A' n' c', .bool f, .slice B p q]) x ∧ ∀ j, j < 6 → cur[0 + k * 6 + j]? = [.slice R a c, .int .i64 d, .bool gv, .slice A' n' c', .bool f, .slice B p q][j]? := by
 obtain ⟨u, hu, -, hr⟩ := h.at_ hk
 have hu' := hu
 obtain ⟨R, a, c, d, gv, A', n', c', f, B, p, q, rfl, -, -⟩ := hu'
 refine ⟨R, a, c, d, gv, A', n', c', f, B, p, q, hu, fun j hj => ?_⟩
 rw [hr j hj]
 simp [Value.cells]
theorem s_InsCan {w0 m0 W m : World} {A : List Lo} {g n cap : Nat} {cur : Array Value} {xs : List Can} (hL : Loc w0 m0 W m ((g, 128, cur) :: A)) (row : RowA 128 6 CanR m (.slice (some ⟨g, 0, none⟩) n cap) n xs [(g, 128, cur)]) (hn1 : 1 ≤ n) (hn : n ≤ 1000) (hs : ∀ x ∈ xs, Sm x.2.num x.2.den) :
  Calls Tryz.prog 194 #[.slice (some ⟨g, 0, none⟩) n cap, .int .i64 0, .int .i64 n, .func (.func 106) #[] #[]] W (fun e W' => ∃ (m' : World) (cur' : Array Value), (∃ v, e = .returned v) ∧ Loc w0 m0 W' m' ((g, 128, cur') :: A) ∧ Ext m m' ∧ Still W W' ∧
   RowA 128 6 CanR m' (.slice (some ⟨g, 0, none⟩) n cap) n (insC xs n) [(g, 128, cur')]) := by
 have hlen := row.len
 have HN : Hid (xs.length = n) := hlen.symm
 have ROW := Lib.hid row
 have HS := Lib.hid hs
 have hX0 : Ext m m := Ext.refl _
 clear row hs hlen
 go_enter Tryz.func194, Tryz.ntmps194
 go_wp2_with (first | go_skip | refine tP ?_ | (refine tS ?_; clear hL; intro _ hL))
 go_loopw [8] (fun iv wr => ∃ (i : Nat) (mm : World) (cur' : Array Value), 1 ≤ i ∧ i ≤ n ∧ iv = .int .i64 i ∧ Loc w0 m0 wr mm ((g, 128, cur') :: A) ∧ Ext m mm ∧ Hid (RowA 128 6 CanR mm (.slice (some ⟨g, 0, none⟩) n cap) n (insC xs i) [(g, 128, cur')]) ∧ Hid (Still W wr)) (fun iv _ => n - (intOf iv).toNat)
 case atStart => exact ⟨1, m, cur, by omega, hn1, by go_num, hL, hX0, ROW.out, Still.refl W⟩
 case round =>
  clear hL hX0 ROW
  obtain ⟨i, mm, cur1, hi1, hi, rfl, hL, hX, ROW1, HS1⟩ := hrel
  by_cases hlt : i < n
  ·have hlt' : (i : Int) < (n : Int) := by omega
   have HY0 : Hid (∀ y ∈ insC xs i, Sm y.2.num y.2.den) := by
    show ∀ y ∈ _, _
    exact fun y hy => HS.out y (insC_mem xs i y hy)
   have HE0 : Hid (bubC (insC xs i) i = insC xs (i + 1)) := rfl
   generalize insC xs i = ys0 at *
   obtain ⟨zs, hzs⟩ : ∃ zs, zs = insC xs (i + 1) := ⟨_, rfl⟩
   rw [← hzs] at HE0
   have HZS := Lib.hid hzs
   clear hzs
   go_wp2_with (first | go_skip | refine tP ?_ | (refine tS ?_; clear hL; intro _ hL))
   go_loopw [9] (fun jv wr => ∃ (j : Nat) (m2 : World) (ys : List Can) (cur2 : Array Value), j ≤ i ∧ jv = .int .i64 j ∧ Loc w0 m0 wr m2 ((g, 128, cur2) :: A) ∧ Hid (Ext m m2) ∧ Hid (RowA 128 6 CanR m2 (.slice (some ⟨g, 0, none⟩) n cap) n ys [(g, 128, cur2)]) ∧ Hid (bubC ys j = zs) ∧ Hid (∀ y ∈ ys, Sm y.2.num y.2.den) ∧ Hid (Still W wr)) (fun jv _ => (intOf jv).toNat)
   case atStart => exact ⟨i, _, ys0, cur1, Nat.le_refl _, rfl, hL, hX, ROW1.out, HE0.out, HY0.out, HS1.out⟩
   case round =>
    clear hL ROW1 HE0 HY0 hX HS1
    obtain ⟨j, m2, ys, cur2, hj, rfl, hL, HX2, ROW2, HB, HY, HS2⟩ := hrel
    have hX := HX2.out
    by_cases hj0 : j = 0
    ·subst hj0
     have HZ : Hid (ys = zs) := HB.out
     clear HB
     go_upto_region 4 with ((first | go_skip | refine tP ?_ | (refine tS ?_; clear hL; intro _ hL)))
     (try simp only [eq_self] at *)
     refine wp_region_by2 17 [false, false, false, false, false, false, false, false, false, false, false, false, false, false, false, false, false] [false, false, false, false, false, false, false, false, false, false, false, false, false, false, false, false, false] [(fun v _ _ => v = ?c4_0a), (fun v _ _ => v = ?c4_1a), (fun v _ _ => v = ?c4_2a), (fun v _ _ => v = ?c4_3a), (fun v _ _ => v = ?c4_4a), (fun v _ _ => v = ?c4_5a), (fun v _ _ => v = ?c4_6a), (fun v _ _ => v = ?c4_7a), (fun v _ _ => v = ?c4_8a), (fun v _ _ => v = ?c4_9a), (fun v _ _ => v = ?c4_10a), (fun v _ _ => v = ?c4_11a), (fun v _ _ => v = ?c4_12a), (fun v _ _ => v = ?c4_13a), (fun v _ _ => v = ?c4_14a), (fun v _ _ => v = ?c4_15a), (fun v _ _ => v = ?c4_16a)] hL.vw mixed [18, 19, 20, 21, 22, 23, 24, 25, 26, 27, 28, 29, 30, 31, 32, 33, 34] _ (by kernel_rfl) (fun vs => by simp only [lay, Act.put, zq1, zq2, zq3]; rfl) (by kernel_rfl) (by decide) (by decide) ?s4a ?l4a ?r4a
     case s4a =>
      refine ⟨?_, ?_, ?_, ?_, ?_, ?_, ?_, ?_, ?_, ?_, ?_, ?_, ?_, ?_, ?_, ?_, ?_, trivial⟩
      ·intro vs W1 m1 hE hM hV hD; clear hD
       exact sPw
      ·intro vs W1 m1 hE hM hV hD; clear hD
       exact sPw
      ·intro vs W1 m1 hE hM hV hD; obtain ⟨⟨_, _, -, -, f18⟩, ⟨_, _, -, -, f19⟩, -⟩ := hD
       rw [(f18 : vs 18 = _), (f19 : vs 19 = _)]; clear f18 f19; exact sPw
      ·intro vs W1 m1 hE hM hV hD; obtain ⟨⟨_, _, -, -, f20⟩, -⟩ := hD
       rw [(f20 : vs 20 = _)]; clear f20; exact sPw
      ·intro vs W1 m1 hE hM hV hD; obtain ⟨⟨_, _, -, -, f21⟩, -⟩ := hD
       rw [(f21 : vs 21 = _)]; clear f21; exact sPw
      ·intro vs W1 m1 hE hM hV hD; obtain ⟨⟨_, _, -, -, f21⟩, -⟩ := hD
       rw [(f21 : vs 21 = _)]; clear f21; exact sPw
      ·intro vs W1 m1 hE hM hV hD; obtain ⟨⟨_, _, -, -, f21⟩, -⟩ := hD
       rw [(f21 : vs 21 = _)]; clear f21; exact sPw
      ·intro vs W1 m1 hE hM hV hD; obtain ⟨⟨_, _, -, -, f23⟩, ⟨_, _, -, -, f24⟩, ⟨_, _, -, -, f21⟩, -⟩ := hD
       rw [(f23 : vs 23 = _), (f24 : vs 24 = _), (f21 : vs 21 = _)]; clear f23 f24 f21; exact sPw
      ·intro vs W1 m1 hE hM hV hD; obtain ⟨⟨_, _, -, -, f25⟩, ⟨_, _, -, -, f21⟩, -⟩ := hD
       rw [(f25 : vs 25 = _), (f21 : vs 21 = _)]; clear f25 f21; exact sPw
      ·intro vs W1 m1 hE hM hV hD; obtain ⟨⟨_, _, -, -, f21⟩, -⟩ := hD
       rw [(f21 : vs 21 = _)]; clear f21; exact sPw
      ·intro vs W1 m1 hE hM hV hD; obtain ⟨⟨_, _, -, -, f21⟩, -⟩ := hD
       rw [(f21 : vs 21 = _)]; clear f21; exact sPw
      ·intro vs W1 m1 hE hM hV hD; obtain ⟨⟨_, _, -, -, f28⟩, ⟨_, _, -, -, f21⟩, -⟩ := hD
       rw [(f28 : vs 28 = _), (f21 : vs 21 = _)]; clear f28 f21; exact sPw
      ·intro vs W1 m1 hE hM hV hD; obtain ⟨⟨_, _, -, -, f27⟩, ⟨_, _, -, -, f29⟩, ⟨_, _, -, -, f21⟩, -⟩ := hD
       rw [(f27 : vs 27 = _), (f29 : vs 29 = _), (f21 : vs 21 = _)]; clear f27 f29 f21; exact sPw
      ·intro vs W1 m1 hE hM hV hD; obtain ⟨⟨_, _, -, -, f30⟩, ⟨_, _, -, -, f21⟩, -⟩ := hD
       rw [(f30 : vs 30 = _), (f21 : vs 21 = _)]; clear f30 f21; exact sPw
      ·intro vs W1 m1 hE hM hV hD; obtain ⟨⟨_, _, -, -, f22⟩, ⟨_, _, -, -, f26⟩, ⟨_, _, -, -, f31⟩, ⟨_, _, -, -, f21⟩, -, -⟩ := hD
       rw [(f22 : vs 22 = _), (f26 : vs 26 = _), (f31 : vs 31 = _), (f21 : vs 21 = _)]; clear f22 f26 f31 f21; exact sPw
      ·intro vs W1 m1 hE hM hV hD; obtain ⟨⟨_, _, -, -, f32⟩, ⟨_, _, -, -, f21⟩, -⟩ := hD
       rw [(f32 : vs 32 = _), (f21 : vs 21 = _)]; clear f32 f21; exact sPw
      ·intro vs W1 m1 hE hM hV hD; obtain ⟨⟨_, _, -, -, f21⟩, ⟨_, _, -, -, f33⟩, -⟩ := hD
       rw [(f21 : vs 21 = _), (f33 : vs 33 = _)]; clear f21 f33; exact sPw
     case l4a =>
      refine ⟨nF, nF, nF, nF, nF, nF, nF, nF, nF, nF, nF, nF, nF, nF, nF, nF, nF, trivial⟩
     intro vs W1 m1 hE hM hV hF hD
     clear hD
     obtain ⟨⟨_, _, -, -, f18⟩, ⟨_, _, -, -, f19⟩, ⟨_, _, -, -, f20⟩, ⟨_, _, -, -, f21⟩, ⟨_, _, -, -, f22⟩, ⟨_, _, -, -, f23⟩, ⟨_, _, -, -, f24⟩, ⟨_, _, -, -, f25⟩, ⟨_, _, -, -, f26⟩, ⟨_, _, -, -, f27⟩, ⟨_, _, -, -, f28⟩, ⟨_, _, -, -, f29⟩, ⟨_, _, -, -, f30⟩, ⟨_, _, -, -, f31⟩, ⟨_, _, -, -, f32⟩, ⟨_, _, -, -, f33⟩, ⟨_, _, -, -, f34⟩, -⟩ := hF
     replace hL := hL.call hE hM hV
     have f18 : vs 18 = _ := f18
     generalize vs 18 = x18 at f18 ⊢
     subst x18
     have f19 : vs 19 = _ := f19
     generalize vs 19 = x19 at f19 ⊢
     subst x19
     have f20 : vs 20 = _ := f20
     generalize vs 20 = x20 at f20 ⊢
     subst x20
     have f21 : vs 21 = _ := f21
     generalize vs 21 = x21 at f21 ⊢
     subst x21
     have f22 : vs 22 = _ := f22
     generalize vs 22 = x22 at f22 ⊢
     subst x22
     have f23 : vs 23 = _ := f23
     generalize vs 23 = x23 at f23 ⊢
     subst x23
     have f24 : vs 24 = _ := f24
     generalize vs 24 = x24 at f24 ⊢
     subst x24
     have f25 : vs 25 = _ := f25
     generalize vs 25 = x25 at f25 ⊢
     subst x25
     have f26 : vs 26 = _ := f26
     generalize vs 26 = x26 at f26 ⊢
     subst x26
     have f27 : vs 27 = _ := f27
     generalize vs 27 = x27 at f27 ⊢
     subst x27
     have f28 : vs 28 = _ := f28
     generalize vs 28 = x28 at f28 ⊢
     subst x28
     have f29 : vs 29 = _ := f29
     generalize vs 29 = x29 at f29 ⊢
     subst x29
     have f30 : vs 30 = _ := f30
     generalize vs 30 = x30 at f30 ⊢
     subst x30
     have f31 : vs 31 = _ := f31
     generalize vs 31 = x31 at f31 ⊢
     subst x31
     have f32 : vs 32 = _ := f32
     generalize vs 32 = x32 at f32 ⊢
     subst x32
     have f33 : vs 33 = _ := f33
     generalize vs 33 = x33 at f33 ⊢
     subst x33
     have f34 : vs 34 = _ := f34
     generalize vs 34 = x34 at f34 ⊢
     subst x34
     have HEX := Lib.hid hE
     clear hE hV
     simp only [List.drop_succ_cons, List.drop_zero]
     go_wp2_with (first | go_skip | refine tP ?_ | (refine tS ?_; clear hL; intro _ hL))
     refine QN.mk ?_
     have HS3 := Lib.hid (HS2.out.trans HEX.out.still)
     clear HEX HS2
     go_wp2_with (first | go_skip | refine tP ?_ | (refine tS ?_; clear hL; intro _ hL))
     go_roundw
     case rel => exact ⟨i + 1, _, _, by omega, by omega, by go_num, hL, exX, by rw [← HZS.out, ← HZ.out]; exact RowA.le CanR.mono ROW2.out leX, HS3.out⟩
     case measure => simp [intOf] <;> omega
    ·obtain ⟨j1, hj1⟩ : ∃ j1, j1 + 1 = j := ⟨j - 1, by omega⟩
     have HYN : Hid (ys.length = n) := ROW2.out.len.symm
     have hjn : j < n := by omega
     have hjn1 : j1 < n := by omega
     obtain ⟨xa, hxa⟩ := at_some HYN hjn
     obtain ⟨xb, hxb⟩ := at_some HYN hjn1
     obtain ⟨R1, a1, c1, d1, g1, A1, n1, e1, f1, B1, p1, q1, hca, hra⟩ := can_at ROW2.out hxa
     obtain ⟨R2, a2, c2, d2, g2, A2, n2, e2, f2, B2, p2, q2, hcb, hrb⟩ := can_at ROW2.out hxb
     have HCA := Lib.hid hca
     have HCB := Lib.hid hcb
     have HST : Hid (bubC ys (j1 + 1) = if canC xa xb < 0 then bubC (swp ys (j1 + 1)) j1 else ys) := bubC_go (by rw [hj1]; exact hxa) hxb
     have HSW : Hid (swp ys j = (ys.set j xb).set j1 xa) := by
      show _ = _
      unfold swp
      rw [hxa, ← hj1, Nat.add_sub_cancel, hxb]
     have HSA : Hid (Sm xa.2.num xa.2.den) := HY.out _ (List.mem_of_getElem? hxa)
     have HSB : Hid (Sm xb.2.num xb.2.den) := HY.out _ (List.mem_of_getElem? hxb)
     have KC : Hid (∀ w m', Vw m' w → Le m2 m' → Calls Tryz.prog 106 #[.agg #[.slice R1 a1 c1, .int .i64 d1, .bool g1, .slice A1 n1 e1, .bool f1, .slice B1 p1 q1], .agg #[.slice R2 a2 c2, .int .i64 d2, .bool g2, .slice A2 n2 e2, .bool f2, .slice B2 p2 q2]] w (RetV w m' fun _ r => r = .int .i64 (canC xa xb))) := by
      show ∀ w m', _
      exact fun w m' hV hle => u_Separate1 _ _ xa xb w m' hV (CanR.mono _ _ _ _ HCA.out hle) (CanR.mono _ _ _ _ HCB.out hle) HSA.out HSB.out
     have hjd : decide (0 < j) = true := decide_eq_true (by omega)
     have hjp : decide ((0 : Int) < (j : Int)) = true := decide_eq_true (by omega)
     have hw1 : wrap64 ((j : Int) - 1) = (j1 : Int) := by unfold wrap64; omega
     have hw2 : (j : Int) - 1 = (j1 : Int) := by omega
     have hw3 : IntKind.i64.wrap ((j : Int) - 1) = (j1 : Int) := by rw [IntKind.wrap_i64]; omega
     have HJ := Lib.hid hj1
     have HXA := Lib.hid hxa
     have HXB := Lib.hid hxb
     generalize hce : canC xa xb = c at *
     clear hce hxa hxb hca hcb hj1 hj0 HSA HSB
     have hin : j < ys.length := by rw [HYN.out]; exact hjn
     have hin1 : j1 < ys.length := by rw [HYN.out]; exact hjn1
     have HIN := Lib.hid hin
     have HIN1 := Lib.hid hin1
     clear hin hin1
     by_cases hc : c < 0
     ·rw [if_pos hc] at HST
      have hbc : decide (c < 0) = true := decide_eq_true hc
      clear hc
      go_upto_region 4 with ((first | go_skip | refine tP ?_ | (refine tS ?_; clear hL; intro _ hL)))
      (try simp only [Nat.zero_add])
      (try simp only [eq_self] at *)
      refine wp_region_by2 17 [false, false, false, false, false, false, false, false, false, false, false, false, false, false, false, false, false] [false, false, false, false, false, false, false, false, false, false, false, false, false, false, false, false, false] [(fun v _ _ => v = ?c4_0b), (fun v _ _ => v = ?c4_1b), (fun v _ _ => v = ?c4_2b), (fun v _ _ => v = ?c4_3b), (fun v _ _ => v = ?c4_4b), (fun v _ _ => v = ?c4_5b), (fun v _ _ => v = ?c4_6b), (fun v _ _ => v = ?c4_7b), (fun v _ _ => v = ?c4_8b), (fun v _ _ => v = ?c4_9b), (fun v _ _ => v = ?c4_10b), (fun v _ _ => v = ?c4_11b), (fun v _ _ => v = ?c4_12b), (fun v _ _ => v = ?c4_13b), Is (.int .i64 c), (fun v _ _ => v = ?c4_15b), (fun v _ _ => v = ?c4_16b)] hL.vw mixed [18, 19, 20, 21, 22, 23, 24, 25, 26, 27, 28, 29, 30, 31, 32, 33, 34] _ (by kernel_rfl) (fun vs => by simp only [lay, Act.put, zq1, zq2, zq3]; rfl) (by kernel_rfl) (by decide) (by decide) ?s4b ?l4b ?r4b
      case s4b =>
       refine ⟨?_, ?_, ?_, ?_, ?_, ?_, ?_, ?_, ?_, ?_, ?_, ?_, ?_, ?_, ?_, ?_, ?_, trivial⟩
       ·intro vs W1 m1 hE hM hV hD; clear hD
        exact sPw
       ·intro vs W1 m1 hE hM hV hD; clear hD
        exact sPw
       ·intro vs W1 m1 hE hM hV hD; obtain ⟨⟨_, _, -, -, f18⟩, ⟨_, _, -, -, f19⟩, -⟩ := hD
        rw [(f18 : vs 18 = _), (f19 : vs 19 = _)]; clear f18 f19; exact sPw
       ·intro vs W1 m1 hE hM hV hD; obtain ⟨⟨_, _, -, -, f20⟩, -⟩ := hD
        rw [(f20 : vs 20 = _)]; clear f20; exact sPw
       ·intro vs W1 m1 hE hM hV hD; obtain ⟨⟨_, _, -, -, f21⟩, -⟩ := hD
        rw [(f21 : vs 21 = _)]; clear f21; exact sPw
       ·intro vs W1 m1 hE hM hV hD; obtain ⟨⟨_, _, -, -, f21⟩, -⟩ := hD
        rw [(f21 : vs 21 = _)]; clear f21; exact sPw
       ·intro vs W1 m1 hE hM hV hD; obtain ⟨⟨_, _, -, -, f21⟩, -⟩ := hD
        rw [(f21 : vs 21 = _)]; clear f21; exact sPw
       ·intro vs W1 m1 hE hM hV hD; obtain ⟨⟨_, _, -, -, f23⟩, ⟨_, _, -, -, f24⟩, ⟨_, _, -, -, f21⟩, -⟩ := hD
        rw [(f23 : vs 23 = _), (f24 : vs 24 = _), (f21 : vs 21 = _)]; clear f23 f24 f21; exact sIy
       ·intro vs W1 m1 hE hM hV hD; obtain ⟨⟨_, _, -, -, f25⟩, ⟨_, _, -, -, f21⟩, -⟩ := hD
        rw [(f25 : vs 25 = _), (f21 : vs 21 = _)]; clear f25 f21; exact sLe
       ·intro vs W1 m1 hE hM hV hD; obtain ⟨⟨_, _, -, -, f21⟩, -⟩ := hD
        rw [(f21 : vs 21 = _)]; clear f21; exact sPw
       ·intro vs W1 m1 hE hM hV hD; obtain ⟨⟨_, _, -, -, f21⟩, -⟩ := hD
        rw [(f21 : vs 21 = _)]; clear f21; exact sPw
       ·intro vs W1 m1 hE hM hV hD; obtain ⟨⟨_, _, -, -, f28⟩, ⟨_, _, -, -, f21⟩, -⟩ := hD
        rw [(f28 : vs 28 = _), (f21 : vs 21 = _)]; clear f28 f21; exact sPw
       ·intro vs W1 m1 hE hM hV hD; obtain ⟨⟨_, _, -, -, f27⟩, ⟨_, _, -, -, f29⟩, ⟨_, _, -, -, f21⟩, -⟩ := hD
        rw [(f27 : vs 27 = _), (f29 : vs 29 = _), (f21 : vs 21 = _)]; clear f27 f29 f21; exact sIy
       ·intro vs W1 m1 hE hM hV hD; obtain ⟨⟨_, _, -, -, f30⟩, ⟨_, _, -, -, f21⟩, -⟩ := hD
        rw [(f30 : vs 30 = _), (f21 : vs 21 = _)]; clear f30 f21; exact sLe
       ·intro vs W1 m1 hE hM hV hD; obtain ⟨⟨_, _, -, -, f22⟩, ⟨_, _, -, -, f26⟩, ⟨_, _, -, -, f31⟩, ⟨_, _, -, -, f21⟩, -, -⟩ := hD
        rw [(f22 : vs 22 = _), (f26 : vs 26 = _), (f31 : vs 31 = _), (f21 : vs 21 = _)]
        clear f22 f26 f31 f21
        go_wp2_with fail
        refine (KC.out _ _ hV leX).mono ?_
        rintro e W2 ⟨v, m2, rfl, hE2, hM2, hV2, h⟩
        go_wp2_with fail
        refine One2.call hE2 hM2 hV2 ?_; first | exact h | exact rfl
       ·intro vs W1 m1 hE hM hV hD; obtain ⟨⟨_, _, -, -, f32⟩, ⟨_, _, -, -, f21⟩, -⟩ := hD
        rw [(f32 : vs 32 = _), (f21 : vs 21 = _)]; clear f32 f21; exact sPw
       ·intro vs W1 m1 hE hM hV hD; obtain ⟨⟨_, _, -, -, f21⟩, ⟨_, _, -, -, f33⟩, -⟩ := hD
        rw [(f21 : vs 21 = _), (f33 : vs 33 = _)]; clear f21 f33; exact sPw
      case l4b =>
       refine ⟨nF, nF, nF, nF, nF, nF, nF, nF, nF, nF, nF, nF, nF, nF, nF, nF, nF, trivial⟩
      intro vs W1 m1 hE hM hV hF hD
      clear hD
      obtain ⟨⟨_, _, -, -, f18⟩, ⟨_, _, -, -, f19⟩, ⟨_, _, -, -, f20⟩, ⟨_, _, -, -, f21⟩, ⟨_, _, -, -, f22⟩, ⟨_, _, -, -, f23⟩, ⟨_, _, -, -, f24⟩, ⟨_, _, -, -, f25⟩, ⟨_, _, -, -, f26⟩, ⟨_, _, -, -, f27⟩, ⟨_, _, -, -, f28⟩, ⟨_, _, -, -, f29⟩, ⟨_, _, -, -, f30⟩, ⟨_, _, -, -, f31⟩, ⟨_, _, -, -, f32⟩, ⟨_, _, -, -, f33⟩, ⟨_, _, -, -, f34⟩, -⟩ := hF
      replace hL := hL.call hE hM hV
      have f18 : vs 18 = _ := f18
      generalize vs 18 = x18 at f18 ⊢
      subst x18
      have f19 : vs 19 = _ := f19
      generalize vs 19 = x19 at f19 ⊢
      subst x19
      have f20 : vs 20 = _ := f20
      generalize vs 20 = x20 at f20 ⊢
      subst x20
      have f21 : vs 21 = _ := f21
      generalize vs 21 = x21 at f21 ⊢
      subst x21
      have f22 : vs 22 = _ := f22
      generalize vs 22 = x22 at f22 ⊢
      subst x22
      have f23 : vs 23 = _ := f23
      generalize vs 23 = x23 at f23 ⊢
      subst x23
      have f24 : vs 24 = _ := f24
      generalize vs 24 = x24 at f24 ⊢
      subst x24
      have f25 : vs 25 = _ := f25
      generalize vs 25 = x25 at f25 ⊢
      subst x25
      have f26 : vs 26 = _ := f26
      generalize vs 26 = x26 at f26 ⊢
      subst x26
      have f27 : vs 27 = _ := f27
      generalize vs 27 = x27 at f27 ⊢
      subst x27
      have f28 : vs 28 = _ := f28
      generalize vs 28 = x28 at f28 ⊢
      subst x28
      have f29 : vs 29 = _ := f29
      generalize vs 29 = x29 at f29 ⊢
      subst x29
      have f30 : vs 30 = _ := f30
      generalize vs 30 = x30 at f30 ⊢
      subst x30
      have f31 : vs 31 = _ := f31
      generalize vs 31 = x31 at f31 ⊢
      subst x31
      have f32 : vs 32 = _ := f32
      generalize vs 32 = x32 at f32 ⊢
      subst x32
      have f33 : vs 33 = _ := f33
      generalize vs 33 = x33 at f33 ⊢
      subst x33
      have f34 : vs 34 = _ := f34
      generalize vs 34 = x34 at f34 ⊢
      subst x34
      have HEX := Lib.hid hE
      clear hE hV
      simp only [List.drop_succ_cons, List.drop_zero]
      go_wp2_with (first | go_skip | refine tP ?_ | (refine tS ?_; clear hL; intro _ hL))
      refine QN.mk ?_
      have HS3 := Lib.hid (HS2.out.trans HEX.out.still)
      clear HEX HS2
      have HM1 : Hid (Ext m2 m1) := exX
      have HXB1 := Lib.hid hX
      clear hX
      go_upto_region 6 with ((first | go_skip | refine tP ?_ | (refine tS ?_; clear hL; intro _ hL)))
      (try simp only [eq_self] at *)
      refine wp_region_by2 14 [false, false, false, false, false, false, false, false, false, false, false, false, false, false] [false, false, true, true, true, false, false, false, false, false, false, false, false, false] [(fun v _ _ => v = ?c6_0b), (fun v _ _ => v = ?c6_1b), (fun v _ _ => v = ?c6_2b), (fun v _ _ => v = ?c6_3b), (fun v _ _ => v = ?c6_4b), (fun v _ _ => v = ?c6_5b), (fun v _ _ => v = ?c6_6b), (fun v _ _ => v = ?c6_7b), (fun v _ _ => v = ?c6_8b), (fun v _ _ => v = ?c6_9b), (fun v _ _ => v = ?c6_10b), (fun v _ _ => v = ?c6_11b), (fun v _ _ => v = ?c6_12b), (fun v _ _ => v = ?c6_13b)] hL.vw mixed [37, 38, 39, 40, 41, 42, 43, 44, 45, 46, 47, 48, 49, 50] _ (by kernel_rfl) (fun vs => by simp only [lay, Act.put, zq1, zq2, zq3]; rfl) (by kernel_rfl) (by decide) (by decide) ?s6b ?l6b ?r6b
      case s6b =>
       refine ⟨?_, ?_, ?_, ?_, ?_, ?_, ?_, ?_, ?_, ?_, ?_, ?_, ?_, ?_, trivial⟩
       ·intro vs W1 m1 hE hM hV hD; clear hD
        exact sPw
       ·intro vs W1 m1 hE hM hV hD; clear hD
        exact sPw
       ·intro vs W1 m1 hE hM hV hD; clear hD
        exact sPw
       ·intro vs W1 m1 hE hM hV hD; clear hD
        exact sPw
       ·intro vs W1 m1 hE hM hV hD; obtain ⟨⟨_, _, -, -, f40⟩, -, -⟩ := hD
        rw [(f40 : vs 40 = _)]; clear f40; exact sPw
       ·intro vs W1 m1 hE hM hV hD; clear hD
        exact sPw
       ·intro vs W1 m1 hE hM hV hD; clear hD
        exact sPw
       ·intro vs W1 m1 hE hM hV hD; obtain ⟨⟨_, _, -, -, f43⟩, -⟩ := hD
        rw [(f43 : vs 43 = _)]; clear f43; exact sPw
       ·intro vs W1 m1 hE hM hV hD; obtain ⟨⟨_, _, -, -, f42⟩, ⟨_, _, -, -, f44⟩, -⟩ := hD
        rw [(f42 : vs 42 = _), (f44 : vs 44 = _)]; clear f42 f44; exact sIy
       ·intro vs W1 m1 hE hM hV hD; obtain ⟨⟨_, _, -, -, f45⟩, -⟩ := hD
        rw [(f45 : vs 45 = _)]; clear f45; exact sLe
       ·intro vs W1 m1 hE hM hV hD; clear hD
        exact sPw
       ·intro vs W1 m1 hE hM hV hD; clear hD
        exact sPw
       ·intro vs W1 m1 hE hM hV hD; obtain ⟨⟨_, _, -, -, f47⟩, ⟨_, _, -, -, f48⟩, -⟩ := hD
        rw [(f47 : vs 47 = _), (f48 : vs 48 = _)]; clear f47 f48; exact sIy
       ·intro vs W1 m1 hE hM hV hD; obtain ⟨⟨_, _, -, -, f49⟩, -⟩ := hD
        rw [(f49 : vs 49 = _)]; clear f49; exact sLe
      case l6b =>
       refine ⟨nF, nF, fun _ => ?_, fun _ => ?_, fun _ => ?_, nF, nF, nF, nF, nF, nF, nF, nF, nF, trivial⟩
       ·intro vs W1 m1 hE hM hV hD; clear hD
        exact ⟨_, Or.inl ⟨(by rfl), fun w => (by rfl)⟩, (by first | exact rfl | exact congrArg (Value.int .i64) hw3)⟩
       ·intro vs W1 m1 hE hM hV hD; clear hD
        exact ⟨_, Or.inl ⟨(by rfl), fun w => (by rfl)⟩, (by first | exact rfl | exact congrArg (Value.int .i64) hw3)⟩
       ·intro vs W1 m1 hE hM hV hD; obtain ⟨⟨_, _, -, -, f40⟩, -, -⟩ := hD
        rw [(f40 : vs 40 = _)]
        clear f40
        exact ⟨_, Or.inl ⟨(by rfl), fun w => (by rfl)⟩, (by first | exact rfl | exact congrArg (Value.int .i64) hw3)⟩
      intro vs W1 m1 hE hM hV hF hD
      clear hD
      obtain ⟨⟨_, _, -, -, f37⟩, ⟨_, _, -, -, f38⟩, ⟨_, _, -, -, f39⟩, -, ⟨_, _, -, -, f41⟩, -, -, -, -, ⟨_, _, -, -, f46⟩, -, -, -, ⟨_, _, -, -, f50⟩, -⟩ := hF
      replace hL := hL.call hE hM hV
      have f37 : vs 37 = _ := f37
      generalize vs 37 = x37 at f37 ⊢
      subst x37
      have f38 : vs 38 = _ := f38
      generalize vs 38 = x38 at f38 ⊢
      subst x38
      have f39 : vs 39 = _ := f39
      generalize vs 39 = x39 at f39 ⊢
      subst x39
      have f41 : vs 41 = _ := f41
      generalize vs 41 = x41 at f41 ⊢
      subst x41
      have f46 : vs 46 = _ := f46
      generalize vs 46 = x46 at f46 ⊢
      subst x46
      have f50 : vs 50 = _ := f50
      generalize vs 50 = x50 at f50 ⊢
      subst x50
      have HEX := Lib.hid hE
      clear hE hV
      simp only [List.drop_succ_cons, List.drop_zero]
      have HS4 := Lib.hid (HS3.out.trans HEX.out.still)
      have hfit := ROW2.out.fit
      have hfj : 0 + j * 6 + 6 ≤ cur2.size := by omega
      have hfj1 : 0 + j1 * 6 + 6 ≤ cur2.size := by omega
      clear HEX HS3 hfit
      go_wp2_with (first | (with_reducible refine stS ?_) | (first | go_skip | refine tP ?_ | (refine tS ?_; clear hL; intro _ hL)))
      refine goA ?_
      refine wl_storeS hL (wanted_none rfl) (vs := [.slice R2 a2 c2, .int .i64 d2, .bool g2, .slice A2 n2 e2, .bool f2, .slice B2 p2 q2]) rfl rfl rfl ag_Can rfl (n := 0) rfl (by omega) rfl ?_
      have hra1 := RowA.putW (k := j) (x := xb) (ws := [.slice R2 a2 c2, .int .i64 d2, .bool g2, .slice A2 n2 e2, .bool f2, .slice B2 p2 q2]) ROW2.out HIN.out rfl HCB.out
      simp only [Nat.zero_add] at hra1
      clear hL
      intro W7 hL hS7
      simp only [List.set_cons_zero, Nat.zero_add] at hL
      simp only [Act.put, zq1, zq2, zq3]
      go_wp2_with (first | (with_reducible refine stS ?_) | (first | go_skip | refine tP ?_ | (refine tS ?_; clear hL; intro _ hL)))
      refine goA ?_
      refine wl_storeS hL (wanted_none rfl) (vs := [.slice R1 a1 c1, .int .i64 d1, .bool g1, .slice A1 n1 e1, .bool f1, .slice B1 p1 q1]) rfl rfl rfl ag_Can rfl (n := 0) rfl (by rw [splice_size]; omega) rfl ?_
      have hra2 := RowA.putW (k := j1) (x := xa) (ws := [.slice R1 a1 c1, .int .i64 d1, .bool g1, .slice A1 n1 e1, .bool f1, .slice B1 p1 q1]) hra1 (by rw [List.length_set]; exact HIN1.out) rfl HCA.out
      rw [← HSW.out] at hra2
      simp only [Nat.zero_add] at hra2
      clear hL hra1
      intro W8 hL hS8
      simp only [List.set_cons_zero, Nat.zero_add] at hL
      have RA2 := Lib.hid hra2
      have HS8 := Lib.hid ((HS4.out.trans hS7).trans hS8)
      have HB2 : Hid (bubC (swp ys j) j1 = zs) := by
       show _ = _
       rw [← HB.out, ← HJ.out, HST.out]
      have HY2 : Hid (∀ y ∈ swp ys j, Sm y.2.num y.2.den) := by
       show ∀ y ∈ _, _
       exact fun y hy => HY.out y (swp_mem hy)
      clear hra2 hS7 hS8 HS4
      simp only [Act.put, zq1, zq2, zq3]
      go_wp2_with (first | go_skip | refine tP ?_ | (refine tS ?_; clear hL; intro _ hL))
      refine QN.mk ?_
      go_wp2_with (first | go_skip | refine tP ?_ | (refine tS ?_; clear hL; intro _ hL))
      go_roundw
      case rel => exact ⟨j1, _, _, _, by omega, by go_num, hL, HXB1.out.trans exX, RowA.le CanR.mono RA2.out leX, HB2.out, HY2.out, HS8.out⟩
      case measure => simp [intOf] <;> omega
     ·rw [if_neg hc] at HST
      have hbc : decide (c < 0) = false := decide_eq_false hc
      have HZ : Hid (ys = zs) := by
       show _ = _
       rw [← HB.out, ← HJ.out, HST.out]
      clear hc
      go_upto_region 4 with ((first | go_skip | refine tP ?_ | (refine tS ?_; clear hL; intro _ hL)))
      (try simp only [Nat.zero_add])
      (try simp only [eq_self] at *)
      refine wp_region_by2 17 [false, false, false, false, false, false, false, false, false, false, false, false, false, false, false, false, false] [false, false, false, false, false, false, false, false, false, false, false, false, false, false, false, false, false] [(fun v _ _ => v = ?c4_0c), (fun v _ _ => v = ?c4_1c), (fun v _ _ => v = ?c4_2c), (fun v _ _ => v = ?c4_3c), (fun v _ _ => v = ?c4_4c), (fun v _ _ => v = ?c4_5c), (fun v _ _ => v = ?c4_6c), (fun v _ _ => v = ?c4_7c), (fun v _ _ => v = ?c4_8c), (fun v _ _ => v = ?c4_9c), (fun v _ _ => v = ?c4_10c), (fun v _ _ => v = ?c4_11c), (fun v _ _ => v = ?c4_12c), (fun v _ _ => v = ?c4_13c), Is (.int .i64 c), (fun v _ _ => v = ?c4_15c), (fun v _ _ => v = ?c4_16c)] hL.vw mixed [18, 19, 20, 21, 22, 23, 24, 25, 26, 27, 28, 29, 30, 31, 32, 33, 34] _ (by kernel_rfl) (fun vs => by simp only [lay, Act.put, zq1, zq2, zq3]; rfl) (by kernel_rfl) (by decide) (by decide) ?s4c ?l4c ?r4c
      case s4c =>
       refine ⟨?_, ?_, ?_, ?_, ?_, ?_, ?_, ?_, ?_, ?_, ?_, ?_, ?_, ?_, ?_, ?_, ?_, trivial⟩
       ·intro vs W1 m1 hE hM hV hD; clear hD
        exact sPw
       ·intro vs W1 m1 hE hM hV hD; clear hD
        exact sPw
       ·intro vs W1 m1 hE hM hV hD; obtain ⟨⟨_, _, -, -, f18⟩, ⟨_, _, -, -, f19⟩, -⟩ := hD
        rw [(f18 : vs 18 = _), (f19 : vs 19 = _)]; clear f18 f19; exact sPw
       ·intro vs W1 m1 hE hM hV hD; obtain ⟨⟨_, _, -, -, f20⟩, -⟩ := hD
        rw [(f20 : vs 20 = _)]; clear f20; exact sPw
       ·intro vs W1 m1 hE hM hV hD; obtain ⟨⟨_, _, -, -, f21⟩, -⟩ := hD
        rw [(f21 : vs 21 = _)]; clear f21; exact sPw
       ·intro vs W1 m1 hE hM hV hD; obtain ⟨⟨_, _, -, -, f21⟩, -⟩ := hD
        rw [(f21 : vs 21 = _)]; clear f21; exact sPw
       ·intro vs W1 m1 hE hM hV hD; obtain ⟨⟨_, _, -, -, f21⟩, -⟩ := hD
        rw [(f21 : vs 21 = _)]; clear f21; exact sPw
       ·intro vs W1 m1 hE hM hV hD; obtain ⟨⟨_, _, -, -, f23⟩, ⟨_, _, -, -, f24⟩, ⟨_, _, -, -, f21⟩, -⟩ := hD
        rw [(f23 : vs 23 = _), (f24 : vs 24 = _), (f21 : vs 21 = _)]; clear f23 f24 f21; exact sIy
       ·intro vs W1 m1 hE hM hV hD; obtain ⟨⟨_, _, -, -, f25⟩, ⟨_, _, -, -, f21⟩, -⟩ := hD
        rw [(f25 : vs 25 = _), (f21 : vs 21 = _)]; clear f25 f21; exact sLe
       ·intro vs W1 m1 hE hM hV hD; obtain ⟨⟨_, _, -, -, f21⟩, -⟩ := hD
        rw [(f21 : vs 21 = _)]; clear f21; exact sPw
       ·intro vs W1 m1 hE hM hV hD; obtain ⟨⟨_, _, -, -, f21⟩, -⟩ := hD
        rw [(f21 : vs 21 = _)]; clear f21; exact sPw
       ·intro vs W1 m1 hE hM hV hD; obtain ⟨⟨_, _, -, -, f28⟩, ⟨_, _, -, -, f21⟩, -⟩ := hD
        rw [(f28 : vs 28 = _), (f21 : vs 21 = _)]; clear f28 f21; exact sPw
       ·intro vs W1 m1 hE hM hV hD; obtain ⟨⟨_, _, -, -, f27⟩, ⟨_, _, -, -, f29⟩, ⟨_, _, -, -, f21⟩, -⟩ := hD
        rw [(f27 : vs 27 = _), (f29 : vs 29 = _), (f21 : vs 21 = _)]; clear f27 f29 f21; exact sIy
       ·intro vs W1 m1 hE hM hV hD; obtain ⟨⟨_, _, -, -, f30⟩, ⟨_, _, -, -, f21⟩, -⟩ := hD
        rw [(f30 : vs 30 = _), (f21 : vs 21 = _)]; clear f30 f21; exact sLe
       ·intro vs W1 m1 hE hM hV hD; obtain ⟨⟨_, _, -, -, f22⟩, ⟨_, _, -, -, f26⟩, ⟨_, _, -, -, f31⟩, ⟨_, _, -, -, f21⟩, -, -⟩ := hD
        rw [(f22 : vs 22 = _), (f26 : vs 26 = _), (f31 : vs 31 = _), (f21 : vs 21 = _)]
        clear f22 f26 f31 f21
        go_wp2_with fail
        refine (KC.out _ _ hV leX).mono ?_
        rintro e W2 ⟨v, m2, rfl, hE2, hM2, hV2, h⟩
        go_wp2_with fail
        refine One2.call hE2 hM2 hV2 ?_; first | exact h | exact rfl
       ·intro vs W1 m1 hE hM hV hD; obtain ⟨⟨_, _, -, -, f32⟩, ⟨_, _, -, -, f21⟩, -⟩ := hD
        rw [(f32 : vs 32 = _), (f21 : vs 21 = _)]; clear f32 f21; exact sPw
       ·intro vs W1 m1 hE hM hV hD; obtain ⟨⟨_, _, -, -, f21⟩, ⟨_, _, -, -, f33⟩, -⟩ := hD
        rw [(f21 : vs 21 = _), (f33 : vs 33 = _)]; clear f21 f33; exact sPw
      case l4c =>
       refine ⟨nF, nF, nF, nF, nF, nF, nF, nF, nF, nF, nF, nF, nF, nF, nF, nF, nF, trivial⟩
      intro vs W1 m1 hE hM hV hF hD
      clear hD
      obtain ⟨⟨_, _, -, -, f18⟩, ⟨_, _, -, -, f19⟩, ⟨_, _, -, -, f20⟩, ⟨_, _, -, -, f21⟩, ⟨_, _, -, -, f22⟩, ⟨_, _, -, -, f23⟩, ⟨_, _, -, -, f24⟩, ⟨_, _, -, -, f25⟩, ⟨_, _, -, -, f26⟩, ⟨_, _, -, -, f27⟩, ⟨_, _, -, -, f28⟩, ⟨_, _, -, -, f29⟩, ⟨_, _, -, -, f30⟩, ⟨_, _, -, -, f31⟩, ⟨_, _, -, -, f32⟩, ⟨_, _, -, -, f33⟩, ⟨_, _, -, -, f34⟩, -⟩ := hF
      replace hL := hL.call hE hM hV
      have f18 : vs 18 = _ := f18
      generalize vs 18 = x18 at f18 ⊢
      subst x18
      have f19 : vs 19 = _ := f19
      generalize vs 19 = x19 at f19 ⊢
      subst x19
      have f20 : vs 20 = _ := f20
      generalize vs 20 = x20 at f20 ⊢
      subst x20
      have f21 : vs 21 = _ := f21
      generalize vs 21 = x21 at f21 ⊢
      subst x21
      have f22 : vs 22 = _ := f22
      generalize vs 22 = x22 at f22 ⊢
      subst x22
      have f23 : vs 23 = _ := f23
      generalize vs 23 = x23 at f23 ⊢
      subst x23
      have f24 : vs 24 = _ := f24
      generalize vs 24 = x24 at f24 ⊢
      subst x24
      have f25 : vs 25 = _ := f25
      generalize vs 25 = x25 at f25 ⊢
      subst x25
      have f26 : vs 26 = _ := f26
      generalize vs 26 = x26 at f26 ⊢
      subst x26
      have f27 : vs 27 = _ := f27
      generalize vs 27 = x27 at f27 ⊢
      subst x27
      have f28 : vs 28 = _ := f28
      generalize vs 28 = x28 at f28 ⊢
      subst x28
      have f29 : vs 29 = _ := f29
      generalize vs 29 = x29 at f29 ⊢
      subst x29
      have f30 : vs 30 = _ := f30
      generalize vs 30 = x30 at f30 ⊢
      subst x30
      have f31 : vs 31 = _ := f31
      generalize vs 31 = x31 at f31 ⊢
      subst x31
      have f32 : vs 32 = _ := f32
      generalize vs 32 = x32 at f32 ⊢
      subst x32
      have f33 : vs 33 = _ := f33
      generalize vs 33 = x33 at f33 ⊢
      subst x33
      have f34 : vs 34 = _ := f34
      generalize vs 34 = x34 at f34 ⊢
      subst x34
      have HEX := Lib.hid hE
      clear hE hV
      simp only [List.drop_succ_cons, List.drop_zero]
      go_wp2_with (first | go_skip | refine tP ?_ | (refine tS ?_; clear hL; intro _ hL))
      refine QN.mk ?_
      have HS3 := Lib.hid (HS2.out.trans HEX.out.still)
      clear HEX HS2
      go_wp2_with (first | go_skip | refine tP ?_ | (refine tS ?_; clear hL; intro _ hL))
      go_roundw
      case rel => exact ⟨i + 1, _, _, by omega, by omega, by go_num, hL, exX, by rw [← HZS.out, ← HZ.out]; exact RowA.le CanR.mono ROW2.out leX, HS3.out⟩
      case measure => simp [intOf] <;> omega
  ·have hin : i = n := by omega
   subst hin
   have h9 : (i : Int) ≤ (i : Int) := Int.le_refl _
   go_wp2_with (first | go_skip | refine tP ?_ | (refine tS ?_; clear hL; intro _ hL))
   refine bodyPost_end (results_none rfl _ _ _) rfl ?_
   exact ⟨_, cur1, ⟨_, rfl⟩, hL, hX, HS1.out, ROW1.out⟩
end Go.Proofs.YtmhkmmmompediaaGreat

/- slices.SortStableFunc of at most ten candidates: one insertion sort. -/
namespace Go.Proofs.YtmhkmmmompediaaGreat
open Go.RowKit

theorem s_StableCan {w0 m0 W m : World} {A : List Lo} {g n cap : Nat} {cur : Array Value} {xs : List Can} (hL : Loc w0 m0 W m ((g, 128, cur) :: A)) (row : RowA 128 6 CanR m (.slice (some ⟨g, 0, none⟩) n cap) n xs [(g, 128, cur)]) (hn1 : 1 ≤ n) (hn : n ≤ 10) (hs : ∀ x ∈ xs, Sm x.2.num x.2.den) :
  Calls Tryz.prog 165 #[.slice (some ⟨g, 0, none⟩) n cap, .int .i64 n, .func (.func 106) #[] #[]] W (fun e W' => ∃ (m' : World) (cur' : Array Value), (∃ v, e = .returned v) ∧ Loc w0 m0 W' m' ((g, 128, cur') :: A) ∧ Ext m m' ∧ Still W W' ∧
   RowA 128 6 CanR m' (.slice (some ⟨g, 0, none⟩) n cap) n (insC xs n) [(g, 128, cur')]) := by
 have ROW := Lib.hid row
 have HS := Lib.hid hs
 have h20 : (n : Int) < 20 := by omega
 have h21 : (n : Int) ≤ 20 := by omega
 clear row hs
 go_enter Tryz.func165, Tryz.ntmps165
 go_wp2_with (first | go_skip | refine tP ?_)
 refine wp_loop_once ?_
 go_wp2_with (first | go_skip | refine tP ?_)
 refine (s_InsCan hL ROW.out hn1 (by omega) HS.out).mono ?_
 rintro e W1 ⟨m1, cur1, ⟨v, rfl⟩, hL1, hX1, hS1, row1⟩
 clear hL
 have hL := hL1
 have ROW1 := Lib.hid row1
 have HS1 := Lib.hid hS1
 clear hL1 row1 hS1
 go_wp2_with (first | go_skip | refine tP ?_)
 refine wp_loop_once ?_
 go_wp2_with (first | go_skip | refine tP ?_)
 first | refine bodyPost_end (results_none rfl _ _ _) rfl ?_ | refine bodyPost_ret (results_none rfl _ _ _) rfl ?_
 exact ⟨_, cur1, ⟨_, rfl⟩, hL, hX1, HS1.out, ROW1.out⟩
theorem s_SortCan {w0 m0 W m : World} {A : List Lo} {g n cap : Nat} {cur : Array Value} {xs : List Can} (hL : Loc w0 m0 W m ((g, 128, cur) :: A)) (row : RowA 128 6 CanR m (.slice (some ⟨g, 0, none⟩) n cap) n xs [(g, 128, cur)]) (hn1 : 1 ≤ n) (hn : n ≤ 10) (hs : ∀ x ∈ xs, Sm x.2.num x.2.den) :
  Calls Tryz.prog 105 #[.slice (some ⟨g, 0, none⟩) n cap, .func (.func 106) #[] #[]] W (fun e W' => ∃ (m' : World) (cur' : Array Value), (∃ v, e = .returned v) ∧ Loc w0 m0 W' m' ((g, 128, cur') :: A) ∧ Ext m m' ∧ Still W W' ∧
   RowA 128 6 CanR m' (.slice (some ⟨g, 0, none⟩) n cap) n (srtC xs) [(g, 128, cur')]) := by
 have HSR : Hid (insC xs n = srtC xs) := by
  show _ = _
  rw [row.len]; exact insC_all xs
 have ROW := Lib.hid row
 have HS := Lib.hid hs
 clear row hs
 go_enter Tryz.func105, Tryz.ntmps105
 go_wp2_with (first | go_skip | refine tP ?_)
 refine (s_StableCan hL ROW.out hn1 hn HS.out).mono ?_
 rintro e W1 ⟨m1, cur1, ⟨v, rfl⟩, hL1, hX1, hS1, row1⟩
 clear hL
 have hL := hL1
 rw [HSR.out] at row1
 have ROW1 := Lib.hid row1
 have HS1 := Lib.hid hS1
 clear hL1 row1 hS1
 go_wp2_with (first | go_skip | refine tP ?_)
 first | refine bodyPost_end (results_none rfl _ _ _) rfl ?_ | refine bodyPost_ret (results_none rfl _ _ _) rfl ?_
 exact ⟨_, cur1, ⟨_, rfl⟩, hL, hX1, HS1.out, ROW1.out⟩
end Go.Proofs.YtmhkmmmompediaaGreat

/- cuts.Separate in general. -/
namespace Go.Proofs.YtmhkmmmompediaaGreat
open Go.RowKit

theorem s_SortAny {w0 m0 W m : World} {x : Lo} {R : List Lo} {A : Option Addr} {n c : Nat} {xs : List Can} (hL : Loc w0 m0 W m (x :: R)) (row : RowA 128 6 CanR m (.slice A n c) n xs R) (hn : n ≤ 10) (hs : ∀ x ∈ xs, Sm x.2.num x.2.den) :
  Calls Tryz.prog 105 #[.slice A n c, .func (.func 106) #[] #[]] W (fun e W' => ∃ (v : Value) (m' : World) (R' : List Lo), e = .returned v ∧ Loc w0 m0 W' m' (x :: R') ∧ Ext m m' ∧ Still W W' ∧
   RowA 128 6 CanR m' (.slice A n c) n (srtC xs) R') := by
 by_cases h0 : n = 0
 ·have hx : xs = [] := List.length_eq_zero_iff.1 (by rw [← row.len]; exact h0)
  subst hx
  refine (s_Sort1 A n c (by omega) W m hL.vw).mono ?_
  rintro e W1 ⟨v, m1, rfl, hE, hM, hV, -⟩
  exact ⟨v, m1, R, rfl, hL.call hE hM hV, hM, hE.still, RowA.le CanR.mono row hM.le⟩
 ·obtain ⟨g, cap, cur, e, rfl, hc, hz⟩ := row.block (by omega)
  injection e with e1 e2 e3
  subst e1 e3
  have hP := hL.perm (List.Perm.swap _ _ _)
  refine (s_SortCan hP row (by omega) hn hs).mono ?_
  rintro e W1 ⟨m1, cur1, ⟨v, rfl⟩, hL1, hX1, hS1, row1⟩
  exact ⟨v, m1, _, rfl, hL1.perm (List.Perm.swap _ _ _), hX1, hS1, row1⟩

theorem u_Separate (mv vv : Value) (ms : Ms) (us : List Rat) (sz d most : Nat) (w m : World) (hV : Vw m w) (hm : MasterR m mv ms) (hvv : FracL m vv us) (ok : VOk ms us) (h5 : ms.rows.length ≤ 5) (h6 : ms.cols.length ≤ 6) (hs3 : 3 ≤ sz) (hs5 : sz ≤ 5) (hd2 : 2 ≤ d) (hdz : d < sz) (hmo : most ≤ 1000) :
  Calls Tryz.prog 39 #[mv, vv, .int .i64 sz, .int .i64 d, .int .i64 most] w (RetV w m fun m' r => ∃ v, r = .tuple #[v, .int .i64 0] ∧ CutL m' v (sepF ms us sz d most)) := by
 have HM := Lib.hid hm
 have HVV := Lib.hid hvv
 have OK := Lib.hid ok
 have SG := Lib.hid (sepG ok h5 h6)
 obtain ⟨A, nr, ca, B, nc, cb, C, nk, cc, rfl, hm1⟩ := hm.lit
 obtain ⟨V, cv, rfl, hcv, hvv1⟩ := hvv.lit
 obtain ⟨p1, p2, p3⟩ := hm1.parts
 have hnr := p1.n_is
 have hul : us.length = nc := ok.len.trans p2.n_is.symm
 have SO := Lib.hid (subs_ok (n := nr) (size := sz) (by omega) hs3 hs5)
 have HRO := Lib.hid p1
 have HCU := Lib.hid p3
 have KV : Hid (∀ w m', Vw m' w → Le m m' → Calls Tryz.prog 68 #[.agg #[.int .i64 ms.nf, .slice A nr ca, .int .i64 ms.pen, .slice B nc cb, .slice C nk cc]] w (RetV w m' fun _ r => r = .int .i64 0)) := by
  show ∀ w m', _
  exact fun w m' hV hle => m_ValidateMaster _ _ w m' hV (HM.out.le hle) ok.ms
 have KG : Hid (∀ w m', Vw m' w → Le m m' → Calls Tryz.prog 99 #[.agg #[.int .i64 ms.nf, .slice A nr ca, .int .i64 ms.pen, .slice B nc cb, .slice C nk cc], .slice V us.length cv] w (GrpPost w m' (grpF ms.rows ms.cols us))) := by
  show ∀ w m', _
  exact fun w m' hV hle => u_groups _ _ _ us w m' hV (HM.out.le hle) (FracL.le HVV.out hle) ok h5 h6
 have HGT : Hid (∀ x ∈ grpF ms.rows ms.cols us, Tw 108 x.2.1) := by
  show ∀ x ∈ _, _
  exact fun x hx => (grpT_tw ms.rows ok.tw _ x (List.mem_filter.1 hx |>.1)).mono (by omega)
 have HGL : Hid ((grpF ms.rows ms.cols us).length ≤ 6) := Nat.le_trans (grpF_len ms.rows ms.cols us) h6
 have HNR := Lib.hid hnr
 have hL := Loc.start hV
 have hz3 : (3 : Int) ≤ (sz : Int) := by omega
 have hz5 : (sz : Int) ≤ 5 := by omega
 have hz2 : (2 : Int) ≤ (d : Int) := by omega
 have hzd : (d : Int) < (sz : Int) := by omega
 have hz0 : (0 : Int) ≤ (most : Int) := by omega
 have hb1 : decide ((sz : Int) < 3) = false := decide_eq_false (by omega)
 have hb2 : decide ((5 : Int) < (sz : Int)) = false := decide_eq_false (by omega)
 have hb3 : decide ((d : Int) < 2) = false := decide_eq_false (by omega)
 have hb4 : decide ((sz : Int) ≤ (d : Int)) = false := decide_eq_false (by omega)
 have hb5 : decide ((most : Int) < 0) = false := decide_eq_false (by omega)
 have hnr5 : nr ≤ 5 := by omega
 rw [hul] at KG hcv ⊢
 clear hV ok hvv1 HM HVV hul p1 p2 p3 hm1 hnr h5 h6
 refine callsIn_wide.1 (callsIn_of_wp_marks (n := 0) (F := Fence.wide) Tryz.func39 rfl trivial ?_)
 refine wpIn_wide.2 ?_
 simp only [Tryz.ntmps39, List.size_toArray, List.length_cons, List.length_nil, Nat.reduceAdd, Nat.reduceSub, Array.replicate_succ, Array.replicate_zero, List.push_toArray, List.append_toArray, List.nil_append, List.cons_append]
 generalize ms.nf = nf at *
 generalize ms.pen = pen at *
 go_upto_region 0 with (fail)
 refine wp_region_lit ?_
 refine t_box hL rfl rfl ?_
 clear hL
 intro W5 m5 hL e5
 simp only [Act.put, zq1, zq2, zq3]
 refine wl_box1 hL (wanted_none rfl) (v := .int .i64 (sz : Int)) rfl rfl rfl ?_
 clear hL
 intro W7 m7 hL e7
 simp only [Act.put, zq1, zq2, zq3]
 refine wl_box1 hL (wanted_none rfl) (v := .int .i64 (d : Int)) rfl rfl rfl ?_
 clear hL
 intro W8 m8 hL e8
 simp only [Act.put, zq1, zq2, zq3]
 obtain ⟨m9, hL9, hle9, hsl9⟩ := Loc.show1 (A := [(_, _, _), (_, _, _)]) hL 5
 obtain ⟨m10, hL10, hle10, hsl10⟩ := Loc.show1 (A := [(_, _, _)]) hL9 1
 obtain ⟨m11, hL11, hle11, hsl11⟩ := Loc.show1 (A := []) hL10 1
 have hr5 := Sl.range ((hsl9.le hle10).le hle11)
 have hc5 := (((hsl9.le hle10).le hle11).cell (j := 1) rfl)
 have hc6 := (((hsl9.le hle10).le hle11).cell (j := 3) rfl)
 have hc9 := (((hsl9.le hle10).le hle11).cell (j := 4) rfl)
 have hc7 := ((hsl10.le hle11).cell (j := 0) rfl)
 have hc8 := (hsl11.cell (j := 0) rfl)
 clear hL hL9 hL10 hsl9 hsl10 hsl11 hle9 hle10 hle11 e5 e7 e8
 have hL := hL11
 clear hL11
 have hX11 := hL.mext
 generalize w.heap.size = b5 at *
 generalize W5.heap.size = b7 at *
 generalize W7.heap.size = b8 at *
 go_wp2_with (first | go_skip | refine tP ?_ | (refine tS ?_; clear hL; intro _ hL) | (refine tB ?_; clear hL; intro _ _ hL _) | (refine tC ?_; clear hL; intro _ _ hL _ hBs))
 refine (KV.out _ _ hL.vw leX).mono ?_
 rintro e Wc1 ⟨_, mc1, rfl, hE, hMc1, hV, rfl⟩
 replace hL := hL.call hE (by assumption) hV; clear hE hV
 go_wp2_with (first | go_skip | refine tP ?_ | (refine tS ?_; clear hL; intro _ hL) | (refine tB ?_; clear hL; intro _ _ hL _) | (refine tC ?_; clear hL; intro _ _ hL _ hBs))
 refine (KG.out _ _ hL.vw leX).mono ?_
 rintro e Wg ⟨vg, mg, Rg, ng, rfl, hLg, rowg⟩
 have hXg := hLg.mext
 have hJ := hL.join hLg
 rw [List.append_nil] at hJ
 obtain ⟨Ag, cg, rfl, rowg1⟩ := rowg.lit
 have hng : ng ≤ 6 := by have := rowg1.len; have := HGL.out; omega
 have HROW := Lib.hid rowg1
 clear hL hLg rowg rowg1
 have hL := hJ
 clear hJ KG KV
 go_wp2_with (first | go_skip | refine tP ?_ | (refine tS ?_; clear hL; intro _ hL) | (refine tB ?_; clear hL; intro _ _ hL _) | (refine tC ?_; clear hL; intro _ _ hL _ hBs))
 have hP := hL.perm (List.perm_append_singleton _ _).symm
 refine (u_scale (A := [_]) hP (RowA.le GrpR.mono HROW.out leX) (by omega) HGT.out).mono ?_
 rintro e Ws ⟨m12, Rs, rfl, hLs, hXs, rows⟩
 have hP2 := hLs.perm (List.perm_append_singleton _ _)
 obtain ⟨m13, hL13, hle13, hgl, -⟩ := RowA.show (A := [_]) GrpR.mono hP2 rows
 have HGLS := Lib.hid hgl
 clear hL hP hLs hP2 rows HROW HGT
 have hL := hL13
 have HLE13 : Hid (Le m11 m13) := (leX : Le m11 m12).trans hle13
 clear hL13 hle13 hXs hXg hgl
 replace hr5 := rangeAt_le hr5 HLE13.out
 replace hc5 := HLE13.out.cell _ _ hc5
 replace hc6 := HLE13.out.cell _ _ hc6
 replace hc9 := HLE13.out.cell _ _ hc9
 replace hc7 := HLE13.out.cell _ _ hc7
 replace hc8 := HLE13.out.cell _ _ hc8
 generalize hcm : cmF (grpF ms.rows ms.cols us) = cm at *
 generalize hls : (grpF ms.rows ms.cols us).map (scF cm) = ls at *
 clear hcm hls
 go_upto_region 10 with ((first | go_skip | refine tP ?_ | (refine tS ?_; clear hL; intro _ hL) | (refine tB ?_; clear hL; intro _ _ hL _) | (refine tC ?_; clear hL; intro _ _ hL _ hBs)))
 obtain ⟨w16, rfl⟩ := hL.world
 obtain ⟨m14, hL14, hle14, hs14⟩ := Loc.show1 (A := [_, _]) hL 1
 obtain ⟨m15, hL15, hle15, hs15⟩ := Loc.show1 (A := [_]) hL14 1
 obtain ⟨m16, hL16, hle16, hs16⟩ := Loc.show1 (A := []) hL15 1
 have hc13 := ((hs14.le hle15).le hle16).cell (j := 0) rfl
 have hc14 := (hs15.le hle16).cell (j := 0) rfl
 have hc15 := hs16.cell (j := 0) rfl
 have HLE16 : Hid (Le m13 m16) := Le.trans leX (hle14.trans (hle15.trans hle16))
 clear hL hL14 hL15 hle14 hle15 hle16 hs14 hs15 hs16
 have hL := hL16
 clear hL16
 replace hr5 := rangeAt_le hr5 HLE16.out
 replace hc5 := HLE16.out.cell _ _ hc5
 replace hc6 := HLE16.out.cell _ _ hc6
 replace hc9 := HLE16.out.cell _ _ hc9
 replace hc7 := HLE16.out.cell _ _ hc7
 replace hc8 := HLE16.out.cell _ _ hc8
 have HGL16 := Lib.hid (ListV.le GrpR.mono HGLS.out HLE16.out)
 have HLE0 : Hid (Le m m16) := hL.mext.le
 go_wp2_with (first | go_skip | refine tP ?_ | (refine tS ?_; clear hL; intro _ hL) | (refine tB ?_; clear hL; intro _ _ hL _) | (refine tC ?_; clear hL; intro _ _ hL _ hBs))
 refine (u_subsets (nr : Int) (sz : Int) _ _ hL.vw).mono ?_
 rintro e W3 ⟨_, m3, rfl, hE, hM3, hV, bs, bn, rfl, hbs, hbn⟩
 replace hL := hL.call hE (by assumption) hV; clear hE hV
 go_wp2_with (first | go_skip | refine tP ?_ | (refine tS ?_; clear hL; intro _ hL) | (refine tB ?_; clear hL; intro _ _ hL _) | (refine tC ?_; clear hL; intro _ _ hL _ hBs))
 have hlow : w.heap.size ≤ W3.heap.size := hL.ext.size
 have HLE3 : Hid (Le m16 m3) := leX
 replace hc5 := HLE3.out.cell _ _ hc5
 replace hc9 := HLE3.out.cell _ _ hc9
 replace hc7 := HLE3.out.cell _ _ hc7
 replace hc8 := HLE3.out.cell _ _ hc8
 replace hc13 := HLE3.out.cell _ _ hc13
 replace hc14 := HLE3.out.cell _ _ hc14
 replace hc15 := HLE3.out.cell _ _ hc15
 have HRO3 := Lib.hid (IntL.le HRO.out (HLE0.out.trans HLE3.out))
 have HCU3 := Lib.hid (CutL.le HCU.out (HLE0.out.trans HLE3.out))
 have HGL3 := Lib.hid (ListV.le GrpR.mono HGL16.out HLE3.out)
 generalize w16.heap.size = b16 at *
 refine wp_rangeF (n := 0) (gf := 160) rfl (fun args w => enter_subs args w) rfl
  (fun k v W => ∃ s g, (subsF nr sz)[k]? = some s ∧ v = .slice (some ⟨g, 0, none⟩) sz sz ∧ SepE w m m3 g b16 s (fndT ms us sz d k) W)
  (fun k v W => ∃ s g, (subsF nr sz)[k]? = some s ∧ v = .slice (some ⟨g, 0, none⟩) sz sz ∧ SepE w m m3 g b16 s (fndT ms us sz d (k + 1)) W)
  (fun W => ∃ m', Loc w m W m' [(b16, 121, #[.slice none 0 0])] ∧ Ext m3 m')
  (SepO w m m3 b16 (fndF ms us sz d)) ?_ ?_ ?_ ?_ ?_ ?_ ?_
 ·rintro k v W b o o' ⟨s, g, hk, hv, h⟩ hb ho hn
  exact ⟨s, g, hk, hv, h.putObj o' ho (Nat.le_trans hlow hb) hn⟩
 ·rintro k v W b o o' ⟨s, g, hk, hv, h⟩ hb ho hn
  exact ⟨s, g, hk, hv, h.putObj o' ho (Nat.le_trans hlow hb) hn⟩
 ·exact fun W b o o' h hb ho hn => h.putObj o' ho (Nat.le_trans hlow hb) hn
 ·intro o o'
  obtain ⟨m1, h1, e1⟩ := hL.allocO o
  obtain ⟨m2, h2, e2⟩ := h1.allocO o'
  exact ⟨m2, h2, e1.trans e2⟩
 ·intro l R hR hy W1 hS1 hR1
  obtain ⟨m1, hL1, hX1⟩ := hS1
  have ez : (#[Value.func (.yield l) #[] #[]] ++ #[Value.pointer (some ⟨bs, 0, none⟩), .pointer (some ⟨bn, 0, none⟩)] : Array Value) = #[.func (.yield l) #[] #[], .pointer (some ⟨bs, 0, none⟩), .pointer (some ⟨bn, 0, none⟩)] := rfl
  rw [ez]
  refine (it_subsets (nr := 0) (l := l) (n := nr) (size := sz) (bs := bs) (bn := bn) SO.out hnr5 hs3 hs5 (fun k m' Ls => ∃ fd Rf n, Ls = (b16, 121, #[fd]) :: Rf ∧ Ext m3 m' ∧ RowA 128 6 CanR m' fd n (fndT ms us sz d k) Rf ∧ (n = 0 → fd = .slice none 0 0)) R ?_ hR ?_ ?_ hL1 ⟨_, [], 0, rfl, hX1, RowA.nil, fun _ => rfl⟩ hR1).mono ?_
  ·rintro k m' m'' Ls ⟨fd, Rf, n, rfl, hX, row, h0⟩ hX'
   exact ⟨fd, Rf, n, rfl, hX.trans hX', RowA.le CanR.mono row hX'.le, h0⟩
  ·rintro k m' Ls ⟨fd, Rf, n, -, hX, -, -⟩
   exact ⟨hX.le.cell _ _ hbs, hX.le.cell _ _ hbn⟩
  ·rintro k s g W m' Ls hk hL' ⟨fd, Rf, n, rfl, hX, row, h0⟩ hRW
   obtain ⟨fn, tmps, assign, body, hyl, hrd⟩ := hy k (.slice (some ⟨g, 0, none⟩) sz sz) W ⟨s, g, hk, rfl, m', fd, Rf, n, hL', hX, row, h0⟩ hRW
   refine ⟨fn, tmps, assign, body, hyl, hrd.mono ?_⟩
   rintro e W' ⟨rfl, ⟨s', g', hk', hv, m2, fd2, Rf2, n2, hL2, hX2, row2, h02⟩, hRW'⟩
   rw [hk] at hk'
   injection hk' with hk'
   subst hk'
   injection hv with hv
   injection hv with hv
   injection hv with hv
   subst hv
   exact ⟨rfl, m2, _, hL2, ⟨fd2, Rf2, n2, rfl, hX2, row2, h02⟩, hRW'⟩
  ·rintro e W' ⟨hv, m', Ls', hL', ⟨fd, Rf, n, rfl, hX, row, h0⟩, hR'⟩
   refine ⟨hv, ⟨m', fd, Rf, n, hL', hX, ?_, h0⟩, hR'⟩
   rw [HNR.out] at row
   exact row
 ·intro l k v W
  simp only [zq1, zq2, zq3]
  refine wpIn_lit (fun _ _ h => h) rfl ?_
  go_wp2_with (first | go_skip | refine tP ?_ | (refine tS ?_; clear hL; intro _ hL) | (refine tB ?_; clear hL; intro _ _ hL _) | (refine tC ?_; clear hL; intro _ _ hL _ hBs))
  refine And.intro (by trivial) ?_
  rintro W2 ⟨s, g, hk, rfl, mm, fd, Rf, n', hL2, hX2, row2, h02⟩
  have hsm := List.mem_of_getElem? hk
  have hn' : n' ≤ 1000 := by
   have h1 := row2.len
   have h2 := fndT_len ms us sz d k
   have h3 := SO.out.few
   have h4 := (List.getElem?_eq_some_iff.1 hk).1
   omega
  have hlt : ∀ i ∈ s, i < nr := SO.out.lt s hsm
  refine wpIn_mono (sep_round (n := 0) (ms := ms) (us := us) rfl hL2 row2 h02 hn' (hX2.le.cell _ _ hc5) (hX2.le.cell _ _ hc9) (hX2.le.cell _ _ hc7) (hX2.le.cell _ _ hc8) (hX2.le.cell _ _ hc13) (hX2.le.cell _ _ hc14) (hX2.le.cell _ _ hc15)
   (IntL.le HRO3.out hX2.le) (CutL.le HCU3.out hX2.le) (ListV.le GrpR.mono HGL3.out hX2.le) SG.out OK.out (SO.out.len s hsm) hlt HNR.out hnr5 hs3 hs5 hd2 hdz (cutS_ok OK.out.ms (SO.out.len s hsm) (SO.out.asc s hsm) (fun i hi => by have := hlt i hi; have := HNR.out; omega) hd2 hdz hs5)) ?_
  rintro e a W' h
  cases e with
  | normal =>
   obtain ⟨hs, m', fd', Rf', n2, h1, h2, h3, h4⟩ := h
   refine And.intro hs ⟨s, g, hk, rfl, m', fd', Rf', n2, h1, hX2.trans h2, ?_, h4⟩
   rw [HNR.out] at hk
   rw [fndT_step hk]
   exact h3
  | ret => exact h.elim
  | exit id => exact h.elim
  | goto t => exact h.elim
  | panic ch => exact h.elim
  | outgrown => exact h.elim
 ·intro D W hD hE hK
  obtain ⟨m', fd, Rf, n', hL', hX', row, h0⟩ := hE
  have hn1 : n' ≤ 10 := by
   have h1 := row.len
   have h2 := fndT_len ms us sz d (subsF ms.rows.length sz).length
   have h3 := SO.out.few
   rw [HNR.out] at h3
   have h4 : (fndF ms us sz d).length = (fndT ms us sz d (subsF ms.rows.length sz).length).length := rfl
   omega
  obtain ⟨k, hk0, hkn⟩ : ∃ k : Nat, k = min most n' ∧ k ≤ n' := ⟨_, rfl, Nat.min_le_right _ _⟩
  have HSF : Hid (sepF ms us sz d most = ((srtC (fndF ms us sz d)).map Prod.fst).take k) := by
   show _ = _
   unfold sepF
   have h1 := row.len
   have h2 := srtC_len (fndF ms us sz d)
   rcases Nat.le_total most n' with h | h
   ·rw [hk0, Nat.min_eq_left h]
   ·rw [hk0, Nat.min_eq_right h, List.take_of_length_le (by rw [List.length_map]; omega), List.take_of_length_le (by rw [List.length_map]; omega)]
  have HSM : Hid (∀ x ∈ fndF ms us sz d, Sm x.2.num x.2.den) := by
   show ∀ x ∈ _, _
   intro x hx
   obtain ⟨s, hs, rfl⟩ := fndT_mem hx
   rw [← HNR.out] at hs
   exact (OK.out.vio (cutS_ok OK.out.ms (SO.out.len s hs) (SO.out.asc s hs) (fun i hi => by have := SO.out.lt s hs i hi; have := HNR.out; omega) hd2 hdz hs5)).sm (by decide)
  generalize fndF ms us sz d = fs at *
  obtain ⟨A11, c11, rfl, row1⟩ := row.lit
  have ROW := Lib.hid row1
  clear hL row row1
  have hL := hL'
  clear hL'
  have hnn : ∀ cs t fr, Obj.deferred (some []) ≠ .cells cs t fr := fun _ _ _ e => by cases e
  dsimp only
  go_wp2_with (first | go_skip | refine tP ?_ | (refine tS ?_; clear hL; intro _ hL) | (refine tB ?_; clear hL; intro _ _ hL _) | (refine tC ?_; clear hL; intro _ _ hL _ hBs))
  refine (s_SortAny hL ROW.out hn1 HSM.out).mono ?_
  rintro e W4 ⟨_, m4, Rf4, rfl, hL4, hX4, hS4, row4⟩
  have HK4 := Lib.hid (hS4 _ _ hK hnn)
  clear hL ROW
  have hL := hL4
  clear hL4 hS4
  generalize srtC fs = gs at *
  have HFN : Hid (gs.length = n') := row4.len.symm
  obtain ⟨m9, hL9, hle9, hl9, -⟩ := RowA.show (A := [_]) CanR.mono hL row4
  have HL9 := Lib.hid hl9
  have hcap : (n' : Int) ≤ (c11 : Int) := by
   obtain ⟨_, _, _, e, hc, _⟩ := hl9
   injection e with e1 e2 e3
   subst e2 e3
   omega
  have hmin : min (most : Int) (n' : Int) = (k : Int) := by omega
  have hcap2 : (k : Int) ≤ (c11 : Int) := by omega
  have hn0 : (0 : Int) ≤ (k : Int) := by omega
  clear hL hle9 hl9 row4 hK hX4 h0 hcap
  have hL := hL9
  clear hL9
  go_wp2_with (first | go_skip | refine tP ?_ | (refine tS ?_; clear hL; intro _ hL) | (refine tB ?_; clear hL; intro _ _ hL _) | (refine tC ?_; clear hL; intro _ _ hL _ hBs))
  have HLK := Lib.hid hL
  replace hL := Loc.start hL.vw
  go_loopw [25, 132] (fun ov iv wr => ∃ (j : Nat) (mm : World) (Ro : List Lo), j ≤ k ∧ iv = .int .i64 j ∧ Loc W4 m9 wr mm Ro ∧ Hid (RowA 34 2 CutR mm ov j ((gs.map Prod.fst).take j) Ro)) (fun _ iv _ => k - (intOf iv).toNat)
  case atStart => exact ⟨0, _, [], Nat.zero_le _, rfl, hL, RowA.nil⟩
  case round =>
   clear hL
   obtain ⟨j, mm, Ro, hj, rfl, hL, RO⟩ := hrel
   have hM := hL.mext
   obtain ⟨A12, c12, rfl, ro1⟩ := RO.out.lit
   have RO1 := Lib.hid ro1
   clear RO ro1
   by_cases hlt : j < k
   ·have hlt' : (j : Int) < (k : Int) := by omega
    obtain ⟨x, hx⟩ := at_some HFN (by omega : j < n')
    have hl9 := HL9.out
    obtain ⟨b0, o0, R0, a0, e0, d0, g0, A0, k9, q0, f0, B0, p0, s0, rfl, hcu0, hr0⟩ := CanL.at_ hl9 hx
    have HCU0 := Lib.hid hcu0
    have HT : Hid ((gs.map Prod.fst).take j ++ [x.1] = (gs.map Prod.fst).take (j + 1)) := by
     show _ = _
     exact take_snoc (by rw [List.getElem?_map, hx]; rfl)
    clear hx hl9 hcu0
    go_wp2_with (first | go_skip | refine tP ?_ | (refine tS ?_; clear hL; intro _ hL) | (refine tB ?_; clear hL; intro _ _ hL _) | (refine tC ?_; clear hL; intro _ _ hL _ hBs))
    refine goA ?_
    obtain ⟨vs7, r7, z7, y7, l7⟩ := RO1.out
    refine wl_append (A := [_]) hL r7 (wanted_none rfl) rfl ap_Cuts (by omega) rfl rfl (news := [.slice R0 a0 e0, .int .i64 d0]) rfl ((Blk.sl hBs (n := 2) rfl).le hL.vw.le) rfl (by omega) (by omega) ?_
    clear hL
    intro v1 W5 m5 R5 hL r8 e8
    obtain ⟨A13, c13, rfl, -⟩ := r8.lit
    simp only [List.cons_append, List.nil_append] at hL
    have rd := RowA.snoc (R := CutR) (m := m5) (x := x.1) r8 z7 (y7.mono fun v x hv => hv.le leX) l7 rfl (HCU0.out.le leX)
    rw [HT.out] at rd
    have RD := Lib.hid rd
    clear rd r8 r7 z7 y7 l7
    simp only [Act.put, zq1, zq2, zq3]
    go_wp2_with (first | go_skip | refine tP ?_ | (refine tS ?_; clear hL; intro _ hL) | (refine tB ?_; clear hL; intro _ _ hL _) | (refine tC ?_; clear hL; intro _ _ hL _ hBs))
    go_roundw
    case rel => exact ⟨j + 1, m5, R5, by omega, by go_num, hL.tail, RD.out⟩
    case measure => simp [intOf] <;> omega
   ·have hjn : k = j := by omega
    subst hjn
    have h9 : (k : Int) ≤ (k : Int) := Int.le_refl _
    obtain ⟨m8, hL8, hle8, hl8, -⟩ := RowA.show (A := []) (R := CutR) (fun m m' v x h hb => CutR.le h hb) hL RO1.out
    have HL8 := Lib.hid hl8
    clear hL RO1 hle8 hl8
    have hL := hL8
    clear hL8
    go_wp2_with (first | go_skip | refine tP ?_ | (refine tS ?_; clear hL; intro _ hL) | (refine tB ?_; clear hL; intro _ _ hL _) | (refine tC ?_; clear hL; intro _ _ hL _ hBs))
    have hKf := hL.ext.still _ _ HK4.out hnn
    obtain ⟨m7, hL7, hX7⟩ := (HLK.out.join hL).putObj (.deferred none) hKf (Nat.le_trans hlow hD) (fun cs t fr e => by rw [hKf] at e; cases e)
    refine And.intro (by simp) (Or.inl ⟨_, _, rfl, run_takeDeferred hKf, ?_⟩)
    exact ⟨_, results_tmp2 rfl _ _ _, RetV.mk hL7 ⟨_, rfl, by rw [HSF.out]; exact CutL.le HL8.out leX⟩⟩
end Go.Proofs.YtmhkmmmompediaaGreat

/- Contract of pairinglaw29.known. -/
namespace Go.Proofs.YtmhkmmmompediaaGreat
open Go.RowKit

def SepP (m : World) (v : Value) : Prop := ∃ x, v = .tuple #[x, .int .i64 0] ∧ CutL m x [([0, 1, 2], 2)]
theorem SepP.le {m m' : World} {v : Value} (h : SepP m v) (hb : Le m m') : SepP m' v := by
 obtain ⟨x, e, h⟩ := h
 exact ⟨x, e, CutL.le h hb⟩
theorem kn_take {j : Nat} (h : j < 3) : knM.cols.take j ++ [knC (j : Int) (((j : Int) + 1) % 3)] = knM.cols.take (j + 1) := by
 have : j = 0 ∨ j = 1 ∨ j = 2 := by omega
 rcases this with rfl | rfl | rfl <;> rfl
theorem kn_Sep (mv vv : Value) (w m : World) (hV : Vw m w) (hm : MasterR m mv knM) (hv : FracL m vv knU) :
  Calls Tryz.prog 39 #[mv, vv, .int .i64 3, .int .i64 2, .int .i64 10] w (RetV w m SepP) := by
 have h := u_Separate mv vv knM knU 3 2 10 w m hV hm hv knV_ok (by decide) (by decide) (by decide) (by decide) (by decide) (by decide) (by decide)
 rw [kn_sep] at h
 exact h
theorem kn_Vio (mv xv vv : Value) (w m : World) (hV : Vw m w) (hm : MasterR m mv knM) (hx : CutR m xv ([0, 1, 2], 2)) (hv : FracL m vv knU) :
  Calls Tryz.prog 37 #[mv, xv, vv] w (RetV w m fun m' r => BvR m' r halfR.num halfR.den 0) := by
 have h := u_Violation_ok mv xv knM ([0, 1, 2], 2) vv knU w m hV hm hx hv knV_ok kn_cut
 rw [kn_vio] at h
 exact h
theorem kn_Right (xv : Value) (w m : World) (hV : Vw m w) (hx : CutR m xv ([0, 1, 2], 2)) : Calls Tryz.prog 35 #[xv] w (RetV w m fun _ r => r = .int .i64 1) :=
 u_RightSide xv ([0, 1, 2], 2) w m hV hx (by decide)

theorem kc_known (w m : World) (hV : Vw m w) : Calls Tryz.prog 32 #[] w (RetV w m fun _ r => r = .bool true) := by
 have hL := Loc.start hV
 clear hV
 go_enter Tryz.func32, Tryz.ntmps32
 go_upto_region 1 with ((first | go_skip | refine tP ?_ | (refine tS ?_; clear hL; intro _ hL) | (refine tB ?_; clear hL; intro _ _ hL _) | (refine tC ?_; clear hL; intro _ _ hL _ hBs)))
 go_upto_region 2 with ((first | (refine wl_bslice hL (wanted_none rfl) rfl (n := 3) (cs := #[.int .i64 0, .int .i64 1, .int .i64 2]) (e := 3) (fun w => by go_simp) ?_; clear hL; intro Wb mb hL eb hbb; simp only [Act.put, zq1, zq2, zq3]) | (first | go_skip | refine tP ?_ | (refine tS ?_; clear hL; intro _ hL) | (refine tB ?_; clear hL; intro _ _ hL _) | (refine tC ?_; clear hL; intro _ _ hL _ hBs))))
 have HR : Hid (IntL mb (.slice (some ⟨w.heap.size, 0, none⟩) 3 3) [0, 1, 2]) := ListV.mk (vs := [.int .i64 0, .int .i64 1, .int .i64 2]) (by omega) rfl (fun u hu => by simp at hu; rcases hu with rfl | rfl | rfl <;> rfl) (Blk.sl hbb (n := 3) rfl) ⟨rfl, rfl, rfl, trivial⟩
 clear hbb
 go_wp2_with (first | go_skip | refine tP ?_ | (refine tS ?_; clear hL; intro _ hL) | (refine tB ?_; clear hL; intro _ _ hL _) | (refine tC ?_; clear hL; intro _ _ hL _ hBs))
 go_loopw [2] (fun i wr => ∃ (j : Nat) (mm : World) (A7 : Option Addr) (c7 : Nat) (Rr : List Lo), j ≤ 3 ∧ i = .int .i64 (j : Int) ∧ Loc w m wr mm ((Wb.heap.size, 26, #[.int .i64 3, .slice (some ⟨w.heap.size, 0, none⟩) 3 3, .int .i64 10, .slice A7 j c7, .slice none 0 0]) :: Rr) ∧ Hid (RowA 72 3 ColR mm (.slice A7 j c7) j (knM.cols.take j) Rr) ∧ Hid (Ext mb mm)) (fun i _ => 3 - (intOf i).toNat)
 case atStart => exact ⟨0, _, none, 0, [], Nat.zero_le _, rfl, hL, RowA.nil, exX⟩
 case round =>
  have HMB := Lib.hid hL.mext
  clear hL
  obtain ⟨j, mm, A7, c7, Rr, hj, rfl, hL, ROW, HX⟩ := hrel
  have hX := HX.out
  by_cases hlt : j < 3
  ·have hj3 : (j : Int) < 3 := by omega
   have HCJ := Lib.hid (kn_take hlt)
   go_wp2_with (first | (with_reducible refine stB ?_) | (first | go_skip | refine tP ?_ | (refine tS ?_; clear hL; intro _ hL) | (refine tB ?_; clear hL; intro _ _ hL _) | (refine tC ?_; clear hL; intro _ _ hL _ hBs)))
   refine goA ?_
   obtain ⟨wA, rfl⟩ := hL.world
   refine wl_bslice hL (wanted_none rfl) rfl (n := 2) (cs := #[.int .i64 (j : Int), .bool false, .int .i64 (((j : Int) + 1) % 3), .bool false]) (e := 111) (fun w => by go_simp) ?_
   clear hL
   intro W26 m26 hL e26 hb26
   simp only [Act.put, zq1, zq2, zq3]
   refine wl_bslice hL (wanted_none rfl) rfl (n := 1) (cs := #[.slice (some ⟨wA.heap.size, 0, none⟩) 2 2]) (e := 113) (fun w => by go_simp) ?_
   clear hL
   intro W27 m27 hL e27 hb27
   simp only [Act.put, zq1, zq2, zq3]
   have HDU : Hid (ColR m27 (.agg #[.string ⟨#[]⟩, .slice (some ⟨W26.heap.size, 0, none⟩) 1 1, .int .i64 0]) (knC (j : Int) (((j : Int) + 1) % 3))) := by
    refine ⟨_, rfl, ListV.mk (vs := [.slice (some ⟨wA.heap.size, 0, none⟩) 2 2]) (by omega) rfl (fun u hu => by simp at hu; rcases hu with rfl; rfl) (Blk.sl hb27 (n := 1) rfl) ⟨?_, trivial⟩⟩
    exact DutL.le (ListV.mk (vs := [.agg #[.int .i64 (j : Int), .bool false], .agg #[.int .i64 (((j : Int) + 1) % 3), .bool false]]) (by omega) rfl (fun u hu => by simp at hu; rcases hu with rfl | rfl <;> rfl) (Blk.sl hb26 (n := 4) rfl) ⟨rfl, rfl, trivial⟩) e27.le
   clear hb26 hb27
   go_wp2_with (first | go_skip | refine tP ?_ | (refine tS ?_; clear hL; intro _ hL) | (refine tB ?_; clear hL; intro _ _ hL _) | (refine tC ?_; clear hL; intro _ _ hL _ hBs))
   refine goA ?_
   obtain ⟨vs7, r7, z7, y7, l7⟩ := ROW.out
   refine wl_append (A := [_]) hL r7 (wanted_none rfl) rfl ap_Cols (by omega) rfl rfl (news := [.string ⟨#[]⟩, .slice (some ⟨W26.heap.size, 0, none⟩) 1 1, .int .i64 0]) rfl ((Blk.sl hBs (n := 3) rfl).le hL.vw.le) rfl (by omega) (by omega) ?_
   clear hL
   intro v1 W5 m5 R5 hL r8 e8
   obtain ⟨A9, c9, rfl, -⟩ := r8.lit
   simp only [List.cons_append, List.nil_append] at hL
   have rd := RowA.snoc (R := ColR) (m := m5) (x := knC (j : Int) (((j : Int) + 1) % 3)) r8 z7 (y7.mono fun v x hv => ColR.mono _ _ _ _ hv leX) l7 rfl (ColR.mono _ _ _ _ HDU.out leX)
   rw [HCJ.out] at rd
   have RD := Lib.hid rd
   clear rd r8 r7 z7 y7 l7
   simp only [Act.put, zq1, zq2, zq3]
   go_wp2_with (first | go_skip | refine tP ?_ | (refine tS ?_; clear hL; intro _ hL) | (refine tB ?_; clear hL; intro _ _ hL _) | (refine tC ?_; clear hL; intro _ _ hL _ hBs))
   go_roundw
   case rel => exact ⟨j + 1, _, A9, c9, R5, by omega, by go_num, hL, RD.out, exX⟩
   case measure => simp [intOf] <;> omega
  ·obtain rfl : j = 3 := by omega
   have hj3 : ¬ ((3 : Nat) : Int) < 3 := by decide
   obtain ⟨m9, hL9, hle9, hl9, -⟩ := RowA.show (A := [_]) ColR.mono hL ROW.out
   have HMS : Hid (MasterR m9 (.agg #[.int .i64 3, .slice (some ⟨w.heap.size, 0, none⟩) 3 3, .int .i64 10, .slice A7 3 c7, .slice none 0 0]) knM) := ⟨_, _, _, rfl, IntL.le HR.out (Le.trans leX hle9), hl9, ListV.nil⟩
   have KS : Hid (∀ u m' vv, Vw m' u → Le m9 m' → FracL m' vv knU → Calls Tryz.prog 39 #[.agg #[.int .i64 3, .slice (some ⟨w.heap.size, 0, none⟩) 3 3, .int .i64 10, .slice A7 3 c7, .slice none 0 0], vv, .int .i64 3, .int .i64 2, .int .i64 10] u (RetV u m' SepP)) := by
    show ∀ u m' vv, _
    exact fun u m' vv hV hle hv => kn_Sep _ _ u m' hV (HMS.out.le hle) hv
   have KW : Hid (∀ u m' xv vv, Vw m' u → Le m9 m' → CutR m' xv ([0, 1, 2], 2) → FracL m' vv knU → Calls Tryz.prog 37 #[.agg #[.int .i64 3, .slice (some ⟨w.heap.size, 0, none⟩) 3 3, .int .i64 10, .slice A7 3 c7, .slice none 0 0], xv, vv] u (RetV u m' fun m'' r => BvR m'' r halfR.num halfR.den 0)) := by
    show ∀ u m' xv vv, _
    exact fun u m' xv vv hV hle hx hv => kn_Vio _ _ _ u m' hV (HMS.out.le hle) hx hv
   clear hL ROW
   have hL := hL9
   clear hL9 hl9
   go_upto_region 6 with ((first | go_skip | refine tP ?_ | (refine tS ?_; clear hL; intro _ hL) | (refine tB ?_; clear hL; intro _ _ hL _) | (refine tC ?_; clear hL; intro _ _ hL _ hBs)))
   clear hj3 hlt hj hX
   generalize w.heap.size = b0 at *
   refine wp_region_by2 9 [false, false, false, false, false, false, false, false, false] [false, false, false, false, false, false, false, false, true] [(fun v _ _ => v = ?c6_0), Of (fun um v => FracC um v halfR), Of (fun um v => FracC um v halfR), Of (fun um v => FracC um v halfR), Of (fun um v => FracL um v knU), Of (fun um v => SepP um v), Of (fun um v => SepP um v), Of (fun um v => CutL um v [([0, 1, 2], 2)]), Is (.int .i64 0)] hL.vw mixed [29, 30, 31, 32, 33, 34, 28, 35, 36] _ (by kernel_rfl) (fun vs => by simp only [lay, Act.put, zq1, zq2, zq3]; rfl) (by kernel_rfl) (by decide) (by decide) ?s6 ?l6 ?r6
   case s6 =>
    refine ⟨?_, ?_, ?_, ?_, ?_, ?_, ?_, ?_, ?_, trivial⟩
    ·intro vs W1 m1 hE hM hV hD; clear hD
     exact sLe
    ·intro vs W1 m1 hE hM hV hD; clear hD
     go_wp2_with fail
     refine (k_half _ _ hV).mono ?_
     rintro e W2 ⟨v, m2, rfl, hE2, hM2, hV2, h⟩
     go_wp2_with fail
     refine One2.call hE2 hM2 hV2 ?_; first | exact h | exact rfl
    ·intro vs W1 m1 hE hM hV hD; clear hD
     go_wp2_with fail
     refine (k_half _ _ hV).mono ?_
     rintro e W2 ⟨v, m2, rfl, hE2, hM2, hV2, h⟩
     go_wp2_with fail
     refine One2.call hE2 hM2 hV2 ?_; first | exact h | exact rfl
    ·intro vs W1 m1 hE hM hV hD; clear hD
     go_wp2_with fail
     refine (k_half _ _ hV).mono ?_
     rintro e W2 ⟨v, m2, rfl, hE2, hM2, hV2, h⟩
     go_wp2_with fail
     refine One2.call hE2 hM2 hV2 ?_; first | exact h | exact rfl
    ·intro vs W1 m1 hE hM hV hD; obtain ⟨⟨_, _, -, i30, f30⟩, ⟨_, _, -, i31, f31⟩, ⟨_, _, -, i32, f32⟩, -⟩ := hD; have f30 : FracC _ (vs 30) halfR := f30; replace f30 := f30.le i30.le; clear i30; have f31 : FracC _ (vs 31) halfR := f31; replace f31 := f31.le i31.le; clear i31; have f32 : FracC _ (vs 32) halfR := f32; replace f32 := f32.le i32.le; clear i32
     (obtain ⟨g1, A1, n1, c1, h1, B1, k1, d1, e1, f30⟩ := f30.lit; generalize vs 30 = x30 at e1 ⊢; subst x30; obtain ⟨g2, A2, n2, c2, h2, B2, k2, d2, e2, f31⟩ := f31.lit; generalize vs 31 = x31 at e2 ⊢; subst x31; obtain ⟨g3, A3, n3, c3, h3, B3, k3, d3, e3, f32⟩ := f32.lit; generalize vs 32 = x32 at e3 ⊢; subst x32; go_wp2_with fail; refine one2_new hV fun m' hx hb => ?_; exact ListV.mk (vs := [.agg #[.bool g1, .slice A1 n1 c1, .bool h1, .slice B1 k1 d1], .agg #[.bool g2, .slice A2 n2 c2, .bool h2, .slice B2 k2 d2], .agg #[.bool g3, .slice A3 n3 c3, .bool h3, .slice B3 k3 d3]]) (by omega) rfl (fun u hu => by simp at hu; rcases hu with rfl | rfl | rfl <;> rfl) (Blk.sl hb (n := 12) rfl) ⟨f30.le hx.le, f31.le hx.le, f32.le hx.le, trivial⟩)
    ·intro vs W1 m1 hE hM hV hD; obtain ⟨⟨_, _, -, -, f29⟩, ⟨_, _, -, i33, f33⟩, -, -⟩ := hD
     rw [(f29 : vs 29 = _)]
     clear f29
     have f33 : FracL _ (vs 33) knU := f33
     replace f33 := f33.le i33.le
     clear i33
     go_wp2_with fail
     refine (KS.out _ _ _ hV leX f33).mono ?_
     rintro e W2 ⟨v, m2, rfl, hE2, hM2, hV2, h⟩
     go_wp2_with fail
     refine One2.call hE2 hM2 hV2 ?_; first | exact h | exact rfl
    ·intro vs W1 m1 hE hM hV hD; obtain ⟨⟨_, _, -, i34, f34⟩, -⟩ := hD; have f34 : SepP _ (vs 34) := f34; replace f34 := f34.le i34.le; clear i34
     go_wp2_with fail
     refine One2.still hV ?_; exact f34
    ·intro vs W1 m1 hE hM hV hD; obtain ⟨⟨_, _, -, i28, f28⟩, -⟩ := hD; have f28 : SepP _ (vs 28) := f28; replace f28 := f28.le i28.le; clear i28; obtain ⟨u0, e28, k⟩ := f28; generalize vs 28 = x28 at e28 ⊢; subst x28; replace hL := hL.call hE hM hV
     go_wp2_with (first | go_skip | refine tP ?_ | (refine tS ?_; clear hL; intro _ hL) | (refine tB ?_; clear hL; intro _ _ hL _) | (refine tC ?_; clear hL; intro _ _ hL _ hBs))
     refine One2.still hV ?_; exact k
    ·intro vs W1 m1 hE hM hV hD; obtain ⟨⟨_, _, -, i28, f28⟩, -, -⟩ := hD; have f28 : SepP _ (vs 28) := f28; replace f28 := f28.le i28.le; clear i28; obtain ⟨u0, e28, k⟩ := f28; generalize vs 28 = x28 at e28 ⊢; subst x28; replace hL := hL.call hE hM hV
     go_wp2_with (first | go_skip | refine tP ?_ | (refine tS ?_; clear hL; intro _ hL) | (refine tB ?_; clear hL; intro _ _ hL _) | (refine tC ?_; clear hL; intro _ _ hL _ hBs))
     refine One2.still hV ?_; exact rfl
   case l6 =>
    refine ⟨nF, nF, nF, nF, nF, nF, nF, nF, fun _ => ?_, trivial⟩
    ·intro vs W1 m1 hE hM hV hD; obtain ⟨⟨_, _, -, i28, f28⟩, -, -⟩ := hD; have f28 : SepP _ (vs 28) := f28; replace f28 := f28.le i28.le; clear i28; obtain ⟨u0, e28, k⟩ := f28; generalize vs 28 = x28 at e28 ⊢; subst x28
     exact ⟨_, Or.inl ⟨(by rfl), fun w => (by rfl)⟩, rfl⟩
   intro vs W1 m1 hE hM hV hF hD
   clear hD
   obtain ⟨-, ⟨_, _, -, i30, f30⟩, ⟨_, _, -, i31, f31⟩, ⟨_, _, -, i32, f32⟩, ⟨_, _, -, i33, f33⟩, ⟨_, _, -, i34, f34⟩, ⟨_, _, -, i28, f28⟩, ⟨_, _, -, i35, f35⟩, ⟨_, _, -, -, f36⟩, -⟩ := hF
   replace hL := hL.call hE hM hV
   replace f30 : FracC _ (vs 30) halfR := f30
   replace f30 := f30.le i30.le
   clear i30
   replace f31 : FracC _ (vs 31) halfR := f31
   replace f31 := f31.le i31.le
   clear i31
   replace f32 : FracC _ (vs 32) halfR := f32
   replace f32 := f32.le i32.le
   clear i32
   replace f33 : FracL _ (vs 33) knU := f33
   replace f33 := f33.le i33.le
   clear i33
   replace f34 : SepP _ (vs 34) := f34
   replace f34 := f34.le i34.le
   clear i34
   replace f28 : SepP _ (vs 28) := f28
   replace f28 := f28.le i28.le
   clear i28
   replace f35 : CutL _ (vs 35) [([0, 1, 2], 2)] := f35
   replace f35 := f35.le i35.le
   clear i35
   have f36 : vs 36 = _ := f36
   generalize vs 36 = x36 at f36 ⊢
   subst x36
   clear hE hV
   obtain ⟨L3, c3, e35, -, f35⟩ := f35.lit
   generalize vs 35 = x35 at e35 ⊢
   subst x35
   simp only [List.drop_succ_cons, List.drop_zero]
   go_wp2_with (first | go_skip | refine tP ?_ | (refine tS ?_; clear hL; intro _ hL) | (refine tB ?_; clear hL; intro _ _ hL _) | (refine tC ?_; clear hL; intro _ _ hL _ hBs))
   refine QN.mk ?_
   have hcu := f35
   clear f28 f34 f33 f32 f31 f30 f35 KS
   obtain ⟨b3, o3, A1, c1, rfl, hi, -, -, hq0, hq1, hrg⟩ := CutL.at_ hcu (show [(([0, 1, 2] : List Int), (2 : Int))][0]? = some ([0, 1, 2], 2) from rfl)
   rw [Nat.zero_mul, Nat.add_zero] at hq0 hq1 hrg
   simp only [List.length_cons, List.length_nil, Nat.zero_add, Nat.reduceAdd] at hi hq0 hq1 hrg hcu ⊢
   have HI := Lib.hid hi
   have HXR : Hid (CutR _ (.agg #[.slice A1 3 c1, .int .i64 2]) ([0, 1, 2], 2)) := ⟨_, rfl, hi, by decide⟩
   have hf := FracC.refl_len ((half_tw.fit (by decide)).mono (by decide))
   have HF1 := Lib.hid hf.1
   have HF2 := Lib.hid hf.2
   clear hcu hi hf
   generalize hnn : halfR.num = hn at *
   generalize hdd : (halfR.den : Int) = hd at *
   have HNN := Lib.hid hnn
   have HDD := Lib.hid hdd
   clear hnn hdd
   go_upto_region 9 with ((first | go_skip | refine tP ?_ | (refine tS ?_; clear hL; intro _ hL) | (refine tB ?_; clear hL; intro _ _ hL _) | (refine tC ?_; clear hL; intro _ _ hL _ hBs)))
   obtain ⟨B, hB1, hB2, hB3⟩ := hL.bound
   refine wp_region_by2 13 [false, false, false, false, false, false, false, false, false, false, false, false, true] [false, false, false, false, false, false, false, false, false, false, false, true, false] [(fun v _ _ => v = ?c9_0), (fun v _ _ => v = ?c9_1), (fun v _ _ => v = ?c9_2), (fun v _ _ => v = ?c9_3), Of (fun um v => FracC um v halfR), Of (fun um v => FracC um v halfR), Of (fun um v => FracC um v halfR), Of (fun um v => FracL um v knU), Of (fun um v => BvR um v hn hd 0), Of (fun um v => BvR um v hn hd 0), Of (fun um v => FracP um v hn hd), Is (.int .i64 0), NewBlk B 39 #[.bool false, .slice none 0 0, .bool false, .slice none 0 0]] hL.vw mixed [45, 46, 47, 48, 49, 50, 51, 52, 53, 44, 54, 55, 5] _ (by kernel_rfl) (fun vs => by simp only [lay, Act.put, zq1, zq2, zq3]; rfl) (by kernel_rfl) (by decide) (by decide) ?s9 ?l9 ?r9
   case s9 =>
    refine ⟨?_, ?_, ?_, ?_, ?_, ?_, ?_, ?_, ?_, ?_, ?_, ?_, ?_, trivial⟩
    ·intro vs W1 m1 hE hM hV hD; clear hD
     exact sLe
    ·intro vs W1 m1 hE hM hV hD; clear hD
     exact sPw
    ·intro vs W1 m1 hE hM hV hD; obtain ⟨⟨_, _, -, -, f46⟩, -⟩ := hD
     rw [(f46 : vs 46 = _)]
     clear f46
     replace hL := hL.call hE hM hV
     exact sIz
    ·intro vs W1 m1 hE hM hV hD; obtain ⟨⟨_, _, -, -, f47⟩, -⟩ := hD
     rw [(f47 : vs 47 = _)]; clear f47; exact sLe
    ·intro vs W1 m1 hE hM hV hD; clear hD
     go_wp2_with fail
     refine (k_half _ _ hV).mono ?_
     rintro e W2 ⟨v, m2, rfl, hE2, hM2, hV2, h⟩
     go_wp2_with fail
     refine One2.call hE2 hM2 hV2 ?_; first | exact h | exact rfl
    ·intro vs W1 m1 hE hM hV hD; clear hD
     go_wp2_with fail
     refine (k_half _ _ hV).mono ?_
     rintro e W2 ⟨v, m2, rfl, hE2, hM2, hV2, h⟩
     go_wp2_with fail
     refine One2.call hE2 hM2 hV2 ?_; first | exact h | exact rfl
    ·intro vs W1 m1 hE hM hV hD; clear hD
     go_wp2_with fail
     refine (k_half _ _ hV).mono ?_
     rintro e W2 ⟨v, m2, rfl, hE2, hM2, hV2, h⟩
     go_wp2_with fail
     refine One2.call hE2 hM2 hV2 ?_; first | exact h | exact rfl
    ·intro vs W1 m1 hE hM hV hD; obtain ⟨⟨_, _, -, i49, f49⟩, ⟨_, _, -, i50, f50⟩, ⟨_, _, -, i51, f51⟩, -⟩ := hD; have f49 : FracC _ (vs 49) halfR := f49; replace f49 := f49.le i49.le; clear i49; have f50 : FracC _ (vs 50) halfR := f50; replace f50 := f50.le i50.le; clear i50; have f51 : FracC _ (vs 51) halfR := f51; replace f51 := f51.le i51.le; clear i51
     (obtain ⟨g1, A1, n1, c1, h1, B1, k1, d1, e1, f49⟩ := f49.lit; generalize vs 49 = x49 at e1 ⊢; subst x49; obtain ⟨g2, A2, n2, c2, h2, B2, k2, d2, e2, f50⟩ := f50.lit; generalize vs 50 = x50 at e2 ⊢; subst x50; obtain ⟨g3, A3, n3, c3, h3, B3, k3, d3, e3, f51⟩ := f51.lit; generalize vs 51 = x51 at e3 ⊢; subst x51; go_wp2_with fail; refine one2_new hV fun m' hx hb => ?_; exact ListV.mk (vs := [.agg #[.bool g1, .slice A1 n1 c1, .bool h1, .slice B1 k1 d1], .agg #[.bool g2, .slice A2 n2 c2, .bool h2, .slice B2 k2 d2], .agg #[.bool g3, .slice A3 n3 c3, .bool h3, .slice B3 k3 d3]]) (by omega) rfl (fun u hu => by simp at hu; rcases hu with rfl | rfl | rfl <;> rfl) (Blk.sl hb (n := 12) rfl) ⟨f49.le hx.le, f50.le hx.le, f51.le hx.le, trivial⟩)
    ·intro vs W1 m1 hE hM hV hD; obtain ⟨⟨_, _, -, -, f45⟩, ⟨_, _, -, -, f48⟩, ⟨_, _, -, i52, f52⟩, -, -⟩ := hD
     rw [(f45 : vs 45 = _), (f48 : vs 48 = _)]
     clear f45 f48
     have f52 : FracL _ (vs 52) knU := f52
     replace f52 := f52.le i52.le
     clear i52
     go_wp2_with fail
     refine (KW.out _ _ _ _ hV leX (HXR.out.le leX) f52).mono ?_
     rintro e W2 ⟨v, m2, rfl, hE2, hM2, hV2, h⟩
     go_wp2_with fail
     refine One2.call hE2 hM2 hV2 ?_; first | exact h | exact rfl
    ·intro vs W1 m1 hE hM hV hD; obtain ⟨⟨_, _, -, i53, f53⟩, -⟩ := hD; have f53 : BvR _ (vs 53) hn hd 0 := f53; replace f53 := f53.le i53.le; clear i53
     go_wp2_with fail
     refine One2.still hV ?_; exact f53
    ·intro vs W1 m1 hE hM hV hD; obtain ⟨⟨_, _, -, i44, f44⟩, -⟩ := hD; have f44 : BvR _ (vs 44) hn hd 0 := f44; replace f44 := f44.le i44.le; clear i44; obtain ⟨u0, e44, k⟩ := f44; generalize vs 44 = x44 at e44 ⊢; subst x44; replace hL := hL.call hE hM hV
     go_wp2_with (first | go_skip | refine tP ?_ | (refine tS ?_; clear hL; intro _ hL) | (refine tB ?_; clear hL; intro _ _ hL _) | (refine tC ?_; clear hL; intro _ _ hL _ hBs))
     refine One2.still hV ?_; exact k
    ·intro vs W1 m1 hE hM hV hD; obtain ⟨⟨_, _, -, i44, f44⟩, -, -⟩ := hD; have f44 : BvR _ (vs 44) hn hd 0 := f44; replace f44 := f44.le i44.le; clear i44; obtain ⟨u0, e44, k⟩ := f44; generalize vs 44 = x44 at e44 ⊢; subst x44; replace hL := hL.call hE hM hV
     go_wp2_with (first | go_skip | refine tP ?_ | (refine tS ?_; clear hL; intro _ hL) | (refine tB ?_; clear hL; intro _ _ hL _) | (refine tC ?_; clear hL; intro _ _ hL _ hBs))
     refine One2.still hV ?_; exact rfl
    ·intro vs W1 m1 hE hM hV hD; clear hD
     exact one2_alloc hV (Nat.le_trans hB3 hE.size) rfl rfl rfl ZcC.h
   case l9 =>
    refine ⟨nF, nF, nF, nF, nF, nF, nF, nF, nF, nF, nF, fun _ => ?_, nF, trivial⟩
    ·intro vs W1 m1 hE hM hV hD; obtain ⟨⟨_, _, -, i44, f44⟩, -, -⟩ := hD; have f44 : BvR _ (vs 44) hn hd 0 := f44; replace f44 := f44.le i44.le; clear i44; obtain ⟨u0, e44, k⟩ := f44; generalize vs 44 = x44 at e44 ⊢; subst x44
     exact ⟨_, Or.inl ⟨(by rfl), fun w => (by rfl)⟩, rfl⟩
   intro vs W1 m1 hE hM hV hF hD
   obtain ⟨-, -, -, -, ⟨_, _, -, i49, f49⟩, ⟨_, _, -, i50, f50⟩, ⟨_, _, -, i51, f51⟩, ⟨_, _, -, i52, f52⟩, ⟨_, _, -, i53, f53⟩, ⟨_, _, -, i44, f44⟩, ⟨_, _, -, i54, f54⟩, ⟨_, _, -, -, f55⟩, ⟨_, _, j5, i5, f5⟩, -⟩ := hF
   replace hL := hL.call hE hM hV
   replace f49 : FracC _ (vs 49) halfR := f49
   replace f49 := f49.le i49.le
   clear i49
   replace f50 : FracC _ (vs 50) halfR := f50
   replace f50 := f50.le i50.le
   clear i50
   replace f51 : FracC _ (vs 51) halfR := f51
   replace f51 := f51.le i51.le
   clear i51
   replace f52 : FracL _ (vs 52) knU := f52
   replace f52 := f52.le i52.le
   clear i52
   replace f53 : BvR _ (vs 53) hn hd 0 := f53
   replace f53 := f53.le i53.le
   clear i53
   replace f44 : BvR _ (vs 44) hn hd 0 := f44
   replace f44 := f44.le i44.le
   clear i44
   replace f54 : FracP _ (vs 54) hn hd := f54
   replace f54 := f54.le i54.le
   clear i54
   obtain ⟨g54, A54, n54, c54, h54, B54, k54, d54, e54, f54⟩ := f54.lit
   generalize vs 54 = x54 at e54 ⊢
   subst x54
   have f55 : vs 55 = _ := f55
   generalize vs 55 = x55 at f55 ⊢
   subst x55
   obtain ⟨b5, e5, hL⟩ := Loc.addB (Lt := []) hB1 hB2 hL f5 j5 i5 ad0
   simp only [e5, List.cons_append, List.nil_append] at hL ⊢
   clear e5 f5 j5 i5
   clear hB1 hB2 hB3 hD
   clear hE hV
   simp only [List.drop_succ_cons, List.drop_zero]
   go_wp2_with (first | go_skip | refine tP ?_ | (refine tS ?_; clear hL; intro _ hL) | (refine tB ?_; clear hL; intro _ _ hL _) | (refine tC ?_; clear hL; intro _ _ hL _ hBs))
   refine QN.mk ?_
   have HFP := Lib.hid f54
   clear f54 f53 f52 f51 f50 f49 f44
   go_upto_region 10 with ((first | go_skip | refine tP ?_ | (refine tS ?_; clear hL; intro _ hL) | (refine tB ?_; clear hL; intro _ _ hL _) | (refine tC ?_; clear hL; intro _ _ hL _ hBs)))
   refine wp_region_by2 29 [false, false, false, false, false, false, false, false, false, false, false, false, false, false, false, false, false, false, false, false, false, false, false, false, false, false, false, false, false] [false, false, false, false, false, false, false, false, false, false, false, false, false, false, false, false, false, false, false, false, false, false, false, false, false, false, false, false, false] [(fun v _ _ => v = ?c10_0), (fun v _ _ => v = ?c10_1), (fun v _ _ => v = ?c10_2), (fun v _ _ => v = ?c10_3), (fun v _ _ => v = ?c10_4), (fun v _ _ => v = ?c10_5), (fun v _ _ => v = ?c10_6), Of (fun um v => IntL um v [0, 1, 2]), Is (.bool true), (fun v _ _ => v = ?c10_9), (fun v _ _ => v = ?c10_10), (fun v _ _ => v = ?c10_11), (fun v _ _ => v = ?c10_12), (fun v _ _ => v = ?c10_13), (fun v _ _ => v = ?c10_14), (fun v _ _ => v = ?c10_15), (fun v _ _ => v = ?c10_16), (fun v _ _ => v = ?c10_17), (fun v _ _ => v = ?c10_18), Of (fun um v => FracC um v halfR), Is (.bool true), (fun v _ _ => v = ?c10_21), (fun v _ _ => v = ?c10_22), (fun v _ _ => v = ?c10_23), (fun v _ _ => v = ?c10_24), (fun v _ _ => v = ?c10_25), Is (.int .i64 1), (fun v _ _ => v = ?c10_27), (fun v _ _ => v = ?c10_28)] hL.vw mixed [56, 57, 58, 59, 60, 61, 62, 63, 64, 65, 66, 67, 68, 69, 70, 71, 72, 73, 74, 75, 76, 77, 78, 79, 80, 81, 82, 83, 84] _ (by kernel_rfl) (fun vs => by simp only [lay, Act.put, zq1, zq2, zq3]; rfl) (by kernel_rfl) (by decide) (by decide) ?s10 ?l10 ?r10
   case s10 =>
    refine ⟨?_, ?_, ?_, ?_, ?_, ?_, ?_, ?_, ?_, ?_, ?_, ?_, ?_, ?_, ?_, ?_, ?_, ?_, ?_, ?_, ?_, ?_, ?_, ?_, ?_, ?_, ?_, ?_, ?_, trivial⟩
    ·intro vs W1 m1 hE hM hV hD; clear hD
     exact sPw
    ·intro vs W1 m1 hE hM hV hD; obtain ⟨⟨_, _, -, -, f56⟩, -⟩ := hD
     rw [(f56 : vs 56 = _)]; clear f56; exact sPw
    ·intro vs W1 m1 hE hM hV hD; obtain ⟨⟨_, _, -, -, f57⟩, -⟩ := hD
     rw [(f57 : vs 57 = _)]; clear f57; exact sPw
    ·intro vs W1 m1 hE hM hV hD; obtain ⟨⟨_, _, -, -, f58⟩, -⟩ := hD
     rw [(f58 : vs 58 = _)]; clear f58; exact sPw
    ·intro vs W1 m1 hE hM hV hD; obtain ⟨⟨_, _, -, -, f59⟩, ⟨_, _, -, -, f58⟩, -⟩ := hD
     rw [(f59 : vs 59 = _), (f58 : vs 58 = _)]
     clear f59 f58
     replace hL := hL.call hE hM hV
     exact sIz
    ·intro vs W1 m1 hE hM hV hD; obtain ⟨⟨_, _, -, -, f60⟩, ⟨_, _, -, -, f58⟩, -⟩ := hD
     rw [(f60 : vs 60 = _), (f58 : vs 58 = _)]; clear f60 f58; exact sFe
    ·intro vs W1 m1 hE hM hV hD; obtain ⟨⟨_, _, -, -, f61⟩, ⟨_, _, -, -, f58⟩, -⟩ := hD
     rw [(f61 : vs 61 = _), (f58 : vs 58 = _)]; clear f61 f58; exact sLe
    ·intro vs W1 m1 hE hM hV hD; obtain ⟨⟨_, _, -, -, f58⟩, -⟩ := hD
     rw [(f58 : vs 58 = _)]
     clear f58
     (go_wp2_with fail; refine one2_new hV fun m' hx hb => ?_; exact ListV.mk (vs := [.int .i64 0, .int .i64 1, .int .i64 2]) (by omega) rfl (fun u hu => by simp at hu; rcases hu with rfl | rfl | rfl <;> rfl) (Blk.sl hb (n := 3) rfl) ⟨rfl, rfl, rfl, trivial⟩)
    ·intro vs W1 m1 hE hM hV hD; obtain ⟨⟨_, _, -, -, f62⟩, ⟨_, _, -, i63, f63⟩, ⟨_, _, -, -, f58⟩, -, -⟩ := hD
     rw [(f62 : vs 62 = _), (f58 : vs 58 = _)]
     clear f62 f58
     have f63 : IntL _ (vs 63) [0, 1, 2] := f63
     replace f63 := f63.le i63.le
     clear i63
     go_wp2_with fail
     refine (r_SameInts _ _ [0, 1, 2] _ _ hV (IntL.le HI.out leX) f63 (by decide)).mono ?_
     rintro e W2 ⟨v, m2, rfl, hE2, hM2, hV2, h⟩
     go_wp2_with fail
     refine One2.call hE2 hM2 hV2 ?_; first | exact h | exact rfl
    ·intro vs W1 m1 hE hM hV hD; obtain ⟨⟨_, _, -, -, f58⟩, ⟨_, _, -, -, f64⟩, -⟩ := hD
     rw [(f58 : vs 58 = _), (f64 : vs 64 = _)]; clear f58 f64; exact sPw
    ·intro vs W1 m1 hE hM hV hD; obtain ⟨⟨_, _, -, -, f65⟩, -, -⟩ := hD
     rw [(f65 : vs 65 = _)]; clear f65; exact sPw
    ·intro vs W1 m1 hE hM hV hD; obtain ⟨⟨_, _, -, -, f66⟩, -⟩ := hD
     rw [(f66 : vs 66 = _)]; clear f66; exact sPw
    ·intro vs W1 m1 hE hM hV hD; obtain ⟨⟨_, _, -, -, f67⟩, ⟨_, _, -, -, f66⟩, -⟩ := hD
     rw [(f67 : vs 67 = _), (f66 : vs 66 = _)]
     clear f67 f66
     replace hL := hL.call hE hM hV
     exact sIz
    ·intro vs W1 m1 hE hM hV hD; obtain ⟨⟨_, _, -, -, f68⟩, ⟨_, _, -, -, f66⟩, -⟩ := hD
     rw [(f68 : vs 68 = _), (f66 : vs 66 = _)]; clear f68 f66; exact sFe
    ·intro vs W1 m1 hE hM hV hD; obtain ⟨⟨_, _, -, -, f69⟩, ⟨_, _, -, -, f66⟩, -⟩ := hD
     rw [(f69 : vs 69 = _), (f66 : vs 66 = _)]; clear f69 f66; exact sLe
    ·intro vs W1 m1 hE hM hV hD; obtain ⟨⟨_, _, -, -, f70⟩, ⟨_, _, -, -, f66⟩, -⟩ := hD
     rw [(f70 : vs 70 = _), (f66 : vs 66 = _)]; clear f70 f66; exact sPw
    ·intro vs W1 m1 hE hM hV hD; obtain ⟨⟨_, _, -, -, f66⟩, ⟨_, _, -, -, f71⟩, -⟩ := hD
     rw [(f66 : vs 66 = _), (f71 : vs 71 = _)]; clear f66 f71; exact sPw
    ·intro vs W1 m1 hE hM hV hD; obtain ⟨⟨_, _, -, -, f72⟩, -, -⟩ := hD
     rw [(f72 : vs 72 = _)]; clear f72; exact sPw
    ·intro vs W1 m1 hE hM hV hD; obtain ⟨⟨_, _, -, -, f73⟩, -⟩ := hD
     rw [(f73 : vs 73 = _)]; clear f73; exact sLe
    ·intro vs W1 m1 hE hM hV hD; obtain ⟨⟨_, _, -, -, f73⟩, -, -⟩ := hD
     rw [(f73 : vs 73 = _)]
     clear f73
     go_wp2_with fail
     refine (k_half _ _ hV).mono ?_
     rintro e W2 ⟨v, m2, rfl, hE2, hM2, hV2, h⟩
     go_wp2_with fail
     refine One2.call hE2 hM2 hV2 ?_; first | exact h | exact rfl
    ·intro vs W1 m1 hE hM hV hD; obtain ⟨⟨_, _, -, -, f74⟩, ⟨_, _, -, i75, f75⟩, -, ⟨_, _, -, -, f73⟩, -⟩ := hD
     rw [(f74 : vs 74 = _), (f73 : vs 73 = _)]
     clear f74 f73
     have f75 : FracC _ (vs 75) halfR := f75
     replace f75 := f75.le i75.le
     clear i75
     go_wp2_with fail
     refine (r_SameP _ _ hn hd _ _ hV (HFP.out.le leX) (by rw [← HNN.out, ← HDD.out]; exact f75.toP) HF1.out HF2.out).mono ?_
     rintro e W2 ⟨v, m2, rfl, hE2, hM2, hV2, h⟩
     go_wp2_with fail
     refine One2.call hE2 hM2 hV2 ?_; first | exact h | exact rfl
    ·intro vs W1 m1 hE hM hV hD; obtain ⟨⟨_, _, -, -, f73⟩, ⟨_, _, -, -, f76⟩, -⟩ := hD
     rw [(f73 : vs 73 = _), (f76 : vs 76 = _)]; clear f73 f76; exact sPw
    ·intro vs W1 m1 hE hM hV hD; obtain ⟨⟨_, _, -, -, f77⟩, -, -⟩ := hD
     rw [(f77 : vs 77 = _)]; clear f77; exact sPw
    ·intro vs W1 m1 hE hM hV hD; obtain ⟨⟨_, _, -, -, f78⟩, -⟩ := hD
     rw [(f78 : vs 78 = _)]; clear f78; exact sPw
    ·intro vs W1 m1 hE hM hV hD; obtain ⟨⟨_, _, -, -, f79⟩, ⟨_, _, -, -, f78⟩, -⟩ := hD
     rw [(f79 : vs 79 = _), (f78 : vs 78 = _)]
     clear f79 f78
     replace hL := hL.call hE hM hV
     exact sIz
    ·intro vs W1 m1 hE hM hV hD; obtain ⟨⟨_, _, -, -, f80⟩, ⟨_, _, -, -, f78⟩, -⟩ := hD
     rw [(f80 : vs 80 = _), (f78 : vs 78 = _)]; clear f80 f78; exact sLe
    ·intro vs W1 m1 hE hM hV hD; obtain ⟨⟨_, _, -, -, f81⟩, ⟨_, _, -, -, f78⟩, -, -⟩ := hD
     rw [(f81 : vs 81 = _), (f78 : vs 78 = _)]
     clear f81 f78
     go_wp2_with fail
     refine (kn_Right _ _ _ hV (HXR.out.le leX)).mono ?_
     rintro e W2 ⟨v, m2, rfl, hE2, hM2, hV2, h⟩
     go_wp2_with fail
     refine One2.call hE2 hM2 hV2 ?_; first | exact h | exact rfl
    ·intro vs W1 m1 hE hM hV hD; obtain ⟨⟨_, _, -, -, f82⟩, ⟨_, _, -, -, f78⟩, -⟩ := hD
     rw [(f82 : vs 82 = _), (f78 : vs 78 = _)]; clear f82 f78; exact sPw
    ·intro vs W1 m1 hE hM hV hD; obtain ⟨⟨_, _, -, -, f78⟩, ⟨_, _, -, -, f83⟩, -⟩ := hD
     rw [(f78 : vs 78 = _), (f83 : vs 83 = _)]; clear f78 f83; exact sPw
   case l10 =>
    refine ⟨nF, nF, nF, nF, nF, nF, nF, nF, nF, nF, nF, nF, nF, nF, nF, nF, nF, nF, nF, nF, nF, nF, nF, nF, nF, nF, nF, nF, nF, trivial⟩
   intro vs W1 m1 hE hM hV hF hD
   clear hD
   obtain ⟨-, -, -, -, -, -, -, ⟨_, _, -, i63, f63⟩, -, -, -, -, -, -, -, -, -, -, -, ⟨_, _, -, i75, f75⟩, -, -, -, -, -, -, -, -, ⟨_, _, -, -, f84⟩, -⟩ := hF
   replace hL := hL.call hE hM hV
   replace f63 : IntL _ (vs 63) [0, 1, 2] := f63
   replace f63 := f63.le i63.le
   clear i63
   replace f75 : FracC _ (vs 75) halfR := f75
   replace f75 := f75.le i75.le
   clear i75
   have f84 : vs 84 = _ := f84
   generalize vs 84 = x84 at f84 ⊢
   subst x84
   clear hE hV
   simp only [List.drop_succ_cons, List.drop_zero]
   go_wp2_with (first | go_skip | refine tP ?_ | (refine tS ?_; clear hL; intro _ hL) | (refine tB ?_; clear hL; intro _ _ hL _) | (refine tC ?_; clear hL; intro _ _ hL _ hBs))
   refine QN.mk ?_
   go_wp2_with (first | go_skip | refine tP ?_ | (refine tS ?_; clear hL; intro _ hL) | (refine tB ?_; clear hL; intro _ _ hL _) | (refine tC ?_; clear hL; intro _ _ hL _ hBs))
   go_ret
   exact RetV.mk hL rfl
end Go.Proofs.YtmhkmmmompediaaGreat

/- The walks through the laws CutsTight and CutsViolation. -/
namespace Go.Proofs.YtmhkmmmompediaaGreat
open Go.RowKit

theorem masF_cols6 (l : List Int) : (masF l).cols.length ≤ 6 := by
 show ((List.range _).map _).length ≤ 6
 simp only [List.length_map, List.length_range]
 have h2 := atF_bd l 2 (by omega)
 omega

end Go.Proofs.YtmhkmmmompediaaGreat

/- pairingref27.before, first and next. -/
namespace Go.Proofs.YtmhkmmmompediaaGreat
open Go.RowKit

theorem befF_at {xs ys : List Int} {k : Nat} {x y : Int} (hx : xs[k]? = some x) (hy : ys[k]? = some y) : befF (xs.drop k) (ys.drop k) = if x = y then befF (xs.drop (k + 1)) (ys.drop (k + 1)) else decide (x < y) := by
 obtain ⟨h1, e1⟩ := List.getElem?_eq_some_iff.1 hx
 obtain ⟨h2, e2⟩ := List.getElem?_eq_some_iff.1 hy
 rw [List.drop_eq_getElem_cons h1, List.drop_eq_getElem_cons h2, e1, e2, befF]
theorem befF_out {xs ys : List Int} {k : Nat} (hx : xs.length ≤ k) (hy : ys.length ≤ k) : befF (xs.drop k) (ys.drop k) = false := by
 rw [List.drop_of_length_le hx, List.drop_of_length_le hy]; rfl

theorem r_before (a b : Value) (xs ys : List Int) (w m : World) (hV : Vw m w) (ha : IntL m a xs) (hb : IntL m b ys) (hl : xs.length = ys.length) (hl2 : xs.length ≤ 1000000) :
  Calls Tryz.prog 110 #[a, b] w (RetV w m fun _ r => r = .bool (befF xs ys)) := by
 obtain ⟨A, ca, rfl, hca, ha⟩ := ha.lit
 obtain ⟨B, cb, rfl, hcb, hb⟩ := hb.lit
 have HNY := Lib.hid hl
 have hL := Loc.start hV
 clear hV
 rw [← hl] at hcb hb ⊢
 clear hl
 generalize hn : xs.length = n at *
 have HN := Lib.hid hn
 clear hn
 have HNZ : Hid (ys.length = n) := HNY.out.symm
 clear HNY
 go_enter Tryz.func110, Tryz.ntmps110
 go_wp2_with (first | go_skip | refine tP ?_)
 go_loopw [5] (fun i wr => ∃ (k : Nat) (mm : World), k ≤ n ∧ i = .int .i64 k ∧ Loc w m wr mm [] ∧ Hid (befF xs ys = befF (xs.drop k) (ys.drop k))) (fun i _ => n - (intOf i).toNat)
 case atStart => exact ⟨0, m, Nat.zero_le _, rfl, hL, rfl⟩
 case round =>
  clear hL
  obtain ⟨k, mm, hk, rfl, hL, HB⟩ := hrel
  have hM := hL.mext
  by_cases hlt : k < n
  ·have hlt' : (k : Int) < (n : Int) := by omega
   obtain ⟨x, hx⟩ := at_some HN hlt
   obtain ⟨y, hy⟩ := at_some HNZ hlt
   obtain ⟨b1, o1, rfl, hc1⟩ := IntL.at_ ha hx
   obtain ⟨b2, o2, rfl, hc2⟩ := IntL.at_ hb hy
   have HST := Lib.hid (befF_at hx hy)
   clear hx hy
   go_upto_region 4 with ((first | go_skip | refine tP ?_))
   (try simp only [eq_self] at *)
   refine wp_region_by2 9 [false, false, false, false, false, false, false, false, false] [false, false, false, false, false, false, false, false, false] [(fun v _ _ => v = ?c4_0), (fun v _ _ => v = ?c4_1), (fun v _ _ => v = ?c4_2), (fun v _ _ => v = ?c4_3), (fun v _ _ => v = ?c4_4), (fun v _ _ => v = ?c4_5), (fun v _ _ => v = ?c4_6), (fun v _ _ => v = ?c4_7), (fun v _ _ => v = ?c4_8)] hL.vw mixed [18, 19, 20, 21, 22, 23, 24, 25, 26] _ (by kernel_rfl) (fun vs => by simp only [lay, Act.put, zq1, zq2, zq3]; rfl) (by kernel_rfl) (by decide) (by decide) ?s4 ?l4 ?r4
   case s4 =>
    refine ⟨?_, ?_, ?_, ?_, ?_, ?_, ?_, ?_, ?_, trivial⟩
    ·intro vs W1 m1 hE hM hV hD; clear hD
     exact sPw
    ·intro vs W1 m1 hE hM hV hD; clear hD
     exact sPw
    ·intro vs W1 m1 hE hM hV hD; obtain ⟨⟨_, _, -, -, f18⟩, ⟨_, _, -, -, f19⟩, -⟩ := hD
     rw [(f18 : vs 18 = _), (f19 : vs 19 = _)]; clear f18 f19; exact sIy
    ·intro vs W1 m1 hE hM hV hD; obtain ⟨⟨_, _, -, -, f20⟩, -⟩ := hD
     rw [(f20 : vs 20 = _)]; clear f20; exact sLe
    ·intro vs W1 m1 hE hM hV hD; clear hD
     exact sPw
    ·intro vs W1 m1 hE hM hV hD; clear hD
     exact sPw
    ·intro vs W1 m1 hE hM hV hD; obtain ⟨⟨_, _, -, -, f22⟩, ⟨_, _, -, -, f23⟩, -⟩ := hD
     rw [(f22 : vs 22 = _), (f23 : vs 23 = _)]; clear f22 f23; exact sIy
    ·intro vs W1 m1 hE hM hV hD; obtain ⟨⟨_, _, -, -, f24⟩, -⟩ := hD
     rw [(f24 : vs 24 = _)]; clear f24; exact sLe
    ·intro vs W1 m1 hE hM hV hD; obtain ⟨⟨_, _, -, -, f21⟩, ⟨_, _, -, -, f25⟩, -⟩ := hD
     rw [(f21 : vs 21 = _), (f25 : vs 25 = _)]; clear f21 f25; exact sPw
   case l4 =>
    refine ⟨nF, nF, nF, nF, nF, nF, nF, nF, nF, trivial⟩
   intro vs W1 m1 hE hM hV hF hD
   clear hD
   obtain ⟨⟨_, _, -, -, f18⟩, ⟨_, _, -, -, f19⟩, ⟨_, _, -, -, f20⟩, ⟨_, _, -, -, f21⟩, ⟨_, _, -, -, f22⟩, ⟨_, _, -, -, f23⟩, ⟨_, _, -, -, f24⟩, ⟨_, _, -, -, f25⟩, ⟨_, _, -, -, f26⟩, -⟩ := hF
   replace hL := hL.call hE hM hV
   have f18 : vs 18 = _ := f18
   generalize vs 18 = x18 at f18 ⊢
   subst x18
   have f19 : vs 19 = _ := f19
   generalize vs 19 = x19 at f19 ⊢
   subst x19
   have f20 : vs 20 = _ := f20
   generalize vs 20 = x20 at f20 ⊢
   subst x20
   have f21 : vs 21 = _ := f21
   generalize vs 21 = x21 at f21 ⊢
   subst x21
   have f22 : vs 22 = _ := f22
   generalize vs 22 = x22 at f22 ⊢
   subst x22
   have f23 : vs 23 = _ := f23
   generalize vs 23 = x23 at f23 ⊢
   subst x23
   have f24 : vs 24 = _ := f24
   generalize vs 24 = x24 at f24 ⊢
   subst x24
   have f25 : vs 25 = _ := f25
   generalize vs 25 = x25 at f25 ⊢
   subst x25
   have f26 : vs 26 = _ := f26
   generalize vs 26 = x26 at f26 ⊢
   subst x26
   clear hE hV
   simp only [List.drop_succ_cons, List.drop_zero]
   go_wp2_with (first | go_skip | refine tP ?_)
   refine QN.mk ?_
   by_cases hxy : x = y
   ·have hne : (x != y) = false := by simp [hxy]
    have HB2 : Hid (befF xs ys = befF (xs.drop (k + 1)) (ys.drop (k + 1))) := by
     show _ = _
     rw [HB.out, HST.out, if_pos hxy]
    clear hxy
    go_wp2_with (first | go_skip | refine tP ?_)
    go_roundw
    case rel => exact ⟨k + 1, _, by omega, by go_num, hL, HB2.out⟩
    case measure => simp [intOf] <;> omega
   ·have hne : (x != y) = true := by simp [hxy]
    have HB2 : Hid (befF xs ys = decide (x < y)) := by
     show _ = _
     rw [HB.out, HST.out, if_neg hxy]
    clear hxy
    go_upto_region 5 with ((first | go_skip | refine tP ?_))
    (try simp only [eq_self] at *)
    refine wp_region_by2 9 [false, false, false, false, false, false, false, false, false] [false, false, false, false, false, false, false, false, false] [(fun v _ _ => v = ?c5_0), (fun v _ _ => v = ?c5_1), (fun v _ _ => v = ?c5_2), (fun v _ _ => v = ?c5_3), (fun v _ _ => v = ?c5_4), (fun v _ _ => v = ?c5_5), (fun v _ _ => v = ?c5_6), (fun v _ _ => v = ?c5_7), (fun v _ _ => v = ?c5_8)] hL.vw mixed [27, 28, 29, 30, 31, 32, 33, 34, 35] _ (by kernel_rfl) (fun vs => by simp only [lay, Act.put, zq1, zq2, zq3]; rfl) (by kernel_rfl) (by decide) (by decide) ?s5 ?l5 ?r5
    case s5 =>
     refine ⟨?_, ?_, ?_, ?_, ?_, ?_, ?_, ?_, ?_, trivial⟩
     ·intro vs W1 m1 hE hM hV hD; clear hD
      exact sPw
     ·intro vs W1 m1 hE hM hV hD; clear hD
      exact sPw
     ·intro vs W1 m1 hE hM hV hD; obtain ⟨⟨_, _, -, -, f27⟩, ⟨_, _, -, -, f28⟩, -⟩ := hD
      rw [(f27 : vs 27 = _), (f28 : vs 28 = _)]; clear f27 f28; exact sIy
     ·intro vs W1 m1 hE hM hV hD; obtain ⟨⟨_, _, -, -, f29⟩, -⟩ := hD
      rw [(f29 : vs 29 = _)]; clear f29; exact sLe
     ·intro vs W1 m1 hE hM hV hD; clear hD
      exact sPw
     ·intro vs W1 m1 hE hM hV hD; clear hD
      exact sPw
     ·intro vs W1 m1 hE hM hV hD; obtain ⟨⟨_, _, -, -, f31⟩, ⟨_, _, -, -, f32⟩, -⟩ := hD
      rw [(f31 : vs 31 = _), (f32 : vs 32 = _)]; clear f31 f32; exact sIy
     ·intro vs W1 m1 hE hM hV hD; obtain ⟨⟨_, _, -, -, f33⟩, -⟩ := hD
      rw [(f33 : vs 33 = _)]; clear f33; exact sLe
     ·intro vs W1 m1 hE hM hV hD; obtain ⟨⟨_, _, -, -, f30⟩, ⟨_, _, -, -, f34⟩, -⟩ := hD
      rw [(f30 : vs 30 = _), (f34 : vs 34 = _)]; clear f30 f34; exact sPw
    case l5 =>
     refine ⟨nF, nF, nF, nF, nF, nF, nF, nF, nF, trivial⟩
    intro vs W1 m1 hE hM hV hF hD
    clear hD
    obtain ⟨-, -, -, -, -, -, -, -, ⟨_, _, -, -, f35⟩, -⟩ := hF
    replace hL := hL.call hE hM hV
    have f35 : vs 35 = _ := f35
    generalize vs 35 = x35 at f35 ⊢
    subst x35
    clear hE hV
    simp only [List.drop_succ_cons, List.drop_zero]
    go_wp2_with (first | go_skip | refine tP ?_)
    refine QN.mk ?_
    go_wp2_with (first | go_skip | refine tP ?_)
    go_ret
    exact RetV.mk hL (congrArg Value.bool HB2.out.symm)
  ·have hkn : k = n := by omega
   have HE : Hid (befF xs ys = false) := by
    show _ = _
    rw [HB.out]
    exact befF_out (by rw [HN.out]; omega) (by rw [HNZ.out]; omega)
   subst hkn
   have h9 : (k : Int) ≤ (k : Int) := Int.le_refl _
   go_wp2_with (first | go_skip | refine tP ?_)
   go_ret
   exact RetV.mk hL (congrArg Value.bool HE.out.symm)

def natL (s : List Nat) : List Int := s.map fun (i : Nat) => (i : Int)
theorem natL_len (s : List Nat) : (natL s).length = s.length := by simp [natL]
theorem natL_at {s : List Nat} {i x : Nat} (h : s[i]? = some x) : (natL s)[i]? = some (x : Int) := by simp [natL, h]
theorem natL_set {s : List Nat} {i x : Nat} : (natL s).set i (x : Int) = natL (s.set i x) := by simp [natL, List.map_set]
theorem natL_range (k : Nat) : natL (List.range (k + 1)) = natL (List.range k) ++ [(k : Int)] := by simp [natL, List.range_succ]

theorem r_first (k : Nat) (hk : k ≤ 5) (w m : World) (hV : Vw m w) :
  Calls Tryz.prog 108 #[.int .i64 k] w (RetV w m fun m' r => IntL m' r (natL (List.range k))) := by
 have hL := Loc.start hV
 clear hV
 go_enter Tryz.func108, Tryz.ntmps108
 go_wp2_with (first | go_skip | refine tP ?_ | (refine tC ?_; clear hL; intro _ _ hL _ hBs))
 go_loopw [3, 4] (fun ov i wr => ∃ (j : Nat) (mm : World) (Rr : List Lo), j ≤ k ∧ i = .int .i64 j ∧ Loc w m wr mm Rr ∧ Hid (RowA 3 1 IsI mm ov j (natL (List.range j)) Rr)) (fun _ i _ => k - (intOf i).toNat)
 case atStart => exact ⟨0, _, [], Nat.zero_le _, rfl, hL, RowA.nil⟩
 case round =>
  clear hL
  obtain ⟨j, mm, Rr, hj, rfl, hL, row⟩ := hrel
  obtain ⟨A3, c3, rfl, row1⟩ := row.out.lit
  have ROW := Lib.hid row1
  clear row row1
  by_cases hlt : j < k
  ·have hlt' : (j : Int) < (k : Int) := by omega
   have HT := Lib.hid (natL_range j)
   go_wp2_with (first | go_skip | refine tP ?_ | (refine tC ?_; clear hL; intro _ _ hL _ hBs))
   refine goA ?_
   obtain ⟨vs7, r7, z7, y7, l7⟩ := ROW.out
   refine wl_append (A := []) hL r7 (wanted_none rfl) rfl ap_ints (by omega) rfl rfl (news := [.int .i64 (j : Int)]) rfl ((Blk.sl hBs (n := 1) rfl).le hL.vw.le) rfl (by omega) (by omega) ?_
   clear hL
   intro v1 W5 m5 R5 hL r8 e8
   obtain ⟨A11, c11, rfl, -⟩ := r8.lit
   simp only [List.nil_append] at hL
   have rd := RowA.snocV (R := IsI) (m := m5) (x := (j : Int)) r8 z7 (y7.mono fun _ _ hv => hv) l7 rfl rfl rfl
   rw [← HT.out] at rd
   have RD := Lib.hid rd
   clear rd r8 r7 z7 y7 l7
   simp only [Act.put, zq1, zq2, zq3]
   go_wp2_with (first | go_skip | refine tP ?_ | (refine tC ?_; clear hL; intro _ _ hL _ hBs))
   go_roundw
   case rel => exact ⟨j + 1, m5, R5, by omega, by go_num, hL, RD.out⟩
   case measure => simp [intOf] <;> omega
  ·have hjk : j = k := by omega
   subst hjk
   have h9 : (j : Int) ≤ (j : Int) := Int.le_refl _
   obtain ⟨m9, hL9, hle9, hl9, -⟩ := RowA.show (A := []) IsI.mono hL ROW.out
   clear hL
   have hL := hL9
   have HL9 := Lib.hid hl9
   clear hL9 hl9 ROW
   go_wp2_with (first | go_skip | refine tP ?_ | (refine tC ?_; clear hL; intro _ _ hL _ hBs))
   go_ret
   exact RetV.mk hL HL9.out
end Go.Proofs.YtmhkmmmompediaaGreat

/- The walk through the law CutsPrefix. -/
namespace Go.Proofs.YtmhkmmmompediaaGreat
open Go.RowKit

theorem sl_cut {m : World} {A : Option Addr} {vs : List Value} (h : Sl m A vs) (k : Nat) : Sl m A (vs.take k) := by
 intro h0
 obtain ⟨b, off, e, hb, hc⟩ := h (by rw [List.length_take] at h0; omega)
 refine ⟨b, off, e, hb, fun j v hj => hc j v ?_⟩
 rw [List.getElem?_take] at hj
 by_cases hlt : j < k
 ·rwa [if_pos hlt] at hj
 ·rw [if_neg hlt] at hj; cases hj
theorem ListV.take {α : Type} {size : Nat} {R : World → Value → α → Prop} {m : World} {A : Option Addr} {n c k : Nat} {xs : List α} (h : ListV size R m (.slice A n c) xs) (hk : k ≤ n) : ListV size R m (.slice A k c) (xs.take k) := by
 obtain ⟨A', c', vs, e, hc, h1, h2, h3⟩ := h
 injection e with e1 e2 e3
 subst e1 e3
 have hl : (xs.take k).length = k := by rw [List.length_take]; omega
 have hz : Value.slice A k c = .slice A (xs.take k).length c := by rw [hl]
 rw [hz]
 refine ⟨A, c, vs.take k, rfl, by omega, fun u hu => h1 u (List.mem_of_mem_take hu), ?_, h3.takes k⟩
 have h9 := cellsOf_length (size := size) (vs := vs.take k) fun u hu => h1 u (List.mem_of_mem_take hu)
 have h8 : (cellsOf vs).take ((vs.take k).length * size) = cellsOf (vs.take k) := by
  have e : cellsOf vs = cellsOf (vs.take k) ++ cellsOf (vs.drop k) := by rw [← cellsOf_append, List.take_append_drop]
  rw [e]
  exact List.take_left' h9
 rw [← h8]
 exact sl_cut h2 _

end Go.Proofs.YtmhkmmmompediaaGreat

/- pairingref27.next: the list of places that comes next. -/
namespace Go.Proofs.YtmhkmmmompediaaGreat
open Go.RowKit

def NxtR (m : World) (u : Value) (b : Bool) (o : Option (List Nat)) : Prop := match o with
 | none => b = false ∧ u = .slice none 0 0
 | some s => b = true ∧ IntL m u (natL s)
theorem sl_ints {m : World} {A : Option Addr} {n c : Nat} {xs : List Int} (h : IntL m (.slice A n c) xs) : Sl m A (xs.map I64) := by
 obtain ⟨A', c', vs, e, _, _, h2, h3⟩ := h
 injection e with e1 e2 e3
 subst e1
 rw [all2_ints h3, cellsOf_ints] at h2
 exact h2
theorem row_int {m : World} {v : Value} {n g : Nat} {cur : Array Value} {xs : List Int} (h : RowA 3 1 IsI m v n xs [(g, 3, cur)]) {k : Nat} {x : Int} (hk : xs[k]? = some x) : cur[0 + k]? = some (.int .i64 x) := by
 obtain ⟨u, hu, -, hr⟩ := h.at_ hk
 have h0 := hr 0 (by omega)
 have hu' : u = .int .i64 x := hu
 rw [hu', Nat.mul_one, Nat.add_zero] at h0
 rw [h0]; rfl

theorem RowA.putI {m : World} {v : Value} {n g k : Nat} {cur : Array Value} {xs : List Int} {x : Int} (h : RowA 3 1 IsI m v n xs [(g, 3, cur)]) : RowA 3 1 IsI m v n (xs.set k x) [(g, 3, splice cur (0 + k) [.int .i64 x])] := by
 obtain ⟨vs, ⟨h0, h1⟩, h2, h3, h4⟩ := h
 have hvs := all2_ints h3
 subst hvs
 rcases h1 with ⟨-, -, h1⟩ | ⟨g', cap, cur', e1, e2, h5, h5', h6, h7⟩
 ·cases h1
 ·cases e2
  refine ⟨(xs.set k x).map I64, ⟨?_, .inr ⟨g, cap, _, e1, rfl, h5, h5', by rw [splice_size]; exact h6, ?_⟩⟩, fun u hu => by obtain ⟨y, -, rfl⟩ := List.mem_map.1 hu; rfl, all2_of_ints m _, ?_⟩
  ·rw [cellsOf_ints, List.length_map] at h0 ⊢
   rw [List.length_set]; exact h0
  ·simp only [splice]
   rw [Array.toList_setIfInBounds, List.take_set, h7, cellsOf_ints, cellsOf_ints, Nat.zero_add, List.map_set]; rfl
  ·rw [List.length_map] at h4 ⊢
   rw [List.length_set]; exact h4

theorem r_next (v : Value) (s : List Nat) (n size : Nat) (w m : World) (hV : Vw m w) (h : IntL m v (natL s)) (hsz : s.length = size) (hle : ∀ i, i < size → s.getD i 0 ≤ n - size + i) (hsn : size ≤ n) (hn : n ≤ 5) (h3 : 3 ≤ size) :
  Calls Tryz.prog 109 #[v, .int .i64 (n : Int)] w (RetV w m fun m' r => ∃ u b, r = .tuple #[u, .bool b] ∧ NxtR m' u b (nxtS n s)) := by
 obtain ⟨A, c, rfl, hc, h⟩ := h.lit
 have hs := sl_ints h
 have hnl : (natL s).length = size := by rw [natL_len]; exact hsz
 rw [hnl] at hc ⊢
 have HSZ := Lib.hid hsz
 have HSL := Lib.hid hle
 have hL := Loc.start hV
 clear hV h hsz hle
 go_enter Tryz.func109, Tryz.ntmps109
 go_wp2_with (first | go_skip | refine tP ?_ | (refine tS ?_; clear hL; intro _ hL))
 refine goA ?_
 refine wl_append (A := []) hL (Row.nil _ _) (wanted_none rfl) rfl ap_ints (by omega) rfl rfl (news := (natL s).map I64) (by rw [List.length_map, hnl, Nat.mul_one]) (hs.le hL.vw.le) (List.all_eq_true.2 fun u hu => by obtain ⟨x, -, rfl⟩ := List.mem_map.1 hu; rfl) (by omega) (by omega) ?_
 clear hL
 intro v1 W1 m1 R1 hL r1 e1
 simp only [Nat.zero_add, List.nil_append] at r1 hL
 have row1 : RowA 3 1 IsI m1 v1 size (natL s) R1 := ⟨(natL s).map I64, by rw [cellsOf_ints]; exact r1, fun u hu => by obtain ⟨x, -, rfl⟩ := List.mem_map.1 hu; rfl, all2_of_ints m1 _, by rw [List.length_map, hnl]⟩
 obtain ⟨g, cap, cur, rfl, rfl, hcap, hcur⟩ := row1.block (by omega)
 have ROW := Lib.hid row1
 have HCC : Hid (size ≤ cap ∧ cur.size = cap * 1) := ⟨hcap, hcur⟩
 clear row1 r1 hcap hcur hnl
 simp only [Act.put, zq1, zq2, zq3]
 go_wp2_with (first | go_skip | refine tP ?_ | (refine tS ?_; clear hL; intro _ hL))
 go_loopw [7] (fun iv wr => ∃ (p : Nat) (z : Int) (mm : World), p ≤ size ∧ z = (p : Int) - 1 ∧ iv = .int .i64 z ∧ Loc w m wr mm [(g, 3, cur)] ∧ Hid (Ext m1 mm) ∧ Hid (∀ t, p ≤ t → t < size → s.getD t 0 = n - size + t)) (fun iv _ => (intOf iv + 1).toNat)
 case atStart => exact ⟨size, (size : Int) - 1, _, Nat.le_refl _, rfl, by go_num, hL, Ext.refl _, fun t h1 h2 => absurd h1 (by omega)⟩
 case round =>
  clear hL
  obtain ⟨p, z, mm, hp, hz, rfl, hL, HX, HP⟩ := hrel
  have hX := HX.out
  by_cases hp0 : p = 0
  ·obtain rfl : z = -1 := by omega
   have HN : Hid (nxtS n s = none) := by
    show _ = _
    unfold nxtS
    rw [piv_no s.length (fun t ht => by rw [HSZ.out]; exact HP.out t (by omega) (by rw [← HSZ.out]; exact ht))]; rfl
   clear hz hp0 hp
   go_wp2_with (first | go_skip | refine tP ?_ | (refine tS ?_; clear hL; intro _ hL))
   (try simp only [Exit.inBlock, Exit.then])
   refine bodyPost_ret (results_tmp2 rfl _ _ _) rfl ?_
   exact RetV.mk hL ⟨_, _, rfl, by rw [HN.out]; exact ⟨rfl, rfl⟩⟩
  ·obtain ⟨p1, rfl⟩ : ∃ p1, p = p1 + 1 := ⟨p - 1, by omega⟩
   obtain rfl : z = (p1 : Int) := by omega
   have hpn : p1 < size := by omega
   have hge : (0 : Int) ≤ (p1 : Int) := by omega
   obtain ⟨y, hy⟩ : ∃ y, s[p1]? = some y := ⟨_, List.getElem?_eq_getElem (by rw [HSZ.out]; exact hpn)⟩
   have hyd : s.getD p1 0 = y := by rw [List.getD_eq_getElem?_getD, hy]; rfl
   have hyl : y ≤ n - size + p1 := by rw [← hyd]; exact HSL.out p1 hpn
   have hy10 : y ≤ 10 := by omega
   have hcell := row_int ROW.out (natL_at hy)
   have HYD := Lib.hid hyd
   clear hz hp0 hy hyd
   by_cases hyn : y = n - size + p1
   ·have hbe : decide ((y : Int) < (n : Int) - (size : Int) + (p1 : Int)) = false := decide_eq_false (by omega)
    have HP2 : Hid (∀ t, p1 ≤ t → t < size → s.getD t 0 = n - size + t) := by
     show ∀ t, _
     intro t h1 h2
     by_cases e : t = p1
     ·rw [e, HYD.out]; exact hyn
     ·exact HP.out t (by omega) h2
    clear hyn hyl
    go_wp2_with (first | (refine wl_load1 hL (wanted_none rfl) rfl rfl lb_int (n := 0) rfl hcell ?_; simp only [Act.put, zq1, zq2, zq3]) | (first | go_skip | refine tP ?_ | (refine tS ?_; clear hL; intro _ hL)))
    go_roundw
    case rel => exact ⟨p1, (p1 : Int) - 1, _, by omega, rfl, by go_num, hL, HX.out, HP2.out⟩
    case measure => simp [intOf] <;> omega
   ·have hbe : decide ((y : Int) < (n : Int) - (size : Int) + (p1 : Int)) = true := decide_eq_true (by omega)
    have HNS : Hid (nxtS n s = some (filS s p1)) := by
     show _ = _
     unfold nxtS
     rw [piv_yes s.length (by rw [HSZ.out]; exact hpn) (fun t h1 h2 => by rw [HSZ.out]; exact HP.out t (by omega) (by rw [← HSZ.out]; exact h2)) (by rw [HSZ.out, HYD.out]; exact hyn)]; rfl
    have hfit : 0 + p1 < cur.size := by have := HCC.out; omega
    clear hyn HP hyl
    go_wp2_with (first | (with_reducible refine stS ?_) | (refine wl_load1 hL (wanted_none rfl) rfl rfl lb_int (n := 0) rfl hcell ?_; simp only [Act.put, zq1, zq2, zq3]) | (first | go_skip | refine tP ?_ | (refine tS ?_; clear hL; intro _ hL)))
    refine goA ?_
    refine wl_store1S hL (wanted_none rfl) (v := .int .i64 ((y : Int) + 1)) (off := 0 + p1) rfl rfl rfl lb_int (n := 0) rfl hfit rfl rfl ?_
    have ra := RowA.putI (k := p1) (x := ((y + 1 : Nat) : Int)) (RowA.le IsI.mono ROW.out (leX : Le m1 mm))
    rw [natL_set, show s.set p1 (y + 1) = filP s p1 (p1 + 1) by rw [← HYD.out]; exact filP_one (by rw [HSZ.out]; exact hpn), show ((y + 1 : Nat) : Int) = (y : Int) + 1 from rfl] at ra
    clear hL
    intro W6 hL hS6
    simp only [List.set_cons_zero] at hL
    have RA := Lib.hid ra
    have HC2 : Hid (size ≤ cap ∧ (splice cur (0 + p1) [.int .i64 ((y : Int) + 1)]).size = cap * 1) := by
     show _ ∧ _
     rw [splice_size]; exact HCC.out
    clear ra hS6 hcell hfit ROW HCC
    generalize splice cur (0 + p1) [.int .i64 ((y : Int) + 1)] = cur1 at *
    simp only [Act.put, zq1, zq2, zq3]
    go_wp2_with (first | go_skip | refine tP ?_ | (refine tS ?_; clear hL; intro _ hL))
    go_loopw [8] (fun jv wr => ∃ (j : Nat) (m5 : World) (cur2 : Array Value), p1 + 1 ≤ j ∧ j ≤ size ∧ jv = .int .i64 (j : Int) ∧ Loc w m wr m5 [(g, 3, cur2)] ∧ Hid (RowA 3 1 IsI m5 (.slice (some ⟨g, 0, none⟩) size cap) size (natL (filP s p1 j)) [(g, 3, cur2)]) ∧ Hid (size ≤ cap ∧ cur2.size = cap * 1)) (fun jv _ => size - (intOf jv).toNat)
    case atStart => exact ⟨p1 + 1, _, cur1, Nat.le_refl _, by omega, by go_num, hL, RA.out, HC2.out⟩
    case round =>
     clear hL RA HC2
     obtain ⟨j, m5, cur2, hj1, hj, rfl, hL, RA, HC2⟩ := hrel
     by_cases hltj : j < size
     ·have hltj' : (j : Int) < (size : Int) := by omega
      obtain ⟨j0, hj0⟩ : ∃ j0, j0 + 1 = j := ⟨j - 1, by omega⟩
      have hw1 : wrap64 ((j : Int) - 1) = (j0 : Int) := by unfold wrap64; omega
      have hw2 : (j : Int) - 1 = (j0 : Int) := by omega
      have hj0s : j0 < size := by omega
      have hv : s.getD p1 0 + 1 + (j - 1 - p1) = y + 1 + (j0 - p1) := by rw [HYD.out]; omega
      have hcell : cur2[0 + j0]? = some (.int .i64 ((y + 1 + (j0 - p1) : Nat) : Int)) := by
       refine row_int RA.out ?_
       rw [← hv, show j0 = j - 1 by omega]
       exact natL_at (filP_prev (by omega) (by rw [HSZ.out]; exact hj))
      have hfit : 0 + j < cur2.size := by have := HC2.out; omega
      have HST : Hid ((natL (filP s p1 j)).set j (((y + 1 + (j0 - p1) + 1 : Nat) : Int)) = natL (filP s p1 (j + 1))) := by
       show _ = _
       rw [natL_set, ← filP_step (by omega : p1 < j) (by rw [HSZ.out]; exact hltj), hv]
      have hb20 : ((y + 1 + (j0 - p1) : Nat) : Int) ≤ 100 := by omega
      have hb21 : (0 : Int) ≤ ((y + 1 + (j0 - p1) : Nat) : Int) := by omega
      generalize y + 1 + (j0 - p1) = y2 at *
      clear hv
      go_wp2_with (first | (with_reducible refine stS ?_) | (refine wl_load1 hL (wanted_none rfl) rfl rfl lb_int (n := 0) rfl hcell ?_; simp only [Act.put, zq1, zq2, zq3]) | (first | go_skip | refine tP ?_ | (refine tS ?_; clear hL; intro _ hL)))
      refine goA ?_
      refine wl_store1S hL (wanted_none rfl) (v := .int .i64 ((y2 : Int) + 1)) (off := 0 + j) rfl rfl rfl lb_int (n := 0) rfl hfit rfl rfl ?_
      have ra := RowA.putI (k := j) (x := ((y2 + 1 : Nat) : Int)) RA.out
      rw [HST.out, show ((y2 + 1 : Nat) : Int) = (y2 : Int) + 1 from rfl] at ra
      clear hL
      intro W7 hL hS8
      simp only [List.set_cons_zero] at hL
      have RA2 := Lib.hid ra
      have HC3 : Hid (size ≤ cap ∧ (splice cur2 (0 + j) [.int .i64 ((y2 : Int) + 1)]).size = cap * 1) := by
       show _ ∧ _
       rw [splice_size]; exact HC2.out
      clear ra hS8 hcell hfit hw1 hw2 hj0
      simp only [Act.put, zq1, zq2, zq3]
      go_wp2_with (first | go_skip | refine tP ?_ | (refine tS ?_; clear hL; intro _ hL))
      go_roundw
      case rel => exact ⟨j + 1, _, _, by omega, by omega, by go_num, hL, RA2.out, HC3.out⟩
      case measure => simp [intOf] <;> omega
     ·have hjs : size = j := by omega
      have HFE : Hid (filP s p1 j = filS s p1) := by
       show _ = _
       rw [← hjs, ← HSZ.out]
       exact filP_end (by rw [HSZ.out]; exact hpn)
      have ra := RA.out
      rw [HFE.out] at ra
      subst hjs
      have h8 : (size : Int) ≤ (size : Int) := Int.le_refl _
      obtain ⟨m9, hL9, hle9, hl9, -⟩ := RowA.show (A := []) IsI.mono hL ra
      have HL9 := Lib.hid hl9
      clear hL ra hle9 hl9 RA HC2
      have hL := hL9
      clear hL9
      go_wp2_with (first | go_skip | refine tP ?_ | (refine tS ?_; clear hL; intro _ hL))
      (try simp only [Exit.inBlock, Exit.then])
      refine bodyPost_ret (results_tmp2 rfl _ _ _) rfl ?_
      exact RetV.mk hL ⟨_, _, rfl, by rw [HNS.out]; exact ⟨rfl, HL9.out⟩⟩
end Go.Proofs.YtmhkmmmompediaaGreat

/- pairingref27.SameInts for any two lists. -/
namespace Go.Proofs.YtmhkmmmompediaaGreat
open Go.RowKit

theorem same_end {xs ys : List Int} {k : Nat} (hl : xs.length = ys.length) (hk : xs.length ≤ k) (h : ∀ t, t < k → xs[t]? = ys[t]?) : xs = ys := by
 apply List.ext_getElem?
 intro t
 by_cases ht : t < k
 ·exact h t ht
 ·rw [List.getElem?_eq_none (by omega), List.getElem?_eq_none (by omega)]

theorem r_SameIntsB (a b : Value) (xs ys : List Int) (w m : World) (hV : Vw m w) (ha : IntL m a xs) (hb : IntL m b ys) (hl : xs.length ≤ 1000000) :
  Calls Tryz.prog 55 #[a, b] w (RetV w m fun _ r => r = .bool (decide (xs = ys))) := by
 obtain ⟨A, c, rfl, hc, ha⟩ := ha.lit
 obtain ⟨B, d, rfl, hd, hb⟩ := hb.lit
 have hL := Loc.start hV
 clear hV
 by_cases hne : xs.length = ys.length
 ·have HNE := Lib.hid hne
  rw [← hne] at hb hd ⊢
  clear hne
  generalize hn : xs.length = n at *
  have HN := Lib.hid hn
  clear hn
  have HNY : Hid (ys.length = n) := HNE.out.symm
  have hnn : ((n : Int) != (n : Int)) = false := by simp
  go_enter Tryz.func55, Tryz.ntmps55
  go_wp2_with (first | go_skip | refine tP ?_)
  go_loopw [5] (fun i wr => ∃ (k : Nat) (mm : World), k ≤ n ∧ i = .int .i64 k ∧ Loc w m wr mm [] ∧ Ext m mm ∧ Hid (∀ t, t < k → xs[t]? = ys[t]?)) (fun i _ => n - (intOf i).toNat)
  case atStart => exact ⟨0, m, Nat.zero_le _, rfl, hL, Ext.refl _, fun t h => absurd h (by omega)⟩
  case round =>
   clear hL
   obtain ⟨k, mm, hk, rfl, hL, hM, HP⟩ := hrel
   by_cases hlt : k < n
   ·have hlt' : (k : Int) < (n : Int) := by omega
    obtain ⟨x, hx⟩ := at_some HN hlt
    obtain ⟨y, hy⟩ := at_some HNY hlt
    obtain ⟨b1, o1, rfl, hc1⟩ := IntL.at_ ha hx
    obtain ⟨b2, o2, rfl, hc2⟩ := IntL.at_ hb hy
    have HX := Lib.hid hx
    have HY := Lib.hid hy
    clear hx hy
    go_upto_region 6 with ((first | go_skip | refine tP ?_))
    (try simp only [eq_self] at *)
    refine wp_region_by2 9 [false, false, false, false, false, false, false, false, false] [false, false, false, false, false, false, false, false, false] [(fun v _ _ => v = ?c6_0), (fun v _ _ => v = ?c6_1), (fun v _ _ => v = ?c6_2), (fun v _ _ => v = ?c6_3), (fun v _ _ => v = ?c6_4), (fun v _ _ => v = ?c6_5), (fun v _ _ => v = ?c6_6), (fun v _ _ => v = ?c6_7), (fun v _ _ => v = ?c6_8)] hL.vw mixed [17, 18, 19, 20, 21, 22, 23, 24, 25] _ (by kernel_rfl) (fun vs => by simp only [lay, Act.put, zq1, zq2, zq3]; rfl) (by kernel_rfl) (by decide) (by decide) ?s6 ?l6 ?r6
    case s6 =>
     refine ⟨?_, ?_, ?_, ?_, ?_, ?_, ?_, ?_, ?_, trivial⟩
     ·intro vs W1 m1 hE hM hV hD; clear hD
      exact sPw
     ·intro vs W1 m1 hE hM hV hD; clear hD
      exact sPw
     ·intro vs W1 m1 hE hM hV hD; obtain ⟨⟨_, _, -, -, f17⟩, ⟨_, _, -, -, f18⟩, -⟩ := hD
      rw [(f17 : vs 17 = _), (f18 : vs 18 = _)]; clear f17 f18; exact sIy
     ·intro vs W1 m1 hE hM hV hD; obtain ⟨⟨_, _, -, -, f19⟩, -⟩ := hD
      rw [(f19 : vs 19 = _)]; clear f19; exact sLe
     ·intro vs W1 m1 hE hM hV hD; clear hD
      exact sPw
     ·intro vs W1 m1 hE hM hV hD; clear hD
      exact sPw
     ·intro vs W1 m1 hE hM hV hD; obtain ⟨⟨_, _, -, -, f21⟩, ⟨_, _, -, -, f22⟩, -⟩ := hD
      rw [(f21 : vs 21 = _), (f22 : vs 22 = _)]; clear f21 f22; exact sIy
     ·intro vs W1 m1 hE hM hV hD; obtain ⟨⟨_, _, -, -, f23⟩, -⟩ := hD
      rw [(f23 : vs 23 = _)]; clear f23; exact sLe
     ·intro vs W1 m1 hE hM hV hD; obtain ⟨⟨_, _, -, -, f20⟩, ⟨_, _, -, -, f24⟩, -⟩ := hD
      rw [(f20 : vs 20 = _), (f24 : vs 24 = _)]; clear f20 f24; exact sPw
    case l6 =>
     refine ⟨nF, nF, nF, nF, nF, nF, nF, nF, nF, trivial⟩
    intro vs W1 m1 hE hM hV hF hD
    clear hD
    obtain ⟨⟨_, _, -, -, f17⟩, ⟨_, _, -, -, f18⟩, ⟨_, _, -, -, f19⟩, ⟨_, _, -, -, f20⟩, ⟨_, _, -, -, f21⟩, ⟨_, _, -, -, f22⟩, ⟨_, _, -, -, f23⟩, ⟨_, _, -, -, f24⟩, ⟨_, _, -, -, f25⟩, -⟩ := hF
    replace hL := hL.call hE hM hV
    have f17 : vs 17 = _ := f17
    generalize vs 17 = x17 at f17 ⊢
    subst x17
    have f18 : vs 18 = _ := f18
    generalize vs 18 = x18 at f18 ⊢
    subst x18
    have f19 : vs 19 = _ := f19
    generalize vs 19 = x19 at f19 ⊢
    subst x19
    have f20 : vs 20 = _ := f20
    generalize vs 20 = x20 at f20 ⊢
    subst x20
    have f21 : vs 21 = _ := f21
    generalize vs 21 = x21 at f21 ⊢
    subst x21
    have f22 : vs 22 = _ := f22
    generalize vs 22 = x22 at f22 ⊢
    subst x22
    have f23 : vs 23 = _ := f23
    generalize vs 23 = x23 at f23 ⊢
    subst x23
    have f24 : vs 24 = _ := f24
    generalize vs 24 = x24 at f24 ⊢
    subst x24
    have f25 : vs 25 = _ := f25
    generalize vs 25 = x25 at f25 ⊢
    subst x25
    clear hE hV
    simp only [List.drop_succ_cons, List.drop_zero]
    go_wp2_with (first | go_skip | refine tP ?_)
    refine QN.mk ?_
    by_cases hxy : x = y
    ·have hxx : ((x : Int) != (y : Int)) = false := by simp [hxy]
     have HP2 : Hid (∀ t, t < k + 1 → xs[t]? = ys[t]?) := by
      show ∀ t, _
      intro t ht
      by_cases e : t = k
      ·rw [e, HX.out, HY.out, hxy]
      ·exact HP.out t (by omega)
     clear hxy
     go_wp2_with (first | go_skip | refine tP ?_)
     go_roundw
     case rel => exact ⟨k + 1, _, by omega, by go_num, hL, hL.mext, HP2.out⟩
     case measure => simp [intOf] <;> omega
    ·have hxx : ((x : Int) != (y : Int)) = true := by simp [hxy]
     have HD : Hid (decide (xs = ys) = false) := by
      show _ = _
      refine decide_eq_false fun e => hxy ?_
      have h1 := HX.out
      rw [e, HY.out] at h1
      exact (Option.some.inj h1).symm
     clear hxy
     go_wp2_with (first | go_skip | refine tP ?_)
     go_ret
     exact RetV.mk hL (congrArg Value.bool HD.out.symm)
   ·have hkn : n = k := by omega
    have HE : Hid (decide (xs = ys) = true) := decide_eq_true (same_end (by rw [HN.out, HNY.out]) (by rw [HN.out]; omega) HP.out)
    subst hkn
    have h9 : (n : Int) ≤ (n : Int) := Int.le_refl _
    go_wp2_with (first | go_skip | refine tP ?_)
    go_ret
    exact RetV.mk hL (congrArg Value.bool HE.out.symm)
 ·have HD : Hid (decide (xs = ys) = false) := decide_eq_false fun e => hne (by rw [e])
  have hnn : ((xs.length : Int) != (ys.length : Int)) = true := by simp; omega
  clear hne
  generalize xs.length = n1 at *
  generalize ys.length = n2 at *
  go_enter Tryz.func55, Tryz.ntmps55
  go_wp2_with (first | go_skip | refine tP ?_)
  go_ret
  exact RetV.mk hL (congrArg Value.bool HD.out.symm)
end Go.Proofs.YtmhkmmmompediaaGreat

/- What the reference's Separate needs of a new cut: what stands ahead of it. No program. -/
namespace Go.Proofs.YtmhkmmmompediaaGreat
open Go.RowKit

theorem fndT_at {ms : Ms} {us : List Rat} {sz d : Nat} {x : Can} : ∀ {k}, x ∈ fndT ms us sz d k → ∃ (j : Nat) (s : List Nat), j < k ∧ (subsF ms.rows.length sz)[j]? = some s ∧ x = (cutS ms d s, vioF (cutS ms d s) ms.cols us)
 | 0, h => by cases h
 | k + 1, h => by
  cases hk : (subsF ms.rows.length sz)[k]? with
  | none =>
   have h1 := List.getElem?_eq_none_iff.1 hk
   have e : fndT ms us sz d (k + 1) = fndT ms us sz d k := by unfold fndT; rw [List.take_of_length_le (by omega), List.take_of_length_le (by omega)]
   rw [e] at h
   obtain ⟨j, s, h1, h2, h3⟩ := fndT_at h
   exact ⟨j, s, by omega, h2, h3⟩
  | some s =>
   rw [fndT_step hk] at h
   rcases fndS_mem h with h | h
   ·obtain ⟨j, s, h1, h2, h3⟩ := fndT_at h
    exact ⟨j, s, by omega, h2, h3⟩
   ·exact ⟨k, s, by omega, hk, h⟩
theorem bef_fnd {ms : Ms} {us : List Rat} {sz d q : Nat} {s : List Nat} (ok : SubOk ms.rows.length sz) (hp : ms.rows.Pairwise (· < ·)) (hq : (subsF ms.rows.length sz)[q]? = some s) : ∀ y ∈ fndT ms us sz d q, befF (cutS ms d s).1 y.1.1 = false := by
 intro y hy
 obtain ⟨j, t, hj, ht, rfl⟩ := fndT_at hy
 obtain ⟨l1, e1⟩ := List.getElem?_eq_some_iff.1 hq
 obtain ⟨l2, e2⟩ := List.getElem?_eq_some_iff.1 ht
 have h1 := List.pairwise_iff_getElem.1 ok.pw j q l2 l1 hj
 rw [e1, e2] at h1
 show befF (rowsS ms.rows s) (rowsS ms.rows t) = false
 unfold rowsS
 rw [befF_map (n := ms.rows.length) ?_ s t (ok.lt s (List.mem_of_getElem? hq)) (ok.lt t (List.mem_of_getElem? ht))]
 ·exact h1
 ·intro a b hab hb
  have := List.pairwise_iff_getElem.1 hp a b (by omega) hb hab
  rw [List.getD_eq_getElem?_getD, List.getElem?_eq_getElem (by omega), List.getD_eq_getElem?_getD, List.getElem?_eq_getElem hb]
  exact this
theorem rs_flip (p q : Rat) : rs (p - q) = - rs (q - p) := by
 have e : p - q = -(q - p) := by rw [Rat.neg_sub]
 rw [e]
 unfold rs
 rw [Rat.neg_num]
 unfold icmp
 split
 ·split
  ·omega
  ·split
   ·omega
   ·omega
 ·split
  ·split
   ·omega
   ·omega
  ·split
   ·omega
   ·split
    ·omega
    ·omega
theorem stop_is (a b : Can) : stopD a b = (decide (rs (a.2 - b.2) < 0) || (decide (rs (a.2 - b.2) = 0) && !befF a.1.1 b.1.1)) := by
 have h : rs (a.2 - b.2) = - canC a b := rs_flip _ _
 unfold stopD
 rw [h]
 congr 1
 ·rw [decide_eq_decide]; omega
 ·congr 1
  rw [decide_eq_decide]; omega
theorem map_swp {β : Type} (f : Can → β) {xs : List Can} {j j1 : Nat} (hj : j1 + 1 = j) {a b : Can} (ha : xs[j]? = some a) (hb : xs[j1]? = some b) : (swp xs j).map f = ((xs.map f).set j (f b)).set j1 (f a) := by
 unfold swp
 rw [ha, show j - 1 = j1 by omega, hb]
 simp only [List.map_set]
theorem cut_at {m : World} {v : Value} {n g : Nat} {cur : Array Value} {xs : List Cut} {e : TypeId} (h : RowA e 2 CutR m v n xs [(g, e, cur)]) {k : Nat} {x : Cut} (hk : xs[k]? = some x) :
  ∃ A a c d, CutR m (.agg #[.slice A a c, .int .i64 d]) x ∧ IntL m (.slice A a c) x.1 ∧ ∀ j, j < 2 → cur[0 + k * 2 + j]? = [.slice A a c, .int .i64 d][j]? := by
 obtain ⟨u, hu, -, hr⟩ := h.at_ hk
 obtain ⟨s, rfl, h1, h2⟩ := hu
 obtain ⟨A, c, rfl, -, h3⟩ := h1.lit
 refine ⟨A, _, c, _, ⟨_, rfl, h1, h2⟩, h1, fun j hj => ?_⟩
 rw [hr j hj]
 simp [Value.cells]
theorem frac_at {m : World} {v : Value} {n g : Nat} {cur : Array Value} {xs : List Rat} {e : TypeId} (h : RowA e 4 FracC m v n xs [(g, e, cur)]) {k : Nat} {q : Rat} (hk : xs[k]? = some q) :
  ∃ gv A n' c f B p r, FracC m (.agg #[.bool gv, .slice A n' c, .bool f, .slice B p r]) q ∧ ∀ j, j < 4 → cur[0 + k * 4 + j]? = [.bool gv, .slice A n' c, .bool f, .slice B p r][j]? := by
 obtain ⟨u, hu, -, hr⟩ := h.at_ hk
 obtain ⟨gv, A, n', c, f, B, p, r, rfl, hq⟩ := hu.lit
 refine ⟨gv, A, n', c, f, B, p, r, hq, fun j hj => ?_⟩
 rw [hr j hj]
 simp [Value.cells]
theorem wp_region_via {P : Program} {Q : Exit → Act → World → Prop} {id : Nat} {ops : Array Oper} {dr : Bool} {a : Act} {w : World} (D : Act → Act → World → Prop) (h1 : ∀ Q : Exit → Act → World → Prop, (∀ a' w', D a a' w' → Q .normal a' w') → (Code.region id ops dr).wp P Q a w) (h2 : ∀ a' w', D a a' w' → Q .normal a' w') : (Code.region id ops dr).wp P Q a w := h1 Q h2
end Go.Proofs.YtmhkmmmompediaaGreat
