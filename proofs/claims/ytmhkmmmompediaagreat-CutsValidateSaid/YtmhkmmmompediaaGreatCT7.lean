/- Part 7 of 8 of the proof: the laws CutsTight and CutsViolation return true for every input, and its arguments read as before; there is no condition. -/
import Derived.Test.YtmhkmmmompediaaGreatCT6
set_option linter.unusedVariables false
set_option linter.unusedSimpArgs false
/- cuts.Separate, where there is at most one list of places. -/
namespace Go.Proofs.YtmhkmmmompediaaGreat
open Go.RowKit

theorem ListV.n_is {α : Type} {size : Nat} {R : World → Value → α → Prop} {m : World} {A : Option Addr} {n c : Nat} {xs : List α} (h : ListV size R m (.slice A n c) xs) : n = xs.length := by
  obtain ⟨_, _, _, e, _⟩ := h
  injection e
theorem MasterR.parts {m : World} {nf pen : Int} {a b c : Value} {x : Ms} (h : MasterR m (.agg #[.int .i64 nf, a, .int .i64 pen, b, c]) x) : IntL m a x.rows ∧ ColL m b x.cols ∧ CutL m c x.cuts := by
  obtain ⟨_, _, _, e, h1, h2, h3⟩ := h
  injection e with e
  injection e with e
  injection e with e1 e
  injection e with e2 e
  injection e with e3 e
  injection e with e4 e
  injection e with e5 e
  subst e2 e4 e5
  exact ⟨h1, h2, h3⟩
theorem SepE.putObj {w0 m0 m W : World} {g b16 : Nat} {s : List Nat} {fs : List Can} (h : SepE w0 m0 m g b16 s fs W) {b : Nat} {o : Obj} (o' : Obj) (hb : W.heap[b]? = some o) (hlow : w0.heap.size ≤ b) (hn : ∀ cs t fr, o ≠ .cells cs t fr) : SepE w0 m0 m g b16 s fs (W.putObj b o') := by
  obtain ⟨m', fd, Rf, n, hL, hX, row, h0⟩ := h
  obtain ⟨m2, hL2, hX2⟩ := hL.putObj o' hb hlow (fun cs t fr e => by rw [hb] at e; exact hn cs t fr (Option.some.inj e))
  exact ⟨m2, fd, Rf, n, hL2, hX.trans hX2, RowA.le CanR.mono row hX2.le, h0⟩
def SepO (w0 m0 m : World) (b16 : Nat) (fs : List Can) (W' : World) : Prop :=
  ∃ m' fd Rf n, Loc w0 m0 W' m' ((b16, 121, #[fd]) :: Rf) ∧ Ext m m' ∧ RowA 128 6 CanR m' fd n fs Rf ∧ (n = 0 → fd = .slice none 0 0)
theorem SepO.putObj {w0 m0 m W : World} {b16 : Nat} {fs : List Can} (h : SepO w0 m0 m b16 fs W) {b : Nat} {o : Obj} (o' : Obj) (hb : W.heap[b]? = some o) (hlow : w0.heap.size ≤ b) (hn : ∀ cs t fr, o ≠ .cells cs t fr) : SepO w0 m0 m b16 fs (W.putObj b o') := by
  obtain ⟨m', fd, Rf, n, hL, hX, row, h0⟩ := h
  obtain ⟨m2, hL2, hX2⟩ := hL.putObj o' hb hlow (fun cs t fr e => by rw [hb] at e; exact hn cs t fr (Option.some.inj e))
  exact ⟨m2, fd, Rf, n, hL2, hX.trans hX2, RowA.le CanR.mono row hX2.le, h0⟩
theorem srtC_one {xs : List Can} (h : xs.length ≤ 1) : srtC xs = xs := by
  match xs, h with
  | [], _ => rfl
  | [x], _ => rfl
theorem enter_go {P : Program} {f : FuncId} {fn : Func} {c : Code} (h1 : P.funcs[f]? = some fn) (h2 : (fn.name == "runtime.NumGoroutine") = false) (h3 : fn.body = some c) (args : Array Value) (w : World) : (callFunc f args).run P w = .ok (.enter f args) w := by
  have h4 : fn.name ≠ "runtime.NumGoroutine" := fun e => by rw [e] at h2; cases h2
  simp [callFunc, h1, h4, h3]
theorem enter_subs (args : Array Value) (w : World) : (callFunc 160 args).run Tryz.prog w = .ok (.enter 160 args) w := enter_go Tryz.func160 (by kernel_rfl) rfl args w
theorem subs_le1 {n sz : Nat} (hn : n ≤ sz) (h3 : 3 ≤ sz) (h5 : sz ≤ 5) : (subsF n sz).length ≤ 1 := by
  by_cases h : n = sz
  · subst h; rw [subs_one h3 h5]; simp
  · unfold subsF; rw [if_neg (by omega)]; simp
theorem CanL.at_ {m : World} {A : Option Addr} {n c : Nat} {xs : List Can} (h : ListV 6 CanR m (.slice A n c) xs) {k : Nat} {x : Can} (hk : xs[k]? = some x) :
    ∃ b off R a e d gv A' n' c' f B p q, A = some ⟨b, off, none⟩ ∧ CutR m (.agg #[.slice R a e, .int .i64 d]) x.1 ∧ m.rangeAt b (off + k * 6) [.slice R a e, .int .i64 d, .bool gv, .slice A' n' c', .bool f, .slice B p q] := by
  obtain ⟨b, off, v, e, ⟨R, a, c, d, gv, A', n', c', f, B, p, q, rfl, h1, h2⟩, _, hr⟩ := ListV.at_ h (by omega) hk
  exact ⟨b, off, R, a, c, d, gv, A', n', c', f, B, p, q, e, h1, hr⟩
theorem cutS_ok {ms : Ms} (ok : MsOk ms) {d sz : Nat} {s : List Nat} (hl : s.length = sz) (hp : s.Pairwise (· < ·)) (hs : ∀ i ∈ s, i < ms.rows.length) (hd2 : 2 ≤ d) (hds : d < sz) (h5 : sz ≤ 5) : CutOk ms.rows (cutS ms d s) := by
  have hpw := asc_pw ok.asc
  have hg : ∀ i, i < ms.rows.length → ms.rows[i]? = some (ms.rows.getD i 0) := fun i hi => by
    rw [List.getD_eq_getElem?_getD, List.getElem?_eq_getElem hi]; rfl
  refine ⟨ascP_of ?_, fun r hr => ?_, by show (2 : Int) ≤ (d : Int); omega, ?_, ?_⟩
  · show (rowsS ms.rows s).Pairwise (· < ·)
    unfold rowsS
    rw [List.pairwise_map]
    refine hp.imp_of_mem fun {a b} ha hb hab => ?_
    have h1 := hg a (hs a ha)
    have h2 := hg b (hs b hb)
    obtain ⟨hla, e1⟩ := List.getElem?_eq_some_iff.1 h1
    obtain ⟨hlb, e2⟩ := List.getElem?_eq_some_iff.1 h2
    rw [← e1, ← e2]
    exact List.pairwise_iff_getElem.1 hpw a b hla hlb hab
  · obtain ⟨i, hi, rfl⟩ := List.mem_map.1 (show r ∈ rowsS ms.rows s from hr)
    exact List.mem_of_getElem? (hg i (hs i hi))
  · show (d : Int) ≤ ((rowsS ms.rows s).length : Int)
    unfold rowsS
    rw [List.length_map, hl]; omega
  · show (rowsS ms.rows s).length ≤ 1000000
    unfold rowsS
    rw [List.length_map, hl]; omega

set_option maxRecDepth 100000 in
set_option maxHeartbeats 64000000 in
theorem u_SepOne (mv vv : Value) (ms : Ms) (us : List Rat) (sz d most : Nat) (w m : World) (hV : Vw m w) (hm : MasterR m mv ms) (hvv : FracL m vv us) (ok : VOk ms us) (h5 : ms.rows.length ≤ 5) (h6 : ms.cols.length ≤ 6) (hone : ms.rows.length ≤ sz) (hs3 : 3 ≤ sz) (hs5 : sz ≤ 5) (hd2 : 2 ≤ d) (hdz : d < sz) (hm1 : 1 ≤ most) (hmo : most ≤ 1000) :
    Calls Tryz.prog 39 #[mv, vv, .int .i64 sz, .int .i64 d, .int .i64 most] w (RetV w m fun m' r => ∃ v, r = .tuple #[v, .int .i64 0] ∧ CutL m' v (sepF ms us sz d most)) := by
  have HM := Lib.hid hm
  have HVV := Lib.hid hvv
  have OK := Lib.hid ok
  have SG := Lib.hid (sepG ok h5 h6)
  obtain ⟨A, nr, ca, B, nc, cb, C, nk, cc, rfl, hm1⟩ := hm.lit
  obtain ⟨V, cv, rfl, hcv, hvv1⟩ := hvv.lit
  obtain ⟨p1, p2, p3⟩ := hm1.parts
  have hnr := p1.n_is
  have hul : us.length = nc := ok.len.trans p2.n_is.symm
  have SO := Lib.hid (subs_ok (n := nr) (size := sz) (by omega) hs3 hs5)
  have HRO := Lib.hid p1
  have HCU := Lib.hid p3
  have KV : Hid (∀ w m', Vw m' w → Le m m' → Calls Tryz.prog 68 #[.agg #[.int .i64 ms.nf, .slice A nr ca, .int .i64 ms.pen, .slice B nc cb, .slice C nk cc]] w (RetV w m' fun _ r => r = .int .i64 0)) := by
    show ∀ w m', _
    exact fun w m' hV hle => m_ValidateMaster _ _ w m' hV (HM.out.le hle) ok.ms
  have KG : Hid (∀ w m', Vw m' w → Le m m' → Calls Tryz.prog 99 #[.agg #[.int .i64 ms.nf, .slice A nr ca, .int .i64 ms.pen, .slice B nc cb, .slice C nk cc], .slice V us.length cv] w (GrpPost w m' (grpF ms.rows ms.cols us))) := by
    show ∀ w m', _
    exact fun w m' hV hle => u_groups _ _ _ us w m' hV (HM.out.le hle) (FracL.le HVV.out hle) ok h5 h6
  have HGT : Hid (∀ x ∈ grpF ms.rows ms.cols us, Tw 108 x.2.1) := by
    show ∀ x ∈ _, _
    exact fun x hx => (grpT_tw ms.rows ok.tw _ x (List.mem_filter.1 hx |>.1)).mono (by omega)
  have HGL : Hid ((grpF ms.rows ms.cols us).length ≤ 6) := Nat.le_trans (grpF_len ms.rows ms.cols us) h6
  have HNR := Lib.hid hnr
  have hL := Loc.start hV
  have hz3 : (3 : Int) ≤ (sz : Int) := by omega
  have hz5 : (sz : Int) ≤ 5 := by omega
  have hz2 : (2 : Int) ≤ (d : Int) := by omega
  have hzd : (d : Int) < (sz : Int) := by omega
  have hz0 : (0 : Int) ≤ (most : Int) := by omega
  have hb1 : decide ((sz : Int) < 3) = false := decide_eq_false (by omega)
  have hb2 : decide ((5 : Int) < (sz : Int)) = false := decide_eq_false (by omega)
  have hb3 : decide ((d : Int) < 2) = false := decide_eq_false (by omega)
  have hb4 : decide ((sz : Int) ≤ (d : Int)) = false := decide_eq_false (by omega)
  have hb5 : decide ((most : Int) < 0) = false := decide_eq_false (by omega)
  have hnr5 : nr ≤ 5 := by omega
  have hns : nr ≤ sz := by omega
  rw [hul] at KG hcv ⊢
  clear hV ok hvv1 HM HVV hul p1 p2 p3 hm1 hnr h5 h6 hone
  refine callsIn_wide.1 (callsIn_of_wp_marks (n := 0) (F := Fence.wide) Tryz.func39 rfl trivial ?_)
  refine wpIn_wide.2 ?_
  simp only [Tryz.ntmps39, List.size_toArray, List.length_cons, List.length_nil, Nat.reduceAdd, Nat.reduceSub, Array.replicate_succ, Array.replicate_zero, List.push_toArray, List.append_toArray, List.nil_append, List.cons_append]
  generalize ms.nf = nf at *
  generalize ms.pen = pen at *
  go_upto_region 0 with (fail)
  refine wp_region_lit ?_
  refine t_box hL rfl rfl ?_
  clear hL
  intro W5 m5 hL e5
  simp only [Act.put, zq1, zq2, zq3]
  refine wl_box1 hL (wanted_none rfl) (v := .int .i64 (sz : Int)) rfl rfl rfl ?_
  clear hL
  intro W7 m7 hL e7
  simp only [Act.put, zq1, zq2, zq3]
  refine wl_box1 hL (wanted_none rfl) (v := .int .i64 (d : Int)) rfl rfl rfl ?_
  clear hL
  intro W8 m8 hL e8
  simp only [Act.put, zq1, zq2, zq3]
  obtain ⟨m9, hL9, hle9, hsl9⟩ := Loc.show1 (A := [(_, _, _), (_, _, _)]) hL 5
  obtain ⟨m10, hL10, hle10, hsl10⟩ := Loc.show1 (A := [(_, _, _)]) hL9 1
  obtain ⟨m11, hL11, hle11, hsl11⟩ := Loc.show1 (A := []) hL10 1
  have hr5 := Sl.range ((hsl9.le hle10).le hle11)
  have hc5 := (((hsl9.le hle10).le hle11).cell (j := 1) rfl)
  have hc6 := (((hsl9.le hle10).le hle11).cell (j := 3) rfl)
  have hc9 := (((hsl9.le hle10).le hle11).cell (j := 4) rfl)
  have hc7 := ((hsl10.le hle11).cell (j := 0) rfl)
  have hc8 := (hsl11.cell (j := 0) rfl)
  clear hL hL9 hL10 hsl9 hsl10 hsl11 hle9 hle10 hle11 e5 e7 e8
  have hL := hL11
  clear hL11
  have hX11 := hL.mext
  generalize w.heap.size = b5 at *
  generalize W5.heap.size = b7 at *
  generalize W7.heap.size = b8 at *
  go_wp2_with (first | ((with_reducible refine kAny ?_); go_skip) | (with_reducible refine stA ?_) | ((first | refine tIx ?_ | refine tFd ?_ | refine tLd ?_ | ((first | refine tSr ?_ | refine tSt ?_); clear hL; intro _ hL; simp only [splice, zq1, zq2, zq3] at hL) | ((first | refine tBx ?_ | refine tAl ?_); clear hL; intro _ _ hL _) | (refine tBs ?_; clear hL; intro _ _ hL _ hBs)); simp only [Act.put, zq1, zq2, zq3]))
  refine (KV.out _ _ hL.vw leX).mono ?_
  rintro e Wc1 ⟨_, mc1, rfl, hE, hMc1, hV, rfl⟩
  replace hL := hL.call hE (by assumption) hV; clear hE hV
  go_wp2_with (first | ((with_reducible refine kAny ?_); go_skip) | (with_reducible refine stA ?_) | ((first | refine tIx ?_ | refine tFd ?_ | refine tLd ?_ | ((first | refine tSr ?_ | refine tSt ?_); clear hL; intro _ hL; simp only [splice, zq1, zq2, zq3] at hL) | ((first | refine tBx ?_ | refine tAl ?_); clear hL; intro _ _ hL _) | (refine tBs ?_; clear hL; intro _ _ hL _ hBs)); simp only [Act.put, zq1, zq2, zq3]))
  refine (KG.out _ _ hL.vw leX).mono ?_
  rintro e Wg ⟨vg, mg, Rg, ng, rfl, hLg, rowg⟩
  have hXg := hLg.mext
  have hJ := hL.join hLg
  rw [List.append_nil] at hJ
  obtain ⟨Ag, cg, rfl, rowg1⟩ := rowg.lit
  have hng : ng ≤ 6 := by have := rowg1.len; have := HGL.out; omega
  have HROW := Lib.hid rowg1
  clear hL hLg rowg rowg1
  have hL := hJ
  clear hJ KG KV
  go_wp2_with (first | ((with_reducible refine kAny ?_); go_skip) | (with_reducible refine stA ?_) | ((first | refine tIx ?_ | refine tFd ?_ | refine tLd ?_ | ((first | refine tSr ?_ | refine tSt ?_); clear hL; intro _ hL; simp only [splice, zq1, zq2, zq3] at hL) | ((first | refine tBx ?_ | refine tAl ?_); clear hL; intro _ _ hL _) | (refine tBs ?_; clear hL; intro _ _ hL _ hBs)); simp only [Act.put, zq1, zq2, zq3]))
  have hP := hL.perm (List.perm_append_singleton _ _).symm
  refine (u_scale (A := [_]) hP (RowA.le GrpR.mono HROW.out leX) (by omega) HGT.out).mono ?_
  rintro e Ws ⟨m12, Rs, rfl, hLs, hXs, rows⟩
  have hP2 := hLs.perm (List.perm_append_singleton _ _)
  obtain ⟨m13, hL13, hle13, hgl, -⟩ := RowA.show (A := [_]) GrpR.mono hP2 rows
  have HGLS := Lib.hid hgl
  clear hL hP hLs hP2 rows HROW HGT
  have hL := hL13
  have HLE13 : Hid (Le m11 m13) := (leX : Le m11 m12).trans hle13
  clear hL13 hle13 hXs hXg hgl
  replace hr5 := rangeAt_le hr5 HLE13.out
  replace hc5 := HLE13.out.cell _ _ hc5
  replace hc6 := HLE13.out.cell _ _ hc6
  replace hc9 := HLE13.out.cell _ _ hc9
  replace hc7 := HLE13.out.cell _ _ hc7
  replace hc8 := HLE13.out.cell _ _ hc8
  generalize hcm : cmF (grpF ms.rows ms.cols us) = cm at *
  generalize hls : (grpF ms.rows ms.cols us).map (scF cm) = ls at *
  clear hcm hls
  go_upto_region 10 with ((first | ((with_reducible refine kAny ?_); go_skip) | (with_reducible refine stA ?_) | ((first | refine tIx ?_ | refine tFd ?_ | refine tLd ?_ | ((first | refine tSr ?_ | refine tSt ?_); clear hL; intro _ hL; simp only [splice, zq1, zq2, zq3] at hL) | ((first | refine tBx ?_ | refine tAl ?_); clear hL; intro _ _ hL _) | (refine tBs ?_; clear hL; intro _ _ hL _ hBs)); simp only [Act.put, zq1, zq2, zq3])))
  obtain ⟨w16, rfl⟩ := hL.world
  obtain ⟨m14, hL14, hle14, hs14⟩ := Loc.show1 (A := [_, _]) hL 1
  obtain ⟨m15, hL15, hle15, hs15⟩ := Loc.show1 (A := [_]) hL14 1
  obtain ⟨m16, hL16, hle16, hs16⟩ := Loc.show1 (A := []) hL15 1
  have hc13 := ((hs14.le hle15).le hle16).cell (j := 0) rfl
  have hc14 := (hs15.le hle16).cell (j := 0) rfl
  have hc15 := hs16.cell (j := 0) rfl
  have HLE16 : Hid (Le m13 m16) := Le.trans leX (hle14.trans (hle15.trans hle16))
  clear hL hL14 hL15 hle14 hle15 hle16 hs14 hs15 hs16
  have hL := hL16
  clear hL16
  replace hr5 := rangeAt_le hr5 HLE16.out
  replace hc5 := HLE16.out.cell _ _ hc5
  replace hc6 := HLE16.out.cell _ _ hc6
  replace hc9 := HLE16.out.cell _ _ hc9
  replace hc7 := HLE16.out.cell _ _ hc7
  replace hc8 := HLE16.out.cell _ _ hc8
  have HGL16 := Lib.hid (ListV.le GrpR.mono HGLS.out HLE16.out)
  have HLE0 : Hid (Le m m16) := hL.mext.le
  go_wp2_with (first | ((with_reducible refine kAny ?_); go_skip) | (with_reducible refine stA ?_) | ((first | refine tIx ?_ | refine tFd ?_ | refine tLd ?_ | ((first | refine tSr ?_ | refine tSt ?_); clear hL; intro _ hL; simp only [splice, zq1, zq2, zq3] at hL) | ((first | refine tBx ?_ | refine tAl ?_); clear hL; intro _ _ hL _) | (refine tBs ?_; clear hL; intro _ _ hL _ hBs)); simp only [Act.put, zq1, zq2, zq3]))
  refine (u_subsets (nr : Int) (sz : Int) _ _ hL.vw).mono ?_
  rintro e W3 ⟨_, m3, rfl, hE, hM3, hV, bs, bn, rfl, hbs, hbn⟩
  replace hL := hL.call hE (by assumption) hV; clear hE hV
  go_wp2_with (first | ((with_reducible refine kAny ?_); go_skip) | (with_reducible refine stA ?_) | ((first | refine tIx ?_ | refine tFd ?_ | refine tLd ?_ | ((first | refine tSr ?_ | refine tSt ?_); clear hL; intro _ hL; simp only [splice, zq1, zq2, zq3] at hL) | ((first | refine tBx ?_ | refine tAl ?_); clear hL; intro _ _ hL _) | (refine tBs ?_; clear hL; intro _ _ hL _ hBs)); simp only [Act.put, zq1, zq2, zq3]))
  have hlow : w.heap.size ≤ W3.heap.size := hL.ext.size
  have HLE3 : Hid (Le m16 m3) := leX
  replace hc5 := HLE3.out.cell _ _ hc5
  replace hc9 := HLE3.out.cell _ _ hc9
  replace hc7 := HLE3.out.cell _ _ hc7
  replace hc8 := HLE3.out.cell _ _ hc8
  replace hc13 := HLE3.out.cell _ _ hc13
  replace hc14 := HLE3.out.cell _ _ hc14
  replace hc15 := HLE3.out.cell _ _ hc15
  have HRO3 := Lib.hid (IntL.le HRO.out (HLE0.out.trans HLE3.out))
  have HCU3 := Lib.hid (CutL.le HCU.out (HLE0.out.trans HLE3.out))
  have HGL3 := Lib.hid (ListV.le GrpR.mono HGL16.out HLE3.out)
  generalize w16.heap.size = b16 at *
  refine wp_rangeF (n := 0) (gf := 160) rfl (fun args w => enter_subs args w) rfl
    (fun k v W => ∃ s g, (subsF nr sz)[k]? = some s ∧ v = .slice (some ⟨g, 0, none⟩) sz sz ∧ SepE w m m3 g b16 s (fndT ms us sz d k) W)
    (fun k v W => ∃ s g, (subsF nr sz)[k]? = some s ∧ v = .slice (some ⟨g, 0, none⟩) sz sz ∧ SepE w m m3 g b16 s (fndT ms us sz d (k + 1)) W)
    (fun W => ∃ m', Loc w m W m' [(b16, 121, #[.slice none 0 0])] ∧ Ext m3 m')
    (SepO w m m3 b16 (fndF ms us sz d)) ?_ ?_ ?_ ?_ ?_ ?_ ?_
  · rintro k v W b o o' ⟨s, g, hk, hv, h⟩ hb ho hn
    exact ⟨s, g, hk, hv, h.putObj o' ho (Nat.le_trans hlow hb) hn⟩
  · rintro k v W b o o' ⟨s, g, hk, hv, h⟩ hb ho hn
    exact ⟨s, g, hk, hv, h.putObj o' ho (Nat.le_trans hlow hb) hn⟩
  · exact fun W b o o' h hb ho hn => h.putObj o' ho (Nat.le_trans hlow hb) hn
  · intro o o'
    obtain ⟨m1, h1, e1⟩ := hL.allocO o
    obtain ⟨m2, h2, e2⟩ := h1.allocO o'
    exact ⟨m2, h2, e1.trans e2⟩
  · intro l R hR hy W1 hS1 hR1
    obtain ⟨m1, hL1, hX1⟩ := hS1
    have ez : (#[Value.func (.yield l) #[] #[]] ++ #[Value.pointer (some ⟨bs, 0, none⟩), .pointer (some ⟨bn, 0, none⟩)] : Array Value) = #[.func (.yield l) #[] #[], .pointer (some ⟨bs, 0, none⟩), .pointer (some ⟨bn, 0, none⟩)] := rfl
    rw [ez]
    refine (it_one (nr := 0) (l := l) (n := nr) (size := sz) (bs := bs) (bn := bn) SO.out hns hnr5 hs3 hs5 (fun k m' Ls => ∃ fd Rf n, Ls = (b16, 121, #[fd]) :: Rf ∧ Ext m3 m' ∧ RowA 128 6 CanR m' fd n (fndT ms us sz d k) Rf ∧ (n = 0 → fd = .slice none 0 0)) R ?_ hR ?_ ?_ hL1 ⟨_, [], 0, rfl, hX1, RowA.nil, fun _ => rfl⟩ hR1).mono ?_
    · rintro k m' m'' Ls ⟨fd, Rf, n, rfl, hX, row, h0⟩ hX'
      exact ⟨fd, Rf, n, rfl, hX.trans hX', RowA.le CanR.mono row hX'.le, h0⟩
    · rintro k m' Ls ⟨fd, Rf, n, -, hX, -, -⟩
      exact ⟨hX.le.cell _ _ hbs, hX.le.cell _ _ hbn⟩
    · rintro k s g W m' Ls hk hL' ⟨fd, Rf, n, rfl, hX, row, h0⟩ hRW
      obtain ⟨fn, tmps, assign, body, hyl, hrd⟩ := hy k (.slice (some ⟨g, 0, none⟩) sz sz) W ⟨s, g, hk, rfl, m', fd, Rf, n, hL', hX, row, h0⟩ hRW
      refine ⟨fn, tmps, assign, body, hyl, hrd.mono ?_⟩
      rintro e W' ⟨rfl, ⟨s', g', hk', hv, m2, fd2, Rf2, n2, hL2, hX2, row2, h02⟩, hRW'⟩
      rw [hk] at hk'
      injection hk' with hk'
      subst hk'
      injection hv with hv
      injection hv with hv
      injection hv with hv
      subst hv
      exact ⟨rfl, m2, _, hL2, ⟨fd2, Rf2, n2, rfl, hX2, row2, h02⟩, hRW'⟩
    · rintro e W' ⟨hv, m', Ls', hL', ⟨fd, Rf, n, rfl, hX, row, h0⟩, hR'⟩
      refine ⟨hv, ⟨m', fd, Rf, n, hL', hX, ?_, h0⟩, hR'⟩
      rw [HNR.out] at row
      exact row
  · intro l k v W
    simp only [zq1, zq2, zq3]
    refine wpIn_lit (fun _ _ h => h) rfl ?_
    go_wp2_with (first | ((with_reducible refine kAny ?_); go_skip) | (with_reducible refine stA ?_) | ((first | refine tIx ?_ | refine tFd ?_ | refine tLd ?_ | ((first | refine tSr ?_ | refine tSt ?_); clear hL; intro _ hL; simp only [splice, zq1, zq2, zq3] at hL) | ((first | refine tBx ?_ | refine tAl ?_); clear hL; intro _ _ hL _) | (refine tBs ?_; clear hL; intro _ _ hL _ hBs)); simp only [Act.put, zq1, zq2, zq3]))
    refine And.intro (by trivial) ?_
    rintro W2 ⟨s, g, hk, rfl, mm, fd, Rf, n', hL2, hX2, row2, h02⟩
    have hsm := List.mem_of_getElem? hk
    have hn' : n' ≤ 1000 := by
      have h1 := row2.len
      have h2 := fndT_len ms us sz d k
      have h3 := SO.out.few
      have h4 := (List.getElem?_eq_some_iff.1 hk).1
      omega
    have hlt : ∀ i ∈ s, i < nr := SO.out.lt s hsm
    refine wpIn_mono (sep_round (n := 0) (ms := ms) (us := us) rfl hL2 row2 h02 hn' (hX2.le.cell _ _ hc5) (hX2.le.cell _ _ hc9) (hX2.le.cell _ _ hc7) (hX2.le.cell _ _ hc8) (hX2.le.cell _ _ hc13) (hX2.le.cell _ _ hc14) (hX2.le.cell _ _ hc15)
      (IntL.le HRO3.out hX2.le) (CutL.le HCU3.out hX2.le) (ListV.le GrpR.mono HGL3.out hX2.le) SG.out OK.out (SO.out.len s hsm) hlt HNR.out hnr5 hs3 hs5 hd2 hdz (cutS_ok OK.out.ms (SO.out.len s hsm) (SO.out.asc s hsm) (fun i hi => by have := hlt i hi; have := HNR.out; omega) hd2 hdz hs5)) ?_
    rintro e a W' h
    cases e with
    | normal =>
      obtain ⟨hs, m', fd', Rf', n2, h1, h2, h3, h4⟩ := h
      refine And.intro hs ⟨s, g, hk, rfl, m', fd', Rf', n2, h1, hX2.trans h2, ?_, h4⟩
      rw [HNR.out] at hk
      rw [fndT_step hk]
      exact h3
    | ret => exact h.elim
    | exit id => exact h.elim
    | goto t => exact h.elim
    | panic ch => exact h.elim
    | outgrown => exact h.elim
  · intro D W hD hE hK
    obtain ⟨m', fd, Rf, n', hL', hX', row, h0⟩ := hE
    have hn1 : n' ≤ 1 := by
      have h1 := row.len
      have h2 := fndT_len ms us sz d (subsF ms.rows.length sz).length
      have h3 := subs_le1 hns hs3 hs5
      rw [HNR.out] at h3
      have h4 : (fndF ms us sz d).length = (fndT ms us sz d (subsF ms.rows.length sz).length).length := rfl
      omega
    have HSF : Hid (sepF ms us sz d most = (fndF ms us sz d).map Prod.fst) := by
      show _ = _
      unfold sepF
      have h1 := row.len
      rw [srtC_one (by omega), List.take_of_length_le (by rw [List.length_map]; omega)]
    generalize fndF ms us sz d = fs at *
    obtain ⟨A11, c11, rfl, row1⟩ := row.lit
    have ROW := Lib.hid row1
    clear hL row row1
    have hL := hL'
    clear hL'
    have HFN : Hid (fs.length = n') := ROW.out.len.symm
    have hmn : (n' : Int) ≤ (most : Int) := by omega
    have hnn : ∀ cs t fr, Obj.deferred (some []) ≠ .cells cs t fr := fun _ _ _ e => by cases e
    dsimp only
    go_wp2_with (first | ((with_reducible refine kAny ?_); go_skip) | (with_reducible refine stA ?_) | ((first | refine tIx ?_ | refine tFd ?_ | refine tLd ?_ | ((first | refine tSr ?_ | refine tSt ?_); clear hL; intro _ hL; simp only [splice, zq1, zq2, zq3] at hL) | ((first | refine tBx ?_ | refine tAl ?_); clear hL; intro _ _ hL _) | (refine tBs ?_; clear hL; intro _ _ hL _ hBs)); simp only [Act.put, zq1, zq2, zq3]))
    refine (s_Sort1 A11 n' c11 hn1 _ _ hL.vw).mono ?_
    rintro e W4 ⟨_, m4, rfl, hE, hM4, hV, -⟩
    have HK4 := Lib.hid (hE.still _ _ hK hnn)
    replace hL := hL.call hE (by assumption) hV; clear hE hV
    obtain ⟨m9, hL9, hle9, hl9, -⟩ := RowA.show (A := [_]) CanR.mono hL (RowA.le CanR.mono ROW.out leX)
    have HL9 := Lib.hid hl9
    have hcap : (n' : Int) ≤ (c11 : Int) := by
      obtain ⟨_, _, _, e, hc, _⟩ := hl9
      injection e with e1 e2 e3
      subst e2 e3
      omega
    have hmin : min (most : Int) (n' : Int) = (n' : Int) := by omega
    have hn0 : (0 : Int) ≤ (n' : Int) := by omega
    clear hL hle9 hl9 ROW hK
    have hL := hL9
    clear hL9
    go_wp2_with (first | ((with_reducible refine kAny ?_); go_skip) | (with_reducible refine stA ?_) | ((first | refine tIx ?_ | refine tFd ?_ | refine tLd ?_ | ((first | refine tSr ?_ | refine tSt ?_); clear hL; intro _ hL; simp only [splice, zq1, zq2, zq3] at hL) | ((first | refine tBx ?_ | refine tAl ?_); clear hL; intro _ _ hL _) | (refine tBs ?_; clear hL; intro _ _ hL _ hBs)); simp only [Act.put, zq1, zq2, zq3]))
    have HLK := Lib.hid hL
    replace hL := Loc.start hL.vw
    go_loopw [25, 132] (fun ov iv wr => ∃ (j : Nat) (mm : World) (Ro : List Lo), j ≤ n' ∧ iv = .int .i64 j ∧ Loc W4 m9 wr mm Ro ∧ Hid (RowA 34 2 CutR mm ov j ((fs.map Prod.fst).take j) Ro)) (fun _ iv _ => n' - (intOf iv).toNat)
    case atStart => exact ⟨0, _, [], Nat.zero_le _, rfl, hL, RowA.nil⟩
    case round =>
      clear hL
      obtain ⟨j, mm, Ro, hj, rfl, hL, RO⟩ := hrel
      have hM := hL.mext
      obtain ⟨A12, c12, rfl, ro1⟩ := RO.out.lit
      have RO1 := Lib.hid ro1
      clear RO ro1
      by_cases hlt : j < n'
      · have hlt' : (j : Int) < (n' : Int) := by omega
        obtain ⟨x, hx⟩ := at_some HFN hlt
        have hl9 := HL9.out
        obtain ⟨b0, o0, R0, a0, e0, d0, g0, A0, k0, q0, f0, B0, p0, s0, rfl, hcu0, hr0⟩ := CanL.at_ hl9 hx
        have HCU0 := Lib.hid hcu0
        have HT : Hid ((fs.map Prod.fst).take j ++ [x.1] = (fs.map Prod.fst).take (j + 1)) := by
          show _ = _
          exact take_snoc (by rw [List.getElem?_map, hx]; rfl)
        clear hx hl9 hcu0
        go_wp2_with (first | ((with_reducible refine kAny ?_); go_skip) | (with_reducible refine stA ?_) | ((first | refine tIx ?_ | refine tFd ?_ | refine tLd ?_ | ((first | refine tSr ?_ | refine tSt ?_); clear hL; intro _ hL; simp only [splice, zq1, zq2, zq3] at hL) | ((first | refine tBx ?_ | refine tAl ?_); clear hL; intro _ _ hL _) | (refine tBs ?_; clear hL; intro _ _ hL _ hBs)); simp only [Act.put, zq1, zq2, zq3]))
        refine goA ?_
        obtain ⟨vs7, r7, z7, y7, l7⟩ := RO1.out
        refine wl_append (A := [_]) hL r7 (wanted_none rfl) rfl ap_Cuts (by omega) rfl rfl (news := [.slice R0 a0 e0, .int .i64 d0]) rfl ((Blk.sl hBs (n := 2) rfl).le hL.vw.le) rfl (by omega) (by omega) ?_
        clear hL
        intro v1 W5 m5 R5 hL r8 e8
        obtain ⟨A13, c13, rfl, -⟩ := r8.lit
        simp only [List.cons_append, List.nil_append] at hL
        have rd := RowA.snoc (R := CutR) (m := m5) (x := x.1) r8 z7 (y7.mono fun v x hv => hv.le leX) l7 rfl (HCU0.out.le leX)
        rw [HT.out] at rd
        have RD := Lib.hid rd
        clear rd r8 r7 z7 y7 l7
        simp only [Act.put, zq1, zq2, zq3]
        go_wp2_with (first | ((with_reducible refine kAny ?_); go_skip) | (with_reducible refine stA ?_) | ((first | refine tIx ?_ | refine tFd ?_ | refine tLd ?_ | ((first | refine tSr ?_ | refine tSt ?_); clear hL; intro _ hL; simp only [splice, zq1, zq2, zq3] at hL) | ((first | refine tBx ?_ | refine tAl ?_); clear hL; intro _ _ hL _) | (refine tBs ?_; clear hL; intro _ _ hL _ hBs)); simp only [Act.put, zq1, zq2, zq3]))
        go_roundw
        case rel => exact ⟨j + 1, m5, R5, by omega, by go_num, hL.tail, RD.out⟩
        case measure => simp [intOf] <;> omega
      · have hjn : n' = j := by omega
        subst hjn
        have h9 : (n' : Int) ≤ (n' : Int) := Int.le_refl _
        obtain ⟨m8, hL8, hle8, hl8, -⟩ := RowA.show (A := []) (R := CutR) (fun m m' v x h hb => CutR.le h hb) hL RO1.out
        rw [List.take_of_length_le (by rw [List.length_map, HFN.out]; exact Nat.le_refl _)] at hl8
        have HL8 := Lib.hid hl8
        clear hL RO1 hle8 hl8
        have hL := hL8
        clear hL8
        go_wp2_with (first | ((with_reducible refine kAny ?_); go_skip) | (with_reducible refine stA ?_) | ((first | refine tIx ?_ | refine tFd ?_ | refine tLd ?_ | ((first | refine tSr ?_ | refine tSt ?_); clear hL; intro _ hL; simp only [splice, zq1, zq2, zq3] at hL) | ((first | refine tBx ?_ | refine tAl ?_); clear hL; intro _ _ hL _) | (refine tBs ?_; clear hL; intro _ _ hL _ hBs)); simp only [Act.put, zq1, zq2, zq3]))
        have hKf := hL.ext.still _ _ HK4.out hnn
        obtain ⟨m7, hL7, hX7⟩ := (HLK.out.join hL).putObj (.deferred none) hKf (Nat.le_trans hlow hD) (fun cs t fr e => by rw [hKf] at e; cases e)
        refine And.intro (by simp) (Or.inl ⟨_, _, rfl, run_takeDeferred hKf, ?_⟩)
        exact ⟨_, results_tmp2 rfl _ _ _, RetV.mk hL7 ⟨_, rfl, by rw [HSF.out]; exact CutL.le HL8.out leX⟩⟩
end Go.Proofs.YtmhkmmmompediaaGreat

/- Contract of pairinglaw29.known. -/
namespace Go.Proofs.YtmhkmmmompediaaGreat
open Go.RowKit

def SepP (m : World) (v : Value) : Prop := ∃ x, v = .tuple #[x, .int .i64 0] ∧ CutL m x [([0, 1, 2], 2)]
theorem SepP.le {m m' : World} {v : Value} (h : SepP m v) (hb : Le m m') : SepP m' v := by
  obtain ⟨x, e, h⟩ := h
  exact ⟨x, e, CutL.le h hb⟩
theorem kn_take {j : Nat} (h : j < 3) : knM.cols.take j ++ [knC (j : Int) (((j : Int) + 1) % 3)] = knM.cols.take (j + 1) := by
  have : j = 0 ∨ j = 1 ∨ j = 2 := by omega
  rcases this with rfl | rfl | rfl <;> rfl
theorem kn_Sep (mv vv : Value) (w m : World) (hV : Vw m w) (hm : MasterR m mv knM) (hv : FracL m vv knU) :
    Calls Tryz.prog 39 #[mv, vv, .int .i64 3, .int .i64 2, .int .i64 10] w (RetV w m SepP) := by
  have h := u_SepOne mv vv knM knU 3 2 10 w m hV hm hv knV_ok (by decide) (by decide) (by decide) (by decide) (by decide) (by decide) (by decide) (by decide) (by decide)
  rw [kn_sep] at h
  exact h
theorem kn_Vio (mv xv vv : Value) (w m : World) (hV : Vw m w) (hm : MasterR m mv knM) (hx : CutR m xv ([0, 1, 2], 2)) (hv : FracL m vv knU) :
    Calls Tryz.prog 37 #[mv, xv, vv] w (RetV w m fun m' r => BvR m' r halfR.num halfR.den 0) := by
  have h := u_Violation_ok mv xv knM ([0, 1, 2], 2) vv knU w m hV hm hx hv knV_ok kn_cut
  rw [kn_vio] at h
  exact h
theorem kn_Right (xv : Value) (w m : World) (hV : Vw m w) (hx : CutR m xv ([0, 1, 2], 2)) : Calls Tryz.prog 35 #[xv] w (RetV w m fun _ r => r = .int .i64 1) :=
  u_RightSide xv ([0, 1, 2], 2) w m hV hx (by decide)

set_option maxRecDepth 100000 in
set_option maxHeartbeats 32000000 in
theorem kc_known (w m : World) (hV : Vw m w) : Calls Tryz.prog 32 #[] w (RetV w m fun _ r => r = .bool true) := by
  have hL := Loc.start hV
  clear hV
  go_enter Tryz.func32, Tryz.ntmps32
  go_upto_region 1 with ((first | ((with_reducible refine kAny ?_); go_skip) | (with_reducible refine stA ?_) | ((first | refine tIx ?_ | refine tFd ?_ | refine tLd ?_ | ((first | refine tSr ?_ | refine tSt ?_); clear hL; intro _ hL; simp only [splice, zq1, zq2, zq3] at hL) | (refine tAl ?_; clear hL; intro _ _ hL _) | (refine tBs ?_; clear hL; intro _ _ hL _ hBs)); simp only [Act.put, zq1, zq2, zq3])))
  go_upto_region 2 with ((first | (refine wl_bslice hL (wanted_none rfl) rfl (n := 3) (cs := #[.int .i64 0, .int .i64 1, .int .i64 2]) (e := 3) (fun w => by go_simp) ?_; clear hL; intro Wb mb hL eb hbb; simp only [Act.put, zq1, zq2, zq3]) | (first | ((with_reducible refine kAny ?_); go_skip) | (with_reducible refine stA ?_) | ((first | refine tIx ?_ | refine tFd ?_ | refine tLd ?_ | ((first | refine tSr ?_ | refine tSt ?_); clear hL; intro _ hL; simp only [splice, zq1, zq2, zq3] at hL) | (refine tAl ?_; clear hL; intro _ _ hL _) | (refine tBs ?_; clear hL; intro _ _ hL _ hBs)); simp only [Act.put, zq1, zq2, zq3]))))
  have HR : Hid (IntL mb (.slice (some ⟨w.heap.size, 0, none⟩) 3 3) [0, 1, 2]) := ListV.mk (vs := [.int .i64 0, .int .i64 1, .int .i64 2]) (by omega) rfl (fun u hu => by simp at hu; rcases hu with rfl | rfl | rfl <;> rfl) (Blk.sl hbb (n := 3) rfl) ⟨rfl, rfl, rfl, trivial⟩
  clear hbb
  go_wp2_with (first | ((with_reducible refine kAny ?_); go_skip) | (with_reducible refine stA ?_) | ((first | refine tIx ?_ | refine tFd ?_ | refine tLd ?_ | ((first | refine tSr ?_ | refine tSt ?_); clear hL; intro _ hL; simp only [splice, zq1, zq2, zq3] at hL) | (refine tAl ?_; clear hL; intro _ _ hL _) | (refine tBs ?_; clear hL; intro _ _ hL _ hBs)); simp only [Act.put, zq1, zq2, zq3]))
  go_loopw [2] (fun i wr => ∃ (j : Nat) (mm : World) (A7 : Option Addr) (c7 : Nat) (Rr : List Lo), j ≤ 3 ∧ i = .int .i64 (j : Int) ∧ Loc w m wr mm ((Wb.heap.size, 26, #[.int .i64 3, .slice (some ⟨w.heap.size, 0, none⟩) 3 3, .int .i64 10, .slice A7 j c7, .slice none 0 0]) :: Rr) ∧ Hid (RowA 72 3 ColR mm (.slice A7 j c7) j (knM.cols.take j) Rr) ∧ Hid (Ext mb mm)) (fun i _ => 3 - (intOf i).toNat)
  case atStart => exact ⟨0, _, none, 0, [], Nat.zero_le _, rfl, hL, RowA.nil, exX⟩
  case round =>
    have HMB := Lib.hid hL.mext
    clear hL
    obtain ⟨j, mm, A7, c7, Rr, hj, rfl, hL, ROW, HX⟩ := hrel
    have hX := HX.out
    by_cases hlt : j < 3
    · have hj3 : (j : Int) < 3 := by omega
      have HCJ := Lib.hid (kn_take hlt)
      go_wp2_with (first | (with_reducible refine stB ?_) | (first | ((with_reducible refine kAny ?_); go_skip) | (with_reducible refine stA ?_) | ((first | refine tIx ?_ | refine tFd ?_ | refine tLd ?_ | ((first | refine tSr ?_ | refine tSt ?_); clear hL; intro _ hL; simp only [splice, zq1, zq2, zq3] at hL) | (refine tAl ?_; clear hL; intro _ _ hL _) | (refine tBs ?_; clear hL; intro _ _ hL _ hBs)); simp only [Act.put, zq1, zq2, zq3])))
      refine goA ?_
      obtain ⟨wA, rfl⟩ := hL.world
      refine wl_bslice hL (wanted_none rfl) rfl (n := 2) (cs := #[.int .i64 (j : Int), .bool false, .int .i64 (((j : Int) + 1) % 3), .bool false]) (e := 111) (fun w => by go_simp) ?_
      clear hL
      intro W26 m26 hL e26 hb26
      simp only [Act.put, zq1, zq2, zq3]
      refine wl_bslice hL (wanted_none rfl) rfl (n := 1) (cs := #[.slice (some ⟨wA.heap.size, 0, none⟩) 2 2]) (e := 113) (fun w => by go_simp) ?_
      clear hL
      intro W27 m27 hL e27 hb27
      simp only [Act.put, zq1, zq2, zq3]
      have HDU : Hid (ColR m27 (.agg #[.string ⟨#[]⟩, .slice (some ⟨W26.heap.size, 0, none⟩) 1 1, .int .i64 0]) (knC (j : Int) (((j : Int) + 1) % 3))) := by
        refine ⟨_, rfl, ListV.mk (vs := [.slice (some ⟨wA.heap.size, 0, none⟩) 2 2]) (by omega) rfl (fun u hu => by simp at hu; rcases hu with rfl; rfl) (Blk.sl hb27 (n := 1) rfl) ⟨?_, trivial⟩⟩
        exact DutL.le (ListV.mk (vs := [.agg #[.int .i64 (j : Int), .bool false], .agg #[.int .i64 (((j : Int) + 1) % 3), .bool false]]) (by omega) rfl (fun u hu => by simp at hu; rcases hu with rfl | rfl <;> rfl) (Blk.sl hb26 (n := 4) rfl) ⟨rfl, rfl, trivial⟩) e27.le
      clear hb26 hb27
      go_wp2_with (first | ((with_reducible refine kAny ?_); go_skip) | (with_reducible refine stA ?_) | ((first | refine tIx ?_ | refine tFd ?_ | refine tLd ?_ | ((first | refine tSr ?_ | refine tSt ?_); clear hL; intro _ hL; simp only [splice, zq1, zq2, zq3] at hL) | (refine tAl ?_; clear hL; intro _ _ hL _) | (refine tBs ?_; clear hL; intro _ _ hL _ hBs)); simp only [Act.put, zq1, zq2, zq3]))
      refine goA ?_
      obtain ⟨vs7, r7, z7, y7, l7⟩ := ROW.out
      refine wl_append (A := [_]) hL r7 (wanted_none rfl) rfl ap_Cols (by omega) rfl rfl (news := [.string ⟨#[]⟩, .slice (some ⟨W26.heap.size, 0, none⟩) 1 1, .int .i64 0]) rfl ((Blk.sl hBs (n := 3) rfl).le hL.vw.le) rfl (by omega) (by omega) ?_
      clear hL
      intro v1 W5 m5 R5 hL r8 e8
      obtain ⟨A9, c9, rfl, -⟩ := r8.lit
      simp only [List.cons_append, List.nil_append] at hL
      have rd := RowA.snoc (R := ColR) (m := m5) (x := knC (j : Int) (((j : Int) + 1) % 3)) r8 z7 (y7.mono fun v x hv => ColR.mono _ _ _ _ hv leX) l7 rfl (ColR.mono _ _ _ _ HDU.out leX)
      rw [HCJ.out] at rd
      have RD := Lib.hid rd
      clear rd r8 r7 z7 y7 l7
      simp only [Act.put, zq1, zq2, zq3]
      go_wp2_with (first | ((with_reducible refine kAny ?_); go_skip) | (with_reducible refine stA ?_) | ((first | refine tIx ?_ | refine tFd ?_ | refine tLd ?_ | ((first | refine tSr ?_ | refine tSt ?_); clear hL; intro _ hL; simp only [splice, zq1, zq2, zq3] at hL) | (refine tAl ?_; clear hL; intro _ _ hL _) | (refine tBs ?_; clear hL; intro _ _ hL _ hBs)); simp only [Act.put, zq1, zq2, zq3]))
      go_roundw
      case rel => exact ⟨j + 1, _, A9, c9, R5, by omega, by go_num, hL, RD.out, exX⟩
      case measure => simp [intOf] <;> omega
    · obtain rfl : j = 3 := by omega
      have hj3 : ¬ ((3 : Nat) : Int) < 3 := by decide
      obtain ⟨m9, hL9, hle9, hl9, -⟩ := RowA.show (A := [_]) ColR.mono hL ROW.out
      have HMS : Hid (MasterR m9 (.agg #[.int .i64 3, .slice (some ⟨w.heap.size, 0, none⟩) 3 3, .int .i64 10, .slice A7 3 c7, .slice none 0 0]) knM) := ⟨_, _, _, rfl, IntL.le HR.out (Le.trans leX hle9), hl9, ListV.nil⟩
      have KS : Hid (∀ u m' vv, Vw m' u → Le m9 m' → FracL m' vv knU → Calls Tryz.prog 39 #[.agg #[.int .i64 3, .slice (some ⟨w.heap.size, 0, none⟩) 3 3, .int .i64 10, .slice A7 3 c7, .slice none 0 0], vv, .int .i64 3, .int .i64 2, .int .i64 10] u (RetV u m' SepP)) := by
        show ∀ u m' vv, _
        exact fun u m' vv hV hle hv => kn_Sep _ _ u m' hV (HMS.out.le hle) hv
      have KW : Hid (∀ u m' xv vv, Vw m' u → Le m9 m' → CutR m' xv ([0, 1, 2], 2) → FracL m' vv knU → Calls Tryz.prog 37 #[.agg #[.int .i64 3, .slice (some ⟨w.heap.size, 0, none⟩) 3 3, .int .i64 10, .slice A7 3 c7, .slice none 0 0], xv, vv] u (RetV u m' fun m'' r => BvR m'' r halfR.num halfR.den 0)) := by
        show ∀ u m' xv vv, _
        exact fun u m' xv vv hV hle hx hv => kn_Vio _ _ _ u m' hV (HMS.out.le hle) hx hv
      clear hL ROW
      have hL := hL9
      clear hL9 hl9
      go_upto_region 6 with ((first | ((with_reducible refine kAny ?_); go_skip) | (with_reducible refine stA ?_) | ((first | refine tIx ?_ | refine tFd ?_ | refine tLd ?_ | ((first | refine tSr ?_ | refine tSt ?_); clear hL; intro _ hL; simp only [splice, zq1, zq2, zq3] at hL) | (refine tAl ?_; clear hL; intro _ _ hL _) | (refine tBs ?_; clear hL; intro _ _ hL _ hBs)); simp only [Act.put, zq1, zq2, zq3])))
      clear hj3 hlt hj hX
      generalize w.heap.size = b0 at *
      refine wp_region_by2 9 [false, false, false, false, false, false, false, false, false] [false, false, false, false, false, false, false, false, true] [(fun v _ _ => v = ?c6_0), Of (fun um v => FracC um v halfR), Of (fun um v => FracC um v halfR), Of (fun um v => FracC um v halfR), Of (fun um v => FracL um v knU), Of (fun um v => SepP um v), Of (fun um v => SepP um v), Of (fun um v => CutL um v [([0, 1, 2], 2)]), Is (.int .i64 0)] hL.vw mixed [29, 30, 31, 32, 33, 34, 28, 35, 36] _ (by kernel_rfl) (fun vs => by simp only [lay, Act.put, zq1, zq2, zq3]; rfl) (by kernel_rfl) (by decide) (by decide) ?s6 ?l6 ?r6
      case s6 =>
        refine ⟨?_, ?_, ?_, ?_, ?_, ?_, ?_, ?_, ?_, trivial⟩
        · intro vs W1 m1 hE hM hV hD; clear hD; replace hL := hL.call hE hM hV
          exact sLd
        · intro vs W1 m1 hE hM hV hD; clear hD
          go_wp2_with fail
          refine (k_half _ _ hV).mono ?_
          rintro e W2 ⟨v, m2, rfl, hE2, hM2, hV2, h⟩
          go_wp2_with fail
          refine One2.call hE2 hM2 hV2 ?_; first | exact h | exact rfl
        · intro vs W1 m1 hE hM hV hD; clear hD
          go_wp2_with fail
          refine (k_half _ _ hV).mono ?_
          rintro e W2 ⟨v, m2, rfl, hE2, hM2, hV2, h⟩
          go_wp2_with fail
          refine One2.call hE2 hM2 hV2 ?_; first | exact h | exact rfl
        · intro vs W1 m1 hE hM hV hD; clear hD
          go_wp2_with fail
          refine (k_half _ _ hV).mono ?_
          rintro e W2 ⟨v, m2, rfl, hE2, hM2, hV2, h⟩
          go_wp2_with fail
          refine One2.call hE2 hM2 hV2 ?_; first | exact h | exact rfl
        · intro vs W1 m1 hE hM hV hD; obtain ⟨⟨_, _, -, i30, f30⟩, ⟨_, _, -, i31, f31⟩, ⟨_, _, -, i32, f32⟩, -⟩ := hD; have f30 : FracC _ (vs 30) halfR := f30; replace f30 := f30.le i30.le; clear i30; have f31 : FracC _ (vs 31) halfR := f31; replace f31 := f31.le i31.le; clear i31; have f32 : FracC _ (vs 32) halfR := f32; replace f32 := f32.le i32.le; clear i32
          (obtain ⟨g1, A1, n1, c1, h1, B1, k1, d1, e1, f30⟩ := f30.lit; generalize vs 30 = x30 at e1 ⊢; subst x30; obtain ⟨g2, A2, n2, c2, h2, B2, k2, d2, e2, f31⟩ := f31.lit; generalize vs 31 = x31 at e2 ⊢; subst x31; obtain ⟨g3, A3, n3, c3, h3, B3, k3, d3, e3, f32⟩ := f32.lit; generalize vs 32 = x32 at e3 ⊢; subst x32; go_wp2_with fail; refine one2_new hV fun m' hx hb => ?_; exact ListV.mk (vs := [.agg #[.bool g1, .slice A1 n1 c1, .bool h1, .slice B1 k1 d1], .agg #[.bool g2, .slice A2 n2 c2, .bool h2, .slice B2 k2 d2], .agg #[.bool g3, .slice A3 n3 c3, .bool h3, .slice B3 k3 d3]]) (by omega) rfl (fun u hu => by simp at hu; rcases hu with rfl | rfl | rfl <;> rfl) (Blk.sl hb (n := 12) rfl) ⟨f30.le hx.le, f31.le hx.le, f32.le hx.le, trivial⟩)
        · intro vs W1 m1 hE hM hV hD; obtain ⟨⟨_, _, -, -, f29⟩, ⟨_, _, -, i33, f33⟩, -, -⟩ := hD; have f29 : vs 29 = _ := f29; generalize vs 29 = x29 at f29 ⊢; subst x29; have f33 : FracL _ (vs 33) knU := f33; replace f33 := f33.le i33.le; clear i33
          go_wp2_with fail
          refine (KS.out _ _ _ hV leX f33).mono ?_
          rintro e W2 ⟨v, m2, rfl, hE2, hM2, hV2, h⟩
          go_wp2_with fail
          refine One2.call hE2 hM2 hV2 ?_; first | exact h | exact rfl
        · intro vs W1 m1 hE hM hV hD; obtain ⟨⟨_, _, -, i34, f34⟩, -⟩ := hD; have f34 : SepP _ (vs 34) := f34; replace f34 := f34.le i34.le; clear i34
          go_wp2_with fail
          refine One2.still hV ?_; exact f34
        · intro vs W1 m1 hE hM hV hD; obtain ⟨⟨_, _, -, i28, f28⟩, -⟩ := hD; have f28 : SepP _ (vs 28) := f28; replace f28 := f28.le i28.le; clear i28; obtain ⟨u0, e28, k⟩ := f28; generalize vs 28 = x28 at e28 ⊢; subst x28; replace hL := hL.call hE hM hV
          go_wp2_with (first | ((with_reducible refine kAny ?_); go_skip) | (with_reducible refine stA ?_) | ((first | refine tIx ?_ | refine tFd ?_ | refine tLd ?_ | ((first | refine tSr ?_ | refine tSt ?_); clear hL; intro _ hL; simp only [splice, zq1, zq2, zq3] at hL) | (refine tAl ?_; clear hL; intro _ _ hL _) | (refine tBs ?_; clear hL; intro _ _ hL _ hBs)); simp only [Act.put, zq1, zq2, zq3]))
          refine One2.still hV ?_; exact k
        · intro vs W1 m1 hE hM hV hD; obtain ⟨⟨_, _, -, i28, f28⟩, -, -⟩ := hD; have f28 : SepP _ (vs 28) := f28; replace f28 := f28.le i28.le; clear i28; obtain ⟨u0, e28, k⟩ := f28; generalize vs 28 = x28 at e28 ⊢; subst x28; replace hL := hL.call hE hM hV
          go_wp2_with (first | ((with_reducible refine kAny ?_); go_skip) | (with_reducible refine stA ?_) | ((first | refine tIx ?_ | refine tFd ?_ | refine tLd ?_ | ((first | refine tSr ?_ | refine tSt ?_); clear hL; intro _ hL; simp only [splice, zq1, zq2, zq3] at hL) | (refine tAl ?_; clear hL; intro _ _ hL _) | (refine tBs ?_; clear hL; intro _ _ hL _ hBs)); simp only [Act.put, zq1, zq2, zq3]))
          refine One2.still hV ?_; exact rfl
      case l6 =>
        refine ⟨fun h => (by cases h), fun h => (by cases h), fun h => (by cases h), fun h => (by cases h), fun h => (by cases h), fun h => (by cases h), fun h => (by cases h), fun h => (by cases h), fun _ => ?_, trivial⟩
        · intro vs W1 m1 hE hM hV hD; obtain ⟨⟨_, _, -, i28, f28⟩, -, -⟩ := hD; have f28 : SepP _ (vs 28) := f28; replace f28 := f28.le i28.le; clear i28; obtain ⟨u0, e28, k⟩ := f28; generalize vs 28 = x28 at e28 ⊢; subst x28
          exact ⟨_, Or.inl ⟨(by rfl), fun w => (by rfl)⟩, rfl⟩
      intro vs W1 m1 hE hM hV hF hD
      clear hD
      obtain ⟨-, ⟨_, _, -, i30, f30⟩, ⟨_, _, -, i31, f31⟩, ⟨_, _, -, i32, f32⟩, ⟨_, _, -, i33, f33⟩, ⟨_, _, -, i34, f34⟩, ⟨_, _, -, i28, f28⟩, ⟨_, _, -, i35, f35⟩, ⟨_, _, -, -, f36⟩, -⟩ := hF
      replace hL := hL.call hE hM hV
      replace f30 : FracC _ (vs 30) halfR := f30
      replace f30 := f30.le i30.le
      clear i30
      replace f31 : FracC _ (vs 31) halfR := f31
      replace f31 := f31.le i31.le
      clear i31
      replace f32 : FracC _ (vs 32) halfR := f32
      replace f32 := f32.le i32.le
      clear i32
      replace f33 : FracL _ (vs 33) knU := f33
      replace f33 := f33.le i33.le
      clear i33
      replace f34 : SepP _ (vs 34) := f34
      replace f34 := f34.le i34.le
      clear i34
      replace f28 : SepP _ (vs 28) := f28
      replace f28 := f28.le i28.le
      clear i28
      replace f35 : CutL _ (vs 35) [([0, 1, 2], 2)] := f35
      replace f35 := f35.le i35.le
      clear i35
      have f36 : vs 36 = _ := f36
      generalize vs 36 = x36 at f36 ⊢
      subst x36
      clear hE hV
      obtain ⟨L3, c3, e35, -, f35⟩ := f35.lit
      generalize vs 35 = x35 at e35 ⊢
      subst x35
      simp only [List.drop_succ_cons, List.drop_zero]
      go_wp2_with (first | ((with_reducible refine kAny ?_); go_skip) | (with_reducible refine stA ?_) | ((first | refine tIx ?_ | refine tFd ?_ | refine tLd ?_ | ((first | refine tSr ?_ | refine tSt ?_); clear hL; intro _ hL; simp only [splice, zq1, zq2, zq3] at hL) | (refine tAl ?_; clear hL; intro _ _ hL _) | (refine tBs ?_; clear hL; intro _ _ hL _ hBs)); simp only [Act.put, zq1, zq2, zq3]))
      refine QN.mk ?_
      have hcu := f35
      clear f28 f34 f33 f32 f31 f30 f35 KS
      obtain ⟨b3, o3, A1, c1, rfl, hi, -, -, hq0, hq1, hrg⟩ := CutL.at_ hcu (show [(([0, 1, 2] : List Int), (2 : Int))][0]? = some ([0, 1, 2], 2) from rfl)
      rw [Nat.zero_mul, Nat.add_zero] at hq0 hq1 hrg
      simp only [List.length_cons, List.length_nil, Nat.zero_add, Nat.reduceAdd] at hi hq0 hq1 hrg hcu ⊢
      have HI := Lib.hid hi
      have HXR : Hid (CutR _ (.agg #[.slice A1 3 c1, .int .i64 2]) ([0, 1, 2], 2)) := ⟨_, rfl, hi, by decide⟩
      have hf := FracC.refl_len ((half_tw.fit (by decide)).mono (by decide))
      have HF1 := Lib.hid hf.1
      have HF2 := Lib.hid hf.2
      clear hcu hi hf
      generalize hnn : halfR.num = hn at *
      generalize hdd : (halfR.den : Int) = hd at *
      have HNN := Lib.hid hnn
      have HDD := Lib.hid hdd
      clear hnn hdd
      go_upto_region 9 with ((first | ((with_reducible refine kAny ?_); go_skip) | (with_reducible refine stA ?_) | ((first | refine tIx ?_ | refine tFd ?_ | refine tLd ?_ | ((first | refine tSr ?_ | refine tSt ?_); clear hL; intro _ hL; simp only [splice, zq1, zq2, zq3] at hL) | (refine tAl ?_; clear hL; intro _ _ hL _) | (refine tBs ?_; clear hL; intro _ _ hL _ hBs)); simp only [Act.put, zq1, zq2, zq3])))
      obtain ⟨B, hB1, hB2, hB3⟩ := hL.bound
      refine wp_region_by2 13 [false, false, false, false, false, false, false, false, false, false, false, false, true] [false, false, false, false, false, false, false, false, false, false, false, true, false] [(fun v _ _ => v = ?c9_0), (fun v _ _ => v = ?c9_1), (fun v _ _ => v = ?c9_2), (fun v _ _ => v = ?c9_3), Of (fun um v => FracC um v halfR), Of (fun um v => FracC um v halfR), Of (fun um v => FracC um v halfR), Of (fun um v => FracL um v knU), Of (fun um v => BvR um v hn hd 0), Of (fun um v => BvR um v hn hd 0), Of (fun um v => FracP um v hn hd), Is (.int .i64 0), NewBlk B 39 #[.bool false, .slice none 0 0, .bool false, .slice none 0 0]] hL.vw mixed [45, 46, 47, 48, 49, 50, 51, 52, 53, 44, 54, 55, 5] _ (by kernel_rfl) (fun vs => by simp only [lay, Act.put, zq1, zq2, zq3]; rfl) (by kernel_rfl) (by decide) (by decide) ?s9 ?l9 ?r9
      case s9 =>
        refine ⟨?_, ?_, ?_, ?_, ?_, ?_, ?_, ?_, ?_, ?_, ?_, ?_, ?_, trivial⟩
        · intro vs W1 m1 hE hM hV hD; clear hD; replace hL := hL.call hE hM hV
          exact sLd
        · intro vs W1 m1 hE hM hV hD; clear hD; replace hL := hL.call hE hM hV
          exact sPu
        · intro vs W1 m1 hE hM hV hD; obtain ⟨⟨_, _, -, -, f46⟩, -⟩ := hD; have f46 : vs 46 = _ := f46; generalize vs 46 = x46 at f46 ⊢; subst x46; replace hL := hL.call hE hM hV
          exact sIz
        · intro vs W1 m1 hE hM hV hD; obtain ⟨⟨_, _, -, -, f47⟩, -⟩ := hD; have f47 : vs 47 = _ := f47; generalize vs 47 = x47 at f47 ⊢; subst x47; replace hL := hL.call hE hM hV
          exact sLd
        · intro vs W1 m1 hE hM hV hD; clear hD
          go_wp2_with fail
          refine (k_half _ _ hV).mono ?_
          rintro e W2 ⟨v, m2, rfl, hE2, hM2, hV2, h⟩
          go_wp2_with fail
          refine One2.call hE2 hM2 hV2 ?_; first | exact h | exact rfl
        · intro vs W1 m1 hE hM hV hD; clear hD
          go_wp2_with fail
          refine (k_half _ _ hV).mono ?_
          rintro e W2 ⟨v, m2, rfl, hE2, hM2, hV2, h⟩
          go_wp2_with fail
          refine One2.call hE2 hM2 hV2 ?_; first | exact h | exact rfl
        · intro vs W1 m1 hE hM hV hD; clear hD
          go_wp2_with fail
          refine (k_half _ _ hV).mono ?_
          rintro e W2 ⟨v, m2, rfl, hE2, hM2, hV2, h⟩
          go_wp2_with fail
          refine One2.call hE2 hM2 hV2 ?_; first | exact h | exact rfl
        · intro vs W1 m1 hE hM hV hD; obtain ⟨⟨_, _, -, i49, f49⟩, ⟨_, _, -, i50, f50⟩, ⟨_, _, -, i51, f51⟩, -⟩ := hD; have f49 : FracC _ (vs 49) halfR := f49; replace f49 := f49.le i49.le; clear i49; have f50 : FracC _ (vs 50) halfR := f50; replace f50 := f50.le i50.le; clear i50; have f51 : FracC _ (vs 51) halfR := f51; replace f51 := f51.le i51.le; clear i51
          (obtain ⟨g1, A1, n1, c1, h1, B1, k1, d1, e1, f49⟩ := f49.lit; generalize vs 49 = x49 at e1 ⊢; subst x49; obtain ⟨g2, A2, n2, c2, h2, B2, k2, d2, e2, f50⟩ := f50.lit; generalize vs 50 = x50 at e2 ⊢; subst x50; obtain ⟨g3, A3, n3, c3, h3, B3, k3, d3, e3, f51⟩ := f51.lit; generalize vs 51 = x51 at e3 ⊢; subst x51; go_wp2_with fail; refine one2_new hV fun m' hx hb => ?_; exact ListV.mk (vs := [.agg #[.bool g1, .slice A1 n1 c1, .bool h1, .slice B1 k1 d1], .agg #[.bool g2, .slice A2 n2 c2, .bool h2, .slice B2 k2 d2], .agg #[.bool g3, .slice A3 n3 c3, .bool h3, .slice B3 k3 d3]]) (by omega) rfl (fun u hu => by simp at hu; rcases hu with rfl | rfl | rfl <;> rfl) (Blk.sl hb (n := 12) rfl) ⟨f49.le hx.le, f50.le hx.le, f51.le hx.le, trivial⟩)
        · intro vs W1 m1 hE hM hV hD; obtain ⟨⟨_, _, -, -, f45⟩, ⟨_, _, -, -, f48⟩, ⟨_, _, -, i52, f52⟩, -, -⟩ := hD; have f45 : vs 45 = _ := f45; generalize vs 45 = x45 at f45 ⊢; subst x45; have f48 : vs 48 = _ := f48; generalize vs 48 = x48 at f48 ⊢; subst x48; have f52 : FracL _ (vs 52) knU := f52; replace f52 := f52.le i52.le; clear i52
          go_wp2_with fail
          refine (KW.out _ _ _ _ hV leX (HXR.out.le leX) f52).mono ?_
          rintro e W2 ⟨v, m2, rfl, hE2, hM2, hV2, h⟩
          go_wp2_with fail
          refine One2.call hE2 hM2 hV2 ?_; first | exact h | exact rfl
        · intro vs W1 m1 hE hM hV hD; obtain ⟨⟨_, _, -, i53, f53⟩, -⟩ := hD; have f53 : BvR _ (vs 53) hn hd 0 := f53; replace f53 := f53.le i53.le; clear i53
          go_wp2_with fail
          refine One2.still hV ?_; exact f53
        · intro vs W1 m1 hE hM hV hD; obtain ⟨⟨_, _, -, i44, f44⟩, -⟩ := hD; have f44 : BvR _ (vs 44) hn hd 0 := f44; replace f44 := f44.le i44.le; clear i44; obtain ⟨u0, e44, k⟩ := f44; generalize vs 44 = x44 at e44 ⊢; subst x44; replace hL := hL.call hE hM hV
          go_wp2_with (first | ((with_reducible refine kAny ?_); go_skip) | (with_reducible refine stA ?_) | ((first | refine tIx ?_ | refine tFd ?_ | refine tLd ?_ | ((first | refine tSr ?_ | refine tSt ?_); clear hL; intro _ hL; simp only [splice, zq1, zq2, zq3] at hL) | (refine tAl ?_; clear hL; intro _ _ hL _) | (refine tBs ?_; clear hL; intro _ _ hL _ hBs)); simp only [Act.put, zq1, zq2, zq3]))
          refine One2.still hV ?_; exact k
        · intro vs W1 m1 hE hM hV hD; obtain ⟨⟨_, _, -, i44, f44⟩, -, -⟩ := hD; have f44 : BvR _ (vs 44) hn hd 0 := f44; replace f44 := f44.le i44.le; clear i44; obtain ⟨u0, e44, k⟩ := f44; generalize vs 44 = x44 at e44 ⊢; subst x44; replace hL := hL.call hE hM hV
          go_wp2_with (first | ((with_reducible refine kAny ?_); go_skip) | (with_reducible refine stA ?_) | ((first | refine tIx ?_ | refine tFd ?_ | refine tLd ?_ | ((first | refine tSr ?_ | refine tSt ?_); clear hL; intro _ hL; simp only [splice, zq1, zq2, zq3] at hL) | (refine tAl ?_; clear hL; intro _ _ hL _) | (refine tBs ?_; clear hL; intro _ _ hL _ hBs)); simp only [Act.put, zq1, zq2, zq3]))
          refine One2.still hV ?_; exact rfl
        · intro vs W1 m1 hE hM hV hD; clear hD
          exact one2_alloc hV (Nat.le_trans hB3 hE.size) rfl rfl rfl ZcC.h
      case l9 =>
        refine ⟨fun h => (by cases h), fun h => (by cases h), fun h => (by cases h), fun h => (by cases h), fun h => (by cases h), fun h => (by cases h), fun h => (by cases h), fun h => (by cases h), fun h => (by cases h), fun h => (by cases h), fun h => (by cases h), fun _ => ?_, fun h => (by cases h), trivial⟩
        · intro vs W1 m1 hE hM hV hD; obtain ⟨⟨_, _, -, i44, f44⟩, -, -⟩ := hD; have f44 : BvR _ (vs 44) hn hd 0 := f44; replace f44 := f44.le i44.le; clear i44; obtain ⟨u0, e44, k⟩ := f44; generalize vs 44 = x44 at e44 ⊢; subst x44
          exact ⟨_, Or.inl ⟨(by rfl), fun w => (by rfl)⟩, rfl⟩
      intro vs W1 m1 hE hM hV hF hD
      obtain ⟨-, -, -, -, ⟨_, _, -, i49, f49⟩, ⟨_, _, -, i50, f50⟩, ⟨_, _, -, i51, f51⟩, ⟨_, _, -, i52, f52⟩, ⟨_, _, -, i53, f53⟩, ⟨_, _, -, i44, f44⟩, ⟨_, _, -, i54, f54⟩, ⟨_, _, -, -, f55⟩, ⟨_, _, j5, i5, f5⟩, -⟩ := hF
      replace hL := hL.call hE hM hV
      replace f49 : FracC _ (vs 49) halfR := f49
      replace f49 := f49.le i49.le
      clear i49
      replace f50 : FracC _ (vs 50) halfR := f50
      replace f50 := f50.le i50.le
      clear i50
      replace f51 : FracC _ (vs 51) halfR := f51
      replace f51 := f51.le i51.le
      clear i51
      replace f52 : FracL _ (vs 52) knU := f52
      replace f52 := f52.le i52.le
      clear i52
      replace f53 : BvR _ (vs 53) hn hd 0 := f53
      replace f53 := f53.le i53.le
      clear i53
      replace f44 : BvR _ (vs 44) hn hd 0 := f44
      replace f44 := f44.le i44.le
      clear i44
      replace f54 : FracP _ (vs 54) hn hd := f54
      replace f54 := f54.le i54.le
      clear i54
      obtain ⟨g54, A54, n54, c54, h54, B54, k54, d54, e54, f54⟩ := f54.lit
      generalize vs 54 = x54 at e54 ⊢
      subst x54
      have f55 : vs 55 = _ := f55
      generalize vs 55 = x55 at f55 ⊢
      subst x55
      obtain ⟨b5, e5, hL⟩ := Loc.addB (Lt := []) hB1 hB2 hL f5 j5 i5 ad0
      simp only [e5, List.cons_append, List.nil_append] at hL ⊢
      clear e5 f5 j5 i5
      clear hB1 hB2 hB3 hD
      clear hE hV
      simp only [List.drop_succ_cons, List.drop_zero]
      go_wp2_with (first | ((with_reducible refine kAny ?_); go_skip) | (with_reducible refine stA ?_) | ((first | refine tIx ?_ | refine tFd ?_ | refine tLd ?_ | ((first | refine tSr ?_ | refine tSt ?_); clear hL; intro _ hL; simp only [splice, zq1, zq2, zq3] at hL) | (refine tAl ?_; clear hL; intro _ _ hL _) | (refine tBs ?_; clear hL; intro _ _ hL _ hBs)); simp only [Act.put, zq1, zq2, zq3]))
      refine QN.mk ?_
      have HFP := Lib.hid f54
      clear f54 f53 f52 f51 f50 f49 f44
      go_upto_region 10 with ((first | ((with_reducible refine kAny ?_); go_skip) | (with_reducible refine stA ?_) | ((first | refine tIx ?_ | refine tFd ?_ | refine tLd ?_ | ((first | refine tSr ?_ | refine tSt ?_); clear hL; intro _ hL; simp only [splice, zq1, zq2, zq3] at hL) | (refine tAl ?_; clear hL; intro _ _ hL _) | (refine tBs ?_; clear hL; intro _ _ hL _ hBs)); simp only [Act.put, zq1, zq2, zq3])))
      refine wp_region_by2 29 [false, false, false, false, false, false, false, false, false, false, false, false, false, false, false, false, false, false, false, false, false, false, false, false, false, false, false, false, false] [false, false, false, false, false, false, false, false, false, false, false, false, false, false, false, false, false, false, false, false, false, false, false, false, false, false, false, false, false] [(fun v _ _ => v = ?c10_0), (fun v _ _ => v = ?c10_1), (fun v _ _ => v = ?c10_2), (fun v _ _ => v = ?c10_3), (fun v _ _ => v = ?c10_4), (fun v _ _ => v = ?c10_5), (fun v _ _ => v = ?c10_6), Of (fun um v => IntL um v [0, 1, 2]), Is (.bool true), (fun v _ _ => v = ?c10_9), (fun v _ _ => v = ?c10_10), (fun v _ _ => v = ?c10_11), (fun v _ _ => v = ?c10_12), (fun v _ _ => v = ?c10_13), (fun v _ _ => v = ?c10_14), (fun v _ _ => v = ?c10_15), (fun v _ _ => v = ?c10_16), (fun v _ _ => v = ?c10_17), (fun v _ _ => v = ?c10_18), Of (fun um v => FracC um v halfR), Is (.bool true), (fun v _ _ => v = ?c10_21), (fun v _ _ => v = ?c10_22), (fun v _ _ => v = ?c10_23), (fun v _ _ => v = ?c10_24), (fun v _ _ => v = ?c10_25), Is (.int .i64 1), (fun v _ _ => v = ?c10_27), (fun v _ _ => v = ?c10_28)] hL.vw mixed [56, 57, 58, 59, 60, 61, 62, 63, 64, 65, 66, 67, 68, 69, 70, 71, 72, 73, 74, 75, 76, 77, 78, 79, 80, 81, 82, 83, 84] _ (by kernel_rfl) (fun vs => by simp only [lay, Act.put, zq1, zq2, zq3]; rfl) (by kernel_rfl) (by decide) (by decide) ?s10 ?l10 ?r10
      case s10 =>
        refine ⟨?_, ?_, ?_, ?_, ?_, ?_, ?_, ?_, ?_, ?_, ?_, ?_, ?_, ?_, ?_, ?_, ?_, ?_, ?_, ?_, ?_, ?_, ?_, ?_, ?_, ?_, ?_, ?_, ?_, trivial⟩
        · intro vs W1 m1 hE hM hV hD; clear hD; replace hL := hL.call hE hM hV
          exact sPu
        · intro vs W1 m1 hE hM hV hD; obtain ⟨⟨_, _, -, -, f56⟩, -⟩ := hD; have f56 : vs 56 = _ := f56; generalize vs 56 = x56 at f56 ⊢; subst x56; replace hL := hL.call hE hM hV
          exact sPu
        · intro vs W1 m1 hE hM hV hD; obtain ⟨⟨_, _, -, -, f57⟩, -⟩ := hD; have f57 : vs 57 = _ := f57; generalize vs 57 = x57 at f57 ⊢; subst x57; replace hL := hL.call hE hM hV
          exact sPu
        · intro vs W1 m1 hE hM hV hD; obtain ⟨⟨_, _, -, -, f58⟩, -⟩ := hD; have f58 : vs 58 = _ := f58; generalize vs 58 = x58 at f58 ⊢; subst x58; replace hL := hL.call hE hM hV
          exact sPu
        · intro vs W1 m1 hE hM hV hD; obtain ⟨⟨_, _, -, -, f59⟩, ⟨_, _, -, -, f58⟩, -⟩ := hD; have f59 : vs 59 = _ := f59; generalize vs 59 = x59 at f59 ⊢; subst x59; have f58 : vs 58 = _ := f58; generalize vs 58 = x58 at f58 ⊢; subst x58; replace hL := hL.call hE hM hV
          exact sIz
        · intro vs W1 m1 hE hM hV hD; obtain ⟨⟨_, _, -, -, f60⟩, ⟨_, _, -, -, f58⟩, -⟩ := hD; have f60 : vs 60 = _ := f60; generalize vs 60 = x60 at f60 ⊢; subst x60; have f58 : vs 58 = _ := f58; generalize vs 58 = x58 at f58 ⊢; subst x58; replace hL := hL.call hE hM hV
          exact sFd
        · intro vs W1 m1 hE hM hV hD; obtain ⟨⟨_, _, -, -, f61⟩, ⟨_, _, -, -, f58⟩, -⟩ := hD; have f61 : vs 61 = _ := f61; generalize vs 61 = x61 at f61 ⊢; subst x61; have f58 : vs 58 = _ := f58; generalize vs 58 = x58 at f58 ⊢; subst x58; replace hL := hL.call hE hM hV
          exact sLd
        · intro vs W1 m1 hE hM hV hD; obtain ⟨⟨_, _, -, -, f58⟩, -⟩ := hD; have f58 : vs 58 = _ := f58; generalize vs 58 = x58 at f58 ⊢; subst x58
          (go_wp2_with fail; refine one2_new hV fun m' hx hb => ?_; exact ListV.mk (vs := [.int .i64 0, .int .i64 1, .int .i64 2]) (by omega) rfl (fun u hu => by simp at hu; rcases hu with rfl | rfl | rfl <;> rfl) (Blk.sl hb (n := 3) rfl) ⟨rfl, rfl, rfl, trivial⟩)
        · intro vs W1 m1 hE hM hV hD; obtain ⟨⟨_, _, -, -, f62⟩, ⟨_, _, -, i63, f63⟩, ⟨_, _, -, -, f58⟩, -, -⟩ := hD; have f62 : vs 62 = _ := f62; generalize vs 62 = x62 at f62 ⊢; subst x62; have f58 : vs 58 = _ := f58; generalize vs 58 = x58 at f58 ⊢; subst x58; have f63 : IntL _ (vs 63) [0, 1, 2] := f63; replace f63 := f63.le i63.le; clear i63
          go_wp2_with fail
          refine (r_SameInts _ _ [0, 1, 2] _ _ hV (IntL.le HI.out leX) f63 (by decide)).mono ?_
          rintro e W2 ⟨v, m2, rfl, hE2, hM2, hV2, h⟩
          go_wp2_with fail
          refine One2.call hE2 hM2 hV2 ?_; first | exact h | exact rfl
        · intro vs W1 m1 hE hM hV hD; obtain ⟨⟨_, _, -, -, f58⟩, ⟨_, _, -, -, f64⟩, -⟩ := hD; have f58 : vs 58 = _ := f58; generalize vs 58 = x58 at f58 ⊢; subst x58; have f64 : vs 64 = _ := f64; generalize vs 64 = x64 at f64 ⊢; subst x64; replace hL := hL.call hE hM hV
          exact sPu
        · intro vs W1 m1 hE hM hV hD; obtain ⟨⟨_, _, -, -, f65⟩, -, -⟩ := hD; have f65 : vs 65 = _ := f65; generalize vs 65 = x65 at f65 ⊢; subst x65; replace hL := hL.call hE hM hV
          exact sPu
        · intro vs W1 m1 hE hM hV hD; obtain ⟨⟨_, _, -, -, f66⟩, -⟩ := hD; have f66 : vs 66 = _ := f66; generalize vs 66 = x66 at f66 ⊢; subst x66; replace hL := hL.call hE hM hV
          exact sPu
        · intro vs W1 m1 hE hM hV hD; obtain ⟨⟨_, _, -, -, f67⟩, ⟨_, _, -, -, f66⟩, -⟩ := hD; have f67 : vs 67 = _ := f67; generalize vs 67 = x67 at f67 ⊢; subst x67; have f66 : vs 66 = _ := f66; generalize vs 66 = x66 at f66 ⊢; subst x66; replace hL := hL.call hE hM hV
          exact sIz
        · intro vs W1 m1 hE hM hV hD; obtain ⟨⟨_, _, -, -, f68⟩, ⟨_, _, -, -, f66⟩, -⟩ := hD; have f68 : vs 68 = _ := f68; generalize vs 68 = x68 at f68 ⊢; subst x68; have f66 : vs 66 = _ := f66; generalize vs 66 = x66 at f66 ⊢; subst x66; replace hL := hL.call hE hM hV
          exact sFd
        · intro vs W1 m1 hE hM hV hD; obtain ⟨⟨_, _, -, -, f69⟩, ⟨_, _, -, -, f66⟩, -⟩ := hD; have f69 : vs 69 = _ := f69; generalize vs 69 = x69 at f69 ⊢; subst x69; have f66 : vs 66 = _ := f66; generalize vs 66 = x66 at f66 ⊢; subst x66; replace hL := hL.call hE hM hV
          exact sLd
        · intro vs W1 m1 hE hM hV hD; obtain ⟨⟨_, _, -, -, f70⟩, ⟨_, _, -, -, f66⟩, -⟩ := hD; have f70 : vs 70 = _ := f70; generalize vs 70 = x70 at f70 ⊢; subst x70; have f66 : vs 66 = _ := f66; generalize vs 66 = x66 at f66 ⊢; subst x66; replace hL := hL.call hE hM hV
          exact sPu
        · intro vs W1 m1 hE hM hV hD; obtain ⟨⟨_, _, -, -, f66⟩, ⟨_, _, -, -, f71⟩, -⟩ := hD; have f66 : vs 66 = _ := f66; generalize vs 66 = x66 at f66 ⊢; subst x66; have f71 : vs 71 = _ := f71; generalize vs 71 = x71 at f71 ⊢; subst x71; replace hL := hL.call hE hM hV
          exact sPu
        · intro vs W1 m1 hE hM hV hD; obtain ⟨⟨_, _, -, -, f72⟩, -, -⟩ := hD; have f72 : vs 72 = _ := f72; generalize vs 72 = x72 at f72 ⊢; subst x72; replace hL := hL.call hE hM hV
          exact sPu
        · intro vs W1 m1 hE hM hV hD; obtain ⟨⟨_, _, -, -, f73⟩, -⟩ := hD; have f73 : vs 73 = _ := f73; generalize vs 73 = x73 at f73 ⊢; subst x73; replace hL := hL.call hE hM hV
          exact sLd
        · intro vs W1 m1 hE hM hV hD; obtain ⟨⟨_, _, -, -, f73⟩, -, -⟩ := hD; have f73 : vs 73 = _ := f73; generalize vs 73 = x73 at f73 ⊢; subst x73
          go_wp2_with fail
          refine (k_half _ _ hV).mono ?_
          rintro e W2 ⟨v, m2, rfl, hE2, hM2, hV2, h⟩
          go_wp2_with fail
          refine One2.call hE2 hM2 hV2 ?_; first | exact h | exact rfl
        · intro vs W1 m1 hE hM hV hD; obtain ⟨⟨_, _, -, -, f74⟩, ⟨_, _, -, i75, f75⟩, -, ⟨_, _, -, -, f73⟩, -⟩ := hD; have f74 : vs 74 = _ := f74; generalize vs 74 = x74 at f74 ⊢; subst x74; have f73 : vs 73 = _ := f73; generalize vs 73 = x73 at f73 ⊢; subst x73; have f75 : FracC _ (vs 75) halfR := f75; replace f75 := f75.le i75.le; clear i75
          go_wp2_with fail
          refine (r_SameP _ _ hn hd _ _ hV (HFP.out.le leX) (by rw [← HNN.out, ← HDD.out]; exact f75.toP) HF1.out HF2.out).mono ?_
          rintro e W2 ⟨v, m2, rfl, hE2, hM2, hV2, h⟩
          go_wp2_with fail
          refine One2.call hE2 hM2 hV2 ?_; first | exact h | exact rfl
        · intro vs W1 m1 hE hM hV hD; obtain ⟨⟨_, _, -, -, f73⟩, ⟨_, _, -, -, f76⟩, -⟩ := hD; have f73 : vs 73 = _ := f73; generalize vs 73 = x73 at f73 ⊢; subst x73; have f76 : vs 76 = _ := f76; generalize vs 76 = x76 at f76 ⊢; subst x76; replace hL := hL.call hE hM hV
          exact sPu
        · intro vs W1 m1 hE hM hV hD; obtain ⟨⟨_, _, -, -, f77⟩, -, -⟩ := hD; have f77 : vs 77 = _ := f77; generalize vs 77 = x77 at f77 ⊢; subst x77; replace hL := hL.call hE hM hV
          exact sPu
        · intro vs W1 m1 hE hM hV hD; obtain ⟨⟨_, _, -, -, f78⟩, -⟩ := hD; have f78 : vs 78 = _ := f78; generalize vs 78 = x78 at f78 ⊢; subst x78; replace hL := hL.call hE hM hV
          exact sPu
        · intro vs W1 m1 hE hM hV hD; obtain ⟨⟨_, _, -, -, f79⟩, ⟨_, _, -, -, f78⟩, -⟩ := hD; have f79 : vs 79 = _ := f79; generalize vs 79 = x79 at f79 ⊢; subst x79; have f78 : vs 78 = _ := f78; generalize vs 78 = x78 at f78 ⊢; subst x78; replace hL := hL.call hE hM hV
          exact sIz
        · intro vs W1 m1 hE hM hV hD; obtain ⟨⟨_, _, -, -, f80⟩, ⟨_, _, -, -, f78⟩, -⟩ := hD; have f80 : vs 80 = _ := f80; generalize vs 80 = x80 at f80 ⊢; subst x80; have f78 : vs 78 = _ := f78; generalize vs 78 = x78 at f78 ⊢; subst x78; replace hL := hL.call hE hM hV
          exact sLd
        · intro vs W1 m1 hE hM hV hD; obtain ⟨⟨_, _, -, -, f81⟩, ⟨_, _, -, -, f78⟩, -, -⟩ := hD; have f81 : vs 81 = _ := f81; generalize vs 81 = x81 at f81 ⊢; subst x81; have f78 : vs 78 = _ := f78; generalize vs 78 = x78 at f78 ⊢; subst x78
          go_wp2_with fail
          refine (kn_Right _ _ _ hV (HXR.out.le leX)).mono ?_
          rintro e W2 ⟨v, m2, rfl, hE2, hM2, hV2, h⟩
          go_wp2_with fail
          refine One2.call hE2 hM2 hV2 ?_; first | exact h | exact rfl
        · intro vs W1 m1 hE hM hV hD; obtain ⟨⟨_, _, -, -, f82⟩, ⟨_, _, -, -, f78⟩, -⟩ := hD; have f82 : vs 82 = _ := f82; generalize vs 82 = x82 at f82 ⊢; subst x82; have f78 : vs 78 = _ := f78; generalize vs 78 = x78 at f78 ⊢; subst x78; replace hL := hL.call hE hM hV
          exact sPu
        · intro vs W1 m1 hE hM hV hD; obtain ⟨⟨_, _, -, -, f78⟩, ⟨_, _, -, -, f83⟩, -⟩ := hD; have f78 : vs 78 = _ := f78; generalize vs 78 = x78 at f78 ⊢; subst x78; have f83 : vs 83 = _ := f83; generalize vs 83 = x83 at f83 ⊢; subst x83; replace hL := hL.call hE hM hV
          exact sPu
      case l10 =>
        refine ⟨fun h => (by cases h), fun h => (by cases h), fun h => (by cases h), fun h => (by cases h), fun h => (by cases h), fun h => (by cases h), fun h => (by cases h), fun h => (by cases h), fun h => (by cases h), fun h => (by cases h), fun h => (by cases h), fun h => (by cases h), fun h => (by cases h), fun h => (by cases h), fun h => (by cases h), fun h => (by cases h), fun h => (by cases h), fun h => (by cases h), fun h => (by cases h), fun h => (by cases h), fun h => (by cases h), fun h => (by cases h), fun h => (by cases h), fun h => (by cases h), fun h => (by cases h), fun h => (by cases h), fun h => (by cases h), fun h => (by cases h), fun h => (by cases h), trivial⟩
      intro vs W1 m1 hE hM hV hF hD
      clear hD
      obtain ⟨-, -, -, -, -, -, -, ⟨_, _, -, i63, f63⟩, -, -, -, -, -, -, -, -, -, -, -, ⟨_, _, -, i75, f75⟩, -, -, -, -, -, -, -, -, ⟨_, _, -, -, f84⟩, -⟩ := hF
      replace hL := hL.call hE hM hV
      replace f63 : IntL _ (vs 63) [0, 1, 2] := f63
      replace f63 := f63.le i63.le
      clear i63
      replace f75 : FracC _ (vs 75) halfR := f75
      replace f75 := f75.le i75.le
      clear i75
      have f84 : vs 84 = _ := f84
      generalize vs 84 = x84 at f84 ⊢
      subst x84
      clear hE hV
      simp only [List.drop_succ_cons, List.drop_zero]
      go_wp2_with (first | ((with_reducible refine kAny ?_); go_skip) | (with_reducible refine stA ?_) | ((first | refine tIx ?_ | refine tFd ?_ | refine tLd ?_ | ((first | refine tSr ?_ | refine tSt ?_); clear hL; intro _ hL; simp only [splice, zq1, zq2, zq3] at hL) | (refine tAl ?_; clear hL; intro _ _ hL _) | (refine tBs ?_; clear hL; intro _ _ hL _ hBs)); simp only [Act.put, zq1, zq2, zq3]))
      refine QN.mk ?_
      go_wp2_with (first | ((with_reducible refine kAny ?_); go_skip) | (with_reducible refine stA ?_) | ((first | refine tIx ?_ | refine tFd ?_ | refine tLd ?_ | ((first | refine tSr ?_ | refine tSt ?_); clear hL; intro _ hL; simp only [splice, zq1, zq2, zq3] at hL) | (refine tAl ?_; clear hL; intro _ _ hL _) | (refine tBs ?_; clear hL; intro _ _ hL _ hBs)); simp only [Act.put, zq1, zq2, zq3]))
      go_ret
      exact RetV.mk hL rfl
end Go.Proofs.YtmhkmmmompediaaGreat

/- The walks through the laws CutsTight and CutsViolation. -/
namespace Go.Proofs.YtmhkmmmompediaaGreat
open Go.RowKit

theorem masF_cols6 (l : List Int) : (masF l).cols.length ≤ 6 := by
  show ((List.range _).map _).length ≤ 6
  simp only [List.length_map, List.length_range]
  have h2 := atF_bd l 2 (by omega)
  omega

set_option maxRecDepth 100000 in
set_option maxHeartbeats 32000000 in
theorem law_CutsTight (Al Aa : Option Addr) (cl ca : Nat) (l a : List Int) (n : Int) (w m : World) (hV : Vw m w) (hl : Sl m Al (l.map I64)) (ha : Sl m Aa (a.map I64)) (n1 : -9223372036854775808 ≤ n) (n2 : n ≤ 9223372036854775807) :
    Calls Tryz.prog 12 #[.slice Al l.length cl, .slice Aa a.length ca, .int .i64 n] w (RetV w m fun _ r => r = .bool true) := by
  have KM : Hid (∀ w m', Vw m' w → Le m m' → Calls Tryz.prog 15 #[.slice Al l.length cl] w (RetV w m' fun m'' r => MasterR m'' r (masF l))) := by
    show ∀ w m', _
    exact fun w m' hV hle => d_Master Al cl l w m' hV (hl.le hle) trivial
  have KA : Hid (∀ (z : Int) (k : Nat) w m', Vw m' w → Le m m' → z = k → k ≤ 1000 → Calls Tryz.prog 36 #[.slice Aa a.length ca, .int .i64 z] w (RetV w m' fun m'' r => FracL m'' r (valsF a k))) := by
    show ∀ z k w m', _
    exact fun z k w m' hV hle hz hk => d_Values Aa ca a k z w m' hV (ha.le hle) hz hk
  have OK : Hid (MsOk (masF l)) := masF_ok l
  have HFEW : Hid ((masF l).cols.length ≤ 6) := masF_cols6 l
  have e1 := i64_and3 n
  obtain ⟨q, q0, hq⟩ : ∃ q : Nat, n % 8 / 7 = (q : Int) ∧ q ≤ 1 := ⟨(n % 8 / 7).toNat, by omega, by omega⟩
  have p1 : 0 ≤ n % 8 ∧ n % 8 < 8 := by omega
  generalize n % 8 = s at *
  have hL := Loc.start hV
  clear hV hl ha n1 n2
  generalize l.length = N1 at *
  generalize a.length = N2 at *
  generalize masF l = x at *
  go_enter Tryz.func12, Tryz.ntmps12
  go_wp2_with (first | ((with_reducible refine kAny ?_); go_skip) | (with_reducible refine stA ?_) | ((first | refine tFd ?_ | refine tLd ?_ | ((first | refine tSr ?_ | refine tSt ?_); clear hL; intro _ hL; simp only [splice, zq1, zq2, zq3] at hL) | (refine tAl ?_; clear hL; intro _ _ hL _)); simp only [Act.put, zq1, zq2, zq3]))
  refine (KM.out _ _ hL.vw leX).mono ?_
  rintro e Wc1 ⟨vc1, mc1, rfl, hE, hMc1, hV, hc1⟩
  replace hL := hL.call hE (by assumption) hV; clear hE hV
  obtain ⟨M1, nr, d1, M2, nc, d2, M3, nk, d3, rfl, hx1⟩ := hc1.lit
  have hnc := master_nc hx1
  have HM := Lib.hid hx1
  have HF : Hid (x.cols.length ≤ 100) := by show _ ≤ _; have := HFEW.out; omega
  have hn6 : nc ≤ 6 := by have := HFEW.out; omega
  clear hx1 KM hnc HFEW
  generalize x.nf = nf at *
  generalize x.pen = pen at *
  go_wp2_with (first | ((with_reducible refine kAny ?_); go_skip) | (with_reducible refine stA ?_) | ((first | refine tFd ?_ | refine tLd ?_ | ((first | refine tSr ?_ | refine tSt ?_); clear hL; intro _ hL; simp only [splice, zq1, zq2, zq3] at hL) | (refine tAl ?_; clear hL; intro _ _ hL _)); simp only [Act.put, zq1, zq2, zq3]))
  refine (KA.out _ (nc + q) _ _ hL.vw leX (by omega) (by omega)).mono ?_
  rintro e Wc2 ⟨vc2, mc2, rfl, hE, hMc2, hV, hc2⟩
  replace hL := hL.call hE (by assumption) hV; clear hE hV
  have HU := Lib.hid (valsF_tw a (nc + q))
  obtain ⟨V, cv, rfl, hcv, hc2⟩ := hc2.lit
  have HV := Lib.hid hc2
  clear hc2 hcv KA q0 p1 e1
  generalize valsF a (nc + q) = us at *
  obtain ⟨E, ys, hyl, kb⟩ := tight_both x OK.out HF.out us HU.out
  have KB := Lib.hid kb
  clear kb hn6 hq
  generalize us.length = nu at *
  go_wp2_with (first | ((with_reducible refine kAny ?_); go_skip) | (with_reducible refine stA ?_) | ((first | refine tFd ?_ | refine tLd ?_ | ((first | refine tSr ?_ | refine tSt ?_); clear hL; intro _ hL; simp only [splice, zq1, zq2, zq3] at hL) | (refine tAl ?_; clear hL; intro _ _ hL _)); simp only [Act.put, zq1, zq2, zq3]))
  refine ((KB.out _ _ _ _ hL.vw (HM.out.le leX) (FracL.le HV.out leX)).1).mono ?_
  rintro e Wc3 ⟨_, mc3, rfl, hE, hMc3, hV, v3, rfl, hy3⟩
  replace hL := hL.call hE (by assumption) hV; clear hE hV
  obtain ⟨Y3, y3, rfl, -, hy3⟩ := hy3.lit
  have HY3 := Lib.hid hy3
  clear hy3
  go_wp2_with (first | ((with_reducible refine kAny ?_); go_skip) | (with_reducible refine stA ?_) | ((first | refine tFd ?_ | refine tLd ?_ | ((first | refine tSr ?_ | refine tSt ?_); clear hL; intro _ hL; simp only [splice, zq1, zq2, zq3] at hL) | (refine tAl ?_; clear hL; intro _ _ hL _)); simp only [Act.put, zq1, zq2, zq3]))
  refine ((KB.out _ _ _ _ hL.vw (HM.out.le leX) (FracL.le HV.out leX)).2).mono ?_
  rintro e Wc4 ⟨_, mc4, rfl, hE, hMc4, hV, v4, rfl, hy4⟩
  replace hL := hL.call hE (by assumption) hV; clear hE hV
  obtain ⟨Y4, y4, rfl, -, hy4⟩ := hy4.lit
  have HY4 := Lib.hid hy4
  clear hy4
  go_wp2_with (first | ((with_reducible refine kAny ?_); go_skip) | (with_reducible refine stA ?_) | ((first | refine tFd ?_ | refine tLd ?_ | ((first | refine tSr ?_ | refine tSt ?_); clear hL; intro _ hL; simp only [splice, zq1, zq2, zq3] at hL) | (refine tAl ?_; clear hL; intro _ _ hL _)); simp only [Act.put, zq1, zq2, zq3]))
  refine (r_SameInts _ _ ys _ _ hL.vw (IntL.le HY3.out leX) (IntL.le HY4.out leX) hyl).mono ?_
  rintro e Wc5 ⟨_, mc5, rfl, hE, hMc5, hV, rfl⟩
  replace hL := hL.call hE (by assumption) hV; clear hE hV
  go_wp2_with (first | ((with_reducible refine kAny ?_); go_skip) | (with_reducible refine stA ?_) | ((first | refine tFd ?_ | refine tLd ?_ | ((first | refine tSr ?_ | refine tSt ?_); clear hL; intro _ hL; simp only [splice, zq1, zq2, zq3] at hL) | (refine tAl ?_; clear hL; intro _ _ hL _)); simp only [Act.put, zq1, zq2, zq3]))
  refine (kc_known _ _ hL.vw).mono ?_
  rintro e Wc6 ⟨_, mc6, rfl, hE, hMc6, hV, rfl⟩
  replace hL := hL.call hE (by assumption) hV; clear hE hV
  go_wp2_with (first | ((with_reducible refine kAny ?_); go_skip) | (with_reducible refine stA ?_) | ((first | refine tFd ?_ | refine tLd ?_ | ((first | refine tSr ?_ | refine tSt ?_); clear hL; intro _ hL; simp only [splice, zq1, zq2, zq3] at hL) | (refine tAl ?_; clear hL; intro _ _ hL _)); simp only [Act.put, zq1, zq2, zq3]))
  go_ret
  exact RetV.mk hL rfl

set_option maxRecDepth 100000 in
set_option maxHeartbeats 32000000 in
theorem law_CutsViolation (Al Aa : Option Addr) (cl ca : Nat) (l a : List Int) (n : Int) (w m : World) (hV : Vw m w) (hl : Sl m Al (l.map I64)) (ha : Sl m Aa (a.map I64)) (n1 : -9223372036854775808 ≤ n) (n2 : n ≤ 9223372036854775807) :
    Calls Tryz.prog 7 #[.slice Al l.length cl, .slice Aa a.length ca, .int .i64 n] w (RetV w m fun _ r => r = .bool true) := by
  have KM : Hid (∀ w m', Vw m' w → Le m m' → Calls Tryz.prog 15 #[.slice Al l.length cl] w (RetV w m' fun m'' r => MasterR m'' r (masF l))) := by
    show ∀ w m', _
    exact fun w m' hV hle => d_Master Al cl l w m' hV (hl.le hle) trivial
  have KA : Hid (∀ (z : Int) (k : Nat) w m', Vw m' w → Le m m' → z = k → k ≤ 1000 → Calls Tryz.prog 36 #[.slice Aa a.length ca, .int .i64 z] w (RetV w m' fun m'' r => FracL m'' r (valsF a k))) := by
    show ∀ z k w m', _
    exact fun z k w m' hV hle hz hk => d_Values Aa ca a k z w m' hV (ha.le hle) hz hk
  have OK : Hid (MsOk (masF l)) := masF_ok l
  have HFEW : Hid ((masF l).cols.length ≤ 6) := masF_cols6 l
  have e1 := i64_and3 n
  have e2 := i64_and1 (n / 8)
  have e3 := i64_and3 (n / 16)
  obtain ⟨q, q0, hq⟩ : ∃ q : Nat, n % 8 / 7 = (q : Int) ∧ q ≤ 1 := ⟨(n % 8 / 7).toNat, by omega, by omega⟩
  have p1 : 0 ≤ n % 8 ∧ n % 8 < 8 := by omega
  have p2 : 0 ≤ n / 8 % 2 ∧ n / 8 % 2 < 2 := by omega
  have p3 : 0 ≤ n / 16 % 8 ∧ n / 16 % 8 < 8 := by omega
  generalize n % 8 = s at *
  generalize n / 8 % 2 = t at *
  generalize n / 16 % 8 = u at *
  have hL := Loc.start hV
  clear hV hl ha n1 n2
  generalize l.length = N1 at *
  generalize a.length = N2 at *
  generalize masF l = x at *
  go_enter Tryz.func7, Tryz.ntmps7
  go_wp2_with (first | ((with_reducible refine kAny ?_); go_skip) | (with_reducible refine stA ?_) | ((first | refine tFd ?_ | refine tLd ?_ | ((first | refine tSr ?_ | refine tSt ?_); clear hL; intro _ hL; simp only [splice, zq1, zq2, zq3] at hL) | (refine tAl ?_; clear hL; intro _ _ hL _) | (refine tBs ?_; clear hL; intro _ _ hL _ hBs)); simp only [Act.put, zq1, zq2, zq3]))
  refine (KM.out _ _ hL.vw leX).mono ?_
  rintro e Wc1 ⟨vc1, mc1, rfl, hE, hMc1, hV, hc1⟩
  replace hL := hL.call hE (by assumption) hV; clear hE hV
  obtain ⟨M1, nr, d1, M2, nc, d2, M3, nk, d3, rfl, hx1⟩ := hc1.lit
  have hnc := master_nc hx1
  have HM := Lib.hid hx1
  have HRO := Lib.hid hx1.parts.1
  have HF : Hid (x.cols.length ≤ 100) := by show _ ≤ _; have := HFEW.out; omega
  have hn6 : nc ≤ 6 := by have := HFEW.out; omega
  clear hx1 KM hnc HFEW
  generalize x.nf = nf at *
  generalize x.pen = pen at *
  go_wp2_with (first | ((with_reducible refine kAny ?_); go_skip) | (with_reducible refine stA ?_) | ((first | refine tFd ?_ | refine tLd ?_ | ((first | refine tSr ?_ | refine tSt ?_); clear hL; intro _ hL; simp only [splice, zq1, zq2, zq3] at hL) | (refine tAl ?_; clear hL; intro _ _ hL _) | (refine tBs ?_; clear hL; intro _ _ hL _ hBs)); simp only [Act.put, zq1, zq2, zq3]))
  refine (KA.out _ (nc + q) _ _ hL.vw leX (by omega) (by omega)).mono ?_
  rintro e Wc2 ⟨vc2, mc2, rfl, hE, hMc2, hV, hc2⟩
  replace hL := hL.call hE (by assumption) hV; clear hE hV
  have HU := Lib.hid (valsF_tw a (nc + q))
  obtain ⟨V, cv, rfl, hcv, hc2⟩ := hc2.lit
  have HV := Lib.hid hc2
  have HRL : Hid (x.rows.length ≤ 1000000) := by show _ ≤ _; have := OK.out.r1; omega
  clear hc2 hcv KA q0 p1 e1
  generalize valsF a (nc + q) = us at *
  clear hn6 hq
  by_cases hu : u = 7
  case' pos =>
    have bu : (u == 7) = true := bt hu
    obtain ⟨X, Y, E, l1, l2, kb⟩ := vio_both x OK.out HF.out ([2, 1], 2 + t) us HU.out
    have KB := Lib.hid kb
    have L1 := Lib.hid l1
    have L2 := Lib.hid l2
    clear kb l1 l2 hu
    generalize us.length = nu at *
    go_upto_region 5 with ((first | ((with_reducible refine kAny ?_); go_skip) | (with_reducible refine stA ?_) | ((first | refine tFd ?_ | refine tLd ?_ | ((first | refine tSr ?_ | refine tSt ?_); clear hL; intro _ hL; simp only [splice, zq1, zq2, zq3] at hL) | (refine tAl ?_; clear hL; intro _ _ hL _) | (refine tBs ?_; clear hL; intro _ _ hL _ hBs)); simp only [Act.put, zq1, zq2, zq3])))
    obtain ⟨w5, rfl⟩ := hL.world
    go_wp2_with (first | (refine wl_bslice hL (wanted_none rfl) rfl (n := 2) (cs := #[.int .i64 2, .int .i64 1]) (e := 3) (fun w => by go_simp) ?_; clear hL; intro Wb mb hL eb hbb; simp only [Act.put, zq1, zq2, zq3]) | (first | ((with_reducible refine kAny ?_); go_skip) | (with_reducible refine stA ?_) | ((first | refine tFd ?_ | refine tLd ?_ | ((first | refine tSr ?_ | refine tSt ?_); clear hL; intro _ hL; simp only [splice, zq1, zq2, zq3] at hL) | (refine tAl ?_; clear hL; intro _ _ hL _) | (refine tBs ?_; clear hL; intro _ _ hL _ hBs)); simp only [Act.put, zq1, zq2, zq3])))
    have HXR : Hid (CutR mb (.agg #[.slice (some ⟨w5.heap.size, 0, none⟩) 2 2, .int .i64 (2 + t)]) ([2, 1], 2 + t)) := ⟨_, rfl, ListV.mk (vs := [.int .i64 2, .int .i64 1]) (by omega) rfl (fun u hu => by simp at hu; rcases hu with rfl | rfl <;> rfl) (Blk.sl hbb (n := 2) rfl) ⟨rfl, rfl, trivial⟩, by show 2 ≤ 1000000; decide⟩
  case' neg =>
    have bu : (u == 7) = false := bf hu
    obtain ⟨X, Y, E, l1, l2, kb⟩ := vio_both x OK.out HF.out (x.rows, 2 + t) us HU.out
    have KB := Lib.hid kb
    have L1 := Lib.hid l1
    have L2 := Lib.hid l2
    clear kb l1 l2 hu
    have HXR : Hid (CutR mc1 (.agg #[.slice M1 nr d1, .int .i64 (2 + t)]) (x.rows, 2 + t)) := ⟨_, rfl, HRO.out, HRL.out⟩
    generalize us.length = nu at *
    go_wp2_with (first | ((with_reducible refine kAny ?_); go_skip) | (with_reducible refine stA ?_) | ((first | refine tFd ?_ | refine tLd ?_ | ((first | refine tSr ?_ | refine tSt ?_); clear hL; intro _ hL; simp only [splice, zq1, zq2, zq3] at hL) | (refine tAl ?_; clear hL; intro _ _ hL _) | (refine tBs ?_; clear hL; intro _ _ hL _ hBs)); simp only [Act.put, zq1, zq2, zq3]))
  all_goals
    refine ((KB.out _ _ _ _ _ hL.vw (HM.out.le leX) (HXR.out.le leX) (FracL.le HV.out leX)).1).mono ?_
    rintro e Wc3 ⟨_, mc3, rfl, hE, hMc3, hV, v3, rfl, hy3⟩
    replace hL := hL.call hE (by assumption) hV; clear hE hV
    obtain ⟨g3, A3, z3, c3, f3, B3, k3, q3, rfl, hy3⟩ := hy3.lit
    have HY3 := Lib.hid hy3
    clear hy3
    go_wp2_with (first | ((with_reducible refine kAny ?_); go_skip) | (with_reducible refine stA ?_) | ((first | refine tFd ?_ | refine tLd ?_ | ((first | refine tSr ?_ | refine tSt ?_); clear hL; intro _ hL; simp only [splice, zq1, zq2, zq3] at hL) | (refine tAl ?_; clear hL; intro _ _ hL _) | (refine tBs ?_; clear hL; intro _ _ hL _ hBs)); simp only [Act.put, zq1, zq2, zq3]))
    refine ((KB.out _ _ _ _ _ hL.vw (HM.out.le leX) (HXR.out.le leX) (FracL.le HV.out leX)).2).mono ?_
    rintro e Wc4 ⟨_, mc4, rfl, hE, hMc4, hV, v4, rfl, hy4⟩
    replace hL := hL.call hE (by assumption) hV; clear hE hV
    obtain ⟨g4, A4, z4, c4, f4, B4, k4, q4, rfl, hy4⟩ := hy4.lit
    have HY4 := Lib.hid hy4
    clear hy4
    go_wp2_with (first | ((with_reducible refine kAny ?_); go_skip) | (with_reducible refine stA ?_) | ((first | refine tFd ?_ | refine tLd ?_ | ((first | refine tSr ?_ | refine tSt ?_); clear hL; intro _ hL; simp only [splice, zq1, zq2, zq3] at hL) | (refine tAl ?_; clear hL; intro _ _ hL _) | (refine tBs ?_; clear hL; intro _ _ hL _ hBs)); simp only [Act.put, zq1, zq2, zq3]))
    refine (r_SameP _ _ X Y _ _ hL.vw (HY3.out.le leX) (HY4.out.le leX) L1.out L2.out).mono ?_
    rintro e Wc5 ⟨_, mc5, rfl, hE, hMc5, hV, rfl⟩
    replace hL := hL.call hE (by assumption) hV; clear hE hV
    go_wp2_with (first | ((with_reducible refine kAny ?_); go_skip) | (with_reducible refine stA ?_) | ((first | refine tFd ?_ | refine tLd ?_ | ((first | refine tSr ?_ | refine tSt ?_); clear hL; intro _ hL; simp only [splice, zq1, zq2, zq3] at hL) | (refine tAl ?_; clear hL; intro _ _ hL _) | (refine tBs ?_; clear hL; intro _ _ hL _ hBs)); simp only [Act.put, zq1, zq2, zq3]))
    refine (kc_known _ _ hL.vw).mono ?_
    rintro e Wc6 ⟨_, mc6, rfl, hE, hMc6, hV, rfl⟩
    replace hL := hL.call hE (by assumption) hV; clear hE hV
    go_wp2_with (first | ((with_reducible refine kAny ?_); go_skip) | (with_reducible refine stA ?_) | ((first | refine tFd ?_ | refine tLd ?_ | ((first | refine tSr ?_ | refine tSt ?_); clear hL; intro _ hL; simp only [splice, zq1, zq2, zq3] at hL) | (refine tAl ?_; clear hL; intro _ _ hL _) | (refine tBs ?_; clear hL; intro _ _ hL _ hBs)); simp only [Act.put, zq1, zq2, zq3]))
    go_ret
    exact RetV.mk hL rfl
end Go.Proofs.YtmhkmmmompediaaGreat
