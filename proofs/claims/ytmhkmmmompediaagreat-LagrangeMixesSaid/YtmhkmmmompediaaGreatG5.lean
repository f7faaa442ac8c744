/- Part 5 of 7 of the proof: the law LagrangeMixes returns true for every input, and its arguments read as before; there is no condition. -/
import Derived.Test.YtmhkmmmompediaaGreatG4
set_option linter.unusedVariables false
set_option linter.unusedSimpArgs false
/- Contracts of the reference's arithmetic for canonical fractions. -/
namespace Go.Proofs.YtmhkmmmompediaaGreat
open Go.RowKit

theorem Tn.fit {k : Nat} {q : Rat} (h : Tn k q) (hk : k < 4294967296) : Fit 200 q :=
  Fit.mono (k := 1) ⟨by have := h.1; simp only [Nat.pow_one]; omega, by have := h.2; simp only [Nat.pow_one]; omega⟩ (by decide)
theorem r_MulC (a b : Value) (p q : Rat) (w m : World) (hV : Vw m w) (ha : FracC m a p) (hb : FracC m b q) (kp : Fit 200 p) (kq : Fit 200 q) :
    Calls Tryz.prog 25 #[a, b] w (RetV w m fun m' r => FracC m' r (p * q)) := r_Mul a b p q w m hV (ha.toV kp (by decide)) (hb.toV kq (by decide)) kp kq
theorem r_AddC (a b : Value) (p q : Rat) (w m : World) (hV : Vw m w) (ha : FracC m a p) (hb : FracC m b q) (kp : Fit 200 p) (kq : Fit 200 q) :
    Calls Tryz.prog 80 #[a, b] w (RetV w m fun m' r => FracC m' r (p + q)) := r_Add a b p q w m hV (ha.toV kp (by decide)) (hb.toV kq (by decide)) kp kq
theorem r_SubC (a b : Value) (p q : Rat) (w m : World) (hV : Vw m w) (ha : FracC m a p) (hb : FracC m b q) (kp : Fit 200 p) (kq : Fit 200 q) :
    Calls Tryz.prog 85 #[a, b] w (RetV w m fun m' r => FracC m' r (p - q)) := r_Sub a b p q w m hV (ha.toV kp (by decide)) (hb.toV kq (by decide)) kp kq
theorem r_DivC (a b : Value) (p q : Rat) (w m : World) (hV : Vw m w) (ha : FracC m a p) (hb : FracC m b q) (kp : Fit 200 p) (kq : Fit 200 q) :
    Calls Tryz.prog 82 #[a, b] w (RetV w m fun m' r => FracC m' r (p / q)) := r_Div a b p q w m hV (ha.toV kp (by decide)) (hb.toV kq (by decide)) kp kq
theorem Tn.int {z : Int} {k : Nat} (h : z.natAbs ≤ k) (hk : 1 ≤ k) : Tn k (z : Rat) := ⟨by simpa using h, by simpa using hk⟩
theorem div_mix (num den : Int) : (num : Rat) / (den : Rat) = Rat.divInt num den := (Rat.divInt_eq_div num den).symm
theorem sub_mix (num den : Int) (h : ¬ den < 1) : ((1 : Int) : Rat) - Rat.divInt num den = Rat.divInt (den - num) den := by
  have hd : (den : Rat) ≠ 0 := by
    intro e
    have : den = 0 := by exact_mod_cast e
    omega
  rw [Rat.divInt_eq_div, Rat.divInt_eq_div, Rat.intCast_sub]
  rw [Rat.div_def, Rat.div_def, Rat.sub_eq_add_neg, Rat.sub_eq_add_neg, Rat.add_mul, Rat.mul_inv_cancel _ hd, Rat.neg_mul]
  rfl

end Go.Proofs.YtmhkmmmompediaaGreat

/- Contracts of lagrange.Mix where it refuses. -/
namespace Go.Proofs.YtmhkmmmompediaaGreat
open Go.RowKit

theorem results_cell_tmp {P : Program} {fn : Func} {p k : Tmp} {ty : TypeId} (h : fn.results = #[.cell p ty, .tmp k]) (tmps : Array Value) (w : World) (g : Nat) (t : TypeId) (cs : Array Value) (fr : Nat × Nat) (d : TypeDesc)
    (hp : tmps.getD p undef = .pointer (some ⟨g, 0, none⟩)) (hg : w.heap[g]? = some (.cells cs t fr))
    (hu : P.underlying ty = some d) (hd : (match d with | .struct _ | .array _ _ => true | _ => false) = true) (hi : (P.info? ty).map (·.size) = some cs.size) :
    (results fn tmps).run P w = .ok (.tuple #[.agg cs, tmps.getD k undef]) w := by
  have hp' : tmps[p]?.getD undef = .pointer (some ⟨g, 0, none⟩) := by simpa using hp
  simp [results, h, hp', asAddr, run_loadVar_row w g t ty cs fr d hg hu hd hi]
theorem fin_aggT {P : Program} {fn : Func} {R : World → Value → Prop} {w m W mm : World} {Ls : List Lo} (hL : Loc w m W mm Ls) {p q : Nat} {ty : TypeId} (hr : fn.results = #[.cell p ty, .tmp q]) {a : Act} (hdf : a.defers = []) {g : Nat}
    (hp : a.tmps.getD p undef = .pointer (some ⟨g, 0, none⟩)) {n : Nat} {t : TypeId} {cs : Array Value} (hn : Ls[n]? = some (g, t, cs)) {k : Nat} (hty : agS P ty = some k) (hk : cs.size = k) {u : Value} (hu : a.tmps.getD q undef = u) {m' : World} (hL' : Loc w m W m' []) (h : R m' (.tuple #[.agg cs, u])) :
    bodyPost P fn (RetV w m R) .ret a W := by
  subst hk
  obtain ⟨d, hd', hd, hi⟩ := ag_desc hty
  subst hu
  exact bodyPost_ret (results_cell_tmp hr _ _ g t cs (0, 0) d hp (hL.at_ hn) hd' (by cases d <;> first | rfl | exact hd) hi) hdf (RetV.mk hL' h)
/-- The zero prices, as the laws hand them back beside an error. -/
def zPr : Value := .agg #[.slice none 0 0, .slice none 0 0, .slice none 0 0, .slice none 0 0, .bool false]

set_option maxRecDepth 100000 in
set_option maxHeartbeats 16000000 in
theorem l_Mix_range (a0 a1 a2 a3 a4 b0 b1 b2 b3 b4 : Value) (num den : Int) (w m : World) (hV : Vw m w) (h : den < 1 ∨ num < 0 ∨ num > den) :
    Calls Tryz.prog 30 #[.agg #[a0, a1, a2, a3, a4], .agg #[b0, b1, b2, b3, b4], .int .i64 num, .int .i64 den] w (RetV w m fun _ r => r = .tuple #[zPr, .int .i64 5]) := by
  have hL := Loc.start hV
  clear hV
  by_cases h1 : den < 1
  · clear h
    go_enter Tryz.func30, Tryz.ntmps30
    go_wp2_with (first | ((with_reducible refine kAny ?_); go_skip) | ((first | ((with_reducible refine kIx ?_); first | (refine t_ixa rfl rfl rfl ?_; (try simp only [Nat.mul_one])) | (refine t_ixaA rfl rfl rfl ?_; (try simp only [Nat.mul_one]))) | ((with_reducible refine kFd ?_); first | refine t_fda0 rfl rfl ?_ | (refine t_fda rfl rfl ?_; (try simp only [Nat.zero_add, Nat.reduceAdd]))) | ((with_reducible refine kLd ?_); first | refine t_loadR hL rfl rfl ?_ | refine t_loadW hL rfl rfl ?_ | refine t_load2 hL rfl rfl ?_ | refine t_load1 hL rfl rfl ?_ | refine t_loadV hL.vw rfl rfl ?_ | refine t_loadV1 hL.vw rfl rfl ?_) | ((with_reducible refine kSt ?_); first | (refine t_storeR hL rfl rfl rfl ?_; clear hL; intro _ hL; simp only [zq2, zq3] at hL) | ((first | refine t_store hL rfl rfl rfl ?_ | refine t_sts hL rfl rfl rfl ?_ | refine t_sti hL rfl rfl rfl ?_ | refine t_stb hL rfl rfl rfl ?_ | refine t_store1 hL rfl rfl rfl ?_); clear hL; intro _ hL; simp only [splice, zq1, zq2, zq3] at hL)) | ((with_reducible refine kBx ?_); (refine t_box hL rfl rfl ?_; clear hL; intro _ _ hL _)) | ((with_reducible refine kAl ?_); (refine t_alloc hL rfl ?_; clear hL; intro _ _ hL _))); simp only [Act.put, zq1, zq2, zq3]))
    exact fin_aggT hL Tryz.results30 rfl rfl loX ag_Prices (by exact rfl) rfl (hL.sub (List.nil_sublist _)) rfl
  · by_cases h2 : num < 0
    · clear h
      go_enter Tryz.func30, Tryz.ntmps30
      go_wp2_with (first | ((with_reducible refine kAny ?_); go_skip) | ((first | ((with_reducible refine kIx ?_); first | (refine t_ixa rfl rfl rfl ?_; (try simp only [Nat.mul_one])) | (refine t_ixaA rfl rfl rfl ?_; (try simp only [Nat.mul_one]))) | ((with_reducible refine kFd ?_); first | refine t_fda0 rfl rfl ?_ | (refine t_fda rfl rfl ?_; (try simp only [Nat.zero_add, Nat.reduceAdd]))) | ((with_reducible refine kLd ?_); first | refine t_loadR hL rfl rfl ?_ | refine t_loadW hL rfl rfl ?_ | refine t_load2 hL rfl rfl ?_ | refine t_load1 hL rfl rfl ?_ | refine t_loadV hL.vw rfl rfl ?_ | refine t_loadV1 hL.vw rfl rfl ?_) | ((with_reducible refine kSt ?_); first | (refine t_storeR hL rfl rfl rfl ?_; clear hL; intro _ hL; simp only [zq2, zq3] at hL) | ((first | refine t_store hL rfl rfl rfl ?_ | refine t_sts hL rfl rfl rfl ?_ | refine t_sti hL rfl rfl rfl ?_ | refine t_stb hL rfl rfl rfl ?_ | refine t_store1 hL rfl rfl rfl ?_); clear hL; intro _ hL; simp only [splice, zq1, zq2, zq3] at hL)) | ((with_reducible refine kBx ?_); (refine t_box hL rfl rfl ?_; clear hL; intro _ _ hL _)) | ((with_reducible refine kAl ?_); (refine t_alloc hL rfl ?_; clear hL; intro _ _ hL _))); simp only [Act.put, zq1, zq2, zq3]))
      exact fin_aggT hL Tryz.results30 rfl rfl loX ag_Prices (by exact rfl) rfl (hL.sub (List.nil_sublist _)) rfl
    · have h3 : num > den := by omega
      clear h
      go_enter Tryz.func30, Tryz.ntmps30
      go_wp2_with (first | ((with_reducible refine kAny ?_); go_skip) | ((first | ((with_reducible refine kIx ?_); first | (refine t_ixa rfl rfl rfl ?_; (try simp only [Nat.mul_one])) | (refine t_ixaA rfl rfl rfl ?_; (try simp only [Nat.mul_one]))) | ((with_reducible refine kFd ?_); first | refine t_fda0 rfl rfl ?_ | (refine t_fda rfl rfl ?_; (try simp only [Nat.zero_add, Nat.reduceAdd]))) | ((with_reducible refine kLd ?_); first | refine t_loadR hL rfl rfl ?_ | refine t_loadW hL rfl rfl ?_ | refine t_load2 hL rfl rfl ?_ | refine t_load1 hL rfl rfl ?_ | refine t_loadV hL.vw rfl rfl ?_ | refine t_loadV1 hL.vw rfl rfl ?_) | ((with_reducible refine kSt ?_); first | (refine t_storeR hL rfl rfl rfl ?_; clear hL; intro _ hL; simp only [zq2, zq3] at hL) | ((first | refine t_store hL rfl rfl rfl ?_ | refine t_sts hL rfl rfl rfl ?_ | refine t_sti hL rfl rfl rfl ?_ | refine t_stb hL rfl rfl rfl ?_ | refine t_store1 hL rfl rfl rfl ?_); clear hL; intro _ hL; simp only [splice, zq1, zq2, zq3] at hL)) | ((with_reducible refine kBx ?_); (refine t_box hL rfl rfl ?_; clear hL; intro _ _ hL _)) | ((with_reducible refine kAl ?_); (refine t_alloc hL rfl ?_; clear hL; intro _ _ hL _))); simp only [Act.put, zq1, zq2, zq3]))
      exact fin_aggT hL Tryz.results30 rfl rfl loX ag_Prices (by exact rfl) rfl (hL.sub (List.nil_sublist _)) rfl

set_option maxRecDepth 100000 in
set_option maxHeartbeats 16000000 in
theorem l_Mix_len (A0 A1 A2 B0 : Option Addr) (n0 n1 n2 c0 c1 c2 k0 d0 : Nat) (a3 a4 b1 b2 b3 b4 : Value) (num den : Int) (w m : World) (hV : Vw m w) (h1 : ¬ den < 1) (h2 : ¬ num < 0) (h3 : ¬ num > den) (h : n0 ≠ k0 ∨ n2 ≠ n1) :
    Calls Tryz.prog 30 #[.agg #[.slice A0 n0 c0, .slice A1 n1 c1, .slice A2 n2 c2, a3, a4], .agg #[.slice B0 k0 d0, b1, b2, b3, b4], .int .i64 num, .int .i64 den] w (RetV w m fun _ r => r = .tuple #[zPr, .int .i64 12]) := by
  have hL := Loc.start hV
  clear hV
  by_cases g1 : n0 = k0
  · have e1 : ((n0 : Int) != (k0 : Int)) = false := by simp [g1]
    have e2 : ((n2 : Int) != (n1 : Int)) = true := by simp; omega
    clear h g1
    go_enter Tryz.func30, Tryz.ntmps30
    go_wp2_with (first | ((with_reducible refine kAny ?_); go_skip) | ((first | ((with_reducible refine kIx ?_); first | (refine t_ixa rfl rfl rfl ?_; (try simp only [Nat.mul_one])) | (refine t_ixaA rfl rfl rfl ?_; (try simp only [Nat.mul_one]))) | ((with_reducible refine kFd ?_); first | refine t_fda0 rfl rfl ?_ | (refine t_fda rfl rfl ?_; (try simp only [Nat.zero_add, Nat.reduceAdd]))) | ((with_reducible refine kLd ?_); first | refine t_loadR hL rfl rfl ?_ | refine t_loadW hL rfl rfl ?_ | refine t_load2 hL rfl rfl ?_ | refine t_load1 hL rfl rfl ?_ | refine t_loadV hL.vw rfl rfl ?_ | refine t_loadV1 hL.vw rfl rfl ?_) | ((with_reducible refine kSt ?_); first | (refine t_storeR hL rfl rfl rfl ?_; clear hL; intro _ hL; simp only [zq2, zq3] at hL) | ((first | refine t_store hL rfl rfl rfl ?_ | refine t_sts hL rfl rfl rfl ?_ | refine t_sti hL rfl rfl rfl ?_ | refine t_stb hL rfl rfl rfl ?_ | refine t_store1 hL rfl rfl rfl ?_); clear hL; intro _ hL; simp only [splice, zq1, zq2, zq3] at hL)) | ((with_reducible refine kBx ?_); (refine t_box hL rfl rfl ?_; clear hL; intro _ _ hL _)) | ((with_reducible refine kAl ?_); (refine t_alloc hL rfl ?_; clear hL; intro _ _ hL _))); simp only [Act.put, zq1, zq2, zq3]))
    exact fin_aggT hL Tryz.results30 rfl rfl loX ag_Prices (by exact rfl) rfl (hL.sub (List.nil_sublist _)) rfl
  · have e1 : ((n0 : Int) != (k0 : Int)) = true := by simp; omega
    clear h g1
    go_enter Tryz.func30, Tryz.ntmps30
    go_wp2_with (first | ((with_reducible refine kAny ?_); go_skip) | ((first | ((with_reducible refine kIx ?_); first | (refine t_ixa rfl rfl rfl ?_; (try simp only [Nat.mul_one])) | (refine t_ixaA rfl rfl rfl ?_; (try simp only [Nat.mul_one]))) | ((with_reducible refine kFd ?_); first | refine t_fda0 rfl rfl ?_ | (refine t_fda rfl rfl ?_; (try simp only [Nat.zero_add, Nat.reduceAdd]))) | ((with_reducible refine kLd ?_); first | refine t_loadR hL rfl rfl ?_ | refine t_loadW hL rfl rfl ?_ | refine t_load2 hL rfl rfl ?_ | refine t_load1 hL rfl rfl ?_ | refine t_loadV hL.vw rfl rfl ?_ | refine t_loadV1 hL.vw rfl rfl ?_) | ((with_reducible refine kSt ?_); first | (refine t_storeR hL rfl rfl rfl ?_; clear hL; intro _ hL; simp only [zq2, zq3] at hL) | ((first | refine t_store hL rfl rfl rfl ?_ | refine t_sts hL rfl rfl rfl ?_ | refine t_sti hL rfl rfl rfl ?_ | refine t_stb hL rfl rfl rfl ?_ | refine t_store1 hL rfl rfl rfl ?_); clear hL; intro _ hL; simp only [splice, zq1, zq2, zq3] at hL)) | ((with_reducible refine kBx ?_); (refine t_box hL rfl rfl ?_; clear hL; intro _ _ hL _)) | ((with_reducible refine kAl ?_); (refine t_alloc hL rfl ?_; clear hL; intro _ _ hL _))); simp only [Act.put, zq1, zq2, zq3]))
    exact fin_aggT hL Tryz.results30 rfl rfl loX ag_Prices (by exact rfl) rfl (hL.sub (List.nil_sublist _)) rfl

end Go.Proofs.YtmhkmmmompediaaGreat

/- Contracts of pairingref27.Mix where it refuses. -/
namespace Go.Proofs.YtmhkmmmompediaaGreat
open Go.RowKit

set_option maxRecDepth 100000 in
set_option maxHeartbeats 16000000 in
theorem r_Mix_range (a0 a1 a2 a3 a4 b0 b1 b2 b3 b4 : Value) (num den : Int) (w m : World) (hV : Vw m w) (h : den < 1 ∨ num < 0 ∨ num > den) :
    Calls Tryz.prog 31 #[.agg #[a0, a1, a2, a3, a4], .agg #[b0, b1, b2, b3, b4], .int .i64 num, .int .i64 den] w (RetV w m fun _ r => r = .tuple #[zPr, .int .i64 5]) := by
  have hL := Loc.start hV
  clear hV
  by_cases h1 : den < 1
  · clear h
    go_enter Tryz.func31, Tryz.ntmps31
    go_wp2_with (first | ((with_reducible refine kAny ?_); go_skip) | ((first | ((with_reducible refine kIx ?_); first | (refine t_ixa rfl rfl rfl ?_; (try simp only [Nat.mul_one])) | (refine t_ixaA rfl rfl rfl ?_; (try simp only [Nat.mul_one]))) | ((with_reducible refine kFd ?_); first | refine t_fda0 rfl rfl ?_ | (refine t_fda rfl rfl ?_; (try simp only [Nat.zero_add, Nat.reduceAdd]))) | ((with_reducible refine kLd ?_); first | refine t_loadR hL rfl rfl ?_ | refine t_loadW hL rfl rfl ?_ | refine t_load2 hL rfl rfl ?_ | refine t_load1 hL rfl rfl ?_ | refine t_loadV hL.vw rfl rfl ?_ | refine t_loadV1 hL.vw rfl rfl ?_) | ((with_reducible refine kSt ?_); first | (refine t_storeR hL rfl rfl rfl ?_; clear hL; intro _ hL; simp only [zq2, zq3] at hL) | ((first | refine t_store hL rfl rfl rfl ?_ | refine t_sts hL rfl rfl rfl ?_ | refine t_sti hL rfl rfl rfl ?_ | refine t_stb hL rfl rfl rfl ?_ | refine t_store1 hL rfl rfl rfl ?_); clear hL; intro _ hL; simp only [splice, zq1, zq2, zq3] at hL)) | ((with_reducible refine kBx ?_); (refine t_box hL rfl rfl ?_; clear hL; intro _ _ hL _)) | ((with_reducible refine kAl ?_); (refine t_alloc hL rfl ?_; clear hL; intro _ _ hL _))); simp only [Act.put, zq1, zq2, zq3]))
    exact fin_aggT hL Tryz.results31 rfl rfl loX ag_Prices (by exact rfl) rfl (hL.sub (List.nil_sublist _)) rfl
  · by_cases h2 : num < 0
    · clear h
      go_enter Tryz.func31, Tryz.ntmps31
      go_wp2_with (first | ((with_reducible refine kAny ?_); go_skip) | ((first | ((with_reducible refine kIx ?_); first | (refine t_ixa rfl rfl rfl ?_; (try simp only [Nat.mul_one])) | (refine t_ixaA rfl rfl rfl ?_; (try simp only [Nat.mul_one]))) | ((with_reducible refine kFd ?_); first | refine t_fda0 rfl rfl ?_ | (refine t_fda rfl rfl ?_; (try simp only [Nat.zero_add, Nat.reduceAdd]))) | ((with_reducible refine kLd ?_); first | refine t_loadR hL rfl rfl ?_ | refine t_loadW hL rfl rfl ?_ | refine t_load2 hL rfl rfl ?_ | refine t_load1 hL rfl rfl ?_ | refine t_loadV hL.vw rfl rfl ?_ | refine t_loadV1 hL.vw rfl rfl ?_) | ((with_reducible refine kSt ?_); first | (refine t_storeR hL rfl rfl rfl ?_; clear hL; intro _ hL; simp only [zq2, zq3] at hL) | ((first | refine t_store hL rfl rfl rfl ?_ | refine t_sts hL rfl rfl rfl ?_ | refine t_sti hL rfl rfl rfl ?_ | refine t_stb hL rfl rfl rfl ?_ | refine t_store1 hL rfl rfl rfl ?_); clear hL; intro _ hL; simp only [splice, zq1, zq2, zq3] at hL)) | ((with_reducible refine kBx ?_); (refine t_box hL rfl rfl ?_; clear hL; intro _ _ hL _)) | ((with_reducible refine kAl ?_); (refine t_alloc hL rfl ?_; clear hL; intro _ _ hL _))); simp only [Act.put, zq1, zq2, zq3]))
      exact fin_aggT hL Tryz.results31 rfl rfl loX ag_Prices (by exact rfl) rfl (hL.sub (List.nil_sublist _)) rfl
    · have h3 : num > den := by omega
      clear h
      go_enter Tryz.func31, Tryz.ntmps31
      go_wp2_with (first | ((with_reducible refine kAny ?_); go_skip) | ((first | ((with_reducible refine kIx ?_); first | (refine t_ixa rfl rfl rfl ?_; (try simp only [Nat.mul_one])) | (refine t_ixaA rfl rfl rfl ?_; (try simp only [Nat.mul_one]))) | ((with_reducible refine kFd ?_); first | refine t_fda0 rfl rfl ?_ | (refine t_fda rfl rfl ?_; (try simp only [Nat.zero_add, Nat.reduceAdd]))) | ((with_reducible refine kLd ?_); first | refine t_loadR hL rfl rfl ?_ | refine t_loadW hL rfl rfl ?_ | refine t_load2 hL rfl rfl ?_ | refine t_load1 hL rfl rfl ?_ | refine t_loadV hL.vw rfl rfl ?_ | refine t_loadV1 hL.vw rfl rfl ?_) | ((with_reducible refine kSt ?_); first | (refine t_storeR hL rfl rfl rfl ?_; clear hL; intro _ hL; simp only [zq2, zq3] at hL) | ((first | refine t_store hL rfl rfl rfl ?_ | refine t_sts hL rfl rfl rfl ?_ | refine t_sti hL rfl rfl rfl ?_ | refine t_stb hL rfl rfl rfl ?_ | refine t_store1 hL rfl rfl rfl ?_); clear hL; intro _ hL; simp only [splice, zq1, zq2, zq3] at hL)) | ((with_reducible refine kBx ?_); (refine t_box hL rfl rfl ?_; clear hL; intro _ _ hL _)) | ((with_reducible refine kAl ?_); (refine t_alloc hL rfl ?_; clear hL; intro _ _ hL _))); simp only [Act.put, zq1, zq2, zq3]))
      exact fin_aggT hL Tryz.results31 rfl rfl loX ag_Prices (by exact rfl) rfl (hL.sub (List.nil_sublist _)) rfl

set_option maxRecDepth 100000 in
set_option maxHeartbeats 16000000 in
theorem r_Mix_len (A0 A1 A2 B0 : Option Addr) (n0 n1 n2 c0 c1 c2 k0 d0 : Nat) (a3 a4 b1 b2 b3 b4 : Value) (num den : Int) (w m : World) (hV : Vw m w) (h1 : ¬ den < 1) (h2 : ¬ num < 0) (h3 : ¬ num > den) (h : n0 ≠ k0 ∨ n2 ≠ n1) :
    Calls Tryz.prog 31 #[.agg #[.slice A0 n0 c0, .slice A1 n1 c1, .slice A2 n2 c2, a3, a4], .agg #[.slice B0 k0 d0, b1, b2, b3, b4], .int .i64 num, .int .i64 den] w (RetV w m fun _ r => r = .tuple #[zPr, .int .i64 12]) := by
  have hL := Loc.start hV
  clear hV
  by_cases g1 : n0 = k0
  · have e1 : ((n0 : Int) != (k0 : Int)) = false := by simp [g1]
    have e2 : ((n2 : Int) != (n1 : Int)) = true := by simp; omega
    clear h g1
    go_enter Tryz.func31, Tryz.ntmps31
    go_wp2_with (first | ((with_reducible refine kAny ?_); go_skip) | ((first | ((with_reducible refine kIx ?_); first | (refine t_ixa rfl rfl rfl ?_; (try simp only [Nat.mul_one])) | (refine t_ixaA rfl rfl rfl ?_; (try simp only [Nat.mul_one]))) | ((with_reducible refine kFd ?_); first | refine t_fda0 rfl rfl ?_ | (refine t_fda rfl rfl ?_; (try simp only [Nat.zero_add, Nat.reduceAdd]))) | ((with_reducible refine kLd ?_); first | refine t_loadR hL rfl rfl ?_ | refine t_loadW hL rfl rfl ?_ | refine t_load2 hL rfl rfl ?_ | refine t_load1 hL rfl rfl ?_ | refine t_loadV hL.vw rfl rfl ?_ | refine t_loadV1 hL.vw rfl rfl ?_) | ((with_reducible refine kSt ?_); first | (refine t_storeR hL rfl rfl rfl ?_; clear hL; intro _ hL; simp only [zq2, zq3] at hL) | ((first | refine t_store hL rfl rfl rfl ?_ | refine t_sts hL rfl rfl rfl ?_ | refine t_sti hL rfl rfl rfl ?_ | refine t_stb hL rfl rfl rfl ?_ | refine t_store1 hL rfl rfl rfl ?_); clear hL; intro _ hL; simp only [splice, zq1, zq2, zq3] at hL)) | ((with_reducible refine kBx ?_); (refine t_box hL rfl rfl ?_; clear hL; intro _ _ hL _)) | ((with_reducible refine kAl ?_); (refine t_alloc hL rfl ?_; clear hL; intro _ _ hL _))); simp only [Act.put, zq1, zq2, zq3]))
    exact fin_aggT hL Tryz.results31 rfl rfl loX ag_Prices (by exact rfl) rfl (hL.sub (List.nil_sublist _)) rfl
  · have e1 : ((n0 : Int) != (k0 : Int)) = true := by simp; omega
    clear h g1
    go_enter Tryz.func31, Tryz.ntmps31
    go_wp2_with (first | ((with_reducible refine kAny ?_); go_skip) | ((first | ((with_reducible refine kIx ?_); first | (refine t_ixa rfl rfl rfl ?_; (try simp only [Nat.mul_one])) | (refine t_ixaA rfl rfl rfl ?_; (try simp only [Nat.mul_one]))) | ((with_reducible refine kFd ?_); first | refine t_fda0 rfl rfl ?_ | (refine t_fda rfl rfl ?_; (try simp only [Nat.zero_add, Nat.reduceAdd]))) | ((with_reducible refine kLd ?_); first | refine t_loadR hL rfl rfl ?_ | refine t_loadW hL rfl rfl ?_ | refine t_load2 hL rfl rfl ?_ | refine t_load1 hL rfl rfl ?_ | refine t_loadV hL.vw rfl rfl ?_ | refine t_loadV1 hL.vw rfl rfl ?_) | ((with_reducible refine kSt ?_); first | (refine t_storeR hL rfl rfl rfl ?_; clear hL; intro _ hL; simp only [zq2, zq3] at hL) | ((first | refine t_store hL rfl rfl rfl ?_ | refine t_sts hL rfl rfl rfl ?_ | refine t_sti hL rfl rfl rfl ?_ | refine t_stb hL rfl rfl rfl ?_ | refine t_store1 hL rfl rfl rfl ?_); clear hL; intro _ hL; simp only [splice, zq1, zq2, zq3] at hL)) | ((with_reducible refine kBx ?_); (refine t_box hL rfl rfl ?_; clear hL; intro _ _ hL _)) | ((with_reducible refine kAl ?_); (refine t_alloc hL rfl ?_; clear hL; intro _ _ hL _))); simp only [Act.put, zq1, zq2, zq3]))
    exact fin_aggT hL Tryz.results31 rfl rfl loX ag_Prices (by exact rfl) rfl (hL.sub (List.nil_sublist _)) rfl

end Go.Proofs.YtmhkmmmompediaaGreat

/- Contracts of lagrange.Mix where it refuses. -/
namespace Go.Proofs.YtmhkmmmompediaaGreat
open Go.RowKit

set_option maxRecDepth 100000 in
set_option maxHeartbeats 16000000 in
theorem l_Mix_shape (va vb : Value) (p q : Pr) (num den : Int) (w m : World) (hV : Vw m w) (ha : PricesR m va p) (hb : PricesR m vb q) (h1 : ¬ den < 1) (h2 : ¬ num < 0) (h3 : ¬ num > den)
    (hfl : q.fl.length = p.fl.length) (hcd : p.cd.length = p.cu.length) (hcd' : q.cd.length = p.cu.length) (hcu : q.cu = p.cu) (hl1 : p.cu.length ≤ 1000) (hl2 : p.de.length ≤ 1000) (hl3 : q.de.length ≤ 1000) (h : ¬ (p.de = q.de ∧ p.fr = q.fr)) :
    Calls Tryz.prog 30 #[va, vb, .int .i64 num, .int .i64 den] w (RetV w m fun _ r => r = .tuple #[zPr, .int .i64 12]) := by
  obtain ⟨fl, cu, cd, de, fr⟩ := p
  obtain ⟨fl', cu', cd', de', fr'⟩ := q
  obtain ⟨a, b, c, d, rfl, a1, a2, a3, a4⟩ := ha
  obtain ⟨a', b', c', d', rfl, b1, b2, b3, b4⟩ := hb
  simp only at *
  subst hcu
  obtain ⟨A1, c1, rfl, -, a1⟩ := a1.lit
  obtain ⟨A2, c2, rfl, -, a2⟩ := a2.lit
  obtain ⟨A3, c3, rfl, -, a3⟩ := a3.lit
  obtain ⟨A4, c4, rfl, -, a4⟩ := a4.lit
  obtain ⟨B1, d1, rfl, -, b1⟩ := b1.lit
  obtain ⟨B2, d2, rfl, -, b2⟩ := b2.lit
  obtain ⟨B3, d3, rfl, -, b3⟩ := b3.lit
  obtain ⟨B4, d4, rfl, -, b4⟩ := b4.lit
  have K1 : Hid (cu'.length ≤ 1000000) := by show _ ≤ _; omega
  have K2 : Hid (de.length ≤ 1000000) := by show _ ≤ _; omega
  have K3 : Hid (de'.length ≤ 1000000) := by show _ ≤ _; omega
  clear a1 b1 a3 b3 hl1 hl2 hl3
  rw [hfl, hcd, hcd']
  clear hfl hcd hcd'
  generalize fl.length = nf
  have e1 : ((nf : Int) != (nf : Int)) = false := by simp
  have e2 : ((cu'.length : Int) != (cu'.length : Int)) = false := by simp
  have hL := Loc.start hV
  clear hV
  by_cases hd : de = de'
  · have hf : fr ≠ fr' := fun e => h ⟨hd, e⟩
    have hf' : (!(fr == fr')) = true := by simpa using hf
    have hf2 : (fr != fr') = true := by simpa using hf
    have KE : Hid (∀ w m a b, Vw m w → DecL m a de → DecL m b de' → Calls Tryz.prog 93 #[a, b] w (RetV w m fun _ r => r = .bool true)) := by
      show ∀ w m a b, _
      intro w m a b hV h1 h2
      have := s_EqualDecs a b de de' w m hV h1 h2 K2.out K3.out
      rwa [decide_eq_true hd] at this
    clear h hd hf
    go_enter Tryz.func30, Tryz.ntmps30
    go_wp2_with (first | ((with_reducible refine kAny ?_); go_skip) | ((first | ((with_reducible refine kIx ?_); first | (refine t_ixa rfl rfl rfl ?_; (try simp only [Nat.mul_one])) | (refine t_ixaA rfl rfl rfl ?_; (try simp only [Nat.mul_one]))) | ((with_reducible refine kFd ?_); first | refine t_fda0 rfl rfl ?_ | (refine t_fda rfl rfl ?_; (try simp only [Nat.zero_add, Nat.reduceAdd]))) | ((with_reducible refine kLd ?_); first | refine t_loadR hL rfl rfl ?_ | refine t_loadW hL rfl rfl ?_ | refine t_load2 hL rfl rfl ?_ | refine t_load1 hL rfl rfl ?_ | refine t_loadV hL.vw rfl rfl ?_ | refine t_loadV1 hL.vw rfl rfl ?_) | ((with_reducible refine kSt ?_); first | (refine t_storeR hL rfl rfl rfl ?_; clear hL; intro _ hL; simp only [zq2, zq3] at hL) | ((first | refine t_store hL rfl rfl rfl ?_ | refine t_sts hL rfl rfl rfl ?_ | refine t_sti hL rfl rfl rfl ?_ | refine t_stb hL rfl rfl rfl ?_ | refine t_store1 hL rfl rfl rfl ?_); clear hL; intro _ hL; simp only [splice, zq1, zq2, zq3] at hL)) | ((with_reducible refine kBx ?_); (refine t_box hL rfl rfl ?_; clear hL; intro _ _ hL _)) | ((with_reducible refine kAl ?_); (refine t_alloc hL rfl ?_; clear hL; intro _ _ hL _))); simp only [Act.put, zq1, zq2, zq3]))
    refine (l_sameCuts _ _ cu' _ _ hL.vw (CutL.le a2 leX) (CutL.le b2 leX) K1.out).mono ?_
    rintro e W1 ⟨_, m1, rfl, hE, hM1, hV, rfl⟩
    replace hL := hL.call hE (by assumption) hV; clear hE hV
    go_wp2_with (first | ((with_reducible refine kAny ?_); go_skip) | ((first | ((with_reducible refine kIx ?_); first | (refine t_ixa rfl rfl rfl ?_; (try simp only [Nat.mul_one])) | (refine t_ixaA rfl rfl rfl ?_; (try simp only [Nat.mul_one]))) | ((with_reducible refine kFd ?_); first | refine t_fda0 rfl rfl ?_ | (refine t_fda rfl rfl ?_; (try simp only [Nat.zero_add, Nat.reduceAdd]))) | ((with_reducible refine kLd ?_); first | refine t_loadR hL rfl rfl ?_ | refine t_loadW hL rfl rfl ?_ | refine t_load2 hL rfl rfl ?_ | refine t_load1 hL rfl rfl ?_ | refine t_loadV hL.vw rfl rfl ?_ | refine t_loadV1 hL.vw rfl rfl ?_) | ((with_reducible refine kSt ?_); first | (refine t_storeR hL rfl rfl rfl ?_; clear hL; intro _ hL; simp only [zq2, zq3] at hL) | ((first | refine t_store hL rfl rfl rfl ?_ | refine t_sts hL rfl rfl rfl ?_ | refine t_sti hL rfl rfl rfl ?_ | refine t_stb hL rfl rfl rfl ?_ | refine t_store1 hL rfl rfl rfl ?_); clear hL; intro _ hL; simp only [splice, zq1, zq2, zq3] at hL)) | ((with_reducible refine kBx ?_); (refine t_box hL rfl rfl ?_; clear hL; intro _ _ hL _)) | ((with_reducible refine kAl ?_); (refine t_alloc hL rfl ?_; clear hL; intro _ _ hL _))); simp only [Act.put, zq1, zq2, zq3]))
    refine (KE.out _ _ _ _ hL.vw (DecL.le a4 leX) (DecL.le b4 leX)).mono ?_
    rintro e W2 ⟨_, m2, rfl, hE, hM2, hV, rfl⟩
    replace hL := hL.call hE (by assumption) hV; clear hE hV
    go_wp2_with (first | ((with_reducible refine kAny ?_); go_skip) | ((first | ((with_reducible refine kIx ?_); first | (refine t_ixa rfl rfl rfl ?_; (try simp only [Nat.mul_one])) | (refine t_ixaA rfl rfl rfl ?_; (try simp only [Nat.mul_one]))) | ((with_reducible refine kFd ?_); first | refine t_fda0 rfl rfl ?_ | (refine t_fda rfl rfl ?_; (try simp only [Nat.zero_add, Nat.reduceAdd]))) | ((with_reducible refine kLd ?_); first | refine t_loadR hL rfl rfl ?_ | refine t_loadW hL rfl rfl ?_ | refine t_load2 hL rfl rfl ?_ | refine t_load1 hL rfl rfl ?_ | refine t_loadV hL.vw rfl rfl ?_ | refine t_loadV1 hL.vw rfl rfl ?_) | ((with_reducible refine kSt ?_); first | (refine t_storeR hL rfl rfl rfl ?_; clear hL; intro _ hL; simp only [zq2, zq3] at hL) | ((first | refine t_store hL rfl rfl rfl ?_ | refine t_sts hL rfl rfl rfl ?_ | refine t_sti hL rfl rfl rfl ?_ | refine t_stb hL rfl rfl rfl ?_ | refine t_store1 hL rfl rfl rfl ?_); clear hL; intro _ hL; simp only [splice, zq1, zq2, zq3] at hL)) | ((with_reducible refine kBx ?_); (refine t_box hL rfl rfl ?_; clear hL; intro _ _ hL _)) | ((with_reducible refine kAl ?_); (refine t_alloc hL rfl ?_; clear hL; intro _ _ hL _))); simp only [Act.put, zq1, zq2, zq3]))
    exact fin_aggT hL Tryz.results30 rfl rfl loX ag_Prices (by exact rfl) rfl (hL.sub (List.nil_sublist _)) rfl
  · have KE : Hid (∀ w m a b, Vw m w → DecL m a de → DecL m b de' → Calls Tryz.prog 93 #[a, b] w (RetV w m fun _ r => r = .bool false)) := by
      show ∀ w m a b, _
      intro w m a b hV h1 h2
      have := s_EqualDecs a b de de' w m hV h1 h2 K2.out K3.out
      rwa [decide_eq_false hd] at this
    clear h hd
    go_enter Tryz.func30, Tryz.ntmps30
    go_wp2_with (first | ((with_reducible refine kAny ?_); go_skip) | ((first | ((with_reducible refine kIx ?_); first | (refine t_ixa rfl rfl rfl ?_; (try simp only [Nat.mul_one])) | (refine t_ixaA rfl rfl rfl ?_; (try simp only [Nat.mul_one]))) | ((with_reducible refine kFd ?_); first | refine t_fda0 rfl rfl ?_ | (refine t_fda rfl rfl ?_; (try simp only [Nat.zero_add, Nat.reduceAdd]))) | ((with_reducible refine kLd ?_); first | refine t_loadR hL rfl rfl ?_ | refine t_loadW hL rfl rfl ?_ | refine t_load2 hL rfl rfl ?_ | refine t_load1 hL rfl rfl ?_ | refine t_loadV hL.vw rfl rfl ?_ | refine t_loadV1 hL.vw rfl rfl ?_) | ((with_reducible refine kSt ?_); first | (refine t_storeR hL rfl rfl rfl ?_; clear hL; intro _ hL; simp only [zq2, zq3] at hL) | ((first | refine t_store hL rfl rfl rfl ?_ | refine t_sts hL rfl rfl rfl ?_ | refine t_sti hL rfl rfl rfl ?_ | refine t_stb hL rfl rfl rfl ?_ | refine t_store1 hL rfl rfl rfl ?_); clear hL; intro _ hL; simp only [splice, zq1, zq2, zq3] at hL)) | ((with_reducible refine kBx ?_); (refine t_box hL rfl rfl ?_; clear hL; intro _ _ hL _)) | ((with_reducible refine kAl ?_); (refine t_alloc hL rfl ?_; clear hL; intro _ _ hL _))); simp only [Act.put, zq1, zq2, zq3]))
    refine (l_sameCuts _ _ cu' _ _ hL.vw (CutL.le a2 leX) (CutL.le b2 leX) K1.out).mono ?_
    rintro e W1 ⟨_, m1, rfl, hE, hM1, hV, rfl⟩
    replace hL := hL.call hE (by assumption) hV; clear hE hV
    go_wp2_with (first | ((with_reducible refine kAny ?_); go_skip) | ((first | ((with_reducible refine kIx ?_); first | (refine t_ixa rfl rfl rfl ?_; (try simp only [Nat.mul_one])) | (refine t_ixaA rfl rfl rfl ?_; (try simp only [Nat.mul_one]))) | ((with_reducible refine kFd ?_); first | refine t_fda0 rfl rfl ?_ | (refine t_fda rfl rfl ?_; (try simp only [Nat.zero_add, Nat.reduceAdd]))) | ((with_reducible refine kLd ?_); first | refine t_loadR hL rfl rfl ?_ | refine t_loadW hL rfl rfl ?_ | refine t_load2 hL rfl rfl ?_ | refine t_load1 hL rfl rfl ?_ | refine t_loadV hL.vw rfl rfl ?_ | refine t_loadV1 hL.vw rfl rfl ?_) | ((with_reducible refine kSt ?_); first | (refine t_storeR hL rfl rfl rfl ?_; clear hL; intro _ hL; simp only [zq2, zq3] at hL) | ((first | refine t_store hL rfl rfl rfl ?_ | refine t_sts hL rfl rfl rfl ?_ | refine t_sti hL rfl rfl rfl ?_ | refine t_stb hL rfl rfl rfl ?_ | refine t_store1 hL rfl rfl rfl ?_); clear hL; intro _ hL; simp only [splice, zq1, zq2, zq3] at hL)) | ((with_reducible refine kBx ?_); (refine t_box hL rfl rfl ?_; clear hL; intro _ _ hL _)) | ((with_reducible refine kAl ?_); (refine t_alloc hL rfl ?_; clear hL; intro _ _ hL _))); simp only [Act.put, zq1, zq2, zq3]))
    refine (KE.out _ _ _ _ hL.vw (DecL.le a4 leX) (DecL.le b4 leX)).mono ?_
    rintro e W2 ⟨_, m2, rfl, hE, hM2, hV, rfl⟩
    replace hL := hL.call hE (by assumption) hV; clear hE hV
    go_wp2_with (first | ((with_reducible refine kAny ?_); go_skip) | ((first | ((with_reducible refine kIx ?_); first | (refine t_ixa rfl rfl rfl ?_; (try simp only [Nat.mul_one])) | (refine t_ixaA rfl rfl rfl ?_; (try simp only [Nat.mul_one]))) | ((with_reducible refine kFd ?_); first | refine t_fda0 rfl rfl ?_ | (refine t_fda rfl rfl ?_; (try simp only [Nat.zero_add, Nat.reduceAdd]))) | ((with_reducible refine kLd ?_); first | refine t_loadR hL rfl rfl ?_ | refine t_loadW hL rfl rfl ?_ | refine t_load2 hL rfl rfl ?_ | refine t_load1 hL rfl rfl ?_ | refine t_loadV hL.vw rfl rfl ?_ | refine t_loadV1 hL.vw rfl rfl ?_) | ((with_reducible refine kSt ?_); first | (refine t_storeR hL rfl rfl rfl ?_; clear hL; intro _ hL; simp only [zq2, zq3] at hL) | ((first | refine t_store hL rfl rfl rfl ?_ | refine t_sts hL rfl rfl rfl ?_ | refine t_sti hL rfl rfl rfl ?_ | refine t_stb hL rfl rfl rfl ?_ | refine t_store1 hL rfl rfl rfl ?_); clear hL; intro _ hL; simp only [splice, zq1, zq2, zq3] at hL)) | ((with_reducible refine kBx ?_); (refine t_box hL rfl rfl ?_; clear hL; intro _ _ hL _)) | ((with_reducible refine kAl ?_); (refine t_alloc hL rfl ?_; clear hL; intro _ _ hL _))); simp only [Act.put, zq1, zq2, zq3]))
    exact fin_aggT hL Tryz.results30 rfl rfl loX ag_Prices (by exact rfl) rfl (hL.sub (List.nil_sublist _)) rfl
end Go.Proofs.YtmhkmmmompediaaGreat

/- Contracts of pairingref27.Mix where it refuses. -/
namespace Go.Proofs.YtmhkmmmompediaaGreat
open Go.RowKit

set_option maxRecDepth 100000 in
set_option maxHeartbeats 16000000 in
theorem r_Mix_shape (va vb : Value) (p q : Pr) (num den : Int) (w m : World) (hV : Vw m w) (ha : PricesR m va p) (hb : PricesR m vb q) (h1 : ¬ den < 1) (h2 : ¬ num < 0) (h3 : ¬ num > den)
    (hfl : q.fl.length = p.fl.length) (hcd : p.cd.length = p.cu.length) (hcd' : q.cd.length = p.cu.length) (hcu : q.cu = p.cu) (hl1 : p.cu.length ≤ 1000) (hl2 : p.de.length ≤ 1000) (hl3 : q.de.length ≤ 1000) (h : ¬ (p.de = q.de ∧ p.fr = q.fr)) :
    Calls Tryz.prog 31 #[va, vb, .int .i64 num, .int .i64 den] w (RetV w m fun _ r => r = .tuple #[zPr, .int .i64 12]) := by
  obtain ⟨fl, cu, cd, de, fr⟩ := p
  obtain ⟨fl', cu', cd', de', fr'⟩ := q
  obtain ⟨a, b, c, d, rfl, a1, a2, a3, a4⟩ := ha
  obtain ⟨a', b', c', d', rfl, b1, b2, b3, b4⟩ := hb
  simp only at *
  subst hcu
  obtain ⟨A1, c1, rfl, -, a1⟩ := a1.lit
  obtain ⟨A2, c2, rfl, -, a2⟩ := a2.lit
  obtain ⟨A3, c3, rfl, -, a3⟩ := a3.lit
  obtain ⟨A4, c4, rfl, -, a4⟩ := a4.lit
  obtain ⟨B1, d1, rfl, -, b1⟩ := b1.lit
  obtain ⟨B2, d2, rfl, -, b2⟩ := b2.lit
  obtain ⟨B3, d3, rfl, -, b3⟩ := b3.lit
  obtain ⟨B4, d4, rfl, -, b4⟩ := b4.lit
  have K1 : Hid (cu'.length ≤ 1000000) := by show _ ≤ _; omega
  have K2 : Hid (de.length ≤ 1000000) := by show _ ≤ _; omega
  have K3 : Hid (de'.length ≤ 1000000) := by show _ ≤ _; omega
  clear a1 b1 a3 b3 hl1 hl2 hl3
  rw [hfl, hcd, hcd']
  clear hfl hcd hcd'
  generalize fl.length = nf
  have e1 : ((nf : Int) != (nf : Int)) = false := by simp
  have e2 : ((cu'.length : Int) != (cu'.length : Int)) = false := by simp
  have hL := Loc.start hV
  clear hV
  by_cases hd : de = de'
  · have hf : fr ≠ fr' := fun e => h ⟨hd, e⟩
    have hf' : (!(fr == fr')) = true := by simpa using hf
    have hf2 : (fr != fr') = true := by simpa using hf
    have KE : Hid (∀ w m a b, Vw m w → DecL m a de → DecL m b de' → Calls Tryz.prog 59 #[a, b] w (RetV w m fun _ r => r = .bool true)) := by
      show ∀ w m a b, _
      intro w m a b hV h1 h2
      have := r_SameDecisions a b de de' w m hV h1 h2 K2.out K3.out
      rwa [decide_eq_true hd] at this
    clear h hd hf
    go_enter Tryz.func31, Tryz.ntmps31
    go_wp2_with (first | ((with_reducible refine kAny ?_); go_skip) | ((first | ((with_reducible refine kIx ?_); first | (refine t_ixa rfl rfl rfl ?_; (try simp only [Nat.mul_one])) | (refine t_ixaA rfl rfl rfl ?_; (try simp only [Nat.mul_one]))) | ((with_reducible refine kFd ?_); first | refine t_fda0 rfl rfl ?_ | (refine t_fda rfl rfl ?_; (try simp only [Nat.zero_add, Nat.reduceAdd]))) | ((with_reducible refine kLd ?_); first | refine t_loadR hL rfl rfl ?_ | refine t_loadW hL rfl rfl ?_ | refine t_load2 hL rfl rfl ?_ | refine t_load1 hL rfl rfl ?_ | refine t_loadV hL.vw rfl rfl ?_ | refine t_loadV1 hL.vw rfl rfl ?_) | ((with_reducible refine kSt ?_); first | (refine t_storeR hL rfl rfl rfl ?_; clear hL; intro _ hL; simp only [zq2, zq3] at hL) | ((first | refine t_store hL rfl rfl rfl ?_ | refine t_sts hL rfl rfl rfl ?_ | refine t_sti hL rfl rfl rfl ?_ | refine t_stb hL rfl rfl rfl ?_ | refine t_store1 hL rfl rfl rfl ?_); clear hL; intro _ hL; simp only [splice, zq1, zq2, zq3] at hL)) | ((with_reducible refine kBx ?_); (refine t_box hL rfl rfl ?_; clear hL; intro _ _ hL _)) | ((with_reducible refine kAl ?_); (refine t_alloc hL rfl ?_; clear hL; intro _ _ hL _))); simp only [Act.put, zq1, zq2, zq3]))
    refine (r_SameCuts _ _ cu' _ _ hL.vw (CutL.le a2 leX) (CutL.le b2 leX) K1.out).mono ?_
    rintro e W1 ⟨_, m1, rfl, hE, hM1, hV, rfl⟩
    replace hL := hL.call hE (by assumption) hV; clear hE hV
    go_wp2_with (first | ((with_reducible refine kAny ?_); go_skip) | ((first | ((with_reducible refine kIx ?_); first | (refine t_ixa rfl rfl rfl ?_; (try simp only [Nat.mul_one])) | (refine t_ixaA rfl rfl rfl ?_; (try simp only [Nat.mul_one]))) | ((with_reducible refine kFd ?_); first | refine t_fda0 rfl rfl ?_ | (refine t_fda rfl rfl ?_; (try simp only [Nat.zero_add, Nat.reduceAdd]))) | ((with_reducible refine kLd ?_); first | refine t_loadR hL rfl rfl ?_ | refine t_loadW hL rfl rfl ?_ | refine t_load2 hL rfl rfl ?_ | refine t_load1 hL rfl rfl ?_ | refine t_loadV hL.vw rfl rfl ?_ | refine t_loadV1 hL.vw rfl rfl ?_) | ((with_reducible refine kSt ?_); first | (refine t_storeR hL rfl rfl rfl ?_; clear hL; intro _ hL; simp only [zq2, zq3] at hL) | ((first | refine t_store hL rfl rfl rfl ?_ | refine t_sts hL rfl rfl rfl ?_ | refine t_sti hL rfl rfl rfl ?_ | refine t_stb hL rfl rfl rfl ?_ | refine t_store1 hL rfl rfl rfl ?_); clear hL; intro _ hL; simp only [splice, zq1, zq2, zq3] at hL)) | ((with_reducible refine kBx ?_); (refine t_box hL rfl rfl ?_; clear hL; intro _ _ hL _)) | ((with_reducible refine kAl ?_); (refine t_alloc hL rfl ?_; clear hL; intro _ _ hL _))); simp only [Act.put, zq1, zq2, zq3]))
    refine (KE.out _ _ _ _ hL.vw (DecL.le a4 leX) (DecL.le b4 leX)).mono ?_
    rintro e W2 ⟨_, m2, rfl, hE, hM2, hV, rfl⟩
    replace hL := hL.call hE (by assumption) hV; clear hE hV
    go_wp2_with (first | ((with_reducible refine kAny ?_); go_skip) | ((first | ((with_reducible refine kIx ?_); first | (refine t_ixa rfl rfl rfl ?_; (try simp only [Nat.mul_one])) | (refine t_ixaA rfl rfl rfl ?_; (try simp only [Nat.mul_one]))) | ((with_reducible refine kFd ?_); first | refine t_fda0 rfl rfl ?_ | (refine t_fda rfl rfl ?_; (try simp only [Nat.zero_add, Nat.reduceAdd]))) | ((with_reducible refine kLd ?_); first | refine t_loadR hL rfl rfl ?_ | refine t_loadW hL rfl rfl ?_ | refine t_load2 hL rfl rfl ?_ | refine t_load1 hL rfl rfl ?_ | refine t_loadV hL.vw rfl rfl ?_ | refine t_loadV1 hL.vw rfl rfl ?_) | ((with_reducible refine kSt ?_); first | (refine t_storeR hL rfl rfl rfl ?_; clear hL; intro _ hL; simp only [zq2, zq3] at hL) | ((first | refine t_store hL rfl rfl rfl ?_ | refine t_sts hL rfl rfl rfl ?_ | refine t_sti hL rfl rfl rfl ?_ | refine t_stb hL rfl rfl rfl ?_ | refine t_store1 hL rfl rfl rfl ?_); clear hL; intro _ hL; simp only [splice, zq1, zq2, zq3] at hL)) | ((with_reducible refine kBx ?_); (refine t_box hL rfl rfl ?_; clear hL; intro _ _ hL _)) | ((with_reducible refine kAl ?_); (refine t_alloc hL rfl ?_; clear hL; intro _ _ hL _))); simp only [Act.put, zq1, zq2, zq3]))
    exact fin_aggT hL Tryz.results31 rfl rfl loX ag_Prices (by exact rfl) rfl (hL.sub (List.nil_sublist _)) rfl
  · have KE : Hid (∀ w m a b, Vw m w → DecL m a de → DecL m b de' → Calls Tryz.prog 59 #[a, b] w (RetV w m fun _ r => r = .bool false)) := by
      show ∀ w m a b, _
      intro w m a b hV h1 h2
      have := r_SameDecisions a b de de' w m hV h1 h2 K2.out K3.out
      rwa [decide_eq_false hd] at this
    clear h hd
    go_enter Tryz.func31, Tryz.ntmps31
    go_wp2_with (first | ((with_reducible refine kAny ?_); go_skip) | ((first | ((with_reducible refine kIx ?_); first | (refine t_ixa rfl rfl rfl ?_; (try simp only [Nat.mul_one])) | (refine t_ixaA rfl rfl rfl ?_; (try simp only [Nat.mul_one]))) | ((with_reducible refine kFd ?_); first | refine t_fda0 rfl rfl ?_ | (refine t_fda rfl rfl ?_; (try simp only [Nat.zero_add, Nat.reduceAdd]))) | ((with_reducible refine kLd ?_); first | refine t_loadR hL rfl rfl ?_ | refine t_loadW hL rfl rfl ?_ | refine t_load2 hL rfl rfl ?_ | refine t_load1 hL rfl rfl ?_ | refine t_loadV hL.vw rfl rfl ?_ | refine t_loadV1 hL.vw rfl rfl ?_) | ((with_reducible refine kSt ?_); first | (refine t_storeR hL rfl rfl rfl ?_; clear hL; intro _ hL; simp only [zq2, zq3] at hL) | ((first | refine t_store hL rfl rfl rfl ?_ | refine t_sts hL rfl rfl rfl ?_ | refine t_sti hL rfl rfl rfl ?_ | refine t_stb hL rfl rfl rfl ?_ | refine t_store1 hL rfl rfl rfl ?_); clear hL; intro _ hL; simp only [splice, zq1, zq2, zq3] at hL)) | ((with_reducible refine kBx ?_); (refine t_box hL rfl rfl ?_; clear hL; intro _ _ hL _)) | ((with_reducible refine kAl ?_); (refine t_alloc hL rfl ?_; clear hL; intro _ _ hL _))); simp only [Act.put, zq1, zq2, zq3]))
    refine (r_SameCuts _ _ cu' _ _ hL.vw (CutL.le a2 leX) (CutL.le b2 leX) K1.out).mono ?_
    rintro e W1 ⟨_, m1, rfl, hE, hM1, hV, rfl⟩
    replace hL := hL.call hE (by assumption) hV; clear hE hV
    go_wp2_with (first | ((with_reducible refine kAny ?_); go_skip) | ((first | ((with_reducible refine kIx ?_); first | (refine t_ixa rfl rfl rfl ?_; (try simp only [Nat.mul_one])) | (refine t_ixaA rfl rfl rfl ?_; (try simp only [Nat.mul_one]))) | ((with_reducible refine kFd ?_); first | refine t_fda0 rfl rfl ?_ | (refine t_fda rfl rfl ?_; (try simp only [Nat.zero_add, Nat.reduceAdd]))) | ((with_reducible refine kLd ?_); first | refine t_loadR hL rfl rfl ?_ | refine t_loadW hL rfl rfl ?_ | refine t_load2 hL rfl rfl ?_ | refine t_load1 hL rfl rfl ?_ | refine t_loadV hL.vw rfl rfl ?_ | refine t_loadV1 hL.vw rfl rfl ?_) | ((with_reducible refine kSt ?_); first | (refine t_storeR hL rfl rfl rfl ?_; clear hL; intro _ hL; simp only [zq2, zq3] at hL) | ((first | refine t_store hL rfl rfl rfl ?_ | refine t_sts hL rfl rfl rfl ?_ | refine t_sti hL rfl rfl rfl ?_ | refine t_stb hL rfl rfl rfl ?_ | refine t_store1 hL rfl rfl rfl ?_); clear hL; intro _ hL; simp only [splice, zq1, zq2, zq3] at hL)) | ((with_reducible refine kBx ?_); (refine t_box hL rfl rfl ?_; clear hL; intro _ _ hL _)) | ((with_reducible refine kAl ?_); (refine t_alloc hL rfl ?_; clear hL; intro _ _ hL _))); simp only [Act.put, zq1, zq2, zq3]))
    refine (KE.out _ _ _ _ hL.vw (DecL.le a4 leX) (DecL.le b4 leX)).mono ?_
    rintro e W2 ⟨_, m2, rfl, hE, hM2, hV, rfl⟩
    replace hL := hL.call hE (by assumption) hV; clear hE hV
    go_wp2_with (first | ((with_reducible refine kAny ?_); go_skip) | ((first | ((with_reducible refine kIx ?_); first | (refine t_ixa rfl rfl rfl ?_; (try simp only [Nat.mul_one])) | (refine t_ixaA rfl rfl rfl ?_; (try simp only [Nat.mul_one]))) | ((with_reducible refine kFd ?_); first | refine t_fda0 rfl rfl ?_ | (refine t_fda rfl rfl ?_; (try simp only [Nat.zero_add, Nat.reduceAdd]))) | ((with_reducible refine kLd ?_); first | refine t_loadR hL rfl rfl ?_ | refine t_loadW hL rfl rfl ?_ | refine t_load2 hL rfl rfl ?_ | refine t_load1 hL rfl rfl ?_ | refine t_loadV hL.vw rfl rfl ?_ | refine t_loadV1 hL.vw rfl rfl ?_) | ((with_reducible refine kSt ?_); first | (refine t_storeR hL rfl rfl rfl ?_; clear hL; intro _ hL; simp only [zq2, zq3] at hL) | ((first | refine t_store hL rfl rfl rfl ?_ | refine t_sts hL rfl rfl rfl ?_ | refine t_sti hL rfl rfl rfl ?_ | refine t_stb hL rfl rfl rfl ?_ | refine t_store1 hL rfl rfl rfl ?_); clear hL; intro _ hL; simp only [splice, zq1, zq2, zq3] at hL)) | ((with_reducible refine kBx ?_); (refine t_box hL rfl rfl ?_; clear hL; intro _ _ hL _)) | ((with_reducible refine kAl ?_); (refine t_alloc hL rfl ?_; clear hL; intro _ _ hL _))); simp only [Act.put, zq1, zq2, zq3]))
    exact fin_aggT hL Tryz.results31 rfl rfl loX ag_Prices (by exact rfl) rfl (hL.sub (List.nil_sublist _)) rfl
end Go.Proofs.YtmhkmmmompediaaGreat

/- Contract of lagrange.Mix where it mixes. -/
namespace Go.Proofs.YtmhkmmmompediaaGreat
open Go.RowKit

set_option maxRecDepth 100000 in
set_option maxHeartbeats 16000000 in
theorem l_Mix_ok (va vb : Value) (p q : Pr) (num den : Int) (w m : World) (hV : Vw m w) (ha : PricesR m va p) (hb : PricesR m vb q) (h1 : ¬ den < 1) (h2 : ¬ num < 0) (h3 : ¬ num > den) (h4 : den ≤ 1000)
    (okp : p.ok) (tp : p.tn) (tq : q.tn)
    (hfl : q.fl.length = p.fl.length) (hcd : p.cd.length = p.cu.length) (hcd' : q.cd.length = p.cu.length) (hcu : q.cu = p.cu) (hde : q.de = p.de) (hfr : q.fr = p.fr) :
    Calls Tryz.prog 30 #[va, vb, .int .i64 num, .int .i64 den] w (RetV w m fun m' r => ∃ v, r = .tuple #[v, .int .i64 0] ∧ PricesR m' v (mixP (Rat.divInt num den) (Rat.divInt (den - num) den) p q)) := by
  obtain ⟨fl, cu, cd, de, fr⟩ := p
  obtain ⟨fl', cu', cd', de', fr'⟩ := q
  have ha' := Lib.hid ha
  obtain ⟨a, b, c, d, rfl, a1, a2, a3, a4⟩ := ha
  obtain ⟨a', b', c', d', rfl, b1, b2, b3, b4⟩ := hb
  simp only at a1 a2 a3 a4 b1 b2 b3 b4 hfl hcd hcd' hcu hde hfr
  subst hcu hde hfr
  obtain ⟨A1, c1, rfl, -, a1⟩ := a1.lit
  obtain ⟨A2, c2, rfl, -, a2⟩ := a2.lit
  obtain ⟨A3, c3, rfl, -, a3⟩ := a3.lit
  obtain ⟨A4, c4, rfl, -, a4⟩ := a4.lit
  obtain ⟨B1, d1, rfl, -, b1⟩ := b1.lit
  obtain ⟨B2, d2, rfl, -, b2⟩ := b2.lit
  obtain ⟨B3, d3, rfl, -, b3⟩ := b3.lit
  obtain ⟨B4, d4, rfl, -, b4⟩ := b4.lit
  have OK := Lib.hid okp
  have TP := Lib.hid tp
  have TQ := Lib.hid tq
  have K1 : Hid (cu'.length ≤ 1000000) := by show _ ≤ _; have := okp.nc; simp only at this; omega
  have K2 : Hid (de'.length ≤ 1000000) := by show _ ≤ _; have := okp.ne; simp only at this; omega
  clear okp tp tq
  have KE : Hid (∀ w m a b, Vw m w → DecL m a de' → DecL m b de' → Calls Tryz.prog 93 #[a, b] w (RetV w m fun _ r => r = .bool true)) := by
    show ∀ w m a b, _
    intro w m a b hV h1 h2
    have := s_EqualDecs a b de' de' w m hV h1 h2 K2.out K2.out
    rwa [decide_eq_true rfl] at this
  have KF1 : Hid (∀ w m, Vw m w → Calls Tryz.prog 94 #[.int .i64 num, .int .i64 den] w (RetV w m fun m' v => ∃ r, v = .tuple #[r, .int .i64 0] ∧ FracC m' r (Rat.divInt num den))) := by
    show ∀ w m, _
    exact fun w m hV => q_FromInts num den w m hV (by omega) (by omega) (by omega)
  have KF2 : Hid (∀ w m, Vw m w → Calls Tryz.prog 94 #[.int .i64 (den - num), .int .i64 den] w (RetV w m fun m' v => ∃ r, v = .tuple #[r, .int .i64 0] ∧ FracC m' r (Rat.divInt (den - num) den))) := by
    show ∀ w m, _
    exact fun w m hV => q_FromInts (den - num) den w m hV (by omega) (by omega) (by omega)
  have TS : Hid (Tn 1000 (Rat.divInt num den)) := by show Tn _ _; exact Tn.divInt (by omega) (by omega) (by omega)
  have TT : Hid (Tn 1000 (Rat.divInt (den - num) den)) := by show Tn _ _; exact Tn.divInt (by omega) (by omega) (by omega)
  have hw : wrap64 (den - num) = den - num := by unfold wrap64; omega
  have KC : Hid (∀ w m', Vw m' w → Le m m' → Calls Tryz.prog 84 #[.agg #[.slice A1 fl.length c1, .slice A2 cu'.length c2, .slice A3 cd.length c3, .slice A4 de'.length c4, .bool fr']] w (CopyPost w m' ⟨fl, cu', cd, de', fr'⟩)) := by
    show ∀ w m', _
    exact fun w m' hV hle => l_copyPrices _ _ w m' hV (ha'.out.le hle) OK.out
  have E1 : Hid (fl.length = fl.length) := rfl
  rw [hfl] at b1 ⊢
  rw [hcd'] at b3 ⊢
  rw [hcd] at a3 KC ⊢
  have E1' := Lib.hid hfl
  have E3 := Lib.hid hcd
  have E3' := Lib.hid hcd'
  clear hfl hcd hcd' E1
  generalize hnf : fl.length = nf at *
  have E1 := Lib.hid hnf
  generalize hnc : cu'.length = nc at *
  have E2 := Lib.hid hnc
  have hnf6 : nf ≤ 1000 := by have := OK.out.nf; simp only at this; omega
  have hnc6 : nc ≤ 1000 := by have := OK.out.nc; simp only at this; omega
  clear hnf hnc
  have e1 : ((nf : Int) != (nf : Int)) = false := by simp
  have e2 : ((nc : Int) != (nc : Int)) = false := by simp
  have e3 : (!(fr' == fr')) = false := by simp
  have e4 : (fr' != fr') = false := by simp
  generalize Rat.divInt num den = s at *
  generalize Rat.divInt (den - num) den = t at *
  have hL := Loc.start hV
  clear hV
  go_enter Tryz.func30, Tryz.ntmps30
  go_upto_region 0 with (fail)
  refine wp_region_lit ?_
  refine t_box hL rfl rfl ?_; clear hL; intro Wh4 mh4 hL eh4; simp only [Act.put, zq1, zq2, zq3]
  refine t_box hL rfl rfl ?_; clear hL; intro Wh5 mh5 hL eh5; simp only [Act.put, zq1, zq2, zq3]
  refine t_alloc hL rfl ?_; clear hL; intro Wh8 mh8 hL eh8; simp only [Act.put, zq1, zq2, zq3]
  go_wp2_with (first | ((with_reducible refine kAny ?_); go_skip) | ((first | ((with_reducible refine kIx ?_); first | (refine t_ixa rfl rfl rfl ?_; (try simp only [Nat.mul_one])) | (refine t_ixaA rfl rfl rfl ?_; (try simp only [Nat.mul_one]))) | ((with_reducible refine kFd ?_); first | refine t_fda0 rfl rfl ?_ | (refine t_fda rfl rfl ?_; (try simp only [Nat.zero_add, Nat.reduceAdd]))) | ((with_reducible refine kLd ?_); first | refine t_loadR hL rfl rfl ?_ | refine t_loadW hL rfl rfl ?_ | refine t_load2 hL rfl rfl ?_ | refine t_load1 hL rfl rfl ?_ | refine t_loadV hL.vw rfl rfl ?_ | refine t_loadV1 hL.vw rfl rfl ?_) | ((with_reducible refine kSt ?_); first | (refine t_storeR hL rfl rfl rfl ?_; clear hL; intro _ hL; simp only [zq2, zq3] at hL) | ((first | refine t_store hL rfl rfl rfl ?_ | refine t_sts hL rfl rfl rfl ?_ | refine t_sti hL rfl rfl rfl ?_ | refine t_stb hL rfl rfl rfl ?_ | refine t_store1 hL rfl rfl rfl ?_); clear hL; intro _ hL; simp only [splice, zq1, zq2, zq3] at hL)) | ((with_reducible refine kBx ?_); (refine t_box hL rfl rfl ?_; clear hL; intro _ _ hL _)) | ((with_reducible refine kAl ?_); (refine t_alloc hL rfl ?_; clear hL; intro _ _ hL _))); simp only [Act.put, zq1, zq2, zq3]))
  refine (l_sameCuts _ _ cu' _ _ hL.vw (CutL.le a2 leX) (CutL.le b2 leX) (by rw [E2.out]; exact K1.out)).mono ?_
  rintro e Wc1 ⟨_, mc1, rfl, hE, hMc1, hV, rfl⟩
  replace hL := hL.call hE (by assumption) hV; clear hE hV
  go_wp2_with (first | ((with_reducible refine kAny ?_); go_skip) | ((first | ((with_reducible refine kIx ?_); first | (refine t_ixa rfl rfl rfl ?_; (try simp only [Nat.mul_one])) | (refine t_ixaA rfl rfl rfl ?_; (try simp only [Nat.mul_one]))) | ((with_reducible refine kFd ?_); first | refine t_fda0 rfl rfl ?_ | (refine t_fda rfl rfl ?_; (try simp only [Nat.zero_add, Nat.reduceAdd]))) | ((with_reducible refine kLd ?_); first | refine t_loadR hL rfl rfl ?_ | refine t_loadW hL rfl rfl ?_ | refine t_load2 hL rfl rfl ?_ | refine t_load1 hL rfl rfl ?_ | refine t_loadV hL.vw rfl rfl ?_ | refine t_loadV1 hL.vw rfl rfl ?_) | ((with_reducible refine kSt ?_); first | (refine t_storeR hL rfl rfl rfl ?_; clear hL; intro _ hL; simp only [zq2, zq3] at hL) | ((first | refine t_store hL rfl rfl rfl ?_ | refine t_sts hL rfl rfl rfl ?_ | refine t_sti hL rfl rfl rfl ?_ | refine t_stb hL rfl rfl rfl ?_ | refine t_store1 hL rfl rfl rfl ?_); clear hL; intro _ hL; simp only [splice, zq1, zq2, zq3] at hL)) | ((with_reducible refine kBx ?_); (refine t_box hL rfl rfl ?_; clear hL; intro _ _ hL _)) | ((with_reducible refine kAl ?_); (refine t_alloc hL rfl ?_; clear hL; intro _ _ hL _))); simp only [Act.put, zq1, zq2, zq3]))
  refine (KE.out _ _ _ _ hL.vw (DecL.le a4 leX) (DecL.le b4 leX)).mono ?_
  rintro e Wc2 ⟨_, mc2, rfl, hE, hMc2, hV, rfl⟩
  replace hL := hL.call hE (by assumption) hV; clear hE hV
  go_wp2_with (first | ((with_reducible refine kAny ?_); go_skip) | ((first | ((with_reducible refine kIx ?_); first | (refine t_ixa rfl rfl rfl ?_; (try simp only [Nat.mul_one])) | (refine t_ixaA rfl rfl rfl ?_; (try simp only [Nat.mul_one]))) | ((with_reducible refine kFd ?_); first | refine t_fda0 rfl rfl ?_ | (refine t_fda rfl rfl ?_; (try simp only [Nat.zero_add, Nat.reduceAdd]))) | ((with_reducible refine kLd ?_); first | refine t_loadR hL rfl rfl ?_ | refine t_loadW hL rfl rfl ?_ | refine t_load2 hL rfl rfl ?_ | refine t_load1 hL rfl rfl ?_ | refine t_loadV hL.vw rfl rfl ?_ | refine t_loadV1 hL.vw rfl rfl ?_) | ((with_reducible refine kSt ?_); first | (refine t_storeR hL rfl rfl rfl ?_; clear hL; intro _ hL; simp only [zq2, zq3] at hL) | ((first | refine t_store hL rfl rfl rfl ?_ | refine t_sts hL rfl rfl rfl ?_ | refine t_sti hL rfl rfl rfl ?_ | refine t_stb hL rfl rfl rfl ?_ | refine t_store1 hL rfl rfl rfl ?_); clear hL; intro _ hL; simp only [splice, zq1, zq2, zq3] at hL)) | ((with_reducible refine kBx ?_); (refine t_box hL rfl rfl ?_; clear hL; intro _ _ hL _)) | ((with_reducible refine kAl ?_); (refine t_alloc hL rfl ?_; clear hL; intro _ _ hL _))); simp only [Act.put, zq1, zq2, zq3]))
  refine (KF1.out _ _ hL.vw).mono ?_
  rintro e Wc3 ⟨_, mc3, rfl, hE, hMc3, hV, _, rfl, hs⟩
  replace hL := hL.call hE (by assumption) hV; clear hE hV
  obtain ⟨g10, A10, n10, c10, h10, B10, k10, d10, rfl, hs⟩ := hs.lit
  go_wp2_with (first | ((with_reducible refine kAny ?_); go_skip) | ((first | ((with_reducible refine kIx ?_); first | (refine t_ixa rfl rfl rfl ?_; (try simp only [Nat.mul_one])) | (refine t_ixaA rfl rfl rfl ?_; (try simp only [Nat.mul_one]))) | ((with_reducible refine kFd ?_); first | refine t_fda0 rfl rfl ?_ | (refine t_fda rfl rfl ?_; (try simp only [Nat.zero_add, Nat.reduceAdd]))) | ((with_reducible refine kLd ?_); first | refine t_loadR hL rfl rfl ?_ | refine t_loadW hL rfl rfl ?_ | refine t_load2 hL rfl rfl ?_ | refine t_load1 hL rfl rfl ?_ | refine t_loadV hL.vw rfl rfl ?_ | refine t_loadV1 hL.vw rfl rfl ?_) | ((with_reducible refine kSt ?_); first | (refine t_storeR hL rfl rfl rfl ?_; clear hL; intro _ hL; simp only [zq2, zq3] at hL) | ((first | refine t_store hL rfl rfl rfl ?_ | refine t_sts hL rfl rfl rfl ?_ | refine t_sti hL rfl rfl rfl ?_ | refine t_stb hL rfl rfl rfl ?_ | refine t_store1 hL rfl rfl rfl ?_); clear hL; intro _ hL; simp only [splice, zq1, zq2, zq3] at hL)) | ((with_reducible refine kBx ?_); (refine t_box hL rfl rfl ?_; clear hL; intro _ _ hL _)) | ((with_reducible refine kAl ?_); (refine t_alloc hL rfl ?_; clear hL; intro _ _ hL _))); simp only [Act.put, zq1, zq2, zq3]))
  refine (KF2.out _ _ hL.vw).mono ?_
  rintro e Wc4 ⟨_, mc4, rfl, hE, hMc4, hV, _, rfl, ht⟩
  replace hL := hL.call hE (by assumption) hV; clear hE hV
  obtain ⟨g12, A12, n12, c12, h12, B12, k12, d12, rfl, ht⟩ := ht.lit
  go_wp2_with (first | ((with_reducible refine kAny ?_); go_skip) | ((first | ((with_reducible refine kIx ?_); first | (refine t_ixa rfl rfl rfl ?_; (try simp only [Nat.mul_one])) | (refine t_ixaA rfl rfl rfl ?_; (try simp only [Nat.mul_one]))) | ((with_reducible refine kFd ?_); first | refine t_fda0 rfl rfl ?_ | (refine t_fda rfl rfl ?_; (try simp only [Nat.zero_add, Nat.reduceAdd]))) | ((with_reducible refine kLd ?_); first | refine t_loadR hL rfl rfl ?_ | refine t_loadW hL rfl rfl ?_ | refine t_load2 hL rfl rfl ?_ | refine t_load1 hL rfl rfl ?_ | refine t_loadV hL.vw rfl rfl ?_ | refine t_loadV1 hL.vw rfl rfl ?_) | ((with_reducible refine kSt ?_); first | (refine t_storeR hL rfl rfl rfl ?_; clear hL; intro _ hL; simp only [zq2, zq3] at hL) | ((first | refine t_store hL rfl rfl rfl ?_ | refine t_sts hL rfl rfl rfl ?_ | refine t_sti hL rfl rfl rfl ?_ | refine t_stb hL rfl rfl rfl ?_ | refine t_store1 hL rfl rfl rfl ?_); clear hL; intro _ hL; simp only [splice, zq1, zq2, zq3] at hL)) | ((with_reducible refine kBx ?_); (refine t_box hL rfl rfl ?_; clear hL; intro _ _ hL _)) | ((with_reducible refine kAl ?_); (refine t_alloc hL rfl ?_; clear hL; intro _ _ hL _))); simp only [Act.put, zq1, zq2, zq3]))
  refine (KC.out _ _ hL.vw leX).mono ?_
  rintro e Wc5 ⟨mc5, g1, g3, cur1, cur3, _, _, rfl, hLc, r1, r3, hcu5, hde5⟩
  have hMc5 := hLc.mext
  replace hL := hL.callL hLc
  clear hLc
  simp only [List.cons_append, List.nil_append] at hL
  obtain ⟨A5, c5, rfl, -, hcu5⟩ := hcu5.lit
  obtain ⟨A6, c6, rfl, -, hde5⟩ := hde5.lit
  simp only [E1.out, E2.out, E3.out]
  simp only [E2.out] at hcu5
  have hs5 : FracC mc5 (.agg #[.bool g10, .slice A10 n10 c10, .bool h10, .slice B10 k10 d10]) s := hs.le leX
  have ht5 : FracC mc5 (.agg #[.bool g12, .slice A12 n12 c12, .bool h12, .slice B12 k12 d12]) t := ht.le leX
  have hm5 := hL.mext
  replace r1 : Hid (FrRow mc5 cur1 (lst (mixL s t fl fl') fl 0)) := by show FrRow _ _ _; rw [lst_zero]; exact r1
  replace r3 : Hid (FrRow mc5 cur3 (lst (mixL s t cd cd') cd 0)) := by show FrRow _ _ _; rw [lst_zero]; exact r3
  go_wp2_with (first | ((with_reducible refine kAny ?_); go_skip) | ((first | ((with_reducible refine kIx ?_); first | (refine t_ixa rfl rfl rfl ?_; (try simp only [Nat.mul_one])) | (refine t_ixaA rfl rfl rfl ?_; (try simp only [Nat.mul_one]))) | ((with_reducible refine kFd ?_); first | refine t_fda0 rfl rfl ?_ | (refine t_fda rfl rfl ?_; (try simp only [Nat.zero_add, Nat.reduceAdd]))) | ((with_reducible refine kLd ?_); first | refine t_loadR hL rfl rfl ?_ | refine t_loadW hL rfl rfl ?_ | refine t_load2 hL rfl rfl ?_ | refine t_load1 hL rfl rfl ?_ | refine t_loadV hL.vw rfl rfl ?_ | refine t_loadV1 hL.vw rfl rfl ?_) | ((with_reducible refine kSt ?_); first | (refine t_storeR hL rfl rfl rfl ?_; clear hL; intro _ hL; simp only [zq2, zq3] at hL) | ((first | refine t_store hL rfl rfl rfl ?_ | refine t_sts hL rfl rfl rfl ?_ | refine t_sti hL rfl rfl rfl ?_ | refine t_stb hL rfl rfl rfl ?_ | refine t_store1 hL rfl rfl rfl ?_); clear hL; intro _ hL; simp only [splice, zq1, zq2, zq3] at hL)) | ((with_reducible refine kBx ?_); (refine t_box hL rfl rfl ?_; clear hL; intro _ _ hL _)) | ((with_reducible refine kAl ?_); (refine t_alloc hL rfl ?_; clear hL; intro _ _ hL _))); simp only [Act.put, zq1, zq2, zq3]))
  go_loopw [99] (fun i wr => ∃ (k : Nat) (mm : World) (cur : Array Value), k ≤ nf ∧ i = .int .i64 k ∧ Loc w m wr mm [(Wc5.heap.size, 31, #[.slice (some ⟨g1, 0, none⟩) nf nf, .slice A5 nc c5, .slice (some ⟨g3, 0, none⟩) nc nc, .slice A6 de'.length c6, .bool fr']), (g1, 39, cur), (g3, 39, cur3), (Wc4.heap.size, 39, #[.bool g12, .slice A12 n12 c12, .bool h12, .slice B12 k12 d12]), (Wc3.heap.size, 39, #[.bool g10, .slice A10 n10 c10, .bool h10, .slice B10 k10 d10]), (Wh5.heap.size, 31, #[.slice none 0 0, .slice none 0 0, .slice none 0 0, .slice none 0 0, .bool false]), (Wh4.heap.size, 31, #[.slice B1 nf d1, .slice B2 nc d2, .slice B3 nc d3, .slice B4 de'.length d4, .bool fr']), (w.heap.size, 31, #[.slice A1 nf c1, .slice A2 nc c2, .slice A3 nc c3, .slice A4 de'.length c4, .bool fr'])] ∧ Hid (FrRow mm cur (lst (mixL s t fl fl') fl k)) ∧ Ext mc5 mm) (fun i _ => nf - (intOf i).toNat)
  case atStart =>
    refine ⟨0, _, _, Nat.zero_le _, rfl, hL, ?_, ?_⟩
    · exact RowF.le FracC.mono r1.out leX
    · assumption
  case round =>
    clear hL r1
    obtain ⟨k, mm, cur, hk, rfl, hL, r1, hX⟩ := hrel
    have hM := hL.mext
    by_cases hlt : k < nf
    · obtain ⟨x, hx⟩ := at_some E1 hlt
      obtain ⟨y, hy⟩ := at_some E1' hlt
      have hll : (mixL s t fl fl').length = fl.length := mixL_len (by rw [E1.out, E1'.out])
      obtain ⟨g5, A5', n5, c5', h5, B5, k5, d5, hx5, hrd⟩ := RowF.at4 r1.out ((lst_get hll (by rw [E1.out]; omega)).trans hx)
      obtain ⟨b1', o1, g1', A1', n1, c1', g1'', B1', k1, d1', hA, hy1, hr1⟩ := FracL.at_ b1 hy
      replace hA := Lib.hid hA
      have TX : Hid (Tn 1000 x) := TP.out.fl x (List.mem_of_getElem? hx)
      have TY : Hid (Tn 1000 y) := TQ.out.fl y (List.mem_of_getElem? hy)
      have hsz := r1.out.size
      rw [lst_len hll (by rw [E1.out]; omega), E1.out] at hsz
      have hfit : 0 + k * 4 + 4 ≤ cur.size := by omega
      have HZ : Hid ((mixL s t fl fl')[k]? = some (s * x + t * y)) := mixL_at hx hy
      have HLL := Lib.hid hll
      replace hs5 := hs5.le hX.le
      replace ht5 := ht5.le hX.le
      clear hx hy hsz hll
      have S1 : Hid (Sm s.num s.den) := TS.out.sm (by omega)
      have S2 : Hid (Sm x.num x.den) := TX.out.sm (by omega)
      have S3 : Hid (Sm t.num t.den) := TT.out.sm (by omega)
      have S4 : Hid (Sm y.num y.den) := TY.out.sm (by omega)
      have S5 : Hid (Sm (s * x).num (s * x).den) := (TS.out.mul TX.out).sm (by omega)
      have S6 : Hid (Sm (t * y).num (t * y).den) := (TT.out.mul TY.out).sm (by omega)
      clear KC KF1 KF2 KE K1 K2 OK TP TQ TS TT TX TY
      go_upto_region 11 with ((first | ((with_reducible refine kAny ?_); go_skip) | ((first | ((with_reducible refine kIx ?_); first | (refine t_ixa rfl rfl rfl ?_; (try simp only [Nat.mul_one])) | (refine t_ixaA rfl rfl rfl ?_; (try simp only [Nat.mul_one]))) | ((with_reducible refine kFd ?_); first | refine t_fda0 rfl rfl ?_ | (refine t_fda rfl rfl ?_; (try simp only [Nat.zero_add, Nat.reduceAdd]))) | ((with_reducible refine kLd ?_); first | refine t_loadR hL rfl rfl ?_ | refine t_loadW hL rfl rfl ?_ | refine t_load2 hL rfl rfl ?_ | refine t_load1 hL rfl rfl ?_ | refine t_loadV hL.vw rfl rfl ?_ | refine t_loadV1 hL.vw rfl rfl ?_) | ((with_reducible refine kSt ?_); first | (refine t_storeR hL rfl rfl rfl ?_; clear hL; intro _ hL; simp only [zq2, zq3] at hL) | ((first | refine t_store hL rfl rfl rfl ?_ | refine t_sts hL rfl rfl rfl ?_ | refine t_sti hL rfl rfl rfl ?_ | refine t_stb hL rfl rfl rfl ?_ | refine t_store1 hL rfl rfl rfl ?_); clear hL; intro _ hL; simp only [splice, zq1, zq2, zq3] at hL)) | ((with_reducible refine kBx ?_); (refine t_box hL rfl rfl ?_; clear hL; intro _ _ hL _)) | ((with_reducible refine kAl ?_); (refine t_alloc hL rfl ?_; clear hL; intro _ _ hL _))); simp only [Act.put, zq1, zq2, zq3])))
      (try simp only [eq_self] at *)
      refine wp_region_by2 15 [false, false, false, false, false, false, false, false, false, false, false, false, false, false, false] [false, false, false, false, false, false, false, false, false, false, false, false, false, false, false] [(fun v _ _ => v = ?c11_0), (fun v _ _ => v = ?c11_1), (fun v _ _ => v = ?c11_2), (fun v _ _ => v = ?c11_3), (fun v _ _ => v = ?c11_4), (fun v _ _ => v = ?c11_5), (fun v _ _ => v = ?c11_6), (fun v _ _ => v = ?c11_7), (fun v _ _ => v = ?c11_8), Of (fun um v => FracC um v (s * x)), (fun v _ _ => v = ?c11_10), (fun v _ _ => v = ?c11_11), Of (fun um v => FracC um v (t * y)), Of (fun um v => FracC um v (s * x + t * y)), (fun v _ _ => v = ?c11_14)] hL.vw mixed [104, 105, 106, 107, 108, 109, 110, 111, 112, 113, 114, 115, 116, 117, 118] _ (by kernel_rfl) (fun vs => by simp only [lay, Act.put, zq1, zq2, zq3]; rfl) (by kernel_rfl) (by decide) (by decide) ?s11 ?l11 ?r11
      case s11 =>
        refine ⟨?_, ?_, ?_, ?_, ?_, ?_, ?_, ?_, ?_, ?_, ?_, ?_, ?_, ?_, ?_, trivial⟩
        · intro vs W1 m1 hE hM hV hD
          clear hD
          replace hL := hL.call hE hM hV
          exact sFd
        · intro vs W1 m1 hE hM hV hD
          obtain ⟨⟨_, _, -, -, f104⟩, -⟩ := hD
          have f104 : vs 104 = _ := f104
          generalize vs 104 = x104 at f104 ⊢
          subst x104
          replace hL := hL.call hE hM hV
          exact sLd
        · intro vs W1 m1 hE hM hV hD
          clear hD
          replace hL := hL.call hE hM hV
          exact sPu
        · intro vs W1 m1 hE hM hV hD
          clear hD
          replace hL := hL.call hE hM hV
          exact sLd
        · intro vs W1 m1 hE hM hV hD
          clear hD
          replace hL := hL.call hE hM hV
          exact sFd
        · intro vs W1 m1 hE hM hV hD
          obtain ⟨⟨_, _, -, -, f108⟩, -⟩ := hD
          have f108 : vs 108 = _ := f108
          generalize vs 108 = x108 at f108 ⊢
          subst x108
          replace hL := hL.call hE hM hV
          exact sLd
        · intro vs W1 m1 hE hM hV hD
          clear hD
          replace hL := hL.call hE hM hV
          exact sPu
        · intro vs W1 m1 hE hM hV hD
          obtain ⟨⟨_, _, -, -, f109⟩, ⟨_, _, -, -, f110⟩, -⟩ := hD
          have f109 : vs 109 = _ := f109
          generalize vs 109 = x109 at f109 ⊢
          subst x109
          have f110 : vs 110 = _ := f110
          generalize vs 110 = x110 at f110 ⊢
          subst x110
          replace hL := hL.call hE hM hV
          exact sIx
        · intro vs W1 m1 hE hM hV hD
          obtain ⟨⟨_, _, -, -, f111⟩, -⟩ := hD
          have f111 : vs 111 = _ := f111
          generalize vs 111 = x111 at f111 ⊢
          subst x111
          replace hL := hL.call hE hM hV
          exact sLd
        · intro vs W1 m1 hE hM hV hD
          obtain ⟨⟨_, _, -, -, f107⟩, ⟨_, _, -, -, f112⟩, -⟩ := hD
          have f107 : vs 107 = _ := f107
          generalize vs 107 = x107 at f107 ⊢
          subst x107
          have f112 : vs 112 = _ := f112
          generalize vs 112 = x112 at f112 ⊢
          subst x112
          go_wp2_with fail
          refine (q_MulC _ _ s x _ _ hV (hs5.le leX) (hx5.le leX) S1.out S2.out).mono ?_
          rintro e W2 ⟨v, m2, rfl, hE2, hM2, hV2, h⟩
          go_wp2_with fail
          refine One2.call hE2 hM2 hV2 ?_; first | exact h | exact rfl
        · intro vs W1 m1 hE hM hV hD
          clear hD
          replace hL := hL.call hE hM hV
          exact sLd
        · intro vs W1 m1 hE hM hV hD
          clear hD
          replace hL := hL.call hE hM hV
          exact sLd
        · intro vs W1 m1 hE hM hV hD
          obtain ⟨⟨_, _, -, -, f114⟩, ⟨_, _, -, -, f115⟩, -, -⟩ := hD
          have f114 : vs 114 = _ := f114
          generalize vs 114 = x114 at f114 ⊢
          subst x114
          have f115 : vs 115 = _ := f115
          generalize vs 115 = x115 at f115 ⊢
          subst x115
          go_wp2_with fail
          refine (q_MulC _ _ t y _ _ hV (ht5.le leX) (hy1.le leX) S3.out S4.out).mono ?_
          rintro e W2 ⟨v, m2, rfl, hE2, hM2, hV2, h⟩
          go_wp2_with fail
          refine One2.call hE2 hM2 hV2 ?_; first | exact h | exact rfl
        · intro vs W1 m1 hE hM hV hD
          obtain ⟨⟨_, _, -, i113, f113⟩, ⟨_, _, -, i116, f116⟩, -, -⟩ := hD
          have f113 : FracC _ (vs 113) (s * x) := f113
          replace f113 := f113.le i113.le
          clear i113
          have f116 : FracC _ (vs 116) (t * y) := f116
          replace f116 := f116.le i116.le
          clear i116
          go_wp2_with fail
          refine (q_AddC _ _ (s * x) (t * y) _ _ hV f113 f116 S5.out S6.out).mono ?_
          rintro e W2 ⟨v, m2, rfl, hE2, hM2, hV2, h⟩
          go_wp2_with fail
          refine One2.call hE2 hM2 hV2 ?_; first | exact h | exact rfl
        · intro vs W1 m1 hE hM hV hD
          obtain ⟨⟨_, _, -, -, f105⟩, ⟨_, _, -, -, f106⟩, -, -, -, -, -, -, -, -, -, -, -, -, -, -, -⟩ := hD
          have f105 : vs 105 = _ := f105
          generalize vs 105 = x105 at f105 ⊢
          subst x105
          have f106 : vs 106 = _ := f106
          generalize vs 106 = x106 at f106 ⊢
          subst x106
          replace hL := hL.call hE hM hV
          exact sIx
      case l11 =>
        refine ⟨fun h => (by cases h), fun h => (by cases h), fun h => (by cases h), fun h => (by cases h), fun h => (by cases h), fun h => (by cases h), fun h => (by cases h), fun h => (by cases h), fun h => (by cases h), fun h => (by cases h), fun h => (by cases h), fun h => (by cases h), fun h => (by cases h), fun h => (by cases h), fun h => (by cases h), trivial⟩
      intro vs W1 m1 hE hM hV hF hD
      clear hD
      obtain ⟨-, -, -, -, -, -, -, -, -, ⟨_, _, -, i113, f113⟩, -, -, ⟨_, _, -, i116, f116⟩, ⟨_, _, -, i117, f117⟩, ⟨_, _, -, -, f118⟩, -⟩ := hF
      replace hL := hL.call hE hM hV
      replace f113 : FracC _ (vs 113) (s * x) := f113
      replace f113 := f113.le i113.le
      clear i113
      replace f116 : FracC _ (vs 116) (t * y) := f116
      replace f116 := f116.le i116.le
      clear i116
      replace f117 : FracC _ (vs 117) (s * x + t * y) := f117
      replace f117 := f117.le i117.le
      clear i117
      obtain ⟨g117, A117, n117, c117, h117, B117, k117, d117, e117, f117⟩ := f117.lit
      generalize vs 117 = x117 at e117 ⊢
      subst x117
      have f118 : vs 118 = _ := f118
      generalize vs 118 = x118 at f118 ⊢
      subst x118
      clear hE hV
      simp only [List.drop_succ_cons, List.drop_zero]
      go_wp2_with (first | ((with_reducible refine kAny ?_); go_skip) | ((first | ((with_reducible refine kIx ?_); first | (refine t_ixa rfl rfl rfl ?_; (try simp only [Nat.mul_one])) | (refine t_ixaA rfl rfl rfl ?_; (try simp only [Nat.mul_one]))) | ((with_reducible refine kFd ?_); first | refine t_fda0 rfl rfl ?_ | (refine t_fda rfl rfl ?_; (try simp only [Nat.zero_add, Nat.reduceAdd]))) | ((with_reducible refine kLd ?_); first | refine t_loadR hL rfl rfl ?_ | refine t_loadW hL rfl rfl ?_ | refine t_load2 hL rfl rfl ?_ | refine t_load1 hL rfl rfl ?_ | refine t_loadV hL.vw rfl rfl ?_ | refine t_loadV1 hL.vw rfl rfl ?_) | ((with_reducible refine kSt ?_); first | (refine t_storeR hL rfl rfl rfl ?_; clear hL; intro _ hL; simp only [zq2, zq3] at hL) | ((first | refine t_store hL rfl rfl rfl ?_ | refine t_sts hL rfl rfl rfl ?_ | refine t_sti hL rfl rfl rfl ?_ | refine t_stb hL rfl rfl rfl ?_ | refine t_store1 hL rfl rfl rfl ?_); clear hL; intro _ hL; simp only [splice, zq1, zq2, zq3] at hL)) | ((with_reducible refine kBx ?_); (refine t_box hL rfl rfl ?_; clear hL; intro _ _ hL _)) | ((with_reducible refine kAl ?_); (refine t_alloc hL rfl ?_; clear hL; intro _ _ hL _))); simp only [Act.put, zq1, zq2, zq3]))
      refine QN.mk ?_
      go_wp2_with (first | ((with_reducible refine kAny ?_); go_skip) | ((first | ((with_reducible refine kIx ?_); first | (refine t_ixa rfl rfl rfl ?_; (try simp only [Nat.mul_one])) | (refine t_ixaA rfl rfl rfl ?_; (try simp only [Nat.mul_one]))) | ((with_reducible refine kFd ?_); first | refine t_fda0 rfl rfl ?_ | (refine t_fda rfl rfl ?_; (try simp only [Nat.zero_add, Nat.reduceAdd]))) | ((with_reducible refine kLd ?_); first | refine t_loadR hL rfl rfl ?_ | refine t_loadW hL rfl rfl ?_ | refine t_load2 hL rfl rfl ?_ | refine t_load1 hL rfl rfl ?_ | refine t_loadV hL.vw rfl rfl ?_ | refine t_loadV1 hL.vw rfl rfl ?_) | ((with_reducible refine kSt ?_); first | (refine t_storeR hL rfl rfl rfl ?_; clear hL; intro _ hL; simp only [zq2, zq3] at hL) | ((first | refine t_store hL rfl rfl rfl ?_ | refine t_sts hL rfl rfl rfl ?_ | refine t_sti hL rfl rfl rfl ?_ | refine t_stb hL rfl rfl rfl ?_ | refine t_store1 hL rfl rfl rfl ?_); clear hL; intro _ hL; simp only [splice, zq1, zq2, zq3] at hL)) | ((with_reducible refine kBx ?_); (refine t_box hL rfl rfl ?_; clear hL; intro _ _ hL _)) | ((with_reducible refine kAl ?_); (refine t_alloc hL rfl ?_; clear hL; intro _ _ hL _))); simp only [Act.put, zq1, zq2, zq3]))
      go_roundw
      case rel =>
        refine ⟨k + 1, _, _, by omega, by go_num, hL.tail, ?_, exX⟩
        have hq := RowF.set (k := k) (RowF.le FracC.mono r1.out leX) (by rw [lst_len HLL.out (by rw [E1.out]; omega), E1.out]; exact hlt) rfl f117
        rwa [lst_set HLL.out (by rw [E1.out]; exact hlt) HZ.out] at hq
      case measure => simp [intOf] <;> omega
    · have hll1 : (mixL s t fl fl').length = fl.length := mixL_len (by rw [E1.out, E1'.out])
      have r1' : Hid (FrRow mm cur (mixL s t fl fl')) := by
        have := r1.out
        rwa [lst_all hll1 E1.out hlt] at this
      replace r3 : Hid (FrRow mm cur3 (lst (mixL s t cd cd') cd 0)) := RowF.le FracC.mono r3.out hX.le
      have hs6 := hs5.le hX.le
      have ht6 := ht5.le hX.le
      have hcu6 := CutL.le hcu5 hX.le
      have hde6 := DecL.le hde5 hX.le
      clear r1 hX hs5 ht5 hcu5 hde5 hll1
      go_wp2_with (first | ((with_reducible refine kAny ?_); go_skip) | ((first | ((with_reducible refine kIx ?_); first | (refine t_ixa rfl rfl rfl ?_; (try simp only [Nat.mul_one])) | (refine t_ixaA rfl rfl rfl ?_; (try simp only [Nat.mul_one]))) | ((with_reducible refine kFd ?_); first | refine t_fda0 rfl rfl ?_ | (refine t_fda rfl rfl ?_; (try simp only [Nat.zero_add, Nat.reduceAdd]))) | ((with_reducible refine kLd ?_); first | refine t_loadR hL rfl rfl ?_ | refine t_loadW hL rfl rfl ?_ | refine t_load2 hL rfl rfl ?_ | refine t_load1 hL rfl rfl ?_ | refine t_loadV hL.vw rfl rfl ?_ | refine t_loadV1 hL.vw rfl rfl ?_) | ((with_reducible refine kSt ?_); first | (refine t_storeR hL rfl rfl rfl ?_; clear hL; intro _ hL; simp only [zq2, zq3] at hL) | ((first | refine t_store hL rfl rfl rfl ?_ | refine t_sts hL rfl rfl rfl ?_ | refine t_sti hL rfl rfl rfl ?_ | refine t_stb hL rfl rfl rfl ?_ | refine t_store1 hL rfl rfl rfl ?_); clear hL; intro _ hL; simp only [splice, zq1, zq2, zq3] at hL)) | ((with_reducible refine kBx ?_); (refine t_box hL rfl rfl ?_; clear hL; intro _ _ hL _)) | ((with_reducible refine kAl ?_); (refine t_alloc hL rfl ?_; clear hL; intro _ _ hL _))); simp only [Act.put, zq1, zq2, zq3]))
      clear hlt hk
      go_loopw [123] (fun i wr => ∃ (k : Nat) (m2 : World) (cu3 : Array Value), k ≤ nc ∧ i = .int .i64 k ∧ Loc w m wr m2 [(Wc5.heap.size, 31, #[.slice (some ⟨g1, 0, none⟩) nf nf, .slice A5 nc c5, .slice (some ⟨g3, 0, none⟩) nc nc, .slice A6 de'.length c6, .bool fr']), (g1, 39, cur), (g3, 39, cu3), (Wc4.heap.size, 39, #[.bool g12, .slice A12 n12 c12, .bool h12, .slice B12 k12 d12]), (Wc3.heap.size, 39, #[.bool g10, .slice A10 n10 c10, .bool h10, .slice B10 k10 d10]), (Wh5.heap.size, 31, #[.slice none 0 0, .slice none 0 0, .slice none 0 0, .slice none 0 0, .bool false]), (Wh4.heap.size, 31, #[.slice B1 nf d1, .slice B2 nc d2, .slice B3 nc d3, .slice B4 de'.length d4, .bool fr']), (w.heap.size, 31, #[.slice A1 nf c1, .slice A2 nc c2, .slice A3 nc c3, .slice A4 de'.length c4, .bool fr'])] ∧ Hid (FrRow m2 cu3 (lst (mixL s t cd cd') cd k)) ∧ Ext mm m2) (fun i _ => nc - (intOf i).toNat)
      case atStart => exact ⟨0, _, _, Nat.zero_le _, rfl, hL, r3, Ext.refl _⟩
      case round =>
        clear hL r3
        obtain ⟨k, m2, cu3, hk, rfl, hL, r3, hX⟩ := hrel
        have hM2 := hL.mext
        by_cases hlt : k < nc
        · obtain ⟨x, hx⟩ := at_some E3 hlt
          obtain ⟨y, hy⟩ := at_some E3' hlt
          have hll : (mixL s t cd cd').length = cd.length := mixL_len (by rw [E3.out, E3'.out])
          obtain ⟨g5, A5', n5, c5', h5, B5, k5, d5, hx5, hrd⟩ := RowF.at4 r3.out ((lst_get hll (by rw [E3.out]; omega)).trans hx)
          obtain ⟨b1', o1, g1', A1', n1, c1', g1'', B1', k1, d1', hA, hy1, hr1⟩ := FracL.at_ b3 hy
          replace hA := Lib.hid hA
          have TX : Hid (Tn 1000 x) := TP.out.cd x (List.mem_of_getElem? hx)
          have TY : Hid (Tn 1000 y) := TQ.out.cd y (List.mem_of_getElem? hy)
          have hsz := r3.out.size
          rw [lst_len hll (by rw [E3.out]; omega), E3.out] at hsz
          have hfit : 0 + k * 4 + 4 ≤ cu3.size := by omega
          have HZ : Hid ((mixL s t cd cd')[k]? = some (s * x + t * y)) := mixL_at hx hy
          have HLL := Lib.hid hll
          replace hs6 := hs6.le hX.le
          replace ht6 := ht6.le hX.le
          clear hx hy hsz hll
          have S1 : Hid (Sm s.num s.den) := TS.out.sm (by omega)
          have S2 : Hid (Sm x.num x.den) := TX.out.sm (by omega)
          have S3 : Hid (Sm t.num t.den) := TT.out.sm (by omega)
          have S4 : Hid (Sm y.num y.den) := TY.out.sm (by omega)
          have S5 : Hid (Sm (s * x).num (s * x).den) := (TS.out.mul TX.out).sm (by omega)
          have S6 : Hid (Sm (t * y).num (t * y).den) := (TT.out.mul TY.out).sm (by omega)
          clear KC KF1 KF2 KE K1 K2 OK TP TQ TS TT TX TY
          go_upto_region 16 with ((first | ((with_reducible refine kAny ?_); go_skip) | ((first | ((with_reducible refine kIx ?_); first | (refine t_ixa rfl rfl rfl ?_; (try simp only [Nat.mul_one])) | (refine t_ixaA rfl rfl rfl ?_; (try simp only [Nat.mul_one]))) | ((with_reducible refine kFd ?_); first | refine t_fda0 rfl rfl ?_ | (refine t_fda rfl rfl ?_; (try simp only [Nat.zero_add, Nat.reduceAdd]))) | ((with_reducible refine kLd ?_); first | refine t_loadR hL rfl rfl ?_ | refine t_loadW hL rfl rfl ?_ | refine t_load2 hL rfl rfl ?_ | refine t_load1 hL rfl rfl ?_ | refine t_loadV hL.vw rfl rfl ?_ | refine t_loadV1 hL.vw rfl rfl ?_) | ((with_reducible refine kSt ?_); first | (refine t_storeR hL rfl rfl rfl ?_; clear hL; intro _ hL; simp only [zq2, zq3] at hL) | ((first | refine t_store hL rfl rfl rfl ?_ | refine t_sts hL rfl rfl rfl ?_ | refine t_sti hL rfl rfl rfl ?_ | refine t_stb hL rfl rfl rfl ?_ | refine t_store1 hL rfl rfl rfl ?_); clear hL; intro _ hL; simp only [splice, zq1, zq2, zq3] at hL)) | ((with_reducible refine kBx ?_); (refine t_box hL rfl rfl ?_; clear hL; intro _ _ hL _)) | ((with_reducible refine kAl ?_); (refine t_alloc hL rfl ?_; clear hL; intro _ _ hL _))); simp only [Act.put, zq1, zq2, zq3])))
          (try simp only [eq_self] at *)
          refine wp_region_by2 15 [false, false, false, false, false, false, false, false, false, false, false, false, false, false, false] [false, false, false, false, false, false, false, false, false, false, false, false, false, false, false] [(fun v _ _ => v = ?c16_0), (fun v _ _ => v = ?c16_1), (fun v _ _ => v = ?c16_2), (fun v _ _ => v = ?c16_3), (fun v _ _ => v = ?c16_4), (fun v _ _ => v = ?c16_5), (fun v _ _ => v = ?c16_6), (fun v _ _ => v = ?c16_7), (fun v _ _ => v = ?c16_8), Of (fun um v => FracC um v (s * x)), (fun v _ _ => v = ?c16_10), (fun v _ _ => v = ?c16_11), Of (fun um v => FracC um v (t * y)), Of (fun um v => FracC um v (s * x + t * y)), (fun v _ _ => v = ?c16_14)] hL.vw mixed [128, 129, 130, 131, 132, 133, 134, 135, 136, 137, 138, 139, 140, 141, 142] _ (by kernel_rfl) (fun vs => by simp only [lay, Act.put, zq1, zq2, zq3]; rfl) (by kernel_rfl) (by decide) (by decide) ?s16 ?l16 ?r16
          case s16 =>
            refine ⟨?_, ?_, ?_, ?_, ?_, ?_, ?_, ?_, ?_, ?_, ?_, ?_, ?_, ?_, ?_, trivial⟩
            · intro vs W1 m1 hE hM hV hD
              clear hD
              replace hL := hL.call hE hM hV
              exact sFd
            · intro vs W1 m1 hE hM hV hD
              obtain ⟨⟨_, _, -, -, f128⟩, -⟩ := hD
              have f128 : vs 128 = _ := f128
              generalize vs 128 = x128 at f128 ⊢
              subst x128
              replace hL := hL.call hE hM hV
              exact sLd
            · intro vs W1 m1 hE hM hV hD
              clear hD
              replace hL := hL.call hE hM hV
              exact sPu
            · intro vs W1 m1 hE hM hV hD
              clear hD
              replace hL := hL.call hE hM hV
              exact sLd
            · intro vs W1 m1 hE hM hV hD
              clear hD
              replace hL := hL.call hE hM hV
              exact sFd
            · intro vs W1 m1 hE hM hV hD
              obtain ⟨⟨_, _, -, -, f132⟩, -⟩ := hD
              have f132 : vs 132 = _ := f132
              generalize vs 132 = x132 at f132 ⊢
              subst x132
              replace hL := hL.call hE hM hV
              exact sLd
            · intro vs W1 m1 hE hM hV hD
              clear hD
              replace hL := hL.call hE hM hV
              exact sPu
            · intro vs W1 m1 hE hM hV hD
              obtain ⟨⟨_, _, -, -, f133⟩, ⟨_, _, -, -, f134⟩, -⟩ := hD
              have f133 : vs 133 = _ := f133
              generalize vs 133 = x133 at f133 ⊢
              subst x133
              have f134 : vs 134 = _ := f134
              generalize vs 134 = x134 at f134 ⊢
              subst x134
              replace hL := hL.call hE hM hV
              exact sIx
            · intro vs W1 m1 hE hM hV hD
              obtain ⟨⟨_, _, -, -, f135⟩, -⟩ := hD
              have f135 : vs 135 = _ := f135
              generalize vs 135 = x135 at f135 ⊢
              subst x135
              replace hL := hL.call hE hM hV
              exact sLd
            · intro vs W1 m1 hE hM hV hD
              obtain ⟨⟨_, _, -, -, f131⟩, ⟨_, _, -, -, f136⟩, -⟩ := hD
              have f131 : vs 131 = _ := f131
              generalize vs 131 = x131 at f131 ⊢
              subst x131
              have f136 : vs 136 = _ := f136
              generalize vs 136 = x136 at f136 ⊢
              subst x136
              go_wp2_with fail
              refine (q_MulC _ _ s x _ _ hV (hs6.le leX) (hx5.le leX) S1.out S2.out).mono ?_
              rintro e W2 ⟨v, m2, rfl, hE2, hM2, hV2, h⟩
              go_wp2_with fail
              refine One2.call hE2 hM2 hV2 ?_; first | exact h | exact rfl
            · intro vs W1 m1 hE hM hV hD
              clear hD
              replace hL := hL.call hE hM hV
              exact sLd
            · intro vs W1 m1 hE hM hV hD
              clear hD
              replace hL := hL.call hE hM hV
              exact sLd
            · intro vs W1 m1 hE hM hV hD
              obtain ⟨⟨_, _, -, -, f138⟩, ⟨_, _, -, -, f139⟩, -, -⟩ := hD
              have f138 : vs 138 = _ := f138
              generalize vs 138 = x138 at f138 ⊢
              subst x138
              have f139 : vs 139 = _ := f139
              generalize vs 139 = x139 at f139 ⊢
              subst x139
              go_wp2_with fail
              refine (q_MulC _ _ t y _ _ hV (ht6.le leX) (hy1.le leX) S3.out S4.out).mono ?_
              rintro e W2 ⟨v, m2, rfl, hE2, hM2, hV2, h⟩
              go_wp2_with fail
              refine One2.call hE2 hM2 hV2 ?_; first | exact h | exact rfl
            · intro vs W1 m1 hE hM hV hD
              obtain ⟨⟨_, _, -, i137, f137⟩, ⟨_, _, -, i140, f140⟩, -, -⟩ := hD
              have f137 : FracC _ (vs 137) (s * x) := f137
              replace f137 := f137.le i137.le
              clear i137
              have f140 : FracC _ (vs 140) (t * y) := f140
              replace f140 := f140.le i140.le
              clear i140
              go_wp2_with fail
              refine (q_AddC _ _ (s * x) (t * y) _ _ hV f137 f140 S5.out S6.out).mono ?_
              rintro e W2 ⟨v, m2, rfl, hE2, hM2, hV2, h⟩
              go_wp2_with fail
              refine One2.call hE2 hM2 hV2 ?_; first | exact h | exact rfl
            · intro vs W1 m1 hE hM hV hD
              obtain ⟨⟨_, _, -, -, f129⟩, ⟨_, _, -, -, f130⟩, -, -, -, -, -, -, -, -, -, -, -, -, -, -, -⟩ := hD
              have f129 : vs 129 = _ := f129
              generalize vs 129 = x129 at f129 ⊢
              subst x129
              have f130 : vs 130 = _ := f130
              generalize vs 130 = x130 at f130 ⊢
              subst x130
              replace hL := hL.call hE hM hV
              exact sIx
          case l16 =>
            refine ⟨fun h => (by cases h), fun h => (by cases h), fun h => (by cases h), fun h => (by cases h), fun h => (by cases h), fun h => (by cases h), fun h => (by cases h), fun h => (by cases h), fun h => (by cases h), fun h => (by cases h), fun h => (by cases h), fun h => (by cases h), fun h => (by cases h), fun h => (by cases h), fun h => (by cases h), trivial⟩
          intro vs W1 m1 hE hM hV hF hD
          clear hD
          obtain ⟨-, -, -, -, -, -, -, -, -, ⟨_, _, -, i137, f137⟩, -, -, ⟨_, _, -, i140, f140⟩, ⟨_, _, -, i141, f141⟩, ⟨_, _, -, -, f142⟩, -⟩ := hF
          replace hL := hL.call hE hM hV
          replace f137 : FracC _ (vs 137) (s * x) := f137
          replace f137 := f137.le i137.le
          clear i137
          replace f140 : FracC _ (vs 140) (t * y) := f140
          replace f140 := f140.le i140.le
          clear i140
          replace f141 : FracC _ (vs 141) (s * x + t * y) := f141
          replace f141 := f141.le i141.le
          clear i141
          obtain ⟨g141, A141, n141, c141, h141, B141, k141, d141, e141, f141⟩ := f141.lit
          generalize vs 141 = x141 at e141 ⊢
          subst x141
          have f142 : vs 142 = _ := f142
          generalize vs 142 = x142 at f142 ⊢
          subst x142
          clear hE hV
          simp only [List.drop_succ_cons, List.drop_zero]
          go_wp2_with (first | ((with_reducible refine kAny ?_); go_skip) | ((first | ((with_reducible refine kIx ?_); first | (refine t_ixa rfl rfl rfl ?_; (try simp only [Nat.mul_one])) | (refine t_ixaA rfl rfl rfl ?_; (try simp only [Nat.mul_one]))) | ((with_reducible refine kFd ?_); first | refine t_fda0 rfl rfl ?_ | (refine t_fda rfl rfl ?_; (try simp only [Nat.zero_add, Nat.reduceAdd]))) | ((with_reducible refine kLd ?_); first | refine t_loadR hL rfl rfl ?_ | refine t_loadW hL rfl rfl ?_ | refine t_load2 hL rfl rfl ?_ | refine t_load1 hL rfl rfl ?_ | refine t_loadV hL.vw rfl rfl ?_ | refine t_loadV1 hL.vw rfl rfl ?_) | ((with_reducible refine kSt ?_); first | (refine t_storeR hL rfl rfl rfl ?_; clear hL; intro _ hL; simp only [zq2, zq3] at hL) | ((first | refine t_store hL rfl rfl rfl ?_ | refine t_sts hL rfl rfl rfl ?_ | refine t_sti hL rfl rfl rfl ?_ | refine t_stb hL rfl rfl rfl ?_ | refine t_store1 hL rfl rfl rfl ?_); clear hL; intro _ hL; simp only [splice, zq1, zq2, zq3] at hL)) | ((with_reducible refine kBx ?_); (refine t_box hL rfl rfl ?_; clear hL; intro _ _ hL _)) | ((with_reducible refine kAl ?_); (refine t_alloc hL rfl ?_; clear hL; intro _ _ hL _))); simp only [Act.put, zq1, zq2, zq3]))
          refine QN.mk ?_
          go_wp2_with (first | ((with_reducible refine kAny ?_); go_skip) | ((first | ((with_reducible refine kIx ?_); first | (refine t_ixa rfl rfl rfl ?_; (try simp only [Nat.mul_one])) | (refine t_ixaA rfl rfl rfl ?_; (try simp only [Nat.mul_one]))) | ((with_reducible refine kFd ?_); first | refine t_fda0 rfl rfl ?_ | (refine t_fda rfl rfl ?_; (try simp only [Nat.zero_add, Nat.reduceAdd]))) | ((with_reducible refine kLd ?_); first | refine t_loadR hL rfl rfl ?_ | refine t_loadW hL rfl rfl ?_ | refine t_load2 hL rfl rfl ?_ | refine t_load1 hL rfl rfl ?_ | refine t_loadV hL.vw rfl rfl ?_ | refine t_loadV1 hL.vw rfl rfl ?_) | ((with_reducible refine kSt ?_); first | (refine t_storeR hL rfl rfl rfl ?_; clear hL; intro _ hL; simp only [zq2, zq3] at hL) | ((first | refine t_store hL rfl rfl rfl ?_ | refine t_sts hL rfl rfl rfl ?_ | refine t_sti hL rfl rfl rfl ?_ | refine t_stb hL rfl rfl rfl ?_ | refine t_store1 hL rfl rfl rfl ?_); clear hL; intro _ hL; simp only [splice, zq1, zq2, zq3] at hL)) | ((with_reducible refine kBx ?_); (refine t_box hL rfl rfl ?_; clear hL; intro _ _ hL _)) | ((with_reducible refine kAl ?_); (refine t_alloc hL rfl ?_; clear hL; intro _ _ hL _))); simp only [Act.put, zq1, zq2, zq3]))
          go_roundw
          case rel =>
            refine ⟨k + 1, _, _, by omega, by go_num, hL.tail, ?_, exX⟩
            have hq := RowF.set (k := k) (RowF.le FracC.mono r3.out leX) (by rw [lst_len HLL.out (by rw [E3.out]; omega), E3.out]; exact hlt) rfl f141
            rwa [lst_set HLL.out (by rw [E3.out]; exact hlt) HZ.out] at hq
          case measure => simp [intOf] <;> omega
        · have hll3 : (mixL s t cd cd').length = cd.length := mixL_len (by rw [E3.out, E3'.out])
          have r3' : Hid (FrRow m2 cu3 (mixL s t cd cd')) := by
            have := r3.out
            rwa [lst_all hll3 E3.out hlt] at this
          have r1'' : Hid (FrRow m2 cur (mixL s t fl fl')) := RowF.le FracC.mono r1'.out hX.le
          have hcu7 := CutL.le hcu6 hX.le
          have hde7 := DecL.le hde6 hX.le
          have N1 : Hid ((mixL s t fl fl').length = nf) := by show _ = _; rw [mixL_len (by rw [E1.out, E1'.out]), E1.out]
          have N3 : Hid ((mixL s t cd cd').length = nc) := by show _ = _; rw [hll3, E3.out]
          clear hll3 r3 r1' hX hcu6 hde6
          go_wp2_with (first | ((with_reducible refine kAny ?_); go_skip) | ((first | ((with_reducible refine kIx ?_); first | (refine t_ixa rfl rfl rfl ?_; (try simp only [Nat.mul_one])) | (refine t_ixaA rfl rfl rfl ?_; (try simp only [Nat.mul_one]))) | ((with_reducible refine kFd ?_); first | refine t_fda0 rfl rfl ?_ | (refine t_fda rfl rfl ?_; (try simp only [Nat.zero_add, Nat.reduceAdd]))) | ((with_reducible refine kLd ?_); first | refine t_loadR hL rfl rfl ?_ | refine t_loadW hL rfl rfl ?_ | refine t_load2 hL rfl rfl ?_ | refine t_load1 hL rfl rfl ?_ | refine t_loadV hL.vw rfl rfl ?_ | refine t_loadV1 hL.vw rfl rfl ?_) | ((with_reducible refine kSt ?_); first | (refine t_storeR hL rfl rfl rfl ?_; clear hL; intro _ hL; simp only [zq2, zq3] at hL) | ((first | refine t_store hL rfl rfl rfl ?_ | refine t_sts hL rfl rfl rfl ?_ | refine t_sti hL rfl rfl rfl ?_ | refine t_stb hL rfl rfl rfl ?_ | refine t_store1 hL rfl rfl rfl ?_); clear hL; intro _ hL; simp only [splice, zq1, zq2, zq3] at hL)) | ((with_reducible refine kBx ?_); (refine t_box hL rfl rfl ?_; clear hL; intro _ _ hL _)) | ((with_reducible refine kAl ?_); (refine t_alloc hL rfl ?_; clear hL; intro _ _ hL _))); simp only [Act.put, zq1, zq2, zq3]))
          have hL2 : Loc w m _ m2 [(g1, 39, cur), (g3, 39, cu3)] := hL.tail.sub (List.sublist_append_left [_, _] _)
          obtain ⟨m3, hL3, hle3, hcd3⟩ := Loc.showF (A := [_]) FracC.mono hL2 r3'.out N3.out
          obtain ⟨m4, hL4, hle4, hfl4⟩ := Loc.showF (A := []) FracC.mono hL3 (RowF.le FracC.mono r1''.out hle3) N1.out
          refine fin_aggT hL Tryz.results30 rfl rfl loX ag_Prices (by exact rfl) rfl hL4 ?_
          exact ⟨_, rfl, _, _, _, _, rfl, hfl4, CutL.le hcu7 (hle3.trans hle4), FracL.le hcd3 hle4, DecL.le hde7 (hle3.trans hle4)⟩
end Go.Proofs.YtmhkmmmompediaaGreat

/- Lists that are built by append, element by element. No program. -/
namespace Go.Proofs.YtmhkmmmompediaaGreat
open Go.RowKit

def RowA {α : Type} (e : TypeId) (size : Nat) (R : World → Value → α → Prop) (m : World) (v : Value) (n : Nat) (xs : List α) (Rr : List Lo) : Prop :=
  ∃ vs, Row e size v n (cellsOf vs) Rr ∧ (∀ u ∈ vs, u.cells.size = size) ∧ All2 (R m) vs xs ∧ vs.length = n
theorem RowA.nil {α : Type} {e : TypeId} {size : Nat} {R : World → Value → α → Prop} {m : World} : RowA e size R m (.slice none 0 0) 0 [] [] :=
  ⟨[], by simpa [cellsOf] using Row.nil e size, (fun _ h => by cases h), trivial, rfl⟩
theorem RowA.le {α : Type} {e : TypeId} {size : Nat} {R : World → Value → α → Prop} (hR : ∀ m m' v x, R m v x → Le m m' → R m' v x) {m m' : World} {v : Value} {n : Nat} {xs : List α} {Rr : List Lo} (h : RowA e size R m v n xs Rr) (hb : Le m m') : RowA e size R m' v n xs Rr := by
  obtain ⟨vs, h1, h2, h3, h4⟩ := h
  exact ⟨vs, h1, h2, h3.mono fun v x hv => hR m m' v x hv hb, h4⟩
theorem RowA.snoc {α : Type} {e : TypeId} {size : Nat} {R : World → Value → α → Prop} {m : World} {n : Nat} {xs : List α} {vs : List Value} {ws : List Value} {x : α} {v' : Value} {R' : List Lo}
    (h1 : Row e size v' (n + 1) (cellsOf vs ++ ws) R') (h2 : ∀ u ∈ vs, u.cells.size = size) (h3 : All2 (R m) vs xs) (h4 : vs.length = n) (hw : ws.length = size) (hx : R m (.agg ws.toArray) x) : RowA e size R m v' (n + 1) (xs ++ [x]) R' := by
  refine ⟨vs ++ [.agg ws.toArray], ?_, ?_, h3.snoc hx, by simp [h4]⟩
  · rw [cellsOf_append, cellsOf_one]
    simpa [Value.cells] using h1
  · intro u hu
    rcases List.mem_append.1 hu with hu | hu
    · exact h2 u hu
    · rcases List.mem_singleton.1 hu with rfl
      simpa [Value.cells] using hw
theorem RowA.show {α : Type} {e : TypeId} {size : Nat} {R : World → Value → α → Prop} (hR : ∀ m m' v x, R m v x → Le m m' → R m' v x) {w0 m0 W m : World} {A Rr : List Lo} {v : Value} {n : Nat} {xs : List α} (hL : Loc w0 m0 W m (A ++ Rr)) (h : RowA e size R m v n xs Rr) :
    ∃ m', Loc w0 m0 W m' A ∧ Le m m' ∧ ListV size R m' v xs ∧ ∃ cs, W.ownsRow w0.heap.size e size v n cs := by
  obtain ⟨vs, h1, h2, h3, h4⟩ := h
  obtain ⟨m', B, c, hL', hle, rfl, hc, hs, ho⟩ := Loc.show hL h1
  exact ⟨m', hL', hle, ListV.mk hc h4 h2 hs (h3.mono fun v x hv => hR m m' v x hv hle), _, ho⟩
theorem RowA.lit {α : Type} {e : TypeId} {size : Nat} {R : World → Value → α → Prop} {m : World} {v : Value} {n : Nat} {xs : List α} {Rr : List Lo} (h : RowA e size R m v n xs Rr) : ∃ A c, v = .slice A n c ∧ RowA e size R m (.slice A n c) n xs Rr := by
  have h' := h
  obtain ⟨vs, h1, _⟩ := h
  obtain ⟨A, c, rfl, _⟩ := h1.lit
  exact ⟨A, c, rfl, h'⟩
/-- A slice of one new struct of four cells. -/
def NewS1 (e : TypeId) (R : World → Value → Prop) (v : Value) (u um : World) : Prop := ∃ g cs, v = .slice (some ⟨g, 0, none⟩) 1 1 ∧ Blk u g e cs ∧ R um (.agg cs)
theorem one2_s1 {a : Act} {dst : Option Nat} {W1 m1 : World} {e : TypeId} {R : World → Value → Prop} {cs : Array Value} (hV : Vw m1 W1) (hR : ∀ m', Ext m1 m' → R m' (.agg cs)) :
    One2 (NewS1 e R) false a dst W1 m1 .normal (a.put dst (.slice (some ⟨W1.heap.size, 0, none⟩) 1 1)) (W1.alloc (.cells cs e)) := by
  have h := (Loc.start hV).alloc cs e
  exact ⟨rfl, h.ext, _, _, h.mext, h.vw, rfl, ⟨W1.heap.size, cs, rfl, Blk.new _ _ _, hR _ h.mext⟩, fun h => by cases h⟩
theorem take_snoc {α : Type} {l : List α} {k : Nat} {x : α} (h : l[k]? = some x) : l.take k ++ [x] = l.take (k + 1) := by rw [List.take_add_one, h]; rfl
end Go.Proofs.YtmhkmmmompediaaGreat

/- Rows that are new and shown at once; slices of one element; a row that is taken out of the list. No program. -/
namespace Go.Proofs.YtmhkmmmompediaaGreat
open Go.RowKit

theorem Loc.allocV {w0 m0 W m : World} {Ls : List Lo} (h : Loc w0 m0 W m Ls) (cs : Array Value) (t : TypeId) :
    Loc w0 m0 (W.alloc (.cells cs t)) (m.alloc (.cells cs t)) Ls := by
  have hs := h.vw.size
  refine ⟨h.size0, h.ext.alloc _, h.mext.alloc _, ⟨h.vw.os, h.vw.tape, h.vw.output, by simp [hs], fun a u hu => ?_⟩, h.low, fun x hx => (h.blk x hx).alloc _, fun x hx a ha => ?_, h.apart⟩
  · by_cases e : a.block = m.heap.size
    · obtain ⟨b, o, s⟩ := a
      simp only at e
      subst e
      have b1 := Blk.new m t cs
      have b2 : Blk (W.alloc (.cells cs t)) m.heap.size t cs := by rw [hs]; exact Blk.new W t cs
      unfold Blk at b1 b2
      unfold World.cell? at hu ⊢
      rw [b1] at hu
      rw [b2]
      exact hu
    · exact cell_alloc_old (h.vw.cell _ _ (cell_alloc_iff hu e))
  · cases hc : (m.alloc (.cells cs t)).cell? a with
    | none => rfl
    | some u =>
      have := cell_alloc_iff hc (by rw [ha, hs]; exact Nat.ne_of_lt (h.blk x hx).lt)
      rw [h.hid x hx a ha] at this; cases this
section
variable {P : Program} {ops : Array Oper} {Q : Exit → Act → World → Prop} {rest : List Oper} {o : Oper} {a : Act} {w0 m0 W m : World} {Ls : List Lo}
theorem wl_bslice (hL : Loc w0 m0 W m Ls) (hw : Region.wanted o (yielded ops a.tmps) = true) {t : TypeId} {k : Nat} {parts : Array (Nat × Operand)} (_ho : o.op = .buildSlice t k parts) {n : Nat} {cs : Array Value} {e : TypeId}
    (hrun : ∀ w, (execOp a.eval o).run P w = .ok (.value (.slice (some ⟨w.heap.size, 0, none⟩) n n)) (w.alloc (.cells cs e)))
    (h : ∀ W' m', Loc w0 m0 W' m' Ls → Ext m m' → Blk m' W.heap.size e cs → wpList P ops Q rest (a.put o.dst (.slice (some ⟨W.heap.size, 0, none⟩) n n)) W') : wpList P ops Q (o :: rest) a W := by
  refine wpList_wanted hw fun _ hK => ?_
  unfold Oper.wp
  rw [hrun W]
  refine hK _ _ (h _ _ (hL.allocV cs e) (Ext.new _ _) ?_)
  rw [← hL.vw.size]
  exact Blk.new m e cs
theorem one2_makeV {b : Nat} {dst : Option Nat} {W1 m1 : World} (hV : Vw m1 W1) (hd : o.dst = dst) (hgd : o.guard = none) {t : TypeId} {x : Operand} (ho : o.op = .makeSlice t x x) {e : TypeId} {size bytes : Nat} (hap : apS P t = some (e, size, bytes, size)) {z : Array Value} (hz : zc P e = some z)
    {n : Nat} (hx : a.eval x = .int .i64 n) (hn : n ≤ 1000000) (hb : bytes ≤ 1000000) {R : World → Value → Prop} (hR : ∀ m' g, Ext m1 m' → Blk m' g e (madeCells z (n * size)) → R m' (.slice (some ⟨g, 0, none⟩) n n)) :
    wpList P ops (One2 (Of R) false a dst W1 m1) [o] a W1 := by
  subst hd
  refine wpList_plain hgd fun _ hK => op_make ho hap hz hx hn hb (hK _ _ ?_)
  have h := (Loc.start hV).allocV (madeCells z (n * size)) e
  exact ⟨rfl, h.ext, _, _, h.mext, h.vw, rfl, hR _ _ h.mext (by rw [← hV.size]; exact Blk.new _ _ _), fun h => by cases h⟩
end

theorem foldl_splice (off : Nat) : ∀ (l : List Value) (k : Nat) (cs : Array Value), (l.zipIdx k).foldl (fun cs (x : Value × Nat) => cs.setIfInBounds (off + x.2) x.1) cs = splice cs (off + k) l
  | [], _, _ => rfl
  | v :: r, k, cs => by
    rw [List.zipIdx_cons, List.foldl_cons, foldl_splice off r (k + 1), splice]; rfl
theorem splice_all {ws : List Value} {cs : Array Value} (h : cs.size = ws.length) : splice cs 0 ws = ws.toArray := by
  apply Array.ext_getElem?
  intro j
  rw [splice_at ws 0 cs (by omega)]
  by_cases hj : j < ws.length
  · rw [if_pos ⟨by omega, by omega⟩]; simp
  · rw [if_neg (by omega)]
    rw [Array.getElem?_eq_none (by omega)]; simp; omega
theorem run_bs1 {P : Program} {t e : TypeId} {size bytes : Nat} (hap : apS P t = some (e, size, bytes, size)) (h0 : 0 < size) (h1 : size ≤ 1000) {v : Value} {ws : List Value} (hv : v.cells = ws.toArray) (hw : ws.length = size) (w : World) :
    (Instr.buildSlice t 1 #[(0, v)]).run P w = .ok (.slice (some ⟨w.heap.size, 0, none⟩) 1 1) (w.alloc (.cells ws.toArray e)) := by
  obtain ⟨i, z, ht, hi, hz, hs, hb, hzs⟩ := ap_desc hap
  have hle : ¬ (1 * i.size > 2 ^ 24) := by omega
  have hne : ¬ (1 * i.size = 0) := by omega
  have hfill : ∀ cs : Array Value, cs.size = size → Instr.fill (fun j => some (j * i.size, i.size)) cs [(0, v)] = some ws.toArray := by
    intro cs hcs
    unfold Instr.fill
    have e1 : v.cells.size = i.size := by rw [hv]; simp [hw, hs]
    simp only [e1, ne_eq, not_true_eq_false, decide_false, Bool.false_or, Nat.zero_mul, Nat.zero_add]
    rw [if_neg (by simp; omega)]
    unfold Instr.fill
    congr 1
    rw [hv]
    have := foldl_splice 0 ws 0 cs
    simp only [Nat.zero_add, Nat.add_zero] at this
    have h2 := splice_all (cs := cs) (ws := ws) (by omega)
    rw [← Array.foldl_toList, Array.toList_zipIdx]
    exact this.trans h2
  have hsz : (sizeOf e).run P w = .ok i.size w := by simp [sizeOf, typeInfo, hi]
  have hzv : (zeroValue e).run P w = .ok z w := by simp [zeroValue, typeInfo, hi, hz]
  unfold Instr.buildSlice
  simp only [Sem.run_bind, run_underlying ht, hsz, Result.andThen_ok]
  rw [if_neg hle, if_neg hne]
  simp only [Sem.run_bind, hzv, Sem.run_pure, Result.andThen_ok]
  rw [hfill _ (by simp [hs])]
  simp [newRow, go_sem]
section
variable {P : Program} {ops : Array Oper} {Q : Exit → Act → World → Prop} {rest : List Oper} {o : Oper} {a : Act} {w0 m0 W m : World} {Ls : List Lo}
theorem wl_bs1 (hL : Loc w0 m0 W m Ls) (hw : Region.wanted o (yielded ops a.tmps) = true) {t : TypeId} {x : Operand} (ho : o.op = .buildSlice t 1 #[(0, x)]) {e : TypeId} {size bytes : Nat} (hap : apS P t = some (e, size, bytes, size)) (h0 : 0 < size) (h1 : size ≤ 1000)
    {v : Value} (hx : a.eval x = v) {ws : List Value} (hv : v.cells = ws.toArray) (hl : ws.length = size)
    (h : ∀ W' m', Loc w0 m0 W' m' Ls → Ext m m' → Blk m' W.heap.size e ws.toArray → wpList P ops Q rest (a.put o.dst (.slice (some ⟨W.heap.size, 0, none⟩) 1 1)) W') : wpList P ops Q (o :: rest) a W := by
  refine wl_bslice (e := e) (cs := ws.toArray) (n := 1) hL hw ho (fun w => ?_) h
  unfold execOp
  simp only [ho, List.map_toArray, List.map_cons, List.map_nil, hx, Sem.run_bind, run_bs1 hap h0 h1 hv hl, Result.andThen_ok, Sem.run_pure]
theorem t_bsA (hL : Loc w0 m0 W m Ls) {t : TypeId} {x : Operand} (ho : o.op = .buildSlice t 1 #[(0, x)]) {ws : List Value} (hx : a.eval x = .agg ws.toArray) {e : TypeId} {size bytes : Nat} [hap : ApC P t e size bytes]
    (h : ∀ W' m', Loc w0 m0 W' m' Ls → Ext m m' → Blk m' W.heap.size e ws.toArray → wpList P ops Q rest (a.put o.dst (.slice (some ⟨W.heap.size, 0, none⟩) 1 1)) W')
    (hz : 0 < size ∧ size ≤ 1000 ∧ ws.length = size := by refine ⟨by decide, by decide, rfl⟩)
    (hw : Region.wanted o (yielded ops a.tmps) = true := by first | exact wanted_none rfl | exact wanted_some rfl rfl rfl rfl) : wpList P ops Q (o :: rest) a W := wl_bs1 hL hw ho hap.h hz.1 hz.2.1 hx rfl hz.2.2 h
theorem t_bsV (hL : Loc w0 m0 W m Ls) {t : TypeId} {x : Operand} (ho : o.op = .buildSlice t 1 #[(0, x)]) {v : Value} (hx : a.eval x = v) {e : TypeId} {bytes : Nat} [hap : ApC P t e 1 bytes]
    (h : ∀ W' m', Loc w0 m0 W' m' Ls → Ext m m' → Blk m' W.heap.size e #[v] → wpList P ops Q rest (a.put o.dst (.slice (some ⟨W.heap.size, 0, none⟩) 1 1)) W')
    (hv : v.cells = #[v] := by exact rfl)
    (hw : Region.wanted o (yielded ops a.tmps) = true := by first | exact wanted_none rfl | exact wanted_some rfl rfl rfl rfl) : wpList P ops Q (o :: rest) a W := wl_bs1 (ws := [v]) hL hw ho hap.h (by omega) (by omega) hx hv rfl h
end
theorem kBs {P : Program} {ops : Array Oper} {Q : Exit → Act → World → Prop} {rest : List Oper} {a : Act} {W : World} {d : Option Tmp} {ty t : TypeId} {pos : String} {af : Array Edge} {gd : Option (Nat × Bool)} {ps : Array (Nat × Operand)} {n : Nat}
    (h : wpList P ops Q (⟨d, .buildSlice t n ps, ty, pos, af, gd⟩ :: rest) a W) : wpList P ops Q (⟨d, .buildSlice t n ps, ty, pos, af, gd⟩ :: rest) a W := h
/-- The walk stops ahead of an append. -/
theorem stA {P : Program} {ops : Array Oper} {Q : Exit → Act → World → Prop} {rest : List Oper} {a : Act} {W : World} {d : Option Tmp} {ty : TypeId} {pos : String} {af : Array Edge} {gd : Option (Nat × Bool)} {xs : Array Operand} {ts : Array TypeId}
    (h : Hid (wpList P ops Q (⟨d, .call { callee := .builtin .append, args := xs, argTypes := ts }, ty, pos, af, gd⟩ :: rest) a W)) : wpList P ops Q (⟨d, .call { callee := .builtin .append, args := xs, argTypes := ts }, ty, pos, af, gd⟩ :: rest) a W := h
theorem goA {p : Prop} (h : p) : Hid p := h
theorem RowA.snocV {α : Type} {e : TypeId} {size : Nat} {R : World → Value → α → Prop} {m : World} {n : Nat} {xs : List α} {vs : List Value} {v : Value} {x : α} {v' : Value} {R' : List Lo}
    (h1 : Row e size v' (n + 1) (cellsOf vs ++ [v]) R') (h2 : ∀ u ∈ vs, u.cells.size = size) (h3 : All2 (R m) vs xs) (h4 : vs.length = n) (hv : v.cells = #[v]) (hs : size = 1) (hx : R m v x) : RowA e size R m v' (n + 1) (xs ++ [x]) R' := by
  refine ⟨vs ++ [v], ?_, ?_, h3.snoc hx, by simp [h4]⟩
  · rw [cellsOf_append, cellsOf_one, hv]
    exact h1
  · intro u hu
    rcases List.mem_append.1 hu with hu | hu
    · exact h2 u hu
    · rcases List.mem_singleton.1 hu with rfl
      rw [hv, hs]; rfl
theorem RowA.len {α : Type} {e : TypeId} {size : Nat} {R : World → Value → α → Prop} {m : World} {v : Value} {n : Nat} {xs : List α} {Rr : List Lo} (h : RowA e size R m v n xs Rr) : n = xs.length := by
  obtain ⟨vs, _, _, h3, h4⟩ := h
  rw [← h4, h3.length]
end Go.Proofs.YtmhkmmmompediaaGreat

/- Contract of pairingref27.Mix where it mixes. -/
namespace Go.Proofs.YtmhkmmmompediaaGreat
open Go.RowKit

set_option maxRecDepth 100000 in
set_option maxHeartbeats 16000000 in
theorem r_Mix_ok (va vb : Value) (p q : Pr) (num den : Int) (w m : World) (hV : Vw m w) (ha : PricesR m va p) (hb : PricesR m vb q) (h1 : ¬ den < 1) (h2 : ¬ num < 0) (h3 : ¬ num > den) (h4 : den ≤ 1000)
    (okp : p.ok) (tp : p.tn) (tq : q.tn)
    (hfl : q.fl.length = p.fl.length) (hcd : p.cd.length = p.cu.length) (hcd' : q.cd.length = p.cu.length) (hcu : q.cu = p.cu) (hde : q.de = p.de) (hfr : q.fr = p.fr) :
    Calls Tryz.prog 31 #[va, vb, .int .i64 num, .int .i64 den] w (RetV w m fun m' r => ∃ v, r = .tuple #[v, .int .i64 0] ∧ PricesR m' v (mixP (Rat.divInt num den) (Rat.divInt (den - num) den) p q)) := by
  obtain ⟨fl, cu, cd, de, fr⟩ := p
  obtain ⟨fl', cu', cd', de', fr'⟩ := q
  obtain ⟨a, b, c, d, rfl, a1, a2, a3, a4⟩ := ha
  obtain ⟨a', b', c', d', rfl, b1, b2, b3, b4⟩ := hb
  simp only at a1 a2 a3 a4 b1 b2 b3 b4 hfl hcd hcd' hcu hde hfr
  subst hcu hde hfr
  obtain ⟨A1, c1, rfl, -, a1⟩ := a1.lit
  obtain ⟨A2, c2, rfl, -, a2⟩ := a2.lit
  obtain ⟨A3, c3, rfl, -, a3⟩ := a3.lit
  obtain ⟨A4, c4, rfl, -, a4⟩ := a4.lit
  obtain ⟨B1, d1, rfl, -, b1⟩ := b1.lit
  obtain ⟨B2, d2, rfl, -, b2⟩ := b2.lit
  obtain ⟨B3, d3, rfl, -, b3⟩ := b3.lit
  obtain ⟨B4, d4, rfl, -, b4⟩ := b4.lit
  have OK := Lib.hid okp
  have TP := Lib.hid tp
  have TQ := Lib.hid tq
  have K1 : Hid (cu'.length ≤ 1000000) := by show _ ≤ _; have := okp.nc; simp only at this; omega
  have K2 : Hid (de'.length ≤ 1000000) := by show _ ≤ _; have := okp.ne; simp only at this; omega
  clear okp tp tq
  have KE : Hid (∀ w m a b, Vw m w → DecL m a de' → DecL m b de' → Calls Tryz.prog 59 #[a, b] w (RetV w m fun _ r => r = .bool true)) := by
    show ∀ w m a b, _
    intro w m a b hV h1 h2
    have := r_SameDecisions a b de' de' w m hV h1 h2 K2.out K2.out
    rwa [decide_eq_true rfl] at this
  have KI1 : Hid (∀ w m, Vw m w → Calls Tryz.prog 17 #[.int .i64 num] w (RetV w m fun m' r => FracC m' r (num : Rat))) := by
    show ∀ w m, _
    exact fun w m hV => r_Int num w m hV (by omega) (by omega)
  have KI2 : Hid (∀ w m, Vw m w → Calls Tryz.prog 17 #[.int .i64 den] w (RetV w m fun m' r => FracC m' r (den : Rat))) := by
    show ∀ w m, _
    exact fun w m hV => r_Int den w m hV (by omega) (by omega)
  have KD : Hid (∀ w m a b, Vw m w → FracC m a (num : Rat) → FracC m b (den : Rat) → Calls Tryz.prog 82 #[a, b] w (RetV w m fun m' r => FracC m' r (Rat.divInt num den))) := by
    show ∀ w m a b, _
    intro w m a b hV h1 h2
    have := r_DivC a b _ _ w m hV h1 h2 ((Tn.int (k := 1000) (by omega) (by decide)).fit (by decide)) ((Tn.int (k := 1000) (by omega) (by decide)).fit (by decide))
    rwa [div_mix] at this
  have TS : Hid (Tn 1000 (Rat.divInt num den)) := by show Tn _ _; exact Tn.divInt (by omega) (by omega) (by omega)
  have TT : Hid (Tn 1000 (Rat.divInt (den - num) den)) := by show Tn _ _; exact Tn.divInt (by omega) (by omega) (by omega)
  have KS : Hid (∀ w m a b, Vw m w → FracC m a ((1 : Int) : Rat) → FracC m b (Rat.divInt num den) → Calls Tryz.prog 85 #[a, b] w (RetV w m fun m' r => FracC m' r (Rat.divInt (den - num) den))) := by
    show ∀ w m a b, _
    intro w m a b hV h1' h2'
    have := r_SubC a b _ _ w m hV h1' h2' ((Tn.int (k := 1000) (by decide) (by decide)).fit (by decide)) (TS.out.fit (by decide))
    rwa [sub_mix num den h1] at this
  rw [hfl] at b1 ⊢
  rw [hcd'] at b3 ⊢
  rw [hcd] at a3 ⊢
  have E1' := Lib.hid hfl
  have E3 := Lib.hid hcd
  have E3' := Lib.hid hcd'
  clear hfl hcd hcd'
  generalize hnf : fl.length = nf at *
  have E1 := Lib.hid hnf
  generalize hnc : cu'.length = nc at *
  have E2 := Lib.hid hnc
  have hnf6 : nf ≤ 1000 := by have := OK.out.nf; simp only at this; omega
  have hnc6 : nc ≤ 1000 := by have := OK.out.nc; simp only at this; omega
  clear hnf hnc
  have e1 : ((nf : Int) != (nf : Int)) = false := by simp
  have e2 : ((nc : Int) != (nc : Int)) = false := by simp
  have e3 : (!(fr' == fr')) = false := by simp
  have e4 : (fr' != fr') = false := by simp
  generalize Rat.divInt num den = s at *
  generalize Rat.divInt (den - num) den = t at *
  have hL := Loc.start hV
  clear hV
  go_enter Tryz.func31, Tryz.ntmps31
  go_upto_region 0 with (fail)
  refine wp_region_lit ?_
  refine t_box hL rfl rfl ?_; clear hL; intro Wh4 mh4 hL eh4; simp only [Act.put, zq1, zq2, zq3]
  refine t_box hL rfl rfl ?_; clear hL; intro Wh5 mh5 hL eh5; simp only [Act.put, zq1, zq2, zq3]
  refine t_alloc hL rfl ?_; clear hL; intro Wh8 mh8 hL eh8; simp only [Act.put, zq1, zq2, zq3]
  go_wp2_with (first | ((with_reducible refine kAny ?_); go_skip) | ((first | ((with_reducible refine kIx ?_); first | (refine t_ixa rfl rfl rfl ?_; (try simp only [Nat.mul_one])) | (refine t_ixaA rfl rfl rfl ?_; (try simp only [Nat.mul_one]))) | ((with_reducible refine kFd ?_); first | refine t_fda0 rfl rfl ?_ | (refine t_fda rfl rfl ?_; (try simp only [Nat.zero_add, Nat.reduceAdd]))) | ((with_reducible refine kLd ?_); first | refine t_loadR hL rfl rfl ?_ | refine t_loadW hL rfl rfl ?_ | refine t_load2 hL rfl rfl ?_ | refine t_load1 hL rfl rfl ?_ | refine t_loadV hL.vw rfl rfl ?_ | refine t_loadV1 hL.vw rfl rfl ?_) | ((with_reducible refine kSt ?_); first | (refine t_storeR hL rfl rfl rfl ?_; clear hL; intro _ hL; simp only [zq2, zq3] at hL) | ((first | refine t_store hL rfl rfl rfl ?_ | refine t_sts hL rfl rfl rfl ?_ | refine t_sti hL rfl rfl rfl ?_ | refine t_stb hL rfl rfl rfl ?_ | refine t_store1 hL rfl rfl rfl ?_); clear hL; intro _ hL; simp only [splice, zq1, zq2, zq3] at hL)) | ((with_reducible refine kBx ?_); (refine t_box hL rfl rfl ?_; clear hL; intro _ _ hL _)) | ((with_reducible refine kAl ?_); (refine t_alloc hL rfl ?_; clear hL; intro _ _ hL _))); simp only [Act.put, zq1, zq2, zq3]))
  refine (r_SameCuts _ _ cu' _ _ hL.vw (CutL.le a2 leX) (CutL.le b2 leX) (by rw [E2.out]; exact K1.out)).mono ?_
  rintro e Wc1 ⟨_, mc1, rfl, hE, hMc1, hV, rfl⟩
  replace hL := hL.call hE (by assumption) hV; clear hE hV
  go_wp2_with (first | ((with_reducible refine kAny ?_); go_skip) | ((first | ((with_reducible refine kIx ?_); first | (refine t_ixa rfl rfl rfl ?_; (try simp only [Nat.mul_one])) | (refine t_ixaA rfl rfl rfl ?_; (try simp only [Nat.mul_one]))) | ((with_reducible refine kFd ?_); first | refine t_fda0 rfl rfl ?_ | (refine t_fda rfl rfl ?_; (try simp only [Nat.zero_add, Nat.reduceAdd]))) | ((with_reducible refine kLd ?_); first | refine t_loadR hL rfl rfl ?_ | refine t_loadW hL rfl rfl ?_ | refine t_load2 hL rfl rfl ?_ | refine t_load1 hL rfl rfl ?_ | refine t_loadV hL.vw rfl rfl ?_ | refine t_loadV1 hL.vw rfl rfl ?_) | ((with_reducible refine kSt ?_); first | (refine t_storeR hL rfl rfl rfl ?_; clear hL; intro _ hL; simp only [zq2, zq3] at hL) | ((first | refine t_store hL rfl rfl rfl ?_ | refine t_sts hL rfl rfl rfl ?_ | refine t_sti hL rfl rfl rfl ?_ | refine t_stb hL rfl rfl rfl ?_ | refine t_store1 hL rfl rfl rfl ?_); clear hL; intro _ hL; simp only [splice, zq1, zq2, zq3] at hL)) | ((with_reducible refine kBx ?_); (refine t_box hL rfl rfl ?_; clear hL; intro _ _ hL _)) | ((with_reducible refine kAl ?_); (refine t_alloc hL rfl ?_; clear hL; intro _ _ hL _))); simp only [Act.put, zq1, zq2, zq3]))
  refine (KE.out _ _ _ _ hL.vw (DecL.le a4 leX) (DecL.le b4 leX)).mono ?_
  rintro e Wc2 ⟨_, mc2, rfl, hE, hMc2, hV, rfl⟩
  replace hL := hL.call hE (by assumption) hV; clear hE hV
  go_wp2_with (first | ((with_reducible refine kAny ?_); go_skip) | ((first | ((with_reducible refine kIx ?_); first | (refine t_ixa rfl rfl rfl ?_; (try simp only [Nat.mul_one])) | (refine t_ixaA rfl rfl rfl ?_; (try simp only [Nat.mul_one]))) | ((with_reducible refine kFd ?_); first | refine t_fda0 rfl rfl ?_ | (refine t_fda rfl rfl ?_; (try simp only [Nat.zero_add, Nat.reduceAdd]))) | ((with_reducible refine kLd ?_); first | refine t_loadR hL rfl rfl ?_ | refine t_loadW hL rfl rfl ?_ | refine t_load2 hL rfl rfl ?_ | refine t_load1 hL rfl rfl ?_ | refine t_loadV hL.vw rfl rfl ?_ | refine t_loadV1 hL.vw rfl rfl ?_) | ((with_reducible refine kSt ?_); first | (refine t_storeR hL rfl rfl rfl ?_; clear hL; intro _ hL; simp only [zq2, zq3] at hL) | ((first | refine t_store hL rfl rfl rfl ?_ | refine t_sts hL rfl rfl rfl ?_ | refine t_sti hL rfl rfl rfl ?_ | refine t_stb hL rfl rfl rfl ?_ | refine t_store1 hL rfl rfl rfl ?_); clear hL; intro _ hL; simp only [splice, zq1, zq2, zq3] at hL)) | ((with_reducible refine kBx ?_); (refine t_box hL rfl rfl ?_; clear hL; intro _ _ hL _)) | ((with_reducible refine kAl ?_); (refine t_alloc hL rfl ?_; clear hL; intro _ _ hL _))); simp only [Act.put, zq1, zq2, zq3]))
  refine (KI1.out _ _ hL.vw).mono ?_
  rintro e Wc3 ⟨vc3, mc3, rfl, hE, hMc3, hV, hc3⟩
  replace hL := hL.call hE (by assumption) hV; clear hE hV
  obtain ⟨gc3', Ac3', nc3', cc3', hc3', Bc3', kc3', dc3', rfl, hc3⟩ := hc3.lit
  go_wp2_with (first | ((with_reducible refine kAny ?_); go_skip) | ((first | ((with_reducible refine kIx ?_); first | (refine t_ixa rfl rfl rfl ?_; (try simp only [Nat.mul_one])) | (refine t_ixaA rfl rfl rfl ?_; (try simp only [Nat.mul_one]))) | ((with_reducible refine kFd ?_); first | refine t_fda0 rfl rfl ?_ | (refine t_fda rfl rfl ?_; (try simp only [Nat.zero_add, Nat.reduceAdd]))) | ((with_reducible refine kLd ?_); first | refine t_loadR hL rfl rfl ?_ | refine t_loadW hL rfl rfl ?_ | refine t_load2 hL rfl rfl ?_ | refine t_load1 hL rfl rfl ?_ | refine t_loadV hL.vw rfl rfl ?_ | refine t_loadV1 hL.vw rfl rfl ?_) | ((with_reducible refine kSt ?_); first | (refine t_storeR hL rfl rfl rfl ?_; clear hL; intro _ hL; simp only [zq2, zq3] at hL) | ((first | refine t_store hL rfl rfl rfl ?_ | refine t_sts hL rfl rfl rfl ?_ | refine t_sti hL rfl rfl rfl ?_ | refine t_stb hL rfl rfl rfl ?_ | refine t_store1 hL rfl rfl rfl ?_); clear hL; intro _ hL; simp only [splice, zq1, zq2, zq3] at hL)) | ((with_reducible refine kBx ?_); (refine t_box hL rfl rfl ?_; clear hL; intro _ _ hL _)) | ((with_reducible refine kAl ?_); (refine t_alloc hL rfl ?_; clear hL; intro _ _ hL _))); simp only [Act.put, zq1, zq2, zq3]))
  refine (KI2.out _ _ hL.vw).mono ?_
  rintro e Wc4 ⟨vc4, mc4, rfl, hE, hMc4, hV, hc4⟩
  replace hL := hL.call hE (by assumption) hV; clear hE hV
  obtain ⟨gc4', Ac4', nc4', cc4', hc4', Bc4', kc4', dc4', rfl, hc4⟩ := hc4.lit
  go_wp2_with (first | ((with_reducible refine kAny ?_); go_skip) | ((first | ((with_reducible refine kIx ?_); first | (refine t_ixa rfl rfl rfl ?_; (try simp only [Nat.mul_one])) | (refine t_ixaA rfl rfl rfl ?_; (try simp only [Nat.mul_one]))) | ((with_reducible refine kFd ?_); first | refine t_fda0 rfl rfl ?_ | (refine t_fda rfl rfl ?_; (try simp only [Nat.zero_add, Nat.reduceAdd]))) | ((with_reducible refine kLd ?_); first | refine t_loadR hL rfl rfl ?_ | refine t_loadW hL rfl rfl ?_ | refine t_load2 hL rfl rfl ?_ | refine t_load1 hL rfl rfl ?_ | refine t_loadV hL.vw rfl rfl ?_ | refine t_loadV1 hL.vw rfl rfl ?_) | ((with_reducible refine kSt ?_); first | (refine t_storeR hL rfl rfl rfl ?_; clear hL; intro _ hL; simp only [zq2, zq3] at hL) | ((first | refine t_store hL rfl rfl rfl ?_ | refine t_sts hL rfl rfl rfl ?_ | refine t_sti hL rfl rfl rfl ?_ | refine t_stb hL rfl rfl rfl ?_ | refine t_store1 hL rfl rfl rfl ?_); clear hL; intro _ hL; simp only [splice, zq1, zq2, zq3] at hL)) | ((with_reducible refine kBx ?_); (refine t_box hL rfl rfl ?_; clear hL; intro _ _ hL _)) | ((with_reducible refine kAl ?_); (refine t_alloc hL rfl ?_; clear hL; intro _ _ hL _))); simp only [Act.put, zq1, zq2, zq3]))
  refine (KD.out _ _ _ _ hL.vw (hc3.le leX) hc4).mono ?_
  rintro e Wc5 ⟨vc5, mc5, rfl, hE, hMc5, hV, hc5⟩
  replace hL := hL.call hE (by assumption) hV; clear hE hV
  obtain ⟨gc5', Ac5', nc5', cc5', hc5', Bc5', kc5', dc5', rfl, hc5⟩ := hc5.lit
  go_upto_region 6 with ((first | ((with_reducible refine kAny ?_); go_skip) | ((first | ((with_reducible refine kIx ?_); first | (refine t_ixa rfl rfl rfl ?_; (try simp only [Nat.mul_one])) | (refine t_ixaA rfl rfl rfl ?_; (try simp only [Nat.mul_one]))) | ((with_reducible refine kFd ?_); first | refine t_fda0 rfl rfl ?_ | (refine t_fda rfl rfl ?_; (try simp only [Nat.zero_add, Nat.reduceAdd]))) | ((with_reducible refine kLd ?_); first | refine t_loadR hL rfl rfl ?_ | refine t_loadW hL rfl rfl ?_ | refine t_load2 hL rfl rfl ?_ | refine t_load1 hL rfl rfl ?_ | refine t_loadV hL.vw rfl rfl ?_ | refine t_loadV1 hL.vw rfl rfl ?_) | ((with_reducible refine kSt ?_); first | (refine t_storeR hL rfl rfl rfl ?_; clear hL; intro _ hL; simp only [zq2, zq3] at hL) | ((first | refine t_store hL rfl rfl rfl ?_ | refine t_sts hL rfl rfl rfl ?_ | refine t_sti hL rfl rfl rfl ?_ | refine t_stb hL rfl rfl rfl ?_ | refine t_store1 hL rfl rfl rfl ?_); clear hL; intro _ hL; simp only [splice, zq1, zq2, zq3] at hL)) | ((with_reducible refine kBx ?_); (refine t_box hL rfl rfl ?_; clear hL; intro _ _ hL _)) | ((with_reducible refine kAl ?_); (refine t_alloc hL rfl ?_; clear hL; intro _ _ hL _))); simp only [Act.put, zq1, zq2, zq3])))
  obtain ⟨B, hB1, hB2, hB3⟩ := hL.bound
  refine wp_region_by2 4 [false, false, false, true] [false, false, false, false] [Of (fun um v => FracC um v ((1 : Int) : Rat)), (fun v _ _ => v = ?c6_1), Of (fun um v => FracC um v t), NewBlk B 39 #[.bool false, .slice none 0 0, .bool false, .slice none 0 0]] hL.vw mixed [81, 82, 83, 11] _ (by kernel_rfl) (fun vs => by simp only [lay, Act.put, zq1, zq2, zq3]; rfl) (by kernel_rfl) (by decide) (by decide) ?s6 ?l6 ?r6
  case s6 =>
    refine ⟨?_, ?_, ?_, ?_, trivial⟩
    · intro vs W1 m1 hE hM hV hD
      clear hD
      go_wp2_with fail
      refine (r_Int 1 _ _ hV (by decide) (by decide)).mono ?_
      rintro e W2 ⟨v, m2, rfl, hE2, hM2, hV2, h⟩
      go_wp2_with fail
      refine One2.call hE2 hM2 hV2 ?_; first | exact h | exact rfl
    · intro vs W1 m1 hE hM hV hD
      clear hD
      replace hL := hL.call hE hM hV
      exact sLd
    · intro vs W1 m1 hE hM hV hD
      obtain ⟨⟨_, _, -, i81, f81⟩, ⟨_, _, -, -, f82⟩, -, -⟩ := hD
      have f82 : vs 82 = _ := f82
      generalize vs 82 = x82 at f82 ⊢
      subst x82
      have f81 : FracC _ (vs 81) ((1 : Int) : Rat) := f81
      replace f81 := f81.le i81.le
      clear i81
      go_wp2_with fail
      refine (KS.out _ _ _ _ hV f81 (hc5.le leX)).mono ?_
      rintro e W2 ⟨v, m2, rfl, hE2, hM2, hV2, h⟩
      go_wp2_with fail
      refine One2.call hE2 hM2 hV2 ?_; first | exact h | exact rfl
    · intro vs W1 m1 hE hM hV hD
      clear hD
      exact one2_alloc hV (Nat.le_trans hB3 hE.size) rfl rfl rfl ZcC.h
  case l6 =>
    refine ⟨fun h => (by cases h), fun h => (by cases h), fun h => (by cases h), fun h => (by cases h), trivial⟩
  intro vs W1 m1 hE hM hV hF hD
  obtain ⟨⟨_, _, -, i81, f81⟩, -, ⟨_, _, -, i83, f83⟩, ⟨_, _, j11, i11, f11⟩, -⟩ := hF
  replace hL := hL.call hE hM hV
  replace f81 : FracC _ (vs 81) ((1 : Int) : Rat) := f81
  replace f81 := f81.le i81.le
  clear i81
  replace f83 : FracC _ (vs 83) t := f83
  replace f83 := f83.le i83.le
  clear i83
  obtain ⟨g83, A83, n83, c83, h83, B83, k83, d83, e83, f83⟩ := f83.lit
  generalize vs 83 = x83 at e83 ⊢
  subst x83
  obtain ⟨b11, e11, hL⟩ := Loc.addB (Lt := []) hB1 hB2 hL f11 j11 i11 ad0
  simp only [e11, List.cons_append, List.nil_append] at hL ⊢
  clear e11 f11 j11 i11
  clear hB1 hB2 hB3 hD
  clear hE hV
  simp only [List.drop_succ_cons, List.drop_zero]
  go_wp2_with (first | ((with_reducible refine kAny ?_); go_skip) | ((first | ((with_reducible refine kIx ?_); first | (refine t_ixa rfl rfl rfl ?_; (try simp only [Nat.mul_one])) | (refine t_ixaA rfl rfl rfl ?_; (try simp only [Nat.mul_one]))) | ((with_reducible refine kFd ?_); first | refine t_fda0 rfl rfl ?_ | (refine t_fda rfl rfl ?_; (try simp only [Nat.zero_add, Nat.reduceAdd]))) | ((with_reducible refine kLd ?_); first | refine t_loadR hL rfl rfl ?_ | refine t_loadW hL rfl rfl ?_ | refine t_load2 hL rfl rfl ?_ | refine t_load1 hL rfl rfl ?_ | refine t_loadV hL.vw rfl rfl ?_ | refine t_loadV1 hL.vw rfl rfl ?_) | ((with_reducible refine kSt ?_); first | (refine t_storeR hL rfl rfl rfl ?_; clear hL; intro _ hL; simp only [zq2, zq3] at hL) | ((first | refine t_store hL rfl rfl rfl ?_ | refine t_sts hL rfl rfl rfl ?_ | refine t_sti hL rfl rfl rfl ?_ | refine t_stb hL rfl rfl rfl ?_ | refine t_store1 hL rfl rfl rfl ?_); clear hL; intro _ hL; simp only [splice, zq1, zq2, zq3] at hL)) | ((with_reducible refine kBx ?_); (refine t_box hL rfl rfl ?_; clear hL; intro _ _ hL _)) | ((with_reducible refine kAl ?_); (refine t_alloc hL rfl ?_; clear hL; intro _ _ hL _))); simp only [Act.put, zq1, zq2, zq3]))
  refine QN.mk ?_
  rename_i W6
  have hs6 : FracC m1 _ s := hc5.le leX
  go_wp2_with (first | ((with_reducible refine kAny ?_); go_skip) | ((first | ((with_reducible refine kIx ?_); first | (refine t_ixa rfl rfl rfl ?_; (try simp only [Nat.mul_one])) | (refine t_ixaA rfl rfl rfl ?_; (try simp only [Nat.mul_one]))) | ((with_reducible refine kFd ?_); first | refine t_fda0 rfl rfl ?_ | (refine t_fda rfl rfl ?_; (try simp only [Nat.zero_add, Nat.reduceAdd]))) | ((with_reducible refine kLd ?_); first | refine t_loadR hL rfl rfl ?_ | refine t_loadW hL rfl rfl ?_ | refine t_load2 hL rfl rfl ?_ | refine t_load1 hL rfl rfl ?_ | refine t_loadV hL.vw rfl rfl ?_ | refine t_loadV1 hL.vw rfl rfl ?_) | ((with_reducible refine kSt ?_); first | (refine t_storeR hL rfl rfl rfl ?_; clear hL; intro _ hL; simp only [zq2, zq3] at hL) | ((first | refine t_store hL rfl rfl rfl ?_ | refine t_sts hL rfl rfl rfl ?_ | refine t_sti hL rfl rfl rfl ?_ | refine t_stb hL rfl rfl rfl ?_ | refine t_store1 hL rfl rfl rfl ?_); clear hL; intro _ hL; simp only [splice, zq1, zq2, zq3] at hL)) | ((with_reducible refine kBx ?_); (refine t_box hL rfl rfl ?_; clear hL; intro _ _ hL _)) | ((with_reducible refine kAl ?_); (refine t_alloc hL rfl ?_; clear hL; intro _ _ hL _))); simp only [Act.put, zq1, zq2, zq3]))
  have hX1 := hL.mext
  go_loopw [13] (fun i wr => ∃ (k : Nat) (mm : World) (A7 : Option Addr) (c7 : Nat) (Rr : List Lo), k ≤ nf ∧ i = .int .i64 k ∧ Loc w m wr mm ((W6.heap.size, 31, #[.slice A7 k c7, .slice A2 nc c2, .slice none 0 0, .slice A4 de'.length c4, .bool fr']) :: (b11, 39, #[.bool g83, .slice A83 n83 c83, .bool h83, .slice B83 k83 d83]) :: (Wc5.heap.size, 39, #[.bool gc5', .slice Ac5' nc5' cc5', .bool hc5', .slice Bc5' kc5' dc5']) :: (Wh5.heap.size, 31, #[.slice none 0 0, .slice none 0 0, .slice none 0 0, .slice none 0 0, .bool false]) :: (Wh4.heap.size, 31, #[.slice B1 nf d1, .slice B2 nc d2, .slice B3 nc d3, .slice B4 de'.length d4, .bool fr']) :: (w.heap.size, 31, #[.slice A1 nf c1, .slice A2 nc c2, .slice A3 nc c3, .slice A4 de'.length c4, .bool fr']) :: Rr) ∧ Hid (RowA 39 4 FracC mm (.slice A7 k c7) k ((mixL s t fl fl').take k) Rr) ∧ Ext m1 mm) (fun i _ => nf - (intOf i).toNat)
  case atStart =>
    refine ⟨0, _, _, _, [], Nat.zero_le _, rfl, hL, ?_, ?_⟩
    · exact RowA.nil
    · assumption
  case round =>
    clear hL hX1
    obtain ⟨k, mm, A7, c7, Rr, hk, rfl, hL, r1, hX⟩ := hrel
    have hM := hL.mext
    by_cases hlt : k < nf
    · obtain ⟨x, hx⟩ := at_some E1 hlt
      obtain ⟨y, hy⟩ := at_some E1' hlt
      obtain ⟨b1', o1, g1', A1', n1, c1', g1'', B1', k1, d1', hA, hx1, hr1⟩ := FracL.at_ a1 hx
      obtain ⟨b2', o2, g2', A2', n2, c2', g2'', B2', k2, d2', hA', hy1, hr2⟩ := FracL.at_ b1 hy
      replace hA := Lib.hid hA
      replace hA' := Lib.hid hA'
      have TX : Tn 1000 x := TP.out.fl x (List.mem_of_getElem? hx)
      have TY : Tn 1000 y := TQ.out.fl y (List.mem_of_getElem? hy)
      have F1 : Hid (Fit 200 s) := TS.out.fit (by omega)
      have F2 : Hid (Fit 200 x) := TX.fit (by omega)
      have F3 : Hid (Fit 200 t) := TT.out.fit (by omega)
      have F4 : Hid (Fit 200 y) := TY.fit (by omega)
      have F5 : Hid (Fit 200 (s * x)) := (TS.out.mul TX).fit (by omega)
      have F6 : Hid (Fit 200 (t * y)) := (TT.out.mul TY).fit (by omega)
      have HZ : Hid ((mixL s t fl fl')[k]? = some (s * x + t * y)) := mixL_at hx hy
      replace hs6 := hs6.le hX.le
      replace f83 := f83.le hX.le
      clear hx hy TX TY TS TT TP TQ OK KE KI1 KI2 KD KS K1 K2
      go_upto_region 11 with ((first | ((with_reducible refine kAny ?_); go_skip) | ((first | ((with_reducible refine kIx ?_); first | (refine t_ixa rfl rfl rfl ?_; (try simp only [Nat.mul_one])) | (refine t_ixaA rfl rfl rfl ?_; (try simp only [Nat.mul_one]))) | ((with_reducible refine kFd ?_); first | refine t_fda0 rfl rfl ?_ | (refine t_fda rfl rfl ?_; (try simp only [Nat.zero_add, Nat.reduceAdd]))) | ((with_reducible refine kLd ?_); first | refine t_loadR hL rfl rfl ?_ | refine t_loadW hL rfl rfl ?_ | refine t_load2 hL rfl rfl ?_ | refine t_load1 hL rfl rfl ?_ | refine t_loadV hL.vw rfl rfl ?_ | refine t_loadV1 hL.vw rfl rfl ?_) | ((with_reducible refine kSt ?_); first | (refine t_storeR hL rfl rfl rfl ?_; clear hL; intro _ hL; simp only [zq2, zq3] at hL) | ((first | refine t_store hL rfl rfl rfl ?_ | refine t_sts hL rfl rfl rfl ?_ | refine t_sti hL rfl rfl rfl ?_ | refine t_stb hL rfl rfl rfl ?_ | refine t_store1 hL rfl rfl rfl ?_); clear hL; intro _ hL; simp only [splice, zq1, zq2, zq3] at hL)) | ((with_reducible refine kBx ?_); (refine t_box hL rfl rfl ?_; clear hL; intro _ _ hL _)) | ((with_reducible refine kAl ?_); (refine t_alloc hL rfl ?_; clear hL; intro _ _ hL _))); simp only [Act.put, zq1, zq2, zq3])))
      (try simp only [eq_self] at *)
      refine wp_region_by2 18 [false, false, false, false, false, false, false, false, false, false, false, false, false, false, false, false, false, false] [false, false, false, false, false, false, false, false, false, false, false, false, false, false, false, false, false, false] [(fun v _ _ => v = ?c11_0), (fun v _ _ => v = ?c11_1), (fun v _ _ => v = ?c11_2), (fun v _ _ => v = ?c11_3), (fun v _ _ => v = ?c11_4), (fun v _ _ => v = ?c11_5), (fun v _ _ => v = ?c11_6), (fun v _ _ => v = ?c11_7), Of (fun um v => FracC um v (s * x)), (fun v _ _ => v = ?c11_9), (fun v _ _ => v = ?c11_10), (fun v _ _ => v = ?c11_11), (fun v _ _ => v = ?c11_12), (fun v _ _ => v = ?c11_13), (fun v _ _ => v = ?c11_14), Of (fun um v => FracC um v (t * y)), Of (fun um v => FracC um v (s * x + t * y)), (NewS1 39 (fun um v => FracC um v (s * x + t * y)))] hL.vw mixed [98, 99, 100, 101, 102, 103, 104, 105, 106, 107, 108, 109, 110, 111, 112, 113, 114, 115] _ (by kernel_rfl) (fun vs => by simp only [lay, Act.put, zq1, zq2, zq3]; rfl) (by kernel_rfl) (by decide) (by decide) ?s11 ?l11 ?r11
      case s11 =>
        refine ⟨?_, ?_, ?_, ?_, ?_, ?_, ?_, ?_, ?_, ?_, ?_, ?_, ?_, ?_, ?_, ?_, ?_, ?_, trivial⟩
        · intro vs W1 m1 hE hM hV hD
          clear hD
          replace hL := hL.call hE hM hV
          exact sFd
        · intro vs W1 m1 hE hM hV hD
          obtain ⟨⟨_, _, -, -, f98⟩, -⟩ := hD
          have f98 : vs 98 = _ := f98
          generalize vs 98 = x98 at f98 ⊢
          subst x98
          replace hL := hL.call hE hM hV
          exact sLd
        · intro vs W1 m1 hE hM hV hD
          clear hD
          replace hL := hL.call hE hM hV
          exact sLd
        · intro vs W1 m1 hE hM hV hD
          clear hD
          replace hL := hL.call hE hM hV
          exact sFd
        · intro vs W1 m1 hE hM hV hD
          obtain ⟨⟨_, _, -, -, f101⟩, -⟩ := hD
          have f101 : vs 101 = _ := f101
          generalize vs 101 = x101 at f101 ⊢
          subst x101
          replace hL := hL.call hE hM hV
          exact sLd
        · intro vs W1 m1 hE hM hV hD
          clear hD
          replace hL := hL.call hE hM hV
          exact sPu
        · intro vs W1 m1 hE hM hV hD
          obtain ⟨⟨_, _, -, -, f102⟩, ⟨_, _, -, -, f103⟩, -⟩ := hD
          have f102 : vs 102 = _ := f102
          generalize vs 102 = x102 at f102 ⊢
          subst x102
          have f103 : vs 103 = _ := f103
          generalize vs 103 = x103 at f103 ⊢
          subst x103
          replace hL := hL.call hE hM hV
          exact sIx
        · intro vs W1 m1 hE hM hV hD
          obtain ⟨⟨_, _, -, -, f104⟩, -⟩ := hD
          have f104 : vs 104 = _ := f104
          generalize vs 104 = x104 at f104 ⊢
          subst x104
          replace hL := hL.call hE hM hV
          exact sLd
        · intro vs W1 m1 hE hM hV hD
          obtain ⟨⟨_, _, -, -, f100⟩, ⟨_, _, -, -, f105⟩, -⟩ := hD
          have f100 : vs 100 = _ := f100
          generalize vs 100 = x100 at f100 ⊢
          subst x100
          have f105 : vs 105 = _ := f105
          generalize vs 105 = x105 at f105 ⊢
          subst x105
          go_wp2_with fail
          refine (r_MulC _ _ s x _ _ hV (hs6.le leX) (hx1.le leX) F1.out F2.out).mono ?_
          rintro e W2 ⟨v, m2, rfl, hE2, hM2, hV2, h⟩
          go_wp2_with fail
          refine One2.call hE2 hM2 hV2 ?_; first | exact h | exact rfl
        · intro vs W1 m1 hE hM hV hD
          clear hD
          replace hL := hL.call hE hM hV
          exact sLd
        · intro vs W1 m1 hE hM hV hD
          clear hD
          replace hL := hL.call hE hM hV
          exact sFd
        · intro vs W1 m1 hE hM hV hD
          obtain ⟨⟨_, _, -, -, f108⟩, -⟩ := hD
          have f108 : vs 108 = _ := f108
          generalize vs 108 = x108 at f108 ⊢
          subst x108
          replace hL := hL.call hE hM hV
          exact sLd
        · intro vs W1 m1 hE hM hV hD
          clear hD
          replace hL := hL.call hE hM hV
          exact sPu
        · intro vs W1 m1 hE hM hV hD
          obtain ⟨⟨_, _, -, -, f109⟩, ⟨_, _, -, -, f110⟩, -⟩ := hD
          have f109 : vs 109 = _ := f109
          generalize vs 109 = x109 at f109 ⊢
          subst x109
          have f110 : vs 110 = _ := f110
          generalize vs 110 = x110 at f110 ⊢
          subst x110
          replace hL := hL.call hE hM hV
          exact sIx
        · intro vs W1 m1 hE hM hV hD
          obtain ⟨⟨_, _, -, -, f111⟩, -⟩ := hD
          have f111 : vs 111 = _ := f111
          generalize vs 111 = x111 at f111 ⊢
          subst x111
          replace hL := hL.call hE hM hV
          exact sLd
        · intro vs W1 m1 hE hM hV hD
          obtain ⟨⟨_, _, -, -, f107⟩, ⟨_, _, -, -, f112⟩, -, -⟩ := hD
          have f107 : vs 107 = _ := f107
          generalize vs 107 = x107 at f107 ⊢
          subst x107
          have f112 : vs 112 = _ := f112
          generalize vs 112 = x112 at f112 ⊢
          subst x112
          go_wp2_with fail
          refine (r_MulC _ _ t y _ _ hV (f83.le leX) (hy1.le leX) F3.out F4.out).mono ?_
          rintro e W2 ⟨v, m2, rfl, hE2, hM2, hV2, h⟩
          go_wp2_with fail
          refine One2.call hE2 hM2 hV2 ?_; first | exact h | exact rfl
        · intro vs W1 m1 hE hM hV hD
          obtain ⟨⟨_, _, -, i106, f106⟩, ⟨_, _, -, i113, f113⟩, -, -⟩ := hD
          have f106 : FracC _ (vs 106) (s * x) := f106
          replace f106 := f106.le i106.le
          clear i106
          have f113 : FracC _ (vs 113) (t * y) := f113
          replace f113 := f113.le i113.le
          clear i113
          go_wp2_with fail
          refine (r_AddC _ _ (s * x) (t * y) _ _ hV f106 f113 F5.out F6.out).mono ?_
          rintro e W2 ⟨v, m2, rfl, hE2, hM2, hV2, h⟩
          go_wp2_with fail
          refine One2.call hE2 hM2 hV2 ?_; first | exact h | exact rfl
        · intro vs W1 m1 hE hM hV hD
          obtain ⟨⟨_, _, -, i114, f114⟩, -⟩ := hD
          have f114 : FracC _ (vs 114) (s * x + t * y) := f114
          replace f114 := f114.le i114.le
          clear i114
          (obtain ⟨g9, A9, n9, c9, h9, B9, k9, d9, e9, f9⟩ := f114.lit; generalize vs 114 = x9 at e9 ⊢; subst x9; go_wp2_with fail; exact one2_s1 hV fun m' h => f9.le h.le)
      case l11 =>
        refine ⟨fun h => (by cases h), fun h => (by cases h), fun h => (by cases h), fun h => (by cases h), fun h => (by cases h), fun h => (by cases h), fun h => (by cases h), fun h => (by cases h), fun h => (by cases h), fun h => (by cases h), fun h => (by cases h), fun h => (by cases h), fun h => (by cases h), fun h => (by cases h), fun h => (by cases h), fun h => (by cases h), fun h => (by cases h), fun h => (by cases h), trivial⟩
      intro vs W1 m1 hE hM hV hF hD
      clear hD
      obtain ⟨-, ⟨_, _, -, -, f99⟩, -, -, -, -, -, -, ⟨_, _, -, i106, f106⟩, -, -, -, -, -, -, ⟨_, _, -, i113, f113⟩, ⟨_, _, -, i114, f114⟩, ⟨_, _, j115, i115, f115⟩, -⟩ := hF
      replace hL := hL.call hE hM hV
      have f99 : vs 99 = _ := f99
      generalize vs 99 = x99 at f99 ⊢
      subst x99
      replace f106 : FracC _ (vs 106) (s * x) := f106
      replace f106 := f106.le i106.le
      clear i106
      replace f113 : FracC _ (vs 113) (t * y) := f113
      replace f113 := f113.le i113.le
      clear i113
      replace f114 : FracC _ (vs 114) (s * x + t * y) := f114
      replace f114 := f114.le i114.le
      clear i114
      clear hE hV
      obtain ⟨g15, cs15, e15, q15, f15⟩ := f115
      generalize vs 115 = x15 at e15 ⊢
      subst x15
      replace q15 := q15.ext j115
      have f16 : FracC _ (.agg cs15) (s * x + t * y) := f15
      replace f16 := f16.le i115.le
      clear f15 i115 j115
      obtain ⟨g9, A9, n9, c9, h9, B9, k9, d9, e9, f16⟩ := f16.lit
      injection e9 with e9
      subst e9
      simp only [List.drop_succ_cons, List.drop_zero]
      obtain ⟨vs7, r7, z7, y7, l7⟩ := r1.out
      refine wl_append (A := [_, _, _, _, _, _]) hL r7 (wanted_none rfl) rfl ap_Fracs (by omega) rfl rfl (news := [.bool g9, .slice A9 n9 c9, .bool h9, .slice B9 k9 d9]) rfl (Blk.sl q15 (n := 4) rfl) rfl (by omega) (by omega) ?_
      clear hL
      intro v1 W2 m2 R2 hL r8 e8
      obtain ⟨A8, c8, rfl, -⟩ := r8.lit
      simp only [List.cons_append, List.nil_append] at hL
      simp only [Act.put, zq1, zq2, zq3]
      go_wp2_with (first | ((with_reducible refine kAny ?_); go_skip) | ((first | ((with_reducible refine kIx ?_); first | (refine t_ixa rfl rfl rfl ?_; (try simp only [Nat.mul_one])) | (refine t_ixaA rfl rfl rfl ?_; (try simp only [Nat.mul_one]))) | ((with_reducible refine kFd ?_); first | refine t_fda0 rfl rfl ?_ | (refine t_fda rfl rfl ?_; (try simp only [Nat.zero_add, Nat.reduceAdd]))) | ((with_reducible refine kLd ?_); first | refine t_loadR hL rfl rfl ?_ | refine t_loadW hL rfl rfl ?_ | refine t_load2 hL rfl rfl ?_ | refine t_load1 hL rfl rfl ?_ | refine t_loadV hL.vw rfl rfl ?_ | refine t_loadV1 hL.vw rfl rfl ?_) | ((with_reducible refine kSt ?_); first | (refine t_storeR hL rfl rfl rfl ?_; clear hL; intro _ hL; simp only [zq2, zq3] at hL) | ((first | refine t_store hL rfl rfl rfl ?_ | refine t_sts hL rfl rfl rfl ?_ | refine t_sti hL rfl rfl rfl ?_ | refine t_stb hL rfl rfl rfl ?_ | refine t_store1 hL rfl rfl rfl ?_); clear hL; intro _ hL; simp only [splice, zq1, zq2, zq3] at hL)) | ((with_reducible refine kBx ?_); (refine t_box hL rfl rfl ?_; clear hL; intro _ _ hL _)) | ((with_reducible refine kAl ?_); (refine t_alloc hL rfl ?_; clear hL; intro _ _ hL _))); simp only [Act.put, zq1, zq2, zq3]))
      refine QN.mk ?_
      go_wp2_with (first | ((with_reducible refine kAny ?_); go_skip) | ((first | ((with_reducible refine kIx ?_); first | (refine t_ixa rfl rfl rfl ?_; (try simp only [Nat.mul_one])) | (refine t_ixaA rfl rfl rfl ?_; (try simp only [Nat.mul_one]))) | ((with_reducible refine kFd ?_); first | refine t_fda0 rfl rfl ?_ | (refine t_fda rfl rfl ?_; (try simp only [Nat.zero_add, Nat.reduceAdd]))) | ((with_reducible refine kLd ?_); first | refine t_loadR hL rfl rfl ?_ | refine t_loadW hL rfl rfl ?_ | refine t_load2 hL rfl rfl ?_ | refine t_load1 hL rfl rfl ?_ | refine t_loadV hL.vw rfl rfl ?_ | refine t_loadV1 hL.vw rfl rfl ?_) | ((with_reducible refine kSt ?_); first | (refine t_storeR hL rfl rfl rfl ?_; clear hL; intro _ hL; simp only [zq2, zq3] at hL) | ((first | refine t_store hL rfl rfl rfl ?_ | refine t_sts hL rfl rfl rfl ?_ | refine t_sti hL rfl rfl rfl ?_ | refine t_stb hL rfl rfl rfl ?_ | refine t_store1 hL rfl rfl rfl ?_); clear hL; intro _ hL; simp only [splice, zq1, zq2, zq3] at hL)) | ((with_reducible refine kBx ?_); (refine t_box hL rfl rfl ?_; clear hL; intro _ _ hL _)) | ((with_reducible refine kAl ?_); (refine t_alloc hL rfl ?_; clear hL; intro _ _ hL _))); simp only [Act.put, zq1, zq2, zq3]))
      go_roundw
      case rel =>
        refine ⟨k + 1, _, _, _, _, by omega, by go_num, hL, ?_, exX⟩
        have hq := RowA.snoc (R := FracC) r8 z7 (y7.mono fun v x hv => hv.le (leX : Le mm m2)) l7 rfl (f16.le e8.le)
        rwa [take_snoc HZ.out] at hq
      case measure => simp [intOf] <;> omega
    · have r2 : Hid (RowA 39 4 FracC mm (.slice A7 k c7) k (mixL s t fl fl') Rr) := by
        have hq := r1.out
        rwa [List.take_of_length_le (by rw [mixL_len (by rw [E1.out, E1'.out]), E1.out]; omega)] at hq
      have hs7 := hs6.le hX.le
      have ht7 := f83.le hX.le
      clear r1 hX hs6 f83
      go_wp2_with (first | ((with_reducible refine kAny ?_); go_skip) | ((first | ((with_reducible refine kIx ?_); first | (refine t_ixa rfl rfl rfl ?_; (try simp only [Nat.mul_one])) | (refine t_ixaA rfl rfl rfl ?_; (try simp only [Nat.mul_one]))) | ((with_reducible refine kFd ?_); first | refine t_fda0 rfl rfl ?_ | (refine t_fda rfl rfl ?_; (try simp only [Nat.zero_add, Nat.reduceAdd]))) | ((with_reducible refine kLd ?_); first | refine t_loadR hL rfl rfl ?_ | refine t_loadW hL rfl rfl ?_ | refine t_load2 hL rfl rfl ?_ | refine t_load1 hL rfl rfl ?_ | refine t_loadV hL.vw rfl rfl ?_ | refine t_loadV1 hL.vw rfl rfl ?_) | ((with_reducible refine kSt ?_); first | (refine t_storeR hL rfl rfl rfl ?_; clear hL; intro _ hL; simp only [zq2, zq3] at hL) | ((first | refine t_store hL rfl rfl rfl ?_ | refine t_sts hL rfl rfl rfl ?_ | refine t_sti hL rfl rfl rfl ?_ | refine t_stb hL rfl rfl rfl ?_ | refine t_store1 hL rfl rfl rfl ?_); clear hL; intro _ hL; simp only [splice, zq1, zq2, zq3] at hL)) | ((with_reducible refine kBx ?_); (refine t_box hL rfl rfl ?_; clear hL; intro _ _ hL _)) | ((with_reducible refine kAl ?_); (refine t_alloc hL rfl ?_; clear hL; intro _ _ hL _))); simp only [Act.put, zq1, zq2, zq3]))
      clear hlt hk
      obtain ⟨m5, hL5, hle5, hfl5, -⟩ := RowA.show (A := [_, _, _, _, _, _]) FracC.mono hL r2.out
      replace hs7 := hs7.le hle5
      replace ht7 := ht7.le hle5
      clear hL r2 hle5 hM
      go_loopw [14] (fun i wr => ∃ (j : Nat) (m6 : World) (A8 : Option Addr) (c8 : Nat) (Rr : List Lo), j ≤ nc ∧ i = .int .i64 j ∧ Loc w m wr m6 ((W6.heap.size, 31, #[.slice A7 k c7, .slice A2 nc c2, .slice A8 j c8, .slice A4 de'.length c4, .bool fr']) :: (b11, 39, #[.bool g83, .slice A83 n83 c83, .bool h83, .slice B83 k83 d83]) :: (Wc5.heap.size, 39, #[.bool gc5', .slice Ac5' nc5' cc5', .bool hc5', .slice Bc5' kc5' dc5']) :: (Wh5.heap.size, 31, #[.slice none 0 0, .slice none 0 0, .slice none 0 0, .slice none 0 0, .bool false]) :: (Wh4.heap.size, 31, #[.slice B1 nf d1, .slice B2 nc d2, .slice B3 nc d3, .slice B4 de'.length d4, .bool fr']) :: (w.heap.size, 31, #[.slice A1 nf c1, .slice A2 nc c2, .slice A3 nc c3, .slice A4 de'.length c4, .bool fr']) :: Rr) ∧ Hid (RowA 39 4 FracC m6 (.slice A8 j c8) j ((mixL s t cd cd').take j) Rr) ∧ Ext m5 m6) (fun i _ => nc - (intOf i).toNat)
      case atStart =>
        refine ⟨0, m5, _, _, [], Nat.zero_le _, rfl, hL5, ?_, Ext.refl _⟩
        exact RowA.nil
      case round =>
        clear hL5
        obtain ⟨k, mm, A8, c8, Rr, hk, rfl, hL, r1, hX⟩ := hrel
        have hM := hL.mext
        by_cases hlt : k < nc
        · obtain ⟨x, hx⟩ := at_some E3 hlt
          obtain ⟨y, hy⟩ := at_some E3' hlt
          obtain ⟨b1', o1, g1', A1', n1, c1', g1'', B1', k1, d1', hA, hx1, hr1⟩ := FracL.at_ a3 hx
          obtain ⟨b2', o2, g2', A2', n2, c2', g2'', B2', k2, d2', hA', hy1, hr2⟩ := FracL.at_ b3 hy
          replace hA := Lib.hid hA
          replace hA' := Lib.hid hA'
          have TX : Tn 1000 x := TP.out.cd x (List.mem_of_getElem? hx)
          have TY : Tn 1000 y := TQ.out.cd y (List.mem_of_getElem? hy)
          have F1 : Hid (Fit 200 s) := TS.out.fit (by omega)
          have F2 : Hid (Fit 200 x) := TX.fit (by omega)
          have F3 : Hid (Fit 200 t) := TT.out.fit (by omega)
          have F4 : Hid (Fit 200 y) := TY.fit (by omega)
          have F5 : Hid (Fit 200 (s * x)) := (TS.out.mul TX).fit (by omega)
          have F6 : Hid (Fit 200 (t * y)) := (TT.out.mul TY).fit (by omega)
          have HZ : Hid ((mixL s t cd cd')[k]? = some (s * x + t * y)) := mixL_at hx hy
          replace hs7 := hs7.le hX.le
          replace ht7 := ht7.le hX.le
          clear hx hy TX TY TS TT TP TQ OK KE KI1 KI2 KD KS K1 K2
          go_upto_region 15 with ((first | ((with_reducible refine kAny ?_); go_skip) | ((first | ((with_reducible refine kIx ?_); first | (refine t_ixa rfl rfl rfl ?_; (try simp only [Nat.mul_one])) | (refine t_ixaA rfl rfl rfl ?_; (try simp only [Nat.mul_one]))) | ((with_reducible refine kFd ?_); first | refine t_fda0 rfl rfl ?_ | (refine t_fda rfl rfl ?_; (try simp only [Nat.zero_add, Nat.reduceAdd]))) | ((with_reducible refine kLd ?_); first | refine t_loadR hL rfl rfl ?_ | refine t_loadW hL rfl rfl ?_ | refine t_load2 hL rfl rfl ?_ | refine t_load1 hL rfl rfl ?_ | refine t_loadV hL.vw rfl rfl ?_ | refine t_loadV1 hL.vw rfl rfl ?_) | ((with_reducible refine kSt ?_); first | (refine t_storeR hL rfl rfl rfl ?_; clear hL; intro _ hL; simp only [zq2, zq3] at hL) | ((first | refine t_store hL rfl rfl rfl ?_ | refine t_sts hL rfl rfl rfl ?_ | refine t_sti hL rfl rfl rfl ?_ | refine t_stb hL rfl rfl rfl ?_ | refine t_store1 hL rfl rfl rfl ?_); clear hL; intro _ hL; simp only [splice, zq1, zq2, zq3] at hL)) | ((with_reducible refine kBx ?_); (refine t_box hL rfl rfl ?_; clear hL; intro _ _ hL _)) | ((with_reducible refine kAl ?_); (refine t_alloc hL rfl ?_; clear hL; intro _ _ hL _))); simp only [Act.put, zq1, zq2, zq3])))
          (try simp only [eq_self] at *)
          refine wp_region_by2 18 [false, false, false, false, false, false, false, false, false, false, false, false, false, false, false, false, false, false] [false, false, false, false, false, false, false, false, false, false, false, false, false, false, false, false, false, false] [(fun v _ _ => v = ?c15_0), (fun v _ _ => v = ?c15_1), (fun v _ _ => v = ?c15_2), (fun v _ _ => v = ?c15_3), (fun v _ _ => v = ?c15_4), (fun v _ _ => v = ?c15_5), (fun v _ _ => v = ?c15_6), (fun v _ _ => v = ?c15_7), Of (fun um v => FracC um v (s * x)), (fun v _ _ => v = ?c15_9), (fun v _ _ => v = ?c15_10), (fun v _ _ => v = ?c15_11), (fun v _ _ => v = ?c15_12), (fun v _ _ => v = ?c15_13), (fun v _ _ => v = ?c15_14), Of (fun um v => FracC um v (t * y)), Of (fun um v => FracC um v (s * x + t * y)), (NewS1 39 (fun um v => FracC um v (s * x + t * y)))] hL.vw mixed [125, 126, 127, 128, 129, 130, 131, 132, 133, 134, 135, 136, 137, 138, 139, 140, 141, 142] _ (by kernel_rfl) (fun vs => by simp only [lay, Act.put, zq1, zq2, zq3]; rfl) (by kernel_rfl) (by decide) (by decide) ?s15 ?l15 ?r15
          case s15 =>
            refine ⟨?_, ?_, ?_, ?_, ?_, ?_, ?_, ?_, ?_, ?_, ?_, ?_, ?_, ?_, ?_, ?_, ?_, ?_, trivial⟩
            · intro vs W1 m1 hE hM hV hD
              clear hD
              replace hL := hL.call hE hM hV
              exact sFd
            · intro vs W1 m1 hE hM hV hD
              obtain ⟨⟨_, _, -, -, f125⟩, -⟩ := hD
              have f125 : vs 125 = _ := f125
              generalize vs 125 = x125 at f125 ⊢
              subst x125
              replace hL := hL.call hE hM hV
              exact sLd
            · intro vs W1 m1 hE hM hV hD
              clear hD
              replace hL := hL.call hE hM hV
              exact sLd
            · intro vs W1 m1 hE hM hV hD
              clear hD
              replace hL := hL.call hE hM hV
              exact sFd
            · intro vs W1 m1 hE hM hV hD
              obtain ⟨⟨_, _, -, -, f128⟩, -⟩ := hD
              have f128 : vs 128 = _ := f128
              generalize vs 128 = x128 at f128 ⊢
              subst x128
              replace hL := hL.call hE hM hV
              exact sLd
            · intro vs W1 m1 hE hM hV hD
              clear hD
              replace hL := hL.call hE hM hV
              exact sPu
            · intro vs W1 m1 hE hM hV hD
              obtain ⟨⟨_, _, -, -, f129⟩, ⟨_, _, -, -, f130⟩, -⟩ := hD
              have f129 : vs 129 = _ := f129
              generalize vs 129 = x129 at f129 ⊢
              subst x129
              have f130 : vs 130 = _ := f130
              generalize vs 130 = x130 at f130 ⊢
              subst x130
              replace hL := hL.call hE hM hV
              exact sIx
            · intro vs W1 m1 hE hM hV hD
              obtain ⟨⟨_, _, -, -, f131⟩, -⟩ := hD
              have f131 : vs 131 = _ := f131
              generalize vs 131 = x131 at f131 ⊢
              subst x131
              replace hL := hL.call hE hM hV
              exact sLd
            · intro vs W1 m1 hE hM hV hD
              obtain ⟨⟨_, _, -, -, f127⟩, ⟨_, _, -, -, f132⟩, -⟩ := hD
              have f127 : vs 127 = _ := f127
              generalize vs 127 = x127 at f127 ⊢
              subst x127
              have f132 : vs 132 = _ := f132
              generalize vs 132 = x132 at f132 ⊢
              subst x132
              go_wp2_with fail
              refine (r_MulC _ _ s x _ _ hV (hs7.le leX) (hx1.le leX) F1.out F2.out).mono ?_
              rintro e W2 ⟨v, m2, rfl, hE2, hM2, hV2, h⟩
              go_wp2_with fail
              refine One2.call hE2 hM2 hV2 ?_; first | exact h | exact rfl
            · intro vs W1 m1 hE hM hV hD
              clear hD
              replace hL := hL.call hE hM hV
              exact sLd
            · intro vs W1 m1 hE hM hV hD
              clear hD
              replace hL := hL.call hE hM hV
              exact sFd
            · intro vs W1 m1 hE hM hV hD
              obtain ⟨⟨_, _, -, -, f135⟩, -⟩ := hD
              have f135 : vs 135 = _ := f135
              generalize vs 135 = x135 at f135 ⊢
              subst x135
              replace hL := hL.call hE hM hV
              exact sLd
            · intro vs W1 m1 hE hM hV hD
              clear hD
              replace hL := hL.call hE hM hV
              exact sPu
            · intro vs W1 m1 hE hM hV hD
              obtain ⟨⟨_, _, -, -, f136⟩, ⟨_, _, -, -, f137⟩, -⟩ := hD
              have f136 : vs 136 = _ := f136
              generalize vs 136 = x136 at f136 ⊢
              subst x136
              have f137 : vs 137 = _ := f137
              generalize vs 137 = x137 at f137 ⊢
              subst x137
              replace hL := hL.call hE hM hV
              exact sIx
            · intro vs W1 m1 hE hM hV hD
              obtain ⟨⟨_, _, -, -, f138⟩, -⟩ := hD
              have f138 : vs 138 = _ := f138
              generalize vs 138 = x138 at f138 ⊢
              subst x138
              replace hL := hL.call hE hM hV
              exact sLd
            · intro vs W1 m1 hE hM hV hD
              obtain ⟨⟨_, _, -, -, f134⟩, ⟨_, _, -, -, f139⟩, -, -⟩ := hD
              have f134 : vs 134 = _ := f134
              generalize vs 134 = x134 at f134 ⊢
              subst x134
              have f139 : vs 139 = _ := f139
              generalize vs 139 = x139 at f139 ⊢
              subst x139
              go_wp2_with fail
              refine (r_MulC _ _ t y _ _ hV (ht7.le leX) (hy1.le leX) F3.out F4.out).mono ?_
              rintro e W2 ⟨v, m2, rfl, hE2, hM2, hV2, h⟩
              go_wp2_with fail
              refine One2.call hE2 hM2 hV2 ?_; first | exact h | exact rfl
            · intro vs W1 m1 hE hM hV hD
              obtain ⟨⟨_, _, -, i133, f133⟩, ⟨_, _, -, i140, f140⟩, -, -⟩ := hD
              have f133 : FracC _ (vs 133) (s * x) := f133
              replace f133 := f133.le i133.le
              clear i133
              have f140 : FracC _ (vs 140) (t * y) := f140
              replace f140 := f140.le i140.le
              clear i140
              go_wp2_with fail
              refine (r_AddC _ _ (s * x) (t * y) _ _ hV f133 f140 F5.out F6.out).mono ?_
              rintro e W2 ⟨v, m2, rfl, hE2, hM2, hV2, h⟩
              go_wp2_with fail
              refine One2.call hE2 hM2 hV2 ?_; first | exact h | exact rfl
            · intro vs W1 m1 hE hM hV hD
              obtain ⟨⟨_, _, -, i141, f141⟩, -⟩ := hD
              have f141 : FracC _ (vs 141) (s * x + t * y) := f141
              replace f141 := f141.le i141.le
              clear i141
              (obtain ⟨g9, A9, n9, c9, h9, B9, k9, d9, e9, f9⟩ := f141.lit; generalize vs 141 = x9 at e9 ⊢; subst x9; go_wp2_with fail; exact one2_s1 hV fun m' h => f9.le h.le)
          case l15 =>
            refine ⟨fun h => (by cases h), fun h => (by cases h), fun h => (by cases h), fun h => (by cases h), fun h => (by cases h), fun h => (by cases h), fun h => (by cases h), fun h => (by cases h), fun h => (by cases h), fun h => (by cases h), fun h => (by cases h), fun h => (by cases h), fun h => (by cases h), fun h => (by cases h), fun h => (by cases h), fun h => (by cases h), fun h => (by cases h), fun h => (by cases h), trivial⟩
          intro vs W1 m1 hE hM hV hF hD
          clear hD
          obtain ⟨-, ⟨_, _, -, -, f126⟩, -, -, -, -, -, -, ⟨_, _, -, i133, f133⟩, -, -, -, -, -, -, ⟨_, _, -, i140, f140⟩, ⟨_, _, -, i141, f141⟩, ⟨_, _, j142, i142, f142⟩, -⟩ := hF
          replace hL := hL.call hE hM hV
          have f126 : vs 126 = _ := f126
          generalize vs 126 = x126 at f126 ⊢
          subst x126
          replace f133 : FracC _ (vs 133) (s * x) := f133
          replace f133 := f133.le i133.le
          clear i133
          replace f140 : FracC _ (vs 140) (t * y) := f140
          replace f140 := f140.le i140.le
          clear i140
          replace f141 : FracC _ (vs 141) (s * x + t * y) := f141
          replace f141 := f141.le i141.le
          clear i141
          clear hE hV
          obtain ⟨g15, cs15, e15, q15, f15⟩ := f142
          generalize vs 142 = x15 at e15 ⊢
          subst x15
          replace q15 := q15.ext j142
          have f16 : FracC _ (.agg cs15) (s * x + t * y) := f15
          replace f16 := f16.le i142.le
          clear f15 i142 j142
          obtain ⟨g9, A9, n9, c9, h9, B9, k9, d9, e9, f16⟩ := f16.lit
          injection e9 with e9
          subst e9
          simp only [List.drop_succ_cons, List.drop_zero]
          obtain ⟨vs7, r7, z7, y7, l7⟩ := r1.out
          refine wl_append (A := [_, _, _, _, _, _]) hL r7 (wanted_none rfl) rfl ap_Fracs (by omega) rfl rfl (news := [.bool g9, .slice A9 n9 c9, .bool h9, .slice B9 k9 d9]) rfl (Blk.sl q15 (n := 4) rfl) rfl (by omega) (by omega) ?_
          clear hL
          intro v1 W2 m2 R2 hL r8 e8
          obtain ⟨A8, c8, rfl, -⟩ := r8.lit
          simp only [List.cons_append, List.nil_append] at hL
          simp only [Act.put, zq1, zq2, zq3]
          go_wp2_with (first | ((with_reducible refine kAny ?_); go_skip) | ((first | ((with_reducible refine kIx ?_); first | (refine t_ixa rfl rfl rfl ?_; (try simp only [Nat.mul_one])) | (refine t_ixaA rfl rfl rfl ?_; (try simp only [Nat.mul_one]))) | ((with_reducible refine kFd ?_); first | refine t_fda0 rfl rfl ?_ | (refine t_fda rfl rfl ?_; (try simp only [Nat.zero_add, Nat.reduceAdd]))) | ((with_reducible refine kLd ?_); first | refine t_loadR hL rfl rfl ?_ | refine t_loadW hL rfl rfl ?_ | refine t_load2 hL rfl rfl ?_ | refine t_load1 hL rfl rfl ?_ | refine t_loadV hL.vw rfl rfl ?_ | refine t_loadV1 hL.vw rfl rfl ?_) | ((with_reducible refine kSt ?_); first | (refine t_storeR hL rfl rfl rfl ?_; clear hL; intro _ hL; simp only [zq2, zq3] at hL) | ((first | refine t_store hL rfl rfl rfl ?_ | refine t_sts hL rfl rfl rfl ?_ | refine t_sti hL rfl rfl rfl ?_ | refine t_stb hL rfl rfl rfl ?_ | refine t_store1 hL rfl rfl rfl ?_); clear hL; intro _ hL; simp only [splice, zq1, zq2, zq3] at hL)) | ((with_reducible refine kBx ?_); (refine t_box hL rfl rfl ?_; clear hL; intro _ _ hL _)) | ((with_reducible refine kAl ?_); (refine t_alloc hL rfl ?_; clear hL; intro _ _ hL _))); simp only [Act.put, zq1, zq2, zq3]))
          refine QN.mk ?_
          go_wp2_with (first | ((with_reducible refine kAny ?_); go_skip) | ((first | ((with_reducible refine kIx ?_); first | (refine t_ixa rfl rfl rfl ?_; (try simp only [Nat.mul_one])) | (refine t_ixaA rfl rfl rfl ?_; (try simp only [Nat.mul_one]))) | ((with_reducible refine kFd ?_); first | refine t_fda0 rfl rfl ?_ | (refine t_fda rfl rfl ?_; (try simp only [Nat.zero_add, Nat.reduceAdd]))) | ((with_reducible refine kLd ?_); first | refine t_loadR hL rfl rfl ?_ | refine t_loadW hL rfl rfl ?_ | refine t_load2 hL rfl rfl ?_ | refine t_load1 hL rfl rfl ?_ | refine t_loadV hL.vw rfl rfl ?_ | refine t_loadV1 hL.vw rfl rfl ?_) | ((with_reducible refine kSt ?_); first | (refine t_storeR hL rfl rfl rfl ?_; clear hL; intro _ hL; simp only [zq2, zq3] at hL) | ((first | refine t_store hL rfl rfl rfl ?_ | refine t_sts hL rfl rfl rfl ?_ | refine t_sti hL rfl rfl rfl ?_ | refine t_stb hL rfl rfl rfl ?_ | refine t_store1 hL rfl rfl rfl ?_); clear hL; intro _ hL; simp only [splice, zq1, zq2, zq3] at hL)) | ((with_reducible refine kBx ?_); (refine t_box hL rfl rfl ?_; clear hL; intro _ _ hL _)) | ((with_reducible refine kAl ?_); (refine t_alloc hL rfl ?_; clear hL; intro _ _ hL _))); simp only [Act.put, zq1, zq2, zq3]))
          go_roundw
          case rel =>
            refine ⟨k + 1, _, _, _, _, by omega, by go_num, hL, ?_, exX⟩
            have hq := RowA.snoc (R := FracC) r8 z7 (y7.mono fun v x hv => hv.le (leX : Le mm m2)) l7 rfl (f16.le e8.le)
            rwa [take_snoc HZ.out] at hq
          case measure => simp [intOf] <;> omega
        · have r2 : Hid (RowA 39 4 FracC mm (.slice A8 k c8) k (mixL s t cd cd') Rr) := by
            have hq := r1.out
            rwa [List.take_of_length_le (by rw [mixL_len (by rw [E3.out, E3'.out]), E3.out]; omega)] at hq
          clear r1
          go_wp2_with (first | ((with_reducible refine kAny ?_); go_skip) | ((first | ((with_reducible refine kIx ?_); first | (refine t_ixa rfl rfl rfl ?_; (try simp only [Nat.mul_one])) | (refine t_ixaA rfl rfl rfl ?_; (try simp only [Nat.mul_one]))) | ((with_reducible refine kFd ?_); first | refine t_fda0 rfl rfl ?_ | (refine t_fda rfl rfl ?_; (try simp only [Nat.zero_add, Nat.reduceAdd]))) | ((with_reducible refine kLd ?_); first | refine t_loadR hL rfl rfl ?_ | refine t_loadW hL rfl rfl ?_ | refine t_load2 hL rfl rfl ?_ | refine t_load1 hL rfl rfl ?_ | refine t_loadV hL.vw rfl rfl ?_ | refine t_loadV1 hL.vw rfl rfl ?_) | ((with_reducible refine kSt ?_); first | (refine t_storeR hL rfl rfl rfl ?_; clear hL; intro _ hL; simp only [zq2, zq3] at hL) | ((first | refine t_store hL rfl rfl rfl ?_ | refine t_sts hL rfl rfl rfl ?_ | refine t_sti hL rfl rfl rfl ?_ | refine t_stb hL rfl rfl rfl ?_ | refine t_store1 hL rfl rfl rfl ?_); clear hL; intro _ hL; simp only [splice, zq1, zq2, zq3] at hL)) | ((with_reducible refine kBx ?_); (refine t_box hL rfl rfl ?_; clear hL; intro _ _ hL _)) | ((with_reducible refine kAl ?_); (refine t_alloc hL rfl ?_; clear hL; intro _ _ hL _))); simp only [Act.put, zq1, zq2, zq3]))
          obtain ⟨m7, hL7, hle7, hcd7, -⟩ := RowA.show (A := [_, _, _, _, _, _]) FracC.mono hL r2.out
          refine fin_aggT hL Tryz.results31 rfl rfl loX ag_Prices (by exact rfl) rfl (hL7.sub (List.nil_sublist _)) ?_
          exact ⟨_, rfl, _, _, _, _, rfl, FracL.le hfl5 (hX.le.trans hle7), CutL.le a2 hL7.mext.le, hcd7, DecL.le a4 hL7.mext.le⟩
end Go.Proofs.YtmhkmmmompediaaGreat

/- Contracts of enumerate.ValidatePrices and master.ValidateMaster where there are no cuts, decisions and columns. -/
namespace Go.Proofs.YtmhkmmmompediaaGreat
open Go.RowKit

set_option maxRecDepth 100000 in
set_option maxHeartbeats 16000000 in
theorem e_ValidatePrices0 (A B C D : Option Addr) (nf c d e f : Nat) (fr : Bool) (w m : World) (hV : Vw m w) (hn : nf ≤ 1000) :
    Calls Tryz.prog 69 #[.int .i64 nf, .agg #[.slice A nf c, .slice B 0 d, .slice C 0 e, .slice D 0 f, .bool fr]] w (RetV w m fun _ r => r = .int .i64 0) := by
  have hL := Loc.start hV
  clear hV
  have e1 : ((nf : Int) != (nf : Int)) = false := by simp
  go_enter Tryz.func69, Tryz.ntmps69
  go_wp2_with (first | ((with_reducible refine kAny ?_); go_skip) | ((first | ((with_reducible refine kIx ?_); first | (refine t_ixa rfl rfl rfl ?_; (try simp only [Nat.mul_one])) | (refine t_ixaA rfl rfl rfl ?_; (try simp only [Nat.mul_one]))) | ((with_reducible refine kFd ?_); first | refine t_fda0 rfl rfl ?_ | (refine t_fda rfl rfl ?_; (try simp only [Nat.zero_add, Nat.reduceAdd]))) | ((with_reducible refine kLd ?_); first | refine t_loadR hL rfl rfl ?_ | refine t_loadW hL rfl rfl ?_ | refine t_load2 hL rfl rfl ?_ | refine t_load1 hL rfl rfl ?_ | refine t_loadV hL.vw rfl rfl ?_ | refine t_loadV1 hL.vw rfl rfl ?_) | ((with_reducible refine kSt ?_); first | (refine t_storeR hL rfl rfl rfl ?_; clear hL; intro _ hL; simp only [zq2, zq3] at hL) | ((first | refine t_store hL rfl rfl rfl ?_ | refine t_sts hL rfl rfl rfl ?_ | refine t_sti hL rfl rfl rfl ?_ | refine t_stb hL rfl rfl rfl ?_ | refine t_store1 hL rfl rfl rfl ?_); clear hL; intro _ hL; simp only [splice, zq1, zq2, zq3] at hL)) | ((with_reducible refine kBx ?_); (refine t_box hL rfl rfl ?_; clear hL; intro _ _ hL _)) | ((with_reducible refine kAl ?_); (refine t_alloc hL rfl ?_; clear hL; intro _ _ hL _))); simp only [Act.put, zq1, zq2, zq3]))
  refine wp_loop_once ?_
  go_wp2_with (first | ((with_reducible refine kAny ?_); go_skip) | ((first | ((with_reducible refine kIx ?_); first | (refine t_ixa rfl rfl rfl ?_; (try simp only [Nat.mul_one])) | (refine t_ixaA rfl rfl rfl ?_; (try simp only [Nat.mul_one]))) | ((with_reducible refine kFd ?_); first | refine t_fda0 rfl rfl ?_ | (refine t_fda rfl rfl ?_; (try simp only [Nat.zero_add, Nat.reduceAdd]))) | ((with_reducible refine kLd ?_); first | refine t_loadR hL rfl rfl ?_ | refine t_loadW hL rfl rfl ?_ | refine t_load2 hL rfl rfl ?_ | refine t_load1 hL rfl rfl ?_ | refine t_loadV hL.vw rfl rfl ?_ | refine t_loadV1 hL.vw rfl rfl ?_) | ((with_reducible refine kSt ?_); first | (refine t_storeR hL rfl rfl rfl ?_; clear hL; intro _ hL; simp only [zq2, zq3] at hL) | ((first | refine t_store hL rfl rfl rfl ?_ | refine t_sts hL rfl rfl rfl ?_ | refine t_sti hL rfl rfl rfl ?_ | refine t_stb hL rfl rfl rfl ?_ | refine t_store1 hL rfl rfl rfl ?_); clear hL; intro _ hL; simp only [splice, zq1, zq2, zq3] at hL)) | ((with_reducible refine kBx ?_); (refine t_box hL rfl rfl ?_; clear hL; intro _ _ hL _)) | ((with_reducible refine kAl ?_); (refine t_alloc hL rfl ?_; clear hL; intro _ _ hL _))); simp only [Act.put, zq1, zq2, zq3]))
  refine wp_loop_once ?_
  go_wp2_with (first | ((with_reducible refine kAny ?_); go_skip) | ((first | ((with_reducible refine kIx ?_); first | (refine t_ixa rfl rfl rfl ?_; (try simp only [Nat.mul_one])) | (refine t_ixaA rfl rfl rfl ?_; (try simp only [Nat.mul_one]))) | ((with_reducible refine kFd ?_); first | refine t_fda0 rfl rfl ?_ | (refine t_fda rfl rfl ?_; (try simp only [Nat.zero_add, Nat.reduceAdd]))) | ((with_reducible refine kLd ?_); first | refine t_loadR hL rfl rfl ?_ | refine t_loadW hL rfl rfl ?_ | refine t_load2 hL rfl rfl ?_ | refine t_load1 hL rfl rfl ?_ | refine t_loadV hL.vw rfl rfl ?_ | refine t_loadV1 hL.vw rfl rfl ?_) | ((with_reducible refine kSt ?_); first | (refine t_storeR hL rfl rfl rfl ?_; clear hL; intro _ hL; simp only [zq2, zq3] at hL) | ((first | refine t_store hL rfl rfl rfl ?_ | refine t_sts hL rfl rfl rfl ?_ | refine t_sti hL rfl rfl rfl ?_ | refine t_stb hL rfl rfl rfl ?_ | refine t_store1 hL rfl rfl rfl ?_); clear hL; intro _ hL; simp only [splice, zq1, zq2, zq3] at hL)) | ((with_reducible refine kBx ?_); (refine t_box hL rfl rfl ?_; clear hL; intro _ _ hL _)) | ((with_reducible refine kAl ?_); (refine t_alloc hL rfl ?_; clear hL; intro _ _ hL _))); simp only [Act.put, zq1, zq2, zq3]))
  go_ret
  exact RetV.mk hL rfl

/-- Strictly ascending numbers from 0 to nf. -/
def Asc (nf : Nat) (rs : List Int) : Prop := ∀ (k : Nat) (x : Int), rs[k]? = some x → 0 ≤ x ∧ x < nf ∧ ∀ y : Int, 0 < k → rs[k - 1]? = some y → y < x
set_option maxRecDepth 100000 in
set_option maxHeartbeats 16000000 in
theorem m_ValidateMaster0 (A B C : Option Addr) (nf n c d e : Nat) (pen : Int) (rs : List Int) (w m : World) (hV : Vw m w) (hr : IntL m (.slice A n c) rs) (hn : nf ≤ 200) (hl : rs.length = n) (h1 : 1 ≤ n) (h2 : n ≤ 32) (p1 : 0 ≤ pen) (p2 : pen ≤ 4294967296) (ha : Asc nf rs) :
    Calls Tryz.prog 68 #[.agg #[.int .i64 nf, .slice A n c, .int .i64 pen, .slice B 0 d, .slice C 0 e]] w (RetV w m fun _ r => r = .int .i64 0) := by
  have hL := Loc.start hV
  clear hV
  have HN := Lib.hid hl
  have HA := Lib.hid ha
  clear hl ha
  have n1 : ¬ (nf : Int) > 200 := by omega
  have n2 : ¬ (nf : Int) < 0 := by omega
  have n3 : ¬ (n : Int) < 1 := by omega
  have n4 : ¬ (n : Int) > 32 := by omega
  have n5 : ¬ pen < 0 := by omega
  have n6 : ¬ pen > 4294967296 := by omega
  go_enter Tryz.func68, Tryz.ntmps68
  go_wp2_with (first | ((with_reducible refine kAny ?_); go_skip) | ((first | ((with_reducible refine kIx ?_); first | (refine t_ixa rfl rfl rfl ?_; (try simp only [Nat.mul_one])) | (refine t_ixaA rfl rfl rfl ?_; (try simp only [Nat.mul_one]))) | ((with_reducible refine kFd ?_); first | refine t_fda0 rfl rfl ?_ | (refine t_fda rfl rfl ?_; (try simp only [Nat.zero_add, Nat.reduceAdd]))) | ((with_reducible refine kLd ?_); first | refine t_loadR hL rfl rfl ?_ | refine t_loadW hL rfl rfl ?_ | refine t_load2 hL rfl rfl ?_ | refine t_load1 hL rfl rfl ?_ | refine t_loadV hL.vw rfl rfl ?_ | refine t_loadV1 hL.vw rfl rfl ?_) | ((with_reducible refine kSt ?_); first | (refine t_storeR hL rfl rfl rfl ?_; clear hL; intro _ hL; simp only [zq2, zq3] at hL) | ((first | refine t_store hL rfl rfl rfl ?_ | refine t_sts hL rfl rfl rfl ?_ | refine t_sti hL rfl rfl rfl ?_ | refine t_stb hL rfl rfl rfl ?_ | refine t_store1 hL rfl rfl rfl ?_); clear hL; intro _ hL; simp only [splice, zq1, zq2, zq3] at hL)) | ((with_reducible refine kBx ?_); (refine t_box hL rfl rfl ?_; clear hL; intro _ _ hL _)) | ((with_reducible refine kAl ?_); (refine t_alloc hL rfl ?_; clear hL; intro _ _ hL _))); simp only [Act.put, zq1, zq2, zq3]))
  go_loopw [58] (fun i wr => ∃ (k : Nat) (mm : World), k ≤ n ∧ i = .int .i64 k ∧ Loc w m wr mm [(w.heap.size, 26, #[.int .i64 nf, .slice A n c, .int .i64 pen, .slice B 0 d, .slice C 0 e])]) (fun i _ => n - (intOf i).toNat)
  case atStart => exact ⟨0, _, Nat.zero_le _, rfl, hL⟩
  case round =>
    clear hL
    obtain ⟨k, mm, hk, rfl, hL⟩ := hrel
    have hM := hL.mext
    by_cases hlt : k < n
    · obtain ⟨x, hx⟩ := at_some HN hlt
      obtain ⟨b1, o1, hA, hc1⟩ := IntL.at_ hr hx
      replace hA := Lib.hid hA
      obtain ⟨x1, x2, x3⟩ := HA.out k x hx
      have x1' : ¬ x < 0 := by omega
      have x2' : ¬ x ≥ nf := by omega
      by_cases h0 : k = 0
      · subst h0
        clear hx x3 x1 x2
        go_wp2_with (first | ((with_reducible refine kAny ?_); go_skip) | ((first | ((with_reducible refine kIx ?_); first | (refine t_ixa rfl rfl rfl ?_; (try simp only [Nat.mul_one])) | (refine t_ixaA rfl rfl rfl ?_; (try simp only [Nat.mul_one]))) | ((with_reducible refine kFd ?_); first | refine t_fda0 rfl rfl ?_ | (refine t_fda rfl rfl ?_; (try simp only [Nat.zero_add, Nat.reduceAdd]))) | ((with_reducible refine kLd ?_); first | refine t_loadR hL rfl rfl ?_ | refine t_loadW hL rfl rfl ?_ | refine t_load2 hL rfl rfl ?_ | refine t_load1 hL rfl rfl ?_ | refine t_loadV hL.vw rfl rfl ?_ | refine t_loadV1 hL.vw rfl rfl ?_) | ((with_reducible refine kSt ?_); first | (refine t_storeR hL rfl rfl rfl ?_; clear hL; intro _ hL; simp only [zq2, zq3] at hL) | ((first | refine t_store hL rfl rfl rfl ?_ | refine t_sts hL rfl rfl rfl ?_ | refine t_sti hL rfl rfl rfl ?_ | refine t_stb hL rfl rfl rfl ?_ | refine t_store1 hL rfl rfl rfl ?_); clear hL; intro _ hL; simp only [splice, zq1, zq2, zq3] at hL)) | ((with_reducible refine kBx ?_); (refine t_box hL rfl rfl ?_; clear hL; intro _ _ hL _)) | ((with_reducible refine kAl ?_); (refine t_alloc hL rfl ?_; clear hL; intro _ _ hL _))); simp only [Act.put, zq1, zq2, zq3]))
        go_roundw
        case rel => exact ⟨1, _, by omega, by go_num, hL⟩
        case measure => simp [intOf] <;> omega
      · obtain ⟨j, rfl⟩ : ∃ j, k = j + 1 := ⟨k - 1, by omega⟩
        have hk0 : ((j + 1 : Nat) : Int) > 0 := by omega
        have hjn : j < n := by omega
        obtain ⟨y, hy⟩ := at_some HN hjn
        obtain ⟨b2, o2, hA2, hc2⟩ := IntL.at_ hr hy
        have hyx : ¬ x ≤ y := by have := x3 y (by omega) (by simpa using hy); omega
        have e12 : b2 = b1 ∧ o2 = o1 := by
          have := hA.out
          rw [hA2] at this
          simp only [Option.some.injEq, Addr.mk.injEq, and_true] at this
          exact this
        obtain ⟨rfl, rfl⟩ := e12
        have hj1 : ((j + 1 : Nat) : Int) - 1 = (j : Int) := by omega
        have hj2 : wrap64 (((j + 1 : Nat) : Int) - 1) = (j : Int) := by unfold wrap64; omega
        have hj3 : (j : Int) + 1 - 1 = (j : Int) := by omega
        clear hx hy x3 x1 x2 hA2 h0
        go_wp2_with (first | ((with_reducible refine kAny ?_); go_skip) | ((first | ((with_reducible refine kIx ?_); first | (refine t_ixa rfl rfl rfl ?_; (try simp only [Nat.mul_one])) | (refine t_ixaA rfl rfl rfl ?_; (try simp only [Nat.mul_one]))) | ((with_reducible refine kFd ?_); first | refine t_fda0 rfl rfl ?_ | (refine t_fda rfl rfl ?_; (try simp only [Nat.zero_add, Nat.reduceAdd]))) | ((with_reducible refine kLd ?_); first | refine t_loadR hL rfl rfl ?_ | refine t_loadW hL rfl rfl ?_ | refine t_load2 hL rfl rfl ?_ | refine t_load1 hL rfl rfl ?_ | refine t_loadV hL.vw rfl rfl ?_ | refine t_loadV1 hL.vw rfl rfl ?_) | ((with_reducible refine kSt ?_); first | (refine t_storeR hL rfl rfl rfl ?_; clear hL; intro _ hL; simp only [zq2, zq3] at hL) | ((first | refine t_store hL rfl rfl rfl ?_ | refine t_sts hL rfl rfl rfl ?_ | refine t_sti hL rfl rfl rfl ?_ | refine t_stb hL rfl rfl rfl ?_ | refine t_store1 hL rfl rfl rfl ?_); clear hL; intro _ hL; simp only [splice, zq1, zq2, zq3] at hL)) | ((with_reducible refine kBx ?_); (refine t_box hL rfl rfl ?_; clear hL; intro _ _ hL _)) | ((with_reducible refine kAl ?_); (refine t_alloc hL rfl ?_; clear hL; intro _ _ hL _))); simp only [Act.put, zq1, zq2, zq3]))
        go_roundw
        case rel => exact ⟨j + 1 + 1, _, by omega, by go_num, hL⟩
        case measure => simp [intOf] <;> omega
    · go_wp2_with (first | ((with_reducible refine kAny ?_); go_skip) | ((first | ((with_reducible refine kIx ?_); first | (refine t_ixa rfl rfl rfl ?_; (try simp only [Nat.mul_one])) | (refine t_ixaA rfl rfl rfl ?_; (try simp only [Nat.mul_one]))) | ((with_reducible refine kFd ?_); first | refine t_fda0 rfl rfl ?_ | (refine t_fda rfl rfl ?_; (try simp only [Nat.zero_add, Nat.reduceAdd]))) | ((with_reducible refine kLd ?_); first | refine t_loadR hL rfl rfl ?_ | refine t_loadW hL rfl rfl ?_ | refine t_load2 hL rfl rfl ?_ | refine t_load1 hL rfl rfl ?_ | refine t_loadV hL.vw rfl rfl ?_ | refine t_loadV1 hL.vw rfl rfl ?_) | ((with_reducible refine kSt ?_); first | (refine t_storeR hL rfl rfl rfl ?_; clear hL; intro _ hL; simp only [zq2, zq3] at hL) | ((first | refine t_store hL rfl rfl rfl ?_ | refine t_sts hL rfl rfl rfl ?_ | refine t_sti hL rfl rfl rfl ?_ | refine t_stb hL rfl rfl rfl ?_ | refine t_store1 hL rfl rfl rfl ?_); clear hL; intro _ hL; simp only [splice, zq1, zq2, zq3] at hL)) | ((with_reducible refine kBx ?_); (refine t_box hL rfl rfl ?_; clear hL; intro _ _ hL _)) | ((with_reducible refine kAl ?_); (refine t_alloc hL rfl ?_; clear hL; intro _ _ hL _))); simp only [Act.put, zq1, zq2, zq3]))
      refine wp_loop_once ?_
      go_wp2_with (first | ((with_reducible refine kAny ?_); go_skip) | ((first | ((with_reducible refine kIx ?_); first | (refine t_ixa rfl rfl rfl ?_; (try simp only [Nat.mul_one])) | (refine t_ixaA rfl rfl rfl ?_; (try simp only [Nat.mul_one]))) | ((with_reducible refine kFd ?_); first | refine t_fda0 rfl rfl ?_ | (refine t_fda rfl rfl ?_; (try simp only [Nat.zero_add, Nat.reduceAdd]))) | ((with_reducible refine kLd ?_); first | refine t_loadR hL rfl rfl ?_ | refine t_loadW hL rfl rfl ?_ | refine t_load2 hL rfl rfl ?_ | refine t_load1 hL rfl rfl ?_ | refine t_loadV hL.vw rfl rfl ?_ | refine t_loadV1 hL.vw rfl rfl ?_) | ((with_reducible refine kSt ?_); first | (refine t_storeR hL rfl rfl rfl ?_; clear hL; intro _ hL; simp only [zq2, zq3] at hL) | ((first | refine t_store hL rfl rfl rfl ?_ | refine t_sts hL rfl rfl rfl ?_ | refine t_sti hL rfl rfl rfl ?_ | refine t_stb hL rfl rfl rfl ?_ | refine t_store1 hL rfl rfl rfl ?_); clear hL; intro _ hL; simp only [splice, zq1, zq2, zq3] at hL)) | ((with_reducible refine kBx ?_); (refine t_box hL rfl rfl ?_; clear hL; intro _ _ hL _)) | ((with_reducible refine kAl ?_); (refine t_alloc hL rfl ?_; clear hL; intro _ _ hL _))); simp only [Act.put, zq1, zq2, zq3]))
      refine wp_loop_once ?_
      go_wp2_with (first | ((with_reducible refine kAny ?_); go_skip) | ((first | ((with_reducible refine kIx ?_); first | (refine t_ixa rfl rfl rfl ?_; (try simp only [Nat.mul_one])) | (refine t_ixaA rfl rfl rfl ?_; (try simp only [Nat.mul_one]))) | ((with_reducible refine kFd ?_); first | refine t_fda0 rfl rfl ?_ | (refine t_fda rfl rfl ?_; (try simp only [Nat.zero_add, Nat.reduceAdd]))) | ((with_reducible refine kLd ?_); first | refine t_loadR hL rfl rfl ?_ | refine t_loadW hL rfl rfl ?_ | refine t_load2 hL rfl rfl ?_ | refine t_load1 hL rfl rfl ?_ | refine t_loadV hL.vw rfl rfl ?_ | refine t_loadV1 hL.vw rfl rfl ?_) | ((with_reducible refine kSt ?_); first | (refine t_storeR hL rfl rfl rfl ?_; clear hL; intro _ hL; simp only [zq2, zq3] at hL) | ((first | refine t_store hL rfl rfl rfl ?_ | refine t_sts hL rfl rfl rfl ?_ | refine t_sti hL rfl rfl rfl ?_ | refine t_stb hL rfl rfl rfl ?_ | refine t_store1 hL rfl rfl rfl ?_); clear hL; intro _ hL; simp only [splice, zq1, zq2, zq3] at hL)) | ((with_reducible refine kBx ?_); (refine t_box hL rfl rfl ?_; clear hL; intro _ _ hL _)) | ((with_reducible refine kAl ?_); (refine t_alloc hL rfl ?_; clear hL; intro _ _ hL _))); simp only [Act.put, zq1, zq2, zq3]))
      go_ret
      exact RetV.mk hL rfl
end Go.Proofs.YtmhkmmmompediaaGreat

/- Contracts of lagrange.smaller (any small parts) and lagrange.Bound without cuts, decisions and columns. -/
namespace Go.Proofs.YtmhkmmmompediaaGreat
open Go.RowKit

abbrev SF := Int × Int
def minS (p q : SF) : SF := if pN q.1 q.2 * pD p.2 < pN p.1 p.2 * pD q.2 then q else p
def SFr (m : World) (v : Value) (p : SF) : Prop := FracS m v p.1 p.2
abbrev SFL := ListV (α := SF) 4 SFr
theorem FracS.lit {m : World} {v : Value} {x y : Int} (h : FracS m v x y) : ∃ g A n c g' B k d, v = .agg #[.bool g, .slice A n c, .bool g', .slice B k d] ∧ FracS m (.agg #[.bool g, .slice A n c, .bool g', .slice B k d]) x y := by
  have h' := h
  obtain ⟨a, b, c, d, rfl, h1, h2, _⟩ := h
  obtain ⟨g, A, n, c', rfl, rfl⟩ := h1.parts'
  obtain ⟨g', B, k, d', rfl, rfl⟩ := h2.parts'
  exact ⟨_, _, _, _, _, _, _, _, rfl, h'⟩
theorem SFL.at_ {m : World} {A : Option Addr} {n c : Nat} {ps : List SF} (h : SFL m (.slice A n c) ps) {k : Nat} {p : SF} (hk : ps[k]? = some p) :
    ∃ b off g A1 n1 c1 g' B k' d, A = some ⟨b, off, none⟩ ∧ FracS m (.agg #[.bool g, .slice A1 n1 c1, .bool g', .slice B k' d]) p.1 p.2 ∧ m.rangeAt b (off + k * 4) [.bool g, .slice A1 n1 c1, .bool g', .slice B k' d] := by
  obtain ⟨b, off, v, e, hv, _, hr⟩ := ListV.at_ h (by omega) hk
  obtain ⟨g, A1, n1, c1, g', B, k', d, rfl, hv⟩ := FracS.lit hv
  exact ⟨b, off, g, A1, n1, c1, g', B, k', d, e, hv, hr⟩

set_option maxRecDepth 100000 in
set_option maxHeartbeats 8000000 in
theorem l_smallerS (a b : Value) (p q : SF) (w m : World) (hV : Vw m w) (ha : FracS m a p.1 p.2) (hb : FracS m b q.1 q.2) (hp : Sm p.1 p.2) (hq : Sm q.1 q.2) :
    Calls Tryz.prog 73 #[a, b] w (RetV w m fun m' r => FracS m' r (minS p q).1 (minS p q).2) := by
  obtain ⟨g1, A1, n1, c1, h1, B1, k1, d1, rfl, ha⟩ := ha.lit
  obtain ⟨g2, A2, n2, c2, h2, B2, k2, d2, rfl, hb⟩ := hb.lit
  have hL := Loc.start hV
  clear hV
  go_enter Tryz.func73, Tryz.ntmps73
  go_wp2_with (first | ((with_reducible refine kAny ?_); go_skip) | ((first | ((with_reducible refine kLd ?_); first | refine t_loadR hL rfl rfl ?_ | refine t_loadW hL rfl rfl ?_ | refine t_load2 hL rfl rfl ?_ | refine t_load1 hL rfl rfl ?_ | refine t_loadV hL.vw rfl rfl ?_ | refine t_loadV1 hL.vw rfl rfl ?_) | ((with_reducible refine kSt ?_); first | (refine t_storeR hL rfl rfl rfl ?_; clear hL; intro _ hL; simp only [zq2, zq3] at hL) | ((first | refine t_store hL rfl rfl rfl ?_ | refine t_sts hL rfl rfl rfl ?_ | refine t_sti hL rfl rfl rfl ?_ | refine t_stb hL rfl rfl rfl ?_ | refine t_store1 hL rfl rfl rfl ?_); clear hL; intro _ hL; simp only [splice, zq1, zq2, zq3] at hL)) | ((with_reducible refine kBx ?_); (refine t_box hL rfl rfl ?_; clear hL; intro _ _ hL _)) | ((with_reducible refine kAl ?_); (refine t_alloc hL rfl ?_; clear hL; intro _ _ hL _))); simp only [Act.put, zq1, zq2, zq3]))
  refine (q_Compare _ _ q.1 q.2 p.1 p.2 _ _ hL.vw (hb.le leX) (ha.le leX) hq hp).mono ?_
  rintro e W11 ⟨_, m11, rfl, hE, hM11, hV, rfl⟩
  replace hL := hL.call hE (by assumption) hV; clear hE hV
  by_cases hc : pN q.1 q.2 * pD p.2 < pN p.1 p.2 * pD q.2
  · rw [icmp_lt hc]
    have E : Hid (minS p q = q) := if_pos hc
    clear hc
    go_wp2_with (first | ((with_reducible refine kAny ?_); go_skip) | ((first | ((with_reducible refine kLd ?_); first | refine t_loadR hL rfl rfl ?_ | refine t_loadW hL rfl rfl ?_ | refine t_load2 hL rfl rfl ?_ | refine t_load1 hL rfl rfl ?_ | refine t_loadV hL.vw rfl rfl ?_ | refine t_loadV1 hL.vw rfl rfl ?_) | ((with_reducible refine kSt ?_); first | (refine t_storeR hL rfl rfl rfl ?_; clear hL; intro _ hL; simp only [zq2, zq3] at hL) | ((first | refine t_store hL rfl rfl rfl ?_ | refine t_sts hL rfl rfl rfl ?_ | refine t_sti hL rfl rfl rfl ?_ | refine t_stb hL rfl rfl rfl ?_ | refine t_store1 hL rfl rfl rfl ?_); clear hL; intro _ hL; simp only [splice, zq1, zq2, zq3] at hL)) | ((with_reducible refine kBx ?_); (refine t_box hL rfl rfl ?_; clear hL; intro _ _ hL _)) | ((with_reducible refine kAl ?_); (refine t_alloc hL rfl ?_; clear hL; intro _ _ hL _))); simp only [Act.put, zq1, zq2, zq3]))
    refine fin_agg hL Tryz.results73 rfl rfl loX AgC.h (by exact rfl) ?_
    rw [E.out]; exact hb.le leX
  · have E : Hid (minS p q = p) := if_neg hc
    have hn : ¬ icmp (pN q.1 q.2 * pD p.2) (pN p.1 p.2 * pD q.2) < 0 := by
      unfold icmp; rw [if_neg hc]; split <;> omega
    generalize icmp (pN q.1 q.2 * pD p.2) (pN p.1 p.2 * pD q.2) = s at *
    clear hc
    go_wp2_with (first | ((with_reducible refine kAny ?_); go_skip) | ((first | ((with_reducible refine kLd ?_); first | refine t_loadR hL rfl rfl ?_ | refine t_loadW hL rfl rfl ?_ | refine t_load2 hL rfl rfl ?_ | refine t_load1 hL rfl rfl ?_ | refine t_loadV hL.vw rfl rfl ?_ | refine t_loadV1 hL.vw rfl rfl ?_) | ((with_reducible refine kSt ?_); first | (refine t_storeR hL rfl rfl rfl ?_; clear hL; intro _ hL; simp only [zq2, zq3] at hL) | ((first | refine t_store hL rfl rfl rfl ?_ | refine t_sts hL rfl rfl rfl ?_ | refine t_sti hL rfl rfl rfl ?_ | refine t_stb hL rfl rfl rfl ?_ | refine t_store1 hL rfl rfl rfl ?_); clear hL; intro _ hL; simp only [splice, zq1, zq2, zq3] at hL)) | ((with_reducible refine kBx ?_); (refine t_box hL rfl rfl ?_; clear hL; intro _ _ hL _)) | ((with_reducible refine kAl ?_); (refine t_alloc hL rfl ?_; clear hL; intro _ _ hL _))); simp only [Act.put, zq1, zq2, zq3]))
    refine fin_agg hL Tryz.results73 rfl rfl loX AgC.h (by exact rfl) ?_
    rw [E.out]; exact ha.le leX
def vS (p : SF) : Rat := Rat.divInt p.1 p.2
theorem q_AddS (a b : Value) (q : Rat) (p : SF) (w m : World) (hV : Vw m w) (ha : FracC m a q) (hb : FracS m b p.1 p.2) (hs : Sm q.num q.den) (hs' : Sm p.1 p.2) :
    Calls Tryz.prog 72 #[a, b] w (RetV w m fun m' r => FracC m' r (q + vS p)) := by
  have h := q_Add a b q.num q.den p.1 p.2 w m hV (ha.toS hs) hb hs hs'
  rwa [Rat.num_divInt_den] at h
theorem q_MulS (a b : Value) (q : Rat) (p : SF) (w m : World) (hV : Vw m w) (ha : FracC m a q) (hb : FracS m b p.1 p.2) (hs : Sm q.num q.den) (hs' : Sm p.1 p.2) :
    Calls Tryz.prog 74 #[a, b] w (RetV w m fun m' r => FracC m' r (q * vS p)) := by
  have h := q_Mul a b q.num q.den p.1 p.2 w m hV (ha.toS hs) hb hs hs'
  rwa [Rat.num_divInt_den] at h
theorem toSI {m : World} {v : Value} {z : Int} (h : FracC m v (z : Rat)) (hz : z.natAbs < 1073741824) : FracS m v z 1 := by
  have := h.toS ⟨by simpa using hz, by simp⟩
  simpa using this
/-- The sum over the first rows. -/
def bsum (pen : Int) (fs : List SF) (rs : List Int) (k : Nat) : Rat := (rs.take k).foldl (fun s r => s + vS (minS (fs.getD r.toNat (0, 0)) (pen, 1))) ((0 : Int) : Rat)
theorem bsum_step {pen : Int} {fs : List SF} {rs : List Int} {k : Nat} {r : Int} {p : SF} (hr : rs[k]? = some r) (hp : fs[r.toNat]? = some p) : bsum pen fs rs (k + 1) = bsum pen fs rs k + vS (minS p (pen, 1)) := by
  unfold bsum
  rw [List.take_add_one, hr]
  simp [List.foldl_append, hp, List.getD]
end Go.Proofs.YtmhkmmmompediaaGreat

/- Contract of lagrange.Bound without cuts, decisions and columns. -/
namespace Go.Proofs.YtmhkmmmompediaaGreat
open Go.RowKit

set_option maxRecDepth 100000 in
set_option maxHeartbeats 16000000 in
theorem l_Bound0 (A B C F D E G : Option Addr) (nf n c d e cf df ef gf : Nat) (pen : Int) (rs : List Int) (fs : List SF) (lv : Value) (lp : SF) (w m : World) (hV : Vw m w)
    (hr : IntL m (.slice A n c) rs) (hfs : SFL m (.slice F nf cf) fs) (hlv : FracS m lv lp.1 lp.2) (hn : nf ≤ 200) (hl : rs.length = n) (hlf : fs.length = nf) (h1 : 1 ≤ n) (h2 : n ≤ 32) (p1 : 0 ≤ pen) (p2 : pen ≤ 1000) (ha : Asc nf rs)
    (hsm : ∀ p ∈ fs, Sm p.1 p.2 ∧ Sm (minS p (pen, 1)).1 (minS p (pen, 1)).2) (hps : ∀ k, k ≤ n → Sm (bsum pen fs rs k).num (bsum pen fs rs k).den) (hlp : Sm lp.1 lp.2) (hmp : Sm (minS lp (0, 1)).1 (minS lp (0, 1)).2)
    (hml : Sm (((n : Int) : Rat) * vS (minS lp (0, 1))).num (((n : Int) : Rat) * vS (minS lp (0, 1))).den) :
    Calls Tryz.prog 18 #[.agg #[.int .i64 nf, .slice A n c, .int .i64 pen, .slice B 0 d, .slice C 0 e], .agg #[.slice F nf cf, .slice D 0 df, .slice E 0 ef, .slice G 0 gf, .bool false], lv] w
      (RetV w m fun m' r => ∃ v, r = .tuple #[v, .int .i64 0] ∧ FracC m' v (bsum pen fs rs n + ((n : Int) : Rat) * vS (minS lp (0, 1)))) := by
  obtain ⟨g9, A9, n9, c9, h9, B9, k9, d9, rfl, hlv⟩ := hlv.lit
  have hL := Loc.start hV
  clear hV
  have HN := Lib.hid hl
  have HF := Lib.hid hlf
  have HA := Lib.hid ha
  have HS := Lib.hid hsm
  have HP := Lib.hid hps
  have H1 := Lib.hid hlp
  have H2 := Lib.hid hmp
  have H3 := Lib.hid hml
  have KV : Hid (∀ w m', Vw m' w → Le m m' → Calls Tryz.prog 68 #[.agg #[.int .i64 nf, .slice A n c, .int .i64 pen, .slice B 0 d, .slice C 0 e]] w (RetV w m' fun _ r => r = .int .i64 0)) := by
    show ∀ w m', _
    exact fun w m' hV hle => m_ValidateMaster0 A B C nf n c d e pen rs w m' hV (IntL.le hr hle) hn HN.out h1 h2 p1 (by omega) HA.out
  have KP : Hid (∀ w m', Vw m' w → Calls Tryz.prog 69 #[.int .i64 nf, .agg #[.slice F nf cf, .slice D 0 df, .slice E 0 ef, .slice G 0 gf, .bool false]] w (RetV w m' fun _ r => r = .int .i64 0)) := by
    show ∀ w m', _
    exact fun w m' hV => e_ValidatePrices0 F D E G nf cf df ef gf false w m' hV (by omega)
  have KW : Hid (∀ w m', Vw m' w → Calls Tryz.prog 71 #[.int .i64 pen] w (RetV w m' fun m' r => FracC m' r (pen : Rat))) := by
    show ∀ w m', _
    exact fun w m' hV => l_whole pen w m' hV (by omega)
  have KN : Hid (∀ w m', Vw m' w → Calls Tryz.prog 71 #[.int .i64 n] w (RetV w m' fun m' r => FracC m' r ((n : Int) : Rat))) := by
    show ∀ w m', _
    exact fun w m' hV => l_whole n w m' hV (by omega)
  have Hpen : Hid (pen.natAbs < 1073741824) := by show _ < _; omega
  have hn6 : n ≤ 1000 := by omega
  clear hl hlf ha hsm hps hlp hmp hml h1 h2 p1 p2 hn
  go_enter Tryz.func18, Tryz.ntmps18
  go_upto_region 0 with (fail)
  refine wp_region_lit ?_
  refine t_box hL rfl rfl ?_; clear hL; intro Wh3 mh3 hL eh3; simp only [Act.put, zq1, zq2, zq3]
  refine t_box hL rfl rfl ?_; clear hL; intro Wh4 mh4 hL eh4; simp only [Act.put, zq1, zq2, zq3]
  refine t_box hL rfl rfl ?_; clear hL; intro Wh5 mh5 hL eh5; simp only [Act.put, zq1, zq2, zq3]
  refine t_alloc hL rfl ?_; clear hL; intro Wh6 mh6 hL eh6; simp only [Act.put, zq1, zq2, zq3]
  go_wp2_with (first | ((with_reducible refine kAny ?_); go_skip) | ((first | ((with_reducible refine kIx ?_); first | (refine t_ixa rfl rfl rfl ?_; (try simp only [Nat.mul_one])) | (refine t_ixaA rfl rfl rfl ?_; (try simp only [Nat.mul_one]))) | ((with_reducible refine kFd ?_); first | refine t_fda0 rfl rfl ?_ | (refine t_fda rfl rfl ?_; (try simp only [Nat.zero_add, Nat.reduceAdd]))) | ((with_reducible refine kLd ?_); first | refine t_loadR hL rfl rfl ?_ | refine t_loadW hL rfl rfl ?_ | refine t_load2 hL rfl rfl ?_ | refine t_load1 hL rfl rfl ?_ | refine t_loadV hL.vw rfl rfl ?_ | refine t_loadV1 hL.vw rfl rfl ?_) | ((with_reducible refine kSt ?_); first | (refine t_storeR hL rfl rfl rfl ?_; clear hL; intro _ hL; simp only [zq2, zq3] at hL) | ((first | refine t_store hL rfl rfl rfl ?_ | refine t_sts hL rfl rfl rfl ?_ | refine t_sti hL rfl rfl rfl ?_ | refine t_stb hL rfl rfl rfl ?_ | refine t_store1 hL rfl rfl rfl ?_); clear hL; intro _ hL; simp only [splice, zq1, zq2, zq3] at hL)) | ((with_reducible refine kBx ?_); (refine t_box hL rfl rfl ?_; clear hL; intro _ _ hL _)) | ((with_reducible refine kAl ?_); (refine t_alloc hL rfl ?_; clear hL; intro _ _ hL _))); simp only [Act.put, zq1, zq2, zq3]))
  refine (KV.out _ _ hL.vw leX).mono ?_
  rintro e Wc1 ⟨_, mc1, rfl, hE, hMc1, hV, rfl⟩
  replace hL := hL.call hE (by assumption) hV; clear hE hV
  go_wp2_with (first | ((with_reducible refine kAny ?_); go_skip) | ((first | ((with_reducible refine kIx ?_); first | (refine t_ixa rfl rfl rfl ?_; (try simp only [Nat.mul_one])) | (refine t_ixaA rfl rfl rfl ?_; (try simp only [Nat.mul_one]))) | ((with_reducible refine kFd ?_); first | refine t_fda0 rfl rfl ?_ | (refine t_fda rfl rfl ?_; (try simp only [Nat.zero_add, Nat.reduceAdd]))) | ((with_reducible refine kLd ?_); first | refine t_loadR hL rfl rfl ?_ | refine t_loadW hL rfl rfl ?_ | refine t_load2 hL rfl rfl ?_ | refine t_load1 hL rfl rfl ?_ | refine t_loadV hL.vw rfl rfl ?_ | refine t_loadV1 hL.vw rfl rfl ?_) | ((with_reducible refine kSt ?_); first | (refine t_storeR hL rfl rfl rfl ?_; clear hL; intro _ hL; simp only [zq2, zq3] at hL) | ((first | refine t_store hL rfl rfl rfl ?_ | refine t_sts hL rfl rfl rfl ?_ | refine t_sti hL rfl rfl rfl ?_ | refine t_stb hL rfl rfl rfl ?_ | refine t_store1 hL rfl rfl rfl ?_); clear hL; intro _ hL; simp only [splice, zq1, zq2, zq3] at hL)) | ((with_reducible refine kBx ?_); (refine t_box hL rfl rfl ?_; clear hL; intro _ _ hL _)) | ((with_reducible refine kAl ?_); (refine t_alloc hL rfl ?_; clear hL; intro _ _ hL _))); simp only [Act.put, zq1, zq2, zq3]))
  refine (KP.out _ _ hL.vw).mono ?_
  rintro e Wc2 ⟨_, mc2, rfl, hE, hMc2, hV, rfl⟩
  replace hL := hL.call hE (by assumption) hV; clear hE hV
  go_wp2_with (first | ((with_reducible refine kAny ?_); go_skip) | ((first | ((with_reducible refine kIx ?_); first | (refine t_ixa rfl rfl rfl ?_; (try simp only [Nat.mul_one])) | (refine t_ixaA rfl rfl rfl ?_; (try simp only [Nat.mul_one]))) | ((with_reducible refine kFd ?_); first | refine t_fda0 rfl rfl ?_ | (refine t_fda rfl rfl ?_; (try simp only [Nat.zero_add, Nat.reduceAdd]))) | ((with_reducible refine kLd ?_); first | refine t_loadR hL rfl rfl ?_ | refine t_loadW hL rfl rfl ?_ | refine t_load2 hL rfl rfl ?_ | refine t_load1 hL rfl rfl ?_ | refine t_loadV hL.vw rfl rfl ?_ | refine t_loadV1 hL.vw rfl rfl ?_) | ((with_reducible refine kSt ?_); first | (refine t_storeR hL rfl rfl rfl ?_; clear hL; intro _ hL; simp only [zq2, zq3] at hL) | ((first | refine t_store hL rfl rfl rfl ?_ | refine t_sts hL rfl rfl rfl ?_ | refine t_sti hL rfl rfl rfl ?_ | refine t_stb hL rfl rfl rfl ?_ | refine t_store1 hL rfl rfl rfl ?_); clear hL; intro _ hL; simp only [splice, zq1, zq2, zq3] at hL)) | ((with_reducible refine kBx ?_); (refine t_box hL rfl rfl ?_; clear hL; intro _ _ hL _)) | ((with_reducible refine kAl ?_); (refine t_alloc hL rfl ?_; clear hL; intro _ _ hL _))); simp only [Act.put, zq1, zq2, zq3]))
  refine wp_loop_once ?_
  go_wp2_with (first | ((with_reducible refine kAny ?_); go_skip) | ((first | ((with_reducible refine kIx ?_); first | (refine t_ixa rfl rfl rfl ?_; (try simp only [Nat.mul_one])) | (refine t_ixaA rfl rfl rfl ?_; (try simp only [Nat.mul_one]))) | ((with_reducible refine kFd ?_); first | refine t_fda0 rfl rfl ?_ | (refine t_fda rfl rfl ?_; (try simp only [Nat.zero_add, Nat.reduceAdd]))) | ((with_reducible refine kLd ?_); first | refine t_loadR hL rfl rfl ?_ | refine t_loadW hL rfl rfl ?_ | refine t_load2 hL rfl rfl ?_ | refine t_load1 hL rfl rfl ?_ | refine t_loadV hL.vw rfl rfl ?_ | refine t_loadV1 hL.vw rfl rfl ?_) | ((with_reducible refine kSt ?_); first | (refine t_storeR hL rfl rfl rfl ?_; clear hL; intro _ hL; simp only [zq2, zq3] at hL) | ((first | refine t_store hL rfl rfl rfl ?_ | refine t_sts hL rfl rfl rfl ?_ | refine t_sti hL rfl rfl rfl ?_ | refine t_stb hL rfl rfl rfl ?_ | refine t_store1 hL rfl rfl rfl ?_); clear hL; intro _ hL; simp only [splice, zq1, zq2, zq3] at hL)) | ((with_reducible refine kBx ?_); (refine t_box hL rfl rfl ?_; clear hL; intro _ _ hL _)) | ((with_reducible refine kAl ?_); (refine t_alloc hL rfl ?_; clear hL; intro _ _ hL _))); simp only [Act.put, zq1, zq2, zq3]))
  refine (KW.out _ _ hL.vw).mono ?_
  rintro e Wc3 ⟨vc3, mc3, rfl, hE, hMc3, hV, hc3⟩
  replace hL := hL.call hE (by assumption) hV; clear hE hV
  obtain ⟨gc3', Ac3', nc3', cc3', hc3', Bc3', kc3', dc3', rfl, hc3⟩ := hc3.lit
  go_wp2_with (first | ((with_reducible refine kAny ?_); go_skip) | ((first | ((with_reducible refine kIx ?_); first | (refine t_ixa rfl rfl rfl ?_; (try simp only [Nat.mul_one])) | (refine t_ixaA rfl rfl rfl ?_; (try simp only [Nat.mul_one]))) | ((with_reducible refine kFd ?_); first | refine t_fda0 rfl rfl ?_ | (refine t_fda rfl rfl ?_; (try simp only [Nat.zero_add, Nat.reduceAdd]))) | ((with_reducible refine kLd ?_); first | refine t_loadR hL rfl rfl ?_ | refine t_loadW hL rfl rfl ?_ | refine t_load2 hL rfl rfl ?_ | refine t_load1 hL rfl rfl ?_ | refine t_loadV hL.vw rfl rfl ?_ | refine t_loadV1 hL.vw rfl rfl ?_) | ((with_reducible refine kSt ?_); first | (refine t_storeR hL rfl rfl rfl ?_; clear hL; intro _ hL; simp only [zq2, zq3] at hL) | ((first | refine t_store hL rfl rfl rfl ?_ | refine t_sts hL rfl rfl rfl ?_ | refine t_sti hL rfl rfl rfl ?_ | refine t_stb hL rfl rfl rfl ?_ | refine t_store1 hL rfl rfl rfl ?_); clear hL; intro _ hL; simp only [splice, zq1, zq2, zq3] at hL)) | ((with_reducible refine kBx ?_); (refine t_box hL rfl rfl ?_; clear hL; intro _ _ hL _)) | ((with_reducible refine kAl ?_); (refine t_alloc hL rfl ?_; clear hL; intro _ _ hL _))); simp only [Act.put, zq1, zq2, zq3]))
  refine (l_whole 0 _ _ hL.vw (by decide)).mono ?_
  rintro e Wc4 ⟨vc4, mc4, rfl, hE, hMc4, hV, hc4⟩
  replace hL := hL.call hE (by assumption) hV; clear hE hV
  obtain ⟨gc4', Ac4', nc4', cc4', hc4', Bc4', kc4', dc4', rfl, hc4⟩ := hc4.lit
  go_wp2_with (first | ((with_reducible refine kAny ?_); go_skip) | ((first | ((with_reducible refine kIx ?_); first | (refine t_ixa rfl rfl rfl ?_; (try simp only [Nat.mul_one])) | (refine t_ixaA rfl rfl rfl ?_; (try simp only [Nat.mul_one]))) | ((with_reducible refine kFd ?_); first | refine t_fda0 rfl rfl ?_ | (refine t_fda rfl rfl ?_; (try simp only [Nat.zero_add, Nat.reduceAdd]))) | ((with_reducible refine kLd ?_); first | refine t_loadR hL rfl rfl ?_ | refine t_loadW hL rfl rfl ?_ | refine t_load2 hL rfl rfl ?_ | refine t_load1 hL rfl rfl ?_ | refine t_loadV hL.vw rfl rfl ?_ | refine t_loadV1 hL.vw rfl rfl ?_) | ((with_reducible refine kSt ?_); first | (refine t_storeR hL rfl rfl rfl ?_; clear hL; intro _ hL; simp only [zq2, zq3] at hL) | ((first | refine t_store hL rfl rfl rfl ?_ | refine t_sts hL rfl rfl rfl ?_ | refine t_sti hL rfl rfl rfl ?_ | refine t_stb hL rfl rfl rfl ?_ | refine t_store1 hL rfl rfl rfl ?_); clear hL; intro _ hL; simp only [splice, zq1, zq2, zq3] at hL)) | ((with_reducible refine kBx ?_); (refine t_box hL rfl rfl ?_; clear hL; intro _ _ hL _)) | ((with_reducible refine kAl ?_); (refine t_alloc hL rfl ?_; clear hL; intro _ _ hL _))); simp only [Act.put, zq1, zq2, zq3]))
  have hp3 : FracS mc4 _ pen 1 := (toSI hc3 Hpen.out).le leX
  have hz4 : Hid (FracC mc4 (.agg #[.bool gc4', .slice Ac4' nc4' cc4', .bool hc4', .slice Bc4' kc4' dc4']) (bsum pen fs rs 0)) := hc4
  go_loopw [66] (fun i wr => ∃ (k : Nat) (mm : World) (g5 h5 : Bool) (A5 B5 : Option Addr) (n5 c5 k5 d5 : Nat), k ≤ n ∧ i = .int .i64 k ∧ Loc w m wr mm [(Wc4.heap.size, 39, #[.bool g5, .slice A5 n5 c5, .bool h5, .slice B5 k5 d5]), (Wc3.heap.size, 39, #[.bool gc3', .slice Ac3' nc3' cc3', .bool hc3', .slice Bc3' kc3' dc3']), (Wh5.heap.size, 39, #[.bool false, .slice none 0 0, .bool false, .slice none 0 0]), (Wh4.heap.size, 39, #[.bool g9, .slice A9 n9 c9, .bool h9, .slice B9 k9 d9]), (Wh3.heap.size, 31, #[.slice F nf cf, .slice D 0 df, .slice E 0 ef, .slice G 0 gf, .bool false]), (w.heap.size, 26, #[.int .i64 nf, .slice A n c, .int .i64 pen, .slice B 0 d, .slice C 0 e])] ∧ Hid (FracC mm (.agg #[.bool g5, .slice A5 n5 c5, .bool h5, .slice B5 k5 d5]) (bsum pen fs rs k)) ∧ Ext mc4 mm) (fun i _ => n - (intOf i).toNat)
  case atStart =>
    refine ⟨0, _, _, _, _, _, _, _, _, _, Nat.zero_le _, rfl, hL, ?_, ?_⟩
    · exact hz4.out.le leX
    · assumption
  case round =>
    clear hL hz4
    obtain ⟨k, mm, g5, h5, A5, B5, n5, c5, k5, d5, hk, rfl, hL, hs, hX⟩ := hrel
    have hM := hL.mext
    by_cases hlt : k < n
    · obtain ⟨r, hx⟩ := at_some HN hlt
      obtain ⟨x1, x2, -⟩ := HA.out k r hx
      obtain ⟨j, rfl⟩ : ∃ j : Nat, r = (j : Int) := ⟨r.toNat, by omega⟩
      have hj : j < nf := by omega
      obtain ⟨p, hp⟩ := at_some HF hj
      obtain ⟨b1, o1, hA1, hc1⟩ := IntL.at_ hr hx
      obtain ⟨b2, o2, g2, A2, n2, c2, h2, B2, k2, d2, hA2, hp2, hr2⟩ := SFL.at_ hfs hp
      replace hA1 := Lib.hid hA1
      replace hA2 := Lib.hid hA2
      have S1 : Hid (Sm p.1 p.2) := (HS.out p (List.mem_of_getElem? hp)).1
      have S2 : Hid (Sm (minS p (pen, 1)).1 (minS p (pen, 1)).2) := (HS.out p (List.mem_of_getElem? hp)).2
      have S3 : Hid (Sm pen 1) := ⟨Hpen.out, by decide⟩
      have S4 : Hid (Sm (bsum pen fs rs k).num (bsum pen fs rs k).den) := HP.out k hk
      have HB : Hid (bsum pen fs rs (k + 1) = bsum pen fs rs k + vS (minS p (pen, 1))) := bsum_step hx (by simpa using hp)
      have hs1 := hs.out
      replace hp3 := hp3.le hX.le
      clear hx hp x1 x2 hs KV KP KW KN HS HP
      go_upto_region 24 with ((first | ((with_reducible refine kAny ?_); go_skip) | ((first | ((with_reducible refine kIx ?_); first | (refine t_ixa rfl rfl rfl ?_; (try simp only [Nat.mul_one])) | (refine t_ixaA rfl rfl rfl ?_; (try simp only [Nat.mul_one]))) | ((with_reducible refine kFd ?_); first | refine t_fda0 rfl rfl ?_ | (refine t_fda rfl rfl ?_; (try simp only [Nat.zero_add, Nat.reduceAdd]))) | ((with_reducible refine kLd ?_); first | refine t_loadR hL rfl rfl ?_ | refine t_loadW hL rfl rfl ?_ | refine t_load2 hL rfl rfl ?_ | refine t_load1 hL rfl rfl ?_ | refine t_loadV hL.vw rfl rfl ?_ | refine t_loadV1 hL.vw rfl rfl ?_) | ((with_reducible refine kSt ?_); first | (refine t_storeR hL rfl rfl rfl ?_; clear hL; intro _ hL; simp only [zq2, zq3] at hL) | ((first | refine t_store hL rfl rfl rfl ?_ | refine t_sts hL rfl rfl rfl ?_ | refine t_sti hL rfl rfl rfl ?_ | refine t_stb hL rfl rfl rfl ?_ | refine t_store1 hL rfl rfl rfl ?_); clear hL; intro _ hL; simp only [splice, zq1, zq2, zq3] at hL)) | ((with_reducible refine kBx ?_); (refine t_box hL rfl rfl ?_; clear hL; intro _ _ hL _)) | ((with_reducible refine kAl ?_); (refine t_alloc hL rfl ?_; clear hL; intro _ _ hL _))); simp only [Act.put, zq1, zq2, zq3])))
      (try simp only [eq_self] at *)
      refine wp_region_by2 9 [false, false, false, false, false, false, false, false, false] [false, false, false, false, false, false, false, false, false] [(fun v _ _ => v = ?c24_0), (fun v _ _ => v = ?c24_1), (fun v _ _ => v = ?c24_2), (fun v _ _ => v = ?c24_3), (fun v _ _ => v = ?c24_4), (fun v _ _ => v = ?c24_5), (fun v _ _ => v = ?c24_6), Of (fun um v => FracS um v (minS p (pen, 1)).1 (minS p (pen, 1)).2), Of (fun um v => FracC um v (bsum pen fs rs k + vS (minS p (pen, 1))))] hL.vw mixed [70, 71, 72, 73, 74, 75, 76, 77, 78] _ (by kernel_rfl) (fun vs => by simp only [lay, Act.put, zq1, zq2, zq3]; rfl) (by kernel_rfl) (by decide) (by decide) ?s24 ?l24 ?r24
      case s24 =>
        refine ⟨?_, ?_, ?_, ?_, ?_, ?_, ?_, ?_, ?_, trivial⟩
        · intro vs W1 m1 hE hM hV hD
          clear hD
          replace hL := hL.call hE hM hV
          exact sLd
        · intro vs W1 m1 hE hM hV hD
          clear hD
          replace hL := hL.call hE hM hV
          exact sFd
        · intro vs W1 m1 hE hM hV hD
          obtain ⟨⟨_, _, -, -, f71⟩, -⟩ := hD
          have f71 : vs 71 = _ := f71
          generalize vs 71 = x71 at f71 ⊢
          subst x71
          replace hL := hL.call hE hM hV
          exact sLd
        · intro vs W1 m1 hE hM hV hD
          clear hD
          replace hL := hL.call hE hM hV
          exact sPu
        · intro vs W1 m1 hE hM hV hD
          obtain ⟨⟨_, _, -, -, f72⟩, ⟨_, _, -, -, f73⟩, -⟩ := hD
          have f72 : vs 72 = _ := f72
          generalize vs 72 = x72 at f72 ⊢
          subst x72
          have f73 : vs 73 = _ := f73
          generalize vs 73 = x73 at f73 ⊢
          subst x73
          replace hL := hL.call hE hM hV
          exact sIx
        · intro vs W1 m1 hE hM hV hD
          obtain ⟨⟨_, _, -, -, f74⟩, -⟩ := hD
          have f74 : vs 74 = _ := f74
          generalize vs 74 = x74 at f74 ⊢
          subst x74
          replace hL := hL.call hE hM hV
          exact sLd
        · intro vs W1 m1 hE hM hV hD
          clear hD
          replace hL := hL.call hE hM hV
          exact sLd
        · intro vs W1 m1 hE hM hV hD
          obtain ⟨⟨_, _, -, -, f75⟩, ⟨_, _, -, -, f76⟩, -⟩ := hD
          have f75 : vs 75 = _ := f75
          generalize vs 75 = x75 at f75 ⊢
          subst x75
          have f76 : vs 76 = _ := f76
          generalize vs 76 = x76 at f76 ⊢
          subst x76
          go_wp2_with fail
          refine (l_smallerS _ _ p (pen, 1) _ _ hV (hp2.le leX) (hp3.le leX) S1.out S3.out).mono ?_
          rintro e W2 ⟨v, m2, rfl, hE2, hM2, hV2, h⟩
          go_wp2_with fail
          refine One2.call hE2 hM2 hV2 ?_; first | exact h | exact rfl
        · intro vs W1 m1 hE hM hV hD
          obtain ⟨⟨_, _, -, -, f70⟩, ⟨_, _, -, i77, f77⟩, -, -⟩ := hD
          have f70 : vs 70 = _ := f70
          generalize vs 70 = x70 at f70 ⊢
          subst x70
          have f77 : FracS _ (vs 77) (minS p (pen, 1)).1 (minS p (pen, 1)).2 := f77
          replace f77 := f77.le i77.le
          clear i77
          go_wp2_with fail
          refine (q_AddS _ _ (bsum pen fs rs k) (minS p (pen, 1)) _ _ hV (hs1.le leX) f77 S4.out S2.out).mono ?_
          rintro e W2 ⟨v, m2, rfl, hE2, hM2, hV2, h⟩
          go_wp2_with fail
          refine One2.call hE2 hM2 hV2 ?_; first | exact h | exact rfl
      case l24 =>
        refine ⟨fun h => (by cases h), fun h => (by cases h), fun h => (by cases h), fun h => (by cases h), fun h => (by cases h), fun h => (by cases h), fun h => (by cases h), fun h => (by cases h), fun h => (by cases h), trivial⟩
      intro vs W1 m1 hE hM hV hF hD
      clear hD
      obtain ⟨-, -, -, -, -, -, -, ⟨_, _, -, i77, f77⟩, ⟨_, _, -, i78, f78⟩, -⟩ := hF
      replace hL := hL.call hE hM hV
      replace f77 : FracS _ (vs 77) (minS p (pen, 1)).1 (minS p (pen, 1)).2 := f77
      replace f77 := f77.le i77.le
      clear i77
      replace f78 : FracC _ (vs 78) (bsum pen fs rs k + vS (minS p (pen, 1))) := f78
      replace f78 := f78.le i78.le
      clear i78
      obtain ⟨g78, A78, n78, c78, h78, B78, k78, d78, e78, f78⟩ := f78.lit
      generalize vs 78 = x78 at e78 ⊢
      subst x78
      clear hE hV
      simp only [List.drop_succ_cons, List.drop_zero]
      go_wp2_with (first | ((with_reducible refine kAny ?_); go_skip) | ((first | ((with_reducible refine kIx ?_); first | (refine t_ixa rfl rfl rfl ?_; (try simp only [Nat.mul_one])) | (refine t_ixaA rfl rfl rfl ?_; (try simp only [Nat.mul_one]))) | ((with_reducible refine kFd ?_); first | refine t_fda0 rfl rfl ?_ | (refine t_fda rfl rfl ?_; (try simp only [Nat.zero_add, Nat.reduceAdd]))) | ((with_reducible refine kLd ?_); first | refine t_loadR hL rfl rfl ?_ | refine t_loadW hL rfl rfl ?_ | refine t_load2 hL rfl rfl ?_ | refine t_load1 hL rfl rfl ?_ | refine t_loadV hL.vw rfl rfl ?_ | refine t_loadV1 hL.vw rfl rfl ?_) | ((with_reducible refine kSt ?_); first | (refine t_storeR hL rfl rfl rfl ?_; clear hL; intro _ hL; simp only [zq2, zq3] at hL) | ((first | refine t_store hL rfl rfl rfl ?_ | refine t_sts hL rfl rfl rfl ?_ | refine t_sti hL rfl rfl rfl ?_ | refine t_stb hL rfl rfl rfl ?_ | refine t_store1 hL rfl rfl rfl ?_); clear hL; intro _ hL; simp only [splice, zq1, zq2, zq3] at hL)) | ((with_reducible refine kBx ?_); (refine t_box hL rfl rfl ?_; clear hL; intro _ _ hL _)) | ((with_reducible refine kAl ?_); (refine t_alloc hL rfl ?_; clear hL; intro _ _ hL _))); simp only [Act.put, zq1, zq2, zq3]))
      refine QN.mk ?_
      go_wp2_with (first | ((with_reducible refine kAny ?_); go_skip) | ((first | ((with_reducible refine kIx ?_); first | (refine t_ixa rfl rfl rfl ?_; (try simp only [Nat.mul_one])) | (refine t_ixaA rfl rfl rfl ?_; (try simp only [Nat.mul_one]))) | ((with_reducible refine kFd ?_); first | refine t_fda0 rfl rfl ?_ | (refine t_fda rfl rfl ?_; (try simp only [Nat.zero_add, Nat.reduceAdd]))) | ((with_reducible refine kLd ?_); first | refine t_loadR hL rfl rfl ?_ | refine t_loadW hL rfl rfl ?_ | refine t_load2 hL rfl rfl ?_ | refine t_load1 hL rfl rfl ?_ | refine t_loadV hL.vw rfl rfl ?_ | refine t_loadV1 hL.vw rfl rfl ?_) | ((with_reducible refine kSt ?_); first | (refine t_storeR hL rfl rfl rfl ?_; clear hL; intro _ hL; simp only [zq2, zq3] at hL) | ((first | refine t_store hL rfl rfl rfl ?_ | refine t_sts hL rfl rfl rfl ?_ | refine t_sti hL rfl rfl rfl ?_ | refine t_stb hL rfl rfl rfl ?_ | refine t_store1 hL rfl rfl rfl ?_); clear hL; intro _ hL; simp only [splice, zq1, zq2, zq3] at hL)) | ((with_reducible refine kBx ?_); (refine t_box hL rfl rfl ?_; clear hL; intro _ _ hL _)) | ((with_reducible refine kAl ?_); (refine t_alloc hL rfl ?_; clear hL; intro _ _ hL _))); simp only [Act.put, zq1, zq2, zq3]))
      go_roundw
      case rel =>
        refine ⟨k + 1, _, _, _, _, _, _, _, _, _, by omega, by go_num, hL, ?_, exX⟩
        rw [← HB.out] at f78
        exact f78
      case measure => simp [intOf] <;> omega
    · have hkn : Hid (k = n) := by show _ = _; omega
      have hs1 := hs.out
      have S4 : Hid (Sm (bsum pen fs rs k).num (bsum pen fs rs k).den) := HP.out k hk
      have hlv2 := hlv.le hM.le
      have S5 : Hid (Sm ((n : Int) : Rat).num ((n : Int) : Rat).den) := ⟨by simp; omega, by simp⟩
      clear hX hs KV KP KW HS HP
      go_wp2_with (first | ((with_reducible refine kAny ?_); go_skip) | ((first | ((with_reducible refine kIx ?_); first | (refine t_ixa rfl rfl rfl ?_; (try simp only [Nat.mul_one])) | (refine t_ixaA rfl rfl rfl ?_; (try simp only [Nat.mul_one]))) | ((with_reducible refine kFd ?_); first | refine t_fda0 rfl rfl ?_ | (refine t_fda rfl rfl ?_; (try simp only [Nat.zero_add, Nat.reduceAdd]))) | ((with_reducible refine kLd ?_); first | refine t_loadR hL rfl rfl ?_ | refine t_loadW hL rfl rfl ?_ | refine t_load2 hL rfl rfl ?_ | refine t_load1 hL rfl rfl ?_ | refine t_loadV hL.vw rfl rfl ?_ | refine t_loadV1 hL.vw rfl rfl ?_) | ((with_reducible refine kSt ?_); first | (refine t_storeR hL rfl rfl rfl ?_; clear hL; intro _ hL; simp only [zq2, zq3] at hL) | ((first | refine t_store hL rfl rfl rfl ?_ | refine t_sts hL rfl rfl rfl ?_ | refine t_sti hL rfl rfl rfl ?_ | refine t_stb hL rfl rfl rfl ?_ | refine t_store1 hL rfl rfl rfl ?_); clear hL; intro _ hL; simp only [splice, zq1, zq2, zq3] at hL)) | ((with_reducible refine kBx ?_); (refine t_box hL rfl rfl ?_; clear hL; intro _ _ hL _)) | ((with_reducible refine kAl ?_); (refine t_alloc hL rfl ?_; clear hL; intro _ _ hL _))); simp only [Act.put, zq1, zq2, zq3]))
      refine wp_loop_once ?_
      go_upto_region 31 with ((first | ((with_reducible refine kAny ?_); go_skip) | ((first | ((with_reducible refine kIx ?_); first | (refine t_ixa rfl rfl rfl ?_; (try simp only [Nat.mul_one])) | (refine t_ixaA rfl rfl rfl ?_; (try simp only [Nat.mul_one]))) | ((with_reducible refine kFd ?_); first | refine t_fda0 rfl rfl ?_ | (refine t_fda rfl rfl ?_; (try simp only [Nat.zero_add, Nat.reduceAdd]))) | ((with_reducible refine kLd ?_); first | refine t_loadR hL rfl rfl ?_ | refine t_loadW hL rfl rfl ?_ | refine t_load2 hL rfl rfl ?_ | refine t_load1 hL rfl rfl ?_ | refine t_loadV hL.vw rfl rfl ?_ | refine t_loadV1 hL.vw rfl rfl ?_) | ((with_reducible refine kSt ?_); first | (refine t_storeR hL rfl rfl rfl ?_; clear hL; intro _ hL; simp only [zq2, zq3] at hL) | ((first | refine t_store hL rfl rfl rfl ?_ | refine t_sts hL rfl rfl rfl ?_ | refine t_sti hL rfl rfl rfl ?_ | refine t_stb hL rfl rfl rfl ?_ | refine t_store1 hL rfl rfl rfl ?_); clear hL; intro _ hL; simp only [splice, zq1, zq2, zq3] at hL)) | ((with_reducible refine kBx ?_); (refine t_box hL rfl rfl ?_; clear hL; intro _ _ hL _)) | ((with_reducible refine kAl ?_); (refine t_alloc hL rfl ?_; clear hL; intro _ _ hL _))); simp only [Act.put, zq1, zq2, zq3])))
      (try simp only [eq_self] at *)
      refine wp_region_by2 10 [false, false, false, false, false, false, false, false, false, false] [false, false, false, false, false, false, false, false, false, false] [(fun v _ _ => v = ?c31_0), (fun v _ _ => v = ?c31_1), (fun v _ _ => v = ?c31_2), (fun v _ _ => v = ?c31_3), Of (fun um v => FracC um v ((n : Int) : Rat)), (fun v _ _ => v = ?c31_5), Of (fun um v => FracC um v ((0 : Int) : Rat)), Of (fun um v => FracS um v (minS lp (0, 1)).1 (minS lp (0, 1)).2), Of (fun um v => FracC um v (((n : Int) : Rat) * vS (minS lp (0, 1)))), Of (fun um v => FracC um v (bsum pen fs rs k + ((n : Int) : Rat) * vS (minS lp (0, 1))))] hL.vw mixed [104, 105, 106, 107, 108, 109, 110, 111, 112, 113] _ (by kernel_rfl) (fun vs => by simp only [lay, Act.put, zq1, zq2, zq3]; rfl) (by kernel_rfl) (by decide) (by decide) ?s31 ?l31 ?r31
      case s31 =>
        refine ⟨?_, ?_, ?_, ?_, ?_, ?_, ?_, ?_, ?_, ?_, trivial⟩
        · intro vs W1 m1 hE hM hV hD
          clear hD
          replace hL := hL.call hE hM hV
          exact sLd
        · intro vs W1 m1 hE hM hV hD
          clear hD
          replace hL := hL.call hE hM hV
          exact sFd
        · intro vs W1 m1 hE hM hV hD
          obtain ⟨⟨_, _, -, -, f105⟩, -⟩ := hD
          have f105 : vs 105 = _ := f105
          generalize vs 105 = x105 at f105 ⊢
          subst x105
          replace hL := hL.call hE hM hV
          exact sLd
        · intro vs W1 m1 hE hM hV hD
          obtain ⟨⟨_, _, -, -, f106⟩, -⟩ := hD
          have f106 : vs 106 = _ := f106
          generalize vs 106 = x106 at f106 ⊢
          subst x106
          replace hL := hL.call hE hM hV
          go_wp2_with (first | ((with_reducible refine kAny ?_); go_skip) | ((first | ((with_reducible refine kIx ?_); first | (refine t_ixa rfl rfl rfl ?_; (try simp only [Nat.mul_one])) | (refine t_ixaA rfl rfl rfl ?_; (try simp only [Nat.mul_one]))) | ((with_reducible refine kFd ?_); first | refine t_fda0 rfl rfl ?_ | (refine t_fda rfl rfl ?_; (try simp only [Nat.zero_add, Nat.reduceAdd]))) | ((with_reducible refine kLd ?_); first | refine t_loadR hL rfl rfl ?_ | refine t_loadW hL rfl rfl ?_ | refine t_load2 hL rfl rfl ?_ | refine t_load1 hL rfl rfl ?_ | refine t_loadV hL.vw rfl rfl ?_ | refine t_loadV1 hL.vw rfl rfl ?_) | ((with_reducible refine kSt ?_); first | (refine t_storeR hL rfl rfl rfl ?_; clear hL; intro _ hL; simp only [zq2, zq3] at hL) | ((first | refine t_store hL rfl rfl rfl ?_ | refine t_sts hL rfl rfl rfl ?_ | refine t_sti hL rfl rfl rfl ?_ | refine t_stb hL rfl rfl rfl ?_ | refine t_store1 hL rfl rfl rfl ?_); clear hL; intro _ hL; simp only [splice, zq1, zq2, zq3] at hL)) | ((with_reducible refine kBx ?_); (refine t_box hL rfl rfl ?_; clear hL; intro _ _ hL _)) | ((with_reducible refine kAl ?_); (refine t_alloc hL rfl ?_; clear hL; intro _ _ hL _))); simp only [Act.put, zq1, zq2, zq3]))
          refine One2.still hV ?_; exact rfl
        · intro vs W1 m1 hE hM hV hD
          obtain ⟨⟨_, _, -, -, f107⟩, -⟩ := hD
          have f107 : vs 107 = _ := f107
          generalize vs 107 = x107 at f107 ⊢
          subst x107
          go_wp2_with fail
          refine (KN.out _ _ hV).mono ?_
          rintro e W2 ⟨v, m2, rfl, hE2, hM2, hV2, h⟩
          go_wp2_with fail
          refine One2.call hE2 hM2 hV2 ?_; first | exact h | exact rfl
        · intro vs W1 m1 hE hM hV hD
          clear hD
          replace hL := hL.call hE hM hV
          exact sLd
        · intro vs W1 m1 hE hM hV hD
          clear hD
          go_wp2_with fail
          refine (l_whole 0 _ _ hV (by decide)).mono ?_
          rintro e W2 ⟨v, m2, rfl, hE2, hM2, hV2, h⟩
          go_wp2_with fail
          refine One2.call hE2 hM2 hV2 ?_; first | exact h | exact rfl
        · intro vs W1 m1 hE hM hV hD
          obtain ⟨⟨_, _, -, -, f109⟩, ⟨_, _, -, i110, f110⟩, -, -⟩ := hD
          have f109 : vs 109 = _ := f109
          generalize vs 109 = x109 at f109 ⊢
          subst x109
          have f110 : FracC _ (vs 110) ((0 : Int) : Rat) := f110
          replace f110 := f110.le i110.le
          clear i110
          go_wp2_with fail
          refine (l_smallerS _ _ lp (0, 1) _ _ hV (hlv2.le leX) (toSI f110 (by decide)) H1.out ⟨by decide, by decide⟩).mono ?_
          rintro e W2 ⟨v, m2, rfl, hE2, hM2, hV2, h⟩
          go_wp2_with fail
          refine One2.call hE2 hM2 hV2 ?_; first | exact h | exact rfl
        · intro vs W1 m1 hE hM hV hD
          obtain ⟨⟨_, _, -, i108, f108⟩, ⟨_, _, -, i111, f111⟩, -, -⟩ := hD
          have f108 : FracC _ (vs 108) ((n : Int) : Rat) := f108
          replace f108 := f108.le i108.le
          clear i108
          have f111 : FracS _ (vs 111) (minS lp (0, 1)).1 (minS lp (0, 1)).2 := f111
          replace f111 := f111.le i111.le
          clear i111
          go_wp2_with fail
          refine (q_MulS _ _ ((n : Int) : Rat) (minS lp (0, 1)) _ _ hV f108 f111 S5.out H2.out).mono ?_
          rintro e W2 ⟨v, m2, rfl, hE2, hM2, hV2, h⟩
          go_wp2_with fail
          refine One2.call hE2 hM2 hV2 ?_; first | exact h | exact rfl
        · intro vs W1 m1 hE hM hV hD
          obtain ⟨⟨_, _, -, -, f104⟩, ⟨_, _, -, i112, f112⟩, -, -⟩ := hD
          have f104 : vs 104 = _ := f104
          generalize vs 104 = x104 at f104 ⊢
          subst x104
          have f112 : FracC _ (vs 112) (((n : Int) : Rat) * vS (minS lp (0, 1))) := f112
          replace f112 := f112.le i112.le
          clear i112
          go_wp2_with fail
          refine (q_AddC _ _ (bsum pen fs rs k) (((n : Int) : Rat) * vS (minS lp (0, 1))) _ _ hV (hs1.le leX) f112 S4.out H3.out).mono ?_
          rintro e W2 ⟨v, m2, rfl, hE2, hM2, hV2, h⟩
          go_wp2_with fail
          refine One2.call hE2 hM2 hV2 ?_; first | exact h | exact rfl
      case l31 =>
        refine ⟨fun h => (by cases h), fun h => (by cases h), fun h => (by cases h), fun h => (by cases h), fun h => (by cases h), fun h => (by cases h), fun h => (by cases h), fun h => (by cases h), fun h => (by cases h), fun h => (by cases h), trivial⟩
      intro vs W1 m1 hE hM hV hF hD
      clear hD
      obtain ⟨-, -, -, -, ⟨_, _, -, i108, f108⟩, -, ⟨_, _, -, i110, f110⟩, ⟨_, _, -, i111, f111⟩, ⟨_, _, -, i112, f112⟩, ⟨_, _, -, i113, f113⟩, -⟩ := hF
      replace hL := hL.call hE hM hV
      replace f108 : FracC _ (vs 108) ((n : Int) : Rat) := f108
      replace f108 := f108.le i108.le
      clear i108
      replace f110 : FracC _ (vs 110) ((0 : Int) : Rat) := f110
      replace f110 := f110.le i110.le
      clear i110
      replace f111 : FracS _ (vs 111) (minS lp (0, 1)).1 (minS lp (0, 1)).2 := f111
      replace f111 := f111.le i111.le
      clear i111
      replace f112 : FracC _ (vs 112) (((n : Int) : Rat) * vS (minS lp (0, 1))) := f112
      replace f112 := f112.le i112.le
      clear i112
      replace f113 : FracC _ (vs 113) (bsum pen fs rs k + ((n : Int) : Rat) * vS (minS lp (0, 1))) := f113
      replace f113 := f113.le i113.le
      clear i113
      obtain ⟨g113, A113, n113, c113, h113, B113, k113, d113, e113, f113⟩ := f113.lit
      generalize vs 113 = x113 at e113 ⊢
      subst x113
      clear hE hV
      simp only [List.drop_succ_cons, List.drop_zero]
      go_wp2_with (first | ((with_reducible refine kAny ?_); go_skip) | ((first | ((with_reducible refine kIx ?_); first | (refine t_ixa rfl rfl rfl ?_; (try simp only [Nat.mul_one])) | (refine t_ixaA rfl rfl rfl ?_; (try simp only [Nat.mul_one]))) | ((with_reducible refine kFd ?_); first | refine t_fda0 rfl rfl ?_ | (refine t_fda rfl rfl ?_; (try simp only [Nat.zero_add, Nat.reduceAdd]))) | ((with_reducible refine kLd ?_); first | refine t_loadR hL rfl rfl ?_ | refine t_loadW hL rfl rfl ?_ | refine t_load2 hL rfl rfl ?_ | refine t_load1 hL rfl rfl ?_ | refine t_loadV hL.vw rfl rfl ?_ | refine t_loadV1 hL.vw rfl rfl ?_) | ((with_reducible refine kSt ?_); first | (refine t_storeR hL rfl rfl rfl ?_; clear hL; intro _ hL; simp only [zq2, zq3] at hL) | ((first | refine t_store hL rfl rfl rfl ?_ | refine t_sts hL rfl rfl rfl ?_ | refine t_sti hL rfl rfl rfl ?_ | refine t_stb hL rfl rfl rfl ?_ | refine t_store1 hL rfl rfl rfl ?_); clear hL; intro _ hL; simp only [splice, zq1, zq2, zq3] at hL)) | ((with_reducible refine kBx ?_); (refine t_box hL rfl rfl ?_; clear hL; intro _ _ hL _)) | ((with_reducible refine kAl ?_); (refine t_alloc hL rfl ?_; clear hL; intro _ _ hL _))); simp only [Act.put, zq1, zq2, zq3]))
      refine QN.mk ?_
      go_wp2_with (first | ((with_reducible refine kAny ?_); go_skip) | ((first | ((with_reducible refine kIx ?_); first | (refine t_ixa rfl rfl rfl ?_; (try simp only [Nat.mul_one])) | (refine t_ixaA rfl rfl rfl ?_; (try simp only [Nat.mul_one]))) | ((with_reducible refine kFd ?_); first | refine t_fda0 rfl rfl ?_ | (refine t_fda rfl rfl ?_; (try simp only [Nat.zero_add, Nat.reduceAdd]))) | ((with_reducible refine kLd ?_); first | refine t_loadR hL rfl rfl ?_ | refine t_loadW hL rfl rfl ?_ | refine t_load2 hL rfl rfl ?_ | refine t_load1 hL rfl rfl ?_ | refine t_loadV hL.vw rfl rfl ?_ | refine t_loadV1 hL.vw rfl rfl ?_) | ((with_reducible refine kSt ?_); first | (refine t_storeR hL rfl rfl rfl ?_; clear hL; intro _ hL; simp only [zq2, zq3] at hL) | ((first | refine t_store hL rfl rfl rfl ?_ | refine t_sts hL rfl rfl rfl ?_ | refine t_sti hL rfl rfl rfl ?_ | refine t_stb hL rfl rfl rfl ?_ | refine t_store1 hL rfl rfl rfl ?_); clear hL; intro _ hL; simp only [splice, zq1, zq2, zq3] at hL)) | ((with_reducible refine kBx ?_); (refine t_box hL rfl rfl ?_; clear hL; intro _ _ hL _)) | ((with_reducible refine kAl ?_); (refine t_alloc hL rfl ?_; clear hL; intro _ _ hL _))); simp only [Act.put, zq1, zq2, zq3]))
      refine fin_aggT hL Tryz.results18 rfl rfl loX ag_Frac (by exact rfl) rfl (hL.sub (List.nil_sublist _)) ?_
      have hq : bsum pen fs rs n = bsum pen fs rs k := by rw [hkn.out]
      exact ⟨_, rfl, by rw [hq]; exact f113.le leX⟩
end Go.Proofs.YtmhkmmmompediaaGreat

/- Rows that are new and shown at once; closed values. -/
namespace Go.Proofs.YtmhkmmmompediaaGreat
open Go.RowKit

/-- What Bound hands back. -/
def BdR (m : World) (v : Value) (q : Rat) : Prop := ∃ r, v = .tuple #[r, .int .i64 0] ∧ FracC m r q
theorem BdR.le {m m' : World} {v : Value} {q : Rat} (h : BdR m v q) (hb : Le m m') : BdR m' v q := by
  obtain ⟨r, e, h⟩ := h
  exact ⟨r, e, h.le hb⟩
def kF1 : List SF := [(20, 1), (20, 1)]
def kF2 : List SF := [(0, 0), (0, 0)]
theorem kb10 : bsum 10 kF1 [0, 1] 0 = ((0 : Int) : Rat) := by kernel_rfl
theorem kb11 : bsum 10 kF1 [0, 1] 1 = ((10 : Int) : Rat) := by kernel_rfl
theorem kb12 : bsum 10 kF1 [0, 1] 2 = ((20 : Int) : Rat) := by kernel_rfl
theorem kb20 : bsum 10 kF2 [0, 1] 0 = ((0 : Int) : Rat) := by kernel_rfl
theorem kb21 : bsum 10 kF2 [0, 1] 1 = ((0 : Int) : Rat) := by kernel_rfl
theorem kb22 : bsum 10 kF2 [0, 1] 2 = ((0 : Int) : Rat) := by kernel_rfl
theorem kv1 : bsum 10 kF1 [0, 1] 2 + (((2 : Nat) : Int) : Rat) * vS (minS (3, 1) (0, 1)) = ((20 : Int) : Rat) := by kernel_rfl
theorem kv2 : bsum 10 kF2 [0, 1] 2 + (((2 : Nat) : Int) : Rat) * vS (minS (0, 1) (0, 1)) = ((0 : Int) : Rat) := by kernel_rfl
theorem km1 : (((2 : Nat) : Int) : Rat) * vS (minS (3, 1) (0, 1)) = ((0 : Int) : Rat) := by kernel_rfl
theorem km2 : (((2 : Nat) : Int) : Rat) * vS (minS (0, 1) (0, 1)) = ((0 : Int) : Rat) := by kernel_rfl
theorem SmI (z : Int) (h : z.natAbs < 1073741824) : Sm ((z : Rat)).num ((z : Rat)).den := ⟨by simpa using h, by simp⟩
theorem kasc : Asc 2 [0, 1] := by
  intro k x hk
  match k, hk with
  | 0, hk => simp at hk; subst hk; exact ⟨by omega, by omega, fun y h => by omega⟩
  | 1, hk => simp at hk; subst hk; exact ⟨by omega, by omega, fun y _ hy => by simp at hy; omega⟩
  | k + 2, hk => simp at hk
theorem kcel : cel (Rat.divInt (-7) 2) = -3 := by kernel_rfl
end Go.Proofs.YtmhkmmmompediaaGreat
