/- Part 1 of 3 of the proof: the law BranchFollows returns true for every input, and its arguments read as before; there is no condition. -/
import Derived.WalkKit
import Derived.LoopTactic
import Derived.Lib.Hide
import Derived.Laws.MakeOwn
import Derived.Deep.AppendLies
import Derived.Deep.Draws
import Derived.Deep.LoopGhost
import Derived.Deep.QuietTactic
import Derived.BigQuiet
import Derived.Outline
import Derived.Maps.AppendAt
import Derived.RegionTactic
import Derived.WalkSpells
import Derived.Deep.DeepCutAuto
import Derived.Deep.CutBlock
import Derived.Deep.RegionHeld3
import Derived.StillTailTactics
import Derived.Deep.RegionLaw
import Derived.Deep.RegionWith
import Derived.Deep.DeepFit
import Derived.Laws.Rows
import Derived.Laws.Tables
import Derived.Test.YtmhkmmmompediaaGreatProg
import Derived.Lib.SliceRun
import Derived.Laws.Bits128
import Derived.Laws.StructEq
import Derived.ProofKit
import Derived.OpenShut
import Derived.Maps.Own
import Derived.Maps.Views
import Derived.DeepKeys4
import Derived.Maps.RangeWalk
import Derived.Shelf.SlSortCmp.NoneTotal
import Derived.Test.YtmhkmmmompediaaGreatBR6
set_option linter.unusedVariables false
set_option linter.unusedSimpArgs false
/- Views: a view shows a part of the memory. Facts on data are said of the view; a function's own variables are hidden from it, so that writing them disturbs no fact. Laws for the walk over a list of the variables' blocks. No program. -/
namespace Go.Proofs.YtmhkmmmompediaaGreat
open Go.RowKit

section
variable {P : Program} {ops : Array Oper} {Q : Exit → Act → World → Prop} {rest : List Oper} {o : Oper} {a : Act} {w0 m0 W m : World} {Ls : List Lo}

end

section
variable {P : Program} {ops : Array Oper} {Q : Exit → Act → World → Prop} {rest : List Oper} {o : Oper} {a : Act} {W : World}
theorem extract2 {cs : Array Value} {off : Nat} {v0 v1 : Value} (h0 : cs[off]? = some v0) (h1 : cs[off + 1]? = some v1) : cs.extract off (off + 2) = #[v0, v1] := by
  have l1 : off + 1 < cs.size := (Array.getElem?_eq_some_iff.1 h1).1
  apply Array.ext_getElem?
  intro i
  rw [Array.getElem?_extract]
  match i with
  | 0 => simp [h0]; omega
  | 1 => simp [h1]; omega
  | i + 2 =>
    have : ¬ (i + 2 < min (off + 2) cs.size - off) := by omega
    simp [this]
theorem run_fields {t : TypeId} {k : Nat} {ft : TypeId} {off : Nat} (hf : fldS P t k = some (ft, off)) (cs : Array Value) (w : World) : (Instr.field t (.agg cs) k).run P w = (part ft cs off).run P w := by
  unfold fldS at hf
  split at hf
  · rename_i fs hu
    cases hk : fs[k]? with
    | none => simp [hk] at hf
    | some f =>
      simp [hk] at hf
      obtain ⟨rfl, rfl⟩ := hf
      unfold Instr.field
      rw [Sem.run_bind, run_underlying hu w]
      simp [hk, asAgg]
  · cases hf
theorem run_part2 {ft : TypeId} {off : Nat} {cs : Array Value} {v0 v1 : Value} (hty : agS P ft = some 2) (h0 : cs[off]? = some v0) (h1 : cs[off + 1]? = some v1) (w : World) : (part ft cs off).run P w = .ok (.agg #[v0, v1]) w := by
  obtain ⟨d, hu, hd, hi⟩ := ag_desc hty
  cases hq : P.info? ft with
  | none => simp [hq] at hi
  | some i =>
    have hs : i.size = 2 := by simpa [hq] using hi
    have hagg : (isAgg ft).run P w = .ok true w := by
      unfold isAgg
      rw [Sem.run_bind, run_underlying hu w]
      cases d <;> simp_all [TypeDesc.isRow]
    simp [part, Sem.run_bind, hagg, sizeOf, typeInfo, hq, hs, extract2 h0 h1]
theorem run_part1 {ft : TypeId} {off : Nat} {cs : Array Value} {v : Value} (hty : lfB P ft = true) (h0 : cs[off]? = some v) (w : World) : (part ft cs off).run P w = .ok v w := by
  have hagg : (isAgg ft).run P w = .ok false w := by
    unfold lfB at hty
    unfold isAgg
    cases hu : P.underlying ft with
    | none => simp [hu] at hty
    | some d =>
      rw [Sem.run_bind, run_underlying hu w]
      cases d <;> simp_all
  simp [part, Sem.run_bind, hagg, h0]
theorem wl_field2 (hw : Region.wanted o (yielded ops a.tmps) = true) {t : TypeId} {x : Operand} {k : Nat} (ho : o.op = .field t x k) {cs : Array Value} (hx : a.eval x = .agg cs) {ft : TypeId} {off : Nat} (hf : fldS P t k = some (ft, off))
    (hty : agS P ft = some 2) {v0 v1 : Value} (h0 : cs[off]? = some v0) (h1 : cs[off + 1]? = some v1) (h : wpList P ops Q rest (a.put o.dst (.agg #[v0, v1])) W) : wpList P ops Q (o :: rest) a W :=
  wpList_wanted hw fun _ hK => by
    unfold Oper.wp execOp
    simp only [ho, hx, Sem.run_bind, run_fields hf, run_part2 hty h0 h1, Result.andThen_ok, Sem.run_pure]
    exact hK _ _ h
theorem wl_field1 (hw : Region.wanted o (yielded ops a.tmps) = true) {t : TypeId} {x : Operand} {k : Nat} (ho : o.op = .field t x k) {cs : Array Value} (hx : a.eval x = .agg cs) {ft : TypeId} {off : Nat} (hf : fldS P t k = some (ft, off))
    (hty : lfB P ft = true) {v : Value} (h0 : cs[off]? = some v) (h : wpList P ops Q rest (a.put o.dst v) W) : wpList P ops Q (o :: rest) a W :=
  wpList_wanted hw fun _ hK => by
    unfold Oper.wp execOp
    simp only [ho, hx, Sem.run_bind, run_fields hf, run_part1 hty h0, Result.andThen_ok, Sem.run_pure]
    exact hK _ _ h
end

theorem RetV.of {w m : World} {R : World → Value → Prop} {R0 : World → Value → Prop} (hV : Vw m w) (hR : ∀ w' v, Ext w w' → R0 w' v → R (joined m w') v) {e : Ending} {w' : World}
    (h : ∃ v, e = .returned v ∧ R0 w' v ∧ Ext w w') : RetV w m R e w' := by
  obtain ⟨v, rfl, h1, h2⟩ := h
  exact ⟨v, _, rfl, h2, (joined_spec hV h2).1, (joined_spec hV h2).2, hR w' v h2 h1⟩
section
variable {P : Program} {ops : Array Oper} {Q : Exit → Act → World → Prop} {rest : List Oper} {o : Oper} {a : Act} {w0 m0 W m : World} {Ls : List Lo}
theorem t_field2 {t : TypeId} {x : Operand} {k : Nat} (ho : o.op = .field t x k) {cs : Array Value} (hx : a.eval x = .agg cs) {ft : TypeId} {off : Nat} [hf : FlC P t k ft off] [hty : AgC P ft 2] {v0 v1 : Value}
    (h : wpList P ops Q rest (a.put o.dst (.agg #[v0, v1])) W) (h0 : cs[off]? = some v0 := by first | with_reducible exact at0 | with_reducible exact at1 | with_reducible exact at2 | with_reducible exact at3 | with_reducible exact at4 | with_reducible exact at5 | with_reducible exact at6 | with_reducible exact at7 | with_reducible exact at8 | with_reducible exact at9 | with_reducible exact at10 | with_reducible exact at11) (h1 : cs[off + 1]? = some v1 := by first | with_reducible exact at0 | with_reducible exact at1 | with_reducible exact at2 | with_reducible exact at3 | with_reducible exact at4 | with_reducible exact at5 | with_reducible exact at6 | with_reducible exact at7 | with_reducible exact at8 | with_reducible exact at9 | with_reducible exact at10 | with_reducible exact at11)
    (hw : Region.wanted o (yielded ops a.tmps) = true := by first | exact wanted_none rfl | exact wanted_some rfl rfl rfl rfl) :
    wpList P ops Q (o :: rest) a W := wl_field2 hw ho hx hf.h hty.h h0 h1 h
theorem t_field1 {t : TypeId} {x : Operand} {k : Nat} (ho : o.op = .field t x k) {cs : Array Value} (hx : a.eval x = .agg cs) {ft : TypeId} {off : Nat} [hf : FlC P t k ft off] [hty : LfC P ft] {v : Value}
    (h : wpList P ops Q rest (a.put o.dst v) W) (h0 : cs[off]? = some v := by first | with_reducible exact at0 | with_reducible exact at1 | with_reducible exact at2 | with_reducible exact at3 | with_reducible exact at4 | with_reducible exact at5 | with_reducible exact at6 | with_reducible exact at7 | with_reducible exact at8 | with_reducible exact at9 | with_reducible exact at10 | with_reducible exact at11)
    (hw : Region.wanted o (yielded ops a.tmps) = true := by first | exact wanted_none rfl | exact wanted_some rfl rfl rfl rfl) :
    wpList P ops Q (o :: rest) a W := wl_field1 hw ho hx hf.h hty.h h0 h
end
section
variable {P : Program} {ops : Array Oper} {Q : Exit → Act → World → Prop} {rest : List Oper} {o : Oper} {a : Act} {W : World} {d : Option Tmp} {ty t : TypeId} {pos : String} {af : Array Edge} {gd : Option (Nat × Bool)} {x y : Operand} {n : Nat}
theorem kFl (h : wpList P ops Q (⟨d, .field t x n, ty, pos, af, gd⟩ :: rest) a W) : wpList P ops Q (⟨d, .field t x n, ty, pos, af, gd⟩ :: rest) a W := h
end
/- Names for tactics: each closes 'A → B' by the laws for one kind of operation. -/
theorem tFl {A B : Prop} (h : A) (f : Kp A → B := by intro hg; (with_reducible refine kFl ?_); first | (refine t_field2 rfl rfl ?_; exact hg.out) | (refine t_field1 rfl rfl ?_; exact hg.out)) : B := f h
end Go.Proofs.YtmhkmmmompediaaGreat

/- Contracts of package pairingref1 over views. -/
namespace Go.Proofs.YtmhkmmmompediaaGreat
open Go.RowKit

theorem c_Compare (a b : Value) (x y : Int) (w m : World) (hV : Vw m w) (ha : IntV m a x) (hb : IntV m b y) : Calls Tryz.prog 166 #[a, b] w (RetV w m fun _ r => r = .int .i64 (icmp x y)) :=
  (r1_Compare a b x y w (ha.le hV.le) (hb.le hV.le)).mono fun _ _ h => RetV.val hV h
end Go.Proofs.YtmhkmmmompediaaGreat

/- Contracts of package pairingref25: Canon, Int, Negate, Mul, Add, Div, Sub, Sign, Compare, Min, Same. -/
namespace Go.Proofs.YtmhkmmmompediaaGreat
open Go.RowKit

theorem add_len {x y : Int} {k : Nat} (hx : x.natAbs < 4294967296 ^ k) (hy : y.natAbs < 4294967296 ^ k) : (digs (x + y).natAbs).length ≤ k + 1 := by
  apply length_digs_le
  have := Int.natAbs_add_le x y
  rw [Nat.pow_succ]; omega
set_option maxRecDepth 100000 in
set_option maxHeartbeats 4000000 in
theorem r_Negate (v : Value) (q : Rat) (w m : World) (hV : Vw m w) (hv : FracV m v q) : Calls Tryz.prog 65 #[v] w (RetV w m fun m' r => FracC m' r (-q)) := by
  obtain ⟨x, y, g, A, n, c, h, B', k, d, rfl, hx, hy, rfl⟩ := hv.lit
  have lx : (digs (-x).natAbs).length ≤ 1000 := by rw [Int.natAbs_neg]; exact hx.length
  have hL := Loc.start hV
  clear hV
  go_enter Tryz.func65, Tryz.ntmps65
  go_upto_region 1 with ((first | ((with_reducible refine kAny ?_); go_skip) | ((first | refine tLo ?_ | (refine tSt ?_; clear hL; intro _ hL; simp only [splice, zq1, zq2, zq3] at hL) | ((first | refine tBx ?_ | refine tAl ?_); clear hL; intro _ _ hL _)); simp only [Act.put, zq1, zq2, zq3])))
  refine wp_region_by 6 [false, false, false, false, false, false] [(fun v _ _ => v = ?c1_0), (fun v _ _ => v = ?c1_1), Of (fun um v => IntC um v (-x)), (fun v _ _ => v = ?c1_3), (fun v _ _ => v = ?c1_4), Of (fun um v => FracC um v (Rat.divInt (-x) y))] hL.vw mixed [3, 4, 5, 6, 7, 8] _ (by kernel_rfl) (fun vs => by simp only [lay, Act.put, zq1, zq2, zq3]; rfl) (by kernel_rfl) ?s1 ?r1
  case s1 =>
    refine ⟨?_, ?_, ?_, ?_, ?_, ?_, trivial⟩
    · intro vs W1 m1 hE hM hV hD; clear hD; replace hL := hL.call hE hM hV
      go_wp2_with (first | ((with_reducible refine kAny ?_); go_skip) | ((first | refine tLo ?_ | (refine tSt ?_; clear hL; intro _ hL; simp only [splice, zq1, zq2, zq3] at hL) | ((first | refine tBx ?_ | refine tAl ?_); clear hL; intro _ _ hL _)); simp only [Act.put, zq1, zq2, zq3]))
      refine One.still hV ?_; exact rfl
    · intro vs W1 m1 hE hM hV hD; obtain ⟨⟨_, _, -, -, f3⟩, -⟩ := hD; have f3 : vs 3 = _ := f3; generalize vs 3 = x3 at f3 ⊢; subst x3; replace hL := hL.call hE hM hV
      exact sLd
    · intro vs W1 m1 hE hM hV hD; obtain ⟨⟨_, _, -, -, f4⟩, -⟩ := hD; have f4 : vs 4 = _ := f4; generalize vs 4 = x4 at f4 ⊢; subst x4
      go_wp2_with fail
      refine (c_Negate _ x _ _ hV (hx.le leX)).mono ?_
      rintro e W2 ⟨v, m2, rfl, hE2, hM2, hV2, h⟩
      go_wp2_with fail
      refine One.call hE2 hM2 hV2 ?_; first | exact h | exact rfl
    · intro vs W1 m1 hE hM hV hD; clear hD; replace hL := hL.call hE hM hV
      go_wp2_with (first | ((with_reducible refine kAny ?_); go_skip) | ((first | refine tLo ?_ | (refine tSt ?_; clear hL; intro _ hL; simp only [splice, zq1, zq2, zq3] at hL) | ((first | refine tBx ?_ | refine tAl ?_); clear hL; intro _ _ hL _)); simp only [Act.put, zq1, zq2, zq3]))
      refine One.still hV ?_; exact rfl
    · intro vs W1 m1 hE hM hV hD; obtain ⟨⟨_, _, -, -, f6⟩, -⟩ := hD; have f6 : vs 6 = _ := f6; generalize vs 6 = x6 at f6 ⊢; subst x6; replace hL := hL.call hE hM hV
      exact sLd
    · intro vs W1 m1 hE hM hV hD; obtain ⟨⟨_, _, -, i5, f5⟩, ⟨_, _, -, -, f7⟩, -, -⟩ := hD; have f7 : vs 7 = _ := f7; generalize vs 7 = x7 at f7 ⊢; subst x7; have f5 : IntC _ (vs 5) (-x) := f5; replace f5 := f5.le i5.le; clear i5
      go_wp2_with fail
      refine (r_New _ _ (-x) y _ _ hV (f5.toV lx) (hy.le leX)).mono ?_
      rintro e W2 ⟨v, m2, rfl, hE2, hM2, hV2, h⟩
      go_wp2_with fail
      refine One.call hE2 hM2 hV2 ?_; first | exact h | exact rfl
  intro vs W1 m1 hE hM hV hF hD
  clear hD
  obtain ⟨-, -, ⟨_, _, -, i5, f5⟩, -, -, ⟨_, _, -, i8, f8⟩, -⟩ := hF
  replace hL := hL.call hE hM hV
  replace f5 : IntC _ (vs 5) (-x) := f5
  replace f5 := f5.le i5.le
  clear i5
  replace f8 : FracC _ (vs 8) (Rat.divInt (-x) y) := f8
  replace f8 := f8.le i8.le
  clear i8
  obtain ⟨g8, A8, n8, c8, h8, B8, k8, d8, e8, f8⟩ := f8.lit
  generalize vs 8 = x8 at e8 ⊢
  subst x8
  clear hE hV
  simp only [List.drop_succ_cons, List.drop_zero]
  go_wp2_with (first | ((with_reducible refine kAny ?_); go_skip) | ((first | refine tLo ?_ | (refine tSt ?_; clear hL; intro _ hL; simp only [splice, zq1, zq2, zq3] at hL) | ((first | refine tBx ?_ | refine tAl ?_); clear hL; intro _ _ hL _)); simp only [Act.put, zq1, zq2, zq3]))
  refine fin_agg hL Tryz.results65 rfl rfl loX AgC.h (by exact rfl) ?_
  rw [Rat.neg_divInt]; exact f8
end Go.Proofs.YtmhkmmmompediaaGreat

/- Contracts of package pairingref25: Mul, Add, Div, Sub, Sign, Compare, Min, Same. -/
namespace Go.Proofs.YtmhkmmmompediaaGreat
open Go.RowKit

theorem sum_len {a b c d : Int} {k l : Nat} (ha : a.natAbs < 4294967296 ^ k) (hb : b.natAbs < 4294967296 ^ l) (hc : c.natAbs < 4294967296 ^ k) (hd : d.natAbs < 4294967296 ^ l) : (digs (a * b + c * d).natAbs).length ≤ k + l + 1 := add_len (mul_lt ha hb) (mul_lt hc hd)

set_option maxRecDepth 100000 in
set_option maxHeartbeats 8000000 in
theorem r_Add (a b : Value) (p q : Rat) (w m : World) (hV : Vw m w) (ha : FracV m a p) (hb : FracV m b q) (kp : Fit 200 p) (kq : Fit 200 q) :
    Calls Tryz.prog 80 #[a, b] w (RetV w m fun m' r => FracC m' r (p + q)) := by
  have hq := Lib.hid (rat_add p q)
  have l1 := Nat.le_trans (mul_len kp.n kq.d) (show 200 + 200 ≤ 1000 by omega)
  have l2 := Nat.le_trans (mul_len kq.n kp.d) (show 200 + 200 ≤ 1000 by omega)
  have l3 := Nat.le_trans (mul_len kp.d kq.d) (show 200 + 200 ≤ 1000 by omega)
  have l4 := Nat.le_trans (sum_len kp.n kq.d kq.n kp.d) (show 200 + 200 + 1 ≤ 1000 by omega)
  obtain ⟨_, _, g1, A1, n1, c1, h1, B1, k1, d1, rfl, -, -, -⟩ := ha.lit
  obtain ⟨_, _, g2, A2, n2, c2, h2, B2, k2, d2, rfl, -, -, -⟩ := hb.lit
  have hL := Loc.start hV
  clear hV
  go_enter Tryz.func80, Tryz.ntmps80
  go_upto_region 1 with ((first | ((with_reducible refine kAny ?_); go_skip) | ((first | refine tLo ?_ | (refine tSt ?_; clear hL; intro _ hL; simp only [splice, zq1, zq2, zq3] at hL) | ((first | refine tBx ?_ | refine tAl ?_); clear hL; intro _ _ hL _)); simp only [Act.put, zq1, zq2, zq3])))
  refine wp_region_by 4 [false, false, false, false] [(fun v _ _ => v = ?c1_0), Of (fun um v => FracC um v p), (fun v _ _ => v = ?c1_2), Of (fun um v => FracC um v q)] hL.vw mixed [5, 6, 7, 8] _ (by kernel_rfl) (fun vs => by simp only [lay, Act.put, zq1, zq2, zq3]; rfl) (by kernel_rfl) ?s1 ?r1
  case s1 =>
    refine ⟨?_, ?_, ?_, ?_, trivial⟩
    · intro vs W1 m1 hE hM hV hD; clear hD; replace hL := hL.call hE hM hV
      exact sLd
    · intro vs W1 m1 hE hM hV hD; obtain ⟨⟨_, _, -, -, f5⟩, -⟩ := hD; have f5 : vs 5 = _ := f5; generalize vs 5 = x5 at f5 ⊢; subst x5
      go_wp2_with fail
      refine (r_Canon _ p _ _ hV (ha.le leX)).mono ?_
      rintro e W2 ⟨v, m2, rfl, hE2, hM2, hV2, h⟩
      go_wp2_with fail
      refine One.call hE2 hM2 hV2 ?_; first | exact h | exact rfl
    · intro vs W1 m1 hE hM hV hD; clear hD; replace hL := hL.call hE hM hV
      exact sLd
    · intro vs W1 m1 hE hM hV hD; obtain ⟨⟨_, _, -, -, f7⟩, -, -⟩ := hD; have f7 : vs 7 = _ := f7; generalize vs 7 = x7 at f7 ⊢; subst x7
      go_wp2_with fail
      refine (r_Canon _ q _ _ hV (hb.le leX)).mono ?_
      rintro e W2 ⟨v, m2, rfl, hE2, hM2, hV2, h⟩
      go_wp2_with fail
      refine One.call hE2 hM2 hV2 ?_; first | exact h | exact rfl
  intro vs W1 m1 hE hM hV hF hD
  clear hD
  obtain ⟨-, ⟨_, _, -, i6, f6⟩, -, ⟨_, _, -, i8, f8⟩, -⟩ := hF
  replace hL := hL.call hE hM hV
  replace f6 : FracC _ (vs 6) p := f6
  replace f6 := f6.le i6.le
  clear i6
  obtain ⟨g6, A6, n6, c6, h6, B6, k6, d6, e6, f6⟩ := f6.lit
  generalize vs 6 = x6 at e6 ⊢
  subst x6
  replace f8 : FracC _ (vs 8) q := f8
  replace f8 := f8.le i8.le
  clear i8
  obtain ⟨g8, A8, n8, c8, h8, B8, k8, d8, e8, f8⟩ := f8.lit
  generalize vs 8 = x8 at e8 ⊢
  subst x8
  clear hE hV
  simp only [List.drop_succ_cons, List.drop_zero]
  obtain ⟨a1, a2⟩ := f6.open_
  obtain ⟨b1, b2⟩ := f8.open_
  replace a1 := a1.toV (kp.num (by omega))
  replace a2 := a2.toV (kp.den (by omega))
  replace b1 := b1.toV (kq.num (by omega))
  replace b2 := b2.toV (kq.den (by omega))
  clear f6 f8
  go_upto_region 2 with ((first | ((with_reducible refine kAny ?_); go_skip) | ((first | refine tLo ?_ | (refine tSt ?_; clear hL; intro _ hL; simp only [splice, zq1, zq2, zq3] at hL) | ((first | refine tBx ?_ | refine tAl ?_); clear hL; intro _ _ hL _)); simp only [Act.put, zq1, zq2, zq3])))
  refine wp_region_by 17 [false, false, false, false, false, false, false, false, false, false, false, false, false, false, false, false, false] [(fun v _ _ => v = ?c2_0), (fun v _ _ => v = ?c2_1), (fun v _ _ => v = ?c2_2), (fun v _ _ => v = ?c2_3), Of (fun um v => IntC um v (p.num * q.den)), (fun v _ _ => v = ?c2_5), (fun v _ _ => v = ?c2_6), (fun v _ _ => v = ?c2_7), (fun v _ _ => v = ?c2_8), Of (fun um v => IntC um v (q.num * p.den)), Of (fun um v => IntC um v (p.num * q.den + q.num * p.den)), (fun v _ _ => v = ?c2_11), (fun v _ _ => v = ?c2_12), (fun v _ _ => v = ?c2_13), (fun v _ _ => v = ?c2_14), Of (fun um v => IntC um v (p.den * q.den : Int)), Of (fun um v => FracC um v (Rat.divInt (p.num * q.den + q.num * p.den) (p.den * q.den : Int)))] hL.vw mixed [9, 10, 11, 12, 13, 14, 15, 16, 17, 18, 19, 20, 21, 22, 23, 24, 25] _ (by kernel_rfl) (fun vs => by simp only [lay, Act.put, zq1, zq2, zq3]; rfl) (by kernel_rfl) ?s2 ?r2
  case s2 =>
    refine ⟨?_, ?_, ?_, ?_, ?_, ?_, ?_, ?_, ?_, ?_, ?_, ?_, ?_, ?_, ?_, ?_, ?_, trivial⟩
    · intro vs W1 m1 hE hM hV hD; clear hD; replace hL := hL.call hE hM hV
      go_wp2_with (first | ((with_reducible refine kAny ?_); go_skip) | ((first | refine tLo ?_ | (refine tSt ?_; clear hL; intro _ hL; simp only [splice, zq1, zq2, zq3] at hL) | ((first | refine tBx ?_ | refine tAl ?_); clear hL; intro _ _ hL _)); simp only [Act.put, zq1, zq2, zq3]))
      refine One.still hV ?_; exact rfl
    · intro vs W1 m1 hE hM hV hD; obtain ⟨⟨_, _, -, -, f9⟩, -⟩ := hD; have f9 : vs 9 = _ := f9; generalize vs 9 = x9 at f9 ⊢; subst x9; replace hL := hL.call hE hM hV
      exact sLd
    · intro vs W1 m1 hE hM hV hD; clear hD; replace hL := hL.call hE hM hV
      go_wp2_with (first | ((with_reducible refine kAny ?_); go_skip) | ((first | refine tLo ?_ | (refine tSt ?_; clear hL; intro _ hL; simp only [splice, zq1, zq2, zq3] at hL) | ((first | refine tBx ?_ | refine tAl ?_); clear hL; intro _ _ hL _)); simp only [Act.put, zq1, zq2, zq3]))
      refine One.still hV ?_; exact rfl
    · intro vs W1 m1 hE hM hV hD; obtain ⟨⟨_, _, -, -, f11⟩, -⟩ := hD; have f11 : vs 11 = _ := f11; generalize vs 11 = x11 at f11 ⊢; subst x11; replace hL := hL.call hE hM hV
      exact sLd
    · intro vs W1 m1 hE hM hV hD; obtain ⟨⟨_, _, -, -, f10⟩, ⟨_, _, -, -, f12⟩, -⟩ := hD; have f10 : vs 10 = _ := f10; generalize vs 10 = x10 at f10 ⊢; subst x10; have f12 : vs 12 = _ := f12; generalize vs 12 = x12 at f12 ⊢; subst x12
      go_wp2_with fail
      refine (c_Mul _ _ _ _ _ _ hV (a1.le leX) (b2.le leX)).mono ?_
      rintro e W2 ⟨v, m2, rfl, hE2, hM2, hV2, h⟩
      go_wp2_with fail
      refine One.call hE2 hM2 hV2 ?_; first | exact h | exact rfl
    · intro vs W1 m1 hE hM hV hD; clear hD; replace hL := hL.call hE hM hV
      go_wp2_with (first | ((with_reducible refine kAny ?_); go_skip) | ((first | refine tLo ?_ | (refine tSt ?_; clear hL; intro _ hL; simp only [splice, zq1, zq2, zq3] at hL) | ((first | refine tBx ?_ | refine tAl ?_); clear hL; intro _ _ hL _)); simp only [Act.put, zq1, zq2, zq3]))
      refine One.still hV ?_; exact rfl
    · intro vs W1 m1 hE hM hV hD; obtain ⟨⟨_, _, -, -, f14⟩, -⟩ := hD; have f14 : vs 14 = _ := f14; generalize vs 14 = x14 at f14 ⊢; subst x14; replace hL := hL.call hE hM hV
      exact sLd
    · intro vs W1 m1 hE hM hV hD; clear hD; replace hL := hL.call hE hM hV
      go_wp2_with (first | ((with_reducible refine kAny ?_); go_skip) | ((first | refine tLo ?_ | (refine tSt ?_; clear hL; intro _ hL; simp only [splice, zq1, zq2, zq3] at hL) | ((first | refine tBx ?_ | refine tAl ?_); clear hL; intro _ _ hL _)); simp only [Act.put, zq1, zq2, zq3]))
      refine One.still hV ?_; exact rfl
    · intro vs W1 m1 hE hM hV hD; obtain ⟨⟨_, _, -, -, f16⟩, -⟩ := hD; have f16 : vs 16 = _ := f16; generalize vs 16 = x16 at f16 ⊢; subst x16; replace hL := hL.call hE hM hV
      exact sLd
    · intro vs W1 m1 hE hM hV hD; obtain ⟨⟨_, _, -, -, f15⟩, ⟨_, _, -, -, f17⟩, -, -⟩ := hD; have f15 : vs 15 = _ := f15; generalize vs 15 = x15 at f15 ⊢; subst x15; have f17 : vs 17 = _ := f17; generalize vs 17 = x17 at f17 ⊢; subst x17
      go_wp2_with fail
      refine (c_Mul _ _ _ _ _ _ hV (b1.le leX) (a2.le leX)).mono ?_
      rintro e W2 ⟨v, m2, rfl, hE2, hM2, hV2, h⟩
      go_wp2_with fail
      refine One.call hE2 hM2 hV2 ?_; first | exact h | exact rfl
    · intro vs W1 m1 hE hM hV hD; obtain ⟨⟨_, _, -, i13, f13⟩, ⟨_, _, -, i18, f18⟩, -, -⟩ := hD; have f13 : IntC _ (vs 13) (p.num * q.den) := f13; replace f13 := f13.le i13.le; clear i13; have f18 : IntC _ (vs 18) (q.num * p.den) := f18; replace f18 := f18.le i18.le; clear i18
      go_wp2_with fail
      refine (c_Add _ _ _ _ _ _ hV (f13.toV l1) (f18.toV l2)).mono ?_
      rintro e W2 ⟨v, m2, rfl, hE2, hM2, hV2, h⟩
      go_wp2_with fail
      refine One.call hE2 hM2 hV2 ?_; first | exact h | exact rfl
    · intro vs W1 m1 hE hM hV hD; clear hD; replace hL := hL.call hE hM hV
      go_wp2_with (first | ((with_reducible refine kAny ?_); go_skip) | ((first | refine tLo ?_ | (refine tSt ?_; clear hL; intro _ hL; simp only [splice, zq1, zq2, zq3] at hL) | ((first | refine tBx ?_ | refine tAl ?_); clear hL; intro _ _ hL _)); simp only [Act.put, zq1, zq2, zq3]))
      refine One.still hV ?_; exact rfl
    · intro vs W1 m1 hE hM hV hD; obtain ⟨⟨_, _, -, -, f20⟩, -⟩ := hD; have f20 : vs 20 = _ := f20; generalize vs 20 = x20 at f20 ⊢; subst x20; replace hL := hL.call hE hM hV
      exact sLd
    · intro vs W1 m1 hE hM hV hD; clear hD; replace hL := hL.call hE hM hV
      go_wp2_with (first | ((with_reducible refine kAny ?_); go_skip) | ((first | refine tLo ?_ | (refine tSt ?_; clear hL; intro _ hL; simp only [splice, zq1, zq2, zq3] at hL) | ((first | refine tBx ?_ | refine tAl ?_); clear hL; intro _ _ hL _)); simp only [Act.put, zq1, zq2, zq3]))
      refine One.still hV ?_; exact rfl
    · intro vs W1 m1 hE hM hV hD; obtain ⟨⟨_, _, -, -, f22⟩, -⟩ := hD; have f22 : vs 22 = _ := f22; generalize vs 22 = x22 at f22 ⊢; subst x22; replace hL := hL.call hE hM hV
      exact sLd
    · intro vs W1 m1 hE hM hV hD; obtain ⟨⟨_, _, -, -, f21⟩, ⟨_, _, -, -, f23⟩, -, -⟩ := hD; have f21 : vs 21 = _ := f21; generalize vs 21 = x21 at f21 ⊢; subst x21; have f23 : vs 23 = _ := f23; generalize vs 23 = x23 at f23 ⊢; subst x23
      go_wp2_with fail
      refine (c_Mul _ _ _ _ _ _ hV (a2.le leX) (b2.le leX)).mono ?_
      rintro e W2 ⟨v, m2, rfl, hE2, hM2, hV2, h⟩
      go_wp2_with fail
      refine One.call hE2 hM2 hV2 ?_; first | exact h | exact rfl
    · intro vs W1 m1 hE hM hV hD; obtain ⟨⟨_, _, -, i19, f19⟩, ⟨_, _, -, i24, f24⟩, -, -⟩ := hD; have f19 : IntC _ (vs 19) (p.num * q.den + q.num * p.den) := f19; replace f19 := f19.le i19.le; clear i19; have f24 : IntC _ (vs 24) (p.den * q.den : Int) := f24; replace f24 := f24.le i24.le; clear i24
      go_wp2_with fail
      refine (r_New _ _ _ _ _ _ hV (f19.toV l4) (f24.toV l3)).mono ?_
      rintro e W2 ⟨v, m2, rfl, hE2, hM2, hV2, h⟩
      go_wp2_with fail
      refine One.call hE2 hM2 hV2 ?_; first | exact h | exact rfl
  intro vs W1 m1 hE hM hV hF hD
  clear hD
  obtain ⟨-, -, -, -, ⟨_, _, -, i13, f13⟩, -, -, -, -, ⟨_, _, -, i18, f18⟩, ⟨_, _, -, i19, f19⟩, -, -, -, -, ⟨_, _, -, i24, f24⟩, ⟨_, _, -, i25, f25⟩, -⟩ := hF
  replace hL := hL.call hE hM hV
  replace f13 : IntC _ (vs 13) (p.num * q.den) := f13
  replace f13 := f13.le i13.le
  clear i13
  replace f18 : IntC _ (vs 18) (q.num * p.den) := f18
  replace f18 := f18.le i18.le
  clear i18
  replace f19 : IntC _ (vs 19) (p.num * q.den + q.num * p.den) := f19
  replace f19 := f19.le i19.le
  clear i19
  replace f24 : IntC _ (vs 24) (p.den * q.den : Int) := f24
  replace f24 := f24.le i24.le
  clear i24
  replace f25 : FracC _ (vs 25) (Rat.divInt (p.num * q.den + q.num * p.den) (p.den * q.den : Int)) := f25
  replace f25 := f25.le i25.le
  clear i25
  obtain ⟨g25, A25, n25, c25, h25, B25, k25, d25, e25, f25⟩ := f25.lit
  generalize vs 25 = x25 at e25 ⊢
  subst x25
  clear hE hV
  simp only [List.drop_succ_cons, List.drop_zero]
  go_wp2_with (first | ((with_reducible refine kAny ?_); go_skip) | ((first | refine tLo ?_ | (refine tSt ?_; clear hL; intro _ hL; simp only [splice, zq1, zq2, zq3] at hL) | ((first | refine tBx ?_ | refine tAl ?_); clear hL; intro _ _ hL _)); simp only [Act.put, zq1, zq2, zq3]))
  refine fin_agg hL Tryz.results80 rfl rfl loX AgC.h (by exact rfl) ?_
  rw [hq.out]; exact f25

set_option maxRecDepth 100000 in
set_option maxHeartbeats 8000000 in
theorem r_Sub (a b : Value) (p q : Rat) (w m : World) (hV : Vw m w) (ha : FracV m a p) (hb : FracV m b q) (kp : Fit 200 p) (kq : Fit 200 q) :
    Calls Tryz.prog 85 #[a, b] w (RetV w m fun m' r => FracC m' r (p - q)) := by
  have hq := Lib.hid (Rat.sub_eq_add_neg p q)
  have kq' := kq.neg
  obtain ⟨_, _, g1, A1, n1, c1, h1, B1, k1, d1, rfl, -, -, -⟩ := ha.lit
  obtain ⟨_, _, g2, A2, n2, c2, h2, B2, k2, d2, rfl, -, -, -⟩ := hb.lit
  have hL := Loc.start hV
  clear hV
  go_enter Tryz.func85, Tryz.ntmps85
  go_upto_region 1 with ((first | ((with_reducible refine kAny ?_); go_skip) | ((first | refine tLo ?_ | (refine tSt ?_; clear hL; intro _ hL; simp only [splice, zq1, zq2, zq3] at hL) | ((first | refine tBx ?_ | refine tAl ?_); clear hL; intro _ _ hL _)); simp only [Act.put, zq1, zq2, zq3])))
  refine wp_region_by 4 [false, false, false, false] [(fun v _ _ => v = ?c1_0), (fun v _ _ => v = ?c1_1), Of (fun um v => FracC um v (-q)), Of (fun um v => FracC um v (p + -q))] hL.vw mixed [5, 6, 7, 8] _ (by kernel_rfl) (fun vs => by simp only [lay, Act.put, zq1, zq2, zq3]; rfl) (by kernel_rfl) ?s1 ?r1
  case s1 =>
    refine ⟨?_, ?_, ?_, ?_, trivial⟩
    · intro vs W1 m1 hE hM hV hD; clear hD; replace hL := hL.call hE hM hV
      exact sLd
    · intro vs W1 m1 hE hM hV hD; clear hD; replace hL := hL.call hE hM hV
      exact sLd
    · intro vs W1 m1 hE hM hV hD; obtain ⟨⟨_, _, -, -, f6⟩, -⟩ := hD; have f6 : vs 6 = _ := f6; generalize vs 6 = x6 at f6 ⊢; subst x6
      go_wp2_with fail
      refine (r_Negate _ q _ _ hV (hb.le leX)).mono ?_
      rintro e W2 ⟨v, m2, rfl, hE2, hM2, hV2, h⟩
      go_wp2_with fail
      refine One.call hE2 hM2 hV2 ?_; first | exact h | exact rfl
    · intro vs W1 m1 hE hM hV hD; obtain ⟨⟨_, _, -, -, f5⟩, ⟨_, _, -, i7, f7⟩, -, -⟩ := hD; have f5 : vs 5 = _ := f5; generalize vs 5 = x5 at f5 ⊢; subst x5; have f7 : FracC _ (vs 7) (-q) := f7; replace f7 := f7.le i7.le; clear i7
      go_wp2_with fail
      refine (r_Add _ _ _ _ _ _ hV (ha.le leX) (f7.toV kq' (by omega)) kp kq').mono ?_
      rintro e W2 ⟨v, m2, rfl, hE2, hM2, hV2, h⟩
      go_wp2_with fail
      refine One.call hE2 hM2 hV2 ?_; first | exact h | exact rfl
  intro vs W1 m1 hE hM hV hF hD
  clear hD
  obtain ⟨-, -, ⟨_, _, -, i7, f7⟩, ⟨_, _, -, i8, f8⟩, -⟩ := hF
  replace hL := hL.call hE hM hV
  replace f7 : FracC _ (vs 7) (-q) := f7
  replace f7 := f7.le i7.le
  clear i7
  replace f8 : FracC _ (vs 8) (p + -q) := f8
  replace f8 := f8.le i8.le
  clear i8
  obtain ⟨g8, A8, n8, c8, h8, B8, k8, d8, e8, f8⟩ := f8.lit
  generalize vs 8 = x8 at e8 ⊢
  subst x8
  clear hE hV
  simp only [List.drop_succ_cons, List.drop_zero]
  go_wp2_with (first | ((with_reducible refine kAny ?_); go_skip) | ((first | refine tLo ?_ | (refine tSt ?_; clear hL; intro _ hL; simp only [splice, zq1, zq2, zq3] at hL) | ((first | refine tBx ?_ | refine tAl ?_); clear hL; intro _ _ hL _)); simp only [Act.put, zq1, zq2, zq3]))
  refine fin_agg hL Tryz.results85 rfl rfl loX AgC.h (by exact rfl) ?_
  rw [hq.out]; exact f8

set_option maxRecDepth 100000 in
set_option maxHeartbeats 8000000 in
theorem r_Sign (a : Value) (p : Rat) (w m : World) (hV : Vw m w) (ha : FracV m a p) (kp : Fit 1000 p) :
    Calls Tryz.prog 45 #[a] w (RetV w m fun _ r => r = .int .i64 (rs p)) := by
  obtain ⟨_, _, g1, A1, n1, c1, h1, B1, k1, d1, rfl, -, -, -⟩ := ha.lit
  have hL := Loc.start hV
  clear hV
  go_enter Tryz.func45, Tryz.ntmps45
  go_wp2_with (first | ((with_reducible refine kAny ?_); go_skip) | ((first | refine tLo ?_ | (refine tBx ?_; clear hL; intro _ _ hL _) | refine tFl ?_); simp only [Act.put, zq1, zq2, zq3]))
  refine (r_Canon _ p _ _ hL.vw (ha.le leX)).mono ?_
  rintro e W1 ⟨v1, m1, rfl, hE, hM1, hV, h1⟩
  replace hL := hL.call hE (by assumption) hV; clear hE hV
  obtain ⟨g1', A1', n1', c1', h1', B1', k1', d1', rfl, h1⟩ := h1.lit
  obtain ⟨a1, a2⟩ := h1.open_
  go_wp2_with (first | ((with_reducible refine kAny ?_); go_skip) | ((first | refine tLo ?_ | (refine tBx ?_; clear hL; intro _ _ hL _) | refine tFl ?_); simp only [Act.put, zq1, zq2, zq3]))
  refine (c_Sign _ _ _ _ hL.vw ((a1.toV (kp.num (by omega))).le leX)).mono ?_
  rintro e W2 ⟨_, m2, rfl, hE, hM2, hV, rfl⟩
  replace hL := hL.call hE (by assumption) hV; clear hE hV
  go_wp2_with (first | ((with_reducible refine kAny ?_); go_skip) | ((first | refine tLo ?_ | (refine tBx ?_; clear hL; intro _ _ hL _) | refine tFl ?_); simp only [Act.put, zq1, zq2, zq3]))
  go_ret
  exact RetV.mk hL rfl

set_option maxRecDepth 100000 in
set_option maxHeartbeats 8000000 in
theorem r_Compare (a b : Value) (p q : Rat) (w m : World) (hV : Vw m w) (ha : FracV m a p) (hb : FracV m b q) (kp : Fit 200 p) (kq : Fit 200 q) (k : Fit 1000 (p - q)) :
    Calls Tryz.prog 24 #[a, b] w (RetV w m fun _ r => r = .int .i64 (rs (p - q))) := by
  obtain ⟨_, _, g1, A1, n1, c1, h1, B1, k1, d1, rfl, -, -, -⟩ := ha.lit
  obtain ⟨_, _, g2, A2, n2, c2, h2, B2, k2, d2, rfl, -, -, -⟩ := hb.lit
  have hL := Loc.start hV
  clear hV
  go_enter Tryz.func24, Tryz.ntmps24
  go_wp2_with (first | ((with_reducible refine kAny ?_); go_skip) | ((first | refine tLo ?_ | (refine tBx ?_; clear hL; intro _ _ hL _)); simp only [Act.put, zq1, zq2, zq3]))
  refine (r_Sub _ _ p q _ _ hL.vw (ha.le leX) (hb.le leX) kp kq).mono ?_
  rintro e W1 ⟨v1, m1, rfl, hE, hM1, hV, h1⟩
  replace hL := hL.call hE (by assumption) hV; clear hE hV
  obtain ⟨g1', A1', n1', c1', h1', B1', k1', d1', rfl, h1⟩ := h1.lit
  go_wp2_with (first | ((with_reducible refine kAny ?_); go_skip) | ((first | refine tLo ?_ | (refine tBx ?_; clear hL; intro _ _ hL _)); simp only [Act.put, zq1, zq2, zq3]))
  refine (r_Sign _ _ _ _ hL.vw ((h1.toV k (by omega)).le leX) k).mono ?_
  rintro e W2 ⟨_, m2, rfl, hE, hM2, hV, rfl⟩
  replace hL := hL.call hE (by assumption) hV; clear hE hV
  go_wp2_with (first | ((with_reducible refine kAny ?_); go_skip) | ((first | refine tLo ?_ | (refine tBx ?_; clear hL; intro _ _ hL _)); simp only [Act.put, zq1, zq2, zq3]))
  go_ret
  exact RetV.mk hL rfl
end Go.Proofs.YtmhkmmmompediaaGreat

/- Contracts of package pairingref25: Min, Same, Floor, Ceil; pairingref1.ToInt64. -/
namespace Go.Proofs.YtmhkmmmompediaaGreat
open Go.RowKit

set_option maxRecDepth 100000 in
set_option maxHeartbeats 8000000 in
theorem r_Floor (a : Value) (q : Rat) (w m : World) (hV : Vw m w) (ha : FracV m a q) (k : Fit 1000 q) :
    Calls Tryz.prog 120 #[a] w (RetV w m fun m' r => IntC m' r (flr q)) := by
  obtain ⟨_, _, g1, A1, n1, c1, h1, B1, k1, d1, rfl, -, -, -⟩ := ha.lit
  obtain ⟨l1, l2⟩ := FracC.refl_len k
  have hp : 0 < (q.den : Int) := by have := q.den_pos; omega
  have lm : (digs (q.num % (q.den : Int)).natAbs).length ≤ 1000 := by
    refine Nat.le_trans (length_digs_mono ?_) l2
    have h0 := Int.emod_nonneg q.num (b := q.den) (by omega)
    have h1 := Int.emod_lt_of_pos q.num hp
    omega
  have lf : (digs (flr q).natAbs).length ≤ 1000 := Nat.le_trans (length_digs_mono (Int.natAbs_ediv_le_natAbs _ _)) l1
  have hs : ¬ icmp (q.num % (q.den : Int)) 0 < 0 := by
    have h0 := Int.emod_nonneg q.num (b := q.den) (by omega)
    unfold icmp; rw [if_neg (by omega)]; split <;> omega
  have hL := Loc.start hV
  clear hV
  go_enter Tryz.func120, Tryz.ntmps120
  go_wp2_with (first | ((with_reducible refine kAny ?_); go_skip) | ((first | refine tLo ?_ | (refine tSt ?_; clear hL; intro _ hL; simp only [splice, zq1, zq2, zq3] at hL) | ((first | refine tBx ?_ | refine tAl ?_); clear hL; intro _ _ hL _)); simp only [Act.put, zq1, zq2, zq3]))
  refine (r_Canon _ q _ _ hL.vw (ha.le leX)).mono ?_
  rintro e W1 ⟨v1, m1, rfl, hE, hM1, hV, h1⟩
  replace hL := hL.call hE (by assumption) hV; clear hE hV
  obtain ⟨g1', A1', n1', c1', h1', B1', k1', d1', rfl, h1⟩ := h1.lit
  obtain ⟨a1, a2⟩ := h1.open_
  go_wp2_with (first | ((with_reducible refine kAny ?_); go_skip) | ((first | refine tLo ?_ | (refine tSt ?_; clear hL; intro _ hL; simp only [splice, zq1, zq2, zq3] at hL) | ((first | refine tBx ?_ | refine tAl ?_); clear hL; intro _ _ hL _)); simp only [Act.put, zq1, zq2, zq3]))
  refine (c_DivMod _ _ q.num q.den _ _ hL.vw ((a1.toV l1).le leX) ((a2.toV l2).le leX) hp).mono ?_
  rintro e W6 ⟨_, m6, rfl, hE, hM6, hV, q6, r6, rfl, h6, k6⟩
  replace hL := hL.call hE (by assumption) hV; clear hE hV
  obtain ⟨g6, A6, n6, c6, rfl, h6⟩ := h6.lit
  obtain ⟨g7, A7, n7, c7, rfl, k6⟩ := k6.lit
  go_wp2_with (first | ((with_reducible refine kAny ?_); go_skip) | ((first | refine tLo ?_ | (refine tSt ?_; clear hL; intro _ hL; simp only [splice, zq1, zq2, zq3] at hL) | ((first | refine tBx ?_ | refine tAl ?_); clear hL; intro _ _ hL _)); simp only [Act.put, zq1, zq2, zq3]))
  refine (c_Sign _ _ _ _ hL.vw ((k6.toV lm).le leX)).mono ?_
  rintro e W3 ⟨_, m3, rfl, hE, hM3, hV, rfl⟩
  replace hL := hL.call hE (by assumption) hV; clear hE hV
  generalize icmp (q.num % (q.den : Int)) 0 = s at *
  go_wp2_with (first | ((with_reducible refine kAny ?_); go_skip) | ((first | refine tLo ?_ | (refine tSt ?_; clear hL; intro _ hL; simp only [splice, zq1, zq2, zq3] at hL) | ((first | refine tBx ?_ | refine tAl ?_); clear hL; intro _ _ hL _)); simp only [Act.put, zq1, zq2, zq3]))
  refine (c_Canon _ (flr q) _ _ hL.vw ((h6.toV lf).le leX)).mono ?_
  rintro e W4 ⟨v4, m4, rfl, hE, hM4, hV, h4⟩
  replace hL := hL.call hE (by assumption) hV; clear hE hV
  obtain ⟨g4', A4', n4', c4', rfl, h4⟩ := h4.lit
  go_wp2_with (first | ((with_reducible refine kAny ?_); go_skip) | ((first | refine tLo ?_ | (refine tSt ?_; clear hL; intro _ hL; simp only [splice, zq1, zq2, zq3] at hL) | ((first | refine tBx ?_ | refine tAl ?_); clear hL; intro _ _ hL _)); simp only [Act.put, zq1, zq2, zq3]))
  refine fin_agg hL Tryz.results120 rfl rfl loX AgC.h (by exact rfl) ?_
  exact h4

end Go.Proofs.YtmhkmmmompediaaGreat

/- Contracts of the reference's arithmetic for canonical fractions. -/
namespace Go.Proofs.YtmhkmmmompediaaGreat
open Go.RowKit

theorem r_AddC (a b : Value) (p q : Rat) (w m : World) (hV : Vw m w) (ha : FracC m a p) (hb : FracC m b q) (kp : Fit 200 p) (kq : Fit 200 q) :
    Calls Tryz.prog 80 #[a, b] w (RetV w m fun m' r => FracC m' r (p + q)) := r_Add a b p q w m hV (ha.toV kp (by decide)) (hb.toV kq (by decide)) kp kq
theorem r_SubC (a b : Value) (p q : Rat) (w m : World) (hV : Vw m w) (ha : FracC m a p) (hb : FracC m b q) (kp : Fit 200 p) (kq : Fit 200 q) :
    Calls Tryz.prog 85 #[a, b] w (RetV w m fun m' r => FracC m' r (p - q)) := r_Sub a b p q w m hV (ha.toV kp (by decide)) (hb.toV kq (by decide)) kp kq
end Go.Proofs.YtmhkmmmompediaaGreat

/- Contracts on lists of numbers: pairingref27.Has, count, within, ascending; slices.Index, Contains, BinarySearch; cmp.Less. -/
namespace Go.Proofs.YtmhkmmmompediaaGreat
open Go.RowKit

theorem has_step {xs : List Int} {t x : Int} {k : Nat} (h : ∀ j, j < k → xs[j]? ≠ some t) (hx : xs[k]? = some x) (he : ¬ x = t) : ∀ j, j < k + 1 → xs[j]? ≠ some t := by
  intro j hj
  rcases Nat.lt_or_ge j k with h1 | h1
  · exact h j h1
  · obtain rfl : j = k := by omega
    rw [hx]
    exact fun e => he (Option.some.inj e)
theorem has_end {xs : List Int} {t : Int} {k n : Nat} (hn : xs.length = n) (hk : ¬ k < n) (h : ∀ j, j < k → xs[j]? ≠ some t) : decide (t ∈ xs) = false := by
  refine decide_eq_false fun hm => ?_
  obtain ⟨j, hj⟩ := List.mem_iff_getElem?.1 hm
  have := (List.getElem?_eq_some_iff.1 hj).1
  exact h j (by omega) hj

set_option maxRecDepth 100000 in
set_option maxHeartbeats 8000000 in
theorem r_Has (a : Value) (xs : List Int) (t : Int) (w m : World) (hV : Vw m w) (ha : IntL m a xs) (hl : xs.length ≤ 1000000) :
    Calls Tryz.prog 44 #[a, .int .i64 t] w (RetV w m fun _ r => r = .bool (decide (t ∈ xs))) := by
  obtain ⟨A, c, rfl, hc, ha⟩ := ha.lit
  have hL := Loc.start hV
  clear hV
  generalize hn : xs.length = n at *
  have HN := Lib.hid hn
  clear hn
  go_enter Tryz.func44, Tryz.ntmps44
  go_wp2_with (first | ((with_reducible refine kAny ?_); go_skip) | (with_reducible refine stA ?_) | ((first | refine tIx ?_ | refine tLd ?_); simp only [Act.put, zq1, zq2, zq3]))
  go_loopw [5] (fun i wr => ∃ (k : Nat) (mm : World), k ≤ n ∧ i = .int .i64 k ∧ Loc w m wr mm [] ∧ Hid (∀ j, j < k → xs[j]? ≠ some t)) (fun i _ => n - (intOf i).toNat)
  case atStart => exact ⟨0, m, Nat.zero_le _, rfl, hL, fun j hj => by omega⟩
  case round =>
    clear hL
    obtain ⟨k, mm, hk, rfl, hL, HJ⟩ := hrel
    have hM := hL.mext
    by_cases hlt : k < n
    · obtain ⟨x, hx⟩ := at_some HN hlt
      obtain ⟨b1, o1, rfl, hc1⟩ := IntL.at_ ha hx
      by_cases he : x = t
      · have E : Hid (decide (t ∈ xs) = true) := decide_eq_true (he ▸ List.mem_of_getElem? hx)
        have bb : (x == t) = true := by simp [he]
        clear hx he
        go_wp2_with (first | ((with_reducible refine kAny ?_); go_skip) | (with_reducible refine stA ?_) | ((first | refine tIx ?_ | refine tLd ?_); simp only [Act.put, zq1, zq2, zq3]))
        go_ret
        exact RetV.mk hL (congrArg Value.bool E.out.symm)
      · have bb : (x == t) = false := by simp [he]
        have HS := Lib.hid (has_step HJ.out hx he)
        clear hx he
        go_wp2_with (first | ((with_reducible refine kAny ?_); go_skip) | (with_reducible refine stA ?_) | ((first | refine tIx ?_ | refine tLd ?_); simp only [Act.put, zq1, zq2, zq3]))
        go_roundw
        case rel => exact ⟨k + 1, _, by omega, by go_num, hL, HS.out⟩
        case measure => simp [intOf] <;> omega
    · have E := Lib.hid (has_end HN.out hlt HJ.out)
      go_wp2_with (first | ((with_reducible refine kAny ?_); go_skip) | (with_reducible refine stA ?_) | ((first | refine tIx ?_ | refine tLd ?_); simp only [Act.put, zq1, zq2, zq3]))
      go_ret
      exact RetV.mk hL (congrArg Value.bool E.out.symm)

theorem within_step {xs ys : List Int} {x : Int} {k : Nat} (h : ∀ j y, j < k → xs[j]? = some y → y ∈ ys) (hx : xs[k]? = some x) (he : x ∈ ys) : ∀ j y, j < k + 1 → xs[j]? = some y → y ∈ ys := by
  intro j y hj hy
  rcases Nat.lt_or_ge j k with h1 | h1
  · exact h j y h1 hy
  · obtain rfl : j = k := by omega
    rw [hx] at hy
    exact Option.some.inj hy ▸ he
theorem within_end {xs ys : List Int} {k n : Nat} (hn : xs.length = n) (hk : ¬ k < n) (h : ∀ j y, j < k → xs[j]? = some y → y ∈ ys) : decide (∀ x ∈ xs, x ∈ ys) = true := by
  refine decide_eq_true fun x hm => ?_
  obtain ⟨j, hj⟩ := List.mem_iff_getElem?.1 hm
  have := (List.getElem?_eq_some_iff.1 hj).1
  exact h j x (by omega) hj

set_option maxRecDepth 100000 in
set_option maxHeartbeats 8000000 in
theorem r_within (a b : Value) (xs ys : List Int) (w m : World) (hV : Vw m w) (ha : IntL m a xs) (hb : IntL m b ys) (hl : xs.length ≤ 1000000) (hl' : ys.length ≤ 1000000) :
    Calls Tryz.prog 78 #[a, b] w (RetV w m fun _ r => r = .bool (decide (∀ x ∈ xs, x ∈ ys))) := by
  obtain ⟨A, c, rfl, hc, ha⟩ := ha.lit
  obtain ⟨B, d, rfl, hd, hb⟩ := hb.lit
  have HB := Lib.hid hb
  have HL' := Lib.hid hl'
  have hL := Loc.start hV
  clear hV hb
  generalize hn2 : ys.length = n2 at *
  have HN2 := Lib.hid hn2
  clear hn2
  generalize hn : xs.length = n at *
  have HN := Lib.hid hn
  clear hn
  go_enter Tryz.func78, Tryz.ntmps78
  go_wp2_with (first | ((with_reducible refine kAny ?_); go_skip) | (with_reducible refine stA ?_) | ((first | refine tIx ?_ | refine tLd ?_); simp only [Act.put, zq1, zq2, zq3]))
  go_loopw [5] (fun i wr => ∃ (k : Nat) (mm : World), k ≤ n ∧ i = .int .i64 k ∧ Loc w m wr mm [] ∧ Hid (∀ j y, j < k → xs[j]? = some y → y ∈ ys)) (fun i _ => n - (intOf i).toNat)
  case atStart => exact ⟨0, m, Nat.zero_le _, rfl, hL, fun j _ hj => by omega⟩
  case round =>
    clear hL
    obtain ⟨k, mm, hk, rfl, hL, HJ⟩ := hrel
    have hM := hL.mext
    by_cases hlt : k < n
    · obtain ⟨x, hx⟩ := at_some HN hlt
      obtain ⟨b1, o1, rfl, hc1⟩ := IntL.at_ ha hx
      have HX := Lib.hid hx
      clear hx
      go_wp2_with (first | ((with_reducible refine kAny ?_); go_skip) | (with_reducible refine stA ?_) | ((first | refine tIx ?_ | refine tLd ?_); simp only [Act.put, zq1, zq2, zq3]))
      refine (r_Has _ ys x _ _ hL.vw (IntL.le HB.out leX) (by rw [HN2.out]; exact HL'.out)).mono ?_
      rintro e Wh1 ⟨_, mh1, rfl, hE, hMh1, hV, rfl⟩
      replace hL := hL.call hE (by assumption) hV; clear hE hV
      by_cases he : x ∈ ys
      · have HS := Lib.hid (within_step HJ.out HX.out he)
        rw [decide_eq_true he]
        clear he
        go_wp2_with (first | ((with_reducible refine kAny ?_); go_skip) | (with_reducible refine stA ?_) | ((first | refine tIx ?_ | refine tLd ?_); simp only [Act.put, zq1, zq2, zq3]))
        go_roundw
        case rel => exact ⟨k + 1, _, by omega, by go_num, hL, HS.out⟩
        case measure => simp [intOf] <;> omega
      · have E : Hid (decide (∀ x ∈ xs, x ∈ ys) = false) := decide_eq_false fun h => he (h x (List.mem_of_getElem? HX.out))
        rw [decide_eq_false he]
        clear he
        go_wp2_with (first | ((with_reducible refine kAny ?_); go_skip) | (with_reducible refine stA ?_) | ((first | refine tIx ?_ | refine tLd ?_); simp only [Act.put, zq1, zq2, zq3]))
        go_ret
        exact RetV.mk hL (congrArg Value.bool E.out.symm)
    · have E := Lib.hid (within_end HN.out hlt HJ.out)
      go_wp2_with (first | ((with_reducible refine kAny ?_); go_skip) | (with_reducible refine stA ?_) | ((first | refine tIx ?_ | refine tLd ?_); simp only [Act.put, zq1, zq2, zq3]))
      go_ret
      exact RetV.mk hL (congrArg Value.bool E.out.symm)

set_option maxRecDepth 100000 in
set_option maxHeartbeats 8000000 in
theorem r_ascT (a : Value) (xs : List Int) (w m : World) (hV : Vw m w) (ha : IntL m a xs) (hl : xs.length ≤ 1000000) (hasc : AscP xs) :
    Calls Tryz.prog 140 #[a] w (RetV w m fun _ r => r = .bool true) := by
  obtain ⟨A, c, rfl, hc, ha⟩ := ha.lit
  have HA := Lib.hid hasc
  have hL := Loc.start hV
  clear hV hasc
  generalize hn : xs.length = n at *
  have HN := Lib.hid hn
  clear hn
  go_enter Tryz.func140, Tryz.ntmps140
  go_wp2_with (first | ((with_reducible refine kAny ?_); go_skip) | (with_reducible refine stA ?_) | ((first | refine tIx ?_ | refine tLd ?_); simp only [Act.put, zq1, zq2, zq3]))
  go_loopw [3] (fun i wr => ∃ (k : Nat) (mm : World), k ≤ n ∧ i = .int .i64 ((k : Int) + 1) ∧ Loc w m wr mm []) (fun i _ => n + 1 - (intOf i).toNat)
  case atStart => exact ⟨0, m, Nat.zero_le _, rfl, hL⟩
  case round =>
    clear hL
    obtain ⟨k, mm, hk, rfl, hL⟩ := hrel
    have hM := hL.mext
    by_cases hlt : k + 1 < n
    · obtain ⟨x, hx⟩ := at_some HN (show k < n by omega)
      obtain ⟨y, hy⟩ := at_some HN hlt
      obtain ⟨b1, o1, rfl, hc1⟩ := IntL.at_ ha hx
      obtain ⟨b2, o2, e2, hc2⟩ := IntL.at_ ha hy
      obtain ⟨rfl, rfl⟩ : b1 = b2 ∧ o1 = o2 := by simpa using e2
      have hxy : x < y := HA.out k x y hx hy
      have hkn : k < n := by omega
      have e3 : ((k : Int) + 1) = ((k + 1 : Nat) : Int) := by omega
      rw [e3]
      clear hx hy e2 e3 hk
      obtain ⟨k1, hk1⟩ : ∃ k1, k1 = k + 1 := ⟨_, rfl⟩
      rw [← hk1] at hc2 hlt ⊢
      have e1 : (k1 : Int) - 1 = (k : Int) := by omega
      have e4 : wrap64 ((k1 : Int) - 1) = (k : Int) := by unfold wrap64; omega
      have HK := Lib.hid hk1
      have HXY := Lib.hid hxy
      clear hk1 hxy
      go_upto_region 4 with ((first | ((with_reducible refine kAny ?_); go_skip) | (with_reducible refine stA ?_) | ((first | refine tIx ?_ | refine tLd ?_); simp only [Act.put, zq1, zq2, zq3])))
      (try simp only [eq_self] at *)
      refine wp_region_by2 10 [false, false, false, false, false, false, false, false, false, false] [false, false, false, false, false, false, false, false, false, false] [(fun v _ _ => v = ?c4_0), (fun v _ _ => v = ?c4_1), (fun v _ _ => v = ?c4_2), (fun v _ _ => v = ?c4_3), (fun v _ _ => v = ?c4_4), (fun v _ _ => v = ?c4_5), (fun v _ _ => v = ?c4_6), (fun v _ _ => v = ?c4_7), (fun v _ _ => v = ?c4_8), (fun v _ _ => v = ?c4_9)] hL.vw mixed [10, 11, 12, 13, 14, 15, 16, 17, 18, 19] _ (by kernel_rfl) (fun vs => by simp only [lay, Act.put, zq1, zq2, zq3]; rfl) (by kernel_rfl) (by decide) (by decide) ?s4 ?l4 ?r4
      case s4 =>
        refine ⟨?_, ?_, ?_, ?_, ?_, ?_, ?_, ?_, ?_, ?_, trivial⟩
        · intro vs W1 m1 hE hM hV hD; clear hD; replace hL := hL.call hE hM hV
          exact sPu
        · intro vs W1 m1 hE hM hV hD; clear hD; replace hL := hL.call hE hM hV
          exact sPu
        · intro vs W1 m1 hE hM hV hD; obtain ⟨⟨_, _, -, -, f10⟩, ⟨_, _, -, -, f11⟩, -⟩ := hD; have f10 : vs 10 = _ := f10; generalize vs 10 = x10 at f10 ⊢; subst x10; have f11 : vs 11 = _ := f11; generalize vs 11 = x11 at f11 ⊢; subst x11; replace hL := hL.call hE hM hV
          exact sIx
        · intro vs W1 m1 hE hM hV hD; obtain ⟨⟨_, _, -, -, f12⟩, -⟩ := hD; have f12 : vs 12 = _ := f12; generalize vs 12 = x12 at f12 ⊢; subst x12; replace hL := hL.call hE hM hV
          exact sLd
        · intro vs W1 m1 hE hM hV hD; clear hD; replace hL := hL.call hE hM hV
          exact sPu
        · intro vs W1 m1 hE hM hV hD; clear hD; replace hL := hL.call hE hM hV
          exact sPu
        · intro vs W1 m1 hE hM hV hD; obtain ⟨⟨_, _, -, -, f15⟩, -⟩ := hD; have f15 : vs 15 = _ := f15; generalize vs 15 = x15 at f15 ⊢; subst x15; replace hL := hL.call hE hM hV
          exact sPu
        · intro vs W1 m1 hE hM hV hD; obtain ⟨⟨_, _, -, -, f14⟩, ⟨_, _, -, -, f16⟩, -⟩ := hD; have f14 : vs 14 = _ := f14; generalize vs 14 = x14 at f14 ⊢; subst x14; have f16 : vs 16 = _ := f16; generalize vs 16 = x16 at f16 ⊢; subst x16; replace hL := hL.call hE hM hV
          exact sIx
        · intro vs W1 m1 hE hM hV hD; obtain ⟨⟨_, _, -, -, f17⟩, -⟩ := hD; have f17 : vs 17 = _ := f17; generalize vs 17 = x17 at f17 ⊢; subst x17; replace hL := hL.call hE hM hV
          exact sLd
        · intro vs W1 m1 hE hM hV hD; obtain ⟨⟨_, _, -, -, f13⟩, ⟨_, _, -, -, f18⟩, -⟩ := hD; have f13 : vs 13 = _ := f13; generalize vs 13 = x13 at f13 ⊢; subst x13; have f18 : vs 18 = _ := f18; generalize vs 18 = x18 at f18 ⊢; subst x18; replace hL := hL.call hE hM hV
          exact sPu
      case l4 =>
        refine ⟨fun h => (by cases h), fun h => (by cases h), fun h => (by cases h), fun h => (by cases h), fun h => (by cases h), fun h => (by cases h), fun h => (by cases h), fun h => (by cases h), fun h => (by cases h), fun h => (by cases h), trivial⟩
      intro vs W1 m1 hE hM hV hF hD
      clear hD
      obtain ⟨⟨_, _, -, -, f10⟩, ⟨_, _, -, -, f11⟩, ⟨_, _, -, -, f12⟩, ⟨_, _, -, -, f13⟩, ⟨_, _, -, -, f14⟩, ⟨_, _, -, -, f15⟩, ⟨_, _, -, -, f16⟩, ⟨_, _, -, -, f17⟩, ⟨_, _, -, -, f18⟩, ⟨_, _, -, -, f19⟩, -⟩ := hF
      replace hL := hL.call hE hM hV
      have f10 : vs 10 = _ := f10
      generalize vs 10 = x10 at f10 ⊢
      subst x10
      have f11 : vs 11 = _ := f11
      generalize vs 11 = x11 at f11 ⊢
      subst x11
      have f12 : vs 12 = _ := f12
      generalize vs 12 = x12 at f12 ⊢
      subst x12
      have f13 : vs 13 = _ := f13
      generalize vs 13 = x13 at f13 ⊢
      subst x13
      have f14 : vs 14 = _ := f14
      generalize vs 14 = x14 at f14 ⊢
      subst x14
      have f15 : vs 15 = _ := f15
      generalize vs 15 = x15 at f15 ⊢
      subst x15
      have f16 : vs 16 = _ := f16
      generalize vs 16 = x16 at f16 ⊢
      subst x16
      have f17 : vs 17 = _ := f17
      generalize vs 17 = x17 at f17 ⊢
      subst x17
      have f18 : vs 18 = _ := f18
      generalize vs 18 = x18 at f18 ⊢
      subst x18
      have f19 : vs 19 = _ := f19
      generalize vs 19 = x19 at f19 ⊢
      subst x19
      clear hE hV
      simp only [List.drop_succ_cons, List.drop_zero]
      go_wp2_with (first | ((with_reducible refine kAny ?_); go_skip) | (with_reducible refine stA ?_) | ((first | refine tIx ?_ | refine tLd ?_); simp only [Act.put, zq1, zq2, zq3]))
      refine QN.mk ?_
      have hxy : ¬ y ≤ x := by have := HXY.out; omega
      go_wp2_with (first | ((with_reducible refine kAny ?_); go_skip) | (with_reducible refine stA ?_) | ((first | refine tIx ?_ | refine tLd ?_); simp only [Act.put, zq1, zq2, zq3]))
      go_roundw
      case rel => exact ⟨k1, _, by omega, by go_num, hL⟩
      case measure => have := HK.out; simp [intOf] <;> omega
    · have h0 : ¬ (k : Int) + 1 < (n : Int) := by omega
      go_wp2_with (first | ((with_reducible refine kAny ?_); go_skip) | (with_reducible refine stA ?_) | ((first | refine tIx ?_ | refine tLd ?_); simp only [Act.put, zq1, zq2, zq3]))
      go_ret
      exact RetV.mk hL rfl
end Go.Proofs.YtmhkmmmompediaaGreat

/- Contracts of master.validCut and pairingref27.ValidCut for valid cuts. -/
namespace Go.Proofs.YtmhkmmmompediaaGreat
open Go.RowKit

set_option maxRecDepth 100000 in
set_option maxHeartbeats 16000000 in
theorem r_ValidCut (rv v : Value) (rs : List Int) (x : Cut) (w m : World) (hV : Vw m w) (hr : IntL m rv rs) (hv : CutR m v x) (hrl : rs.length ≤ 1000000) (ok : CutOk rs x) :
    Calls Tryz.prog 96 #[rv, v] w (RetV w m fun _ r => r = .bool true) := by
  obtain ⟨xs, dv⟩ := x
  obtain ⟨sv, rfl, hs, -⟩ := hv
  simp only at hs
  obtain ⟨B, d, rfl, hd, hr⟩ := hr.lit
  obtain ⟨A, c, rfl, hc, ha⟩ := hs.lit
  obtain ⟨o1, o2, o3, o4, o5⟩ := ok
  simp only at o1 o2 o3 o4 o5
  have HR := Lib.hid hr
  have HRL := Lib.hid hrl
  have HA := Lib.hid o1
  have HX := Lib.hid ha
  have H5 := Lib.hid o5
  have HS : Hid (decide (∀ r ∈ xs, r ∈ rs) = true) := decide_eq_true o2
  have hL := Loc.start hV
  clear hV hr o1 o2 hrl ha
  generalize hn2 : rs.length = n2 at *
  have HN2 := Lib.hid hn2
  clear hn2
  generalize hn : xs.length = n at *
  have HN := Lib.hid hn
  clear hn
  have d1 : dv ≥ 2 := by omega
  have d2 : dv ≤ (n : Int) := o4
  go_enter Tryz.func96, Tryz.ntmps96
  go_upto_region 0 with (fail)
  refine wp_region_lit ?_
  refine t_box hL rfl rfl ?_; clear hL; intro Wh3 mh3 hL eh3; simp only [Act.put, zq1, zq2, zq3]
  go_wp2_with (first | ((with_reducible refine kAny ?_); go_skip) | (with_reducible refine stA ?_) | ((first | refine tFd ?_ | refine tLd ?_ | (refine tBx ?_; clear hL; intro _ _ hL _)); simp only [Act.put, zq1, zq2, zq3]))
  refine (r_ascT _ xs _ _ hL.vw (IntL.le HX.out leX) (by rw [HN.out]; exact H5.out) HA.out).mono ?_
  rintro e Wc1 ⟨_, mc1, rfl, hE, hMc1, hV, rfl⟩
  replace hL := hL.call hE (by assumption) hV; clear hE hV
  go_wp2_with (first | ((with_reducible refine kAny ?_); go_skip) | (with_reducible refine stA ?_) | ((first | refine tFd ?_ | refine tLd ?_ | (refine tBx ?_; clear hL; intro _ _ hL _)); simp only [Act.put, zq1, zq2, zq3]))
  refine (r_within _ _ xs rs _ _ hL.vw (IntL.le HX.out leX) (IntL.le HR.out leX) (by rw [HN.out]; exact H5.out) (by rw [HN2.out]; exact HRL.out)).mono ?_
  rintro e Wc2 ⟨_, mc2, rfl, hE, hMc2, hV, rfl⟩
  replace hL := hL.call hE (by assumption) hV; clear hE hV
  rw [HS.out]
  go_wp2_with (first | ((with_reducible refine kAny ?_); go_skip) | (with_reducible refine stA ?_) | ((first | refine tFd ?_ | refine tLd ?_ | (refine tBx ?_; clear hL; intro _ _ hL _)); simp only [Act.put, zq1, zq2, zq3]))
  go_ret
  exact RetV.mk hL rfl
end Go.Proofs.YtmhkmmmompediaaGreat

/- Contract of pairingref27.ValidateMaster for valid master problems. -/
namespace Go.Proofs.YtmhkmmmompediaaGreat
open Go.RowKit

theorem count_one {xs : List Int} (h : xs.Nodup) {j : Nat} {x : Int} (hx : xs[j]? = some x) : xs.count x = 1 := by
  have h1 := List.nodup_iff_count.1 h x
  have h2 : 0 < xs.count x := List.count_pos_iff.2 (List.mem_of_getElem? hx)
  omega
set_option maxRecDepth 100000 in
set_option maxHeartbeats 32000000 in
theorem r_ValidateMaster (v : Value) (x : Ms) (w m : World) (hV : Vw m w) (hv : MasterR m v x) (ok : MsOk x) :
    Calls Tryz.prog 76 #[v] w (RetV w m fun _ r => r = .int .i64 0) := by
  obtain ⟨nf, rs, pen, cols, cuts⟩ := x
  obtain ⟨va, vb, vc, rfl, ha, hb, hc⟩ := hv
  simp only at ha hb hc
  obtain ⟨A, ca, rfl, hca, ha⟩ := ha.lit
  obtain ⟨B, cb, rfl, hcb, hb⟩ := hb.lit
  obtain ⟨C, cc, rfl, hcc, hc⟩ := hc.lit
  obtain ⟨f0, f1, p0, p1, r0, r1, o1, o2, k1, o3, k2, o4⟩ := ok
  simp only at f0 f1 p0 p1 r0 r1 o1 o2 k1 o3 k2 o4
  have HR := Lib.hid ha
  have HA := Lib.hid o1
  have HO := Lib.hid o2
  have HC := Lib.hid o3
  have HK := Lib.hid o4
  have HCO := Lib.hid hb
  have HCU := Lib.hid hc
  have HRL : Hid (rs.length ≤ 1000000) := by show _ ≤ _; omega
  have hL := Loc.start hV
  clear hV o1 o2 o3 o4 hb hc
  generalize hn : rs.length = n at *
  have HN := Lib.hid hn
  clear hn
  generalize hn1 : cols.length = nc at *
  have HN1 := Lib.hid hn1
  clear hn1
  generalize hn2 : cuts.length = nk at *
  have HN2 := Lib.hid hn2
  clear hn2
  obtain ⟨n', hn'⟩ : ∃ n', n = n' + 1 := ⟨n - 1, by omega⟩
  obtain ⟨y0, hy0⟩ := at_some HN (show 0 < n by omega)
  obtain ⟨y1, hy1⟩ := at_some HN (show n' < n by omega)
  obtain ⟨b0, of, rfl, hc0⟩ := IntL.at_ ha hy0
  obtain ⟨b0', of', e0, hc1⟩ := IntL.at_ ha hy1
  obtain ⟨rfl, rfl⟩ : b0 = b0' ∧ of = of' := by simpa using e0
  rw [Nat.add_zero] at hc0
  have l0 := (HO.out y0 (List.mem_of_getElem? hy0)).1
  have l1 := (HO.out y1 (List.mem_of_getElem? hy1)).2
  have q1 : ¬ nf > 200 := by omega
  have q2 : ¬ nf < 0 := by omega
  have q3 : ((n : Int) == 0) = false := by simp; omega
  have q4 : ¬ (n : Int) > 32 := by omega
  have q5 : ¬ pen < 0 := by omega
  have q6 : ¬ pen > 4294967296 := by omega
  have q7 : ¬ (nc : Int) > 1000 := by omega
  have q8 : ¬ (nk : Int) > 32 := by omega
  have Q9 : Hid (decide (y0 < 0) = false) := decide_eq_false (by omega)
  have Q10 : Hid (decide (y1 ≥ nf) = false) := decide_eq_false (by omega)
  have q11 : (n : Int) - 1 = (n' : Int) := by omega
  have q12 : 0 < n := by omega
  have q13 : n' < n := by omega
  clear hy0 hy1 e0 l0 l1 ha hn'
  go_enter Tryz.func76, Tryz.ntmps76
  go_upto_region 0 with (fail)
  refine wp_region_lit ?_
  refine t_box hL rfl rfl ?_; clear hL; intro Wh1 mh1 hL eh1; simp only [Act.put, zq1, zq2, zq3]
  go_upto_region 5 with ((first | ((with_reducible refine kAny ?_); go_skip) | (with_reducible refine stA ?_) | ((first | refine tIx ?_ | refine tFd ?_ | refine tLd ?_ | (refine tBx ?_; clear hL; intro _ _ hL _)); simp only [Act.put, zq1, zq2, zq3])))
  clear q1 q2 q4 q5 q6 q7 q8
  have hr := HR.out
  have q9 := Q9.out
  have q10 := Q10.out
  refine wp_region_by2 24 [false, false, false, false, false, false, false, false, false, false, false, false, false, false, false, false, false, false, false, false, false, false, false, false] [false, false, false, false, false, false, false, false, false, false, false, false, false, false, false, false, false, false, false, false, false, false, false, false] [(fun v _ _ => v = ?c5_0), (fun v _ _ => v = ?c5_1), Is (.bool true), (fun v _ _ => v = ?c5_3), (fun v _ _ => v = ?c5_4), (fun v _ _ => v = ?c5_5), (fun v _ _ => v = ?c5_6), (fun v _ _ => v = ?c5_7), (fun v _ _ => v = ?c5_8), (fun v _ _ => v = ?c5_9), (fun v _ _ => v = ?c5_10), (fun v _ _ => v = ?c5_11), (fun v _ _ => v = ?c5_12), (fun v _ _ => v = ?c5_13), (fun v _ _ => v = ?c5_14), (fun v _ _ => v = ?c5_15), (fun v _ _ => v = ?c5_16), (fun v _ _ => v = ?c5_17), (fun v _ _ => v = ?c5_18), (fun v _ _ => v = ?c5_19), (fun v _ _ => v = ?c5_20), (fun v _ _ => v = ?c5_21), (fun v _ _ => v = ?c5_22), (fun v _ _ => v = ?c5_23)] hL.vw mixed [47, 48, 49, 50, 51, 52, 53, 54, 55, 56, 57, 58, 59, 60, 61, 62, 63, 64, 65, 66, 67, 68, 69, 70] _ (by kernel_rfl) (fun vs => by simp only [lay, Act.put, zq1, zq2, zq3]; rfl) (by kernel_rfl) (by decide) (by decide) ?s5 ?l5 ?r5
  case s5 =>
    refine ⟨?_, ?_, ?_, ?_, ?_, ?_, ?_, ?_, ?_, ?_, ?_, ?_, ?_, ?_, ?_, ?_, ?_, ?_, ?_, ?_, ?_, ?_, ?_, ?_, trivial⟩
    · intro vs W1 m1 hE hM hV hD; clear hD; replace hL := hL.call hE hM hV
      exact sFd
    · intro vs W1 m1 hE hM hV hD; obtain ⟨⟨_, _, -, -, f47⟩, -⟩ := hD; have f47 : vs 47 = _ := f47; generalize vs 47 = x47 at f47 ⊢; subst x47; replace hL := hL.call hE hM hV
      exact sLd
    · intro vs W1 m1 hE hM hV hD; obtain ⟨⟨_, _, -, -, f48⟩, -⟩ := hD; have f48 : vs 48 = _ := f48; generalize vs 48 = x48 at f48 ⊢; subst x48
      go_wp2_with fail
      refine (r_ascT _ rs _ _ hV (IntL.le hr leX) (by rw [HN.out]; exact HRL.out) HA.out).mono ?_
      rintro e W2 ⟨v, m2, rfl, hE2, hM2, hV2, h⟩
      go_wp2_with fail
      refine One2.call hE2 hM2 hV2 ?_; first | exact h | exact rfl
    · intro vs W1 m1 hE hM hV hD; obtain ⟨⟨_, _, -, -, f49⟩, -⟩ := hD; have f49 : vs 49 = _ := f49; generalize vs 49 = x49 at f49 ⊢; subst x49; replace hL := hL.call hE hM hV
      exact sPu
    · intro vs W1 m1 hE hM hV hD; obtain ⟨⟨_, _, -, -, f50⟩, -, -⟩ := hD; have f50 : vs 50 = _ := f50; generalize vs 50 = x50 at f50 ⊢; subst x50; replace hL := hL.call hE hM hV
      exact sPu
    · intro vs W1 m1 hE hM hV hD; obtain ⟨⟨_, _, -, -, f51⟩, -⟩ := hD; have f51 : vs 51 = _ := f51; generalize vs 51 = x51 at f51 ⊢; subst x51; replace hL := hL.call hE hM hV
      exact sFd
    · intro vs W1 m1 hE hM hV hD; obtain ⟨⟨_, _, -, -, f52⟩, ⟨_, _, -, -, f51⟩, -⟩ := hD; have f52 : vs 52 = _ := f52; generalize vs 52 = x52 at f52 ⊢; subst x52; have f51 : vs 51 = _ := f51; generalize vs 51 = x51 at f51 ⊢; subst x51; replace hL := hL.call hE hM hV
      exact sLd
    · intro vs W1 m1 hE hM hV hD; obtain ⟨⟨_, _, -, -, f53⟩, ⟨_, _, -, -, f51⟩, -⟩ := hD; have f53 : vs 53 = _ := f53; generalize vs 53 = x53 at f53 ⊢; subst x53; have f51 : vs 51 = _ := f51; generalize vs 51 = x51 at f51 ⊢; subst x51; replace hL := hL.call hE hM hV
      exact sIz
    · intro vs W1 m1 hE hM hV hD; obtain ⟨⟨_, _, -, -, f54⟩, ⟨_, _, -, -, f51⟩, -⟩ := hD; have f54 : vs 54 = _ := f54; generalize vs 54 = x54 at f54 ⊢; subst x54; have f51 : vs 51 = _ := f51; generalize vs 51 = x51 at f51 ⊢; subst x51; replace hL := hL.call hE hM hV
      exact sLd
    · intro vs W1 m1 hE hM hV hD; obtain ⟨⟨_, _, -, -, f55⟩, ⟨_, _, -, -, f51⟩, -⟩ := hD; have f55 : vs 55 = _ := f55; generalize vs 55 = x55 at f55 ⊢; subst x55; have f51 : vs 51 = _ := f51; generalize vs 51 = x51 at f51 ⊢; subst x51; replace hL := hL.call hE hM hV
      exact sPu
    · intro vs W1 m1 hE hM hV hD; obtain ⟨⟨_, _, -, -, f51⟩, ⟨_, _, -, -, f56⟩, -⟩ := hD; have f51 : vs 51 = _ := f51; generalize vs 51 = x51 at f51 ⊢; subst x51; have f56 : vs 56 = _ := f56; generalize vs 56 = x56 at f56 ⊢; subst x56; replace hL := hL.call hE hM hV
      exact sPu
    · intro vs W1 m1 hE hM hV hD; obtain ⟨⟨_, _, -, -, f57⟩, -, -⟩ := hD; have f57 : vs 57 = _ := f57; generalize vs 57 = x57 at f57 ⊢; subst x57; replace hL := hL.call hE hM hV
      exact sPu
    · intro vs W1 m1 hE hM hV hD; obtain ⟨⟨_, _, -, -, f58⟩, -⟩ := hD; have f58 : vs 58 = _ := f58; generalize vs 58 = x58 at f58 ⊢; subst x58; replace hL := hL.call hE hM hV
      exact sFd
    · intro vs W1 m1 hE hM hV hD; obtain ⟨⟨_, _, -, -, f59⟩, ⟨_, _, -, -, f58⟩, -⟩ := hD; have f59 : vs 59 = _ := f59; generalize vs 59 = x59 at f59 ⊢; subst x59; have f58 : vs 58 = _ := f58; generalize vs 58 = x58 at f58 ⊢; subst x58; replace hL := hL.call hE hM hV
      exact sLd
    · intro vs W1 m1 hE hM hV hD; obtain ⟨⟨_, _, -, -, f58⟩, -⟩ := hD; have f58 : vs 58 = _ := f58; generalize vs 58 = x58 at f58 ⊢; subst x58; replace hL := hL.call hE hM hV
      exact sFd
    · intro vs W1 m1 hE hM hV hD; obtain ⟨⟨_, _, -, -, f61⟩, ⟨_, _, -, -, f58⟩, -⟩ := hD; have f61 : vs 61 = _ := f61; generalize vs 61 = x61 at f61 ⊢; subst x61; have f58 : vs 58 = _ := f58; generalize vs 58 = x58 at f58 ⊢; subst x58; replace hL := hL.call hE hM hV
      exact sLd
    · intro vs W1 m1 hE hM hV hD; obtain ⟨⟨_, _, -, -, f62⟩, ⟨_, _, -, -, f58⟩, -⟩ := hD; have f62 : vs 62 = _ := f62; generalize vs 62 = x62 at f62 ⊢; subst x62; have f58 : vs 58 = _ := f58; generalize vs 58 = x58 at f58 ⊢; subst x58; replace hL := hL.call hE hM hV
      go_wp2_with (first | ((with_reducible refine kAny ?_); go_skip) | (with_reducible refine stA ?_) | ((first | refine tIx ?_ | refine tFd ?_ | refine tLd ?_ | (refine tBx ?_; clear hL; intro _ _ hL _)); simp only [Act.put, zq1, zq2, zq3]))
      refine One2.still hV ?_; exact rfl
    · intro vs W1 m1 hE hM hV hD; obtain ⟨⟨_, _, -, -, f63⟩, ⟨_, _, -, -, f58⟩, -⟩ := hD; have f63 : vs 63 = _ := f63; generalize vs 63 = x63 at f63 ⊢; subst x63; have f58 : vs 58 = _ := f58; generalize vs 58 = x58 at f58 ⊢; subst x58; replace hL := hL.call hE hM hV
      exact sPu
    · intro vs W1 m1 hE hM hV hD; obtain ⟨⟨_, _, -, -, f60⟩, ⟨_, _, -, -, f64⟩, ⟨_, _, -, -, f58⟩, -⟩ := hD; have f60 : vs 60 = _ := f60; generalize vs 60 = x60 at f60 ⊢; subst x60; have f64 : vs 64 = _ := f64; generalize vs 64 = x64 at f64 ⊢; subst x64; have f58 : vs 58 = _ := f58; generalize vs 58 = x58 at f58 ⊢; subst x58; replace hL := hL.call hE hM hV
      exact sIx
    · intro vs W1 m1 hE hM hV hD; obtain ⟨⟨_, _, -, -, f65⟩, ⟨_, _, -, -, f58⟩, -⟩ := hD; have f65 : vs 65 = _ := f65; generalize vs 65 = x65 at f65 ⊢; subst x65; have f58 : vs 58 = _ := f58; generalize vs 58 = x58 at f58 ⊢; subst x58; replace hL := hL.call hE hM hV
      exact sLd
    · intro vs W1 m1 hE hM hV hD; obtain ⟨⟨_, _, -, -, f58⟩, -⟩ := hD; have f58 : vs 58 = _ := f58; generalize vs 58 = x58 at f58 ⊢; subst x58; replace hL := hL.call hE hM hV
      exact sFd
    · intro vs W1 m1 hE hM hV hD; obtain ⟨⟨_, _, -, -, f67⟩, ⟨_, _, -, -, f58⟩, -⟩ := hD; have f67 : vs 67 = _ := f67; generalize vs 67 = x67 at f67 ⊢; subst x67; have f58 : vs 58 = _ := f58; generalize vs 58 = x58 at f58 ⊢; subst x58; replace hL := hL.call hE hM hV
      exact sLd
    · intro vs W1 m1 hE hM hV hD; obtain ⟨⟨_, _, -, -, f66⟩, ⟨_, _, -, -, f68⟩, ⟨_, _, -, -, f58⟩, -⟩ := hD; have f66 : vs 66 = _ := f66; generalize vs 66 = x66 at f66 ⊢; subst x66; have f68 : vs 68 = _ := f68; generalize vs 68 = x68 at f68 ⊢; subst x68; have f58 : vs 58 = _ := f58; generalize vs 58 = x58 at f58 ⊢; subst x58; replace hL := hL.call hE hM hV
      exact sPu
    · intro vs W1 m1 hE hM hV hD; obtain ⟨⟨_, _, -, -, f58⟩, ⟨_, _, -, -, f69⟩, -⟩ := hD; have f58 : vs 58 = _ := f58; generalize vs 58 = x58 at f58 ⊢; subst x58; have f69 : vs 69 = _ := f69; generalize vs 69 = x69 at f69 ⊢; subst x69; replace hL := hL.call hE hM hV
      exact sPu
  case l5 =>
    refine ⟨fun h => (by cases h), fun h => (by cases h), fun h => (by cases h), fun h => (by cases h), fun h => (by cases h), fun h => (by cases h), fun h => (by cases h), fun h => (by cases h), fun h => (by cases h), fun h => (by cases h), fun h => (by cases h), fun h => (by cases h), fun h => (by cases h), fun h => (by cases h), fun h => (by cases h), fun h => (by cases h), fun h => (by cases h), fun h => (by cases h), fun h => (by cases h), fun h => (by cases h), fun h => (by cases h), fun h => (by cases h), fun h => (by cases h), fun h => (by cases h), trivial⟩
  intro vs W1 m1 hE hM hV hF hD
  clear hD
  obtain ⟨⟨_, _, -, -, f47⟩, ⟨_, _, -, -, f48⟩, ⟨_, _, -, -, f49⟩, ⟨_, _, -, -, f50⟩, ⟨_, _, -, -, f51⟩, ⟨_, _, -, -, f52⟩, ⟨_, _, -, -, f53⟩, ⟨_, _, -, -, f54⟩, ⟨_, _, -, -, f55⟩, ⟨_, _, -, -, f56⟩, ⟨_, _, -, -, f57⟩, ⟨_, _, -, -, f58⟩, ⟨_, _, -, -, f59⟩, ⟨_, _, -, -, f60⟩, ⟨_, _, -, -, f61⟩, ⟨_, _, -, -, f62⟩, ⟨_, _, -, -, f63⟩, ⟨_, _, -, -, f64⟩, ⟨_, _, -, -, f65⟩, ⟨_, _, -, -, f66⟩, ⟨_, _, -, -, f67⟩, ⟨_, _, -, -, f68⟩, ⟨_, _, -, -, f69⟩, ⟨_, _, -, -, f70⟩, -⟩ := hF
  replace hL := hL.call hE hM hV
  have f47 : vs 47 = _ := f47
  generalize vs 47 = x47 at f47 ⊢
  subst x47
  have f48 : vs 48 = _ := f48
  generalize vs 48 = x48 at f48 ⊢
  subst x48
  have f49 : vs 49 = _ := f49
  generalize vs 49 = x49 at f49 ⊢
  subst x49
  have f50 : vs 50 = _ := f50
  generalize vs 50 = x50 at f50 ⊢
  subst x50
  have f51 : vs 51 = _ := f51
  generalize vs 51 = x51 at f51 ⊢
  subst x51
  have f52 : vs 52 = _ := f52
  generalize vs 52 = x52 at f52 ⊢
  subst x52
  have f53 : vs 53 = _ := f53
  generalize vs 53 = x53 at f53 ⊢
  subst x53
  have f54 : vs 54 = _ := f54
  generalize vs 54 = x54 at f54 ⊢
  subst x54
  have f55 : vs 55 = _ := f55
  generalize vs 55 = x55 at f55 ⊢
  subst x55
  have f56 : vs 56 = _ := f56
  generalize vs 56 = x56 at f56 ⊢
  subst x56
  have f57 : vs 57 = _ := f57
  generalize vs 57 = x57 at f57 ⊢
  subst x57
  have f58 : vs 58 = _ := f58
  generalize vs 58 = x58 at f58 ⊢
  subst x58
  have f59 : vs 59 = _ := f59
  generalize vs 59 = x59 at f59 ⊢
  subst x59
  have f60 : vs 60 = _ := f60
  generalize vs 60 = x60 at f60 ⊢
  subst x60
  have f61 : vs 61 = _ := f61
  generalize vs 61 = x61 at f61 ⊢
  subst x61
  have f62 : vs 62 = _ := f62
  generalize vs 62 = x62 at f62 ⊢
  subst x62
  have f63 : vs 63 = _ := f63
  generalize vs 63 = x63 at f63 ⊢
  subst x63
  have f64 : vs 64 = _ := f64
  generalize vs 64 = x64 at f64 ⊢
  subst x64
  have f65 : vs 65 = _ := f65
  generalize vs 65 = x65 at f65 ⊢
  subst x65
  have f66 : vs 66 = _ := f66
  generalize vs 66 = x66 at f66 ⊢
  subst x66
  have f67 : vs 67 = _ := f67
  generalize vs 67 = x67 at f67 ⊢
  subst x67
  have f68 : vs 68 = _ := f68
  generalize vs 68 = x68 at f68 ⊢
  subst x68
  have f69 : vs 69 = _ := f69
  generalize vs 69 = x69 at f69 ⊢
  subst x69
  have f70 : vs 70 = _ := f70
  generalize vs 70 = x70 at f70 ⊢
  subst x70
  clear hE hV
  simp only [List.drop_succ_cons, List.drop_zero]
  go_wp2_with (first | ((with_reducible refine kAny ?_); go_skip) | (with_reducible refine stA ?_) | ((first | refine tIx ?_ | refine tFd ?_ | refine tLd ?_ | (refine tBx ?_; clear hL; intro _ _ hL _)); simp only [Act.put, zq1, zq2, zq3]))
  refine QN.mk ?_
  clear hr hc0 hc1
  go_wp2_with (first | ((with_reducible refine kAny ?_); go_skip) | (with_reducible refine stA ?_) | ((first | refine tIx ?_ | refine tFd ?_ | refine tLd ?_ | (refine tBx ?_; clear hL; intro _ _ hL _)); simp only [Act.put, zq1, zq2, zq3]))
  go_loopw [3] (fun i wr => ∃ (k : Nat) (mm : World), k ≤ nc ∧ i = .int .i64 k ∧ Loc w m wr mm [(w.heap.size, 26, #[.int .i64 nf, .slice (some ⟨b0, of, none⟩) n ca, .int .i64 pen, .slice B nc cb, .slice C nk cc])]) (fun i _ => nc - (intOf i).toNat)
  case atStart => exact ⟨0, _, Nat.zero_le _, rfl, hL⟩
  case round =>
    clear hL
    obtain ⟨k, mm, hk, rfl, hL⟩ := hrel
    have hM := hL.mext
    by_cases hlt : k < nc
    · obtain ⟨⟨s, ds, cost⟩, hx⟩ := at_some HN1 hlt
      obtain ⟨b1, o1, D, cd, rfl, hds, hr1⟩ := ColL.at_ HCO.out hx
      obtain ⟨i1, i2, i3, i4, i5, i6, i7⟩ := HC.out _ (List.mem_of_getElem? hx)
      simp only at hds hr1 i1 i2 i3 i4 i5 i6 i7
      have c1 : ¬ cost < -1125899906842624 := by omega
      have c2 : ¬ cost > 1125899906842624 := by omega
      have HD := Lib.hid hds
      have H3 := Lib.hid i3
      have H4 := Lib.hid i4
      have H6 : Hid (decide (∀ f ∈ opF ds, f ∈ rs) = true) := decide_eq_true i6
      have H7 := Lib.hid i7
      have H5 := Lib.hid i5
      have H8 := Lib.hid (opF_len i4)
      have hx2 := hr1 2 _ rfl
      have hr2 : m.rangeAt b1 (o1 + k * 3) [.string s, .slice D ds.length cd] := fun j u hu => hr1 j u (by
        match j, hu with
        | 0, hu => exact hu
        | 1, hu => exact hu)
      clear hx hds i1 i2 i3 i4 i5 i6 i7 hr1
      generalize hnd : ds.length = nd at *
      have HND := Lib.hid hnd
      clear hnd
      go_wp2_with (first | ((with_reducible refine kAny ?_); go_skip) | (with_reducible refine stA ?_) | ((first | refine tIx ?_ | refine tFd ?_ | refine tLd ?_ | (refine tBx ?_; clear hL; intro _ _ hL _)); simp only [Act.put, zq1, zq2, zq3]))
      refine (r_Operated s _ ds _ _ hL.vw (DutsL.le HD.out leX) (by rw [HND.out]; exact H3.out) H4.out).mono ?_
      rintro e Wo1 ⟨vo1, mo1, rfl, hE, hMo1, hV, ho1⟩
      replace hL := hL.call hE (by assumption) hV; clear hE hV
      obtain ⟨Ao, co, rfl, hco, ho1⟩ := ho1.lit
      have HOP := Lib.hid ho1
      have h5 := H5.out
      have h8 : (opF ds).length ≤ 100000 := by have := H8.out; have := H3.out; omega
      clear ho1 hr2 hx2
      generalize hno : (opF ds).length = no at *
      have HNO := Lib.hid hno
      clear hno
      have q14 : ((no : Int) == 0) = false := by simp; omega
      go_wp2_with (first | ((with_reducible refine kAny ?_); go_skip) | (with_reducible refine stA ?_) | ((first | refine tIx ?_ | refine tFd ?_ | refine tLd ?_ | (refine tBx ?_; clear hL; intro _ _ hL _)); simp only [Act.put, zq1, zq2, zq3]))
      refine (r_within _ _ (opF ds) rs _ _ hL.vw (IntL.le HOP.out leX) (IntL.le HR.out leX) (by rw [HNO.out]; omega) (by rw [HN.out]; exact HRL.out)).mono ?_
      rintro e Wo2 ⟨_, mo2, rfl, hE, hMo2, hV, rfl⟩
      replace hL := hL.call hE (by assumption) hV; clear hE hV
      rw [H6.out]
      go_wp2_with (first | ((with_reducible refine kAny ?_); go_skip) | (with_reducible refine stA ?_) | ((first | refine tIx ?_ | refine tFd ?_ | refine tLd ?_ | (refine tBx ?_; clear hL; intro _ _ hL _)); simp only [Act.put, zq1, zq2, zq3]))
      go_loopw [5] (fun i wr => ∃ (j : Nat) (m2 : World), j ≤ no ∧ i = .int .i64 j ∧ Loc w m wr m2 [(w.heap.size, 26, #[.int .i64 nf, .slice (some ⟨b0, of, none⟩) n ca, .int .i64 pen, .slice (some ⟨b1, o1, none⟩) nc cb, .slice C nk cc])] ∧ Hid (Ext mo1 m2)) (fun i _ => no - (intOf i).toNat)
      case atStart => exact ⟨0, _, Nat.zero_le _, rfl, hL, exX⟩
      case round =>
        clear hL hM
        obtain ⟨j, m2, hj, rfl, hL, HX⟩ := hrel
        have hM := hL.mext
        by_cases hlt2 : j < no
        · obtain ⟨f, hf⟩ := at_some HNO hlt2
          obtain ⟨b3, o3, rfl, hc3⟩ := IntL.at_ HOP.out hf
          replace hc3 := HX.out.le.cell _ _ hc3
          have HC1 := Lib.hid (count_one H7.out hf)
          have HO2 : Hid (IntL m2 (.slice (some ⟨b3, o3, none⟩) no co) (opF ds)) := IntL.le HOP.out HX.out.le
          clear hf
          go_wp2_with (first | ((with_reducible refine kAny ?_); go_skip) | (with_reducible refine stA ?_) | ((first | refine tIx ?_ | refine tFd ?_ | refine tLd ?_ | (refine tBx ?_; clear hL; intro _ _ hL _)); simp only [Act.put, zq1, zq2, zq3]))
          refine (r_count _ (opF ds) f _ _ hL.vw (IntL.le HO2.out leX) (by rw [HNO.out]; omega)).mono ?_
          rintro e Wn1 ⟨_, mn1, rfl, hE, hMn1, hV, rfl⟩
          replace hL := hL.call hE (by assumption) hV; clear hE hV
          have HX3 : Hid (Ext mo1 mn1) := HX.out.trans hMn1
          rw [HC1.out]
          go_wp2_with (first | ((with_reducible refine kAny ?_); go_skip) | (with_reducible refine stA ?_) | ((first | refine tIx ?_ | refine tFd ?_ | refine tLd ?_ | (refine tBx ?_; clear hL; intro _ _ hL _)); simp only [Act.put, zq1, zq2, zq3]))
          go_roundw
          case rel => exact ⟨j + 1, _, by omega, by go_num, hL, HX3.out⟩
          case measure => simp [intOf] <;> omega
        · go_wp2_with (first | ((with_reducible refine kAny ?_); go_skip) | (with_reducible refine stA ?_) | ((first | refine tIx ?_ | refine tFd ?_ | refine tLd ?_ | (refine tBx ?_; clear hL; intro _ _ hL _)); simp only [Act.put, zq1, zq2, zq3]))
          go_roundw
          case rel => exact ⟨k + 1, _, by omega, by go_num, hL⟩
          case measure => simp [intOf] <;> omega
    · go_wp2_with (first | ((with_reducible refine kAny ?_); go_skip) | (with_reducible refine stA ?_) | ((first | refine tIx ?_ | refine tFd ?_ | refine tLd ?_ | (refine tBx ?_; clear hL; intro _ _ hL _)); simp only [Act.put, zq1, zq2, zq3]))
      clear hlt hk
      go_loopw [6] (fun i wr => ∃ (k : Nat) (mm : World), k ≤ nk ∧ i = .int .i64 k ∧ Loc w m wr mm [(w.heap.size, 26, #[.int .i64 nf, .slice (some ⟨b0, of, none⟩) n ca, .int .i64 pen, .slice B nc cb, .slice C nk cc])]) (fun i _ => nk - (intOf i).toNat)
      case atStart => exact ⟨0, _, Nat.zero_le _, rfl, hL⟩
      case round =>
        clear hL hM
        obtain ⟨k, mm, hk, rfl, hL⟩ := hrel
        have hM := hL.mext
        by_cases hlt : k < nk
        · obtain ⟨⟨xs, dv⟩, hx⟩ := at_some HN2 hlt
          obtain ⟨b1, o1, D, cd, rfl, hcr, hr1⟩ := CutL.at_' HCU.out hx
          have HOK := Lib.hid (HK.out _ (List.mem_of_getElem? hx))
          simp only at hr1
          have hra := HR.out
          clear hx
          go_upto_region 23 with ((first | ((with_reducible refine kAny ?_); go_skip) | (with_reducible refine stA ?_) | ((first | refine tIx ?_ | refine tFd ?_ | refine tLd ?_ | (refine tBx ?_; clear hL; intro _ _ hL _)); simp only [Act.put, zq1, zq2, zq3])))
          (try simp only [eq_self] at *)
          refine wp_region_by2 9 [false, false, false, false, false, false, false, false, false] [false, false, false, false, false, false, false, false, false] [(fun v _ _ => v = ?c23_0), (fun v _ _ => v = ?c23_1), (fun v _ _ => v = ?c23_2), (fun v _ _ => v = ?c23_3), (fun v _ _ => v = ?c23_4), (fun v _ _ => v = ?c23_5), (fun v _ _ => v = ?c23_6), Is (.bool true), (fun v _ _ => v = ?c23_8)] hL.vw mixed [131, 132, 133, 134, 135, 136, 137, 138, 139] _ (by kernel_rfl) (fun vs => by simp only [lay, Act.put, zq1, zq2, zq3]; rfl) (by kernel_rfl) (by decide) (by decide) ?s23 ?l23 ?r23
          case s23 =>
            refine ⟨?_, ?_, ?_, ?_, ?_, ?_, ?_, ?_, ?_, trivial⟩
            · intro vs W1 m1 hE hM hV hD; clear hD; replace hL := hL.call hE hM hV
              exact sFd
            · intro vs W1 m1 hE hM hV hD; obtain ⟨⟨_, _, -, -, f131⟩, -⟩ := hD; have f131 : vs 131 = _ := f131; generalize vs 131 = x131 at f131 ⊢; subst x131; replace hL := hL.call hE hM hV
              exact sLd
            · intro vs W1 m1 hE hM hV hD; clear hD; replace hL := hL.call hE hM hV
              exact sFd
            · intro vs W1 m1 hE hM hV hD; obtain ⟨⟨_, _, -, -, f133⟩, -⟩ := hD; have f133 : vs 133 = _ := f133; generalize vs 133 = x133 at f133 ⊢; subst x133; replace hL := hL.call hE hM hV
              exact sLd
            · intro vs W1 m1 hE hM hV hD; clear hD; replace hL := hL.call hE hM hV
              exact sPu
            · intro vs W1 m1 hE hM hV hD; obtain ⟨⟨_, _, -, -, f134⟩, ⟨_, _, -, -, f135⟩, -⟩ := hD; have f134 : vs 134 = _ := f134; generalize vs 134 = x134 at f134 ⊢; subst x134; have f135 : vs 135 = _ := f135; generalize vs 135 = x135 at f135 ⊢; subst x135; replace hL := hL.call hE hM hV
              exact sIx
            · intro vs W1 m1 hE hM hV hD; obtain ⟨⟨_, _, -, -, f136⟩, -⟩ := hD; have f136 : vs 136 = _ := f136; generalize vs 136 = x136 at f136 ⊢; subst x136; replace hL := hL.call hE hM hV
              exact sLd
            · intro vs W1 m1 hE hM hV hD; obtain ⟨⟨_, _, -, -, f132⟩, ⟨_, _, -, -, f137⟩, -⟩ := hD; have f132 : vs 132 = _ := f132; generalize vs 132 = x132 at f132 ⊢; subst x132; have f137 : vs 137 = _ := f137; generalize vs 137 = x137 at f137 ⊢; subst x137
              go_wp2_with fail
              refine (r_ValidCut _ _ rs (xs, dv) _ _ hV (IntL.le hra leX) (hcr.le leX) (by rw [HN.out]; exact HRL.out) HOK.out).mono ?_
              rintro e W2 ⟨v, m2, rfl, hE2, hM2, hV2, h⟩
              go_wp2_with fail
              refine One2.call hE2 hM2 hV2 ?_; first | exact h | exact rfl
            · intro vs W1 m1 hE hM hV hD; obtain ⟨⟨_, _, -, -, f138⟩, -⟩ := hD; have f138 : vs 138 = _ := f138; generalize vs 138 = x138 at f138 ⊢; subst x138; replace hL := hL.call hE hM hV
              exact sPu
          case l23 =>
            refine ⟨fun h => (by cases h), fun h => (by cases h), fun h => (by cases h), fun h => (by cases h), fun h => (by cases h), fun h => (by cases h), fun h => (by cases h), fun h => (by cases h), fun h => (by cases h), trivial⟩
          intro vs W1 m1 hE hM hV hF hD
          clear hD
          obtain ⟨⟨_, _, -, -, f131⟩, ⟨_, _, -, -, f132⟩, ⟨_, _, -, -, f133⟩, ⟨_, _, -, -, f134⟩, ⟨_, _, -, -, f135⟩, ⟨_, _, -, -, f136⟩, ⟨_, _, -, -, f137⟩, ⟨_, _, -, -, f138⟩, ⟨_, _, -, -, f139⟩, -⟩ := hF
          replace hL := hL.call hE hM hV
          have f131 : vs 131 = _ := f131
          generalize vs 131 = x131 at f131 ⊢
          subst x131
          have f132 : vs 132 = _ := f132
          generalize vs 132 = x132 at f132 ⊢
          subst x132
          have f133 : vs 133 = _ := f133
          generalize vs 133 = x133 at f133 ⊢
          subst x133
          have f134 : vs 134 = _ := f134
          generalize vs 134 = x134 at f134 ⊢
          subst x134
          have f135 : vs 135 = _ := f135
          generalize vs 135 = x135 at f135 ⊢
          subst x135
          have f136 : vs 136 = _ := f136
          generalize vs 136 = x136 at f136 ⊢
          subst x136
          have f137 : vs 137 = _ := f137
          generalize vs 137 = x137 at f137 ⊢
          subst x137
          have f138 : vs 138 = _ := f138
          generalize vs 138 = x138 at f138 ⊢
          subst x138
          have f139 : vs 139 = _ := f139
          generalize vs 139 = x139 at f139 ⊢
          subst x139
          clear hE hV
          simp only [List.drop_succ_cons, List.drop_zero]
          go_wp2_with (first | ((with_reducible refine kAny ?_); go_skip) | (with_reducible refine stA ?_) | ((first | refine tIx ?_ | refine tFd ?_ | refine tLd ?_ | (refine tBx ?_; clear hL; intro _ _ hL _)); simp only [Act.put, zq1, zq2, zq3]))
          refine QN.mk ?_
          go_wp2_with (first | ((with_reducible refine kAny ?_); go_skip) | (with_reducible refine stA ?_) | ((first | refine tIx ?_ | refine tFd ?_ | refine tLd ?_ | (refine tBx ?_; clear hL; intro _ _ hL _)); simp only [Act.put, zq1, zq2, zq3]))
          go_roundw
          case rel => exact ⟨k + 1, _, by omega, by go_num, hL⟩
          case measure => simp [intOf] <;> omega
        · go_wp2_with (first | ((with_reducible refine kAny ?_); go_skip) | (with_reducible refine stA ?_) | ((first | refine tIx ?_ | refine tFd ?_ | refine tLd ?_ | (refine tBx ?_; clear hL; intro _ _ hL _)); simp only [Act.put, zq1, zq2, zq3]))
          go_ret
          exact RetV.mk hL rfl
end Go.Proofs.YtmhkmmmompediaaGreat

/- Contracts of branch.check, pairingref27.valued and branch.Follows. -/
namespace Go.Proofs.YtmhkmmmompediaaGreat
open Go.RowKit

set_option maxRecDepth 100000 in
set_option maxHeartbeats 16000000 in
theorem r_valued (xv : Value) (x : Ms) (V : Option Addr) (n c : Nat) (e : Int) (w m : World) (hV : Vw m w) (hx : MasterR m xv x) (ok : MsOk x) (he : e = if n = x.cols.length then 0 else 12) :
    Calls Tryz.prog 107 #[xv, .slice V n c] w (RetV w m fun _ r => r = .int .i64 e) := by
  have HX := Lib.hid hx
  obtain ⟨A, nr, ca, B, nc, cb, C, nk, cc, rfl, hx1⟩ := hx.lit
  have hnc := master_nc hx1
  have KV : Hid (∀ w m', Vw m' w → Le m m' → Calls Tryz.prog 76 #[.agg #[.int .i64 x.nf, .slice A nr ca, .int .i64 x.pen, .slice B nc cb, .slice C nk cc]] w (RetV w m' fun _ r => r = .int .i64 0)) := by
    show ∀ w m', _
    exact fun w m' hV hle => r_ValidateMaster _ x w m' hV (HX.out.le hle) ok
  rw [← hnc] at he
  have hL := Loc.start hV
  clear hV hx1 HX hnc ok
  generalize x.nf = nf at *
  generalize x.pen = pen at *
  by_cases h : n = nc
  · subst h
    rw [if_pos rfl] at he
    subst he
    go_enter Tryz.func107, Tryz.ntmps107
    go_upto_region 0 with (fail)
    refine wp_region_lit ?_
    refine t_box hL rfl rfl ?_; clear hL; intro Wh2 mh2 hL eh2; simp only [Act.put, zq1, zq2, zq3]
    go_wp2_with (first | ((with_reducible refine kAny ?_); go_skip) | (with_reducible refine stA ?_) | ((first | refine tFd ?_ | refine tLd ?_ | (refine tBx ?_; clear hL; intro _ _ hL _)); simp only [Act.put, zq1, zq2, zq3]))
    refine (KV.out _ _ hL.vw leX).mono ?_
    rintro e Wc1 ⟨_, mc1, rfl, hE, hMc1, hV, rfl⟩
    replace hL := hL.call hE (by assumption) hV; clear hE hV
    go_wp2_with (first | ((with_reducible refine kAny ?_); go_skip) | (with_reducible refine stA ?_) | ((first | refine tFd ?_ | refine tLd ?_ | (refine tBx ?_; clear hL; intro _ _ hL _)); simp only [Act.put, zq1, zq2, zq3]))
    go_ret
    exact RetV.mk hL rfl
  · rw [if_neg h] at he
    subst he
    have h' : ¬ (n : Int) = (nc : Int) := by omega
    have h2 : ((n : Int) != (nc : Int)) = true := by simpa using h'
    go_enter Tryz.func107, Tryz.ntmps107
    go_upto_region 0 with (fail)
    refine wp_region_lit ?_
    refine t_box hL rfl rfl ?_; clear hL; intro Wh2 mh2 hL eh2; simp only [Act.put, zq1, zq2, zq3]
    go_wp2_with (first | ((with_reducible refine kAny ?_); go_skip) | (with_reducible refine stA ?_) | ((first | refine tFd ?_ | refine tLd ?_ | (refine tBx ?_; clear hL; intro _ _ hL _)); simp only [Act.put, zq1, zq2, zq3]))
    refine (KV.out _ _ hL.vw leX).mono ?_
    rintro e Wc1 ⟨_, mc1, rfl, hE, hMc1, hV, rfl⟩
    replace hL := hL.call hE (by assumption) hV; clear hE hV
    go_wp2_with (first | ((with_reducible refine kAny ?_); go_skip) | (with_reducible refine stA ?_) | ((first | refine tFd ?_ | refine tLd ?_ | (refine tBx ?_; clear hL; intro _ _ hL _)); simp only [Act.put, zq1, zq2, zq3]))
    go_ret
    exact RetV.mk hL rfl

set_option maxRecDepth 100000 in
set_option maxHeartbeats 16000000 in
theorem b_Follows_len (xv : Value) (x : Ms) (V : Option Addr) (n c : Nat) (w m : World) (hV : Vw m w) (hx : MasterR m xv x) (ok : MsOk x) (hn : n ≠ x.cols.length) :
    Calls Tryz.prog 47 #[xv, .slice V n c] w (RetV w m fun _ r => r = .tuple #[.slice none 0 0, .int .i64 12]) := by
  have HX := Lib.hid hx
  obtain ⟨A, nr, ca, B, nc, cb, C, nk, cc, rfl, hx1⟩ := hx.lit
  have KV : Hid (∀ w m', Vw m' w → Le m m' → Calls Tryz.prog 112 #[.agg #[.int .i64 x.nf, .slice A nr ca, .int .i64 x.pen, .slice B nc cb, .slice C nk cc], .slice V n c] w (RetV w m' fun _ r => r = .int .i64 12)) := by
    show ∀ w m', _
    exact fun w m' hV hle => b_check _ x V n c 12 w m' hV (HX.out.le hle) ok (by rw [if_neg hn])
  have hL := Loc.start hV
  clear hV hx1 HX ok hn
  generalize x.nf = nf at *
  generalize x.pen = pen at *
  go_enter Tryz.func47, Tryz.ntmps47
  go_upto_region 0 with (fail)
  refine wp_region_lit ?_
  refine t_box hL rfl rfl ?_; clear hL; intro Wh2 mh2 hL eh2; simp only [Act.put, zq1, zq2, zq3]
  go_wp2_with (first | ((with_reducible refine kAny ?_); go_skip) | (with_reducible refine stA ?_) | ((first | refine tLd ?_ | (refine tBx ?_; clear hL; intro _ _ hL _)); simp only [Act.put, zq1, zq2, zq3]))
  refine (KV.out _ _ hL.vw leX).mono ?_
  rintro e Wc1 ⟨_, mc1, rfl, hE, hMc1, hV, rfl⟩
  replace hL := hL.call hE (by assumption) hV; clear hE hV
  go_wp2_with (first | ((with_reducible refine kAny ?_); go_skip) | (with_reducible refine stA ?_) | ((first | refine tLd ?_ | (refine tBx ?_; clear hL; intro _ _ hL _)); simp only [Act.put, zq1, zq2, zq3]))
  go_ret2
  exact RetV.mk hL rfl
end Go.Proofs.YtmhkmmmompediaaGreat

/- The list of follow-ons in the reference's order: its form, and that it is the ascending list of the sums that are not 0. -/
namespace Go.Proofs.YtmhkmmmompediaaGreat
open Go.RowKit

theorem pairs_nodup {l : List Int} (h : l.Nodup) : (pairsOf l).Nodup := by
  unfold pairsOf
  refine List.Pairwise.of_map (S := fun a b => a ≠ b) Prod.snd (fun a b h e => h (by rw [e])) ?_
  rw [List.map_snd_zip (by simp)]
  exact h.sublist (List.tail_sublist l)
theorem filt_one (x : Rat) (p : Int × Int) : ∀ {L : List (Int × Int)} (s : Rat), L.Nodup → ((L.map fun q => ((q, x) : PQ)).filter fun e => decide (e.1 = p)).foldl (fun s e => s + e.2) s = if p ∈ L then s + x else s
  | [], s, _ => by simp
  | q :: L, s, h => by
    obtain ⟨h1, h2⟩ := List.nodup_cons.1 h
    simp only [List.map_cons]
    by_cases e : q = p
    · subst e
      rw [List.filter_cons_of_pos (by simp), List.foldl_cons, filt_one x q _ h2, if_neg h1, if_pos List.mem_cons_self]
    · rw [List.filter_cons_of_neg (by simpa using e), filt_one x p _ h2]
      have hm : p ∈ q :: L ↔ p ∈ L := by rw [List.mem_cons]; exact ⟨fun h => h.resolve_left fun h => e h.symm, .inr⟩
      simp only [hm]
theorem sumAt_app (S : List PQ) (l : List Int) (x : Rat) (p : Int × Int) (h : l.Nodup) : sumAt (S ++ entE l x) p = if p ∈ pairsOf l then sumAt S p + x else sumAt S p := by
  unfold sumAt entE
  rw [List.filter_append, List.foldl_append]
  exact filt_one x p _ (pairs_nodup h)
theorem sum_step {cols : List Col} {vs : List Rat} {k : Nat} {c : Col} {x : Rat} (hc : cols[k]? = some c) (hx : vs[k]? = some x) (h : (opF c.2.1).Nodup) (p : Int × Int) :
    sumAt (entS cols vs (k + 1)) p = if p ∈ pairsOf (opF c.2.1) then sumAt (entS cols vs k) p + x else sumAt (entS cols vs k) p := by
  rw [← entS_step hc hx]; exact sumAt_app _ _ _ _ h
theorem sum_zero (cols : List Col) (vs : List Rat) (p : Int × Int) : sumAt (entS cols vs 0) p = ((0 : Int) : Rat) := by
  unfold entS; exact sumAt_none fun e he => by simp at he

def rowY (S : List PQ) (a : Int) (cs : List Int) : List PQ := cs.flatMap fun c => if sumAt S (a, c) = 0 then [] else [((a, c), sumAt S (a, c))]
def flY (S : List PQ) (bs cs : List Int) : List PQ := bs.flatMap fun a => rowY S a cs
theorem rowY_step {S : List PQ} {a c : Int} {cs : List Int} {k : Nat} (h : cs[k]? = some c) : rowY S a (cs.take (k + 1)) = rowY S a (cs.take k) ++ (if sumAt S (a, c) = 0 then [] else [((a, c), sumAt S (a, c))]) := by
  unfold rowY; rw [← take_snoc h, List.flatMap_append, List.flatMap_cons, List.flatMap_nil, List.append_nil]
theorem flY_step {S : List PQ} {a : Int} {bs cs : List Int} {k : Nat} (h : bs[k]? = some a) : flY S (bs.take (k + 1)) cs = flY S (bs.take k) cs ++ rowY S a cs := by
  unfold flY; rw [← take_snoc h, List.flatMap_append, List.flatMap_cons, List.flatMap_nil, List.append_nil]
theorem mem_rowY {S : List PQ} {a : Int} {cs : List Int} {y : PQ} : y ∈ rowY S a cs ↔ ∃ c ∈ cs, y = ((a, c), sumAt S (a, c)) ∧ sumAt S (a, c) ≠ 0 := by
  unfold rowY
  rw [List.mem_flatMap]
  constructor
  · rintro ⟨c, hc, hy⟩
    by_cases h : sumAt S (a, c) = 0
    · rw [if_pos h] at hy; cases hy
    · rw [if_neg h] at hy; exact ⟨c, hc, List.mem_singleton.1 hy, h⟩
  · rintro ⟨c, hc, rfl, h⟩
    exact ⟨c, hc, by rw [if_neg h]; exact List.mem_singleton_self _⟩
theorem rowY_pw {S : List PQ} {a : Int} : ∀ {cs : List Int}, cs.Pairwise (· < ·) → (rowY S a cs).Pairwise ltP
  | [], _ => List.Pairwise.nil
  | c :: cs, h => by
    obtain ⟨h1, h2⟩ := List.pairwise_cons.1 h
    have e : rowY S a (c :: cs) = (if sumAt S (a, c) = 0 then [] else [((a, c), sumAt S (a, c))]) ++ rowY S a cs := by unfold rowY; rw [List.flatMap_cons]
    rw [e, List.pairwise_append]
    refine ⟨?_, rowY_pw h2, ?_⟩
    · split
      · exact List.Pairwise.nil
      · exact List.pairwise_singleton _ _
    · intro x hx y hy
      split at hx
      · cases hx
      · rcases List.mem_singleton.1 hx with rfl
        obtain ⟨c', hc', rfl, -⟩ := mem_rowY.1 hy
        exact .inr ⟨rfl, h1 c' hc'⟩
theorem flY_pw {S : List PQ} {cs : List Int} (h' : cs.Pairwise (· < ·)) : ∀ {bs : List Int}, bs.Pairwise (· < ·) → (flY S bs cs).Pairwise ltP
  | [], _ => List.Pairwise.nil
  | a :: bs, h => by
    obtain ⟨h1, h2⟩ := List.pairwise_cons.1 h
    have e : flY S (a :: bs) cs = rowY S a cs ++ flY S bs cs := by unfold flY; rw [List.flatMap_cons]
    rw [e, List.pairwise_append]
    refine ⟨rowY_pw h', flY_pw h' h2, ?_⟩
    intro x hx y hy
    obtain ⟨c, hc, rfl, -⟩ := mem_rowY.1 hx
    obtain ⟨a', ha', hy⟩ := List.mem_flatMap.1 hy
    obtain ⟨c', hc', rfl, -⟩ := mem_rowY.1 hy
    exact .inl (h1 a' ha')
theorem asc_pw : ∀ {xs : List Int}, AscP xs → xs.Pairwise (· < ·)
  | [], _ => List.Pairwise.nil
  | [x], _ => List.pairwise_singleton _ _
  | x :: y :: xs, h => by
    have ih := asc_pw (xs := y :: xs) fun j a b ha hb => h (j + 1) a b (by simpa using ha) (by simpa using hb)
    have hxy := h 0 x y rfl rfl
    refine List.pairwise_cons.2 ⟨fun z hz => ?_, ih⟩
    rcases List.mem_cons.1 hz with rfl | hz
    · exact hxy
    · exact Int.lt_trans hxy ((List.pairwise_cons.1 ih).1 z hz)
theorem fl_is {x : Ms} {vs : List Rat} (ok : VOk x vs) : IsFol (entS x.cols vs x.cols.length) (flY (entS x.cols vs x.cols.length) x.rows x.rows) := by
  have hp := asc_pw ok.ms.asc
  refine ⟨flY_pw hp hp, fun y => ⟨fun hy => ?_, fun ⟨h1, h2⟩ => ?_⟩⟩
  · obtain ⟨a, ha, hy⟩ := List.mem_flatMap.1 hy
    obtain ⟨c, hc, rfl, h⟩ := mem_rowY.1 hy
    exact ⟨rfl, h⟩
  · obtain ⟨e, he, e1⟩ : ∃ e ∈ entS x.cols vs x.cols.length, e.1 = y.1 := by
      by_cases he : ∃ e ∈ entS x.cols vs x.cols.length, e.1 = y.1
      · exact he
      · exact absurd (h1.trans (sumAt_none fun e h h' => he ⟨e, h, h'⟩)) h2
    obtain ⟨-, r1, r2⟩ := ok.entS_mem he
    rw [e1] at r1 r2
    obtain ⟨⟨a, c⟩, q⟩ := y
    simp only at h1 h2 r1 r2
    exact List.mem_flatMap.2 ⟨a, r1, mem_rowY.2 ⟨c, r2, by rw [h1], by rw [← h1]; exact h2⟩⟩
theorem rowY_len (S : List PQ) (a : Int) (cs : List Int) : (rowY S a cs).length ≤ cs.length := by
  have := flatMap_len (B := 1) (l := cs) (f := fun c => if sumAt S (a, c) = 0 then [] else [((a, c), sumAt S (a, c))]) fun c _ => by split <;> simp
  unfold rowY; omega
theorem flY_len (S : List PQ) (bs cs : List Int) : (flY S bs cs).length ≤ cs.length * bs.length := flatMap_len fun a _ => rowY_len S a cs
theorem part_len {S : List PQ} {a : Int} {rs : List Int} (h : rs.length ≤ 32) (k j : Nat) : (flY S (rs.take k) rs ++ rowY S a (rs.take j)).length ≤ 1056 := by
  rw [List.length_append]
  have h1 := flY_len S (rs.take k) rs
  have h2 := rowY_len S a (rs.take j)
  have h3 : rs.length * (rs.take k).length ≤ 32 * 32 := Nat.mul_le_mul h (by simp; omega)
  have h4 : (rs.take j).length ≤ 32 := by simp; omega
  omega
theorem flY_len1 {S : List PQ} {rs : List Int} (h : rs.length ≤ 32) (k : Nat) : (flY S (rs.take k) rs).length ≤ 1056 := by
  have h1 := flY_len S (rs.take k) rs
  have h3 : rs.length * (rs.take k).length ≤ 32 * 32 := Nat.mul_le_mul h (by simp; omega)
  omega

theorem part_zero (q : Rat) : rs (partR q) = 0 ↔ q.den = 1 := by
  constructor
  · intro h
    have h1 : partR q = 0 := Decidable.byContradiction fun h' => icmp_ne h' h
    have h2 : q = ((flr q : Int) : Rat) := by
      have h3 := congrArg (· + ((flr q : Int) : Rat)) h1
      simpa [partR, Rat.sub_add_cancel, Rat.zero_add] using h3
    rw [h2]; simp
  · intro h
    have h2 : ((flr q : Int) : Rat) = q := by
      have h3 : (q.num : Rat) = q := by
        have h4 := Rat.num_divInt_den q
        rw [h] at h4
        refine Eq.trans ?_ h4
        rw [← Rat.num_divInt_den (q.num : Rat)]; simp
      unfold flr
      rw [h]; simpa using h3
    unfold partR
    rw [h2, Rat.sub_self]; rfl
theorem absR_neg {q : Rat} (h : rs q < 0) : absR q = -q := by
  have h' : q.num < 0 := by
    unfold rs icmp at h
    split at h
    · assumption
    · split at h <;> omega
  unfold absR
  have e : (q.num.natAbs : Int) = -q.num := by omega
  rw [e, ← Rat.neg_divInt, Rat.num_divInt_den]
theorem absR_pos {q : Rat} (h : ¬ rs q < 0) : absR q = q := by
  have h' : ¬ q.num < 0 := fun h' => h (by unfold rs; rw [icmp_lt h']; decide)
  unfold absR
  have e : (q.num.natAbs : Int) = q.num := by omega
  rw [e, Rat.num_divInt_den]
end Go.Proofs.YtmhkmmmompediaaGreat

/- Contract of pairingdata.Values. -/
namespace Go.Proofs.YtmhkmmmompediaaGreat
open Go.RowKit

def valT (a : Int) : Rat := if a % 29 = 28 then Rat.divInt (-1) 3 else Rat.divInt (a % 4) (2 + a / 4 % 2)
def valsF (l : List Int) (n : Nat) : List Rat := (List.range n).map fun i => valT (atF l i)
theorem valsF_snoc (l : List Int) (j : Nat) {a : Int} (h : Hid (atF l j = a)) : valsF l j ++ [valT a] = valsF l (j + 1) := by
  unfold valsF; rw [List.range_succ, List.map_append, ← h.out]; rfl
theorem valsF_len (l : List Int) (n : Nat) : (valsF l n).length = n := by simp [valsF]
theorem valT_tw (a : Int) : Tw 18 (valT a) := by
  unfold valT
  split
  · exact ⟨-4, by rw [← Rat.divInt_mul_right (n := -1) (d := 3) (a := 4) (by decide)]; rfl, by decide⟩
  · rcases (by omega : a / 4 % 2 = 0 ∨ a / 4 % 2 = 1) with e | e
    · rw [e]
      exact ⟨a % 4 * 6, by rw [← Rat.divInt_mul_right (n := a % 4) (d := 2 + 0) (a := 6) (by decide)]; rfl, by omega⟩
    · rw [e]
      exact ⟨a % 4 * 4, by rw [← Rat.divInt_mul_right (n := a % 4) (d := 2 + 1) (a := 4) (by decide)]; rfl, by omega⟩
theorem valsF_tw (l : List Int) (n : Nat) : ∀ v ∈ valsF l n, Tw 18 v := by
  intro v hv
  obtain ⟨i, -, rfl⟩ := List.mem_map.1 hv
  exact valT_tw _

set_option maxRecDepth 100000 in
set_option maxHeartbeats 32000000 in
theorem d_Values (A : Option Addr) (c : Nat) (l : List Int) (n : Nat) (z : Int) (w m : World) (hV : Vw m w) (h : Sl m A (l.map I64)) (hz : z = n) (hn : n ≤ 1000) :
    Calls Tryz.prog 36 #[.slice A l.length c, .int .i64 z] w (RetV w m fun m' r => FracL m' r (valsF l n)) := by
  subst hz
  have HL : Hid True := trivial
  generalize hN : l.length = N
  have HN := Lib.hid hN
  clear hN
  have hL := Loc.start hV
  clear hV
  go_enter Tryz.func36, Tryz.ntmps36
  go_wp2_with (first | ((with_reducible refine kAny ?_); go_skip) | (with_reducible refine stA ?_) | ((first | refine tLd ?_ | ((first | refine tSr ?_ | refine tSt ?_); clear hL; intro _ hL; simp only [splice, zq1, zq2, zq3] at hL) | (refine tAl ?_; clear hL; intro _ _ hL _) | (refine tBs ?_; clear hL; intro _ _ hL _ hBs)); simp only [Act.put, zq1, zq2, zq3]))
  go_loopw [5, 6] (fun ov i wr => ∃ (j : Nat) (mm : World) (Rr : List Lo), j ≤ n ∧ i = .int .i64 j ∧ Loc w m wr mm Rr ∧ Hid (RowA 39 4 FracC mm ov j (valsF l j) Rr)) (fun _ i _ => n - (intOf i).toNat)
  case atStart => exact ⟨0, _, [], Nat.zero_le _, rfl, hL, RowA.nil⟩
  case round =>
    clear hL
    obtain ⟨j, mm, Rr, hj, rfl, hL, row⟩ := hrel
    have hM := hL.mext
    have hA := h.le hM.le
    obtain ⟨A7, c7, rfl, row1⟩ := row.out.lit
    have ROW := Lib.hid row1
    clear row row1 hM
    by_cases hlt : j < n
    · obtain ⟨a, Ea, pa, pa'⟩ := atX l j (by omega)
      have hlt' : (j : Int) < (n : Int) := by omega
      have e1 := i64_and1 (a / 4)
      have VT := Lib.hid (valsF_snoc l j Ea)
      have F0 : Hid (Fit 200 ((a % 4 : Int) : Rat)) := (Tn.int (k := 1000) (by omega) (by decide)).fit (by decide)
      have F1 : Hid (Fit 200 ((2 + a / 4 % 2 : Int) : Rat)) := (Tn.int (k := 1000) (by omega) (by decide)).fit (by decide)
      have F2 : Hid (Fit 200 ((-1 : Int) : Rat)) := (Tn.int (k := 1000) (by decide) (by decide)).fit (by decide)
      have F3 : Hid (Fit 200 ((3 : Int) : Rat)) := (Tn.int (k := 1000) (by decide) (by decide)).fit (by decide)
      go_wp2_with (first | ((with_reducible refine kAny ?_); go_skip) | (with_reducible refine stA ?_) | ((first | refine tLd ?_ | ((first | refine tSr ?_ | refine tSt ?_); clear hL; intro _ hL; simp only [splice, zq1, zq2, zq3] at hL) | (refine tAl ?_; clear hL; intro _ _ hL _) | (refine tBs ?_; clear hL; intro _ _ hL _ hBs)); simp only [Act.put, zq1, zq2, zq3]))
      refine (d_AtE _ _ _ l _ j a _ _ hL.vw (hA.le leX) HN HL Ea rfl (by omega)).mono ?_
      rintro e Wc1 ⟨_, mc1, rfl, hE, hMc1, hV, rfl⟩
      replace hL := hL.call hE (by assumption) hV; clear hE hV
      go_wp2_with (first | ((with_reducible refine kAny ?_); go_skip) | (with_reducible refine stA ?_) | ((first | refine tLd ?_ | ((first | refine tSr ?_ | refine tSt ?_); clear hL; intro _ hL; simp only [splice, zq1, zq2, zq3] at hL) | (refine tAl ?_; clear hL; intro _ _ hL _) | (refine tBs ?_; clear hL; intro _ _ hL _ hBs)); simp only [Act.put, zq1, zq2, zq3]))
      refine (r_Int (a % 4) _ _ hL.vw (by omega) (by omega)).mono ?_
      rintro e Wc2 ⟨vc2, mc2, rfl, hE, hMc2, hV, hc2⟩
      replace hL := hL.call hE (by assumption) hV; clear hE hV
      obtain ⟨gc2', Ac2', nc2', cc2', hc2', Bc2', kc2', dc2', rfl, hc2⟩ := hc2.lit
      go_wp2_with (first | ((with_reducible refine kAny ?_); go_skip) | (with_reducible refine stA ?_) | ((first | refine tLd ?_ | ((first | refine tSr ?_ | refine tSt ?_); clear hL; intro _ hL; simp only [splice, zq1, zq2, zq3] at hL) | (refine tAl ?_; clear hL; intro _ _ hL _) | (refine tBs ?_; clear hL; intro _ _ hL _ hBs)); simp only [Act.put, zq1, zq2, zq3]))
      refine (r_Int (2 + a / 4 % 2) _ _ hL.vw (by omega) (by omega)).mono ?_
      rintro e Wc3 ⟨vc3, mc3, rfl, hE, hMc3, hV, hc3⟩
      replace hL := hL.call hE (by assumption) hV; clear hE hV
      obtain ⟨gc3', Ac3', nc3', cc3', hc3', Bc3', kc3', dc3', rfl, hc3⟩ := hc3.lit
      go_wp2_with (first | ((with_reducible refine kAny ?_); go_skip) | (with_reducible refine stA ?_) | ((first | refine tLd ?_ | ((first | refine tSr ?_ | refine tSt ?_); clear hL; intro _ hL; simp only [splice, zq1, zq2, zq3] at hL) | (refine tAl ?_; clear hL; intro _ _ hL _) | (refine tBs ?_; clear hL; intro _ _ hL _ hBs)); simp only [Act.put, zq1, zq2, zq3]))
      refine (r_DivC _ _ _ _ _ _ hL.vw (hc2.le leX) hc3 F0.out F1.out).mono ?_
      rintro e Wc4 ⟨vc4, mc4, rfl, hE, hMc4, hV, hc4⟩
      replace hL := hL.call hE (by assumption) hV; clear hE hV
      obtain ⟨gc4', Ac4', nc4', cc4', hc4', Bc4', kc4', dc4', rfl, hc4⟩ := hc4.lit
      rw [div_mix] at hc4
      clear hc2 hc3
      by_cases h29 : a % 29 = 28
      · have b1 := bt h29
        have HW : Hid (valT a = Rat.divInt (-1) 3) := by show _ = _; unfold valT; rw [if_pos h29]
        clear h29 hc4
        go_wp2_with (first | ((with_reducible refine kAny ?_); go_skip) | (with_reducible refine stA ?_) | ((first | refine tLd ?_ | ((first | refine tSr ?_ | refine tSt ?_); clear hL; intro _ hL; simp only [splice, zq1, zq2, zq3] at hL) | (refine tAl ?_; clear hL; intro _ _ hL _) | (refine tBs ?_; clear hL; intro _ _ hL _ hBs)); simp only [Act.put, zq1, zq2, zq3]))
        refine (r_Int (-1) _ _ hL.vw (by decide) (by decide)).mono ?_
        rintro e Wc5 ⟨vc5, mc5, rfl, hE, hMc5, hV, hc5⟩
        replace hL := hL.call hE (by assumption) hV; clear hE hV
        obtain ⟨gc5', Ac5', nc5', cc5', hc5', Bc5', kc5', dc5', rfl, hc5⟩ := hc5.lit
        go_wp2_with (first | ((with_reducible refine kAny ?_); go_skip) | (with_reducible refine stA ?_) | ((first | refine tLd ?_ | ((first | refine tSr ?_ | refine tSt ?_); clear hL; intro _ hL; simp only [splice, zq1, zq2, zq3] at hL) | (refine tAl ?_; clear hL; intro _ _ hL _) | (refine tBs ?_; clear hL; intro _ _ hL _ hBs)); simp only [Act.put, zq1, zq2, zq3]))
        refine (r_Int 3 _ _ hL.vw (by decide) (by decide)).mono ?_
        rintro e Wc6 ⟨vc6, mc6, rfl, hE, hMc6, hV, hc6⟩
        replace hL := hL.call hE (by assumption) hV; clear hE hV
        obtain ⟨gc6', Ac6', nc6', cc6', hc6', Bc6', kc6', dc6', rfl, hc6⟩ := hc6.lit
        go_wp2_with (first | ((with_reducible refine kAny ?_); go_skip) | (with_reducible refine stA ?_) | ((first | refine tLd ?_ | ((first | refine tSr ?_ | refine tSt ?_); clear hL; intro _ hL; simp only [splice, zq1, zq2, zq3] at hL) | (refine tAl ?_; clear hL; intro _ _ hL _) | (refine tBs ?_; clear hL; intro _ _ hL _ hBs)); simp only [Act.put, zq1, zq2, zq3]))
        refine (r_DivC _ _ _ _ _ _ hL.vw (hc5.le leX) hc6 F2.out F3.out).mono ?_
        rintro e Wc4 ⟨vc4, mc4, rfl, hE, hMc4, hV, hc4⟩
        replace hL := hL.call hE (by assumption) hV; clear hE hV
        obtain ⟨gc4', Ac4', nc4', cc4', hc4', Bc4', kc4', dc4', rfl, hc4⟩ := hc4.lit
        rw [div_mix] at hc4
        have HC4 : Hid (FracC mc4 (.agg #[.bool gc4', .slice Ac4' nc4' cc4', .bool hc4', .slice Bc4' kc4' dc4']) (valT a)) := by rw [HW.out]; exact hc4
        clear hc5 hc6 hc4
        go_wp2_with (first | ((with_reducible refine kAny ?_); go_skip) | (with_reducible refine stA ?_) | ((first | refine tLd ?_ | ((first | refine tSr ?_ | refine tSt ?_); clear hL; intro _ hL; simp only [splice, zq1, zq2, zq3] at hL) | (refine tAl ?_; clear hL; intro _ _ hL _) | (refine tBs ?_; clear hL; intro _ _ hL _ hBs)); simp only [Act.put, zq1, zq2, zq3]))
        refine goA ?_
        obtain ⟨vs7, r7, z7, y7, l7⟩ := ROW.out
        refine wl_append (A := [_]) hL r7 (wanted_none rfl) rfl ap_Fracs (by omega) rfl rfl (news := [.bool gc4', .slice Ac4' nc4' cc4', .bool hc4', .slice Bc4' kc4' dc4']) rfl ((Blk.sl hBs (n := 4) rfl).le hL.vw.le) rfl (by omega) (by omega) ?_
        clear hL
        intro v1 W5 m5 R5 hL r8 e8
        obtain ⟨A9, c9, rfl, -⟩ := r8.lit
        simp only [List.cons_append, List.nil_append] at hL
        have rd := RowA.snoc (R := FracC) (m := m5) (x := valT a) r8 z7 (y7.mono fun v x hv => hv.le (leX : Le mm m5)) l7 rfl (HC4.out.le leX)
        rw [VT.out] at rd
        have RD := Lib.hid rd
        clear rd r8 r7 z7 y7 l7
        simp only [Act.put, zq1, zq2, zq3]
        go_wp2_with (first | ((with_reducible refine kAny ?_); go_skip) | (with_reducible refine stA ?_) | ((first | refine tLd ?_ | ((first | refine tSr ?_ | refine tSt ?_); clear hL; intro _ hL; simp only [splice, zq1, zq2, zq3] at hL) | (refine tAl ?_; clear hL; intro _ _ hL _) | (refine tBs ?_; clear hL; intro _ _ hL _ hBs)); simp only [Act.put, zq1, zq2, zq3]))
        go_roundw
        case rel => exact ⟨j + 1, m5, R5, by omega, by go_num, hL.tail, RD.out⟩
        case measure => simp [intOf] <;> omega
      · have b1 := bf h29
        have HW : Hid (valT a = Rat.divInt (a % 4) (2 + a / 4 % 2)) := by show _ = _; unfold valT; rw [if_neg h29]
        have HC4 : Hid (FracC mc4 (.agg #[.bool gc4', .slice Ac4' nc4' cc4', .bool hc4', .slice Bc4' kc4' dc4']) (valT a)) := by rw [HW.out]; exact hc4
        clear h29 hc4
        go_wp2_with (first | ((with_reducible refine kAny ?_); go_skip) | (with_reducible refine stA ?_) | ((first | refine tLd ?_ | ((first | refine tSr ?_ | refine tSt ?_); clear hL; intro _ hL; simp only [splice, zq1, zq2, zq3] at hL) | (refine tAl ?_; clear hL; intro _ _ hL _) | (refine tBs ?_; clear hL; intro _ _ hL _ hBs)); simp only [Act.put, zq1, zq2, zq3]))
        refine goA ?_
        obtain ⟨vs7, r7, z7, y7, l7⟩ := ROW.out
        refine wl_append (A := [_]) hL r7 (wanted_none rfl) rfl ap_Fracs (by omega) rfl rfl (news := [.bool gc4', .slice Ac4' nc4' cc4', .bool hc4', .slice Bc4' kc4' dc4']) rfl ((Blk.sl hBs (n := 4) rfl).le hL.vw.le) rfl (by omega) (by omega) ?_
        clear hL
        intro v1 W5 m5 R5 hL r8 e8
        obtain ⟨A9, c9, rfl, -⟩ := r8.lit
        simp only [List.cons_append, List.nil_append] at hL
        have rd := RowA.snoc (R := FracC) (m := m5) (x := valT a) r8 z7 (y7.mono fun v x hv => hv.le (leX : Le mm m5)) l7 rfl (HC4.out.le leX)
        rw [VT.out] at rd
        have RD := Lib.hid rd
        clear rd r8 r7 z7 y7 l7
        simp only [Act.put, zq1, zq2, zq3]
        go_wp2_with (first | ((with_reducible refine kAny ?_); go_skip) | (with_reducible refine stA ?_) | ((first | refine tLd ?_ | ((first | refine tSr ?_ | refine tSt ?_); clear hL; intro _ hL; simp only [splice, zq1, zq2, zq3] at hL) | (refine tAl ?_; clear hL; intro _ _ hL _) | (refine tBs ?_; clear hL; intro _ _ hL _ hBs)); simp only [Act.put, zq1, zq2, zq3]))
        go_roundw
        case rel => exact ⟨j + 1, m5, R5, by omega, by go_num, hL.tail, RD.out⟩
        case measure => simp [intOf] <;> omega
    · have hjn : j = n := by omega
      subst hjn
      go_wp2_with (first | ((with_reducible refine kAny ?_); go_skip) | (with_reducible refine stA ?_) | ((first | refine tLd ?_ | ((first | refine tSr ?_ | refine tSt ?_); clear hL; intro _ hL; simp only [splice, zq1, zq2, zq3] at hL) | (refine tAl ?_; clear hL; intro _ _ hL _) | (refine tBs ?_; clear hL; intro _ _ hL _ hBs)); simp only [Act.put, zq1, zq2, zq3]))
      obtain ⟨m5, hL5, hle5, hfl, -⟩ := RowA.show (A := []) FracC.mono hL ROW.out
      go_ret
      exact RetV.mk hL5 hfl
end Go.Proofs.YtmhkmmmompediaaGreat

/- Contract of pairingref27.FollowList. -/
namespace Go.Proofs.YtmhkmmmompediaaGreat
open Go.RowKit

set_option maxRecDepth 100000 in
set_option maxHeartbeats 16000000 in
theorem r_FollowList_len (xv : Value) (x : Ms) (V : Option Addr) (n c : Nat) (w m : World) (hV : Vw m w) (hx : MasterR m xv x) (ok : MsOk x) (hn : n ≠ x.cols.length) :
    Calls Tryz.prog 48 #[xv, .slice V n c] w (RetV w m fun _ r => r = .tuple #[.slice none 0 0, .int .i64 12]) := by
  have HX := Lib.hid hx
  obtain ⟨A, nr, ca, B, nc, cb, C, nk, cc, rfl, hx1⟩ := hx.lit
  have KV : Hid (∀ w m', Vw m' w → Le m m' → Calls Tryz.prog 107 #[.agg #[.int .i64 x.nf, .slice A nr ca, .int .i64 x.pen, .slice B nc cb, .slice C nk cc], .slice V n c] w (RetV w m' fun _ r => r = .int .i64 12)) := by
    show ∀ w m', _
    exact fun w m' hV hle => r_valued _ x V n c 12 w m' hV (HX.out.le hle) ok (by rw [if_neg hn])
  have hL := Loc.start hV
  clear hV hx1 HX ok hn
  generalize x.nf = nf at *
  generalize x.pen = pen at *
  go_enter Tryz.func48, Tryz.ntmps48
  go_upto_region 0 with (fail)
  refine wp_region_lit ?_
  refine t_box hL rfl rfl ?_; clear hL; intro Wh2 mh2 hL eh2; simp only [Act.put, zq1, zq2, zq3]
  go_wp2_with (first | ((with_reducible refine kAny ?_); go_skip) | (with_reducible refine stA ?_) | ((first | refine tIx ?_ | refine tFd ?_ | refine tLd ?_ | ((first | refine tSr ?_ | refine tSt ?_); clear hL; intro _ hL; simp only [splice, zq1, zq2, zq3] at hL) | ((first | refine tBx ?_ | refine tAl ?_); clear hL; intro _ _ hL _) | (refine tBs ?_; clear hL; intro _ _ hL _ hBs)); simp only [Act.put, zq1, zq2, zq3]))
  refine (KV.out _ _ hL.vw leX).mono ?_
  rintro e Wc1 ⟨_, mc1, rfl, hE, hMc1, hV, rfl⟩
  replace hL := hL.call hE (by assumption) hV; clear hE hV
  go_wp2_with (first | ((with_reducible refine kAny ?_); go_skip) | (with_reducible refine stA ?_) | ((first | refine tIx ?_ | refine tFd ?_ | refine tLd ?_ | ((first | refine tSr ?_ | refine tSt ?_); clear hL; intro _ hL; simp only [splice, zq1, zq2, zq3] at hL) | ((first | refine tBx ?_ | refine tAl ?_); clear hL; intro _ _ hL _) | (refine tBs ?_; clear hL; intro _ _ hL _ hBs)); simp only [Act.put, zq1, zq2, zq3]))
  go_ret2
  exact RetV.mk hL rfl

set_option maxRecDepth 100000 in
set_option maxHeartbeats 32000000 in
theorem r_FollowList (xv vv : Value) (x : Ms) (us : List Rat) (w m : World) (hV : Vw m w) (hx : MasterR m xv x) (hvv : FracL m vv us) (ok : VOk x us) :
    Calls Tryz.prog 48 #[xv, vv] w (RetV w m fun m' r => ∃ v, r = .tuple #[v, .int .i64 0] ∧ FolL m' v (flY (entS x.cols us x.cols.length) x.rows x.rows)) := by
  have HX := Lib.hid hx
  obtain ⟨nf, rws, pen, cols, cuts⟩ := x
  obtain ⟨va, vb, vc, rfl, ha, hb, hc⟩ := hx
  simp only at ha hb hc
  obtain ⟨A, ca, rfl, hca, ha⟩ := ha.lit
  obtain ⟨B, cb, rfl, hcb, hb⟩ := hb.lit
  obtain ⟨C, cc, rfl, hcc, hc⟩ := hc.lit
  obtain ⟨V, cv, rfl, hcv, hvv⟩ := hvv.lit
  have KV : Hid (∀ w m', Vw m' w → Le m m' → Calls Tryz.prog 107 #[.agg #[.int .i64 nf, .slice A rws.length ca, .int .i64 pen, .slice B cols.length cb, .slice C cuts.length cc], .slice V us.length cv] w (RetV w m' fun _ r => r = .int .i64 0)) := by
    show ∀ w m', _
    exact fun w m' hV hle => r_valued _ _ V us.length cv 0 w m' hV (HX.out.le hle) ok.ms (by rw [if_pos ok.len])
  have HRO := Lib.hid ha
  have HCO := Lib.hid hb
  have HVA := Lib.hid hvv
  have HC : Hid (∀ c ∈ cols, ColOk rws c) := ok.ms.cols
  have HT : Hid (∀ v ∈ us, Tw 18 v) := ok.tw
  have HE : Hid (∀ k p, Tw 117000 (sumAt (entS cols us k) p)) := by
    show ∀ k p, _
    exact fun k p => sum_tw (fun e he => (ok.entS_mem he).1) (Nat.le_trans (ok.entS_len k) (by decide)) p
  have HLN : Hid (∀ c ∈ cols, (opF c.2.1).length ≤ 32) := by
    show ∀ c ∈ cols, _
    exact fun c hc => ok.col_len hc
  have hfew : cols.length ≤ 100 := ok.few
  have hr32 : rws.length ≤ 32 := ok.ms.r1
  have hlen : us.length = cols.length := ok.len
  have HPL : Hid (∀ S a k j, (flY S (rws.take k) rws ++ rowY S a (rws.take j)).length ≤ 1056) := by
    show ∀ S a k j, _
    exact fun S a k j => part_len hr32 k j
  have HPL1 : Hid (∀ S k, (flY S (rws.take k) rws).length ≤ 1056) := by
    show ∀ S k, _
    exact fun S k => flY_len1 hr32 k
  have hL := Loc.start hV
  clear hV ok ha hb hc hvv HX
  rw [hlen] at HVA hcv KV ⊢
  have HNV := Lib.hid hlen
  clear hlen
  simp only
  generalize hn1 : cols.length = nc at *
  have HN1 := Lib.hid hn1
  clear hn1
  generalize hn2 : rws.length = nr at *
  have HN2 := Lib.hid hn2
  clear hn2
  generalize cuts.length = nk at *
  generalize hSS : entS cols us nc = SS at *
  have HSS := Lib.hid hSS
  clear hSS
  go_enter Tryz.func48, Tryz.ntmps48
  go_upto_region 0 with (fail)
  refine wp_region_lit ?_
  refine t_box hL rfl rfl ?_; clear hL; intro Wh2 mh2 hL eh2; simp only [Act.put, zq1, zq2, zq3]
  go_wp2_with (first | ((with_reducible refine kAny ?_); go_skip) | (with_reducible refine stA ?_) | ((first | refine tIx ?_ | refine tFd ?_ | refine tLd ?_ | ((first | refine tSr ?_ | refine tSt ?_); clear hL; intro _ hL; simp only [splice, zq1, zq2, zq3] at hL) | ((first | refine tBx ?_ | refine tAl ?_); clear hL; intro _ _ hL _) | (refine tBs ?_; clear hL; intro _ _ hL _ hBs)); simp only [Act.put, zq1, zq2, zq3]))
  refine (KV.out _ _ hL.vw leX).mono ?_
  rintro e Wc1 ⟨_, mc1, rfl, hE, hMc1, hV, rfl⟩
  replace hL := hL.call hE (by assumption) hV; clear hE hV
  clear KV
  go_wp2_with (first | ((with_reducible refine kAny ?_); go_skip) | (with_reducible refine stA ?_) | ((first | refine tIx ?_ | refine tFd ?_ | refine tLd ?_ | ((first | refine tSr ?_ | refine tSt ?_); clear hL; intro _ hL; simp only [splice, zq1, zq2, zq3] at hL) | ((first | refine tBx ?_ | refine tAl ?_); clear hL; intro _ _ hL _) | (refine tBs ?_; clear hL; intro _ _ hL _ hBs)); simp only [Act.put, zq1, zq2, zq3]))
  go_loopw [7, 8] (fun ov i wr => ∃ (k : Nat) (mm : World) (q : Nat) (Rr : List Lo), k ≤ nr ∧ i = .int .i64 k ∧ Loc w m wr mm ((w.heap.size, 26, #[.int .i64 nf, .slice A nr ca, .int .i64 pen, .slice B nc cb, .slice C nk cc]) :: Rr) ∧ Hid (RowA 139 6 FolR mm ov q (flY SS (rws.take k) rws) Rr)) (fun _ i _ => nr - (intOf i).toNat)
  case atStart => exact ⟨0, _, 0, [], Nat.zero_le _, rfl, hL, RowA.nil⟩
  case round =>
    clear hL
    obtain ⟨k, mm, q, Rr, hk, rfl, hL, row⟩ := hrel
    have hM := hL.mext
    obtain ⟨A3, c3, rfl, row1⟩ := row.out.lit
    have ROW := Lib.hid row1
    clear row row1
    by_cases hlt : k < nr
    · obtain ⟨a, hra⟩ := at_some HN2 hlt
      have HFS := Lib.hid (flY_step (S := SS) (cs := rws) hra)
      obtain ⟨b3, o3, rfl, hc3⟩ := IntL.at_ HRO.out hra
      have hlt' : (k : Int) < (nr : Int) := by omega
      clear hra
      go_wp2_with (first | ((with_reducible refine kAny ?_); go_skip) | (with_reducible refine stA ?_) | ((first | refine tIx ?_ | refine tFd ?_ | refine tLd ?_ | ((first | refine tSr ?_ | refine tSt ?_); clear hL; intro _ hL; simp only [splice, zq1, zq2, zq3] at hL) | ((first | refine tBx ?_ | refine tAl ?_); clear hL; intro _ _ hL _) | (refine tBs ?_; clear hL; intro _ _ hL _ hBs)); simp only [Act.put, zq1, zq2, zq3]))
      go_loopw [7, 9] (fun ov i wr => ∃ (j : Nat) (m2 : World) (q2 : Nat) (R2 : List Lo), j ≤ nr ∧ i = .int .i64 j ∧ Loc w m wr m2 ((w.heap.size, 26, #[.int .i64 nf, .slice (some ⟨b3, o3, none⟩) nr ca, .int .i64 pen, .slice B nc cb, .slice C nk cc]) :: R2) ∧ Hid (RowA 139 6 FolR m2 ov q2 (flY SS (rws.take k) rws ++ rowY SS a (rws.take j)) R2)) (fun _ i _ => nr - (intOf i).toNat)
      case atStart => exact ⟨0, _, q, Rr, Nat.zero_le _, rfl, hL, by rw [show rowY SS a (rws.take 0) = [] from rfl, List.append_nil]; exact ROW.out⟩
      case round =>
        clear hL ROW hM
        obtain ⟨j, m2, q2, R2, hj, rfl, hL, row⟩ := hrel
        have hM := hL.mext
        obtain ⟨A4, c4, rfl, row1⟩ := row.out.lit
        have hq2 : q2 ≤ 1056 := by
          have h1 := row1.len
          have h2 := HPL.out SS a k j
          omega
        have ROW := Lib.hid row1
        clear row row1
        by_cases hlt2 : j < nr
        · obtain ⟨c, hrc⟩ := at_some HN2 hlt2
          have HRS := Lib.hid (rowY_step (S := SS) (a := a) hrc)
          obtain ⟨b4, o4, e4, hc4⟩ := IntL.at_ HRO.out hrc
          obtain ⟨rfl, rfl⟩ : b3 = b4 ∧ o3 = o4 := by simpa using e4
          have hlt2' : (j : Int) < (nr : Int) := by omega
          clear hrc e4
          go_wp2_with (first | ((with_reducible refine kAny ?_); go_skip) | (with_reducible refine stA ?_) | ((first | refine tIx ?_ | refine tFd ?_ | refine tLd ?_ | ((first | refine tSr ?_ | refine tSt ?_); clear hL; intro _ hL; simp only [splice, zq1, zq2, zq3] at hL) | ((first | refine tBx ?_ | refine tAl ?_); clear hL; intro _ _ hL _) | (refine tBs ?_; clear hL; intro _ _ hL _ hBs)); simp only [Act.put, zq1, zq2, zq3]))
          refine (r_Int 0 _ _ hL.vw (by decide) (by decide)).mono ?_
          rintro e Ws0 ⟨vs0, ms0, rfl, hE, hMs0, hV, hs0⟩
          replace hL := hL.call hE (by assumption) hV; clear hE hV
          obtain ⟨gs0', As0', ns0', cs0', hs0', Bs0', ks0', ds0', rfl, hs0⟩ := hs0.lit
          go_wp2_with (first | ((with_reducible refine kAny ?_); go_skip) | (with_reducible refine stA ?_) | ((first | refine tIx ?_ | refine tFd ?_ | refine tLd ?_ | ((first | refine tSr ?_ | refine tSt ?_); clear hL; intro _ hL; simp only [splice, zq1, zq2, zq3] at hL) | ((first | refine tBx ?_ | refine tAl ?_); clear hL; intro _ _ hL _) | (refine tBs ?_; clear hL; intro _ _ hL _ hBs)); simp only [Act.put, zq1, zq2, zq3]))
          go_loopw [11] (fun i wr => ∃ (t : Nat) (m3 : World) (gs fs : Bool) (As Bs : Option Addr) (ns cs ps qs : Nat), t ≤ nc ∧ i = .int .i64 t ∧ Loc w m wr m3 ((Ws0.heap.size, 39, #[.bool gs, .slice As ns cs, .bool fs, .slice Bs ps qs]) :: (w.heap.size, 26, #[.int .i64 nf, .slice (some ⟨b3, o3, none⟩) nr ca, .int .i64 pen, .slice B nc cb, .slice C nk cc]) :: R2) ∧ Hid (FracC m3 (.agg #[.bool gs, .slice As ns cs, .bool fs, .slice Bs ps qs]) (sumAt (entS cols us t) (a, c))) ∧ Hid (Ext m2 m3)) (fun i _ => nc - (intOf i).toNat)
          case atStart => exact ⟨0, _, _, _, _, _, _, _, _, _, Nat.zero_le _, rfl, hL, by rw [sum_zero]; exact hs0.le leX, exX⟩
          case round =>
            clear hL
            obtain ⟨t, m3, gs, fs, As, Bs, ns, cs, ps, qs, ht, rfl, hL, HS, HX3⟩ := hrel
            have hX3 := HX3.out
            have hM3 := hL.mext
            by_cases hlt3 : t < nc
            · have hlt3' : (t : Int) < (nc : Int) := by omega
              obtain ⟨⟨s, ds, cost⟩, hx⟩ := at_some HN1 hlt3
              obtain ⟨q, hq⟩ := at_some HNV hlt3
              have hco := HCO.out
              have hva := HVA.out
              obtain ⟨b1, o1, D, cd, rfl, hds, hr1⟩ := ColL.at_ hco hx
              obtain ⟨b2, o2, g2, A2, n2, c2, h2, B2, k2, d2, rfl, hp2, hr2⟩ := FracL.at_ hva hq
              obtain ⟨i1, i2, i3, i4, i5, i6, i7⟩ := HC.out _ (List.mem_of_getElem? hx)
              simp only at hds hr1 i1 i2 i3 i4 i5 i6 i7
              have hr3 := range_two hr1
              have HD := Lib.hid hds
              have H3 := Lib.hid i3
              have H4 := Lib.hid i4
              have HP2 := Lib.hid hp2
              have HTQ : Hid (Fit 200 q) := (HT.out q (List.mem_of_getElem? hq)).fit (by decide)
              have HTS : Hid (Fit 200 (sumAt (entS cols us t) (a, c))) := (HE.out t (a, c)).fit (by decide)
              have H32 : Hid ((opF ds).length ≤ 1000000) := Nat.le_trans (HLN.out _ (List.mem_of_getElem? hx)) (by decide)
              have HST := Lib.hid (sum_step hx hq i7 (a, c))
              simp only at HST
              clear hx hq hds hp2 i1 i2 i3 i4 i5 i6 i7 hco hva hr1
              generalize hnd : ds.length = nd at *
              have HND := Lib.hid hnd
              clear hnd
              by_cases hp : (a, c) ∈ pairsOf (opF ds)
              · have KF : Hid (∀ v w m', Vw m' w → IntL m' v (opF ds) → Calls Tryz.prog 114 #[v, .int .i64 a, .int .i64 c] w (RetV w m' fun _ r => r = .bool true)) := by
                  show ∀ v w m', _
                  intro v w m' hV h
                  have h1 := r_FollowsB v (opF ds) a c w m' hV h H32.out
                  rwa [decide_eq_true hp] at h1
                rw [if_pos hp] at HST
                clear hp
                go_upto_region 15 with ((first | ((with_reducible refine kAny ?_); go_skip) | (with_reducible refine stA ?_) | ((first | refine tIx ?_ | refine tFd ?_ | refine tLd ?_ | ((first | refine tSr ?_ | refine tSt ?_); clear hL; intro _ hL; simp only [splice, zq1, zq2, zq3] at hL) | ((first | refine tBx ?_ | refine tAl ?_); clear hL; intro _ _ hL _) | (refine tBs ?_; clear hL; intro _ _ hL _ hBs)); simp only [Act.put, zq1, zq2, zq3])))
                (try simp only [eq_self] at *)
                refine wp_region_by2 18 [false, false, false, false, false, false, false, false, false, false, false, false, false, false, false, false, false, false] [false, false, false, false, false, false, false, false, false, false, false, false, false, false, false, false, false, false] [(fun v _ _ => v = ?c15_0a), (fun v _ _ => v = ?c15_1a), (fun v _ _ => v = ?c15_2a), (fun v _ _ => v = ?c15_3a), (fun v _ _ => v = ?c15_4a), (fun v _ _ => v = ?c15_5a), Of (fun um v => IntL um v (opF ds)), (fun v _ _ => v = ?c15_7a), (fun v _ _ => v = ?c15_8a), (fun v _ _ => v = ?c15_9a), (fun v _ _ => v = ?c15_10a), (fun v _ _ => v = ?c15_11a), (fun v _ _ => v = ?c15_12a), (fun v _ _ => v = ?c15_13a), (fun v _ _ => v = ?c15_14a), (fun v _ _ => v = ?c15_15a), (fun v _ _ => v = ?c15_16a), Is (.bool true)] hL.vw mixed [40, 41, 42, 43, 44, 45, 46, 47, 48, 49, 50, 51, 52, 53, 54, 55, 56, 57] _ (by kernel_rfl) (fun vs => by simp only [lay, Act.put, zq1, zq2, zq3]; rfl) (by kernel_rfl) (by decide) (by decide) ?s15a ?l15a ?r15a
                case s15a =>
                  refine ⟨?_, ?_, ?_, ?_, ?_, ?_, ?_, ?_, ?_, ?_, ?_, ?_, ?_, ?_, ?_, ?_, ?_, ?_, trivial⟩
                  · intro vs W1 m1 hE hM hV hD; clear hD; replace hL := hL.call hE hM hV
                    exact sFd
                  · intro vs W1 m1 hE hM hV hD; obtain ⟨⟨_, _, -, -, f40⟩, -⟩ := hD; have f40 : vs 40 = _ := f40; generalize vs 40 = x40 at f40 ⊢; subst x40; replace hL := hL.call hE hM hV
                    exact sLd
                  · intro vs W1 m1 hE hM hV hD; clear hD; replace hL := hL.call hE hM hV
                    exact sPu
                  · intro vs W1 m1 hE hM hV hD; obtain ⟨⟨_, _, -, -, f41⟩, ⟨_, _, -, -, f42⟩, -⟩ := hD; have f41 : vs 41 = _ := f41; generalize vs 41 = x41 at f41 ⊢; subst x41; have f42 : vs 42 = _ := f42; generalize vs 42 = x42 at f42 ⊢; subst x42; replace hL := hL.call hE hM hV
                    exact sIx
                  · intro vs W1 m1 hE hM hV hD; obtain ⟨⟨_, _, -, -, f43⟩, -⟩ := hD; have f43 : vs 43 = _ := f43; generalize vs 43 = x43 at f43 ⊢; subst x43; replace hL := hL.call hE hM hV
                    exact sFd
                  · intro vs W1 m1 hE hM hV hD; obtain ⟨⟨_, _, -, -, f44⟩, -⟩ := hD; have f44 : vs 44 = _ := f44; generalize vs 44 = x44 at f44 ⊢; subst x44; replace hL := hL.call hE hM hV
                    exact sLd
                  · intro vs W1 m1 hE hM hV hD; obtain ⟨⟨_, _, -, -, f45⟩, -⟩ := hD; have f45 : vs 45 = _ := f45; generalize vs 45 = x45 at f45 ⊢; subst x45
                    go_wp2_with fail
                    refine (r_Operated s _ ds _ _ hV (DutsL.le HD.out leX) (by rw [HND.out]; exact H3.out) H4.out).mono ?_
                    rintro e W2 ⟨v, m2, rfl, hE2, hM2, hV2, h⟩
                    go_wp2_with fail
                    refine One2.call hE2 hM2 hV2 ?_; first | exact h | exact rfl
                  · intro vs W1 m1 hE hM hV hD; clear hD; replace hL := hL.call hE hM hV
                    exact sFd
                  · intro vs W1 m1 hE hM hV hD; obtain ⟨⟨_, _, -, -, f47⟩, -⟩ := hD; have f47 : vs 47 = _ := f47; generalize vs 47 = x47 at f47 ⊢; subst x47; replace hL := hL.call hE hM hV
                    exact sLd
                  · intro vs W1 m1 hE hM hV hD; clear hD; replace hL := hL.call hE hM hV
                    exact sPu
                  · intro vs W1 m1 hE hM hV hD; obtain ⟨⟨_, _, -, -, f48⟩, ⟨_, _, -, -, f49⟩, -⟩ := hD; have f48 : vs 48 = _ := f48; generalize vs 48 = x48 at f48 ⊢; subst x48; have f49 : vs 49 = _ := f49; generalize vs 49 = x49 at f49 ⊢; subst x49; replace hL := hL.call hE hM hV
                    exact sIx
                  · intro vs W1 m1 hE hM hV hD; obtain ⟨⟨_, _, -, -, f50⟩, -⟩ := hD; have f50 : vs 50 = _ := f50; generalize vs 50 = x50 at f50 ⊢; subst x50; replace hL := hL.call hE hM hV
                    exact sLd
                  · intro vs W1 m1 hE hM hV hD; clear hD; replace hL := hL.call hE hM hV
                    exact sFd
                  · intro vs W1 m1 hE hM hV hD; obtain ⟨⟨_, _, -, -, f52⟩, -⟩ := hD; have f52 : vs 52 = _ := f52; generalize vs 52 = x52 at f52 ⊢; subst x52; replace hL := hL.call hE hM hV
                    exact sLd
                  · intro vs W1 m1 hE hM hV hD; clear hD; replace hL := hL.call hE hM hV
                    exact sPu
                  · intro vs W1 m1 hE hM hV hD; obtain ⟨⟨_, _, -, -, f53⟩, ⟨_, _, -, -, f54⟩, -⟩ := hD; have f53 : vs 53 = _ := f53; generalize vs 53 = x53 at f53 ⊢; subst x53; have f54 : vs 54 = _ := f54; generalize vs 54 = x54 at f54 ⊢; subst x54; replace hL := hL.call hE hM hV
                    exact sIx
                  · intro vs W1 m1 hE hM hV hD; obtain ⟨⟨_, _, -, -, f55⟩, -⟩ := hD; have f55 : vs 55 = _ := f55; generalize vs 55 = x55 at f55 ⊢; subst x55; replace hL := hL.call hE hM hV
                    exact sLd
                  · intro vs W1 m1 hE hM hV hD; obtain ⟨⟨_, _, -, i46, f46⟩, ⟨_, _, -, -, f51⟩, ⟨_, _, -, -, f56⟩, -, -⟩ := hD; have f51 : vs 51 = _ := f51; generalize vs 51 = x51 at f51 ⊢; subst x51; have f56 : vs 56 = _ := f56; generalize vs 56 = x56 at f56 ⊢; subst x56; have f46 : IntL _ (vs 46) (opF ds) := f46; replace f46 := f46.le i46.le; clear i46
                    go_wp2_with fail
                    refine (KF.out _ _ _ hV f46).mono ?_
                    rintro e W2 ⟨v, m2, rfl, hE2, hM2, hV2, h⟩
                    go_wp2_with fail
                    refine One2.call hE2 hM2 hV2 ?_; first | exact h | exact rfl
                case l15a =>
                  refine ⟨fun h => (by cases h), fun h => (by cases h), fun h => (by cases h), fun h => (by cases h), fun h => (by cases h), fun h => (by cases h), fun h => (by cases h), fun h => (by cases h), fun h => (by cases h), fun h => (by cases h), fun h => (by cases h), fun h => (by cases h), fun h => (by cases h), fun h => (by cases h), fun h => (by cases h), fun h => (by cases h), fun h => (by cases h), fun h => (by cases h), trivial⟩
                intro vs W1 m1 hE hM hV hF hD
                clear hD
                obtain ⟨⟨_, _, -, -, f40⟩, ⟨_, _, -, -, f41⟩, ⟨_, _, -, -, f42⟩, ⟨_, _, -, -, f43⟩, ⟨_, _, -, -, f44⟩, ⟨_, _, -, -, f45⟩, ⟨_, _, -, i46, f46⟩, ⟨_, _, -, -, f47⟩, ⟨_, _, -, -, f48⟩, ⟨_, _, -, -, f49⟩, ⟨_, _, -, -, f50⟩, ⟨_, _, -, -, f51⟩, ⟨_, _, -, -, f52⟩, ⟨_, _, -, -, f53⟩, ⟨_, _, -, -, f54⟩, ⟨_, _, -, -, f55⟩, ⟨_, _, -, -, f56⟩, ⟨_, _, -, -, f57⟩, -⟩ := hF
                replace hL := hL.call hE hM hV
                have f40 : vs 40 = _ := f40
                generalize vs 40 = x40 at f40 ⊢
                subst x40
                have f41 : vs 41 = _ := f41
                generalize vs 41 = x41 at f41 ⊢
                subst x41
                have f42 : vs 42 = _ := f42
                generalize vs 42 = x42 at f42 ⊢
                subst x42
                have f43 : vs 43 = _ := f43
                generalize vs 43 = x43 at f43 ⊢
                subst x43
                have f44 : vs 44 = _ := f44
                generalize vs 44 = x44 at f44 ⊢
                subst x44
                have f45 : vs 45 = _ := f45
                generalize vs 45 = x45 at f45 ⊢
                subst x45
                replace f46 : IntL _ (vs 46) (opF ds) := f46
                replace f46 := f46.le i46.le
                clear i46
                have f47 : vs 47 = _ := f47
                generalize vs 47 = x47 at f47 ⊢
                subst x47
                have f48 : vs 48 = _ := f48
                generalize vs 48 = x48 at f48 ⊢
                subst x48
                have f49 : vs 49 = _ := f49
                generalize vs 49 = x49 at f49 ⊢
                subst x49
                have f50 : vs 50 = _ := f50
                generalize vs 50 = x50 at f50 ⊢
                subst x50
                have f51 : vs 51 = _ := f51
                generalize vs 51 = x51 at f51 ⊢
                subst x51
                have f52 : vs 52 = _ := f52
                generalize vs 52 = x52 at f52 ⊢
                subst x52
                have f53 : vs 53 = _ := f53
                generalize vs 53 = x53 at f53 ⊢
                subst x53
                have f54 : vs 54 = _ := f54
                generalize vs 54 = x54 at f54 ⊢
                subst x54
                have f55 : vs 55 = _ := f55
                generalize vs 55 = x55 at f55 ⊢
                subst x55
                have f56 : vs 56 = _ := f56
                generalize vs 56 = x56 at f56 ⊢
                subst x56
                have f57 : vs 57 = _ := f57
                generalize vs 57 = x57 at f57 ⊢
                subst x57
                clear hE hV
                simp only [List.drop_succ_cons, List.drop_zero]
                go_wp2_with (first | ((with_reducible refine kAny ?_); go_skip) | (with_reducible refine stA ?_) | ((first | refine tIx ?_ | refine tFd ?_ | refine tLd ?_ | ((first | refine tSr ?_ | refine tSt ?_); clear hL; intro _ hL; simp only [splice, zq1, zq2, zq3] at hL) | ((first | refine tBx ?_ | refine tAl ?_); clear hL; intro _ _ hL _) | (refine tBs ?_; clear hL; intro _ _ hL _ hBs)); simp only [Act.put, zq1, zq2, zq3]))
                refine QN.mk ?_
                go_upto_region 16 with ((first | ((with_reducible refine kAny ?_); go_skip) | (with_reducible refine stA ?_) | ((first | refine tIx ?_ | refine tFd ?_ | refine tLd ?_ | ((first | refine tSr ?_ | refine tSt ?_); clear hL; intro _ hL; simp only [splice, zq1, zq2, zq3] at hL) | ((first | refine tBx ?_ | refine tAl ?_); clear hL; intro _ _ hL _) | (refine tBs ?_; clear hL; intro _ _ hL _ hBs)); simp only [Act.put, zq1, zq2, zq3])))
                refine wp_region_by2 6 [false, false, false, false, false, false] [false, false, false, false, false, false] [(fun v _ _ => v = ?c16_0a), (fun v _ _ => v = ?c16_1a), (fun v _ _ => v = ?c16_2a), (fun v _ _ => v = ?c16_3a), (fun v _ _ => v = ?c16_4a), Of (fun um v => FracC um v (sumAt (entS cols us t) (a, c) + q))] hL.vw mixed [58, 59, 60, 61, 62, 63] _ (by kernel_rfl) (fun vs => by simp only [lay, Act.put, zq1, zq2, zq3]; rfl) (by kernel_rfl) (by decide) (by decide) ?s16a ?l16a ?r16a
                case s16a =>
                  refine ⟨?_, ?_, ?_, ?_, ?_, ?_, trivial⟩
                  · intro vs W1 m1 hE hM hV hD; clear hD; replace hL := hL.call hE hM hV
                    exact sLd
                  · intro vs W1 m1 hE hM hV hD; clear hD; replace hL := hL.call hE hM hV
                    exact sPu
                  · intro vs W1 m1 hE hM hV hD; clear hD; replace hL := hL.call hE hM hV
                    exact sPu
                  · intro vs W1 m1 hE hM hV hD; obtain ⟨⟨_, _, -, -, f59⟩, ⟨_, _, -, -, f60⟩, -⟩ := hD; have f59 : vs 59 = _ := f59; generalize vs 59 = x59 at f59 ⊢; subst x59; have f60 : vs 60 = _ := f60; generalize vs 60 = x60 at f60 ⊢; subst x60; replace hL := hL.call hE hM hV
                    exact sIx
                  · intro vs W1 m1 hE hM hV hD; obtain ⟨⟨_, _, -, -, f61⟩, -⟩ := hD; have f61 : vs 61 = _ := f61; generalize vs 61 = x61 at f61 ⊢; subst x61; replace hL := hL.call hE hM hV
                    exact sLd
                  · intro vs W1 m1 hE hM hV hD; obtain ⟨⟨_, _, -, -, f58⟩, ⟨_, _, -, -, f62⟩, -⟩ := hD; have f58 : vs 58 = _ := f58; generalize vs 58 = x58 at f58 ⊢; subst x58; have f62 : vs 62 = _ := f62; generalize vs 62 = x62 at f62 ⊢; subst x62
                    go_wp2_with fail
                    refine (r_AddC _ _ _ _ _ _ hV (HS.out.le leX) (HP2.out.le leX) HTS.out HTQ.out).mono ?_
                    rintro e W2 ⟨v, m2, rfl, hE2, hM2, hV2, h⟩
                    go_wp2_with fail
                    refine One2.call hE2 hM2 hV2 ?_; first | exact h | exact rfl
                case l16a =>
                  refine ⟨fun h => (by cases h), fun h => (by cases h), fun h => (by cases h), fun h => (by cases h), fun h => (by cases h), fun h => (by cases h), trivial⟩
                intro vs W1 m1 hE hM hV hF hD
                clear hD
                obtain ⟨-, -, -, -, -, ⟨_, _, -, i63, f63⟩, -⟩ := hF
                replace hL := hL.call hE hM hV
                replace f63 : FracC _ (vs 63) (sumAt (entS cols us t) (a, c) + q) := f63
                replace f63 := f63.le i63.le
                clear i63
                obtain ⟨g63, A63, n63, c63, h63, B63, k63, d63, e63, f63⟩ := f63.lit
                generalize vs 63 = x63 at e63 ⊢
                subst x63
                clear hE hV
                simp only [List.drop_succ_cons, List.drop_zero]
                go_wp2_with (first | ((with_reducible refine kAny ?_); go_skip) | (with_reducible refine stA ?_) | ((first | refine tIx ?_ | refine tFd ?_ | refine tLd ?_ | ((first | refine tSr ?_ | refine tSt ?_); clear hL; intro _ hL; simp only [splice, zq1, zq2, zq3] at hL) | ((first | refine tBx ?_ | refine tAl ?_); clear hL; intro _ _ hL _) | (refine tBs ?_; clear hL; intro _ _ hL _ hBs)); simp only [Act.put, zq1, zq2, zq3]))
                refine QN.mk ?_
                go_wp2_with (first | ((with_reducible refine kAny ?_); go_skip) | (with_reducible refine stA ?_) | ((first | refine tIx ?_ | refine tFd ?_ | refine tLd ?_ | ((first | refine tSr ?_ | refine tSt ?_); clear hL; intro _ hL; simp only [splice, zq1, zq2, zq3] at hL) | ((first | refine tBx ?_ | refine tAl ?_); clear hL; intro _ _ hL _) | (refine tBs ?_; clear hL; intro _ _ hL _ hBs)); simp only [Act.put, zq1, zq2, zq3]))
                go_roundw
                case rel => exact ⟨t + 1, _, _, _, _, _, _, _, _, _, by omega, by go_num, hL, by rw [HST.out]; exact f63.le leX, hX3.trans exX⟩
                case measure => simp [intOf] <;> omega
              · have KF : Hid (∀ v w m', Vw m' w → IntL m' v (opF ds) → Calls Tryz.prog 114 #[v, .int .i64 a, .int .i64 c] w (RetV w m' fun _ r => r = .bool false)) := by
                  show ∀ v w m', _
                  intro v w m' hV h
                  have h1 := r_FollowsB v (opF ds) a c w m' hV h H32.out
                  rwa [decide_eq_false hp] at h1
                rw [if_neg hp] at HST
                clear hp
                go_upto_region 15 with ((first | ((with_reducible refine kAny ?_); go_skip) | (with_reducible refine stA ?_) | ((first | refine tIx ?_ | refine tFd ?_ | refine tLd ?_ | ((first | refine tSr ?_ | refine tSt ?_); clear hL; intro _ hL; simp only [splice, zq1, zq2, zq3] at hL) | ((first | refine tBx ?_ | refine tAl ?_); clear hL; intro _ _ hL _) | (refine tBs ?_; clear hL; intro _ _ hL _ hBs)); simp only [Act.put, zq1, zq2, zq3])))
                (try simp only [eq_self] at *)
                refine wp_region_by2 18 [false, false, false, false, false, false, false, false, false, false, false, false, false, false, false, false, false, false] [false, false, false, false, false, false, false, false, false, false, false, false, false, false, false, false, false, false] [(fun v _ _ => v = ?c15_0b), (fun v _ _ => v = ?c15_1b), (fun v _ _ => v = ?c15_2b), (fun v _ _ => v = ?c15_3b), (fun v _ _ => v = ?c15_4b), (fun v _ _ => v = ?c15_5b), Of (fun um v => IntL um v (opF ds)), (fun v _ _ => v = ?c15_7b), (fun v _ _ => v = ?c15_8b), (fun v _ _ => v = ?c15_9b), (fun v _ _ => v = ?c15_10b), (fun v _ _ => v = ?c15_11b), (fun v _ _ => v = ?c15_12b), (fun v _ _ => v = ?c15_13b), (fun v _ _ => v = ?c15_14b), (fun v _ _ => v = ?c15_15b), (fun v _ _ => v = ?c15_16b), Is (.bool false)] hL.vw mixed [40, 41, 42, 43, 44, 45, 46, 47, 48, 49, 50, 51, 52, 53, 54, 55, 56, 57] _ (by kernel_rfl) (fun vs => by simp only [lay, Act.put, zq1, zq2, zq3]; rfl) (by kernel_rfl) (by decide) (by decide) ?s15b ?l15b ?r15b
                case s15b =>
                  refine ⟨?_, ?_, ?_, ?_, ?_, ?_, ?_, ?_, ?_, ?_, ?_, ?_, ?_, ?_, ?_, ?_, ?_, ?_, trivial⟩
                  · intro vs W1 m1 hE hM hV hD; clear hD; replace hL := hL.call hE hM hV
                    exact sFd
                  · intro vs W1 m1 hE hM hV hD; obtain ⟨⟨_, _, -, -, f40⟩, -⟩ := hD; have f40 : vs 40 = _ := f40; generalize vs 40 = x40 at f40 ⊢; subst x40; replace hL := hL.call hE hM hV
                    exact sLd
                  · intro vs W1 m1 hE hM hV hD; clear hD; replace hL := hL.call hE hM hV
                    exact sPu
                  · intro vs W1 m1 hE hM hV hD; obtain ⟨⟨_, _, -, -, f41⟩, ⟨_, _, -, -, f42⟩, -⟩ := hD; have f41 : vs 41 = _ := f41; generalize vs 41 = x41 at f41 ⊢; subst x41; have f42 : vs 42 = _ := f42; generalize vs 42 = x42 at f42 ⊢; subst x42; replace hL := hL.call hE hM hV
                    exact sIx
                  · intro vs W1 m1 hE hM hV hD; obtain ⟨⟨_, _, -, -, f43⟩, -⟩ := hD; have f43 : vs 43 = _ := f43; generalize vs 43 = x43 at f43 ⊢; subst x43; replace hL := hL.call hE hM hV
                    exact sFd
                  · intro vs W1 m1 hE hM hV hD; obtain ⟨⟨_, _, -, -, f44⟩, -⟩ := hD; have f44 : vs 44 = _ := f44; generalize vs 44 = x44 at f44 ⊢; subst x44; replace hL := hL.call hE hM hV
                    exact sLd
                  · intro vs W1 m1 hE hM hV hD; obtain ⟨⟨_, _, -, -, f45⟩, -⟩ := hD; have f45 : vs 45 = _ := f45; generalize vs 45 = x45 at f45 ⊢; subst x45
                    go_wp2_with fail
                    refine (r_Operated s _ ds _ _ hV (DutsL.le HD.out leX) (by rw [HND.out]; exact H3.out) H4.out).mono ?_
                    rintro e W2 ⟨v, m2, rfl, hE2, hM2, hV2, h⟩
                    go_wp2_with fail
                    refine One2.call hE2 hM2 hV2 ?_; first | exact h | exact rfl
                  · intro vs W1 m1 hE hM hV hD; clear hD; replace hL := hL.call hE hM hV
                    exact sFd
                  · intro vs W1 m1 hE hM hV hD; obtain ⟨⟨_, _, -, -, f47⟩, -⟩ := hD; have f47 : vs 47 = _ := f47; generalize vs 47 = x47 at f47 ⊢; subst x47; replace hL := hL.call hE hM hV
                    exact sLd
                  · intro vs W1 m1 hE hM hV hD; clear hD; replace hL := hL.call hE hM hV
                    exact sPu
                  · intro vs W1 m1 hE hM hV hD; obtain ⟨⟨_, _, -, -, f48⟩, ⟨_, _, -, -, f49⟩, -⟩ := hD; have f48 : vs 48 = _ := f48; generalize vs 48 = x48 at f48 ⊢; subst x48; have f49 : vs 49 = _ := f49; generalize vs 49 = x49 at f49 ⊢; subst x49; replace hL := hL.call hE hM hV
                    exact sIx
                  · intro vs W1 m1 hE hM hV hD; obtain ⟨⟨_, _, -, -, f50⟩, -⟩ := hD; have f50 : vs 50 = _ := f50; generalize vs 50 = x50 at f50 ⊢; subst x50; replace hL := hL.call hE hM hV
                    exact sLd
                  · intro vs W1 m1 hE hM hV hD; clear hD; replace hL := hL.call hE hM hV
                    exact sFd
                  · intro vs W1 m1 hE hM hV hD; obtain ⟨⟨_, _, -, -, f52⟩, -⟩ := hD; have f52 : vs 52 = _ := f52; generalize vs 52 = x52 at f52 ⊢; subst x52; replace hL := hL.call hE hM hV
                    exact sLd
                  · intro vs W1 m1 hE hM hV hD; clear hD; replace hL := hL.call hE hM hV
                    exact sPu
                  · intro vs W1 m1 hE hM hV hD; obtain ⟨⟨_, _, -, -, f53⟩, ⟨_, _, -, -, f54⟩, -⟩ := hD; have f53 : vs 53 = _ := f53; generalize vs 53 = x53 at f53 ⊢; subst x53; have f54 : vs 54 = _ := f54; generalize vs 54 = x54 at f54 ⊢; subst x54; replace hL := hL.call hE hM hV
                    exact sIx
                  · intro vs W1 m1 hE hM hV hD; obtain ⟨⟨_, _, -, -, f55⟩, -⟩ := hD; have f55 : vs 55 = _ := f55; generalize vs 55 = x55 at f55 ⊢; subst x55; replace hL := hL.call hE hM hV
                    exact sLd
                  · intro vs W1 m1 hE hM hV hD; obtain ⟨⟨_, _, -, i46, f46⟩, ⟨_, _, -, -, f51⟩, ⟨_, _, -, -, f56⟩, -, -⟩ := hD; have f51 : vs 51 = _ := f51; generalize vs 51 = x51 at f51 ⊢; subst x51; have f56 : vs 56 = _ := f56; generalize vs 56 = x56 at f56 ⊢; subst x56; have f46 : IntL _ (vs 46) (opF ds) := f46; replace f46 := f46.le i46.le; clear i46
                    go_wp2_with fail
                    refine (KF.out _ _ _ hV f46).mono ?_
                    rintro e W2 ⟨v, m2, rfl, hE2, hM2, hV2, h⟩
                    go_wp2_with fail
                    refine One2.call hE2 hM2 hV2 ?_; first | exact h | exact rfl
                case l15b =>
                  refine ⟨fun h => (by cases h), fun h => (by cases h), fun h => (by cases h), fun h => (by cases h), fun h => (by cases h), fun h => (by cases h), fun h => (by cases h), fun h => (by cases h), fun h => (by cases h), fun h => (by cases h), fun h => (by cases h), fun h => (by cases h), fun h => (by cases h), fun h => (by cases h), fun h => (by cases h), fun h => (by cases h), fun h => (by cases h), fun h => (by cases h), trivial⟩
                intro vs W1 m1 hE hM hV hF hD
                clear hD
                obtain ⟨⟨_, _, -, -, f40⟩, ⟨_, _, -, -, f41⟩, ⟨_, _, -, -, f42⟩, ⟨_, _, -, -, f43⟩, ⟨_, _, -, -, f44⟩, ⟨_, _, -, -, f45⟩, ⟨_, _, -, i46, f46⟩, ⟨_, _, -, -, f47⟩, ⟨_, _, -, -, f48⟩, ⟨_, _, -, -, f49⟩, ⟨_, _, -, -, f50⟩, ⟨_, _, -, -, f51⟩, ⟨_, _, -, -, f52⟩, ⟨_, _, -, -, f53⟩, ⟨_, _, -, -, f54⟩, ⟨_, _, -, -, f55⟩, ⟨_, _, -, -, f56⟩, ⟨_, _, -, -, f57⟩, -⟩ := hF
                replace hL := hL.call hE hM hV
                have f40 : vs 40 = _ := f40
                generalize vs 40 = x40 at f40 ⊢
                subst x40
                have f41 : vs 41 = _ := f41
                generalize vs 41 = x41 at f41 ⊢
                subst x41
                have f42 : vs 42 = _ := f42
                generalize vs 42 = x42 at f42 ⊢
                subst x42
                have f43 : vs 43 = _ := f43
                generalize vs 43 = x43 at f43 ⊢
                subst x43
                have f44 : vs 44 = _ := f44
                generalize vs 44 = x44 at f44 ⊢
                subst x44
                have f45 : vs 45 = _ := f45
                generalize vs 45 = x45 at f45 ⊢
                subst x45
                replace f46 : IntL _ (vs 46) (opF ds) := f46
                replace f46 := f46.le i46.le
                clear i46
                have f47 : vs 47 = _ := f47
                generalize vs 47 = x47 at f47 ⊢
                subst x47
                have f48 : vs 48 = _ := f48
                generalize vs 48 = x48 at f48 ⊢
                subst x48
                have f49 : vs 49 = _ := f49
                generalize vs 49 = x49 at f49 ⊢
                subst x49
                have f50 : vs 50 = _ := f50
                generalize vs 50 = x50 at f50 ⊢
                subst x50
                have f51 : vs 51 = _ := f51
                generalize vs 51 = x51 at f51 ⊢
                subst x51
                have f52 : vs 52 = _ := f52
                generalize vs 52 = x52 at f52 ⊢
                subst x52
                have f53 : vs 53 = _ := f53
                generalize vs 53 = x53 at f53 ⊢
                subst x53
                have f54 : vs 54 = _ := f54
                generalize vs 54 = x54 at f54 ⊢
                subst x54
                have f55 : vs 55 = _ := f55
                generalize vs 55 = x55 at f55 ⊢
                subst x55
                have f56 : vs 56 = _ := f56
                generalize vs 56 = x56 at f56 ⊢
                subst x56
                have f57 : vs 57 = _ := f57
                generalize vs 57 = x57 at f57 ⊢
                subst x57
                clear hE hV
                simp only [List.drop_succ_cons, List.drop_zero]
                go_wp2_with (first | ((with_reducible refine kAny ?_); go_skip) | (with_reducible refine stA ?_) | ((first | refine tIx ?_ | refine tFd ?_ | refine tLd ?_ | ((first | refine tSr ?_ | refine tSt ?_); clear hL; intro _ hL; simp only [splice, zq1, zq2, zq3] at hL) | ((first | refine tBx ?_ | refine tAl ?_); clear hL; intro _ _ hL _) | (refine tBs ?_; clear hL; intro _ _ hL _ hBs)); simp only [Act.put, zq1, zq2, zq3]))
                refine QN.mk ?_
                go_wp2_with (first | ((with_reducible refine kAny ?_); go_skip) | (with_reducible refine stA ?_) | ((first | refine tIx ?_ | refine tFd ?_ | refine tLd ?_ | ((first | refine tSr ?_ | refine tSt ?_); clear hL; intro _ hL; simp only [splice, zq1, zq2, zq3] at hL) | ((first | refine tBx ?_ | refine tAl ?_); clear hL; intro _ _ hL _) | (refine tBs ?_; clear hL; intro _ _ hL _ hBs)); simp only [Act.put, zq1, zq2, zq3]))
                go_roundw
                case rel => exact ⟨t + 1, _, _, _, _, _, _, _, _, _, by omega, by go_num, hL, by rw [HST.out]; exact HS.out.le leX, hX3.trans exX⟩
                case measure => simp [intOf] <;> omega
            · have htn : t = nc := by omega
              subst htn
              have HS1 : Hid (FracC m3 (.agg #[.bool gs, .slice As ns cs, .bool fs, .slice Bs ps qs]) (sumAt SS (a, c))) := by rw [← HSS.out]; exact HS.out
              have HTS : Hid (Fit 200 (sumAt SS (a, c))) := by rw [← HSS.out]; exact (HE.out t (a, c)).fit (by decide)
              have HTS2 : Hid (Fit 1000 (sumAt SS (a, c))) := HTS.out.mono (by decide)
              clear HS
              by_cases h0 : sumAt SS (a, c) = 0
              · have hz : rs (sumAt SS (a, c)) = 0 := by rw [h0]; rfl
                rw [if_pos h0, List.append_nil] at HRS
                clear h0
                go_wp2_with (first | ((with_reducible refine kAny ?_); go_skip) | (with_reducible refine stA ?_) | ((first | refine tIx ?_ | refine tFd ?_ | refine tLd ?_ | ((first | refine tSr ?_ | refine tSt ?_); clear hL; intro _ hL; simp only [splice, zq1, zq2, zq3] at hL) | ((first | refine tBx ?_ | refine tAl ?_); clear hL; intro _ _ hL _) | (refine tBs ?_; clear hL; intro _ _ hL _ hBs)); simp only [Act.put, zq1, zq2, zq3]))
                refine (r_Sign _ (sumAt SS (a, c)) _ _ hL.vw ((HS1.out.toV HTS.out (by decide)).le leX) HTS2.out).mono ?_
                rintro e Ws1 ⟨_, ms1, rfl, hE, hMs1, hV, rfl⟩
                replace hL := hL.call hE (by assumption) hV; clear hE hV
                rw [hz]
                go_wp2_with (first | ((with_reducible refine kAny ?_); go_skip) | (with_reducible refine stA ?_) | ((first | refine tIx ?_ | refine tFd ?_ | refine tLd ?_ | ((first | refine tSr ?_ | refine tSt ?_); clear hL; intro _ hL; simp only [splice, zq1, zq2, zq3] at hL) | ((first | refine tBx ?_ | refine tAl ?_); clear hL; intro _ _ hL _) | (refine tBs ?_; clear hL; intro _ _ hL _ hBs)); simp only [Act.put, zq1, zq2, zq3]))
                go_roundw
                case rel => exact ⟨j + 1, _, q2, R2, by omega, by go_num, hL.tail, by rw [HRS.out]; exact RowA.le FolR.mono ROW.out (Le.trans hX3.le leX)⟩
                case measure => simp [intOf] <;> omega
              · have hz : ¬ rs (sumAt SS (a, c)) = 0 := fun h => icmp_ne h0 h
                have hz2 : (rs (sumAt SS (a, c)) != 0) = true := by simpa using hz
                rw [if_neg h0] at HRS
                clear h0 hz
                generalize hzz : rs (sumAt SS (a, c)) = zz at *
                have HZZ := Lib.hid hzz
                clear hzz
                go_wp2_with (first | ((with_reducible refine kAny ?_); go_skip) | (with_reducible refine stA ?_) | ((first | refine tIx ?_ | refine tFd ?_ | refine tLd ?_ | ((first | refine tSr ?_ | refine tSt ?_); clear hL; intro _ hL; simp only [splice, zq1, zq2, zq3] at hL) | ((first | refine tBx ?_ | refine tAl ?_); clear hL; intro _ _ hL _) | (refine tBs ?_; clear hL; intro _ _ hL _ hBs)); simp only [Act.put, zq1, zq2, zq3]))
                refine (r_Sign _ (sumAt SS (a, c)) _ _ hL.vw ((HS1.out.toV HTS.out (by decide)).le leX) HTS2.out).mono ?_
                rintro e Ws1 ⟨_, ms1, rfl, hE, hMs1, hV, rfl⟩
                replace hL := hL.call hE (by assumption) hV; clear hE hV
                rw [HZZ.out]
                clear HZZ
                go_upto_region 18 with ((first | ((with_reducible refine kAny ?_); go_skip) | (with_reducible refine stA ?_) | ((first | refine tIx ?_ | refine tFd ?_ | refine tLd ?_ | ((first | refine tSr ?_ | refine tSt ?_); clear hL; intro _ hL; simp only [splice, zq1, zq2, zq3] at hL) | ((first | refine tBx ?_ | refine tAl ?_); clear hL; intro _ _ hL _) | (refine tBs ?_; clear hL; intro _ _ hL _ hBs)); simp only [Act.put, zq1, zq2, zq3])))
                clear hz2
                (try simp only [eq_self] at *)
                refine wp_region_by2 14 [false, false, false, false, false, false, false, false, false, false, false, false, false, false] [false, false, false, false, false, false, false, false, false, false, false, false, false, false] [(fun v _ _ => v = ?c18_0), (fun v _ _ => v = ?c18_1), (fun v _ _ => v = ?c18_2), (fun v _ _ => v = ?c18_3), (fun v _ _ => v = ?c18_4), (fun v _ _ => v = ?c18_5), (fun v _ _ => v = ?c18_6), (fun v _ _ => v = ?c18_7), (fun v _ _ => v = ?c18_8), (fun v _ _ => v = ?c18_9), (fun v _ _ => v = ?c18_10), (fun v _ _ => v = ?c18_11), (fun v _ _ => v = ?c18_12), (NewS1 139 (fun um v => FolR um v ((a, c), sumAt SS (a, c))))] hL.vw mixed [67, 68, 69, 70, 71, 72, 73, 74, 75, 76, 77, 78, 79, 80] _ (by kernel_rfl) (fun vs => by simp only [lay, Act.put, zq1, zq2, zq3]; rfl) (by kernel_rfl) (by decide) (by decide) ?s18 ?l18 ?r18
                case s18 =>
                  refine ⟨?_, ?_, ?_, ?_, ?_, ?_, ?_, ?_, ?_, ?_, ?_, ?_, ?_, ?_, trivial⟩
                  · intro vs W1 m1 hE hM hV hD; clear hD; replace hL := hL.call hE hM hV
                    exact sPu
                  · intro vs W1 m1 hE hM hV hD; clear hD; replace hL := hL.call hE hM hV
                    exact sFd
                  · intro vs W1 m1 hE hM hV hD; obtain ⟨⟨_, _, -, -, f68⟩, -⟩ := hD; have f68 : vs 68 = _ := f68; generalize vs 68 = x68 at f68 ⊢; subst x68; replace hL := hL.call hE hM hV
                    exact sLd
                  · intro vs W1 m1 hE hM hV hD; clear hD; replace hL := hL.call hE hM hV
                    exact sPu
                  · intro vs W1 m1 hE hM hV hD; obtain ⟨⟨_, _, -, -, f69⟩, ⟨_, _, -, -, f70⟩, -⟩ := hD; have f69 : vs 69 = _ := f69; generalize vs 69 = x69 at f69 ⊢; subst x69; have f70 : vs 70 = _ := f70; generalize vs 70 = x70 at f70 ⊢; subst x70; replace hL := hL.call hE hM hV
                    exact sIx
                  · intro vs W1 m1 hE hM hV hD; obtain ⟨⟨_, _, -, -, f71⟩, -⟩ := hD; have f71 : vs 71 = _ := f71; generalize vs 71 = x71 at f71 ⊢; subst x71; replace hL := hL.call hE hM hV
                    exact sLd
                  · intro vs W1 m1 hE hM hV hD; clear hD; replace hL := hL.call hE hM hV
                    exact sFd
                  · intro vs W1 m1 hE hM hV hD; obtain ⟨⟨_, _, -, -, f73⟩, -⟩ := hD; have f73 : vs 73 = _ := f73; generalize vs 73 = x73 at f73 ⊢; subst x73; replace hL := hL.call hE hM hV
                    exact sLd
                  · intro vs W1 m1 hE hM hV hD; clear hD; replace hL := hL.call hE hM hV
                    exact sPu
                  · intro vs W1 m1 hE hM hV hD; obtain ⟨⟨_, _, -, -, f74⟩, ⟨_, _, -, -, f75⟩, -⟩ := hD; have f74 : vs 74 = _ := f74; generalize vs 74 = x74 at f74 ⊢; subst x74; have f75 : vs 75 = _ := f75; generalize vs 75 = x75 at f75 ⊢; subst x75; replace hL := hL.call hE hM hV
                    exact sIx
                  · intro vs W1 m1 hE hM hV hD; obtain ⟨⟨_, _, -, -, f76⟩, -⟩ := hD; have f76 : vs 76 = _ := f76; generalize vs 76 = x76 at f76 ⊢; subst x76; replace hL := hL.call hE hM hV
                    exact sLd
                  · intro vs W1 m1 hE hM hV hD; clear hD; replace hL := hL.call hE hM hV
                    exact sLd
                  · intro vs W1 m1 hE hM hV hD; obtain ⟨⟨_, _, -, -, f72⟩, ⟨_, _, -, -, f77⟩, ⟨_, _, -, -, f78⟩, -⟩ := hD; have f72 : vs 72 = _ := f72; generalize vs 72 = x72 at f72 ⊢; subst x72; have f77 : vs 77 = _ := f77; generalize vs 77 = x77 at f77 ⊢; subst x77; have f78 : vs 78 = _ := f78; generalize vs 78 = x78 at f78 ⊢; subst x78; replace hL := hL.call hE hM hV
                    exact sPu
                  · intro vs W1 m1 hE hM hV hD; obtain ⟨⟨_, _, -, -, f79⟩, -⟩ := hD; have f79 : vs 79 = _ := f79; generalize vs 79 = x79 at f79 ⊢; subst x79
                    (go_wp2_with fail; exact one2_s1 hV fun m' h => ⟨⟨a, c, gs, As, ns, cs, fs, Bs, ps, qs⟩, rfl, rfl, rfl, HS1.out.le (Le.trans leX h.le)⟩)
                case l18 =>
                  refine ⟨fun h => (by cases h), fun h => (by cases h), fun h => (by cases h), fun h => (by cases h), fun h => (by cases h), fun h => (by cases h), fun h => (by cases h), fun h => (by cases h), fun h => (by cases h), fun h => (by cases h), fun h => (by cases h), fun h => (by cases h), fun h => (by cases h), fun h => (by cases h), trivial⟩
                intro vs W1 m1 hE hM hV hF hD
                clear hD
                obtain ⟨⟨_, _, -, -, f67⟩, -, -, -, -, -, -, -, -, -, -, -, -, ⟨_, _, j80, i80, f80⟩, -⟩ := hF
                replace hL := hL.call hE hM hV
                have f67 : vs 67 = _ := f67
                generalize vs 67 = x67 at f67 ⊢
                subst x67
                clear hE hV
                obtain ⟨g15, cs15, e15, q15, f15⟩ := f80
                generalize vs 80 = x15 at e15 ⊢
                subst x15
                replace q15 := q15.ext j80
                have f16 : FolR _ (.agg cs15) ((a, c), sumAt SS (a, c)) := f15
                replace f16 := FolR.mono _ _ _ _ f16 i80.le
                clear f15 i80 j80
                obtain ⟨⟨a9, c9, g9, A9, n9, k9, f9, B9, p9, q9⟩, e9, e91, e92, f16⟩ := f16
                simp only [encV, encF] at e9 e91 e92 f16
                injection e9 with e9
                subst e9
                simp only [List.drop_succ_cons, List.drop_zero]
                obtain ⟨vs7, r7, z7, y7, l7⟩ := ROW.out
                refine wl_append (A := [_, _]) hL r7 (wanted_none rfl) rfl ap_Fols (by omega) rfl rfl (news := [.int .i64 a9, .int .i64 c9, .bool g9, .slice A9 n9 k9, .bool f9, .slice B9 p9 q9]) rfl (Blk.sl q15 (n := 6) rfl) rfl (by omega) (by omega) ?_
                clear hL
                intro v1 W5 m5 R5 hL r8 e8
                obtain ⟨A11, c11, rfl, -⟩ := r8.lit
                simp only [List.cons_append, List.nil_append] at hL
                have rd := RowA.snoc (R := FolR) (m := m5) (x := ((a, c), sumAt SS (a, c))) r8 z7 (y7.mono fun v x hv => FolR.mono _ _ _ _ hv (Le.trans hX3.le leX)) l7 rfl ⟨⟨a9, c9, g9, A9, n9, k9, f9, B9, p9, q9⟩, rfl, e91, e92, f16.le e8.le⟩
                rw [List.append_assoc, ← HRS.out] at rd
                have RD := Lib.hid rd
                clear rd r8 r7 z7 y7 l7 f16 e91 e92
                simp only [Act.put, zq1, zq2, zq3]
                go_wp2_with (first | ((with_reducible refine kAny ?_); go_skip) | (with_reducible refine stA ?_) | ((first | refine tIx ?_ | refine tFd ?_ | refine tLd ?_ | ((first | refine tSr ?_ | refine tSt ?_); clear hL; intro _ hL; simp only [splice, zq1, zq2, zq3] at hL) | ((first | refine tBx ?_ | refine tAl ?_); clear hL; intro _ _ hL _) | (refine tBs ?_; clear hL; intro _ _ hL _ hBs)); simp only [Act.put, zq1, zq2, zq3]))
                refine QN.mk ?_
                go_wp2_with (first | ((with_reducible refine kAny ?_); go_skip) | (with_reducible refine stA ?_) | ((first | refine tIx ?_ | refine tFd ?_ | refine tLd ?_ | ((first | refine tSr ?_ | refine tSt ?_); clear hL; intro _ hL; simp only [splice, zq1, zq2, zq3] at hL) | ((first | refine tBx ?_ | refine tAl ?_); clear hL; intro _ _ hL _) | (refine tBs ?_; clear hL; intro _ _ hL _ hBs)); simp only [Act.put, zq1, zq2, zq3]))
                go_roundw
                case rel => exact ⟨j + 1, m5, q2 + 1, R5, by omega, by go_num, hL.tail, RD.out⟩
                case measure => simp [intOf] <;> omega
        · have hjn : j = nr := by omega
          have HRE : Hid (rowY SS a (rws.take j) = rowY SS a rws) := by
            show _ = _
            rw [List.take_of_length_le (by rw [HN2.out]; omega)]
          have h9 : (nr : Int) ≤ (j : Int) := by omega
          go_wp2_with (first | ((with_reducible refine kAny ?_); go_skip) | (with_reducible refine stA ?_) | ((first | refine tIx ?_ | refine tFd ?_ | refine tLd ?_ | ((first | refine tSr ?_ | refine tSt ?_); clear hL; intro _ hL; simp only [splice, zq1, zq2, zq3] at hL) | ((first | refine tBx ?_ | refine tAl ?_); clear hL; intro _ _ hL _) | (refine tBs ?_; clear hL; intro _ _ hL _ hBs)); simp only [Act.put, zq1, zq2, zq3]))
          go_roundw
          case rel => exact ⟨k + 1, m2, q2, R2, by omega, by go_num, hL, by rw [HFS.out, ← HRE.out]; exact ROW.out⟩
          case measure => simp [intOf] <;> omega
    · have HRE : Hid (flY SS (rws.take k) rws = flY SS rws rws) := by
        show _ = _
        rw [List.take_of_length_le (by rw [HN2.out]; omega)]
      obtain ⟨m9, hL9, hle9, hl9, -⟩ := RowA.show (A := [_]) FolR.mono hL ROW.out
      clear hL
      have hL := hL9
      rw [HRE.out] at hl9
      have HL9 := Lib.hid hl9
      clear hL9 hl9 ROW
      have h9 : (nr : Int) ≤ (k : Int) := by omega
      go_wp2_with (first | ((with_reducible refine kAny ?_); go_skip) | (with_reducible refine stA ?_) | ((first | refine tIx ?_ | refine tFd ?_ | refine tLd ?_ | ((first | refine tSr ?_ | refine tSt ?_); clear hL; intro _ hL; simp only [splice, zq1, zq2, zq3] at hL) | ((first | refine tBx ?_ | refine tAl ?_); clear hL; intro _ _ hL _) | (refine tBs ?_; clear hL; intro _ _ hL _ hBs)); simp only [Act.put, zq1, zq2, zq3]))
      go_ret2
      exact RetV.mk hL ⟨_, rfl, HL9.out⟩
end Go.Proofs.YtmhkmmmompediaaGreat

/- Contracts of pairingref27.SameFollows and pairingref25.IsInt. -/
namespace Go.Proofs.YtmhkmmmompediaaGreat
open Go.RowKit

theorem range_fol {m : World} {b off : Nat} {v0 v1 v2 v3 v4 v5 : Value} (h : m.rangeAt b off [v0, v1, v2, v3, v4, v5]) : m.rangeAt b (off + 2) [v2, v3, v4, v5] := fun j v hv => by
  have h1 := h (j + 2) v (by simpa using hv)
  rw [Nat.add_comm j 2, ← Nat.add_assoc] at h1
  exact h1
set_option maxRecDepth 100000 in
set_option maxHeartbeats 16000000 in
theorem r_SameFollows (a b : Value) (ys : List PQ) (w m : World) (hV : Vw m w) (ha : FolL m a ys) (hb : FolL m b ys) (hl : ys.length ≤ 1000000) (hf : ∀ y ∈ ys, Fit 1000 y.2) :
    Calls Tryz.prog 51 #[a, b] w (RetV w m fun _ r => r = .bool true) := by
  obtain ⟨A, c, rfl, hc, ha⟩ := ha.lit
  obtain ⟨B, d, rfl, hd, hb⟩ := hb.lit
  have HF := Lib.hid hf
  have hL := Loc.start hV
  clear hV hf
  generalize hn : ys.length = n at *
  have HN := Lib.hid hn
  clear hn
  have hnn : ((n : Int) != (n : Int)) = false := by simp
  go_enter Tryz.func51, Tryz.ntmps51
  go_wp2_with (first | ((with_reducible refine kAny ?_); go_skip) | (with_reducible refine stA ?_) | ((first | refine tIx ?_ | refine tFd ?_ | refine tLd ?_); simp only [Act.put, zq1, zq2, zq3]))
  go_loopw [5] (fun i wr => ∃ (k : Nat) (mm : World), k ≤ n ∧ i = .int .i64 k ∧ Loc w m wr mm [] ∧ Ext m mm) (fun i _ => n - (intOf i).toNat)
  case atStart => exact ⟨0, m, Nat.zero_le _, rfl, hL, Ext.refl _⟩
  case round =>
    clear hL
    obtain ⟨k, mm, hk, rfl, hL, hM⟩ := hrel
    by_cases hlt : k < n
    · obtain ⟨⟨⟨f, g⟩, q⟩, hx⟩ := at_some HN hlt
      obtain ⟨b1, o1, g1, A1, n1, c1, f1, B1, p1, q1, rfl, hq1, hr1⟩ := FolL.at_ ha hx
      obtain ⟨b2, o2, g2, A2, n2, c2, f2, B2, p2, q2, rfl, hq2, hr2⟩ := FolL.at_ hb hx
      have HFQ : Hid (Fit 1000 q) := HF.out _ (List.mem_of_getElem? hx)
      clear hx
      simp only at hq1 hr1 hq2 hr2
      have hff : (f != f) = false := by simp
      have hgg : (g != g) = false := by simp
      have HQ1 := Lib.hid hq1
      have HQ2 := Lib.hid hq2
      have h10 : m.cell? ⟨b1, o1 + k * 6, none⟩ = some (.int .i64 f) := hr1 0 _ rfl
      have h11 : m.cell? ⟨b1, o1 + k * 6 + 1, none⟩ = some (.int .i64 g) := hr1 1 _ rfl
      have h12 := range_fol hr1
      have h20 : m.cell? ⟨b2, o2 + k * 6, none⟩ = some (.int .i64 f) := hr2 0 _ rfl
      have h21 : m.cell? ⟨b2, o2 + k * 6 + 1, none⟩ = some (.int .i64 g) := hr2 1 _ rfl
      have h22 := range_fol hr2
      clear hr1 hr2 hq1 hq2
      go_upto_region 6 with ((first | ((with_reducible refine kAny ?_); go_skip) | (with_reducible refine stA ?_) | ((first | refine tIx ?_ | refine tFd ?_ | refine tLd ?_); simp only [Act.put, zq1, zq2, zq3])))
      (try simp only [eq_self] at *)
      refine wp_region_by2 38 [false, false, false, false, false, false, false, false, false, false, false, false, false, false, false, false, false, false, false, false, false, false, false, false, false, false, false, false, false, false, false, false, false, false, false, false, false, false] [false, false, false, false, false, false, false, false, false, false, false, false, false, false, false, false, false, false, false, false, false, false, false, false, false, false, false, false, false, false, false, false, false, false, false, false, false, false] [(fun v _ _ => v = ?c6_0), (fun v _ _ => v = ?c6_1), (fun v _ _ => v = ?c6_2), (fun v _ _ => v = ?c6_3), (fun v _ _ => v = ?c6_4), (fun v _ _ => v = ?c6_5), (fun v _ _ => v = ?c6_6), (fun v _ _ => v = ?c6_7), (fun v _ _ => v = ?c6_8), (fun v _ _ => v = ?c6_9), (fun v _ _ => v = ?c6_10), (fun v _ _ => v = ?c6_11), (fun v _ _ => v = ?c6_12), (fun v _ _ => v = ?c6_13), (fun v _ _ => v = ?c6_14), (fun v _ _ => v = ?c6_15), (fun v _ _ => v = ?c6_16), (fun v _ _ => v = ?c6_17), (fun v _ _ => v = ?c6_18), (fun v _ _ => v = ?c6_19), (fun v _ _ => v = ?c6_20), (fun v _ _ => v = ?c6_21), (fun v _ _ => v = ?c6_22), (fun v _ _ => v = ?c6_23), (fun v _ _ => v = ?c6_24), (fun v _ _ => v = ?c6_25), (fun v _ _ => v = ?c6_26), (fun v _ _ => v = ?c6_27), (fun v _ _ => v = ?c6_28), (fun v _ _ => v = ?c6_29), (fun v _ _ => v = ?c6_30), (fun v _ _ => v = ?c6_31), (fun v _ _ => v = ?c6_32), (fun v _ _ => v = ?c6_33), (fun v _ _ => v = ?c6_34), Is (.bool true), (fun v _ _ => v = ?c6_36), (fun v _ _ => v = ?c6_37)] hL.vw mixed [17, 18, 19, 20, 21, 22, 23, 24, 25, 26, 27, 28, 29, 30, 31, 32, 33, 34, 35, 36, 37, 38, 39, 40, 41, 42, 43, 44, 45, 46, 47, 48, 49, 50, 51, 52, 53, 54] _ (by kernel_rfl) (fun vs => by simp only [lay, Act.put, zq1, zq2, zq3]; rfl) (by kernel_rfl) (by decide) (by decide) ?s6 ?l6 ?r6
      case s6 =>
        refine ⟨?_, ?_, ?_, ?_, ?_, ?_, ?_, ?_, ?_, ?_, ?_, ?_, ?_, ?_, ?_, ?_, ?_, ?_, ?_, ?_, ?_, ?_, ?_, ?_, ?_, ?_, ?_, ?_, ?_, ?_, ?_, ?_, ?_, ?_, ?_, ?_, ?_, ?_, trivial⟩
        · intro vs W1 m1 hE hM hV hD; clear hD; replace hL := hL.call hE hM hV
          exact sPu
        · intro vs W1 m1 hE hM hV hD; clear hD; replace hL := hL.call hE hM hV
          exact sPu
        · intro vs W1 m1 hE hM hV hD; obtain ⟨⟨_, _, -, -, f17⟩, ⟨_, _, -, -, f18⟩, -⟩ := hD; have f17 : vs 17 = _ := f17; generalize vs 17 = x17 at f17 ⊢; subst x17; have f18 : vs 18 = _ := f18; generalize vs 18 = x18 at f18 ⊢; subst x18; replace hL := hL.call hE hM hV
          exact sIx
        · intro vs W1 m1 hE hM hV hD; obtain ⟨⟨_, _, -, -, f19⟩, -⟩ := hD; have f19 : vs 19 = _ := f19; generalize vs 19 = x19 at f19 ⊢; subst x19; replace hL := hL.call hE hM hV
          exact sFd
        · intro vs W1 m1 hE hM hV hD; obtain ⟨⟨_, _, -, -, f20⟩, -⟩ := hD; have f20 : vs 20 = _ := f20; generalize vs 20 = x20 at f20 ⊢; subst x20; replace hL := hL.call hE hM hV
          exact sLd
        · intro vs W1 m1 hE hM hV hD; clear hD; replace hL := hL.call hE hM hV
          exact sPu
        · intro vs W1 m1 hE hM hV hD; clear hD; replace hL := hL.call hE hM hV
          exact sPu
        · intro vs W1 m1 hE hM hV hD; obtain ⟨⟨_, _, -, -, f22⟩, ⟨_, _, -, -, f23⟩, -⟩ := hD; have f22 : vs 22 = _ := f22; generalize vs 22 = x22 at f22 ⊢; subst x22; have f23 : vs 23 = _ := f23; generalize vs 23 = x23 at f23 ⊢; subst x23; replace hL := hL.call hE hM hV
          exact sIx
        · intro vs W1 m1 hE hM hV hD; obtain ⟨⟨_, _, -, -, f24⟩, -⟩ := hD; have f24 : vs 24 = _ := f24; generalize vs 24 = x24 at f24 ⊢; subst x24; replace hL := hL.call hE hM hV
          exact sFd
        · intro vs W1 m1 hE hM hV hD; obtain ⟨⟨_, _, -, -, f25⟩, -⟩ := hD; have f25 : vs 25 = _ := f25; generalize vs 25 = x25 at f25 ⊢; subst x25; replace hL := hL.call hE hM hV
          exact sLd
        · intro vs W1 m1 hE hM hV hD; obtain ⟨⟨_, _, -, -, f21⟩, ⟨_, _, -, -, f26⟩, -⟩ := hD; have f21 : vs 21 = _ := f21; generalize vs 21 = x21 at f21 ⊢; subst x21; have f26 : vs 26 = _ := f26; generalize vs 26 = x26 at f26 ⊢; subst x26; replace hL := hL.call hE hM hV
          exact sPu
        · intro vs W1 m1 hE hM hV hD; obtain ⟨⟨_, _, -, -, f27⟩, -⟩ := hD; have f27 : vs 27 = _ := f27; generalize vs 27 = x27 at f27 ⊢; subst x27; replace hL := hL.call hE hM hV
          exact sPu
        · intro vs W1 m1 hE hM hV hD; obtain ⟨⟨_, _, -, -, f28⟩, -⟩ := hD; have f28 : vs 28 = _ := f28; generalize vs 28 = x28 at f28 ⊢; subst x28; replace hL := hL.call hE hM hV
          exact sPu
        · intro vs W1 m1 hE hM hV hD; obtain ⟨⟨_, _, -, -, f28⟩, -⟩ := hD; have f28 : vs 28 = _ := f28; generalize vs 28 = x28 at f28 ⊢; subst x28; replace hL := hL.call hE hM hV
          exact sPu
        · intro vs W1 m1 hE hM hV hD; obtain ⟨⟨_, _, -, -, f29⟩, ⟨_, _, -, -, f30⟩, ⟨_, _, -, -, f28⟩, -⟩ := hD; have f29 : vs 29 = _ := f29; generalize vs 29 = x29 at f29 ⊢; subst x29; have f30 : vs 30 = _ := f30; generalize vs 30 = x30 at f30 ⊢; subst x30; have f28 : vs 28 = _ := f28; generalize vs 28 = x28 at f28 ⊢; subst x28; replace hL := hL.call hE hM hV
          exact sIx
        · intro vs W1 m1 hE hM hV hD; obtain ⟨⟨_, _, -, -, f31⟩, ⟨_, _, -, -, f28⟩, -⟩ := hD; have f31 : vs 31 = _ := f31; generalize vs 31 = x31 at f31 ⊢; subst x31; have f28 : vs 28 = _ := f28; generalize vs 28 = x28 at f28 ⊢; subst x28; replace hL := hL.call hE hM hV
          exact sFd
        · intro vs W1 m1 hE hM hV hD; obtain ⟨⟨_, _, -, -, f32⟩, ⟨_, _, -, -, f28⟩, -⟩ := hD; have f32 : vs 32 = _ := f32; generalize vs 32 = x32 at f32 ⊢; subst x32; have f28 : vs 28 = _ := f28; generalize vs 28 = x28 at f28 ⊢; subst x28; replace hL := hL.call hE hM hV
          exact sLd
        · intro vs W1 m1 hE hM hV hD; obtain ⟨⟨_, _, -, -, f28⟩, -⟩ := hD; have f28 : vs 28 = _ := f28; generalize vs 28 = x28 at f28 ⊢; subst x28; replace hL := hL.call hE hM hV
          exact sPu
        · intro vs W1 m1 hE hM hV hD; obtain ⟨⟨_, _, -, -, f28⟩, -⟩ := hD; have f28 : vs 28 = _ := f28; generalize vs 28 = x28 at f28 ⊢; subst x28; replace hL := hL.call hE hM hV
          exact sPu
        · intro vs W1 m1 hE hM hV hD; obtain ⟨⟨_, _, -, -, f34⟩, ⟨_, _, -, -, f35⟩, ⟨_, _, -, -, f28⟩, -⟩ := hD; have f34 : vs 34 = _ := f34; generalize vs 34 = x34 at f34 ⊢; subst x34; have f35 : vs 35 = _ := f35; generalize vs 35 = x35 at f35 ⊢; subst x35; have f28 : vs 28 = _ := f28; generalize vs 28 = x28 at f28 ⊢; subst x28; replace hL := hL.call hE hM hV
          exact sIx
        · intro vs W1 m1 hE hM hV hD; obtain ⟨⟨_, _, -, -, f36⟩, ⟨_, _, -, -, f28⟩, -⟩ := hD; have f36 : vs 36 = _ := f36; generalize vs 36 = x36 at f36 ⊢; subst x36; have f28 : vs 28 = _ := f28; generalize vs 28 = x28 at f28 ⊢; subst x28; replace hL := hL.call hE hM hV
          exact sFd
        · intro vs W1 m1 hE hM hV hD; obtain ⟨⟨_, _, -, -, f37⟩, ⟨_, _, -, -, f28⟩, -⟩ := hD; have f37 : vs 37 = _ := f37; generalize vs 37 = x37 at f37 ⊢; subst x37; have f28 : vs 28 = _ := f28; generalize vs 28 = x28 at f28 ⊢; subst x28; replace hL := hL.call hE hM hV
          exact sLd
        · intro vs W1 m1 hE hM hV hD; obtain ⟨⟨_, _, -, -, f33⟩, ⟨_, _, -, -, f38⟩, ⟨_, _, -, -, f28⟩, -⟩ := hD; have f33 : vs 33 = _ := f33; generalize vs 33 = x33 at f33 ⊢; subst x33; have f38 : vs 38 = _ := f38; generalize vs 38 = x38 at f38 ⊢; subst x38; have f28 : vs 28 = _ := f28; generalize vs 28 = x28 at f28 ⊢; subst x28; replace hL := hL.call hE hM hV
          exact sPu
        · intro vs W1 m1 hE hM hV hD; obtain ⟨⟨_, _, -, -, f28⟩, ⟨_, _, -, -, f39⟩, -⟩ := hD; have f28 : vs 28 = _ := f28; generalize vs 28 = x28 at f28 ⊢; subst x28; have f39 : vs 39 = _ := f39; generalize vs 39 = x39 at f39 ⊢; subst x39; replace hL := hL.call hE hM hV
          exact sPu
        · intro vs W1 m1 hE hM hV hD; obtain ⟨⟨_, _, -, -, f40⟩, -, -⟩ := hD; have f40 : vs 40 = _ := f40; generalize vs 40 = x40 at f40 ⊢; subst x40; replace hL := hL.call hE hM hV
          exact sPu
        · intro vs W1 m1 hE hM hV hD; obtain ⟨⟨_, _, -, -, f41⟩, -⟩ := hD; have f41 : vs 41 = _ := f41; generalize vs 41 = x41 at f41 ⊢; subst x41; replace hL := hL.call hE hM hV
          exact sPu
        · intro vs W1 m1 hE hM hV hD; obtain ⟨⟨_, _, -, -, f41⟩, -⟩ := hD; have f41 : vs 41 = _ := f41; generalize vs 41 = x41 at f41 ⊢; subst x41; replace hL := hL.call hE hM hV
          exact sPu
        · intro vs W1 m1 hE hM hV hD; obtain ⟨⟨_, _, -, -, f42⟩, ⟨_, _, -, -, f43⟩, ⟨_, _, -, -, f41⟩, -⟩ := hD; have f42 : vs 42 = _ := f42; generalize vs 42 = x42 at f42 ⊢; subst x42; have f43 : vs 43 = _ := f43; generalize vs 43 = x43 at f43 ⊢; subst x43; have f41 : vs 41 = _ := f41; generalize vs 41 = x41 at f41 ⊢; subst x41; replace hL := hL.call hE hM hV
          exact sIx
        · intro vs W1 m1 hE hM hV hD; obtain ⟨⟨_, _, -, -, f44⟩, ⟨_, _, -, -, f41⟩, -⟩ := hD; have f44 : vs 44 = _ := f44; generalize vs 44 = x44 at f44 ⊢; subst x44; have f41 : vs 41 = _ := f41; generalize vs 41 = x41 at f41 ⊢; subst x41; replace hL := hL.call hE hM hV
          exact sFd
        · intro vs W1 m1 hE hM hV hD; obtain ⟨⟨_, _, -, -, f45⟩, ⟨_, _, -, -, f41⟩, -⟩ := hD; have f45 : vs 45 = _ := f45; generalize vs 45 = x45 at f45 ⊢; subst x45; have f41 : vs 41 = _ := f41; generalize vs 41 = x41 at f41 ⊢; subst x41; replace hL := hL.call hE hM hV
          exact sLd
        · intro vs W1 m1 hE hM hV hD; obtain ⟨⟨_, _, -, -, f41⟩, -⟩ := hD; have f41 : vs 41 = _ := f41; generalize vs 41 = x41 at f41 ⊢; subst x41; replace hL := hL.call hE hM hV
          exact sPu
        · intro vs W1 m1 hE hM hV hD; obtain ⟨⟨_, _, -, -, f41⟩, -⟩ := hD; have f41 : vs 41 = _ := f41; generalize vs 41 = x41 at f41 ⊢; subst x41; replace hL := hL.call hE hM hV
          exact sPu
        · intro vs W1 m1 hE hM hV hD; obtain ⟨⟨_, _, -, -, f47⟩, ⟨_, _, -, -, f48⟩, ⟨_, _, -, -, f41⟩, -⟩ := hD; have f47 : vs 47 = _ := f47; generalize vs 47 = x47 at f47 ⊢; subst x47; have f48 : vs 48 = _ := f48; generalize vs 48 = x48 at f48 ⊢; subst x48; have f41 : vs 41 = _ := f41; generalize vs 41 = x41 at f41 ⊢; subst x41; replace hL := hL.call hE hM hV
          exact sIx
        · intro vs W1 m1 hE hM hV hD; obtain ⟨⟨_, _, -, -, f49⟩, ⟨_, _, -, -, f41⟩, -⟩ := hD; have f49 : vs 49 = _ := f49; generalize vs 49 = x49 at f49 ⊢; subst x49; have f41 : vs 41 = _ := f41; generalize vs 41 = x41 at f41 ⊢; subst x41; replace hL := hL.call hE hM hV
          exact sFd
        · intro vs W1 m1 hE hM hV hD; obtain ⟨⟨_, _, -, -, f50⟩, ⟨_, _, -, -, f41⟩, -⟩ := hD; have f50 : vs 50 = _ := f50; generalize vs 50 = x50 at f50 ⊢; subst x50; have f41 : vs 41 = _ := f41; generalize vs 41 = x41 at f41 ⊢; subst x41; replace hL := hL.call hE hM hV
          exact sLd
        · intro vs W1 m1 hE hM hV hD; obtain ⟨⟨_, _, -, -, f46⟩, ⟨_, _, -, -, f51⟩, ⟨_, _, -, -, f41⟩, -, -⟩ := hD; have f46 : vs 46 = _ := f46; generalize vs 46 = x46 at f46 ⊢; subst x46; have f51 : vs 51 = _ := f51; generalize vs 51 = x51 at f51 ⊢; subst x51; have f41 : vs 41 = _ := f41; generalize vs 41 = x41 at f41 ⊢; subst x41
          go_wp2_with fail
          refine (r_Same _ _ q _ _ hV (HQ1.out.le leX) (HQ2.out.le leX) HFQ.out).mono ?_
          rintro e W2 ⟨v, m2, rfl, hE2, hM2, hV2, h⟩
          go_wp2_with fail
          refine One2.call hE2 hM2 hV2 ?_; first | exact h | exact rfl
        · intro vs W1 m1 hE hM hV hD; obtain ⟨⟨_, _, -, -, f52⟩, ⟨_, _, -, -, f41⟩, -⟩ := hD; have f52 : vs 52 = _ := f52; generalize vs 52 = x52 at f52 ⊢; subst x52; have f41 : vs 41 = _ := f41; generalize vs 41 = x41 at f41 ⊢; subst x41; replace hL := hL.call hE hM hV
          exact sPu
        · intro vs W1 m1 hE hM hV hD; obtain ⟨⟨_, _, -, -, f41⟩, ⟨_, _, -, -, f53⟩, -⟩ := hD; have f41 : vs 41 = _ := f41; generalize vs 41 = x41 at f41 ⊢; subst x41; have f53 : vs 53 = _ := f53; generalize vs 53 = x53 at f53 ⊢; subst x53; replace hL := hL.call hE hM hV
          exact sPu
      case l6 =>
        refine ⟨fun h => (by cases h), fun h => (by cases h), fun h => (by cases h), fun h => (by cases h), fun h => (by cases h), fun h => (by cases h), fun h => (by cases h), fun h => (by cases h), fun h => (by cases h), fun h => (by cases h), fun h => (by cases h), fun h => (by cases h), fun h => (by cases h), fun h => (by cases h), fun h => (by cases h), fun h => (by cases h), fun h => (by cases h), fun h => (by cases h), fun h => (by cases h), fun h => (by cases h), fun h => (by cases h), fun h => (by cases h), fun h => (by cases h), fun h => (by cases h), fun h => (by cases h), fun h => (by cases h), fun h => (by cases h), fun h => (by cases h), fun h => (by cases h), fun h => (by cases h), fun h => (by cases h), fun h => (by cases h), fun h => (by cases h), fun h => (by cases h), fun h => (by cases h), fun h => (by cases h), fun h => (by cases h), fun h => (by cases h), trivial⟩
      intro vs W1 m1 hE hM hV hF hD
      clear hD
      obtain ⟨⟨_, _, -, -, f17⟩, ⟨_, _, -, -, f18⟩, ⟨_, _, -, -, f19⟩, ⟨_, _, -, -, f20⟩, ⟨_, _, -, -, f21⟩, ⟨_, _, -, -, f22⟩, ⟨_, _, -, -, f23⟩, ⟨_, _, -, -, f24⟩, ⟨_, _, -, -, f25⟩, ⟨_, _, -, -, f26⟩, ⟨_, _, -, -, f27⟩, ⟨_, _, -, -, f28⟩, ⟨_, _, -, -, f29⟩, ⟨_, _, -, -, f30⟩, ⟨_, _, -, -, f31⟩, ⟨_, _, -, -, f32⟩, ⟨_, _, -, -, f33⟩, ⟨_, _, -, -, f34⟩, ⟨_, _, -, -, f35⟩, ⟨_, _, -, -, f36⟩, ⟨_, _, -, -, f37⟩, ⟨_, _, -, -, f38⟩, ⟨_, _, -, -, f39⟩, ⟨_, _, -, -, f40⟩, ⟨_, _, -, -, f41⟩, ⟨_, _, -, -, f42⟩, ⟨_, _, -, -, f43⟩, ⟨_, _, -, -, f44⟩, ⟨_, _, -, -, f45⟩, ⟨_, _, -, -, f46⟩, ⟨_, _, -, -, f47⟩, ⟨_, _, -, -, f48⟩, ⟨_, _, -, -, f49⟩, ⟨_, _, -, -, f50⟩, ⟨_, _, -, -, f51⟩, ⟨_, _, -, -, f52⟩, ⟨_, _, -, -, f53⟩, ⟨_, _, -, -, f54⟩, -⟩ := hF
      replace hL := hL.call hE hM hV
      have f17 : vs 17 = _ := f17
      generalize vs 17 = x17 at f17 ⊢
      subst x17
      have f18 : vs 18 = _ := f18
      generalize vs 18 = x18 at f18 ⊢
      subst x18
      have f19 : vs 19 = _ := f19
      generalize vs 19 = x19 at f19 ⊢
      subst x19
      have f20 : vs 20 = _ := f20
      generalize vs 20 = x20 at f20 ⊢
      subst x20
      have f21 : vs 21 = _ := f21
      generalize vs 21 = x21 at f21 ⊢
      subst x21
      have f22 : vs 22 = _ := f22
      generalize vs 22 = x22 at f22 ⊢
      subst x22
      have f23 : vs 23 = _ := f23
      generalize vs 23 = x23 at f23 ⊢
      subst x23
      have f24 : vs 24 = _ := f24
      generalize vs 24 = x24 at f24 ⊢
      subst x24
      have f25 : vs 25 = _ := f25
      generalize vs 25 = x25 at f25 ⊢
      subst x25
      have f26 : vs 26 = _ := f26
      generalize vs 26 = x26 at f26 ⊢
      subst x26
      have f27 : vs 27 = _ := f27
      generalize vs 27 = x27 at f27 ⊢
      subst x27
      have f28 : vs 28 = _ := f28
      generalize vs 28 = x28 at f28 ⊢
      subst x28
      have f29 : vs 29 = _ := f29
      generalize vs 29 = x29 at f29 ⊢
      subst x29
      have f30 : vs 30 = _ := f30
      generalize vs 30 = x30 at f30 ⊢
      subst x30
      have f31 : vs 31 = _ := f31
      generalize vs 31 = x31 at f31 ⊢
      subst x31
      have f32 : vs 32 = _ := f32
      generalize vs 32 = x32 at f32 ⊢
      subst x32
      have f33 : vs 33 = _ := f33
      generalize vs 33 = x33 at f33 ⊢
      subst x33
      have f34 : vs 34 = _ := f34
      generalize vs 34 = x34 at f34 ⊢
      subst x34
      have f35 : vs 35 = _ := f35
      generalize vs 35 = x35 at f35 ⊢
      subst x35
      have f36 : vs 36 = _ := f36
      generalize vs 36 = x36 at f36 ⊢
      subst x36
      have f37 : vs 37 = _ := f37
      generalize vs 37 = x37 at f37 ⊢
      subst x37
      have f38 : vs 38 = _ := f38
      generalize vs 38 = x38 at f38 ⊢
      subst x38
      have f39 : vs 39 = _ := f39
      generalize vs 39 = x39 at f39 ⊢
      subst x39
      have f40 : vs 40 = _ := f40
      generalize vs 40 = x40 at f40 ⊢
      subst x40
      have f41 : vs 41 = _ := f41
      generalize vs 41 = x41 at f41 ⊢
      subst x41
      have f42 : vs 42 = _ := f42
      generalize vs 42 = x42 at f42 ⊢
      subst x42
      have f43 : vs 43 = _ := f43
      generalize vs 43 = x43 at f43 ⊢
      subst x43
      have f44 : vs 44 = _ := f44
      generalize vs 44 = x44 at f44 ⊢
      subst x44
      have f45 : vs 45 = _ := f45
      generalize vs 45 = x45 at f45 ⊢
      subst x45
      have f46 : vs 46 = _ := f46
      generalize vs 46 = x46 at f46 ⊢
      subst x46
      have f47 : vs 47 = _ := f47
      generalize vs 47 = x47 at f47 ⊢
      subst x47
      have f48 : vs 48 = _ := f48
      generalize vs 48 = x48 at f48 ⊢
      subst x48
      have f49 : vs 49 = _ := f49
      generalize vs 49 = x49 at f49 ⊢
      subst x49
      have f50 : vs 50 = _ := f50
      generalize vs 50 = x50 at f50 ⊢
      subst x50
      have f51 : vs 51 = _ := f51
      generalize vs 51 = x51 at f51 ⊢
      subst x51
      have f52 : vs 52 = _ := f52
      generalize vs 52 = x52 at f52 ⊢
      subst x52
      have f53 : vs 53 = _ := f53
      generalize vs 53 = x53 at f53 ⊢
      subst x53
      have f54 : vs 54 = _ := f54
      generalize vs 54 = x54 at f54 ⊢
      subst x54
      clear hE hV
      simp only [List.drop_succ_cons, List.drop_zero]
      go_wp2_with (first | ((with_reducible refine kAny ?_); go_skip) | (with_reducible refine stA ?_) | ((first | refine tIx ?_ | refine tFd ?_ | refine tLd ?_); simp only [Act.put, zq1, zq2, zq3]))
      refine QN.mk ?_
      go_wp2_with (first | ((with_reducible refine kAny ?_); go_skip) | (with_reducible refine stA ?_) | ((first | refine tIx ?_ | refine tFd ?_ | refine tLd ?_); simp only [Act.put, zq1, zq2, zq3]))
      go_roundw
      case rel => exact ⟨k + 1, _, by omega, by go_num, hL, hL.mext⟩
      case measure => simp [intOf] <;> omega
    · go_wp2_with (first | ((with_reducible refine kAny ?_); go_skip) | (with_reducible refine stA ?_) | ((first | refine tIx ?_ | refine tFd ?_ | refine tLd ?_); simp only [Act.put, zq1, zq2, zq3]))
      go_ret
      exact RetV.mk hL rfl

set_option maxRecDepth 100000 in
set_option maxHeartbeats 8000000 in
theorem r_IsInt (a : Value) (q : Rat) (w m : World) (hV : Vw m w) (ha : FracV m a q) (k : Fit 1000 q) :
    Calls Tryz.prog 119 #[a] w (RetV w m fun _ r => r = .bool (decide (q.den = 1))) := by
  obtain ⟨_, _, g1, A1, n1, c1, h1, B1, k1, d1, rfl, -, -, -⟩ := ha.lit
  obtain ⟨l1, l2⟩ := FracC.refl_len k
  have HE : Hid ((icmp (q.den : Int) 1 == 0) = decide (q.den = 1)) := by
    show _ = _
    by_cases h : q.den = 1
    · rw [h]; rfl
    · rw [decide_eq_false h]
      have h1 : ¬ (q.den : Int) = 1 := by omega
      unfold icmp
      split
      · rfl
      · rfl
  have hL := Loc.start hV
  clear hV
  go_enter Tryz.func119, Tryz.ntmps119
  go_wp2_with (first | ((with_reducible refine kAny ?_); go_skip) | (with_reducible refine stA ?_) | ((first | refine tLd ?_ | (refine tBx ?_; clear hL; intro _ _ hL _) | refine tFl ?_); simp only [Act.put, zq1, zq2, zq3]))
  refine (r_Canon _ q _ _ hL.vw (ha.le leX)).mono ?_
  rintro e W1 ⟨v1, m1, rfl, hE, hM1, hV, h1⟩
  replace hL := hL.call hE (by assumption) hV; clear hE hV
  obtain ⟨g1', A1', n1', c1', h1', B1', k1', d1', rfl, h1⟩ := h1.lit
  obtain ⟨a1, a2⟩ := h1.open_
  go_wp2_with (first | ((with_reducible refine kAny ?_); go_skip) | (with_reducible refine stA ?_) | ((first | refine tLd ?_ | (refine tBx ?_; clear hL; intro _ _ hL _) | refine tFl ?_); simp only [Act.put, zq1, zq2, zq3]))
  refine (c_FromInt64 1 _ _ hL.vw (by omega) (by omega)).mono ?_
  rintro e W2 ⟨v2, m2, rfl, hE, hM2, hV, h2⟩
  replace hL := hL.call hE (by assumption) hV; clear hE hV
  obtain ⟨g2, A2, n2, c2, rfl, h2⟩ := h2.lit
  have L1 : Hid ((digs (1 : Int).natAbs).length ≤ 1000) := Nat.le_trans (length_digs_le (k := 1) (by decide)) (by decide)
  go_wp2_with (first | ((with_reducible refine kAny ?_); go_skip) | (with_reducible refine stA ?_) | ((first | refine tLd ?_ | (refine tBx ?_; clear hL; intro _ _ hL _) | refine tFl ?_); simp only [Act.put, zq1, zq2, zq3]))
  refine (c_Compare _ _ (q.den : Int) 1 _ _ hL.vw ((a2.toV l2).le leX) ((h2.toV L1.out).le leX)).mono ?_
  rintro e W3 ⟨_, m3, rfl, hE, hM3, hV, rfl⟩
  replace hL := hL.call hE (by assumption) hV; clear hE hV
  generalize icmp (q.den : Int) 1 = s at *
  go_wp2_with (first | ((with_reducible refine kAny ?_); go_skip) | (with_reducible refine stA ?_) | ((first | refine tLd ?_ | (refine tBx ?_; clear hL; intro _ _ hL _) | refine tFl ?_); simp only [Act.put, zq1, zq2, zq3]))
  go_ret
  exact RetV.mk hL (by rw [← HE.out]; rfl)

theorem FracC.ofInt {m : World} {a b c d : Value} {z : Int} (h1 : IntC m (.agg #[a, b]) z) (h2 : IntC m (.agg #[c, d]) 1) : FracC m (.agg #[a, b, c, d]) (z : Rat) := ⟨_, _, _, _, rfl, by simpa using h1, by simpa using h2⟩
def OneF (m : World) (v : Value) : Prop := ∃ g A n c h B k d, v = .agg #[.bool g, .slice A n c, .bool h, .slice B k d] ∧ IntC m (.agg #[.bool g, .slice A n c]) 1
theorem OneF.le {m m' : World} {v : Value} (h : OneF m v) (hb : Le m m') : OneF m' v := by
  obtain ⟨g, A, n, c, h', B, k, d, e, h⟩ := h
  exact ⟨g, A, n, c, h', B, k, d, e, h.le hb⟩
theorem r_One (w m : World) (hV : Vw m w) : Calls Tryz.prog 17 #[.int .i64 1] w (RetV w m fun m' r => OneF m' r) := by
  refine (r_Int 1 w m hV (by decide) (by decide)).mono ?_
  rintro e W' ⟨r, m', rfl, hE, hM, hV', h⟩
  obtain ⟨g, A, n, c, h', B, k, d, rfl, h⟩ := h.lit
  exact ⟨_, m', rfl, hE, hM, hV', g, A, n, c, h', B, k, d, rfl, by simpa using h.open_.1⟩

end Go.Proofs.YtmhkmmmompediaaGreat
