/- Part 1 of 6 of the proof: the law MasterSplits returns true for every input, and its arguments read as before; there is no condition. -/
import Derived.WalkKit
import Derived.LoopTactic
import Derived.Lib.Hide
import Derived.Laws.MakeOwn
import Derived.Deep.AppendLies
import Derived.Deep.Draws
import Derived.Deep.LoopGhost
import Derived.Deep.QuietTactic
import Derived.BigQuiet
import Derived.Outline
import Derived.Maps.AppendAt
import Derived.RegionTactic
import Derived.WalkSpells
import Derived.Deep.DeepCutAuto
import Derived.Deep.CutBlock
import Derived.Deep.RegionHeld3
import Derived.StillTailTactics
import Derived.Deep.RegionLaw
import Derived.Deep.RegionWith
import Derived.Deep.DeepFit
import Derived.Laws.Rows
import Derived.Laws.Tables
import Derived.Test.YtabmjadcoepbeaaGreatProg
set_option linter.unusedVariables false
set_option linter.unusedSimpArgs false
set_option maxRecDepth 100000
set_option maxHeartbeats 64000000
/- Digits in base 2^32: values of digit lists, the canonical digits of a number, and trimming. Plain facts; no program. -/
namespace Go.Proofs.YtabmjadcoepbeaaGreat

def val : List Nat → Nat
 | [] => 0
 | d :: ds => d + 4294967296 * val ds

def Dg (ds : List Nat) : Prop := ∀ d,d ∈ ds → d < 4294967296

def digs (n : Nat) : List Nat := if h : n = 0 then [] else n % 4294967296 :: digs (n / 4294967296)
termination_by n
decreasing_by omega

theorem digs_zero : digs 0 = [] := by rw [digs];simp
theorem digs_pos {n : Nat} (h : n ≠ 0) : digs n = n % 4294967296 :: digs (n / 4294967296) := by rw [digs];simp [h]
theorem digs_nil {n : Nat} : digs n = [] ↔ n = 0 := by
 constructor
 ·intro h
  rcases Nat.eq_zero_or_pos n with h0 | h0
  ·exact h0
  ·rw [digs_pos (by omega)] at h;cases h
 ·rintro rfl;exact digs_zero
theorem digs_small {n : Nat} (h : n ≠ 0) (h1 : n < 4294967296) : digs n = [n] := by
 rw [digs_pos h,Nat.mod_eq_of_lt h1,Nat.div_eq_of_lt h1,digs_zero]
theorem digs_two {n : Nat} (h : 4294967296 ≤ n) (h1 : n < 18446744073709551616) : digs n = [n % 4294967296,n / 4294967296] := by
 rw [digs_pos (by omega),digs_small (n := n / 4294967296) (by omega) (by omega)]

theorem Dg.nil : Dg [] := fun _ h => by cases h
theorem Dg.cons {d : Nat} {ds : List Nat} (h : d < 4294967296) (hs : Dg ds) : Dg (d :: ds) := by
 intro x hx
 rcases List.mem_cons.1 hx with rfl | hx
 ·exact h
 ·exact hs x hx
theorem Dg.head {d : Nat} {ds : List Nat} (h : Dg (d :: ds)) : d < 4294967296 := h d (by simp)
theorem Dg.tail {d : Nat} {ds : List Nat} (h : Dg (d :: ds)) : Dg ds := fun x hx => h x (by simp [hx])
theorem Dg.take {ds : List Nat} (h : Dg ds) (n : Nat) : Dg (ds.take n) := fun x hx => h x (List.mem_of_mem_take hx)
theorem Dg.append {a b : List Nat} (h : Dg a) (k : Dg b) : Dg (a ++ b) := fun x hx => by
 rcases List.mem_append.1 hx with hx | hx
 ·exact h x hx
 ·exact k x hx
theorem Dg.getD {ds : List Nat} (h : Dg ds) (i : Nat) : ds.getD i 0 < 4294967296 := by
 rw [List.getD_eq_getElem?_getD]
 cases e : ds[i]? with
 | none => simp
 | some z => simpa using h z (List.mem_of_getElem? e)
theorem Dg.replicate (n : Nat) : Dg (List.replicate n 0) := fun x hx => by rw [List.eq_of_mem_replicate hx];omega

theorem Dg_digs (n : Nat) : Dg (digs n) := by
 induction n using Nat.strongRecOn with
 | ind n ih =>
  rcases Nat.eq_zero_or_pos n with h | h
  ·subst h;rw [digs_zero];exact Dg.nil
  ·rw [digs_pos (by omega)]
   exact Dg.cons (Nat.mod_lt _ (by omega)) (ih _ (by omega))
theorem val_digs (n : Nat) : val (digs n) = n := by
 induction n using Nat.strongRecOn with
 | ind n ih =>
  rcases Nat.eq_zero_or_pos n with h | h
  ·subst h;rw [digs_zero];rfl
  ·rw [digs_pos (by omega),val,ih _ (by omega)];omega
theorem val_append (a b : List Nat) : val (a ++ b) = val a + 4294967296 ^ a.length * val b := by
 induction a with
 | nil => simp [val]
 | cons d a ih => simp only [List.cons_append,val,ih,List.length_cons,Nat.pow_succ,Nat.mul_add,← Nat.mul_assoc,Nat.mul_comm];omega
theorem val_replicate (n : Nat) : val (List.replicate n 0) = 0 := by
 induction n with
 | zero => rfl
 | succ n ih => simp [List.replicate_succ,val,ih]
theorem val_snoc (a : List Nat) (d : Nat) : val (a ++ [d]) = val a + 4294967296 ^ a.length * d := by
 rw [val_append];simp [val]
theorem val_lt {ds : List Nat} (h : Dg ds) : val ds < 4294967296 ^ ds.length := by
 induction ds with
 | nil => simp [val]
 | cons d ds ih =>
  have h1 := ih h.tail
  have h2 := h.head
  simp only [val,List.length_cons,Nat.pow_succ]
  have : 4294967296 ^ ds.length ≥ val ds + 1 := h1
  have h3 := Nat.mul_le_mul_right 4294967296 this
  omega
theorem take_succ_getD (l : List Nat) (i : Nat) (h : i < l.length) : l.take (i + 1) = l.take i ++ [l.getD i 0] := by
 rw [List.take_succ_eq_append_getElem h];simp [h]
theorem val_take_succ (l : List Nat) (i : Nat) : val (l.take (i + 1)) = val (l.take i) + 4294967296 ^ i * l.getD i 0 := by
 by_cases h : i < l.length
 ·rw [take_succ_getD l i h,val_snoc];simp [List.length_take,Nat.min_eq_left (Nat.le_of_lt h)]
 ·rw [List.take_of_length_le (by omega),List.take_of_length_le (by omega)];simp [List.getD_eq_getElem?_getD,List.getElem?_eq_none (Nat.le_of_not_lt h)]
theorem val_take_all (l : List Nat) (i : Nat) (h : l.length ≤ i) : val (l.take i) = val l := by rw [List.take_of_length_le h]

def trimLen (ds : List Nat) : Nat → Nat
 | 0 => 0
 | n + 1 => if ds.getD n 0 = 0 then trimLen ds n else n + 1
theorem trimLen_le (ds : List Nat) (n : Nat) : trimLen ds n ≤ n := by
 induction n with
 | zero => simp [trimLen]
 | succ n ih => simp only [trimLen];split <;> omega
theorem trimLen_zero {ds : List Nat} {n : Nat} (h : ds.getD n 0 = 0) : trimLen ds (n + 1) = trimLen ds n := by simp only [trimLen];rw [if_pos h]
theorem trimLen_pos {ds : List Nat} {n : Nat} (h : ds.getD n 0 ≠ 0) : trimLen ds (n + 1) = n + 1 := by simp only [trimLen];rw [if_neg h]
def trimD (ds : List Nat) : List Nat := ds.take (trimLen ds ds.length)
theorem length_trimD (ds : List Nat) : (trimD ds).length = trimLen ds ds.length := by
 have := trimLen_le ds ds.length
 simp [trimD];omega
theorem val_take_trimLen (ds : List Nat) (n : Nat) : val (ds.take (trimLen ds n)) = val (ds.take n) := by
 induction n with
 | zero => rfl
 | succ n ih =>
  by_cases h : ds.getD n 0 = 0
  ·rw [trimLen_zero h,ih,val_take_succ,h];simp
  ·rw [trimLen_pos h]
theorem val_trimD (ds : List Nat) : val (trimD ds) = val ds := by
 rw [trimD,val_take_trimLen,val_take_all _ _ (Nat.le_refl _)]
theorem digs_of_last (s : List Nat) (d : Nat) (h : Dg (s ++ [d])) (hd : d ≠ 0) : s ++ [d] = digs (val (s ++ [d])) := by
 induction s with
 | nil =>
  have := h.head
  simp only [List.nil_append,val]
  rw [digs_small (by omega) (by omega)];simp
 | cons c s ih =>
  have h1 := ih h.tail
  have h2 := h.head
  have hne : val (s ++ [d]) ≠ 0 := by
   intro h0;rw [h0,digs_zero] at h1;simp at h1
  simp only [List.cons_append,val]
  rw [digs_pos (by omega)]
  have e1 : (c + 4294967296 * val (s ++ [d])) % 4294967296 = c := by omega
  have e2 : (c + 4294967296 * val (s ++ [d])) / 4294967296 = val (s ++ [d]) := by omega
  rw [e1,e2,← h1]
theorem trimLen_last (ds : List Nat) (n : Nat) : trimLen ds n = 0 ∨ ∃ k,trimLen ds n = k + 1 ∧ ds.getD k 0 ≠ 0 := by
 induction n with
 | zero => left;rfl
 | succ n ih =>
  by_cases h : ds.getD n 0 = 0
  ·rw [trimLen_zero h];exact ih
  ·right;exact ⟨n,trimLen_pos h,h⟩
theorem trimD_eq {ds : List Nat} (h : Dg ds) : trimD ds = digs (val ds) := by
 rw [← val_trimD ds]
 have hl := trimLen_le ds ds.length
 rcases trimLen_last ds ds.length with h0 | ⟨k,hk,hd⟩
 ·simp [trimD,h0,val,digs_zero]
 ·have e : trimD ds = ds.take k ++ [ds.getD k 0] := by rw [trimD,hk,take_succ_getD _ _ (by omega)]
  rw [e]
  exact digs_of_last _ _ (by rw [← e];exact h.take _) hd
theorem trimLen_eq {ds : List Nat} (h : Dg ds) : trimLen ds ds.length = (digs (val ds)).length := by rw [← trimD_eq h,length_trimD]
theorem take_trim {ds : List Nat} (h : Dg ds) : ds.take (digs (val ds)).length = digs (val ds) := by
 rw [← trimLen_eq h,← trimD_eq h];rfl
theorem length_digs_le {n k : Nat} (h : n < 4294967296 ^ k) : (digs n).length ≤ k := by
 induction k generalizing n with
 | zero =>
  have : n = 0 := by simpa using h
  subst this;rw [digs_zero];simp
 | succ k ih =>
  rcases Nat.eq_zero_or_pos n with h0 | h0
  ·subst h0;rw [digs_zero];simp
  ·rw [digs_pos (by omega),List.length_cons]
   have := ih (n := n / 4294967296) (by rw [Nat.pow_succ,Nat.mul_comm] at h;exact Nat.div_lt_of_lt_mul h)
   omega
theorem lt_of_length_digs {n k : Nat} (h : (digs n).length ≤ k) : n < 4294967296 ^ k := by
 have h1 := val_lt (Dg_digs n)
 rw [val_digs] at h1
 exact Nat.lt_of_lt_of_le h1 (Nat.pow_le_pow_right (by omega) h)
theorem digs_inj {a b : Nat} (h : digs a = digs b) : a = b := by rw [← val_digs a,h,val_digs]
theorem val_zero_iff {ds : List Nat} (h : Dg ds) : val ds = 0 ↔ trimLen ds ds.length = 0 := by
 rw [trimLen_eq h,List.length_eq_zero_iff,digs_nil]
def cmp3 (x y : Nat) : Int := if x < y then -1 else if x = y then 0 else 1
theorem cmp3_lt {x y : Nat} (h : x < y) : cmp3 x y = -1 := by simp [cmp3,h]
theorem cmp3_eq (x : Nat) : cmp3 x x = 0 := by simp [cmp3]
theorem cmp3_gt {x y : Nat} (h : y < x) : cmp3 x y = 1 := by unfold cmp3;rw [if_neg (by omega),if_neg (by omega)]
theorem length_digs_lt {x y : Nat} (h : (digs x).length < (digs y).length) : x < y := by
 rcases Nat.lt_or_ge x y with hlt | hge
 ·exact hlt
 ·exfalso
  have h1 := lt_of_length_digs (Nat.le_refl (digs x).length)
  have h2 := length_digs_le (Nat.lt_of_le_of_lt hge h1)
  omega
theorem val_split (l : List Nat) (k : Nat) (h : k < l.length) : val l = val (l.take k) + 4294967296 ^ k * (l.getD k 0 + 4294967296 * val (l.drop (k + 1))) := by
 have e : l = l.take k ++ (l.getD k 0 :: l.drop (k + 1)) := by
  have : l.drop k = l.getD k 0 :: l.drop (k + 1) := by rw [List.drop_eq_getElem_cons h];simp [h]
  rw [← this,List.take_append_drop]
 conv => lhs;rw [e]
 rw [val_append,List.length_take,Nat.min_eq_left (Nat.le_of_lt h)];rfl
theorem val_lt_of_split {a b : List Nat} {k : Nat} (ha : Dg a) (hka : k < a.length) (hkb : k < b.length) (hd : a.drop (k + 1) = b.drop (k + 1)) (hlt : a.getD k 0 < b.getD k 0) : val a < val b := by
 rw [val_split a k hka,val_split b k hkb,hd]
 have h1 := val_lt (ha.take k)
 rw [List.length_take,Nat.min_eq_left (Nat.le_of_lt hka)] at h1
 have h2 : 4294967296 ^ k * (a.getD k 0 + 4294967296 * val (b.drop (k + 1)) + 1) ≤ 4294967296 ^ k * (b.getD k 0 + 4294967296 * val (b.drop (k + 1))) := Nat.mul_le_mul_left _ (by omega)
 rw [Nat.mul_add _ _ 1] at h2
 omega
theorem drop_eq_of {a b : List Nat} {k : Nat} (hl : a.length = b.length) (hd : a.drop (k + 1) = b.drop (k + 1)) (he : a.getD k 0 = b.getD k 0) : a.drop k = b.drop k := by
 by_cases h : k < a.length
 ·have h1 : a.drop k = a.getD k 0 :: a.drop (k + 1) := by rw [List.drop_eq_getElem_cons h];simp [h]
  have h2 : b.drop k = b.getD k 0 :: b.drop (k + 1) := by rw [List.drop_eq_getElem_cons (by omega)];simp [show k < b.length by omega]
  rw [h1,h2,hd,he]
 ·rw [List.drop_eq_nil_of_le (by omega),List.drop_eq_nil_of_le (by omega)]
theorem add_step {ss : List Nat} {k cy p q X Y : Nat} (hl : ss.length = k) (h : val ss + 4294967296 ^ k * cy = X + Y) :
  val (ss ++ [(cy + p + q) % 4294967296]) + 4294967296 ^ (k + 1) * ((cy + p + q) / 4294967296) = (X + 4294967296 ^ k * p) + (Y + 4294967296 ^ k * q) := by
 rw [val_snoc,hl,Nat.pow_succ,Nat.mul_assoc]
 have e : cy + p + q = (cy + p + q) % 4294967296 + 4294967296 * ((cy + p + q) / 4294967296) := (Nat.mod_add_div _ _).symm
 have e2 := congrArg (4294967296 ^ k * ·) e
 simp only [Nat.mul_add] at e2
 omega
theorem pow_pos' (k : Nat) : 0 < 4294967296 ^ k := Nat.pow_pos (by omega)
theorem val_lt_pow {xs : List Nat} {m : Nat} (hx : Dg xs) (h : xs.length ≤ m) : val xs < 4294967296 ^ m := Nat.lt_of_lt_of_le (val_lt hx) (Nat.pow_le_pow_right (by omega) h)
theorem add_end_aux (b P X Y S cy : Nat) (hb : 2 ≤ b) (l1 : X < P) (l2 : Y < P) (h : S + P * b * cy = X + Y) : S = X + Y := by
 cases cy with
 | zero => simpa using h
 | succ c =>
  exfalso
  have h2 : P * 2 ≤ P * b := Nat.mul_le_mul_left P hb
  have h3 : P * b * 1 ≤ P * b * (c + 1) := Nat.mul_le_mul_left (P * b) (by omega)
  omega
theorem add_end {ss xs ys : List Nat} {n cy : Nat} (hx : Dg xs) (hy : Dg ys) (h1 : xs.length + 1 ≤ n) (h2 : ys.length + 1 ≤ n)
  (h : val ss + 4294967296 ^ n * cy = val (xs.take n) + val (ys.take n)) : val ss = val xs + val ys := by
 obtain ⟨m,rfl⟩ : ∃ m,n = m + 1 := ⟨n - 1,by clear h;omega⟩
 rw [val_take_all xs _ (Nat.le_trans (Nat.le_succ _) h1),val_take_all ys _ (Nat.le_trans (Nat.le_succ _) h2),Nat.pow_succ] at h
 exact add_end_aux _ _ _ _ _ _ (by omega) (val_lt_pow hx (Nat.le_of_succ_le_succ h1)) (val_lt_pow hy (Nat.le_of_succ_le_succ h2)) h
theorem getElem?_made (ss : List Nat) (n k : Nat) (hk : k < n) (hs : ss.length ≤ n) : ∃ z,(ss ++ List.replicate (n - ss.length) 0)[k]? = some z :=
 ⟨_,List.getElem?_eq_getElem (by simp;omega)⟩
theorem set_made (ss : List Nat) (n x : Nat) (hs : ss.length < n) :
  (ss ++ List.replicate (n - ss.length) 0).set ss.length x = (ss ++ [x]) ++ List.replicate (n - (ss ++ [x]).length) 0 := by
 obtain ⟨m,hm⟩ : ∃ m,n - ss.length = m + 1 := ⟨n - ss.length - 1,by omega⟩
 have hm2 : n - (ss ++ [x]).length = m := by simp;omega
 rw [hm,hm2,List.replicate_succ,List.set_append_right _ _ (Nat.le_refl _)]
 simp
theorem sub_step_aux (b P S X Y p q cy x : Nat) (hx : x + q + cy = p + b) (h : S + Y = X + P * cy) (hc : x / b ≤ 1) :
  S + P * (x % b) + (Y + P * q) = (X + P * p) + P * b * (1 - x / b) := by
 have e := Nat.mod_add_div x b
 have e1 : x % b + b * (x / b) + q + cy = p + b := by rw [e];exact hx
 have e2 : b * (1 - x / b) + b * (x / b) = b := by
  rw [← Nat.mul_add,Nat.sub_add_cancel hc,Nat.mul_one]
 generalize x % b = r at *
 generalize b * (x / b) = t at *
 have e3 : r + q + cy = p + b * (1 - x / b) := by omega
 have e4 : P * (r + q + cy) = P * (p + b * (1 - x / b)) := by rw [e3]
 rw [Nat.mul_add,Nat.mul_add,Nat.mul_add,← Nat.mul_assoc] at e4
 omega
theorem sub_step {ss : List Nat} {k cy p q x X Y : Nat} (hl : ss.length = k) (hx : x + q + cy = p + 4294967296) (h : val ss + Y = X + 4294967296 ^ k * cy) (hc : x / 4294967296 ≤ 1) :
  val (ss ++ [x % 4294967296]) + (Y + 4294967296 ^ k * q) = (X + 4294967296 ^ k * p) + 4294967296 ^ (k + 1) * (1 - x / 4294967296) := by
 rw [val_snoc,hl,Nat.pow_succ]
 exact sub_step_aux _ _ _ _ _ _ _ _ _ hx h hc
theorem sub_end {ss xs ys : List Nat} {cy : Nat} (hds : Dg ss) (hl : ss.length = xs.length) (hyx : ys.length ≤ xs.length) (hle : val ys ≤ val xs)
  (h : val ss + val (ys.take xs.length) = val (xs.take xs.length) + 4294967296 ^ xs.length * cy) : val ss = val xs - val ys := by
 rw [val_take_all _ _ hyx,val_take_all _ _ (Nat.le_refl _)] at h
 have h1 := val_lt hds
 rw [hl] at h1
 cases cy with
 | zero => rw [Nat.mul_zero] at h;omega
 | succ c => rw [Nat.mul_add,Nat.mul_one] at h;omega
theorem val_set (l : List Nat) (k x : Nat) (h : k < l.length) : val (l.set k x) + 4294967296 ^ k * l.getD k 0 = val l + 4294967296 ^ k * x := by
 rw [val_split l k h,val_split (l.set k x) k (by simpa using h)]
 have e1 : (l.set k x).take k = l.take k := by rw [List.take_set_of_le (Nat.le_refl _)]
 have e2 : (l.set k x).drop (k + 1) = l.drop (k + 1) := by rw [List.drop_set_of_lt (by omega)]
 have e3 : (l.set k x).getD k 0 = x := by simp [h]
 rw [e1,e2,e3,Nat.mul_add,Nat.mul_add]
 omega
theorem Dg.set {l : List Nat} (h : Dg l) {x : Nat} (hx : x < 4294967296) (k : Nat) : Dg (l.set k x) := fun y hy => by
 rcases List.mem_or_eq_of_mem_set hy with hy | rfl
 ·exact h y hy
 ·exact hx
theorem getD_set_ne (l : List Nat) (k j x : Nat) (h : k ≠ j) : (l.set k x).getD j 0 = l.getD j 0 := by
 simp only [List.getD_eq_getElem?_getD,List.getElem?_set_ne h]
theorem mul_step_aux (b P T T' o c t pq R : Nat) (hs : T' + P * o = T + P * (t % b)) (ht : t = c + o + pq) (h : T + P * c = R) :
  T' + P * b * (t / b) = R + P * pq := by
 have e := Nat.mod_add_div t b
 have e1 : P * (t % b) + P * b * (t / b) = P * t := by rw [Nat.mul_assoc,← Nat.mul_add,e]
 rw [ht] at e1
 rw [Nat.mul_add,Nat.mul_add] at e1
 subst ht
 omega
theorem mul_step {tt : List Nat} {j c p q R : Nat} (hj : j < tt.length) (h : val tt + 4294967296 ^ j * c = R) :
  val (tt.set j ((c + tt.getD j 0 + p * q) % 4294967296)) + 4294967296 ^ (j + 1) * ((c + tt.getD j 0 + p * q) / 4294967296) = R + 4294967296 ^ j * (p * q) := by
 rw [Nat.pow_succ]
 exact mul_step_aux _ _ _ _ _ _ _ _ _ (val_set tt j _ hj) rfl h
theorem mul_lt_sq {p q : Nat} (hp : p < 4294967296) (hq : q < 4294967296) : p * q ≤ 18446744065119617025 := by
 have h := Nat.mul_le_mul (show p ≤ 4294967295 by omega) (show q ≤ 4294967295 by omega)
 exact h
theorem mul_comb (P R S V p q : Nat) : S + P * (p * V) + P * R * (p * q) = S + P * (p * (V + R * q)) := by
 rw [Nat.mul_add,Nat.mul_add,Nat.add_assoc]
 congr 2
 rw [Nat.mul_assoc]
 congr 1
 rw [← Nat.mul_assoc,← Nat.mul_assoc,Nat.mul_comm R p]
theorem mul_step_full {tt ys : List Nat} {k j c p q S : Nat} (hj : k + j < tt.length) (hq : ys.getD j 0 = q) (h : val tt + 4294967296 ^ (k + j) * c = S + 4294967296 ^ k * (p * val (ys.take j))) :
  val (tt.set (k + j) ((c + tt.getD (k + j) 0 + p * q) % 4294967296)) + 4294967296 ^ (k + (j + 1)) * ((c + tt.getD (k + j) 0 + p * q) / 4294967296) = S + 4294967296 ^ k * (p * val (ys.take (j + 1))) := by
 have h1 := mul_step (p := p) (q := q) hj h
 rw [← Nat.add_assoc,h1,val_take_succ,hq,Nat.pow_add]
 exact mul_comb _ _ _ _ _ _
theorem mul_row {tt xs ys : List Nat} {k c S : Nat} (hj : k + ys.length < tt.length) (hz : tt.getD (k + ys.length) 0 = 0) (hS : S = val (xs.take k) * val ys)
  (h : val tt + 4294967296 ^ (k + ys.length) * c = S + 4294967296 ^ k * (xs.getD k 0 * val (ys.take ys.length))) :
  val (tt.set (k + ys.length) c) = val (xs.take (k + 1)) * val ys := by
 have h1 := val_set tt (k + ys.length) c hj
 rw [hz,Nat.mul_zero,Nat.add_zero] at h1
 rw [h1,h,val_take_all _ _ (Nat.le_refl _),hS,val_take_succ,Nat.add_mul,Nat.mul_assoc]
def bl (n : Nat) : Nat := if h : n = 0 then 0 else bl (n / 2) + 1
termination_by n
decreasing_by omega
theorem bl_zero : bl 0 = 0 := by rw [bl];simp
theorem bl_pos {n : Nat} (h : n ≠ 0) : bl n = bl (n / 2) + 1 := by rw [bl];simp [h]
theorem lt_bl (n : Nat) : n < 2 ^ bl n := by
 induction n using Nat.strongRecOn with
 | ind n ih =>
  rcases Nat.eq_zero_or_pos n with h | h
  ·subst h;rw [bl_zero];simp
  ·rw [bl_pos (by omega),Nat.pow_succ]
   have := ih (n / 2) (by omega)
   omega
theorem le_bl {n : Nat} (hn : n ≠ 0) : 2 ^ (bl n - 1) ≤ n := by
 induction n using Nat.strongRecOn with
 | ind n ih =>
  rw [bl_pos hn,Nat.add_sub_cancel]
  by_cases h : n / 2 = 0
  ·rw [h,bl_zero];simp;omega
  ·have h1 := ih (n / 2) (by omega) h
   have h2 : bl (n / 2) ≠ 0 := by rw [bl_pos h];omega
   obtain ⟨k,hk⟩ : ∃ k,bl (n / 2) = k + 1 := ⟨bl (n / 2) - 1,by omega⟩
   rw [hk,Nat.add_sub_cancel] at h1
   rw [hk,Nat.pow_succ]
   omega
theorem bl_eq {n k : Nat} (h1 : 2 ^ k ≤ n) (h2 : n < 2 ^ (k + 1)) : bl n = k + 1 := by
 have hn : n ≠ 0 := by have := Nat.pow_pos (n := k) (show 0 < 2 by omega);omega
 have a := lt_bl n
 have b := le_bl hn
 have c : bl n ≠ 0 := by rw [bl_pos hn];omega
 rcases Nat.lt_trichotomy (bl n) (k + 1) with h | h | h
 ·have := Nat.pow_le_pow_right (show 0 < 2 by omega) (show bl n ≤ k by omega)
  omega
 ·exact h
 ·have := Nat.pow_le_pow_right (show 0 < 2 by omega) (show k + 1 ≤ bl n - 1 by omega)
  omega
theorem pow_B (k : Nat) : 4294967296 ^ k = 2 ^ (32 * k) := by rw [Nat.pow_mul]
theorem bl_top (v d m : Nat) (hd : d ≠ 0) (hv : v < 2 ^ m) : bl (v + 2 ^ m * d) = m + bl d := by
 have a := lt_bl d
 have b := le_bl hd
 obtain ⟨k,hk⟩ : ∃ k,bl d = k + 1 := ⟨bl d - 1,by rw [bl_pos hd];omega⟩
 rw [hk] at a b ⊢
 rw [Nat.add_sub_cancel] at b
 have h1 := Nat.mul_le_mul_left (2 ^ m) b
 have h2 := Nat.mul_le_mul_left (2 ^ m) (show d + 1 ≤ 2 ^ (k + 1) by omega)
 rw [← Nat.pow_add] at h1 h2
 rw [Nat.mul_add,Nat.mul_one] at h2
 rw [show m + (k + 1) = (m + k) + 1 by omega]
 refine bl_eq ?_ ?_
 ·omega
 ·rw [show m + k + 1 = m + (k + 1) by omega];omega
theorem bl_snoc (s : List Nat) (d : Nat) (h : Dg s) (hd : d ≠ 0) : bl (val (s ++ [d])) = 32 * s.length + bl d := by
 rw [val_snoc,pow_B]
 exact bl_top _ _ _ hd (by rw [← pow_B];exact val_lt h)
theorem bl_le {n k : Nat} (h : n < 2 ^ k) : bl n ≤ k := by
 rcases Nat.eq_zero_or_pos n with h0 | h0
 ·subst h0;rw [bl_zero];omega
 ·have b := le_bl (n := n) (by omega)
  rcases Nat.lt_or_ge k (bl n) with h1 | h1
  ·have := Nat.pow_le_pow_right (show 0 < 2 by omega) (show k ≤ bl n - 1 by omega)
   omega
  ·exact h1
theorem bl_le_digs (n : Nat) : bl n ≤ 32 * (digs n).length := by
 apply bl_le;rw [← pow_B];exact lt_of_length_digs (Nat.le_refl _)
theorem shl_low (p r : Nat) (hr : r < 32) : p * 2 ^ r % 4294967296 = 2 ^ r * (p % 2 ^ (32 - r)) := by
 have e : (4294967296 : Nat) = 2 ^ r * 2 ^ (32 - r) := by rw [← Nat.pow_add];rw [show r + (32 - r) = 32 by omega]
 rw [Nat.mul_comm p,e,Nat.mul_mod_mul_left]
theorem or_low (o p r : Nat) (hr : r < 32) (ho : o < 2 ^ r) : o ||| (p * 2 ^ r % 4294967296) = o + p * 2 ^ r % 4294967296 := by
 rw [shl_low p r hr,Nat.or_comm,← Nat.two_pow_add_eq_or_of_lt ho,Nat.add_comm]
theorem or_low_lt (o p r : Nat) (hr : r < 32) (ho : o < 2 ^ r) : o + p * 2 ^ r % 4294967296 < 4294967296 := by
 rw [shl_low p r hr]
 have h1 : p % 2 ^ (32 - r) < 2 ^ (32 - r) := Nat.mod_lt _ (Nat.pow_pos (by omega))
 have e : (2 : Nat) ^ 32 = 2 ^ r * 2 ^ (32 - r) := by rw [← Nat.pow_add];rw [show r + (32 - r) = 32 by omega]
 have h2 := Nat.mul_le_mul_left (2 ^ r) (show p % 2 ^ (32 - r) + 1 ≤ 2 ^ (32 - r) from h1)
 rw [← e,Nat.mul_add,Nat.mul_one] at h2
 have h3 : (2 : Nat) ^ 32 = 4294967296 := by decide
 omega
theorem shl_high (p r : Nat) (hp : p < 4294967296) : p * 2 ^ r / 4294967296 < 2 ^ r := by
 apply Nat.div_lt_of_lt_mul
 exact Nat.mul_lt_mul_of_pos_right hp (Nat.pow_pos (by omega))
theorem pow_lt_B {r : Nat} (hr : r < 32) : 2 ^ r < 4294967296 := by
 have : (2 : Nat) ^ r < 2 ^ 32 := Nat.pow_lt_pow_right (by omega) hr
 have h3 : (2 : Nat) ^ 32 = 4294967296 := by decide
 omega
theorem shl_lt (p r : Nat) (hp : p < 4294967296) (hr : r < 32) : p * 2 ^ r < 18446744073709551616 := by
 have h1 := Nat.mul_lt_mul_of_lt_of_lt hp (pow_lt_B hr)
 exact h1
theorem shift_step_aux (b R W S o lo hi V Pk p x : Nat) (hx : lo + b * hi = x) (hS : S = R * W * V) (hp : x = p * W) :
  S + R * Pk * lo + R * Pk * b * hi = R * W * (V + Pk * p) := by
 have e : R * Pk * lo + R * Pk * b * hi = R * Pk * (p * W) := by
  rw [Nat.mul_assoc (R * Pk) b hi,← Nat.mul_add,hx,hp]
 rw [Nat.add_assoc,e,hS,Nat.mul_add]
 congr 1
 rw [Nat.mul_assoc,Nat.mul_assoc]
 congr 1
 rw [← Nat.mul_assoc,Nat.mul_comm (Pk * p) W]
theorem shift_step {ss : List Nat} {k Q r o p V : Nat} (hl : k + Q + 1 < ss.length) (ho : ss.getD (k + Q) 0 = o) (hz : ss.getD (k + Q + 1) 0 = 0)
  (hv : val ss = 4294967296 ^ Q * 2 ^ r * V) :
  val ((ss.set (k + Q) (o + p * 2 ^ r % 4294967296)).set (k + Q + 1) (p * 2 ^ r / 4294967296)) = 4294967296 ^ Q * 2 ^ r * (V + 4294967296 ^ k * p) := by
 have h1 := val_set ss (k + Q) (o + p * 2 ^ r % 4294967296) (by omega)
 have h2 := val_set (ss.set (k + Q) (o + p * 2 ^ r % 4294967296)) (k + Q + 1) (p * 2 ^ r / 4294967296) (by simpa using hl)
 rw [getD_set_ne _ _ _ _ (by omega),hz,Nat.mul_zero,Nat.add_zero] at h2
 rw [ho,Nat.mul_add] at h1
 have h3 := shift_step_aux 4294967296 (4294967296 ^ Q) (2 ^ r) (val ss) o _ _ V (4294967296 ^ k) p _ (Nat.mod_add_div _ _) hv rfl
 rw [h2,Nat.pow_succ,← h3]
 rw [Nat.pow_add,Nat.mul_comm (4294967296 ^ k)] at h1 ⊢
 omega
theorem pow_split (n : Nat) : 2 ^ n = 4294967296 ^ (n / 32) * 2 ^ (n % 32) := by
 rw [pow_B,← Nat.pow_add]
 congr 1
 omega
theorem half_or (p q : Nat) (hp : p < 4294967296) : p / 2 ||| (q * 2147483648 % 4294967296) = p / 2 + 2147483648 * (q % 2) := by
 have h1 : q * 2147483648 % 4294967296 = 2 ^ 31 * (q % 2) := by
  have : (2 : Nat) ^ 31 = 2147483648 := by decide
  rw [this];omega
 have h2 : p / 2 < 2 ^ 31 := by
  have : (2 : Nat) ^ 31 = 2147483648 := by decide
  rw [this];omega
 rw [h1,Nat.or_comm,← Nat.two_pow_add_eq_or_of_lt h2,Nat.add_comm]
theorem half_step_aux (P S X p q c : Nat) (h : 2 * S + c = X + P * (p % 2)) :
  2 * (S + P * (p / 2 + 2147483648 * (q % 2))) + c = (X + P * p) + P * 4294967296 * (q % 2) := by
 have e : P * p = 2 * (P * (p / 2)) + P * (p % 2) := by
  have := Nat.mod_add_div p 2
  conv => lhs;rw [← this]
  rw [Nat.mul_add,Nat.mul_left_comm];omega
 have e2 : P * 4294967296 * (q % 2) = 2 * (P * (2147483648 * (q % 2))) := by
  rw [Nat.mul_assoc,Nat.mul_left_comm 2 P]
  congr 1;omega
 rw [e2,e,Nat.mul_add P]
 omega
theorem half_step {ss xs : List Nat} {k p q c : Nat} (hl : ss.length = k) (hp : xs.getD k 0 = p) (h : 2 * val ss + c = val (xs.take k) + 4294967296 ^ k * (p % 2)) :
  2 * val (ss ++ [p / 2 + 2147483648 * (q % 2)]) + c = val (xs.take (k + 1)) + 4294967296 ^ (k + 1) * (q % 2) := by
 rw [val_snoc,hl,val_take_succ,hp,Nat.pow_succ]
 exact half_step_aux _ _ _ _ _ _ h
theorem length_digs_mono {a b : Nat} (h : a ≤ b) : (digs a).length ≤ (digs b).length :=
 length_digs_le (Nat.lt_of_le_of_lt h (lt_of_length_digs (Nat.le_refl _)))
theorem lt_of_bl {x y : Nat} (h : bl x < bl y) : x < y := by
 have h1 := lt_bl x
 have hy : y ≠ 0 := by rintro rfl;rw [bl_zero] at h;omega
 have h2 := le_bl hy
 have h3 := Nat.pow_le_pow_right (show 0 < 2 by omega) (show bl x ≤ bl y - 1 by omega)
 omega
theorem div_start {x y n : Nat} (hy : y ≠ 0) (h : bl x = n + bl y) : x < 2 ^ (n + 1) * y := by
 have h1 := lt_bl x
 have h2 := le_bl hy
 obtain ⟨k,hk⟩ : ∃ k,bl y = k + 1 := ⟨bl y - 1,by rw [bl_pos hy];omega⟩
 rw [hk,Nat.add_sub_cancel] at h2
 rw [h,hk,show n + (k + 1) = (n + 1) + k by omega,Nat.pow_add] at h1
 exact Nat.lt_of_lt_of_le h1 (Nat.mul_le_mul_left _ h2)
theorem shifted_lt {x y n i : Nat} (h : bl x = n + bl y) (hi : i ≤ n) : 2 ^ i * y < 4294967296 ^ (digs x).length := by
 have h1 : 2 ^ i * y ≤ 2 ^ n * y := Nat.mul_le_mul_right _ (Nat.pow_le_pow_right (by omega) hi)
 have h2 : 2 ^ n * y < 2 ^ n * 2 ^ bl y := Nat.mul_lt_mul_of_pos_left (lt_bl y) (Nat.pow_pos (by omega))
 rw [← Nat.pow_add,← h] at h2
 have h3 := Nat.pow_le_pow_right (show 0 < 2 by omega) (bl_le_digs x)
 rw [← pow_B] at h3
 omega
theorem dvd_digit {l : List Nat} {a r : Nat} (hr : r < 32) (hl : a < l.length) (hd : Dg l) (h : 2 ^ (32 * a + r + 1) ∣ val l) : 2 ^ (r + 1) ∣ l.getD a 0 := by
 have h1 := val_split l a hl
 have h2 := val_lt (hd.take a)
 rw [List.length_take,Nat.min_eq_left (Nat.le_of_lt hl)] at h2
 have e : 2 ^ (32 * a + r + 1) = 4294967296 ^ a * 2 ^ (r + 1) := by rw [pow_B,← Nat.pow_add,Nat.add_assoc]
 rw [e] at h
 have h3 : 4294967296 ^ a ∣ val l := Nat.dvd_trans (Nat.dvd_mul_right _ _) h
 have h4 : 4294967296 ^ a ∣ val (l.take a) := by
  rw [h1] at h3
  exact (Nat.dvd_add_iff_left (Nat.dvd_mul_right _ _)).2 h3
 have h5 : val (l.take a) = 0 := Nat.eq_zero_of_dvd_of_lt h4 h2
 rw [h1,h5,Nat.zero_add] at h
 have h6 := Nat.dvd_of_mul_dvd_mul_left (pow_pos' a) h
 have h7 : 2 ^ (r + 1) ∣ 4294967296 * val (l.drop (a + 1)) := by
  refine Nat.dvd_trans ?_ (Nat.dvd_mul_right _ _)
  have : (4294967296 : Nat) = 2 ^ (r + 1) * 2 ^ (32 - (r + 1)) := by rw [← Nat.pow_add];rw [show r + 1 + (32 - (r + 1)) = 32 by omega]
  rw [this];exact Nat.dvd_mul_right _ _
 exact (Nat.dvd_add_iff_left h7).2 h6
theorem or_bit {o r : Nat} (h : 2 ^ (r + 1) ∣ o) : o ||| 2 ^ r = o + 2 ^ r := by
 obtain ⟨t,rfl⟩ := h
 rw [← Nat.two_pow_add_eq_or_of_lt (Nat.pow_lt_pow_right (by omega) (by omega))]
theorem or_bit_lt {o r : Nat} (ho : o < 4294967296) (hr : r < 32) : o ||| 2 ^ r < 4294967296 :=
 Nat.or_lt_two_pow (n := 32) ho (Nat.pow_lt_pow_right (by omega) hr)
theorem set_bit {l : List Nat} {i : Nat} (hl : i / 32 < l.length) (hd : Dg l) (h : 2 ^ (i + 1) ∣ val l) :
  val (l.set (i / 32) (l.getD (i / 32) 0 ||| 2 ^ (i % 32))) = val l + 2 ^ i := by
 have hi : 32 * (i / 32) + i % 32 + 1 = i + 1 := by omega
 rw [or_bit (dvd_digit (Nat.mod_lt _ (by omega)) hl hd (by rw [hi];exact h))]
 have h1 := val_set l (i / 32) (l.getD (i / 32) 0 + 2 ^ (i % 32)) hl
 rw [Nat.mul_add,← pow_split] at h1
 omega
theorem div_sub {x y q R i : Nat} (h : x = q * y + R) (hd : 2 ^ i * y ≤ R) (hr : R < 2 ^ (i + 1) * y) : x = (q + 2 ^ i) * y + (R - 2 ^ i * y) ∧ R - 2 ^ i * y < 2 ^ i * y := by
 rw [Nat.pow_succ,Nat.mul_comm _ 2,Nat.mul_assoc] at hr
 rw [Nat.add_mul]
 omega
theorem half_pow (i y : Nat) : 2 ^ (i + 1) * y / 2 = 2 ^ i * y := by
 rw [Nat.pow_succ,Nat.mul_comm _ 2,Nat.mul_assoc,Nat.mul_div_cancel_left _ (by omega)]
theorem div_end {x y q R : Nat} (h : x = q * y + R) (hr : R < y) : q = x / y ∧ R = x % y := by
 have hy : 0 < y := by omega
 subst h
 constructor
 ·rw [Nat.mul_comm,Nat.mul_add_div hy,Nat.div_eq_of_lt hr,Nat.add_zero]
 ·rw [Nat.mul_comm,Nat.mul_add_mod,Nat.mod_eq_of_lt hr]
theorem length_digs_mul {a b : List Nat} (ha : Dg a) (hb : Dg b) : (digs (val a * val b)).length ≤ a.length + b.length := by
 apply length_digs_le
 rw [Nat.pow_add]
 exact Nat.mul_lt_mul_of_lt_of_lt (val_lt ha) (val_lt hb)
theorem length_digs_val {a : List Nat} (ha : Dg a) : (digs (val a)).length ≤ a.length := length_digs_le (val_lt ha)
theorem length_digs_add {a b : List Nat} (ha : Dg a) (hb : Dg b) : (digs (val a + val b)).length ≤ max a.length b.length + 1 := by
 apply length_digs_le
 have h1 := val_lt_pow ha (Nat.le_max_left a.length b.length)
 have h2 := val_lt_pow hb (Nat.le_max_right a.length b.length)
 rw [Nat.pow_succ]
 generalize 4294967296 ^ (max a.length b.length) = P at *
 omega
end Go.Proofs.YtabmjadcoepbeaaGreat

/- Words for memory: slices that read as lists of cells, blocks known whole, worlds that only grew. No program. -/
namespace Go.Proofs.YtabmjadcoepbeaaGreat
open Go.RowKit

abbrev Ext (w w' : World) : Prop := Below w.heap.size w w'
theorem Ext.refl (w : World) : Ext w w := Below.refl _ _
theorem Ext.trans {a b c : World} (h : Ext a b) (k : Ext b c) : Ext a c := Below.trans h (Below.mono k h.size)
theorem Ext.new (w : World) (o : Obj) : Ext w (w.alloc o) := (Below.refl _ _).alloc (Nat.le_refl _) _
theorem Ext.alloc {a w : World} (h : Ext a w) (o : Obj) : Ext a (w.alloc o) := Below.alloc h h.size o
theorem Ext.drew {a w : World} (h : Ext a w) : Ext a w.drew := Below.drew h
theorem Ext.drewN {a w : World} (h : Ext a w) (n : Nat) : Ext a (w.drewN n) := ⟨h.os,h.tape,h.output,h.size,h.block⟩
theorem Ext.setCell {a w : World} (h : Ext a w) {p : Addr} (hp : a.heap.size ≤ p.block) (u : Value) : Ext a (w.setCell p u) := Below.setCell h hp u
theorem Ext.grown {a w w' : World} {row : Option Nat} (h : Ext a w) (hg : w.grownBy w' row) (hr : ∀ k,row = some k → a.heap.size ≤ k) : Ext a w' :=
 Below.grown h hg h.size hr

theorem bcell {W w1 : World} (hb : Ext W w1) : (∀ b o,b < W.heap.size → w1.cell? ⟨b,o,none⟩ = W.cell? ⟨b,o,none⟩) ∧ (∀ b o,b < W.heap.size → w1.frozen? ⟨b,o,none⟩ = W.frozen? ⟨b,o,none⟩) :=
 ⟨fun b o h => hb.cell (p := ⟨b,o,none⟩) h,fun b o h => hb.frozen (p := ⟨b,o,none⟩) h⟩

theorem lt_of_cell {W : World} {b o : Nat} {u : Value} (h : W.cell? ⟨b,o,none⟩ = some u) : b < W.heap.size := World.block_lt_of_cell? W _ h
theorem cell_keep {W w1 : World} (hb : Ext W w1) {b o : Nat} {u : Value} (h : W.cell? ⟨b,o,none⟩ = some u) : w1.cell? ⟨b,o,none⟩ = some u :=
 (hb.cell (p := ⟨b,o,none⟩) (lt_of_cell h)).trans h
theorem add_mk (b o n : Nat) : (Addr.add ⟨b,o,none⟩ n) = ⟨b,o + n,none⟩ := by unfold Addr.add;split <;> simp_all

def Sl (w : World) (A : Option Addr) (cs : List Value) : Prop :=
 0 < cs.length → ∃ b off,A = some ⟨b,off,none⟩ ∧ b < w.heap.size ∧ ∀ j u,cs[j]? = some u → w.cell? ⟨b,off + j,none⟩ = some u

theorem Sl.nil {w : World} {A : Option Addr} : Sl w A [] := fun h => absurd h (by simp)
theorem Sl.ext {w w' : World} {A : Option Addr} {cs : List Value} (h : Sl w A cs) (hb : Ext w w') : Sl w' A cs := fun hl => by
 obtain ⟨b,off,e,hlt,hc⟩ := h hl
 exact ⟨b,off,e,Nat.lt_of_lt_of_le hlt hb.size,fun j u hu => (hb.cell (p := ⟨b,off + j,none⟩) hlt).trans (hc j u hu)⟩
theorem Sl.at_ {w : World} {A : Option Addr} {cs : List Value} {k : Nat} (h : Sl w A cs) (hk : k < cs.length) :
  ∃ b off,A = some ⟨b,off,none⟩ ∧ b < w.heap.size ∧ w.cell? ⟨b,off + k,none⟩ = some (cs[k]'hk) := by
 obtain ⟨b,off,e,hlt,hc⟩ := h (by omega)
 exact ⟨b,off,e,hlt,hc k _ (List.getElem?_eq_getElem hk)⟩
theorem Sl.take {w : World} {A : Option Addr} {cs : List Value} (h : Sl w A cs) (n : Nat) : Sl w A (cs.take n) := fun hl => by
 obtain ⟨b,off,e,hlt,hc⟩ := h (by simp at hl;omega)
 refine ⟨b,off,e,hlt,fun j u hu => hc j u ?_⟩
 rw [List.getElem?_take] at hu
 split at hu
 ·exact hu
 ·cases hu

def Blk (w : World) (g : Nat) (t : TypeId) (cs : Array Value) : Prop := w.heap[g]? = some (.cells cs t (0,0))
section
variable {w w' : World} {g : Nat} {t : TypeId} {cs : Array Value}
theorem Blk.lt (h : Blk w g t cs) : g < w.heap.size := by
 rcases Nat.lt_or_ge g w.heap.size with hlt | hge
 ·exact hlt
 ·unfold Blk at h;rw [Array.getElem?_eq_none hge] at h;cases h
theorem Blk.cell (h : Blk w g t cs) (i : Nat) : w.cell? ⟨g,i,none⟩ = cs[i]? := by unfold Blk at h;simp [World.cell?,h]
theorem Blk.frozen (h : Blk w g t cs) (i : Nat) : w.frozen? ⟨g,i,none⟩ = false := by
 unfold Blk at h
 simp [World.frozen?,h]
theorem Blk.new (w : World) (t : TypeId) (cs : Array Value) : Blk (w.alloc (.cells cs t)) w.heap.size t cs := heap_alloc_new w _
theorem Blk.drew (h : Blk w g t cs) : Blk w.drew g t cs := h
theorem Blk.drewN (h : Blk w g t cs) (n : Nat) : Blk (w.drewN n) g t cs := h
theorem Blk.alloc (h : Blk w g t cs) (o : Obj) : Blk (w.alloc o) g t cs := (Below.heap_alloc w o g h.lt).trans h
theorem Blk.set_ (h : Blk w g t cs) (i : Nat) (u : Value) : Blk (w.setCell ⟨g,i,none⟩ u) g t (cs.setIfInBounds i u) := by
 unfold Blk at h ⊢
 simp [World.setCell,Array.getElem?_modify,h]
theorem Blk.far (h : Blk w g t cs) {p : Addr} (hp : g ≠ p.block) (u : Value) : Blk (w.setCell p u) g t cs := (Below.heap_setCell w p u g hp).trans h
theorem Blk.ext (h : Blk w g t cs) (hb : Ext w w') : Blk w' g t cs := (hb.block g h.lt).trans h
theorem Blk.sl (h : Blk w g t cs) {xs : List Value} {n : Nat} (e : cs.toList.take n = xs) : Sl w (some ⟨g,0,none⟩) xs := fun _ => by
 refine ⟨g,0,rfl,h.lt,fun j u hu => ?_⟩
 rw [Nat.zero_add,h.cell]
 subst e
 rw [List.getElem?_take] at hu
 split at hu
 ·simpa using hu
 ·cases hu
end

theorem Blk.new' {w : World} {g : Nat} {t : TypeId} {cs : Array Value} (h : g = w.heap.size) : Blk (w.alloc (.cells cs t)) g t cs := by subst h;exact Blk.new w t cs
theorem gen2 {P : Program} {C : Code} {Q : Exit → Act → World → Prop} {a : Act} {w : World} {c1 c2 : Array Value} {t1 t2 : TypeId}
  (h : ∀ W : World,Ext w W → w.heap.size + 2 ≤ W.heap.size → Blk W (w.heap.size) t1 c1 → Blk W (w.heap.size + 1) t2 c2 → Code.wp P C Q a W) : Code.wp P C Q a ((w.alloc (.cells c1 t1)).alloc (.cells c2 t2)) :=
 h _ ((Ext.new _ _).alloc _) (by simp) ((Blk.new' (by simp)).alloc _) (Blk.new' (by simp))
theorem gen3 {P : Program} {C : Code} {Q : Exit → Act → World → Prop} {a : Act} {w : World} {c1 c2 c3 : Array Value} {t1 t2 t3 : TypeId}
  (h : ∀ W : World,Ext w W → w.heap.size + 3 ≤ W.heap.size → Blk W (w.heap.size) t1 c1 → Blk W (w.heap.size + 1) t2 c2 → Blk W (w.heap.size + 2) t3 c3 → Code.wp P C Q a W) : Code.wp P C Q a (((w.alloc (.cells c1 t1)).alloc (.cells c2 t2)).alloc (.cells c3 t3)) :=
 h _ (((Ext.new _ _).alloc _).alloc _) (by simp) (((Blk.new' (by simp)).alloc _).alloc _) ((Blk.new' (by simp)).alloc _) (Blk.new' (by simp))
theorem Blk.facts2 {w : World} {g : Nat} {t : TypeId} {v0 v1 : Value} (h : Blk w g t #[v0,v1]) : w.cell? ⟨g,0,none⟩ = some v0 ∧ w.cell? ⟨g,1,none⟩ = some v1 ∧ w.frozen? ⟨g,0,none⟩ = false ∧ w.frozen? ⟨g,1,none⟩ = false :=
 ⟨h.cell 0,h.cell 1,h.frozen 0,h.frozen 1⟩
theorem Blk.facts4 {w : World} {g : Nat} {t : TypeId} {v0 v1 v2 v3 : Value} (h : Blk w g t #[v0,v1,v2,v3]) : w.cell? ⟨g,0,none⟩ = some v0 ∧ w.cell? ⟨g,1,none⟩ = some v1 ∧ w.cell? ⟨g,2,none⟩ = some v2 ∧ w.cell? ⟨g,3,none⟩ = some v3 ∧ w.frozen? ⟨g,0,none⟩ = false ∧ w.frozen? ⟨g,1,none⟩ = false ∧ w.frozen? ⟨g,2,none⟩ = false ∧ w.frozen? ⟨g,3,none⟩ = false :=
 ⟨h.cell 0,h.cell 1,h.cell 2,h.cell 3,h.frozen 0,h.frozen 1,h.frozen 2,h.frozen 3⟩
theorem Blk.set2 {w : World} {g : Nat} {t : TypeId} {v0 v1 : Value} (h : Blk w g t #[v0,v1]) (u0 u1 : Value) : Blk ((w.setCell ⟨g,0,none⟩ u0).setCell ⟨g,1,none⟩ u1) g t #[u0,u1] := by
 have h2 := ((h.set_ 0 u0).set_ 1 u1)
 simpa using h2
theorem Blk.far2 {w : World} {g g' : Nat} {t : TypeId} {cs : Array Value} (h : Blk w g t cs) (hne : g ≠ g') (u0 u1 : Value) : Blk ((w.setCell ⟨g',0,none⟩ u0).setCell ⟨g',1,none⟩ u1) g t cs := by
 exact ((h.far (p := ⟨g',0,none⟩) hne u0).far (p := ⟨g',1,none⟩) hne u1)
theorem Ext.set2 {a w : World} {g : Nat} (h : Ext a w) (hg : a.heap.size ≤ g) (u0 u1 : Value) : Ext a ((w.setCell ⟨g,0,none⟩ u0).setCell ⟨g,1,none⟩ u1) := by
 exact ((h.setCell (p := ⟨g,0,none⟩) hg u0).setCell (p := ⟨g,1,none⟩) hg u1)
theorem run_make_rowN {P : Program} (t e : TypeId) (i : TypeInfo) (z : Value) (ht : P.underlying t = some (.slice e)) (hi : P.info? e = some i) (hz : i.zero = some z)
  (kl kc : IntKind) (n c : Nat) (hnc : n ≤ c) (hbytes : i.bytes * c ≤ 281474976710656) (h63 : c ≤ 9223372036854775807) (w : World) :
  (Instr.makeSlice t (.int kl (n : Int)) (.int kc (c : Int))).run P w = .ok (.slice (some ⟨w.heap.size,0,none⟩) n c) (w.alloc (.cells (madeCells z.cells (c * i.size)) e)) := by
 have hb : (i.bytes : Int) * (c : Int) ≤ 281474976710656 := by
  have h : ((i.bytes * c : Nat) : Int) ≤ 281474976710656 := by omega
  rwa [Int.natCast_mul] at h
 have hr := run_make (P := P) w t e i z ht hi hz kl kc n c (by omega) (by omega) hb (by omega)
 simp only [Int.toNat_natCast] at hr
 exact hr

def U (n : Nat) : Value := .int .u32 n
theorem madeCells_one (z : Value) (n : Nat) : madeCells #[z] n = (List.replicate n z).toArray := by
 simp only [madeCells]
 apply Array.ext
 ·simp
 ·intro i h1 h2
  simp [Nat.mod_one]

theorem Sl.far {w : World} {A : Option Addr} {cs : List Value} (h : Sl w A cs) {g : Nat} (hg : ∀ a,A = some a → a.block ≠ g) (i : Nat) (u : Value) : Sl (w.setCell ⟨g,i,none⟩ u) A cs := fun hl => by
 obtain ⟨b,off,e,hlt,hc⟩ := h hl
 have hne : b ≠ g := hg _ e
 exact ⟨b,off,e,by simpa [World.setCell] using hlt,fun j v hv => (World.cell?_of_block (Below.heap_setCell w ⟨g,i,none⟩ u b hne)).trans (hc j v hv)⟩
def DigR (w : World) (base : Nat) (v : Value) (ds : List Nat) : Prop :=
 ∃ A c,v = .slice A ds.length c ∧ ds.length ≤ c ∧ Sl w A (ds.map U) ∧ ∀ a,A = some a → base ≤ a.block ∧ a.block < w.heap.size
theorem DigR.ext {w w' : World} {base : Nat} {v : Value} {ds : List Nat} (h : DigR w base v ds) (hb : Ext w w') : DigR w' base v ds := by
 obtain ⟨A,c,e,hl,hs,hg⟩ := h
 exact ⟨A,c,e,hl,hs.ext hb,fun a ha => ⟨(hg a ha).1,Nat.lt_of_lt_of_le (hg a ha).2 hb.size⟩⟩
theorem DigR.nil {w : World} {base : Nat} : DigR w base (.slice none 0 0) [] := ⟨none,0,rfl,Nat.le_refl _,Sl.nil,fun _ h => by cases h⟩
theorem DigR.base {w : World} {base base' : Nat} {v : Value} {ds : List Nat} (h : DigR w base v ds) (hb : base' ≤ base) : DigR w base' v ds := by
 obtain ⟨A,c,e,hl,hs,hg⟩ := h
 exact ⟨A,c,e,hl,hs,fun a ha => ⟨Nat.le_trans hb (hg a ha).1,(hg a ha).2⟩⟩
theorem DigR.far {w : World} {base : Nat} {v : Value} {ds : List Nat} (h : DigR w base v ds) {g : Nat} (hg : v.ownBlock ≠ some g) (i : Nat) (u : Value) : DigR (w.setCell ⟨g,i,none⟩ u) base v ds := by
 obtain ⟨A,c,rfl,hl,hs,hb⟩ := h
 refine ⟨A,c,rfl,hl,hs.far (fun a ha hg' => hg ?_) i u,fun a ha => ⟨(hb a ha).1,by simpa [World.setCell] using (hb a ha).2⟩⟩
 subst ha;simp [Value.ownBlock,hg']
theorem DigR.above {w : World} {base : Nat} {v : Value} {ds : List Nat} (h : DigR w base v ds) {g : Nat} (hg : g < base) : v.ownBlock ≠ some g := by
 obtain ⟨A,c,rfl,hl,hs,hb⟩ := h
 intro he
 cases A with
 | none => simp [Value.ownBlock] at he
 | some a =>
  have h1 := (hb a rfl).1
  have h2 : a.block = g := by simpa [Value.ownBlock] using he
  omega
theorem DigR.under {w : World} {base : Nat} {v : Value} {ds : List Nat} (h : DigR w base v ds) {g : Nat} (hg : w.heap.size ≤ g) : v.ownBlock ≠ some g := by
 obtain ⟨A,c,rfl,hl,hs,hb⟩ := h
 intro he
 cases A with
 | none => simp [Value.ownBlock] at he
 | some a =>
  have h1 := (hb a rfl).2
  have h2 : a.block = g := by simpa [Value.ownBlock] using he
  omega
theorem Sl.dig {w : World} {A : Option Addr} {ds : List Nat} {k : Nat} (h : Sl w A (ds.map U)) (hk : k < ds.length) :
  ∃ b off,A = some ⟨b,off,none⟩ ∧ b < w.heap.size ∧ w.cell? ⟨b,off + k,none⟩ = some (.int .u32 ((ds.getD k 0 : Nat) : Int)) := by
 obtain ⟨b,off,e,hlt,hc⟩ := h.at_ (k := k) (by simpa using hk)
 refine ⟨b,off,e,hlt,hc.trans ?_⟩
 simp [U,hk]
theorem Sl.digs_of_own {w : World} {base : Nat} {e : TypeId} {v : Value} {n : Nat} {xs : List Value} (h : w.ownsRow base e 1 v n xs) :
  ∃ A c,v = .slice A n c ∧ n ≤ c ∧ Sl w A xs := by
 obtain ⟨hl,⟨rfl,rfl⟩ | ⟨g,cap,cur,rfl,hg,hh,hn,hm,hs,ht⟩⟩ := h
 ·refine ⟨none,0,rfl,Nat.le_refl _,?_⟩
  have : xs = [] := List.eq_nil_of_length_eq_zero (by simpa using hl)
  subst this;exact Sl.nil
 ·exact ⟨_,_,rfl,hn,Blk.sl (t := e) hh ht⟩
section
variable {P : Program} (w : World)

theorem run_append_of_nil (base : Nat) (t ty e : TypeId) (i : TypeInfo) (size : Nat) (ht : P.underlying t = some (.slice e)) (hi : P.info? e = some i)
  (v : Value) (n : Nat) (xs : List Value) (hown : w.ownsRow base e size v n xs) (c : Nat) : (Builtin.append_ #[t,t] ty #[v,.slice none 0 c]).run P w = .ok v w := by
 rcases hown.2 with ⟨rfl,rfl⟩ | ⟨g,cap,cur,rfl,_,_,hnc,_⟩
 ·simp [Builtin.append_,run_underlying ht,sizeOf,typeInfo,hi,Builtin.lenOf,Builtin.firstCells]
 ·simp [Builtin.append_,run_underlying ht,sizeOf,typeInfo,hi,Builtin.lenOf,Builtin.firstCells,hnc,storeCells]

theorem run_append_any (base : Nat) (t ty e : TypeId) (i : TypeInfo) (z : Value) (size bytes : Nat) (ht : P.underlying t = some (.slice e)) (hi : P.info? e = some i) (hz : i.zero = some z)
  (hsize : i.size = size) (hby : i.bytes = bytes) (hzs : z.cells.size = size) (hsz : 0 < size)
  (v : Value) (n : Nat) (xs : List Value) (hown : w.ownsRow base e size v n xs)
  (A : Option Addr) (m c : Nat) (news : List Value) (hl : news.length = m * size) (hr : Sl w A news) (h1 : ∀ u ∈ news,u.oneCell' = true)
  (h63 : n + m ≤ maxLen) (hbytes : (n + m) * bytes ≤ 140737488355328) (hbase : base ≤ w.heap.size) :
  ∃ v' w',(Builtin.append_ #[t,t] ty #[v,.slice A m c]).run P w = .ok v' w' ∧ w'.ownsRow base e size v' (n + m) (xs ++ news) ∧ w.grownBy w' v.ownBlock ∧
   (v'.ownBlock = v.ownBlock ∨ v'.ownBlock = some w.heap.size) := by
 rcases A with _ | ad
 ·have hm : m = 0 := by
   rcases Nat.eq_zero_or_pos m with h0 | h0
   ·exact h0
   ·obtain ⟨b,o,h,_⟩ := hr (by rw [hl];exact Nat.mul_pos h0 hsz)
    cases h
  subst hm
  have hn : news = [] := List.eq_nil_of_length_eq_zero (by simpa using hl)
  subst hn
  exact ⟨v,w,run_append_of_nil w base t ty e i size ht hi v n xs hown c,by simpa using hown,World.grownBy.refl w _,.inl rfl⟩
 ·have hcells : ∀ j u,news[j]? = some u → w.cell? (ad.add j) = some u := by
   intro j u hu
   have hjl : j < news.length := by
    rcases Nat.lt_or_ge j news.length with h | h
    ·exact h
    ·rw [List.getElem?_eq_none h] at hu;cases hu
   obtain ⟨b,o,h,_,hc⟩ := hr (by omega)
   injection h with h
   subst h
   rw [add_mk]
   exact hc j u hu
  obtain ⟨v',w',hrun,h2,h3,_,h5⟩ := run_append_own_at (P := P) w base t ty e i z size bytes ht hi hz hsize hby hzs hsz v n xs hown ad m c news hl hcells h1 h63 hbytes hbase
  exact ⟨v',w',hrun,h2,h3,h5⟩

theorem wp_append_any {o : Oper} {a : Act} {K : Act → World → Prop} {Q : Exit → Act → World → Prop} (s x : Operand) (t : TypeId)
  (ho : o.op = .call { callee := .builtin .append,args := #[s,x],argTypes := #[t,t] })
  (base : Nat) (e : TypeId) (i : TypeInfo) (z : Value) (size bytes : Nat) (ht : P.underlying t = some (.slice e)) (hi : P.info? e = some i) (hz : i.zero = some z)
  (hsize : i.size = size) (hby : i.bytes = bytes) (hzs : z.cells.size = size) (hsz : 0 < size)
  (v : Value) (n : Nat) (xs : List Value) (hs : a.eval s = v) (hown : w.ownsRow base e size v n xs)
  (A : Option Addr) (m c : Nat) (news : List Value) (hx : a.eval x = .slice A m c) (hl : news.length = m * size) (hr : Sl w A news) (h1 : ∀ u ∈ news,u.oneCell' = true)
  (h63 : n + m ≤ maxLen) (hbytes : (n + m) * bytes ≤ 140737488355328) (hbase : base ≤ w.heap.size)
  (h : ∀ v' w',w'.ownsRow base e size v' (n + m) (xs ++ news) → w.grownBy w' v.ownBlock → (v'.ownBlock = v.ownBlock ∨ v'.ownBlock = some w.heap.size) → K (a.put o.dst v') w') : o.wp P a w K Q := by
 obtain ⟨v',w',hrun,h2,h3,h4⟩ := run_append_any (P := P) w base t o.type e i z size bytes ht hi hz hsize hby hzs hsz v n xs hown A m c news hl hr h1 h63 hbytes hbase
 unfold Oper.wp execOp
 simp only [ho,resolve,invoke,builtin,Sem.run_bind,Sem.run_pure,Result.andThen_ok,List.map_toArray,List.map_cons,List.map_nil,hs,hx,hrun]
 exact h v' w' h2 h3 h4

theorem wpList_append_any {ops : Array Oper} {rest : List Oper} {o : Oper} {a : Act} {Q : Exit → Act → World → Prop} (hgd : o.guard = none) (s x : Operand) (t : TypeId)
  (ho : o.op = .call { callee := .builtin .append,args := #[s,x],argTypes := #[t,t] })
  (base : Nat) (e : TypeId) (i : TypeInfo) (z : Value) (size bytes : Nat) (ht : P.underlying t = some (.slice e)) (hi : P.info? e = some i) (hz : i.zero = some z)
  (hsize : i.size = size) (hby : i.bytes = bytes) (hzs : z.cells.size = size) (hsz : 0 < size)
  (v : Value) (n : Nat) (xs : List Value) (hs : a.eval s = v) (hown : w.ownsRow base e size v n xs)
  (A : Option Addr) (m c : Nat) (news : List Value) (hx : a.eval x = .slice A m c) (hl : news.length = m * size) (hr : Sl w A news) (h1 : ∀ u ∈ news,u.oneCell' = true)
  (h63 : n + m ≤ maxLen) (hbytes : (n + m) * bytes ≤ 140737488355328) (hbase : base ≤ w.heap.size)
  (h : ∀ v' w',w'.ownsRow base e size v' (n + m) (xs ++ news) → w.grownBy w' v.ownBlock → (v'.ownBlock = v.ownBlock ∨ v'.ownBlock = some w.heap.size) → wpList P ops Q rest (a.put o.dst v') w') : wpList P ops Q (o :: rest) a w :=
 wpList_plain hgd fun _ hK => wp_append_any w s x t ho base e i z size bytes ht hi hz hsize hby hzs hsz v n xs hs hown A m c news hx hl hr h1 h63 hbytes hbase fun v' w' h2 h3 h4 => hK _ _ (h v' w' h2 h3 h4)
end
theorem step_append_any {P : Program} (w : World) {ops : Array Oper} {o : Oper} {a : Act} {K : Act → World → Prop} {Q : Exit → Act → World → Prop} {E : Prop} (hgd : o.guard = none) (s x : Operand) (t : TypeId)
  (ho : o.op = .call { callee := .builtin .append,args := #[s,x],argTypes := #[t,t] })
  (base : Nat) (e : TypeId) (i : TypeInfo) (z : Value) (size bytes : Nat) (ht : P.underlying t = some (.slice e)) (hi : P.info? e = some i) (hz : i.zero = some z)
  (hsize : i.size = size) (hby : i.bytes = bytes) (hzs : z.cells.size = size) (hsz : 0 < size)
  (v : Value) (n : Nat) (xs : List Value) (hs : a.eval s = v) (hown : w.ownsRow base e size v n xs)
  (A : Option Addr) (m c : Nat) (news : List Value) (hx : a.eval x = .slice A m c) (hl : news.length = m * size) (hr : Sl w A news) (h1 : ∀ u ∈ news,u.oneCell' = true)
  (h63 : n + m ≤ maxLen) (hbytes : (n + m) * bytes ≤ 140737488355328) (hbase : base ≤ w.heap.size)
  (h : ∀ v' w',w'.ownsRow base e size v' (n + m) (xs ++ news) → w.grownBy w' v.ownBlock → (v'.ownBlock = v.ownBlock ∨ v'.ownBlock = some w.heap.size) → K (a.put o.dst v') w') :
  if Region.wanted o (yielded ops a.tmps) = true then Oper.wp P o a w K Q else E := by
 have hw : Region.wanted o (yielded ops a.tmps) = true := by simp [Region.wanted,hgd]
 rw [if_pos hw]
 exact wp_append_any w s x t ho base e i z size bytes ht hi hz hsize hby hzs hsz v n xs hs hown A m c news hx hl hr h1 h63 hbytes hbase h
theorem Sl.drew {w : World} {A : Option Addr} {cs : List Value} (h : Sl w A cs) : Sl w.drew A cs := h
theorem heap_setRow_other (w : World) (g : Nat) (cs : Array Value) (k : Nat) (h : k ≠ g) : (w.setRow g cs).heap[k]? = w.heap[k]? := by
 simp only [World.setRow,Array.getElem?_modify]
 rw [if_neg (by omega)]
theorem size_setRow (w : World) (g : Nat) (cs : Array Value) : (w.setRow g cs).heap.size = w.heap.size := by simp [World.setRow]
theorem Blk.row {w : World} {g : Nat} {t : TypeId} {cs : Array Value} (h : Blk w g t cs) (new : Array Value) : Blk (w.setRow g new) g t new := by
 unfold Blk at h ⊢
 simp [World.setRow,Array.getElem?_modify,h]
theorem Ext.row {a w : World} {g : Nat} (h : Ext a w) (hg : a.heap.size ≤ g) (new : Array Value) : Ext a (w.setRow g new) :=
 ⟨h.os,h.tape,h.output,by rw [size_setRow];exact h.size,fun k hk => (heap_setRow_other w g new k (by omega)).trans (h.block k hk)⟩
theorem ownsRow_base {w : World} {base base' : Nat} {e : TypeId} {size : Nat} {v : Value} {n : Nat} {xs : List Value} (h : w.ownsRow base e size v n xs) (hb : base' ≤ base) : w.ownsRow base' e size v n xs := by
 obtain ⟨hl,h | ⟨g,cap,cur,e1,hg,r⟩⟩ := h
 ·exact ⟨hl,.inl h⟩
 ·exact ⟨hl,.inr ⟨g,cap,cur,e1,Nat.le_trans hb hg,r⟩⟩
theorem ownsRow_ext {w w' : World} {base : Nat} {e : TypeId} {size : Nat} {v : Value} {n : Nat} {xs : List Value} (h : w.ownsRow base e size v n xs) (hb : Ext w w') : w'.ownsRow base e size v n xs := by
 obtain ⟨hl,h | ⟨g,cap,cur,e1,hg,hh,r⟩⟩ := h
 ·exact ⟨hl,.inl h⟩
 ·exact ⟨hl,.inr ⟨g,cap,cur,e1,hg,Blk.ext (t := e) hh hb,r⟩⟩
theorem ownsRow_nil (w : World) (base : Nat) (e : TypeId) (size : Nat) : w.ownsRow base e size (.slice none 0 0) 0 [] := ⟨by simp,.inl ⟨rfl,rfl⟩⟩
theorem oneCell_U {ds : List Nat} : ∀ u ∈ ds.map U,u.oneCell' = true := by
 intro u hu
 obtain ⟨d,_,rfl⟩ := List.mem_map.1 hu
 rfl
theorem Ext.grown_new {w w' : World} (hg : w.grownBy w' none) : Ext w w' := (Ext.refl w).grown hg (fun _ h => by cases h)
end Go.Proofs.YtabmjadcoepbeaaGreat

/- Contracts of package pairingref1: trim, digit, Make, Canon, SameInt, compareDigits. -/
namespace Go.Proofs.YtabmjadcoepbeaaGreat
open Go.RowKit

def sgn (neg : Bool) (n : Nat) : Int := if neg then -(n : Int) else n

def IntV (w : World) (v : Value) (z : Int) : Prop :=
 ∃ neg A c ds,v = .agg #[.bool neg,.slice A ds.length c] ∧ ds.length ≤ c ∧ Sl w A (ds.map U) ∧ Dg ds ∧ ds.length ≤ 1000 ∧ z = sgn neg (val ds)
def IntC (w : World) (v : Value) (z : Int) : Prop :=
 ∃ A c,v = .agg #[.bool (decide (z < 0)),.slice A (digs z.natAbs).length c] ∧ (digs z.natAbs).length ≤ c ∧ Sl w A ((digs z.natAbs).map U)
theorem IntV.ext {w w' : World} {v : Value} {z : Int} (h : IntV w v z) (hb : Ext w w') : IntV w' v z := by
 obtain ⟨neg,A,c,ds,e,hc,hs,r⟩ := h
 exact ⟨neg,A,c,ds,e,hc,hs.ext hb,r⟩
theorem IntC.ext {w w' : World} {v : Value} {z : Int} (h : IntC w v z) (hb : Ext w w') : IntC w' v z := by
 obtain ⟨A,c,e,hc,hs⟩ := h
 exact ⟨A,c,e,hc,hs.ext hb⟩
theorem sgn_canon (z : Int) : sgn (decide (z < 0)) z.natAbs = z := by
 unfold sgn;by_cases h : z < 0 <;> simp [h] <;> omega
theorem IntC.toV {w : World} {v : Value} {z : Int} (h : IntC w v z) (hz : (digs z.natAbs).length ≤ 1000) : IntV w v z := by
 obtain ⟨A,c,e,hc,hs⟩ := h
 exact ⟨_,A,c,_,e,hc,hs,Dg_digs _,hz,by rw [val_digs,sgn_canon]⟩

def Ret (w0 : World) (R : World → Value → Prop) (e : Ending) (w' : World) : Prop := ∃ v,e = .returned v ∧ R w' v ∧ Ext w0 w'
theorem Ret.mk {w0 : World} {R : World → Value → Prop} {w' : World} {v : Value} (h : R w' v) (hb : Ext w0 w') : Ret w0 R (.returned v) w' := ⟨v,rfl,h,hb⟩

theorem r1_trim (A : Option Addr) (c : Nat) (ds : List Nat) (w : World) (h : Sl w A (ds.map U)) (hc : ds.length ≤ c) (hm : ds.length ≤ 10000000) :
  Calls Tryz.prog 123 #[.slice A ds.length c] w fun e w' => e = .returned (.slice A (trimLen ds ds.length) c) ∧ w = w' := by
 generalize hn : ds.length = n at *
 have Hn := Lib.hid hn
 clear hn
 go_enter Tryz.func123,Tryz.ntmps123
 go_wp2
 go_loop [3] (fun t => ∃ k : Nat,k ≤ n ∧ t = .int .i64 k ∧ Hid (trimLen ds k = trimLen ds n)) (fun t => (intOf t).toNat)
 case atStart => exact ⟨n,Nat.le_refl _,rfl,rfl⟩
 case round =>
  obtain ⟨k,hk,rfl,hid⟩ := hrel
  by_cases hlt : 0 < k
  ·obtain ⟨k,rfl⟩ : ∃ m,k = m + 1 := ⟨k - 1,by omega⟩
   obtain ⟨b,off,rfl,hb,hcell⟩ := h.dig (k := k) (by rw [Hn.out];omega)
   generalize hz : ds.getD k 0 = z at *
   have HZ := Lib.hid hz
   clear hz
   by_cases hz0 : z = 0
   ·subst hz0
    go_wp2
    go_round
    case rel => exact ⟨k,by omega,by go_num,by rw [← hid.out,trimLen_zero HZ.out];rfl⟩
    case measure => simp [intOf] <;> omega
   ·have hz1 : ((z : Int) == 0) = false := by simp;omega
    go_wp2
    go_ret
    rw [← hid.out,trimLen_pos (by rw [HZ.out];exact hz0)]
    exact ⟨rfl,rfl⟩
  ·obtain rfl : k = 0 := by omega
   go_wp2
   go_ret
   rw [← hid.out]
   exact ⟨rfl,rfl⟩

theorem r1_digit (A : Option Addr) (c : Nat) (ds : List Nat) (i : Nat) (w : World) (h : Sl w A (ds.map U)) (hi : i ≤ 1000000) (hm : ds.length ≤ 1000000) (hd : Dg ds) :
  Calls Tryz.prog 223 #[.slice A ds.length c,.int .i64 i] w fun e w' => e = .returned (.int .u64 ((ds.getD i 0 : Nat) : Int)) ∧ w = w' := by
 generalize hn : ds.length = n at *
 have Hn := Lib.hid hn
 clear hn
 by_cases hlt : i < n
 ·obtain ⟨b,off,rfl,hb,hcell⟩ := h.dig (k := i) (by rw [Hn.out];omega)
  have hzb := hd.getD i
  clear hd h
  generalize ds.getD i 0 = z at *
  go_enter Tryz.func223,Tryz.ntmps223
  go_wp2
  go_ret
  exact ⟨rfl,rfl⟩
 ·have HF : Hid (ds.getD i 0 = 0) := by
   have := Hn.out
   show _ = _
   rw [List.getD_eq_getElem?_getD,List.getElem?_eq_none (by omega)];rfl
  clear hd
  go_enter Tryz.func223,Tryz.ntmps223
  go_wp2
  go_ret
  rw [HF.out]
  exact ⟨rfl,rfl⟩
theorem u32_info : (Tryz.prog.info? 121).map (fun i => (i.zero,i.size,i.bytes)) = some (some (.int .u32 0),1,4) := by kernel_rfl

def IntO (w : World) (base : Nat) (v : Value) (z : Int) : Prop :=
 ∃ s,v = .agg #[.bool (decide (z < 0)),s] ∧ w.ownsRow base 121 1 s (digs z.natAbs).length ((digs z.natAbs).map U)
theorem IntO.toC {w : World} {base : Nat} {v : Value} {z : Int} (h : IntO w base v z) : IntC w v z := by
 obtain ⟨s,rfl,ho⟩ := h
 obtain ⟨A,c,rfl,hc,hs⟩ := Sl.digs_of_own ho
 exact ⟨A,c,rfl,hc,hs⟩
theorem sgn_natAbs (neg : Bool) (n : Nat) : (sgn neg n).natAbs = n := by unfold sgn;cases neg <;> simp
theorem sgn_lt (neg : Bool) (n : Nat) (h : n ≠ 0) : decide (sgn neg n < 0) = neg := by unfold sgn;cases neg <;> simp <;> omega

theorem r1_Make (neg : Bool) (A : Option Addr) (c : Nat) (ds : List Nat) (w : World) (h : Sl w A (ds.map U)) (hc : ds.length ≤ c) (hm : ds.length ≤ 1000000) (hd : Dg ds) :
  Calls Tryz.prog 87 #[.bool neg,.slice A ds.length c] w (Ret w fun w' v => IntO w' w.heap.size v (sgn neg (val ds))) := by
 have hl := trimLen_le ds ds.length
 have ht := h.take (trimLen ds ds.length)
 rw [← List.map_take] at ht
 obtain ⟨i0,hi0,hz0,hz1,hz2⟩ := info_parts u32_info
 have hte := trimLen_eq hd
 go_enter Tryz.func87,Tryz.ntmps87
 go_wp2_with fail
 refine (r1_trim A c ds _ (h.ext (Ext.new _ _)) hc (by omega)).mono ?_
 rintro e w' ⟨rfl,rfl⟩
 have htt : ds.take (trimLen ds ds.length) = digs (val ds) := trimD_eq hd
 rw [htt] at ht
 generalize trimLen ds ds.length = m at *
 have HE := Lib.hid hte
 clear hte htt
 by_cases h0 : m = 0
 ·subst h0
  go_wp2_with fail
  have hv : val ds = 0 := by
   have := HE.out
   rw [eq_comm,List.length_eq_zero_iff,digs_nil] at this
   exact this
  refine bodyPost_ret (v := .agg #[.bool false,.slice none 0 0]) (by simp [results,Tryz.results87,go_sem]) rfl (Ret.mk ⟨.slice none 0 0,by rw [hv];simp [sgn],?_⟩ (Ext.new _ _))
  rw [hv,sgn_natAbs,digs_zero]
  exact ownsRow_nil _ _ _ _
 ·have hk : ((m : Int) == 0) = false := by simp [h0]
  have hlm : m ≤ 1000000 := by omega
  clear h0
  go_wp2_with (at_builtin;go_must (refine wpList_append_any _ rfl _ (.tmp 12) _ rfl (w.heap.size + 1) 121 i0 _ 1 4 Tryz.underlying51 hi0 hz0 hz1 hz2 rfl (by omega) (.slice none 0 0) 0 [] rfl (ownsRow_nil _ _ _ _) A m c _ rfl (by simp [HE.out]) (ht.ext (Ext.new _ _)) oneCell_U (by simp only [maxLen];omega) (by omega) (by simp) ?_);intro v1 w1 hown hg hat;obtain ⟨A1,c1,rfl,hc1,hs1⟩ := Sl.digs_of_own hown;have hb1 := Ext.grown_new hg;obtain ⟨hcl,hfz⟩ := bcell hb1;clear hat hs1)
  simp only [Nat.zero_add,List.nil_append] at hown
  have hv : val ds ≠ 0 := by
   intro h
   have := HE.out
   rw [h,digs_zero] at this
   simp [this] at hk
  refine bodyPost_ret (v := .agg #[.bool neg,.slice A1 m c1]) (by simp [results,Tryz.results87,go_sem,hcl,hfz]) rfl (Ret.mk ⟨.slice A1 m c1,by rw [sgn_lt _ _ hv],?_⟩ (((((Ext.new _ _).trans hb1).setCell (by simp) _).setCell (by simp) _)))
  rw [sgn_natAbs,← HE.out]
  exact ownsRow_base (ownsRow_setCell_below (ownsRow_setCell_below hown (by simp) _) (by simp) _) (by omega)
end Go.Proofs.YtabmjadcoepbeaaGreat

/- Contracts of package pairingref1: Canon, SameInt, compareDigits. -/
namespace Go.Proofs.YtabmjadcoepbeaaGreat
open Go.RowKit

theorem IntO.set {w : World} {base : Nat} {v : Value} {z : Int} (h : IntO w base v z) {a : Addr} (ha : a.block < base) (u : Value) : IntO (w.setCell a u) base v z := by
 obtain ⟨s,rfl,ho⟩ := h
 exact ⟨s,rfl,ownsRow_setCell_below ho ha u⟩
theorem IntO.base {w : World} {b b' : Nat} {v : Value} {z : Int} (h : IntO w b v z) (hb : b' ≤ b) : IntO w b' v z := by
 obtain ⟨s,rfl,ho⟩ := h
 exact ⟨s,rfl,ownsRow_base ho hb⟩
theorem IntO.ext {w w' : World} {b : Nat} {v : Value} {z : Int} (h : IntO w b v z) (hb : Ext w w') : IntO w' b v z := by
 obtain ⟨s,rfl,ho⟩ := h
 exact ⟨s,rfl,ownsRow_ext ho hb⟩
theorem IntO.open_ {w : World} {b : Nat} {v : Value} {z : Int} (h : IntO w b v z) : ∃ A n c,v = .agg #[.bool (decide (z < 0)),.slice A n c] := by
 obtain ⟨s,rfl,ho⟩ := h
 obtain ⟨A,c,rfl,_⟩ := Sl.digs_of_own ho
 exact ⟨A,_,c,rfl⟩

theorem r1_Canon (v : Value) (z : Int) (w : World) (h : IntV w v z) :
  Calls Tryz.prog 86 #[v] w (Ret w fun w' r => IntO w' w.heap.size r z) := by
 obtain ⟨neg,A,c,ds,rfl,hc,hs,hd,hn,rfl⟩ := h
 go_enter Tryz.func86,Tryz.ntmps86
 go_wp2_with fail
 refine (r1_Make neg A c ds _ (hs.ext ((Ext.new _ _).alloc _)) hc (by omega) hd).mono ?_
 rintro e w1 ⟨v1,rfl,ho,hb1⟩
 obtain ⟨A1,n1,c1,rfl⟩ := ho.open_
 obtain ⟨hcl,hfz⟩ := bcell hb1
 go_wp2_with fail
 refine bodyPost_ret (v := .agg #[.bool (decide (sgn neg (val ds) < 0)),.slice A1 n1 c1]) (by simp [results,Tryz.results86,go_sem,hcl,hfz]) rfl (Ret.mk ?_ (((((Ext.new _ _).alloc _).trans hb1).setCell (by simp) _).setCell (by simp) _))
 exact ((ho.set (by simp) _).set (by simp) _).base (by simp;omega)

theorem r1_SameInt (a b : Value) (z : Int) (w : World) (ha : IntC w a z) (hb : IntC w b z) (hl : (digs z.natAbs).length ≤ 1000) :
  Calls Tryz.prog 77 #[a,b] w fun e w' => e = .returned (.bool true) ∧ Ext w w' := by
 obtain ⟨A,c,rfl,hc,hs⟩ := ha
 obtain ⟨B,d,rfl,hd,ht⟩ := hb
 generalize digs z.natAbs = ds at *
 generalize hn : ds.length = n at *
 have Hn := Lib.hid hn
 clear hn
 generalize decide (z < 0) = neg at *
 have hnn : (neg != neg) = false := by simp
 have hll : ((n : Int) != (n : Int)) = false := by simp
 go_enter Tryz.func77,Tryz.ntmps77
 go_wp2_with fail
 go_loopw [5] (fun i wr => ∃ k : Nat,k ≤ n ∧ i = .int .i64 k ∧ Ext ((w.alloc (Obj.cells #[.bool neg,.slice A n c] 53)).alloc (Obj.cells #[.bool neg,.slice B n d] 53)) wr) (fun i _ => n - (intOf i).toNat)
 case atStart => exact ⟨0,Nat.zero_le _,rfl,Ext.refl _⟩
 case round =>
  obtain ⟨k,hk,rfl,hb⟩ := hrel
  obtain ⟨hcl,hfz⟩ := bcell hb
  by_cases hlt : k < n
  ·obtain ⟨b1,o1,rfl,hb1,hc1⟩ := (hs.ext ((Ext.new _ _).alloc _) |>.ext hb).dig (k := k) (by rw [Hn.out];omega)
   obtain ⟨b2,o2,rfl,hb2,hc2⟩ := (ht.ext ((Ext.new _ _).alloc _) |>.ext hb).dig (k := k) (by rw [Hn.out];omega)
   generalize hz : ds.getD k 0 = z at *
   have Hz := Lib.hid hz
   clear hz
   have hzz : ((z : Int) != (z : Int)) = false := by simp
   have e0 : (0 : Int) ≤ (k : Int) := by omega
   have e1 : (k : Int) < (n : Int) := by omega
   go_wp2_with fail
   go_quiet (fail)
   go_wp2_with fail
   go_roundw
   case rel => exact ⟨k + 1,by omega,by go_num,hb.drewN _⟩
   case measure => simp [intOf] <;> omega
  ·go_wp2
   go_ret
   exact ⟨rfl,((Ext.new _ _).alloc _).trans hb⟩
theorem r1_compareDigits (A B : Option Addr) (c d : Nat) (xs ys : List Nat) (w : World) (hA : Sl w A (xs.map U)) (hc : xs.length ≤ c) (hx : xs.length ≤ 1000000) (hdx : Dg xs)
  (hB : Sl w B (ys.map U)) (hd : ys.length ≤ d) (hy : ys.length ≤ 1000000) (hdy : Dg ys) :
  Calls Tryz.prog 160 #[.slice A xs.length c,.slice B ys.length d] w fun e w' => e = .returned (.int .i64 (cmp3 (val xs) (val ys))) ∧ Ext w w' := by
 go_enter Tryz.func160,Tryz.ntmps160
 go_wp2_with fail
 refine (r1_trim A c xs _ hA hc (by omega)).mono ?_
 rintro e w' ⟨rfl,rfl⟩
 go_wp2_with fail
 refine (r1_trim B d ys _ hB hd (by omega)).mono ?_
 rintro e w' ⟨rfl,rfl⟩
 have hlx := trimLen_le xs xs.length
 have hly := trimLen_le ys ys.length
 have sx := hA.take (trimLen xs xs.length)
 have sy := hB.take (trimLen ys ys.length)
 rw [← List.map_take,show xs.take (trimLen xs xs.length) = digs (val xs) from trimD_eq hdx] at sx
 rw [← List.map_take,show ys.take (trimLen ys ys.length) = digs (val ys) from trimD_eq hdy] at sy
 have ex := trimLen_eq hdx
 have ey := trimLen_eq hdy
 generalize trimLen xs xs.length = n at *
 generalize trimLen ys ys.length = m at *
 have Ex := Lib.hid ex
 have Ey := Lib.hid ey
 clear ex ey hA hB hdx hdy
 have hn : n ≤ 1000000 := by omega
 have hm : m ≤ 1000000 := by omega
 by_cases hnm : n = m
 ·subst hnm
  have hll : ((n : Int) != (n : Int)) = false := by simp
  go_wp2_with fail
  go_loopw [5] (fun i wr => ∃ k : Nat,k ≤ n ∧ i = .int .i64 ((k : Int) - 1) ∧ Ext w wr ∧ Hid ((digs (val xs)).drop k = (digs (val ys)).drop k)) (fun i _ => (intOf i + 1).toNat)
  case atStart => exact ⟨n,Nat.le_refl _,rfl,Ext.refl _,by show _ = _;rw [List.drop_eq_nil_of_le (by rw [Ex.out];omega),List.drop_eq_nil_of_le (by rw [← Ey.out];omega)]⟩
  case round =>
   obtain ⟨k,hk,rfl,hb,hq⟩ := hrel
   by_cases hlt : 0 < k
   ·obtain ⟨k,rfl⟩ : ∃ m,k = m + 1 := ⟨k - 1,by omega⟩
    obtain ⟨b1,o1,rfl,hb1,hc1⟩ := (sx.ext hb).dig (k := k) (by rw [← Ex.out];omega)
    obtain ⟨b2,o2,rfl,hb2,hc2⟩ := (sy.ext hb).dig (k := k) (by rw [← Ey.out];omega)
    have L1 : k < (digs (val xs)).length := by rw [← Ex.out];omega
    have L2 : k < (digs (val ys)).length := by rw [← Ey.out];omega
    generalize hp : (digs (val xs)).getD k 0 = p at *
    generalize hq2 : (digs (val ys)).getD k 0 = q at *
    have Hp := Lib.hid hp
    have Hq := Lib.hid hq2
    clear hp hq2
    rw [show (((k + 1 : Nat) : Int) - 1) = (k : Int) by omega]
    have e0 : (0 : Int) ≤ (k : Int) := by omega
    have e1 : (k : Int) < (n : Int) := by omega
    by_cases h1 : p < q
    ·have t1 : decide ((p : Int) < (q : Int)) = true := by simp;omega
     go_wp2_with fail
     go_quiet (fail)
     go_wp2_with fail
     go_ret
     have hv := val_lt_of_split (Dg_digs (val xs)) L1 L2 hq.out (by rw [Hp.out,Hq.out];exact h1)
     rw [val_digs,val_digs] at hv
     rw [cmp3_lt hv]
     exact ⟨rfl,hb.drewN _⟩
    ·have t1 : decide ((p : Int) < (q : Int)) = false := by simp;omega
     by_cases h2 : q < p
     ·have t2 : decide ((q : Int) < (p : Int)) = true := by simp;omega
      go_wp2_with fail
      go_quiet (fail)
      go_wp2_with fail
      go_quiet (fail)
      go_wp2_with fail
      go_ret
      have hv := val_lt_of_split (Dg_digs (val ys)) L2 L1 hq.out.symm (by rw [Hp.out,Hq.out];exact h2)
      rw [val_digs,val_digs] at hv
      rw [cmp3_gt hv]
      exact ⟨rfl,by first | exact hb.drewN _ | exact (hb.drewN _).drewN _⟩
     ·have t2 : decide ((q : Int) < (p : Int)) = false := by simp;omega
      go_wp2_with fail
      go_quiet (fail)
      go_wp2_with fail
      go_quiet (fail)
      go_wp2_with fail
      go_roundw
      case rel => exact ⟨k,by omega,by go_num,hb.drewN _,drop_eq_of (by rw [← Ex.out,← Ey.out]) hq.out (by rw [Hp.out,Hq.out];omega)⟩
      case measure => simp [intOf] <;> omega
   ·obtain rfl : k = 0 := by omega
    go_wp2_with fail
    go_ret
    have hv : val xs = val ys := digs_inj (by simpa using hq.out)
    rw [hv,cmp3_eq]
    exact ⟨rfl,hb⟩
 ·have hll : ((n : Int) != (m : Int)) = true := by simp;omega
  by_cases hlt : n < m
  ·have t1 : decide (n < m) = true := by simp;omega
   go_wp2_with fail
   go_ret
   rw [cmp3_lt (length_digs_lt (by rw [← Ex.out,← Ey.out];exact hlt))]
   exact ⟨rfl,Ext.refl _⟩
  ·have t1 : decide (n < m) = false := by simp;omega
   go_wp2_with fail
   go_ret
   rw [cmp3_gt (length_digs_lt (by rw [← Ex.out,← Ey.out];omega))]
   exact ⟨rfl,Ext.refl _⟩
end Go.Proofs.YtabmjadcoepbeaaGreat

/- Contracts of package pairingref1: addDigits, subDigits, mulDigits. -/
namespace Go.Proofs.YtabmjadcoepbeaaGreat
open Go.RowKit

def Made (w : World) (g n : Nat) (ds : List Nat) : Prop := Blk w g 121 ((ds ++ List.replicate (n - ds.length) 0).map U).toArray

theorem run_make_u32 (n : Nat) (hn : n ≤ 10000000) : ∀ W : World,(Instr.makeSlice 51 (.int .i64 (n : Int)) (.int .i64 (n : Int))).run Tryz.prog W =
  .ok (.slice (some ⟨W.heap.size,0,none⟩) n n) (W.alloc (.cells ((List.replicate n (U 0)).toArray) 121)) := by
 intro W
 obtain ⟨i0,hi0,hz0,hz1,hz2⟩ := info_parts u32_info
 have h := run_make_rowN (P := Tryz.prog) 51 121 i0 _ Tryz.underlying51 hi0 hz0 .i64 .i64 n n (Nat.le_refl _) (by rw [hz2];omega) (by omega) W
 rw [hz1] at h
 rw [h]
 have e : madeCells (Value.int .u32 0).cells (n * 1) = (List.replicate n (U 0)).toArray := by
  rw [Nat.mul_one];exact madeCells_one _ _
 rw [e]
theorem Made.start (W : World) (n : Nat) : Made (W.alloc (.cells ((List.replicate n (U 0)).toArray) 121)) W.heap.size n [] := by
 have h := Blk.new W 121 ((List.replicate n (U 0)).toArray)
 unfold Made
 simpa using h

theorem Made.cell {w : World} {g n : Nat} {ss : List Nat} (h : Made w g n ss) {k : Nat} (hk : k < n) (hs : ss.length ≤ n) :
  (∃ z : Nat,w.cell? ⟨g,k,none⟩ = some (.int .u32 (z : Int)) ∧ (ss ++ List.replicate (n - ss.length) 0)[k]? = some z) ∧ w.frozen? ⟨g,k,none⟩ = false := by
 unfold Made at h
 refine ⟨?_,h.frozen k⟩
 obtain ⟨z,hz⟩ := getElem?_made ss n k hk hs
 exact ⟨z,by rw [h.cell];simp [hz,U,List.getElem?_toArray,List.getElem?_map,-List.map_append],hz⟩
theorem Made.push {w : World} {g n : Nat} {ss : List Nat} (h : Made w g n ss) (hs : ss.length < n) (x : Nat) : Made (w.setCell ⟨g,ss.length,none⟩ (.int .u32 (x : Int))) g n (ss ++ [x]) := by
 unfold Made at h ⊢
 have h2 := h.set_ ss.length (U x)
 rw [← set_made ss n x hs,List.map_set]
 show Blk (w.setCell _ (U x)) _ _ _
 simpa using h2
theorem Made.ext {w w' : World} {g n : Nat} {ss : List Nat} (h : Made w g n ss) (hb : Ext w w') : Made w' g n ss := Blk.ext h hb
theorem Made.full {w : World} {g n : Nat} {ss : List Nat} (h : Made w g n ss) (hs : ss.length = n) : Sl w (some ⟨g,0,none⟩) (ss.map U) := by
 unfold Made at h
 refine h.sl (n := n) ?_
 subst hs
 simp [List.take_of_length_le]
theorem DigR.trim {w : World} {g off : Nat} {ss : List Nat} {c : Nat} (h : Sl w (some ⟨g,off,none⟩) (ss.map U)) (hds : Dg ss) (hc : ss.length ≤ c) (hg : g < w.heap.size) : DigR w g (.slice (some ⟨g,off,none⟩) (trimLen ss ss.length) c) (digs (val ss)) := by
 have e := trimLen_eq hds
 have l := trimLen_le ss ss.length
 refine ⟨_,c,by rw [e],by omega,?_,fun a ha => by cases ha;exact ⟨Nat.le_refl _,hg⟩⟩
 rw [← take_trim hds,List.map_take];exact h.take _

theorem r1_addDigits (A B : Option Addr) (c d : Nat) (xs ys : List Nat) (w : World) (hA : Sl w A (xs.map U)) (hc : xs.length ≤ c) (hx : xs.length ≤ 1000000) (hdx : Dg xs)
  (hB : Sl w B (ys.map U)) (hd : ys.length ≤ d) (hy : ys.length ≤ 1000000) (hdy : Dg ys) :
  Calls Tryz.prog 170 #[.slice A xs.length c,.slice B ys.length d] w (Ret w fun w' v => DigR w' w.heap.size v (digs (val xs + val ys))) := by
 have hmk0 : ∀ (a : Int) (n : Nat),a = n → n ≤ 1000001 → ∀ W : World,(Instr.makeSlice 51 (.int .i64 a) (.int .i64 a)).run Tryz.prog W = .ok (.slice (some ⟨W.heap.size,0,none⟩) n n) (W.alloc (.cells ((List.replicate n (U 0)).toArray) 121)) := by
  rintro a n rfl h;exact run_make_u32 n (by omega)
 have main : ∃ n : Nat,xs.length + 1 ≤ n ∧ ys.length + 1 ≤ n ∧ n ≤ 1000001 ∧ (n = xs.length + 1 ∨ n = ys.length + 1) := ⟨max xs.length ys.length + 1,by omega⟩
 obtain ⟨n,h1,h2,h3,h4⟩ := main
 have hsum : ∃ m : Int,m = n ∧ ((xs.length < ys.length ∧ m = (ys.length : Int) + 1) ∨ (ys.length ≤ xs.length ∧ m = (xs.length : Int) + 1)) := ⟨n,rfl,by omega⟩
 have hmkx : ys.length ≤ xs.length → ∀ W : World,_ := fun h => hmk0 ((xs.length : Int) + 1) n (by omega) h3
 have hmky : xs.length < ys.length → ∀ W : World,_ := fun h => hmk0 ((ys.length : Int) + 1) n (by omega) h3
 have hny : xs.length < ys.length → n ≤ ys.length + 1 := by omega
 have hnx : ys.length ≤ xs.length → n ≤ xs.length + 1 := by omega
 clear hsum hmk0 h4
 rcases Nat.lt_or_ge xs.length ys.length with hlt | hge
 ·have hle := hny hlt
  have hmk := hmky hlt
  clear hmkx hmky hnx hny
  go_enter Tryz.func170,Tryz.ntmps170
  go_wp2_with fail
  clear hmk
  go_loopw [7,8] (fun cc i wr => ∃ (k : Nat) (ss : List Nat) (cy : Nat),k ≤ n ∧ i = .int .i64 k ∧ cc = .int .u64 cy ∧ cy ≤ 1 ∧ Hid (ss.length = k) ∧ Dg ss ∧ Hid (val ss + 4294967296 ^ k * cy = val (xs.take k) + val (ys.take k)) ∧ Made wr w.heap.size n ss ∧ Ext w wr) (fun _ i _ => n - (intOf i).toNat)
  case atStart => exact ⟨0,[],0,by omega,rfl,rfl,by omega,rfl,Dg.nil,rfl,Made.start _ _,Ext.new _ _⟩
  case round =>
   obtain ⟨k,ss,cy,hk,rfl,rfl,hcy,hss,hds,hval,hmade,hb⟩ := hrel
   by_cases hlt : k < n
   ·have g1 := hdx.getD k
    have g2 := hdy.getD k
    obtain ⟨⟨zz,hcell,_⟩,hfr⟩ := hmade.cell hlt (by rw [hss.out];omega)
    go_wp2_with fail
    refine (r1_digit A c xs k _ (hA.ext hb) (by omega) (by omega) hdx).mono ?_
    rintro e w' ⟨rfl,rfl⟩
    generalize hp : xs.getD k 0 = p at *
    have Hp := Lib.hid hp
    clear hp
    go_wp2_with fail
    refine (r1_digit B d ys k _ (hB.ext hb) (by omega) (by omega) hdy).mono ?_
    rintro e w' ⟨rfl,rfl⟩
    generalize hq : ys.getD k 0 = q at *
    have Hq := Lib.hid hq
    clear hq
    go_wp2_with fail
    go_roundw
    case rel =>
     have hpu := hmade.push (by rw [hss.out];omega) ((cy + p + q) % 4294967296)
     rw [hss.out] at hpu
     refine ⟨k + 1,ss ++ [(cy + p + q) % 4294967296],(cy + p + q) / 4294967296,by omega,by go_num,by simp,by omega,?_,hds.append (Dg.cons (Nat.mod_lt _ (by omega)) Dg.nil),?_,?_,hb.setCell (by simp) _⟩
     ·show _ = _;simp [hss.out]
     ·show _ = _
      rw [val_take_succ,val_take_succ,Hp.out,Hq.out]
      exact add_step hss.out hval.out
     ·simpa using hpu
    case measure => simp [intOf] <;> omega
   ·obtain rfl : k = n := by omega
    have hfull := hmade.full hss.out
    go_wp2_with fail
    rw [← hss.out]
    refine (r1_trim _ _ ss _ hfull (Nat.le_refl _) (by rw [hss.out];omega)).mono ?_
    rintro e w' ⟨rfl,rfl⟩
    go_wp2_with fail
    go_ret
    refine Ret.mk ?_ hb
    rw [← add_end hdx hdy h1 h2 hval.out]
    exact DigR.trim hfull hds (Nat.le_refl _) (Blk.lt hmade)
 ·have hle := hnx hge
  have hmk := hmkx hge
  clear hmkx hmky hnx hny
  go_enter Tryz.func170,Tryz.ntmps170
  go_wp2_with fail
  clear hmk
  go_loopw [7,8] (fun cc i wr => ∃ (k : Nat) (ss : List Nat) (cy : Nat),k ≤ n ∧ i = .int .i64 k ∧ cc = .int .u64 cy ∧ cy ≤ 1 ∧ Hid (ss.length = k) ∧ Dg ss ∧ Hid (val ss + 4294967296 ^ k * cy = val (xs.take k) + val (ys.take k)) ∧ Made wr w.heap.size n ss ∧ Ext w wr) (fun _ i _ => n - (intOf i).toNat)
  case atStart => exact ⟨0,[],0,by omega,rfl,rfl,by omega,rfl,Dg.nil,rfl,Made.start _ _,Ext.new _ _⟩
  case round =>
   obtain ⟨k,ss,cy,hk,rfl,rfl,hcy,hss,hds,hval,hmade,hb⟩ := hrel
   by_cases hlt : k < n
   ·have g1 := hdx.getD k
    have g2 := hdy.getD k
    obtain ⟨⟨zz,hcell,_⟩,hfr⟩ := hmade.cell hlt (by rw [hss.out];omega)
    go_wp2_with fail
    refine (r1_digit A c xs k _ (hA.ext hb) (by omega) (by omega) hdx).mono ?_
    rintro e w' ⟨rfl,rfl⟩
    generalize hp : xs.getD k 0 = p at *
    have Hp := Lib.hid hp
    clear hp
    go_wp2_with fail
    refine (r1_digit B d ys k _ (hB.ext hb) (by omega) (by omega) hdy).mono ?_
    rintro e w' ⟨rfl,rfl⟩
    generalize hq : ys.getD k 0 = q at *
    have Hq := Lib.hid hq
    clear hq
    go_wp2_with fail
    go_roundw
    case rel =>
     have hpu := hmade.push (by rw [hss.out];omega) ((cy + p + q) % 4294967296)
     rw [hss.out] at hpu
     refine ⟨k + 1,ss ++ [(cy + p + q) % 4294967296],(cy + p + q) / 4294967296,by omega,by go_num,by simp,by omega,?_,hds.append (Dg.cons (Nat.mod_lt _ (by omega)) Dg.nil),?_,?_,hb.setCell (by simp) _⟩
     ·show _ = _;simp [hss.out]
     ·show _ = _
      rw [val_take_succ,val_take_succ,Hp.out,Hq.out]
      exact add_step hss.out hval.out
     ·simpa using hpu
    case measure => simp [intOf] <;> omega
   ·obtain rfl : k = n := by omega
    have hfull := hmade.full hss.out
    go_wp2_with fail
    rw [← hss.out]
    refine (r1_trim _ _ ss _ hfull (Nat.le_refl _) (by rw [hss.out];omega)).mono ?_
    rintro e w' ⟨rfl,rfl⟩
    go_wp2_with fail
    go_ret
    refine Ret.mk ?_ hb
    rw [← add_end hdx hdy h1 h2 hval.out]
    exact DigR.trim hfull hds (Nat.le_refl _) (Blk.lt hmade)
theorem r1_subDigits (A B : Option Addr) (c d : Nat) (xs ys : List Nat) (w : World) (hA : Sl w A (xs.map U)) (hc : xs.length ≤ c) (hx : xs.length ≤ 1000000) (hdx : Dg xs)
  (hB : Sl w B (ys.map U)) (hy : ys.length ≤ xs.length) (hdy : Dg ys) (hle : val ys ≤ val xs) :
  Calls Tryz.prog 168 #[.slice A xs.length c,.slice B ys.length d] w (Ret w fun w' v => DigR w' w.heap.size v (digs (val xs - val ys))) := by
 have HL := Lib.hid hle
 clear hle
 obtain ⟨n,hn⟩ : ∃ n : Nat,n = xs.length := ⟨_,rfl⟩
 have hmk := run_make_u32 xs.length (by omega)
 go_enter Tryz.func168,Tryz.ntmps168
 have Hn := Lib.hid hn
 clear hn
 go_wp2_with fail
 clear hmk
 go_loopw [6,7] (fun cc i wr => ∃ (k : Nat) (ss : List Nat) (cy : Nat),k ≤ xs.length ∧ i = .int .i64 k ∧ cc = .int .u64 cy ∧ cy ≤ 1 ∧ Hid (ss.length = k) ∧ Dg ss ∧ Hid (val ss + val (ys.take k) = val (xs.take k) + 4294967296 ^ k * cy) ∧ Made wr w.heap.size xs.length ss ∧ Ext w wr) (fun _ i _ => xs.length - (intOf i).toNat)
 case atStart => exact ⟨0,[],0,by omega,rfl,rfl,by omega,rfl,Dg.nil,rfl,Made.start _ _,Ext.new _ _⟩
 case round =>
  obtain ⟨k,ss,cy,hk,rfl,rfl,hcy,hss,hds,hval,hmade,hb⟩ := hrel
  by_cases hlt : k < xs.length
  ·have g1 := hdx.getD k
   have g2 := hdy.getD k
   obtain ⟨⟨zz,hcell,_⟩,hfr⟩ := hmade.cell hlt (by rw [hss.out];omega)
   go_wp2_with fail
   refine (r1_digit A c xs k _ (hA.ext hb) (by omega) (by omega) hdx).mono ?_
   rintro e w' ⟨rfl,rfl⟩
   generalize hp : xs.getD k 0 = p at *
   have Hp := Lib.hid hp
   clear hp
   go_wp2_with fail
   refine (r1_digit B d ys k _ (hB.ext hb) (by omega) (by omega) hdy).mono ?_
   rintro e w' ⟨rfl,rfl⟩
   generalize hq : ys.getD k 0 = q at *
   have Hq := Lib.hid hq
   clear hq
   go_wp2_with fail
   go_roundw
   case rel =>
    obtain ⟨x,hx⟩ : ∃ x : Nat,x + q + cy = p + 4294967296 := ⟨p + 4294967296 - q - cy,by omega⟩
    have hx2 : ((p : Int) + 4294967296 - q - cy) = (x : Int) := by omega
    have hpu := hmade.push (by rw [hss.out];omega) (x % 4294967296)
    rw [hss.out] at hpu
    rw [hx2]
    refine ⟨k + 1,ss ++ [x % 4294967296],1 - x / 4294967296,by omega,by go_num,?_,by omega,?_,hds.append (Dg.cons (Nat.mod_lt _ (by omega)) Dg.nil),?_,?_,hb.setCell (by simp) _⟩
    ·have : (1 : Int) - (x : Int) / 4294967296 = ((1 - x / 4294967296 : Nat) : Int) := by omega
     rw [this]
    ·show _ = _;simp [hss.out]
    ·show _ = _
     rw [val_take_succ,val_take_succ,Hp.out,Hq.out]
     exact sub_step hss.out hx hval.out (by omega)
    ·simpa using hpu
   case measure => simp [intOf] <;> omega
  ·obtain rfl : k = xs.length := by omega
   have hfull := hmade.full hss.out
   go_wp2_with fail
   rw [← hss.out]
   refine (r1_trim _ _ ss _ hfull (Nat.le_refl _) (by rw [hss.out];omega)).mono ?_
   rintro e w' ⟨rfl,rfl⟩
   go_wp2_with fail
   go_ret
   refine Ret.mk ?_ hb
   rw [← sub_end hds hss.out hy HL.out hval.out]
   exact DigR.trim hfull hds (Nat.le_refl _) (Blk.lt hmade)

def DBlk (w : World) (g : Nat) (ds : List Nat) : Prop := Blk w g 121 (ds.map U).toArray
theorem DBlk.cell {w : World} {g : Nat} {ds : List Nat} (h : DBlk w g ds) {k : Nat} (hk : k < ds.length) :
  w.cell? ⟨g,k,none⟩ = some (.int .u32 ((ds.getD k 0 : Nat) : Int)) ∧ w.frozen? ⟨g,k,none⟩ = false := by
 unfold DBlk at h
 refine ⟨?_,h.frozen k⟩
 rw [h.cell]
 simp [hk,U]
theorem DBlk.set {w : World} {g : Nat} {ds : List Nat} (h : DBlk w g ds) (k x : Nat) : DBlk (w.setCell ⟨g,k,none⟩ (.int .u32 (x : Int))) g (ds.set k x) := by
 unfold DBlk at h ⊢
 have h2 := h.set_ k (U x)
 rw [List.map_set]
 show Blk (w.setCell _ (U x)) _ _ _
 simpa using h2
theorem DBlk.set' {w : World} {g : Nat} {ds : List Nat} (h : DBlk w g ds) (k x : Nat) {v : Int} (hv : v = (x : Int)) : DBlk (w.setCell ⟨g,k,none⟩ (.int .u32 v)) g (ds.set k x) := by
 subst hv;exact h.set k x
theorem DBlk.ext {w w' : World} {g : Nat} {ds : List Nat} (h : DBlk w g ds) (hb : Ext w w') : DBlk w' g ds := Blk.ext h hb
theorem DBlk.drewN {w : World} {g : Nat} {ds : List Nat} (h : DBlk w g ds) (n : Nat) : DBlk (w.drewN n) g ds := h
theorem DBlk.start (W : World) (n : Nat) : DBlk (W.alloc (.cells ((List.replicate n (U 0)).toArray) 121)) W.heap.size (List.replicate n 0) := by
 have h := Blk.new W 121 ((List.replicate n (U 0)).toArray)
 unfold DBlk
 simpa using h
theorem DBlk.full {w : World} {g : Nat} {ds : List Nat} (h : DBlk w g ds) : Sl w (some ⟨g,0,none⟩) (ds.map U) := by
 unfold DBlk at h
 exact h.sl (n := ds.length) (by simp [List.take_of_length_le])

theorem r1_mulDigits (A B : Option Addr) (c d : Nat) (xs ys : List Nat) (w : World) (hA : Sl w A (xs.map U)) (hx : xs.length ≤ 1000000) (hdx : Dg xs)
  (hB : Sl w B (ys.map U)) (hy : ys.length ≤ 1000000) (hdy : Dg ys) :
  Calls Tryz.prog 109 #[.slice A xs.length c,.slice B ys.length d] w (Ret w fun w' v => DigR w' w.heap.size v (digs (val xs * val ys))) := by
 have hmk := run_make_u32 (xs.length + ys.length) (by omega)
 rw [show (((xs.length + ys.length : Nat)) : Int) = (xs.length : Int) + (ys.length : Int) by omega] at hmk
 go_enter Tryz.func109,Tryz.ntmps109
 go_wp2_with fail
 clear hmk
 go_loopw [6] (fun i wr => ∃ (k : Nat) (ss : List Nat),k ≤ xs.length ∧ i = .int .i64 k ∧ Hid (ss.length = xs.length + ys.length) ∧ Dg ss ∧ Hid (val ss = val (xs.take k) * val ys) ∧ Hid (∀ j,k + ys.length ≤ j → ss.getD j 0 = 0) ∧ DBlk wr w.heap.size ss ∧ Ext w wr) (fun i _ => xs.length - (intOf i).toNat)
 case atStart => exact ⟨0,List.replicate (xs.length + ys.length) 0,by omega,rfl,by show _ = _;simp,Dg.replicate _,by show _ = _;rw [val_replicate];simp [val],fun j _ => by simp [List.getD_eq_getElem?_getD,List.getElem?_replicate];split <;> simp,DBlk.start _ _,Ext.new _ _⟩
 case round =>
  obtain ⟨k,ss,hk,rfl,hss,hds,hval,hzero,hmade,hb⟩ := hrel
  by_cases hlt : k < xs.length
  ·have g1 := hdx.getD k
   go_wp2_with fail
   obtain ⟨wo,rfl⟩ : ∃ wo : World,wo = wr := ⟨_,rfl⟩
   go_loopw [7,8] (fun cc i wr => ∃ (j : Nat) (tt : List Nat) (cy : Nat),j ≤ ys.length ∧ i = .int .i64 j ∧ cc = .int .u64 cy ∧ cy < 4294967296 ∧ Hid (tt.length = xs.length + ys.length) ∧ Dg tt ∧ Hid (val tt + 4294967296 ^ (k + j) * cy = val ss + 4294967296 ^ k * (xs.getD k 0 * val (ys.take j))) ∧ Hid (∀ j',k + ys.length ≤ j' → tt.getD j' 0 = 0) ∧ DBlk wr w.heap.size tt ∧ Ext w wr) (fun _ i _ => ys.length - (intOf i).toNat)
   case atStart => exact ⟨0,ss,0,by omega,rfl,rfl,by omega,hss,hds,by show _ = _;simp [val],hzero,hmade,hb⟩
   case round =>
    obtain ⟨j,tt,cy,hj,rfl,rfl,hcy,htt,hdt,hval2,hzero2,hmade2,hb2⟩ := hrel
    by_cases hlt2 : j < ys.length
    ·obtain ⟨b1,o1,rfl,hb1,hc1⟩ := (hA.ext hb2).dig (k := k) (by omega)
     obtain ⟨b2,o2,rfl,hb3,hc2⟩ := (hB.ext hb2).dig (k := j) (by omega)
     obtain ⟨hc3,hf3⟩ := hmade2.cell (k := k + j) (by rw [htt.out];omega)
     have g2 := hdy.getD j
     have g3 := hdt.getD (k + j)
     generalize hp : xs.getD k 0 = p at *
     generalize hq : ys.getD j 0 = q at *
     generalize ho : tt.getD (k + j) 0 = o at *
     have Hp := Lib.hid hp
     have Hq := Lib.hid hq
     have Ho := Lib.hid ho
     clear hp hq ho
     have hpq := mul_lt_sq g1 g2
     have e0 : (0 : Int) ≤ (k : Int) := by omega
     have e1 : (k : Int) < (xs.length : Int) := by omega
     have e2 : (0 : Int) ≤ (j : Int) := by omega
     have e3 : (j : Int) < (ys.length : Int) := by omega
     have e4 : (0 : Int) ≤ (k : Int) + (j : Int) := by omega
     have e5 : (k : Int) + (j : Int) < (xs.length : Int) + (ys.length : Int) := by omega
     go_wp2_with fail
     go_quiet (fail)
     go_wp2_with fail
     go_roundw
     case rel =>
      refine ⟨j + 1,tt.set (k + j) ((cy + o + p * q) % 4294967296),(cy + o + p * q) / 4294967296,by omega,by go_num,by simp,by omega,?_,hdt.set (Nat.mod_lt _ (by omega)) _,?_,?_,(hmade2.drewN _).set' _ _ (by simp),(hb2.drewN _).setCell (by simp) _⟩
      ·show _ = _;simpa using htt.out
      ·show _ = _
       have := mul_step_full (p := p) (q := q) (by rw [htt.out];omega) Hq.out hval2.out
       rw [Ho.out] at this
       exact this
      ·intro j' hj'
       rw [getD_set_ne _ _ _ _ (by omega)]
       exact hzero2.out j' hj'
     case measure => simp [intOf] <;> omega
    ·obtain rfl : j = ys.length := by omega
     obtain ⟨hc3,hf3⟩ := hmade2.cell (k := k + ys.length) (by rw [htt.out];omega)
     go_wp2_with fail
     go_roundw
     case rel =>
      refine ⟨k + 1,tt.set (k + ys.length) cy,by omega,by go_num,?_,hdt.set hcy _,?_,?_,hmade2.set' _ _ (by simp),hb2.setCell (by simp) _⟩
      ·show _ = _;simpa using htt.out
      ·exact mul_row (by rw [htt.out];omega) (hzero2.out _ (Nat.le_refl _)) hval.out hval2.out
      ·intro j' hj'
       rw [getD_set_ne _ _ _ _ (by omega)]
       exact hzero2.out j' (by omega)
     case measure => simp [intOf] <;> omega
  ·obtain rfl : k = xs.length := by omega
   have hfull := hmade.full
   go_wp2_with fail
   rw [← hss.out]
   refine (r1_trim _ _ ss _ hfull (Nat.le_refl _) (by rw [hss.out];omega)).mono ?_
   rintro e w' ⟨rfl,rfl⟩
   go_wp2_with fail
   go_ret
   refine Ret.mk ?_ hb
   have hv := hval.out
   rw [val_take_all _ _ (Nat.le_refl _)] at hv
   rw [← hv]
   exact DigR.trim hfull hds (Nat.le_refl _) (Blk.lt hmade)
end Go.Proofs.YtabmjadcoepbeaaGreat

/- Contracts of package pairingref1: bitLen, shift, half, divDigits. -/
namespace Go.Proofs.YtabmjadcoepbeaaGreat
open Go.RowKit

theorem r1_bitLen (A : Option Addr) (c : Nat) (xs : List Nat) (w : World) (hA : Sl w A (xs.map U)) (hc : xs.length ≤ c) (hx : xs.length ≤ 1000000) (hdx : Dg xs) :
  Calls Tryz.prog 166 #[.slice A xs.length c] w fun e w' => e = .returned (.int .i64 ((bl (val xs) : Nat) : Int)) ∧ w = w' := by
 go_enter Tryz.func166,Tryz.ntmps166
 go_wp2_with fail
 refine (r1_trim A c xs _ hA hc (by omega)).mono ?_
 rintro e w' ⟨rfl,rfl⟩
 have hlx := trimLen_le xs xs.length
 have sx := hA.take (trimLen xs xs.length)
 have ev := val_trimD xs
 rcases trimLen_last xs xs.length with h0 | ⟨k,hk,hd⟩
 ·have hv : val xs = 0 := (val_zero_iff hdx).2 h0
  rw [h0]
  have HV := Lib.hid hv
  clear sx ev hlx h0 hv
  go_wp2_with fail
  go_ret
  rw [HV.out,bl_zero]
  exact ⟨rfl,rfl⟩
 ·have e1 : trimD xs = xs.take k ++ [xs.getD k 0] := by rw [trimD,hk,take_succ_getD _ _ (by omega)]
  rw [e1] at ev
  have hb := bl_snoc (xs.take k) (xs.getD k 0) (hdx.take k) hd
  have hl : (xs.take k).length = k := by simp;omega
  rw [ev,hl] at hb
  obtain ⟨b,off,rfl,hbl,hcell⟩ := hA.dig (k := k) (by omega)
  have g1 := hdx.getD k
  rw [hk] at hlx ⊢
  have HB := Lib.hid hb
  clear sx ev e1 hb hl hk
  generalize xs.getD k 0 = p at *
  have hk0 : (((k + 1 : Nat) : Int) == 0) = false := by simp;omega
  have e2 : ((k + 1 : Nat) : Int) - 1 = (k : Int) := by omega
  go_wp2_with fail
  go_loop [3,4] (fun n x => ∃ (j : Nat) (y : Nat),y < 4294967296 ∧ j + bl y ≤ 32 ∧ x = .int .u32 y ∧ n = .int .i64 (32 * k + j) ∧ Hid (bl p = j + bl y)) (fun _ x => (intOf x).toNat)
  case atStart => exact ⟨0,p,g1,by have := bl_le (n := p) (k := 32) (by omega);omega,rfl,by simp,by show _ = _;omega⟩
  case round =>
   obtain ⟨j,y,hy,hj,rfl,rfl,hbl2⟩ := hrel
   by_cases hy0 : 0 < y
   ·have hb1 := bl_pos (n := y) (by omega)
    have HB1 := Lib.hid hb1
    have hj2 : j + 1 + bl (y / 2) ≤ 32 := by omega
    clear hb1 hj
    go_wp2_with fail
    go_round
    case rel => exact ⟨j + 1,y / 2,by omega,hj2,by simp,by go_num,by show _ = _;rw [hbl2.out,HB1.out];omega⟩
    case measure => simp [intOf] <;> omega
   ·obtain rfl : y = 0 := by omega
    go_wp2_with fail
    go_ret
    have := hbl2.out
    rw [bl_zero] at this
    rw [HB.out,this]
    exact ⟨by simp,rfl⟩

theorem getD_replicate (n j : Nat) : (List.replicate n 0).getD j 0 = 0 := by
 simp only [List.getD_eq_getElem?_getD,List.getElem?_replicate];split <;> rfl

theorem r1_shift (A : Option Addr) (c : Nat) (xs : List Nat) (n : Nat) (w : World) (hA : Sl w A (xs.map U)) (hx : xs.length ≤ 100000) (hdx : Dg xs) (hn : n ≤ 10000000) :
  Calls Tryz.prog 167 #[.slice A xs.length c,.int .i64 n] w (Ret w fun w' v => DigR w' w.heap.size v (digs (2 ^ n * val xs))) := by
 have hmk := run_make_u32 (xs.length + n / 32 + 1) (by omega)
 rw [show (((xs.length + n / 32 + 1 : Nat)) : Int) = (xs.length : Int) + (n : Int) / 32 + 1 by omega] at hmk
 go_enter Tryz.func167,Tryz.ntmps167
 go_wp2_with fail
 clear hmk
 go_loopw [6] (fun i wr => ∃ (k : Nat) (ss : List Nat),k ≤ xs.length ∧ i = .int .i64 k ∧ Hid (ss.length = xs.length + n / 32 + 1) ∧ Dg ss ∧ Hid (val ss = 2 ^ n * val (xs.take k)) ∧ Hid (ss.getD (k + n / 32) 0 < 2 ^ (n % 32)) ∧ Hid (∀ j,k + n / 32 < j → ss.getD j 0 = 0) ∧ DBlk wr w.heap.size ss ∧ Ext w wr) (fun i _ => xs.length - (intOf i).toNat)
 case atStart => exact ⟨0,List.replicate (xs.length + n / 32 + 1) 0,by omega,rfl,by show _ = _;simp,Dg.replicate _,by show _ = _;rw [val_replicate];simp [val],by show _ < _;rw [getD_replicate];exact Nat.pow_pos (by omega),fun j _ => getD_replicate _ _,DBlk.start _ _,Ext.new _ _⟩
 case round =>
  obtain ⟨k,ss,hk,rfl,hss,hds,hval,hlow,hzero,hmade,hb⟩ := hrel
  by_cases hlt : k < xs.length
  ·obtain ⟨b1,o1,rfl,hb1,hc1⟩ := (hA.ext hb).dig (k := k) (by omega)
   obtain ⟨hc3,hf3⟩ := hmade.cell (k := k + n / 32) (by rw [hss.out];omega)
   obtain ⟨hc4,hf4⟩ := hmade.cell (k := k + n / 32 + 1) (by rw [hss.out];omega)
   have g1 := hdx.getD k
   have g3 := hds.getD (k + n / 32)
   generalize hp : xs.getD k 0 = p at *
   generalize ho : ss.getD (k + n / 32) 0 = o at *
   generalize ho2 : ss.getD (k + n / 32 + 1) 0 = o2 at *
   have Hp := Lib.hid hp
   have Ho := Lib.hid ho
   have Ho2 := Lib.hid ho2
   clear hp ho ho2
   go_wp2_with fail
   have hr : n % 32 < 32 := Nat.mod_lt _ (by omega)
   have hw : IntKind.u64.wrap ((p : Int) * 2 ^ (n % 32)) = ((p * 2 ^ (n % 32) : Nat) : Int) := by
    have := shl_lt p (n % 32) g1 hr
    have e : ((p : Int) * 2 ^ (n % 32)) = ((p * 2 ^ (n % 32) : Nat) : Int) := by simp
    rw [e];exact IntWalk.u64_in _ (by omega)
   have hsh := shl_high p (n % 32) g1
   have hpB := pow_lt_B hr
   have h1 : (((p * 2 ^ (n % 32) : Nat) : Int) % 4294967296) = ((p * 2 ^ (n % 32) % 4294967296 : Nat) : Int) := by simp
   have h2 : (((p * 2 ^ (n % 32) : Nat) : Int) / 4294967296 % 4294967296) = ((p * 2 ^ (n % 32) / 4294967296 : Nat) : Int) := by
    have : (((p * 2 ^ (n % 32) : Nat) : Int) / 4294967296) = ((p * 2 ^ (n % 32) / 4294967296 : Nat) : Int) := by simp
    rw [this];omega
   have hol := hlow.out
   have h3 : bits .or .u32 (o : Int) ((p * 2 ^ (n % 32) % 4294967296 : Nat) : Int) = ((o + p * 2 ^ (n % 32) % 4294967296 : Nat) : Int) := by
    rw [u32_or_nat _ _ g3 (Nat.mod_lt _ (by omega)),or_low o p _ hr hol]
   have hor := or_low_lt o p _ hr hol
   rw [hw,h1,h2,h3]
   have hz := hzero.out (k + n / 32 + 1) (by omega)
   go_roundw
   case rel =>
    refine ⟨k + 1,(ss.set (k + n / 32) (o + p * 2 ^ (n % 32) % 4294967296)).set (k + n / 32 + 1) (p * 2 ^ (n % 32) / 4294967296),by omega,by go_num,?_,(hds.set hor _).set (by omega) _,?_,?_,?_,(hmade.set _ _).set _ _,(hb.setCell (by simp) _).setCell (by simp) _⟩
    ·show _ = _;simpa using hss.out
    ·show _ = _
     have hv := hval.out
     rw [pow_split n] at hv ⊢
     rw [val_take_succ,Hp.out]
     exact shift_step (by rw [hss.out];omega) Ho.out hz hv
    ·show _ < _
     rw [show k + 1 + n / 32 = k + n / 32 + 1 by omega,List.getD_eq_getElem?_getD,List.getElem?_set_self (by rw [List.length_set,hss.out];omega)]
     exact hsh
    ·intro j hj
     rw [getD_set_ne _ _ _ _ (by omega),getD_set_ne _ _ _ _ (by omega)]
     exact hzero.out j (by omega)
   case measure => simp [intOf] <;> omega
  ·obtain rfl : k = xs.length := by omega
   have hfull := hmade.full
   go_wp2_with fail
   rw [← hss.out]
   refine (r1_trim _ _ ss _ hfull (Nat.le_refl _) (by rw [hss.out];omega)).mono ?_
   rintro e w' ⟨rfl,rfl⟩
   go_wp2_with fail
   go_ret
   refine Ret.mk ?_ hb
   have hv := hval.out
   rw [val_take_all _ _ (Nat.le_refl _)] at hv
   rw [← hv]
   exact DigR.trim hfull hds (Nat.le_refl _) (Blk.lt hmade)
theorem r1_half (A : Option Addr) (c : Nat) (xs : List Nat) (w : World) (hA : Sl w A (xs.map U)) (hx : xs.length ≤ 1000000) (hdx : Dg xs) :
  Calls Tryz.prog 169 #[.slice A xs.length c] w (Ret w fun w' v => DigR w' w.heap.size v (digs (val xs / 2))) := by
 have hmk := run_make_u32 xs.length (by omega)
 go_enter Tryz.func169,Tryz.ntmps169
 go_wp2_with fail
 clear hmk
 go_loopw [4] (fun i wr => ∃ (k : Nat) (ss : List Nat),k ≤ xs.length ∧ i = .int .i64 k ∧ Hid (ss.length = k) ∧ Dg ss ∧ Hid (2 * val ss + xs.getD 0 0 % 2 = val (xs.take k) + 4294967296 ^ k * (xs.getD k 0 % 2)) ∧ Made wr w.heap.size xs.length ss ∧ Ext w wr) (fun i _ => xs.length - (intOf i).toNat)
 case atStart => exact ⟨0,[],by omega,rfl,rfl,Dg.nil,by show _ = _;simp [val],Made.start _ _,Ext.new _ _⟩
 case round =>
  obtain ⟨k,ss,hk,rfl,hss,hds,hval,hmade,hb⟩ := hrel
  by_cases hlt : k < xs.length
  ·have g1 := hdx.getD k
   have g2 := hdx.getD (k + 1)
   obtain ⟨⟨zz,hcell,_⟩,hfr⟩ := hmade.cell hlt (by rw [hss.out];omega)
   obtain ⟨b1,o1,rfl,hb1,hc1⟩ := (hA.ext hb).dig (k := k) (by omega)
   have e0 : (0 : Int) ≤ (k : Int) := by omega
   have e1 : (k : Int) < (xs.length : Int) := by omega
   have hdig : Calls Tryz.prog 223 #[.slice (some ⟨b1,o1,none⟩) xs.length c,.int .i64 ((k : Int) + 1)] wr.drew fun e w' => e = .returned (.int .u64 ((xs.getD (k + 1) 0 : Nat) : Int)) ∧ w' = wr.drew :=
    (r1_digit (some ⟨b1,o1,none⟩) c xs (k + 1) wr.drew (hA.ext hb.drew) (by omega) (by omega) hdx).mono fun _ _ h => ⟨h.1,h.2.symm⟩
   generalize hp : xs.getD k 0 = p at *
   generalize hq : xs.getD (k + 1) 0 = q at *
   have Hp := Lib.hid hp
   have Hq := Lib.hid hq
   clear hp hq
   have HD := Lib.hid hdig
   clear hdig
   have hwk : IntKind.i64.wrap ((k : Int) + 1) = (k : Int) + 1 := IntWalk.i64_in _ (by omega)
   go_wp2_with fail
   refine wp_region_still_tail 15 (by kernel_rfl) (by kernel_rfl) ?_
   simp only [List.take_succ_cons,List.take_zero,List.drop_succ_cons,List.drop_zero]
   repeat still_step
   still_call HD.out
   have hwq : IntKind.u64.wrap ((q : Int) * 2147483648) = (q : Int) * 2147483648 := IntWalk.u64_in _ (by omega)
   repeat still_step
   refine wpStill_nil ?_
   clear hwk hwq
   change wpList _ _ _ _ _ wr.drew
   go_wp2_with fail
   have h3 : bits .or .u32 ((p : Int) / 2) ((q : Int) * 2147483648 % 4294967296) = ((p / 2 + 2147483648 * (q % 2) : Nat) : Int) := by
    have := u32_or_nat (p / 2) (q * 2147483648 % 4294967296) (by omega) (by omega)
    rw [half_or p q g1] at this
    rw [← this];congr 1 <;> simp
   rw [h3]
   have hpu := hmade.push (by rw [hss.out];omega) (p / 2 + 2147483648 * (q % 2))
   rw [hss.out] at hpu
   go_roundw
   case rel =>
    refine ⟨k + 1,ss ++ [p / 2 + 2147483648 * (q % 2)],by omega,by go_num,?_,hds.append (Dg.cons (by omega) Dg.nil),?_,hpu,(hb.setCell (by simp) _).drew⟩
    ·show _ = _;simp [hss.out]
    ·show _ = _
     rw [Hq.out]
     exact half_step hss.out Hp.out hval.out
   case measure => simp [intOf] <;> omega
  ·obtain rfl : k = xs.length := by omega
   have hfull := hmade.full hss.out
   go_wp2_with fail
   rw [← hss.out]
   refine (r1_trim _ _ ss _ hfull (Nat.le_refl _) (by rw [hss.out];omega)).mono ?_
   rintro e w' ⟨rfl,rfl⟩
   go_wp2_with fail
   go_ret
   refine Ret.mk ?_ hb
   have hv := hval.out
   rw [val_take_all _ _ (Nat.le_refl _),List.getD_eq_getElem?_getD (i := xs.length),List.getElem?_eq_none (Nat.le_refl _)] at hv
   have hv2 : val xs / 2 = val ss := by
    have : xs.getD 0 0 % 2 < 2 := Nat.mod_lt _ (by omega)
    simp only [Option.getD_none,Nat.zero_mod,Nat.mul_zero,Nat.add_zero] at hv
    omega
   rw [hv2]
   exact DigR.trim hfull hds (Nat.le_refl _) (Blk.lt hmade)
end Go.Proofs.YtabmjadcoepbeaaGreat

/- Contracts of package pairingref1: divDigits. -/
namespace Go.Proofs.YtabmjadcoepbeaaGreat
open Go.RowKit

def Ret2 (w0 : World) (R : World → Value → Value → Prop) (e : Ending) (w' : World) : Prop := ∃ a b,e = .returned (.tuple #[a,b]) ∧ R w' a b ∧ Ext w0 w'
theorem Ret2.mk {w0 : World} {R : World → Value → Value → Prop} {w' : World} {a b : Value} (h : R w' a b) (hb : Ext w0 w') : Ret2 w0 R (.returned (.tuple #[a,b])) w' := ⟨a,b,rfl,h,hb⟩

theorem DigR.of_own {w : World} {base : Nat} {e : TypeId} {v : Value} {ds : List Nat} (h : w.ownsRow base e 1 v ds.length (ds.map U)) : DigR w base v ds := by
 obtain ⟨A,c,rfl,hc,hs⟩ := Sl.digs_of_own h
 refine ⟨A,c,rfl,hc,hs,fun a ha => ?_⟩
 subst ha
 obtain ⟨hl,⟨h1,_⟩ | ⟨g,cap,cur,e1,hg,hh,_⟩⟩ := h
 ·cases h1
 ·cases e1;exact ⟨hg,Blk.lt (t := e) hh⟩

def DivSt (w0 w : World) (g n : Nat) (x y : Nat) (j : Nat) (rv dv : Value) (Q : List Nat) : Prop :=
 ∃ R D : Nat,DigR w w0.heap.size rv (digs R) ∧ rv.ownBlock ≠ some g ∧ DigR w 0 dv (digs D) ∧ dv.ownBlock ≠ some g ∧ DBlk w g Q ∧ Dg Q ∧ Q.length = n / 32 + 1 ∧
  x = val Q * y + R ∧ R < 2 ^ j * y ∧ 2 ^ j ∣ val Q ∧ (0 < j → D = 2 ^ (j - 1) * y) ∧ Ext w0 w

theorem r1_divDigits (A B : Option Addr) (c d : Nat) (xs ys : List Nat) (w : World) (hA : Sl w A (xs.map U)) (hc : xs.length ≤ c) (hx : xs.length ≤ 10000) (hdx : Dg xs)
  (hB : Sl w B (ys.map U)) (hd : ys.length ≤ d) (hy : ys.length ≤ 10000) (hdy : Dg ys) (hy0 : val ys ≠ 0) :
  Calls Tryz.prog 124 #[.slice A xs.length c,.slice B ys.length d] w (Ret2 w fun w' q r => DigR w' w.heap.size q (digs (val xs / val ys)) ∧ DigR w' w.heap.size r (digs (val xs % val ys))) := by
 have HY := Lib.hid hy0
 clear hy0
 obtain ⟨i0,hi0,hz0,hz1,hz2⟩ := info_parts u32_info
 go_enter Tryz.func124,Tryz.ntmps124
 go_wp2_with fail
 refine (r1_trim A c xs _ hA hc (by omega)).mono ?_
 rintro e w' ⟨rfl,rfl⟩
 have hlx := trimLen_le xs xs.length
 have sx := hA.take (trimLen xs xs.length)
 rw [← List.map_take,show xs.take (trimLen xs xs.length) = digs (val xs) from trimD_eq hdx] at sx
 have ex := trimLen_eq hdx
 generalize trimLen xs xs.length = n at *
 have Ex := Lib.hid ex
 clear ex
 have hn : n ≤ 10000 := by omega
 go_wp2_with (at_builtin;refine wpList_append_any _ rfl _ (.tmp 12) _ rfl w.heap.size 121 i0 _ 1 4 Tryz.underlying51 hi0 hz0 hz1 hz2 rfl (by omega) (.slice none 0 0) 0 [] rfl (ownsRow_nil _ _ _ _) A n c _ rfl (by simp [Ex.out]) sx oneCell_U (by simp only [maxLen];omega) (by omega) (by simp) ?_;intro v1 w1 hown hg hat;clear hat)
 simp only [Nat.zero_add,List.nil_append] at hown
 rw [Ex.out] at hown
 have hr := DigR.of_own hown
 have hb1 := Ext.grown_new hg
 clear hg hown hz0 hz1 hz2 hi0
 refine (r1_bitLen A c xs _ (hA.ext hb1) hc (by omega) hdx).mono ?_
 rintro e w' ⟨rfl,rfl⟩
 go_wp2_with fail
 refine (r1_bitLen B d ys _ (hB.ext hb1) hd (by omega) hdy).mono ?_
 rintro e w' ⟨rfl,rfl⟩
 have bx := bl_le_digs (val xs)
 have by_ := bl_le_digs (val ys)
 have ly : (digs (val ys)).length ≤ ys.length := by rw [← trimLen_eq hdy];exact trimLen_le _ _
 by_cases hlt : bl (val xs) < bl (val ys)
 ·have h1 := lt_of_bl hlt
  have H1 := Lib.hid h1
  clear h1
  have lx : (digs (val xs)).length ≤ 10000 := by rw [← Ex.out];omega
  generalize bl (val xs) = p at *
  generalize bl (val ys) = q at *
  have hr2 := hr
  obtain ⟨A1,c1,rfl,_⟩ := hr
  go_wp2_with fail
  go_ret2
  refine Ret2.mk ⟨?_,?_⟩ hb1
  ·rw [Nat.div_eq_of_lt H1.out,digs_zero];exact DigR.nil
  ·rw [Nat.mod_eq_of_lt H1.out];exact hr2
 ·obtain ⟨m,hm⟩ : ∃ m,bl (val xs) = m + bl (val ys) := ⟨bl (val xs) - bl (val ys),by omega⟩
  have hmb : m ≤ 320000 := by
   have : (digs (val xs)).length ≤ 10000 := by rw [← Ex.out];omega
   omega
  have lx : (digs (val xs)).length ≤ 10000 := by rw [← Ex.out];omega
  have eb : ((bl (val xs) : Nat) : Int) - ((bl (val ys) : Nat) : Int) = (m : Int) := by omega
  have hbx : bl (val xs) ≤ 320000 := by omega
  have hby : bl (val ys) ≤ 320000 := by omega
  have HM := Lib.hid hm
  have EB := Lib.hid eb
  clear hm eb bx by_ ly hlt
  have hmk := run_make_u32 (m / 32 + 1) (by omega)
  rw [show (((m / 32 + 1 : Nat)) : Int) = (m : Int) / 32 + 1 by omega] at hmk
  have hr2 := hr
  obtain ⟨A1,c1,rfl,_⟩ := hr
  go_upto_region 3 with (fail)
  rw [EB.out]
  go_wp2_with fail
  clear hmk
  refine (r1_shift B d ys m _ (hB.ext (hb1.alloc _)) (by omega) hdy (by omega)).mono ?_
  rintro e w2 ⟨dv,rfl,hdv,hb2⟩
  have hst : DivSt w w2 w1.heap.size m (val xs) (val ys) (m + 1) (.slice A1 (digs (val xs)).length c1) dv (List.replicate (m / 32 + 1) 0) := by
   refine ⟨val xs,2 ^ m * val ys,hr2.ext ((Ext.new _ _).trans hb2),hr2.under (Nat.le_refl _),hdv.base (Nat.zero_le _),hdv.above (by simp),(DBlk.start w1 (m / 32 + 1)).ext hb2,Dg.replicate _,by simp,?_,div_start HY.out HM.out,?_,fun _ => rfl,(hb1.alloc _).trans hb2⟩
   ·rw [val_replicate];simp
   ·rw [val_replicate];exact Nat.dvd_zero _
  clear hr2 hb2 hdv hB hA sx
  have hdvs : ∃ A2 n2 c2,dv = .slice A2 n2 c2 := by
   obtain ⟨_,_,_,_,⟨A2,c2,e,_⟩,_⟩ := hst
   exact ⟨A2,_,c2,e⟩
  obtain ⟨A2,n2,c2,rfl⟩ := hdvs
  go_wp2_with fail
  go_loopw [6,9,10] (fun rv dv i wr => ∃ (j : Nat) (Q : List Nat),j ≤ m + 1 ∧ i = .int .i64 ((j : Int) - 1) ∧ DivSt w wr w1.heap.size m (val xs) (val ys) j rv dv Q) (fun _ _ i _ => (intOf i + 1).toNat)
  case atStart => exact ⟨m + 1,_,Nat.le_refl _,by go_num,hst⟩
  case round =>
   obtain ⟨j,Q,hj,rfl,R,D,hR,hRb,hD,hDb,hQ,hdQ,hlQ,hx2,hlt2,hdvd,hDD,hb⟩ := hrel
   obtain ⟨A3,c3,rfl,hc3,hs3,hz3⟩ := hR
   obtain ⟨A4,c4,rfl,hc4,hs4,hz4⟩ := hD
   by_cases hj0 : 0 < j
   ·obtain ⟨k,rfl⟩ : ∃ k,j = k + 1 := ⟨j - 1,by omega⟩
    rw [show (((k + 1 : Nat) : Int) - 1) = (k : Int) by omega]
    have hD2 : D = 2 ^ k * val ys := by simpa using hDD (by omega)
    have lR : (digs R).length ≤ 10000 := Nat.le_trans (length_digs_mono (show R ≤ val xs by rw [hx2];exact Nat.le_add_left _ _)) lx
    have lD : (digs D).length ≤ 10000 := Nat.le_trans (length_digs_le (by rw [hD2];exact shifted_lt HM.out (by omega))) lx
    have hk32 : k / 32 < Q.length := by rw [hlQ];omega
    have HX := Lib.hid hx2
    have HL := Lib.hid hlt2
    have HV := Lib.hid hdvd
    have HD := Lib.hid hD2
    have HQ := Lib.hid hlQ
    have HRb := Lib.hid hRb
    have HDb := Lib.hid hDb
    have HZ3 := Lib.hid hz3
    clear hx2 hlt2 hdvd hD2 hDD hlQ hRb hDb hz3 hz4
    go_wp2_with fail
    refine (r1_compareDigits A3 A4 c3 c4 (digs R) (digs D) _ hs3 hc3 (by omega) (Dg_digs R) hs4 hc4 (by omega) (Dg_digs D)).mono ?_
    rintro e w4 ⟨rfl,hb4⟩
    rw [val_digs,val_digs]
    have hhalf : ∀ W : World,Ext wr W → Calls Tryz.prog 169 #[.slice A4 (digs D).length c4] W (Ret W fun w' v => DigR w' W.heap.size v (digs (D / 2))) := by
     intro W hW
     have := r1_half A4 c4 (digs D) W (hs4.ext hW) (by omega) (Dg_digs D)
     rw [val_digs] at this
     exact this
    have HH := Lib.hid hhalf
    clear hhalf
    by_cases hge : D ≤ R
    ·have hcm : 0 ≤ cmp3 R D := by
      unfold cmp3;split
      ·omega
      ·split <;> omega
     generalize cmp3 R D = cc at *
     have HG := Lib.hid hge
     clear hge
     go_wp2_with fail
     refine (r1_subDigits A3 A4 c3 c4 (digs R) (digs D) _ (hs3.ext hb4) hc3 (by omega) (Dg_digs R) (hs4.ext hb4) (length_digs_mono HG.out) (Dg_digs D) (by rw [val_digs,val_digs];exact HG.out)).mono ?_
     rintro e w5 ⟨rv,rfl,hrv,hb5⟩
     rw [val_digs,val_digs] at hrv
     have hQ5 := (hQ.ext hb4).ext hb5
     obtain ⟨hc5,hf5⟩ := hQ5.cell hk32
     have g5 := hdQ.getD (k / 32)
     generalize ho : Q.getD (k / 32) 0 = o at *
     have Ho := Lib.hid ho
     clear ho
     have hlt6 := Blk.lt hQ5
     have hrv2 := hrv
     obtain ⟨A6,c6,rfl,hc6,hs6,_⟩ := hrv
     have hne4 : ∀ a,A4 = some a → a.block ≠ w1.heap.size := by
      rintro a rfl he
      exact HDb.out (by simp [Value.ownBlock,he])
     have HN4 := Lib.hid hne4
     clear hne4
     go_wp2_with fail
     have h3 : bits .or .u32 (o : Int) ((2 : Int) ^ (k % 32) % 4294967296) = ((o ||| 2 ^ (k % 32) : Nat) : Int) := by
      have hp := pow_lt_B (r := k % 32) (Nat.mod_lt _ (by omega))
      have e : ((2 : Int) ^ (k % 32) % 4294967296) = ((2 ^ (k % 32) : Nat) : Int) := by
       have e2 : ((2 : Int) ^ (k % 32)) = ((2 ^ (k % 32) : Nat) : Int) := by simp
       rw [e2];generalize 2 ^ (k % 32) = P at *;omega
      rw [e];exact u32_or_nat _ _ g5 hp
     rw [h3]
     have hset := hQ5.set (k / 32) (o ||| 2 ^ (k % 32))
     have hrv3 := hrv2.far (g := w1.heap.size) (hrv2.above (Nat.lt_of_lt_of_le (Blk.lt hQ) hb4.size)) (k / 32) (.int .u32 ((o ||| 2 ^ (k % 32) : Nat) : Int))
     have hdh := r1_half A4 c4 (digs D) _ (((hs4.ext hb4).ext hb5).far HN4.out (k / 32) (.int .u32 ((o ||| 2 ^ (k % 32) : Nat) : Int))) (by omega) (Dg_digs D)
     rw [val_digs] at hdh
     have hbs : Ext w (w5.setCell ⟨w1.heap.size,k / 32,none⟩ (.int .u32 ((o ||| 2 ^ (k % 32) : Nat) : Int))) := ((hb.trans hb4).trans hb5).setCell hb1.size _
     have hsz : w1.heap.size < (w5.setCell ⟨w1.heap.size,k / 32,none⟩ (.int .u32 ((o ||| 2 ^ (k % 32) : Nat) : Int))).heap.size := Blk.lt hset
     clear hQ5 hc5 hf5 hlt6 hs6 hrv2 h3
     generalize w5.setCell ⟨w1.heap.size,k / 32,none⟩ (.int .u32 ((o ||| 2 ^ (k % 32) : Nat) : Int)) = w6 at *
     refine hdh.mono ?_
     clear hdh
     rintro e w7 ⟨dv5,rfl,hdv5,hb7⟩
     obtain ⟨A5,c5,rfl,hdv6⟩ : ∃ A5 c5,dv5 = .slice A5 (digs (D / 2)).length c5 ∧ DigR w7 w6.heap.size dv5 (digs (D / 2)) := by
      obtain ⟨A5,c5,e,r⟩ := hdv5;exact ⟨A5,c5,e,⟨A5,c5,e,r⟩⟩
     clear hdv5
     go_wp2_with fail
     go_roundw
     case rel =>
      obtain ⟨x1,x2⟩ := div_sub HX.out (by rw [← HD.out];exact HG.out) HL.out
      have sb := set_bit hk32 hdQ HV.out
      rw [Ho.out] at sb
      have hab := hrv3.above (Nat.lt_of_lt_of_le (Blk.lt hQ) hb4.size)
      refine ⟨k,Q.set (k / 32) (o ||| 2 ^ (k % 32)),by omega,by go_num,R - D,D / 2,(hrv3.ext hb7).base (hb.trans hb4).size,hab,hdv6.base (Nat.zero_le _),hdv6.above hsz,hset.ext hb7,hdQ.set (or_bit_lt g5 (Nat.mod_lt _ (by omega))) _,by rw [List.length_set];exact HQ.out,?_,?_,?_,?_,hbs.trans hb7⟩
      ·rw [sb,HD.out];exact x1
      ·rw [HD.out];exact x2
      ·rw [sb]
       exact (Nat.dvd_add_iff_left (Nat.dvd_refl _)).1 (Nat.dvd_trans (Nat.pow_dvd_pow 2 (Nat.le_succ k)) HV.out)
      ·intro hk0
       obtain ⟨i,rfl⟩ : ∃ i,k = i + 1 := ⟨k - 1,by omega⟩
       rw [HD.out,half_pow];simp
     case measure => simp [intOf] <;> omega
    ·have hlt5 : R < D := by omega
     rw [cmp3_lt hlt5]
     have HG := Lib.hid hlt5
     clear hlt5 hge
     go_wp2_with fail
     refine (HH.out _ hb4).mono ?_
     rintro e w5 ⟨dv5,rfl,hdv5,hb5⟩
     obtain ⟨A5,c5,rfl,hdv6⟩ : ∃ A5 c5,dv5 = .slice A5 (digs (D / 2)).length c5 ∧ DigR w5 w4.heap.size dv5 (digs (D / 2)) := by
      obtain ⟨A5,c5,e,r⟩ := hdv5;exact ⟨A5,c5,e,⟨A5,c5,e,r⟩⟩
     go_wp2_with fail
     go_roundw
     case rel =>
      refine ⟨k,Q,by omega,by go_num,R,D / 2,⟨A3,c3,rfl,hc3,(hs3.ext hb4).ext hb5,fun a ha => ⟨(HZ3.out a ha).1,Nat.lt_of_lt_of_le (HZ3.out a ha).2 (Nat.le_trans hb4.size hb5.size)⟩⟩,HRb.out,hdv6.base (Nat.zero_le _),hdv6.above (Nat.lt_of_lt_of_le (Blk.lt hQ) hb4.size),(hQ.ext hb4).ext hb5,hdQ,HQ.out,HX.out,by rw [← HD.out];exact HG.out,?_,?_,(hb.trans hb4).trans hb5⟩
      ·exact Nat.dvd_trans (Nat.pow_dvd_pow 2 (Nat.le_succ k)) HV.out
      ·intro hk0
       obtain ⟨i,rfl⟩ : ∃ i,k = i + 1 := ⟨k - 1,by omega⟩
       rw [HD.out,half_pow];simp
     case measure => simp [intOf] <;> omega
   ·obtain rfl : j = 0 := by omega
    have HX := Lib.hid hx2
    have HL := Lib.hid hlt2
    have HQ := Lib.hid hlQ
    have HZ3 := Lib.hid hz3
    clear hx2 hlt2 hdvd hDD hlQ hRb hDb hz3 hz4
    go_wp2_with fail
    rw [← HQ.out]
    have hfull := hQ.full
    refine (r1_trim _ _ Q _ hfull (Nat.le_refl _) (by rw [HQ.out];omega)).mono ?_
    rintro e w' ⟨rfl,rfl⟩
    go_wp2_with fail
    go_ret2
    have hl := HL.out
    rw [Nat.pow_zero,Nat.one_mul] at hl
    obtain ⟨e1,e2⟩ := div_end HX.out hl
    refine Ret2.mk ⟨?_,?_⟩ hb
    ·rw [← e1];exact (DigR.trim hfull hdQ (Nat.le_refl _) (Blk.lt hQ)).base hb1.size
    ·rw [← e2]
     exact ⟨A3,c3,rfl,hc3,hs3,fun a ha => HZ3.out a ha⟩
end Go.Proofs.YtabmjadcoepbeaaGreat

/- Contracts of package pairingref1: Negate, Mul, Add, Sub, FromInt64. -/
namespace Go.Proofs.YtabmjadcoepbeaaGreat
open Go.RowKit

theorem r1_Make' (neg : Bool) (v : Value) (base : Nat) (n : Nat) (w : World) (h : DigR w base v (digs n)) (hn : (digs n).length ≤ 10000) :
  Calls Tryz.prog 87 #[.bool neg,v] w (Ret w fun w' v => IntO w' w.heap.size v (sgn neg n)) := by
 obtain ⟨A,c,rfl,hc,hs,_⟩ := h
 have := r1_Make neg A c (digs n) w hs hc (by omega) (Dg_digs n)
 rw [val_digs] at this
 exact this
theorem IntO.cases {w : World} {b : Nat} {v : Value} {z : Int} (h : IntO w b v z) : ∃ g A n c,v = .agg #[.bool g,.slice A n c] ∧ IntO w b (.agg #[.bool g,.slice A n c]) z := by
 obtain ⟨A,n,c,rfl⟩ := h.open_
 exact ⟨_,A,n,c,rfl,h⟩

theorem r1_Negate (v : Value) (z : Int) (w : World) (h : IntV w v z) :
  Calls Tryz.prog 76 #[v] w (Ret w fun w' r => IntO w' w.heap.size r (-z)) := by
 obtain ⟨neg,A,c,ds,rfl,hc,hs,hd,hn,rfl⟩ := h
 go_enter Tryz.func76,Tryz.ntmps76
 go_wp2_with fail
 refine (r1_Make (!neg) A c ds _ (hs.ext ((Ext.new _ _).alloc _)) hc (by omega) hd).mono ?_
 rintro e w1 ⟨v1,rfl,ho,hb1⟩
 obtain ⟨g1,A1,n1,c1,rfl,ho⟩ := ho.cases
 obtain ⟨hcl,hfz⟩ := bcell hb1
 have e : -(sgn neg (val ds)) = sgn (!neg) (val ds) := by cases neg <;> simp [sgn]
 have E := Lib.hid e
 clear e
 go_wp2_with fail
 refine bodyPost_ret (v := .agg #[.bool g1,.slice A1 n1 c1]) (by simp [results,Tryz.results76,go_sem,hcl,hfz]) rfl (Ret.mk ?_ (((((Ext.new _ _).alloc _).trans hb1).setCell (by simp) _).setCell (by simp) _))
 rw [E.out]
 exact ((ho.set (by simp) _).set (by simp) _).base (by simp;omega)

theorem r1_Mul (a b : Value) (x y : Int) (w : World) (ha : IntV w a x) (hb : IntV w b y) :
  Calls Tryz.prog 74 #[a,b] w (Ret w fun w' r => IntO w' w.heap.size r (x * y)) := by
 obtain ⟨na,A,c,ds,rfl,hc,hs,hd,hn,rfl⟩ := ha
 obtain ⟨nb,B,d,es,rfl,hc2,hs2,hd2,hn2,rfl⟩ := hb
 have e : sgn na (val ds) * sgn nb (val es) = sgn (!na == nb) (val ds * val es) := by cases na <;> cases nb <;> simp [sgn,Int.neg_mul,Int.mul_neg]
 have E := Lib.hid e
 clear e
 have hlt : (digs (val ds * val es)).length ≤ 10000 := by have := length_digs_mul hd hd2;omega
 have HL := Lib.hid hlt
 clear hlt
 go_enter Tryz.func74,Tryz.ntmps74
 go_wp2_with fail
 refine gen3 fun W hE hsz B1 B2 B3 => ?_
 obtain ⟨a1,a2,_⟩ := B1.facts2
 obtain ⟨b1,b2,_⟩ := B2.facts2
 have n1 : ¬ (w.heap.size = w.heap.size + 1 + 1) := by omega
 have n2 : ¬ (w.heap.size + 1 + 1 = w.heap.size) := by omega
 go_region_held3 (fun w' => w'.cell? ⟨w.heap.size,0,none⟩ = some (.bool na) ∧ w'.cell? ⟨w.heap.size,1,none⟩ = some (.slice A ds.length c) ∧ w'.cell? ⟨w.heap.size + 1,0,none⟩ = some (.bool nb) ∧ w'.cell? ⟨w.heap.size + 1,1,none⟩ = some (.slice B es.length d)) (go_keep)
  (first
   | (go_at_call 109;refine (r1_mulDigits A B c d ds es _ (hs.ext hE.drew) (by omega) hd (hs2.ext hE.drew) (by omega) hd2).mono ?_;rintro e w1 ⟨v1,rfl,h1,hb1⟩;have s1 := cell_keep hb1 a1;have s2 := cell_keep hb1 a2;have s3 := cell_keep hb1 b1;have s4 := cell_keep hb1 b2)
   | (go_at_call 87;refine (r1_Make' _ v1 _ _ _ h1 HL.out).mono ?_;rintro e w2 ⟨v2,rfl,h2,hb2⟩;obtain ⟨g2,A2,n2,c2,rfl,h2⟩ := h2.cases;have r1 := cell_keep hb2 s1;have r2 := cell_keep hb2 s2;have r3 := cell_keep hb2 s3;have r4 := cell_keep hb2 s4;have B4 := (B3.drew.ext hb1).ext hb2;obtain ⟨q1,q2,q3,q4⟩ := B4.facts2))
 go_wp2_with fail
 refine bodyPost_ret (v := .agg #[.bool g2,.slice A2 n2 c2]) (by simp [results,Tryz.results74,go_sem,q1,q2,q3,q4]) rfl (Ret.mk ?_ ((((hE.drew.trans hb1).trans hb2).setCell (by simp;omega) _).setCell (by simp;omega) _))
 rw [E.out]
 have hsz1 : W.heap.size ≤ w1.heap.size := hb1.size
 exact ((h2.set (by simp;omega) _).set (by simp;omega) _).base (by omega)
end Go.Proofs.YtabmjadcoepbeaaGreat

/- Contracts of package pairingref1: Compare, Sign. -/
namespace Go.Proofs.YtabmjadcoepbeaaGreat
open Go.RowKit

def icmp (x y : Int) : Int := if x < y then -1 else if x = y then 0 else 1

theorem icmp_lt {x y : Int} (h : x < y) : icmp x y = -1 := by simp [icmp,h]
theorem icmp_gt {x y : Int} (h : y < x) : icmp x y = 1 := by unfold icmp;rw [if_neg (by omega),if_neg (by omega)]
theorem icmp_neg {x y : Int} (hx : x < 0) (hy : y < 0) : icmp x y = cmp3 y.natAbs x.natAbs := by
 unfold icmp cmp3
 repeat' split
 all_goals omega
theorem icmp_pos {x y : Int} (hx : ¬ x < 0) (hy : ¬ y < 0) : icmp x y = cmp3 x.natAbs y.natAbs := by
 unfold icmp cmp3
 repeat' split
 all_goals omega
theorem IntO.set2 {w : World} {base : Nat} {v : Value} {z : Int} (h : IntO w base v z) {g : Nat} (hg : g < base) (u0 u1 : Value) : IntO ((w.setCell ⟨g,0,none⟩ u0).setCell ⟨g,1,none⟩ u1) base v z :=
 (h.set (a := ⟨g,0,none⟩) hg u0).set (a := ⟨g,1,none⟩) hg u1
theorem IntO.cells {w : World} {base : Nat} {p0 p1 : Value} {z : Int} (h : IntO w base (.agg #[p0,p1]) z) :
  ∃ A c,p0 = .bool (decide (z < 0)) ∧ p1 = .slice A (digs z.natAbs).length c ∧ (digs z.natAbs).length ≤ c ∧ Sl w A ((digs z.natAbs).map U) := by
 obtain ⟨s,e,ho⟩ := h
 obtain ⟨A,c,rfl,hc,hs⟩ := Sl.digs_of_own ho
 simp at e
 exact ⟨A,c,e.1,e.2,hc,hs⟩
theorem IntV.length {w : World} {v : Value} {z : Int} (h : IntV w v z) : (digs z.natAbs).length ≤ 1000 := by
 obtain ⟨neg,A,c,ds,rfl,hc,hs,hd,hn,rfl⟩ := h
 rw [sgn_natAbs]
 exact Nat.le_trans (length_digs_val hd) hn

def TwoC (w0 w : World) (base g1 g2 : Nat) (x y : Int) : Prop :=
 ∃ p0 p1 q0 q1,Blk w g1 53 #[p0,p1] ∧ Blk w g2 53 #[q0,q1] ∧ IntO w base (.agg #[p0,p1]) x ∧ IntO w base (.agg #[q0,q1]) y ∧ Ext w0 w

theorem r1_Compare (a b : Value) (x y : Int) (w : World) (ha : IntV w a x) (hb : IntV w b y) :
  Calls Tryz.prog 110 #[a,b] w fun e w' => e = .returned (.int .i64 (icmp x y)) ∧ Ext w w' := by
 obtain ⟨na,A,c,ds,rfl,r1⟩ := id ha
 obtain ⟨nb,B,d,es,rfl,r2⟩ := id hb
 clear r1 r2
 go_enter Tryz.func110,Tryz.ntmps110
 go_upto_region 1 with (fail)
 refine gen2 fun W hE hsz B1 B2 => ?_
 obtain ⟨a1,a2,f1,f2⟩ := B1.facts2
 obtain ⟨b1,b2,f3,f4⟩ := B2.facts2
 have n1 : ¬ (w.heap.size = w.heap.size + 1) := by omega
 go_cut [] (fun wx => TwoC w wx (w.heap.size + 2) w.heap.size (w.heap.size + 1) x y)
 case first =>
  go_region_with (first
   | (go_at_call_of 86 (Value.agg #[Value.bool na,Value.slice A ds.length c]);refine (r1_Canon _ x _ ?_).mono ?_;exact ha.ext hE.drew;rintro e w1 ⟨v1,rfl,h1,hb1⟩;obtain ⟨g1,A1,m1,c1,rfl,h1⟩ := h1.cases;have C1 := B1.drew.ext hb1;have C2 := B2.drew.ext hb1;obtain ⟨s1,s2,s3,s4⟩ := C1.facts2;obtain ⟨s5,s6,s7,s8⟩ := C2.facts2)
   | (go_at_call_of 86 (Value.agg #[Value.bool nb,Value.slice B es.length d]);refine (r1_Canon _ y _ ?_).mono ?_;exact (hb.ext hE.drew).ext hb1;rintro e w2 ⟨v2,rfl,h2,hb2⟩;obtain ⟨g2,A2,m2,c2,rfl,h2⟩ := h2.cases;have D1 := C1.ext hb2;have D2 := C2.ext hb2;obtain ⟨t1,t2,t3,t4⟩ := D1.facts2;obtain ⟨t5,t6,t7,t8⟩ := D2.facts2))
  all_goals
   go_wp2_with fail
   go_meet
   refine ⟨_,_,_,_,(D1.set2 _ _).far2 (by omega) _ _,(D2.far2 (by omega) _ _).set2 _ _,(((h1.ext hb2).base (by simp;omega)).set2 (by omega) _ _).set2 (by omega) _ _,((h2.base (by have := hb1.size;simp at this;omega)).set2 (by omega) _ _).set2 (by omega) _ _,(((hE.drew.trans hb1).trans hb2).set2 (by omega) _ _).set2 (by omega) _ _⟩
 case rest =>
  obtain ⟨p0,p1,q0,q1,C1,C2,h1,h2,hbx⟩ := hcut
  obtain ⟨A1,c1,rfl,rfl,hc1,hs1⟩ := h1.cells
  obtain ⟨A2,c2,rfl,rfl,hc2,hs2⟩ := h2.cells
  obtain ⟨s1,s2,s3,s4⟩ := C1.facts2
  obtain ⟨s5,s6,s7,s8⟩ := C2.facts2
  have lx : (digs x.natAbs).length ≤ 1000 := ha.length
  have ly : (digs y.natAbs).length ≤ 1000 := hb.length
  clear ha hb B1 B2 a1 a2 b1 b2 f1 f2 f3 f4 hE hsz h1 h2 C1 C2
  by_cases hx : x < 0
  ·have ex : decide (x < 0) = true := by simpa using hx
   by_cases hy : y < 0
   ·have ey : decide (y < 0) = true := by simpa using hy
    have HI := Lib.hid (icmp_neg hx hy)
    go_wp2_with fail
    refine (r1_compareDigits A2 A1 c2 c1 (digs y.natAbs) (digs x.natAbs) _ hs2 hc2 (by omega) (Dg_digs _) hs1 hc1 (by omega) (Dg_digs _)).mono ?_
    rintro e w4 ⟨rfl,hb4⟩
    rw [val_digs,val_digs]
    go_wp2_with fail
    go_ret
    exact ⟨by rw [HI.out];rfl,hbx.trans hb4⟩
   ·have ey : decide (y < 0) = false := by simpa using hy
    go_wp2_with fail
    go_ret
    exact ⟨by rw [icmp_lt (by omega)];rfl,hbx⟩
  ·have ex : decide (x < 0) = false := by simpa using hx
   by_cases hy : y < 0
   ·have ey : decide (y < 0) = true := by simpa using hy
    go_wp2_with fail
    go_ret
    exact ⟨by rw [icmp_gt (by omega)];rfl,hbx⟩
   ·have ey : decide (y < 0) = false := by simpa using hy
    have HI := Lib.hid (icmp_pos hx hy)
    go_wp2_with fail
    refine (r1_compareDigits A1 A2 c1 c2 (digs x.natAbs) (digs y.natAbs) _ hs1 hc1 (by omega) (Dg_digs _) hs2 hc2 (by omega) (Dg_digs _)).mono ?_
    rintro e w4 ⟨rfl,hb4⟩
    rw [val_digs,val_digs]
    go_wp2_with fail
    go_ret
    exact ⟨by rw [HI.out];rfl,hbx.trans hb4⟩

theorem r1_Sign (a : Value) (x : Int) (w : World) (ha : IntV w a x) :
  Calls Tryz.prog 75 #[a] w fun e w' => e = .returned (.int .i64 (icmp x 0)) ∧ Ext w w' := by
 obtain ⟨na,A,c,ds,rfl,r1⟩ := id ha
 clear r1
 go_enter Tryz.func75,Tryz.ntmps75
 go_wp2_with fail
 refine (r1_Compare _ _ x 0 _ (ha.ext (Ext.new _ _)) ⟨false,none,0,[],rfl,Nat.le_refl _,Sl.nil,Dg.nil,by simp,rfl⟩).mono ?_
 rintro e w1 ⟨rfl,hb1⟩
 go_wp2_with fail
 go_ret
 exact ⟨rfl,(Ext.new _ _).trans hb1⟩
end Go.Proofs.YtabmjadcoepbeaaGreat

/- Contracts of package pairingref1: Add, Sub, FromInt64. -/
namespace Go.Proofs.YtabmjadcoepbeaaGreat
open Go.RowKit

theorem sgn_add (n : Bool) (x y : Nat) : sgn n x + sgn n y = sgn n (x + y) := by cases n <;> simp [sgn] <;> omega
theorem sgn_sub (a b : Bool) (h : (a == b) = false) (x y : Nat) (hle : y ≤ x) : sgn a x + sgn b y = sgn a (x - y) := by
 cases a <;> cases b <;> simp_all [sgn] <;> omega

theorem r1_trimC (A : Option Addr) (c : Nat) (ds : List Nat) (w : World) (h : Sl w A (ds.map U)) (hc : ds.length ≤ c) (hm : ds.length ≤ 10000000) (hd : Dg ds) :
  Calls Tryz.prog 123 #[.slice A ds.length c] w fun e w' => e = .returned (.slice A (digs (val ds)).length c) ∧ w = w' := by
 have := r1_trim A c ds w h hc hm
 rw [trimLen_eq hd] at this
 exact this
theorem Sl.trimC {w : World} {A : Option Addr} {ds : List Nat} (h : Sl w A (ds.map U)) (hd : Dg ds) : Sl w A ((digs (val ds)).map U) := by
 rw [← take_trim hd,List.map_take];exact h.take _
theorem cmp3_nonneg {x y : Nat} (h : y ≤ x) : 0 ≤ cmp3 x y := by
 unfold cmp3;split
 ·omega
 ·split <;> omega

theorem r1_Add (a b : Value) (x y : Int) (w : World) (ha : IntV w a x) (hb : IntV w b y) :
  Calls Tryz.prog 126 #[a,b] w (Ret w fun w' r => IntO w' w.heap.size r (x + y)) := by
 obtain ⟨na,A,c,ds,rfl,hc,hs,hd,hn,rfl⟩ := ha
 obtain ⟨nb,B,d,es,rfl,hc2,hs2,hd2,hn2,rfl⟩ := hb
 by_cases hnn : na = nb
 ·subst hnn
  have E := Lib.hid (sgn_add na (val ds) (val es))
  have HL : Hid ((digs (val ds + val es)).length ≤ 10000) := by
   have := length_digs_add hd hd2
   show _ ≤ _
   omega
  have hqq : (na == na) = true := by simp
  go_enter Tryz.func126,Tryz.ntmps126
  go_upto_region 2 with (fail)
  refine gen3 fun W hE hsz B1 B2 B3 => ?_
  obtain ⟨a1,a2,_⟩ := B1.facts2
  obtain ⟨b1,b2,_⟩ := B2.facts2
  have n1 : ¬ (w.heap.size = w.heap.size + 1 + 1) := by omega
  have n2 : ¬ (w.heap.size + 1 + 1 = w.heap.size) := by omega
  go_region_held3 (fun w' => w'.cell? ⟨w.heap.size,0,none⟩ = some (.bool na) ∧ w'.cell? ⟨w.heap.size,1,none⟩ = some (.slice A ds.length c) ∧ w'.cell? ⟨w.heap.size + 1,1,none⟩ = some (.slice B es.length d)) (go_keep)
   (first
    | (go_at_call 170;refine (r1_addDigits A B c d ds es _ (hs.ext hE.drew) hc (by omega) hd (hs2.ext hE.drew) hc2 (by omega) hd2).mono ?_;rintro e w1 ⟨v1,rfl,h1,hb1⟩;have s1 := cell_keep hb1 a1;have s2 := cell_keep hb1 a2;have s4 := cell_keep hb1 b2)
    | (go_at_call 87;refine (r1_Make' _ v1 _ _ _ h1 HL.out).mono ?_;rintro e w2 ⟨v2,rfl,h2,hb2⟩;obtain ⟨g2,A2,n2,c2,rfl,h2⟩ := h2.cases;have r1 := cell_keep hb2 s1;have r2 := cell_keep hb2 s2;have r4 := cell_keep hb2 s4;have B4 := (B3.drew.ext hb1).ext hb2;obtain ⟨q1,q2,q3,q4⟩ := B4.facts2))
  go_wp2_with fail
  refine bodyPost_ret (v := .agg #[.bool g2,.slice A2 n2 c2]) (by simp [results,Tryz.results126,go_sem,q1,q2,q3,q4]) rfl (Ret.mk ?_ ((((hE.drew.trans hb1).trans hb2).setCell (by simp;omega) _).setCell (by simp;omega) _))
  rw [E.out]
  have hsz1 : W.heap.size ≤ w1.heap.size := hb1.size
  exact ((h2.set (by simp;omega) _).set (by simp;omega) _).base (by omega)
 ·have hqq : (na == nb) = false := by simpa using hnn
  have hqq2 : (nb == na) = false := by revert hqq;clear hnn;cases na <;> cases nb <;> simp
  go_enter Tryz.func126,Tryz.ntmps126
  go_upto_region 3 with (fail)
  refine gen3 fun W hE hsz B1 B2 B3 => ?_
  obtain ⟨a1,a2,_⟩ := B1.facts2
  obtain ⟨b1,b2,_⟩ := B2.facts2
  have n1 : ¬ (w.heap.size = w.heap.size + 1 + 1) := by omega
  have n2 : ¬ (w.heap.size + 1 + 1 = w.heap.size) := by omega
  go_wp2_with fail
  refine (r1_compareDigits A B c d ds es _ (hs.ext hE) hc (by omega) hd (hs2.ext hE) hc2 (by omega) hd2).mono ?_
  rintro e w3 ⟨rfl,hb3⟩
  replace a1 := cell_keep hb3 a1
  replace a2 := cell_keep hb3 a2
  replace b1 := cell_keep hb3 b1
  replace b2 := cell_keep hb3 b2
  by_cases hge : val es ≤ val ds
  ·have E := Lib.hid (sgn_sub na nb hqq (val ds) (val es) hge)
   have HG := Lib.hid hge
   have HY := Lib.hid (Nat.le_trans (length_digs_mono hge) (length_digs_val hd))
   have HL : Hid ((digs (val ds - val es)).length ≤ 10000) := Nat.le_trans (length_digs_mono (Nat.sub_le _ _)) (Nat.le_trans (length_digs_val hd) (by omega))
   have hcm := cmp3_nonneg hge
   clear hge
   generalize cmp3 (val ds) (val es) = cc at *
   go_upto_region 4 with (fail)
   go_region_held3 (fun w' => w'.cell? ⟨w.heap.size,0,none⟩ = some (.bool na) ∧ w'.cell? ⟨w.heap.size,1,none⟩ = some (.slice A ds.length c) ∧ w'.cell? ⟨w.heap.size + 1,1,none⟩ = some (.slice B es.length d)) (go_keep)
    (first
     | (go_at_call 123;refine (r1_trimC B d es _ ((hs2.ext hE).ext hb3.drew) hc2 (by omega) hd2).mono ?_;rintro e wt ⟨rfl,rfl⟩)
     | (go_at_call 168;refine (r1_subDigits A B c d ds (digs (val es)) _ ((hs.ext hE).ext hb3.drew) hc (by omega) hd (((hs2.trimC hd2).ext hE).ext hb3.drew) HY.out (Dg_digs _) (by rw [val_digs];exact HG.out)).mono ?_;rintro e w1 ⟨v1,rfl,h1,hb1⟩;rw [val_digs] at h1;have s1 := cell_keep hb1 a1;have s2 := cell_keep hb1 a2;have s4 := cell_keep hb1 b2)
     | (go_at_call 87;refine (r1_Make' _ v1 _ _ _ h1 HL.out).mono ?_;rintro e w2 ⟨v2,rfl,h2,hb2⟩;obtain ⟨g2,A2,n2,c2,rfl,h2⟩ := h2.cases;have r1 := cell_keep hb2 s1;have r2 := cell_keep hb2 s2;have r4 := cell_keep hb2 s4;have B4 := ((B3.ext hb3.drew).ext hb1).ext hb2;obtain ⟨q1,q2,q3,q4⟩ := B4.facts2))
   go_wp2_with fail
   refine bodyPost_ret (v := .agg #[.bool g2,.slice A2 n2 c2]) (by simp [results,Tryz.results126,go_sem,q1,q2,q3,q4]) rfl (Ret.mk ?_ (((((hE.trans hb3.drew).trans hb1).trans hb2).setCell (by simp;omega) _).setCell (by simp;omega) _))
   rw [E.out]
   have hsz1 : W.heap.size ≤ w1.heap.size := Nat.le_trans hb3.size hb1.size
   exact ((h2.set (by simp;omega) _).set (by simp;omega) _).base (by omega)
  ·have hlt : val ds < val es := by omega
   replace hge : val ds ≤ val es := Nat.le_of_lt hlt
   have E := Lib.hid (sgn_sub nb na hqq2 (val es) (val ds) hge)
   have HG := Lib.hid hge
   have HY := Lib.hid (Nat.le_trans (length_digs_mono hge) (length_digs_val hd2))
   have HL : Hid ((digs (val es - val ds)).length ≤ 10000) := Nat.le_trans (length_digs_mono (Nat.sub_le _ _)) (Nat.le_trans (length_digs_val hd2) (by omega))
   rw [cmp3_lt hlt]
   clear hge hlt
   go_upto_region 5 with (fail)
   go_region_held3 (fun w' => w'.cell? ⟨w.heap.size + 1,0,none⟩ = some (.bool nb) ∧ w'.cell? ⟨w.heap.size + 1,1,none⟩ = some (.slice B es.length d) ∧ w'.cell? ⟨w.heap.size,1,none⟩ = some (.slice A ds.length c)) (go_keep)
    (first
     | (go_at_call 123;refine (r1_trimC A c ds _ ((hs.ext hE).ext hb3.drew) hc (by omega) hd).mono ?_;rintro e wt ⟨rfl,rfl⟩)
     | (go_at_call 168;refine (r1_subDigits B A d c es (digs (val ds)) _ ((hs2.ext hE).ext hb3.drew) hc2 (by omega) hd2 (((hs.trimC hd).ext hE).ext hb3.drew) HY.out (Dg_digs _) (by rw [val_digs];exact HG.out)).mono ?_;rintro e w1 ⟨v1,rfl,h1,hb1⟩;rw [val_digs] at h1;have s1 := cell_keep hb1 b1;have s2 := cell_keep hb1 b2;have s4 := cell_keep hb1 a2)
     | (go_at_call 87;refine (r1_Make' _ v1 _ _ _ h1 HL.out).mono ?_;rintro e w2 ⟨v2,rfl,h2,hb2⟩;obtain ⟨g2,A2,n2,c2,rfl,h2⟩ := h2.cases;have r1 := cell_keep hb2 s1;have r2 := cell_keep hb2 s2;have r4 := cell_keep hb2 s4;have B4 := ((B3.ext hb3.drew).ext hb1).ext hb2;obtain ⟨q1,q2,q3,q4⟩ := B4.facts2))
   go_wp2_with fail
   refine bodyPost_ret (v := .agg #[.bool g2,.slice A2 n2 c2]) (by simp [results,Tryz.results126,go_sem,q1,q2,q3,q4]) rfl (Ret.mk ?_ (((((hE.trans hb3.drew).trans hb1).trans hb2).setCell (by simp;omega) _).setCell (by simp;omega) _))
   rw [Int.add_comm,E.out]
   have hsz1 : W.heap.size ≤ w1.heap.size := Nat.le_trans hb3.size hb1.size
   exact ((h2.set (by simp;omega) _).set (by simp;omega) _).base (by omega)
theorem IntO.toV {w : World} {base : Nat} {v : Value} {z : Int} (h : IntO w base v z) (hl : (digs z.natAbs).length ≤ 1000) : IntV w v z := h.toC.toV hl

theorem r1_Sub (a b : Value) (x y : Int) (w : World) (ha : IntV w a x) (hb : IntV w b y) :
  Calls Tryz.prog 125 #[a,b] w (Ret w fun w' r => IntO w' w.heap.size r (x - y)) := by
 obtain ⟨na,A,c,ds,rfl,r1⟩ := id ha
 obtain ⟨nb,B,d,es,rfl,r2⟩ := id hb
 clear r1 r2
 have hl : Hid ((digs (-y).natAbs).length ≤ 1000) := by rw [Int.natAbs_neg];exact hb.length
 go_enter Tryz.func125,Tryz.ntmps125
 go_upto_region 1 with (fail)
 refine gen3 fun W hE hsz B1 B2 B3 => ?_
 obtain ⟨a1,a2,_⟩ := B1.facts2
 obtain ⟨b1,b2,_⟩ := B2.facts2
 have n1 : ¬ (w.heap.size = w.heap.size + 1 + 1) := by omega
 have n2 : ¬ (w.heap.size + 1 + 1 = w.heap.size) := by omega
 go_region_held3 (fun w' => w'.cell? ⟨w.heap.size,0,none⟩ = some (.bool na) ∧ w'.cell? ⟨w.heap.size,1,none⟩ = some (.slice A ds.length c) ∧ w'.cell? ⟨w.heap.size + 1,0,none⟩ = some (.bool nb) ∧ w'.cell? ⟨w.heap.size + 1,1,none⟩ = some (.slice B es.length d)) (go_keep)
  (first
   | (go_at_call 76;refine (r1_Negate _ y _ (hb.ext hE.drew)).mono ?_;rintro e w1 ⟨v1,rfl,h1,hb1⟩;obtain ⟨g1,A1,m1,c1,rfl,h1⟩ := h1.cases;have s1 := cell_keep hb1 a1;have s2 := cell_keep hb1 a2;have s3 := cell_keep hb1 b1;have s4 := cell_keep hb1 b2)
   | (go_at_call 126;refine (r1_Add _ _ x (-y) _ ((ha.ext hE.drew).ext hb1) (h1.toV hl.out)).mono ?_;rintro e w2 ⟨v2,rfl,h2,hb2⟩;obtain ⟨g2,A2,m2,c2,rfl,h2⟩ := h2.cases;have r1 := cell_keep hb2 s1;have r2 := cell_keep hb2 s2;have r3 := cell_keep hb2 s3;have r4 := cell_keep hb2 s4;have B4 := (B3.drew.ext hb1).ext hb2;obtain ⟨q1,q2,q3,q4⟩ := B4.facts2))
 go_wp2_with fail
 refine bodyPost_ret (v := .agg #[.bool g2,.slice A2 m2 c2]) (by simp [results,Tryz.results125,go_sem,q1,q2,q3,q4]) rfl (Ret.mk ?_ ((((hE.drew.trans hb1).trans hb2).setCell (by simp;omega) _).setCell (by simp;omega) _))
 rw [Int.sub_eq_add_neg]
 have hsz1 : W.heap.size ≤ w1.heap.size := hb1.size
 exact ((h2.set (by simp;omega) _).set (by simp;omega) _).base (by omega)

theorem size_alloc (w : World) (o : Obj) : (w.alloc o).heap.size = w.heap.size + 1 := by simp
theorem val_two (u : Nat) (h : u < 18446744073709551616) : val [u % 4294967296,u / 4294967296] = u ∧ Dg [u % 4294967296,u / 4294967296] := by
 refine ⟨by simp [val];omega,Dg.cons (by omega) (Dg.cons (by omega) Dg.nil)⟩

theorem r1_FromInt64 (n : Int) (w : World) (h1 : -9223372036854775808 ≤ n) (h2 : n ≤ 9223372036854775807) :
  Calls Tryz.prog 62 #[.int .i64 n] w (Ret w fun w' r => IntO w' w.heap.size r n) := by
 have fin : ∀ (neg : Bool) (u : Nat) (W : World),u < 18446744073709551616 → sgn neg u = n → Ext w W →
   Calls Tryz.prog 87 #[.bool neg,.slice (some ⟨W.heap.size,0,none⟩) 2 2] (W.alloc (Obj.cells #[.int .u32 ((u : Int) % 4294967296),.int .u32 ((u : Int) / 4294967296)] 121)) (Ret W fun w' r => IntO w' (W.heap.size + 1) r n) := by
  intro neg u W hu hn hE
  obtain ⟨hv,hd⟩ := val_two u hu
  have hB := Blk.new W 121 #[.int .u32 ((u : Int) % 4294967296),.int .u32 ((u : Int) / 4294967296)]
  have hs : Sl (W.alloc (Obj.cells #[.int .u32 ((u : Int) % 4294967296),.int .u32 ((u : Int) / 4294967296)] 121)) (some ⟨W.heap.size,0,none⟩) ([u % 4294967296,u / 4294967296].map U) := hB.sl (n := 2) (by simp [U])
  have h := r1_Make neg _ 2 [u % 4294967296,u / 4294967296] _ hs (by simp) (by simp) hd
  rw [hv,hn] at h
  refine h.mono ?_
  rintro e w1 ⟨v1,rfl,ho,hb1⟩
  exact ⟨v1,rfl,by simpa using ho,(Ext.new _ _).trans hb1⟩
 by_cases h0 : n < 0
 ·obtain ⟨u,hu⟩ : ∃ u : Nat,n = -(u : Int) := ⟨n.natAbs,by omega⟩
  have hu2 : u < 18446744073709551616 := by omega
  have hw : IntKind.u64.wrap (-IntKind.u64.wrap n) = (u : Int) := by
   rw [IntKind.wrap_u64,IntKind.wrap_u64];omega
  have F := Lib.hid (fin true u _ hu2 (by rw [hu];simp [sgn]) (Ext.new w (.cells #[.bool false,.slice none 0 0] 53)))
  clear fin hu
  go_enter Tryz.func62,Tryz.ntmps62
  go_wp2_with fail
  have F2 := F.out
  simp only [size_alloc] at F2
  refine F2.mono ?_
  rintro e w1 ⟨v1,rfl,ho,hb1⟩
  obtain ⟨g1,A1,n1,c1,rfl,ho⟩ := ho.cases
  obtain ⟨hcl,hfz⟩ := bcell hb1
  go_wp2_with fail
  refine bodyPost_ret (v := .agg #[.bool g1,.slice A1 n1 c1]) (by simp [results,Tryz.results62,go_sem,hcl,hfz]) rfl (Ret.mk ?_ ((((Ext.new _ _).trans hb1).setCell (by simp) _).setCell (by simp) _))
  exact ((ho.set (by simp;omega) _).set (by simp;omega) _).base (by omega)
 ·obtain ⟨u,rfl⟩ : ∃ u : Nat,n = (u : Int) := ⟨n.natAbs,by omega⟩
  have F := Lib.hid (fin false u _ (by omega) (by simp [sgn]) (Ext.new w (.cells #[.bool false,.slice none 0 0] 53)))
  clear fin
  go_enter Tryz.func62,Tryz.ntmps62
  go_wp2_with fail
  have F2 := F.out
  simp only [size_alloc] at F2
  refine F2.mono ?_
  rintro e w1 ⟨v1,rfl,ho,hb1⟩
  obtain ⟨g1,A1,n1,c1,rfl,ho⟩ := ho.cases
  obtain ⟨hcl,hfz⟩ := bcell hb1
  go_wp2_with fail
  refine bodyPost_ret (v := .agg #[.bool g1,.slice A1 n1 c1]) (by simp [results,Tryz.results62,go_sem,hcl,hfz]) rfl (Ret.mk ?_ ((((Ext.new _ _).trans hb1).setCell (by simp) _).setCell (by simp) _))
  exact ((ho.set (by simp;omega) _).set (by simp;omega) _).base (by omega)
end Go.Proofs.YtabmjadcoepbeaaGreat

/- Contracts of package pairingref1: GCD, DivMod. -/
namespace Go.Proofs.YtabmjadcoepbeaaGreat
open Go.RowKit

def GcdSt (w0 w : World) (x y q : Nat) (av bv : Value) : Prop :=
 ∃ p : Nat,DigR w 0 av (digs p) ∧ DigR w 0 bv (digs q) ∧ Nat.gcd p q = Nat.gcd x y ∧ (digs p).length ≤ 1000 ∧ (digs q).length ≤ 1000 ∧ Ext w0 w

theorem r1_GCD (a b : Value) (x y : Int) (w : World) (ha : IntV w a x) (hb : IntV w b y) :
  Calls Tryz.prog 84 #[a,b] w (Ret w fun w' r => IntO w' w.heap.size r (Int.gcd x y : Nat)) := by
 obtain ⟨na,A,c,ds,rfl,hc,hs,hd,hn,rfl⟩ := ha
 obtain ⟨nb,B,d,es,rfl,hc2,hs2,hd2,hn2,rfl⟩ := hb
 have hg : Int.gcd (sgn na (val ds)) (sgn nb (val es)) = Nat.gcd (val ds) (val es) := by
  show Nat.gcd _ _ = _
  rw [sgn_natAbs,sgn_natAbs]
 have HG := Lib.hid hg
 clear hg
 obtain ⟨i0,hi0,hz0,hz1,hz2⟩ := info_parts u32_info
 have l1 := length_digs_val hd
 have l2 := length_digs_val hd2
 go_enter Tryz.func84,Tryz.ntmps84
 go_upto_region 1 with (fail)
 refine gen3 fun W hE hsz B1 B2 B3 => ?_
 obtain ⟨a1,a2,_⟩ := B1.facts2
 obtain ⟨b1,b2,_⟩ := B2.facts2
 go_cut [5,6] (fun s5 s6 wx => GcdSt W wx (val ds) (val es) (val es) s5 s6)
 case first =>
  go_region_held3 (fun w' => w'.cell? ⟨w.heap.size,1,none⟩ = some (.slice A ds.length c) ∧ w'.cell? ⟨w.heap.size + 1,1,none⟩ = some (.slice B es.length d)) (go_keep)
   (first
    | (refine step_append_any _ rfl _ (.tmp 11) _ rfl W.heap.size 121 i0 _ 1 4 Tryz.underlying51 hi0 hz0 hz1 hz2 rfl (by omega) (.slice none 0 0) 0 [] rfl (ownsRow_nil _ _ _ _) A (digs (val ds)).length c ((digs (val ds)).map U) rfl (by simp) (((hs.trimC hd).ext hE).drew) oneCell_U (by simp only [maxLen];omega) (by omega) (by simp) ?_;intro v1 w1 hown1 hg1 hat1;have hb1 := Ext.grown_new hg1;have s2 := cell_keep hb1 a2;have s4 := cell_keep hb1 b2)
    | (refine step_append_any _ rfl _ (.tmp 15) _ rfl W.heap.size 121 i0 _ 1 4 Tryz.underlying51 hi0 hz0 hz1 hz2 rfl (by omega) (.slice none 0 0) 0 [] rfl (ownsRow_nil _ _ _ _) B (digs (val es)).length d ((digs (val es)).map U) rfl (by simp) ((((hs2.trimC hd2).ext hE).drew).ext hb1) oneCell_U (by simp only [maxLen];omega) (by omega) hb1.size ?_;intro v2 w2 hown2 hg2 hat2;have hb2 := Ext.grown_new hg2;have r2 := cell_keep hb2 s2;have r4 := cell_keep hb2 s4)
    | (go_at_call_of 123 (Value.slice A ds.length c);refine (r1_trimC A c ds _ ?_ hc (by omega) hd).mono ?_;exact (hs.ext hE).drew;rintro e wt ⟨rfl,rfl⟩)
    | (go_at_call_of 123 (Value.slice B es.length d);refine (r1_trimC B d es _ ?_ hc2 (by omega) hd2).mono ?_;exact ((hs2.ext hE).drew).ext hb1;rintro e wt ⟨rfl,rfl⟩))
  go_wp2_with fail
  go_meet
  simp only [Nat.zero_add,List.nil_append] at hown1 hown2
  exact ⟨val ds,((DigR.of_own hown1).ext hb2).base (Nat.zero_le _),(DigR.of_own hown2).base (Nat.zero_le _),rfl,by omega,by omega,((Ext.refl W).drew.trans hb1).trans hb2⟩
 case rest =>
  obtain ⟨p0,⟨A5,c5,rfl,r5⟩,⟨A6,c6,rfl,r6⟩,r7⟩ := hcut
  have hst : GcdSt W wc (val ds) (val es) (val es) (.slice A5 (digs p0).length c5) (.slice A6 (digs (val es)).length c6) := ⟨p0,⟨A5,c5,rfl,r5⟩,⟨A6,c6,rfl,r6⟩,r7⟩
  clear r5 r6 r7 hs hs2 hi0 hz0 hz1 hz2 a1 a2 b1 b2
  go_wp2_with fail
  go_loopg [5,6] (val es) (fun k av bv wr => GcdSt W wr (val ds) (val es) k av bv)
  case atStart => exact hst
  case round =>
   obtain ⟨p,hp,hq,hgcd,lp,lq,hb⟩ := hrel
   obtain ⟨A7,c7,rfl,hc7,hs7,hz7⟩ := hp
   obtain ⟨A8,c8,rfl,hc8,hs8,hz8⟩ := hq
   have HQ := Lib.hid hgcd
   have HZ7 := Lib.hid hz7
   have HZ8 := Lib.hid hz8
   clear hgcd hz8 hz7
   by_cases h0 : gk = 0
   ·subst h0
    rw [digs_zero] at *
    have e0 : ([] : List Nat).length = 0 := rfl
    go_wp2_with fail
    have hM := r1_Make' false (.slice A7 (digs p).length c7) 0 p wr ⟨A7,c7,rfl,hc7,hs7,HZ7.out⟩ (by omega)
    refine hM.mono ?_
    rintro e w1 ⟨v1,rfl,ho,hb1⟩
    obtain ⟨g1,A1,n1,c1,rfl,ho⟩ := ho.cases
    obtain ⟨q1,q2,q3,q4⟩ := ((B3.ext hb).ext hb1).facts2
    go_wp2_with fail
    refine bodyPost_ret (v := .agg #[.bool g1,.slice A1 n1 c1]) (by simp [results,Tryz.results84,go_sem,q1,q2,q3,q4]) rfl (Ret.mk ?_ (((((hE.trans hb).trans hb1).setCell (by simp;omega) _).setCell (by simp;omega) _)))
    have hg := HQ.out
    rw [Nat.gcd_zero_right] at hg
    rw [HG.out,← hg]
    have hsz1 : W.heap.size ≤ wr.heap.size := hb.size
    exact ((ho.set (by simp;omega) _).set (by simp;omega) _).base (by omega)
   ·have hl0 : 0 < (digs gk).length := by
     rcases Nat.eq_zero_or_pos (digs gk).length with h | h
     ·rw [List.length_eq_zero_iff,digs_nil] at h;omega
     ·exact h
    go_wp2_with fail
    refine (r1_divDigits A7 A8 c7 c8 (digs p) (digs gk) _ hs7 hc7 (by omega) (Dg_digs p) hs8 hc8 (by omega) (Dg_digs gk) (by rw [val_digs];exact h0)).mono ?_
    rintro e w1 ⟨qv,rv,rfl,⟨h1,h2⟩,hb1⟩
    rw [val_digs,val_digs] at h1 h2
    obtain ⟨A9,c9,rfl,hr2⟩ : ∃ A9 c9,rv = .slice A9 (digs (p % gk)).length c9 ∧ DigR w1 wr.heap.size rv (digs (p % gk)) := by obtain ⟨A9,c9,e,r⟩ := h2;exact ⟨A9,c9,e,⟨A9,c9,e,r⟩⟩
    obtain ⟨A10,c10,rfl,_⟩ := h1
    go_wp2_with fail
    go_roundg (p % gk)
    case measure => exact Nat.mod_lt _ (by omega)
    case rel =>
     refine ⟨gk,⟨A8,c8,rfl,hc8,hs8.ext hb1,fun a ha => ⟨Nat.zero_le _,Nat.lt_of_lt_of_le (HZ8.out a ha).2 hb1.size⟩⟩,hr2.base (Nat.zero_le _),?_,lq,?_,hb.trans hb1⟩
     ·rw [← HQ.out,Nat.gcd_comm p gk,Nat.gcd_rec gk p,Nat.gcd_comm]
     ·exact Nat.le_trans (length_digs_mono (Nat.le_of_lt (Nat.mod_lt _ (by omega)))) lq
end Go.Proofs.YtabmjadcoepbeaaGreat

/- Views: a view shows a part of the memory. Facts on data are said of the view; a function's own variables are hidden from it, so that writing them disturbs no fact. Laws for the walk over a list of the variables' blocks. No program. -/
namespace Go.Proofs.YtabmjadcoepbeaaGreat
open Go.RowKit

structure Vw (m w : World) : Prop where
 os : m.os = w.os
 tape : m.tape = w.tape
 output : m.output = w.output
 size : m.heap.size = w.heap.size
 cell : ∀ a u,m.cell? a = some u → w.cell? a = some u
structure Le (m m' : World) : Prop where
 size : m.heap.size ≤ m'.heap.size
 cell : ∀ a u,m.cell? a = some u → m'.cell? a = some u
theorem Vw.refl (w : World) : Vw w w := ⟨rfl,rfl,rfl,rfl,fun _ _ h => h⟩
theorem Vw.le {m w : World} (h : Vw m w) : Le m w := ⟨Nat.le_of_eq h.size,h.cell⟩
theorem Le.refl (w : World) : Le w w := ⟨Nat.le_refl _,fun _ _ h => h⟩
theorem Le.trans {a b c : World} (h : Le a b) (k : Le b c) : Le a c := ⟨Nat.le_trans h.size k.size,fun p u hp => k.cell p u (h.cell p u hp)⟩
theorem Ext.le {a b : World} (h : Ext a b) : Le a b := ⟨h.size,fun p u hp => (h.cell (p := p) (World.block_lt_of_cell? a _ hp)).trans hp⟩
theorem Sl.le {w w' : World} {A : Option Addr} {cs : List Value} (h : Sl w A cs) (hb : Le w w') : Sl w' A cs := fun hl => by
 obtain ⟨b,off,e,hlt,hc⟩ := h hl
 exact ⟨b,off,e,Nat.lt_of_lt_of_le hlt hb.size,fun j u hu => hb.cell _ _ (hc j u hu)⟩

abbrev Lo := Nat × TypeId × Array Value
structure Loc (w0 m0 W m : World) (Ls : List Lo) : Prop where
 size0 : m0.heap.size = w0.heap.size
 ext : Ext w0 W
 mext : Ext m0 m
 vw : Vw m W
 low : ∀ x ∈ Ls,w0.heap.size ≤ x.1
 blk : ∀ x ∈ Ls,Blk W x.1 x.2.1 x.2.2
 hid : ∀ x ∈ Ls,∀ a : Addr,a.block = x.1 → m.cell? a = none
 apart : Ls.Pairwise fun x y => x.1 ≠ y.1

theorem Loc.start {m w : World} (h : Vw m w) : Loc w m w m [] :=
 ⟨h.size,Ext.refl _,Ext.refl _,h,(fun _ h => by cases h),(fun _ h => by cases h),(fun _ h => by cases h),List.Pairwise.nil⟩

theorem cell_alloc_old {w : World} {o : Obj} {a : Addr} {u : Value} (h : w.cell? a = some u) : (w.alloc o).cell? a = some u := (Ext.new w o).le.cell _ _ h
theorem cell_alloc_iff {w : World} {cs : Array Value} {t : TypeId} {a : Addr} {u : Value} (h : (w.alloc (.cells cs t)).cell? a = some u) (hb : a.block ≠ w.heap.size) : w.cell? a = some u := by
 have hlt := World.block_lt_of_cell? _ _ h
 rw [size_alloc'] at hlt
 exact ((Ext.new w (.cells cs t)).cell (p := a) (by omega)).symm.trans h
 where size_alloc' : (w.alloc (.cells cs t)).heap.size = w.heap.size + 1 := by simp
theorem cell_hidden (w : World) (t : TypeId) (a : Addr) (hb : a.block = w.heap.size) : (w.alloc (.cells #[] t)).cell? a = none := by
 have h := Blk.new w t #[]
 unfold Blk at h
 obtain ⟨b,o,s⟩ := a
 simp only at hb
 subst hb
 unfold World.cell?
 rw [h]
 cases s <;> simp

theorem Loc.alloc {w0 m0 W m : World} {Ls : List Lo} (h : Loc w0 m0 W m Ls) (cs : Array Value) (t : TypeId) :
  Loc w0 m0 (W.alloc (.cells cs t)) (m.alloc (.cells #[] t)) ((W.heap.size,t,cs) :: Ls) := by
 have hs := h.vw.size
 refine ⟨h.size0,h.ext.alloc _,h.mext.alloc _,⟨h.vw.os,h.vw.tape,h.vw.output,by simp [hs],fun a u hu => ?_⟩,?_,?_,?_,?_⟩
 ·by_cases e : a.block = m.heap.size
  ·rw [cell_hidden m t a e] at hu;cases hu
  ·exact cell_alloc_old (h.vw.cell _ _ (cell_alloc_iff hu e))
 ·intro x hx
  rcases List.mem_cons.1 hx with rfl | hx
  ·exact h.ext.size
  ·exact h.low x hx
 ·intro x hx
  rcases List.mem_cons.1 hx with rfl | hx
  ·exact Blk.new W t cs
  ·exact (h.blk x hx).alloc _
 ·intro x hx a ha
  rcases List.mem_cons.1 hx with rfl | hx
  ·exact cell_hidden m t a (ha.trans hs.symm)
  ·cases hc : (m.alloc (.cells #[] t)).cell? a with
   | none => rfl
   | some u =>
    have := cell_alloc_iff hc (by rw [ha,hs];exact Nat.ne_of_lt (h.blk x hx).lt)
    rw [h.hid x hx a ha] at this;cases this
 ·refine List.Pairwise.cons (fun y hy => ?_) h.apart
  have := (h.blk y hy).lt
  simp only;omega

theorem Loc.call {w0 m0 W m W' m' : World} {Ls : List Lo} (h : Loc w0 m0 W m Ls) (hE : Ext W W') (hM : Ext m m') (hV : Vw m' W') : Loc w0 m0 W' m' Ls := by
 refine ⟨h.size0,h.ext.trans hE,h.mext.trans hM,hV,h.low,fun x hx => (h.blk x hx).ext hE,fun x hx a ha => ?_,h.apart⟩
 have hlt : a.block < m.heap.size := by rw [ha,h.vw.size];exact (h.blk x hx).lt
 rw [hM.cell (p := a) hlt]
 exact h.hid x hx a ha
theorem Loc.drew {w0 m0 W m : World} {Ls : List Lo} (h : Loc w0 m0 W m Ls) : Loc w0 m0 W.drew m Ls :=
 ⟨h.size0,h.ext.drew,h.mext,⟨h.vw.os,h.vw.tape,h.vw.output,h.vw.size,h.vw.cell⟩,h.low,h.blk,h.hid,h.apart⟩

theorem Loc.at_ {w0 m0 W m : World} {Ls : List Lo} (h : Loc w0 m0 W m Ls) {n g : Nat} {t : TypeId} {cs : Array Value} (hn : Ls[n]? = some (g,t,cs)) : Blk W g t cs :=
 h.blk (g,t,cs) (List.mem_of_getElem? hn)
theorem Loc.low_at {w0 m0 W m : World} {Ls : List Lo} (h : Loc w0 m0 W m Ls) {n g : Nat} {t : TypeId} {cs : Array Value} (hn : Ls[n]? = some (g,t,cs)) : w0.heap.size ≤ g :=
 h.low (g,t,cs) (List.mem_of_getElem? hn)

theorem Loc.ne {w0 m0 W m : World} {Ls : List Lo} (h : Loc w0 m0 W m Ls) {i j g g' : Nat} {t t' : TypeId} {cs cs' : Array Value} (hi : Ls[i]? = some (g,t,cs)) (hj : Ls[j]? = some (g',t',cs')) (hij : i < j) : g ≠ g' ∧ g' ≠ g := by
 have hpw := List.pairwise_iff_getElem.1 h.apart
 have h1 := (List.getElem?_eq_some_iff.1 hi)
 have h2 := (List.getElem?_eq_some_iff.1 hj)
 obtain ⟨l1,e1⟩ := h1
 obtain ⟨l2,e2⟩ := h2
 have := hpw i j l1 l2 hij
 rw [e1,e2] at this
 exact ⟨this,fun h => this h.symm⟩
def splice (cs : Array Value) : Nat → List Value → Array Value
 | _,[] => cs
 | o,v :: r => splice (cs.setIfInBounds o v) (o + 1) r
theorem splice_size (vs : List Value) : ∀ (o : Nat) (cs : Array Value),(splice cs o vs).size = cs.size := by
 induction vs with
 | nil => intro o cs;rfl
 | cons v vs ih => intro o cs;rw [splice,ih];simp
theorem Blk.setCells {g : Nat} {t : TypeId} : ∀ (vs : List Value) (o : Nat) (w : World) (cs : Array Value),Blk w g t cs → Blk (w.setCells g o vs) g t (splice cs o vs)
 | [],_,_,_,h => h
 | v :: r,o,w,cs,h => Blk.setCells r (o + 1) (w.setCell ⟨g,o,none⟩ v) _ (h.set_ o v)
theorem heap_setCells_other (g : Nat) : ∀ (vs : List Value) (o : Nat) (w : World) (k : Nat),k ≠ g → (w.setCells g o vs).heap[k]? = w.heap[k]?
 | [],_,_,_,_ => rfl
 | v :: r,o,w,k,h => (heap_setCells_other g r (o + 1) _ k h).trans (heap_setCell_other w ⟨g,o,none⟩ k v h)
theorem size_setCells (g : Nat) : ∀ (vs : List Value) (o : Nat) (w : World),(w.setCells g o vs).heap.size = w.heap.size
 | [],_,_ => rfl
 | v :: r,o,w => (size_setCells g r (o + 1) _).trans (by simp [World.setCell])
theorem same_setCells (g : Nat) : ∀ (vs : List Value) (o : Nat) (w : World),(w.setCells g o vs).os = w.os ∧ (w.setCells g o vs).tape = w.tape ∧ (w.setCells g o vs).output = w.output
 | [],_,_ => ⟨rfl,rfl,rfl⟩
 | v :: r,o,w => same_setCells g r (o + 1) (w.setCell ⟨g,o,none⟩ v)
theorem Ext.setCells {a : World} {g : Nat} : ∀ (vs : List Value) (o : Nat) (w : World),Ext a w → a.heap.size ≤ g → Ext a (w.setCells g o vs)
 | [],_,_,h,_ => h
 | v :: r,o,w,h,hg => Ext.setCells r (o + 1) _ (h.setCell (p := ⟨g,o,none⟩) hg v) hg
theorem cell_of_heap {w w' : World} {a : Addr} (h : w'.heap[a.block]? = w.heap[a.block]?) : w'.cell? a = w.cell? a := by simp [World.cell?,h]

theorem pairwise_set {α : Type} {R : α → α → Prop} : ∀ {l : List α} {n : Nat} {x y : α},l.Pairwise R → l[n]? = some x → (∀ z,R x z → R y z) → (∀ z,R z x → R z y) → (l.set n y).Pairwise R
 | [],_,_,_,_,h,_,_ => by simp at h
 | a :: l,0,x,y,h,hn,h1,h2 => by
  simp at hn;subst hn
  cases h with
  | cons ha hl => exact List.Pairwise.cons (fun z hz => h1 z (ha z hz)) hl
 | a :: l,n + 1,x,y,h,hn,h1,h2 => by
  simp at hn
  cases h with
  | cons ha hl =>
   refine List.Pairwise.cons (fun z hz => ?_) (pairwise_set hl hn h1 h2)
   rcases List.mem_or_eq_of_mem_set hz with hz | rfl
   ·exact ha z hz
   ·exact h2 a (ha x (List.mem_of_getElem? hn))

theorem Loc.store {w0 m0 W m : World} {Ls : List Lo} (h : Loc w0 m0 W m Ls) {n g : Nat} {t : TypeId} {cs : Array Value} (hn : Ls[n]? = some (g,t,cs)) (o : Nat) (vs : List Value) :
  Loc w0 m0 (W.setCells g o vs) m (Ls.set n (g,t,splice cs o vs)) := by
 have hb := h.at_ hn
 have hg := h.low_at hn
 have hm : (g,t,cs) ∈ Ls := List.mem_of_getElem? hn
 have hin : n < Ls.length := (List.getElem?_eq_some_iff.1 hn).1
 have old : ∀ x ∈ Ls.set n (g,t,splice cs o vs),x = (g,t,splice cs o vs) ∨ (x ∈ Ls ∧ x.1 ≠ g) := by
  intro x hx
  obtain ⟨k,hk⟩ := List.mem_iff_getElem?.1 hx
  by_cases e : n = k
  ·subst e
   rw [List.getElem?_set_self hin] at hk
   exact .inl (Option.some.inj hk).symm
  ·rw [List.getElem?_set_ne e] at hk
   refine .inr ⟨List.mem_of_getElem? hk,?_⟩
   have hpw := List.pairwise_iff_getElem.1 h.apart
   have hkl : k < Ls.length := (List.getElem?_eq_some_iff.1 hk).1
   have e1 : Ls[n] = (g,t,cs) := (List.getElem?_eq_some_iff.1 hn).2
   have e2 : Ls[k] = x := (List.getElem?_eq_some_iff.1 hk).2
   rcases Nat.lt_or_ge n k with hlt | hge
   ·have := hpw n k hin hkl hlt
    rw [e1,e2] at this
    exact fun h => this h.symm
   ·have := hpw k n hkl hin (by omega)
    rw [e1,e2] at this
    exact this
 refine ⟨h.size0,Ext.setCells _ _ _ h.ext hg,h.mext,⟨h.vw.os.trans (same_setCells g vs o W).1.symm,h.vw.tape.trans (same_setCells g vs o W).2.1.symm,h.vw.output.trans (same_setCells g vs o W).2.2.symm,by rw [size_setCells];exact h.vw.size,fun a u hu => ?_⟩,fun x hx => ?_,fun x hx => ?_,fun x hx a ha => ?_,?_⟩
 ·have hne : a.block ≠ g := fun e => by rw [h.hid _ hm a e] at hu;cases hu
  exact (cell_of_heap (heap_setCells_other g vs o W _ hne)).trans (h.vw.cell _ _ hu)
 ·rcases old x hx with rfl | ⟨hx,_⟩
  ·exact hg
  ·exact h.low x hx
 ·rcases old x hx with rfl | ⟨hx,hne⟩
  ·exact Blk.setCells vs o W cs hb
  ·exact (heap_setCells_other g vs o W _ hne).trans (h.blk x hx)
 ·rcases old x hx with rfl | ⟨hx,_⟩
  ·exact h.hid _ hm a ha
  ·exact h.hid x hx a ha
 ·exact pairwise_set h.apart hn (fun z hz => hz) (fun z hz => hz)

theorem lo0 {x : Lo} {l : List Lo} : (x :: l)[0]? = some x := rfl
theorem lo1 {a x : Lo} {l : List Lo} : (a :: x :: l)[1]? = some x := rfl
theorem lo2 {a b x : Lo} {l : List Lo} : (a :: b :: x :: l)[2]? = some x := rfl
theorem lo3 {a b c x : Lo} {l : List Lo} : (a :: b :: c :: x :: l)[3]? = some x := rfl
theorem lo4 {a b c d x : Lo} {l : List Lo} : (a :: b :: c :: d :: x :: l)[4]? = some x := rfl
theorem lo5 {a b c d e x : Lo} {l : List Lo} : (a :: b :: c :: d :: e :: x :: l)[5]? = some x := rfl
theorem lo6 {a b c d e f x : Lo} {l : List Lo} : (a :: b :: c :: d :: e :: f :: x :: l)[6]? = some x := rfl
theorem lo7 {a b c d e f g x : Lo} {l : List Lo} : (a :: b :: c :: d :: e :: f :: g :: x :: l)[7]? = some x := rfl
theorem lo8 {a b c d e f g h x : Lo} {l : List Lo} : (a :: b :: c :: d :: e :: f :: g :: h :: x :: l)[8]? = some x := rfl
theorem lo9 {a b c d e f g h i x : Lo} {l : List Lo} : (a :: b :: c :: d :: e :: f :: g :: h :: i :: x :: l)[9]? = some x := rfl
theorem lo10 {a b c d e f g h i j x : Lo} {l : List Lo} : (a :: b :: c :: d :: e :: f :: g :: h :: i :: j :: x :: l)[10]? = some x := rfl
theorem lo11 {a b c d e f g h i j k x : Lo} {l : List Lo} : (a :: b :: c :: d :: e :: f :: g :: h :: i :: j :: k :: x :: l)[11]? = some x := rfl

theorem at0 {x : Value} {l : List Value} : (List.toArray (x :: l))[0]? = some x := by simp
theorem at1 {a x : Value} {l : List Value} : (List.toArray (a :: x :: l))[1]? = some x := by simp
theorem at2 {a b x : Value} {l : List Value} : (List.toArray (a :: b :: x :: l))[2]? = some x := by simp
theorem at3 {a b c x : Value} {l : List Value} : (List.toArray (a :: b :: c :: x :: l))[3]? = some x := by simp
theorem at4 {a b c d x : Value} {l : List Value} : (List.toArray (a :: b :: c :: d :: x :: l))[4]? = some x := by simp
theorem at5 {a b c d e x : Value} {l : List Value} : (List.toArray (a :: b :: c :: d :: e :: x :: l))[5]? = some x := by simp
theorem at6 {a b c d e f x : Value} {l : List Value} : (List.toArray (a :: b :: c :: d :: e :: f :: x :: l))[6]? = some x := by simp
theorem at7 {a b c d e f g x : Value} {l : List Value} : (List.toArray (a :: b :: c :: d :: e :: f :: g :: x :: l))[7]? = some x := by simp
theorem at8 {a b c d e f g h x : Value} {l : List Value} : (List.toArray (a :: b :: c :: d :: e :: f :: g :: h :: x :: l))[8]? = some x := by simp
theorem at9 {a b c d e f g h i x : Value} {l : List Value} : (List.toArray (a :: b :: c :: d :: e :: f :: g :: h :: i :: x :: l))[9]? = some x := by simp
theorem at10 {a b c d e f g h i j x : Value} {l : List Value} : (List.toArray (a :: b :: c :: d :: e :: f :: g :: h :: i :: j :: x :: l))[10]? = some x := by simp
theorem at11 {a b c d e f g h i j k x : Value} {l : List Value} : (List.toArray (a :: b :: c :: d :: e :: f :: g :: h :: i :: j :: k :: x :: l))[11]? = some x := by simp

def zc (P : Program) (t : TypeId) : Option (Array Value) := (P.info? t).bind fun i => i.zero.map Value.cells
def agS (P : Program) (t : TypeId) : Option Nat :=
 match P.underlying t with
 | some (.struct _) | some (.array _ _) => (P.info? t).map (·.size)
 | _ => none
def lfB (P : Program) (t : TypeId) : Bool :=
 (match P.underlying t with | some (.struct _) | some (.array _ _) | none => false | _ => true) && ((P.info? t).map (·.size) == some 1)

section
variable {P : Program} {ops : Array Oper} {Q : Exit → Act → World → Prop} {rest : List Oper} {o : Oper} {a : Act} {w0 m0 W m : World} {Ls : List Lo}

theorem wpList_wanted (hw : Region.wanted o (yielded ops a.tmps) = true) (h : ∀ K : Act → World → Prop,(∀ a w,wpList P ops Q rest a w → K a w) → o.wp P a W K Q) : wpList P ops Q (o :: rest) a W := by
 unfold wpList
 rw [if_pos hw]
 exact .inl (h _ fun _ _ h => h)
theorem run_zero {t : TypeId} {cs : Array Value} (hz : zc P t = some cs) (w : World) : ∃ z,z.cells = cs ∧ (zeroValue t).run P w = .ok z w := by
 unfold zc at hz
 cases hi : P.info? t with
 | none => simp [hi] at hz
 | some i =>
  cases hzz : i.zero with
  | none => simp [hi,hzz] at hz
  | some z =>
   simp [hi,hzz] at hz
   exact ⟨z,hz,by simp [zeroValue,typeInfo,hi,hzz]⟩

theorem op_alloc {K : Act → World → Prop} {t : TypeId} (ho : o.op = .alloc t) {cs : Array Value} (hz : zc P t = some cs)
  (h : K (a.put o.dst (.pointer (some ⟨W.heap.size,0,none⟩))) (W.alloc (.cells cs t))) : o.wp P a W K Q := by
 obtain ⟨z,hzc,hrun⟩ := run_zero (P := P) hz W
 unfold Oper.wp execOp
 simp only [ho,Instr.alloc,Sem.run_bind,hrun,Result.andThen_ok,newVar,newRow,hzc]
 simpa [Oper.upon,go_sem] using h
theorem wl_alloc (hL : Loc w0 m0 W m Ls) (hw : Region.wanted o (yielded ops a.tmps) = true) {t : TypeId} (ho : o.op = .alloc t) {cs : Array Value} (hz : zc P t = some cs)
  (h : ∀ W' m',Loc w0 m0 W' m' ((W.heap.size,t,cs) :: Ls) → Ext m m' → wpList P ops Q rest (a.put o.dst (.pointer (some ⟨W.heap.size,0,none⟩))) W') :
  wpList P ops Q (o :: rest) a W :=
 wpList_wanted hw fun _ hK => op_alloc ho hz (hK _ _ (h _ _ (hL.alloc cs t) (Ext.new _ _)))

theorem op_box {K : Act → World → Prop} {t : TypeId} {x : Operand} (ho : o.op = .box t x)
  (h : K (a.put o.dst (.pointer (some ⟨W.heap.size,0,none⟩))) (W.alloc (.cells (a.eval x).cells t))) : o.wp P a W K Q := by
 unfold Oper.wp execOp
 simp only [ho,Instr.box,newVar,newRow]
 simpa [Oper.upon,go_sem] using h
theorem wl_boxA (hL : Loc w0 m0 W m Ls) (hw : Region.wanted o (yielded ops a.tmps) = true) {t : TypeId} {x : Operand} (ho : o.op = .box t x) {cs : Array Value} (hx : a.eval x = .agg cs)
  (h : ∀ W' m',Loc w0 m0 W' m' ((W.heap.size,t,cs) :: Ls) → Ext m m' → wpList P ops Q rest (a.put o.dst (.pointer (some ⟨W.heap.size,0,none⟩))) W') :
  wpList P ops Q (o :: rest) a W :=
 wpList_wanted hw fun _ hK => op_box ho (by rw [hx];exact hK _ _ (h _ _ (hL.alloc cs t) (Ext.new _ _)))

theorem ag_desc {t : TypeId} {k : Nat} (h : agS P t = some k) : ∃ d,P.underlying t = some d ∧ d.isRow = true ∧ (P.info? t).map (·.size) = some k := by
 unfold agS at h
 split at h
 ·rename_i fs e;exact ⟨_,e,rfl,h⟩
 ·rename_i n s e;exact ⟨_,e,rfl,h⟩
 ·cases h

theorem op_load {K : Act → World → Prop} {ty : TypeId} {x : Operand} (ho : o.op = .load ty x) {g off : Nat} (hx : a.eval x = .pointer (some ⟨g,off,none⟩)) {vs : List Value}
  (hty : agS P ty = some vs.length) (hr : W.rangeAt g off vs) (h : K (a.put o.dst (.agg vs.toArray)) W) : o.wp P a W K Q := by
 obtain ⟨d,hu,hd,hi⟩ := ag_desc hty
 exact wp_load_mid ty x ho g off hx vs d hr hu hd hi h
theorem op_load1 {K : Act → World → Prop} {ty : TypeId} {x : Operand} (ho : o.op = .load ty x) {g off : Nat} (hx : a.eval x = .pointer (some ⟨g,off,none⟩)) {v : Value}
  (hty : lfB P ty = true) (hv : W.cell? ⟨g,off,none⟩ = some v) (h : K (a.put o.dst v) W) : o.wp P a W K Q := by
 have hagg : (isAgg ty).run P W = .ok false W := by
  unfold lfB at hty
  unfold isAgg
  cases hu : P.underlying ty with
  | none => simp [hu] at hty
  | some d =>
   rw [Sem.run_bind,run_underlying hu W]
   cases d <;> simp_all
 unfold Oper.wp execOp
 simp only [ho,hx,Instr.loadAt,Instr.sureAddr,Sem.run_bind,Sem.run_pure,Result.andThen_ok,loadVar,hagg]
 simpa [Oper.upon,go_sem,hv] using h

theorem Blk.range2 {w : World} {g off : Nat} {t : TypeId} {cs : Array Value} (h : Blk w g t cs) {v0 v1 : Value} (h0 : cs[off]? = some v0) (h1 : cs[off + 1]? = some v1) : w.rangeAt g off [v0,v1] := by
 intro j v hv
 rw [h.cell]
 match j,hv with
 | 0,hv => simp at hv;subst hv;exact h0
 | 1,hv => simp at hv;subst hv;exact h1
theorem Blk.rangeAll {w : World} {g : Nat} {t : TypeId} {cs : List Value} (h : Blk w g t cs.toArray) : w.rangeAt g 0 cs := by
 intro j v hv
 rw [h.cell,Nat.zero_add]
 simpa using hv

theorem wl_load2 (hL : Loc w0 m0 W m Ls) (hw : Region.wanted o (yielded ops a.tmps) = true) {ty : TypeId} {x : Operand} (ho : o.op = .load ty x) {g off : Nat} (hx : a.eval x = .pointer (some ⟨g,off,none⟩))
  (hty : agS P ty = some 2) {n : Nat} {t : TypeId} {cs : Array Value} (hn : Ls[n]? = some (g,t,cs)) {v0 v1 : Value} (h0 : cs[off]? = some v0) (h1 : cs[off + 1]? = some v1)
  (h : wpList P ops Q rest (a.put o.dst (.agg #[v0,v1])) W) : wpList P ops Q (o :: rest) a W :=
 wpList_wanted hw fun _ hK => op_load ho hx (vs := [v0,v1]) hty ((hL.at_ hn).range2 h0 h1) (hK _ _ h)
theorem wl_loadW (hL : Loc w0 m0 W m Ls) (hw : Region.wanted o (yielded ops a.tmps) = true) {ty : TypeId} {x : Operand} (ho : o.op = .load ty x) {g : Nat} (hx : a.eval x = .pointer (some ⟨g,0,none⟩))
  {n : Nat} {t : TypeId} {cs : List Value} (hn : Ls[n]? = some (g,t,cs.toArray)) {k : Nat} (hty : agS P ty = some k) (hk : cs.length = k)
  (h : wpList P ops Q rest (a.put o.dst (.agg cs.toArray)) W) : wpList P ops Q (o :: rest) a W :=
 wpList_wanted hw fun _ hK => op_load ho hx (vs := cs) (hk ▸ hty) (Blk.rangeAll (hL.at_ hn)) (hK _ _ h)
theorem wl_load1 (hL : Loc w0 m0 W m Ls) (hw : Region.wanted o (yielded ops a.tmps) = true) {ty : TypeId} {x : Operand} (ho : o.op = .load ty x) {g off : Nat} (hx : a.eval x = .pointer (some ⟨g,off,none⟩))
  (hty : lfB P ty = true) {n : Nat} {t : TypeId} {cs : Array Value} (hn : Ls[n]? = some (g,t,cs)) {v : Value} (hv : cs[off]? = some v)
  (h : wpList P ops Q rest (a.put o.dst v) W) : wpList P ops Q (o :: rest) a W :=
 wpList_wanted hw fun _ hK => op_load1 ho hx hty (((hL.at_ hn).cell off).trans hv) (hK _ _ h)

theorem op_store {K : Act → World → Prop} {ty : TypeId} {x y : Operand} (ho : o.op = .store ty x y) {g off : Nat} (hx : a.eval x = .pointer (some ⟨g,off,none⟩)) {vs : List Value}
  (hy : a.eval y = .agg vs.toArray) (hty : agS P ty = some vs.length) {t : TypeId} {cs : Array Value} (hb : Blk W g t cs) (hfit : off + vs.length ≤ cs.size) (h1 : vs.all (·.oneCell') = true)
  (h : K (a.put o.dst undef) (W.setCells g off vs)) : o.wp P a W K Q := by
 obtain ⟨d,hu,hd,hi⟩ := ag_desc hty
 refine wp_store_mid ty x y ho g off vs.toArray hx hy (fun j hj => ⟨?_,hb.frozen _⟩) (by simpa using hi) (by simpa using h1) h
 rw [hb.cell]
 simp at hj
 simp;omega
theorem wl_store (hL : Loc w0 m0 W m Ls) (hw : Region.wanted o (yielded ops a.tmps) = true) {ty : TypeId} {x y : Operand} (ho : o.op = .store ty x y) {g off : Nat} (hx : a.eval x = .pointer (some ⟨g,off,none⟩)) {vs : List Value}
  (hy : a.eval y = .agg vs.toArray) {k : Nat} (hty : agS P ty = some k) (hk : vs.length = k) {n : Nat} {t : TypeId} {cs : Array Value} (hn : Ls[n]? = some (g,t,cs)) (hfit : off + vs.length ≤ cs.size) (h1 : vs.all (·.oneCell') = true)
  (h : ∀ W',Loc w0 m0 W' m (Ls.set n (g,t,splice cs off vs)) → wpList P ops Q rest (a.put o.dst undef) W') : wpList P ops Q (o :: rest) a W :=
 wpList_wanted hw fun _ hK => op_store ho hx hy (hk ▸ hty) (hL.at_ hn) hfit h1 (hK _ _ (h _ (hL.store hn off vs)))

theorem op_store1 {K : Act → World → Prop} {ty : TypeId} {x y : Operand} (ho : o.op = .store ty x y) {g off : Nat} (hx : a.eval x = .pointer (some ⟨g,off,none⟩)) {v : Value}
  (hy : a.eval y = v) (hty : lfB P ty = true) {t : TypeId} {cs : Array Value} (hb : Blk W g t cs) (hfit : off < cs.size) (h1 : v.oneCell' = true) (hc : v.cells = #[v])
  (h : K (a.put o.dst undef) (W.setCells g off [v])) : o.wp P a W K Q := by
 have hsz : (sizeOf ty).run P W = .ok 1 W := by
  unfold lfB at hty
  cases hi : P.info? ty with
  | none => simp [hi] at hty
  | some i =>
   have : i.size = 1 := by simp [hi] at hty;exact hty.2
   simp [sizeOf,typeInfo,hi,this]
 have hst : (store ⟨g,off,none⟩ v).run P W = .ok () (W.setCell ⟨g,off,none⟩ v) := by
  rw [run_store P W _ v _ h1]
  have h2 := hb.cell off
  have h3 := hb.frozen off
  simp [stored,h3,h2,hfit]
 unfold Oper.wp execOp
 simp only [ho,hx,hy,Instr.storeAt,Instr.sureAddr,Sem.run_bind,Sem.run_pure,Result.andThen_ok,storeVar,hsz,hc]
 simp only [storeCells,Addr.add_mid,Nat.add_zero,Sem.run_bind,hst,Result.andThen_ok]
 simpa [Oper.upon,go_sem,hst,World.setCells] using h
theorem wl_store1 (hL : Loc w0 m0 W m Ls) (hw : Region.wanted o (yielded ops a.tmps) = true) {ty : TypeId} {x y : Operand} (ho : o.op = .store ty x y) {g off : Nat} (hx : a.eval x = .pointer (some ⟨g,off,none⟩)) {v : Value}
  (hy : a.eval y = v) (hty : lfB P ty = true) {n : Nat} {t : TypeId} {cs : Array Value} (hn : Ls[n]? = some (g,t,cs)) (hfit : off < cs.size) (h1 : v.oneCell' = true) (hc : v.cells = #[v])
  (h : ∀ W',Loc w0 m0 W' m (Ls.set n (g,t,splice cs off [v])) → wpList P ops Q rest (a.put o.dst undef) W') : wpList P ops Q (o :: rest) a W :=
 wpList_wanted hw fun _ hK => op_store1 ho hx hy hty (hL.at_ hn) hfit h1 hc (hK _ _ (h _ (hL.store hn off [v])))
end

def fldS (P : Program) (t : TypeId) (k : Nat) : Option (TypeId × Nat) :=
 match P.underlying t with
 | some (.struct fs) => (fs[k]?).map fun f => (f.type,f.offset)
 | _ => none
section
variable {P : Program} {ops : Array Oper} {Q : Exit → Act → World → Prop} {rest : List Oper} {o : Oper} {a : Act} {W : World}
theorem extract2 {cs : Array Value} {off : Nat} {v0 v1 : Value} (h0 : cs[off]? = some v0) (h1 : cs[off + 1]? = some v1) : cs.extract off (off + 2) = #[v0,v1] := by
 have l1 : off + 1 < cs.size := (Array.getElem?_eq_some_iff.1 h1).1
 apply Array.ext_getElem?
 intro i
 rw [Array.getElem?_extract]
 match i with
 | 0 => simp [h0];omega
 | 1 => simp [h1];omega
 | i + 2 =>
  have : ¬ (i + 2 < min (off + 2) cs.size - off) := by omega
  simp [this]
theorem run_fields {t : TypeId} {k : Nat} {ft : TypeId} {off : Nat} (hf : fldS P t k = some (ft,off)) (cs : Array Value) (w : World) : (Instr.field t (.agg cs) k).run P w = (part ft cs off).run P w := by
 unfold fldS at hf
 split at hf
 ·rename_i fs hu
  cases hk : fs[k]? with
  | none => simp [hk] at hf
  | some f =>
   simp [hk] at hf
   obtain ⟨rfl,rfl⟩ := hf
   unfold Instr.field
   rw [Sem.run_bind,run_underlying hu w]
   simp [hk,asAgg]
 ·cases hf
theorem run_part2 {ft : TypeId} {off : Nat} {cs : Array Value} {v0 v1 : Value} (hty : agS P ft = some 2) (h0 : cs[off]? = some v0) (h1 : cs[off + 1]? = some v1) (w : World) : (part ft cs off).run P w = .ok (.agg #[v0,v1]) w := by
 obtain ⟨d,hu,hd,hi⟩ := ag_desc hty
 cases hq : P.info? ft with
 | none => simp [hq] at hi
 | some i =>
  have hs : i.size = 2 := by simpa [hq] using hi
  have hagg : (isAgg ft).run P w = .ok true w := by
   unfold isAgg
   rw [Sem.run_bind,run_underlying hu w]
   cases d <;> simp_all [TypeDesc.isRow]
  simp [part,Sem.run_bind,hagg,sizeOf,typeInfo,hq,hs,extract2 h0 h1]
theorem run_part1 {ft : TypeId} {off : Nat} {cs : Array Value} {v : Value} (hty : lfB P ft = true) (h0 : cs[off]? = some v) (w : World) : (part ft cs off).run P w = .ok v w := by
 have hagg : (isAgg ft).run P w = .ok false w := by
  unfold lfB at hty
  unfold isAgg
  cases hu : P.underlying ft with
  | none => simp [hu] at hty
  | some d =>
   rw [Sem.run_bind,run_underlying hu w]
   cases d <;> simp_all
 simp [part,Sem.run_bind,hagg,h0]
theorem wl_field2 (hw : Region.wanted o (yielded ops a.tmps) = true) {t : TypeId} {x : Operand} {k : Nat} (ho : o.op = .field t x k) {cs : Array Value} (hx : a.eval x = .agg cs) {ft : TypeId} {off : Nat} (hf : fldS P t k = some (ft,off))
  (hty : agS P ft = some 2) {v0 v1 : Value} (h0 : cs[off]? = some v0) (h1 : cs[off + 1]? = some v1) (h : wpList P ops Q rest (a.put o.dst (.agg #[v0,v1])) W) : wpList P ops Q (o :: rest) a W :=
 wpList_wanted hw fun _ hK => by
  unfold Oper.wp execOp
  simp only [ho,hx,Sem.run_bind,run_fields hf,run_part2 hty h0 h1,Result.andThen_ok,Sem.run_pure]
  exact hK _ _ h
theorem wl_field1 (hw : Region.wanted o (yielded ops a.tmps) = true) {t : TypeId} {x : Operand} {k : Nat} (ho : o.op = .field t x k) {cs : Array Value} (hx : a.eval x = .agg cs) {ft : TypeId} {off : Nat} (hf : fldS P t k = some (ft,off))
  (hty : lfB P ft = true) {v : Value} (h0 : cs[off]? = some v) (h : wpList P ops Q rest (a.put o.dst v) W) : wpList P ops Q (o :: rest) a W :=
 wpList_wanted hw fun _ hK => by
  unfold Oper.wp execOp
  simp only [ho,hx,Sem.run_bind,run_fields hf,run_part1 hty h0,Result.andThen_ok,Sem.run_pure]
  exact hK _ _ h
end

def RetV (w m : World) (R : World → Value → Prop) (e : Ending) (w' : World) : Prop :=
 ∃ v m',e = .returned v ∧ Ext w w' ∧ Ext m m' ∧ Vw m' w' ∧ R m' v
theorem RetV.mk {w m W m' : World} {R : World → Value → Prop} {v : Value} {Ls : List Lo} (hL : Loc w m W m' Ls) (h : R m' v) : RetV w m R (.returned v) W := ⟨v,m',rfl,hL.ext,hL.mext,hL.vw,h⟩

noncomputable def joined (m w' : World) : World := { w' with heap := Array.ofFn fun k : Fin w'.heap.size => if h : k.1 < m.heap.size then m.heap[k.1] else w'.heap[k.1] }
theorem joined_size (m w' : World) : (joined m w').heap.size = w'.heap.size := by simp [joined]
theorem joined_old (m w' : World) {k : Nat} (h : k < m.heap.size) (hs : m.heap.size ≤ w'.heap.size) : (joined m w').heap[k]? = m.heap[k]? := by
 have : k < w'.heap.size := by omega
 simp [joined,Array.getElem?_ofFn,this,h]
theorem joined_new (m w' : World) {k : Nat} (h : m.heap.size ≤ k) : (joined m w').heap[k]? = w'.heap[k]? := by
 by_cases hk : k < w'.heap.size
 ·simp [joined,Array.getElem?_ofFn,hk,Nat.not_lt.2 h]
 ·simp [joined,Array.getElem?_ofFn,hk,Array.getElem?_eq_none (Nat.le_of_not_lt hk)]
theorem joined_cell_new (m w' : World) {a : Addr} (h : m.heap.size ≤ a.block) : (joined m w').cell? a = w'.cell? a := cell_of_heap (joined_new m w' h)
theorem joined_cell_old (m w' : World) {a : Addr} (h : a.block < m.heap.size) (hs : m.heap.size ≤ w'.heap.size) : (joined m w').cell? a = m.cell? a := cell_of_heap (joined_old m w' h hs)
theorem joined_spec {m w w' : World} (hV : Vw m w) (hE : Ext w w') : Ext m (joined m w') ∧ Vw (joined m w') w' := by
 have hs : m.heap.size ≤ w'.heap.size := by rw [hV.size];exact hE.size
 refine ⟨⟨hE.os.trans hV.os.symm,hE.tape.trans hV.tape.symm,hE.output.trans hV.output.symm,by rw [joined_size];exact hs,fun k hk => joined_old m w' hk hs⟩,⟨rfl,rfl,rfl,joined_size m w',fun a u hu => ?_⟩⟩
 rcases Nat.lt_or_ge a.block m.heap.size with h | h
 ·rw [joined_cell_old m w' h hs] at hu
  exact hE.le.cell _ _ (hV.cell _ _ hu)
 ·rw [joined_cell_new m w' h] at hu;exact hu
theorem RetV.of {w m : World} {R : World → Value → Prop} {R0 : World → Value → Prop} (hV : Vw m w) (hR : ∀ w' v,Ext w w' → R0 w' v → R (joined m w') v) {e : Ending} {w' : World}
  (h : ∃ v,e = .returned v ∧ R0 w' v ∧ Ext w w') : RetV w m R e w' := by
 obtain ⟨v,rfl,h1,h2⟩ := h
 exact ⟨v,_,rfl,h2,(joined_spec hV h2).1,(joined_spec hV h2).2,hR w' v h2 h1⟩
theorem wanted_none {ops : Array Oper} {o : Oper} {tmps : Array Value} (h : o.guard = none) : Region.wanted o (yielded ops tmps) = true := by simp [Region.wanted,h]
theorem wanted_some {ops : Array Oper} {o p : Oper} {tmps : Array Value} {j d : Nat} {b : Bool} (h : o.guard = some (j,b)) (hp : ops[j]? = some p) (hd : p.dst = some d) (hv : tmps[d]? = some (.bool b)) : Region.wanted o (yielded ops tmps) = true := by
 simp [Region.wanted,h,yielded,hp,hd,hv]
class AgC (P : Program) (t : TypeId) (k : outParam Nat) : Prop where
 h : agS P t = some k
class LfC (P : Program) (t : TypeId) : Prop where
 h : lfB P t = true
class ZcC (P : Program) (t : TypeId) (cs : outParam (Array Value)) : Prop where
 h : zc P t = some cs
class FlC (P : Program) (t : TypeId) (k : Nat) (ft : outParam TypeId) (off : outParam Nat) : Prop where
 h : fldS P t k = some (ft,off)
section
variable {P : Program} {ops : Array Oper} {Q : Exit → Act → World → Prop} {rest : List Oper} {o : Oper} {a : Act} {w0 m0 W m : World} {Ls : List Lo}
theorem t_box (hL : Loc w0 m0 W m Ls) {t : TypeId} {x : Operand} (ho : o.op = .box t x) {cs : Array Value} (hx : a.eval x = .agg cs)
  (h : ∀ W' m',Loc w0 m0 W' m' ((W.heap.size,t,cs) :: Ls) → Ext m m' → wpList P ops Q rest (a.put o.dst (.pointer (some ⟨W.heap.size,0,none⟩))) W')
  (hw : Region.wanted o (yielded ops a.tmps) = true := by first | exact wanted_none rfl | exact wanted_some rfl rfl rfl rfl) :
  wpList P ops Q (o :: rest) a W := wl_boxA hL hw ho hx h
theorem t_alloc (hL : Loc w0 m0 W m Ls) {t : TypeId} (ho : o.op = .alloc t) {cs : Array Value} [hz : ZcC P t cs]
  (h : ∀ W' m',Loc w0 m0 W' m' ((W.heap.size,t,cs) :: Ls) → Ext m m' → wpList P ops Q rest (a.put o.dst (.pointer (some ⟨W.heap.size,0,none⟩))) W')
  (hw : Region.wanted o (yielded ops a.tmps) = true := by first | exact wanted_none rfl | exact wanted_some rfl rfl rfl rfl) :
  wpList P ops Q (o :: rest) a W := wl_alloc hL hw ho hz.h h
theorem t_load2 (hL : Loc w0 m0 W m Ls) {ty : TypeId} {x : Operand} (ho : o.op = .load ty x) {g off : Nat} (hx : a.eval x = .pointer (some ⟨g,off,none⟩)) [hty : AgC P ty 2] {n : Nat} {t : TypeId} {cs : Array Value} {v0 v1 : Value}
  (h : wpList P ops Q rest (a.put o.dst (.agg #[v0,v1])) W)
  (hn : Ls[n]? = some (g,t,cs) ∧ cs[off]? = some v0 ∧ cs[off + 1]? = some v1 := by refine ⟨?_,?_,?_⟩;(first | with_reducible exact lo0 | with_reducible exact lo1 | with_reducible exact lo2 | with_reducible exact lo3 | with_reducible exact lo4 | with_reducible exact lo5 | with_reducible exact lo6 | with_reducible exact lo7 | with_reducible exact lo8 | with_reducible exact lo9 | with_reducible exact lo10 | with_reducible exact lo11);(first | with_reducible exact at0 | with_reducible exact at1 | with_reducible exact at2 | with_reducible exact at3 | with_reducible exact at4 | with_reducible exact at5 | with_reducible exact at6 | with_reducible exact at7 | with_reducible exact at8 | with_reducible exact at9 | with_reducible exact at10 | with_reducible exact at11);(first | with_reducible exact at0 | with_reducible exact at1 | with_reducible exact at2 | with_reducible exact at3 | with_reducible exact at4 | with_reducible exact at5 | with_reducible exact at6 | with_reducible exact at7 | with_reducible exact at8 | with_reducible exact at9 | with_reducible exact at10 | with_reducible exact at11))
  (hw : Region.wanted o (yielded ops a.tmps) = true := by first | exact wanted_none rfl | exact wanted_some rfl rfl rfl rfl) :
  wpList P ops Q (o :: rest) a W := wl_load2 hL hw ho hx hty.h hn.1 hn.2.1 hn.2.2 h
theorem t_loadW (hL : Loc w0 m0 W m Ls) {ty : TypeId} {x : Operand} (ho : o.op = .load ty x) {g : Nat} (hx : a.eval x = .pointer (some ⟨g,0,none⟩)) {n : Nat} {t : TypeId} {cs : List Value} {k : Nat} [hty : AgC P ty k]
  (h : wpList P ops Q rest (a.put o.dst (.agg cs.toArray)) W)
  (hn : Ls[n]? = some (g,t,cs.toArray) ∧ cs.length = k := by refine ⟨?_,?_⟩;(first | with_reducible exact lo0 | with_reducible exact lo1 | with_reducible exact lo2 | with_reducible exact lo3 | with_reducible exact lo4 | with_reducible exact lo5 | with_reducible exact lo6 | with_reducible exact lo7 | with_reducible exact lo8 | with_reducible exact lo9 | with_reducible exact lo10 | with_reducible exact lo11);exact rfl)
  (hw : Region.wanted o (yielded ops a.tmps) = true := by first | exact wanted_none rfl | exact wanted_some rfl rfl rfl rfl) :
  wpList P ops Q (o :: rest) a W := wl_loadW hL hw ho hx hn.1 hty.h hn.2 h
theorem t_load1 (hL : Loc w0 m0 W m Ls) {ty : TypeId} {x : Operand} (ho : o.op = .load ty x) {g off : Nat} (hx : a.eval x = .pointer (some ⟨g,off,none⟩)) [hty : LfC P ty] {n : Nat} {t : TypeId} {cs : Array Value} {v : Value}
  (h : wpList P ops Q rest (a.put o.dst v) W)
  (hn : Ls[n]? = some (g,t,cs) ∧ cs[off]? = some v := by refine ⟨?_,?_⟩;(first | with_reducible exact lo0 | with_reducible exact lo1 | with_reducible exact lo2 | with_reducible exact lo3 | with_reducible exact lo4 | with_reducible exact lo5 | with_reducible exact lo6 | with_reducible exact lo7 | with_reducible exact lo8 | with_reducible exact lo9 | with_reducible exact lo10 | with_reducible exact lo11);(first | with_reducible exact at0 | with_reducible exact at1 | with_reducible exact at2 | with_reducible exact at3 | with_reducible exact at4 | with_reducible exact at5 | with_reducible exact at6 | with_reducible exact at7 | with_reducible exact at8 | with_reducible exact at9 | with_reducible exact at10 | with_reducible exact at11))
  (hw : Region.wanted o (yielded ops a.tmps) = true := by first | exact wanted_none rfl | exact wanted_some rfl rfl rfl rfl) :
  wpList P ops Q (o :: rest) a W := wl_load1 hL hw ho hx hty.h hn.1 hn.2 h
theorem t_store (hL : Loc w0 m0 W m Ls) {ty : TypeId} {x y : Operand} (ho : o.op = .store ty x y) {g off : Nat} (hx : a.eval x = .pointer (some ⟨g,off,none⟩)) {vs : List Value} (hy : a.eval y = .agg vs.toArray) {k : Nat} [hty : AgC P ty k] {n : Nat} {t : TypeId} {cs : Array Value}
  (h : ∀ W',Loc w0 m0 W' m (Ls.set n (g,t,splice cs off vs)) → wpList P ops Q rest (a.put o.dst undef) W')
  (hn : Ls[n]? = some (g,t,cs) ∧ vs.length = k ∧ off + vs.length ≤ cs.size ∧ vs.all (·.oneCell') = true := by refine ⟨?_,?_,?_,?_⟩;(first | with_reducible exact lo0 | with_reducible exact lo1 | with_reducible exact lo2 | with_reducible exact lo3 | with_reducible exact lo4 | with_reducible exact lo5 | with_reducible exact lo6 | with_reducible exact lo7 | with_reducible exact lo8 | with_reducible exact lo9 | with_reducible exact lo10 | with_reducible exact lo11);exact rfl;exact Nat.le_of_ble_eq_true rfl;exact rfl)
  (hw : Region.wanted o (yielded ops a.tmps) = true := by first | exact wanted_none rfl | exact wanted_some rfl rfl rfl rfl) :
  wpList P ops Q (o :: rest) a W := wl_store hL hw ho hx hy hty.h hn.2.1 hn.1 hn.2.2.1 hn.2.2.2 h
theorem t_store1 (hL : Loc w0 m0 W m Ls) {ty : TypeId} {x y : Operand} (ho : o.op = .store ty x y) {g off : Nat} (hx : a.eval x = .pointer (some ⟨g,off,none⟩)) {v : Value} (hy : a.eval y = v) [hty : LfC P ty] {n : Nat} {t : TypeId} {cs : Array Value}
  (h : ∀ W',Loc w0 m0 W' m (Ls.set n (g,t,splice cs off [v])) → wpList P ops Q rest (a.put o.dst undef) W')
  (hn : Ls[n]? = some (g,t,cs) ∧ off < cs.size ∧ v.oneCell' = true ∧ v.cells = #[v] := by refine ⟨?_,?_,?_,?_⟩;(first | with_reducible exact lo0 | with_reducible exact lo1 | with_reducible exact lo2 | with_reducible exact lo3 | with_reducible exact lo4 | with_reducible exact lo5 | with_reducible exact lo6 | with_reducible exact lo7 | with_reducible exact lo8 | with_reducible exact lo9 | with_reducible exact lo10 | with_reducible exact lo11);exact Nat.le_of_ble_eq_true rfl;exact rfl;exact rfl)
  (hw : Region.wanted o (yielded ops a.tmps) = true := by first | exact wanted_none rfl | exact wanted_some rfl rfl rfl rfl) :
  wpList P ops Q (o :: rest) a W := wl_store1 hL hw ho hx hy hty.h hn.1 hn.2.1 hn.2.2.1 hn.2.2.2 h
theorem t_sts (hL : Loc w0 m0 W m Ls) {ty : TypeId} {x y : Operand} (ho : o.op = .store ty x y) {g off : Nat} (hx : a.eval x = .pointer (some ⟨g,off,none⟩)) {A : Option Addr} {k c : Nat} (hy : a.eval y = .slice A k c) [hty : LfC P ty] {n : Nat} {t : TypeId} {cs : Array Value}
  (h : ∀ W',Loc w0 m0 W' m (Ls.set n (g,t,splice cs off [.slice A k c])) → wpList P ops Q rest (a.put o.dst undef) W')
  (hn : Ls[n]? = some (g,t,cs) ∧ off < cs.size := by refine ⟨?_,?_⟩;(first | with_reducible exact lo0 | with_reducible exact lo1 | with_reducible exact lo2 | with_reducible exact lo3 | with_reducible exact lo4 | with_reducible exact lo5 | with_reducible exact lo6 | with_reducible exact lo7 | with_reducible exact lo8 | with_reducible exact lo9 | with_reducible exact lo10 | with_reducible exact lo11);exact Nat.le_of_ble_eq_true rfl)
  (hw : Region.wanted o (yielded ops a.tmps) = true := by first | exact wanted_none rfl | exact wanted_some rfl rfl rfl rfl) :
  wpList P ops Q (o :: rest) a W := wl_store1 hL hw ho hx hy hty.h hn.1 hn.2 rfl rfl h
theorem t_sti (hL : Loc w0 m0 W m Ls) {ty : TypeId} {x y : Operand} (ho : o.op = .store ty x y) {g off : Nat} (hx : a.eval x = .pointer (some ⟨g,off,none⟩)) {kd : IntKind} {z : Int} (hy : a.eval y = .int kd z) [hty : LfC P ty] {n : Nat} {t : TypeId} {cs : Array Value}
  (h : ∀ W',Loc w0 m0 W' m (Ls.set n (g,t,splice cs off [.int kd z])) → wpList P ops Q rest (a.put o.dst undef) W')
  (hn : Ls[n]? = some (g,t,cs) ∧ off < cs.size := by refine ⟨?_,?_⟩;(first | with_reducible exact lo0 | with_reducible exact lo1 | with_reducible exact lo2 | with_reducible exact lo3 | with_reducible exact lo4 | with_reducible exact lo5 | with_reducible exact lo6 | with_reducible exact lo7 | with_reducible exact lo8 | with_reducible exact lo9 | with_reducible exact lo10 | with_reducible exact lo11);exact Nat.le_of_ble_eq_true rfl)
  (hw : Region.wanted o (yielded ops a.tmps) = true := by first | exact wanted_none rfl | exact wanted_some rfl rfl rfl rfl) :
  wpList P ops Q (o :: rest) a W := wl_store1 hL hw ho hx hy hty.h hn.1 hn.2 rfl rfl h
theorem t_stb (hL : Loc w0 m0 W m Ls) {ty : TypeId} {x y : Operand} (ho : o.op = .store ty x y) {g off : Nat} (hx : a.eval x = .pointer (some ⟨g,off,none⟩)) {b : Bool} (hy : a.eval y = .bool b) [hty : LfC P ty] {n : Nat} {t : TypeId} {cs : Array Value}
  (h : ∀ W',Loc w0 m0 W' m (Ls.set n (g,t,splice cs off [.bool b])) → wpList P ops Q rest (a.put o.dst undef) W')
  (hn : Ls[n]? = some (g,t,cs) ∧ off < cs.size := by refine ⟨?_,?_⟩;(first | with_reducible exact lo0 | with_reducible exact lo1 | with_reducible exact lo2 | with_reducible exact lo3 | with_reducible exact lo4 | with_reducible exact lo5 | with_reducible exact lo6 | with_reducible exact lo7 | with_reducible exact lo8 | with_reducible exact lo9 | with_reducible exact lo10 | with_reducible exact lo11);exact Nat.le_of_ble_eq_true rfl)
  (hw : Region.wanted o (yielded ops a.tmps) = true := by first | exact wanted_none rfl | exact wanted_some rfl rfl rfl rfl) :
  wpList P ops Q (o :: rest) a W := wl_store1 hL hw ho hx hy hty.h hn.1 hn.2 rfl rfl h
theorem t_field2 {t : TypeId} {x : Operand} {k : Nat} (ho : o.op = .field t x k) {cs : Array Value} (hx : a.eval x = .agg cs) {ft : TypeId} {off : Nat} [hf : FlC P t k ft off] [hty : AgC P ft 2] {v0 v1 : Value}
  (h : wpList P ops Q rest (a.put o.dst (.agg #[v0,v1])) W) (h0 : cs[off]? = some v0 := by first | with_reducible exact at0 | with_reducible exact at1 | with_reducible exact at2 | with_reducible exact at3 | with_reducible exact at4 | with_reducible exact at5 | with_reducible exact at6 | with_reducible exact at7 | with_reducible exact at8 | with_reducible exact at9 | with_reducible exact at10 | with_reducible exact at11) (h1 : cs[off + 1]? = some v1 := by first | with_reducible exact at0 | with_reducible exact at1 | with_reducible exact at2 | with_reducible exact at3 | with_reducible exact at4 | with_reducible exact at5 | with_reducible exact at6 | with_reducible exact at7 | with_reducible exact at8 | with_reducible exact at9 | with_reducible exact at10 | with_reducible exact at11)
  (hw : Region.wanted o (yielded ops a.tmps) = true := by first | exact wanted_none rfl | exact wanted_some rfl rfl rfl rfl) :
  wpList P ops Q (o :: rest) a W := wl_field2 hw ho hx hf.h hty.h h0 h1 h
theorem t_field1 {t : TypeId} {x : Operand} {k : Nat} (ho : o.op = .field t x k) {cs : Array Value} (hx : a.eval x = .agg cs) {ft : TypeId} {off : Nat} [hf : FlC P t k ft off] [hty : LfC P ft] {v : Value}
  (h : wpList P ops Q rest (a.put o.dst v) W) (h0 : cs[off]? = some v := by first | with_reducible exact at0 | with_reducible exact at1 | with_reducible exact at2 | with_reducible exact at3 | with_reducible exact at4 | with_reducible exact at5 | with_reducible exact at6 | with_reducible exact at7 | with_reducible exact at8 | with_reducible exact at9 | with_reducible exact at10 | with_reducible exact at11)
  (hw : Region.wanted o (yielded ops a.tmps) = true := by first | exact wanted_none rfl | exact wanted_some rfl rfl rfl rfl) :
  wpList P ops Q (o :: rest) a W := wl_field1 hw ho hx hf.h hty.h h0 h
end
theorem zq1 {α : Type} (l : List α) (i : Nat) (a : α) : l.toArray.setIfInBounds i a = (l.set i a).toArray := List.setIfInBounds_toArray ..
theorem zq2 {α : Type} (x a : α) (l : List α) : (x :: l).set 0 a = a :: l := rfl
theorem zq3 {α : Type} (x a : α) (l : List α) (n : Nat) : (x :: l).set (n + 1) a = x :: l.set n a := rfl
section
variable {P : Program} {ops : Array Oper} {Q : Exit → Act → World → Prop} {rest : List Oper} {o : Oper} {a : Act} {W : World} {d : Option Tmp} {ty t : TypeId} {pos : String} {af : Array Edge} {gd : Option (Nat × Bool)} {x y : Operand} {n : Nat}
theorem kIx (h : wpList P ops Q (⟨d,.indexAddr t x y,ty,pos,af,gd⟩ :: rest) a W) : wpList P ops Q (⟨d,.indexAddr t x y,ty,pos,af,gd⟩ :: rest) a W := h
theorem kFd (h : wpList P ops Q (⟨d,.fieldAddr t x n,ty,pos,af,gd⟩ :: rest) a W) : wpList P ops Q (⟨d,.fieldAddr t x n,ty,pos,af,gd⟩ :: rest) a W := h
theorem kLd (h : wpList P ops Q (⟨d,.load t x,ty,pos,af,gd⟩ :: rest) a W) : wpList P ops Q (⟨d,.load t x,ty,pos,af,gd⟩ :: rest) a W := h
theorem kSt (h : wpList P ops Q (⟨d,.store t x y,ty,pos,af,gd⟩ :: rest) a W) : wpList P ops Q (⟨d,.store t x y,ty,pos,af,gd⟩ :: rest) a W := h
theorem kBx (h : wpList P ops Q (⟨d,.box t x,ty,pos,af,gd⟩ :: rest) a W) : wpList P ops Q (⟨d,.box t x,ty,pos,af,gd⟩ :: rest) a W := h
theorem kAl (h : wpList P ops Q (⟨d,.alloc t,ty,pos,af,gd⟩ :: rest) a W) : wpList P ops Q (⟨d,.alloc t,ty,pos,af,gd⟩ :: rest) a W := h
theorem kFl (h : wpList P ops Q (⟨d,.field t x n,ty,pos,af,gd⟩ :: rest) a W) : wpList P ops Q (⟨d,.field t x n,ty,pos,af,gd⟩ :: rest) a W := h
end
theorem leX {m m' : World} (h : Le m m' := by repeat' (first | with_reducible exact Le.refl _ | (with_reducible refine Le.trans ?_ (Ext.le (by assumption))))) : Le m m' := h
theorem exX {m m' : World} (h : Ext m m' := by repeat' (first | with_reducible exact Ext.refl _ | with_reducible assumption | (with_reducible refine Ext.alloc ?_ _) | (with_reducible refine Ext.drew ?_) | (with_reducible refine Ext.trans ?_ (by assumption)))) : Ext m m' := h
theorem loX {l : List Lo} {n : Nat} {x : Lo} (h : l[n]? = some x := by first | with_reducible exact lo0 | with_reducible exact lo1 | with_reducible exact lo2 | with_reducible exact lo3 | with_reducible exact lo4 | with_reducible exact lo5 | with_reducible exact lo6 | with_reducible exact lo7 | with_reducible exact lo8 | with_reducible exact lo9 | with_reducible exact lo10 | with_reducible exact lo11) : l[n]? = some x := h
/- Names for tactics: each closes 'A → B' by the laws for one kind of operation. -/
def Kp (p : Prop) : Prop := p
theorem Kp.out {p : Prop} (h : Kp p) : p := h
theorem tLo {A B : Prop} (h : A) (f : Kp A → B := by intro hg;(with_reducible refine kLd ?_);first | (refine t_loadW hL rfl rfl ?_;exact hg.out) | (refine t_load2 hL rfl rfl ?_;exact hg.out) | (refine t_load1 hL rfl rfl ?_;exact hg.out)) : B := f h
theorem tLn {A B : Prop} (h : A) (f : Kp A → B := by intro hg;(with_reducible refine kLd ?_);first | (refine t_loadW hL rfl rfl ?_;exact hg.out) | (refine t_load2 hL rfl rfl ?_;exact hg.out) | (refine t_load1 hL rfl rfl ?_;exact hg.out) | (refine t_loadV hL.vw rfl rfl ?_;exact hg.out) | (refine t_loadV1 hL.vw rfl rfl ?_;exact hg.out)) : B := f h
theorem tLd {A B : Prop} (h : A) (f : Kp A → B := by intro hg;(with_reducible refine kLd ?_);first | (refine t_loadR hL rfl rfl ?_;exact hg.out) | (refine t_loadW hL rfl rfl ?_;exact hg.out) | (refine t_load2 hL rfl rfl ?_;exact hg.out) | (refine t_load1 hL rfl rfl ?_;exact hg.out) | (refine t_loadV hL.vw rfl rfl ?_;exact hg.out) | (refine t_loadV1 hL.vw rfl rfl ?_;exact hg.out)) : B := f h
theorem tIn {A B : Prop} (h : A) (f : Kp A → B := by intro hg;(with_reducible refine kIx ?_);first | (refine t_ixa rfl rfl rfl ?_;(try simp only [Nat.mul_one]);exact hg.out)) : B := f h
theorem tIx {A B : Prop} (h : A) (f : Kp A → B := by intro hg;(with_reducible refine kIx ?_);first | (refine t_ixa rfl rfl rfl ?_;(try simp only [Nat.mul_one]);exact hg.out) | (refine t_ixaA rfl rfl rfl ?_;(try simp only [Nat.mul_one]);exact hg.out)) : B := f h
theorem tFd {A B : Prop} (h : A) (f : Kp A → B := by intro hg;(with_reducible refine kFd ?_);first | (refine t_fda0 rfl rfl ?_;exact hg.out) | (refine t_fda rfl rfl ?_;(try simp only [Nat.zero_add,Nat.reduceAdd]);exact hg.out)) : B := f h
theorem tFl {A B : Prop} (h : A) (f : Kp A → B := by intro hg;(with_reducible refine kFl ?_);first | (refine t_field2 rfl rfl ?_;exact hg.out) | (refine t_field1 rfl rfl ?_;exact hg.out)) : B := f h
theorem tSr {A B : Prop} (h : A) (f : Kp A → B := by intro hg;(with_reducible refine kSt ?_);first | (refine t_storeR hL rfl rfl rfl ?_;exact hg.out)) : B := f h
theorem tSt {A B : Prop} (h : A) (f : Kp A → B := by intro hg;(with_reducible refine kSt ?_);first | (refine t_store hL rfl rfl rfl ?_;exact hg.out) | (refine t_sts hL rfl rfl rfl ?_;exact hg.out) | (refine t_sti hL rfl rfl rfl ?_;exact hg.out) | (refine t_stb hL rfl rfl rfl ?_;exact hg.out) | (refine t_store1 hL rfl rfl rfl ?_;exact hg.out)) : B := f h
theorem tBx {A B : Prop} (h : A) (f : Kp A → B := by intro hg;(with_reducible refine kBx ?_);first | (refine t_box hL rfl rfl ?_;exact hg.out)) : B := f h
theorem tAl {A B : Prop} (h : A) (f : Kp A → B := by intro hg;(with_reducible refine kAl ?_);first | (refine t_alloc hL rfl ?_;exact hg.out)) : B := f h
theorem tBs {A B : Prop} (h : A) (f : Kp A → B := by intro hg;(with_reducible refine kBs ?_);first | (refine t_bsA hL rfl rfl ?_;exact hg.out) | (refine t_bsV hL rfl rfl ?_;exact hg.out)) : B := f h
/- Several laws under one name: the step's own simplification stands within. -/
theorem nF {G : Prop} (h : false = true) : G := by cases h
theorem tP {A B : Prop} (h : A) (f : Kp A → B := by intro hg;first | ((with_reducible refine stA ?_);exact hg.out) | ((first | refine tIx ?_ | refine tFd ?_ | refine tLd ?_ | refine tFl ?_);simp only [Act.put,zq1,zq2,zq3];exact hg.out)) : B := f h
theorem tM {A B : Prop} (h : A) (f : Kp A → B := by intro hg;(first | refine tIx ?_ | refine tFd ?_ | refine tLd ?_ | refine tFl ?_);simp only [Act.put,zq1,zq2,zq3];exact hg.out) : B := f h
theorem tN {A B : Prop} (h : A) (f : Kp A → B := by intro hg;(first | refine tIn ?_ | refine tFd ?_ | refine tLn ?_ | refine tFl ?_);simp only [Act.put,zq1,zq2,zq3];exact hg.out) : B := f h
theorem tO {A B : Prop} (h : A) (f : Kp A → B := by intro hg;(first | refine tLo ?_ | refine tFl ?_);simp only [Act.put,zq1,zq2,zq3];exact hg.out) : B := f h
theorem tS {A B : Prop} (h : A) (f : Kp A → B := by intro hg;(first | refine tSr ?_ | refine tSt ?_);simp only [splice,Act.put,zq1,zq2,zq3];exact hg.out) : B := f h
theorem tB {A B : Prop} (h : A) (f : Kp A → B := by intro hg;(first | refine tBx ?_ | refine tAl ?_);simp only [Act.put,zq1,zq2,zq3];exact hg.out) : B := f h
theorem tC {A B : Prop} (h : A) (f : Kp A → B := by intro hg;refine tBs ?_;simp only [Act.put,zq1,zq2,zq3];exact hg.out) : B := f h
theorem sLe {G : Prop} (h : G := by replace hL := hL.call hE hM hV;(first | refine t_loadR hL rfl rfl ?_ | refine t_loadW hL rfl rfl ?_ | refine t_load2 hL rfl rfl ?_ | refine t_load1 hL rfl rfl ?_ | refine t_loadV hL.vw rfl rfl ?_ | refine t_loadV1 hL.vw rfl rfl ?_);simp only [Act.put,zq1,zq2,zq3];(first | refine One2.still hV ?_ | refine One.still hV ?_);exact rfl) : G := h
theorem sIy {G : Prop} (h : G := by replace hL := hL.call hE hM hV;(first | refine t_ixa rfl rfl rfl ?_ | refine t_ixaA rfl rfl rfl ?_);simp only [Act.put,zq1,zq2,zq3];(try simp only [Nat.mul_one]);(first | refine One2.still hV ?_ | refine One.still hV ?_);exact rfl) : G := h
theorem sFe {G : Prop} (h : G := by replace hL := hL.call hE hM hV;(first | refine t_fda0 rfl rfl ?_ | refine t_fda rfl rfl ?_);simp only [Act.put,zq1,zq2,zq3];(try simp only [Nat.zero_add,Nat.reduceAdd]);(first | refine One2.still hV ?_ | refine One.still hV ?_);exact rfl) : G := h
theorem sPw {G : Prop} (h : G := by replace hL := hL.call hE hM hV;go_wp2_with fail;(first | refine One2.still hV ?_ | refine One.still hV ?_);exact rfl) : G := h
end Go.Proofs.YtabmjadcoepbeaaGreat

/- A rule for regions that draw their order: one fact for each operation, which no other operation disturbs; the tail runs in its order. No program. -/
namespace Go.Proofs.YtabmjadcoepbeaaGreat
open Go.RowKit

def lay : List Nat → (Nat → Value) → Act → Act
 | [],_,a => a
 | d :: ds,vs,a => lay ds vs (a.put (some d) (vs d))
def upd (vs : Nat → Value) (d : Nat) (v : Value) : Nat → Value := fun k => if k = d then v else vs k

theorem lay_size (ds : List Nat) (vs : Nat → Value) (a : Act) : (lay ds vs a).tmps.size = a.tmps.size := by
 induction ds generalizing a with
 | nil => rfl
 | cons d ds ih => rw [lay,ih];simp [Act.put]
theorem lay_defers (ds : List Nat) (vs : Nat → Value) (a : Act) : (lay ds vs a).defers = a.defers := by
 induction ds generalizing a with
 | nil => rfl
 | cons d ds ih => rw [lay,ih];simp [Act.put]
theorem lay_at (ds : List Nat) (vs : Nat → Value) (a : Act) (k : Nat) :
  (lay ds vs a).tmps[k]? = if k ∈ ds then (if k < a.tmps.size then some (vs k) else none) else a.tmps[k]? := by
 induction ds generalizing a with
 | nil => simp [lay]
 | cons d ds ih =>
  rw [lay,ih]
  by_cases h : k ∈ ds
  ·simp [h,Act.put]
  ·by_cases e : k = d
   ·subst e;simp [h,Act.put,Array.getElem?_setIfInBounds]
   ·have e' : d ≠ k := fun h => e h.symm
    simp [h,e,e',Act.put,Array.getElem?_setIfInBounds]
theorem act_ext {a b : Act} (h : ∀ k : Nat,a.tmps[k]? = b.tmps[k]?) (hd : a.defers = b.defers) : a = b := by
 cases a;cases b
 congr
 exact Array.ext_getElem? h
theorem lay_put {ds : List Nat} {d : Nat} (hd : d ∈ ds) (vs : Nat → Value) (a : Act) (v : Value) : (lay ds vs a).put (some d) v = lay ds (upd vs d v) a := by
 refine act_ext (fun k => ?_) ?_
 ·rw [lay_at]
  simp only [Act.put,Array.getElem?_setIfInBounds,lay_size,lay_at]
  by_cases e : d = k
  ·subst e;simp [hd,upd]
  ·have e' : k ≠ d := fun h => e h.symm
   simp [e,e',upd]
 ·simp [Act.put,lay_defers]
theorem lay_self (ds : List Nat) (a : Act) : lay ds (fun k => a.tmps.getD k undef) a = a := by
 refine act_ext (fun k => ?_) (lay_defers _ _ _)
 rw [lay_at]
 by_cases h : k ∈ ds
 ·rw [if_pos h]
  by_cases hk : k < a.tmps.size
  ·simp [hk]
  ·simp [hk]
 ·rw [if_neg h]

section
variable {P : Program} {ops : Array Oper} {Q : Exit → Act → World → Prop}

theorem wpOp_of_one {i : Nat} {o : Oper} {a : Act} {w : World} {K : Act → World → Prop} {Q' : Exit → Act → World → Prop} (hi : ops[i]? = some o)
  (hN : ∀ e a w,Q' e a w → e = .normal) (hK : ∀ a w,Q' .normal a w → K a w) (h : wpList P ops Q' [o] a w) : wpOp P ops Q i K a w := by
 have hno : ¬ LetsOut Q' := fun ⟨a,w,h⟩ => by cases hN _ _ _ h
 unfold wpOp
 simp only [hi]
 unfold wpList at h
 split
 ·rename_i hw
  simp only [hw,if_true] at h
  rcases h with h | ⟨_,h⟩
  ·left
   unfold Oper.wp at h ⊢
   generalize (execOp a.eval o).run P w = r at h ⊢
   cases r with
   | ok n w' =>
    cases n <;> simp only [Oper.upon] at h ⊢ <;>
     first
      | exact hK _ _ h
      | exact Calls.mono h (fun e w'' he => by cases e <;> first | exact hK _ _ he | exact absurd (hN _ _ _ he) (by simp) | exact absurd he hno)
      | exact Rows.mono h (fun _ _ he => hK _ _ he)
      | exact h
   | halt x w' => cases x <;> simp only [Oper.upon] at h ⊢ <;> first | exact h.elim | exact absurd (hN _ _ _ h) (by simp)
  ·exact absurd h hno
 ·rename_i hw
  simp only [hw] at h
  exact hK _ _ h

def dsts (ops : Array Oper) (n : Nat) : List Nat := (ops.toList.take n).filterMap (·.dst)
def distinctB (ops : Array Oper) (n : Nat) : Bool :=
 (List.range n).all fun i => (List.range n).all fun j => i == j || match (ops[i]?).bind (·.dst),(ops[j]?).bind (·.dst) with | some a,some b => a != b | _,_ => true
def textB (ops : Array Oper) : Bool := (List.range ops.size).all fun i => match ops[i]? with | some o => o.after.all fun e => !Region.binds .any e || decide (e.on < i) | none => true
def tailB (ops : Array Oper) (n : Nat) : Bool :=
 (decide (n = ops.size) || (decide (n < ops.size) && Region.sinkB .any ops n && Region.chainB .any ops n)) &&
  Region.seqB .any ops (ops.size - n) n ((List.range n).foldl (fun l i => l.setIfInBounds i true) (Array.replicate ops.size false))

theorem mem_dsts {n i d : Nat} {o : Oper} (hi : ops[i]? = some o) (hn : i < n) (hd : o.dst = some d) : d ∈ dsts ops n := by
 refine List.mem_filterMap.2 ⟨o,?_,hd⟩
 have : (ops.toList.take n)[i]? = some o := by rw [List.getElem?_take_of_lt hn];simpa using hi
 exact List.mem_of_getElem? this
theorem distinct_spec {n i j d : Nat} {o p : Oper} (h : distinctB ops n = true) (hi : ops[i]? = some o) (hj : ops[j]? = some p) (hin : i < n) (hjn : j < n) (hne : i ≠ j)
  (hd : o.dst = some d) : p.dst ≠ some d := by
 intro hp
 have h1 := List.all_eq_true.1 (List.all_eq_true.1 h i (List.mem_range.2 hin)) j (List.mem_range.2 hjn)
 simp [hi,hj,hd,hp,hne] at h1

def Mid (ops : Array Oper) (n : Nat) (fl : Nat → Bool) (Φ : Nat → Value → World → World → Prop) (a0 : Act) (w0 m0 : World) (L : Array Bool) (a : Act) (w : World) : Prop :=
 ∃ vs m,a = lay (dsts ops n) vs a0 ∧ Ext w0 w ∧ Ext m0 m ∧ Vw m w ∧
  (∀ i o d,i < n → ops[i]? = some o → o.dst = some d → L.getD i false = true → ∃ u um,Ext u w ∧ Ext um m ∧ Φ i (vs d) u um) ∧
  (∀ i o d,i < n → ops[i]? = some o → o.dst = some d → L.getD i false = true → fl i = true → ∃ k,vs d = .pointer (some ⟨k,0,none⟩) ∧ k < w.heap.size) ∧
  (∀ i j o p d c,i < n → j < n → i ≠ j → ops[i]? = some o → ops[j]? = some p → o.dst = some d → p.dst = some c → L.getD i false = true → L.getD j false = true → fl i = true → fl j = true → vs d ≠ vs c)

def One (Φ : Value → World → World → Prop) (fl : Bool) (a : Act) (dst : Option Nat) (w m : World) (e : Exit) (a' : Act) (w' : World) : Prop :=
 e = .normal ∧ Ext w w' ∧ ∃ m' v,Ext m m' ∧ Vw m' w' ∧ a' = a.put dst v ∧ Φ v w' m' ∧ (fl = true → v = .pointer (some ⟨w.heap.size,0,none⟩) ∧ w.heap.size < w'.heap.size)

theorem Mid.step {n : Nat} {fl : Nat → Bool} {Φ : Nat → Value → World → World → Prop} {a0 : Act} {w0 m0 : World} {L : Array Bool} {a : Act} {w : World} (hdis : distinctB ops n = true)
  (hstep : ∀ i o,i < n → ops[i]? = some o → ∀ vs w m,Ext w0 w → Ext m0 m → Vw m w →
   (∀ e ∈ o.after,Region.binds .any e = true → ∀ p d,e.on < n → ops[e.on]? = some p → p.dst = some d → ∃ u um,Ext u w ∧ Ext um m ∧ Φ e.on (vs d) u um) →
   wpList P ops (One (Φ i) (fl i) (lay (dsts ops n) vs a0) o.dst w m) [o] (lay (dsts ops n) vs a0) w)
  (hM : Mid ops n fl Φ a0 w0 m0 L a w) {i : Nat} (hr : i ∈ Region.ready .any ops L) (hin : i < n) : wpOp P ops Q i (Mid ops n fl Φ a0 w0 m0 (L.setIfInBounds i true)) a w := by
 obtain ⟨vs,m,rfl,hE,hM,hV,hF,hG,hD⟩ := hM
 obtain ⟨hun,o,ho,hdep⟩ := mem_ready.1 hr
 refine wpOp_of_one ho (fun _ _ _ h => h.1) ?_ (hstep i o hin ho vs w m hE hM hV fun e he hb p d hen hp hd => hF _ _ _ hen hp hd (hdep e he hb))
 rintro a' w' ⟨_,hE',m',v,hM',hV',rfl,hv,hfl⟩
 cases hd : o.dst with
 | none =>
  have back : ∀ j p d,ops[j]? = some p → p.dst = some d → (L.setIfInBounds i true).getD j false = true → L.getD j false = true := by
   intro j p d hp hpd hL
   have hne : i ≠ j := by
    rintro rfl
    rw [ho] at hp
    obtain rfl := Option.some.inj hp
    rw [hd] at hpd
    cases hpd
   rw [Go.getD_set_ne false hne] at hL
   exact hL
  refine ⟨vs,m',rfl,hE.trans hE',hM.trans hM',hV',fun j p d hj hp hpd hL => ?_,fun j p d hj hp hpd hL hf => ?_,fun j k p q d c hj hk hjk hp hq hpd hqd hLj hLk hfj hfk => ?_⟩
  ·obtain ⟨u,um,h1,h2,h3⟩ := hF j p d hj hp hpd (back j p d hp hpd hL)
   exact ⟨u,um,h1.trans hE',h2.trans hM',h3⟩
  ·obtain ⟨k,h1,h2⟩ := hG j p d hj hp hpd (back j p d hp hpd hL) hf
   exact ⟨k,h1,Nat.lt_of_lt_of_le h2 hE'.size⟩
  ·exact hD j k p q d c hj hk hjk hp hq hpd hqd (back j p d hp hpd hLj) (back k q c hq hqd hLk) hfj hfk
 | some di =>
  have other : ∀ j p d,j < n → i ≠ j → ops[j]? = some p → p.dst = some d → upd vs di v d = vs d := by
   intro j p d hj hne hp hpd
   have : d ≠ di := by
    rintro rfl
    exact distinct_spec hdis ho hp hin hj hne hd hpd
   simp [upd,this]
  have self : upd vs di v di = v := by simp [upd]
  have new : ∀ j p d,j < n → i ≠ j → ops[j]? = some p → p.dst = some d → L.getD j false = true → fl i = true → fl j = true → v ≠ vs d := by
   intro j p d hj hne hp hpd hL hfi hfj
   obtain ⟨k,h1,h2⟩ := hG j p d hj hp hpd hL hfj
   obtain ⟨h3,_⟩ := hfl hfi
   rw [h1,h3]
   intro h
   injection h with h
   injection h with h
   injection h with h
   omega
  refine ⟨upd vs di v,m',lay_put (mem_dsts ho hin hd) vs a0 v,hE.trans hE',hM.trans hM',hV',fun j p d hj hp hpd hL => ?_,fun j p d hj hp hpd hL hf => ?_,fun j k p q d c hj hk hjk hp hq hpd hqd hLj hLk hfj hfk => ?_⟩
  ·by_cases hne : i = j
   ·subst hne
    rw [ho] at hp
    obtain rfl := Option.some.inj hp
    rw [hd] at hpd
    obtain rfl := Option.some.inj hpd
    exact ⟨w',m',Ext.refl _,Ext.refl _,by rw [self];exact hv⟩
   ·rw [Go.getD_set_ne false hne] at hL
    obtain ⟨u,um,h1,h2,h3⟩ := hF j p d hj hp hpd hL
    exact ⟨u,um,h1.trans hE',h2.trans hM',by rw [other j p d hj hne hp hpd];exact h3⟩
  ·by_cases hne : i = j
   ·subst hne
    rw [ho] at hp
    obtain rfl := Option.some.inj hp
    rw [hd] at hpd
    obtain rfl := Option.some.inj hpd
    exact ⟨_,by rw [self];exact (hfl hf).1,(hfl hf).2⟩
   ·rw [Go.getD_set_ne false hne] at hL
    obtain ⟨k,h1,h2⟩ := hG j p d hj hp hpd hL hf
    exact ⟨k,by rw [other j p d hj hne hp hpd];exact h1,Nat.lt_of_lt_of_le h2 hE'.size⟩
  ·by_cases hij : i = j
   ·subst hij
    rw [ho] at hp
    obtain rfl := Option.some.inj hp
    rw [hd] at hpd
    obtain rfl := Option.some.inj hpd
    rw [Go.getD_set_ne false hjk] at hLk
    rw [self,other k q c hk hjk hq hqd]
    exact new k q c hk hjk hq hqd hLk hfj hfk
   ·by_cases hik : i = k
    ·subst hik
     rw [ho] at hq
     obtain rfl := Option.some.inj hq
     rw [hd] at hqd
     obtain rfl := Option.some.inj hqd
     rw [Go.getD_set_ne false hij] at hLj
     rw [self,other j p d hj hij hp hpd]
     exact (new j p d hj hij hp hpd hLj hfk hfj).symm
    ·rw [Go.getD_set_ne false hij] at hLj
     rw [Go.getD_set_ne false hik] at hLk
     rw [other j p d hj hij hp hpd,other k q c hk hik hq hqd]
     exact hD j k p q d c hj hk hjk hp hq hpd hqd hLj hLk hfj hfk
end
section
variable {P : Program} {ops : Array Oper} {Q : Exit → Act → World → Prop}

def left (n : Nat) (L : Array Bool) : Nat := ((List.range n).filter fun i => !L.getD i true).length
theorem left_set {n i : Nat} {L : Array Bool} (hi : i < n) (hs : L.getD i true = false) (hl : i < L.size) : left n (L.setIfInBounds i true) + 1 = left n L := by
 unfold left
 induction n with
 | zero => omega
 | succ n ih =>
  rw [List.range_succ,List.filter_append,List.filter_append,List.length_append,List.length_append]
  by_cases e : i = n
  ·subst e
   have h1 : ∀ j ∈ List.range i,(!(L.setIfInBounds i true).getD j true) = !L.getD j true := fun j hj => by
    rw [Go.getD_set_ne true (by have := List.mem_range.1 hj;omega)]
   rw [List.filter_congr h1]
   have h2 : (L.setIfInBounds i true).getD i true = true := by simp [hl]
   simp only [List.filter_cons,List.filter_nil,hs,h2]
   simp
  ·have := ih (by omega)
   have h3 : (L.setIfInBounds i true).getD n true = L.getD n true := Go.getD_set_ne true e
   simp only [List.filter_cons,List.filter_nil,h3]
   omega
theorem left_pos {n i : Nat} {L : Array Bool} (hi : i < n) (hs : L.getD i true = false) : 0 < left n L := by
 unfold left
 exact List.length_pos_of_mem (List.mem_filter.2 ⟨List.mem_range.2 hi,by simp [hs]⟩)
theorem left_zero {n : Nat} {L : Array Bool} (h : left n L = 0) {i : Nat} (hi : i < n) : L.getD i true = true := by
 cases e : L.getD i true with
 | true => rfl
 | false => have := left_pos hi e;omega
theorem exists_ready {n : Nat} {L : Array Bool} (ht : textB ops = true) (hL : L.size = ops.size) : ∀ i,i < ops.size → L.getD i true = false → ∃ j,j ≤ i ∧ j ∈ Region.ready .any ops L := by
 intro i
 induction i using Nat.strongRecOn with
 | _ i ih =>
  intro hi hs
  obtain ⟨o,ho⟩ : ∃ o,ops[i]? = some o := ⟨_,Array.getElem?_eq_getElem hi⟩
  by_cases hall : ∀ e ∈ o.after,Region.binds .any e = true → L.getD e.on false = true
  ·exact ⟨i,Nat.le_refl _,mem_ready.2 ⟨hs,o,ho,hall⟩⟩
  ·simp only [Classical.not_forall] at hall
   obtain ⟨e,he,hb,hn⟩ := hall
   have h1 := List.all_eq_true.1 ht i (List.mem_range.2 hi)
   simp only [ho] at h1
   have h2 := Array.all_eq_true'.1 h1 e he
   simp [hb] at h2
   have h3 : L.getD e.on true = false := getD_in (by omega) (by simpa using hn)
   obtain ⟨j,hj,hr⟩ := ih e.on h2 (by omega) h3
   exact ⟨j,by omega,hr⟩
theorem full_eq {n : Nat} {L : Array Bool} (hL : L.size = ops.size) (hn : n ≤ ops.size) (h1 : ∀ i,i < n → L.getD i true = true) (h2 : ∀ i,n ≤ i → i < ops.size → L.getD i true = false) :
  L = (List.range n).foldl (fun l i => l.setIfInBounds i true) (Array.replicate ops.size false) := by
 have key : ∀ m,m ≤ ops.size → ∀ k,((List.range m).foldl (fun l i => l.setIfInBounds i true) (Array.replicate ops.size false))[k]? = if k < ops.size then some (decide (k < m)) else none := by
  intro m
  induction m with
  | zero => intro _ k;simp [Array.getElem?_replicate]
  | succ m ih =>
   intro hm k
   have hsz : ∀ (l : List Nat) (x : Array Bool),(l.foldl (fun l i => l.setIfInBounds i true) x).size = x.size := by
    intro l
    induction l with
    | nil => intro x;rfl
    | cons a l ih => intro x;rw [List.foldl_cons,ih];simp
   rw [List.range_succ,List.foldl_append,List.foldl_cons,List.foldl_nil,Array.getElem?_setIfInBounds,hsz,ih (by omega) k]
   by_cases e : m = k
   ·subst e;simp
   ·by_cases hk : k < ops.size
    ·simp only [hk,if_true,if_neg e];congr 1;apply decide_eq_decide.2;omega
    ·rw [if_neg e,if_neg hk,if_neg hk]
 refine Array.ext_getElem? fun k => ?_
 rw [key n hn k]
 by_cases hk : k < ops.size
 ·rw [if_pos hk]
  have hk' : k < L.size := by omega
  rw [Array.getElem?_eq_getElem hk']
  congr 1
  by_cases h : k < n
  ·have := h1 k h;simp [hk'] at this;simp [this,h]
  ·have := h2 k (by omega) hk;simp [hk'] at this;simp [this,h]
 ·rw [if_neg hk,Array.getElem?_eq_none (by omega)]

theorem wp_region_mid {id : Nat} {a0 : Act} {w0 m0 : World} (n : Nat) (fl : Nat → Bool) (Φ : Nat → Value → World → World → Prop) (hV0 : Vw m0 w0) (hm : P.follows .mixedOrders = true)
  (hdis : distinctB ops n = true) (htx : textB ops = true) (htl : tailB ops n = true)
  (hstep : ∀ i o,i < n → ops[i]? = some o → ∀ vs w m,Ext w0 w → Ext m0 m → Vw m w →
   (∀ e ∈ o.after,Region.binds .any e = true → ∀ p d,e.on < n → ops[e.on]? = some p → p.dst = some d → ∃ u um,Ext u w ∧ Ext um m ∧ Φ e.on (vs d) u um) →
   wpList P ops (One (Φ i) (fl i) (lay (dsts ops n) vs a0) o.dst w m) [o] (lay (dsts ops n) vs a0) w)
  (hrest : ∀ vs w m,Ext w0 w → Ext m0 m → Vw m w → (∀ i o d,i < n → ops[i]? = some o → o.dst = some d → ∃ u um,Ext u w ∧ Ext um m ∧ Φ i (vs d) u um) →
   (∀ i j o p d c,i < n → j < n → i ≠ j → ops[i]? = some o → ops[j]? = some p → o.dst = some d → p.dst = some c → fl i = true → fl j = true → vs d ≠ vs c) →
   wpList P ops Q (ops.toList.drop n) (lay (dsts ops n) vs a0) w) :
  (Code.region id ops true).wp P Q a0 w0 := by
 unfold tailB at htl
 simp only [Bool.and_eq_true,Bool.or_eq_true,decide_eq_true_eq] at htl
 obtain ⟨hsc,hseq⟩ := htl
 have hn : n ≤ ops.size := by omega
 have hnext : ∀ L,HeadInv .any ops n L → left n L ≠ 0 → (Region.ready .any ops L ≠ [] ∧ ∀ i ∈ Region.ready .any ops L,i < n) := by
  intro L inv hl
  have : ∃ i,i < n ∧ L.getD i true = false := by
   apply Classical.byContradiction
   intro hno
   apply hl
   unfold left
   rw [List.length_eq_zero_iff,List.filter_eq_nil_iff]
   intro i hi
   have hi' := List.mem_range.1 hi
   cases e : L.getD i true with
   | true => simp
   | false => exact absurd ⟨i,hi',e⟩ hno
  obtain ⟨i,hi,hs⟩ := this
  obtain ⟨j,hj,hr⟩ := exists_ready (n := n) htx inv.size i (by omega) hs
  refine ⟨fun h => (by rw [h] at hr;cases hr),fun k hk => ?_⟩
  rcases Nat.lt_or_ge k n with h | h
  ·exact h
  ·rcases hsc with rfl | ⟨⟨hlt,hsk⟩,hch⟩
   ·obtain ⟨_,o,ho,_⟩ := mem_ready.1 hk
    exact absurd (Array.getElem?_eq_some_iff.1 ho).1 (by omega)
   ·exact absurd hk (tail_waits hsk hch hlt inv _ i rfl hi hs k h)
 have main : ∀ f L a w,HeadInv .any ops n L → left n L = f → Mid ops n fl Φ a0 w0 m0 L a w → wpAny P .any ops Q (f + (ops.size - n)) L a w := by
  intro f
  induction f with
  | zero =>
   intro L a w inv hl hM
   obtain ⟨vs,m,rfl,hE,hM,hV,hF,_,hD⟩ := hM
   have hL : L = (List.range n).foldl (fun l i => l.setIfInBounds i true) (Array.replicate ops.size false) := full_eq inv.size hn (fun i hi => left_zero hl hi) inv.tail
   have hon : ∀ i,i < n → L.getD i false = true := fun i hi => by
    have := left_zero hl hi
    have h2 : i < L.size := by rw [inv.size];omega
    simpa [h2] using this
   have hw := hrest vs w m hE hM hV (fun i o d hi ho hd => hF i o d hi ho hd (hon i hi)) (fun i j o p d c hi hj hij ho hp hod hpd hfi hfj => hD i j o p d c hi hj hij ho hp hod hpd (hon i hi) (hon j hj) hfi hfj)
   have := wpAny_of_seq (P := P) (md := .any) (Q' := Q) (ops.toList.drop n) n L _ w (fun j => by simp) (by rw [hL];simpa using hseq) hw
   simpa using this
  | succ f ih =>
   intro L a w inv hl hM
   obtain ⟨hne,hlt⟩ := hnext L inv (by omega)
   rw [show f + 1 + (ops.size - n) = (f + (ops.size - n)) + 1 by omega]
   refine ⟨fun h => absurd h hne,fun i hi => ?_⟩
   have hin := hlt i hi
   have hs := (mem_ready.1 hi).1
   have hsz : i < L.size := by rw [inv.size];omega
   have hl' := left_set hin hs hsz
   exact wpOp_mono (fun a' w' h' => ih _ a' w' (inv.set hi hin) (by omega) h') (Mid.step hdis hstep hM hi hin)
 refine wp_region_any hm ?_
 have h0 : left n (Array.replicate ops.size false) = n := by
  unfold left
  have : (List.range n).filter (fun i => !(Array.replicate ops.size false).getD i true) = List.range n := by
   rw [List.filter_eq_self]
   intro i hi
   have := List.mem_range.1 hi
   have h2 : i < ops.size := by omega
   simp [h2]
  rw [this];simp
 have := main n (Array.replicate ops.size false) a0 w0.drew ⟨by simp,fun j oj hj hl => (by rw [getD_replicate_false] at hl;cases hl),fun t h1 h2 => (by simp [h2])⟩ h0
  ⟨_,m0,(lay_self _ _).symm,(Ext.refl _).drew,Ext.refl _,⟨hV0.os,hV0.tape,hV0.output,hV0.size,hV0.cell⟩,fun i o d _ _ _ hl => (by rw [getD_replicate_false] at hl;cases hl),
   fun i o d _ _ _ hl => (by rw [getD_replicate_false] at hl;cases hl),fun i j o p d c _ _ _ _ _ _ _ hl => (by rw [getD_replicate_false] at hl;cases hl)⟩
 rw [show n + (ops.size - n) = ops.size by omega] at this
 exact this

def depFacts (ops : Array Oper) (n : Nat) (F : Nat → Nat → Prop) : List Edge → Prop
 | [] => True
 | e :: l => (match (if Region.binds .any e && decide (e.on < n) then (ops[e.on]?).bind (·.dst) else none) with | some d => F e.on d | none => True) ∧ depFacts ops n F l
theorem depFacts_of {n : Nat} {F : Nat → Nat → Prop} : ∀ {l : List Edge},(∀ e ∈ l,Region.binds .any e = true → ∀ p d,e.on < n → ops[e.on]? = some p → p.dst = some d → F e.on d) → depFacts ops n F l
 | [],_ => trivial
 | e :: l,h => by
  refine ⟨?_,depFacts_of fun e' he' => h e' (List.mem_cons_of_mem _ he')⟩
  split
  ·rename_i d hd
   split at hd
   ·rename_i hb
    simp only [Bool.and_eq_true,decide_eq_true_eq] at hb
    cases ho : ops[e.on]? with
    | none => simp [ho] at hd
    | some p => simp [ho] at hd;exact h e (List.mem_cons_self) hb.1 p d hb.2 ho hd
   ·cases hd
  ·trivial
def headFacts (F : Nat → Nat → Prop) : Nat → List Oper → Prop
 | _,[] => True
 | i,o :: l => (match o.dst with | some d => F i d | none => True) ∧ headFacts F (i + 1) l
theorem headFacts_of {F : Nat → Nat → Prop} : ∀ {l : List Oper} {k : Nat},(∀ i o d,l[i]? = some o → o.dst = some d → F (k + i) d) → headFacts F k l
 | [],_,_ => trivial
 | o :: l,k,h => by
  refine ⟨?_,headFacts_of fun i p d hp hd => ?_⟩
  ·split
   ·rename_i d hd;exact h 0 o d rfl hd
   ·trivial
  ·have := h (i + 1) p d (by simpa using hp) hd
   rwa [show k + (i + 1) = k + 1 + i by omega] at this

abbrev Fct := Value → World → World → Prop
def Is (c : Value) : Fct := fun v _ _ => v = c
def Of (R : World → Value → Prop) : Fct := fun v _ um => R um v
theorem Of.mk {R : World → Value → Prop} {v : Value} {u um : World} (h : R um v) : Of R v u um := h
def fct (l : List Fct) (i : Nat) : Fct := l.getD i fun _ _ _ => True
def allSteps2 (C : Oper → Fct → Bool → Prop) : List Oper → List Fct → List Bool → Prop
 | o :: l,f :: m,b :: n => C o f b ∧ allSteps2 C l m n
 | [],_,_ => True
 | _,_,_ => False
theorem allSteps2_at {C : Oper → Fct → Bool → Prop} : ∀ {l : List Oper} {m : List Fct} {n : List Bool},allSteps2 C l m n → ∀ {i : Nat} {o : Oper},l[i]? = some o → C o (fct m i) (n.getD i false)
 | [],_,_,_,_,_,h => by simp at h
 | o :: l,f :: m,b :: n,⟨h0,hl⟩,0,p,h => by simp at h;subst h;exact h0
 | o :: l,f :: m,b :: n,⟨h0,hl⟩,i + 1,p,h => by simp at h;exact allSteps2_at hl h
 | o :: l,[],_,h,_,_,_ => by cases h
 | o :: l,f :: m,[],h,_,_,_ => by cases h

theorem wp_region_by {id : Nat} {a0 : Act} {w0 m0 : World} (n : Nat) (fl : List Bool) (Φ : List Fct) (hV0 : Vw m0 w0) (hm : P.follows .mixedOrders = true)
  (ds : List Nat) (A : (Nat → Value) → Act) (hds : dsts ops n = ds) (hA : ∀ vs,lay ds vs a0 = A vs) (hchk : (distinctB ops n && textB ops && tailB ops n) = true)
  (hstep : allSteps2 (fun o f b => ∀ vs w m,Ext w0 w → Ext m0 m → Vw m w → depFacts ops n (fun j d => ∃ u um,Ext u w ∧ Ext um m ∧ fct Φ j (vs d) u um) o.after.toList →
   wpList P ops (One f b (A vs) o.dst w m) [o] (A vs) w) (ops.toList.take n) Φ fl)
  (hrest : ∀ vs w m,Ext w0 w → Ext m0 m → Vw m w → headFacts (fun j d => ∃ u um,Ext u w ∧ Ext um m ∧ fct Φ j (vs d) u um) 0 (ops.toList.take n) →
   (∀ i j o p d c,i < n → j < n → i ≠ j → ops[i]? = some o → ops[j]? = some p → o.dst = some d → p.dst = some c → fl.getD i false = true → fl.getD j false = true → vs d ≠ vs c) →
   wpList P ops Q (ops.toList.drop n) (A vs) w) : (Code.region id ops true).wp P Q a0 w0 := by
 simp only [Bool.and_eq_true] at hchk
 refine wp_region_mid n (fl.getD · false) (fct Φ) hV0 hm hchk.1.1 hchk.1.2 hchk.2 ?_ ?_
 ·intro i o hi ho vs w m hE hM hV hD
  rw [hds,hA]
  have ho' : (ops.toList.take n)[i]? = some o := by rw [List.getElem?_take_of_lt hi];simpa using ho
  exact allSteps2_at hstep ho' vs w m hE hM hV (depFacts_of fun e he => hD e (by simpa using he))
 ·intro vs w m hE hM hV hF hD
  rw [hds,hA]
  refine hrest vs w m hE hM hV (headFacts_of fun i o d ho hd => ?_) hD
  rw [Nat.zero_add]
  have hlt : i < (ops.toList.take n).length := (List.getElem?_eq_some_iff.1 ho).1
  have hi : i < n := by rw [List.length_take] at hlt;omega
  rw [List.getElem?_take_of_lt hi] at ho
  exact hF i o d hi (by simpa using ho) hd

theorem One.still {Φ : Value → World → World → Prop} {a : Act} {dst : Option Nat} {w m : World} {v : Value} (hV : Vw m w) (h : Φ v w m) : One Φ false a dst w m .normal (a.put dst v) w :=
 ⟨rfl,Ext.refl _,m,v,Ext.refl _,hV,rfl,h,(fun h => by cases h)⟩
theorem One.call {Φ : Value → World → World → Prop} {a : Act} {dst : Option Nat} {w m w' m' : World} {v : Value} (hE : Ext w w') (hM : Ext m m') (hV : Vw m' w') (h : Φ v w' m') : One Φ false a dst w m .normal (a.put dst v) w' :=
 ⟨rfl,hE,m',v,hM,hV,rfl,h,(fun h => by cases h)⟩

def NewBlk (B : Nat) (t : TypeId) (cs : Array Value) (v : Value) (u um : World) : Prop :=
 ∃ g,v = .pointer (some ⟨g,0,none⟩) ∧ B ≤ g ∧ g < um.heap.size ∧ Blk u g t cs ∧ ∀ a : Addr,a.block = g → um.cell? a = none
theorem one_alloc {o : Oper} {a : Act} {dst : Option Nat} {B : Nat} {W1 m1 : World} {t : TypeId} {cs : Array Value} (hV : Vw m1 W1) (hE : B ≤ W1.heap.size) (hd : o.dst = dst) (hgd : o.guard = none) (ho : o.op = .alloc t) (hz : zc P t = some cs) :
  wpList P ops (One (NewBlk B t cs) true a dst W1 m1) [o] a W1 := by
 subst hd
 refine wpList_plain hgd fun _ hK => op_alloc ho hz (hK _ _ ?_)
 have h := (Loc.start hV).alloc cs t
 refine ⟨rfl,h.ext,_,_,h.mext,h.vw,rfl,⟨W1.heap.size,rfl,hE,by simp [hV.size],h.at_ (n := 0) rfl,fun a ha => h.hid (W1.heap.size,t,cs) (by simp) a ha⟩,fun _ => ⟨rfl,by simp⟩⟩
theorem Loc.bound {w0 m0 W m : World} {Ls : List Lo} (hL : Loc w0 m0 W m Ls) : ∃ B,(∀ x ∈ Ls,x.1 < B) ∧ w0.heap.size ≤ B ∧ B ≤ W.heap.size :=
 ⟨W.heap.size,fun x hx => (hL.blk x hx).lt,hL.ext.size,Nat.le_refl _⟩
theorem Loc.add {w0 m0 W m u um : World} {B : Nat} {Ls Lt : List Lo} (hB1 : ∀ x ∈ Ls,x.1 < B) (hB2 : w0.heap.size ≤ B) (hL : Loc w0 m0 W m (Lt ++ Ls)) {t : TypeId} {cs : Array Value} {v : Value} (f : NewBlk B t cs v u um)
  (hu : Ext u W) (hum : Ext um m) (hne : ∀ x ∈ Lt,v ≠ .pointer (some ⟨x.1,0,none⟩)) :
  ∃ g,v = .pointer (some ⟨g,0,none⟩) ∧ Loc w0 m0 W m (((g,t,cs) :: Lt) ++ Ls) := by
 obtain ⟨g,rfl,h1,h2,h3,h4⟩ := f
 refine ⟨g,rfl,⟨hL.size0,hL.ext,hL.mext,hL.vw,?_,?_,?_,?_⟩⟩
 ·intro x hx
  rcases List.mem_cons.1 hx with rfl | hx
  ·exact Nat.le_trans hB2 h1
  ·exact hL.low x hx
 ·intro x hx
  rcases List.mem_cons.1 hx with rfl | hx
  ·exact h3.ext hu
  ·exact hL.blk x hx
 ·intro x hx a ha
  rcases List.mem_cons.1 hx with rfl | hx
  ·rw [hum.cell (p := a) (by rw [ha];exact h2)]
   exact h4 a ha
  ·exact hL.hid x hx a ha
 ·refine List.Pairwise.cons (fun y hy => ?_) hL.apart
  rcases List.mem_append.1 hy with hy | hy
  ·intro e
   exact hne y hy (by rw [show g = y.1 from e])
  ·have := hB1 y hy
   show g ≠ y.1
   omega
theorem add_ne1 {v : Value} {x : Lo} (h : v ≠ .pointer (some ⟨x.1,0,none⟩)) : ∀ y ∈ [x],v ≠ .pointer (some ⟨y.1,0,none⟩) := fun y hy => by
 rcases List.mem_singleton.1 hy with rfl;exact h
end
end Go.Proofs.YtabmjadcoepbeaaGreat

/- Contracts of package pairingref1 over views. -/
namespace Go.Proofs.YtabmjadcoepbeaaGreat
open Go.RowKit

theorem IntV.le {m m' : World} {v : Value} {z : Int} (h : IntV m v z) (hb : Le m m') : IntV m' v z := by
 obtain ⟨neg,A,c,ds,e,hc,hs,r⟩ := h
 exact ⟨neg,A,c,ds,e,hc,hs.le hb,r⟩
theorem IntC.le {m m' : World} {v : Value} {z : Int} (h : IntC m v z) (hb : Le m m') : IntC m' v z := by
 obtain ⟨A,c,e,hc,hs⟩ := h
 exact ⟨A,c,e,hc,hs.le hb⟩
theorem IntV.lit {m : World} {v : Value} {z : Int} (h : IntV m v z) : ∃ b A n c,v = .agg #[.bool b,.slice A n c] := by
 obtain ⟨neg,A,c,ds,e,_⟩ := h
 exact ⟨_,_,_,_,e⟩
theorem IntC.lit {m : World} {v : Value} {z : Int} (h : IntC m v z) : ∃ b A n c,v = .agg #[.bool b,.slice A n c] ∧ IntC m (.agg #[.bool b,.slice A n c]) z := by
 have h' := h
 obtain ⟨A,c,e,_⟩ := h
 exact ⟨_,_,_,_,e,by rw [← e];exact h'⟩
theorem Blk.joined {m w' : World} {g : Nat} {t : TypeId} {cs : Array Value} (h : Blk w' g t cs) (hg : m.heap.size ≤ g) : Blk (joined m w') g t cs := (joined_new m w' hg).trans h
theorem Sl.joined {m w' : World} {A : Option Addr} {cs : List Value} (h : Sl w' A cs) (hA : ∀ a,A = some a → m.heap.size ≤ a.block) : Sl (joined m w') A cs := fun hl => by
 obtain ⟨b,off,e,hlt,hc⟩ := h hl
 have hb : m.heap.size ≤ b := hA _ e
 exact ⟨b,off,e,by rw [joined_size];exact hlt,fun j u hu => (joined_cell_new m w' (a := ⟨b,off + j,none⟩) hb).trans (hc j u hu)⟩
theorem IntO.joined {m w w' : World} {v : Value} {z : Int} (h : IntO w' w.heap.size v z) (hs : m.heap.size = w.heap.size) : IntC (joined m w') v z := by
 obtain ⟨s,rfl,ho⟩ := h
 obtain ⟨hl,⟨rfl,e⟩ | ⟨g,cap,cur,rfl,hg,hh,hn,hm,hs',ht⟩⟩ := ho
 ·refine ⟨none,0,by rw [e],by omega,?_⟩
  have e2 : digs z.natAbs = [] := List.eq_nil_of_length_eq_zero e
  rw [e2];exact Sl.nil
 ·exact ⟨_,_,rfl,hn,Blk.sl (t := 121) (Blk.joined (t := 121) hh (by omega)) ht⟩

theorem RetV.ofO {w m : World} {z : Int} (hV : Vw m w) {e : Ending} {w' : World} (h : Ret w (fun w' r => IntO w' w.heap.size r z) e w') : RetV w m (fun m' r => IntC m' r z) e w' := by
 obtain ⟨v,rfl,h1,h2⟩ := h
 exact ⟨v,_,rfl,h2,(joined_spec hV h2).1,(joined_spec hV h2).2,h1.joined hV.size⟩
theorem c_Canon (v : Value) (z : Int) (w m : World) (hV : Vw m w) (h : IntV m v z) : Calls Tryz.prog 86 #[v] w (RetV w m fun m' r => IntC m' r z) :=
 (r1_Canon v z w (h.le hV.le)).mono fun _ _ h => RetV.ofO hV h
theorem c_Negate (v : Value) (z : Int) (w m : World) (hV : Vw m w) (h : IntV m v z) : Calls Tryz.prog 76 #[v] w (RetV w m fun m' r => IntC m' r (-z)) :=
 (r1_Negate v z w (h.le hV.le)).mono fun _ _ h => RetV.ofO hV h
theorem c_Mul (a b : Value) (x y : Int) (w m : World) (hV : Vw m w) (ha : IntV m a x) (hb : IntV m b y) : Calls Tryz.prog 74 #[a,b] w (RetV w m fun m' r => IntC m' r (x * y)) :=
 (r1_Mul a b x y w (ha.le hV.le) (hb.le hV.le)).mono fun _ _ h => RetV.ofO hV h
theorem c_Add (a b : Value) (x y : Int) (w m : World) (hV : Vw m w) (ha : IntV m a x) (hb : IntV m b y) : Calls Tryz.prog 126 #[a,b] w (RetV w m fun m' r => IntC m' r (x + y)) :=
 (r1_Add a b x y w (ha.le hV.le) (hb.le hV.le)).mono fun _ _ h => RetV.ofO hV h
theorem c_Sub (a b : Value) (x y : Int) (w m : World) (hV : Vw m w) (ha : IntV m a x) (hb : IntV m b y) : Calls Tryz.prog 125 #[a,b] w (RetV w m fun m' r => IntC m' r (x - y)) :=
 (r1_Sub a b x y w (ha.le hV.le) (hb.le hV.le)).mono fun _ _ h => RetV.ofO hV h
theorem c_FromInt64 (n : Int) (w m : World) (hV : Vw m w) (h1 : -9223372036854775808 ≤ n) (h2 : n ≤ 9223372036854775807) : Calls Tryz.prog 62 #[.int .i64 n] w (RetV w m fun m' r => IntC m' r n) :=
 (r1_FromInt64 n w h1 h2).mono fun _ _ h => RetV.ofO hV h
theorem c_GCD (a b : Value) (x y : Int) (w m : World) (hV : Vw m w) (ha : IntV m a x) (hb : IntV m b y) : Calls Tryz.prog 84 #[a,b] w (RetV w m fun m' r => IntC m' r (Int.gcd x y : Nat)) :=
 (r1_GCD a b x y w (ha.le hV.le) (hb.le hV.le)).mono fun _ _ h => RetV.ofO hV h
theorem RetV.val {w m : World} {v : Value} {e : Ending} {w' : World} (hV : Vw m w) (h : e = .returned v ∧ Ext w w') : RetV w m (fun _ r => r = v) e w' :=
 ⟨v,_,h.1,h.2,(joined_spec hV h.2).1,(joined_spec hV h.2).2,rfl⟩
theorem c_Sign (a : Value) (x : Int) (w m : World) (hV : Vw m w) (ha : IntV m a x) : Calls Tryz.prog 75 #[a] w (RetV w m fun _ r => r = .int .i64 (icmp x 0)) :=
 (r1_Sign a x w (ha.le hV.le)).mono fun _ _ h => RetV.val hV h
theorem c_SameInt (a b : Value) (z : Int) (w m : World) (hV : Vw m w) (ha : IntC m a z) (hb : IntC m b z) (hl : (digs z.natAbs).length ≤ 1000) :
  Calls Tryz.prog 77 #[a,b] w (RetV w m fun _ r => r = .bool true) :=
 (r1_SameInt a b z w (ha.le hV.le) (hb.le hV.le) hl).mono fun _ _ h => RetV.val hV h

def DigV (m : World) (v : Value) (ds : List Nat) : Prop := ∃ A c,v = .slice A ds.length c ∧ ds.length ≤ c ∧ Sl m A (ds.map U)
theorem DigV.le {m m' : World} {v : Value} {ds : List Nat} (h : DigV m v ds) (hb : Le m m') : DigV m' v ds := by
 obtain ⟨A,c,e,hc,hs⟩ := h
 exact ⟨A,c,e,hc,hs.le hb⟩
theorem DigR.joined {m w w' : World} {v : Value} {ds : List Nat} (h : DigR w' w.heap.size v ds) (hs : m.heap.size = w.heap.size) : DigV (joined m w') v ds := by
 obtain ⟨A,c,e,hc,hsl,hg⟩ := h
 exact ⟨A,c,e,hc,hsl.joined fun a ha => by rw [hs];exact (hg a ha).1⟩
theorem c_Make (neg : Bool) (v : Value) (n : Nat) (w m : World) (hV : Vw m w) (h : DigV m v (digs n)) (hn : (digs n).length ≤ 10000) :
  Calls Tryz.prog 87 #[.bool neg,v] w (RetV w m fun m' r => IntC m' r (sgn neg n)) := by
 obtain ⟨A,c,rfl,hc,hs⟩ := h
 have := (r1_Make neg A c (digs n) w (hs.le hV.le) hc (by omega) (Dg_digs n)).mono fun _ _ h => RetV.ofO (m := m) hV h
 rwa [val_digs] at this
theorem c_divDigits (a b : Value) (x y : Nat) (w m : World) (hV : Vw m w) (ha : DigV m a (digs x)) (hx : (digs x).length ≤ 10000) (hb : DigV m b (digs y)) (hy : (digs y).length ≤ 10000) (hy0 : y ≠ 0) :
  Calls Tryz.prog 124 #[a,b] w (RetV w m fun m' v => ∃ q r,v = .tuple #[q,r] ∧ DigV m' q (digs (x / y)) ∧ DigV m' r (digs (x % y))) := by
 obtain ⟨A,c,rfl,hc,hs⟩ := ha
 obtain ⟨B,d,rfl,hd,ht⟩ := hb
 refine (r1_divDigits A B c d (digs x) (digs y) w (hs.le hV.le) hc hx (Dg_digs _) (ht.le hV.le) hd hy (Dg_digs _) (by rw [val_digs];exact hy0)).mono ?_
 rintro e w' ⟨q,r,rfl,⟨h1,h2⟩,hE⟩
 rw [val_digs,val_digs] at h1 h2
 exact ⟨_,_,rfl,hE,(joined_spec hV hE).1,(joined_spec hV hE).2,q,r,rfl,h1.joined hV.size,h2.joined hV.size⟩

theorem zc_Int : zc Tryz.prog 53 = some #[.bool false,.slice none 0 0] := by kernel_rfl
instance iI_1 : ZcC Tryz.prog 53 #[.bool false,.slice none 0 0] := ⟨zc_Int⟩
theorem zc_Frac : zc Tryz.prog 55 = some #[.bool false,.slice none 0 0,.bool false,.slice none 0 0] := by kernel_rfl
instance iI_2 : ZcC Tryz.prog 55 #[.bool false,.slice none 0 0,.bool false,.slice none 0 0] := ⟨zc_Frac⟩
theorem ag_Int : agS Tryz.prog 53 = some 2 := by kernel_rfl
instance iI_3 : AgC Tryz.prog 53 2 := ⟨ag_Int⟩
theorem ag_Frac : agS Tryz.prog 55 = some 4 := by kernel_rfl
instance iI_4 : AgC Tryz.prog 55 4 := ⟨ag_Frac⟩
theorem lf_int : lfB Tryz.prog 3 = true := by kernel_rfl
instance iI_5 : LfC Tryz.prog 3 := ⟨lf_int⟩
theorem lf_bool : lfB Tryz.prog 4 = true := by kernel_rfl
instance iI_6 : LfC Tryz.prog 4 := ⟨lf_bool⟩
theorem lf_digits : lfB Tryz.prog 51 = true := by kernel_rfl
instance iI_7 : LfC Tryz.prog 51 := ⟨lf_digits⟩
theorem fld_Frac0 : fldS Tryz.prog 55 0 = some (53,0) := by kernel_rfl
instance iI_8 : FlC Tryz.prog 55 0 53 0 := ⟨fld_Frac0⟩
theorem fld_Frac1 : fldS Tryz.prog 55 1 = some (53,2) := by kernel_rfl
instance iI_9 : FlC Tryz.prog 55 1 53 2 := ⟨fld_Frac1⟩
theorem mixed : Tryz.prog.follows .mixedOrders = true := by kernel_rfl
theorem IntC.dig {m : World} {g : Bool} {A : Option Addr} {n c : Nat} {z : Int} (h : IntC m (.agg #[.bool g,.slice A n c]) z) : g = decide (z < 0) ∧ n = (digs z.natAbs).length ∧ DigV m (.slice A n c) (digs z.natAbs) := by
 obtain ⟨A',c',e,hc,hs⟩ := h
 simp only [Value.agg.injEq,Array.mk.injEq,List.cons.injEq,Value.bool.injEq,Value.slice.injEq,and_true] at e
 obtain ⟨rfl,rfl,rfl,rfl⟩ := e
 exact ⟨rfl,rfl,A,c,rfl,hc,hs⟩
theorem IntC.zero {m : World} {g : Bool} {A : Option Addr} {n c : Nat} {z : Int} (h : IntC m (.agg #[.bool g,.slice A n c]) z) : n = 0 ↔ z = 0 := by
 obtain ⟨_,rfl,_⟩ := h.dig
 rw [List.length_eq_zero_iff,digs_nil];omega
end Go.Proofs.YtabmjadcoepbeaaGreat

/- The end of a walk: a struct result. -/
namespace Go.Proofs.YtabmjadcoepbeaaGreat
open Go.RowKit

theorem fin_agg {P : Program} {fn : Func} {R : World → Value → Prop} {w m W mm : World} {Ls : List Lo} (hL : Loc w m W mm Ls) {p : Nat} {ty : TypeId} (hr : fn.results = #[.cell p ty]) {a : Act} (hdf : a.defers = []) {g : Nat}
  (hp : a.tmps.getD p undef = .pointer (some ⟨g,0,none⟩)) {n : Nat} {t : TypeId} {cs : Array Value} (hn : Ls[n]? = some (g,t,cs)) {k : Nat} (hty : agS P ty = some k) (hk : cs.size = k) (h : R mm (.agg cs)) :
  bodyPost P fn (RetV w m R) .ret a W := by
 subst hk
 obtain ⟨d,hu,hd,hi⟩ := ag_desc hty
 exact bodyPost_ret (results_cell_row hr _ _ g t cs (0,0) d hp (hL.at_ hn) hu (by cases d <;> first | rfl | exact hd) hi) hdf (RetV.mk hL h)

end Go.Proofs.YtabmjadcoepbeaaGreat
