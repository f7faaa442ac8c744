/- Part 3 of 7 of the proof: the law BranchRoundsDown returns true for every input, and its arguments read as before; there is no condition. -/
import Derived.Laws.StructEq
import Derived.ProofKit
import Derived.OpenShut
import Derived.Maps.Own
import Derived.Maps.Views
import Derived.Test.YtniigfikpfinfaaGreatBE2
set_option linter.unusedVariables false
set_option linter.unusedSimpArgs false
set_option maxRecDepth 100000
set_option maxHeartbeats 64000000
/- Rows that a function builds by append, hidden from the view until they are shown; slices of values under a view. No program. -/
namespace Go.Proofs.YtniigfikpfinfaaGreat
open Go.RowKit

def Row (e : TypeId) (size : Nat) (v : Value) (n : Nat) (xs : List Value) (R : List Lo) : Prop :=
 xs.length = n * size ∧
  ((v = .slice none 0 0 ∧ n = 0 ∧ R = []) ∨
   ∃ g cap cur, v = .slice (some ⟨g, 0, none⟩) n cap ∧ R = [(g, e, cur)] ∧ n ≤ cap ∧ cap ≤ maxLen ∧ cur.size = cap * size ∧ cur.toList.take (n * size) = xs)
theorem Row.nil (e : TypeId) (size : Nat) : Row e size (.slice none 0 0) 0 [] [] := ⟨by simp, .inl ⟨rfl, rfl, rfl⟩⟩
theorem Row.lit {e : TypeId} {size : Nat} {v : Value} {n : Nat} {xs : List Value} {R : List Lo} (h : Row e size v n xs R) : ∃ A c, v = .slice A n c ∧ n ≤ c := by
 obtain ⟨_, ⟨rfl, rfl, _⟩ | ⟨g, cap, cur, rfl, _, h, _⟩⟩ := h
 ·exact ⟨_, _, rfl, Nat.le_refl _⟩
 ·exact ⟨_, _, rfl, h⟩
theorem Row.len {e : TypeId} {size : Nat} {v : Value} {n : Nat} {xs : List Value} {R : List Lo} (h : Row e size v n xs R) : xs.length = n * size := h.1

theorem Loc.perm {w0 m0 W m : World} {A B : List Lo} (h : Loc w0 m0 W m A) (hp : A.Perm B) : Loc w0 m0 W m B :=
 ⟨h.size0, h.ext, h.mext, h.vw, fun x hx => h.low x (hp.mem_iff.2 hx), fun x hx => h.blk x (hp.mem_iff.2 hx), fun x hx => h.hid x (hp.mem_iff.2 hx),
  hp.pairwise h.apart fun h => fun e => h e.symm⟩
theorem Loc.tail {w0 m0 W m : World} {x : Lo} {A : List Lo} (h : Loc w0 m0 W m (x :: A)) : Loc w0 m0 W m A :=
 ⟨h.size0, h.ext, h.mext, h.vw, fun y hy => h.low y (List.mem_cons_of_mem _ hy), fun y hy => h.blk y (List.mem_cons_of_mem _ hy), fun y hy => h.hid y (List.mem_cons_of_mem _ hy), (List.pairwise_cons.1 h.apart).2⟩
theorem Loc.own {w0 m0 W m : World} {A R : List Lo} (hL : Loc w0 m0 W m (A ++ R)) {e : TypeId} {size : Nat} {v : Value} {n : Nat} {xs : List Value} (hR : Row e size v n xs R) : W.ownsRow w0.heap.size e size v n xs := by
 obtain ⟨h1, ⟨rfl, rfl, _⟩ | ⟨g, cap, cur, rfl, rfl, h⟩⟩ := hR
 ·exact ⟨h1, .inl ⟨rfl, rfl⟩⟩
 ·have hm : (g, e, cur) ∈ A ++ [(g, e, cur)] := by simp
  exact ⟨h1, .inr ⟨g, cap, cur, rfl, hL.low _ hm, hL.blk _ hm, h⟩⟩

def hidTo (m : World) (n : Nat) : World := { m with heap := m.heap ++ Array.replicate (n - m.heap.size) (.cells #[] 0 (0, 0)) }
theorem hidTo_size {m : World} {n : Nat} (h : m.heap.size ≤ n) : (hidTo m n).heap.size = n := by simp [hidTo]; omega
theorem hidTo_old {m : World} {n k : Nat} (h : k < m.heap.size) : (hidTo m n).heap[k]? = m.heap[k]? := by simp [hidTo, Array.getElem?_append, h]
theorem hidTo_ext {m : World} {n : Nat} (h : m.heap.size ≤ n) : Ext m (hidTo m n) := ⟨rfl, rfl, rfl, by rw [hidTo_size h]; exact h, fun _ hk => hidTo_old hk⟩
theorem hidTo_new {m : World} {n : Nat} {a : Addr} (h : m.heap.size ≤ a.block) : (hidTo m n).cell? a = none := by
 obtain ⟨b, o, s⟩ := a
 simp only at h
 unfold World.cell?
 by_cases hb : b < n
 ·have : (hidTo m n).heap[b]? = some (.cells #[] 0 (0, 0)) := by
   simp only [hidTo, Array.getElem?_append, Nat.not_lt.2 h, if_false]
   rw [Array.getElem?_replicate]; rw [if_pos (by omega)]
  rw [this]; cases s <;> simp
 ·have : (hidTo m n).heap[b]? = none := by
   apply Array.getElem?_eq_none
   simp [hidTo]; omega
  rw [this]

theorem Loc.grown {w0 m0 W m W' : World} {A R R' : List Lo} (hL : Loc w0 m0 W m (A ++ R)) {row : Option Nat} (hg : W.grownBy W' row) (hrow : ∀ k, row = some k → ∃ x ∈ R, x.1 = k)
  (hR' : ∀ x ∈ R', Blk W' x.1 x.2.1 x.2.2 ∧ ((∃ y ∈ R, y.1 = x.1) ∨ x.1 = W.heap.size)) (hone : R'.length ≤ 1) : Loc w0 m0 W' (hidTo m W'.heap.size) (A ++ R') := by
 have hs : m.heap.size ≤ W'.heap.size := by rw [hL.vw.size]; exact hg.size
 have hrow' : ∀ k, row = some k → w0.heap.size ≤ k := fun k hk => by
  obtain ⟨x, hx, rfl⟩ := hrow k hk
  exact hL.low x (List.mem_append_right _ hx)
 have hap := List.pairwise_append.1 hL.apart
 refine ⟨hL.size0, hL.ext.grown hg hrow', hL.mext.trans (hidTo_ext hs), ⟨hL.vw.os.trans hg.os.symm, hL.vw.tape.trans hg.tape.symm, hL.vw.output.trans hg.output.symm, hidTo_size hs, fun a u hu => ?_⟩, ?_, ?_, ?_, ?_⟩
 ·rcases Nat.lt_or_ge a.block m.heap.size with h | h
  ·have h2 : (hidTo m W'.heap.size).cell? a = m.cell? a := cell_of_heap (hidTo_old h)
   rw [h2] at hu
   have hne : some a.block ≠ row := fun he => by
    obtain ⟨x, hx, hxa⟩ := hrow a.block he.symm
    rw [hL.hid x (List.mem_append_right _ hx) a hxa.symm] at hu; cases hu
   rw [cell_of_heap (hg.block a.block (by rw [← hL.vw.size]; exact h) hne)]
   exact hL.vw.cell _ _ hu
  ·rw [hidTo_new h] at hu; cases hu
 ·intro x hx
  rcases List.mem_append.1 hx with hx | hx
  ·exact hL.low x (List.mem_append_left _ hx)
  ·rcases (hR' x hx).2 with ⟨y, hy, e⟩ | e
   ·rw [← e]; exact hL.low y (List.mem_append_right _ hy)
   ·rw [e]; exact hL.ext.size
 ·intro x hx
  rcases List.mem_append.1 hx with hx | hx
  ·have hb := hL.blk x (List.mem_append_left _ hx)
   refine (hg.block x.1 hb.lt fun he => ?_).trans hb
   obtain ⟨y, hy, e⟩ := hrow x.1 he.symm
   exact hap.2.2 x hx y hy e.symm
  ·exact (hR' x hx).1
 ·intro x hx a ha
  have old : ∀ y ∈ A ++ R, y.1 = x.1 → (hidTo m W'.heap.size).cell? a = none := fun y hy e => by
   have hlt : a.block < m.heap.size := by rw [ha, ← e, hL.vw.size]; exact (hL.blk y hy).lt
   rw [cell_of_heap (hidTo_old hlt)]
   exact hL.hid y hy a (ha.trans e.symm)
  rcases List.mem_append.1 hx with hx | hx
  ·exact old x (List.mem_append_left _ hx) rfl
  ·rcases (hR' x hx).2 with ⟨y, hy, e⟩ | e
   ·exact old y (List.mem_append_right _ hy) e
   ·exact hidTo_new (by rw [ha, e, hL.vw.size]; exact Nat.le_refl _)
 ·refine List.pairwise_append.2 ⟨hap.1, ?_, fun x hx y hy => ?_⟩
  ·match R', hone with
   | [], _ => exact List.Pairwise.nil
   | [x], _ => exact List.pairwise_singleton _ _
  ·rcases (hR' y hy).2 with ⟨z, hz, e⟩ | e
   ·rw [← e]; exact hap.2.2 x hx z hz
   ·have := (hL.blk x (List.mem_append_left _ hx)).lt
    rw [e]; exact Nat.ne_of_lt this

def apS (P : Program) (t : TypeId) : Option (TypeId × Nat × Nat × Nat) :=
 match P.underlying t with
 | some (.slice e) => (P.info? e).bind fun i => i.zero.map fun z => (e, i.size, i.bytes, z.cells.size)
 | _ => none
theorem ap_desc {P : Program} {t e : TypeId} {size bytes zs : Nat} (h : apS P t = some (e, size, bytes, zs)) : ∃ i z, P.underlying t = some (.slice e) ∧ P.info? e = some i ∧ i.zero = some z ∧ i.size = size ∧ i.bytes = bytes ∧ z.cells.size = zs := by
 unfold apS at h
 split at h
 ·rename_i e' he
  cases hi : P.info? e' with
  | none => simp [hi] at h
  | some i =>
   cases hz : i.zero with
   | none => simp [hi, hz] at h
   | some z =>
    simp [hi, hz] at h
    obtain ⟨rfl, rfl, rfl, rfl⟩ := h
    exact ⟨i, z, he, hi, hz, rfl, rfl, rfl⟩
 ·cases h

section
variable {P : Program} {ops : Array Oper} {Q : Exit → Act → World → Prop} {rest : List Oper} {o : Oper} {a : Act} {w0 m0 W m : World}
theorem wl_append {A R : List Lo} (hL : Loc w0 m0 W m (A ++ R)) {e : TypeId} {size : Nat} {v : Value} {n : Nat} {xs : List Value} (hR : Row e size v n xs R)
  (hw : Region.wanted o (yielded ops a.tmps) = true) {s x : Operand} {t : TypeId} (ho : o.op = .call { callee := .builtin .append, args := #[s, x], argTypes := #[t, t] })
  {bytes : Nat} (hap : apS P t = some (e, size, bytes, size)) (hsz : 0 < size) (hs : a.eval s = v) {B : Option Addr} {k c : Nat} (hx : a.eval x = .slice B k c) {news : List Value}
  (hl : news.length = k * size) (hr : Sl W B news) (h1 : news.all (·.oneCell') = true) (hn : n + k ≤ 1000000) (hb : bytes ≤ 1000000)
  (h : ∀ v' W' m' R', Loc w0 m0 W' m' (A ++ R') → Row e size v' (n + k) (xs ++ news) R' → Ext m m' → wpList P ops Q rest (a.put o.dst v') W') : wpList P ops Q (o :: rest) a W := by
 obtain ⟨i, z, ht, hi, hz, hs1, hb1, hz1⟩ := ap_desc hap
 refine wpList_wanted hw fun K hK => ?_
 have hbb : (n + k) * bytes ≤ 140737488355328 := Nat.le_trans (Nat.mul_le_mul hn hb) (by decide)
 refine wp_append_any W s x t ho w0.heap.size e i z size bytes ht hi hz hs1 hb1 hz1 hsz v n xs hs (hL.own hR) B k c news hx hl hr (fun u hu => List.all_eq_true.1 h1 u hu) (Nat.le_trans hn (by decide)) hbb hL.ext.size ?_
 intro v' W' ho' hg hob
 refine hK _ _ ?_
 have hrow : ∀ j, v.ownBlock = some j → ∃ x ∈ R, x.1 = j := by
  intro j hj
  obtain ⟨_, ⟨rfl, _, _⟩ | ⟨g, cap, cur, rfl, rfl, _⟩⟩ := hR
  ·simp [Value.ownBlock] at hj
  ·simp [Value.ownBlock] at hj
   exact ⟨_, List.mem_singleton.2 rfl, hj⟩
 have hE : Ext m (hidTo m W'.heap.size) := hidTo_ext (by rw [hL.vw.size]; exact hg.size)
 obtain ⟨hlen, ⟨rfl, h0⟩ | ⟨g, cap, cur, rfl, hge, hh, hnc, hcm, hcs, htk⟩⟩ := ho'
 ·exact h _ W' _ [] (hL.grown hg hrow (fun x hx => by cases hx) (by simp)) ⟨hlen, .inl ⟨rfl, h0, rfl⟩⟩ hE
 ·refine h _ W' _ [(g, e, cur)] (hL.grown hg hrow (fun x hx => ?_) (by simp)) ⟨hlen, .inr ⟨g, cap, cur, rfl, rfl, hnc, hcm, hcs, htk⟩⟩ hE
  rcases List.mem_singleton.1 hx with rfl
  refine ⟨hh, ?_⟩
  rcases hob with hob | hob
  ·left
   obtain ⟨x, hx, hxe⟩ := hrow g (by rw [← hob]; rfl)
   exact ⟨x, hx, hxe⟩
  ·right
   simpa [Value.ownBlock] using hob
end

def shown (m : World) (g : Nat) (t : TypeId) (cs : Array Value) : World := { m with heap := m.heap.setIfInBounds g (.cells cs t (0, 0)) }
theorem shown_size (m : World) (g : Nat) (t : TypeId) (cs : Array Value) : (shown m g t cs).heap.size = m.heap.size := by simp [shown]
theorem shown_other (m : World) {g k : Nat} (t : TypeId) (cs : Array Value) (h : k ≠ g) : (shown m g t cs).heap[k]? = m.heap[k]? := by
 simp only [shown, Array.getElem?_setIfInBounds]
 rw [if_neg (by omega)]
theorem shown_at (m : World) {g : Nat} (t : TypeId) (cs : Array Value) (h : g < m.heap.size) : Blk (shown m g t cs) g t cs := by
 unfold Blk shown
 simp [h]
theorem Loc.show1 {w0 m0 W m : World} {A : List Lo} {g : Nat} {t : TypeId} {cur : Array Value} (hL : Loc w0 m0 W m (A ++ [(g, t, cur)])) (k : Nat) :
  ∃ m', Loc w0 m0 W m' A ∧ Le m m' ∧ Sl m' (some ⟨g, 0, none⟩) (cur.toList.take k) := by
 have hm : (g, t, cur) ∈ A ++ [(g, t, cur)] := by simp
 have hb := hL.blk _ hm
 have hlt : g < m.heap.size := by rw [hL.vw.size]; exact hb.lt
 have hap := List.pairwise_append.1 hL.apart
 have hle : Le m (shown m g t (cur.toList.take k).toArray) := ⟨by rw [shown_size]; exact Nat.le_refl _, fun a u hu => by
  have hne : a.block ≠ g := fun e => by rw [hL.hid _ hm a e] at hu; cases hu
  rw [cell_of_heap (shown_other m t _ hne)]; exact hu⟩
 have hbs := shown_at m t (cur.toList.take k).toArray hlt
 refine ⟨shown m g t (cur.toList.take k).toArray, ⟨hL.size0, hL.ext, ⟨hL.mext.os, hL.mext.tape, hL.mext.output, by rw [shown_size]; exact hL.mext.size, fun j hj => ?_⟩, ⟨hL.vw.os, hL.vw.tape, hL.vw.output, by rw [shown_size]; exact hL.vw.size, fun a u hu => ?_⟩,
  fun x hx => hL.low x (List.mem_append_left _ hx), fun x hx => hL.blk x (List.mem_append_left _ hx), fun x hx a ha => ?_, hap.1⟩, hle, hbs.sl (n := k) (by simp [List.take_take])⟩
 ·rw [shown_other m t _ (by have := hL.low _ hm; have := hL.size0; simp only at *; omega)]
  exact hL.mext.block j hj
 ·by_cases e : a.block = g
  ·obtain ⟨b, o, s⟩ := a
   simp only at e
   subst e
   unfold World.cell? at hu ⊢
   rw [hbs] at hu
   have hb' : W.heap[b]? = some (.cells cur t (0, 0)) := hb
   rw [hb']
   have key : ∀ v, (List.take k cur.toList).toArray[o]? = some v → cur[o]? = some v := fun v hv => by
    rw [List.getElem?_toArray, List.getElem?_take] at hv
    by_cases ho : o < k
    ·rw [if_pos ho] at hv; simpa using hv
    ·rw [if_neg ho] at hv; cases hv
   cases hq : (List.take k cur.toList).toArray[o]? with
   | none => cases s <;> simp [hq] at hu
   | some v =>
    have := key v hq
    simp only [hq] at hu
    simp only [this]
    exact hu
  ·rw [cell_of_heap (shown_other m t _ e)] at hu
   exact hL.vw.cell _ _ hu
 ·have hne : a.block ≠ g := by rw [ha]; exact hap.2.2 x hx _ (List.mem_singleton.2 rfl)
  rw [cell_of_heap (shown_other m t _ hne)]
  exact hL.hid x (List.mem_append_left _ hx) a ha
theorem Loc.show {w0 m0 W m : World} {A R : List Lo} (hL : Loc w0 m0 W m (A ++ R)) {e : TypeId} {size : Nat} {v : Value} {n : Nat} {xs : List Value} (hR : Row e size v n xs R) :
  ∃ m' B c, Loc w0 m0 W m' A ∧ Le m m' ∧ v = .slice B n c ∧ n ≤ c ∧ Sl m' B xs ∧ W.ownsRow w0.heap.size e size v n xs := by
 have ho := hL.own hR
 obtain ⟨h1, ⟨rfl, rfl, rfl⟩ | ⟨g, cap, cur, rfl, rfl, hn, _, _, ht⟩⟩ := hR
 ·rw [List.append_nil] at hL
  have : xs = [] := List.eq_nil_of_length_eq_zero (by simpa using h1)
  subst this
  exact ⟨m, none, 0, hL, Le.refl _, rfl, Nat.le_refl _, Sl.nil, ho⟩
 ·obtain ⟨m', h1, h2, h3⟩ := hL.show1 (n * size)
  rw [ht] at h3
  exact ⟨m', _, _, h1, h2, rfl, hn, h3, ho⟩

def RetW (w m : World) (R : World → World → Value → Prop) (e : Ending) (w' : World) : Prop :=
 ∃ v m', e = .returned v ∧ Ext w w' ∧ Ext m m' ∧ Vw m' w' ∧ R w' m' v
theorem RetW.mk {w m W m' : World} {R : World → World → Value → Prop} {v : Value} {Ls : List Lo} (hL : Loc w m W m' Ls) (h : R W m' v) : RetW w m R (.returned v) W := ⟨v, m', rfl, hL.ext, hL.mext, hL.vw, h⟩

def cellsOf (vs : List Value) : List Value := vs.flatMap fun v => v.cells.toList
theorem cellsOf_append (a b : List Value) : cellsOf (a ++ b) = cellsOf a ++ cellsOf b := by simp [cellsOf]
theorem cellsOf_one (v : Value) : cellsOf [v] = v.cells.toList := by simp [cellsOf]
theorem cellsOf_at {size : Nat} : ∀ {vs : List Value} {k : Nat} {v : Value}, (∀ u ∈ vs, u.cells.size = size) → vs[k]? = some v → ∀ j, j < size → (cellsOf vs)[k * size + j]? = v.cells.toList[j]?
 | [], k, v, _, h, _, _ => by simp at h
 | u :: vs, 0, v, hs, h, j, hj => by
  simp at h; subst h
  have : j < u.cells.toList.length := by simpa [hs u (by simp)] using hj
  simp only [cellsOf, List.flatMap_cons, Nat.zero_mul, Nat.zero_add]
  rw [List.getElem?_append_left this]
 | u :: vs, k + 1, v, hs, h, j, hj => by
  simp at h
  have hl : u.cells.toList.length = size := by simpa using hs u (by simp)
  have ih := cellsOf_at (vs := vs) (k := k) (fun x hx => hs x (by simp [hx])) h j hj
  simp only [cellsOf, List.flatMap_cons]
  rw [List.getElem?_append_right (by rw [hl, Nat.succ_mul]; omega), hl, show (k + 1) * size + j - size = k * size + j by rw [Nat.succ_mul]; omega]
  exact ih
theorem cellsOf_length {size : Nat} : ∀ {vs : List Value}, (∀ u ∈ vs, u.cells.size = size) → (cellsOf vs).length = vs.length * size
 | [], _ => by simp [cellsOf]
 | u :: vs, h => by
  have ih := cellsOf_length (vs := vs) fun x hx => h x (by simp [hx])
  have hl : u.cells.toList.length = size := by simpa using h u (by simp)
  simp only [cellsOf, List.flatMap_cons, List.length_append, hl, List.length_cons, Nat.succ_mul]
  simp only [cellsOf] at ih
  omega

def All2 {α : Type} (R : Value → α → Prop) : List Value → List α → Prop
 | [], [] => True
 | v :: vs, x :: xs => R v x ∧ All2 R vs xs
 | _, _ => False
theorem All2.length {α : Type} {R : Value → α → Prop} : ∀ {vs : List Value} {xs : List α}, All2 R vs xs → vs.length = xs.length
 | [], [], _ => rfl
 | _ :: _, _ :: _, h => by simp [All2.length h.2]
 | [], _ :: _, h => h.elim
 | _ :: _, [], h => h.elim
theorem All2.at_ {α : Type} {R : Value → α → Prop} : ∀ {vs : List Value} {xs : List α}, All2 R vs xs → ∀ {k : Nat} {x : α}, xs[k]? = some x → ∃ v, vs[k]? = some v ∧ R v x
 | v :: vs, x :: xs, h, 0, y, e => by simp at e; subst e; exact ⟨v, rfl, h.1⟩
 | v :: vs, x :: xs, h, k + 1, y, e => by simp at e; simpa using All2.at_ h.2 e
 | [], [], _, _, _, e => by simp at e
 | [], _ :: _, h, _, _, _ => h.elim
 | _ :: _, [], h, _, _, _ => h.elim
theorem All2.left {α : Type} {R : Value → α → Prop} : ∀ {vs : List Value} {xs : List α}, All2 R vs xs → ∀ {k : Nat} {v : Value}, vs[k]? = some v → ∃ x, R v x
 | v :: vs, x :: xs, h, 0, y, e => by simp at e; subst e; exact ⟨x, h.1⟩
 | v :: vs, x :: xs, h, k + 1, y, e => by simp at e; exact All2.left h.2 e
 | [], [], _, _, _, e => by simp at e
 | [], _ :: _, h, _, _, _ => h.elim
 | _ :: _, [], h, _, _, _ => h.elim
theorem All2.mono {α : Type} {R S : Value → α → Prop} (hRS : ∀ v x, R v x → S v x) : ∀ {vs : List Value} {xs : List α}, All2 R vs xs → All2 S vs xs
 | [], [], _ => trivial
 | _ :: _, _ :: _, h => ⟨hRS _ _ h.1, All2.mono hRS h.2⟩
 | [], _ :: _, h => h.elim
 | _ :: _, [], h => h.elim
theorem All2.snoc {α : Type} {R : Value → α → Prop} {v : Value} {x : α} (hv : R v x) : ∀ {vs : List Value} {xs : List α}, All2 R vs xs → All2 R (vs ++ [v]) (xs ++ [x])
 | [], [], _ => ⟨hv, trivial⟩
 | _ :: _, _ :: _, h => ⟨h.1, All2.snoc hv h.2⟩
 | [], _ :: _, h => h.elim
 | _ :: _, [], h => h.elim

def ListV {α : Type} (size : Nat) (R : World → Value → α → Prop) (m : World) (v : Value) (xs : List α) : Prop :=
 ∃ A c vs, v = .slice A xs.length c ∧ xs.length ≤ c ∧ (∀ u ∈ vs, u.cells.size = size) ∧ Sl m A (cellsOf vs) ∧ All2 (R m) vs xs
theorem ListV.lit {α : Type} {size : Nat} {R : World → Value → α → Prop} {m : World} {v : Value} {xs : List α} (h : ListV size R m v xs) : ∃ A c, v = .slice A xs.length c ∧ xs.length ≤ c ∧ ListV size R m (.slice A xs.length c) xs := by
 have h' := h
 obtain ⟨A, c, vs, rfl, hc, _⟩ := h
 exact ⟨A, c, rfl, hc, h'⟩
theorem ListV.le {α : Type} {size : Nat} {R : World → Value → α → Prop} (hR : ∀ m m' v x, R m v x → Le m m' → R m' v x) {m m' : World} {v : Value} {xs : List α} (h : ListV size R m v xs) (hb : Le m m') : ListV size R m' v xs := by
 obtain ⟨A, c, vs, e, hc, h1, h2, h3⟩ := h
 exact ⟨A, c, vs, e, hc, h1, h2.le hb, h3.mono fun v x hv => hR m m' v x hv hb⟩
theorem ListV.at_ {α : Type} {size : Nat} {R : World → Value → α → Prop} {m : World} {A : Option Addr} {n c : Nat} {xs : List α} (h : ListV size R m (.slice A n c) xs) (h0 : 0 < size) {k : Nat} {x : α} (hk : xs[k]? = some x) :
  ∃ b off v, A = some ⟨b, off, none⟩ ∧ R m v x ∧ v.cells.size = size ∧ m.rangeAt b (off + k * size) v.cells.toList := by
 obtain ⟨A', c', vs, e, hc, h1, h2, h3⟩ := h
 injection e with e1 e2 e3
 subst e1
 obtain ⟨v, hv, hR⟩ := h3.at_ hk
 have hvm : v ∈ vs := List.mem_of_getElem? hv
 have hkl : k < vs.length := (List.getElem?_eq_some_iff.1 hv).1
 have hlen := cellsOf_length h1
 have hpos : 0 < (cellsOf vs).length := by rw [hlen]; exact Nat.mul_pos (by omega) h0
 obtain ⟨b, off, rfl, hlt, hcell⟩ := h2 hpos
 refine ⟨b, off, v, rfl, hR, h1 v hvm, fun j u hu => ?_⟩
 have hj : j < size := by
  have := (List.getElem?_eq_some_iff.1 hu).1
  simpa [h1 v hvm] using this
 rw [Nat.add_assoc]
 exact hcell (k * size + j) u ((cellsOf_at h1 hv j hj).trans hu)
theorem ListV.nil {α : Type} {size : Nat} {R : World → Value → α → Prop} {m : World} {A : Option Addr} {c : Nat} : ListV size R m (.slice A 0 c) [] := ⟨A, c, [], rfl, Nat.zero_le _, (fun _ h => by cases h), Sl.nil, trivial⟩
theorem ListV.mk {α : Type} {size : Nat} {R : World → Value → α → Prop} {m : World} {A : Option Addr} {n c : Nat} {vs : List Value} {xs : List α} (hn : n ≤ c) (hl : vs.length = n) (h1 : ∀ u ∈ vs, u.cells.size = size) (h2 : Sl m A (cellsOf vs)) (h3 : All2 (R m) vs xs) :
  ListV size R m (.slice A n c) xs := by
 have := h3.length
 have e : n = xs.length := by omega
 subst e
 exact ⟨A, c, vs, rfl, hn, h1, h2, h3⟩
class ApC (P : Program) (t : TypeId) (e : outParam TypeId) (size bytes : outParam Nat) : Prop where
 h : apS P t = some (e, size, bytes, size)
section
variable {P : Program} {ops : Array Oper} {Q : Exit → Act → World → Prop} {rest : List Oper} {o : Oper} {a : Act} {W m : World}
theorem wl_loadV (hV : Vw m W) (hw : Region.wanted o (yielded ops a.tmps) = true) {ty : TypeId} {x : Operand} (ho : o.op = .load ty x) {g off : Nat} (hx : a.eval x = .pointer (some ⟨g, off, none⟩))
  {k : Nat} (hty : agS P ty = some k) {vs : List Value} (hr : m.rangeAt g off vs) (hk : vs.length = k)
  (h : wpList P ops Q rest (a.put o.dst (.agg vs.toArray)) W) : wpList P ops Q (o :: rest) a W :=
 wpList_wanted hw fun _ hK => op_load ho hx (vs := vs) (hk ▸ hty) (fun j v hv => hV.cell _ _ (hr j v hv)) (hK _ _ h)
theorem wl_loadV1 (hV : Vw m W) (hw : Region.wanted o (yielded ops a.tmps) = true) {ty : TypeId} {x : Operand} (ho : o.op = .load ty x) {g off : Nat} (hx : a.eval x = .pointer (some ⟨g, off, none⟩))
  (hty : lfB P ty = true) {v : Value} (hr : m.cell? ⟨g, off, none⟩ = some v)
  (h : wpList P ops Q rest (a.put o.dst v) W) : wpList P ops Q (o :: rest) a W :=
 wpList_wanted hw fun _ hK => op_load1 ho hx hty (hV.cell _ _ hr) (hK _ _ h)
theorem wl_indexAddr (hw : Region.wanted o (yielded ops a.tmps) = true) {t : TypeId} {s i : Operand} (ho : o.op = .indexAddr t s i) {e : TypeId} {size bytes zs : Nat} (hap : apS P t = some (e, size, bytes, zs))
  {b off n c k : Nat} {kd : IntKind} (hs : a.eval s = .slice (some ⟨b, off, none⟩) n c) (hi : a.eval i = .int kd k) (hk : k < n)
  (h : wpList P ops Q rest (a.put o.dst (.pointer (some ⟨b, off + k * size, none⟩))) W) : wpList P ops Q (o :: rest) a W := by
 obtain ⟨ti, z, ht, hti, hz, hs1, hb1, hz1⟩ := ap_desc hap
 have hrun : (Instr.indexAt t (.slice (some ⟨b, off, none⟩) n c) (.int kd k)).run P W = .ok (.pointer (some ⟨b, off + k * size, none⟩)) W := by
  unfold Instr.indexAt
  have h1 : (0 : Int) ≤ (k : Int) ∧ (k : Int) < n := by omega
  simp [asIntOf, Sem.run_bind, run_underlying ht, sizeOf, typeInfo, hti, hs1, h1, Addr.add, hk]
 refine wpList_wanted hw fun _ hK => ?_
 unfold Oper.wp execOp
 simp only [ho, hs, hi, Sem.run_bind, hrun, Result.andThen_ok, Sem.run_pure]
 exact hK _ _ h
theorem cell_le {m m' : World} {p : Addr} {v : Value} (h : m.cell? p = some v) (hl : Le m m') : m'.cell? p = some v := hl.cell _ _ h
theorem rangeAt_le {m m' : World} {g off : Nat} {vs : List Value} (h : m.rangeAt g off vs) (hl : Le m m') : m'.rangeAt g off vs := fun j v hv => hl.cell _ _ (h j v hv)
def fdS (P : Program) (t : TypeId) (k : Nat) : Option Nat :=
 match P.underlying t with
 | some (.struct fs) => (fs[k]?).bind fun f => match P.info? f.type with | some i => if i.size = 0 then none else some f.offset | none => none
 | _ => none
theorem run_fieldAt {t : TypeId} {k fo : Nat} (hf : fdS P t k = some fo) (g off : Nat) (w : World) : (Instr.fieldAt t (.pointer (some ⟨g, off, none⟩)) k).run P w = .ok (.pointer (some ⟨g, off + fo, none⟩)) w := by
 unfold fdS at hf
 split at hf
 ·rename_i fs hu
  cases hk : fs[k]? with
  | none => simp [hk] at hf
  | some f =>
   cases hi : P.info? f.type with
   | none => simp [hk, hi] at hf
   | some i =>
    simp only [hk, hi, Option.bind_some] at hf
    split at hf
    ·cases hf
    ·rename_i hne
     injection hf with hf
     subst hf
     unfold Instr.fieldAt fieldPlace
     rw [Sem.run_bind, run_underlying hu w]
     simp [hk, Instr.sureAddr, sizeOf, typeInfo, hi, hne, Addr.add]
 ·cases hf
theorem wl_fieldAddr (hw : Region.wanted o (yielded ops a.tmps) = true) {t : TypeId} {x : Operand} {k : Nat} (ho : o.op = .fieldAddr t x k) {fo : Nat} (hf : fdS P t k = some (fo + 1)) {g off : Nat} (hx : a.eval x = .pointer (some ⟨g, off, none⟩))
  (h : wpList P ops Q rest (a.put o.dst (.pointer (some ⟨g, off + (fo + 1), none⟩))) W) : wpList P ops Q (o :: rest) a W := by
 refine wpList_wanted hw fun _ hK => ?_
 unfold Oper.wp execOp
 simp only [ho, hx, Sem.run_bind, run_fieldAt hf, Result.andThen_ok, Sem.run_pure]
 exact hK _ _ h
theorem wl_fieldAddr0 (hw : Region.wanted o (yielded ops a.tmps) = true) {t : TypeId} {x : Operand} {k : Nat} (ho : o.op = .fieldAddr t x k) (hf : fdS P t k = some 0) {g off : Nat} (hx : a.eval x = .pointer (some ⟨g, off, none⟩))
  (h : wpList P ops Q rest (a.put o.dst (.pointer (some ⟨g, off, none⟩))) W) : wpList P ops Q (o :: rest) a W := by
 refine wpList_wanted hw fun _ hK => ?_
 unfold Oper.wp execOp
 simp only [ho, hx, Sem.run_bind, run_fieldAt hf, Result.andThen_ok, Sem.run_pure, Nat.add_zero]
 exact hK _ _ h
theorem NewRow.ext {B : Nat} {e : TypeId} {cs : Array Value} {n : Nat} {v : Value} {u um u' um' : World} (h : NewRow B e cs n v u um) (hu : Ext u u') (hm : Ext um um') : NewRow B e cs n v u' um' := by
 obtain ⟨g, rfl, h1, h2, h3, h4⟩ := h
 exact ⟨g, rfl, h1, Nat.lt_of_lt_of_le h2 hm.size, h3.ext hu, fun a ha => by rw [hm.cell (p := a) (by rw [ha]; exact h2)]; exact h4 a ha⟩
class FdC (P : Program) (t : TypeId) (k : Nat) (off : outParam Nat) : Prop where
 h : fdS P t k = some off
theorem t_ixa {t : TypeId} {s i : Operand} (ho : o.op = .indexAddr t s i) {e : TypeId} {size bytes : Nat} [hap : ApC P t e size bytes] {b off n c k : Nat} {kd : IntKind} (hs : a.eval s = .slice (some ⟨b, off, none⟩) n c) (hi : a.eval i = .int kd k)
  (h : wpList P ops Q rest (a.put o.dst (.pointer (some ⟨b, off + k * size, none⟩))) W) (hk : k < n := by first | with_reducible assumption | omega)
  (hw : Region.wanted o (yielded ops a.tmps) = true := by first | exact wanted_none rfl | exact wanted_some rfl rfl rfl rfl) : wpList P ops Q (o :: rest) a W := wl_indexAddr hw ho hap.h hs hi hk h
theorem t_fda {t : TypeId} {x : Operand} {k : Nat} (ho : o.op = .fieldAddr t x k) {fo : Nat} [hf : FdC P t k (fo + 1)] {g off : Nat} (hx : a.eval x = .pointer (some ⟨g, off, none⟩))
  (h : wpList P ops Q rest (a.put o.dst (.pointer (some ⟨g, off + (fo + 1), none⟩))) W)
  (hw : Region.wanted o (yielded ops a.tmps) = true := by first | exact wanted_none rfl | exact wanted_some rfl rfl rfl rfl) : wpList P ops Q (o :: rest) a W := wl_fieldAddr hw ho hf.h hx h
theorem t_fda0 {t : TypeId} {x : Operand} {k : Nat} (ho : o.op = .fieldAddr t x k) [hf : FdC P t k 0] {g off : Nat} (hx : a.eval x = .pointer (some ⟨g, off, none⟩))
  (h : wpList P ops Q rest (a.put o.dst (.pointer (some ⟨g, off, none⟩))) W)
  (hw : Region.wanted o (yielded ops a.tmps) = true := by first | exact wanted_none rfl | exact wanted_some rfl rfl rfl rfl) : wpList P ops Q (o :: rest) a W := wl_fieldAddr0 hw ho hf.h hx h
theorem t_loadV (hV : Vw m W) {ty : TypeId} {x : Operand} (ho : o.op = .load ty x) {g off : Nat} (hx : a.eval x = .pointer (some ⟨g, off, none⟩)) {k : Nat} [hty : AgC P ty k] {vs : List Value}
  (h : wpList P ops Q rest (a.put o.dst (.agg vs.toArray)) W) (hr : m.rangeAt g off vs ∧ vs.length = k := by refine ⟨?_, ?_⟩; exact rangeAt_le (by with_reducible assumption) (by repeat' (first | with_reducible exact Le.refl _ | (with_reducible refine Le.trans ?_ (Ext.le (by assumption))))); exact rfl)
  (hw : Region.wanted o (yielded ops a.tmps) = true := by first | exact wanted_none rfl | exact wanted_some rfl rfl rfl rfl) : wpList P ops Q (o :: rest) a W := wl_loadV hV hw ho hx hty.h hr.1 hr.2 h
theorem t_loadV1 (hV : Vw m W) {ty : TypeId} {x : Operand} (ho : o.op = .load ty x) {g off : Nat} (hx : a.eval x = .pointer (some ⟨g, off, none⟩)) [hty : LfC P ty] {v : Value}
  (h : wpList P ops Q rest (a.put o.dst v) W) (hr : m.cell? ⟨g, off, none⟩ = some v := by exact cell_le (by with_reducible assumption) (by repeat' (first | with_reducible exact Le.refl _ | (with_reducible refine Le.trans ?_ (Ext.le (by assumption))))))
  (hw : Region.wanted o (yielded ops a.tmps) = true := by first | exact wanted_none rfl | exact wanted_some rfl rfl rfl rfl) : wpList P ops Q (o :: rest) a W := wl_loadV1 hV hw ho hx hty.h hr h
end
end Go.Proofs.YtniigfikpfinfaaGreat

/- Facts on the program's types. -/
namespace Go.Proofs.YtniigfikpfinfaaGreat
open Go.RowKit

theorem ap_Fracs : apS Tryz.prog 28 = some (39, 4, 64, 4) := by kernel_rfl
instance iTy_1 : ApC Tryz.prog 28 39 4 64 := ⟨ap_Fracs⟩
theorem ap_ints : apS Tryz.prog 22 = some (3, 1, 8, 1) := by kernel_rfl
instance iTy_2 : ApC Tryz.prog 22 3 1 8 := ⟨ap_ints⟩
theorem ap_Cuts : apS Tryz.prog 24 = some (34, 2, 32, 2) := by kernel_rfl
instance iTy_3 : ApC Tryz.prog 24 34 2 32 := ⟨ap_Cuts⟩
theorem ap_Decs : apS Tryz.prog 29 = some (89, 3, 24, 3) := by kernel_rfl
instance iTy_4 : ApC Tryz.prog 29 89 3 24 := ⟨ap_Decs⟩
theorem ap_Cols : apS Tryz.prog 23 = some (101, 3, 48, 3) := by kernel_rfl
instance iTy_5 : ApC Tryz.prog 23 101 3 48 := ⟨ap_Cols⟩
theorem ag_Cut : agS Tryz.prog 34 = some 2 := by kernel_rfl
instance iTy_6 : AgC Tryz.prog 34 2 := ⟨ag_Cut⟩
theorem ag_Dec : agS Tryz.prog 89 = some 3 := by kernel_rfl
instance iTy_7 : AgC Tryz.prog 89 3 := ⟨ag_Dec⟩
theorem ag_Col : agS Tryz.prog 101 = some 3 := by kernel_rfl
instance iTy_8 : AgC Tryz.prog 101 3 := ⟨ag_Col⟩
theorem ag_Prices : agS Tryz.prog 31 = some 5 := by kernel_rfl
instance iTy_9 : AgC Tryz.prog 31 5 := ⟨ag_Prices⟩
theorem ag_Master : agS Tryz.prog 26 = some 5 := by kernel_rfl
instance iTy_10 : AgC Tryz.prog 26 5 := ⟨ag_Master⟩
theorem lf_ints : lfB Tryz.prog 22 = true := by kernel_rfl
instance iTy_11 : LfC Tryz.prog 22 := ⟨lf_ints⟩
theorem lf_Fracs : lfB Tryz.prog 28 = true := by kernel_rfl
instance iTy_12 : LfC Tryz.prog 28 := ⟨lf_Fracs⟩
theorem lf_Cuts : lfB Tryz.prog 24 = true := by kernel_rfl
instance iTy_13 : LfC Tryz.prog 24 := ⟨lf_Cuts⟩
theorem lf_Decs : lfB Tryz.prog 29 = true := by kernel_rfl
instance iTy_14 : LfC Tryz.prog 29 := ⟨lf_Decs⟩
theorem lf_Cols : lfB Tryz.prog 23 = true := by kernel_rfl
instance iTy_15 : LfC Tryz.prog 23 := ⟨lf_Cols⟩
theorem lf_Errno : lfB Tryz.prog 41 = true := by kernel_rfl
instance iTy_16 : LfC Tryz.prog 41 := ⟨lf_Errno⟩
theorem zc_Cut : zc Tryz.prog 34 = some #[.slice none 0 0, .int .i64 0] := by kernel_rfl
instance iTy_17 : ZcC Tryz.prog 34 #[.slice none 0 0, .int .i64 0] := ⟨zc_Cut⟩
theorem zc_Dec : zc Tryz.prog 89 = some #[.int .i64 0, .int .i64 0, .bool false] := by kernel_rfl
instance iTy_18 : ZcC Tryz.prog 89 #[.int .i64 0, .int .i64 0, .bool false] := ⟨zc_Dec⟩
theorem zc_Prices : zc Tryz.prog 31 = some #[.slice none 0 0, .slice none 0 0, .slice none 0 0, .slice none 0 0, .bool false] := by kernel_rfl
instance iTy_19 : ZcC Tryz.prog 31 #[.slice none 0 0, .slice none 0 0, .slice none 0 0, .slice none 0 0, .bool false] := ⟨zc_Prices⟩
theorem zc_Master : zc Tryz.prog 26 = some #[.int .i64 0, .slice none 0 0, .int .i64 0, .slice none 0 0, .slice none 0 0] := by kernel_rfl
instance iTy_20 : ZcC Tryz.prog 26 #[.int .i64 0, .slice none 0 0, .int .i64 0, .slice none 0 0, .slice none 0 0] := ⟨zc_Master⟩
theorem fd_Cut0 : fdS Tryz.prog 34 0 = some 0 := by kernel_rfl
instance iTy_21 : FdC Tryz.prog 34 0 0 := ⟨fd_Cut0⟩
theorem fd_Cut1 : fdS Tryz.prog 34 1 = some 1 := by kernel_rfl
instance iTy_22 : FdC Tryz.prog 34 1 1 := ⟨fd_Cut1⟩
theorem fd_Dec0 : fdS Tryz.prog 89 0 = some 0 := by kernel_rfl
instance iTy_23 : FdC Tryz.prog 89 0 0 := ⟨fd_Dec0⟩
theorem fd_Dec1 : fdS Tryz.prog 89 1 = some 1 := by kernel_rfl
instance iTy_24 : FdC Tryz.prog 89 1 1 := ⟨fd_Dec1⟩
theorem fd_Dec2 : fdS Tryz.prog 89 2 = some 2 := by kernel_rfl
instance iTy_25 : FdC Tryz.prog 89 2 2 := ⟨fd_Dec2⟩
theorem fd_Prices0 : fdS Tryz.prog 31 0 = some 0 := by kernel_rfl
instance iTy_26 : FdC Tryz.prog 31 0 0 := ⟨fd_Prices0⟩
theorem fd_Prices1 : fdS Tryz.prog 31 1 = some 1 := by kernel_rfl
instance iTy_27 : FdC Tryz.prog 31 1 1 := ⟨fd_Prices1⟩
theorem fd_Prices2 : fdS Tryz.prog 31 2 = some 2 := by kernel_rfl
instance iTy_28 : FdC Tryz.prog 31 2 2 := ⟨fd_Prices2⟩
theorem fd_Prices3 : fdS Tryz.prog 31 3 = some 3 := by kernel_rfl
instance iTy_29 : FdC Tryz.prog 31 3 3 := ⟨fd_Prices3⟩
theorem fd_Prices4 : fdS Tryz.prog 31 4 = some 4 := by kernel_rfl
instance iTy_30 : FdC Tryz.prog 31 4 4 := ⟨fd_Prices4⟩
theorem fd_Master0 : fdS Tryz.prog 26 0 = some 0 := by kernel_rfl
instance iTy_31 : FdC Tryz.prog 26 0 0 := ⟨fd_Master0⟩
theorem fd_Master1 : fdS Tryz.prog 26 1 = some 1 := by kernel_rfl
instance iTy_32 : FdC Tryz.prog 26 1 1 := ⟨fd_Master1⟩
theorem fd_Master2 : fdS Tryz.prog 26 2 = some 2 := by kernel_rfl
instance iTy_33 : FdC Tryz.prog 26 2 2 := ⟨fd_Master2⟩
theorem fd_Master3 : fdS Tryz.prog 26 3 = some 3 := by kernel_rfl
instance iTy_34 : FdC Tryz.prog 26 3 3 := ⟨fd_Master3⟩
theorem fd_Master4 : fdS Tryz.prog 26 4 = some 4 := by kernel_rfl
instance iTy_35 : FdC Tryz.prog 26 4 4 := ⟨fd_Master4⟩
theorem fd_Frac0 : fdS Tryz.prog 39 0 = some 0 := by kernel_rfl
instance iTy_36 : FdC Tryz.prog 39 0 0 := ⟨fd_Frac0⟩
theorem fd_Frac1 : fdS Tryz.prog 39 1 = some 2 := by kernel_rfl
instance iTy_37 : FdC Tryz.prog 39 1 2 := ⟨fd_Frac1⟩
theorem fd_Int0 : fdS Tryz.prog 37 0 = some 0 := by kernel_rfl
instance iTy_38 : FdC Tryz.prog 37 0 0 := ⟨fd_Int0⟩
theorem fd_Int1 : fdS Tryz.prog 37 1 = some 1 := by kernel_rfl
instance iTy_39 : FdC Tryz.prog 37 1 1 := ⟨fd_Int1⟩
end Go.Proofs.YtniigfikpfinfaaGreat

/- Contract of rational.Ceil where the negated numerator is not negative. -/
namespace Go.Proofs.YtniigfikpfinfaaGreat
open Go.RowKit

def DMr (m : World) (v : Value) (x y : Int) : Prop := ∃ q r, v = .tuple #[q, r, .int .i64 0] ∧ IntC m q (x / y) ∧ IntC m r (x % y)
theorem DMr.le {m m' : World} {v : Value} {x y : Int} (h : DMr m v x y) (hb : Le m m') : DMr m' v x y := by
 obtain ⟨q, r, e, h1, h2⟩ := h
 exact ⟨q, r, e, h1.le hb, h2.le hb⟩
theorem i_DivModR (a b : Value) (x y : Int) (w m : World) (hV : Vw m w) (ha : IntV m a x) (hb : IntV m b y) (hx : x.natAbs < 18446744073709551616) (hy : y.natAbs < 18446744073709551616) (hy0 : 0 < y) (hxy : 0 ≤ x ∨ x % y = 0) :
  Calls Tryz.prog 142 #[a, b] w (RetV w m fun m' v => DMr m' v x y) := i_DivMod a b x y w m hV ha hb hx hy hy0 hxy

end Go.Proofs.YtniigfikpfinfaaGreat

/- Contracts of pairingref27.SameInts (equal lists). -/
namespace Go.Proofs.YtniigfikpfinfaaGreat
open Go.RowKit

def IsI (_ : World) (v : Value) (x : Int) : Prop := v = .int .i64 x
abbrev IntL := ListV (α := Int) 1 IsI
theorem IntL.le {m m' : World} {v : Value} {xs : List Int} (h : IntL m v xs) (hb : Le m m') : IntL m' v xs := ListV.le (fun _ _ _ _ h _ => h) h hb
theorem IntL.at_ {m : World} {A : Option Addr} {n c : Nat} {xs : List Int} (h : IntL m (.slice A n c) xs) {k : Nat} {x : Int} (hk : xs[k]? = some x) :
  ∃ b off, A = some ⟨b, off, none⟩ ∧ m.cell? ⟨b, off + k, none⟩ = some (.int .i64 x) := by
 obtain ⟨b, off, v, e, rfl, _, hr⟩ := ListV.at_ h (by omega) hk
 exact ⟨b, off, e, by simpa using hr 0 _ rfl⟩
theorem at_some {α : Type} {l : List α} {k n : Nat} (hn : Hid (l.length = n)) (hk : k < n) : ∃ x, l[k]? = some x := ⟨_, List.getElem?_eq_getElem (by rw [hn.out]; exact hk)⟩

end Go.Proofs.YtniigfikpfinfaaGreat

/- Contract of pairingref25.SameList (equal lists). -/
namespace Go.Proofs.YtniigfikpfinfaaGreat
open Go.RowKit

abbrev FracL := ListV (α := Rat) 4 FracC
theorem FracL.le {m m' : World} {v : Value} {qs : List Rat} (h : FracL m v qs) (hb : Le m m') : FracL m' v qs := ListV.le (fun _ _ _ _ h hb => h.le hb) h hb
theorem FracL.at_ {m : World} {A : Option Addr} {n c : Nat} {qs : List Rat} (h : FracL m (.slice A n c) qs) {k : Nat} {q : Rat} (hk : qs[k]? = some q) :
  ∃ b off g A1 n1 c1 g' B k' d, A = some ⟨b, off, none⟩ ∧ FracC m (.agg #[.bool g, .slice A1 n1 c1, .bool g', .slice B k' d]) q ∧ m.rangeAt b (off + k * 4) [.bool g, .slice A1 n1 c1, .bool g', .slice B k' d] := by
 obtain ⟨b, off, v, e, hv, _, hr⟩ := ListV.at_ h (by omega) hk
 obtain ⟨g, A1, n1, c1, g', B, k', d, rfl, hv⟩ := hv.lit
 exact ⟨b, off, g, A1, n1, c1, g', B, k', d, e, hv, hr⟩

end Go.Proofs.YtniigfikpfinfaaGreat

/- Contracts of pairingref27.SameCuts (equal lists), SameDecisions. -/
namespace Go.Proofs.YtniigfikpfinfaaGreat
open Go.RowKit

abbrev Cut := List Int × Int
def CutR (m : World) (v : Value) (x : Cut) : Prop := ∃ s, v = .agg #[s, .int .i64 x.2] ∧ IntL m s x.1 ∧ x.1.length ≤ 1000000
abbrev CutL := ListV (α := Cut) 2 CutR
theorem CutR.le {m m' : World} {v : Value} {x : Cut} (h : CutR m v x) (hb : Le m m') : CutR m' v x := by
 obtain ⟨s, e, h, hl⟩ := h
 exact ⟨s, e, IntL.le h hb, hl⟩
theorem CutL.le {m m' : World} {v : Value} {xs : List Cut} (h : CutL m v xs) (hb : Le m m') : CutL m' v xs := ListV.le (fun _ _ _ _ h hb => h.le hb) h hb
theorem CutL.at_ {m : World} {A : Option Addr} {n c : Nat} {xs : List Cut} (h : CutL m (.slice A n c) xs) {k : Nat} {x : Cut} (hk : xs[k]? = some x) :
  ∃ b off A1 c1, A = some ⟨b, off, none⟩ ∧ IntL m (.slice A1 x.1.length c1) x.1 ∧ x.1.length ≤ 1000000 ∧ x.1.length ≤ c1 ∧ m.cell? ⟨b, off + k * 2, none⟩ = some (.slice A1 x.1.length c1) ∧ m.cell? ⟨b, off + k * 2 + 1, none⟩ = some (.int .i64 x.2) ∧
   m.rangeAt b (off + k * 2) [.slice A1 x.1.length c1, .int .i64 x.2] := by
 obtain ⟨b, off, v, e, ⟨s, rfl, hs, hl⟩, _, hr⟩ := ListV.at_ h (by omega) hk
 obtain ⟨A1, c1, rfl, hc1, hs⟩ := hs.lit
 exact ⟨b, off, A1, c1, e, hs, hl, hc1, by simpa using hr 0 _ rfl, hr 1 _ rfl, hr⟩

end Go.Proofs.YtniigfikpfinfaaGreat

/- Contracts of pairingref27.SameDecisions, slices.Equal. -/
namespace Go.Proofs.YtniigfikpfinfaaGreat
open Go.RowKit

abbrev Dec := Int × Int × Bool
def DecR (_ : World) (v : Value) (x : Dec) : Prop := v = .agg #[.int .i64 x.1, .int .i64 x.2.1, .bool x.2.2]
abbrev DecL := ListV (α := Dec) 3 DecR
theorem DecL.le {m m' : World} {v : Value} {xs : List Dec} (h : DecL m v xs) (hb : Le m m') : DecL m' v xs := ListV.le (fun _ _ _ _ h _ => h) h hb
theorem DecL.at_ {m : World} {A : Option Addr} {n c : Nat} {xs : List Dec} (h : DecL m (.slice A n c) xs) {k : Nat} {x : Dec} (hk : xs[k]? = some x) :
  ∃ b off, A = some ⟨b, off, none⟩ ∧ m.rangeAt b (off + k * 3) [.int .i64 x.1, .int .i64 x.2.1, .bool x.2.2] := by
 obtain ⟨b, off, v, e, rfl, _, hr⟩ := ListV.at_ h (by omega) hk
 exact ⟨b, off, e, hr⟩
end Go.Proofs.YtniigfikpfinfaaGreat

/- Rows that are made with their whole length and filled one by one; memory that a callee leaves to its caller. No program. -/
namespace Go.Proofs.YtniigfikpfinfaaGreat
open Go.RowKit

theorem splice_at (ws : List Value) : ∀ (o : Nat) (cs : Array Value), o + ws.length ≤ cs.size → ∀ j : Nat, (splice cs o ws)[j]? = if o ≤ j ∧ j < o + ws.length then ws[j - o]? else cs[j]? := by
 induction ws with
 | nil => intro o cs _ j; simp [splice]; omega
 | cons v ws ih =>
  intro o cs h j
  simp only [List.length_cons] at h
  rw [splice, ih (o + 1) _ (by simp; omega), Array.getElem?_setIfInBounds]
  simp only [List.length_cons]
  by_cases h1 : o + 1 ≤ j ∧ j < o + 1 + ws.length
  ·rw [if_pos h1, if_pos (by omega)]
   obtain ⟨i, rfl⟩ : ∃ i, j = o + 1 + i := ⟨j - (o + 1), by omega⟩
   rw [show o + 1 + i - (o + 1) = i by omega, show o + 1 + i - o = i + 1 by omega]
   simp
  ·rw [if_neg h1]
   by_cases h2 : o = j
   ·subst h2
    rw [if_pos rfl, if_pos (by omega), if_pos (by omega)]
    simp
   ·rw [if_neg h2, if_neg (by omega)]

def RowP {α : Type} (size : Nat) (R : World → Value → α → Prop) (m : World) (k : Nat) (cur : Array Value) (xs : List α) : Prop :=
 cur.size = xs.length * size ∧ ∃ vs, cur.toList.take (k * size) = cellsOf vs ∧ vs.length = k ∧ (∀ u ∈ vs, u.cells.size = size) ∧ All2 (R m) vs (xs.take k)
theorem RowP.zero {α : Type} {size : Nat} {R : World → Value → α → Prop} {m : World} {cur : Array Value} {xs : List α} (h : cur.size = xs.length * size) : RowP size R m 0 cur xs :=
 ⟨h, [], by simp [cellsOf], rfl, (fun _ h => by cases h), by simp [All2]⟩
theorem RowP.le {α : Type} {size : Nat} {R : World → Value → α → Prop} (hR : ∀ m m' v x, R m v x → Le m m' → R m' v x) {m m' : World} {k : Nat} {cur : Array Value} {xs : List α} (h : RowP size R m k cur xs) (hb : Le m m') : RowP size R m' k cur xs := by
 obtain ⟨h0, vs, h1, h2, h3, h4⟩ := h
 exact ⟨h0, vs, h1, h2, h3, h4.mono fun v x hv => hR m m' v x hv hb⟩
theorem RowP.step {α : Type} {size : Nat} {R : World → Value → α → Prop} {m : World} {k : Nat} {cur : Array Value} {xs : List α} (h : RowP size R m k cur xs) {ws : List Value} {x : α} (hx : xs[k]? = some x) (hw : ws.length = size) (hv : R m (.agg ws.toArray) x) :
  RowP size R m (k + 1) (splice cur (0 + k * size) ws) xs := by
 obtain ⟨h0, vs, h1, h2, h3, h4⟩ := h
 have hk : k < xs.length := (List.getElem?_eq_some_iff.1 hx).1
 have hfit : k * size + size ≤ cur.size := by rw [h0, ← Nat.succ_mul]; exact Nat.mul_le_mul_right _ hk
 refine ⟨by rw [splice_size]; exact h0, vs ++ [.agg ws.toArray], ?_, by simp [h2], ?_, ?_⟩
 ·rw [cellsOf_append, cellsOf_one, ← h1, Nat.zero_add]
  apply List.ext_getElem?
  intro j
  rw [List.getElem?_take, Array.getElem?_toList, splice_at ws _ _ (by rw [hw]; exact hfit), Nat.succ_mul]
  have hl : (cur.toList.take (k * size)).length = k * size := by rw [List.length_take]; simp; omega
  by_cases hj : j < k * size
  ·rw [if_pos (by omega), if_neg (by omega), List.getElem?_append_left (by omega), List.getElem?_take, if_pos hj, Array.getElem?_toList]
  ·rw [List.getElem?_append_right (by omega), hl]
   by_cases hj2 : j < k * size + size
   ·rw [if_pos hj2, if_pos (by omega)]
    simp [Value.cells]
   ·rw [if_neg hj2, List.getElem?_eq_none]
    simp [Value.cells]; omega
 ·intro u hu
  rcases List.mem_append.1 hu with hu | hu
  ·exact h3 u hu
  ·rcases List.mem_singleton.1 hu with rfl
   simpa [Value.cells] using hw
 ·rw [List.take_add_one, hx]
  exact h4.snoc hv
def RowF {α : Type} (size : Nat) (R : World → Value → α → Prop) (m : World) (cur : Array Value) (xs : List α) : Prop :=
 ∃ vs, cur.toList = cellsOf vs ∧ (∀ u ∈ vs, u.cells.size = size) ∧ All2 (R m) vs xs
theorem RowF.le {α : Type} {size : Nat} {R : World → Value → α → Prop} (hR : ∀ m m' v x, R m v x → Le m m' → R m' v x) {m m' : World} {cur : Array Value} {xs : List α} (h : RowF size R m cur xs) (hb : Le m m') : RowF size R m' cur xs := by
 obtain ⟨vs, h1, h3, h4⟩ := h
 exact ⟨vs, h1, h3, h4.mono fun v x hv => hR m m' v x hv hb⟩
theorem RowP.done {α : Type} {size : Nat} {R : World → Value → α → Prop} {m : World} {k n : Nat} {cur : Array Value} {xs : List α} (h : RowP size R m k cur xs) (hn : xs.length = n) (hk : ¬ k < n) : RowF size R m cur xs := by
 obtain ⟨h0, vs, h1, h2, h3, h4⟩ := h
 have hl := h4.length
 have hkn : k = xs.length := by
  rw [List.length_take] at hl
  omega
 refine ⟨vs, ?_, h3, ?_⟩
 ·rw [← h1, List.take_of_length_le]
  simp [h0, hkn]
 ·rwa [hkn, List.take_length] at h4
theorem RowF.size {α : Type} {size : Nat} {R : World → Value → α → Prop} {m : World} {cur : Array Value} {xs : List α} (h : RowF size R m cur xs) : cur.size = xs.length * size := by
 obtain ⟨vs, h1, h3, h4⟩ := h
 have := cellsOf_length h3
 rw [← h1, h4.length] at this
 simpa using this
theorem All2.set {α : Type} {R : Value → α → Prop} : ∀ {vs : List Value} {xs : List α}, All2 R vs xs → ∀ {k : Nat} {v : Value} {x : α}, R v x → All2 R (vs.set k v) (xs.set k x)
 | v :: vs, x :: xs, h, 0, _, _, hv => ⟨hv, h.2⟩
 | v :: vs, x :: xs, h, k + 1, _, _, hv => ⟨h.1, All2.set h.2 hv⟩
 | [], [], _, _, _, _, _ => trivial
 | [], _ :: _, h, _, _, _, _ => h.elim
 | _ :: _, [], h, _, _, _, _ => h.elim
theorem cellsOf_set {size : Nat} : ∀ {vs : List Value} {k : Nat} {ws : List Value}, (∀ u ∈ vs, u.cells.size = size) → ws.length = size → k < vs.length → ∀ j : Nat, (cellsOf (vs.set k (.agg ws.toArray)))[j]? = if k * size ≤ j ∧ j < k * size + size then ws[j - k * size]? else (cellsOf vs)[j]?
 | [], k, ws, _, _, hk, _ => by simp at hk
 | u :: vs, 0, ws, h, hw, hk, j => by
  have hl : u.cells.toList.length = size := by simpa using h u (by simp)
  simp only [List.set_cons_zero, cellsOf, List.flatMap_cons, Nat.zero_mul, Nat.zero_add, Nat.zero_le, true_and, Nat.sub_zero]
  by_cases hj : j < size
  ·rw [if_pos hj, List.getElem?_append_left (by simpa [Value.cells, hw] using hj)]
   simp [Value.cells]
  ·rw [if_neg hj, List.getElem?_append_right (by simpa [Value.cells, hw] using hj), List.getElem?_append_right (by omega), hl]
   simp [Value.cells, hw]
 | u :: vs, k + 1, ws, h, hw, hk, j => by
  have hl : u.cells.toList.length = size := by simpa using h u (by simp)
  have ih := cellsOf_set (vs := vs) (k := k) (ws := ws) (fun x hx => h x (by simp [hx])) hw (by simpa using hk)
  simp only [cellsOf] at ih
  simp only [List.set_cons_succ, cellsOf, List.flatMap_cons, Nat.succ_mul]
  by_cases hj : j < size
  ·rw [List.getElem?_append_left (by omega), List.getElem?_append_left (by omega), if_neg (by omega)]
  ·rw [List.getElem?_append_right (by omega), List.getElem?_append_right (by omega), hl, ih (j - size)]
   by_cases hc : k * size ≤ j - size ∧ j - size < k * size + size
   ·rw [if_pos hc, if_pos (by omega), show j - size - k * size = j - (k * size + size) by omega]
   ·rw [if_neg hc, if_neg (by omega)]
theorem RowF.set {α : Type} {size : Nat} {R : World → Value → α → Prop} {m : World} {k : Nat} {cur : Array Value} {xs : List α} (h : RowF size R m cur xs) {ws : List Value} {x : α} (hk : k < xs.length) (hw : ws.length = size) (hv : R m (.agg ws.toArray) x) :
  RowF size R m (splice cur (0 + k * size) ws) (xs.set k x) := by
 have hsz := h.size
 obtain ⟨vs, h1, h3, h4⟩ := h
 have hl := h4.length
 have hfit : k * size + size ≤ cur.size := by rw [hsz, ← Nat.succ_mul]; exact Nat.mul_le_mul_right _ hk
 refine ⟨vs.set k (.agg ws.toArray), ?_, ?_, h4.set hv⟩
 ·apply List.ext_getElem?
  intro j
  rw [Array.getElem?_toList, Nat.zero_add, splice_at ws _ _ (by rw [hw]; exact hfit), cellsOf_set h3 hw (by omega), hw, ← h1]
  simp
 ·intro u hu
  rcases List.mem_or_eq_of_mem_set hu with hu | rfl
  ·exact h3 u hu
  ·simpa [Value.cells] using hw
theorem RowF.at_ {α : Type} {size : Nat} {R : World → Value → α → Prop} {m : World} {cur : Array Value} {xs : List α} (h : RowF size R m cur xs) {k : Nat} {x : α} (hk : xs[k]? = some x) :
  ∃ v, R m v x ∧ v.cells.size = size ∧ ∀ j, j < size → cur[0 + k * size + j]? = v.cells[j]? := by
 obtain ⟨vs, h1, h3, h4⟩ := h
 obtain ⟨v, hv, hR⟩ := h4.at_ hk
 refine ⟨v, hR, h3 v (List.mem_of_getElem? hv), fun j hj => ?_⟩
 have := cellsOf_at h3 hv j hj
 rw [← h1, Array.getElem?_toList] at this
 rw [Nat.zero_add, this, Array.getElem?_toList]

section
variable {P : Program} {ops : Array Oper} {Q : Exit → Act → World → Prop} {rest : List Oper} {o : Oper} {a : Act} {w0 m0 W m : World} {Ls : List Lo}
theorem wl_indexAddrA (hw : Region.wanted o (yielded ops a.tmps) = true) {t : TypeId} {s i : Operand} (ho : o.op = .indexAddr t s i) {e : TypeId} {size bytes zs : Nat} (hap : apS P t = some (e, size, bytes, zs))
  {A : Option Addr} {b off n c k : Nat} {kd : IntKind} (hs : a.eval s = .slice A n c) (hA : Hid (A = some ⟨b, off, none⟩)) (hi : a.eval i = .int kd k) (hk : k < n)
  (h : wpList P ops Q rest (a.put o.dst (.pointer (some ⟨b, off + k * size, none⟩))) W) : wpList P ops Q (o :: rest) a W := by
 rw [hA.out] at hs
 exact wl_indexAddr hw ho hap hs hi hk h
theorem wl_storeR (hL : Loc w0 m0 W m Ls) (hw : Region.wanted o (yielded ops a.tmps) = true) {ty : TypeId} {x y : Operand} (ho : o.op = .store ty x y) {g off : Nat} (hx : a.eval x = .pointer (some ⟨g, off, none⟩)) {vs : List Value}
  (hy : a.eval y = .agg vs.toArray) {k : Nat} (hty : agS P ty = some k) (hk : vs.length = k) {n : Nat} {t : TypeId} {cs : Array Value} (hn : Ls[n]? = some (g, t, cs)) (hfit : off + k ≤ cs.size) (h1 : vs.all (·.oneCell') = true)
  (h : ∀ W', Loc w0 m0 W' m (Ls.set n (g, t, splice cs off vs)) → wpList P ops Q rest (a.put o.dst undef) W') : wpList P ops Q (o :: rest) a W :=
 wl_store hL hw ho hx hy hty hk hn (by rw [hk]; exact hfit) h1 h
theorem wl_loadR (hL : Loc w0 m0 W m Ls) (hw : Region.wanted o (yielded ops a.tmps) = true) {ty : TypeId} {x : Operand} (ho : o.op = .load ty x) {g off : Nat} (hx : a.eval x = .pointer (some ⟨g, off, none⟩)) {k : Nat} (hty : agS P ty = some k)
  {n : Nat} {t : TypeId} {cs : Array Value} (hn : Ls[n]? = some (g, t, cs)) {vs : List Value} (hr : ∀ j, j < k → cs[off + j]? = vs[j]?) (hk : vs.length = k)
  (h : wpList P ops Q rest (a.put o.dst (.agg vs.toArray)) W) : wpList P ops Q (o :: rest) a W :=
 wpList_wanted hw fun _ hK => op_load ho hx (vs := vs) (hk ▸ hty) (fun j v hv => by
  have hj : j < k := by rw [← hk]; exact (List.getElem?_eq_some_iff.1 hv).1
  rw [(hL.at_ hn).cell, hr j hj, hv]) (hK _ _ h)
theorem t_ixaA {t : TypeId} {s i : Operand} (ho : o.op = .indexAddr t s i) {e : TypeId} {size bytes : Nat} [hap : ApC P t e size bytes] {A : Option Addr} {b off n c k : Nat} {kd : IntKind} (hs : a.eval s = .slice A n c) (hi : a.eval i = .int kd k)
  (h : wpList P ops Q rest (a.put o.dst (.pointer (some ⟨b, off + k * size, none⟩))) W) (hA : Hid (A = some ⟨b, off, none⟩) := by with_reducible assumption) (hk : k < n := by first | with_reducible assumption | omega)
  (hw : Region.wanted o (yielded ops a.tmps) = true := by first | exact wanted_none rfl | exact wanted_some rfl rfl rfl rfl) : wpList P ops Q (o :: rest) a W := wl_indexAddrA hw ho hap.h hs hA hi hk h
theorem t_storeR (hL : Loc w0 m0 W m Ls) {ty : TypeId} {x y : Operand} (ho : o.op = .store ty x y) {g off : Nat} (hx : a.eval x = .pointer (some ⟨g, off, none⟩)) {vs : List Value} (hy : a.eval y = .agg vs.toArray) {k : Nat} [hty : AgC P ty k] {n : Nat} {t : TypeId} {cs : Array Value}
  (h : ∀ W', Loc w0 m0 W' m (Ls.set n (g, t, splice cs off vs)) → wpList P ops Q rest (a.put o.dst undef) W')
  (hn : Ls[n]? = some (g, t, cs) ∧ off + k ≤ cs.size ∧ vs.length = k ∧ vs.all (·.oneCell') = true := by refine ⟨?_, ?_, ?_, ?_⟩; (first | with_reducible exact lo0 | with_reducible exact lo1 | with_reducible exact lo2 | with_reducible exact lo3 | with_reducible exact lo4 | with_reducible exact lo5 | with_reducible exact lo6 | with_reducible exact lo7 | with_reducible exact lo8 | with_reducible exact lo9 | with_reducible exact lo10 | with_reducible exact lo11); (with_reducible assumption); exact rfl; exact rfl)
  (hw : Region.wanted o (yielded ops a.tmps) = true := by first | exact wanted_none rfl | exact wanted_some rfl rfl rfl rfl) : wpList P ops Q (o :: rest) a W := wl_storeR hL hw ho hx hy hty.h hn.2.2.1 hn.1 hn.2.1 hn.2.2.2 h
theorem t_loadR (hL : Loc w0 m0 W m Ls) {ty : TypeId} {x : Operand} (ho : o.op = .load ty x) {g off : Nat} (hx : a.eval x = .pointer (some ⟨g, off, none⟩)) {k : Nat} [hty : AgC P ty k] {n : Nat} {t : TypeId} {cs : Array Value} {vs : List Value}
  (h : wpList P ops Q rest (a.put o.dst (.agg vs.toArray)) W) (hn : Ls[n]? = some (g, t, cs) ∧ (∀ j, j < k → cs[off + j]? = vs[j]?) ∧ vs.length = k := by refine ⟨?_, ?_, ?_⟩; (first | with_reducible exact lo0 | with_reducible exact lo1 | with_reducible exact lo2 | with_reducible exact lo3 | with_reducible exact lo4 | with_reducible exact lo5 | with_reducible exact lo6 | with_reducible exact lo7 | with_reducible exact lo8 | with_reducible exact lo9 | with_reducible exact lo10 | with_reducible exact lo11); (with_reducible assumption); exact rfl)
  (hw : Region.wanted o (yielded ops a.tmps) = true := by first | exact wanted_none rfl | exact wanted_some rfl rfl rfl rfl) : wpList P ops Q (o :: rest) a W := wl_loadR hL hw ho hx hty.h hn.1 hn.2.1 hn.2.2 h
end
end Go.Proofs.YtniigfikpfinfaaGreat

/- Contract of lagrange.copyPrices. -/
namespace Go.Proofs.YtniigfikpfinfaaGreat
open Go.RowKit

structure Pr where
 fl : List Rat
 cu : List Cut
 cd : List Rat
 de : List Dec
 fr : Bool
def PricesR (m : World) (v : Value) (p : Pr) : Prop := ∃ a b c d, v = .agg #[a, b, c, d, .bool p.fr] ∧ FracL m a p.fl ∧ CutL m b p.cu ∧ FracL m c p.cd ∧ DecL m d p.de
theorem PricesR.le {m m' : World} {v : Value} {p : Pr} (h : PricesR m v p) (hb : Le m m') : PricesR m' v p := by
 obtain ⟨a, b, c, d, e, h1, h2, h3, h4⟩ := h
 exact ⟨a, b, c, d, e, FracL.le h1 hb, CutL.le h2 hb, FracL.le h3 hb, DecL.le h4 hb⟩
structure Pr.ok (p : Pr) : Prop where
 fl : ∀ q ∈ p.fl, Sm q.num q.den
 cd : ∀ q ∈ p.cd, Sm q.num q.den
 nf : p.fl.length ≤ 1000
 nc : p.cu.length ≤ 1000
 nd : p.cd.length ≤ 1000
 ne : p.de.length ≤ 1000
 cu : ∀ c ∈ p.cu, c.1.length ≤ 1000
 ap : p.fl.length ≠ p.cd.length
abbrev FrRow := RowF (α := Rat) 4 FracC
theorem FracC.mono (m m' : World) (v : Value) (x : Rat) (h : FracC m v x) (hb : Le m m') : FracC m' v x := h.le hb
theorem CutR.mono (m m' : World) (v : Value) (x : Cut) (h : CutR m v x) (hb : Le m m') : CutR m' v x := h.le hb
theorem frac0 (m : World) : FracS m (.agg #[.bool false, .slice none 0 0, .bool false, .slice none 0 0]) 0 0 := ⟨_, _, _, _, rfl, IntC.nil.toS (by decide), IntC.nil.toS (by decide), by decide, by decide⟩
theorem Loc.sub {w0 m0 W m : World} {A B : List Lo} (h : Loc w0 m0 W m A) (hs : B.Sublist A) : Loc w0 m0 W m B :=
 ⟨h.size0, h.ext, h.mext, h.vw, fun y hy => h.low y (hs.subset hy), fun y hy => h.blk y (hs.subset hy), fun y hy => h.hid y (hs.subset hy), h.apart.sublist hs⟩
theorem fin_aggP {P : Program} {fn : Func} {Post : Ending → World → Prop} {w m W mm : World} {Ls : List Lo} (hL : Loc w m W mm Ls) {p : Nat} {ty : TypeId} (hr : fn.results = #[.cell p ty]) {a : Act} (hdf : a.defers = []) {g : Nat}
  (hp : a.tmps.getD p undef = .pointer (some ⟨g, 0, none⟩)) {n : Nat} {t : TypeId} {cs : Array Value} (hn : Ls[n]? = some (g, t, cs)) {k : Nat} (hty : agS P ty = some k) (hk : cs.size = k) (h : Post (.returned (.agg cs)) W) :
  bodyPost P fn Post .ret a W := by
 subst hk
 obtain ⟨d, hu, hd, hi⟩ := ag_desc hty
 exact bodyPost_ret (results_cell_row hr _ _ g t cs (0, 0) d hp (hL.at_ hn) hu (by cases d <;> first | rfl | exact hd) hi) hdf h
end Go.Proofs.YtniigfikpfinfaaGreat

/- Bounds, the mixture of lists. -/
namespace Go.Proofs.YtniigfikpfinfaaGreat
open Go.RowKit

def Tn (k : Nat) (q : Rat) : Prop := q.num.natAbs ≤ k ∧ q.den ≤ k
theorem Tn.sm {k : Nat} {q : Rat} (h : Tn k q) (hk : k < 1073741824) : Sm q.num q.den := ⟨by have := h.1; omega, by have := h.2; omega⟩
theorem Tn.divInt {x y : Int} {k : Nat} (hy : 0 < y) (hx : x.natAbs ≤ k) (hk : y ≤ k) : Tn k (Rat.divInt x y) := by
 obtain ⟨h1, h2⟩ := frac_pos (x := x) hy
 refine ⟨?_, ?_⟩
 ·rw [h1]; exact Nat.le_trans (Int.natAbs_ediv_le_natAbs _ _) hx
 ·have h3 : (Rat.divInt x y).den = ((Rat.divInt x y).den : Int).natAbs := rfl
  rw [h3, h2]
  refine Nat.le_trans (Int.natAbs_ediv_le_natAbs _ _) (by omega)
theorem q_AddC (a b : Value) (p q : Rat) (w m : World) (hV : Vw m w) (ha : FracC m a p) (hb : FracC m b q) (hs : Sm p.num p.den) (hs' : Sm q.num q.den) :
  Calls Tryz.prog 70 #[a, b] w (RetV w m fun m' r => FracC m' r (p + q)) := by
 have h := q_Add a b p.num p.den q.num q.den w m hV (ha.toS hs) (hb.toS hs') hs hs'
 rwa [Rat.num_divInt_den, Rat.num_divInt_den] at h
theorem RowF.at4 {m : World} {cur : Array Value} {xs : List Rat} (h : FrRow m cur xs) {k : Nat} {x : Rat} (hk : xs[k]? = some x) :
  ∃ g A n c g' B k' d, FracC m (.agg #[.bool g, .slice A n c, .bool g', .slice B k' d]) x ∧ ∀ j, j < 4 → cur[0 + k * 4 + j]? = [Value.bool g, .slice A n c, .bool g', .slice B k' d][j]? := by
 obtain ⟨v, hv, hs, hr⟩ := RowF.at_ h hk
 obtain ⟨g, A, n, c, g', B, k', d, rfl, hv⟩ := hv.lit
 exact ⟨g, A, n, c, g', B, k', d, hv, fun j hj => by rw [hr j hj]; simp [Value.cells]⟩
structure Pr.tn (p : Pr) : Prop where
 fl : ∀ q ∈ p.fl, Tn 1000 q
 cd : ∀ q ∈ p.cd, Tn 1000 q
end Go.Proofs.YtniigfikpfinfaaGreat

/- Contract of pairingref27.SamePrices (equal prices). -/
namespace Go.Proofs.YtniigfikpfinfaaGreat
open Go.RowKit

structure Pr.fit (p : Pr) : Prop where
 fl : ∀ q ∈ p.fl, Fit 200 q
 cd : ∀ q ∈ p.cd, Fit 200 q
 nf : p.fl.length ≤ 1000
 nc : p.cu.length ≤ 1000
 nd : p.cd.length ≤ 1000
 ne : p.de.length ≤ 1000

end Go.Proofs.YtniigfikpfinfaaGreat

/- Contracts of the reference's arithmetic for canonical fractions. -/
namespace Go.Proofs.YtniigfikpfinfaaGreat
open Go.RowKit

theorem Tn.fit {k : Nat} {q : Rat} (h : Tn k q) (hk : k < 4294967296) : Fit 200 q :=
 Fit.mono (k := 1) ⟨by have := h.1; simp only [Nat.pow_one]; omega, by have := h.2; simp only [Nat.pow_one]; omega⟩ (by decide)
theorem r_MulC (a b : Value) (p q : Rat) (w m : World) (hV : Vw m w) (ha : FracC m a p) (hb : FracC m b q) (kp : Fit 200 p) (kq : Fit 200 q) :
  Calls Tryz.prog 27 #[a, b] w (RetV w m fun m' r => FracC m' r (p * q)) := r_Mul a b p q w m hV (ha.toV kp (by decide)) (hb.toV kq (by decide)) kp kq
theorem r_AddC (a b : Value) (p q : Rat) (w m : World) (hV : Vw m w) (ha : FracC m a p) (hb : FracC m b q) (kp : Fit 200 p) (kq : Fit 200 q) :
  Calls Tryz.prog 35 #[a, b] w (RetV w m fun m' r => FracC m' r (p + q)) := r_Add a b p q w m hV (ha.toV kp (by decide)) (hb.toV kq (by decide)) kp kq
theorem r_SubC (a b : Value) (p q : Rat) (w m : World) (hV : Vw m w) (ha : FracC m a p) (hb : FracC m b q) (kp : Fit 200 p) (kq : Fit 200 q) :
  Calls Tryz.prog 36 #[a, b] w (RetV w m fun m' r => FracC m' r (p - q)) := r_Sub a b p q w m hV (ha.toV kp (by decide)) (hb.toV kq (by decide)) kp kq
theorem r_DivC (a b : Value) (p q : Rat) (w m : World) (hV : Vw m w) (ha : FracC m a p) (hb : FracC m b q) (kp : Fit 200 p) (kq : Fit 200 q) :
  Calls Tryz.prog 34 #[a, b] w (RetV w m fun m' r => FracC m' r (p / q)) := r_Div a b p q w m hV (ha.toV kp (by decide)) (hb.toV kq (by decide)) kp kq
theorem Tn.int {z : Int} {k : Nat} (h : z.natAbs ≤ k) (hk : 1 ≤ k) : Tn k (z : Rat) := ⟨by simpa using h, by simpa using hk⟩
theorem div_mix (num den : Int) : (num : Rat) / (den : Rat) = Rat.divInt num den := (Rat.divInt_eq_div num den).symm
end Go.Proofs.YtniigfikpfinfaaGreat

/- Lists that are built by append, element by element. No program. -/
namespace Go.Proofs.YtniigfikpfinfaaGreat
open Go.RowKit

def RowA {α : Type} (e : TypeId) (size : Nat) (R : World → Value → α → Prop) (m : World) (v : Value) (n : Nat) (xs : List α) (Rr : List Lo) : Prop :=
 ∃ vs, Row e size v n (cellsOf vs) Rr ∧ (∀ u ∈ vs, u.cells.size = size) ∧ All2 (R m) vs xs ∧ vs.length = n
theorem RowA.nil {α : Type} {e : TypeId} {size : Nat} {R : World → Value → α → Prop} {m : World} : RowA e size R m (.slice none 0 0) 0 [] [] :=
 ⟨[], by simpa [cellsOf] using Row.nil e size, (fun _ h => by cases h), trivial, rfl⟩
theorem RowA.le {α : Type} {e : TypeId} {size : Nat} {R : World → Value → α → Prop} (hR : ∀ m m' v x, R m v x → Le m m' → R m' v x) {m m' : World} {v : Value} {n : Nat} {xs : List α} {Rr : List Lo} (h : RowA e size R m v n xs Rr) (hb : Le m m') : RowA e size R m' v n xs Rr := by
 obtain ⟨vs, h1, h2, h3, h4⟩ := h
 exact ⟨vs, h1, h2, h3.mono fun v x hv => hR m m' v x hv hb, h4⟩
theorem RowA.snoc {α : Type} {e : TypeId} {size : Nat} {R : World → Value → α → Prop} {m : World} {n : Nat} {xs : List α} {vs : List Value} {ws : List Value} {x : α} {v' : Value} {R' : List Lo}
  (h1 : Row e size v' (n + 1) (cellsOf vs ++ ws) R') (h2 : ∀ u ∈ vs, u.cells.size = size) (h3 : All2 (R m) vs xs) (h4 : vs.length = n) (hw : ws.length = size) (hx : R m (.agg ws.toArray) x) : RowA e size R m v' (n + 1) (xs ++ [x]) R' := by
 refine ⟨vs ++ [.agg ws.toArray], ?_, ?_, h3.snoc hx, by simp [h4]⟩
 ·rw [cellsOf_append, cellsOf_one]
  simpa [Value.cells] using h1
 ·intro u hu
  rcases List.mem_append.1 hu with hu | hu
  ·exact h2 u hu
  ·rcases List.mem_singleton.1 hu with rfl
   simpa [Value.cells] using hw
theorem RowA.show {α : Type} {e : TypeId} {size : Nat} {R : World → Value → α → Prop} (hR : ∀ m m' v x, R m v x → Le m m' → R m' v x) {w0 m0 W m : World} {A Rr : List Lo} {v : Value} {n : Nat} {xs : List α} (hL : Loc w0 m0 W m (A ++ Rr)) (h : RowA e size R m v n xs Rr) :
  ∃ m', Loc w0 m0 W m' A ∧ Le m m' ∧ ListV size R m' v xs ∧ ∃ cs, W.ownsRow w0.heap.size e size v n cs := by
 obtain ⟨vs, h1, h2, h3, h4⟩ := h
 obtain ⟨m', B, c, hL', hle, rfl, hc, hs, ho⟩ := Loc.show hL h1
 exact ⟨m', hL', hle, ListV.mk hc h4 h2 hs (h3.mono fun v x hv => hR m m' v x hv hle), _, ho⟩
theorem RowA.lit {α : Type} {e : TypeId} {size : Nat} {R : World → Value → α → Prop} {m : World} {v : Value} {n : Nat} {xs : List α} {Rr : List Lo} (h : RowA e size R m v n xs Rr) : ∃ A c, v = .slice A n c ∧ RowA e size R m (.slice A n c) n xs Rr := by
 have h' := h
 obtain ⟨vs, h1, _⟩ := h
 obtain ⟨A, c, rfl, _⟩ := h1.lit
 exact ⟨A, c, rfl, h'⟩
def NewS1 (e : TypeId) (R : World → Value → Prop) (v : Value) (u um : World) : Prop := ∃ g cs, v = .slice (some ⟨g, 0, none⟩) 1 1 ∧ Blk u g e cs ∧ R um (.agg cs)
theorem one2_s1 {a : Act} {dst : Option Nat} {W1 m1 : World} {e : TypeId} {R : World → Value → Prop} {cs : Array Value} (hV : Vw m1 W1) (hR : ∀ m', Ext m1 m' → R m' (.agg cs)) :
  One2 (NewS1 e R) false a dst W1 m1 .normal (a.put dst (.slice (some ⟨W1.heap.size, 0, none⟩) 1 1)) (W1.alloc (.cells cs e)) := by
 have h := (Loc.start hV).alloc cs e
 exact ⟨rfl, h.ext, _, _, h.mext, h.vw, rfl, ⟨W1.heap.size, cs, rfl, Blk.new _ _ _, hR _ h.mext⟩, fun h => by cases h⟩
theorem take_snoc {α : Type} {l : List α} {k : Nat} {x : α} (h : l[k]? = some x) : l.take k ++ [x] = l.take (k + 1) := by rw [List.take_add_one, h]; rfl
end Go.Proofs.YtniigfikpfinfaaGreat

/- Rows that are new and shown at once; slices of one element; a row that is taken out of the list. No program. -/
namespace Go.Proofs.YtniigfikpfinfaaGreat
open Go.RowKit

theorem Loc.allocV {w0 m0 W m : World} {Ls : List Lo} (h : Loc w0 m0 W m Ls) (cs : Array Value) (t : TypeId) :
  Loc w0 m0 (W.alloc (.cells cs t)) (m.alloc (.cells cs t)) Ls := by
 have hs := h.vw.size
 refine ⟨h.size0, h.ext.alloc _, h.mext.alloc _, ⟨h.vw.os, h.vw.tape, h.vw.output, by simp [hs], fun a u hu => ?_⟩, h.low, fun x hx => (h.blk x hx).alloc _, fun x hx a ha => ?_, h.apart⟩
 ·by_cases e : a.block = m.heap.size
  ·obtain ⟨b, o, s⟩ := a
   simp only at e
   subst e
   have b1 := Blk.new m t cs
   have b2 : Blk (W.alloc (.cells cs t)) m.heap.size t cs := by rw [hs]; exact Blk.new W t cs
   unfold Blk at b1 b2
   unfold World.cell? at hu ⊢
   rw [b1] at hu
   rw [b2]
   exact hu
  ·exact cell_alloc_old (h.vw.cell _ _ (cell_alloc_iff hu e))
 ·cases hc : (m.alloc (.cells cs t)).cell? a with
  | none => rfl
  | some u =>
   have := cell_alloc_iff hc (by rw [ha, hs]; exact Nat.ne_of_lt (h.blk x hx).lt)
   rw [h.hid x hx a ha] at this; cases this
section
variable {P : Program} {ops : Array Oper} {Q : Exit → Act → World → Prop} {rest : List Oper} {o : Oper} {a : Act} {w0 m0 W m : World} {Ls : List Lo}
theorem wl_bslice (hL : Loc w0 m0 W m Ls) (hw : Region.wanted o (yielded ops a.tmps) = true) {t : TypeId} {k : Nat} {parts : Array (Nat × Operand)} (_ho : o.op = .buildSlice t k parts) {n : Nat} {cs : Array Value} {e : TypeId}
  (hrun : ∀ w, (execOp a.eval o).run P w = .ok (.value (.slice (some ⟨w.heap.size, 0, none⟩) n n)) (w.alloc (.cells cs e)))
  (h : ∀ W' m', Loc w0 m0 W' m' Ls → Ext m m' → Blk m' W.heap.size e cs → wpList P ops Q rest (a.put o.dst (.slice (some ⟨W.heap.size, 0, none⟩) n n)) W') : wpList P ops Q (o :: rest) a W := by
 refine wpList_wanted hw fun _ hK => ?_
 unfold Oper.wp
 rw [hrun W]
 refine hK _ _ (h _ _ (hL.allocV cs e) (Ext.new _ _) ?_)
 rw [← hL.vw.size]
 exact Blk.new m e cs
end

theorem foldl_splice (off : Nat) : ∀ (l : List Value) (k : Nat) (cs : Array Value), (l.zipIdx k).foldl (fun cs (x : Value × Nat) => cs.setIfInBounds (off + x.2) x.1) cs = splice cs (off + k) l
 | [], _, _ => rfl
 | v :: r, k, cs => by
  rw [List.zipIdx_cons, List.foldl_cons, foldl_splice off r (k + 1), splice]; rfl
theorem splice_all {ws : List Value} {cs : Array Value} (h : cs.size = ws.length) : splice cs 0 ws = ws.toArray := by
 apply Array.ext_getElem?
 intro j
 rw [splice_at ws 0 cs (by omega)]
 by_cases hj : j < ws.length
 ·rw [if_pos ⟨by omega, by omega⟩]; simp
 ·rw [if_neg (by omega)]
  rw [Array.getElem?_eq_none (by omega)]; simp; omega
theorem run_bs1 {P : Program} {t e : TypeId} {size bytes : Nat} (hap : apS P t = some (e, size, bytes, size)) (h0 : 0 < size) (h1 : size ≤ 1000) {v : Value} {ws : List Value} (hv : v.cells = ws.toArray) (hw : ws.length = size) (w : World) :
  (Instr.buildSlice t 1 #[(0, v)]).run P w = .ok (.slice (some ⟨w.heap.size, 0, none⟩) 1 1) (w.alloc (.cells ws.toArray e)) := by
 obtain ⟨i, z, ht, hi, hz, hs, hb, hzs⟩ := ap_desc hap
 have hle : ¬ (1 * i.size > 2 ^ 24) := by omega
 have hne : ¬ (1 * i.size = 0) := by omega
 have hfill : ∀ cs : Array Value, cs.size = size → Instr.fill (fun j => some (j * i.size, i.size)) cs [(0, v)] = some ws.toArray := by
  intro cs hcs
  unfold Instr.fill
  have e1 : v.cells.size = i.size := by rw [hv]; simp [hw, hs]
  simp only [e1, ne_eq, not_true_eq_false, decide_false, Bool.false_or, Nat.zero_mul, Nat.zero_add]
  rw [if_neg (by simp; omega)]
  unfold Instr.fill
  congr 1
  rw [hv]
  have := foldl_splice 0 ws 0 cs
  simp only [Nat.zero_add, Nat.add_zero] at this
  have h2 := splice_all (cs := cs) (ws := ws) (by omega)
  rw [← Array.foldl_toList, Array.toList_zipIdx]
  exact this.trans h2
 have hsz : (sizeOf e).run P w = .ok i.size w := by simp [sizeOf, typeInfo, hi]
 have hzv : (zeroValue e).run P w = .ok z w := by simp [zeroValue, typeInfo, hi, hz]
 unfold Instr.buildSlice
 simp only [Sem.run_bind, run_underlying ht, hsz, Result.andThen_ok]
 rw [if_neg hle, if_neg hne]
 simp only [Sem.run_bind, hzv, Sem.run_pure, Result.andThen_ok]
 rw [hfill _ (by simp [hs])]
 simp [newRow, go_sem]
section
variable {P : Program} {ops : Array Oper} {Q : Exit → Act → World → Prop} {rest : List Oper} {o : Oper} {a : Act} {w0 m0 W m : World} {Ls : List Lo}
theorem wl_bs1 (hL : Loc w0 m0 W m Ls) (hw : Region.wanted o (yielded ops a.tmps) = true) {t : TypeId} {x : Operand} (ho : o.op = .buildSlice t 1 #[(0, x)]) {e : TypeId} {size bytes : Nat} (hap : apS P t = some (e, size, bytes, size)) (h0 : 0 < size) (h1 : size ≤ 1000)
  {v : Value} (hx : a.eval x = v) {ws : List Value} (hv : v.cells = ws.toArray) (hl : ws.length = size)
  (h : ∀ W' m', Loc w0 m0 W' m' Ls → Ext m m' → Blk m' W.heap.size e ws.toArray → wpList P ops Q rest (a.put o.dst (.slice (some ⟨W.heap.size, 0, none⟩) 1 1)) W') : wpList P ops Q (o :: rest) a W := by
 refine wl_bslice (e := e) (cs := ws.toArray) (n := 1) hL hw ho (fun w => ?_) h
 unfold execOp
 simp only [ho, List.map_toArray, List.map_cons, List.map_nil, hx, Sem.run_bind, run_bs1 hap h0 h1 hv hl, Result.andThen_ok, Sem.run_pure]
theorem t_bsA (hL : Loc w0 m0 W m Ls) {t : TypeId} {x : Operand} (ho : o.op = .buildSlice t 1 #[(0, x)]) {ws : List Value} (hx : a.eval x = .agg ws.toArray) {e : TypeId} {size bytes : Nat} [hap : ApC P t e size bytes]
  (h : ∀ W' m', Loc w0 m0 W' m' Ls → Ext m m' → Blk m' W.heap.size e ws.toArray → wpList P ops Q rest (a.put o.dst (.slice (some ⟨W.heap.size, 0, none⟩) 1 1)) W')
  (hz : 0 < size ∧ size ≤ 1000 ∧ ws.length = size := by refine ⟨by decide, by decide, rfl⟩)
  (hw : Region.wanted o (yielded ops a.tmps) = true := by first | exact wanted_none rfl | exact wanted_some rfl rfl rfl rfl) : wpList P ops Q (o :: rest) a W := wl_bs1 hL hw ho hap.h hz.1 hz.2.1 hx rfl hz.2.2 h
theorem t_bsV (hL : Loc w0 m0 W m Ls) {t : TypeId} {x : Operand} (ho : o.op = .buildSlice t 1 #[(0, x)]) {v : Value} (hx : a.eval x = v) {e : TypeId} {bytes : Nat} [hap : ApC P t e 1 bytes]
  (h : ∀ W' m', Loc w0 m0 W' m' Ls → Ext m m' → Blk m' W.heap.size e #[v] → wpList P ops Q rest (a.put o.dst (.slice (some ⟨W.heap.size, 0, none⟩) 1 1)) W')
  (hv : v.cells = #[v] := by exact rfl)
  (hw : Region.wanted o (yielded ops a.tmps) = true := by first | exact wanted_none rfl | exact wanted_some rfl rfl rfl rfl) : wpList P ops Q (o :: rest) a W := wl_bs1 (ws := [v]) hL hw ho hap.h (by omega) (by omega) hx hv rfl h
end
theorem kBs {P : Program} {ops : Array Oper} {Q : Exit → Act → World → Prop} {rest : List Oper} {a : Act} {W : World} {d : Option Tmp} {ty t : TypeId} {pos : String} {af : Array Edge} {gd : Option (Nat × Bool)} {ps : Array (Nat × Operand)} {n : Nat}
  (h : wpList P ops Q (⟨d, .buildSlice t n ps, ty, pos, af, gd⟩ :: rest) a W) : wpList P ops Q (⟨d, .buildSlice t n ps, ty, pos, af, gd⟩ :: rest) a W := h
theorem stA {P : Program} {ops : Array Oper} {Q : Exit → Act → World → Prop} {rest : List Oper} {a : Act} {W : World} {d : Option Tmp} {ty : TypeId} {pos : String} {af : Array Edge} {gd : Option (Nat × Bool)} {xs : Array Operand} {ts : Array TypeId}
  (h : Hid (wpList P ops Q (⟨d, .call { callee := .builtin .append, args := xs, argTypes := ts }, ty, pos, af, gd⟩ :: rest) a W)) : wpList P ops Q (⟨d, .call { callee := .builtin .append, args := xs, argTypes := ts }, ty, pos, af, gd⟩ :: rest) a W := h
theorem goA {p : Prop} (h : p) : Hid p := h
theorem RowA.snocV {α : Type} {e : TypeId} {size : Nat} {R : World → Value → α → Prop} {m : World} {n : Nat} {xs : List α} {vs : List Value} {v : Value} {x : α} {v' : Value} {R' : List Lo}
  (h1 : Row e size v' (n + 1) (cellsOf vs ++ [v]) R') (h2 : ∀ u ∈ vs, u.cells.size = size) (h3 : All2 (R m) vs xs) (h4 : vs.length = n) (hv : v.cells = #[v]) (hs : size = 1) (hx : R m v x) : RowA e size R m v' (n + 1) (xs ++ [x]) R' := by
 refine ⟨vs ++ [v], ?_, ?_, h3.snoc hx, by simp [h4]⟩
 ·rw [cellsOf_append, cellsOf_one, hv]
  exact h1
 ·intro u hu
  rcases List.mem_append.1 hu with hu | hu
  ·exact h2 u hu
  ·rcases List.mem_singleton.1 hu with rfl
   rw [hv, hs]; rfl
theorem RowA.len {α : Type} {e : TypeId} {size : Nat} {R : World → Value → α → Prop} {m : World} {v : Value} {n : Nat} {xs : List α} {Rr : List Lo} (h : RowA e size R m v n xs Rr) : n = xs.length := by
 obtain ⟨vs, _, _, h3, h4⟩ := h
 rw [← h4, h3.length]
end Go.Proofs.YtniigfikpfinfaaGreat

/- Contracts of lagrange.smaller (any small parts) and lagrange.Bound without cuts, decisions and columns. -/
namespace Go.Proofs.YtniigfikpfinfaaGreat
open Go.RowKit

abbrev SF := Int × Int
def SFr (m : World) (v : Value) (p : SF) : Prop := FracS m v p.1 p.2
abbrev SFL := ListV (α := SF) 4 SFr
theorem FracS.lit {m : World} {v : Value} {x y : Int} (h : FracS m v x y) : ∃ g A n c g' B k d, v = .agg #[.bool g, .slice A n c, .bool g', .slice B k d] ∧ FracS m (.agg #[.bool g, .slice A n c, .bool g', .slice B k d]) x y := by
 have h' := h
 obtain ⟨a, b, c, d, rfl, h1, h2, _⟩ := h
 obtain ⟨g, A, n, c', rfl, rfl⟩ := h1.parts'
 obtain ⟨g', B, k, d', rfl, rfl⟩ := h2.parts'
 exact ⟨_, _, _, _, _, _, _, _, rfl, h'⟩
theorem SFL.at_ {m : World} {A : Option Addr} {n c : Nat} {ps : List SF} (h : SFL m (.slice A n c) ps) {k : Nat} {p : SF} (hk : ps[k]? = some p) :
  ∃ b off g A1 n1 c1 g' B k' d, A = some ⟨b, off, none⟩ ∧ FracS m (.agg #[.bool g, .slice A1 n1 c1, .bool g', .slice B k' d]) p.1 p.2 ∧ m.rangeAt b (off + k * 4) [.bool g, .slice A1 n1 c1, .bool g', .slice B k' d] := by
 obtain ⟨b, off, v, e, hv, _, hr⟩ := ListV.at_ h (by omega) hk
 obtain ⟨g, A1, n1, c1, g', B, k', d, rfl, hv⟩ := FracS.lit hv
 exact ⟨b, off, g, A1, n1, c1, g', B, k', d, e, hv, hr⟩

def vS (p : SF) : Rat := Rat.divInt p.1 p.2
end Go.Proofs.YtniigfikpfinfaaGreat

/- Rows that are new and shown at once; closed values. -/
namespace Go.Proofs.YtniigfikpfinfaaGreat
open Go.RowKit

def BdR (m : World) (v : Value) (q : Rat) : Prop := ∃ r, v = .tuple #[r, .int .i64 0] ∧ FracC m r q
theorem BdR.le {m m' : World} {v : Value} {q : Rat} (h : BdR m v q) (hb : Le m m') : BdR m' v q := by
 obtain ⟨r, e, h⟩ := h
 exact ⟨r, e, h.le hb⟩
def kF2 : List SF := [(0, 0), (0, 0)]
end Go.Proofs.YtniigfikpfinfaaGreat

/- Contract of pairinglaw28.known. -/
namespace Go.Proofs.YtniigfikpfinfaaGreat
open Go.RowKit

def PrZ (m : World) (v : Value) : Prop := ∃ A c, v = .agg #[.slice A 2 c, .slice none 0 0, .slice none 0 0, .slice none 0 0, .bool false] ∧ SFL m (.slice A 2 c) kF2
theorem SFL.le {m m' : World} {v : Value} {ps : List SF} (h : SFL m v ps) (hb : Le m m') : SFL m' v ps := ListV.le (R := SFr) (fun _ _ _ _ h hb => FracS.le h hb) h hb
theorem PrZ.le {m m' : World} {v : Value} (h : PrZ m v) (hb : Le m m') : PrZ m' v := by
 obtain ⟨A, c, e, h⟩ := h
 exact ⟨A, c, e, SFL.le h hb⟩
end Go.Proofs.YtniigfikpfinfaaGreat

/- Facts on the types of columns; what pairingdata.Column builds. -/
namespace Go.Proofs.YtniigfikpfinfaaGreat
open Go.RowKit

theorem ap_Tasks : apS Tryz.prog 142 = some (140, 2, 16, 2) := by kernel_rfl
instance iC0_1 : ApC Tryz.prog 142 140 2 16 := ⟨ap_Tasks⟩
theorem ap_Duties : apS Tryz.prog 97 = some (142, 1, 24, 1) := by kernel_rfl
instance iC0_2 : ApC Tryz.prog 97 142 1 24 := ⟨ap_Duties⟩
theorem ap_intss : apS Tryz.prog 112 = some (22, 1, 24, 1) := by kernel_rfl
instance iC0_3 : ApC Tryz.prog 112 22 1 24 := ⟨ap_intss⟩
theorem ag_Task : agS Tryz.prog 140 = some 2 := by kernel_rfl
instance iC0_4 : AgC Tryz.prog 140 2 := ⟨ag_Task⟩
theorem zc_Col : zc Tryz.prog 101 = some #[.string ⟨#[]⟩, .slice none 0 0, .int .i64 0] := by kernel_rfl
instance iC0_5 : ZcC Tryz.prog 101 #[.string ⟨#[]⟩, .slice none 0 0, .int .i64 0] := ⟨zc_Col⟩

theorem i64_mask (n : Int) (j : Nat) (z : Int) (hz : (BitVec.ofInt 64 z).toNat = 2 ^ j - 1) (hj : j ≤ 16) : bits .and .i64 n z = n % 2 ^ j := by
 have key : (BitVec.ofInt 64 n &&& BitVec.ofInt 64 z).toNat = (n % ((2 ^ 64 : Nat) : Int)).toNat % 2 ^ j := by
  rw [BitVec.toNat_and, BitVec.toNat_ofInt, hz, Nat.and_two_pow_sub_one_eq_mod]
 show IntKind.i64.wrap ((BitVec.ofInt 64 n &&& BitVec.ofInt 64 z).toNat : Nat) = n % 2 ^ j
 have hp : (2 : Nat) ^ j ≤ 2 ^ 16 := Nat.pow_le_pow_right (by omega) hj
 have hd : (2 : Int) ^ j ∣ ((2 ^ 64 : Nat) : Int) := by
  refine ⟨2 ^ (64 - j), ?_⟩
  rw [← Int.pow_add, show j + (64 - j) = 64 by omega]; rfl
 have e : (((n % ((2 ^ 64 : Nat) : Int)).toNat % 2 ^ j : Nat) : Int) = n % 2 ^ j := by
  rw [Int.natCast_emod, Int.toNat_of_nonneg (Int.emod_nonneg _ (by decide))]
  have : ((2 ^ j : Nat) : Int) = 2 ^ j := by simp
  rw [this, Int.emod_emod_of_dvd _ hd]
 rw [key, e, IntKind.wrap_i64]
 have h0 : 0 ≤ n % 2 ^ j := Int.emod_nonneg _ (by have : (0 : Int) < 2 ^ j := Int.pow_pos (by decide); omega)
 have h1 : n % 2 ^ j < 2 ^ j := Int.emod_lt_of_pos _ (Int.pow_pos (by decide))
 have h2 : (2 : Int) ^ j ≤ 65536 := by
  have h3 : ((2 ^ j : Nat) : Int) ≤ ((65536 : Nat) : Int) := Int.ofNat_le.2 hp
  rwa [Int.natCast_pow] at h3
 omega
theorem i64_and1 (n : Int) : bits .and .i64 n 1 = n % 2 := i64_mask n 1 1 (by decide) (by decide)
theorem i64_and3 (n : Int) : bits .and .i64 n 7 = n % 8 := i64_mask n 3 7 (by decide) (by decide)
theorem i64_and2' (n : Int) : bits .and .i64 n 3 = n % 4 := i64_mask n 2 3 (by decide) (by decide)

theorem Loc.less {w0 m0 W m : World} {A B : List Lo} (h : Loc w0 m0 W m A) (hs : B.Sublist A) : Loc w0 m0 W m B :=
 ⟨h.size0, h.ext, h.mext, h.vw, fun y hy => h.low y (hs.subset hy), fun y hy => h.blk y (hs.subset hy), fun y hy => h.hid y (hs.subset hy), h.apart.sublist hs⟩
theorem fin_aggR {P : Program} {fn : Func} {R : World → Value → Prop} {w m W mm m' : World} {Ls Lt : List Lo} (hL : Loc w m W mm Ls) {p : Nat} {ty : TypeId} (hr : fn.results = #[.cell p ty]) {a : Act} (hdf : a.defers = []) {g : Nat}
  (hp : a.tmps.getD p undef = .pointer (some ⟨g, 0, none⟩)) {n : Nat} {t : TypeId} {cs : Array Value} (hn : Ls[n]? = some (g, t, cs)) {k : Nat} (hty : agS P ty = some k) (hk : cs.size = k) (hL' : Loc w m W m' Lt) (h : R m' (.agg cs)) :
  bodyPost P fn (RetV w m R) .ret a W := by
 subst hk
 obtain ⟨d, hu, hd, hi⟩ := ag_desc hty
 exact bodyPost_ret (results_cell_row hr _ _ g t cs (0, 0) d hp (hL.at_ hn) hu (by cases d <;> first | rfl | exact hd) hi) hdf (RetV.mk hL' h)
abbrev Task := Int × Bool
def TaskR (_ : World) (v : Value) (x : Task) : Prop := v = .agg #[.int .i64 x.1, .bool x.2]
abbrev DutL := ListV (α := Task) 2 TaskR
theorem TaskR.mono (m m' : World) (v : Value) (x : Task) (h : TaskR m v x) (_ : Le m m') : TaskR m' v x := h
theorem DutL.le {m m' : World} {v : Value} {xs : List Task} (h : DutL m v xs) (hb : Le m m') : DutL m' v xs := ListV.le TaskR.mono h hb
theorem DutL.mono (m m' : World) (v : Value) (x : List Task) (h : DutL m v x) (hb : Le m m') : DutL m' v x := DutL.le h hb
abbrev DutsL := ListV (α := List Task) 1 DutL
theorem DutsL.le {m m' : World} {v : Value} {xs : List (List Task)} (h : DutsL m v xs) (hb : Le m m') : DutsL m' v xs := ListV.le DutL.mono h hb
abbrev Col := ByteArray × List (List Task) × Int
def ColR (m : World) (v : Value) (x : Col) : Prop := ∃ s, v = .agg #[.string x.1, s, .int .i64 x.2.2] ∧ DutsL m s x.2.1
theorem ColR.le {m m' : World} {v : Value} {x : Col} (h : ColR m v x) (hb : Le m m') : ColR m' v x := by
 obtain ⟨s, e, h⟩ := h
 exact ⟨s, e, DutsL.le h hb⟩
theorem ColR.mono (m m' : World) (v : Value) (x : Col) (h : ColR m v x) (hb : Le m m') : ColR m' v x := h.le hb
abbrev ColL := ListV (α := Col) 3 ColR
theorem ColL.le {m m' : World} {v : Value} {xs : List Col} (h : ColL m v xs) (hb : Le m m') : ColL m' v xs := ListV.le ColR.mono h hb

structure CS where
 d : List Task
 l : List (List Task)
 s : Bool
def csBit (n : Int) (i : Nat) : Bool := decide (n / 2 ^ i % 2 = 1)
def csF (rs : List Int) (k : Int) (i : Nat) : Int := if k / 2 % 8 = 7 then rs.getD (rs.length - 1 - i) 0 else rs.getD i 0
def csStep (f : Int) (tk ct : Bool) (c : CS) : CS := if tk then (if ct then ⟨[], c.l ++ [c.d ++ [(f, false)]], true⟩ else ⟨c.d ++ [(f, false)], c.l, true⟩) else c
def csAt (rs : List Int) (n k : Int) : Nat → CS
 | 0 => ⟨if k % 2 = 1 then [(0, true)] else [], [], false⟩
 | i + 1 => csStep (csF rs k i) (csBit n i) (decide (k / 16 % 4 = 3)) (csAt rs n k i)
def csD (rs : List Int) (n k : Int) : List Task := if (csAt rs n k rs.length).s then (csAt rs n k rs.length).d else (csAt rs n k rs.length).d ++ [(rs.getD (n / 64 % rs.length).toNat 0, false)]
def csL (rs : List Int) (n k : Int) : List (List Task) := if 0 < (csD rs n k).length then (csAt rs n k rs.length).l ++ [csD rs n k] else (csAt rs n k rs.length).l
def colF (rs : List Int) (n k : Int) : Col := (⟨#[65, 65, 65]⟩, csL rs n k, n / 32 % 41 - 5)
theorem csAt_len (rs : List Int) (n k : Int) : ∀ i, (csAt rs n k i).d.length ≤ i + 1 ∧ (csAt rs n k i).l.length ≤ i
 | 0 => by simp [csAt]; split <;> simp
 | i + 1 => by
  have := csAt_len rs n k i
  simp only [csAt, csStep]
  split
  ·split <;> simp <;> omega
  ·omega
end Go.Proofs.YtniigfikpfinfaaGreat

/- Contract of pairingdata.Column. -/
namespace Go.Proofs.YtniigfikpfinfaaGreat
open Go.RowKit

theorem bt {a b : Int} (h : a = b) : (a == b) = true := by simp [h]
theorem bf {a b : Int} (h : ¬ a = b) : (a == b) = false := by simp [h]

theorem d_Column (A : Option Addr) (c : Nat) (rs : List Int) (n k : Int) (w m : World) (hV : Vw m w) (hr : IntL m (.slice A rs.length c) rs) (h1 : 1 ≤ rs.length) (h2 : rs.length ≤ 6) (n0 : 0 ≤ n) (n1 : n ≤ 100000) (k0 : 0 ≤ k) (k1 : k ≤ 100000) :
  Calls Tryz.prog 60 #[.slice A rs.length c, .int .i64 n, .int .i64 k] w (RetV w m fun m' r => ColR m' r (colF rs n k)) := by
 generalize hq : rs.length = q at *
 have HQ := Lib.hid hq
 clear hq
 have e1 := i64_and1 k
 have hL := Loc.start hV
 clear hV
 by_cases hk : k % 2 = 1
 case' pos =>
  have b1 := bt hk
  have rd0 : Hid (csAt rs n k 0 = ⟨[(0, true)], [], false⟩) := by show _ = _; simp [csAt, hk]
  clear hk
  go_enter Tryz.func60, Tryz.ntmps60
  go_upto_region 0 with (fail)
  refine wp_region_lit ?_
  refine t_alloc hL rfl ?_; clear hL; intro Wh6 mh6 hL eh6; simp only [Act.put, zq1, zq2, zq3]
  go_wp2_with (first | go_skip | refine tP ?_ | (refine tS ?_; clear hL; intro _ hL) | (refine tB ?_; clear hL; intro _ _ hL _) | (refine tC ?_; clear hL; intro _ _ hL _ hBs))
  refine goA ?_
  refine wl_append (A := [_]) hL (Row.nil _ _) (wanted_none rfl) rfl ap_Tasks (by omega) rfl rfl (news := [.int .i64 0, .bool true]) rfl ((Blk.sl hBs (n := 2) rfl).le hL.vw.le) rfl (by omega) (by omega) ?_
  clear hL
  intro v1 W2 m2 R2 hL r8 e8
  obtain ⟨A8, c8, rfl, -⟩ := r8.lit
  simp only [List.cons_append, List.nil_append] at hL
  simp only [Act.put, zq1, zq2, zq3, Nat.zero_add]
  go_wp2_with (first | go_skip | refine tP ?_ | (refine tS ?_; clear hL; intro _ hL) | (refine tB ?_; clear hL; intro _ _ hL _) | (refine tC ?_; clear hL; intro _ _ hL _ hBs))
  have rd : Hid (RowA 140 2 TaskR m2 (.slice A8 1 c8) 1 (csAt rs n k 0).d R2) := by
   show RowA _ _ _ _ _ _ _ _
   rw [rd0.out]
   exact RowA.snoc (R := TaskR) (x := (0, true)) (xs := []) (vs := []) r8 (fun _ h => by cases h) trivial rfl rfl rfl
 case' neg =>
  have b1 := bf hk
  have rd0 : Hid (csAt rs n k 0 = ⟨[], [], false⟩) := by show _ = _; simp [csAt, hk]
  clear hk
  go_enter Tryz.func60, Tryz.ntmps60
  go_upto_region 0 with (fail)
  refine wp_region_lit ?_
  refine t_alloc hL rfl ?_; clear hL; intro Wh6 mh6 hL eh6; simp only [Act.put, zq1, zq2, zq3]
  go_wp2_with (first | go_skip | refine tP ?_ | (refine tS ?_; clear hL; intro _ hL) | (refine tB ?_; clear hL; intro _ _ hL _) | (refine tC ?_; clear hL; intro _ _ hL _ hBs))
 all_goals
  go_loopw [7, 8, 9, 10] (fun d l s i wr => ∃ (j : Nat) (mm : World) (nd nl : Nat) (Rd Rl : List Lo), j ≤ q ∧ i = .int .i64 j ∧ s = .bool (csAt rs n k j).s ∧ Loc w m wr mm ((w.heap.size, 101, #[.string ⟨#[]⟩, .slice none 0 0, .int .i64 0]) :: (Rl ++ Rd)) ∧ Hid (RowA 140 2 TaskR mm d nd (csAt rs n k j).d Rd) ∧ Hid (RowA 142 1 DutL mm l nl (csAt rs n k j).l Rl)) (fun _ _ _ i _ => q - (intOf i).toNat)
  case atStart =>
   first
   | exact ⟨0, m2, 1, 0, R2, [], Nat.zero_le _, rfl, congrArg (fun c => Value.bool c.s) rd0.out.symm, hL, rd, by rw [rd0.out]; exact RowA.nil⟩
   | exact ⟨0, mh6, 0, 0, [], [], Nat.zero_le _, rfl, congrArg (fun c => Value.bool c.s) rd0.out.symm, hL, by rw [rd0.out]; exact RowA.nil, by rw [rd0.out]; exact RowA.nil⟩
  case round =>
   clear hL
   obtain ⟨j, mm, nd, nl, Rd, Rl, hj, rfl, rfl, hL, rd, rl⟩ := hrel
   have hM := hL.mext
   obtain ⟨A7, c7, rfl, rd1⟩ := rd.out.lit
   obtain ⟨A8, c8, rfl, rl1⟩ := rl.out.lit
   have hnd : nd ≤ 10 := by have := rd1.len; have := csAt_len rs n k j; omega
   have hnl : nl ≤ 10 := by have := rl1.len; have := csAt_len rs n k j; omega
   have RD := Lib.hid rd1
   have RL := Lib.hid rl1
   clear rd rl rd1 rl1
   by_cases hlt : j < q
   ·obtain ⟨f0, hf0⟩ := at_some HQ hlt
    obtain ⟨f1, hf1⟩ := at_some (k := q - 1 - j) HQ (by omega)
    obtain ⟨b1, o1, rfl, hc1⟩ := IntL.at_ hr hf0
    obtain ⟨b2, o2, e2, hc2⟩ := IntL.at_ hr hf1
    injection e2 with e2
    injection e2 with e2 e3
    subst e2 e3
    have ex : (q : Int) - 1 - (j : Int) = ((q - 1 - j : Nat) : Int) := by omega
    have e7 := i64_and3 (k / 2)
    have e8 := i64_and1 (n / 2 ^ j)
    have e9 := i64_and2' (k / 16)
    by_cases h7 : k / 2 % 8 = 7
    case' pos =>
     have b7 := bt h7
     have HF : Hid (csF rs k j = f1) := by show _ = _; unfold csF; rw [if_pos h7, HQ.out, List.getD_eq_getElem?_getD, hf1]; rfl
     clear h7 hf0 hf1
     generalize f1 = f at *
     go_upto_region 12 with ((first | go_skip | refine tP ?_ | (refine tS ?_; clear hL; intro _ hL) | (refine tB ?_; clear hL; intro _ _ hL _) | (refine tC ?_; clear hL; intro _ _ hL _ hBs)))
    case' neg =>
     have b7 := bf h7
     have HF : Hid (csF rs k j = f0) := by show _ = _; unfold csF; rw [if_neg h7, List.getD_eq_getElem?_getD, hf0]; rfl
     clear h7 hf0 hf1
     generalize f0 = f at *
     go_upto_region 12 with ((first | go_skip | refine tP ?_ | (refine tS ?_; clear hL; intro _ hL) | (refine tB ?_; clear hL; intro _ _ hL _) | (refine tC ?_; clear hL; intro _ _ hL _ hBs)))
    all_goals
     clear hc1 hc2 ex b7 e7
     by_cases hb : n / 2 ^ j % 2 = 1
     ·have b8 := bt hb
      have HB : Hid (csBit n j = true) := by show _ = _; exact decide_eq_true hb
      clear hb
      by_cases hc : k / 16 % 4 = 3
      ·have b9 := bt hc
       have HS : Hid (csAt rs n k (j + 1) = ⟨[], (csAt rs n k j).l ++ [(csAt rs n k j).d ++ [(f, false)]], true⟩) := by show _ = _; simp [csAt, csStep, HF.out, HB.out, hc]
       clear hc
       go_wp2_with (first | go_skip | refine tP ?_ | (refine tS ?_; clear hL; intro _ hL) | (refine tB ?_; clear hL; intro _ _ hL _) | (refine tC ?_; clear hL; intro _ _ hL _ hBs))
       refine goA ?_
       obtain ⟨vs7, r7, z7, y7, l7⟩ := RD.out
       refine wl_append (A := _ :: Rl) hL r7 (wanted_none rfl) rfl ap_Tasks (by omega) rfl rfl (news := [.int .i64 f, .bool false]) rfl ((Blk.sl hBs (n := 2) rfl).le hL.vw.le) rfl (by omega) (by omega) ?_
       clear hL
       intro v1 W2 m2 R2 hL r8 e8
       obtain ⟨A9, c9, rfl, -⟩ := r8.lit
       have rd2 := RowA.snoc (R := TaskR) (m := m2) (x := (f, false)) r8 z7 (y7.mono fun _ _ hv => hv) l7 rfl rfl
       simp only [List.cons_append] at hL
       obtain ⟨m3, hL3, hle3, hdu, -⟩ := RowA.show (A := _ :: Rl) TaskR.mono hL rd2
       replace hle3 : Le mm m3 := Le.trans leX hle3
       clear hL
       have hL := hL3
       clear hL3
       simp only [Act.put, zq1, zq2, zq3]
       go_wp2_with (first | go_skip | refine tP ?_ | (refine tS ?_; clear hL; intro _ hL) | (refine tB ?_; clear hL; intro _ _ hL _) | (refine tC ?_; clear hL; intro _ _ hL _ hBs))
       refine goA ?_
       obtain ⟨vs8, r9, z9, y9, l9⟩ := RL.out
       refine wl_append (A := [_]) hL r9 (wanted_none rfl) rfl ap_Duties (by omega) rfl rfl (news := [.slice A9 (nd + 1) c9]) rfl ((Blk.sl hBs (n := 1) rfl).le hL.vw.le) rfl (by omega) (by omega) ?_
       clear hL
       intro v2 W4 m4 R4 hL r10 e10
       obtain ⟨A10, c10, rfl, -⟩ := r10.lit
       simp only [List.cons_append, List.nil_append] at hL
       have hle4 : Le m3 m4 := leX
       have rl2 := RowA.snocV (R := DutL) (m := m4) r10 z9 (y9.mono fun v x hv => DutL.mono _ _ _ _ hv (Le.trans hle3 hle4)) l9 rfl rfl (DutL.le hdu hle4)
       simp only [Act.put, zq1, zq2, zq3]
       go_wp2_with (first | go_skip | refine tP ?_ | (refine tS ?_; clear hL; intro _ hL) | (refine tB ?_; clear hL; intro _ _ hL _) | (refine tC ?_; clear hL; intro _ _ hL _ hBs))
       go_roundw
       case rel => exact ⟨j + 1, m4, 0, nl + 1, [], R4, by omega, by go_num, by rw [HS.out], by rw [List.append_nil]; exact hL, by rw [HS.out]; exact RowA.nil, by rw [HS.out]; exact rl2⟩
       case measure => simp [intOf] <;> omega
      ·have b9 := bf hc
       have HS : Hid (csAt rs n k (j + 1) = ⟨(csAt rs n k j).d ++ [(f, false)], (csAt rs n k j).l, true⟩) := by show _ = _; simp [csAt, csStep, HF.out, HB.out, hc]
       clear hc
       go_wp2_with (first | go_skip | refine tP ?_ | (refine tS ?_; clear hL; intro _ hL) | (refine tB ?_; clear hL; intro _ _ hL _) | (refine tC ?_; clear hL; intro _ _ hL _ hBs))
       refine goA ?_
       obtain ⟨vs7, r7, z7, y7, l7⟩ := RD.out
       refine wl_append (A := _ :: Rl) hL r7 (wanted_none rfl) rfl ap_Tasks (by omega) rfl rfl (news := [.int .i64 f, .bool false]) rfl ((Blk.sl hBs (n := 2) rfl).le hL.vw.le) rfl (by omega) (by omega) ?_
       clear hL
       intro v1 W2 m2 R2 hL r8 e8
       obtain ⟨A9, c9, rfl, -⟩ := r8.lit
       have rd2 := RowA.snoc (R := TaskR) (m := m2) (x := (f, false)) r8 z7 (y7.mono fun _ _ hv => hv) l7 rfl rfl
       simp only [List.cons_append] at hL
       simp only [Act.put, zq1, zq2, zq3]
       go_wp2_with (first | go_skip | refine tP ?_ | (refine tS ?_; clear hL; intro _ hL) | (refine tB ?_; clear hL; intro _ _ hL _) | (refine tC ?_; clear hL; intro _ _ hL _ hBs))
       go_roundw
       case rel => exact ⟨j + 1, m2, nd + 1, nl, R2, Rl, by omega, by go_num, by rw [HS.out], hL, by rw [HS.out]; exact rd2, by rw [HS.out]; exact RowA.le DutL.mono RL.out leX⟩
       case measure => simp [intOf] <;> omega
     ·have b8 := bf hb
      have HS : Hid (csAt rs n k (j + 1) = csAt rs n k j) := by show _ = _; simp [csAt, csStep, csBit, hb]
      clear hb
      go_wp2_with (first | go_skip | refine tP ?_ | (refine tS ?_; clear hL; intro _ hL) | (refine tB ?_; clear hL; intro _ _ hL _) | (refine tC ?_; clear hL; intro _ _ hL _ hBs))
      go_roundw
      case rel => exact ⟨j + 1, mm, nd, nl, Rd, Rl, by omega, by go_num, by rw [HS.out], hL, by rw [HS.out]; exact RD.out, by rw [HS.out]; exact RL.out⟩
      case measure => simp [intOf] <;> omega
   ·obtain rfl : j = q := by omega
    have e6 : n / 64 % (j : Int) = ((n / 64 % j).toNat : Int) := by have := Int.emod_nonneg (n / 64) (b := j) (by omega); omega
    have hi6 : (n / 64 % j).toNat < j := by have := Int.emod_lt_of_pos (n / 64) (b := j) (by omega); omega
    cases hs : (csAt rs n k j).s
    ·obtain ⟨f, hf⟩ := at_some HQ hi6
     obtain ⟨b1, o1, rfl, hc1⟩ := IntL.at_ hr hf
     have HD : Hid (csD rs n k = (csAt rs n k j).d ++ [(f, false)]) := by
      show _ = _
      unfold csD
      rw [HQ.out, hs, List.getD_eq_getElem?_getD, hf]; rfl
     have HL : Hid (csL rs n k = (csAt rs n k j).l ++ [(csAt rs n k j).d ++ [(f, false)]]) := by
      show _ = _
      unfold csL
      rw [HD.out, HQ.out, if_pos (by simp)]
     clear hs hf
     generalize (n / 64 % j).toNat = i6 at *
     go_wp2_with (first | go_skip | refine tP ?_ | (refine tS ?_; clear hL; intro _ hL) | (refine tB ?_; clear hL; intro _ _ hL _) | (refine tC ?_; clear hL; intro _ _ hL _ hBs))
     refine goA ?_
     obtain ⟨vs7, r7, z7, y7, l7⟩ := RD.out
     refine wl_append (A := _ :: Rl) hL r7 (wanted_none rfl) rfl ap_Tasks (by omega) rfl rfl (news := [.int .i64 f, .bool false]) rfl ((Blk.sl hBs (n := 2) rfl).le hL.vw.le) rfl (by omega) (by omega) ?_
     clear hL
     intro v1 W2 m2 R2 hL r8 e8
     obtain ⟨A9, c9, rfl, -⟩ := r8.lit
     have rd2 := RowA.snoc (R := TaskR) (m := m2) (x := (f, false)) r8 z7 (y7.mono fun _ _ hv => hv) l7 rfl rfl
     simp only [List.cons_append] at hL
     obtain ⟨m3, hL3, hle3, hdu, -⟩ := RowA.show (A := _ :: Rl) TaskR.mono hL rd2
     replace hle3 : Le mm m3 := Le.trans leX hle3
     clear hL
     have hL := hL3
     clear hL3
     simp only [Act.put, zq1, zq2, zq3]
     have hp6 : 0 < nd + 1 := by omega
     go_wp2_with (first | go_skip | refine tP ?_ | (refine tS ?_; clear hL; intro _ hL) | (refine tB ?_; clear hL; intro _ _ hL _) | (refine tC ?_; clear hL; intro _ _ hL _ hBs))
     refine goA ?_
     obtain ⟨vs8, r9, z9, y9, l9⟩ := RL.out
     refine wl_append (A := [_]) hL r9 (wanted_none rfl) rfl ap_Duties (by omega) rfl rfl (news := [.slice A9 (nd + 1) c9]) rfl ((Blk.sl hBs (n := 1) rfl).le hL.vw.le) rfl (by omega) (by omega) ?_
     clear hL
     intro v2 W4 m4 R4 hL r10 e10
     obtain ⟨A10, c10, rfl, -⟩ := r10.lit
     simp only [List.cons_append, List.nil_append] at hL
     have hle4 : Le m3 m4 := leX
     have rl2 := RowA.snocV (R := DutL) (m := m4) r10 z9 (y9.mono fun v x hv => DutL.mono _ _ _ _ hv (Le.trans hle3 hle4)) l9 rfl rfl (DutL.le hdu hle4)
     simp only [Act.put, zq1, zq2, zq3]
     go_wp2_with (first | go_skip | refine tP ?_ | (refine tS ?_; clear hL; intro _ hL) | (refine tB ?_; clear hL; intro _ _ hL _) | (refine tC ?_; clear hL; intro _ _ hL _ hBs))
     obtain ⟨m5, hL5, hle5, hdl, -⟩ := RowA.show (A := [_]) DutL.mono hL rl2
     refine fin_aggR hL Tryz.results60 rfl rfl loX ag_Col (by exact rfl) hL5 ?_
     refine ⟨_, rfl, ?_⟩
     show DutsL _ _ (csL rs n k)
     rw [HL.out]
     exact hdl
    ·by_cases hp6 : 0 < nd
     ·have HL : Hid (csL rs n k = (csAt rs n k j).l ++ [(csAt rs n k j).d]) := by
       show _ = _
       have h3 := RD.out.len
       unfold csL csD
       rw [HQ.out, hs, if_pos rfl, if_pos (by omega)]
      clear hs
      obtain ⟨m3, hL3, hle3, hdu, -⟩ := RowA.show (A := _ :: Rl) TaskR.mono hL RD.out
      replace hle3 : Le mm m3 := Le.trans leX hle3
      clear hL
      have hL := hL3
      clear hL3
      go_wp2_with (first | go_skip | refine tP ?_ | (refine tS ?_; clear hL; intro _ hL) | (refine tB ?_; clear hL; intro _ _ hL _) | (refine tC ?_; clear hL; intro _ _ hL _ hBs))
      refine goA ?_
      obtain ⟨vs8, r9, z9, y9, l9⟩ := RL.out
      refine wl_append (A := [_]) hL r9 (wanted_none rfl) rfl ap_Duties (by omega) rfl rfl (news := [.slice A7 nd c7]) rfl ((Blk.sl hBs (n := 1) rfl).le hL.vw.le) rfl (by omega) (by omega) ?_
      clear hL
      intro v2 W4 m4 R4 hL r10 e10
      obtain ⟨A10, c10, rfl, -⟩ := r10.lit
      simp only [List.cons_append, List.nil_append] at hL
      have hle4 : Le m3 m4 := leX
      have rl2 := RowA.snocV (R := DutL) (m := m4) r10 z9 (y9.mono fun v x hv => DutL.mono _ _ _ _ hv (Le.trans hle3 hle4)) l9 rfl rfl (DutL.le hdu hle4)
      simp only [Act.put, zq1, zq2, zq3]
      go_wp2_with (first | go_skip | refine tP ?_ | (refine tS ?_; clear hL; intro _ hL) | (refine tB ?_; clear hL; intro _ _ hL _) | (refine tC ?_; clear hL; intro _ _ hL _ hBs))
      obtain ⟨m5, hL5, hle5, hdl, -⟩ := RowA.show (A := [_]) DutL.mono hL rl2
      refine fin_aggR hL Tryz.results60 rfl rfl loX ag_Col (by exact rfl) hL5 ?_
      refine ⟨_, rfl, ?_⟩
      show DutsL _ _ (csL rs n k)
      rw [HL.out]
      exact hdl
     ·have HL : Hid (csL rs n k = (csAt rs n k j).l) := by
       show _ = _
       have h3 := RD.out.len
       unfold csL csD
       rw [HQ.out, hs, if_pos rfl, if_neg (by omega)]
      clear hs
      replace hL := hL.less (List.Sublist.cons_cons _ (List.sublist_append_left _ _))
      go_wp2_with (first | go_skip | refine tP ?_ | (refine tS ?_; clear hL; intro _ hL) | (refine tB ?_; clear hL; intro _ _ hL _) | (refine tC ?_; clear hL; intro _ _ hL _ hBs))
      obtain ⟨m5, hL5, hle5, hdl, -⟩ := RowA.show (A := [_]) DutL.mono hL RL.out
      refine fin_aggR hL Tryz.results60 rfl rfl loX ag_Col (by exact rfl) hL5 ?_
      refine ⟨_, rfl, ?_⟩
      show DutsL _ _ (csL rs n k)
      rw [HL.out]
      exact hdl
end Go.Proofs.YtniigfikpfinfaaGreat

/- What pairingdata.Master builds; small lemmas for its walk. -/
namespace Go.Proofs.YtniigfikpfinfaaGreat
open Go.RowKit

theorem atF_bd (l : List Int) (i : Nat) (h : i ≤ 1000) : 0 ≤ atF l i ∧ atF l i ≤ 70000 := by
 unfold atF
 split
 ·omega
 ·have : i / l.length ≤ 1000 := Nat.le_trans (Nat.div_le_self _ _) h
  generalize i / l.length = q at *
  omega
theorem atX (l : List Int) (i : Nat) (h : i ≤ 1000) : ∃ a : Int, Hid (atF l i = a) ∧ 0 ≤ a ∧ a ≤ 70000 := ⟨_, rfl, atF_bd l i h⟩
theorem d_AtE (A : Option Addr) (c N : Nat) (l : List Int) (z : Int) (i : Nat) (a : Int) (w m : World) (hV : Vw m w) (h : Sl m A (l.map I64)) (hN : Hid (l.length = N)) (hl : Hid (True)) (e : Hid (atF l i = a)) (hz : z = i) (hi : i ≤ 1000) :
  Calls Tryz.prog 59 #[.slice A N c, .int .i64 z] w (RetV w m fun _ r => r = .int .i64 a) := by
 subst hz
 have := d_At A c l i w m hV h hi
 rwa [hN.out, e.out] at this

def rowsT : List (List Int) := [[0, 1, 2], [1, 2, 4], [0, 1, 2, 3], [0, 2, 3, 5], [0, 1, 2, 3, 4], [1, 2, 3, 4, 5]]
def rowsF (l : List Int) : List Int := rowsT.getD (atF l 1 % 6).toNat []
def colsG (rs l : List Int) (n : Nat) : List Col := (List.range n).map fun j => colF rs (atF l (5 + 2 * j)) (atF l (6 + 2 * j))
def cutG (rs : List Int) (sk : Nat) (j : Nat) : Option Int := if j ≠ sk ∨ rs.length = 3 then rs[j]? else none
def cutT (rs : List Int) (sk i : Nat) : List Int := (List.range i).filterMap (cutG rs sk)
def cutF (rs l : List Int) (k : Nat) : Cut := (cutT rs (atF l (20 + k) % rs.length).toNat rs.length, if atF l (24 + k) % 2 = 1 then 3 else 2)
def cutsG (rs l : List Int) (n : Nat) : List Cut := (List.range n).map (cutF rs l)
theorem range_snoc {α : Type} (f : Nat → α) (n : Nat) : (List.range (n + 1)).map f = (List.range n).map f ++ [f n] := by rw [List.range_succ, List.map_append]; rfl
theorem cutT_in {rs : List Int} {sk i : Nat} {f : Int} (h : rs[i]? = some f) (hc : i ≠ sk ∨ rs.length = 3) : cutT rs sk (i + 1) = cutT rs sk i ++ [f] := by
 unfold cutT
 rw [List.range_succ, List.filterMap_append]
 simp [cutG, hc, h]
theorem cutT_out {rs : List Int} {sk i : Nat} (hc : ¬ (i ≠ sk ∨ rs.length = 3)) : cutT rs sk (i + 1) = cutT rs sk i := by
 unfold cutT
 rw [List.range_succ, List.filterMap_append]
 simp [cutG, hc]
theorem cutT_len (rs : List Int) (sk i : Nat) : (cutT rs sk i).length ≤ i := by
 unfold cutT
 exact Nat.le_trans (List.length_filterMap_le _ _) (by simp)
theorem rowsT_len : ∀ i : Fin 6, 3 ≤ (rowsT.getD i.1 []).length ∧ (rowsT.getD i.1 []).length ≤ 5 := by decide
theorem cutT_long : ∀ i : Fin 6, ∀ s : Fin 5, s.1 < (rowsT.getD i.1 []).length → 2 < (cutT (rowsT.getD i.1 []) s.1 (rowsT.getD i.1 []).length).length := by decide

theorem IntL.ofBlk {m : World} {g : Nat} {e : TypeId} (xs : List Int) (h : Blk m g e (xs.map I64).toArray) : IntL m (.slice (some ⟨g, 0, none⟩) xs.length xs.length) xs := by
 refine ListV.mk (vs := xs.map I64) (Nat.le_refl _) (by simp) (fun u hu => ?_) ?_ ?_
 ·obtain ⟨x, _, rfl⟩ := List.mem_map.1 hu; rfl
 ·refine Blk.sl h (n := xs.length) ?_
  rw [List.take_of_length_le (by simp)]
  exact ih' xs
 ·exact all2 xs
 where
 ih' : ∀ xs : List Int, xs.map I64 = cellsOf (xs.map I64)
  | [] => rfl
  | x :: xs => congrArg (I64 x :: ·) (ih' xs)
 all2 : ∀ xs : List Int, All2 (IsI m) (xs.map I64) xs
  | [] => trivial
  | x :: xs => ⟨rfl, all2 xs⟩
theorem cellsOf_ints : ∀ xs : List Int, cellsOf (xs.map I64) = xs.map I64
 | [] => rfl
 | x :: xs => congrArg (I64 x :: ·) (cellsOf_ints xs)
theorem all2_ints {m : World} : ∀ {vs : List Value} {xs : List Int}, All2 (IsI m) vs xs → vs = xs.map I64
 | [], [], _ => rfl
 | v :: vs, x :: xs, h => by rw [h.1, all2_ints h.2]; rfl
 | [], _ :: _, h => h.elim
 | _ :: _, [], h => h.elim
theorem IntL.sl {m : World} {A : Option Addr} {n c : Nat} {xs : List Int} (h : IntL m (.slice A n c) xs) : Sl m A (xs.map I64) := by
 obtain ⟨A', c', vs, e, hc, h1, h2, h3⟩ := h
 injection e with e1 e2 e3
 subst e1
 have := all2_ints h3
 subst this
 rwa [cellsOf_ints] at h2
theorem all2_of_ints (m : World) : ∀ xs : List Int, All2 (IsI m) (xs.map I64) xs
 | [] => trivial
 | x :: xs => ⟨rfl, all2_of_ints m xs⟩
theorem IntL.ofSl {m : World} {A : Option Addr} {n c : Nat} {xs : List Int} (h : Sl m A (xs.map I64)) (hn : xs.length = n) (hc : n ≤ c) : IntL m (.slice A n c) xs := by
 refine ListV.mk (vs := xs.map I64) hc (by simpa using hn) (fun u hu => ?_) ?_ (all2_of_ints m xs)
 ·obtain ⟨x, _, rfl⟩ := List.mem_map.1 hu; rfl
 ·rwa [cellsOf_ints]
abbrev IntLL := ListV (α := List Int) 1 IntL
theorem IntL.mono (m m' : World) (v : Value) (x : List Int) (h : IntL m v x) (hb : Le m m') : IntL m' v x := IntL.le h hb
theorem IntLL.at_ {m : World} {A : Option Addr} {n c : Nat} {xs : List (List Int)} (h : IntLL m (.slice A n c) xs) {k : Nat} {x : List Int} (hk : xs[k]? = some x) :
  ∃ b off B d, A = some ⟨b, off, none⟩ ∧ IntL m (.slice B x.length d) x ∧ m.cell? ⟨b, off + k, none⟩ = some (.slice B x.length d) := by
 obtain ⟨b, off, v, e, hv, _, hr⟩ := ListV.at_ h (by omega) hk
 obtain ⟨B, d, rfl, _, hv⟩ := hv.lit
 exact ⟨b, off, B, d, e, hv, by simpa using hr 0 _ rfl⟩
theorem rowsT_get (i : Nat) (h : i < 6) : rowsT[i]? = some (rowsT.getD i []) := by
 have : i < rowsT.length := h
 rw [List.getD_eq_getElem?_getD, List.getElem?_eq_getElem this]; rfl
theorem ColR.lit {m : World} {v : Value} {x : Col} (h : ColR m v x) : ∃ b A n c z, v = .agg #[.string b, .slice A n c, .int .i64 z] ∧ ColR m (.agg #[.string b, .slice A n c, .int .i64 z]) x := by
 have h' := h
 obtain ⟨s, rfl, hs⟩ := h
 obtain ⟨A, c, rfl, _, _⟩ := hs.lit
 exact ⟨_, _, _, _, _, rfl, h'⟩
theorem ints_one (rs : List Int) : (rs.map I64).all (·.oneCell') = true := by
 rw [List.all_map, List.all_eq_true]; intro x _; rfl
theorem d_ColumnE (A : Option Addr) (c q : Nat) (rs : List Int) (n k : Int) (w m : World) (hV : Vw m w) (hr : IntL m (.slice A q c) rs) (hq : Hid (rs.length = q)) (h1 : 1 ≤ q) (h2 : q ≤ 6) (n0 : 0 ≤ n) (n1 : n ≤ 100000) (k0 : 0 ≤ k) (k1 : k ≤ 100000) :
  Calls Tryz.prog 60 #[.slice A q c, .int .i64 n, .int .i64 k] w (RetV w m fun m' r => ColR m' r (colF rs n k)) := by
 obtain rfl := hq.out
 exact d_Column A c rs n k w m hV hr h1 h2 n0 n1 k0 k1
theorem colsG_snoc (rs l : List Int) (j : Nat) {a b : Int} (ha : Hid (atF l (5 + 2 * j) = a)) (hb : Hid (atF l (6 + 2 * j) = b)) : colsG rs l j ++ [colF rs a b] = colsG rs l (j + 1) := by
 unfold colsG
 rw [range_snoc, ha.out, hb.out]
theorem cutsG_snoc (rs l : List Int) (k sk q : Nat) {a b : Int} (hq : Hid (rs.length = q)) (ha : Hid (atF l (20 + k) = a)) (hb : Hid (atF l (24 + k) = b)) (hs : (sk : Int) = a % q) (d : Int) (hd : d = if b % 2 = 1 then 3 else 2) :
  cutsG rs l k ++ [(cutT rs sk q, d)] = cutsG rs l (k + 1) := by
 unfold cutsG
 rw [range_snoc]
 unfold cutF
 rw [ha.out, hb.out, hq.out, ← hs, hd]; rfl
structure Ms where
 nf : Int
 rows : List Int
 pen : Int
 cols : List Col
 cuts : List Cut
def MasterR (m : World) (v : Value) (x : Ms) : Prop := ∃ a b c, v = .agg #[.int .i64 x.nf, a, .int .i64 x.pen, b, c] ∧ IntL m a x.rows ∧ ColL m b x.cols ∧ CutL m c x.cuts
theorem MasterR.le {m m' : World} {v : Value} {x : Ms} (h : MasterR m v x) (hb : Le m m') : MasterR m' v x := by
 obtain ⟨a, b, c, e, h1, h2, h3⟩ := h
 exact ⟨a, b, c, e, IntL.le h1 hb, ColL.le h2 hb, CutL.le h3 hb⟩
def masF (l : List Int) : Ms := ⟨6, rowsF l, atF l 0 % 30, colsG (rowsF l) l (atF l 2 % 7).toNat, cutsG (rowsF l) l (atF l 3 % 3).toNat⟩
end Go.Proofs.YtniigfikpfinfaaGreat

/- Contract of pairingdata.Master. -/
namespace Go.Proofs.YtniigfikpfinfaaGreat
open Go.RowKit

theorem CutR.mono' (m m' : World) (v : Value) (x : Cut) (h : CutR m v x) (hb : Le m m') : CutR m' v x := h.le hb
theorem IsI.mono (m m' : World) (v : Value) (x : Int) (h : IsI m v x) (_ : Le m m') : IsI m' v x := h

end Go.Proofs.YtniigfikpfinfaaGreat

/- What pairingdata.Prices builds. -/
namespace Go.Proofs.YtniigfikpfinfaaGreat
open Go.RowKit

theorem Tn.neg {k : Nat} {q : Rat} (h : Tn k q) : Tn k (-q) := ⟨by simpa [Rat.neg_num] using h.1, by simpa [Rat.neg_den] using h.2⟩
theorem DecR.mono (m m' : World) (v : Value) (x : Dec) (h : DecR m v x) (_ : Le m m') : DecR m' v x := h
end Go.Proofs.YtniigfikpfinfaaGreat

/- The prices of the laws. -/
namespace Go.Proofs.YtniigfikpfinfaaGreat
open Go.RowKit

def PrO (B : Nat) (p : Pr) (v : Value) (u um : World) : Prop := PricesR um v p ∧ ∃ a b s d f cs, v = .agg #[a, b, s, d, f] ∧ u.ownsRow B 39 4 s p.cd.length cs
theorem PrO.base {B B' : Nat} {p : Pr} {v : Value} {u um : World} (h : PrO B' p v u um) (hB : B ≤ B') : PrO B p v u um := by
 obtain ⟨h0, a, b, s, d, f, cs, h1, h2, h3⟩ := h
 refine ⟨h0, a, b, s, d, f, cs, h1, h2, ?_⟩
 rcases h3 with h3 | ⟨g, cap, cur, h4, h5, h6⟩
 ·exact .inl h3
 ·exact .inr ⟨g, cap, cur, h4, Nat.le_trans hB h5, h6⟩
theorem PricesR.lit {m : World} {v : Value} {p : Pr} (h : PricesR m v p) : ∃ A0 c0 A1 c1 A2 c2 A3 c3, v = .agg #[.slice A0 p.fl.length c0, .slice A1 p.cu.length c1, .slice A2 p.cd.length c2, .slice A3 p.de.length c3, .bool p.fr] ∧ p.fl.length ≤ c0 ∧
  PricesR m (.agg #[.slice A0 p.fl.length c0, .slice A1 p.cu.length c1, .slice A2 p.cd.length c2, .slice A3 p.de.length c3, .bool p.fr]) p := by
 have h' := h
 obtain ⟨a, b, c, d, rfl, h1, h2, h3, h4⟩ := h
 obtain ⟨A0, c0, rfl, hc, _⟩ := h1.lit
 obtain ⟨A1, c1, rfl, _, _⟩ := h2.lit
 obtain ⟨A2, c2, rfl, _, _⟩ := h3.lit
 obtain ⟨A3, c3, rfl, _, _⟩ := h4.lit
 exact ⟨_, _, _, _, _, _, _, _, rfl, hc, h'⟩
theorem PrO.lit {B : Nat} {p : Pr} {v : Value} {u um W m : World} (h : PrO B p v u um) (hE : Ext u W) (hM : Ext um m) : ∃ A0 c0 A1 c1 A2 c2 A3 c3 cs, v = .agg #[.slice A0 p.fl.length c0, .slice A1 p.cu.length c1, .slice A2 p.cd.length c2, .slice A3 p.de.length c3, .bool p.fr] ∧
  PricesR m (.agg #[.slice A0 p.fl.length c0, .slice A1 p.cu.length c1, .slice A2 p.cd.length c2, .slice A3 p.de.length c3, .bool p.fr]) p ∧ W.ownsRow B 39 4 (.slice A2 p.cd.length c2) p.cd.length cs := by
 obtain ⟨h0, a, b, s, d, f, cs, h1, h2⟩ := h
 obtain ⟨A0, c0, A1, c1, A2, c2, A3, c3, e, _, h3⟩ := h0.lit
 subst h1
 injection e with e
 injection e with e
 injection e with e1 e
 injection e with e2 e
 injection e with e3 e
 subst e3
 exact ⟨A0, c0, A1, c1, A2, c2, A3, c3, cs, by rw [e1, e2, e], h3.le hM.le, ownsRow_ext h2 hE⟩
theorem MasterR.lit {m : World} {v : Value} {x : Ms} (h : MasterR m v x) : ∃ A n c A' n' c' A'' n'' c'', v = .agg #[.int .i64 x.nf, .slice A n c, .int .i64 x.pen, .slice A' n' c', .slice A'' n'' c''] ∧ MasterR m (.agg #[.int .i64 x.nf, .slice A n c, .int .i64 x.pen, .slice A' n' c', .slice A'' n'' c'']) x := by
 have h' := h
 obtain ⟨a, b, c, rfl, h1, h2, h3⟩ := h
 obtain ⟨A0, c0, rfl, _, _⟩ := h1.lit
 obtain ⟨A1, c1, rfl, _, _⟩ := h2.lit
 obtain ⟨A2, c2, rfl, _, _⟩ := h3.lit
 exact ⟨_, _, _, _, _, _, _, _, _, rfl, h'⟩
theorem Tn.add {k l : Nat} {p q : Rat} (h : Tn k p) (h' : Tn l q) : Tn (2 * (k * l)) (p + q) := by
 rw [rat_add]
 have a1 := h.1
 have a2 := h.2
 have b1 := h'.1
 have b2 := h'.2
 have c1 : p.num.natAbs * q.den ≤ k * l := Nat.mul_le_mul a1 b2
 have c2 : q.num.natAbs * p.den ≤ k * l := by rw [Nat.mul_comm k l]; exact Nat.mul_le_mul b1 a2
 have c3 : p.den * q.den ≤ k * l := Nat.mul_le_mul a2 b2
 refine Tn.divInt (Int.mul_pos (by have := p.den_pos; omega) (by have := q.den_pos; omega)) ?_ ?_
 ·refine Nat.le_trans (Int.natAbs_add_le _ _) ?_
  rw [Int.natAbs_mul, Int.natAbs_mul]
  simp only [Int.natAbs_natCast]
  omega
 ·have : ((p.den : Int) * (q.den : Int)) = ((p.den * q.den : Nat) : Int) := by simp
  rw [this]
  omega
theorem masF_cuts (l : List Int) : (masF l).cuts.length ≤ 2 ∧ ∀ c ∈ (masF l).cuts, c.1.length ≤ 5 := by
 have h0 := atF_bd l 1 (by omega)
 have h3 := atF_bd l 3 (by omega)
 have h1 : (atF l 1 % 6).toNat < 6 := by omega
 have hr : (rowsF l).length ≤ 5 := (rowsT_len ⟨_, h1⟩).2
 constructor
 ·show ((List.range _).map _).length ≤ 2
  simp only [List.length_map, List.length_range]
  omega
 ·intro c hc
  obtain ⟨k, _, rfl⟩ := List.mem_map.1 hc
  exact Nat.le_trans (cutT_len _ _ _) hr
end Go.Proofs.YtniigfikpfinfaaGreat

/- How an argument of integers is opened. -/
namespace Go.Proofs.YtniigfikpfinfaaGreat
open Go.ChangeShapes Go.WideShapes Go.ChangeAt Go.RowKit

theorem ownK : ownKnob Tryz.prog.godebug = none := by kernel_rfl
theorem laidO : laidOutB Tryz.prog = true := by kernel_rfl
theorem cells_int : Tryz.prog.cellsOf 3 = 1 := by kernel_rfl

theorem arg_ints {H : Type} {enc : TypeId × Value → H} {W : World} {base : Nat} {v : Value} {d : DataW H} {p : List MemPlace} (hv : Value.okWide Tryz.prog W .any base 22 v)
  (h : DataW.Trod enc Tryz.prog W 0 (fun _ => true) true 22 v d p) : ∃ A c, ∃ l : List Int, v = .slice A l.length c ∧ Sl W A (l.map I64) := by
 obtain ⟨a0, len, cap, rfl⟩ := okWide_slice Tryz.underlying22 hv
 obtain ⟨fuel, hf⟩ := h
 rcases open_ints Tryz.underlying22 Tryz.underlying3 cells_int hf with ⟨hcs, _⟩ | ⟨a, len', cap', zs, hcs, _, hle, _, hall, _, hcell, _⟩
 ·simp [Value.cells] at hcs
  obtain ⟨rfl, rfl, rfl⟩ := hcs
  exact ⟨none, 0, [], rfl, Sl.nil⟩
 ·simp [Value.cells] at hcs
  obtain ⟨rfl, rfl, rfl⟩ := hcs
  simp only [if_true] at hall
  have hl : (zs.take len).length = len := by rw [List.length_take]; omega
  refine ⟨some a, cap, zs.take len, by rw [hl], fun h0 => ?_⟩
  have h1 : 0 < zs.length := by simp at h0; omega
  obtain ⟨b, off, rfl, hc⟩ := ints_at hcell h1
  refine ⟨b, off, rfl, World.block_lt_of_cell? W _ (hc 0 h1), fun j u hu => ?_⟩
  rw [List.getElem?_map, List.getElem?_take] at hu
  by_cases hj : j < len
  ·rw [if_pos hj] at hu
   have hjz : j < zs.length := by omega
   rw [List.getElem?_eq_getElem hjz] at hu
   simp at hu
   rw [hc j hjz, ← hu, List.getD_eq_getElem?_getD, List.getElem?_eq_getElem hjz]; rfl
  ·rw [if_neg hj] at hu; simp at hu

theorem wf_bd {n : Int} (h : (Lit.int .i64 n).wf = true) : -9223372036854775808 ≤ n ∧ n ≤ 9223372036854775807 := by
 simp [Lit.wf, IntKind.min, IntKind.max, IntKind.signed, IntKind.bits] at h
 omega
end Go.Proofs.YtniigfikpfinfaaGreat

/- Contracts of integer.mulMag, Mul for numbers of one digit; integer.Compare. -/
namespace Go.Proofs.YtniigfikpfinfaaGreat
open Go.RowKit

theorem ap_digits : apS Tryz.prog 35 = some (120, 1, 4, 1) := by kernel_rfl
instance iA1_1 : ApC Tryz.prog 35 120 1 4 := ⟨ap_digits⟩
theorem lf_u32 : lfB Tryz.prog 120 = true := by kernel_rfl
instance iA1_2 : LfC Tryz.prog 120 := ⟨lf_u32⟩
theorem t_ix0 {P : Program} {ops : Array Oper} {Q : Exit → Act → World → Prop} {rest : List Oper} {o : Oper} {a : Act} {W : World} {t : TypeId} {s i : Operand} (ho : o.op = .indexAddr t s i) {e : TypeId} {size bytes : Nat} [hap : ApC P t e size bytes] {b off n c : Nat} {kd : IntKind} (hs : a.eval s = .slice (some ⟨b, off, none⟩) n c) (hi : a.eval i = .int kd 0)
  (h : wpList P ops Q rest (a.put o.dst (.pointer (some ⟨b, off, none⟩))) W) (hk : 0 < n := by omega)
  (hw : Region.wanted o (yielded ops a.tmps) = true := by first | exact wanted_none rfl | exact wanted_some rfl rfl rfl rfl) : wpList P ops Q (o :: rest) a W :=
 wl_indexAddr (k := 0) hw ho hap.h hs hi hk (by rw [Nat.zero_mul, Nat.add_zero]; exact h)
theorem sIz {G : Prop} (h : G := by refine t_ix0 rfl rfl rfl ?_; simp only [Act.put, zq1, zq2, zq3]; refine One2.still hV ?_; exact rfl) : G := h
theorem digs_len_pos {n : Nat} (h : n ≠ 0) : 0 < (digs n).length := by
 have := mt digs_nil.1 h
 exact List.length_pos_iff.2 this
end Go.Proofs.YtniigfikpfinfaaGreat

/- Contracts of rational.smallWord, smallParts, small where a number has two digits or more. -/
namespace Go.Proofs.YtniigfikpfinfaaGreat
open Go.RowKit

theorem q_smallWordF (g : Bool) (A : Option Addr) (n c : Nat) (w m : World) (hV : Vw m w) (hn : 2 ≤ n) :
  Calls Tryz.prog 214 #[.agg #[.bool g, .slice A n c]] w (RetV w m fun _ r => r = .tuple #[.int .i64 0, .bool false]) := by
 have b0 : ((n : Int) == 0) = false := by simp; omega
 have b1 : ((n : Int) == 1) = false := by simp; omega
 have hL := Loc.start hV
 clear hV hn
 go_enter Tryz.func214, Tryz.ntmps214
 go_wp2_with (first | go_skip | refine tP ?_ | (refine tB ?_; clear hL; intro _ _ hL _))
 go_ret2
 exact RetV.mk hL rfl
theorem q_smallPartsF (g : Bool) (A : Option Addr) (n c : Nat) (g' : Bool) (B : Option Addr) (k d : Nat) (w m : World) (hV : Vw m w) (hk : 2 ≤ k) :
  Calls Tryz.prog 178 #[.agg #[.bool g, .slice A n c, .bool g', .slice B k d]] w (RetV w m fun _ r => r = .tuple #[.agg #[.int .i64 0, .int .i64 0], .bool false]) := by
 have hL := Loc.start hV
 clear hV
 go_enter Tryz.func178, Tryz.ntmps178
 go_wp2_with (first | go_skip | refine tP ?_ | (refine tS ?_; clear hL; intro _ hL) | (refine tB ?_; clear hL; intro _ _ hL _))
 refine (q_smallWordF _ _ _ _ _ _ hL.vw hk).mono ?_
 rintro e W1 ⟨_, m1, rfl, hE, hM1, hV, rfl⟩
 replace hL := hL.call hE (by assumption) hV; clear hE hV
 go_wp2_with (first | go_skip | refine tP ?_ | (refine tS ?_; clear hL; intro _ hL) | (refine tB ?_; clear hL; intro _ _ hL _))
 obtain ⟨p1, p2, _⟩ := (hL.at_ lo0).facts2
 exact bodyPost_ret (v := .tuple #[.agg #[.int .i64 0, .int .i64 0], .bool false]) (by simp [results, Tryz.results178, go_sem, p1, p2]) rfl (RetV.mk hL rfl)
def SPart (m : World) (v : Value) (p q : Int) (ok : Bool) : Prop := (∃ a b c d, v = .agg #[a, b, c, d]) ∧ ∀ w m', Vw m' w → Le m m' → Calls Tryz.prog 178 #[v] w (RetV w m' fun _ r => r = .tuple #[.agg #[.int .i64 p, .int .i64 q], .bool ok])

end Go.Proofs.YtniigfikpfinfaaGreat

/- Contract of integer.Mul for numbers of one digit. -/
namespace Go.Proofs.YtniigfikpfinfaaGreat
open Go.RowKit

theorem sgn_self {x : Int} {g : Bool} (h : x ≠ 0 → g = decide (x < 0)) : sgn g x.natAbs = x := by
 by_cases hx : x = 0
 ·subst hx; cases g <;> rfl
 ·rw [h hx]; exact sgn_canon x
theorem i_wrapE (g : Bool) (v : Value) (n : Nat) (z : Int) (w m : World) (hV : Vw m w) (h : DigA m v n) (hz : Hid (sgn g n = z)) : Calls Tryz.prog 182 #[.bool g, v] w (RetV w m fun m' r => IntC m' r z) := by
 have := i_wrap g v n w m hV h
 rwa [hz.out] at this
end Go.Proofs.YtniigfikpfinfaaGreat

/- Plain facts on floors, ceilings and signs of fractions. -/
namespace Go.Proofs.YtniigfikpfinfaaGreat
open Go.RowKit

theorem pN_val (x y : Int) : 0 < pD y ∧ Rat.divInt (pN x y) (pD y) = Rat.divInt x y := by
 unfold pN pD
 by_cases h0 : y = 0
 ·subst h0; simp
 ·by_cases hn : y < 0
  ·simp only [h0, hn, if_false, if_true]
   exact ⟨by omega, Rat.neg_divInt_neg x y⟩
  ·simp only [h0, hn, if_false]
   exact ⟨by omega, trivial⟩
theorem rs_div {a b : Int} (hb : 0 < b) : rs (Rat.divInt a b) = icmp a 0 := by
 unfold rs
 rw [(frac_pos (x := a) hb).1]
 have hg : 0 < Int.gcd a b := Int.gcd_pos_of_ne_zero_right _ (by omega)
 obtain ⟨k, hk⟩ := Int.gcd_dvd_left a b
 generalize Int.gcd a b = g at *
 subst hk
 rw [Int.mul_ediv_cancel_left _ (by omega)]
 unfold icmp
 have hg' : (0 : Int) < g := by omega
 by_cases h : k < 0
 ·rw [if_pos h, if_pos (Int.mul_neg_of_pos_of_neg hg' h)]
 ·rw [if_neg h]
  by_cases h0 : k = 0
  ·subst h0; simp
  ·have : 0 < (g : Int) * k := Int.mul_pos hg' (by omega)
   rw [if_neg h0, if_neg (by omega), if_neg (by omega)]
theorem icmp_sub (a b : Int) : icmp (a - b) 0 = icmp a b := by
 unfold icmp
 by_cases h : a < b
 ·rw [if_pos h, if_pos (by omega)]
 ·rw [if_neg h, if_neg (by omega)]
  by_cases e : a = b
  ·rw [if_pos e, if_pos (by omega)]
  ·rw [if_neg e, if_neg (by omega)]
theorem rs_cmp (x y x' y' : Int) : rs (Rat.divInt x y - Rat.divInt x' y') = icmp (pN x y * pD y') (pN x' y' * pD y) := by
 obtain ⟨h1, h2⟩ := pN_val x y
 obtain ⟨h3, h4⟩ := pN_val x' y'
 rw [← h2, ← h4, Rat.divInt_sub_divInt _ _ (by omega) (by omega), rs_div (Int.mul_pos h1 h3), icmp_sub]

theorem sgn_add_same (g : Bool) (x y : Nat) : sgn g (x + y) = sgn g x + sgn g y := by
 cases g <;> simp [sgn] <;> omega
theorem sgn_sub_l (g h : Bool) (x y : Nat) (hg : g ≠ h) (hle : y ≤ x) : sgn g (x - y) = sgn g x + sgn h y := by
 cases g <;> cases h <;> simp [sgn] at * <;> omega
theorem sgn_sub_r (g h : Bool) (x y : Nat) (hg : g ≠ h) (hle : x ≤ y) : sgn h (y - x) = sgn g x + sgn h y := by
 cases g <;> cases h <;> simp [sgn] at * <;> omega
theorem cmp3_ge {x y : Nat} : (0 ≤ cmp3 x y) ↔ y ≤ x := by
 unfold cmp3
 by_cases h : x < y
 ·rw [if_pos h]; omega
 ·rw [if_neg h]; split <;> omega
end Go.Proofs.YtniigfikpfinfaaGreat

/- Contract of rational.parts for fractions of any form. -/
namespace Go.Proofs.YtniigfikpfinfaaGreat
open Go.RowKit

def FrV (m : World) (v : Value) (x y : Int) : Prop := ∃ g A n c g' B k d, v = .agg #[.bool g, .slice A n c, .bool g', .slice B k d] ∧ IntV m (.agg #[.bool g, .slice A n c]) x ∧ IntV m (.agg #[.bool g', .slice B k d]) y
theorem FrV.le {m m' : World} {v : Value} {x y : Int} (h : FrV m v x y) (hb : Le m m') : FrV m' v x y := by
 obtain ⟨g, A, n, c, g', B, k, d, e, h1, h2⟩ := h
 exact ⟨g, A, n, c, g', B, k, d, e, h1.le hb, h2.le hb⟩
end Go.Proofs.YtniigfikpfinfaaGreat

/- Contracts of integer.addMag and subMag. -/
namespace Go.Proofs.YtniigfikpfinfaaGreat
open Go.RowKit

theorem getD_out {l : List Nat} {k : Nat} (h : l.length ≤ k) : l.getD k 0 = 0 := by
 rw [List.getD_eq_getElem?_getD, List.getElem?_eq_none h]; rfl
theorem mk_u32 (a : Int) (n : Nat) (e : a = n) (h : n ≤ 1000001) (W : World) : (Instr.makeSlice 35 (.int .i64 a) (.int .i64 a)).run Tryz.prog W = .ok (.slice (some ⟨W.heap.size, 0, none⟩) n n) (W.alloc (.cells ((List.replicate n (U 0)).toArray) 120)) := by
 subst e; exact run_make_u32 n (by omega) W
theorem DigR.trimC {w : World} {g off : Nat} {ss : List Nat} (h : Sl w (some ⟨g, off, none⟩) (ss.map U)) (hds : Dg ss) (hg : g < w.heap.size) : DigR w g (.slice (some ⟨g, off, none⟩) (trimLen ss ss.length) (trimLen ss ss.length)) (digs (val ss)) := by
 have e := trimLen_eq hds
 rw [e]
 refine ⟨_, _, rfl, Nat.le_refl _, ?_, fun a ha => by cases ha; exact ⟨Nat.le_refl _, hg⟩⟩
 rw [← take_trim hds, List.map_take]; exact h.take _
theorem RetV.ofD {w m : World} {ds : List Nat} (hV : Vw m w) {e : Ending} {w' : World} (h : Ret w (fun w' r => DigR w' w.heap.size r ds) e w') : RetV w m (fun m' r => DigV m' r ds) e w' := by
 obtain ⟨v, rfl, h1, h2⟩ := h
 exact ⟨v, _, rfl, h2, (joined_spec hV h2).1, (joined_spec hV h2).2, h1.joined hV.size⟩

theorem i_addMag0 (A B : Option Addr) (c d : Nat) (xs ys : List Nat) (w : World) (hA : Sl w A (xs.map U)) (hx : xs.length ≤ 1000) (hdx : Dg xs)
  (hB : Sl w B (ys.map U)) (hy : ys.length ≤ 1000) (hdy : Dg ys) :
  Calls Tryz.prog 185 #[.slice A xs.length c, .slice B ys.length d] w (Ret w fun w' v => DigR w' w.heap.size v (digs (val xs + val ys))) := by
 rcases Nat.lt_or_ge xs.length ys.length with hlt | hge
 ·have hmk := mk_u32 ((ys.length : Int) + 1) (ys.length + 1) (by omega) (by omega)
  have HDX := Lib.hid hdy
  have HDY := Lib.hid hdx
  clear hdx hdy
  go_enter Tryz.func185, Tryz.ntmps185
  go_wp2_with fail
  clear hmk
  go_loopw [6, 22] (fun cc i wr => ∃ (k : Nat) (ss : List Nat) (cy : Nat), k ≤ ys.length ∧ i = .int .i64 k ∧ cc = .int .u64 cy ∧ cy ≤ 1 ∧ Hid (ss.length = k) ∧ Dg ss ∧ Hid (val ss + 4294967296 ^ k * cy = val (ys.take k) + val (xs.take k)) ∧ Made wr w.heap.size (ys.length + 1) ss ∧ Ext w wr) (fun _ i _ => ys.length - (intOf i).toNat)
  case atStart => exact ⟨0, [], 0, by omega, rfl, rfl, by omega, rfl, Dg.nil, rfl, Made.start _ _, Ext.new _ _⟩
  case round =>
   obtain ⟨k, ss, cy, hk, rfl, rfl, hcy, hss, hds, hval, hmade, hb⟩ := hrel
   by_cases hlt : k < ys.length
   ·have g1 := HDX.out.getD k
    have g2 := HDY.out.getD k
    obtain ⟨⟨zz, hcell, _⟩, hfr⟩ := hmade.cell (k := k) (by omega) (by rw [hss.out]; omega)
    obtain ⟨b1, o1, ha1, _, hc1⟩ := (hB.ext hb).dig (k := k) hlt
    have HA1 := Lib.hid ha1
    clear ha1
    generalize hp : ys.getD k 0 = p at *
    have Hp := Lib.hid hp
    clear hp
    by_cases hy : k < xs.length
    ·obtain ⟨b2, o2, ha2, _, hc2⟩ := (hA.ext hb).dig (k := k) hy
     have HA2 := Lib.hid ha2
     clear ha2
     generalize hq : xs.getD k 0 = q at *
     have Hq := Lib.hid hq
     clear hq
     obtain rfl := HA1.out
     obtain rfl := HA2.out
     go_wp2_with fail
     go_roundw
     case rel =>
      have hpu := hmade.push (by rw [hss.out]; omega) ((cy + p + q) % 4294967296)
      rw [hss.out] at hpu
      refine ⟨k + 1, ss ++ [(cy + p + q) % 4294967296], (cy + p + q) / 4294967296, by omega, by go_num, by simp, by omega, ?_, hds.append (Dg.cons (Nat.mod_lt _ (by omega)) Dg.nil), ?_, ?_, hb.setCell (by simp) _⟩
      ·show _ = _; simp [hss.out]
      ·show _ = _
       rw [val_take_succ, val_take_succ, Hp.out, Hq.out]
       exact add_step hss.out hval.out
      ·simpa using hpu
     case measure => simp [intOf] <;> omega
    ·have Hq : Hid (xs.getD k 0 = 0) := getD_out (by omega)
     obtain rfl := HA1.out
     go_wp2_with fail
     go_roundw
     case rel =>
      have hpu := hmade.push (by rw [hss.out]; omega) ((cy + p) % 4294967296)
      rw [hss.out] at hpu
      refine ⟨k + 1, ss ++ [(cy + p) % 4294967296], (cy + p) / 4294967296, by omega, by go_num, by simp, by omega, ?_, hds.append (Dg.cons (Nat.mod_lt _ (by omega)) Dg.nil), ?_, ?_, hb.setCell (by simp) _⟩
      ·show _ = _; simp [hss.out]
      ·show _ = _
       rw [val_take_succ, val_take_succ, Hp.out, Hq.out]
       exact add_step (q := 0) hss.out hval.out
      ·simpa using hpu
     case measure => simp [intOf] <;> omega
   ·obtain rfl : k = ys.length := by omega
    obtain ⟨⟨zz, hcell, _⟩, hfr⟩ := hmade.cell (k := ys.length) (by omega) (by rw [hss.out]; omega)
    have hw : IntKind.u32.wrap (cy : Int) = cy := by rw [IntKind.wrap_u32]; omega
    have hd1 : Dg (ss ++ [cy]) := hds.append (Dg.cons (by omega) Dg.nil)
    have hl : ys.length + 1 = (ss ++ [cy]).length := by simp [hss.out]
    have HL := Lib.hid hl
    clear hl
    go_wp2_with fail
    have hpu := hmade.push (by rw [hss.out]; omega) cy
    rw [hss.out] at hpu
    have hfull := hpu.full HL.out.symm
    have hv : val (ss ++ [cy]) = val xs + val ys := by
     have h1 := hval.out
     rw [List.take_of_length_le (Nat.le_refl _), List.take_of_length_le (by omega)] at h1
     rw [val_snoc, hss.out]; omega
    rw [HL.out]
    refine (i_trim0 _ _ (ss ++ [cy]) _ hfull (Nat.le_refl _) (by rw [← HL.out]; omega)).mono ?_
    rintro e w' ⟨rfl, rfl⟩
    go_wp2_with fail
    go_ret
    refine Ret.mk ?_ (hb.setCell (by simp) _)
    rw [← hv]
    have hend := DigR.trimC hfull hd1 (Blk.lt hpu)
    rw [show (ss ++ [cy]).length = ss.length + 1 by simp] at hend
    exact hend
 ·have hmk := mk_u32 ((xs.length : Int) + 1) (xs.length + 1) (by omega) (by omega)
  have HDX := Lib.hid hdx
  have HDY := Lib.hid hdy
  clear hdx hdy
  go_enter Tryz.func185, Tryz.ntmps185
  go_wp2_with fail
  clear hmk
  go_loopw [6, 22] (fun cc i wr => ∃ (k : Nat) (ss : List Nat) (cy : Nat), k ≤ xs.length ∧ i = .int .i64 k ∧ cc = .int .u64 cy ∧ cy ≤ 1 ∧ Hid (ss.length = k) ∧ Dg ss ∧ Hid (val ss + 4294967296 ^ k * cy = val (xs.take k) + val (ys.take k)) ∧ Made wr w.heap.size (xs.length + 1) ss ∧ Ext w wr) (fun _ i _ => xs.length - (intOf i).toNat)
  case atStart => exact ⟨0, [], 0, by omega, rfl, rfl, by omega, rfl, Dg.nil, rfl, Made.start _ _, Ext.new _ _⟩
  case round =>
   obtain ⟨k, ss, cy, hk, rfl, rfl, hcy, hss, hds, hval, hmade, hb⟩ := hrel
   by_cases hlt : k < xs.length
   ·have g1 := HDX.out.getD k
    have g2 := HDY.out.getD k
    obtain ⟨⟨zz, hcell, _⟩, hfr⟩ := hmade.cell (k := k) (by omega) (by rw [hss.out]; omega)
    obtain ⟨b1, o1, ha1, _, hc1⟩ := (hA.ext hb).dig (k := k) hlt
    have HA1 := Lib.hid ha1
    clear ha1
    generalize hp : xs.getD k 0 = p at *
    have Hp := Lib.hid hp
    clear hp
    by_cases hy : k < ys.length
    ·obtain ⟨b2, o2, ha2, _, hc2⟩ := (hB.ext hb).dig (k := k) hy
     have HA2 := Lib.hid ha2
     clear ha2
     generalize hq : ys.getD k 0 = q at *
     have Hq := Lib.hid hq
     clear hq
     obtain rfl := HA1.out
     obtain rfl := HA2.out
     go_wp2_with fail
     go_roundw
     case rel =>
      have hpu := hmade.push (by rw [hss.out]; omega) ((cy + p + q) % 4294967296)
      rw [hss.out] at hpu
      refine ⟨k + 1, ss ++ [(cy + p + q) % 4294967296], (cy + p + q) / 4294967296, by omega, by go_num, by simp, by omega, ?_, hds.append (Dg.cons (Nat.mod_lt _ (by omega)) Dg.nil), ?_, ?_, hb.setCell (by simp) _⟩
      ·show _ = _; simp [hss.out]
      ·show _ = _
       rw [val_take_succ, val_take_succ, Hp.out, Hq.out]
       exact add_step hss.out hval.out
      ·simpa using hpu
     case measure => simp [intOf] <;> omega
    ·have Hq : Hid (ys.getD k 0 = 0) := getD_out (by omega)
     obtain rfl := HA1.out
     go_wp2_with fail
     go_roundw
     case rel =>
      have hpu := hmade.push (by rw [hss.out]; omega) ((cy + p) % 4294967296)
      rw [hss.out] at hpu
      refine ⟨k + 1, ss ++ [(cy + p) % 4294967296], (cy + p) / 4294967296, by omega, by go_num, by simp, by omega, ?_, hds.append (Dg.cons (Nat.mod_lt _ (by omega)) Dg.nil), ?_, ?_, hb.setCell (by simp) _⟩
      ·show _ = _; simp [hss.out]
      ·show _ = _
       rw [val_take_succ, val_take_succ, Hp.out, Hq.out]
       exact add_step (q := 0) hss.out hval.out
      ·simpa using hpu
     case measure => simp [intOf] <;> omega
   ·obtain rfl : k = xs.length := by omega
    obtain ⟨⟨zz, hcell, _⟩, hfr⟩ := hmade.cell (k := xs.length) (by omega) (by rw [hss.out]; omega)
    have hw : IntKind.u32.wrap (cy : Int) = cy := by rw [IntKind.wrap_u32]; omega
    have hd1 : Dg (ss ++ [cy]) := hds.append (Dg.cons (by omega) Dg.nil)
    have hl : xs.length + 1 = (ss ++ [cy]).length := by simp [hss.out]
    have HL := Lib.hid hl
    clear hl
    go_wp2_with fail
    have hpu := hmade.push (by rw [hss.out]; omega) cy
    rw [hss.out] at hpu
    have hfull := hpu.full HL.out.symm
    have hv : val (ss ++ [cy]) = val xs + val ys := by
     have h1 := hval.out
     rw [List.take_of_length_le (Nat.le_refl _), List.take_of_length_le (by omega)] at h1
     rw [val_snoc, hss.out]; omega
    rw [HL.out]
    refine (i_trim0 _ _ (ss ++ [cy]) _ hfull (Nat.le_refl _) (by rw [← HL.out]; omega)).mono ?_
    rintro e w' ⟨rfl, rfl⟩
    go_wp2_with fail
    go_ret
    refine Ret.mk ?_ (hb.setCell (by simp) _)
    rw [← hv]
    have hend := DigR.trimC hfull hd1 (Blk.lt hpu)
    rw [show (ss ++ [cy]).length = ss.length + 1 by simp] at hend
    exact hend
theorem i_addMag (a b : Value) (x y : Nat) (w m : World) (hV : Vw m w) (ha : DigV m a (digs x)) (hb : DigV m b (digs y)) (lx : (digs x).length ≤ 1000) (ly : (digs y).length ≤ 1000) :
  Calls Tryz.prog 185 #[a, b] w (RetV w m fun m' r => DigV m' r (digs (x + y))) := by
 obtain ⟨A, c, rfl, hc, hs⟩ := ha
 obtain ⟨B, d, rfl, hd, ht⟩ := hb
 have := (i_addMag0 A B c d (digs x) (digs y) w (hs.le hV.le) lx (Dg_digs _) (ht.le hV.le) ly (Dg_digs _)).mono fun _ _ h => RetV.ofD (m := m) hV h
 rwa [val_digs, val_digs] at this

theorem i_subMag0 (A B : Option Addr) (c d : Nat) (xs ys : List Nat) (w : World) (hA : Sl w A (xs.map U)) (hx : xs.length ≤ 1000) (hdx : Dg xs)
  (hB : Sl w B (ys.map U)) (hy : ys.length ≤ xs.length) (hdy : Dg ys) (hle : val ys ≤ val xs) :
  Calls Tryz.prog 186 #[.slice A xs.length c, .slice B ys.length d] w (Ret w fun w' v => DigR w' w.heap.size v (digs (val xs - val ys))) := by
 have HL := Lib.hid hle
 have HDX := Lib.hid hdx
 have HDY := Lib.hid hdy
 clear hle hdx hdy
 have hmk := mk_u32 (xs.length : Int) xs.length rfl (by omega)
 go_enter Tryz.func186, Tryz.ntmps186
 go_wp2_with fail
 clear hmk
 go_loopw [6, 15] (fun cc i wr => ∃ (k : Nat) (ss : List Nat) (cy : Nat), k ≤ xs.length ∧ i = .int .i64 k ∧ cc = .int .i64 cy ∧ cy ≤ 1 ∧ Hid (ss.length = k) ∧ Dg ss ∧ Hid (val ss + val (ys.take k) = val (xs.take k) + 4294967296 ^ k * cy) ∧ Made wr w.heap.size xs.length ss ∧ Ext w wr) (fun _ i _ => xs.length - (intOf i).toNat)
 case atStart => exact ⟨0, [], 0, by omega, rfl, rfl, by omega, rfl, Dg.nil, rfl, Made.start _ _, Ext.new _ _⟩
 case round =>
  obtain ⟨k, ss, cy, hk, rfl, rfl, hcy, hss, hds, hval, hmade, hb⟩ := hrel
  by_cases hlt : k < xs.length
  ·have g1 := HDX.out.getD k
   have g2 := HDY.out.getD k
   obtain ⟨⟨zz, hcell, _⟩, hfr⟩ := hmade.cell (k := k) (by omega) (by rw [hss.out]; omega)
   obtain ⟨b1, o1, ha1, _, hc1⟩ := (hA.ext hb).dig (k := k) hlt
   have HA1 := Lib.hid ha1
   clear ha1
   generalize hp : xs.getD k 0 = p at *
   have Hp := Lib.hid hp
   clear hp
   obtain rfl := HA1.out
   by_cases hky : k < ys.length
   ·obtain ⟨b2, o2, ha2, _, hc2⟩ := (hB.ext hb).dig (k := k) hky
    have HA2 := Lib.hid ha2
    clear ha2
    generalize hq : ys.getD k 0 = q at *
    have Hq := Lib.hid hq
    clear hq
    obtain rfl := HA2.out
    obtain ⟨x, hx2⟩ : ∃ x : Nat, x + q + cy = p + 4294967296 := ⟨p + 4294967296 - q - cy, by omega⟩
    have HX := Lib.hid hx2
    have ew : (p : Int) - cy - q = (x : Int) - 4294967296 := by omega
    have HW : Hid (IntKind.u32.wrap ((p : Int) - cy - q) = ((x % 4294967296 : Nat) : Int)) := by show _ = _; rw [IntKind.wrap_u32]; omega
    by_cases ht : ((p : Int) - cy - q) < 0
    ·have NC : (1 : Int) = ((1 - x / 4294967296 : Nat) : Int) := by omega
     go_wp2_with fail
     go_roundw
     case rel =>
      have hpu := hmade.push (by rw [hss.out]; omega) (x % 4294967296)
      rw [hss.out] at hpu
      refine ⟨k + 1, ss ++ [x % 4294967296], 1 - x / 4294967296, by omega, by go_num, congrArg (Value.int .i64) NC, by omega, ?_, hds.append (Dg.cons (Nat.mod_lt _ (by omega)) Dg.nil), ?_, ?_, hb.setCell (by simp) _⟩
      ·show _ = _; simp [hss.out]
      ·show _ = _
       rw [val_take_succ, val_take_succ, Hp.out, Hq.out]
       exact sub_step hss.out HX.out hval.out (by omega)
      ·first
        | simpa using hpu
        | (rw [show (x : Int) - 4294967296 = ((x % 4294967296 : Nat) : Int) by omega]; exact hpu)
     case measure => simp [intOf] <;> omega
    ·have NC : (0 : Int) = ((1 - x / 4294967296 : Nat) : Int) := by omega
     go_wp2_with fail
     go_roundw
     case rel =>
      have hpu := hmade.push (by rw [hss.out]; omega) (x % 4294967296)
      rw [hss.out] at hpu
      refine ⟨k + 1, ss ++ [x % 4294967296], 1 - x / 4294967296, by omega, by go_num, congrArg (Value.int .i64) NC, by omega, ?_, hds.append (Dg.cons (Nat.mod_lt _ (by omega)) Dg.nil), ?_, ?_, hb.setCell (by simp) _⟩
      ·show _ = _; simp [hss.out]
      ·show _ = _
       rw [val_take_succ, val_take_succ, Hp.out, Hq.out]
       exact sub_step hss.out HX.out hval.out (by omega)
      ·first
        | simpa using hpu
        | (rw [show (x : Int) - 4294967296 = ((x % 4294967296 : Nat) : Int) by omega]; exact hpu)
     case measure => simp [intOf] <;> omega
   ·have Hq : Hid (ys.getD k 0 = 0) := getD_out (by omega)
    obtain ⟨x, hx2⟩ : ∃ x : Nat, x + 0 + cy = p + 4294967296 := ⟨p + 4294967296 - cy, by omega⟩
    have HX := Lib.hid hx2
    have ew : (p : Int) - cy = (x : Int) - 4294967296 := by omega
    have HW : Hid (IntKind.u32.wrap ((p : Int) - cy) = ((x % 4294967296 : Nat) : Int)) := by show _ = _; rw [IntKind.wrap_u32]; omega
    by_cases ht : ((p : Int) - cy) < 0
    ·have NC : (1 : Int) = ((1 - x / 4294967296 : Nat) : Int) := by omega
     go_wp2_with fail
     go_roundw
     case rel =>
      have hpu := hmade.push (by rw [hss.out]; omega) (x % 4294967296)
      rw [hss.out] at hpu
      refine ⟨k + 1, ss ++ [x % 4294967296], 1 - x / 4294967296, by omega, by go_num, congrArg (Value.int .i64) NC, by omega, ?_, hds.append (Dg.cons (Nat.mod_lt _ (by omega)) Dg.nil), ?_, ?_, hb.setCell (by simp) _⟩
      ·show _ = _; simp [hss.out]
      ·show _ = _
       rw [val_take_succ, val_take_succ, Hp.out, Hq.out]
       exact sub_step hss.out HX.out hval.out (by omega)
      ·first
        | simpa using hpu
        | (rw [show (x : Int) - 4294967296 = ((x % 4294967296 : Nat) : Int) by omega]; exact hpu)
     case measure => simp [intOf] <;> omega
    ·have NC : (0 : Int) = ((1 - x / 4294967296 : Nat) : Int) := by omega
     go_wp2_with fail
     go_roundw
     case rel =>
      have hpu := hmade.push (by rw [hss.out]; omega) (x % 4294967296)
      rw [hss.out] at hpu
      refine ⟨k + 1, ss ++ [x % 4294967296], 1 - x / 4294967296, by omega, by go_num, congrArg (Value.int .i64) NC, by omega, ?_, hds.append (Dg.cons (Nat.mod_lt _ (by omega)) Dg.nil), ?_, ?_, hb.setCell (by simp) _⟩
      ·show _ = _; simp [hss.out]
      ·show _ = _
       rw [val_take_succ, val_take_succ, Hp.out, Hq.out]
       exact sub_step hss.out HX.out hval.out (by omega)
      ·first
        | simpa using hpu
        | (rw [show (x : Int) - 4294967296 = ((x % 4294967296 : Nat) : Int) by omega]; exact hpu)
     case measure => simp [intOf] <;> omega
  ·obtain rfl : k = xs.length := by omega
   have hfull := hmade.full hss.out
   go_wp2_with fail
   rw [← hss.out]
   refine (i_trim0 _ _ ss _ hfull (Nat.le_refl _) (by rw [hss.out]; omega)).mono ?_
   rintro e w' ⟨rfl, rfl⟩
   go_wp2_with fail
   go_ret
   refine Ret.mk ?_ hb
   rw [← sub_end hds hss.out hy HL.out hval.out]
   exact DigR.trimC hfull hds (Blk.lt hmade)
theorem i_subMag (a b : Value) (x y : Nat) (w m : World) (hV : Vw m w) (ha : DigV m a (digs x)) (hb : DigV m b (digs y)) (lx : (digs x).length ≤ 1000) (hle : y ≤ x) :
  Calls Tryz.prog 186 #[a, b] w (RetV w m fun m' r => DigV m' r (digs (x - y))) := by
 obtain ⟨A, c, rfl, hc, hs⟩ := ha
 obtain ⟨B, d, rfl, hd, ht⟩ := hb
 have := (i_subMag0 A B c d (digs x) (digs y) w (hs.le hV.le) lx (Dg_digs _) (ht.le hV.le) (length_digs_mono hle) (Dg_digs _) (by rw [val_digs, val_digs]; exact hle)).mono fun _ _ h => RetV.ofD (m := m) hV h
 rwa [val_digs, val_digs] at this
end Go.Proofs.YtniigfikpfinfaaGreat

/- Contracts of integer.addSigned and Add. -/
namespace Go.Proofs.YtniigfikpfinfaaGreat
open Go.RowKit

theorem i_addSigned (g h : Bool) (a b : Value) (x y : Nat) (z : Int) (w m : World) (hV : Vw m w) (ha : DigV m a (digs x)) (hb : DigV m b (digs y)) (hx : x < 18446744073709551616) (hy : y < 18446744073709551616) (hz : Hid (sgn g x + sgn h y = z)) :
  Calls Tryz.prog 181 #[.bool g, a, .bool h, b] w (RetV w m fun m' r => IntC m' r z) := by
 have lx : Hid (∀ k, k = x → (digs k).length ≤ 1000) := fun k e => by rw [e]; exact Nat.le_trans (len2 hx) (by decide)
 have ly : Hid (∀ k, k = y → (digs k).length ≤ 1000) := fun k e => by rw [e]; exact Nat.le_trans (len2 hy) (by decide)
 have ls : Hid ((digs (x + y)).length ≤ 1000) := Nat.le_trans (length_digs_le (k := 3) (by rw [show (4294967296 : Nat) ^ 3 = 79228162514264337593543950336 from rfl]; omega)) (by decide)
 have l1 : Hid ((digs (x - y)).length ≤ 1000) := Nat.le_trans (length_digs_mono (Nat.sub_le x y)) (lx.out _ rfl)
 have l2 : Hid ((digs (y - x)).length ≤ 1000) := Nat.le_trans (length_digs_mono (Nat.sub_le y x)) (ly.out _ rfl)
 obtain ⟨A1, c1, rfl, ha⟩ := ha.lit
 obtain ⟨A2, c2, rfl, hb⟩ := hb.lit
 have F1 := Lib.hid ha
 have F2 := Lib.hid hb
 have hL := Loc.start hV
 clear hV hx hy ha hb
 generalize (digs x).length = nx at *
 generalize (digs y).length = ny at *
 by_cases hg : g = h
 ·subst hg
  have E : Hid (sgn g (x + y) = z) := by show _ = _; rw [sgn_add_same]; exact hz.out
  have bb : (g == g) = true := by simp
  clear hz
  go_enter Tryz.func181, Tryz.ntmps181
  go_wp2_with (first | go_skip | refine tP ?_ | (refine tS ?_; clear hL; intro _ hL) | (refine tB ?_; clear hL; intro _ _ hL _))
  refine (i_addMag _ _ x y _ _ hL.vw (F1.out.le leX) (F2.out.le leX) (lx.out _ rfl) (ly.out _ rfl)).mono ?_
  rintro e W11 ⟨v11, m11, rfl, hE, hM11, hV, h11⟩
  replace hL := hL.call hE (by assumption) hV; clear hE hV
  obtain ⟨A3, c3, rfl, h11⟩ := h11.lit
  go_wp2_with (first | go_skip | refine tP ?_ | (refine tS ?_; clear hL; intro _ hL) | (refine tB ?_; clear hL; intro _ _ hL _))
  refine (i_wrapE _ _ (x + y) z _ _ hL.vw (h11.toA ls.out) E).mono ?_
  rintro e W12 ⟨v12, m12, rfl, hE, hM12, hV, h12⟩
  replace hL := hL.call hE (by assumption) hV; clear hE hV
  obtain ⟨g12', A12', n12', c12', rfl, h12⟩ := h12.lit
  go_wp2_with (first | go_skip | refine tP ?_ | (refine tS ?_; clear hL; intro _ hL) | (refine tB ?_; clear hL; intro _ _ hL _))
  refine fin_agg hL Tryz.results181 rfl rfl loX AgC.h (by exact rfl) ?_
  exact h12
 ·have bb : (g == h) = false := by simp [hg]
  by_cases hle : y ≤ x
  ·have E : Hid (sgn g (x - y) = z) := by show _ = _; rw [sgn_sub_l g h x y hg hle]; exact hz.out
   have C : Hid (cmp3 x y ≥ 0) := cmp3_ge.2 hle
   have HLE := Lib.hid hle
   clear hz hle hg
   go_enter Tryz.func181, Tryz.ntmps181
   go_wp2_with (first | go_skip | refine tP ?_ | (refine tS ?_; clear hL; intro _ hL) | (refine tB ?_; clear hL; intro _ _ hL _))
   refine (i_compareMag _ _ x y _ _ hL.vw (F1.out.le leX) (F2.out.le leX) (lx.out _ rfl) (ly.out _ rfl)).mono ?_
   rintro e W10 ⟨_, m10, rfl, hE, hM10, hV, rfl⟩
   replace hL := hL.call hE (by assumption) hV; clear hE hV
   have hc := C.out
   generalize cmp3 x y = s at *
   go_wp2_with (first | go_skip | refine tP ?_ | (refine tS ?_; clear hL; intro _ hL) | (refine tB ?_; clear hL; intro _ _ hL _))
   refine (i_subMag _ _ x y _ _ hL.vw (F1.out.le leX) (F2.out.le leX) (lx.out _ rfl) HLE.out).mono ?_
   rintro e W11 ⟨v11, m11, rfl, hE, hM11, hV, h11⟩
   replace hL := hL.call hE (by assumption) hV; clear hE hV
   obtain ⟨A3, c3, rfl, h11⟩ := h11.lit
   go_wp2_with (first | go_skip | refine tP ?_ | (refine tS ?_; clear hL; intro _ hL) | (refine tB ?_; clear hL; intro _ _ hL _))
   refine (i_wrapE _ _ (x - y) z _ _ hL.vw (h11.toA l1.out) E).mono ?_
   rintro e W12 ⟨v12, m12, rfl, hE, hM12, hV, h12⟩
   replace hL := hL.call hE (by assumption) hV; clear hE hV
   obtain ⟨g12', A12', n12', c12', rfl, h12⟩ := h12.lit
   go_wp2_with (first | go_skip | refine tP ?_ | (refine tS ?_; clear hL; intro _ hL) | (refine tB ?_; clear hL; intro _ _ hL _))
   refine fin_agg hL Tryz.results181 rfl rfl loX AgC.h (by exact rfl) ?_
   exact h12
  ·have E : Hid (sgn h (y - x) = z) := by show _ = _; rw [sgn_sub_r g h x y hg (by omega)]; exact hz.out
   have C : Hid (¬ cmp3 x y ≥ 0) := fun h => hle (cmp3_ge.1 h)
   have HLE : Hid (x ≤ y) := by show x ≤ y; omega
   clear hz hle hg
   go_enter Tryz.func181, Tryz.ntmps181
   go_wp2_with (first | go_skip | refine tP ?_ | (refine tS ?_; clear hL; intro _ hL) | (refine tB ?_; clear hL; intro _ _ hL _))
   refine (i_compareMag _ _ x y _ _ hL.vw (F1.out.le leX) (F2.out.le leX) (lx.out _ rfl) (ly.out _ rfl)).mono ?_
   rintro e W10 ⟨_, m10, rfl, hE, hM10, hV, rfl⟩
   replace hL := hL.call hE (by assumption) hV; clear hE hV
   have hc := C.out
   generalize cmp3 x y = s at *
   go_wp2_with (first | go_skip | refine tP ?_ | (refine tS ?_; clear hL; intro _ hL) | (refine tB ?_; clear hL; intro _ _ hL _))
   refine (i_subMag _ _ y x _ _ hL.vw (F2.out.le leX) (F1.out.le leX) (ly.out _ rfl) HLE.out).mono ?_
   rintro e W11 ⟨v11, m11, rfl, hE, hM11, hV, h11⟩
   replace hL := hL.call hE (by assumption) hV; clear hE hV
   obtain ⟨A3, c3, rfl, h11⟩ := h11.lit
   go_wp2_with (first | go_skip | refine tP ?_ | (refine tS ?_; clear hL; intro _ hL) | (refine tB ?_; clear hL; intro _ _ hL _))
   refine (i_wrapE _ _ (y - x) z _ _ hL.vw (h11.toA l2.out) E).mono ?_
   rintro e W12 ⟨v12, m12, rfl, hE, hM12, hV, h12⟩
   replace hL := hL.call hE (by assumption) hV; clear hE hV
   obtain ⟨g12', A12', n12', c12', rfl, h12⟩ := h12.lit
   go_wp2_with (first | go_skip | refine tP ?_ | (refine tS ?_; clear hL; intro _ hL) | (refine tB ?_; clear hL; intro _ _ hL _))
   refine fin_agg hL Tryz.results181 rfl rfl loX AgC.h (by exact rfl) ?_
   exact h12

theorem i_Add (a b : Value) (x y : Int) (w m : World) (hV : Vw m w) (ha : IntV m a x) (hb : IntV m b y) (hx : x.natAbs < 18446744073709551616) (hy : y.natAbs < 18446744073709551616) :
  Calls Tryz.prog 134 #[a, b] w (RetV w m fun m' r => IntC m' r (x + y)) := by
 obtain ⟨g1, A1, l1, c1, rfl⟩ := ha.lit
 obtain ⟨g2, A2, l2, c2, rfl⟩ := hb.lit
 obtain ⟨d1, hg1⟩ := ha.digA
 obtain ⟨d2, hg2⟩ := hb.digA
 have HE : Hid (sgn g1 x.natAbs + sgn g2 y.natAbs = x + y) := by show _ = _; rw [sgn_self hg1, sgn_self hg2]
 have HX := Lib.hid hx
 have HY := Lib.hid hy
 clear hx hy hg1 hg2 ha hb
 have hL := Loc.start hV
 clear hV
 go_enter Tryz.func134, Tryz.ntmps134
 go_upto_region 1 with ((first | go_skip | refine tP ?_ | (refine tS ?_; clear hL; intro _ hL) | (refine tB ?_; clear hL; intro _ _ hL _)))
 refine wp_region_by2 11 [false, false, false, false, false, false, false, false, false, false, false] [false, false, false, false, false, false, false, false, false, false, false] [(fun v _ _ => v = ?c1_0), (fun v _ _ => v = ?c1_1), (fun v _ _ => v = ?c1_2), (fun v _ _ => v = ?c1_3), Of (fun um v => DigV um v (digs x.natAbs)), (fun v _ _ => v = ?c1_5), (fun v _ _ => v = ?c1_6), (fun v _ _ => v = ?c1_7), (fun v _ _ => v = ?c1_8), Of (fun um v => DigV um v (digs y.natAbs)), Of (fun um v => IntC um v (x + y))] hL.vw mixed [5, 6, 7, 8, 9, 10, 11, 12, 13, 14, 15] _ (by kernel_rfl) (fun vs => by simp only [lay, Act.put, zq1, zq2, zq3]; rfl) (by kernel_rfl) (by decide) (by decide) ?s1 ?l1 ?r1
 case s1 =>
  refine ⟨?_, ?_, ?_, ?_, ?_, ?_, ?_, ?_, ?_, ?_, ?_, trivial⟩
  ·intro vs W1 m1 hE hM hV hD; clear hD
   exact sFe
  ·intro vs W1 m1 hE hM hV hD; obtain ⟨⟨_, _, -, -, f5⟩, -⟩ := hD
   rw [(f5 : vs 5 = _)]; clear f5; exact sLe
  ·intro vs W1 m1 hE hM hV hD; clear hD
   exact sFe
  ·intro vs W1 m1 hE hM hV hD; obtain ⟨⟨_, _, -, -, f7⟩, -⟩ := hD
   rw [(f7 : vs 7 = _)]; clear f7; exact sLe
  ·intro vs W1 m1 hE hM hV hD; obtain ⟨⟨_, _, -, -, f8⟩, -⟩ := hD
   rw [(f8 : vs 8 = _)]
   clear f8
   go_wp2_with fail
   refine (i_trim _ x.natAbs _ _ hV (d1.le leX)).mono ?_
   rintro e W2 ⟨v, m2, rfl, hE2, hM2, hV2, h⟩
   go_wp2_with fail
   refine One2.call hE2 hM2 hV2 ?_; first | exact h | exact rfl
  ·intro vs W1 m1 hE hM hV hD; clear hD
   exact sFe
  ·intro vs W1 m1 hE hM hV hD; obtain ⟨⟨_, _, -, -, f10⟩, -⟩ := hD
   rw [(f10 : vs 10 = _)]; clear f10; exact sLe
  ·intro vs W1 m1 hE hM hV hD; clear hD
   exact sFe
  ·intro vs W1 m1 hE hM hV hD; obtain ⟨⟨_, _, -, -, f12⟩, -⟩ := hD
   rw [(f12 : vs 12 = _)]; clear f12; exact sLe
  ·intro vs W1 m1 hE hM hV hD; obtain ⟨⟨_, _, -, -, f13⟩, -, -⟩ := hD
   rw [(f13 : vs 13 = _)]
   clear f13
   go_wp2_with fail
   refine (i_trim _ y.natAbs _ _ hV (d2.le leX)).mono ?_
   rintro e W2 ⟨v, m2, rfl, hE2, hM2, hV2, h⟩
   go_wp2_with fail
   refine One2.call hE2 hM2 hV2 ?_; first | exact h | exact rfl
  ·intro vs W1 m1 hE hM hV hD; obtain ⟨⟨_, _, -, -, f6⟩, ⟨_, _, -, i9, f9⟩, ⟨_, _, -, -, f11⟩, ⟨_, _, -, i14, f14⟩, -, -⟩ := hD
   rw [(f6 : vs 6 = _), (f11 : vs 11 = _)]
   clear f6 f11
   have f9 : DigV _ (vs 9) (digs x.natAbs) := f9
   replace f9 := f9.le i9.le
   clear i9
   have f14 : DigV _ (vs 14) (digs y.natAbs) := f14
   replace f14 := f14.le i14.le
   clear i14
   go_wp2_with fail
   refine (i_addSigned _ _ _ _ x.natAbs y.natAbs (x + y) _ _ hV f9 f14 HX.out HY.out HE).mono ?_
   rintro e W2 ⟨v, m2, rfl, hE2, hM2, hV2, h⟩
   go_wp2_with fail
   refine One2.call hE2 hM2 hV2 ?_; first | exact h | exact rfl
 case l1 =>
  refine ⟨nF, nF, nF, nF, nF, nF, nF, nF, nF, nF, nF, trivial⟩
 intro vs W1 m1 hE hM hV hF hD
 clear hD
 obtain ⟨-, -, -, -, ⟨_, _, -, i9, f9⟩, -, -, -, -, ⟨_, _, -, i14, f14⟩, ⟨_, _, -, i15, f15⟩, -⟩ := hF
 replace hL := hL.call hE hM hV
 replace f9 : DigV _ (vs 9) (digs x.natAbs) := f9
 replace f9 := f9.le i9.le
 clear i9
 replace f14 : DigV _ (vs 14) (digs y.natAbs) := f14
 replace f14 := f14.le i14.le
 clear i14
 replace f15 : IntC _ (vs 15) (x + y) := f15
 replace f15 := f15.le i15.le
 clear i15
 obtain ⟨g15, A15, n15, c15, e15, f15⟩ := f15.lit
 generalize vs 15 = x15 at e15 ⊢
 subst x15
 clear hE hV
 simp only [List.drop_succ_cons, List.drop_zero]
 go_wp2_with (first | go_skip | refine tP ?_ | (refine tS ?_; clear hL; intro _ hL) | (refine tB ?_; clear hL; intro _ _ hL _))
 refine QN.mk ?_
 go_wp2_with (first | go_skip | refine tP ?_ | (refine tS ?_; clear hL; intro _ hL) | (refine tB ?_; clear hL; intro _ _ hL _))
 refine fin_agg hL Tryz.results134 rfl rfl loX AgC.h (by exact rfl) ?_
 exact f15
end Go.Proofs.YtniigfikpfinfaaGreat

/- Contracts of rational.Compare and Add where a number has two digits. -/
namespace Go.Proofs.YtniigfikpfinfaaGreat
open Go.RowKit

def NoS (v : Value) : Prop := ∃ g A n c g' B k d, v = .agg #[.bool g, .slice A n c, .bool g', .slice B k d] ∧ 2 ≤ k
def FrG (m : World) (v : Value) (x y : Int) : Prop := FrV m v x y ∧ (FracS m v x y ∨ NoS v)
theorem FrG.le {m m' : World} {v : Value} {x y : Int} (h : FrG m v x y) (hb : Le m m') : FrG m' v x y :=
 ⟨h.1.le hb, h.2.imp (fun h => h.le hb) id⟩
theorem FracS.part {m : World} {v : Value} {x y : Int} (h : FracS m v x y) : SPart m v (pN x y) (pD y) true := by
 refine ⟨?_, fun w m' hV hl => q_smallParts v x y w m' hV (h.le hl)⟩
 obtain ⟨a, b, c, d, e, _⟩ := h
 exact ⟨a, b, c, d, e⟩
theorem NoS.part {v : Value} (h : NoS v) (m : World) : SPart m v 0 0 false := by
 obtain ⟨g, A, n, c, g', B, k, d, rfl, hk⟩ := h
 exact ⟨⟨_, _, _, _, rfl⟩, fun w m' hV _ => q_smallPartsF g A n c g' B k d w m' hV hk⟩
theorem FrV.agg {m : World} {v : Value} {x y : Int} (h : FrV m v x y) : ∃ a b c d, v = .agg #[a, b, c, d] := by
 obtain ⟨g, A, n, c, g', B, k, d, e, _⟩ := h
 exact ⟨_, _, _, _, e⟩
theorem add_same {a b d : Int} (hd : 0 < d) : Rat.divInt (a + b) d = Rat.divInt a d + Rat.divInt b d := by
 rw [Rat.divInt_add_divInt _ _ (by omega) (by omega), ← Int.add_mul, Rat.divInt_mul_right (by omega)]

end Go.Proofs.YtniigfikpfinfaaGreat

/- Contract of integer.DivMod for numbers below 2^64 and a positive divisor, whole. -/
namespace Go.Proofs.YtniigfikpfinfaaGreat
open Go.RowKit

theorem dm_negM {x y : Int} (hy : 0 < y) (hx : x < 0) (hr : x.natAbs % y.natAbs ≠ 0) : sgn true (x.natAbs / y.natAbs + 1) = x / y ∧ sgn false (y.natAbs - x.natAbs % y.natAbs) = x % y := by
 obtain ⟨n, rfl⟩ : ∃ n : Nat, x = -(n : Int) := ⟨x.natAbs, by omega⟩
 obtain ⟨d, rfl⟩ : ∃ d : Nat, y = (d : Int) := ⟨y.natAbs, by omega⟩
 simp only [Int.natAbs_neg, Int.natAbs_natCast] at *
 have hd : 0 < d := by omega
 have h1 := Nat.mod_lt n hd
 have h2 := Nat.div_add_mod n d
 have key := (Int.ediv_emod_unique (a := -(n : Int)) (b := (d : Int)) (r := ((d - n % d : Nat) : Int)) (q := -((n / d + 1 : Nat) : Int)) hy).2 ⟨?_, by omega, by omega⟩
 ·rw [key.1, key.2]; exact ⟨rfl, rfl⟩
 ·have e : ((d - n % d : Nat) : Int) = (d : Int) - ((n % d : Nat) : Int) := by omega
  have e2 : (n : Int) = (d : Int) * ((n / d : Nat) : Int) + ((n % d : Nat) : Int) := by
   have := congrArg (Nat.cast (R := Int)) h2
   simpa using this.symm
  rw [e]
  generalize ((n % d : Nat) : Int) = r at *
  rw [Int.mul_neg, Int.natCast_add, Int.mul_add]
  simp only [Int.natCast_one, Int.mul_one]
  omega
theorem dig1 {m : World} {g : Nat} (h : Blk m g 120 #[.int .u32 1]) : DigV m (.slice (some ⟨g, 0, none⟩) 1 1) (digs 1) := by
 rw [digs_small (by decide) (by decide)]
 exact ⟨_, _, rfl, Nat.le_refl _, h.sl (n := 1) rfl⟩

theorem i_DivModN (a b : Value) (x y : Int) (w m : World) (hV : Vw m w) (ha : IntV m a x) (hb : IntV m b y) (hx : x.natAbs < 18446744073709551616) (hy : y.natAbs < 18446744073709551616) (hy0 : 0 < y) (hn : x < 0) (hr : x.natAbs % y.natAbs ≠ 0) :
  Calls Tryz.prog 142 #[a, b] w (RetV w m fun m' v => DMr m' v x y) := by
 obtain ⟨g1, A1, l1, c1, rfl⟩ := ha.lit
 obtain ⟨g2, A2, l2, c2, rfl⟩ := hb.lit
 obtain ⟨d1, hg1⟩ := ha.digA
 obtain ⟨d2, hg2⟩ := hb.digA
 obtain rfl : g2 = false := by rw [hg2 (by omega)]; simp; omega
 obtain rfl : g1 = true := by rw [hg1 (by omega)]; simp; omega
 have HF := Lib.hid (dm_negM hy0 hn hr)
 have HX := Lib.hid hx
 have HY := Lib.hid hy
 have hyn : y.natAbs ≠ 0 := by omega
 have HYN := Lib.hid hyn
 have hq : x.natAbs / y.natAbs ≤ x.natAbs := Nat.div_le_self _ _
 have LQ : Hid (∀ k, k = x.natAbs / y.natAbs → (digs k).length ≤ 1000) := fun k e => by rw [e]; exact Nat.le_trans (length_digs_mono (Nat.div_le_self _ _)) ha.length
 have LY : Hid (∀ k, k = y.natAbs → (digs k).length ≤ 1000) := fun k e => by rw [e]; exact hb.length
 have L1 : Hid ((digs (x.natAbs / y.natAbs + 1)).length ≤ 1000) := Nat.le_trans (length_digs_le (k := 3) (by rw [show (4294967296 : Nat) ^ 3 = 79228162514264337593543950336 from rfl]; omega)) (by decide)
 have L2 : Hid ((digs (y.natAbs - x.natAbs % y.natAbs)).length ≤ 1000) := Nat.le_trans (length_digs_mono (Nat.sub_le _ _)) hb.length
 have LO : Hid ((digs 1).length ≤ 1000) := by show _ ≤ _; rw [digs_small (by decide) (by decide)]; decide
 have LE1 : Hid (x.natAbs % y.natAbs ≤ y.natAbs) := Nat.le_of_lt (Nat.mod_lt _ (by omega))
 have HP := Lib.hid (digs_len_pos hr)
 have t1 : (((digs y.natAbs).length : Int) == 0) = false := by
  have := mt digs_nil.1 hyn
  simp [List.length_eq_zero_iff, this]
 clear hx hy hg1 hg2 hr hn hy0 hq hyn
 have hL := Loc.start hV
 clear hV
 go_enter Tryz.func142, Tryz.ntmps142
 go_upto_region 1 with ((first | go_skip | refine tP ?_ | (refine tS ?_; clear hL; intro _ hL) | (refine tB ?_; clear hL; intro _ _ hL _) | (refine tC ?_; clear hL; intro _ _ hL _ hBs)))
 refine wp_region_by2 6 [false, false, false, false, false, false] [false, false, false, false, false, false] [(fun v _ _ => v = ?c1_0), (fun v _ _ => v = ?c1_1), Of (fun um v => DigV um v (digs x.natAbs)), (fun v _ _ => v = ?c1_3), (fun v _ _ => v = ?c1_4), Of (fun um v => DigV um v (digs y.natAbs))] hL.vw mixed [11, 12, 13, 14, 15, 16] _ (by kernel_rfl) (fun vs => by simp only [lay, Act.put, zq1, zq2, zq3]; rfl) (by kernel_rfl) (by decide) (by decide) ?s1 ?l1 ?r1
 case s1 =>
  refine ⟨?_, ?_, ?_, ?_, ?_, ?_, trivial⟩
  ·intro vs W1 m1 hE hM hV hD; clear hD
   exact sFe
  ·intro vs W1 m1 hE hM hV hD; obtain ⟨⟨_, _, -, -, f11⟩, -⟩ := hD
   rw [(f11 : vs 11 = _)]; clear f11; exact sLe
  ·intro vs W1 m1 hE hM hV hD; obtain ⟨⟨_, _, -, -, f12⟩, -⟩ := hD
   rw [(f12 : vs 12 = _)]
   clear f12
   go_wp2_with fail
   refine (i_trim _ x.natAbs _ _ hV (d1.le leX)).mono ?_
   rintro e W2 ⟨v, m2, rfl, hE2, hM2, hV2, h⟩
   go_wp2_with fail
   refine One2.call hE2 hM2 hV2 ?_; first | exact h | exact rfl
  ·intro vs W1 m1 hE hM hV hD; clear hD
   exact sFe
  ·intro vs W1 m1 hE hM hV hD; obtain ⟨⟨_, _, -, -, f14⟩, -⟩ := hD
   rw [(f14 : vs 14 = _)]; clear f14; exact sLe
  ·intro vs W1 m1 hE hM hV hD; obtain ⟨⟨_, _, -, -, f15⟩, -, -⟩ := hD
   rw [(f15 : vs 15 = _)]
   clear f15
   go_wp2_with fail
   refine (i_trim _ y.natAbs _ _ hV (d2.le leX)).mono ?_
   rintro e W2 ⟨v, m2, rfl, hE2, hM2, hV2, h⟩
   go_wp2_with fail
   refine One2.call hE2 hM2 hV2 ?_; first | exact h | exact rfl
 case l1 =>
  refine ⟨nF, nF, nF, nF, nF, nF, trivial⟩
 intro vs W1 m1 hE hM hV hF hD
 clear hD
 obtain ⟨-, -, ⟨_, _, -, i13, f13⟩, -, -, ⟨_, _, -, i16, f16⟩, -⟩ := hF
 replace hL := hL.call hE hM hV
 replace f13 : DigV _ (vs 13) (digs x.natAbs) := f13
 replace f13 := f13.le i13.le
 clear i13
 replace f16 : DigV _ (vs 16) (digs y.natAbs) := f16
 replace f16 := f16.le i16.le
 clear i16
 clear hE hV
 obtain ⟨A13, c13, e13, f13⟩ := f13.lit
 generalize vs 13 = x13 at e13 ⊢
 subst x13
 obtain ⟨A16, c16, e16, f16⟩ := f16.lit
 generalize vs 16 = x16 at e16 ⊢
 subst x16
 simp only [List.drop_succ_cons, List.drop_zero]
 go_wp2_with (first | go_skip | refine tP ?_ | (refine tS ?_; clear hL; intro _ hL) | (refine tB ?_; clear hL; intro _ _ hL _) | (refine tC ?_; clear hL; intro _ _ hL _ hBs))
 refine QN.mk ?_
 go_wp2_with (first | go_skip | refine tP ?_ | (refine tS ?_; clear hL; intro _ hL) | (refine tB ?_; clear hL; intro _ _ hL _) | (refine tC ?_; clear hL; intro _ _ hL _ hBs))
 refine (i_divMag _ _ x.natAbs y.natAbs _ _ hL.vw (f13.le leX) (f16.le leX) HX.out HY.out HYN.out).mono ?_
 rintro e W2 ⟨_, m2, rfl, hE, hM2, hV, qv, rv, rfl, h1, h2⟩
 replace hL := hL.call hE (by assumption) hV; clear hE hV
 obtain ⟨A4, c4, rfl, h1⟩ := h1.lit
 obtain ⟨A5, c5, rfl, h2⟩ := h2.lit
 have H1 := Lib.hid h1
 have H2 := Lib.hid h2
 have H3 := Lib.hid f16
 have hp := HP.out
 clear h1 h2 t1 f13 f16 HP
 generalize hnr : (digs (x.natAbs % y.natAbs)).length = nr at *
 generalize hnq : (digs (x.natAbs / y.natAbs)).length = nq at *
 generalize hny : (digs y.natAbs).length = ny at *
 clear hnr hnq hny
 have t2 : decide (0 < nr) = true := by simp; omega
 go_wp2_with (first | go_skip | refine tP ?_ | (refine tS ?_; clear hL; intro _ hL) | (refine tB ?_; clear hL; intro _ _ hL _) | (refine tC ?_; clear hL; intro _ _ hL _ hBs))
 refine (i_addMag _ _ (x.natAbs / y.natAbs) 1 _ _ hL.vw (H1.out.le leX) (dig1 hBs) (LQ.out _ rfl) LO.out).mono ?_
 rintro e W31 ⟨v31, m31, rfl, hE, hM31, hV, h31⟩
 replace hL := hL.call hE (by assumption) hV; clear hE hV
 obtain ⟨A6, c6, rfl, h31⟩ := h31.lit
 clear hBs
 go_wp2_with (first | go_skip | refine tP ?_ | (refine tS ?_; clear hL; intro _ hL) | (refine tB ?_; clear hL; intro _ _ hL _) | (refine tC ?_; clear hL; intro _ _ hL _ hBs))
 refine (i_subMag _ _ y.natAbs (x.natAbs % y.natAbs) _ _ hL.vw (H3.out.le leX) (H2.out.le leX) (LY.out _ rfl) LE1.out).mono ?_
 rintro e W32 ⟨v32, m32, rfl, hE, hM32, hV, h32⟩
 replace hL := hL.call hE (by assumption) hV; clear hE hV
 obtain ⟨A7, c7, rfl, h32⟩ := h32.lit
 go_upto_region 8 with ((first | go_skip | refine tP ?_ | (refine tS ?_; clear hL; intro _ hL) | (refine tB ?_; clear hL; intro _ _ hL _) | (refine tC ?_; clear hL; intro _ _ hL _ hBs)))
 refine wp_region_by2 11 [false, false, false, false, false, false, false, false, false, false, false] [false, false, false, false, false, false, false, false, false, false, false] [(fun v _ _ => v = ?c8_0), (fun v _ _ => v = ?c8_1), (fun v _ _ => v = ?c8_2), (fun v _ _ => v = ?c8_3), (fun v _ _ => v = ?c8_4), (fun v _ _ => v = ?c8_5), Of (fun um v => IntC um v (sgn true (x.natAbs / y.natAbs + 1))), (fun v _ _ => v = ?c8_7), (fun v _ _ => v = ?c8_8), (fun v _ _ => v = ?c8_9), Of (fun um v => IntC um v (sgn false (y.natAbs - x.natAbs % y.natAbs)))] hL.vw mixed [44, 45, 46, 47, 48, 49, 50, 51, 52, 53, 54] _ (by kernel_rfl) (fun vs => by simp only [lay, Act.put, zq1, zq2, zq3]; rfl) (by kernel_rfl) (by decide) (by decide) ?s8 ?l8 ?r8
 case s8 =>
  refine ⟨?_, ?_, ?_, ?_, ?_, ?_, ?_, ?_, ?_, ?_, ?_, trivial⟩
  ·intro vs W1 m1 hE hM hV hD; clear hD
   exact sFe
  ·intro vs W1 m1 hE hM hV hD; obtain ⟨⟨_, _, -, -, f44⟩, -⟩ := hD
   rw [(f44 : vs 44 = _)]; clear f44; exact sLe
  ·intro vs W1 m1 hE hM hV hD; clear hD
   exact sFe
  ·intro vs W1 m1 hE hM hV hD; obtain ⟨⟨_, _, -, -, f46⟩, -⟩ := hD
   rw [(f46 : vs 46 = _)]; clear f46; exact sLe
  ·intro vs W1 m1 hE hM hV hD; obtain ⟨⟨_, _, -, -, f45⟩, ⟨_, _, -, -, f47⟩, -⟩ := hD
   rw [(f45 : vs 45 = _), (f47 : vs 47 = _)]; clear f45 f47; exact sPw
  ·intro vs W1 m1 hE hM hV hD; clear hD
   exact sPw
  ·intro vs W1 m1 hE hM hV hD; obtain ⟨⟨_, _, -, -, f48⟩, ⟨_, _, -, -, f49⟩, -⟩ := hD
   rw [(f48 : vs 48 = _), (f49 : vs 49 = _)]
   clear f48 f49
   go_wp2_with fail
   refine (i_wrap _ _ _ _ _ hV ((h31.toA L1.out).le leX)).mono ?_
   rintro e W2 ⟨v, m2, rfl, hE2, hM2, hV2, h⟩
   go_wp2_with fail
   refine One2.call hE2 hM2 hV2 ?_; first | exact h | exact rfl
  ·intro vs W1 m1 hE hM hV hD; clear hD
   exact sFe
  ·intro vs W1 m1 hE hM hV hD; obtain ⟨⟨_, _, -, -, f51⟩, -⟩ := hD
   rw [(f51 : vs 51 = _)]; clear f51; exact sLe
  ·intro vs W1 m1 hE hM hV hD; clear hD
   exact sPw
  ·intro vs W1 m1 hE hM hV hD; obtain ⟨⟨_, _, -, -, f52⟩, ⟨_, _, -, -, f53⟩, -, -⟩ := hD
   rw [(f52 : vs 52 = _), (f53 : vs 53 = _)]
   clear f52 f53
   go_wp2_with fail
   refine (i_wrap _ _ _ _ _ hV ((h32.toA L2.out).le leX)).mono ?_
   rintro e W2 ⟨v, m2, rfl, hE2, hM2, hV2, h⟩
   go_wp2_with fail
   refine One2.call hE2 hM2 hV2 ?_; first | exact h | exact rfl
 case l8 =>
  refine ⟨nF, nF, nF, nF, nF, nF, nF, nF, nF, nF, nF, trivial⟩
 intro vs W1 m1 hE hM hV hF hD
 clear hD
 obtain ⟨-, -, -, -, -, -, ⟨_, _, -, i50, f50⟩, -, -, -, ⟨_, _, -, i54, f54⟩, -⟩ := hF
 replace hL := hL.call hE hM hV
 replace f50 : IntC _ (vs 50) (sgn true (x.natAbs / y.natAbs + 1)) := f50
 replace f50 := f50.le i50.le
 clear i50
 obtain ⟨g50, A50, n50, c50, e50, f50⟩ := f50.lit
 generalize vs 50 = x50 at e50 ⊢
 subst x50
 replace f54 : IntC _ (vs 54) (sgn false (y.natAbs - x.natAbs % y.natAbs)) := f54
 replace f54 := f54.le i54.le
 clear i54
 obtain ⟨g54, A54, n54, c54, e54, f54⟩ := f54.lit
 generalize vs 54 = x54 at e54 ⊢
 subst x54
 clear hE hV
 simp only [List.drop_succ_cons, List.drop_zero]
 go_wp2_with (first | go_skip | refine tP ?_ | (refine tS ?_; clear hL; intro _ hL) | (refine tB ?_; clear hL; intro _ _ hL _) | (refine tC ?_; clear hL; intro _ _ hL _ hBs))
 refine QN.mk ?_
 go_wp2_with (first | go_skip | refine tP ?_ | (refine tS ?_; clear hL; intro _ hL) | (refine tB ?_; clear hL; intro _ _ hL _) | (refine tC ?_; clear hL; intro _ _ hL _ hBs))
 obtain ⟨p1, p2, _⟩ := (hL.at_ lo0).facts2
 obtain ⟨p3, p4, _⟩ := (hL.at_ lo1).facts2
 refine bodyPost_ret (v := .tuple #[.agg #[.bool g50, .slice A50 n50 c50], .agg #[.bool g54, .slice A54 n54 c54], .int .i64 0]) (by simp [results, Tryz.results142, go_sem, p1, p2, p3, p4]) rfl (RetV.mk hL ⟨_, _, rfl, ?_, ?_⟩)
 ·rw [← HF.out.1]; exact f50
 ·rw [← HF.out.2]; exact f54
theorem i_DivModA (a b : Value) (x y : Int) (w m : World) (hV : Vw m w) (ha : IntV m a x) (hb : IntV m b y) (hx : x.natAbs < 18446744073709551616) (hy : y.natAbs < 18446744073709551616) (hy0 : 0 < y) :
  Calls Tryz.prog 142 #[a, b] w (RetV w m fun m' v => DMr m' v x y) := by
 by_cases hr : x.natAbs % y.natAbs = 0
 ·refine i_DivModR a b x y w m hV ha hb hx hy hy0 (.inr ?_)
  have h1 : (y.natAbs : Int) ∣ (x.natAbs : Int) := Int.natCast_dvd_natCast.2 (Nat.dvd_of_mod_eq_zero hr)
  exact Int.emod_eq_zero_of_dvd (Int.natAbs_dvd_natAbs.1 (Int.natCast_dvd_natCast.1 h1))
 ·by_cases hn : x < 0
  ·exact i_DivModN a b x y w m hV ha hb hx hy hy0 hn hr
  ·exact i_DivModR a b x y w m hV ha hb hx hy hy0 (.inl (by omega))
end Go.Proofs.YtniigfikpfinfaaGreat

/- Contracts of pairingref25.New, Mul and pairingdata.times that leave the digits of the numerator in a row of the caller's own. -/
namespace Go.Proofs.YtniigfikpfinfaaGreat
open Go.RowKit

theorem IntO.nil (u : World) (B : Nat) : IntO u B (.agg #[.bool false, .slice none 0 0]) 0 := ⟨.slice none 0 0, by simp, by simp [digs_zero], .inl ⟨by simp [digs_zero], by simp [digs_zero]⟩⟩
theorem IntO.lit {u : World} {B : Nat} {v : Value} {z : Int} (h : IntO u B v z) : ∃ A c, v = .agg #[.bool (decide (z < 0)), .slice A (digs z.natAbs).length c] ∧ u.ownsRow B 120 1 (.slice A (digs z.natAbs).length c) (digs z.natAbs).length ((digs z.natAbs).map U) := by
 obtain ⟨s, rfl, ho⟩ := h
 obtain ⟨A, c, rfl, _, _⟩ := Sl.digs_of_own ho
 exact ⟨A, c, rfl, ho⟩
def NumO (B : Nat) (u : World) (v : Value) (z : Int) : Prop := ∃ a b h D k d, v = .agg #[a, b, .bool h, .slice D k d] ∧ IntO u B (.agg #[a, b]) z
theorem NumO.base {u : World} {B B' : Nat} {v : Value} {z : Int} (h : NumO B' u v z) (hB : B ≤ B') : NumO B u v z := by
 obtain ⟨a, b, g, D, k, d, e, h⟩ := h
 exact ⟨a, b, g, D, k, d, e, h.base hB⟩
end Go.Proofs.YtniigfikpfinfaaGreat

/- Contract of pairingdata.times: its result's digits lie in a row of the caller's own. -/
namespace Go.Proofs.YtniigfikpfinfaaGreat
open Go.RowKit

theorem rat_one (x : Int) : Rat.divInt x 1 = (x : Rat) := by rw [← Rat.num_divInt_den (x : Rat)]; simp
def IntW (B : Nat) (z : Int) : Fct := fun v u um => IntC um v z ∧ IntO u B v z
theorem IntW.base {u um : World} {B B' : Nat} {v : Value} {z : Int} (h : IntW B' z v u um) (hB : B ≤ B') : IntW B z v u um := ⟨h.1, h.2.base hB⟩

end Go.Proofs.YtniigfikpfinfaaGreat

/- Regions that draw their order and store, late, into cells that they load before: the loads are taken first under a condition that holds till the first store. No program. -/
namespace Go.Proofs.YtniigfikpfinfaaGreat
open Go.RowKit
section
variable {P : Program} {ops : Array Oper} {Q : Exit → Act → World → Prop} {S : World → Prop}

def wpL (P : Program) (ops : Array Oper) (Q : Exit → Act → World → Prop) (S : World → Prop) (s : Nat) : Nat → Array Bool → Act → World → Prop
 | 0, listed, a, w => Region.ready .any ops listed = [] ∧ Q .normal a w
 | fuel + 1, listed, a, w =>
  (Region.ready .any ops listed = [] → Q .normal a w) ∧
  ∀ i ∈ Region.ready .any ops listed, wpOp P ops Q i (fun a' w' => ((listed.setIfInBounds i true).getD s false = false → S w') ∧ wpL P ops Q S s fuel (listed.setIfInBounds i true) a' w') a w
def AllL (P : Program) (ops : Array Oper) (Q : Exit → Act → World → Prop) (S : World → Prop) (s fuel : Nat) (listed : Array Bool) (a : Act) (w : World) (rs : List Nat) : Prop :=
 ∀ i ∈ rs, wpOp P ops Q i (fun a' w' => ((listed.setIfInBounds i true).getD s false = false → S w') ∧ wpL P ops Q S s fuel (listed.setIfInBounds i true) a' w') a w
theorem AllL.nil {s fuel : Nat} {listed : Array Bool} {a : Act} {w : World} : AllL P ops Q S s fuel listed a w [] := fun _ h => by cases h
theorem AllL.cons {s fuel : Nat} {listed : Array Bool} {a : Act} {w : World} {i : Nat} {o : Oper} {rs : List Nat} (ho : ops[i]? = some o)
  (h : ∀ K' : Act → World → Prop, Shut (∀ a w, S w → (S w → wpL P ops Q S s fuel (listed.setIfInBounds i true) a w) → K' a w) → if Region.wanted o (yielded ops a.tmps) = true then Oper.wp P o a w K' Q else K' (a.put o.dst undef) w)
  (hs : AllL P ops Q S s fuel listed a w rs) : AllL P ops Q S s fuel listed a w (i :: rs) := fun j hj => by
 rcases List.mem_cons.1 hj with rfl | hj
 ·exact wpOp_step ho (fun K' hK => h K' (fun a w hS hW => hK a w ⟨fun _ => hS, hW hS⟩))
 ·exact hs j hj
end
end Go.Proofs.YtniigfikpfinfaaGreat

/- Contract of pairingdata.Wild where a digit is appended. -/
namespace Go.Proofs.YtniigfikpfinfaaGreat
open Go.RowKit

theorem Blk.grown {w w' : World} {g : Nat} {t : TypeId} {cs : Array Value} {row : Option Nat} (h : Blk w g t cs) (hg : w.grownBy w' row) (hne : some g ≠ row) : Blk w' g t cs := (hg.block g h.lt hne).trans h
end Go.Proofs.YtniigfikpfinfaaGreat

/- Contracts of pairingdata.Wild whole, lagrange.copyPrices as a value, and lagrange.Step. -/
namespace Go.Proofs.YtniigfikpfinfaaGreat
open Go.RowKit

theorem FrG.lit {m : World} {v : Value} {x y : Int} (h : FrG m v x y) : ∃ g A n c f B k d, v = .agg #[.bool g, .slice A n c, .bool f, .slice B k d] ∧ FrG m (.agg #[.bool g, .slice A n c, .bool f, .slice B k d]) x y := by
 have h' := h
 obtain ⟨⟨g, A, n, c, f, B, k, d, rfl, -, -⟩, -⟩ := h
 exact ⟨_, _, _, _, _, _, _, _, rfl, h'⟩

end Go.Proofs.YtniigfikpfinfaaGreat

/- The walk through the law LagrangeSteps. -/
namespace Go.Proofs.YtniigfikpfinfaaGreat
open Go.RowKit

structure WF (x y : Int) : Prop where
 bx : x.natAbs ≤ 20
 by_ : y.natAbs ≤ 20
 q : Tn 10 (Rat.divInt x y)
theorem WF.sm {x y : Int} (h : WF x y) : Sm x y := ⟨by have := h.bx; omega, by have := h.by_; omega⟩
theorem FrG.toV {m : World} {v : Value} {x y : Int} (h : FrG m v x y) : FracV m v (Rat.divInt x y) := by
 obtain ⟨⟨g, A, n, c, f, B, k, d, rfl, h1, h2⟩, -⟩ := h
 exact ⟨x, y, _, _, _, _, rfl, h1, h2, rfl⟩
end Go.Proofs.YtniigfikpfinfaaGreat

/- Contracts on lists of numbers: pairingref27.Has, count, within, ascending; slices.Index, Contains, BinarySearch; cmp.Less. -/
namespace Go.Proofs.YtniigfikpfinfaaGreat
open Go.RowKit

theorem has_step {xs : List Int} {t x : Int} {k : Nat} (h : ∀ j, j < k → xs[j]? ≠ some t) (hx : xs[k]? = some x) (he : ¬ x = t) : ∀ j, j < k + 1 → xs[j]? ≠ some t := by
 intro j hj
 rcases Nat.lt_or_ge j k with h1 | h1
 ·exact h j h1
 ·obtain rfl : j = k := by omega
  rw [hx]
  exact fun e => he (Option.some.inj e)
theorem has_end {xs : List Int} {t : Int} {k n : Nat} (hn : xs.length = n) (hk : ¬ k < n) (h : ∀ j, j < k → xs[j]? ≠ some t) : decide (t ∈ xs) = false := by
 refine decide_eq_false fun hm => ?_
 obtain ⟨j, hj⟩ := List.mem_iff_getElem?.1 hm
 have := (List.getElem?_eq_some_iff.1 hj).1
 exact h j (by omega) hj

theorem r_Has (a : Value) (xs : List Int) (t : Int) (w m : World) (hV : Vw m w) (ha : IntL m a xs) (hl : xs.length ≤ 1000000) :
  Calls Tryz.prog 117 #[a, .int .i64 t] w (RetV w m fun _ r => r = .bool (decide (t ∈ xs))) := by
 obtain ⟨A, c, rfl, hc, ha⟩ := ha.lit
 have hL := Loc.start hV
 clear hV
 generalize hn : xs.length = n at *
 have HN := Lib.hid hn
 clear hn
 go_enter Tryz.func117, Tryz.ntmps117
 go_wp2_with (first | go_skip | refine tP ?_)
 go_loopw [5] (fun i wr => ∃ (k : Nat) (mm : World), k ≤ n ∧ i = .int .i64 k ∧ Loc w m wr mm [] ∧ Hid (∀ j, j < k → xs[j]? ≠ some t)) (fun i _ => n - (intOf i).toNat)
 case atStart => exact ⟨0, m, Nat.zero_le _, rfl, hL, fun j hj => by omega⟩
 case round =>
  clear hL
  obtain ⟨k, mm, hk, rfl, hL, HJ⟩ := hrel
  have hM := hL.mext
  by_cases hlt : k < n
  ·obtain ⟨x, hx⟩ := at_some HN hlt
   obtain ⟨b1, o1, rfl, hc1⟩ := IntL.at_ ha hx
   by_cases he : x = t
   ·have E : Hid (decide (t ∈ xs) = true) := decide_eq_true (he ▸ List.mem_of_getElem? hx)
    have bb : (x == t) = true := by simp [he]
    clear hx he
    go_wp2_with (first | go_skip | refine tP ?_)
    go_ret
    exact RetV.mk hL (congrArg Value.bool E.out.symm)
   ·have bb : (x == t) = false := by simp [he]
    have HS := Lib.hid (has_step HJ.out hx he)
    clear hx he
    go_wp2_with (first | go_skip | refine tP ?_)
    go_roundw
    case rel => exact ⟨k + 1, _, by omega, by go_num, hL, HS.out⟩
    case measure => simp [intOf] <;> omega
  ·have E := Lib.hid (has_end HN.out hlt HJ.out)
   go_wp2_with (first | go_skip | refine tP ?_)
   go_ret
   exact RetV.mk hL (congrArg Value.bool E.out.symm)

theorem count_step {xs : List Int} {t x : Int} {k : Nat} (hx : xs[k]? = some x) : (xs.take (k + 1)).count t = (xs.take k).count t + (if x = t then 1 else 0) := by
 rw [List.take_add_one, hx, List.count_append]
 by_cases h : x = t
 ·subst h; simp
 ·simp [h]
theorem r_count (a : Value) (xs : List Int) (t : Int) (w m : World) (hV : Vw m w) (ha : IntL m a xs) (hl : xs.length ≤ 1000000) :
  Calls Tryz.prog 111 #[a, .int .i64 t] w (RetV w m fun _ r => r = .int .i64 ((xs.count t : Nat) : Int)) := by
 obtain ⟨A, c, rfl, hc, ha⟩ := ha.lit
 have hL := Loc.start hV
 clear hV
 generalize hn : xs.length = n at *
 have HN := Lib.hid hn
 clear hn
 go_enter Tryz.func111, Tryz.ntmps111
 go_wp2_with (first | go_skip | refine tP ?_)
 go_loopw [5, 6] (fun cc i wr => ∃ (k q : Nat) (mm : World), k ≤ n ∧ q ≤ k ∧ i = .int .i64 k ∧ cc = .int .i64 q ∧ Loc w m wr mm [] ∧ Hid (q = (xs.take k).count t)) (fun _ i _ => n - (intOf i).toNat)
 case atStart => exact ⟨0, 0, m, Nat.zero_le _, Nat.zero_le _, rfl, rfl, hL, rfl⟩
 case round =>
  clear hL
  obtain ⟨k, q, mm, hk, hq, rfl, rfl, hL, HJ⟩ := hrel
  have hM := hL.mext
  by_cases hlt : k < n
  ·obtain ⟨x, hx⟩ := at_some HN hlt
   obtain ⟨b1, o1, rfl, hc1⟩ := IntL.at_ ha hx
   have HS := Lib.hid (count_step (t := t) hx)
   by_cases he : x = t
   ·have bb : (x == t) = true := by simp [he]
    have HE : Hid (q + 1 = (xs.take (k + 1)).count t) := by show _ = _; rw [HS.out, if_pos he, HJ.out]
    clear hx he
    go_wp2_with (first | go_skip | refine tP ?_)
    go_roundw
    case rel => exact ⟨k + 1, q + 1, _, by omega, by omega, by go_num, by go_num, hL, HE.out⟩
    case measure => simp [intOf] <;> omega
   ·have bb : (x == t) = false := by simp [he]
    have HE : Hid (q = (xs.take (k + 1)).count t) := by show _ = _; rw [HS.out, if_neg he, HJ.out]; rfl
    clear hx he
    go_wp2_with (first | go_skip | refine tP ?_)
    go_roundw
    case rel => exact ⟨k + 1, q, _, by omega, by omega, by go_num, rfl, hL, HE.out⟩
    case measure => simp [intOf] <;> omega
  ·have E : Hid (q = xs.count t) := by
    show _ = _
    have := HJ.out
    rwa [List.take_of_length_le (by rw [HN.out]; omega)] at this
   go_wp2_with (first | go_skip | refine tP ?_)
   go_ret
   exact RetV.mk hL (congrArg (fun z : Nat => Value.int .i64 (z : Int)) E.out)

theorem within_step {xs ys : List Int} {x : Int} {k : Nat} (h : ∀ j y, j < k → xs[j]? = some y → y ∈ ys) (hx : xs[k]? = some x) (he : x ∈ ys) : ∀ j y, j < k + 1 → xs[j]? = some y → y ∈ ys := by
 intro j y hj hy
 rcases Nat.lt_or_ge j k with h1 | h1
 ·exact h j y h1 hy
 ·obtain rfl : j = k := by omega
  rw [hx] at hy
  exact Option.some.inj hy ▸ he
theorem within_end {xs ys : List Int} {k n : Nat} (hn : xs.length = n) (hk : ¬ k < n) (h : ∀ j y, j < k → xs[j]? = some y → y ∈ ys) : decide (∀ x ∈ xs, x ∈ ys) = true := by
 refine decide_eq_true fun x hm => ?_
 obtain ⟨j, hj⟩ := List.mem_iff_getElem?.1 hm
 have := (List.getElem?_eq_some_iff.1 hj).1
 exact h j x (by omega) hj

theorem r_within (a b : Value) (xs ys : List Int) (w m : World) (hV : Vw m w) (ha : IntL m a xs) (hb : IntL m b ys) (hl : xs.length ≤ 1000000) (hl' : ys.length ≤ 1000000) :
  Calls Tryz.prog 76 #[a, b] w (RetV w m fun _ r => r = .bool (decide (∀ x ∈ xs, x ∈ ys))) := by
 obtain ⟨A, c, rfl, hc, ha⟩ := ha.lit
 obtain ⟨B, d, rfl, hd, hb⟩ := hb.lit
 have HB := Lib.hid hb
 have HL' := Lib.hid hl'
 have hL := Loc.start hV
 clear hV hb
 generalize hn2 : ys.length = n2 at *
 have HN2 := Lib.hid hn2
 clear hn2
 generalize hn : xs.length = n at *
 have HN := Lib.hid hn
 clear hn
 go_enter Tryz.func76, Tryz.ntmps76
 go_wp2_with (first | go_skip | refine tP ?_)
 go_loopw [5] (fun i wr => ∃ (k : Nat) (mm : World), k ≤ n ∧ i = .int .i64 k ∧ Loc w m wr mm [] ∧ Hid (∀ j y, j < k → xs[j]? = some y → y ∈ ys)) (fun i _ => n - (intOf i).toNat)
 case atStart => exact ⟨0, m, Nat.zero_le _, rfl, hL, fun j _ hj => by omega⟩
 case round =>
  clear hL
  obtain ⟨k, mm, hk, rfl, hL, HJ⟩ := hrel
  have hM := hL.mext
  by_cases hlt : k < n
  ·obtain ⟨x, hx⟩ := at_some HN hlt
   obtain ⟨b1, o1, rfl, hc1⟩ := IntL.at_ ha hx
   have HX := Lib.hid hx
   clear hx
   go_wp2_with (first | go_skip | refine tP ?_)
   refine (r_Has _ ys x _ _ hL.vw (IntL.le HB.out leX) (by rw [HN2.out]; exact HL'.out)).mono ?_
   rintro e Wh1 ⟨_, mh1, rfl, hE, hMh1, hV, rfl⟩
   replace hL := hL.call hE (by assumption) hV; clear hE hV
   by_cases he : x ∈ ys
   ·have HS := Lib.hid (within_step HJ.out HX.out he)
    rw [decide_eq_true he]
    clear he
    go_wp2_with (first | go_skip | refine tP ?_)
    go_roundw
    case rel => exact ⟨k + 1, _, by omega, by go_num, hL, HS.out⟩
    case measure => simp [intOf] <;> omega
   ·have E : Hid (decide (∀ x ∈ xs, x ∈ ys) = false) := decide_eq_false fun h => he (h x (List.mem_of_getElem? HX.out))
    rw [decide_eq_false he]
    clear he
    go_wp2_with (first | go_skip | refine tP ?_)
    go_ret
    exact RetV.mk hL (congrArg Value.bool E.out.symm)
  ·have E := Lib.hid (within_end HN.out hlt HJ.out)
   go_wp2_with (first | go_skip | refine tP ?_)
   go_ret
   exact RetV.mk hL (congrArg Value.bool E.out.symm)

def AscP (xs : List Int) : Prop := ∀ (j : Nat) (x y : Int), xs[j]? = some x → xs[j + 1]? = some y → x < y
theorem AscP.lt {xs : List Int} (h : AscP xs) : ∀ (d j : Nat) (x y : Int), xs[j]? = some x → xs[j + d + 1]? = some y → x < y := by
 intro d
 induction d with
 | zero => intro j x y hx hy; exact h j x y hx hy
 | succ d ih =>
  intro j x y hx hy
  have hl := (List.getElem?_eq_some_iff.1 hy).1
  obtain ⟨z, hz⟩ : ∃ z, xs[j + d + 1]? = some z := ⟨_, List.getElem?_eq_getElem (by omega)⟩
  have h1 := ih j x z hx hz
  have h2 := h (j + d + 1) z y hz (by rw [show j + d + 1 + 1 = j + (d + 1) + 1 by omega]; exact hy)
  omega

theorem r_ascT (a : Value) (xs : List Int) (w m : World) (hV : Vw m w) (ha : IntL m a xs) (hl : xs.length ≤ 1000000) (hasc : AscP xs) :
  Calls Tryz.prog 119 #[a] w (RetV w m fun _ r => r = .bool true) := by
 obtain ⟨A, c, rfl, hc, ha⟩ := ha.lit
 have HA := Lib.hid hasc
 have hL := Loc.start hV
 clear hV hasc
 generalize hn : xs.length = n at *
 have HN := Lib.hid hn
 clear hn
 go_enter Tryz.func119, Tryz.ntmps119
 go_wp2_with (first | go_skip | refine tP ?_)
 go_loopw [3] (fun i wr => ∃ (k : Nat) (mm : World), k ≤ n ∧ i = .int .i64 ((k : Int) + 1) ∧ Loc w m wr mm []) (fun i _ => n + 1 - (intOf i).toNat)
 case atStart => exact ⟨0, m, Nat.zero_le _, rfl, hL⟩
 case round =>
  clear hL
  obtain ⟨k, mm, hk, rfl, hL⟩ := hrel
  have hM := hL.mext
  by_cases hlt : k + 1 < n
  ·obtain ⟨x, hx⟩ := at_some HN (show k < n by omega)
   obtain ⟨y, hy⟩ := at_some HN hlt
   obtain ⟨b1, o1, rfl, hc1⟩ := IntL.at_ ha hx
   obtain ⟨b2, o2, e2, hc2⟩ := IntL.at_ ha hy
   obtain ⟨rfl, rfl⟩ : b1 = b2 ∧ o1 = o2 := by simpa using e2
   have hxy : x < y := HA.out k x y hx hy
   have hkn : k < n := by omega
   have e3 : ((k : Int) + 1) = ((k + 1 : Nat) : Int) := by omega
   rw [e3]
   clear hx hy e2 e3 hk
   obtain ⟨k1, hk1⟩ : ∃ k1, k1 = k + 1 := ⟨_, rfl⟩
   rw [← hk1] at hc2 hlt ⊢
   have e1 : (k1 : Int) - 1 = (k : Int) := by omega
   have e4 : wrap64 ((k1 : Int) - 1) = (k : Int) := by unfold wrap64; omega
   have HK := Lib.hid hk1
   have HXY := Lib.hid hxy
   clear hk1 hxy
   go_upto_region 4 with ((first | go_skip | refine tP ?_))
   (try simp only [eq_self] at *)
   refine wp_region_by2 10 [false, false, false, false, false, false, false, false, false, false] [false, false, false, false, false, false, false, false, false, false] [(fun v _ _ => v = ?c4_0), (fun v _ _ => v = ?c4_1), (fun v _ _ => v = ?c4_2), (fun v _ _ => v = ?c4_3), (fun v _ _ => v = ?c4_4), (fun v _ _ => v = ?c4_5), (fun v _ _ => v = ?c4_6), (fun v _ _ => v = ?c4_7), (fun v _ _ => v = ?c4_8), (fun v _ _ => v = ?c4_9)] hL.vw mixed [10, 11, 12, 13, 14, 15, 16, 17, 18, 19] _ (by kernel_rfl) (fun vs => by simp only [lay, Act.put, zq1, zq2, zq3]; rfl) (by kernel_rfl) (by decide) (by decide) ?s4 ?l4 ?r4
   case s4 =>
    refine ⟨?_, ?_, ?_, ?_, ?_, ?_, ?_, ?_, ?_, ?_, trivial⟩
    ·intro vs W1 m1 hE hM hV hD; clear hD
     exact sPw
    ·intro vs W1 m1 hE hM hV hD; clear hD
     exact sPw
    ·intro vs W1 m1 hE hM hV hD; obtain ⟨⟨_, _, -, -, f10⟩, ⟨_, _, -, -, f11⟩, -⟩ := hD
     rw [(f10 : vs 10 = _), (f11 : vs 11 = _)]; clear f10 f11; exact sIy
    ·intro vs W1 m1 hE hM hV hD; obtain ⟨⟨_, _, -, -, f12⟩, -⟩ := hD
     rw [(f12 : vs 12 = _)]; clear f12; exact sLe
    ·intro vs W1 m1 hE hM hV hD; clear hD
     exact sPw
    ·intro vs W1 m1 hE hM hV hD; clear hD
     exact sPw
    ·intro vs W1 m1 hE hM hV hD; obtain ⟨⟨_, _, -, -, f15⟩, -⟩ := hD
     rw [(f15 : vs 15 = _)]; clear f15; exact sPw
    ·intro vs W1 m1 hE hM hV hD; obtain ⟨⟨_, _, -, -, f14⟩, ⟨_, _, -, -, f16⟩, -⟩ := hD
     rw [(f14 : vs 14 = _), (f16 : vs 16 = _)]; clear f14 f16; exact sIy
    ·intro vs W1 m1 hE hM hV hD; obtain ⟨⟨_, _, -, -, f17⟩, -⟩ := hD
     rw [(f17 : vs 17 = _)]; clear f17; exact sLe
    ·intro vs W1 m1 hE hM hV hD; obtain ⟨⟨_, _, -, -, f13⟩, ⟨_, _, -, -, f18⟩, -⟩ := hD
     rw [(f13 : vs 13 = _), (f18 : vs 18 = _)]; clear f13 f18; exact sPw
   case l4 =>
    refine ⟨nF, nF, nF, nF, nF, nF, nF, nF, nF, nF, trivial⟩
   intro vs W1 m1 hE hM hV hF hD
   clear hD
   obtain ⟨⟨_, _, -, -, f10⟩, ⟨_, _, -, -, f11⟩, ⟨_, _, -, -, f12⟩, ⟨_, _, -, -, f13⟩, ⟨_, _, -, -, f14⟩, ⟨_, _, -, -, f15⟩, ⟨_, _, -, -, f16⟩, ⟨_, _, -, -, f17⟩, ⟨_, _, -, -, f18⟩, ⟨_, _, -, -, f19⟩, -⟩ := hF
   replace hL := hL.call hE hM hV
   have f10 : vs 10 = _ := f10
   generalize vs 10 = x10 at f10 ⊢
   subst x10
   have f11 : vs 11 = _ := f11
   generalize vs 11 = x11 at f11 ⊢
   subst x11
   have f12 : vs 12 = _ := f12
   generalize vs 12 = x12 at f12 ⊢
   subst x12
   have f13 : vs 13 = _ := f13
   generalize vs 13 = x13 at f13 ⊢
   subst x13
   have f14 : vs 14 = _ := f14
   generalize vs 14 = x14 at f14 ⊢
   subst x14
   have f15 : vs 15 = _ := f15
   generalize vs 15 = x15 at f15 ⊢
   subst x15
   have f16 : vs 16 = _ := f16
   generalize vs 16 = x16 at f16 ⊢
   subst x16
   have f17 : vs 17 = _ := f17
   generalize vs 17 = x17 at f17 ⊢
   subst x17
   have f18 : vs 18 = _ := f18
   generalize vs 18 = x18 at f18 ⊢
   subst x18
   have f19 : vs 19 = _ := f19
   generalize vs 19 = x19 at f19 ⊢
   subst x19
   clear hE hV
   simp only [List.drop_succ_cons, List.drop_zero]
   go_wp2_with (first | go_skip | refine tP ?_)
   refine QN.mk ?_
   have hxy : ¬ y ≤ x := by have := HXY.out; omega
   go_wp2_with (first | go_skip | refine tP ?_)
   go_roundw
   case rel => exact ⟨k1, _, by omega, by go_num, hL⟩
   case measure => have := HK.out; simp [intOf] <;> omega
  ·have h0 : ¬ (k : Int) + 1 < (n : Int) := by omega
   go_wp2_with (first | go_skip | refine tP ?_)
   go_ret
   exact RetV.mk hL rfl
end Go.Proofs.YtniigfikpfinfaaGreat

/- Contracts of slices.Index, Contains, BinarySearch and cmp.Less for int. -/
namespace Go.Proofs.YtniigfikpfinfaaGreat
open Go.RowKit

theorem s_isNaNc (x : Int) (w m : World) (hV : Vw m w) : Calls Tryz.prog 191 #[.int .i64 x] w (RetV w m fun _ r => r = .bool false) := by
 have hL := Loc.start hV
 clear hV
 have bb : (x != x) = false := by simp
 go_enter Tryz.func191, Tryz.ntmps191
 go_wp2_with (first | go_skip | refine tP ?_)
 go_ret
 exact RetV.mk hL rfl
theorem s_isNaN (x : Int) (w m : World) (hV : Vw m w) : Calls Tryz.prog 177 #[.int .i64 x] w (RetV w m fun _ r => r = .bool false) := by
 have hL := Loc.start hV
 clear hV
 have bb : (x != x) = false := by simp
 go_enter Tryz.func177, Tryz.ntmps177
 go_wp2_with (first | go_skip | refine tP ?_)
 go_ret
 exact RetV.mk hL rfl
theorem s_Less (x y : Int) (w m : World) (hV : Vw m w) : Calls Tryz.prog 176 #[.int .i64 x, .int .i64 y] w (RetV w m fun _ r => r = .bool (decide (x < y))) := by
 have hL := Loc.start hV
 clear hV
 go_enter Tryz.func176, Tryz.ntmps176
 go_wp2_with (first | go_skip | refine tP ?_)
 refine (s_isNaNc x _ _ hL.vw).mono ?_
 rintro e Wc1 ⟨_, mc1, rfl, hE, hMc1, hV, rfl⟩
 replace hL := hL.call hE (by assumption) hV; clear hE hV
 go_wp2_with (first | go_skip | refine tP ?_)
 go_ret
 exact RetV.mk hL rfl

def Bs (xs : List Int) (t : Int) (i j : Nat) : Prop := (∀ p x, p < i → xs[p]? = some x → x < t) ∧ (∀ p x, j ≤ p → xs[p]? = some x → t ≤ x)
theorem Bs.start (xs : List Int) (t : Int) : Bs xs t 0 xs.length := ⟨fun p _ hp => by omega, fun p x hp hx => by have := (List.getElem?_eq_some_iff.1 hx).1; omega⟩
theorem Bs.up {xs : List Int} {t x : Int} {i j h : Nat} (ha : AscP xs) (hb : Bs xs t i j) (hx : xs[h]? = some x) (hl : x < t) : Bs xs t (h + 1) j := by
 refine ⟨fun p y hp hy => ?_, hb.2⟩
 rcases Nat.lt_or_ge p h with h1 | h1
 ·have := ha.lt (h - p - 1) p y x hy (by rw [show p + (h - p - 1) + 1 = h by omega]; exact hx)
  omega
 ·obtain rfl : p = h := by omega
  rw [hx] at hy
  have := Option.some.inj hy
  omega
theorem Bs.down {xs : List Int} {t x : Int} {i j h : Nat} (ha : AscP xs) (hb : Bs xs t i j) (hx : xs[h]? = some x) (hl : ¬ x < t) : Bs xs t i h := by
 refine ⟨hb.1, fun p y hp hy => ?_⟩
 rcases Nat.lt_or_ge h p with h1 | h1
 ·have := ha.lt (p - h - 1) h x y hx (by rw [show h + (p - h - 1) + 1 = p by omega]; exact hy)
  omega
 ·obtain rfl : p = h := by omega
  rw [hx] at hy
  have := Option.some.inj hy
  omega
theorem Bs.found {xs : List Int} {t x : Int} {i : Nat} (ha : AscP xs) (hb : Bs xs t i i) (hx : xs[i]? = some x) : decide (t ∈ xs) = decide (x = t) := by
 by_cases he : x = t
 ·rw [decide_eq_true he, decide_eq_true (he ▸ List.mem_of_getElem? hx)]
 ·rw [decide_eq_false he]
  refine decide_eq_false fun hm => ?_
  obtain ⟨p, hp⟩ := List.mem_iff_getElem?.1 hm
  rcases Nat.lt_trichotomy p i with h | h | h
  ·have := hb.1 p t h hp; omega
  ·subst h; rw [hx] at hp; exact he (Option.some.inj hp)
  ·have h1 := hb.2 i x (Nat.le_refl _) hx
   have h2 := ha.lt (p - i - 1) i x t hx (by rw [show i + (p - i - 1) + 1 = p by omega]; exact hp)
   omega
theorem Bs.none {xs : List Int} {t : Int} {i n : Nat} (hb : Bs xs t i i) (hn : xs.length = n) (hi : ¬ i < n) : decide (t ∈ xs) = false := by
 refine decide_eq_false fun hm => ?_
 obtain ⟨p, hp⟩ := List.mem_iff_getElem?.1 hm
 have := (List.getElem?_eq_some_iff.1 hp).1
 have := hb.1 p t (by omega) hp
 omega
theorem s_BinarySearch (a : Value) (xs : List Int) (t : Int) (w m : World) (hV : Vw m w) (ha : IntL m a xs) (hl : xs.length ≤ 1000000) (hasc : AscP xs) :
  Calls Tryz.prog 126 #[a, .int .i64 t] w (RetV w m fun _ r => ∃ i : Nat, r = .tuple #[.int .i64 i, .bool (decide (t ∈ xs))] ∧ (t ∈ xs → xs[i]? = some t)) := by
 obtain ⟨A, c, rfl, hc, ha⟩ := ha.lit
 have HA := Lib.hid hasc
 have HS := Lib.hid (Bs.start xs t)
 have hL := Loc.start hV
 clear hV hasc
 generalize hn : xs.length = n at *
 have HN := Lib.hid hn
 clear hn
 go_enter Tryz.func126, Tryz.ntmps126
 go_wp2_with (first | go_skip | refine tP ?_)
 go_loopw [7, 8] (fun si sj wr => ∃ (i j : Nat) (mm : World), i ≤ j ∧ j ≤ n ∧ si = .int .i64 i ∧ sj = .int .i64 j ∧ Loc w m wr mm [] ∧ Hid (Bs xs t i j)) (fun si sj _ => (intOf sj).toNat - (intOf si).toNat)
 case atStart => exact ⟨0, n, m, Nat.zero_le _, Nat.le_refl _, rfl, rfl, hL, HS⟩
 case round =>
  clear hL HS
  obtain ⟨i, j, mm, hij, hj, rfl, rfl, hL, HB⟩ := hrel
  have hM := hL.mext
  by_cases hlt : i < j
  ·have h1 : i ≤ (i + j) / 2 := by omega
   have h2 : (i + j) / 2 < j := by omega
   obtain ⟨x, hx⟩ := at_some HN (show (i + j) / 2 < n by omega)
   obtain ⟨b1, o1, rfl, hc1⟩ := IntL.at_ ha hx
   have HX := Lib.hid hx
   clear hx
   go_wp2_with (first | go_skip | refine tP ?_)
   refine (s_Less x t _ _ hL.vw).mono ?_
   rintro e Wc1 ⟨_, mc1, rfl, hE, hMc1, hV, rfl⟩
   replace hL := hL.call hE (by assumption) hV; clear hE hV
   by_cases hc : x < t
   ·have HU := Lib.hid (HB.out.up HA.out HX.out hc)
    rw [decide_eq_true hc]
    clear hc
    go_wp2_with (first | go_skip | refine tP ?_)
    go_roundw
    case rel => exact ⟨(i + j) / 2 + 1, j, _, by omega, hj, by go_num, rfl, hL, HU⟩
    case measure => simp [intOf] <;> omega
   ·have HU := Lib.hid (HB.out.down HA.out HX.out hc)
    rw [decide_eq_false hc]
    clear hc
    go_wp2_with (first | go_skip | refine tP ?_)
    go_roundw
    case rel => exact ⟨i, (i + j) / 2, _, by omega, by omega, rfl, by go_num, hL, HU⟩
    case measure => simp [intOf] <;> omega
  ·obtain rfl : i = j := by omega
   by_cases hin : i < n
   ·obtain ⟨x, hx⟩ := at_some HN hin
    obtain ⟨b1, o1, rfl, hc1⟩ := IntL.at_ ha hx
    have HF := Lib.hid (HB.out.found HA.out hx)
    by_cases he : x = t
    ·have bb : (x == t) = true := by simp [he]
     have E : Hid (decide (t ∈ xs) = true ∧ (t ∈ xs → xs[i]? = some t)) := ⟨by rw [HF.out, decide_eq_true he], fun _ => by rw [hx, he]⟩
     clear hx he HF
     go_wp2_with (first | go_skip | refine tP ?_)
     go_ret2
     exact RetV.mk hL ⟨i, by rw [E.out.1]; rfl, E.out.2⟩
    ·have bb : (x == t) = false := by simp [he]
     have E : Hid (decide (t ∈ xs) = false) := by show _ = _; rw [HF.out, decide_eq_false he]
     clear hx he HF
     go_wp2_with (first | go_skip | refine tP ?_)
     refine (s_isNaN x _ _ hL.vw).mono ?_
     rintro e Wc2 ⟨_, mc2, rfl, hE, hMc2, hV, rfl⟩
     replace hL := hL.call hE (by assumption) hV; clear hE hV
     go_wp2_with (first | go_skip | refine tP ?_)
     go_ret2
     exact RetV.mk hL ⟨i, by rw [E.out]; rfl, fun h => by rw [decide_eq_true h] at E; cases E.out⟩
   ·have E := Lib.hid (HB.out.none HN.out hin)
    go_wp2_with (first | go_skip | refine tP ?_)
    go_ret2
    exact RetV.mk hL ⟨i, by rw [E.out]; rfl, fun h => by have := E.out; rw [decide_eq_true h] at this; cases this⟩
end Go.Proofs.YtniigfikpfinfaaGreat

/- Contracts of enumerate.Operated and pairingref27.Operated. -/
namespace Go.Proofs.YtniigfikpfinfaaGreat
open Go.RowKit

theorem zc_Task : zc Tryz.prog 140 = some #[.int .i64 0, .bool false] := by kernel_rfl
instance iAB3_1 : ZcC Tryz.prog 140 #[.int .i64 0, .bool false] := ⟨zc_Task⟩
theorem fd_Task0 : fdS Tryz.prog 140 0 = some 0 := by kernel_rfl
instance iAB3_2 : FdC Tryz.prog 140 0 0 := ⟨fd_Task0⟩
theorem fd_Task1 : fdS Tryz.prog 140 1 = some 1 := by kernel_rfl
instance iAB3_3 : FdC Tryz.prog 140 1 1 := ⟨fd_Task1⟩
theorem fd_Pair1 : fdS Tryz.prog 99 1 = some 1 := by kernel_rfl
instance iAB3_4 : FdC Tryz.prog 99 1 1 := ⟨fd_Pair1⟩
theorem lf_Duties : lfB Tryz.prog 97 = true := by kernel_rfl
instance iAB3_5 : LfC Tryz.prog 97 := ⟨lf_Duties⟩
theorem lf_Duty : lfB Tryz.prog 142 = true := by kernel_rfl
instance iAB3_6 : LfC Tryz.prog 142 := ⟨lf_Duty⟩
theorem ag_Pair : agS Tryz.prog 99 = some 2 := by kernel_rfl
instance iAB3_7 : AgC Tryz.prog 99 2 := ⟨ag_Pair⟩
theorem fd_Col0 : fdS Tryz.prog 101 0 = some 0 := by kernel_rfl
instance iAB3_8 : FdC Tryz.prog 101 0 0 := ⟨fd_Col0⟩
theorem fd_Col1 : fdS Tryz.prog 101 1 = some 2 := by kernel_rfl
instance iAB3_9 : FdC Tryz.prog 101 1 2 := ⟨fd_Col1⟩

def opT (ts : List Task) : List Int := ts.filterMap fun t => if t.2 then none else some t.1
def opF (ds : List (List Task)) : List Int := ds.flatMap opT
theorem opT_len (ts : List Task) : (opT ts).length ≤ ts.length := List.length_filterMap_le _ _
theorem opT_in {ts : List Task} {j : Nat} {x : Int} (h : ts[j]? = some (x, false)) : opT (ts.take (j + 1)) = opT (ts.take j) ++ [x] := by
 rw [← take_snoc h]; simp [opT, List.filterMap_append]
theorem opT_out {ts : List Task} {j : Nat} {x : Int} (h : ts[j]? = some (x, true)) : opT (ts.take (j + 1)) = opT (ts.take j) := by
 rw [← take_snoc h]; simp [opT, List.filterMap_append]
theorem opF_next {ds : List (List Task)} {k : Nat} {d : List Task} (h : ds[k]? = some d) : opF (ds.take (k + 1)) = opF (ds.take k) ++ opT d := by
 rw [← take_snoc h]; simp [opF, List.flatMap_append]
theorem opF_len {ds : List (List Task)} (h : ∀ d ∈ ds, d.length ≤ 100) : (opF ds).length ≤ 100 * ds.length := by
 induction ds with
 | nil => simp [opF]
 | cons d ds ih =>
  have h1 := ih fun x hx => h x (List.mem_cons_of_mem _ hx)
  have h2 := opT_len d
  have h3 := h d (by simp)
  simp only [opF, List.flatMap_cons, List.length_append, List.length_cons] at *
  omega
theorem opF_take {ds : List (List Task)} (h : ∀ d ∈ ds, d.length ≤ 100) (k : Nat) (hk : k ≤ 100) : (opF (ds.take k)).length ≤ 10000 := by
 have h1 := opF_len (ds := ds.take k) fun d hd => h d (List.mem_of_mem_take hd)
 have h2 : (ds.take k).length ≤ k := by simp; omega
 omega
theorem DutsL.at_ {m : World} {A : Option Addr} {n c : Nat} {ds : List (List Task)} (h : DutsL m (.slice A n c) ds) {k : Nat} {d : List Task} (hk : ds[k]? = some d) :
  ∃ b off A' c', A = some ⟨b, off, none⟩ ∧ DutL m (.slice A' d.length c') d ∧ m.cell? ⟨b, off + k, none⟩ = some (.slice A' d.length c') := by
 obtain ⟨b, off, v, e, hv, _, hr⟩ := ListV.at_ h (by omega) hk
 obtain ⟨A', c', rfl, _, hv⟩ := hv.lit
 exact ⟨b, off, A', c', e, hv, by simpa using hr 0 _ rfl⟩
theorem DutL.at_ {m : World} {A : Option Addr} {n c : Nat} {ts : List Task} (h : DutL m (.slice A n c) ts) {k : Nat} {x : Int} {g : Bool} (hk : ts[k]? = some (x, g)) :
  ∃ b off, A = some ⟨b, off, none⟩ ∧ m.rangeAt b (off + k * 2) [.int .i64 x, .bool g] := by
 obtain ⟨b, off, v, e, rfl, _, hr⟩ := ListV.at_ h (by omega) hk
 exact ⟨b, off, e, hr⟩
theorem isI_mono (m m' : World) (v : Value) (x : Int) (h : IsI m v x) (_ : Le m m') : IsI m' v x := h

theorem e_Operated (s : ByteArray) (v : Value) (ds : List (List Task)) (w m : World) (hV : Vw m w) (h : DutsL m v ds) (h1 : ds.length ≤ 100) (h2 : ∀ d ∈ ds, d.length ≤ 100) :
  Calls Tryz.prog 114 #[.agg #[.string s, v]] w (RetV w m fun m' r => IntL m' r (opF ds)) := by
 obtain ⟨D, cd, rfl, hcd, h⟩ := h.lit
 have H2 := Lib.hid h2
 have hL := Loc.start hV
 clear hV h2
 generalize hq : ds.length = nd at *
 have HQ := Lib.hid hq
 clear hq
 go_enter Tryz.func114, Tryz.ntmps114
 go_upto_region 0 with (fail)
 refine wp_region_lit ?_
 refine t_box hL rfl rfl ?_; clear hL; intro Wh1 mh1 hL eh1; simp only [Act.put, zq1, zq2, zq3]
 go_wp2_with (first | go_skip | refine tP ?_ | (refine tS ?_; clear hL; intro _ hL) | (refine tB ?_; clear hL; intro _ _ hL _) | (refine tC ?_; clear hL; intro _ _ hL _ hBs))
 go_loopw [3, 11] (fun out i wr => ∃ (k : Nat) (mm : World) (n3 : Nat) (R3 : List Lo), k ≤ nd ∧ i = .int .i64 k ∧ Loc w m wr mm ((w.heap.size, 99, #[.string s, .slice D nd cd]) :: R3) ∧ Hid (RowA 3 1 IsI mm out n3 (opF (ds.take k)) R3)) (fun _ i _ => nd - (intOf i).toNat)
 case atStart => exact ⟨0, _, 0, [], Nat.zero_le _, rfl, hL, RowA.nil⟩
 case round =>
  clear hL
  obtain ⟨k, mm, n3, R3, hk, rfl, hL, row⟩ := hrel
  have hM := hL.mext
  obtain ⟨A3, c3, rfl, row1⟩ := row.out.lit
  have ROW := Lib.hid row1
  clear row row1
  by_cases hlt : k < nd
  ·obtain ⟨d, hd⟩ := at_some HQ hlt
   obtain ⟨b1, o1, A4, c4, rfl, hdu, hc1⟩ := DutsL.at_ h hd
   have HD := Lib.hid (opF_next hd)
   have hdl : d.length ≤ 100 := H2.out d (List.mem_of_getElem? hd)
   have HT := Lib.hid (opF_take H2.out k (by omega))
   clear hd
   generalize hq2 : d.length = nt at *
   have HQ2 := Lib.hid hq2
   clear hq2
   go_wp2_with (first | go_skip | refine tP ?_ | (refine tS ?_; clear hL; intro _ hL) | (refine tB ?_; clear hL; intro _ _ hL _) | (refine tC ?_; clear hL; intro _ _ hL _ hBs))
   go_loopw [3, 17] (fun out i wr => ∃ (j : Nat) (m2 : World) (n4 : Nat) (R4 : List Lo), j ≤ nt ∧ i = .int .i64 j ∧ Loc w m wr m2 ((w.heap.size, 99, #[.string s, .slice (some ⟨b1, o1, none⟩) nd cd]) :: R4) ∧ Hid (RowA 3 1 IsI m2 out n4 (opF (ds.take k) ++ opT (d.take j)) R4)) (fun _ i _ => nt - (intOf i).toNat)
   case atStart => exact ⟨0, mm, n3, R3, Nat.zero_le _, rfl, hL, by show RowA _ _ _ _ _ _ _ _; simpa [opT] using ROW.out⟩
   case round =>
    clear hL ROW hM
    obtain ⟨j, m2, n4, R4, hj, rfl, hL, row⟩ := hrel
    have hM := hL.mext
    obtain ⟨A5, c5, rfl, row1⟩ := row.out.lit
    have hn4 : n4 ≤ 10100 := by
     have e := row1.len
     rw [List.length_append] at e
     have := HT.out
     have := opT_len (d.take j)
     have : (d.take j).length ≤ j := by simp; omega
     omega
    have ROW := Lib.hid row1
    clear row row1
    by_cases hlt2 : j < nt
    ·obtain ⟨⟨x, g⟩, hx⟩ := at_some HQ2 hlt2
     obtain ⟨b2, o2, rfl, hr2⟩ := DutL.at_ hdu hx
     cases g
     ·have HS := Lib.hid (opT_in hx)
      clear hx
      go_wp2_with (first | go_skip | refine tP ?_ | (refine tS ?_; clear hL; intro _ hL) | (refine tB ?_; clear hL; intro _ _ hL _) | (refine tC ?_; clear hL; intro _ _ hL _ hBs))
      refine goA ?_
      obtain ⟨vs7, r7, z7, y7, l7⟩ := ROW.out
      refine wl_append (A := [_, _]) hL r7 (wanted_none rfl) rfl ap_ints (by omega) rfl rfl (news := [.int .i64 x]) rfl ((Blk.sl hBs (n := 1) rfl).le hL.vw.le) rfl (by omega) (by omega) ?_
      clear hL
      intro v1 W5 m5 R5 hL r8 e8
      obtain ⟨A9, c9, rfl, -⟩ := r8.lit
      simp only [List.cons_append, List.nil_append] at hL
      have rd2 := RowA.snocV (R := IsI) (m := m5) (x := x) r8 z7 (y7.mono fun _ _ hv => hv) l7 rfl rfl rfl
      simp only [Act.put, zq1, zq2, zq3]
      go_wp2_with (first | go_skip | refine tP ?_ | (refine tS ?_; clear hL; intro _ hL) | (refine tB ?_; clear hL; intro _ _ hL _) | (refine tC ?_; clear hL; intro _ _ hL _ hBs))
      go_roundw
      case rel => exact ⟨j + 1, m5, n4 + 1, R5, by omega, by go_num, hL.tail, by rw [HS.out, ← List.append_assoc]; exact rd2⟩
      case measure => simp [intOf] <;> omega
     ·have HS := Lib.hid (opT_out hx)
      clear hx
      go_wp2_with (first | go_skip | refine tP ?_ | (refine tS ?_; clear hL; intro _ hL) | (refine tB ?_; clear hL; intro _ _ hL _) | (refine tC ?_; clear hL; intro _ _ hL _ hBs))
      go_roundw
      case rel => exact ⟨j + 1, _, n4, R4, by omega, by go_num, hL.tail, by rw [HS.out]; exact RowA.le isI_mono ROW.out leX⟩
      case measure => simp [intOf] <;> omega
    ·have E : Hid (opF (ds.take k) ++ opT (d.take j) = opF (ds.take (k + 1))) := by
      show _ = _
      rw [HD.out, List.take_of_length_le (l := d) (by rw [HQ2.out]; omega)]
     go_wp2_with (first | go_skip | refine tP ?_ | (refine tS ?_; clear hL; intro _ hL) | (refine tB ?_; clear hL; intro _ _ hL _) | (refine tC ?_; clear hL; intro _ _ hL _ hBs))
     go_roundw
     case rel => exact ⟨k + 1, m2, n4, R4, by omega, by go_num, hL, by rw [← E.out]; exact ROW.out⟩
     case measure => simp [intOf] <;> omega
  ·have E : Hid (opF (ds.take k) = opF ds) := by show _ = _; rw [List.take_of_length_le (by rw [HQ.out]; omega)]
   go_wp2_with (first | go_skip | refine tP ?_ | (refine tS ?_; clear hL; intro _ hL) | (refine tB ?_; clear hL; intro _ _ hL _) | (refine tC ?_; clear hL; intro _ _ hL _ hBs))
   have row2 := ROW.out
   rw [E.out] at row2
   obtain ⟨m9, hL9, hle9, hl9, -⟩ := RowA.show (A := [_]) isI_mono hL row2
   go_ret
   exact RetV.mk hL9 hl9

theorem r_Operated (s : ByteArray) (v : Value) (ds : List (List Task)) (w m : World) (hV : Vw m w) (h : DutsL m v ds) (h1 : ds.length ≤ 100) (h2 : ∀ d ∈ ds, d.length ≤ 100) :
  Calls Tryz.prog 51 #[.agg #[.string s, v]] w (RetV w m fun m' r => IntL m' r (opF ds)) := by
 obtain ⟨D, cd, rfl, hcd, h⟩ := h.lit
 have H2 := Lib.hid h2
 have hL := Loc.start hV
 clear hV h2
 generalize hq : ds.length = nd at *
 have HQ := Lib.hid hq
 clear hq
 go_enter Tryz.func51, Tryz.ntmps51
 go_upto_region 0 with (fail)
 refine wp_region_lit ?_
 refine t_box hL rfl rfl ?_; clear hL; intro Wh1 mh1 hL eh1; simp only [Act.put, zq1, zq2, zq3]
 go_wp2_with (first | go_skip | refine tP ?_ | (refine tB ?_; clear hL; intro _ _ hL _) | (refine tC ?_; clear hL; intro _ _ hL _ hBs))
 go_loopw [3, 4] (fun out i wr => ∃ (k : Nat) (mm : World) (n3 : Nat) (R3 : List Lo), k ≤ nd ∧ i = .int .i64 k ∧ Loc w m wr mm ((w.heap.size, 99, #[.string s, .slice D nd cd]) :: R3) ∧ Hid (RowA 3 1 IsI mm out n3 (opF (ds.take k)) R3)) (fun _ i _ => nd - (intOf i).toNat)
 case atStart => exact ⟨0, _, 0, [], Nat.zero_le _, rfl, hL, RowA.nil⟩
 case round =>
  clear hL
  obtain ⟨k, mm, n3, R3, hk, rfl, hL, row⟩ := hrel
  have hM := hL.mext
  obtain ⟨A3, c3, rfl, row1⟩ := row.out.lit
  have ROW := Lib.hid row1
  clear row row1
  by_cases hlt : k < nd
  ·obtain ⟨d, hd⟩ := at_some HQ hlt
   obtain ⟨b1, o1, A4, c4, rfl, hdu, hc1⟩ := DutsL.at_ h hd
   have HD := Lib.hid (opF_next hd)
   have hdl : d.length ≤ 100 := H2.out d (List.mem_of_getElem? hd)
   have HT := Lib.hid (opF_take H2.out k (by omega))
   clear hd
   generalize hq2 : d.length = nt at *
   have HQ2 := Lib.hid hq2
   clear hq2
   go_wp2_with (first | go_skip | refine tP ?_ | (refine tB ?_; clear hL; intro _ _ hL _) | (refine tC ?_; clear hL; intro _ _ hL _ hBs))
   go_loopw [3, 5] (fun out i wr => ∃ (j : Nat) (m2 : World) (n4 : Nat) (R4 : List Lo), j ≤ nt ∧ i = .int .i64 j ∧ Loc w m wr m2 ((w.heap.size, 99, #[.string s, .slice (some ⟨b1, o1, none⟩) nd cd]) :: R4) ∧ Hid (RowA 3 1 IsI m2 out n4 (opF (ds.take k) ++ opT (d.take j)) R4)) (fun _ i _ => nt - (intOf i).toNat)
   case atStart => exact ⟨0, mm, n3, R3, Nat.zero_le _, rfl, hL, by show RowA _ _ _ _ _ _ _ _; simpa [opT] using ROW.out⟩
   case round =>
    clear hL ROW hM
    obtain ⟨j, m2, n4, R4, hj, rfl, hL, row⟩ := hrel
    have hM := hL.mext
    obtain ⟨A5, c5, rfl, row1⟩ := row.out.lit
    have hn4 : n4 ≤ 10100 := by
     have e := row1.len
     rw [List.length_append] at e
     have := HT.out
     have := opT_len (d.take j)
     have : (d.take j).length ≤ j := by simp; omega
     omega
    have ROW := Lib.hid row1
    clear row row1
    by_cases hlt2 : j < nt
    ·obtain ⟨⟨x, g⟩, hx⟩ := at_some HQ2 hlt2
     obtain ⟨b2, o2, rfl, hr2⟩ := DutL.at_ hdu hx
     have hx0 := hr2 0 _ rfl
     have hx1 := hr2 1 _ rfl
     rw [Nat.add_zero] at hx0
     cases g
     ·have HS := Lib.hid (opT_in hx)
      clear hx hr2
      go_wp2_with (first | go_skip | refine tP ?_ | (refine tB ?_; clear hL; intro _ _ hL _) | (refine tC ?_; clear hL; intro _ _ hL _ hBs))
      refine goA ?_
      obtain ⟨vs7, r7, z7, y7, l7⟩ := ROW.out
      refine wl_append (A := [_]) hL r7 (wanted_none rfl) rfl ap_ints (by omega) rfl rfl (news := [.int .i64 x]) rfl ((Blk.sl hBs (n := 1) rfl).le hL.vw.le) rfl (by omega) (by omega) ?_
      clear hL
      intro v1 W5 m5 R5 hL r8 e8
      obtain ⟨A9, c9, rfl, -⟩ := r8.lit
      simp only [List.cons_append, List.nil_append] at hL
      have rd2 := RowA.snocV (R := IsI) (m := m5) (x := x) r8 z7 (y7.mono fun _ _ hv => hv) l7 rfl rfl rfl
      simp only [Act.put, zq1, zq2, zq3]
      go_wp2_with (first | go_skip | refine tP ?_ | (refine tB ?_; clear hL; intro _ _ hL _) | (refine tC ?_; clear hL; intro _ _ hL _ hBs))
      go_roundw
      case rel => exact ⟨j + 1, m5, n4 + 1, R5, by omega, by go_num, hL, by rw [HS.out, ← List.append_assoc]; exact rd2⟩
      case measure => simp [intOf] <;> omega
     ·have HS := Lib.hid (opT_out hx)
      clear hx hr2
      go_wp2_with (first | go_skip | refine tP ?_ | (refine tB ?_; clear hL; intro _ _ hL _) | (refine tC ?_; clear hL; intro _ _ hL _ hBs))
      go_roundw
      case rel => exact ⟨j + 1, _, n4, R4, by omega, by go_num, hL, by rw [HS.out]; exact ROW.out⟩
      case measure => simp [intOf] <;> omega
    ·have E : Hid (opF (ds.take k) ++ opT (d.take j) = opF (ds.take (k + 1))) := by
      show _ = _
      rw [HD.out, List.take_of_length_le (l := d) (by rw [HQ2.out]; omega)]
     go_wp2_with (first | go_skip | refine tP ?_ | (refine tB ?_; clear hL; intro _ _ hL _) | (refine tC ?_; clear hL; intro _ _ hL _ hBs))
     go_roundw
     case rel => exact ⟨k + 1, m2, n4, R4, by omega, by go_num, hL, by rw [← E.out]; exact ROW.out⟩
     case measure => simp [intOf] <;> omega
  ·have E : Hid (opF (ds.take k) = opF ds) := by show _ = _; rw [List.take_of_length_le (by rw [HQ.out]; omega)]
   go_wp2_with (first | go_skip | refine tP ?_ | (refine tB ?_; clear hL; intro _ _ hL _) | (refine tC ?_; clear hL; intro _ _ hL _ hBs))
   have row2 := ROW.out
   rw [E.out] at row2
   obtain ⟨m9, hL9, hle9, hl9, -⟩ := RowA.show (A := [_]) isI_mono hL row2
   go_ret
   exact RetV.mk hL9 hl9
end Go.Proofs.YtniigfikpfinfaaGreat

/- Sets of numbers as maps to bool, beside the view; contracts of master.validCut and pairingref27.ValidCut for valid cuts. -/
namespace Go.Proofs.YtniigfikpfinfaaGreat
open Go.RowKit Go.Maps

theorem Loc.allocM {w0 m0 W m : World} {Ls : List Lo} (h : Loc w0 m0 W m Ls) (o : Obj) : Loc w0 m0 (W.alloc o) (hidTo m (W.alloc o).heap.size) Ls := by
 have hs : m.heap.size ≤ (W.alloc o).heap.size := by rw [h.vw.size]; simp
 refine ⟨h.size0, h.ext.alloc _, h.mext.trans (hidTo_ext hs), ⟨h.vw.os, h.vw.tape, h.vw.output, hidTo_size hs, fun a u hu => ?_⟩, h.low, fun x hx => (h.blk x hx).alloc _, fun x hx a ha => ?_, h.apart⟩
 ·rcases Nat.lt_or_ge a.block m.heap.size with hb | hb
  ·rw [cell_of_heap (hidTo_old hb)] at hu
   exact cell_alloc_old (h.vw.cell _ _ hu)
  ·rw [hidTo_new hb] at hu; cases hu
 ·have hb : a.block < m.heap.size := by rw [ha, h.vw.size]; exact (h.blk x hx).lt
  rw [cell_of_heap (hidTo_old hb)]
  exact h.hid x hx a ha
theorem Loc.mapTurn {w0 m0 W m W' : World} {Ls : List Lo} (h : Loc w0 m0 W m Ls) {b : Nat} (hg : W.grownBy W' (some b)) (hb : w0.heap.size ≤ b) (hm : ∀ cs t fr, W.heap[b]? ≠ some (.cells cs t fr)) : Loc w0 m0 W' (hidTo m W'.heap.size) Ls := by
 have hs : m.heap.size ≤ W'.heap.size := by rw [h.vw.size]; exact hg.size
 refine ⟨h.size0, h.ext.grown hg (fun k hk => by cases hk; exact hb), h.mext.trans (hidTo_ext hs), ⟨h.vw.os.trans hg.os.symm, h.vw.tape.trans hg.tape.symm, h.vw.output.trans hg.output.symm, hidTo_size hs, fun a u hu => ?_⟩, h.low, fun x hx => ?_, fun x hx a ha => ?_, h.apart⟩
 ·rcases Nat.lt_or_ge a.block m.heap.size with hlt | hlt
  ·rw [cell_of_heap (hidTo_old hlt)] at hu
   have hc := h.vw.cell _ _ hu
   have hne : some a.block ≠ some b := by
    intro e
    have e' := Option.some.inj e
    unfold World.cell? at hc
    cases ho : W.heap[a.block]? with
    | none => rw [ho] at hc; cases hc
    | some ob =>
     rw [ho] at hc
     cases ob with
     | cells cs t fr => exact hm cs t fr (by rw [← e', ho])
     | _ => cases hc
   rw [World.cell?_of_block (hg.block _ (by rw [← h.vw.size]; exact hlt) hne)]
   exact hc
  ·rw [hidTo_new hlt] at hu; cases hu
 ·have hbk := h.blk x hx
  refine (hg.block _ hbk.lt fun e => ?_).trans hbk
  exact hm _ _ _ (by rw [← Option.some.inj e]; exact hbk)
 ·have hlt : a.block < m.heap.size := by rw [ha, h.vw.size]; exact (h.blk x hx).lt
  rw [cell_of_heap (hidTo_old hlt)]
  exact h.hid x hx a ha

theorem keyI : Keyed Tryz.prog 3 := int_keyed Tryz.underlying3
def BSet (W : World) (b : Nat) (xs : List Int) : Prop := ∃ n, n ≤ xs.length ∧ W.ownsMap (H := Unit) Tryz.prog 3 (plainElem Tryz.prog 4) b n (setOf (.lit (.bool true)) (xs.map (Lit.int .i64)))
theorem BSet.made (W : World) : BSet (W.alloc (.map #[] 0)) W.heap.size [] := ⟨0, Nat.le_refl _, World.ownsMap_made _ _ _ _⟩
theorem BSet.ext {W W' : World} {b : Nat} {xs : List Int} (h : BSet W b xs) (hE : Ext W W') : BSet W' b xs := by
 obtain ⟨n, hn, es, clock, hb, h⟩ := h
 have hlt : b < W.heap.size := (Array.getElem?_eq_some_iff.1 hb).1
 exact ⟨n, hn, es, clock, (hE.block b hlt).trans hb, h⟩
theorem BSet.notCells {W : World} {b : Nat} {xs : List Int} (h : BSet W b xs) : ∀ cs t fr, W.heap[b]? ≠ some (.cells cs t fr) := by
 obtain ⟨n, hn, es, clock, hb, h⟩ := h
 intro cs t fr e
 rw [hb] at e
 cases e
theorem setOf_at (u z : DataW Unit) (k : Lit) (hk : WideAt.IsKeyLit k) : ∀ (acc : List Lit), (∀ x ∈ acc, WideAt.IsKeyLit x) → (k ∈ acc → (setOf u acc.reverse).atKey k z = u) ∧ (k ∉ acc → (setOf u acc.reverse).atKey k z = z)
 | [], _ => ⟨fun h => absurd h List.not_mem_nil, fun _ => rfl⟩
 | x :: acc, h => by
  rw [List.reverse_cons, setOf_snoc]
  have ih := setOf_at u z k hk acc fun y hy => h y (List.mem_cons_of_mem _ hy)
  have hm : IsMap (setOf u acc.reverse) := (tidy_setOf u acc.reverse fun y hy => h y (List.mem_cons_of_mem _ (List.mem_reverse.1 hy))).isMap
  by_cases e : k = x
  ·subst e
   rw [atKey_put_same hm hk]
   exact ⟨fun _ => rfl, fun hn => absurd (List.mem_cons_self) hn⟩
  ·rw [atKey_put_other e]
   refine ⟨fun hx => ih.1 ?_, fun hn => ih.2 fun hx => hn (List.mem_cons_of_mem _ hx)⟩
   rcases List.mem_cons.1 hx with h1 | h1
   ·exact absurd h1 e
   ·exact h1
theorem isKey_int (x : Int) : WideAt.IsKeyLit (.int .i64 x) := trivial
theorem setOf_atI (xs : List Int) (x : Int) : (setOf (H := Unit) (.lit (.bool true)) (xs.map (Lit.int .i64))).atKey (.int .i64 x) (.lit (.bool false)) = .lit (.bool (decide (x ∈ xs))) := by
 have h := setOf_at (.lit (.bool true)) (.lit (.bool false)) (.int .i64 x) (isKey_int x) ((xs.map (Lit.int .i64)).reverse) (fun y hy => by
  simp only [List.mem_reverse, List.mem_map] at hy
  obtain ⟨z, _, rfl⟩ := hy
  exact isKey_int z)
 rw [List.reverse_reverse] at h
 by_cases hx : x ∈ xs
 ·rw [h.1 (List.mem_reverse.2 (List.mem_map.2 ⟨x, hx, rfl⟩)), decide_eq_true hx]
 ·rw [h.2 fun hm => ?_, decide_eq_false hx]
  obtain ⟨y, hy, e⟩ := List.mem_map.1 (List.mem_reverse.1 hm)
  cases e
  exact hx hy
theorem zeroB (w : World) : (zeroValue 4).run Tryz.prog w = .ok (.bool false) w := by kernel_rfl
theorem plainElem_bool_inv {v : Value} {z : DataW Unit × List MemPlace} (h : plainElem Tryz.prog 4 v = some z) : ∃ x, v = .bool x ∧ z = (.lit (.bool x), []) := by
 unfold plainElem at h
 rw [Tryz.underlying4] at h
 cases v <;> simp at h
 exact ⟨_, rfl, h.symm⟩
theorem BSet.look {W : World} {b : Nat} {xs : List Int} (h : BSet W b xs) {x : Int} (hw : (Lit.int .i64 x).wf = true) : (Instr.lookup 163 (.map (some b)) (.int .i64 x) false).run Tryz.prog W = .ok (.bool (decide (x ∈ xs))) W := by
 obtain ⟨n, hn, h⟩ := h
 obtain ⟨v, ps, hrun, hv⟩ := h.lookup keyI Tryz.underlying163 (zeroB W) (plainElem_bool Tryz.underlying4 false) (keyOf_int_mk Tryz.underlying3 hw)
 rw [setOf_atI] at hv
 obtain ⟨c, rfl, hc⟩ := plainElem_bool_inv hv
 simp only [Prod.mk.injEq, DataW.lit.injEq, Lit.bool.injEq] at hc
 rw [hrun, ← hc.1]
theorem BSet.up {W : World} {b : Nat} {xs : List Int} (h : BSet W b xs) (hl : xs.length ≤ 1000000) {x : Int} (hw : (Lit.int .i64 x).wf = true) :
  ∃ W', (Instr.mapUpdate 163 (.map (some b)) (.int .i64 x) (.bool true)).run Tryz.prog W = .ok () W' ∧ BSet W' b (xs ++ [x]) ∧ W.grownBy W' (some b) := by
 obtain ⟨n, hn, h⟩ := h
 obtain ⟨W', h1, h2, h3⟩ := h.update keyI Tryz.underlying163 (by unfold maxLen; omega) (keyOf_int_mk Tryz.underlying3 hw) (plainElem_bool Tryz.underlying4 true)
 refine ⟨W', h1, ⟨n + 1, by simp; omega, ?_⟩, h3⟩
 rw [List.map_append, List.map_cons, List.map_nil, setOf_snoc]
 exact h2
theorem wf_small {x : Int} (h1 : -1000000 ≤ x) (h2 : x ≤ 1000000) : (Lit.int .i64 x).wf = true := WalkArith.wf_i64 (by omega)

theorem Loc.world {w0 m0 W m : World} {Ls : List Lo} (_ : Loc w0 m0 W m Ls) : ∃ x, x = W := ⟨W, rfl⟩
structure CutOk (rs : List Int) (x : Cut) : Prop where
 asc : AscP x.1
 sub : ∀ r ∈ x.1, r ∈ rs
 two : 2 ≤ x.2
 le : x.2 ≤ (x.1.length : Int)
 len : x.1.length ≤ 1000000
end Go.Proofs.YtniigfikpfinfaaGreat

/- Contracts of master.validCut and pairingref27.ValidCut for valid cuts. -/
namespace Go.Proofs.YtniigfikpfinfaaGreat
open Go.RowKit

theorem asc_prev {xs : List Int} (h : AscP xs) {j : Nat} {x y : Int} (hy : xs[j]? = some y) (hx : xs[j + 1]? = some x) : ¬ x ≤ y := by
 have := h j y x hy hx; omega

theorem m_validCut (rv v : Value) (rs : List Int) (x : Cut) (w m : World) (hV : Vw m w) (hr : IntL m rv rs) (hv : CutR m v x) (hrl : rs.length ≤ 1000000) (hra : AscP rs) (ok : CutOk rs x) :
  Calls Tryz.prog 127 #[rv, v] w (RetV w m fun _ r => r = .bool true) := by
 obtain ⟨xs, dv⟩ := x
 obtain ⟨sv, rfl, hs, -⟩ := hv
 simp only at hs
 obtain ⟨B, d, rfl, hd, hr⟩ := hr.lit
 obtain ⟨A, c, rfl, hc, ha⟩ := hs.lit
 obtain ⟨o1, o2, o3, o4, o5⟩ := ok
 simp only at o1 o2 o3 o4 o5
 have HR := Lib.hid hr
 have HRL := Lib.hid hrl
 have HRA := Lib.hid hra
 have HA := Lib.hid o1
 have HS := Lib.hid o2
 have hL := Loc.start hV
 clear hV hr hra o1 o2 hrl
 generalize hn2 : rs.length = n2 at *
 have HN2 := Lib.hid hn2
 clear hn2
 generalize hn : xs.length = n at *
 have HN := Lib.hid hn
 clear hn
 have d1 : dv ≥ 2 := by omega
 have d2 : dv ≤ (n : Int) := o4
 go_enter Tryz.func127, Tryz.ntmps127
 go_upto_region 0 with (fail)
 refine wp_region_lit ?_
 refine t_box hL rfl rfl ?_; clear hL; intro Wh3 mh3 hL eh3; simp only [Act.put, zq1, zq2, zq3]
 go_wp2_with (first | go_skip | refine tP ?_ | (refine tB ?_; clear hL; intro _ _ hL _))
 go_loopw [12] (fun i wr => ∃ (k : Nat) (mm : World), k ≤ n ∧ i = .int .i64 k ∧ Loc w m wr mm [(w.heap.size, 34, #[.slice A n c, .int .i64 dv])]) (fun i _ => n - (intOf i).toNat)
 case atStart => exact ⟨0, _, Nat.zero_le _, rfl, hL⟩
 case round =>
  clear hL
  obtain ⟨k, mm, hk, rfl, hL⟩ := hrel
  have hM := hL.mext
  by_cases hlt : k < n
  ·obtain ⟨x, hx⟩ := at_some HN hlt
   obtain ⟨b1, o1, rfl, hc1⟩ := IntL.at_ ha hx
   have hin : x ∈ rs := HS.out x (List.mem_of_getElem? hx)
   have HIN := Lib.hid hin
   by_cases h0 : k = 0
   ·subst h0
    clear hx hin
    go_wp2_with (first | go_skip | refine tP ?_ | (refine tB ?_; clear hL; intro _ _ hL _))
    refine (s_BinarySearch _ rs x _ _ hL.vw (IntL.le HR.out leX) (by rw [HN2.out]; exact HRL.out) HRA.out).mono ?_
    rintro e W2 ⟨_, m2, rfl, hE, hM2, hV, i, rfl, -⟩
    replace hL := hL.call hE (by assumption) hV; clear hE hV
    rw [decide_eq_true HIN.out]
    go_wp2_with (first | go_skip | refine tP ?_ | (refine tB ?_; clear hL; intro _ _ hL _))
    go_roundw
    case rel => exact ⟨1, _, by omega, by go_num, hL⟩
    case measure => simp [intOf] <;> omega
   ·obtain ⟨j, rfl⟩ : ∃ j, k = j + 1 := ⟨k - 1, by omega⟩
    obtain ⟨y, hy⟩ := at_some HN (show j < n by omega)
    obtain ⟨b2, o2, e2, hc2⟩ := IntL.at_ ha hy
    obtain ⟨rfl, rfl⟩ : b1 = b2 ∧ o1 = o2 := by simpa using e2
    have hk0 : ((j + 1 : Nat) : Int) > 0 := by omega
    have hyx := asc_prev HA.out hy hx
    have hj3 : (j : Int) + 1 - 1 = (j : Int) := by omega
    have hjn : j < n := by omega
    clear hx hy hin e2 h0
    go_wp2_with (first | go_skip | refine tP ?_ | (refine tB ?_; clear hL; intro _ _ hL _))
    refine (s_BinarySearch _ rs x _ _ hL.vw (IntL.le HR.out leX) (by rw [HN2.out]; exact HRL.out) HRA.out).mono ?_
    rintro e W2 ⟨_, m2, rfl, hE, hM2, hV, i, rfl, -⟩
    replace hL := hL.call hE (by assumption) hV; clear hE hV
    rw [decide_eq_true HIN.out]
    go_wp2_with (first | go_skip | refine tP ?_ | (refine tB ?_; clear hL; intro _ _ hL _))
    go_roundw
    case rel => exact ⟨j + 1 + 1, _, by omega, by go_num, hL⟩
    case measure => simp [intOf] <;> omega
  ·go_wp2_with (first | go_skip | refine tP ?_ | (refine tB ?_; clear hL; intro _ _ hL _))
   go_ret
   exact RetV.mk hL rfl

theorem r_ValidCut (rv v : Value) (rs : List Int) (x : Cut) (w m : World) (hV : Vw m w) (hr : IntL m rv rs) (hv : CutR m v x) (hrl : rs.length ≤ 1000000) (ok : CutOk rs x) :
  Calls Tryz.prog 136 #[rv, v] w (RetV w m fun _ r => r = .bool true) := by
 obtain ⟨xs, dv⟩ := x
 obtain ⟨sv, rfl, hs, -⟩ := hv
 simp only at hs
 obtain ⟨B, d, rfl, hd, hr⟩ := hr.lit
 obtain ⟨A, c, rfl, hc, ha⟩ := hs.lit
 obtain ⟨o1, o2, o3, o4, o5⟩ := ok
 simp only at o1 o2 o3 o4 o5
 have HR := Lib.hid hr
 have HRL := Lib.hid hrl
 have HA := Lib.hid o1
 have HX := Lib.hid ha
 have H5 := Lib.hid o5
 have HS : Hid (decide (∀ r ∈ xs, r ∈ rs) = true) := decide_eq_true o2
 have hL := Loc.start hV
 clear hV hr o1 o2 hrl ha
 generalize hn2 : rs.length = n2 at *
 have HN2 := Lib.hid hn2
 clear hn2
 generalize hn : xs.length = n at *
 have HN := Lib.hid hn
 clear hn
 have d1 : dv ≥ 2 := by omega
 have d2 : dv ≤ (n : Int) := o4
 go_enter Tryz.func136, Tryz.ntmps136
 go_upto_region 0 with (fail)
 refine wp_region_lit ?_
 refine t_box hL rfl rfl ?_; clear hL; intro Wh3 mh3 hL eh3; simp only [Act.put, zq1, zq2, zq3]
 go_wp2_with (first | go_skip | refine tP ?_ | (refine tB ?_; clear hL; intro _ _ hL _))
 refine (r_ascT _ xs _ _ hL.vw (IntL.le HX.out leX) (by rw [HN.out]; exact H5.out) HA.out).mono ?_
 rintro e Wc1 ⟨_, mc1, rfl, hE, hMc1, hV, rfl⟩
 replace hL := hL.call hE (by assumption) hV; clear hE hV
 go_wp2_with (first | go_skip | refine tP ?_ | (refine tB ?_; clear hL; intro _ _ hL _))
 refine (r_within _ _ xs rs _ _ hL.vw (IntL.le HX.out leX) (IntL.le HR.out leX) (by rw [HN.out]; exact H5.out) (by rw [HN2.out]; exact HRL.out)).mono ?_
 rintro e Wc2 ⟨_, mc2, rfl, hE, hMc2, hV, rfl⟩
 replace hL := hL.call hE (by assumption) hV; clear hE hV
 rw [HS.out]
 go_wp2_with (first | go_skip | refine tP ?_ | (refine tB ?_; clear hL; intro _ _ hL _))
 go_ret
 exact RetV.mk hL rfl
end Go.Proofs.YtniigfikpfinfaaGreat

/- Contract of master.ValidateMaster for valid master problems. -/
namespace Go.Proofs.YtniigfikpfinfaaGreat
open Go.RowKit

structure ColOk (rs : List Int) (x : Col) : Prop where
 c1 : -1125899906842624 ≤ x.2.2
 c2 : x.2.2 ≤ 1125899906842624
 nd : x.2.1.length ≤ 100
 nt : ∀ d ∈ x.2.1, d.length ≤ 100
 pos : 0 < (opF x.2.1).length
 sub : ∀ f ∈ opF x.2.1, f ∈ rs
 nodup : (opF x.2.1).Nodup
structure MsOk (x : Ms) : Prop where
 f0 : 0 ≤ x.nf
 f1 : x.nf ≤ 200
 p0 : 0 ≤ x.pen
 p1 : x.pen ≤ 4294967296
 r0 : 1 ≤ x.rows.length
 r1 : x.rows.length ≤ 32
 asc : AscP x.rows
 low : ∀ r ∈ x.rows, 0 ≤ r ∧ r < x.nf
 k1 : x.cols.length ≤ 1000
 cols : ∀ c ∈ x.cols, ColOk x.rows c
 k2 : x.cuts.length ≤ 32
 cuts : ∀ c ∈ x.cuts, CutOk x.rows c
theorem ColL.at_ {m : World} {A : Option Addr} {n c : Nat} {cs : List Col} (h : ColL m (.slice A n c) cs) {k : Nat} {x : Col} (hk : cs[k]? = some x) :
  ∃ b off D cd, A = some ⟨b, off, none⟩ ∧ DutsL m (.slice D x.2.1.length cd) x.2.1 ∧ m.rangeAt b (off + k * 3) [.string x.1, .slice D x.2.1.length cd, .int .i64 x.2.2] := by
 obtain ⟨b, off, v, e, ⟨s, rfl, hs⟩, _, hr⟩ := ListV.at_ h (by omega) hk
 obtain ⟨D, cd, rfl, _, hs⟩ := hs.lit
 exact ⟨b, off, D, cd, e, hs, hr⟩
theorem CutL.at_' {m : World} {A : Option Addr} {n c : Nat} {cs : List Cut} (h : CutL m (.slice A n c) cs) {k : Nat} {x : Cut} (hk : cs[k]? = some x) :
  ∃ b off D cd, A = some ⟨b, off, none⟩ ∧ CutR m (.agg #[.slice D x.1.length cd, .int .i64 x.2]) x ∧ m.rangeAt b (off + k * 2) [.slice D x.1.length cd, .int .i64 x.2] := by
 obtain ⟨b, off, v, e, hc, _, hr⟩ := ListV.at_ h (by omega) hk
 have hc' := hc
 obtain ⟨s, rfl, hs, hl⟩ := hc
 obtain ⟨D, cd, rfl, _, hs⟩ := hs.lit
 exact ⟨b, off, D, cd, e, hc', hr⟩
theorem nodup_new {xs : List Int} (h : xs.Nodup) {j : Nat} {x : Int} (hx : xs[j]? = some x) : decide (x ∈ xs.take j) = false := by
 refine decide_eq_false fun hm => ?_
 obtain ⟨p, hp⟩ := List.mem_iff_getElem?.1 hm
 rw [List.getElem?_take] at hp
 by_cases hpj : p < j
 ·rw [if_pos hpj] at hp
  obtain ⟨h1, e1⟩ := List.getElem?_eq_some_iff.1 hp
  obtain ⟨h2, e2⟩ := List.getElem?_eq_some_iff.1 hx
  exact List.pairwise_iff_getElem.1 h p j h1 h2 hpj (e1.trans e2.symm)
 ·rw [if_neg hpj] at hp; cases hp

theorem m_ValidateMaster (v : Value) (x : Ms) (w m : World) (hV : Vw m w) (hv : MasterR m v x) (ok : MsOk x) :
  Calls Tryz.prog 66 #[v] w (RetV w m fun _ r => r = .int .i64 0) := by
 obtain ⟨nf, rs, pen, cols, cuts⟩ := x
 obtain ⟨va, vb, vc, rfl, ha, hb, hc⟩ := hv
 simp only at ha hb hc
 obtain ⟨A, ca, rfl, hca, ha⟩ := ha.lit
 obtain ⟨B, cb, rfl, hcb, hb⟩ := hb.lit
 obtain ⟨C, cc, rfl, hcc, hc⟩ := hc.lit
 obtain ⟨f0, f1, p0, p1, r0, r1, o1, o2, k1, o3, k2, o4⟩ := ok
 simp only at f0 f1 p0 p1 r0 r1 o1 o2 k1 o3 k2 o4
 have HR := Lib.hid ha
 have HA := Lib.hid o1
 have HO := Lib.hid o2
 have HC := Lib.hid o3
 have HK := Lib.hid o4
 have HCO := Lib.hid hb
 have HCU := Lib.hid hc
 have HRL : Hid (rs.length ≤ 1000000) := by show _ ≤ _; omega
 have hL := Loc.start hV
 clear hV o1 o2 o3 o4 hb hc
 generalize hn : rs.length = n at *
 have HN := Lib.hid hn
 clear hn
 generalize hn1 : cols.length = nc at *
 have HN1 := Lib.hid hn1
 clear hn1
 generalize hn2 : cuts.length = nk at *
 have HN2 := Lib.hid hn2
 clear hn2
 have q1 : ¬ nf > 200 := by omega
 have q2 : ¬ nf < 0 := by omega
 have q3 : ¬ (n : Int) < 1 := by omega
 have q4 : ¬ (n : Int) > 32 := by omega
 have q5 : ¬ pen < 0 := by omega
 have q6 : ¬ pen > 4294967296 := by omega
 have q7 : ¬ (nc : Int) > 1000 := by omega
 have q8 : ¬ (nk : Int) > 32 := by omega
 go_enter Tryz.func66, Tryz.ntmps66
 go_wp2_with (first | go_skip | refine tP ?_ | (refine tS ?_; clear hL; intro _ hL) | (refine tB ?_; clear hL; intro _ _ hL _))
 go_loopw [58] (fun i wr => ∃ (k : Nat) (mm : World), k ≤ n ∧ i = .int .i64 k ∧ Loc w m wr mm [(w.heap.size, 26, #[.int .i64 nf, .slice A n ca, .int .i64 pen, .slice B nc cb, .slice C nk cc])]) (fun i _ => n - (intOf i).toNat)
 case atStart => exact ⟨0, _, Nat.zero_le _, rfl, hL⟩
 case round =>
  clear hL
  obtain ⟨k, mm, hk, rfl, hL⟩ := hrel
  have hM := hL.mext
  by_cases hlt : k < n
  ·obtain ⟨x, hx⟩ := at_some HN hlt
   obtain ⟨b1, o1, hA, hc1⟩ := IntL.at_ ha hx
   replace hA := Lib.hid hA
   obtain ⟨x1, x2⟩ := HO.out x (List.mem_of_getElem? hx)
   have x1' : ¬ x < 0 := by omega
   have x2' : ¬ x ≥ nf := by omega
   by_cases h0 : k = 0
   ·subst h0
    clear hx x1 x2
    go_wp2_with (first | go_skip | refine tP ?_ | (refine tS ?_; clear hL; intro _ hL) | (refine tB ?_; clear hL; intro _ _ hL _))
    go_roundw
    case rel => exact ⟨1, _, by omega, by go_num, hL⟩
    case measure => simp [intOf] <;> omega
   ·obtain ⟨j, rfl⟩ : ∃ j, k = j + 1 := ⟨k - 1, by omega⟩
    have hk0 : ((j + 1 : Nat) : Int) > 0 := by omega
    have hjn : j < n := by omega
    obtain ⟨y, hy⟩ := at_some HN hjn
    obtain ⟨b2, o2, hA2, hc2⟩ := IntL.at_ ha hy
    have hyx := asc_prev HA.out hy hx
    have e12 : b2 = b1 ∧ o2 = o1 := by
     have := hA.out
     rw [hA2] at this
     simp only [Option.some.injEq, Addr.mk.injEq, and_true] at this
     exact this
    obtain ⟨rfl, rfl⟩ := e12
    have hj1 : ((j + 1 : Nat) : Int) - 1 = (j : Int) := by omega
    have hj2 : wrap64 (((j + 1 : Nat) : Int) - 1) = (j : Int) := by unfold wrap64; omega
    have hj3 : (j : Int) + 1 - 1 = (j : Int) := by omega
    clear hx hy x1 x2 hA2 h0
    go_wp2_with (first | go_skip | refine tP ?_ | (refine tS ?_; clear hL; intro _ hL) | (refine tB ?_; clear hL; intro _ _ hL _))
    go_roundw
    case rel => exact ⟨j + 1 + 1, _, by omega, by go_num, hL⟩
    case measure => simp [intOf] <;> omega
  ·have hmm := @run_makeMap Tryz.prog
   have HMM := Lib.hid hmm
   clear hmm
   go_wp2_with (first | go_skip | refine tP ?_ | (refine tS ?_; clear hL; intro _ hL) | (refine tB ?_; clear hL; intro _ _ hL _))
   clear hlt hk
   go_loopw [89] (fun i wr => ∃ (k : Nat) (mm : World), k ≤ nc ∧ i = .int .i64 k ∧ Loc w m wr mm [(w.heap.size, 26, #[.int .i64 nf, .slice A n ca, .int .i64 pen, .slice B nc cb, .slice C nk cc])]) (fun i _ => nc - (intOf i).toNat)
   case atStart => exact ⟨0, _, Nat.zero_le _, rfl, hL⟩
   case round =>
    clear hL hM
    obtain ⟨k, mm, hk, rfl, hL⟩ := hrel
    obtain ⟨wq, rfl⟩ := hL.world
    have hM := hL.mext
    by_cases hlt : k < nc
    ·obtain ⟨⟨s, ds, cost⟩, hx⟩ := at_some HN1 hlt
     have hco := HCO.out
     obtain ⟨b1, o1, D, cd, rfl, hds, hr1⟩ := ColL.at_ hco hx
     obtain ⟨i1, i2, i3, i4, i5, i6, i7⟩ := HC.out _ (List.mem_of_getElem? hx)
     simp only at hds hr1 i1 i2 i3 i4 i5 i6 i7
     have c1 : ¬ cost < -1125899906842624 := by omega
     have c2 : ¬ cost > 1125899906842624 := by omega
     have HD := Lib.hid hds
     have H3 := Lib.hid i3
     have H4 := Lib.hid i4
     have H6 := Lib.hid i6
     have H7 := Lib.hid i7
     have H5 := Lib.hid i5
     have H8 := Lib.hid (opF_len i4)
     clear hx hds i1 i2 i3 i4 i5 i6 i7 hco
     generalize hnd : ds.length = nd at *
     have HND := Lib.hid hnd
     clear hnd
     go_wp2_with (first | go_skip | refine tP ?_ | (refine tS ?_; clear hL; intro _ hL) | (refine tB ?_; clear hL; intro _ _ hL _))
     refine (e_Operated s _ ds _ _ hL.vw (DutsL.le HD.out leX) (by rw [HND.out]; exact H3.out) H4.out).mono ?_
     rintro e Wo1 ⟨vo1, mo1, rfl, hE, hMo1, hV, ho1⟩
     replace hL := hL.call hE (by assumption) hV; clear hE hV
     obtain ⟨Ao, co, rfl, hco, ho1⟩ := ho1.lit
     have HOP := Lib.hid ho1
     have h5 := H5.out
     have h8 : (opF ds).length ≤ 100000 := by have := H8.out; have := H3.out; omega
     clear ho1 hr1
     generalize hno : (opF ds).length = no at *
     have HNO := Lib.hid hno
     clear hno
     have q9 : ¬ (no : Int) < 1 := by omega
     have hmb := hL.ext.size
     have hmm := HMM.out
     go_wp2_with (first | go_skip | refine tP ?_ | (refine tS ?_; clear hL; intro _ hL) | (refine tB ?_; clear hL; intro _ _ hL _))
     go_loopw [110] (fun i wr => ∃ (j : Nat) (m2 : World), j ≤ no ∧ i = .int .i64 j ∧ Loc w m wr m2 [(wq.heap.size, 101, #[.string s, .slice D nd cd, .int .i64 cost]), (w.heap.size, 26, #[.int .i64 nf, .slice A n ca, .int .i64 pen, .slice (some ⟨b1, o1, none⟩) nc cb, .slice C nk cc])] ∧ Hid (BSet wr Wo1.heap.size ((opF ds).take j)) ∧ Hid (Ext mo1 m2)) (fun i _ => no - (intOf i).toNat)
     case atStart => exact ⟨0, _, Nat.zero_le _, rfl, hL.allocM _, BSet.made _, hidTo_ext (by rw [hL.vw.size]; simp)⟩
     case round =>
      clear hL hM hmm
      obtain ⟨j, m2, hj, rfl, hL, HB, HX⟩ := hrel
      have hM := hL.mext
      by_cases hlt2 : j < no
      ·obtain ⟨f, hf⟩ := at_some HNO hlt2
       obtain ⟨b3, o3, rfl, hc3⟩ := IntL.at_ HOP.out hf
       replace hc3 := HX.out.le.cell _ _ hc3
       have hin : f ∈ rs := H6.out f (List.mem_of_getElem? hf)
       have HIN := Lib.hid hin
       have HNW := Lib.hid (nodup_new H7.out hf)
       obtain ⟨lo, hi⟩ := HO.out f hin
       have HWF : Hid ((Lit.int .i64 f).wf = true) := wf_small (by omega) (by omega)
       have HT : Hid ((opF ds).take j ++ [f] = (opF ds).take (j + 1)) := take_snoc hf
       have HLN : Hid (((opF ds).take j).length ≤ 1000000) := by show _ ≤ _; simp; omega
       clear hf hin lo hi
       go_wp2_with (first | go_skip | refine tP ?_ | (refine tS ?_; clear hL; intro _ hL) | (refine tB ?_; clear hL; intro _ _ hL _))
       refine (s_BinarySearch _ rs f _ _ hL.vw (IntL.le HR.out leX) (by rw [HN.out]; exact HRL.out) HA.out).mono ?_
       rintro e W2 ⟨_, m3, rfl, hE, hM3, hV, i, rfl, -⟩
       have HB2 := HB.out.ext hE
       have HX3 : Hid (Ext mo1 m3) := HX.out.trans hM3
       replace hL := hL.call hE (by assumption) hV; clear hE hV
       rw [decide_eq_true HIN.out]
       have hlk := HB2.look HWF.out
       rw [HNW.out] at hlk
       obtain ⟨W9, hup, hb9, hg9⟩ := HB2.up HLN.out HWF.out
       have HB9 := Lib.hid hb9
       have HG9 := Lib.hid hg9
       have HNC := Lib.hid HB2.notCells
       clear hb9 hg9 HB2
       go_wp2_with (first | go_skip | refine tP ?_ | (refine tS ?_; clear hL; intro _ hL) | (refine tB ?_; clear hL; intro _ _ hL _))
       go_roundw
       case rel => exact ⟨j + 1, _, by omega, by go_num, hL.mapTurn HG9.out hmb HNC.out, by rw [← HT.out]; exact HB9.out, HX3.out.trans (hidTo_ext (by rw [hL.vw.size]; exact HG9.out.size))⟩
       case measure => simp [intOf] <;> omega
      ·go_wp2_with (first | go_skip | refine tP ?_ | (refine tS ?_; clear hL; intro _ hL) | (refine tB ?_; clear hL; intro _ _ hL _))
       go_roundw
       case rel => exact ⟨k + 1, _, by omega, by go_num, hL.tail⟩
       case measure => simp [intOf] <;> omega
    ·go_wp2_with (first | go_skip | refine tP ?_ | (refine tS ?_; clear hL; intro _ hL) | (refine tB ?_; clear hL; intro _ _ hL _))
     clear hlt hk
     go_loopw [135] (fun i wr => ∃ (k : Nat) (mm : World), k ≤ nk ∧ i = .int .i64 k ∧ Loc w m wr mm [(w.heap.size, 26, #[.int .i64 nf, .slice A n ca, .int .i64 pen, .slice B nc cb, .slice C nk cc])]) (fun i _ => nk - (intOf i).toNat)
     case atStart => exact ⟨0, _, Nat.zero_le _, rfl, hL⟩
     case round =>
      clear hL hM
      obtain ⟨k, mm, hk, rfl, hL⟩ := hrel
      have hM := hL.mext
      by_cases hlt : k < nk
      ·obtain ⟨⟨xs, dv⟩, hx⟩ := at_some HN2 hlt
       have hcu := HCU.out
       obtain ⟨b1, o1, D, cd, rfl, hcr, hr1⟩ := CutL.at_' hcu hx
       have HOK := Lib.hid (HK.out _ (List.mem_of_getElem? hx))
       have HCR := Lib.hid hcr
       clear hx hcu hcr
       simp only at hr1
       go_wp2_with (first | go_skip | refine tP ?_ | (refine tS ?_; clear hL; intro _ hL) | (refine tB ?_; clear hL; intro _ _ hL _))
       refine (m_validCut _ _ rs (xs, dv) _ _ hL.vw (IntL.le HR.out leX) (HCR.out.le leX) (by rw [HN.out]; exact HRL.out) HA.out HOK.out).mono ?_
       rintro e Wv1 ⟨_, mv1, rfl, hE, hMv1, hV, rfl⟩
       replace hL := hL.call hE (by assumption) hV; clear hE hV
       go_wp2_with (first | go_skip | refine tP ?_ | (refine tS ?_; clear hL; intro _ hL) | (refine tB ?_; clear hL; intro _ _ hL _))
       go_roundw
       case rel => exact ⟨k + 1, _, by omega, by go_num, hL.tail⟩
       case measure => simp [intOf] <;> omega
      ·go_wp2_with (first | go_skip | refine tP ?_ | (refine tS ?_; clear hL; intro _ hL) | (refine tB ?_; clear hL; intro _ _ hL _))
       go_ret
       exact RetV.mk hL rfl
end Go.Proofs.YtniigfikpfinfaaGreat
