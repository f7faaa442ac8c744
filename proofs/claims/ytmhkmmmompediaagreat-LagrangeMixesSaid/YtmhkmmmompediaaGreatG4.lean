/- Part 4 of 7 of the proof: the law LagrangeMixes returns true for every input, and its arguments read as before; there is no condition. -/
import Derived.Laws.StructEq
import Derived.Lib.SliceRun
import Derived.Test.YtmhkmmmompediaaGreatG3
set_option linter.unusedVariables false
set_option linter.unusedSimpArgs false
/- Rows that a function builds by append, hidden from the view until they are shown; slices of values under a view. No program. -/
namespace Go.Proofs.YtmhkmmmompediaaGreat
open Go.RowKit

/-- v is a slice of n elements (size cells each, together xs) in the one block of R, or nil and R empty. -/
def Row (e : TypeId) (size : Nat) (v : Value) (n : Nat) (xs : List Value) (R : List Lo) : Prop :=
  xs.length = n * size ∧
    ((v = .slice none 0 0 ∧ n = 0 ∧ R = []) ∨
      ∃ g cap cur, v = .slice (some ⟨g, 0, none⟩) n cap ∧ R = [(g, e, cur)] ∧ n ≤ cap ∧ cap ≤ maxLen ∧ cur.size = cap * size ∧ cur.toList.take (n * size) = xs)
theorem Row.nil (e : TypeId) (size : Nat) : Row e size (.slice none 0 0) 0 [] [] := ⟨by simp, .inl ⟨rfl, rfl, rfl⟩⟩
theorem Row.lit {e : TypeId} {size : Nat} {v : Value} {n : Nat} {xs : List Value} {R : List Lo} (h : Row e size v n xs R) : ∃ A c, v = .slice A n c ∧ n ≤ c := by
  obtain ⟨_, ⟨rfl, rfl, _⟩ | ⟨g, cap, cur, rfl, _, h, _⟩⟩ := h
  · exact ⟨_, _, rfl, Nat.le_refl _⟩
  · exact ⟨_, _, rfl, h⟩
theorem Row.len {e : TypeId} {size : Nat} {v : Value} {n : Nat} {xs : List Value} {R : List Lo} (h : Row e size v n xs R) : xs.length = n * size := h.1

theorem Loc.perm {w0 m0 W m : World} {A B : List Lo} (h : Loc w0 m0 W m A) (hp : A.Perm B) : Loc w0 m0 W m B :=
  ⟨h.size0, h.ext, h.mext, h.vw, fun x hx => h.low x (hp.mem_iff.2 hx), fun x hx => h.blk x (hp.mem_iff.2 hx), fun x hx => h.hid x (hp.mem_iff.2 hx),
    hp.pairwise h.apart fun h => fun e => h e.symm⟩
theorem Loc.tail {w0 m0 W m : World} {x : Lo} {A : List Lo} (h : Loc w0 m0 W m (x :: A)) : Loc w0 m0 W m A :=
  ⟨h.size0, h.ext, h.mext, h.vw, fun y hy => h.low y (List.mem_cons_of_mem _ hy), fun y hy => h.blk y (List.mem_cons_of_mem _ hy), fun y hy => h.hid y (List.mem_cons_of_mem _ hy), (List.pairwise_cons.1 h.apart).2⟩
theorem Loc.own {w0 m0 W m : World} {A R : List Lo} (hL : Loc w0 m0 W m (A ++ R)) {e : TypeId} {size : Nat} {v : Value} {n : Nat} {xs : List Value} (hR : Row e size v n xs R) : W.ownsRow w0.heap.size e size v n xs := by
  obtain ⟨h1, ⟨rfl, rfl, _⟩ | ⟨g, cap, cur, rfl, rfl, h⟩⟩ := hR
  · exact ⟨h1, .inl ⟨rfl, rfl⟩⟩
  · have hm : (g, e, cur) ∈ A ++ [(g, e, cur)] := by simp
    exact ⟨h1, .inr ⟨g, cap, cur, rfl, hL.low _ hm, hL.blk _ hm, h⟩⟩

/-- m with more blocks, which show nothing. -/
def hidTo (m : World) (n : Nat) : World := { m with heap := m.heap ++ Array.replicate (n - m.heap.size) (.cells #[] 0 (0, 0)) }
theorem hidTo_size {m : World} {n : Nat} (h : m.heap.size ≤ n) : (hidTo m n).heap.size = n := by simp [hidTo]; omega
theorem hidTo_old {m : World} {n k : Nat} (h : k < m.heap.size) : (hidTo m n).heap[k]? = m.heap[k]? := by simp [hidTo, Array.getElem?_append, h]
theorem hidTo_ext {m : World} {n : Nat} (h : m.heap.size ≤ n) : Ext m (hidTo m n) := ⟨rfl, rfl, rfl, by rw [hidTo_size h]; exact h, fun _ hk => hidTo_old hk⟩
theorem hidTo_new {m : World} {n : Nat} {a : Addr} (h : m.heap.size ≤ a.block) : (hidTo m n).cell? a = none := by
  obtain ⟨b, o, s⟩ := a
  simp only at h
  unfold World.cell?
  by_cases hb : b < n
  · have : (hidTo m n).heap[b]? = some (.cells #[] 0 (0, 0)) := by
      simp only [hidTo, Array.getElem?_append, Nat.not_lt.2 h, if_false]
      rw [Array.getElem?_replicate]; rw [if_pos (by omega)]
    rw [this]; cases s <;> simp
  · have : (hidTo m n).heap[b]? = none := by
      apply Array.getElem?_eq_none
      simp [hidTo]; omega
    rw [this]

theorem Loc.grown {w0 m0 W m W' : World} {A R R' : List Lo} (hL : Loc w0 m0 W m (A ++ R)) {row : Option Nat} (hg : W.grownBy W' row) (hrow : ∀ k, row = some k → ∃ x ∈ R, x.1 = k)
    (hR' : ∀ x ∈ R', Blk W' x.1 x.2.1 x.2.2 ∧ ((∃ y ∈ R, y.1 = x.1) ∨ x.1 = W.heap.size)) (hone : R'.length ≤ 1) : Loc w0 m0 W' (hidTo m W'.heap.size) (A ++ R') := by
  have hs : m.heap.size ≤ W'.heap.size := by rw [hL.vw.size]; exact hg.size
  have hrow' : ∀ k, row = some k → w0.heap.size ≤ k := fun k hk => by
    obtain ⟨x, hx, rfl⟩ := hrow k hk
    exact hL.low x (List.mem_append_right _ hx)
  have hap := List.pairwise_append.1 hL.apart
  refine ⟨hL.size0, hL.ext.grown hg hrow', hL.mext.trans (hidTo_ext hs), ⟨hL.vw.os.trans hg.os.symm, hL.vw.tape.trans hg.tape.symm, hL.vw.output.trans hg.output.symm, hidTo_size hs, fun a u hu => ?_⟩, ?_, ?_, ?_, ?_⟩
  · rcases Nat.lt_or_ge a.block m.heap.size with h | h
    · have h2 : (hidTo m W'.heap.size).cell? a = m.cell? a := cell_of_heap (hidTo_old h)
      rw [h2] at hu
      have hne : some a.block ≠ row := fun he => by
        obtain ⟨x, hx, hxa⟩ := hrow a.block he.symm
        rw [hL.hid x (List.mem_append_right _ hx) a hxa.symm] at hu; cases hu
      rw [cell_of_heap (hg.block a.block (by rw [← hL.vw.size]; exact h) hne)]
      exact hL.vw.cell _ _ hu
    · rw [hidTo_new h] at hu; cases hu
  · intro x hx
    rcases List.mem_append.1 hx with hx | hx
    · exact hL.low x (List.mem_append_left _ hx)
    · rcases (hR' x hx).2 with ⟨y, hy, e⟩ | e
      · rw [← e]; exact hL.low y (List.mem_append_right _ hy)
      · rw [e]; exact hL.ext.size
  · intro x hx
    rcases List.mem_append.1 hx with hx | hx
    · have hb := hL.blk x (List.mem_append_left _ hx)
      refine (hg.block x.1 hb.lt fun he => ?_).trans hb
      obtain ⟨y, hy, e⟩ := hrow x.1 he.symm
      exact hap.2.2 x hx y hy e.symm
    · exact (hR' x hx).1
  · intro x hx a ha
    have old : ∀ y ∈ A ++ R, y.1 = x.1 → (hidTo m W'.heap.size).cell? a = none := fun y hy e => by
      have hlt : a.block < m.heap.size := by rw [ha, ← e, hL.vw.size]; exact (hL.blk y hy).lt
      rw [cell_of_heap (hidTo_old hlt)]
      exact hL.hid y hy a (ha.trans e.symm)
    rcases List.mem_append.1 hx with hx | hx
    · exact old x (List.mem_append_left _ hx) rfl
    · rcases (hR' x hx).2 with ⟨y, hy, e⟩ | e
      · exact old y (List.mem_append_right _ hy) e
      · exact hidTo_new (by rw [ha, e, hL.vw.size]; exact Nat.le_refl _)
  · refine List.pairwise_append.2 ⟨hap.1, ?_, fun x hx y hy => ?_⟩
    · match R', hone with
      | [], _ => exact List.Pairwise.nil
      | [x], _ => exact List.pairwise_singleton _ _
    · rcases (hR' y hy).2 with ⟨z, hz, e⟩ | e
      · rw [← e]; exact hap.2.2 x hx z hz
      · have := (hL.blk x (List.mem_append_left _ hx)).lt
        rw [e]; exact Nat.ne_of_lt this

/-- Element type, cells and bytes of a slice type. -/
def apS (P : Program) (t : TypeId) : Option (TypeId × Nat × Nat × Nat) :=
  match P.underlying t with
  | some (.slice e) => (P.info? e).bind fun i => i.zero.map fun z => (e, i.size, i.bytes, z.cells.size)
  | _ => none
theorem ap_desc {P : Program} {t e : TypeId} {size bytes zs : Nat} (h : apS P t = some (e, size, bytes, zs)) : ∃ i z, P.underlying t = some (.slice e) ∧ P.info? e = some i ∧ i.zero = some z ∧ i.size = size ∧ i.bytes = bytes ∧ z.cells.size = zs := by
  unfold apS at h
  split at h
  · rename_i e' he
    cases hi : P.info? e' with
    | none => simp [hi] at h
    | some i =>
      cases hz : i.zero with
      | none => simp [hi, hz] at h
      | some z =>
        simp [hi, hz] at h
        obtain ⟨rfl, rfl, rfl, rfl⟩ := h
        exact ⟨i, z, he, hi, hz, rfl, rfl, rfl⟩
  · cases h

section
variable {P : Program} {ops : Array Oper} {Q : Exit → Act → World → Prop} {rest : List Oper} {o : Oper} {a : Act} {w0 m0 W m : World}
theorem wl_append {A R : List Lo} (hL : Loc w0 m0 W m (A ++ R)) {e : TypeId} {size : Nat} {v : Value} {n : Nat} {xs : List Value} (hR : Row e size v n xs R)
    (hw : Region.wanted o (yielded ops a.tmps) = true) {s x : Operand} {t : TypeId} (ho : o.op = .call { callee := .builtin .append, args := #[s, x], argTypes := #[t, t] })
    {bytes : Nat} (hap : apS P t = some (e, size, bytes, size)) (hsz : 0 < size) (hs : a.eval s = v) {B : Option Addr} {k c : Nat} (hx : a.eval x = .slice B k c) {news : List Value}
    (hl : news.length = k * size) (hr : Sl W B news) (h1 : news.all (·.oneCell') = true) (hn : n + k ≤ 1000000) (hb : bytes ≤ 1000000)
    (h : ∀ v' W' m' R', Loc w0 m0 W' m' (A ++ R') → Row e size v' (n + k) (xs ++ news) R' → Ext m m' → wpList P ops Q rest (a.put o.dst v') W') : wpList P ops Q (o :: rest) a W := by
  obtain ⟨i, z, ht, hi, hz, hs1, hb1, hz1⟩ := ap_desc hap
  refine wpList_wanted hw fun K hK => ?_
  have hbb : (n + k) * bytes ≤ 140737488355328 := Nat.le_trans (Nat.mul_le_mul hn hb) (by decide)
  refine wp_append_any W s x t ho w0.heap.size e i z size bytes ht hi hz hs1 hb1 hz1 hsz v n xs hs (hL.own hR) B k c news hx hl hr (fun u hu => List.all_eq_true.1 h1 u hu) (Nat.le_trans hn (by decide)) hbb hL.ext.size ?_
  intro v' W' ho' hg hob
  refine hK _ _ ?_
  have hrow : ∀ j, v.ownBlock = some j → ∃ x ∈ R, x.1 = j := by
    intro j hj
    obtain ⟨_, ⟨rfl, _, _⟩ | ⟨g, cap, cur, rfl, rfl, _⟩⟩ := hR
    · simp [Value.ownBlock] at hj
    · simp [Value.ownBlock] at hj
      exact ⟨_, List.mem_singleton.2 rfl, hj⟩
  have hE : Ext m (hidTo m W'.heap.size) := hidTo_ext (by rw [hL.vw.size]; exact hg.size)
  obtain ⟨hlen, ⟨rfl, h0⟩ | ⟨g, cap, cur, rfl, hge, hh, hnc, hcm, hcs, htk⟩⟩ := ho'
  · exact h _ W' _ [] (hL.grown hg hrow (fun x hx => by cases hx) (by simp)) ⟨hlen, .inl ⟨rfl, h0, rfl⟩⟩ hE
  · refine h _ W' _ [(g, e, cur)] (hL.grown hg hrow (fun x hx => ?_) (by simp)) ⟨hlen, .inr ⟨g, cap, cur, rfl, rfl, hnc, hcm, hcs, htk⟩⟩ hE
    rcases List.mem_singleton.1 hx with rfl
    refine ⟨hh, ?_⟩
    rcases hob with hob | hob
    · left
      obtain ⟨x, hx, hxe⟩ := hrow g (by rw [← hob]; rfl)
      exact ⟨x, hx, hxe⟩
    · right
      simpa [Value.ownBlock] using hob
end

/-- m, its block g showing cs. -/
def shown (m : World) (g : Nat) (t : TypeId) (cs : Array Value) : World := { m with heap := m.heap.setIfInBounds g (.cells cs t (0, 0)) }
theorem shown_size (m : World) (g : Nat) (t : TypeId) (cs : Array Value) : (shown m g t cs).heap.size = m.heap.size := by simp [shown]
theorem shown_other (m : World) {g k : Nat} (t : TypeId) (cs : Array Value) (h : k ≠ g) : (shown m g t cs).heap[k]? = m.heap[k]? := by
  simp only [shown, Array.getElem?_setIfInBounds]
  rw [if_neg (by omega)]
theorem shown_at (m : World) {g : Nat} (t : TypeId) (cs : Array Value) (h : g < m.heap.size) : Blk (shown m g t cs) g t cs := by
  unfold Blk shown
  simp [h]
theorem Loc.show1 {w0 m0 W m : World} {A : List Lo} {g : Nat} {t : TypeId} {cur : Array Value} (hL : Loc w0 m0 W m (A ++ [(g, t, cur)])) (k : Nat) :
    ∃ m', Loc w0 m0 W m' A ∧ Le m m' ∧ Sl m' (some ⟨g, 0, none⟩) (cur.toList.take k) := by
  have hm : (g, t, cur) ∈ A ++ [(g, t, cur)] := by simp
  have hb := hL.blk _ hm
  have hlt : g < m.heap.size := by rw [hL.vw.size]; exact hb.lt
  have hap := List.pairwise_append.1 hL.apart
  have hle : Le m (shown m g t (cur.toList.take k).toArray) := ⟨by rw [shown_size]; exact Nat.le_refl _, fun a u hu => by
    have hne : a.block ≠ g := fun e => by rw [hL.hid _ hm a e] at hu; cases hu
    rw [cell_of_heap (shown_other m t _ hne)]; exact hu⟩
  have hbs := shown_at m t (cur.toList.take k).toArray hlt
  refine ⟨shown m g t (cur.toList.take k).toArray, ⟨hL.size0, hL.ext, ⟨hL.mext.os, hL.mext.tape, hL.mext.output, by rw [shown_size]; exact hL.mext.size, fun j hj => ?_⟩, ⟨hL.vw.os, hL.vw.tape, hL.vw.output, by rw [shown_size]; exact hL.vw.size, fun a u hu => ?_⟩,
    fun x hx => hL.low x (List.mem_append_left _ hx), fun x hx => hL.blk x (List.mem_append_left _ hx), fun x hx a ha => ?_, hap.1⟩, hle, hbs.sl (n := k) (by simp [List.take_take])⟩
  · rw [shown_other m t _ (by have := hL.low _ hm; have := hL.size0; simp only at *; omega)]
    exact hL.mext.block j hj
  · by_cases e : a.block = g
    · obtain ⟨b, o, s⟩ := a
      simp only at e
      subst e
      unfold World.cell? at hu ⊢
      rw [hbs] at hu
      have hb' : W.heap[b]? = some (.cells cur t (0, 0)) := hb
      rw [hb']
      have key : ∀ v, (List.take k cur.toList).toArray[o]? = some v → cur[o]? = some v := fun v hv => by
        rw [List.getElem?_toArray, List.getElem?_take] at hv
        by_cases ho : o < k
        · rw [if_pos ho] at hv; simpa using hv
        · rw [if_neg ho] at hv; cases hv
      cases hq : (List.take k cur.toList).toArray[o]? with
      | none => cases s <;> simp [hq] at hu
      | some v =>
        have := key v hq
        simp only [hq] at hu
        simp only [this]
        exact hu
    · rw [cell_of_heap (shown_other m t _ e)] at hu
      exact hL.vw.cell _ _ hu
  · have hne : a.block ≠ g := by rw [ha]; exact hap.2.2 x hx _ (List.mem_singleton.2 rfl)
    rw [cell_of_heap (shown_other m t _ hne)]
    exact hL.hid x (List.mem_append_left _ hx) a ha
theorem Loc.show {w0 m0 W m : World} {A R : List Lo} (hL : Loc w0 m0 W m (A ++ R)) {e : TypeId} {size : Nat} {v : Value} {n : Nat} {xs : List Value} (hR : Row e size v n xs R) :
    ∃ m' B c, Loc w0 m0 W m' A ∧ Le m m' ∧ v = .slice B n c ∧ n ≤ c ∧ Sl m' B xs ∧ W.ownsRow w0.heap.size e size v n xs := by
  have ho := hL.own hR
  obtain ⟨h1, ⟨rfl, rfl, rfl⟩ | ⟨g, cap, cur, rfl, rfl, hn, _, _, ht⟩⟩ := hR
  · rw [List.append_nil] at hL
    have : xs = [] := List.eq_nil_of_length_eq_zero (by simpa using h1)
    subst this
    exact ⟨m, none, 0, hL, Le.refl _, rfl, Nat.le_refl _, Sl.nil, ho⟩
  · obtain ⟨m', h1, h2, h3⟩ := hL.show1 (n * size)
    rw [ht] at h3
    exact ⟨m', _, _, h1, h2, rfl, hn, h3, ho⟩

/-- What a call leaves, with a fact on the memory beside. -/
def RetW (w m : World) (R : World → World → Value → Prop) (e : Ending) (w' : World) : Prop :=
  ∃ v m', e = .returned v ∧ Ext w w' ∧ Ext m m' ∧ Vw m' w' ∧ R w' m' v
theorem RetW.mk {w m W m' : World} {R : World → World → Value → Prop} {v : Value} {Ls : List Lo} (hL : Loc w m W m' Ls) (h : R W m' v) : RetW w m R (.returned v) W := ⟨v, m', rfl, hL.ext, hL.mext, hL.vw, h⟩

/-- The cells of a list of values. -/
def cellsOf (vs : List Value) : List Value := vs.flatMap fun v => v.cells.toList
theorem cellsOf_append (a b : List Value) : cellsOf (a ++ b) = cellsOf a ++ cellsOf b := by simp [cellsOf]
theorem cellsOf_one (v : Value) : cellsOf [v] = v.cells.toList := by simp [cellsOf]
theorem cellsOf_at {size : Nat} : ∀ {vs : List Value} {k : Nat} {v : Value}, (∀ u ∈ vs, u.cells.size = size) → vs[k]? = some v → ∀ j, j < size → (cellsOf vs)[k * size + j]? = v.cells.toList[j]?
  | [], k, v, _, h, _, _ => by simp at h
  | u :: vs, 0, v, hs, h, j, hj => by
    simp at h; subst h
    have : j < u.cells.toList.length := by simpa [hs u (by simp)] using hj
    simp only [cellsOf, List.flatMap_cons, Nat.zero_mul, Nat.zero_add]
    rw [List.getElem?_append_left this]
  | u :: vs, k + 1, v, hs, h, j, hj => by
    simp at h
    have hl : u.cells.toList.length = size := by simpa using hs u (by simp)
    have ih := cellsOf_at (vs := vs) (k := k) (fun x hx => hs x (by simp [hx])) h j hj
    simp only [cellsOf, List.flatMap_cons]
    rw [List.getElem?_append_right (by rw [hl, Nat.succ_mul]; omega), hl, show (k + 1) * size + j - size = k * size + j by rw [Nat.succ_mul]; omega]
    exact ih
theorem cellsOf_length {size : Nat} : ∀ {vs : List Value}, (∀ u ∈ vs, u.cells.size = size) → (cellsOf vs).length = vs.length * size
  | [], _ => by simp [cellsOf]
  | u :: vs, h => by
    have ih := cellsOf_length (vs := vs) fun x hx => h x (by simp [hx])
    have hl : u.cells.toList.length = size := by simpa using h u (by simp)
    simp only [cellsOf, List.flatMap_cons, List.length_append, hl, List.length_cons, Nat.succ_mul]
    simp only [cellsOf] at ih
    omega

/-- R between two lists, one by one. -/
def All2 {α : Type} (R : Value → α → Prop) : List Value → List α → Prop
  | [], [] => True
  | v :: vs, x :: xs => R v x ∧ All2 R vs xs
  | _, _ => False
theorem All2.length {α : Type} {R : Value → α → Prop} : ∀ {vs : List Value} {xs : List α}, All2 R vs xs → vs.length = xs.length
  | [], [], _ => rfl
  | _ :: _, _ :: _, h => by simp [All2.length h.2]
  | [], _ :: _, h => h.elim
  | _ :: _, [], h => h.elim
theorem All2.at_ {α : Type} {R : Value → α → Prop} : ∀ {vs : List Value} {xs : List α}, All2 R vs xs → ∀ {k : Nat} {x : α}, xs[k]? = some x → ∃ v, vs[k]? = some v ∧ R v x
  | v :: vs, x :: xs, h, 0, y, e => by simp at e; subst e; exact ⟨v, rfl, h.1⟩
  | v :: vs, x :: xs, h, k + 1, y, e => by simp at e; simpa using All2.at_ h.2 e
  | [], [], _, _, _, e => by simp at e
  | [], _ :: _, h, _, _, _ => h.elim
  | _ :: _, [], h, _, _, _ => h.elim
theorem All2.left {α : Type} {R : Value → α → Prop} : ∀ {vs : List Value} {xs : List α}, All2 R vs xs → ∀ {k : Nat} {v : Value}, vs[k]? = some v → ∃ x, R v x
  | v :: vs, x :: xs, h, 0, y, e => by simp at e; subst e; exact ⟨x, h.1⟩
  | v :: vs, x :: xs, h, k + 1, y, e => by simp at e; exact All2.left h.2 e
  | [], [], _, _, _, e => by simp at e
  | [], _ :: _, h, _, _, _ => h.elim
  | _ :: _, [], h, _, _, _ => h.elim
theorem All2.mono {α : Type} {R S : Value → α → Prop} (hRS : ∀ v x, R v x → S v x) : ∀ {vs : List Value} {xs : List α}, All2 R vs xs → All2 S vs xs
  | [], [], _ => trivial
  | _ :: _, _ :: _, h => ⟨hRS _ _ h.1, All2.mono hRS h.2⟩
  | [], _ :: _, h => h.elim
  | _ :: _, [], h => h.elim
theorem All2.snoc {α : Type} {R : Value → α → Prop} {v : Value} {x : α} (hv : R v x) : ∀ {vs : List Value} {xs : List α}, All2 R vs xs → All2 R (vs ++ [v]) (xs ++ [x])
  | [], [], _ => ⟨hv, trivial⟩
  | _ :: _, _ :: _, h => ⟨h.1, All2.snoc hv h.2⟩
  | [], _ :: _, h => h.elim
  | _ :: _, [], h => h.elim

/-- v is a slice of values vs of size cells each, which stand to xs in R. -/
def ListV {α : Type} (size : Nat) (R : World → Value → α → Prop) (m : World) (v : Value) (xs : List α) : Prop :=
  ∃ A c vs, v = .slice A xs.length c ∧ xs.length ≤ c ∧ (∀ u ∈ vs, u.cells.size = size) ∧ Sl m A (cellsOf vs) ∧ All2 (R m) vs xs
theorem ListV.lit {α : Type} {size : Nat} {R : World → Value → α → Prop} {m : World} {v : Value} {xs : List α} (h : ListV size R m v xs) : ∃ A c, v = .slice A xs.length c ∧ xs.length ≤ c ∧ ListV size R m (.slice A xs.length c) xs := by
  have h' := h
  obtain ⟨A, c, vs, rfl, hc, _⟩ := h
  exact ⟨A, c, rfl, hc, h'⟩
theorem ListV.le {α : Type} {size : Nat} {R : World → Value → α → Prop} (hR : ∀ m m' v x, R m v x → Le m m' → R m' v x) {m m' : World} {v : Value} {xs : List α} (h : ListV size R m v xs) (hb : Le m m') : ListV size R m' v xs := by
  obtain ⟨A, c, vs, e, hc, h1, h2, h3⟩ := h
  exact ⟨A, c, vs, e, hc, h1, h2.le hb, h3.mono fun v x hv => hR m m' v x hv hb⟩
/-- The element at place k: where it lies, and what it is. -/
theorem ListV.at_ {α : Type} {size : Nat} {R : World → Value → α → Prop} {m : World} {A : Option Addr} {n c : Nat} {xs : List α} (h : ListV size R m (.slice A n c) xs) (h0 : 0 < size) {k : Nat} {x : α} (hk : xs[k]? = some x) :
    ∃ b off v, A = some ⟨b, off, none⟩ ∧ R m v x ∧ v.cells.size = size ∧ m.rangeAt b (off + k * size) v.cells.toList := by
  obtain ⟨A', c', vs, e, hc, h1, h2, h3⟩ := h
  injection e with e1 e2 e3
  subst e1
  obtain ⟨v, hv, hR⟩ := h3.at_ hk
  have hvm : v ∈ vs := List.mem_of_getElem? hv
  have hkl : k < vs.length := (List.getElem?_eq_some_iff.1 hv).1
  have hlen := cellsOf_length h1
  have hpos : 0 < (cellsOf vs).length := by rw [hlen]; exact Nat.mul_pos (by omega) h0
  obtain ⟨b, off, rfl, hlt, hcell⟩ := h2 hpos
  refine ⟨b, off, v, rfl, hR, h1 v hvm, fun j u hu => ?_⟩
  have hj : j < size := by
    have := (List.getElem?_eq_some_iff.1 hu).1
    simpa [h1 v hvm] using this
  rw [Nat.add_assoc]
  exact hcell (k * size + j) u ((cellsOf_at h1 hv j hj).trans hu)
theorem ListV.nil {α : Type} {size : Nat} {R : World → Value → α → Prop} {m : World} {A : Option Addr} {c : Nat} : ListV size R m (.slice A 0 c) [] := ⟨A, c, [], rfl, Nat.zero_le _, (fun _ h => by cases h), Sl.nil, trivial⟩
theorem ListV.mk {α : Type} {size : Nat} {R : World → Value → α → Prop} {m : World} {A : Option Addr} {n c : Nat} {vs : List Value} {xs : List α} (hn : n ≤ c) (hl : vs.length = n) (h1 : ∀ u ∈ vs, u.cells.size = size) (h2 : Sl m A (cellsOf vs)) (h3 : All2 (R m) vs xs) :
    ListV size R m (.slice A n c) xs := by
  have := h3.length
  have e : n = xs.length := by omega
  subst e
  exact ⟨A, c, vs, rfl, hn, h1, h2, h3⟩
class ApC (P : Program) (t : TypeId) (e : outParam TypeId) (size bytes : outParam Nat) : Prop where
  h : apS P t = some (e, size, bytes, size)
section
variable {P : Program} {ops : Array Oper} {Q : Exit → Act → World → Prop} {rest : List Oper} {o : Oper} {a : Act} {W m : World}
/-- A struct is read from the view. -/
theorem wl_loadV (hV : Vw m W) (hw : Region.wanted o (yielded ops a.tmps) = true) {ty : TypeId} {x : Operand} (ho : o.op = .load ty x) {g off : Nat} (hx : a.eval x = .pointer (some ⟨g, off, none⟩))
    {k : Nat} (hty : agS P ty = some k) {vs : List Value} (hr : m.rangeAt g off vs) (hk : vs.length = k)
    (h : wpList P ops Q rest (a.put o.dst (.agg vs.toArray)) W) : wpList P ops Q (o :: rest) a W :=
  wpList_wanted hw fun _ hK => op_load ho hx (vs := vs) (hk ▸ hty) (fun j v hv => hV.cell _ _ (hr j v hv)) (hK _ _ h)
theorem wl_loadV1 (hV : Vw m W) (hw : Region.wanted o (yielded ops a.tmps) = true) {ty : TypeId} {x : Operand} (ho : o.op = .load ty x) {g off : Nat} (hx : a.eval x = .pointer (some ⟨g, off, none⟩))
    (hty : lfB P ty = true) {v : Value} (hr : m.cell? ⟨g, off, none⟩ = some v)
    (h : wpList P ops Q rest (a.put o.dst v) W) : wpList P ops Q (o :: rest) a W :=
  wpList_wanted hw fun _ hK => op_load1 ho hx hty (hV.cell _ _ hr) (hK _ _ h)
theorem wl_indexAddr (hw : Region.wanted o (yielded ops a.tmps) = true) {t : TypeId} {s i : Operand} (ho : o.op = .indexAddr t s i) {e : TypeId} {size bytes zs : Nat} (hap : apS P t = some (e, size, bytes, zs))
    {b off n c k : Nat} {kd : IntKind} (hs : a.eval s = .slice (some ⟨b, off, none⟩) n c) (hi : a.eval i = .int kd k) (hk : k < n)
    (h : wpList P ops Q rest (a.put o.dst (.pointer (some ⟨b, off + k * size, none⟩))) W) : wpList P ops Q (o :: rest) a W := by
  obtain ⟨ti, z, ht, hti, hz, hs1, hb1, hz1⟩ := ap_desc hap
  have hrun : (Instr.indexAt t (.slice (some ⟨b, off, none⟩) n c) (.int kd k)).run P W = .ok (.pointer (some ⟨b, off + k * size, none⟩)) W := by
    unfold Instr.indexAt
    have h1 : (0 : Int) ≤ (k : Int) ∧ (k : Int) < n := by omega
    simp [asIntOf, Sem.run_bind, run_underlying ht, sizeOf, typeInfo, hti, hs1, h1, Addr.add, hk]
  refine wpList_wanted hw fun _ hK => ?_
  unfold Oper.wp execOp
  simp only [ho, hs, hi, Sem.run_bind, hrun, Result.andThen_ok, Sem.run_pure]
  exact hK _ _ h
theorem cell_le {m m' : World} {p : Addr} {v : Value} (h : m.cell? p = some v) (hl : Le m m') : m'.cell? p = some v := hl.cell _ _ h
theorem rangeAt_le {m m' : World} {g off : Nat} {vs : List Value} (h : m.rangeAt g off vs) (hl : Le m m') : m'.rangeAt g off vs := fun j v hv => hl.cell _ _ (h j v hv)
/-- Place of a struct's field that has cells. -/
def fdS (P : Program) (t : TypeId) (k : Nat) : Option Nat :=
  match P.underlying t with
  | some (.struct fs) => (fs[k]?).bind fun f => match P.info? f.type with | some i => if i.size = 0 then none else some f.offset | none => none
  | _ => none
theorem run_fieldAt {t : TypeId} {k fo : Nat} (hf : fdS P t k = some fo) (g off : Nat) (w : World) : (Instr.fieldAt t (.pointer (some ⟨g, off, none⟩)) k).run P w = .ok (.pointer (some ⟨g, off + fo, none⟩)) w := by
  unfold fdS at hf
  split at hf
  · rename_i fs hu
    cases hk : fs[k]? with
    | none => simp [hk] at hf
    | some f =>
      cases hi : P.info? f.type with
      | none => simp [hk, hi] at hf
      | some i =>
        simp only [hk, hi, Option.bind_some] at hf
        split at hf
        · cases hf
        · rename_i hne
          injection hf with hf
          subst hf
          unfold Instr.fieldAt fieldPlace
          rw [Sem.run_bind, run_underlying hu w]
          simp [hk, Instr.sureAddr, sizeOf, typeInfo, hi, hne, Addr.add]
  · cases hf
theorem wl_fieldAddr (hw : Region.wanted o (yielded ops a.tmps) = true) {t : TypeId} {x : Operand} {k : Nat} (ho : o.op = .fieldAddr t x k) {fo : Nat} (hf : fdS P t k = some (fo + 1)) {g off : Nat} (hx : a.eval x = .pointer (some ⟨g, off, none⟩))
    (h : wpList P ops Q rest (a.put o.dst (.pointer (some ⟨g, off + (fo + 1), none⟩))) W) : wpList P ops Q (o :: rest) a W := by
  refine wpList_wanted hw fun _ hK => ?_
  unfold Oper.wp execOp
  simp only [ho, hx, Sem.run_bind, run_fieldAt hf, Result.andThen_ok, Sem.run_pure]
  exact hK _ _ h
theorem wl_fieldAddr0 (hw : Region.wanted o (yielded ops a.tmps) = true) {t : TypeId} {x : Operand} {k : Nat} (ho : o.op = .fieldAddr t x k) (hf : fdS P t k = some 0) {g off : Nat} (hx : a.eval x = .pointer (some ⟨g, off, none⟩))
    (h : wpList P ops Q rest (a.put o.dst (.pointer (some ⟨g, off, none⟩))) W) : wpList P ops Q (o :: rest) a W := by
  refine wpList_wanted hw fun _ hK => ?_
  unfold Oper.wp execOp
  simp only [ho, hx, Sem.run_bind, run_fieldAt hf, Result.andThen_ok, Sem.run_pure, Nat.add_zero]
  exact hK _ _ h
theorem op_make {K : Act → World → Prop} {t : TypeId} {x : Operand} (ho : o.op = .makeSlice t x x) {e : TypeId} {size bytes : Nat} (hap : apS P t = some (e, size, bytes, size)) {z : Array Value} (hz : zc P e = some z) {n : Nat} (hx : a.eval x = .int .i64 n)
    (hn : n ≤ 1000000) (hb : bytes ≤ 1000000) (h : K (a.put o.dst (.slice (some ⟨W.heap.size, 0, none⟩) n n)) (W.alloc (.cells (madeCells z (n * size)) e))) : o.wp P a W K Q := by
  obtain ⟨i, z', ht, hi, hz', hs1, hb1, hz1⟩ := ap_desc hap
  have e1 : z = z'.cells := by
    unfold zc at hz
    rw [hi] at hz
    simp [hz'] at hz
    exact hz.symm
  subst e1
  have hbb : (i.bytes : Int) * (n : Int) ≤ 281474976710656 := by
    have : i.bytes * n ≤ 1000000 * 1000000 := Nat.mul_le_mul (by omega) hn
    have h2 : ((i.bytes * n : Nat) : Int) ≤ 281474976710656 := by omega
    rwa [Int.natCast_mul] at h2
  have hr := run_make (P := P) W t e i z' ht hi hz' .i64 .i64 n n (by omega) (Int.le_refl _) hbb (by omega)
  simp only [Int.toNat_natCast, hs1] at hr
  unfold Oper.wp execOp
  simp only [ho, hx, Sem.run_bind, hr, Result.andThen_ok, Sem.run_pure]
  exact h
theorem wl_make {w0 m0 : World} {Ls : List Lo} (hL : Loc w0 m0 W m Ls) (hw : Region.wanted o (yielded ops a.tmps) = true) {t : TypeId} {x : Operand} (ho : o.op = .makeSlice t x x) {e : TypeId} {size bytes : Nat} (hap : apS P t = some (e, size, bytes, size)) {z : Array Value} (hz : zc P e = some z)
    {n : Nat} (hx : a.eval x = .int .i64 n) (hn : n ≤ 1000000) (hb : bytes ≤ 1000000)
    (h : ∀ W' m', Loc w0 m0 W' m' ((W.heap.size, e, madeCells z (n * size)) :: Ls) → Ext m m' → wpList P ops Q rest (a.put o.dst (.slice (some ⟨W.heap.size, 0, none⟩) n n)) W') : wpList P ops Q (o :: rest) a W :=
  wpList_wanted hw fun _ hK => op_make ho hap hz hx hn hb (hK _ _ (h _ _ (hL.alloc _ e) (Ext.new _ _)))
theorem one2_make {b : Bool} {dst : Option Nat} {B : Nat} {W1 m1 : World} (hV : Vw m1 W1) (hE : B ≤ W1.heap.size) (hd : o.dst = dst) (hgd : o.guard = none) {t : TypeId} {x : Operand} (ho : o.op = .makeSlice t x x) {e : TypeId} {size bytes : Nat} (hap : apS P t = some (e, size, bytes, size)) {z : Array Value} (hz : zc P e = some z)
    {n : Nat} (hx : a.eval x = .int .i64 n) (hn : n ≤ 1000000) (hb : bytes ≤ 1000000) :
    wpList P ops (One2 (NewRow B e (madeCells z (n * size)) n) b a dst W1 m1) [o] a W1 := by
  subst hd
  refine wpList_plain hgd fun _ hK => op_make ho hap hz hx hn hb (hK _ _ ?_)
  have h := (Loc.start hV).alloc (madeCells z (n * size)) e
  refine ⟨rfl, h.ext, _, _, h.mext, h.vw, rfl, ⟨W1.heap.size, rfl, hE, by simp [hV.size], h.at_ (n := 0) rfl, fun a ha => h.hid (W1.heap.size, e, madeCells z (n * size)) (by simp) a ha⟩, fun _ => ⟨rfl, by simp⟩⟩
theorem NewRow.ext {B : Nat} {e : TypeId} {cs : Array Value} {n : Nat} {v : Value} {u um u' um' : World} (h : NewRow B e cs n v u um) (hu : Ext u u') (hm : Ext um um') : NewRow B e cs n v u' um' := by
  obtain ⟨g, rfl, h1, h2, h3, h4⟩ := h
  exact ⟨g, rfl, h1, Nat.lt_of_lt_of_le h2 hm.size, h3.ext hu, fun a ha => by rw [hm.cell (p := a) (by rw [ha]; exact h2)]; exact h4 a ha⟩
theorem blk_ne {w : World} {g g' : Nat} {t t' : TypeId} {cs cs' : Array Value} (h : Blk w g t cs) (h' : Blk w g' t' cs') (hne : t ≠ t' ∨ cs.size ≠ cs'.size) : g ≠ g' := by
  rintro rfl
  unfold Blk at h h'
  rw [h] at h'
  simp only [Option.some.injEq, Obj.cells.injEq] at h'
  rcases hne with hne | hne
  · exact hne h'.2.1
  · exact hne (by rw [h'.1])
class FdC (P : Program) (t : TypeId) (k : Nat) (off : outParam Nat) : Prop where
  h : fdS P t k = some off
theorem t_ixa {t : TypeId} {s i : Operand} (ho : o.op = .indexAddr t s i) {e : TypeId} {size bytes : Nat} [hap : ApC P t e size bytes] {b off n c k : Nat} {kd : IntKind} (hs : a.eval s = .slice (some ⟨b, off, none⟩) n c) (hi : a.eval i = .int kd k)
    (h : wpList P ops Q rest (a.put o.dst (.pointer (some ⟨b, off + k * size, none⟩))) W) (hk : k < n := by first | with_reducible assumption | omega)
    (hw : Region.wanted o (yielded ops a.tmps) = true := by first | exact wanted_none rfl | exact wanted_some rfl rfl rfl rfl) : wpList P ops Q (o :: rest) a W := wl_indexAddr hw ho hap.h hs hi hk h
theorem t_fda {t : TypeId} {x : Operand} {k : Nat} (ho : o.op = .fieldAddr t x k) {fo : Nat} [hf : FdC P t k (fo + 1)] {g off : Nat} (hx : a.eval x = .pointer (some ⟨g, off, none⟩))
    (h : wpList P ops Q rest (a.put o.dst (.pointer (some ⟨g, off + (fo + 1), none⟩))) W)
    (hw : Region.wanted o (yielded ops a.tmps) = true := by first | exact wanted_none rfl | exact wanted_some rfl rfl rfl rfl) : wpList P ops Q (o :: rest) a W := wl_fieldAddr hw ho hf.h hx h
theorem t_fda0 {t : TypeId} {x : Operand} {k : Nat} (ho : o.op = .fieldAddr t x k) [hf : FdC P t k 0] {g off : Nat} (hx : a.eval x = .pointer (some ⟨g, off, none⟩))
    (h : wpList P ops Q rest (a.put o.dst (.pointer (some ⟨g, off, none⟩))) W)
    (hw : Region.wanted o (yielded ops a.tmps) = true := by first | exact wanted_none rfl | exact wanted_some rfl rfl rfl rfl) : wpList P ops Q (o :: rest) a W := wl_fieldAddr0 hw ho hf.h hx h
theorem t_loadV (hV : Vw m W) {ty : TypeId} {x : Operand} (ho : o.op = .load ty x) {g off : Nat} (hx : a.eval x = .pointer (some ⟨g, off, none⟩)) {k : Nat} [hty : AgC P ty k] {vs : List Value}
    (h : wpList P ops Q rest (a.put o.dst (.agg vs.toArray)) W) (hr : m.rangeAt g off vs ∧ vs.length = k := by refine ⟨?_, ?_⟩; exact rangeAt_le (by with_reducible assumption) (by repeat' (first | with_reducible exact Le.refl _ | (with_reducible refine Le.trans ?_ (Ext.le (by assumption))))); exact rfl)
    (hw : Region.wanted o (yielded ops a.tmps) = true := by first | exact wanted_none rfl | exact wanted_some rfl rfl rfl rfl) : wpList P ops Q (o :: rest) a W := wl_loadV hV hw ho hx hty.h hr.1 hr.2 h
theorem t_loadV1 (hV : Vw m W) {ty : TypeId} {x : Operand} (ho : o.op = .load ty x) {g off : Nat} (hx : a.eval x = .pointer (some ⟨g, off, none⟩)) [hty : LfC P ty] {v : Value}
    (h : wpList P ops Q rest (a.put o.dst v) W) (hr : m.cell? ⟨g, off, none⟩ = some v := by exact cell_le (by with_reducible assumption) (by repeat' (first | with_reducible exact Le.refl _ | (with_reducible refine Le.trans ?_ (Ext.le (by assumption))))))
    (hw : Region.wanted o (yielded ops a.tmps) = true := by first | exact wanted_none rfl | exact wanted_some rfl rfl rfl rfl) : wpList P ops Q (o :: rest) a W := wl_loadV1 hV hw ho hx hty.h hr h
end
end Go.Proofs.YtmhkmmmompediaaGreat

/- Facts on the program's types. -/
namespace Go.Proofs.YtmhkmmmompediaaGreat
open Go.RowKit

theorem ap_Fracs : apS Tryz.prog 28 = some (39, 4, 64, 4) := by kernel_rfl
instance iTy_1 : ApC Tryz.prog 28 39 4 64 := ⟨ap_Fracs⟩
theorem ap_ints : apS Tryz.prog 22 = some (3, 1, 8, 1) := by kernel_rfl
instance iTy_2 : ApC Tryz.prog 22 3 1 8 := ⟨ap_ints⟩
theorem ap_Cuts : apS Tryz.prog 24 = some (34, 2, 32, 2) := by kernel_rfl
instance iTy_3 : ApC Tryz.prog 24 34 2 32 := ⟨ap_Cuts⟩
theorem ap_Decs : apS Tryz.prog 29 = some (87, 3, 24, 3) := by kernel_rfl
instance iTy_4 : ApC Tryz.prog 29 87 3 24 := ⟨ap_Decs⟩
theorem ap_Cols : apS Tryz.prog 23 = some (72, 3, 48, 3) := by kernel_rfl
instance iTy_5 : ApC Tryz.prog 23 72 3 48 := ⟨ap_Cols⟩
theorem ag_Cut : agS Tryz.prog 34 = some 2 := by kernel_rfl
instance iTy_6 : AgC Tryz.prog 34 2 := ⟨ag_Cut⟩
theorem ag_Dec : agS Tryz.prog 87 = some 3 := by kernel_rfl
instance iTy_7 : AgC Tryz.prog 87 3 := ⟨ag_Dec⟩
theorem ag_Col : agS Tryz.prog 72 = some 3 := by kernel_rfl
instance iTy_8 : AgC Tryz.prog 72 3 := ⟨ag_Col⟩
theorem ag_Prices : agS Tryz.prog 31 = some 5 := by kernel_rfl
instance iTy_9 : AgC Tryz.prog 31 5 := ⟨ag_Prices⟩
theorem ag_Master : agS Tryz.prog 26 = some 5 := by kernel_rfl
instance iTy_10 : AgC Tryz.prog 26 5 := ⟨ag_Master⟩
theorem lf_ints : lfB Tryz.prog 22 = true := by kernel_rfl
instance iTy_11 : LfC Tryz.prog 22 := ⟨lf_ints⟩
theorem lf_Fracs : lfB Tryz.prog 28 = true := by kernel_rfl
instance iTy_12 : LfC Tryz.prog 28 := ⟨lf_Fracs⟩
theorem lf_Cuts : lfB Tryz.prog 24 = true := by kernel_rfl
instance iTy_13 : LfC Tryz.prog 24 := ⟨lf_Cuts⟩
theorem lf_Decs : lfB Tryz.prog 29 = true := by kernel_rfl
instance iTy_14 : LfC Tryz.prog 29 := ⟨lf_Decs⟩
theorem lf_Cols : lfB Tryz.prog 23 = true := by kernel_rfl
instance iTy_15 : LfC Tryz.prog 23 := ⟨lf_Cols⟩
theorem lf_Errno : lfB Tryz.prog 41 = true := by kernel_rfl
instance iTy_16 : LfC Tryz.prog 41 := ⟨lf_Errno⟩
theorem zc_Cut : zc Tryz.prog 34 = some #[.slice none 0 0, .int .i64 0] := by kernel_rfl
instance iTy_17 : ZcC Tryz.prog 34 #[.slice none 0 0, .int .i64 0] := ⟨zc_Cut⟩
theorem zc_Dec : zc Tryz.prog 87 = some #[.int .i64 0, .int .i64 0, .bool false] := by kernel_rfl
instance iTy_18 : ZcC Tryz.prog 87 #[.int .i64 0, .int .i64 0, .bool false] := ⟨zc_Dec⟩
theorem zc_Prices : zc Tryz.prog 31 = some #[.slice none 0 0, .slice none 0 0, .slice none 0 0, .slice none 0 0, .bool false] := by kernel_rfl
instance iTy_19 : ZcC Tryz.prog 31 #[.slice none 0 0, .slice none 0 0, .slice none 0 0, .slice none 0 0, .bool false] := ⟨zc_Prices⟩
theorem zc_Master : zc Tryz.prog 26 = some #[.int .i64 0, .slice none 0 0, .int .i64 0, .slice none 0 0, .slice none 0 0] := by kernel_rfl
instance iTy_20 : ZcC Tryz.prog 26 #[.int .i64 0, .slice none 0 0, .int .i64 0, .slice none 0 0, .slice none 0 0] := ⟨zc_Master⟩
theorem fd_Cut0 : fdS Tryz.prog 34 0 = some 0 := by kernel_rfl
instance iTy_21 : FdC Tryz.prog 34 0 0 := ⟨fd_Cut0⟩
theorem fd_Cut1 : fdS Tryz.prog 34 1 = some 1 := by kernel_rfl
instance iTy_22 : FdC Tryz.prog 34 1 1 := ⟨fd_Cut1⟩
theorem fd_Dec0 : fdS Tryz.prog 87 0 = some 0 := by kernel_rfl
instance iTy_23 : FdC Tryz.prog 87 0 0 := ⟨fd_Dec0⟩
theorem fd_Dec1 : fdS Tryz.prog 87 1 = some 1 := by kernel_rfl
instance iTy_24 : FdC Tryz.prog 87 1 1 := ⟨fd_Dec1⟩
theorem fd_Dec2 : fdS Tryz.prog 87 2 = some 2 := by kernel_rfl
instance iTy_25 : FdC Tryz.prog 87 2 2 := ⟨fd_Dec2⟩
theorem fd_Prices0 : fdS Tryz.prog 31 0 = some 0 := by kernel_rfl
instance iTy_26 : FdC Tryz.prog 31 0 0 := ⟨fd_Prices0⟩
theorem fd_Prices1 : fdS Tryz.prog 31 1 = some 1 := by kernel_rfl
instance iTy_27 : FdC Tryz.prog 31 1 1 := ⟨fd_Prices1⟩
theorem fd_Prices2 : fdS Tryz.prog 31 2 = some 2 := by kernel_rfl
instance iTy_28 : FdC Tryz.prog 31 2 2 := ⟨fd_Prices2⟩
theorem fd_Prices3 : fdS Tryz.prog 31 3 = some 3 := by kernel_rfl
instance iTy_29 : FdC Tryz.prog 31 3 3 := ⟨fd_Prices3⟩
theorem fd_Prices4 : fdS Tryz.prog 31 4 = some 4 := by kernel_rfl
instance iTy_30 : FdC Tryz.prog 31 4 4 := ⟨fd_Prices4⟩
theorem fd_Master0 : fdS Tryz.prog 26 0 = some 0 := by kernel_rfl
instance iTy_31 : FdC Tryz.prog 26 0 0 := ⟨fd_Master0⟩
theorem fd_Master1 : fdS Tryz.prog 26 1 = some 1 := by kernel_rfl
instance iTy_32 : FdC Tryz.prog 26 1 1 := ⟨fd_Master1⟩
theorem fd_Master2 : fdS Tryz.prog 26 2 = some 2 := by kernel_rfl
instance iTy_33 : FdC Tryz.prog 26 2 2 := ⟨fd_Master2⟩
theorem fd_Master3 : fdS Tryz.prog 26 3 = some 3 := by kernel_rfl
instance iTy_34 : FdC Tryz.prog 26 3 3 := ⟨fd_Master3⟩
theorem fd_Master4 : fdS Tryz.prog 26 4 = some 4 := by kernel_rfl
instance iTy_35 : FdC Tryz.prog 26 4 4 := ⟨fd_Master4⟩
theorem fd_Frac0 : fdS Tryz.prog 39 0 = some 0 := by kernel_rfl
instance iTy_36 : FdC Tryz.prog 39 0 0 := ⟨fd_Frac0⟩
theorem fd_Frac1 : fdS Tryz.prog 39 1 = some 2 := by kernel_rfl
instance iTy_37 : FdC Tryz.prog 39 1 2 := ⟨fd_Frac1⟩
theorem fd_Int0 : fdS Tryz.prog 37 0 = some 0 := by kernel_rfl
instance iTy_38 : FdC Tryz.prog 37 0 0 := ⟨fd_Int0⟩
theorem fd_Int1 : fdS Tryz.prog 37 1 = some 1 := by kernel_rfl
instance iTy_39 : FdC Tryz.prog 37 1 1 := ⟨fd_Int1⟩
end Go.Proofs.YtmhkmmmompediaaGreat

/- Contract of rational.Ceil where the negated numerator is not negative. -/
namespace Go.Proofs.YtmhkmmmompediaaGreat
open Go.RowKit

/-- What DivMod hands back. -/
def DMr (m : World) (v : Value) (x y : Int) : Prop := ∃ q r, v = .tuple #[q, r, .int .i64 0] ∧ IntC m q (x / y) ∧ IntC m r (x % y)
theorem DMr.le {m m' : World} {v : Value} {x y : Int} (h : DMr m v x y) (hb : Le m m') : DMr m' v x y := by
  obtain ⟨q, r, e, h1, h2⟩ := h
  exact ⟨q, r, e, h1.le hb, h2.le hb⟩
theorem i_DivModR (a b : Value) (x y : Int) (w m : World) (hV : Vw m w) (ha : IntV m a x) (hb : IntV m b y) (hx : x.natAbs < 18446744073709551616) (hy : y.natAbs < 18446744073709551616) (hy0 : 0 < y) (hxy : 0 ≤ x ∨ x % y = 0) :
    Calls Tryz.prog 146 #[a, b] w (RetV w m fun m' v => DMr m' v x y) := i_DivMod a b x y w m hV ha hb hx hy hy0 hxy

set_option maxRecDepth 100000 in
set_option maxHeartbeats 8000000 in
theorem q_Ceil (v : Value) (q : Rat) (w m : World) (hV : Vw m w) (h : FracC m v q) (hx : q.num.natAbs < 18446744073709551616) (hy : q.den < 18446744073709551616) (hq : 0 ≤ -q.num ∨ -q.num % (q.den : Int) = 0) :
    Calls Tryz.prog 88 #[v] w (RetV w m fun m' r => IntC m' r (cel q)) := by
  obtain ⟨g, A, n, c, g', B', n', c', rfl, h⟩ := h.lit
  have lx : (digs q.num.natAbs).length ≤ 1000 := Nat.le_trans (len2 hx) (by omega)
  have lx' : (digs (-q.num).natAbs).length ≤ 1000 := by rw [Int.natAbs_neg]; exact lx
  have ly : (digs (q.den : Int).natAbs).length ≤ 1000 := Nat.le_trans (len2 (by simpa using hy)) (by omega)
  have lq : (digs (-q.num / (q.den : Int)).natAbs).length ≤ 1000 := Nat.le_trans (length_digs_mono (Int.natAbs_ediv_le_natAbs _ _)) lx'
  have HX : Hid ((-q.num).natAbs < 18446744073709551616) := by show _ < _; rw [Int.natAbs_neg]; exact hx
  have HY : Hid ((q.den : Int).natAbs < 18446744073709551616) := by show _ < _; simpa using hy
  have HP : Hid ((0 : Int) < q.den) := by show _ < _; have := q.den_pos; omega
  have HQ := Lib.hid hq
  have E : Hid (cel q = -(-q.num / (q.den : Int))) := by show _ = _; simp [cel, flr, Rat.neg_num, Rat.neg_den]
  clear hx hy hq
  have hL := Loc.start hV
  clear hV
  go_enter Tryz.func88, Tryz.ntmps88
  go_wp2_with (first | ((with_reducible refine kAny ?_); go_skip) | ((first | ((with_reducible refine kLd ?_); first | refine t_loadW hL rfl rfl ?_ | refine t_load2 hL rfl rfl ?_ | refine t_load1 hL rfl rfl ?_) | ((with_reducible refine kSt ?_); ((first | refine t_store hL rfl rfl rfl ?_ | refine t_sts hL rfl rfl rfl ?_ | refine t_sti hL rfl rfl rfl ?_ | refine t_stb hL rfl rfl rfl ?_ | refine t_store1 hL rfl rfl rfl ?_); clear hL; intro _ hL; simp only [splice, zq1, zq2, zq3] at hL)) | ((with_reducible refine kBx ?_); (refine t_box hL rfl rfl ?_; clear hL; intro _ _ hL _)) | ((with_reducible refine kAl ?_); (refine t_alloc hL rfl ?_; clear hL; intro _ _ hL _))); simp only [Act.put, zq1, zq2, zq3]))
  refine (q_parts _ q _ _ hL.vw (h.le leX) ly).mono ?_
  rintro e W11 ⟨_, m11, rfl, hE, hM11, hV, va, vb, rfl, h1, h2⟩
  replace hL := hL.call hE (by assumption) hV; clear hE hV
  obtain ⟨g1, A1, n1, c1, rfl, h1⟩ := h1.lit
  obtain ⟨g2, A2, n2, c2, rfl, h2⟩ := h2.lit
  go_upto_region 2 with ((first | ((with_reducible refine kAny ?_); go_skip) | ((first | ((with_reducible refine kLd ?_); first | refine t_loadW hL rfl rfl ?_ | refine t_load2 hL rfl rfl ?_ | refine t_load1 hL rfl rfl ?_) | ((with_reducible refine kSt ?_); ((first | refine t_store hL rfl rfl rfl ?_ | refine t_sts hL rfl rfl rfl ?_ | refine t_sti hL rfl rfl rfl ?_ | refine t_stb hL rfl rfl rfl ?_ | refine t_store1 hL rfl rfl rfl ?_); clear hL; intro _ hL; simp only [splice, zq1, zq2, zq3] at hL)) | ((with_reducible refine kBx ?_); (refine t_box hL rfl rfl ?_; clear hL; intro _ _ hL _)) | ((with_reducible refine kAl ?_); (refine t_alloc hL rfl ?_; clear hL; intro _ _ hL _))); simp only [Act.put, zq1, zq2, zq3])))
  obtain ⟨B, hB1, hB2, hB3⟩ := hL.bound
  refine wp_region_by2 10 [false, false, false, false, false, false, false, false, true, true] [false, false, false, false, false, false, true, true, false, false] [(fun v _ _ => v = ?c2_0), Of (fun um v => IntC um v (-q.num)), (fun v _ _ => v = ?c2_2), Of (fun um v => DMr um v (-q.num) (q.den : Int)), Of (fun um v => DMr um v (-q.num) (q.den : Int)), Of (fun um v => IntC um v (-q.num / (q.den : Int))), Of (fun um v => IntC um v (-q.num % (q.den : Int))), Is (.int .i64 0), NewBlk B 37 #[.bool false, .slice none 0 0], NewBlk B 37 #[.bool false, .slice none 0 0]] hL.vw mixed [14, 15, 16, 17, 13, 18, 19, 20, 5, 6] _ (by kernel_rfl) (fun vs => by simp only [lay, Act.put, zq1, zq2, zq3]; rfl) (by kernel_rfl) (by decide) (by decide) ?s2 ?l2 ?r2
  case s2 =>
    refine ⟨?_, ?_, ?_, ?_, ?_, ?_, ?_, ?_, ?_, ?_, trivial⟩
    · intro vs W1 m1 hE hM hV hD
      clear hD
      replace hL := hL.call hE hM hV
      exact sLd
    · intro vs W1 m1 hE hM hV hD
      obtain ⟨⟨_, _, -, -, f14⟩, -⟩ := hD
      have f14 : vs 14 = _ := f14
      generalize vs 14 = x14 at f14 ⊢
      subst x14
      go_wp2_with fail
      refine (i_Negate _ q.num _ _ hV ((h1.toV lx).le leX)).mono ?_
      rintro e W2 ⟨v, m2, rfl, hE2, hM2, hV2, h⟩
      go_wp2_with fail
      refine One2.call hE2 hM2 hV2 ?_; first | exact h | exact rfl
    · intro vs W1 m1 hE hM hV hD
      clear hD
      replace hL := hL.call hE hM hV
      exact sLd
    · intro vs W1 m1 hE hM hV hD
      obtain ⟨⟨_, _, -, i15, f15⟩, ⟨_, _, -, -, f16⟩, -, -⟩ := hD
      have f16 : vs 16 = _ := f16
      generalize vs 16 = x16 at f16 ⊢
      subst x16
      have f15 : IntC _ (vs 15) (-q.num) := f15
      replace f15 := f15.le i15.le
      clear i15
      go_wp2_with fail
      refine (i_DivModR _ _ (-q.num) q.den _ _ hV (f15.toV lx') ((h2.toV ly).le leX) HX.out HY.out HP.out HQ.out).mono ?_
      rintro e W2 ⟨v, m2, rfl, hE2, hM2, hV2, h⟩
      go_wp2_with fail
      refine One2.call hE2 hM2 hV2 ?_; first | exact h | exact rfl
    · intro vs W1 m1 hE hM hV hD
      obtain ⟨⟨_, _, -, i17, f17⟩, -⟩ := hD
      have f17 : DMr _ (vs 17) (-q.num) (q.den : Int) := f17
      replace f17 := f17.le i17.le
      clear i17
      go_wp2_with fail
      refine One2.still hV ?_; exact f17
    · intro vs W1 m1 hE hM hV hD
      obtain ⟨⟨_, _, -, i13, f13⟩, -⟩ := hD
      have f13 : DMr _ (vs 13) (-q.num) (q.den : Int) := f13
      replace f13 := f13.le i13.le
      clear i13
      obtain ⟨q0, r0, e13, k1, k2⟩ := f13
      generalize vs 13 = x13 at e13 ⊢
      subst x13
      replace hL := hL.call hE hM hV
      go_wp2_with (first | ((with_reducible refine kAny ?_); go_skip) | ((first | ((with_reducible refine kLd ?_); first | refine t_loadW hL rfl rfl ?_ | refine t_load2 hL rfl rfl ?_ | refine t_load1 hL rfl rfl ?_) | ((with_reducible refine kSt ?_); ((first | refine t_store hL rfl rfl rfl ?_ | refine t_sts hL rfl rfl rfl ?_ | refine t_sti hL rfl rfl rfl ?_ | refine t_stb hL rfl rfl rfl ?_ | refine t_store1 hL rfl rfl rfl ?_); clear hL; intro _ hL; simp only [splice, zq1, zq2, zq3] at hL)) | ((with_reducible refine kBx ?_); (refine t_box hL rfl rfl ?_; clear hL; intro _ _ hL _)) | ((with_reducible refine kAl ?_); (refine t_alloc hL rfl ?_; clear hL; intro _ _ hL _))); simp only [Act.put, zq1, zq2, zq3]))
      refine One2.still hV ?_; exact k1
    · intro vs W1 m1 hE hM hV hD
      obtain ⟨⟨_, _, -, i13, f13⟩, -, -⟩ := hD
      have f13 : DMr _ (vs 13) (-q.num) (q.den : Int) := f13
      replace f13 := f13.le i13.le
      clear i13
      obtain ⟨q0, r0, e13, k1, k2⟩ := f13
      generalize vs 13 = x13 at e13 ⊢
      subst x13
      replace hL := hL.call hE hM hV
      go_wp2_with (first | ((with_reducible refine kAny ?_); go_skip) | ((first | ((with_reducible refine kLd ?_); first | refine t_loadW hL rfl rfl ?_ | refine t_load2 hL rfl rfl ?_ | refine t_load1 hL rfl rfl ?_) | ((with_reducible refine kSt ?_); ((first | refine t_store hL rfl rfl rfl ?_ | refine t_sts hL rfl rfl rfl ?_ | refine t_sti hL rfl rfl rfl ?_ | refine t_stb hL rfl rfl rfl ?_ | refine t_store1 hL rfl rfl rfl ?_); clear hL; intro _ hL; simp only [splice, zq1, zq2, zq3] at hL)) | ((with_reducible refine kBx ?_); (refine t_box hL rfl rfl ?_; clear hL; intro _ _ hL _)) | ((with_reducible refine kAl ?_); (refine t_alloc hL rfl ?_; clear hL; intro _ _ hL _))); simp only [Act.put, zq1, zq2, zq3]))
      refine One2.still hV ?_; exact k2
    · intro vs W1 m1 hE hM hV hD
      obtain ⟨⟨_, _, -, i13, f13⟩, -, -⟩ := hD
      have f13 : DMr _ (vs 13) (-q.num) (q.den : Int) := f13
      replace f13 := f13.le i13.le
      clear i13
      obtain ⟨q0, r0, e13, k1, k2⟩ := f13
      generalize vs 13 = x13 at e13 ⊢
      subst x13
      replace hL := hL.call hE hM hV
      go_wp2_with (first | ((with_reducible refine kAny ?_); go_skip) | ((first | ((with_reducible refine kLd ?_); first | refine t_loadW hL rfl rfl ?_ | refine t_load2 hL rfl rfl ?_ | refine t_load1 hL rfl rfl ?_) | ((with_reducible refine kSt ?_); ((first | refine t_store hL rfl rfl rfl ?_ | refine t_sts hL rfl rfl rfl ?_ | refine t_sti hL rfl rfl rfl ?_ | refine t_stb hL rfl rfl rfl ?_ | refine t_store1 hL rfl rfl rfl ?_); clear hL; intro _ hL; simp only [splice, zq1, zq2, zq3] at hL)) | ((with_reducible refine kBx ?_); (refine t_box hL rfl rfl ?_; clear hL; intro _ _ hL _)) | ((with_reducible refine kAl ?_); (refine t_alloc hL rfl ?_; clear hL; intro _ _ hL _))); simp only [Act.put, zq1, zq2, zq3]))
      refine One2.still hV ?_; exact rfl
    · intro vs W1 m1 hE hM hV hD
      clear hD
      exact one2_alloc hV (Nat.le_trans hB3 hE.size) rfl rfl rfl ZcC.h
    · intro vs W1 m1 hE hM hV hD
      clear hD
      exact one2_alloc hV (Nat.le_trans hB3 hE.size) rfl rfl rfl ZcC.h
  case l2 =>
    refine ⟨fun h => (by cases h), fun h => (by cases h), fun h => (by cases h), fun h => (by cases h), fun h => (by cases h), fun h => (by cases h), fun _ => ?_, fun _ => ?_, fun h => (by cases h), fun h => (by cases h), trivial⟩
    · intro vs W1 m1 hE hM hV hD
      obtain ⟨⟨_, _, -, i13, f13⟩, -, -⟩ := hD
      have f13 : DMr _ (vs 13) (-q.num) (q.den : Int) := f13
      replace f13 := f13.le i13.le
      clear i13
      obtain ⟨q0, r0, e13, k1, k2⟩ := f13
      generalize vs 13 = x13 at e13 ⊢
      subst x13
      exact ⟨_, Or.inl ⟨(by rfl), fun w => (by rfl)⟩, k2⟩
    · intro vs W1 m1 hE hM hV hD
      obtain ⟨⟨_, _, -, i13, f13⟩, -, -⟩ := hD
      have f13 : DMr _ (vs 13) (-q.num) (q.den : Int) := f13
      replace f13 := f13.le i13.le
      clear i13
      obtain ⟨q0, r0, e13, k1, k2⟩ := f13
      generalize vs 13 = x13 at e13 ⊢
      subst x13
      exact ⟨_, Or.inl ⟨(by rfl), fun w => (by rfl)⟩, rfl⟩
  intro vs W1 m1 hE hM hV hF hD
  obtain ⟨-, ⟨_, _, -, i15, f15⟩, -, ⟨_, _, -, i17, f17⟩, ⟨_, _, -, i13, f13⟩, ⟨_, _, -, i18, f18⟩, ⟨_, _, -, i19, f19⟩, ⟨_, _, -, -, f20⟩, ⟨_, _, j5, i5, f5⟩, ⟨_, _, j6, i6, f6⟩, -⟩ := hF
  replace hL := hL.call hE hM hV
  replace f15 : IntC _ (vs 15) (-q.num) := f15
  replace f15 := f15.le i15.le
  clear i15
  replace f17 : DMr _ (vs 17) (-q.num) (q.den : Int) := f17
  replace f17 := f17.le i17.le
  clear i17
  replace f13 : DMr _ (vs 13) (-q.num) (q.den : Int) := f13
  replace f13 := f13.le i13.le
  clear i13
  replace f18 : IntC _ (vs 18) (-q.num / (q.den : Int)) := f18
  replace f18 := f18.le i18.le
  clear i18
  obtain ⟨g18, A18, n18, c18, e18, f18⟩ := f18.lit
  generalize vs 18 = x18 at e18 ⊢
  subst x18
  replace f19 : IntC _ (vs 19) (-q.num % (q.den : Int)) := f19
  replace f19 := f19.le i19.le
  clear i19
  obtain ⟨g19, A19, n19, c19, e19, f19⟩ := f19.lit
  generalize vs 19 = x19 at e19 ⊢
  subst x19
  have f20 : vs 20 = _ := f20
  generalize vs 20 = x20 at f20 ⊢
  subst x20
  obtain ⟨b5, e5, hL⟩ := Loc.addB (Lt := []) hB1 hB2 hL f5 j5 i5 ad0
  obtain ⟨b6, e6, hL⟩ := Loc.addB (Lt := [_]) hB1 hB2 hL f6 j6 i6 (adS (by have h := hD 9 8 _ _ _ _ (by decide) (by decide) (by decide) rfl rfl rfl rfl rfl rfl; rw [e5] at h; exact h) ad0)
  simp only [e5, e6, List.cons_append, List.nil_append] at hL ⊢
  clear e5 f5 j5 i5 e6 f6 j6 i6
  clear hB1 hB2 hB3 hD
  clear hE hV
  simp only [List.drop_succ_cons, List.drop_zero]
  go_wp2_with (first | ((with_reducible refine kAny ?_); go_skip) | ((first | ((with_reducible refine kLd ?_); first | refine t_loadW hL rfl rfl ?_ | refine t_load2 hL rfl rfl ?_ | refine t_load1 hL rfl rfl ?_) | ((with_reducible refine kSt ?_); ((first | refine t_store hL rfl rfl rfl ?_ | refine t_sts hL rfl rfl rfl ?_ | refine t_sti hL rfl rfl rfl ?_ | refine t_stb hL rfl rfl rfl ?_ | refine t_store1 hL rfl rfl rfl ?_); clear hL; intro _ hL; simp only [splice, zq1, zq2, zq3] at hL)) | ((with_reducible refine kBx ?_); (refine t_box hL rfl rfl ?_; clear hL; intro _ _ hL _)) | ((with_reducible refine kAl ?_); (refine t_alloc hL rfl ?_; clear hL; intro _ _ hL _))); simp only [Act.put, zq1, zq2, zq3]))
  refine QN.mk ?_
  go_wp2_with (first | ((with_reducible refine kAny ?_); go_skip) | ((first | ((with_reducible refine kLd ?_); first | refine t_loadW hL rfl rfl ?_ | refine t_load2 hL rfl rfl ?_ | refine t_load1 hL rfl rfl ?_) | ((with_reducible refine kSt ?_); ((first | refine t_store hL rfl rfl rfl ?_ | refine t_sts hL rfl rfl rfl ?_ | refine t_sti hL rfl rfl rfl ?_ | refine t_stb hL rfl rfl rfl ?_ | refine t_store1 hL rfl rfl rfl ?_); clear hL; intro _ hL; simp only [splice, zq1, zq2, zq3] at hL)) | ((with_reducible refine kBx ?_); (refine t_box hL rfl rfl ?_; clear hL; intro _ _ hL _)) | ((with_reducible refine kAl ?_); (refine t_alloc hL rfl ?_; clear hL; intro _ _ hL _))); simp only [Act.put, zq1, zq2, zq3]))
  refine (i_Negate _ _ _ _ hL.vw ((f18.toV lq).le leX)).mono ?_
  rintro e W12 ⟨v12, m12, rfl, hE, hM12, hV, h12⟩
  replace hL := hL.call hE (by assumption) hV; clear hE hV
  obtain ⟨g12', A12', n12', c12', rfl, h12⟩ := h12.lit
  go_wp2_with (first | ((with_reducible refine kAny ?_); go_skip) | ((first | ((with_reducible refine kLd ?_); first | refine t_loadW hL rfl rfl ?_ | refine t_load2 hL rfl rfl ?_ | refine t_load1 hL rfl rfl ?_) | ((with_reducible refine kSt ?_); ((first | refine t_store hL rfl rfl rfl ?_ | refine t_sts hL rfl rfl rfl ?_ | refine t_sti hL rfl rfl rfl ?_ | refine t_stb hL rfl rfl rfl ?_ | refine t_store1 hL rfl rfl rfl ?_); clear hL; intro _ hL; simp only [splice, zq1, zq2, zq3] at hL)) | ((with_reducible refine kBx ?_); (refine t_box hL rfl rfl ?_; clear hL; intro _ _ hL _)) | ((with_reducible refine kAl ?_); (refine t_alloc hL rfl ?_; clear hL; intro _ _ hL _))); simp only [Act.put, zq1, zq2, zq3]))
  refine fin_agg hL Tryz.results88 rfl rfl loX AgC.h (by exact rfl) ?_
  rw [E.out]; exact h12
end Go.Proofs.YtmhkmmmompediaaGreat

/- Contracts of pairingref27.SameInts (equal lists). -/
namespace Go.Proofs.YtmhkmmmompediaaGreat
open Go.RowKit

def IsI (_ : World) (v : Value) (x : Int) : Prop := v = .int .i64 x
abbrev IntL := ListV (α := Int) 1 IsI
theorem IntL.le {m m' : World} {v : Value} {xs : List Int} (h : IntL m v xs) (hb : Le m m') : IntL m' v xs := ListV.le (fun _ _ _ _ h _ => h) h hb
theorem IntL.at_ {m : World} {A : Option Addr} {n c : Nat} {xs : List Int} (h : IntL m (.slice A n c) xs) {k : Nat} {x : Int} (hk : xs[k]? = some x) :
    ∃ b off, A = some ⟨b, off, none⟩ ∧ m.cell? ⟨b, off + k, none⟩ = some (.int .i64 x) := by
  obtain ⟨b, off, v, e, rfl, _, hr⟩ := ListV.at_ h (by omega) hk
  exact ⟨b, off, e, by simpa using hr 0 _ rfl⟩
theorem at_some {α : Type} {l : List α} {k n : Nat} (hn : Hid (l.length = n)) (hk : k < n) : ∃ x, l[k]? = some x := ⟨_, List.getElem?_eq_getElem (by rw [hn.out]; exact hk)⟩

set_option maxRecDepth 100000 in
set_option maxHeartbeats 8000000 in
theorem r_SameInts (a b : Value) (xs : List Int) (w m : World) (hV : Vw m w) (ha : IntL m a xs) (hb : IntL m b xs) (hl : xs.length ≤ 1000000) :
    Calls Tryz.prog 55 #[a, b] w (RetV w m fun _ r => r = .bool true) := by
  obtain ⟨A, c, rfl, hc, ha⟩ := ha.lit
  obtain ⟨B, d, rfl, hd, hb⟩ := hb.lit
  have hL := Loc.start hV
  clear hV
  generalize hn : xs.length = n at *
  have HN := Lib.hid hn
  clear hn
  have hnn : ((n : Int) != (n : Int)) = false := by simp
  go_enter Tryz.func55, Tryz.ntmps55
  go_wp2_with (first | ((with_reducible refine kAny ?_); go_skip) | ((first | ((with_reducible refine kIx ?_); (refine t_ixa rfl rfl rfl ?_; (try simp only [Nat.mul_one]))) | ((with_reducible refine kLd ?_); first | refine t_loadW hL rfl rfl ?_ | refine t_load2 hL rfl rfl ?_ | refine t_load1 hL rfl rfl ?_ | refine t_loadV hL.vw rfl rfl ?_ | refine t_loadV1 hL.vw rfl rfl ?_)); simp only [Act.put, zq1, zq2, zq3]))
  go_loopw [5] (fun i wr => ∃ (k : Nat) (mm : World), k ≤ n ∧ i = .int .i64 k ∧ Loc w m wr mm [] ∧ Ext m mm) (fun i _ => n - (intOf i).toNat)
  case atStart => exact ⟨0, m, Nat.zero_le _, rfl, hL, Ext.refl _⟩
  case round =>
    clear hL
    obtain ⟨k, mm, hk, rfl, hL, hM⟩ := hrel
    by_cases hlt : k < n
    · obtain ⟨x, hx⟩ := at_some HN hlt
      obtain ⟨b1, o1, rfl, hc1⟩ := IntL.at_ ha hx
      obtain ⟨b2, o2, rfl, hc2⟩ := IntL.at_ hb hx
      clear hx
      have hxx : ((x : Int) != (x : Int)) = false := by simp
      go_upto_region 6 with ((first | ((with_reducible refine kAny ?_); go_skip) | ((first | ((with_reducible refine kIx ?_); (refine t_ixa rfl rfl rfl ?_; (try simp only [Nat.mul_one]))) | ((with_reducible refine kLd ?_); first | refine t_loadW hL rfl rfl ?_ | refine t_load2 hL rfl rfl ?_ | refine t_load1 hL rfl rfl ?_ | refine t_loadV hL.vw rfl rfl ?_ | refine t_loadV1 hL.vw rfl rfl ?_)); simp only [Act.put, zq1, zq2, zq3])))
      (try simp only [eq_self] at *)
      refine wp_region_by2 9 [false, false, false, false, false, false, false, false, false] [false, false, false, false, false, false, false, false, false] [(fun v _ _ => v = ?c6_0), (fun v _ _ => v = ?c6_1), (fun v _ _ => v = ?c6_2), (fun v _ _ => v = ?c6_3), (fun v _ _ => v = ?c6_4), (fun v _ _ => v = ?c6_5), (fun v _ _ => v = ?c6_6), (fun v _ _ => v = ?c6_7), (fun v _ _ => v = ?c6_8)] hL.vw mixed [17, 18, 19, 20, 21, 22, 23, 24, 25] _ (by kernel_rfl) (fun vs => by simp only [lay, Act.put, zq1, zq2, zq3]; rfl) (by kernel_rfl) (by decide) (by decide) ?s6 ?l6 ?r6
      case s6 =>
        refine ⟨?_, ?_, ?_, ?_, ?_, ?_, ?_, ?_, ?_, trivial⟩
        · intro vs W1 m1 hE hM hV hD
          clear hD
          replace hL := hL.call hE hM hV
          exact sPu
        · intro vs W1 m1 hE hM hV hD
          clear hD
          replace hL := hL.call hE hM hV
          exact sPu
        · intro vs W1 m1 hE hM hV hD
          obtain ⟨⟨_, _, -, -, f17⟩, ⟨_, _, -, -, f18⟩, -⟩ := hD
          have f17 : vs 17 = _ := f17
          generalize vs 17 = x17 at f17 ⊢
          subst x17
          have f18 : vs 18 = _ := f18
          generalize vs 18 = x18 at f18 ⊢
          subst x18
          replace hL := hL.call hE hM hV
          exact sIx
        · intro vs W1 m1 hE hM hV hD
          obtain ⟨⟨_, _, -, -, f19⟩, -⟩ := hD
          have f19 : vs 19 = _ := f19
          generalize vs 19 = x19 at f19 ⊢
          subst x19
          replace hL := hL.call hE hM hV
          exact sLd
        · intro vs W1 m1 hE hM hV hD
          clear hD
          replace hL := hL.call hE hM hV
          exact sPu
        · intro vs W1 m1 hE hM hV hD
          clear hD
          replace hL := hL.call hE hM hV
          exact sPu
        · intro vs W1 m1 hE hM hV hD
          obtain ⟨⟨_, _, -, -, f21⟩, ⟨_, _, -, -, f22⟩, -⟩ := hD
          have f21 : vs 21 = _ := f21
          generalize vs 21 = x21 at f21 ⊢
          subst x21
          have f22 : vs 22 = _ := f22
          generalize vs 22 = x22 at f22 ⊢
          subst x22
          replace hL := hL.call hE hM hV
          exact sIx
        · intro vs W1 m1 hE hM hV hD
          obtain ⟨⟨_, _, -, -, f23⟩, -⟩ := hD
          have f23 : vs 23 = _ := f23
          generalize vs 23 = x23 at f23 ⊢
          subst x23
          replace hL := hL.call hE hM hV
          exact sLd
        · intro vs W1 m1 hE hM hV hD
          obtain ⟨⟨_, _, -, -, f20⟩, ⟨_, _, -, -, f24⟩, -⟩ := hD
          have f20 : vs 20 = _ := f20
          generalize vs 20 = x20 at f20 ⊢
          subst x20
          have f24 : vs 24 = _ := f24
          generalize vs 24 = x24 at f24 ⊢
          subst x24
          replace hL := hL.call hE hM hV
          exact sPu
      case l6 =>
        refine ⟨fun h => (by cases h), fun h => (by cases h), fun h => (by cases h), fun h => (by cases h), fun h => (by cases h), fun h => (by cases h), fun h => (by cases h), fun h => (by cases h), fun h => (by cases h), trivial⟩
      intro vs W1 m1 hE hM hV hF hD
      clear hD
      obtain ⟨⟨_, _, -, -, f17⟩, ⟨_, _, -, -, f18⟩, ⟨_, _, -, -, f19⟩, ⟨_, _, -, -, f20⟩, ⟨_, _, -, -, f21⟩, ⟨_, _, -, -, f22⟩, ⟨_, _, -, -, f23⟩, ⟨_, _, -, -, f24⟩, ⟨_, _, -, -, f25⟩, -⟩ := hF
      replace hL := hL.call hE hM hV
      have f17 : vs 17 = _ := f17
      generalize vs 17 = x17 at f17 ⊢
      subst x17
      have f18 : vs 18 = _ := f18
      generalize vs 18 = x18 at f18 ⊢
      subst x18
      have f19 : vs 19 = _ := f19
      generalize vs 19 = x19 at f19 ⊢
      subst x19
      have f20 : vs 20 = _ := f20
      generalize vs 20 = x20 at f20 ⊢
      subst x20
      have f21 : vs 21 = _ := f21
      generalize vs 21 = x21 at f21 ⊢
      subst x21
      have f22 : vs 22 = _ := f22
      generalize vs 22 = x22 at f22 ⊢
      subst x22
      have f23 : vs 23 = _ := f23
      generalize vs 23 = x23 at f23 ⊢
      subst x23
      have f24 : vs 24 = _ := f24
      generalize vs 24 = x24 at f24 ⊢
      subst x24
      have f25 : vs 25 = _ := f25
      generalize vs 25 = x25 at f25 ⊢
      subst x25
      clear hE hV
      simp only [List.drop_succ_cons, List.drop_zero]
      go_wp2_with (first | ((with_reducible refine kAny ?_); go_skip) | ((first | ((with_reducible refine kIx ?_); (refine t_ixa rfl rfl rfl ?_; (try simp only [Nat.mul_one]))) | ((with_reducible refine kLd ?_); first | refine t_loadW hL rfl rfl ?_ | refine t_load2 hL rfl rfl ?_ | refine t_load1 hL rfl rfl ?_ | refine t_loadV hL.vw rfl rfl ?_ | refine t_loadV1 hL.vw rfl rfl ?_)); simp only [Act.put, zq1, zq2, zq3]))
      refine QN.mk ?_
      go_wp2_with (first | ((with_reducible refine kAny ?_); go_skip) | ((first | ((with_reducible refine kIx ?_); (refine t_ixa rfl rfl rfl ?_; (try simp only [Nat.mul_one]))) | ((with_reducible refine kLd ?_); first | refine t_loadW hL rfl rfl ?_ | refine t_load2 hL rfl rfl ?_ | refine t_load1 hL rfl rfl ?_ | refine t_loadV hL.vw rfl rfl ?_ | refine t_loadV1 hL.vw rfl rfl ?_)); simp only [Act.put, zq1, zq2, zq3]))
      go_roundw
      case rel => exact ⟨k + 1, _, by omega, by go_num, hL, hL.mext⟩
      case measure => simp [intOf] <;> omega
    · go_wp2_with (first | ((with_reducible refine kAny ?_); go_skip) | ((first | ((with_reducible refine kIx ?_); (refine t_ixa rfl rfl rfl ?_; (try simp only [Nat.mul_one]))) | ((with_reducible refine kLd ?_); first | refine t_loadW hL rfl rfl ?_ | refine t_load2 hL rfl rfl ?_ | refine t_load1 hL rfl rfl ?_ | refine t_loadV hL.vw rfl rfl ?_ | refine t_loadV1 hL.vw rfl rfl ?_)); simp only [Act.put, zq1, zq2, zq3]))
      go_ret
      exact RetV.mk hL rfl
end Go.Proofs.YtmhkmmmompediaaGreat

/- Contract of pairingref25.SameList (equal lists). -/
namespace Go.Proofs.YtmhkmmmompediaaGreat
open Go.RowKit

abbrev FracL := ListV (α := Rat) 4 FracC
theorem FracL.le {m m' : World} {v : Value} {qs : List Rat} (h : FracL m v qs) (hb : Le m m') : FracL m' v qs := ListV.le (fun _ _ _ _ h hb => h.le hb) h hb
theorem FracL.at_ {m : World} {A : Option Addr} {n c : Nat} {qs : List Rat} (h : FracL m (.slice A n c) qs) {k : Nat} {q : Rat} (hk : qs[k]? = some q) :
    ∃ b off g A1 n1 c1 g' B k' d, A = some ⟨b, off, none⟩ ∧ FracC m (.agg #[.bool g, .slice A1 n1 c1, .bool g', .slice B k' d]) q ∧ m.rangeAt b (off + k * 4) [.bool g, .slice A1 n1 c1, .bool g', .slice B k' d] := by
  obtain ⟨b, off, v, e, hv, _, hr⟩ := ListV.at_ h (by omega) hk
  obtain ⟨g, A1, n1, c1, g', B, k', d, rfl, hv⟩ := hv.lit
  exact ⟨b, off, g, A1, n1, c1, g', B, k', d, e, hv, hr⟩

set_option maxRecDepth 100000 in
set_option maxHeartbeats 8000000 in
theorem r_SameList (a b : Value) (qs : List Rat) (w m : World) (hV : Vw m w) (ha : FracL m a qs) (hb : FracL m b qs) (hf : ∀ q ∈ qs, Fit 200 q) (hl : qs.length ≤ 1000000) :
    Calls Tryz.prog 91 #[a, b] w (RetV w m fun _ r => r = .bool true) := by
  obtain ⟨A, c, rfl, hc, ha⟩ := ha.lit
  obtain ⟨B, d, rfl, hd, hb⟩ := hb.lit
  have hL := Loc.start hV
  clear hV
  have HF := Lib.hid hf
  clear hf
  generalize hn : qs.length = n at *
  have HN := Lib.hid hn
  clear hn
  have hnn : ((n : Int) != (n : Int)) = false := by simp
  go_enter Tryz.func91, Tryz.ntmps91
  go_wp2_with (first | ((with_reducible refine kAny ?_); go_skip) | ((first | ((with_reducible refine kIx ?_); (refine t_ixa rfl rfl rfl ?_; (try simp only [Nat.mul_one]))) | ((with_reducible refine kLd ?_); first | refine t_loadW hL rfl rfl ?_ | refine t_load2 hL rfl rfl ?_ | refine t_load1 hL rfl rfl ?_ | refine t_loadV hL.vw rfl rfl ?_ | refine t_loadV1 hL.vw rfl rfl ?_)); simp only [Act.put, zq1, zq2, zq3]))
  go_loopw [5] (fun i wr => ∃ (k : Nat) (mm : World), k ≤ n ∧ i = .int .i64 k ∧ Loc w m wr mm [] ∧ Ext m mm) (fun i _ => n - (intOf i).toNat)
  case atStart => exact ⟨0, m, Nat.zero_le _, rfl, hL, Ext.refl _⟩
  case round =>
    clear hL
    obtain ⟨k, mm, hk, rfl, hL, hM⟩ := hrel
    by_cases hlt : k < n
    · obtain ⟨x, hx⟩ := at_some HN hlt
      obtain ⟨b1, o1, g1, A1, n1, c1, g1', B1, k1, d1, rfl, ha1, hr1⟩ := FracL.at_ ha hx
      obtain ⟨b2, o2, g2, A2, n2, c2, g2', B2, k2, d2, rfl, hb1, hr2⟩ := FracL.at_ hb hx
      have HX : Hid (Fit 200 x) := HF.out x (List.mem_of_getElem? hx)
      clear hx
      go_upto_region 6 with ((first | ((with_reducible refine kAny ?_); go_skip) | ((first | ((with_reducible refine kIx ?_); (refine t_ixa rfl rfl rfl ?_; (try simp only [Nat.mul_one]))) | ((with_reducible refine kLd ?_); first | refine t_loadW hL rfl rfl ?_ | refine t_load2 hL rfl rfl ?_ | refine t_load1 hL rfl rfl ?_ | refine t_loadV hL.vw rfl rfl ?_ | refine t_loadV1 hL.vw rfl rfl ?_)); simp only [Act.put, zq1, zq2, zq3])))
      (try simp only [eq_self] at *)
      refine wp_region_by2 10 [false, false, false, false, false, false, false, false, false, false] [false, false, false, false, false, false, false, false, false, false] [(fun v _ _ => v = ?c6_0), (fun v _ _ => v = ?c6_1), (fun v _ _ => v = ?c6_2), (fun v _ _ => v = ?c6_3), (fun v _ _ => v = ?c6_4), (fun v _ _ => v = ?c6_5), (fun v _ _ => v = ?c6_6), (fun v _ _ => v = ?c6_7), Is (.bool true), (fun v _ _ => v = ?c6_9)] hL.vw mixed [17, 18, 19, 20, 21, 22, 23, 24, 25, 26] _ (by kernel_rfl) (fun vs => by simp only [lay, Act.put, zq1, zq2, zq3]; rfl) (by kernel_rfl) (by decide) (by decide) ?s6 ?l6 ?r6
      case s6 =>
        refine ⟨?_, ?_, ?_, ?_, ?_, ?_, ?_, ?_, ?_, ?_, trivial⟩
        · intro vs W1 m1 hE hM hV hD
          clear hD
          replace hL := hL.call hE hM hV
          exact sPu
        · intro vs W1 m1 hE hM hV hD
          clear hD
          replace hL := hL.call hE hM hV
          exact sPu
        · intro vs W1 m1 hE hM hV hD
          obtain ⟨⟨_, _, -, -, f17⟩, ⟨_, _, -, -, f18⟩, -⟩ := hD
          have f17 : vs 17 = _ := f17
          generalize vs 17 = x17 at f17 ⊢
          subst x17
          have f18 : vs 18 = _ := f18
          generalize vs 18 = x18 at f18 ⊢
          subst x18
          replace hL := hL.call hE hM hV
          exact sIx
        · intro vs W1 m1 hE hM hV hD
          obtain ⟨⟨_, _, -, -, f19⟩, -⟩ := hD
          have f19 : vs 19 = _ := f19
          generalize vs 19 = x19 at f19 ⊢
          subst x19
          replace hL := hL.call hE hM hV
          exact sLd
        · intro vs W1 m1 hE hM hV hD
          clear hD
          replace hL := hL.call hE hM hV
          exact sPu
        · intro vs W1 m1 hE hM hV hD
          clear hD
          replace hL := hL.call hE hM hV
          exact sPu
        · intro vs W1 m1 hE hM hV hD
          obtain ⟨⟨_, _, -, -, f21⟩, ⟨_, _, -, -, f22⟩, -⟩ := hD
          have f21 : vs 21 = _ := f21
          generalize vs 21 = x21 at f21 ⊢
          subst x21
          have f22 : vs 22 = _ := f22
          generalize vs 22 = x22 at f22 ⊢
          subst x22
          replace hL := hL.call hE hM hV
          exact sIx
        · intro vs W1 m1 hE hM hV hD
          obtain ⟨⟨_, _, -, -, f23⟩, -⟩ := hD
          have f23 : vs 23 = _ := f23
          generalize vs 23 = x23 at f23 ⊢
          subst x23
          replace hL := hL.call hE hM hV
          exact sLd
        · intro vs W1 m1 hE hM hV hD
          obtain ⟨⟨_, _, -, -, f20⟩, ⟨_, _, -, -, f24⟩, -⟩ := hD
          have f20 : vs 20 = _ := f20
          generalize vs 20 = x20 at f20 ⊢
          subst x20
          have f24 : vs 24 = _ := f24
          generalize vs 24 = x24 at f24 ⊢
          subst x24
          go_wp2_with fail
          refine (r_Same _ _ x _ _ hV (ha1.le leX) (hb1.le leX) (HX.out.mono (by decide))).mono ?_
          rintro e W2 ⟨v, m2, rfl, hE2, hM2, hV2, h⟩
          go_wp2_with fail
          refine One2.call hE2 hM2 hV2 ?_; first | exact h | exact rfl
        · intro vs W1 m1 hE hM hV hD
          obtain ⟨⟨_, _, -, -, f25⟩, -⟩ := hD
          have f25 : vs 25 = _ := f25
          generalize vs 25 = x25 at f25 ⊢
          subst x25
          replace hL := hL.call hE hM hV
          exact sPu
      case l6 =>
        refine ⟨fun h => (by cases h), fun h => (by cases h), fun h => (by cases h), fun h => (by cases h), fun h => (by cases h), fun h => (by cases h), fun h => (by cases h), fun h => (by cases h), fun h => (by cases h), fun h => (by cases h), trivial⟩
      intro vs W1 m1 hE hM hV hF hD
      clear hD
      obtain ⟨⟨_, _, -, -, f17⟩, ⟨_, _, -, -, f18⟩, ⟨_, _, -, -, f19⟩, ⟨_, _, -, -, f20⟩, ⟨_, _, -, -, f21⟩, ⟨_, _, -, -, f22⟩, ⟨_, _, -, -, f23⟩, ⟨_, _, -, -, f24⟩, ⟨_, _, -, -, f25⟩, ⟨_, _, -, -, f26⟩, -⟩ := hF
      replace hL := hL.call hE hM hV
      have f17 : vs 17 = _ := f17
      generalize vs 17 = x17 at f17 ⊢
      subst x17
      have f18 : vs 18 = _ := f18
      generalize vs 18 = x18 at f18 ⊢
      subst x18
      have f19 : vs 19 = _ := f19
      generalize vs 19 = x19 at f19 ⊢
      subst x19
      have f20 : vs 20 = _ := f20
      generalize vs 20 = x20 at f20 ⊢
      subst x20
      have f21 : vs 21 = _ := f21
      generalize vs 21 = x21 at f21 ⊢
      subst x21
      have f22 : vs 22 = _ := f22
      generalize vs 22 = x22 at f22 ⊢
      subst x22
      have f23 : vs 23 = _ := f23
      generalize vs 23 = x23 at f23 ⊢
      subst x23
      have f24 : vs 24 = _ := f24
      generalize vs 24 = x24 at f24 ⊢
      subst x24
      have f25 : vs 25 = _ := f25
      generalize vs 25 = x25 at f25 ⊢
      subst x25
      have f26 : vs 26 = _ := f26
      generalize vs 26 = x26 at f26 ⊢
      subst x26
      clear hE hV
      simp only [List.drop_succ_cons, List.drop_zero]
      go_wp2_with (first | ((with_reducible refine kAny ?_); go_skip) | ((first | ((with_reducible refine kIx ?_); (refine t_ixa rfl rfl rfl ?_; (try simp only [Nat.mul_one]))) | ((with_reducible refine kLd ?_); first | refine t_loadW hL rfl rfl ?_ | refine t_load2 hL rfl rfl ?_ | refine t_load1 hL rfl rfl ?_ | refine t_loadV hL.vw rfl rfl ?_ | refine t_loadV1 hL.vw rfl rfl ?_)); simp only [Act.put, zq1, zq2, zq3]))
      refine QN.mk ?_
      go_wp2_with (first | ((with_reducible refine kAny ?_); go_skip) | ((first | ((with_reducible refine kIx ?_); (refine t_ixa rfl rfl rfl ?_; (try simp only [Nat.mul_one]))) | ((with_reducible refine kLd ?_); first | refine t_loadW hL rfl rfl ?_ | refine t_load2 hL rfl rfl ?_ | refine t_load1 hL rfl rfl ?_ | refine t_loadV hL.vw rfl rfl ?_ | refine t_loadV1 hL.vw rfl rfl ?_)); simp only [Act.put, zq1, zq2, zq3]))
      go_roundw
      case rel => exact ⟨k + 1, _, by omega, by go_num, hL, hL.mext⟩
      case measure => simp [intOf] <;> omega
    · go_wp2_with (first | ((with_reducible refine kAny ?_); go_skip) | ((first | ((with_reducible refine kIx ?_); (refine t_ixa rfl rfl rfl ?_; (try simp only [Nat.mul_one]))) | ((with_reducible refine kLd ?_); first | refine t_loadW hL rfl rfl ?_ | refine t_load2 hL rfl rfl ?_ | refine t_load1 hL rfl rfl ?_ | refine t_loadV hL.vw rfl rfl ?_ | refine t_loadV1 hL.vw rfl rfl ?_)); simp only [Act.put, zq1, zq2, zq3]))
      go_ret
      exact RetV.mk hL rfl
end Go.Proofs.YtmhkmmmompediaaGreat

/- Contracts of pairingref27.SameCuts (equal lists), SameDecisions. -/
namespace Go.Proofs.YtmhkmmmompediaaGreat
open Go.RowKit

abbrev Cut := List Int × Int
def CutR (m : World) (v : Value) (x : Cut) : Prop := ∃ s, v = .agg #[s, .int .i64 x.2] ∧ IntL m s x.1 ∧ x.1.length ≤ 1000000
abbrev CutL := ListV (α := Cut) 2 CutR
theorem CutR.le {m m' : World} {v : Value} {x : Cut} (h : CutR m v x) (hb : Le m m') : CutR m' v x := by
  obtain ⟨s, e, h, hl⟩ := h
  exact ⟨s, e, IntL.le h hb, hl⟩
theorem CutL.le {m m' : World} {v : Value} {xs : List Cut} (h : CutL m v xs) (hb : Le m m') : CutL m' v xs := ListV.le (fun _ _ _ _ h hb => h.le hb) h hb
theorem CutL.at_ {m : World} {A : Option Addr} {n c : Nat} {xs : List Cut} (h : CutL m (.slice A n c) xs) {k : Nat} {x : Cut} (hk : xs[k]? = some x) :
    ∃ b off A1 c1, A = some ⟨b, off, none⟩ ∧ IntL m (.slice A1 x.1.length c1) x.1 ∧ x.1.length ≤ 1000000 ∧ x.1.length ≤ c1 ∧ m.cell? ⟨b, off + k * 2, none⟩ = some (.slice A1 x.1.length c1) ∧ m.cell? ⟨b, off + k * 2 + 1, none⟩ = some (.int .i64 x.2) ∧
      m.rangeAt b (off + k * 2) [.slice A1 x.1.length c1, .int .i64 x.2] := by
  obtain ⟨b, off, v, e, ⟨s, rfl, hs, hl⟩, _, hr⟩ := ListV.at_ h (by omega) hk
  obtain ⟨A1, c1, rfl, hc1, hs⟩ := hs.lit
  exact ⟨b, off, A1, c1, e, hs, hl, hc1, by simpa using hr 0 _ rfl, hr 1 _ rfl, hr⟩

set_option maxRecDepth 100000 in
set_option maxHeartbeats 8000000 in
theorem r_SameCuts (a b : Value) (xs : List Cut) (w m : World) (hV : Vw m w) (ha : CutL m a xs) (hb : CutL m b xs) (hl : xs.length ≤ 1000000) :
    Calls Tryz.prog 41 #[a, b] w (RetV w m fun _ r => r = .bool true) := by
  obtain ⟨A, c, rfl, hc, ha⟩ := ha.lit
  obtain ⟨B, d, rfl, hd, hb⟩ := hb.lit
  have hL := Loc.start hV
  clear hV
  generalize hn : xs.length = n at *
  have HN := Lib.hid hn
  clear hn
  have hnn : ((n : Int) != (n : Int)) = false := by simp
  go_enter Tryz.func41, Tryz.ntmps41
  go_wp2_with (first | ((with_reducible refine kAny ?_); go_skip) | ((first | ((with_reducible refine kIx ?_); (refine t_ixa rfl rfl rfl ?_; (try simp only [Nat.mul_one]))) | ((with_reducible refine kFd ?_); first | refine t_fda0 rfl rfl ?_ | (refine t_fda rfl rfl ?_; (try simp only [Nat.zero_add, Nat.reduceAdd]))) | ((with_reducible refine kLd ?_); first | refine t_loadW hL rfl rfl ?_ | refine t_load2 hL rfl rfl ?_ | refine t_load1 hL rfl rfl ?_ | refine t_loadV hL.vw rfl rfl ?_ | refine t_loadV1 hL.vw rfl rfl ?_)); simp only [Act.put, zq1, zq2, zq3]))
  go_loopw [5] (fun i wr => ∃ (k : Nat) (mm : World), k ≤ n ∧ i = .int .i64 k ∧ Loc w m wr mm [] ∧ Ext m mm) (fun i _ => n - (intOf i).toNat)
  case atStart => exact ⟨0, m, Nat.zero_le _, rfl, hL, Ext.refl _⟩
  case round =>
    clear hL
    obtain ⟨k, mm, hk, rfl, hL, hM⟩ := hrel
    by_cases hlt : k < n
    · obtain ⟨⟨r, dv⟩, hx⟩ := at_some HN hlt
      obtain ⟨b1, o1, A1, c1, rfl, hs1, hl1, hc1, hp1, hq1, -⟩ := CutL.at_ ha hx
      obtain ⟨b2, o2, A2, c2, rfl, hs2, hl2, hc2, hp2, hq2, -⟩ := CutL.at_ hb hx
      clear hx
      simp only at hs1 hl1 hc1 hp1 hq1 hs2 hl2 hc2 hp2 hq2
      have hxx : (dv != dv) = false := by simp
      have hll := Lib.hid hl1
      clear hl1 hl2
      go_upto_region 6 with ((first | ((with_reducible refine kAny ?_); go_skip) | ((first | ((with_reducible refine kIx ?_); (refine t_ixa rfl rfl rfl ?_; (try simp only [Nat.mul_one]))) | ((with_reducible refine kFd ?_); first | refine t_fda0 rfl rfl ?_ | (refine t_fda rfl rfl ?_; (try simp only [Nat.zero_add, Nat.reduceAdd]))) | ((with_reducible refine kLd ?_); first | refine t_loadW hL rfl rfl ?_ | refine t_load2 hL rfl rfl ?_ | refine t_load1 hL rfl rfl ?_ | refine t_loadV hL.vw rfl rfl ?_ | refine t_loadV1 hL.vw rfl rfl ?_)); simp only [Act.put, zq1, zq2, zq3])))
      (try simp only [eq_self] at *)
      refine wp_region_by2 25 [false, false, false, false, false, false, false, false, false, false, false, false, false, false, false, false, false, false, false, false, false, false, false, false, false] [false, false, false, false, false, false, false, false, false, false, false, false, false, false, false, false, false, false, false, false, false, false, false, false, false] [(fun v _ _ => v = ?c6_0), (fun v _ _ => v = ?c6_1), (fun v _ _ => v = ?c6_2), (fun v _ _ => v = ?c6_3), (fun v _ _ => v = ?c6_4), (fun v _ _ => v = ?c6_5), (fun v _ _ => v = ?c6_6), (fun v _ _ => v = ?c6_7), (fun v _ _ => v = ?c6_8), (fun v _ _ => v = ?c6_9), (fun v _ _ => v = ?c6_10), (fun v _ _ => v = ?c6_11), (fun v _ _ => v = ?c6_12), (fun v _ _ => v = ?c6_13), (fun v _ _ => v = ?c6_14), (fun v _ _ => v = ?c6_15), (fun v _ _ => v = ?c6_16), (fun v _ _ => v = ?c6_17), (fun v _ _ => v = ?c6_18), (fun v _ _ => v = ?c6_19), (fun v _ _ => v = ?c6_20), (fun v _ _ => v = ?c6_21), Is (.bool true), (fun v _ _ => v = ?c6_23), (fun v _ _ => v = ?c6_24)] hL.vw mixed [17, 18, 19, 20, 21, 22, 23, 24, 25, 26, 27, 28, 29, 30, 31, 32, 33, 34, 35, 36, 37, 38, 39, 40, 41] _ (by kernel_rfl) (fun vs => by simp only [lay, Act.put, zq1, zq2, zq3]; rfl) (by kernel_rfl) (by decide) (by decide) ?s6 ?l6 ?r6
      case s6 =>
        refine ⟨?_, ?_, ?_, ?_, ?_, ?_, ?_, ?_, ?_, ?_, ?_, ?_, ?_, ?_, ?_, ?_, ?_, ?_, ?_, ?_, ?_, ?_, ?_, ?_, ?_, trivial⟩
        · intro vs W1 m1 hE hM hV hD
          clear hD
          replace hL := hL.call hE hM hV
          exact sPu
        · intro vs W1 m1 hE hM hV hD
          clear hD
          replace hL := hL.call hE hM hV
          exact sPu
        · intro vs W1 m1 hE hM hV hD
          obtain ⟨⟨_, _, -, -, f17⟩, ⟨_, _, -, -, f18⟩, -⟩ := hD
          have f17 : vs 17 = _ := f17
          generalize vs 17 = x17 at f17 ⊢
          subst x17
          have f18 : vs 18 = _ := f18
          generalize vs 18 = x18 at f18 ⊢
          subst x18
          replace hL := hL.call hE hM hV
          exact sIx
        · intro vs W1 m1 hE hM hV hD
          obtain ⟨⟨_, _, -, -, f19⟩, -⟩ := hD
          have f19 : vs 19 = _ := f19
          generalize vs 19 = x19 at f19 ⊢
          subst x19
          replace hL := hL.call hE hM hV
          exact sFd
        · intro vs W1 m1 hE hM hV hD
          obtain ⟨⟨_, _, -, -, f20⟩, -⟩ := hD
          have f20 : vs 20 = _ := f20
          generalize vs 20 = x20 at f20 ⊢
          subst x20
          replace hL := hL.call hE hM hV
          exact sLd
        · intro vs W1 m1 hE hM hV hD
          clear hD
          replace hL := hL.call hE hM hV
          exact sPu
        · intro vs W1 m1 hE hM hV hD
          clear hD
          replace hL := hL.call hE hM hV
          exact sPu
        · intro vs W1 m1 hE hM hV hD
          obtain ⟨⟨_, _, -, -, f22⟩, ⟨_, _, -, -, f23⟩, -⟩ := hD
          have f22 : vs 22 = _ := f22
          generalize vs 22 = x22 at f22 ⊢
          subst x22
          have f23 : vs 23 = _ := f23
          generalize vs 23 = x23 at f23 ⊢
          subst x23
          replace hL := hL.call hE hM hV
          exact sIx
        · intro vs W1 m1 hE hM hV hD
          obtain ⟨⟨_, _, -, -, f24⟩, -⟩ := hD
          have f24 : vs 24 = _ := f24
          generalize vs 24 = x24 at f24 ⊢
          subst x24
          replace hL := hL.call hE hM hV
          exact sFd
        · intro vs W1 m1 hE hM hV hD
          obtain ⟨⟨_, _, -, -, f25⟩, -⟩ := hD
          have f25 : vs 25 = _ := f25
          generalize vs 25 = x25 at f25 ⊢
          subst x25
          replace hL := hL.call hE hM hV
          exact sLd
        · intro vs W1 m1 hE hM hV hD
          obtain ⟨⟨_, _, -, -, f21⟩, ⟨_, _, -, -, f26⟩, -⟩ := hD
          have f21 : vs 21 = _ := f21
          generalize vs 21 = x21 at f21 ⊢
          subst x21
          have f26 : vs 26 = _ := f26
          generalize vs 26 = x26 at f26 ⊢
          subst x26
          replace hL := hL.call hE hM hV
          exact sPu
        · intro vs W1 m1 hE hM hV hD
          obtain ⟨⟨_, _, -, -, f27⟩, -⟩ := hD
          have f27 : vs 27 = _ := f27
          generalize vs 27 = x27 at f27 ⊢
          subst x27
          replace hL := hL.call hE hM hV
          exact sPu
        · intro vs W1 m1 hE hM hV hD
          obtain ⟨⟨_, _, -, -, f28⟩, -⟩ := hD
          have f28 : vs 28 = _ := f28
          generalize vs 28 = x28 at f28 ⊢
          subst x28
          replace hL := hL.call hE hM hV
          exact sPu
        · intro vs W1 m1 hE hM hV hD
          obtain ⟨⟨_, _, -, -, f28⟩, -⟩ := hD
          have f28 : vs 28 = _ := f28
          generalize vs 28 = x28 at f28 ⊢
          subst x28
          replace hL := hL.call hE hM hV
          exact sPu
        · intro vs W1 m1 hE hM hV hD
          obtain ⟨⟨_, _, -, -, f29⟩, ⟨_, _, -, -, f30⟩, ⟨_, _, -, -, f28⟩, -⟩ := hD
          have f29 : vs 29 = _ := f29
          generalize vs 29 = x29 at f29 ⊢
          subst x29
          have f30 : vs 30 = _ := f30
          generalize vs 30 = x30 at f30 ⊢
          subst x30
          have f28 : vs 28 = _ := f28
          generalize vs 28 = x28 at f28 ⊢
          subst x28
          replace hL := hL.call hE hM hV
          exact sIx
        · intro vs W1 m1 hE hM hV hD
          obtain ⟨⟨_, _, -, -, f31⟩, ⟨_, _, -, -, f28⟩, -⟩ := hD
          have f31 : vs 31 = _ := f31
          generalize vs 31 = x31 at f31 ⊢
          subst x31
          have f28 : vs 28 = _ := f28
          generalize vs 28 = x28 at f28 ⊢
          subst x28
          replace hL := hL.call hE hM hV
          exact sFd
        · intro vs W1 m1 hE hM hV hD
          obtain ⟨⟨_, _, -, -, f32⟩, ⟨_, _, -, -, f28⟩, -⟩ := hD
          have f32 : vs 32 = _ := f32
          generalize vs 32 = x32 at f32 ⊢
          subst x32
          have f28 : vs 28 = _ := f28
          generalize vs 28 = x28 at f28 ⊢
          subst x28
          replace hL := hL.call hE hM hV
          exact sLd
        · intro vs W1 m1 hE hM hV hD
          obtain ⟨⟨_, _, -, -, f28⟩, -⟩ := hD
          have f28 : vs 28 = _ := f28
          generalize vs 28 = x28 at f28 ⊢
          subst x28
          replace hL := hL.call hE hM hV
          exact sPu
        · intro vs W1 m1 hE hM hV hD
          obtain ⟨⟨_, _, -, -, f28⟩, -⟩ := hD
          have f28 : vs 28 = _ := f28
          generalize vs 28 = x28 at f28 ⊢
          subst x28
          replace hL := hL.call hE hM hV
          exact sPu
        · intro vs W1 m1 hE hM hV hD
          obtain ⟨⟨_, _, -, -, f34⟩, ⟨_, _, -, -, f35⟩, ⟨_, _, -, -, f28⟩, -⟩ := hD
          have f34 : vs 34 = _ := f34
          generalize vs 34 = x34 at f34 ⊢
          subst x34
          have f35 : vs 35 = _ := f35
          generalize vs 35 = x35 at f35 ⊢
          subst x35
          have f28 : vs 28 = _ := f28
          generalize vs 28 = x28 at f28 ⊢
          subst x28
          replace hL := hL.call hE hM hV
          exact sIx
        · intro vs W1 m1 hE hM hV hD
          obtain ⟨⟨_, _, -, -, f36⟩, ⟨_, _, -, -, f28⟩, -⟩ := hD
          have f36 : vs 36 = _ := f36
          generalize vs 36 = x36 at f36 ⊢
          subst x36
          have f28 : vs 28 = _ := f28
          generalize vs 28 = x28 at f28 ⊢
          subst x28
          replace hL := hL.call hE hM hV
          exact sFd
        · intro vs W1 m1 hE hM hV hD
          obtain ⟨⟨_, _, -, -, f37⟩, ⟨_, _, -, -, f28⟩, -⟩ := hD
          have f37 : vs 37 = _ := f37
          generalize vs 37 = x37 at f37 ⊢
          subst x37
          have f28 : vs 28 = _ := f28
          generalize vs 28 = x28 at f28 ⊢
          subst x28
          replace hL := hL.call hE hM hV
          exact sLd
        · intro vs W1 m1 hE hM hV hD
          obtain ⟨⟨_, _, -, -, f33⟩, ⟨_, _, -, -, f38⟩, ⟨_, _, -, -, f28⟩, -, -⟩ := hD
          have f33 : vs 33 = _ := f33
          generalize vs 33 = x33 at f33 ⊢
          subst x33
          have f38 : vs 38 = _ := f38
          generalize vs 38 = x38 at f38 ⊢
          subst x38
          have f28 : vs 28 = _ := f28
          generalize vs 28 = x28 at f28 ⊢
          subst x28
          go_wp2_with fail
          refine (r_SameInts _ _ r _ _ hV (IntL.le hs1 leX) (IntL.le hs2 leX) hll.out).mono ?_
          rintro e W2 ⟨v, m2, rfl, hE2, hM2, hV2, h⟩
          go_wp2_with fail
          refine One2.call hE2 hM2 hV2 ?_; first | exact h | exact rfl
        · intro vs W1 m1 hE hM hV hD
          obtain ⟨⟨_, _, -, -, f39⟩, ⟨_, _, -, -, f28⟩, -⟩ := hD
          have f39 : vs 39 = _ := f39
          generalize vs 39 = x39 at f39 ⊢
          subst x39
          have f28 : vs 28 = _ := f28
          generalize vs 28 = x28 at f28 ⊢
          subst x28
          replace hL := hL.call hE hM hV
          exact sPu
        · intro vs W1 m1 hE hM hV hD
          obtain ⟨⟨_, _, -, -, f28⟩, ⟨_, _, -, -, f40⟩, -⟩ := hD
          have f28 : vs 28 = _ := f28
          generalize vs 28 = x28 at f28 ⊢
          subst x28
          have f40 : vs 40 = _ := f40
          generalize vs 40 = x40 at f40 ⊢
          subst x40
          replace hL := hL.call hE hM hV
          exact sPu
      case l6 =>
        refine ⟨fun h => (by cases h), fun h => (by cases h), fun h => (by cases h), fun h => (by cases h), fun h => (by cases h), fun h => (by cases h), fun h => (by cases h), fun h => (by cases h), fun h => (by cases h), fun h => (by cases h), fun h => (by cases h), fun h => (by cases h), fun h => (by cases h), fun h => (by cases h), fun h => (by cases h), fun h => (by cases h), fun h => (by cases h), fun h => (by cases h), fun h => (by cases h), fun h => (by cases h), fun h => (by cases h), fun h => (by cases h), fun h => (by cases h), fun h => (by cases h), fun h => (by cases h), trivial⟩
      intro vs W1 m1 hE hM hV hF hD
      clear hD
      obtain ⟨⟨_, _, -, -, f17⟩, ⟨_, _, -, -, f18⟩, ⟨_, _, -, -, f19⟩, ⟨_, _, -, -, f20⟩, ⟨_, _, -, -, f21⟩, ⟨_, _, -, -, f22⟩, ⟨_, _, -, -, f23⟩, ⟨_, _, -, -, f24⟩, ⟨_, _, -, -, f25⟩, ⟨_, _, -, -, f26⟩, ⟨_, _, -, -, f27⟩, ⟨_, _, -, -, f28⟩, ⟨_, _, -, -, f29⟩, ⟨_, _, -, -, f30⟩, ⟨_, _, -, -, f31⟩, ⟨_, _, -, -, f32⟩, ⟨_, _, -, -, f33⟩, ⟨_, _, -, -, f34⟩, ⟨_, _, -, -, f35⟩, ⟨_, _, -, -, f36⟩, ⟨_, _, -, -, f37⟩, ⟨_, _, -, -, f38⟩, ⟨_, _, -, -, f39⟩, ⟨_, _, -, -, f40⟩, ⟨_, _, -, -, f41⟩, -⟩ := hF
      replace hL := hL.call hE hM hV
      have f17 : vs 17 = _ := f17
      generalize vs 17 = x17 at f17 ⊢
      subst x17
      have f18 : vs 18 = _ := f18
      generalize vs 18 = x18 at f18 ⊢
      subst x18
      have f19 : vs 19 = _ := f19
      generalize vs 19 = x19 at f19 ⊢
      subst x19
      have f20 : vs 20 = _ := f20
      generalize vs 20 = x20 at f20 ⊢
      subst x20
      have f21 : vs 21 = _ := f21
      generalize vs 21 = x21 at f21 ⊢
      subst x21
      have f22 : vs 22 = _ := f22
      generalize vs 22 = x22 at f22 ⊢
      subst x22
      have f23 : vs 23 = _ := f23
      generalize vs 23 = x23 at f23 ⊢
      subst x23
      have f24 : vs 24 = _ := f24
      generalize vs 24 = x24 at f24 ⊢
      subst x24
      have f25 : vs 25 = _ := f25
      generalize vs 25 = x25 at f25 ⊢
      subst x25
      have f26 : vs 26 = _ := f26
      generalize vs 26 = x26 at f26 ⊢
      subst x26
      have f27 : vs 27 = _ := f27
      generalize vs 27 = x27 at f27 ⊢
      subst x27
      have f28 : vs 28 = _ := f28
      generalize vs 28 = x28 at f28 ⊢
      subst x28
      have f29 : vs 29 = _ := f29
      generalize vs 29 = x29 at f29 ⊢
      subst x29
      have f30 : vs 30 = _ := f30
      generalize vs 30 = x30 at f30 ⊢
      subst x30
      have f31 : vs 31 = _ := f31
      generalize vs 31 = x31 at f31 ⊢
      subst x31
      have f32 : vs 32 = _ := f32
      generalize vs 32 = x32 at f32 ⊢
      subst x32
      have f33 : vs 33 = _ := f33
      generalize vs 33 = x33 at f33 ⊢
      subst x33
      have f34 : vs 34 = _ := f34
      generalize vs 34 = x34 at f34 ⊢
      subst x34
      have f35 : vs 35 = _ := f35
      generalize vs 35 = x35 at f35 ⊢
      subst x35
      have f36 : vs 36 = _ := f36
      generalize vs 36 = x36 at f36 ⊢
      subst x36
      have f37 : vs 37 = _ := f37
      generalize vs 37 = x37 at f37 ⊢
      subst x37
      have f38 : vs 38 = _ := f38
      generalize vs 38 = x38 at f38 ⊢
      subst x38
      have f39 : vs 39 = _ := f39
      generalize vs 39 = x39 at f39 ⊢
      subst x39
      have f40 : vs 40 = _ := f40
      generalize vs 40 = x40 at f40 ⊢
      subst x40
      have f41 : vs 41 = _ := f41
      generalize vs 41 = x41 at f41 ⊢
      subst x41
      clear hE hV
      simp only [List.drop_succ_cons, List.drop_zero]
      go_wp2_with (first | ((with_reducible refine kAny ?_); go_skip) | ((first | ((with_reducible refine kIx ?_); (refine t_ixa rfl rfl rfl ?_; (try simp only [Nat.mul_one]))) | ((with_reducible refine kFd ?_); first | refine t_fda0 rfl rfl ?_ | (refine t_fda rfl rfl ?_; (try simp only [Nat.zero_add, Nat.reduceAdd]))) | ((with_reducible refine kLd ?_); first | refine t_loadW hL rfl rfl ?_ | refine t_load2 hL rfl rfl ?_ | refine t_load1 hL rfl rfl ?_ | refine t_loadV hL.vw rfl rfl ?_ | refine t_loadV1 hL.vw rfl rfl ?_)); simp only [Act.put, zq1, zq2, zq3]))
      refine QN.mk ?_
      go_wp2_with (first | ((with_reducible refine kAny ?_); go_skip) | ((first | ((with_reducible refine kIx ?_); (refine t_ixa rfl rfl rfl ?_; (try simp only [Nat.mul_one]))) | ((with_reducible refine kFd ?_); first | refine t_fda0 rfl rfl ?_ | (refine t_fda rfl rfl ?_; (try simp only [Nat.zero_add, Nat.reduceAdd]))) | ((with_reducible refine kLd ?_); first | refine t_loadW hL rfl rfl ?_ | refine t_load2 hL rfl rfl ?_ | refine t_load1 hL rfl rfl ?_ | refine t_loadV hL.vw rfl rfl ?_ | refine t_loadV1 hL.vw rfl rfl ?_)); simp only [Act.put, zq1, zq2, zq3]))
      go_roundw
      case rel => exact ⟨k + 1, _, by omega, by go_num, hL, hL.mext⟩
      case measure => simp [intOf] <;> omega
    · go_wp2_with (first | ((with_reducible refine kAny ?_); go_skip) | ((first | ((with_reducible refine kIx ?_); (refine t_ixa rfl rfl rfl ?_; (try simp only [Nat.mul_one]))) | ((with_reducible refine kFd ?_); first | refine t_fda0 rfl rfl ?_ | (refine t_fda rfl rfl ?_; (try simp only [Nat.zero_add, Nat.reduceAdd]))) | ((with_reducible refine kLd ?_); first | refine t_loadW hL rfl rfl ?_ | refine t_load2 hL rfl rfl ?_ | refine t_load1 hL rfl rfl ?_ | refine t_loadV hL.vw rfl rfl ?_ | refine t_loadV1 hL.vw rfl rfl ?_)); simp only [Act.put, zq1, zq2, zq3]))
      go_ret
      exact RetV.mk hL rfl
end Go.Proofs.YtmhkmmmompediaaGreat

/- Contracts of pairingref27.SameDecisions, slices.Equal. -/
namespace Go.Proofs.YtmhkmmmompediaaGreat
open Go.RowKit

abbrev Dec := Int × Int × Bool
def DecR (_ : World) (v : Value) (x : Dec) : Prop := v = .agg #[.int .i64 x.1, .int .i64 x.2.1, .bool x.2.2]
abbrev DecL := ListV (α := Dec) 3 DecR
theorem DecL.le {m m' : World} {v : Value} {xs : List Dec} (h : DecL m v xs) (hb : Le m m') : DecL m' v xs := ListV.le (fun _ _ _ _ h _ => h) h hb
theorem DecL.at_ {m : World} {A : Option Addr} {n c : Nat} {xs : List Dec} (h : DecL m (.slice A n c) xs) {k : Nat} {x : Dec} (hk : xs[k]? = some x) :
    ∃ b off, A = some ⟨b, off, none⟩ ∧ m.rangeAt b (off + k * 3) [.int .i64 x.1, .int .i64 x.2.1, .bool x.2.2] := by
  obtain ⟨b, off, v, e, rfl, _, hr⟩ := ListV.at_ h (by omega) hk
  exact ⟨b, off, e, hr⟩
theorem lists_step {α : Type} {xs ys : List α} {k : Nat} {x y : α} (h : ∀ j, j < k → xs[j]? = ys[j]?) (hx : xs[k]? = some x) (hy : ys[k]? = some y) (e : x = y) : ∀ j, j < k + 1 → xs[j]? = ys[j]? := by
  intro j hj
  by_cases hjk : j = k
  · subst hjk; rw [hx, hy, e]
  · exact h j (by omega)
theorem lists_eq {α : Type} {xs ys : List α} {k n : Nat} (hx : xs.length = n) (hy : ys.length = n) (hk : ¬ k < n) (h : ∀ j, j < k → xs[j]? = ys[j]?) : xs = ys := by
  apply List.ext_getElem?
  intro j
  by_cases hj : j < k
  · exact h j hj
  · rw [List.getElem?_eq_none (by omega), List.getElem?_eq_none (by omega)]

theorem dec_hS : Tryz.prog.underlying 87 = some (.struct (Tryz.prog.fieldsOf 87)) := by kernel_rfl
theorem dec_hp : Tryz.prog.stoodInHeld 87 = false := by kernel_rfl
theorem dec_hg : Tryz.prog.eqGuardType Tryz.prog.depth 87 = false := by kernel_rfl
theorem dec_eq (x1 x2 y1 y2 : Int) (x3 y3 : Bool) (w : World) : (Op.equalIn 10000 87 (.agg #[.int .i64 x1, .int .i64 x2, .bool x3]) (.agg #[.int .i64 y1, .int .i64 y2, .bool y3])).run Tryz.prog w = .ok (decide ((x1, x2, x3) = (y1, y2, y3))) w := by
  rw [show (10000 : Nat) = 9999 + 1 from rfl, run_equalIn_agg w 9999 87 _ _ dec_hS dec_hp]
  simp only [Program.fieldsOf, Tryz.underlying87]
  go_simp
  by_cases h1 : x1 = y1 <;> by_cases h2 : x2 = y2 <;> cases x3 <;> cases y3 <;> simp [h1, h2]
theorem dec_neq {x1 x2 y1 y2 : Int} {x3 y3 : Bool} {b : Bool} (h : decide ((x1, x2, x3) = (y1, y2, y3)) = !b) (w : World) : (binOp .neq 87 (.agg #[.int .i64 x1, .int .i64 x2, .bool x3]) (.agg #[.int .i64 y1, .int .i64 y2, .bool y3])).run Tryz.prog w = .ok (.bool b) w := by
  rw [run_neq_struct, dec_eq, h]
  simp

set_option maxRecDepth 100000 in
set_option maxHeartbeats 8000000 in
theorem r_SameDecisions (a b : Value) (xs ys : List Dec) (w m : World) (hV : Vw m w) (ha : DecL m a xs) (hb : DecL m b ys) (hl : xs.length ≤ 1000000) (hl' : ys.length ≤ 1000000) :
    Calls Tryz.prog 59 #[a, b] w (RetV w m fun _ r => r = .bool (decide (xs = ys))) := by
  obtain ⟨A, c, rfl, hc, ha⟩ := ha.lit
  obtain ⟨B, d, rfl, hd, hb⟩ := hb.lit
  have hL := Loc.start hV
  clear hV
  by_cases hne : xs.length = ys.length
  · rw [← hne] at hd hb ⊢
    clear hl'
    have HN' : Hid (ys.length = xs.length) := hne.symm
    clear hne
    generalize hn : xs.length = n at *
    have HN := Lib.hid hn
    clear hn
    have hnn : ((n : Int) != (n : Int)) = false := by simp
    go_enter Tryz.func59, Tryz.ntmps59
    go_wp2_with (first | ((with_reducible refine kAny ?_); go_skip) | ((first | ((with_reducible refine kIx ?_); (refine t_ixa rfl rfl rfl ?_; (try simp only [Nat.mul_one]))) | ((with_reducible refine kLd ?_); first | refine t_loadW hL rfl rfl ?_ | refine t_load2 hL rfl rfl ?_ | refine t_load1 hL rfl rfl ?_ | refine t_loadV hL.vw rfl rfl ?_ | refine t_loadV1 hL.vw rfl rfl ?_)); simp only [Act.put, zq1, zq2, zq3]))
    go_loopw [5] (fun i wr => ∃ (k : Nat) (mm : World), k ≤ n ∧ i = .int .i64 k ∧ Loc w m wr mm [] ∧ Hid (∀ j, j < k → xs[j]? = ys[j]?)) (fun i _ => n - (intOf i).toNat)
    case atStart => exact ⟨0, m, Nat.zero_le _, rfl, hL, fun j hj => by omega⟩
    case round =>
      clear hL
      obtain ⟨k, mm, hk, rfl, hL, HJ⟩ := hrel
      have hM := hL.mext
      by_cases hlt : k < n
      · obtain ⟨⟨x1, x2, x3⟩, hx⟩ := at_some HN hlt
        obtain ⟨⟨y1, y2, y3⟩, hy⟩ := at_some HN' hlt
        obtain ⟨b1, o1, rfl, hr1⟩ := DecL.at_ ha hx
        obtain ⟨b2, o2, rfl, hr2⟩ := DecL.at_ hb hy
        have HX := Lib.hid hx
        have HY := Lib.hid hy
        clear hx hy
        simp only at hr1 hr2
        have q2 : ∀ w x y xs ys, (eqGuard .neq 87 x y (.agg xs) (.agg ys)).run Tryz.prog w = .ok () w := fun w x y xs ys => run_eqGuard_agg w _ _ _ _ _ _ dec_hg
        by_cases he : (x1, x2, x3) = (y1, y2, y3)
        · have q1 := fun w => dec_neq (b := false) (decide_eq_true he) w
          have HE := Lib.hid he
          clear he
          go_upto_region 6 with ((first | ((with_reducible refine kAny ?_); go_skip) | ((first | ((with_reducible refine kIx ?_); (refine t_ixa rfl rfl rfl ?_; (try simp only [Nat.mul_one]))) | ((with_reducible refine kLd ?_); first | refine t_loadW hL rfl rfl ?_ | refine t_load2 hL rfl rfl ?_ | refine t_load1 hL rfl rfl ?_ | refine t_loadV hL.vw rfl rfl ?_ | refine t_loadV1 hL.vw rfl rfl ?_)); simp only [Act.put, zq1, zq2, zq3])))
          (try simp only [eq_self] at *)
          refine wp_region_by2 9 [false, false, false, false, false, false, false, false, false] [false, false, false, false, false, false, false, false, false] [(fun v _ _ => v = ?c6_0), (fun v _ _ => v = ?c6_1), (fun v _ _ => v = ?c6_2), (fun v _ _ => v = ?c6_3), (fun v _ _ => v = ?c6_4), (fun v _ _ => v = ?c6_5), (fun v _ _ => v = ?c6_6), (fun v _ _ => v = ?c6_7), (fun v _ _ => v = ?c6_8)] hL.vw mixed [17, 18, 19, 20, 21, 22, 23, 24, 25] _ (by kernel_rfl) (fun vs => by simp only [lay, Act.put, zq1, zq2, zq3]; rfl) (by kernel_rfl) (by decide) (by decide) ?s6 ?l6 ?r6
          case s6 =>
            refine ⟨?_, ?_, ?_, ?_, ?_, ?_, ?_, ?_, ?_, trivial⟩
            · intro vs W1 m1 hE hM hV hD
              clear hD
              replace hL := hL.call hE hM hV
              exact sPu
            · intro vs W1 m1 hE hM hV hD
              clear hD
              replace hL := hL.call hE hM hV
              exact sPu
            · intro vs W1 m1 hE hM hV hD
              obtain ⟨⟨_, _, -, -, f17⟩, ⟨_, _, -, -, f18⟩, -⟩ := hD
              have f17 : vs 17 = _ := f17
              generalize vs 17 = x17 at f17 ⊢
              subst x17
              have f18 : vs 18 = _ := f18
              generalize vs 18 = x18 at f18 ⊢
              subst x18
              replace hL := hL.call hE hM hV
              exact sIx
            · intro vs W1 m1 hE hM hV hD
              obtain ⟨⟨_, _, -, -, f19⟩, -⟩ := hD
              have f19 : vs 19 = _ := f19
              generalize vs 19 = x19 at f19 ⊢
              subst x19
              replace hL := hL.call hE hM hV
              exact sLd
            · intro vs W1 m1 hE hM hV hD
              clear hD
              replace hL := hL.call hE hM hV
              exact sPu
            · intro vs W1 m1 hE hM hV hD
              clear hD
              replace hL := hL.call hE hM hV
              exact sPu
            · intro vs W1 m1 hE hM hV hD
              obtain ⟨⟨_, _, -, -, f21⟩, ⟨_, _, -, -, f22⟩, -⟩ := hD
              have f21 : vs 21 = _ := f21
              generalize vs 21 = x21 at f21 ⊢
              subst x21
              have f22 : vs 22 = _ := f22
              generalize vs 22 = x22 at f22 ⊢
              subst x22
              replace hL := hL.call hE hM hV
              exact sIx
            · intro vs W1 m1 hE hM hV hD
              obtain ⟨⟨_, _, -, -, f23⟩, -⟩ := hD
              have f23 : vs 23 = _ := f23
              generalize vs 23 = x23 at f23 ⊢
              subst x23
              replace hL := hL.call hE hM hV
              exact sLd
            · intro vs W1 m1 hE hM hV hD
              obtain ⟨⟨_, _, -, -, f20⟩, ⟨_, _, -, -, f24⟩, -⟩ := hD
              have f20 : vs 20 = _ := f20
              generalize vs 20 = x20 at f20 ⊢
              subst x20
              have f24 : vs 24 = _ := f24
              generalize vs 24 = x24 at f24 ⊢
              subst x24
              replace hL := hL.call hE hM hV
              exact sPu
          case l6 =>
            refine ⟨fun h => (by cases h), fun h => (by cases h), fun h => (by cases h), fun h => (by cases h), fun h => (by cases h), fun h => (by cases h), fun h => (by cases h), fun h => (by cases h), fun h => (by cases h), trivial⟩
          intro vs W1 m1 hE hM hV hF hD
          clear hD
          obtain ⟨⟨_, _, -, -, f17⟩, ⟨_, _, -, -, f18⟩, ⟨_, _, -, -, f19⟩, ⟨_, _, -, -, f20⟩, ⟨_, _, -, -, f21⟩, ⟨_, _, -, -, f22⟩, ⟨_, _, -, -, f23⟩, ⟨_, _, -, -, f24⟩, ⟨_, _, -, -, f25⟩, -⟩ := hF
          replace hL := hL.call hE hM hV
          have f17 : vs 17 = _ := f17
          generalize vs 17 = x17 at f17 ⊢
          subst x17
          have f18 : vs 18 = _ := f18
          generalize vs 18 = x18 at f18 ⊢
          subst x18
          have f19 : vs 19 = _ := f19
          generalize vs 19 = x19 at f19 ⊢
          subst x19
          have f20 : vs 20 = _ := f20
          generalize vs 20 = x20 at f20 ⊢
          subst x20
          have f21 : vs 21 = _ := f21
          generalize vs 21 = x21 at f21 ⊢
          subst x21
          have f22 : vs 22 = _ := f22
          generalize vs 22 = x22 at f22 ⊢
          subst x22
          have f23 : vs 23 = _ := f23
          generalize vs 23 = x23 at f23 ⊢
          subst x23
          have f24 : vs 24 = _ := f24
          generalize vs 24 = x24 at f24 ⊢
          subst x24
          have f25 : vs 25 = _ := f25
          generalize vs 25 = x25 at f25 ⊢
          subst x25
          clear hE hV
          simp only [List.drop_succ_cons, List.drop_zero]
          go_wp2_with (first | ((with_reducible refine kAny ?_); go_skip) | ((first | ((with_reducible refine kIx ?_); (refine t_ixa rfl rfl rfl ?_; (try simp only [Nat.mul_one]))) | ((with_reducible refine kLd ?_); first | refine t_loadW hL rfl rfl ?_ | refine t_load2 hL rfl rfl ?_ | refine t_load1 hL rfl rfl ?_ | refine t_loadV hL.vw rfl rfl ?_ | refine t_loadV1 hL.vw rfl rfl ?_)); simp only [Act.put, zq1, zq2, zq3]))
          refine QN.mk ?_
          go_wp2_with (first | ((with_reducible refine kAny ?_); go_skip) | ((first | ((with_reducible refine kIx ?_); (refine t_ixa rfl rfl rfl ?_; (try simp only [Nat.mul_one]))) | ((with_reducible refine kLd ?_); first | refine t_loadW hL rfl rfl ?_ | refine t_load2 hL rfl rfl ?_ | refine t_load1 hL rfl rfl ?_ | refine t_loadV hL.vw rfl rfl ?_ | refine t_loadV1 hL.vw rfl rfl ?_)); simp only [Act.put, zq1, zq2, zq3]))
          go_roundw
          case rel => exact ⟨k + 1, _, by omega, by go_num, hL, lists_step HJ.out HX.out HY.out HE.out⟩
          case measure => simp [intOf] <;> omega
        · have q1 := fun w => dec_neq (b := true) (decide_eq_false he) w
          have E : Hid (decide (xs = ys) = false) := by
            show _ = _
            exact decide_eq_false fun h => he (Option.some.inj (by rw [← HX.out, ← HY.out, h]))
          clear he
          go_upto_region 6 with ((first | ((with_reducible refine kAny ?_); go_skip) | ((first | ((with_reducible refine kIx ?_); (refine t_ixa rfl rfl rfl ?_; (try simp only [Nat.mul_one]))) | ((with_reducible refine kLd ?_); first | refine t_loadW hL rfl rfl ?_ | refine t_load2 hL rfl rfl ?_ | refine t_load1 hL rfl rfl ?_ | refine t_loadV hL.vw rfl rfl ?_ | refine t_loadV1 hL.vw rfl rfl ?_)); simp only [Act.put, zq1, zq2, zq3])))
          (try simp only [eq_self] at *)
          refine wp_region_by2 9 [false, false, false, false, false, false, false, false, false] [false, false, false, false, false, false, false, false, false] [(fun v _ _ => v = ?c6_0b), (fun v _ _ => v = ?c6_1b), (fun v _ _ => v = ?c6_2b), (fun v _ _ => v = ?c6_3b), (fun v _ _ => v = ?c6_4b), (fun v _ _ => v = ?c6_5b), (fun v _ _ => v = ?c6_6b), (fun v _ _ => v = ?c6_7b), (fun v _ _ => v = ?c6_8b)] hL.vw mixed [17, 18, 19, 20, 21, 22, 23, 24, 25] _ (by kernel_rfl) (fun vs => by simp only [lay, Act.put, zq1, zq2, zq3]; rfl) (by kernel_rfl) (by decide) (by decide) ?s6b ?l6b ?r6b
          case s6b =>
            refine ⟨?_, ?_, ?_, ?_, ?_, ?_, ?_, ?_, ?_, trivial⟩
            · intro vs W1 m1 hE hM hV hD
              clear hD
              replace hL := hL.call hE hM hV
              exact sPu
            · intro vs W1 m1 hE hM hV hD
              clear hD
              replace hL := hL.call hE hM hV
              exact sPu
            · intro vs W1 m1 hE hM hV hD
              obtain ⟨⟨_, _, -, -, f17⟩, ⟨_, _, -, -, f18⟩, -⟩ := hD
              have f17 : vs 17 = _ := f17
              generalize vs 17 = x17 at f17 ⊢
              subst x17
              have f18 : vs 18 = _ := f18
              generalize vs 18 = x18 at f18 ⊢
              subst x18
              replace hL := hL.call hE hM hV
              exact sIx
            · intro vs W1 m1 hE hM hV hD
              obtain ⟨⟨_, _, -, -, f19⟩, -⟩ := hD
              have f19 : vs 19 = _ := f19
              generalize vs 19 = x19 at f19 ⊢
              subst x19
              replace hL := hL.call hE hM hV
              exact sLd
            · intro vs W1 m1 hE hM hV hD
              clear hD
              replace hL := hL.call hE hM hV
              exact sPu
            · intro vs W1 m1 hE hM hV hD
              clear hD
              replace hL := hL.call hE hM hV
              exact sPu
            · intro vs W1 m1 hE hM hV hD
              obtain ⟨⟨_, _, -, -, f21⟩, ⟨_, _, -, -, f22⟩, -⟩ := hD
              have f21 : vs 21 = _ := f21
              generalize vs 21 = x21 at f21 ⊢
              subst x21
              have f22 : vs 22 = _ := f22
              generalize vs 22 = x22 at f22 ⊢
              subst x22
              replace hL := hL.call hE hM hV
              exact sIx
            · intro vs W1 m1 hE hM hV hD
              obtain ⟨⟨_, _, -, -, f23⟩, -⟩ := hD
              have f23 : vs 23 = _ := f23
              generalize vs 23 = x23 at f23 ⊢
              subst x23
              replace hL := hL.call hE hM hV
              exact sLd
            · intro vs W1 m1 hE hM hV hD
              obtain ⟨⟨_, _, -, -, f20⟩, ⟨_, _, -, -, f24⟩, -⟩ := hD
              have f20 : vs 20 = _ := f20
              generalize vs 20 = x20 at f20 ⊢
              subst x20
              have f24 : vs 24 = _ := f24
              generalize vs 24 = x24 at f24 ⊢
              subst x24
              replace hL := hL.call hE hM hV
              exact sPu
          case l6b =>
            refine ⟨fun h => (by cases h), fun h => (by cases h), fun h => (by cases h), fun h => (by cases h), fun h => (by cases h), fun h => (by cases h), fun h => (by cases h), fun h => (by cases h), fun h => (by cases h), trivial⟩
          intro vs W1 m1 hE hM hV hF hD
          clear hD
          obtain ⟨⟨_, _, -, -, f17⟩, ⟨_, _, -, -, f18⟩, ⟨_, _, -, -, f19⟩, ⟨_, _, -, -, f20⟩, ⟨_, _, -, -, f21⟩, ⟨_, _, -, -, f22⟩, ⟨_, _, -, -, f23⟩, ⟨_, _, -, -, f24⟩, ⟨_, _, -, -, f25⟩, -⟩ := hF
          replace hL := hL.call hE hM hV
          have f17 : vs 17 = _ := f17
          generalize vs 17 = x17 at f17 ⊢
          subst x17
          have f18 : vs 18 = _ := f18
          generalize vs 18 = x18 at f18 ⊢
          subst x18
          have f19 : vs 19 = _ := f19
          generalize vs 19 = x19 at f19 ⊢
          subst x19
          have f20 : vs 20 = _ := f20
          generalize vs 20 = x20 at f20 ⊢
          subst x20
          have f21 : vs 21 = _ := f21
          generalize vs 21 = x21 at f21 ⊢
          subst x21
          have f22 : vs 22 = _ := f22
          generalize vs 22 = x22 at f22 ⊢
          subst x22
          have f23 : vs 23 = _ := f23
          generalize vs 23 = x23 at f23 ⊢
          subst x23
          have f24 : vs 24 = _ := f24
          generalize vs 24 = x24 at f24 ⊢
          subst x24
          have f25 : vs 25 = _ := f25
          generalize vs 25 = x25 at f25 ⊢
          subst x25
          clear hE hV
          simp only [List.drop_succ_cons, List.drop_zero]
          go_wp2_with (first | ((with_reducible refine kAny ?_); go_skip) | ((first | ((with_reducible refine kIx ?_); (refine t_ixa rfl rfl rfl ?_; (try simp only [Nat.mul_one]))) | ((with_reducible refine kLd ?_); first | refine t_loadW hL rfl rfl ?_ | refine t_load2 hL rfl rfl ?_ | refine t_load1 hL rfl rfl ?_ | refine t_loadV hL.vw rfl rfl ?_ | refine t_loadV1 hL.vw rfl rfl ?_)); simp only [Act.put, zq1, zq2, zq3]))
          refine QN.mk ?_
          go_wp2_with (first | ((with_reducible refine kAny ?_); go_skip) | ((first | ((with_reducible refine kIx ?_); (refine t_ixa rfl rfl rfl ?_; (try simp only [Nat.mul_one]))) | ((with_reducible refine kLd ?_); first | refine t_loadW hL rfl rfl ?_ | refine t_load2 hL rfl rfl ?_ | refine t_load1 hL rfl rfl ?_ | refine t_loadV hL.vw rfl rfl ?_ | refine t_loadV1 hL.vw rfl rfl ?_)); simp only [Act.put, zq1, zq2, zq3]))
          go_ret
          exact RetV.mk hL (congrArg Value.bool E.out.symm)
      · have E : Hid (decide (xs = ys) = true) := by show _ = _; exact decide_eq_true (lists_eq HN.out HN'.out hlt HJ.out)
        go_wp2_with (first | ((with_reducible refine kAny ?_); go_skip) | ((first | ((with_reducible refine kIx ?_); (refine t_ixa rfl rfl rfl ?_; (try simp only [Nat.mul_one]))) | ((with_reducible refine kLd ?_); first | refine t_loadW hL rfl rfl ?_ | refine t_load2 hL rfl rfl ?_ | refine t_load1 hL rfl rfl ?_ | refine t_loadV hL.vw rfl rfl ?_ | refine t_loadV1 hL.vw rfl rfl ?_)); simp only [Act.put, zq1, zq2, zq3]))
        go_ret
        exact RetV.mk hL (congrArg Value.bool E.out.symm)
  · have E : Hid (decide (xs = ys) = false) := by show _ = _; exact decide_eq_false (fun h => hne (by rw [h]))
    have hnn : ((xs.length : Int) != (ys.length : Int)) = true := by simp; omega
    generalize xs.length = n1 at *
    generalize ys.length = n2 at *
    clear hne
    go_enter Tryz.func59, Tryz.ntmps59
    go_wp2_with (first | ((with_reducible refine kAny ?_); go_skip) | ((first | ((with_reducible refine kIx ?_); (refine t_ixa rfl rfl rfl ?_; (try simp only [Nat.mul_one]))) | ((with_reducible refine kLd ?_); first | refine t_loadW hL rfl rfl ?_ | refine t_load2 hL rfl rfl ?_ | refine t_load1 hL rfl rfl ?_ | refine t_loadV hL.vw rfl rfl ?_ | refine t_loadV1 hL.vw rfl rfl ?_)); simp only [Act.put, zq1, zq2, zq3]))
    go_ret
    exact RetV.mk hL (congrArg Value.bool E.out.symm)
end Go.Proofs.YtmhkmmmompediaaGreat

/- Contracts of slices.Equal. -/
namespace Go.Proofs.YtmhkmmmompediaaGreat
open Go.RowKit

set_option maxRecDepth 100000 in
set_option maxHeartbeats 8000000 in
theorem s_EqualInts (a b : Value) (xs : List Int) (w m : World) (hV : Vw m w) (ha : IntL m a xs) (hb : IntL m b xs) (hl : xs.length ≤ 1000000) :
    Calls Tryz.prog 151 #[a, b] w (RetV w m fun _ r => r = .bool true) := by
  obtain ⟨A, c, rfl, hc, ha⟩ := ha.lit
  obtain ⟨B, d, rfl, hd, hb⟩ := hb.lit
  have hL := Loc.start hV
  clear hV
  generalize hn : xs.length = n at *
  have HN := Lib.hid hn
  clear hn
  have hnn : ((n : Int) != (n : Int)) = false := by simp
  go_enter Tryz.func151, Tryz.ntmps151
  go_wp2_with (first | ((with_reducible refine kAny ?_); go_skip) | ((first | ((with_reducible refine kIx ?_); (refine t_ixa rfl rfl rfl ?_; (try simp only [Nat.mul_one]))) | ((with_reducible refine kLd ?_); first | refine t_loadW hL rfl rfl ?_ | refine t_load2 hL rfl rfl ?_ | refine t_load1 hL rfl rfl ?_ | refine t_loadV hL.vw rfl rfl ?_ | refine t_loadV1 hL.vw rfl rfl ?_)); simp only [Act.put, zq1, zq2, zq3]))
  go_loopw [13] (fun i wr => ∃ (k : Nat) (mm : World), k ≤ n ∧ i = .int .i64 k ∧ Loc w m wr mm [] ∧ Ext m mm) (fun i _ => n - (intOf i).toNat)
  case atStart => exact ⟨0, m, Nat.zero_le _, rfl, hL, Ext.refl _⟩
  case round =>
    clear hL
    obtain ⟨k, mm, hk, rfl, hL, hM⟩ := hrel
    by_cases hlt : k < n
    · obtain ⟨x, hx⟩ := at_some HN hlt
      obtain ⟨b1, o1, rfl, hc1⟩ := IntL.at_ ha hx
      obtain ⟨b2, o2, rfl, hc2⟩ := IntL.at_ hb hx
      clear hx
      have hxx : ((x : Int) != (x : Int)) = false := by simp
      go_upto_region 6 with ((first | ((with_reducible refine kAny ?_); go_skip) | ((first | ((with_reducible refine kIx ?_); (refine t_ixa rfl rfl rfl ?_; (try simp only [Nat.mul_one]))) | ((with_reducible refine kLd ?_); first | refine t_loadW hL rfl rfl ?_ | refine t_load2 hL rfl rfl ?_ | refine t_load1 hL rfl rfl ?_ | refine t_loadV hL.vw rfl rfl ?_ | refine t_loadV1 hL.vw rfl rfl ?_)); simp only [Act.put, zq1, zq2, zq3])))
      (try simp only [eq_self] at *)
      refine wp_region_by2 9 [false, false, false, false, false, false, false, false, false] [false, false, false, false, false, false, false, false, false] [(fun v _ _ => v = ?c6_0), (fun v _ _ => v = ?c6_1), (fun v _ _ => v = ?c6_2), (fun v _ _ => v = ?c6_3), (fun v _ _ => v = ?c6_4), (fun v _ _ => v = ?c6_5), (fun v _ _ => v = ?c6_6), (fun v _ _ => v = ?c6_7), (fun v _ _ => v = ?c6_8)] hL.vw mixed [16, 17, 18, 19, 20, 21, 22, 23, 24] _ (by kernel_rfl) (fun vs => by simp only [lay, Act.put, zq1, zq2, zq3]; rfl) (by kernel_rfl) (by decide) (by decide) ?s6 ?l6 ?r6
      case s6 =>
        refine ⟨?_, ?_, ?_, ?_, ?_, ?_, ?_, ?_, ?_, trivial⟩
        · intro vs W1 m1 hE hM hV hD
          clear hD
          replace hL := hL.call hE hM hV
          exact sPu
        · intro vs W1 m1 hE hM hV hD
          clear hD
          replace hL := hL.call hE hM hV
          exact sPu
        · intro vs W1 m1 hE hM hV hD
          obtain ⟨⟨_, _, -, -, f16⟩, ⟨_, _, -, -, f17⟩, -⟩ := hD
          have f16 : vs 16 = _ := f16
          generalize vs 16 = x16 at f16 ⊢
          subst x16
          have f17 : vs 17 = _ := f17
          generalize vs 17 = x17 at f17 ⊢
          subst x17
          replace hL := hL.call hE hM hV
          exact sIx
        · intro vs W1 m1 hE hM hV hD
          obtain ⟨⟨_, _, -, -, f18⟩, -⟩ := hD
          have f18 : vs 18 = _ := f18
          generalize vs 18 = x18 at f18 ⊢
          subst x18
          replace hL := hL.call hE hM hV
          exact sLd
        · intro vs W1 m1 hE hM hV hD
          clear hD
          replace hL := hL.call hE hM hV
          exact sPu
        · intro vs W1 m1 hE hM hV hD
          clear hD
          replace hL := hL.call hE hM hV
          exact sPu
        · intro vs W1 m1 hE hM hV hD
          obtain ⟨⟨_, _, -, -, f20⟩, ⟨_, _, -, -, f21⟩, -⟩ := hD
          have f20 : vs 20 = _ := f20
          generalize vs 20 = x20 at f20 ⊢
          subst x20
          have f21 : vs 21 = _ := f21
          generalize vs 21 = x21 at f21 ⊢
          subst x21
          replace hL := hL.call hE hM hV
          exact sIx
        · intro vs W1 m1 hE hM hV hD
          obtain ⟨⟨_, _, -, -, f22⟩, -⟩ := hD
          have f22 : vs 22 = _ := f22
          generalize vs 22 = x22 at f22 ⊢
          subst x22
          replace hL := hL.call hE hM hV
          exact sLd
        · intro vs W1 m1 hE hM hV hD
          obtain ⟨⟨_, _, -, -, f19⟩, ⟨_, _, -, -, f23⟩, -⟩ := hD
          have f19 : vs 19 = _ := f19
          generalize vs 19 = x19 at f19 ⊢
          subst x19
          have f23 : vs 23 = _ := f23
          generalize vs 23 = x23 at f23 ⊢
          subst x23
          replace hL := hL.call hE hM hV
          exact sPu
      case l6 =>
        refine ⟨fun h => (by cases h), fun h => (by cases h), fun h => (by cases h), fun h => (by cases h), fun h => (by cases h), fun h => (by cases h), fun h => (by cases h), fun h => (by cases h), fun h => (by cases h), trivial⟩
      intro vs W1 m1 hE hM hV hF hD
      clear hD
      obtain ⟨⟨_, _, -, -, f16⟩, ⟨_, _, -, -, f17⟩, ⟨_, _, -, -, f18⟩, ⟨_, _, -, -, f19⟩, ⟨_, _, -, -, f20⟩, ⟨_, _, -, -, f21⟩, ⟨_, _, -, -, f22⟩, ⟨_, _, -, -, f23⟩, ⟨_, _, -, -, f24⟩, -⟩ := hF
      replace hL := hL.call hE hM hV
      have f16 : vs 16 = _ := f16
      generalize vs 16 = x16 at f16 ⊢
      subst x16
      have f17 : vs 17 = _ := f17
      generalize vs 17 = x17 at f17 ⊢
      subst x17
      have f18 : vs 18 = _ := f18
      generalize vs 18 = x18 at f18 ⊢
      subst x18
      have f19 : vs 19 = _ := f19
      generalize vs 19 = x19 at f19 ⊢
      subst x19
      have f20 : vs 20 = _ := f20
      generalize vs 20 = x20 at f20 ⊢
      subst x20
      have f21 : vs 21 = _ := f21
      generalize vs 21 = x21 at f21 ⊢
      subst x21
      have f22 : vs 22 = _ := f22
      generalize vs 22 = x22 at f22 ⊢
      subst x22
      have f23 : vs 23 = _ := f23
      generalize vs 23 = x23 at f23 ⊢
      subst x23
      have f24 : vs 24 = _ := f24
      generalize vs 24 = x24 at f24 ⊢
      subst x24
      clear hE hV
      simp only [List.drop_succ_cons, List.drop_zero]
      go_wp2_with (first | ((with_reducible refine kAny ?_); go_skip) | ((first | ((with_reducible refine kIx ?_); (refine t_ixa rfl rfl rfl ?_; (try simp only [Nat.mul_one]))) | ((with_reducible refine kLd ?_); first | refine t_loadW hL rfl rfl ?_ | refine t_load2 hL rfl rfl ?_ | refine t_load1 hL rfl rfl ?_ | refine t_loadV hL.vw rfl rfl ?_ | refine t_loadV1 hL.vw rfl rfl ?_)); simp only [Act.put, zq1, zq2, zq3]))
      refine QN.mk ?_
      go_wp2_with (first | ((with_reducible refine kAny ?_); go_skip) | ((first | ((with_reducible refine kIx ?_); (refine t_ixa rfl rfl rfl ?_; (try simp only [Nat.mul_one]))) | ((with_reducible refine kLd ?_); first | refine t_loadW hL rfl rfl ?_ | refine t_load2 hL rfl rfl ?_ | refine t_load1 hL rfl rfl ?_ | refine t_loadV hL.vw rfl rfl ?_ | refine t_loadV1 hL.vw rfl rfl ?_)); simp only [Act.put, zq1, zq2, zq3]))
      go_roundw
      case rel => exact ⟨k + 1, _, by omega, by go_num, hL, hL.mext⟩
      case measure => simp [intOf] <;> omega
    · go_wp2_with (first | ((with_reducible refine kAny ?_); go_skip) | ((first | ((with_reducible refine kIx ?_); (refine t_ixa rfl rfl rfl ?_; (try simp only [Nat.mul_one]))) | ((with_reducible refine kLd ?_); first | refine t_loadW hL rfl rfl ?_ | refine t_load2 hL rfl rfl ?_ | refine t_load1 hL rfl rfl ?_ | refine t_loadV hL.vw rfl rfl ?_ | refine t_loadV1 hL.vw rfl rfl ?_)); simp only [Act.put, zq1, zq2, zq3]))
      go_ret
      exact RetV.mk hL rfl

set_option maxRecDepth 100000 in
set_option maxHeartbeats 8000000 in
theorem s_EqualDecs (a b : Value) (xs ys : List Dec) (w m : World) (hV : Vw m w) (ha : DecL m a xs) (hb : DecL m b ys) (hl : xs.length ≤ 1000000) (hl' : ys.length ≤ 1000000) :
    Calls Tryz.prog 93 #[a, b] w (RetV w m fun _ r => r = .bool (decide (xs = ys))) := by
  obtain ⟨A, c, rfl, hc, ha⟩ := ha.lit
  obtain ⟨B, d, rfl, hd, hb⟩ := hb.lit
  have hL := Loc.start hV
  clear hV
  by_cases hne : xs.length = ys.length
  · rw [← hne] at hd hb ⊢
    clear hl'
    have HN' : Hid (ys.length = xs.length) := hne.symm
    clear hne
    generalize hn : xs.length = n at *
    have HN := Lib.hid hn
    clear hn
    have hnn : ((n : Int) != (n : Int)) = false := by simp
    go_enter Tryz.func93, Tryz.ntmps93
    go_wp2_with (first | ((with_reducible refine kAny ?_); go_skip) | ((first | ((with_reducible refine kIx ?_); (refine t_ixa rfl rfl rfl ?_; (try simp only [Nat.mul_one]))) | ((with_reducible refine kLd ?_); first | refine t_loadW hL rfl rfl ?_ | refine t_load2 hL rfl rfl ?_ | refine t_load1 hL rfl rfl ?_ | refine t_loadV hL.vw rfl rfl ?_ | refine t_loadV1 hL.vw rfl rfl ?_)); simp only [Act.put, zq1, zq2, zq3]))
    go_loopw [13] (fun i wr => ∃ (k : Nat) (mm : World), k ≤ n ∧ i = .int .i64 k ∧ Loc w m wr mm [] ∧ Hid (∀ j, j < k → xs[j]? = ys[j]?)) (fun i _ => n - (intOf i).toNat)
    case atStart => exact ⟨0, m, Nat.zero_le _, rfl, hL, fun j hj => by omega⟩
    case round =>
      clear hL
      obtain ⟨k, mm, hk, rfl, hL, HJ⟩ := hrel
      have hM := hL.mext
      by_cases hlt : k < n
      · obtain ⟨⟨x1, x2, x3⟩, hx⟩ := at_some HN hlt
        obtain ⟨⟨y1, y2, y3⟩, hy⟩ := at_some HN' hlt
        obtain ⟨b1, o1, rfl, hr1⟩ := DecL.at_ ha hx
        obtain ⟨b2, o2, rfl, hr2⟩ := DecL.at_ hb hy
        have HX := Lib.hid hx
        have HY := Lib.hid hy
        clear hx hy
        simp only at hr1 hr2
        have q2 : ∀ w x y xs ys, (eqGuard .neq 87 x y (.agg xs) (.agg ys)).run Tryz.prog w = .ok () w := fun w x y xs ys => run_eqGuard_agg w _ _ _ _ _ _ dec_hg
        by_cases he : (x1, x2, x3) = (y1, y2, y3)
        · have q1 := fun w => dec_neq (b := false) (decide_eq_true he) w
          have HE := Lib.hid he
          clear he
          go_upto_region 6 with ((first | ((with_reducible refine kAny ?_); go_skip) | ((first | ((with_reducible refine kIx ?_); (refine t_ixa rfl rfl rfl ?_; (try simp only [Nat.mul_one]))) | ((with_reducible refine kLd ?_); first | refine t_loadW hL rfl rfl ?_ | refine t_load2 hL rfl rfl ?_ | refine t_load1 hL rfl rfl ?_ | refine t_loadV hL.vw rfl rfl ?_ | refine t_loadV1 hL.vw rfl rfl ?_)); simp only [Act.put, zq1, zq2, zq3])))
          (try simp only [eq_self] at *)
          refine wp_region_by2 9 [false, false, false, false, false, false, false, false, false] [false, false, false, false, false, false, false, false, false] [(fun v _ _ => v = ?c6_0), (fun v _ _ => v = ?c6_1), (fun v _ _ => v = ?c6_2), (fun v _ _ => v = ?c6_3), (fun v _ _ => v = ?c6_4), (fun v _ _ => v = ?c6_5), (fun v _ _ => v = ?c6_6), (fun v _ _ => v = ?c6_7), (fun v _ _ => v = ?c6_8)] hL.vw mixed [16, 17, 18, 19, 20, 21, 22, 23, 24] _ (by kernel_rfl) (fun vs => by simp only [lay, Act.put, zq1, zq2, zq3]; rfl) (by kernel_rfl) (by decide) (by decide) ?s6 ?l6 ?r6
          case s6 =>
            refine ⟨?_, ?_, ?_, ?_, ?_, ?_, ?_, ?_, ?_, trivial⟩
            · intro vs W1 m1 hE hM hV hD
              clear hD
              replace hL := hL.call hE hM hV
              exact sPu
            · intro vs W1 m1 hE hM hV hD
              clear hD
              replace hL := hL.call hE hM hV
              exact sPu
            · intro vs W1 m1 hE hM hV hD
              obtain ⟨⟨_, _, -, -, f16⟩, ⟨_, _, -, -, f17⟩, -⟩ := hD
              have f16 : vs 16 = _ := f16
              generalize vs 16 = x16 at f16 ⊢
              subst x16
              have f17 : vs 17 = _ := f17
              generalize vs 17 = x17 at f17 ⊢
              subst x17
              replace hL := hL.call hE hM hV
              exact sIx
            · intro vs W1 m1 hE hM hV hD
              obtain ⟨⟨_, _, -, -, f18⟩, -⟩ := hD
              have f18 : vs 18 = _ := f18
              generalize vs 18 = x18 at f18 ⊢
              subst x18
              replace hL := hL.call hE hM hV
              exact sLd
            · intro vs W1 m1 hE hM hV hD
              clear hD
              replace hL := hL.call hE hM hV
              exact sPu
            · intro vs W1 m1 hE hM hV hD
              clear hD
              replace hL := hL.call hE hM hV
              exact sPu
            · intro vs W1 m1 hE hM hV hD
              obtain ⟨⟨_, _, -, -, f20⟩, ⟨_, _, -, -, f21⟩, -⟩ := hD
              have f20 : vs 20 = _ := f20
              generalize vs 20 = x20 at f20 ⊢
              subst x20
              have f21 : vs 21 = _ := f21
              generalize vs 21 = x21 at f21 ⊢
              subst x21
              replace hL := hL.call hE hM hV
              exact sIx
            · intro vs W1 m1 hE hM hV hD
              obtain ⟨⟨_, _, -, -, f22⟩, -⟩ := hD
              have f22 : vs 22 = _ := f22
              generalize vs 22 = x22 at f22 ⊢
              subst x22
              replace hL := hL.call hE hM hV
              exact sLd
            · intro vs W1 m1 hE hM hV hD
              obtain ⟨⟨_, _, -, -, f19⟩, ⟨_, _, -, -, f23⟩, -⟩ := hD
              have f19 : vs 19 = _ := f19
              generalize vs 19 = x19 at f19 ⊢
              subst x19
              have f23 : vs 23 = _ := f23
              generalize vs 23 = x23 at f23 ⊢
              subst x23
              replace hL := hL.call hE hM hV
              exact sPu
          case l6 =>
            refine ⟨fun h => (by cases h), fun h => (by cases h), fun h => (by cases h), fun h => (by cases h), fun h => (by cases h), fun h => (by cases h), fun h => (by cases h), fun h => (by cases h), fun h => (by cases h), trivial⟩
          intro vs W1 m1 hE hM hV hF hD
          clear hD
          obtain ⟨⟨_, _, -, -, f16⟩, ⟨_, _, -, -, f17⟩, ⟨_, _, -, -, f18⟩, ⟨_, _, -, -, f19⟩, ⟨_, _, -, -, f20⟩, ⟨_, _, -, -, f21⟩, ⟨_, _, -, -, f22⟩, ⟨_, _, -, -, f23⟩, ⟨_, _, -, -, f24⟩, -⟩ := hF
          replace hL := hL.call hE hM hV
          have f16 : vs 16 = _ := f16
          generalize vs 16 = x16 at f16 ⊢
          subst x16
          have f17 : vs 17 = _ := f17
          generalize vs 17 = x17 at f17 ⊢
          subst x17
          have f18 : vs 18 = _ := f18
          generalize vs 18 = x18 at f18 ⊢
          subst x18
          have f19 : vs 19 = _ := f19
          generalize vs 19 = x19 at f19 ⊢
          subst x19
          have f20 : vs 20 = _ := f20
          generalize vs 20 = x20 at f20 ⊢
          subst x20
          have f21 : vs 21 = _ := f21
          generalize vs 21 = x21 at f21 ⊢
          subst x21
          have f22 : vs 22 = _ := f22
          generalize vs 22 = x22 at f22 ⊢
          subst x22
          have f23 : vs 23 = _ := f23
          generalize vs 23 = x23 at f23 ⊢
          subst x23
          have f24 : vs 24 = _ := f24
          generalize vs 24 = x24 at f24 ⊢
          subst x24
          clear hE hV
          simp only [List.drop_succ_cons, List.drop_zero]
          go_wp2_with (first | ((with_reducible refine kAny ?_); go_skip) | ((first | ((with_reducible refine kIx ?_); (refine t_ixa rfl rfl rfl ?_; (try simp only [Nat.mul_one]))) | ((with_reducible refine kLd ?_); first | refine t_loadW hL rfl rfl ?_ | refine t_load2 hL rfl rfl ?_ | refine t_load1 hL rfl rfl ?_ | refine t_loadV hL.vw rfl rfl ?_ | refine t_loadV1 hL.vw rfl rfl ?_)); simp only [Act.put, zq1, zq2, zq3]))
          refine QN.mk ?_
          go_wp2_with (first | ((with_reducible refine kAny ?_); go_skip) | ((first | ((with_reducible refine kIx ?_); (refine t_ixa rfl rfl rfl ?_; (try simp only [Nat.mul_one]))) | ((with_reducible refine kLd ?_); first | refine t_loadW hL rfl rfl ?_ | refine t_load2 hL rfl rfl ?_ | refine t_load1 hL rfl rfl ?_ | refine t_loadV hL.vw rfl rfl ?_ | refine t_loadV1 hL.vw rfl rfl ?_)); simp only [Act.put, zq1, zq2, zq3]))
          go_roundw
          case rel => exact ⟨k + 1, _, by omega, by go_num, hL, lists_step HJ.out HX.out HY.out HE.out⟩
          case measure => simp [intOf] <;> omega
        · have q1 := fun w => dec_neq (b := true) (decide_eq_false he) w
          have E : Hid (decide (xs = ys) = false) := by
            show _ = _
            exact decide_eq_false fun h => he (Option.some.inj (by rw [← HX.out, ← HY.out, h]))
          clear he
          go_upto_region 6 with ((first | ((with_reducible refine kAny ?_); go_skip) | ((first | ((with_reducible refine kIx ?_); (refine t_ixa rfl rfl rfl ?_; (try simp only [Nat.mul_one]))) | ((with_reducible refine kLd ?_); first | refine t_loadW hL rfl rfl ?_ | refine t_load2 hL rfl rfl ?_ | refine t_load1 hL rfl rfl ?_ | refine t_loadV hL.vw rfl rfl ?_ | refine t_loadV1 hL.vw rfl rfl ?_)); simp only [Act.put, zq1, zq2, zq3])))
          (try simp only [eq_self] at *)
          refine wp_region_by2 9 [false, false, false, false, false, false, false, false, false] [false, false, false, false, false, false, false, false, false] [(fun v _ _ => v = ?c6_0b), (fun v _ _ => v = ?c6_1b), (fun v _ _ => v = ?c6_2b), (fun v _ _ => v = ?c6_3b), (fun v _ _ => v = ?c6_4b), (fun v _ _ => v = ?c6_5b), (fun v _ _ => v = ?c6_6b), (fun v _ _ => v = ?c6_7b), (fun v _ _ => v = ?c6_8b)] hL.vw mixed [16, 17, 18, 19, 20, 21, 22, 23, 24] _ (by kernel_rfl) (fun vs => by simp only [lay, Act.put, zq1, zq2, zq3]; rfl) (by kernel_rfl) (by decide) (by decide) ?s6b ?l6b ?r6b
          case s6b =>
            refine ⟨?_, ?_, ?_, ?_, ?_, ?_, ?_, ?_, ?_, trivial⟩
            · intro vs W1 m1 hE hM hV hD
              clear hD
              replace hL := hL.call hE hM hV
              exact sPu
            · intro vs W1 m1 hE hM hV hD
              clear hD
              replace hL := hL.call hE hM hV
              exact sPu
            · intro vs W1 m1 hE hM hV hD
              obtain ⟨⟨_, _, -, -, f16⟩, ⟨_, _, -, -, f17⟩, -⟩ := hD
              have f16 : vs 16 = _ := f16
              generalize vs 16 = x16 at f16 ⊢
              subst x16
              have f17 : vs 17 = _ := f17
              generalize vs 17 = x17 at f17 ⊢
              subst x17
              replace hL := hL.call hE hM hV
              exact sIx
            · intro vs W1 m1 hE hM hV hD
              obtain ⟨⟨_, _, -, -, f18⟩, -⟩ := hD
              have f18 : vs 18 = _ := f18
              generalize vs 18 = x18 at f18 ⊢
              subst x18
              replace hL := hL.call hE hM hV
              exact sLd
            · intro vs W1 m1 hE hM hV hD
              clear hD
              replace hL := hL.call hE hM hV
              exact sPu
            · intro vs W1 m1 hE hM hV hD
              clear hD
              replace hL := hL.call hE hM hV
              exact sPu
            · intro vs W1 m1 hE hM hV hD
              obtain ⟨⟨_, _, -, -, f20⟩, ⟨_, _, -, -, f21⟩, -⟩ := hD
              have f20 : vs 20 = _ := f20
              generalize vs 20 = x20 at f20 ⊢
              subst x20
              have f21 : vs 21 = _ := f21
              generalize vs 21 = x21 at f21 ⊢
              subst x21
              replace hL := hL.call hE hM hV
              exact sIx
            · intro vs W1 m1 hE hM hV hD
              obtain ⟨⟨_, _, -, -, f22⟩, -⟩ := hD
              have f22 : vs 22 = _ := f22
              generalize vs 22 = x22 at f22 ⊢
              subst x22
              replace hL := hL.call hE hM hV
              exact sLd
            · intro vs W1 m1 hE hM hV hD
              obtain ⟨⟨_, _, -, -, f19⟩, ⟨_, _, -, -, f23⟩, -⟩ := hD
              have f19 : vs 19 = _ := f19
              generalize vs 19 = x19 at f19 ⊢
              subst x19
              have f23 : vs 23 = _ := f23
              generalize vs 23 = x23 at f23 ⊢
              subst x23
              replace hL := hL.call hE hM hV
              exact sPu
          case l6b =>
            refine ⟨fun h => (by cases h), fun h => (by cases h), fun h => (by cases h), fun h => (by cases h), fun h => (by cases h), fun h => (by cases h), fun h => (by cases h), fun h => (by cases h), fun h => (by cases h), trivial⟩
          intro vs W1 m1 hE hM hV hF hD
          clear hD
          obtain ⟨⟨_, _, -, -, f16⟩, ⟨_, _, -, -, f17⟩, ⟨_, _, -, -, f18⟩, ⟨_, _, -, -, f19⟩, ⟨_, _, -, -, f20⟩, ⟨_, _, -, -, f21⟩, ⟨_, _, -, -, f22⟩, ⟨_, _, -, -, f23⟩, ⟨_, _, -, -, f24⟩, -⟩ := hF
          replace hL := hL.call hE hM hV
          have f16 : vs 16 = _ := f16
          generalize vs 16 = x16 at f16 ⊢
          subst x16
          have f17 : vs 17 = _ := f17
          generalize vs 17 = x17 at f17 ⊢
          subst x17
          have f18 : vs 18 = _ := f18
          generalize vs 18 = x18 at f18 ⊢
          subst x18
          have f19 : vs 19 = _ := f19
          generalize vs 19 = x19 at f19 ⊢
          subst x19
          have f20 : vs 20 = _ := f20
          generalize vs 20 = x20 at f20 ⊢
          subst x20
          have f21 : vs 21 = _ := f21
          generalize vs 21 = x21 at f21 ⊢
          subst x21
          have f22 : vs 22 = _ := f22
          generalize vs 22 = x22 at f22 ⊢
          subst x22
          have f23 : vs 23 = _ := f23
          generalize vs 23 = x23 at f23 ⊢
          subst x23
          have f24 : vs 24 = _ := f24
          generalize vs 24 = x24 at f24 ⊢
          subst x24
          clear hE hV
          simp only [List.drop_succ_cons, List.drop_zero]
          go_wp2_with (first | ((with_reducible refine kAny ?_); go_skip) | ((first | ((with_reducible refine kIx ?_); (refine t_ixa rfl rfl rfl ?_; (try simp only [Nat.mul_one]))) | ((with_reducible refine kLd ?_); first | refine t_loadW hL rfl rfl ?_ | refine t_load2 hL rfl rfl ?_ | refine t_load1 hL rfl rfl ?_ | refine t_loadV hL.vw rfl rfl ?_ | refine t_loadV1 hL.vw rfl rfl ?_)); simp only [Act.put, zq1, zq2, zq3]))
          refine QN.mk ?_
          go_wp2_with (first | ((with_reducible refine kAny ?_); go_skip) | ((first | ((with_reducible refine kIx ?_); (refine t_ixa rfl rfl rfl ?_; (try simp only [Nat.mul_one]))) | ((with_reducible refine kLd ?_); first | refine t_loadW hL rfl rfl ?_ | refine t_load2 hL rfl rfl ?_ | refine t_load1 hL rfl rfl ?_ | refine t_loadV hL.vw rfl rfl ?_ | refine t_loadV1 hL.vw rfl rfl ?_)); simp only [Act.put, zq1, zq2, zq3]))
          go_ret
          exact RetV.mk hL (congrArg Value.bool E.out.symm)
      · have E : Hid (decide (xs = ys) = true) := by show _ = _; exact decide_eq_true (lists_eq HN.out HN'.out hlt HJ.out)
        go_wp2_with (first | ((with_reducible refine kAny ?_); go_skip) | ((first | ((with_reducible refine kIx ?_); (refine t_ixa rfl rfl rfl ?_; (try simp only [Nat.mul_one]))) | ((with_reducible refine kLd ?_); first | refine t_loadW hL rfl rfl ?_ | refine t_load2 hL rfl rfl ?_ | refine t_load1 hL rfl rfl ?_ | refine t_loadV hL.vw rfl rfl ?_ | refine t_loadV1 hL.vw rfl rfl ?_)); simp only [Act.put, zq1, zq2, zq3]))
        go_ret
        exact RetV.mk hL (congrArg Value.bool E.out.symm)
  · have E : Hid (decide (xs = ys) = false) := by show _ = _; exact decide_eq_false (fun h => hne (by rw [h]))
    have hnn : ((xs.length : Int) != (ys.length : Int)) = true := by simp; omega
    generalize xs.length = n1 at *
    generalize ys.length = n2 at *
    clear hne
    go_enter Tryz.func93, Tryz.ntmps93
    go_wp2_with (first | ((with_reducible refine kAny ?_); go_skip) | ((first | ((with_reducible refine kIx ?_); (refine t_ixa rfl rfl rfl ?_; (try simp only [Nat.mul_one]))) | ((with_reducible refine kLd ?_); first | refine t_loadW hL rfl rfl ?_ | refine t_load2 hL rfl rfl ?_ | refine t_load1 hL rfl rfl ?_ | refine t_loadV hL.vw rfl rfl ?_ | refine t_loadV1 hL.vw rfl rfl ?_)); simp only [Act.put, zq1, zq2, zq3]))
    go_ret
    exact RetV.mk hL (congrArg Value.bool E.out.symm)
end Go.Proofs.YtmhkmmmompediaaGreat

/- Contracts of lagrange.sameCuts and what it calls (equal lists). -/
namespace Go.Proofs.YtmhkmmmompediaaGreat
open Go.RowKit

set_option maxRecDepth 100000 in
set_option maxHeartbeats 8000000 in
theorem l_sameCut (A1 A2 : Option Addr) (c1 c2 : Nat) (r : List Int) (dv : Int) (w m : World) (hV : Vw m w) (h1 : IntL m (.slice A1 r.length c1) r) (h2 : IntL m (.slice A2 r.length c2) r) (hl : r.length ≤ 1000000) :
    Calls Tryz.prog 150 #[.agg #[.slice A1 r.length c1, .int .i64 dv], .agg #[.slice A2 r.length c2, .int .i64 dv]] w (RetV w m fun _ r => r = .bool true) := by
  have hL := Loc.start hV
  clear hV
  have HL := Lib.hid hl
  clear hl
  have hdd : (dv == dv) = true := by simp
  go_enter Tryz.func150, Tryz.ntmps150
  go_wp2_with (first | ((with_reducible refine kAny ?_); go_skip) | ((first | ((with_reducible refine kFd ?_); first | refine t_fda0 rfl rfl ?_ | (refine t_fda rfl rfl ?_; (try simp only [Nat.zero_add, Nat.reduceAdd]))) | ((with_reducible refine kLd ?_); first | refine t_loadW hL rfl rfl ?_ | refine t_load2 hL rfl rfl ?_ | refine t_load1 hL rfl rfl ?_ | refine t_loadV hL.vw rfl rfl ?_ | refine t_loadV1 hL.vw rfl rfl ?_) | ((with_reducible refine kBx ?_); (refine t_box hL rfl rfl ?_; clear hL; intro _ _ hL _))); simp only [Act.put, zq1, zq2, zq3]))
  refine (s_EqualInts _ _ r _ _ hL.vw (IntL.le h1 leX) (IntL.le h2 leX) HL.out).mono ?_
  rintro e W1 ⟨_, m1, rfl, hE, hM1, hV, rfl⟩
  replace hL := hL.call hE (by assumption) hV; clear hE hV
  go_wp2_with (first | ((with_reducible refine kAny ?_); go_skip) | ((first | ((with_reducible refine kFd ?_); first | refine t_fda0 rfl rfl ?_ | (refine t_fda rfl rfl ?_; (try simp only [Nat.zero_add, Nat.reduceAdd]))) | ((with_reducible refine kLd ?_); first | refine t_loadW hL rfl rfl ?_ | refine t_load2 hL rfl rfl ?_ | refine t_load1 hL rfl rfl ?_ | refine t_loadV hL.vw rfl rfl ?_ | refine t_loadV1 hL.vw rfl rfl ?_) | ((with_reducible refine kBx ?_); (refine t_box hL rfl rfl ?_; clear hL; intro _ _ hL _))); simp only [Act.put, zq1, zq2, zq3]))
  go_ret
  exact RetV.mk hL rfl

set_option maxRecDepth 100000 in
set_option maxHeartbeats 8000000 in
theorem s_EqualFunc (a b : Value) (xs : List Cut) (w m : World) (hV : Vw m w) (ha : CutL m a xs) (hb : CutL m b xs) (hl : xs.length ≤ 1000000) :
    Calls Tryz.prog 149 #[a, b, .func (.func 150) #[] #[]] w (RetV w m fun _ r => r = .bool true) := by
  obtain ⟨A, c, rfl, hc, ha⟩ := ha.lit
  obtain ⟨B, d, rfl, hd, hb⟩ := hb.lit
  have hL := Loc.start hV
  clear hV
  generalize hn : xs.length = n at *
  have HN := Lib.hid hn
  clear hn
  have hnn : ((n : Int) != (n : Int)) = false := by simp
  go_enter Tryz.func149, Tryz.ntmps149
  go_wp2_with (first | ((with_reducible refine kAny ?_); go_skip) | ((first | ((with_reducible refine kIx ?_); (refine t_ixa rfl rfl rfl ?_; (try simp only [Nat.mul_one]))) | ((with_reducible refine kLd ?_); first | refine t_loadW hL rfl rfl ?_ | refine t_load2 hL rfl rfl ?_ | refine t_load1 hL rfl rfl ?_ | refine t_loadV hL.vw rfl rfl ?_ | refine t_loadV1 hL.vw rfl rfl ?_) | ((with_reducible refine kSt ?_); ((first | refine t_store hL rfl rfl rfl ?_ | refine t_sts hL rfl rfl rfl ?_ | refine t_sti hL rfl rfl rfl ?_ | refine t_stb hL rfl rfl rfl ?_ | refine t_store1 hL rfl rfl rfl ?_); clear hL; intro _ hL; simp only [splice, zq1, zq2, zq3] at hL)) | ((with_reducible refine kAl ?_); (refine t_alloc hL rfl ?_; clear hL; intro _ _ hL _))); simp only [Act.put, zq1, zq2, zq3]))
  go_loopw [17] (fun i wr => ∃ (k : Nat) (mm : World), k ≤ n ∧ i = .int .i64 k ∧ Loc w m wr mm [] ∧ Ext m mm) (fun i _ => n - (intOf i).toNat)
  case atStart => exact ⟨0, m, Nat.zero_le _, rfl, hL, Ext.refl _⟩
  case round =>
    clear hL
    obtain ⟨k, mm, hk, rfl, hL, hM⟩ := hrel
    by_cases hlt : k < n
    · obtain ⟨⟨r, dv⟩, hx⟩ := at_some HN hlt
      obtain ⟨b1, o1, A1, c1, rfl, hs1, hl1, hc1, -, -, hr1⟩ := CutL.at_ ha hx
      obtain ⟨b2, o2, A2, c2, rfl, hs2, hl2, hc2, -, -, hr2⟩ := CutL.at_ hb hx
      clear hx
      simp only at hs1 hl1 hc1 hr1 hs2 hl2 hc2 hr2
      have hll := Lib.hid hl1
      clear hl1 hl2
      go_wp2_with (first | ((with_reducible refine kAny ?_); go_skip) | ((first | ((with_reducible refine kIx ?_); (refine t_ixa rfl rfl rfl ?_; (try simp only [Nat.mul_one]))) | ((with_reducible refine kLd ?_); first | refine t_loadW hL rfl rfl ?_ | refine t_load2 hL rfl rfl ?_ | refine t_load1 hL rfl rfl ?_ | refine t_loadV hL.vw rfl rfl ?_ | refine t_loadV1 hL.vw rfl rfl ?_) | ((with_reducible refine kSt ?_); ((first | refine t_store hL rfl rfl rfl ?_ | refine t_sts hL rfl rfl rfl ?_ | refine t_sti hL rfl rfl rfl ?_ | refine t_stb hL rfl rfl rfl ?_ | refine t_store1 hL rfl rfl rfl ?_); clear hL; intro _ hL; simp only [splice, zq1, zq2, zq3] at hL)) | ((with_reducible refine kAl ?_); (refine t_alloc hL rfl ?_; clear hL; intro _ _ hL _))); simp only [Act.put, zq1, zq2, zq3]))
      refine (l_sameCut A1 A2 c1 c2 r dv _ _ hL.vw (IntL.le hs1 leX) (IntL.le hs2 leX) hll.out).mono ?_
      rintro e W1 ⟨_, m1, rfl, hE, hM1, hV, rfl⟩
      replace hL := hL.call hE (by assumption) hV; clear hE hV
      go_wp2_with (first | ((with_reducible refine kAny ?_); go_skip) | ((first | ((with_reducible refine kIx ?_); (refine t_ixa rfl rfl rfl ?_; (try simp only [Nat.mul_one]))) | ((with_reducible refine kLd ?_); first | refine t_loadW hL rfl rfl ?_ | refine t_load2 hL rfl rfl ?_ | refine t_load1 hL rfl rfl ?_ | refine t_loadV hL.vw rfl rfl ?_ | refine t_loadV1 hL.vw rfl rfl ?_) | ((with_reducible refine kSt ?_); ((first | refine t_store hL rfl rfl rfl ?_ | refine t_sts hL rfl rfl rfl ?_ | refine t_sti hL rfl rfl rfl ?_ | refine t_stb hL rfl rfl rfl ?_ | refine t_store1 hL rfl rfl rfl ?_); clear hL; intro _ hL; simp only [splice, zq1, zq2, zq3] at hL)) | ((with_reducible refine kAl ?_); (refine t_alloc hL rfl ?_; clear hL; intro _ _ hL _))); simp only [Act.put, zq1, zq2, zq3]))
      go_roundw
      case rel => exact ⟨k + 1, _, by omega, by go_num, hL.tail.tail, hL.mext⟩
      case measure => simp [intOf] <;> omega
    · go_wp2_with (first | ((with_reducible refine kAny ?_); go_skip) | ((first | ((with_reducible refine kIx ?_); (refine t_ixa rfl rfl rfl ?_; (try simp only [Nat.mul_one]))) | ((with_reducible refine kLd ?_); first | refine t_loadW hL rfl rfl ?_ | refine t_load2 hL rfl rfl ?_ | refine t_load1 hL rfl rfl ?_ | refine t_loadV hL.vw rfl rfl ?_ | refine t_loadV1 hL.vw rfl rfl ?_) | ((with_reducible refine kSt ?_); ((first | refine t_store hL rfl rfl rfl ?_ | refine t_sts hL rfl rfl rfl ?_ | refine t_sti hL rfl rfl rfl ?_ | refine t_stb hL rfl rfl rfl ?_ | refine t_store1 hL rfl rfl rfl ?_); clear hL; intro _ hL; simp only [splice, zq1, zq2, zq3] at hL)) | ((with_reducible refine kAl ?_); (refine t_alloc hL rfl ?_; clear hL; intro _ _ hL _))); simp only [Act.put, zq1, zq2, zq3]))
      go_ret
      exact RetV.mk hL rfl

set_option maxRecDepth 100000 in
set_option maxHeartbeats 8000000 in
theorem l_sameCuts (a b : Value) (xs : List Cut) (w m : World) (hV : Vw m w) (ha : CutL m a xs) (hb : CutL m b xs) (hl : xs.length ≤ 1000000) :
    Calls Tryz.prog 92 #[a, b] w (RetV w m fun _ r => r = .bool true) := by
  obtain ⟨A, c, rfl, hc, ha⟩ := ha.lit
  obtain ⟨B, d, rfl, hd, hb⟩ := hb.lit
  have HL := Lib.hid hl
  clear hl
  have hL := Loc.start hV
  clear hV
  go_enter Tryz.func92, Tryz.ntmps92
  go_wp2_with ((with_reducible refine kAny ?_); go_skip)
  refine (s_EqualFunc _ _ xs _ _ hL.vw (CutL.le ha leX) (CutL.le hb leX) HL.out).mono ?_
  rintro e W1 ⟨_, m1, rfl, hE, hM1, hV, rfl⟩
  replace hL := hL.call hE (by assumption) hV; clear hE hV
  go_wp2_with ((with_reducible refine kAny ?_); go_skip)
  go_ret
  exact RetV.mk hL rfl
end Go.Proofs.YtmhkmmmompediaaGreat

/- slices.Clone of numbers and decisions. -/
namespace Go.Proofs.YtmhkmmmompediaaGreat
open Go.RowKit

theorem row_empty (e : TypeId) (size g : Nat) : Row e size (.slice (some ⟨g, 0, none⟩) 0 0) 0 [] [(g, e, #[])] := ⟨by simp, .inr ⟨g, 0, #[], rfl, rfl, Nat.le_refl _, by decide, by simp, by simp⟩⟩
theorem ListV.nil_of {α : Type} {size : Nat} {R : World → Value → α → Prop} {m : World} {n c : Nat} {xs : List α} (h0 : 0 < size) (h : ListV size R m (.slice none n c) xs) : xs = [] := by
  cases hx : xs with
  | nil => rfl
  | cons x l =>
    obtain ⟨b, off, v, e, _⟩ := ListV.at_ h h0 (k := 0) (x := x) (by simp [hx])
    cases e

set_option maxRecDepth 100000 in
set_option maxHeartbeats 4000000 in
theorem s_CloneInts (v : Value) (xs : List Int) (w m : World) (hV : Vw m w) (h : IntL m v xs) (hl : xs.length ≤ 1000) :
    Calls Tryz.prog 142 #[v] w (RetV w m fun m' r => IntL m' r xs) := by
  have h' := h
  obtain ⟨A, c, vs, rfl, hc, h1, hs, h2⟩ := h
  have q35 : ∀ (w : World) (a : Option Addr) (n c n' c' : Nat), (binOp .eql 22 (.slice a n c) (.slice none n' c')).run Tryz.prog w = .ok (.bool a.isNone) w := fun w a n c n' c' => Lib.run_eql_slice_nil w _ _ a n c n' c' Tryz.underlying22
  have hL := Loc.start hV
  cases A with
  | none =>
    have h0 := ListV.nil_of (by omega) h'
    subst h0
    simp only [List.length_nil]
    clear hs hc hl h1 h2 h'
    go_enter Tryz.func142, Tryz.ntmps142
    go_wp2
    go_ret
    exact RetV.mk hL ListV.nil
  | some ad =>
    have hvl : vs.length = xs.length := h2.length
    have hcl := cellsOf_length h1
    have HC : Hid ((cellsOf vs).all (·.oneCell') = true) := by
      show _ = true
      refine List.all_eq_true.2 fun u hu => ?_
      obtain ⟨x, hx, hu⟩ := List.mem_flatMap.1 hu
      obtain ⟨k, hk⟩ := List.mem_iff_getElem?.1 hx
      obtain ⟨y, rfl⟩ := All2.left h2 hk
      simp [Value.cells] at hu
      subst hu; rfl
    generalize hn : xs.length = n at *
    have HN := Lib.hid hn
    have HL := Lib.hid hl
    have HH : Hid ((cellsOf vs).length = n * 1) := by show _ = _; rw [hcl, hvl]
    have H1 := Lib.hid h1
    have H2 := Lib.hid h2
    have HV := Lib.hid hvl
    clear hn hl hcl h1 h2 hvl h'
    clear hV
    go_enter Tryz.func142, Tryz.ntmps142
    go_wp2_with (at_builtin; go_must (refine wl_append (A := []) (hL.alloc #[] 3) (row_empty 3 1 _) (wanted_none rfl) rfl ap_ints (by omega) rfl rfl HH.out ((hs.le hL.vw.le).ext (Ext.new _ _)) HC.out (by have := HL.out; omega) (by omega) ?_); intro v1 W1 m1 R1 hL1 hR1 hM1)
    go_ret
    simp only [Nat.zero_add, List.nil_append] at hR1
    obtain ⟨m2, B, c2, hL2, hle, rfl, hc2, hs2, -⟩ := Loc.show (A := []) hL1 hR1
    exact RetV.mk hL2 (ListV.mk hc2 HV.out H1.out hs2 (H2.out.mono fun _ _ h => h))

set_option maxRecDepth 100000 in
set_option maxHeartbeats 4000000 in
theorem s_CloneDecs (v : Value) (xs : List Dec) (w m : World) (hV : Vw m w) (h : DecL m v xs) (hl : xs.length ≤ 1000) :
    Calls Tryz.prog 121 #[v] w (RetV w m fun m' r => DecL m' r xs) := by
  have h' := h
  obtain ⟨A, c, vs, rfl, hc, h1, hs, h2⟩ := h
  have q35 : ∀ (w : World) (a : Option Addr) (n c n' c' : Nat), (binOp .eql 29 (.slice a n c) (.slice none n' c')).run Tryz.prog w = .ok (.bool a.isNone) w := fun w a n c n' c' => Lib.run_eql_slice_nil w _ _ a n c n' c' Tryz.underlying29
  have hL := Loc.start hV
  cases A with
  | none =>
    have h0 := ListV.nil_of (by omega) h'
    subst h0
    simp only [List.length_nil]
    clear hs hc hl h1 h2 h'
    go_enter Tryz.func121, Tryz.ntmps121
    go_wp2
    go_ret
    exact RetV.mk hL ListV.nil
  | some ad =>
    have hvl : vs.length = xs.length := h2.length
    have hcl := cellsOf_length h1
    have HC : Hid ((cellsOf vs).all (·.oneCell') = true) := by
      show _ = true
      refine List.all_eq_true.2 fun u hu => ?_
      obtain ⟨x, hx, hu⟩ := List.mem_flatMap.1 hu
      obtain ⟨k, hk⟩ := List.mem_iff_getElem?.1 hx
      obtain ⟨y, rfl⟩ := All2.left h2 hk
      simp [Value.cells] at hu
      rcases hu with rfl | rfl | rfl <;> rfl
    generalize hn : xs.length = n at *
    have HN := Lib.hid hn
    have HL := Lib.hid hl
    have HH : Hid ((cellsOf vs).length = n * 3) := by show _ = _; rw [hcl, hvl]
    have H1 := Lib.hid h1
    have H2 := Lib.hid h2
    have HV := Lib.hid hvl
    clear hn hl hcl h1 h2 hvl h'
    clear hV
    go_enter Tryz.func121, Tryz.ntmps121
    go_wp2_with (at_builtin; go_must (refine wl_append (A := []) (hL.alloc #[] 87) (row_empty 87 3 _) (wanted_none rfl) rfl ap_Decs (by omega) rfl rfl HH.out ((hs.le hL.vw.le).ext (Ext.new _ _)) HC.out (by have := HL.out; omega) (by omega) ?_); intro v1 W1 m1 R1 hL1 hR1 hM1)
    go_ret
    simp only [Nat.zero_add, List.nil_append] at hR1
    obtain ⟨m2, B, c2, hL2, hle, rfl, hc2, hs2, -⟩ := Loc.show (A := []) hL1 hR1
    exact RetV.mk hL2 (ListV.mk hc2 HV.out H1.out hs2 (H2.out.mono fun _ _ h => h))
end Go.Proofs.YtmhkmmmompediaaGreat

/- Rows that are made with their whole length and filled one by one; memory that a callee leaves to its caller. No program. -/
namespace Go.Proofs.YtmhkmmmompediaaGreat
open Go.RowKit

theorem splice_at (ws : List Value) : ∀ (o : Nat) (cs : Array Value), o + ws.length ≤ cs.size → ∀ j : Nat, (splice cs o ws)[j]? = if o ≤ j ∧ j < o + ws.length then ws[j - o]? else cs[j]? := by
  induction ws with
  | nil => intro o cs _ j; simp [splice]; omega
  | cons v ws ih =>
    intro o cs h j
    simp only [List.length_cons] at h
    rw [splice, ih (o + 1) _ (by simp; omega), Array.getElem?_setIfInBounds]
    simp only [List.length_cons]
    by_cases h1 : o + 1 ≤ j ∧ j < o + 1 + ws.length
    · rw [if_pos h1, if_pos (by omega)]
      obtain ⟨i, rfl⟩ : ∃ i, j = o + 1 + i := ⟨j - (o + 1), by omega⟩
      rw [show o + 1 + i - (o + 1) = i by omega, show o + 1 + i - o = i + 1 by omega]
      simp
    · rw [if_neg h1]
      by_cases h2 : o = j
      · subst h2
        rw [if_pos rfl, if_pos (by omega), if_pos (by omega)]
        simp
      · rw [if_neg h2, if_neg (by omega)]

/-- The first k elements of a made row are laid. -/
def RowP {α : Type} (size : Nat) (R : World → Value → α → Prop) (m : World) (k : Nat) (cur : Array Value) (xs : List α) : Prop :=
  cur.size = xs.length * size ∧ ∃ vs, cur.toList.take (k * size) = cellsOf vs ∧ vs.length = k ∧ (∀ u ∈ vs, u.cells.size = size) ∧ All2 (R m) vs (xs.take k)
theorem RowP.zero {α : Type} {size : Nat} {R : World → Value → α → Prop} {m : World} {cur : Array Value} {xs : List α} (h : cur.size = xs.length * size) : RowP size R m 0 cur xs :=
  ⟨h, [], by simp [cellsOf], rfl, (fun _ h => by cases h), by simp [All2]⟩
theorem RowP.le {α : Type} {size : Nat} {R : World → Value → α → Prop} (hR : ∀ m m' v x, R m v x → Le m m' → R m' v x) {m m' : World} {k : Nat} {cur : Array Value} {xs : List α} (h : RowP size R m k cur xs) (hb : Le m m') : RowP size R m' k cur xs := by
  obtain ⟨h0, vs, h1, h2, h3, h4⟩ := h
  exact ⟨h0, vs, h1, h2, h3, h4.mono fun v x hv => hR m m' v x hv hb⟩
theorem RowP.step {α : Type} {size : Nat} {R : World → Value → α → Prop} {m : World} {k : Nat} {cur : Array Value} {xs : List α} (h : RowP size R m k cur xs) {ws : List Value} {x : α} (hx : xs[k]? = some x) (hw : ws.length = size) (hv : R m (.agg ws.toArray) x) :
    RowP size R m (k + 1) (splice cur (0 + k * size) ws) xs := by
  obtain ⟨h0, vs, h1, h2, h3, h4⟩ := h
  have hk : k < xs.length := (List.getElem?_eq_some_iff.1 hx).1
  have hfit : k * size + size ≤ cur.size := by rw [h0, ← Nat.succ_mul]; exact Nat.mul_le_mul_right _ hk
  refine ⟨by rw [splice_size]; exact h0, vs ++ [.agg ws.toArray], ?_, by simp [h2], ?_, ?_⟩
  · rw [cellsOf_append, cellsOf_one, ← h1, Nat.zero_add]
    apply List.ext_getElem?
    intro j
    rw [List.getElem?_take, Array.getElem?_toList, splice_at ws _ _ (by rw [hw]; exact hfit), Nat.succ_mul]
    have hl : (cur.toList.take (k * size)).length = k * size := by rw [List.length_take]; simp; omega
    by_cases hj : j < k * size
    · rw [if_pos (by omega), if_neg (by omega), List.getElem?_append_left (by omega), List.getElem?_take, if_pos hj, Array.getElem?_toList]
    · rw [List.getElem?_append_right (by omega), hl]
      by_cases hj2 : j < k * size + size
      · rw [if_pos hj2, if_pos (by omega)]
        simp [Value.cells]
      · rw [if_neg hj2, List.getElem?_eq_none]
        simp [Value.cells]; omega
  · intro u hu
    rcases List.mem_append.1 hu with hu | hu
    · exact h3 u hu
    · rcases List.mem_singleton.1 hu with rfl
      simpa [Value.cells] using hw
  · rw [List.take_add_one, hx]
    exact h4.snoc hv
/-- A whole row stands to xs. -/
def RowF {α : Type} (size : Nat) (R : World → Value → α → Prop) (m : World) (cur : Array Value) (xs : List α) : Prop :=
  ∃ vs, cur.toList = cellsOf vs ∧ (∀ u ∈ vs, u.cells.size = size) ∧ All2 (R m) vs xs
theorem RowF.le {α : Type} {size : Nat} {R : World → Value → α → Prop} (hR : ∀ m m' v x, R m v x → Le m m' → R m' v x) {m m' : World} {cur : Array Value} {xs : List α} (h : RowF size R m cur xs) (hb : Le m m') : RowF size R m' cur xs := by
  obtain ⟨vs, h1, h3, h4⟩ := h
  exact ⟨vs, h1, h3, h4.mono fun v x hv => hR m m' v x hv hb⟩
theorem RowP.done {α : Type} {size : Nat} {R : World → Value → α → Prop} {m : World} {k n : Nat} {cur : Array Value} {xs : List α} (h : RowP size R m k cur xs) (hn : xs.length = n) (hk : ¬ k < n) : RowF size R m cur xs := by
  obtain ⟨h0, vs, h1, h2, h3, h4⟩ := h
  have hl := h4.length
  have hkn : k = xs.length := by
    rw [List.length_take] at hl
    omega
  refine ⟨vs, ?_, h3, ?_⟩
  · rw [← h1, List.take_of_length_le]
    simp [h0, hkn]
  · rwa [hkn, List.take_length] at h4
theorem RowF.size {α : Type} {size : Nat} {R : World → Value → α → Prop} {m : World} {cur : Array Value} {xs : List α} (h : RowF size R m cur xs) : cur.size = xs.length * size := by
  obtain ⟨vs, h1, h3, h4⟩ := h
  have := cellsOf_length h3
  rw [← h1, h4.length] at this
  simpa using this
/-- A whole row that is shown is a list. -/
theorem Loc.showF {α : Type} {size : Nat} {R : World → Value → α → Prop} (hR : ∀ m m' v x, R m v x → Le m m' → R m' v x) {w0 m0 W m : World} {A : List Lo} {g : Nat} {t : TypeId} {cur : Array Value} (hL : Loc w0 m0 W m (A ++ [(g, t, cur)])) {xs : List α} (h : RowF size R m cur xs) {n : Nat} (hn : xs.length = n) :
    ∃ m', Loc w0 m0 W m' A ∧ Le m m' ∧ ListV size R m' (.slice (some ⟨g, 0, none⟩) n n) xs := by
  obtain ⟨m', h1, h2, h3⟩ := hL.show1 cur.size
  obtain ⟨vs, e1, e3, e4⟩ := h
  refine ⟨m', h1, h2, ListV.mk (Nat.le_refl _) (e4.length.trans hn) e3 ?_ (e4.mono fun v x hv => hR m m' v x hv h2)⟩
  rw [← e1]
  rwa [List.take_of_length_le (by simp)] at h3
theorem All2.set {α : Type} {R : Value → α → Prop} : ∀ {vs : List Value} {xs : List α}, All2 R vs xs → ∀ {k : Nat} {v : Value} {x : α}, R v x → All2 R (vs.set k v) (xs.set k x)
  | v :: vs, x :: xs, h, 0, _, _, hv => ⟨hv, h.2⟩
  | v :: vs, x :: xs, h, k + 1, _, _, hv => ⟨h.1, All2.set h.2 hv⟩
  | [], [], _, _, _, _, _ => trivial
  | [], _ :: _, h, _, _, _, _ => h.elim
  | _ :: _, [], h, _, _, _, _ => h.elim
theorem cellsOf_set {size : Nat} : ∀ {vs : List Value} {k : Nat} {ws : List Value}, (∀ u ∈ vs, u.cells.size = size) → ws.length = size → k < vs.length → ∀ j : Nat, (cellsOf (vs.set k (.agg ws.toArray)))[j]? = if k * size ≤ j ∧ j < k * size + size then ws[j - k * size]? else (cellsOf vs)[j]?
  | [], k, ws, _, _, hk, _ => by simp at hk
  | u :: vs, 0, ws, h, hw, hk, j => by
    have hl : u.cells.toList.length = size := by simpa using h u (by simp)
    simp only [List.set_cons_zero, cellsOf, List.flatMap_cons, Nat.zero_mul, Nat.zero_add, Nat.zero_le, true_and, Nat.sub_zero]
    by_cases hj : j < size
    · rw [if_pos hj, List.getElem?_append_left (by simpa [Value.cells, hw] using hj)]
      simp [Value.cells]
    · rw [if_neg hj, List.getElem?_append_right (by simpa [Value.cells, hw] using hj), List.getElem?_append_right (by omega), hl]
      simp [Value.cells, hw]
  | u :: vs, k + 1, ws, h, hw, hk, j => by
    have hl : u.cells.toList.length = size := by simpa using h u (by simp)
    have ih := cellsOf_set (vs := vs) (k := k) (ws := ws) (fun x hx => h x (by simp [hx])) hw (by simpa using hk)
    simp only [cellsOf] at ih
    simp only [List.set_cons_succ, cellsOf, List.flatMap_cons, Nat.succ_mul]
    by_cases hj : j < size
    · rw [List.getElem?_append_left (by omega), List.getElem?_append_left (by omega), if_neg (by omega)]
    · rw [List.getElem?_append_right (by omega), List.getElem?_append_right (by omega), hl, ih (j - size)]
      by_cases hc : k * size ≤ j - size ∧ j - size < k * size + size
      · rw [if_pos hc, if_pos (by omega), show j - size - k * size = j - (k * size + size) by omega]
      · rw [if_neg hc, if_neg (by omega)]
theorem RowF.set {α : Type} {size : Nat} {R : World → Value → α → Prop} {m : World} {k : Nat} {cur : Array Value} {xs : List α} (h : RowF size R m cur xs) {ws : List Value} {x : α} (hk : k < xs.length) (hw : ws.length = size) (hv : R m (.agg ws.toArray) x) :
    RowF size R m (splice cur (0 + k * size) ws) (xs.set k x) := by
  have hsz := h.size
  obtain ⟨vs, h1, h3, h4⟩ := h
  have hl := h4.length
  have hfit : k * size + size ≤ cur.size := by rw [hsz, ← Nat.succ_mul]; exact Nat.mul_le_mul_right _ hk
  refine ⟨vs.set k (.agg ws.toArray), ?_, ?_, h4.set hv⟩
  · apply List.ext_getElem?
    intro j
    rw [Array.getElem?_toList, Nat.zero_add, splice_at ws _ _ (by rw [hw]; exact hfit), cellsOf_set h3 hw (by omega), hw, ← h1]
    simp
  · intro u hu
    rcases List.mem_or_eq_of_mem_set hu with hu | rfl
    · exact h3 u hu
    · simpa [Value.cells] using hw
/-- The element at place k of a whole row. -/
theorem RowF.at_ {α : Type} {size : Nat} {R : World → Value → α → Prop} {m : World} {cur : Array Value} {xs : List α} (h : RowF size R m cur xs) {k : Nat} {x : α} (hk : xs[k]? = some x) :
    ∃ v, R m v x ∧ v.cells.size = size ∧ ∀ j, j < size → cur[0 + k * size + j]? = v.cells[j]? := by
  obtain ⟨vs, h1, h3, h4⟩ := h
  obtain ⟨v, hv, hR⟩ := h4.at_ hk
  refine ⟨v, hR, h3 v (List.mem_of_getElem? hv), fun j hj => ?_⟩
  have := cellsOf_at h3 hv j hj
  rw [← h1, Array.getElem?_toList] at this
  rw [Nat.zero_add, this, Array.getElem?_toList]

theorem ne0 {g : Nat} : ∀ y ∈ ([] : List Lo), some g ≠ some y.1 := fun _ h => by cases h
theorem neS {g : Nat} {x : Lo} {l : List Lo} (h : g ≠ x.1) (k : ∀ y ∈ l, some g ≠ some y.1) : ∀ y ∈ x :: l, some g ≠ some y.1 := fun y hy => by
  rcases List.mem_cons.1 hy with rfl | hy
  · exact fun e => h (Option.some.inj e)
  · exact k y hy
/-- A callee's blocks become the caller's. -/
theorem Loc.callL {w0 m0 W m W' m' : World} {Ls Lt : List Lo} (h : Loc w0 m0 W m Ls) (k : Loc W m W' m' Lt) : Loc w0 m0 W' m' (Lt ++ Ls) := by
  have hL := h.call k.ext k.mext k.vw
  refine ⟨hL.size0, hL.ext, hL.mext, hL.vw, ?_, ?_, ?_, ?_⟩
  · intro x hx
    rcases List.mem_append.1 hx with hx | hx
    · exact Nat.le_trans h.ext.size (k.low x hx)
    · exact hL.low x hx
  · intro x hx
    rcases List.mem_append.1 hx with hx | hx
    · exact k.blk x hx
    · exact hL.blk x hx
  · intro x hx
    rcases List.mem_append.1 hx with hx | hx
    · exact k.hid x hx
    · exact hL.hid x hx
  · refine List.pairwise_append.2 ⟨k.apart, hL.apart, fun x hx y hy => ?_⟩
    have h1 := k.low x hx
    have h2 := (h.blk y hy).lt
    omega
section
variable {P : Program} {ops : Array Oper} {Q : Exit → Act → World → Prop} {rest : List Oper} {o : Oper} {a : Act} {w0 m0 W m : World} {Ls : List Lo}
theorem wl_indexAddrA (hw : Region.wanted o (yielded ops a.tmps) = true) {t : TypeId} {s i : Operand} (ho : o.op = .indexAddr t s i) {e : TypeId} {size bytes zs : Nat} (hap : apS P t = some (e, size, bytes, zs))
    {A : Option Addr} {b off n c k : Nat} {kd : IntKind} (hs : a.eval s = .slice A n c) (hA : Hid (A = some ⟨b, off, none⟩)) (hi : a.eval i = .int kd k) (hk : k < n)
    (h : wpList P ops Q rest (a.put o.dst (.pointer (some ⟨b, off + k * size, none⟩))) W) : wpList P ops Q (o :: rest) a W := by
  rw [hA.out] at hs
  exact wl_indexAddr hw ho hap hs hi hk h
/-- A struct is laid into a row. -/
theorem wl_storeR (hL : Loc w0 m0 W m Ls) (hw : Region.wanted o (yielded ops a.tmps) = true) {ty : TypeId} {x y : Operand} (ho : o.op = .store ty x y) {g off : Nat} (hx : a.eval x = .pointer (some ⟨g, off, none⟩)) {vs : List Value}
    (hy : a.eval y = .agg vs.toArray) {k : Nat} (hty : agS P ty = some k) (hk : vs.length = k) {n : Nat} {t : TypeId} {cs : Array Value} (hn : Ls[n]? = some (g, t, cs)) (hfit : off + k ≤ cs.size) (h1 : vs.all (·.oneCell') = true)
    (h : ∀ W', Loc w0 m0 W' m (Ls.set n (g, t, splice cs off vs)) → wpList P ops Q rest (a.put o.dst undef) W') : wpList P ops Q (o :: rest) a W :=
  wl_store hL hw ho hx hy hty hk hn (by rw [hk]; exact hfit) h1 h
/-- A struct is read from a row. -/
theorem wl_loadR (hL : Loc w0 m0 W m Ls) (hw : Region.wanted o (yielded ops a.tmps) = true) {ty : TypeId} {x : Operand} (ho : o.op = .load ty x) {g off : Nat} (hx : a.eval x = .pointer (some ⟨g, off, none⟩)) {k : Nat} (hty : agS P ty = some k)
    {n : Nat} {t : TypeId} {cs : Array Value} (hn : Ls[n]? = some (g, t, cs)) {vs : List Value} (hr : ∀ j, j < k → cs[off + j]? = vs[j]?) (hk : vs.length = k)
    (h : wpList P ops Q rest (a.put o.dst (.agg vs.toArray)) W) : wpList P ops Q (o :: rest) a W :=
  wpList_wanted hw fun _ hK => op_load ho hx (vs := vs) (hk ▸ hty) (fun j v hv => by
    have hj : j < k := by rw [← hk]; exact (List.getElem?_eq_some_iff.1 hv).1
    rw [(hL.at_ hn).cell, hr j hj, hv]) (hK _ _ h)
theorem t_ixaA {t : TypeId} {s i : Operand} (ho : o.op = .indexAddr t s i) {e : TypeId} {size bytes : Nat} [hap : ApC P t e size bytes] {A : Option Addr} {b off n c k : Nat} {kd : IntKind} (hs : a.eval s = .slice A n c) (hi : a.eval i = .int kd k)
    (h : wpList P ops Q rest (a.put o.dst (.pointer (some ⟨b, off + k * size, none⟩))) W) (hA : Hid (A = some ⟨b, off, none⟩) := by with_reducible assumption) (hk : k < n := by first | with_reducible assumption | omega)
    (hw : Region.wanted o (yielded ops a.tmps) = true := by first | exact wanted_none rfl | exact wanted_some rfl rfl rfl rfl) : wpList P ops Q (o :: rest) a W := wl_indexAddrA hw ho hap.h hs hA hi hk h
theorem t_storeR (hL : Loc w0 m0 W m Ls) {ty : TypeId} {x y : Operand} (ho : o.op = .store ty x y) {g off : Nat} (hx : a.eval x = .pointer (some ⟨g, off, none⟩)) {vs : List Value} (hy : a.eval y = .agg vs.toArray) {k : Nat} [hty : AgC P ty k] {n : Nat} {t : TypeId} {cs : Array Value}
    (h : ∀ W', Loc w0 m0 W' m (Ls.set n (g, t, splice cs off vs)) → wpList P ops Q rest (a.put o.dst undef) W')
    (hn : Ls[n]? = some (g, t, cs) ∧ off + k ≤ cs.size ∧ vs.length = k ∧ vs.all (·.oneCell') = true := by refine ⟨?_, ?_, ?_, ?_⟩; (first | with_reducible exact lo0 | with_reducible exact lo1 | with_reducible exact lo2 | with_reducible exact lo3 | with_reducible exact lo4 | with_reducible exact lo5 | with_reducible exact lo6 | with_reducible exact lo7 | with_reducible exact lo8 | with_reducible exact lo9 | with_reducible exact lo10 | with_reducible exact lo11); (with_reducible assumption); exact rfl; exact rfl)
    (hw : Region.wanted o (yielded ops a.tmps) = true := by first | exact wanted_none rfl | exact wanted_some rfl rfl rfl rfl) : wpList P ops Q (o :: rest) a W := wl_storeR hL hw ho hx hy hty.h hn.2.2.1 hn.1 hn.2.1 hn.2.2.2 h
theorem t_loadR (hL : Loc w0 m0 W m Ls) {ty : TypeId} {x : Operand} (ho : o.op = .load ty x) {g off : Nat} (hx : a.eval x = .pointer (some ⟨g, off, none⟩)) {k : Nat} [hty : AgC P ty k] {n : Nat} {t : TypeId} {cs : Array Value} {vs : List Value}
    (h : wpList P ops Q rest (a.put o.dst (.agg vs.toArray)) W) (hn : Ls[n]? = some (g, t, cs) ∧ (∀ j, j < k → cs[off + j]? = vs[j]?) ∧ vs.length = k := by refine ⟨?_, ?_, ?_⟩; (first | with_reducible exact lo0 | with_reducible exact lo1 | with_reducible exact lo2 | with_reducible exact lo3 | with_reducible exact lo4 | with_reducible exact lo5 | with_reducible exact lo6 | with_reducible exact lo7 | with_reducible exact lo8 | with_reducible exact lo9 | with_reducible exact lo10 | with_reducible exact lo11); (with_reducible assumption); exact rfl)
    (hw : Region.wanted o (yielded ops a.tmps) = true := by first | exact wanted_none rfl | exact wanted_some rfl rfl rfl rfl) : wpList P ops Q (o :: rest) a W := wl_loadR hL hw ho hx hty.h hn.1 hn.2.1 hn.2.2 h
end
end Go.Proofs.YtmhkmmmompediaaGreat

/- Contract of lagrange.CeilInt where the ceiling is small. -/
namespace Go.Proofs.YtmhkmmmompediaaGreat
open Go.RowKit

set_option maxRecDepth 100000 in
set_option maxHeartbeats 8000000 in
theorem l_CeilInt (v : Value) (q : Rat) (w m : World) (hV : Vw m w) (h : FracC m v q) (hx : q.num.natAbs < 18446744073709551616) (hy : q.den < 18446744073709551616) (hq : 0 ≤ -q.num ∨ -q.num % (q.den : Int) = 0)
    (b1 : -1152921504606846976 ≤ cel q) (b2 : cel q ≤ 1152921504606846976) :
    Calls Tryz.prog 26 #[v] w (RetV w m fun _ r => r = .tuple #[.int .i64 (cel q), .int .i64 0]) := by
  obtain ⟨g, A, n, c, g', B', n', c', rfl, h⟩ := h.lit
  have HX := Lib.hid hx
  have HY := Lib.hid hy
  have HQ := Lib.hid hq
  have HC : Hid ((cel q).natAbs < 4611686018427387904) := by show _ < _; omega
  have HI : Hid ((digs (cel q).natAbs).length ≤ 1000) := by show _ ≤ _; exact Nat.le_trans (len2 (by omega)) (by omega)
  clear hx hy hq
  have hL := Loc.start hV
  clear hV
  go_enter Tryz.func26, Tryz.ntmps26
  go_wp2_with (first | ((with_reducible refine kAny ?_); go_skip) | ((first | ((with_reducible refine kLd ?_); first | refine t_loadW hL rfl rfl ?_ | refine t_load2 hL rfl rfl ?_ | refine t_load1 hL rfl rfl ?_ | refine t_loadV hL.vw rfl rfl ?_ | refine t_loadV1 hL.vw rfl rfl ?_) | ((with_reducible refine kBx ?_); (refine t_box hL rfl rfl ?_; clear hL; intro _ _ hL _))); simp only [Act.put, zq1, zq2, zq3]))
  refine (q_Ceil _ q _ _ hL.vw (h.le leX) HX.out HY.out HQ.out).mono ?_
  rintro e W1 ⟨v1, m1, rfl, hE, hM1, hV, h1⟩
  replace hL := hL.call hE (by assumption) hV; clear hE hV
  obtain ⟨g1', A1', n1', c1', rfl, h1⟩ := h1.lit
  go_wp2_with (first | ((with_reducible refine kAny ?_); go_skip) | ((first | ((with_reducible refine kLd ?_); first | refine t_loadW hL rfl rfl ?_ | refine t_load2 hL rfl rfl ?_ | refine t_load1 hL rfl rfl ?_ | refine t_loadV hL.vw rfl rfl ?_ | refine t_loadV1 hL.vw rfl rfl ?_) | ((with_reducible refine kBx ?_); (refine t_box hL rfl rfl ?_; clear hL; intro _ _ hL _))); simp only [Act.put, zq1, zq2, zq3]))
  refine (i_ToInt64 _ (cel q) _ _ hL.vw (h1.toV HI.out) HC.out).mono ?_
  rintro e W2 ⟨_, m2, rfl, hE, hM2, hV, rfl⟩
  replace hL := hL.call hE (by assumption) hV; clear hE hV
  clear HC HI
  obtain ⟨z, hz⟩ : ∃ z, z = cel q := ⟨_, rfl⟩
  rw [← hz] at b1 b2 ⊢
  have HZ := Lib.hid hz
  clear hz
  go_wp2_with (first | ((with_reducible refine kAny ?_); go_skip) | ((first | ((with_reducible refine kLd ?_); first | refine t_loadW hL rfl rfl ?_ | refine t_load2 hL rfl rfl ?_ | refine t_load1 hL rfl rfl ?_ | refine t_loadV hL.vw rfl rfl ?_ | refine t_loadV1 hL.vw rfl rfl ?_) | ((with_reducible refine kBx ?_); (refine t_box hL rfl rfl ?_; clear hL; intro _ _ hL _))); simp only [Act.put, zq1, zq2, zq3]))
  go_ret2
  exact RetV.mk hL (congrArg (fun t => Value.tuple #[.int .i64 t, .int .i64 0]) HZ.out)
end Go.Proofs.YtmhkmmmompediaaGreat

/- Contract of lagrange.copyPrices. -/
namespace Go.Proofs.YtmhkmmmompediaaGreat
open Go.RowKit

/-- Prices, as plain data. -/
structure Pr where
  fl : List Rat
  cu : List Cut
  cd : List Rat
  de : List Dec
  fr : Bool
def PricesR (m : World) (v : Value) (p : Pr) : Prop := ∃ a b c d, v = .agg #[a, b, c, d, .bool p.fr] ∧ FracL m a p.fl ∧ CutL m b p.cu ∧ FracL m c p.cd ∧ DecL m d p.de
theorem PricesR.le {m m' : World} {v : Value} {p : Pr} (h : PricesR m v p) (hb : Le m m') : PricesR m' v p := by
  obtain ⟨a, b, c, d, e, h1, h2, h3, h4⟩ := h
  exact ⟨a, b, c, d, e, FracL.le h1 hb, CutL.le h2 hb, FracL.le h3 hb, DecL.le h4 hb⟩
/-- Small: what the program's arithmetic bears. -/
structure Pr.ok (p : Pr) : Prop where
  fl : ∀ q ∈ p.fl, Sm q.num q.den
  cd : ∀ q ∈ p.cd, Sm q.num q.den
  nf : p.fl.length ≤ 1000
  nc : p.cu.length ≤ 1000
  nd : p.cd.length ≤ 1000
  ne : p.de.length ≤ 1000
  cu : ∀ c ∈ p.cu, c.1.length ≤ 1000
  ap : p.fl.length ≠ p.cd.length
def zFr : Array Value := #[.bool false, .slice none 0 0, .bool false, .slice none 0 0]
/-- The new rows and the copied decisions. -/
def PrB (B nf nc nd : Nat) (ds : List Dec) (fr : Bool) (v : Value) (u um : World) : Prop :=
  ∃ a b c s, v = .agg #[a, b, c, s, .bool fr] ∧ NewRow B 39 (madeCells #[.bool false, .slice none 0 0, .bool false, .slice none 0 0] (nf * 4)) nf a u um ∧ NewRow B 34 (madeCells #[.slice none 0 0, .int .i64 0] (nc * 2)) nc b u um ∧
    NewRow B 39 (madeCells #[.bool false, .slice none 0 0, .bool false, .slice none 0 0] (nd * 4)) nd c u um ∧ DecL um s ds
abbrev FrRow := RowF (α := Rat) 4 FracC
abbrev FrRowP := RowP (α := Rat) 4 FracC
abbrev CuRowP := RowP (α := Cut) 2 CutR
theorem FracC.mono (m m' : World) (v : Value) (x : Rat) (h : FracC m v x) (hb : Le m m') : FracC m' v x := h.le hb
theorem CutR.mono (m m' : World) (v : Value) (x : Cut) (h : CutR m v x) (hb : Le m m') : CutR m' v x := h.le hb
def CopyPost (w m : World) (p : Pr) (e : Ending) (w' : World) : Prop :=
  ∃ m' g1 g3 cur1 cur3 b s, e = .returned (.agg #[.slice (some ⟨g1, 0, none⟩) p.fl.length p.fl.length, b, .slice (some ⟨g3, 0, none⟩) p.cd.length p.cd.length, s, .bool p.fr]) ∧
    Loc w m w' m' [(g1, 39, cur1), (g3, 39, cur3)] ∧ FrRow m' cur1 p.fl ∧ FrRow m' cur3 p.cd ∧ CutL m' b p.cu ∧ DecL m' s p.de
theorem frac0 (m : World) : FracS m (.agg #[.bool false, .slice none 0 0, .bool false, .slice none 0 0]) 0 0 := ⟨_, _, _, _, rfl, IntC.nil, IntC.nil, by decide, by decide⟩
theorem add0 (q : Rat) : Rat.divInt q.num q.den + Rat.divInt 0 0 = q := by rw [Rat.num_divInt_den]; simp [Rat.add_zero]

theorem Loc.sub {w0 m0 W m : World} {A B : List Lo} (h : Loc w0 m0 W m A) (hs : B.Sublist A) : Loc w0 m0 W m B :=
  ⟨h.size0, h.ext, h.mext, h.vw, fun y hy => h.low y (hs.subset hy), fun y hy => h.blk y (hs.subset hy), fun y hy => h.hid y (hs.subset hy), h.apart.sublist hs⟩
theorem fin_aggP {P : Program} {fn : Func} {Post : Ending → World → Prop} {w m W mm : World} {Ls : List Lo} (hL : Loc w m W mm Ls) {p : Nat} {ty : TypeId} (hr : fn.results = #[.cell p ty]) {a : Act} (hdf : a.defers = []) {g : Nat}
    (hp : a.tmps.getD p undef = .pointer (some ⟨g, 0, none⟩)) {n : Nat} {t : TypeId} {cs : Array Value} (hn : Ls[n]? = some (g, t, cs)) {k : Nat} (hty : agS P ty = some k) (hk : cs.size = k) (h : Post (.returned (.agg cs)) W) :
    bodyPost P fn Post .ret a W := by
  subst hk
  obtain ⟨d, hu, hd, hi⟩ := ag_desc hty
  exact bodyPost_ret (results_cell_row hr _ _ g t cs (0, 0) d hp (hL.at_ hn) hu (by cases d <;> first | rfl | exact hd) hi) hdf h
theorem q_AddZero (a : Value) (q : Rat) (w m : World) (hV : Vw m w) (ha : FracC m a q) (hs : Sm q.num q.den) :
    Calls Tryz.prog 72 #[a, .agg #[.bool false, .slice none 0 0, .bool false, .slice none 0 0]] w (RetV w m fun m' r => FracC m' r q) := by
  have h := q_Add a _ q.num q.den 0 0 w m hV (ha.toS hs) (frac0 m) hs ⟨by decide, by decide⟩
  rwa [add0] at h

set_option maxRecDepth 100000 in
set_option maxHeartbeats 16000000 in
theorem l_copyPrices (v : Value) (p : Pr) (w m : World) (hV : Vw m w) (h : PricesR m v p) (ok : p.ok) : Calls Tryz.prog 84 #[v] w (CopyPost w m p) := by
  obtain ⟨fl, cu, cd, de, fr⟩ := p
  obtain ⟨a, b, c, d, rfl, h1, h2, h3, h4⟩ := h
  simp only at h1 h2 h3 h4
  obtain ⟨A1, c1, rfl, hc1, h1⟩ := h1.lit
  obtain ⟨A2, c2, rfl, hc2, h2⟩ := h2.lit
  obtain ⟨A3, c3, rfl, hc3, h3⟩ := h3.lit
  obtain ⟨A4, c4, rfl, hc4, h4⟩ := h4.lit
  have OK := Lib.hid ok
  have hnf : fl.length ≤ 1000000 := by have := ok.nf; simp only at this; omega
  have hnc : cu.length ≤ 1000000 := by have := ok.nc; simp only at this; omega
  have hnd : cd.length ≤ 1000000 := by have := ok.nd; simp only at this; omega
  clear ok
  generalize e1 : fl.length = nf at *
  generalize e2 : cu.length = nc at *
  generalize e3 : cd.length = nd at *
  have E1 := Lib.hid e1
  have E2 := Lib.hid e2
  have E3 := Lib.hid e3
  clear e1 e2 e3
  have hL := Loc.start hV
  clear hV
  go_enter Tryz.func84, Tryz.ntmps84
  go_upto_region 0 with (fail)
  refine wp_region_lit ?_
  refine t_box hL rfl rfl ?_; clear hL; intro Wh1 mh1 hL eh1; simp only [Act.put, zq1, zq2, zq3]
  refine t_alloc hL rfl ?_; clear hL; intro Wh2 mh2 hL eh2; simp only [Act.put, zq1, zq2, zq3]
  go_upto_region 1 with ((first | ((with_reducible refine kAny ?_); go_skip) | ((first | ((with_reducible refine kIx ?_); first | (refine t_ixa rfl rfl rfl ?_; (try simp only [Nat.mul_one])) | (refine t_ixaA rfl rfl rfl ?_; (try simp only [Nat.mul_one]))) | ((with_reducible refine kFd ?_); first | refine t_fda0 rfl rfl ?_ | (refine t_fda rfl rfl ?_; (try simp only [Nat.zero_add, Nat.reduceAdd]))) | ((with_reducible refine kLd ?_); first | refine t_loadR hL rfl rfl ?_ | refine t_loadW hL rfl rfl ?_ | refine t_load2 hL rfl rfl ?_ | refine t_load1 hL rfl rfl ?_ | refine t_loadV hL.vw rfl rfl ?_ | refine t_loadV1 hL.vw rfl rfl ?_) | ((with_reducible refine kSt ?_); first | (refine t_storeR hL rfl rfl rfl ?_; clear hL; intro _ hL; simp only [zq2, zq3] at hL) | ((first | refine t_store hL rfl rfl rfl ?_ | refine t_sts hL rfl rfl rfl ?_ | refine t_sti hL rfl rfl rfl ?_ | refine t_stb hL rfl rfl rfl ?_ | refine t_store1 hL rfl rfl rfl ?_); clear hL; intro _ hL; simp only [splice, zq1, zq2, zq3] at hL)) | ((with_reducible refine kBx ?_); (refine t_box hL rfl rfl ?_; clear hL; intro _ _ hL _)) | ((with_reducible refine kAl ?_); (refine t_alloc hL rfl ?_; clear hL; intro _ _ hL _))); simp only [Act.put, zq1, zq2, zq3])))
  obtain ⟨B, hB1, hB2, hB3⟩ := hL.bound
  refine wp_region_by2 19 [false, false, false, false, false, false, false, false, false, false, false, false, false, false, false, false, false, false, true] [false, false, false, false, false, false, false, false, false, false, false, false, false, false, false, false, false, false, false] [(fun v _ _ => v = ?c1_0), (fun v _ _ => v = ?c1_1), (fun v _ _ => v = ?c1_2), NewRow B 39 (madeCells #[.bool false, .slice none 0 0, .bool false, .slice none 0 0] (nf * 4)) nf, (fun v _ _ => v = ?c1_4), (fun v _ _ => v = ?c1_5), (fun v _ _ => v = ?c1_6), NewRow B 34 (madeCells #[.slice none 0 0, .int .i64 0] (nc * 2)) nc, (fun v _ _ => v = ?c1_8), (fun v _ _ => v = ?c1_9), (fun v _ _ => v = ?c1_10), NewRow B 39 (madeCells #[.bool false, .slice none 0 0, .bool false, .slice none 0 0] (nd * 4)) nd, (fun v _ _ => v = ?c1_12), (fun v _ _ => v = ?c1_13), Of (fun um v => DecL um v de), (fun v _ _ => v = ?c1_15), (fun v _ _ => v = ?c1_16), (PrB B nf nc nd de fr), NewBlk B 31 #[.slice none 0 0, .slice none 0 0, .slice none 0 0, .slice none 0 0, .bool false]] hL.vw mixed [10, 11, 12, 13, 14, 15, 16, 17, 18, 19, 20, 21, 22, 23, 24, 25, 26, 27, 3] _ (by kernel_rfl) (fun vs => by simp only [lay, Act.put, zq1, zq2, zq3]; rfl) (by kernel_rfl) (by decide) (by decide) ?s1 ?l1 ?r1
  case s1 =>
    refine ⟨?_, ?_, ?_, ?_, ?_, ?_, ?_, ?_, ?_, ?_, ?_, ?_, ?_, ?_, ?_, ?_, ?_, ?_, ?_, trivial⟩
    · intro vs W1 m1 hE hM hV hD
      clear hD
      replace hL := hL.call hE hM hV
      exact sFd
    · intro vs W1 m1 hE hM hV hD
      obtain ⟨⟨_, _, -, -, f10⟩, -⟩ := hD
      have f10 : vs 10 = _ := f10
      generalize vs 10 = x10 at f10 ⊢
      subst x10
      replace hL := hL.call hE hM hV
      exact sLd
    · intro vs W1 m1 hE hM hV hD
      obtain ⟨⟨_, _, -, -, f11⟩, -⟩ := hD
      have f11 : vs 11 = _ := f11
      generalize vs 11 = x11 at f11 ⊢
      subst x11
      replace hL := hL.call hE hM hV
      go_wp2_with (first | ((with_reducible refine kAny ?_); go_skip) | ((first | ((with_reducible refine kIx ?_); first | (refine t_ixa rfl rfl rfl ?_; (try simp only [Nat.mul_one])) | (refine t_ixaA rfl rfl rfl ?_; (try simp only [Nat.mul_one]))) | ((with_reducible refine kFd ?_); first | refine t_fda0 rfl rfl ?_ | (refine t_fda rfl rfl ?_; (try simp only [Nat.zero_add, Nat.reduceAdd]))) | ((with_reducible refine kLd ?_); first | refine t_loadR hL rfl rfl ?_ | refine t_loadW hL rfl rfl ?_ | refine t_load2 hL rfl rfl ?_ | refine t_load1 hL rfl rfl ?_ | refine t_loadV hL.vw rfl rfl ?_ | refine t_loadV1 hL.vw rfl rfl ?_) | ((with_reducible refine kSt ?_); first | (refine t_storeR hL rfl rfl rfl ?_; clear hL; intro _ hL; simp only [zq2, zq3] at hL) | ((first | refine t_store hL rfl rfl rfl ?_ | refine t_sts hL rfl rfl rfl ?_ | refine t_sti hL rfl rfl rfl ?_ | refine t_stb hL rfl rfl rfl ?_ | refine t_store1 hL rfl rfl rfl ?_); clear hL; intro _ hL; simp only [splice, zq1, zq2, zq3] at hL)) | ((with_reducible refine kBx ?_); (refine t_box hL rfl rfl ?_; clear hL; intro _ _ hL _)) | ((with_reducible refine kAl ?_); (refine t_alloc hL rfl ?_; clear hL; intro _ _ hL _))); simp only [Act.put, zq1, zq2, zq3]))
      refine One2.still hV ?_; exact rfl
    · intro vs W1 m1 hE hM hV hD
      obtain ⟨⟨_, _, -, -, f12⟩, -, -⟩ := hD
      have f12 : vs 12 = _ := f12
      generalize vs 12 = x12 at f12 ⊢
      subst x12
      exact one2_make hV (Nat.le_trans hB3 hE.size) rfl rfl rfl ap_Fracs zc_Frac rfl (hnf) (by omega)
    · intro vs W1 m1 hE hM hV hD
      clear hD
      replace hL := hL.call hE hM hV
      exact sFd
    · intro vs W1 m1 hE hM hV hD
      obtain ⟨⟨_, _, -, -, f14⟩, -⟩ := hD
      have f14 : vs 14 = _ := f14
      generalize vs 14 = x14 at f14 ⊢
      subst x14
      replace hL := hL.call hE hM hV
      exact sLd
    · intro vs W1 m1 hE hM hV hD
      obtain ⟨⟨_, _, -, -, f15⟩, -⟩ := hD
      have f15 : vs 15 = _ := f15
      generalize vs 15 = x15 at f15 ⊢
      subst x15
      replace hL := hL.call hE hM hV
      go_wp2_with (first | ((with_reducible refine kAny ?_); go_skip) | ((first | ((with_reducible refine kIx ?_); first | (refine t_ixa rfl rfl rfl ?_; (try simp only [Nat.mul_one])) | (refine t_ixaA rfl rfl rfl ?_; (try simp only [Nat.mul_one]))) | ((with_reducible refine kFd ?_); first | refine t_fda0 rfl rfl ?_ | (refine t_fda rfl rfl ?_; (try simp only [Nat.zero_add, Nat.reduceAdd]))) | ((with_reducible refine kLd ?_); first | refine t_loadR hL rfl rfl ?_ | refine t_loadW hL rfl rfl ?_ | refine t_load2 hL rfl rfl ?_ | refine t_load1 hL rfl rfl ?_ | refine t_loadV hL.vw rfl rfl ?_ | refine t_loadV1 hL.vw rfl rfl ?_) | ((with_reducible refine kSt ?_); first | (refine t_storeR hL rfl rfl rfl ?_; clear hL; intro _ hL; simp only [zq2, zq3] at hL) | ((first | refine t_store hL rfl rfl rfl ?_ | refine t_sts hL rfl rfl rfl ?_ | refine t_sti hL rfl rfl rfl ?_ | refine t_stb hL rfl rfl rfl ?_ | refine t_store1 hL rfl rfl rfl ?_); clear hL; intro _ hL; simp only [splice, zq1, zq2, zq3] at hL)) | ((with_reducible refine kBx ?_); (refine t_box hL rfl rfl ?_; clear hL; intro _ _ hL _)) | ((with_reducible refine kAl ?_); (refine t_alloc hL rfl ?_; clear hL; intro _ _ hL _))); simp only [Act.put, zq1, zq2, zq3]))
      refine One2.still hV ?_; exact rfl
    · intro vs W1 m1 hE hM hV hD
      obtain ⟨⟨_, _, -, -, f16⟩, -, -⟩ := hD
      have f16 : vs 16 = _ := f16
      generalize vs 16 = x16 at f16 ⊢
      subst x16
      exact one2_make hV (Nat.le_trans hB3 hE.size) rfl rfl rfl ap_Cuts zc_Cut rfl (hnc) (by omega)
    · intro vs W1 m1 hE hM hV hD
      clear hD
      replace hL := hL.call hE hM hV
      exact sFd
    · intro vs W1 m1 hE hM hV hD
      obtain ⟨⟨_, _, -, -, f18⟩, -⟩ := hD
      have f18 : vs 18 = _ := f18
      generalize vs 18 = x18 at f18 ⊢
      subst x18
      replace hL := hL.call hE hM hV
      exact sLd
    · intro vs W1 m1 hE hM hV hD
      obtain ⟨⟨_, _, -, -, f19⟩, -⟩ := hD
      have f19 : vs 19 = _ := f19
      generalize vs 19 = x19 at f19 ⊢
      subst x19
      replace hL := hL.call hE hM hV
      go_wp2_with (first | ((with_reducible refine kAny ?_); go_skip) | ((first | ((with_reducible refine kIx ?_); first | (refine t_ixa rfl rfl rfl ?_; (try simp only [Nat.mul_one])) | (refine t_ixaA rfl rfl rfl ?_; (try simp only [Nat.mul_one]))) | ((with_reducible refine kFd ?_); first | refine t_fda0 rfl rfl ?_ | (refine t_fda rfl rfl ?_; (try simp only [Nat.zero_add, Nat.reduceAdd]))) | ((with_reducible refine kLd ?_); first | refine t_loadR hL rfl rfl ?_ | refine t_loadW hL rfl rfl ?_ | refine t_load2 hL rfl rfl ?_ | refine t_load1 hL rfl rfl ?_ | refine t_loadV hL.vw rfl rfl ?_ | refine t_loadV1 hL.vw rfl rfl ?_) | ((with_reducible refine kSt ?_); first | (refine t_storeR hL rfl rfl rfl ?_; clear hL; intro _ hL; simp only [zq2, zq3] at hL) | ((first | refine t_store hL rfl rfl rfl ?_ | refine t_sts hL rfl rfl rfl ?_ | refine t_sti hL rfl rfl rfl ?_ | refine t_stb hL rfl rfl rfl ?_ | refine t_store1 hL rfl rfl rfl ?_); clear hL; intro _ hL; simp only [splice, zq1, zq2, zq3] at hL)) | ((with_reducible refine kBx ?_); (refine t_box hL rfl rfl ?_; clear hL; intro _ _ hL _)) | ((with_reducible refine kAl ?_); (refine t_alloc hL rfl ?_; clear hL; intro _ _ hL _))); simp only [Act.put, zq1, zq2, zq3]))
      refine One2.still hV ?_; exact rfl
    · intro vs W1 m1 hE hM hV hD
      obtain ⟨⟨_, _, -, -, f20⟩, -, -⟩ := hD
      have f20 : vs 20 = _ := f20
      generalize vs 20 = x20 at f20 ⊢
      subst x20
      exact one2_make hV (Nat.le_trans hB3 hE.size) rfl rfl rfl ap_Fracs zc_Frac rfl (hnd) (by omega)
    · intro vs W1 m1 hE hM hV hD
      clear hD
      replace hL := hL.call hE hM hV
      exact sFd
    · intro vs W1 m1 hE hM hV hD
      obtain ⟨⟨_, _, -, -, f22⟩, -⟩ := hD
      have f22 : vs 22 = _ := f22
      generalize vs 22 = x22 at f22 ⊢
      subst x22
      replace hL := hL.call hE hM hV
      exact sLd
    · intro vs W1 m1 hE hM hV hD
      obtain ⟨⟨_, _, -, -, f23⟩, -⟩ := hD
      have f23 : vs 23 = _ := f23
      generalize vs 23 = x23 at f23 ⊢
      subst x23
      go_wp2_with fail
      refine (s_CloneDecs _ de _ _ hV (DecL.le h4 leX) OK.out.ne).mono ?_
      rintro e W2 ⟨v, m2, rfl, hE2, hM2, hV2, h⟩
      go_wp2_with fail
      refine One2.call hE2 hM2 hV2 ?_; first | exact h | exact rfl
    · intro vs W1 m1 hE hM hV hD
      clear hD
      replace hL := hL.call hE hM hV
      exact sFd
    · intro vs W1 m1 hE hM hV hD
      obtain ⟨⟨_, _, -, -, f25⟩, -⟩ := hD
      have f25 : vs 25 = _ := f25
      generalize vs 25 = x25 at f25 ⊢
      subst x25
      replace hL := hL.call hE hM hV
      exact sLd
    · intro vs W1 m1 hE hM hV hD
      obtain ⟨⟨_, _, j13, i13, f13⟩, ⟨_, _, j17, i17, f17⟩, ⟨_, _, j21, i21, f21⟩, ⟨_, _, -, i24, f24⟩, ⟨_, _, -, -, f26⟩, -⟩ := hD
      have f26 : vs 26 = _ := f26
      generalize vs 26 = x26 at f26 ⊢
      subst x26
      have f24 : DecL _ (vs 24) de := f24
      replace f24 := f24.le i24.le
      clear i24
      (obtain ⟨g13, x13, r13⟩ := f13.ext j13 i13; obtain ⟨g17, x17, r17⟩ := f17.ext j17 i17; obtain ⟨g21, x21, r21⟩ := f21.ext j21 i21; obtain ⟨A24, c24, x24, hc24, f24⟩ := f24.lit; generalize vs 13 = y13 at x13 ⊢; subst y13; generalize vs 17 = y17 at x17 ⊢; subst y17; generalize vs 21 = y21 at x21 ⊢; subst y21; generalize vs 24 = y24 at x24 ⊢; subst y24; go_wp2_with fail; refine One2.still hV ?_; exact ⟨_, _, _, _, rfl, ⟨_, rfl, r13⟩, ⟨_, rfl, r17⟩, ⟨_, rfl, r21⟩, f24⟩)
    · intro vs W1 m1 hE hM hV hD
      clear hD
      exact one2_alloc hV (Nat.le_trans hB3 hE.size) rfl rfl rfl ZcC.h
  case l1 =>
    refine ⟨fun h => (by cases h), fun h => (by cases h), fun h => (by cases h), fun h => (by cases h), fun h => (by cases h), fun h => (by cases h), fun h => (by cases h), fun h => (by cases h), fun h => (by cases h), fun h => (by cases h), fun h => (by cases h), fun h => (by cases h), fun h => (by cases h), fun h => (by cases h), fun h => (by cases h), fun h => (by cases h), fun h => (by cases h), fun h => (by cases h), fun h => (by cases h), trivial⟩
  intro vs W1 m1 hE hM hV hF hD
  obtain ⟨-, -, -, -, -, -, -, -, -, -, -, -, -, -, ⟨_, _, -, i24, f24⟩, -, -, ⟨_, _, j27, i27, f27⟩, ⟨_, _, j3, i3, f3⟩, -⟩ := hF
  replace hL := hL.call hE hM hV
  replace f24 : DecL _ (vs 24) de := f24
  replace f24 := f24.le i24.le
  clear i24
  obtain ⟨b3, e3, hL⟩ := Loc.addB (Lt := []) hB1 hB2 hL f3 j3 i3 ad0
  simp only [e3, List.cons_append, List.nil_append] at hL ⊢
  clear e3 f3 j3 i3
  clear hD
  clear hE hV
  obtain ⟨_, _, _, s, e27, ⟨g1, rfl, r1, r2, r3, r4⟩, ⟨g2, rfl, s1, s2, s3, s4⟩, ⟨g3, rfl, t1, t2, t3, t4⟩, hd4⟩ := f27
  generalize vs 27 = x27 at e27 ⊢
  subst x27
  obtain ⟨A5, c5, rfl, hc5, hd4⟩ := (DecL.le hd4 i27.le).lit
  have q1 := r3.ext j27
  have q2 := s3.ext j27
  have q3 := t3.ext j27
  replace hL := Loc.add2 (Lt := [_]) hB1 hB2 hL t1 t2 t3 t4 j27 i27 (neS (blk_ne q3 (hL.at_ lo0) (.inl (by decide))) ne0)
  replace hL := Loc.add2 (Lt := [_, _]) hB1 hB2 hL s1 s2 s3 s4 j27 i27 (neS (blk_ne q2 q3 (.inl (by decide))) (neS (blk_ne q2 (hL.at_ lo1) (.inl (by decide))) ne0))
  replace hL := Loc.add2 (Lt := [_, _, _]) hB1 hB2 hL r1 r2 r3 r4 j27 i27 (neS (blk_ne q1 q2 (.inl (by decide))) (neS (blk_ne q1 q3 (.inr (by rw [size_madeCells, size_madeCells]; have := OK.out.ap; simp only [E1.out, E3.out] at this; omega))) (neS (blk_ne q1 (hL.at_ lo2) (.inl (by decide))) ne0)))
  simp only [List.cons_append, List.nil_append] at hL
  clear q1 q2 q3 r1 r2 r3 r4 s1 s2 s3 s4 t1 t2 t3 t4 j27 i27 hB1 hB2 hB3
  simp only [List.drop_succ_cons, List.drop_zero]
  go_wp2_with (first | ((with_reducible refine kAny ?_); go_skip) | ((first | ((with_reducible refine kIx ?_); first | (refine t_ixa rfl rfl rfl ?_; (try simp only [Nat.mul_one])) | (refine t_ixaA rfl rfl rfl ?_; (try simp only [Nat.mul_one]))) | ((with_reducible refine kFd ?_); first | refine t_fda0 rfl rfl ?_ | (refine t_fda rfl rfl ?_; (try simp only [Nat.zero_add, Nat.reduceAdd]))) | ((with_reducible refine kLd ?_); first | refine t_loadR hL rfl rfl ?_ | refine t_loadW hL rfl rfl ?_ | refine t_load2 hL rfl rfl ?_ | refine t_load1 hL rfl rfl ?_ | refine t_loadV hL.vw rfl rfl ?_ | refine t_loadV1 hL.vw rfl rfl ?_) | ((with_reducible refine kSt ?_); first | (refine t_storeR hL rfl rfl rfl ?_; clear hL; intro _ hL; simp only [zq2, zq3] at hL) | ((first | refine t_store hL rfl rfl rfl ?_ | refine t_sts hL rfl rfl rfl ?_ | refine t_sti hL rfl rfl rfl ?_ | refine t_stb hL rfl rfl rfl ?_ | refine t_store1 hL rfl rfl rfl ?_); clear hL; intro _ hL; simp only [splice, zq1, zq2, zq3] at hL)) | ((with_reducible refine kBx ?_); (refine t_box hL rfl rfl ?_; clear hL; intro _ _ hL _)) | ((with_reducible refine kAl ?_); (refine t_alloc hL rfl ?_; clear hL; intro _ _ hL _))); simp only [Act.put, zq1, zq2, zq3]))
  refine QN.mk ?_
  have r1 : FrRowP m1 0 (madeCells #[.bool false, .slice none 0 0, .bool false, .slice none 0 0] (nf * 4)) fl := RowP.zero (by rw [size_madeCells, E1.out])
  have r2 : CuRowP m1 0 (madeCells #[.slice none 0 0, .int .i64 0] (nc * 2)) cu := RowP.zero (by rw [size_madeCells, E2.out])
  have r3 : FrRowP m1 0 (madeCells #[.bool false, .slice none 0 0, .bool false, .slice none 0 0] (nd * 4)) cd := RowP.zero (by rw [size_madeCells, E3.out])
  generalize madeCells #[.bool false, .slice none 0 0, .bool false, .slice none 0 0] (nf * 4) = q1 at hL r1
  generalize madeCells #[.slice none 0 0, .int .i64 0] (nc * 2) = q2 at hL r2
  generalize madeCells #[.bool false, .slice none 0 0, .bool false, .slice none 0 0] (nd * 4) = q3 at hL r3
  go_wp2_with (first | ((with_reducible refine kAny ?_); go_skip) | ((first | ((with_reducible refine kIx ?_); first | (refine t_ixa rfl rfl rfl ?_; (try simp only [Nat.mul_one])) | (refine t_ixaA rfl rfl rfl ?_; (try simp only [Nat.mul_one]))) | ((with_reducible refine kFd ?_); first | refine t_fda0 rfl rfl ?_ | (refine t_fda rfl rfl ?_; (try simp only [Nat.zero_add, Nat.reduceAdd]))) | ((with_reducible refine kLd ?_); first | refine t_loadR hL rfl rfl ?_ | refine t_loadW hL rfl rfl ?_ | refine t_load2 hL rfl rfl ?_ | refine t_load1 hL rfl rfl ?_ | refine t_loadV hL.vw rfl rfl ?_ | refine t_loadV1 hL.vw rfl rfl ?_) | ((with_reducible refine kSt ?_); first | (refine t_storeR hL rfl rfl rfl ?_; clear hL; intro _ hL; simp only [zq2, zq3] at hL) | ((first | refine t_store hL rfl rfl rfl ?_ | refine t_sts hL rfl rfl rfl ?_ | refine t_sti hL rfl rfl rfl ?_ | refine t_stb hL rfl rfl rfl ?_ | refine t_store1 hL rfl rfl rfl ?_); clear hL; intro _ hL; simp only [splice, zq1, zq2, zq3] at hL)) | ((with_reducible refine kBx ?_); (refine t_box hL rfl rfl ?_; clear hL; intro _ _ hL _)) | ((with_reducible refine kAl ?_); (refine t_alloc hL rfl ?_; clear hL; intro _ _ hL _))); simp only [Act.put, zq1, zq2, zq3]))
  go_loopw [31] (fun i wr => ∃ (k : Nat) (mm : World) (cur : Array Value), k ≤ nf ∧ i = .int .i64 k ∧ Loc w m wr mm [(g1, 39, cur), (g2, 34, q2), (g3, 39, q3), (b3, 31, #[.slice (some ⟨g1, 0, none⟩) nf nf, .slice (some ⟨g2, 0, none⟩) nc nc, .slice (some ⟨g3, 0, none⟩) nd nd, .slice A5 de.length c5, .bool fr]), (Wh1.heap.size, 31, #[.slice none 0 0, .slice none 0 0, .slice none 0 0, .slice none 0 0, .bool false]), (w.heap.size, 31, #[.slice A1 nf c1, .slice A2 nc c2, .slice A3 nd c3, .slice A4 de.length c4, .bool fr])] ∧ FrRowP mm k cur fl ∧ Ext m1 mm) (fun i _ => nf - (intOf i).toNat)
  case atStart => exact ⟨0, m1, _, Nat.zero_le _, rfl, hL, r1, Ext.refl _⟩
  case round =>
    clear hL r1
    obtain ⟨k, mm, cur, hk, rfl, hL, r1, hX⟩ := hrel
    have hM := hL.mext
    by_cases hlt : k < nf
    · obtain ⟨x, hx⟩ := at_some E1 hlt
      obtain ⟨b1, o1, g1', A1', n1, c1', g1'', B1, k1, d1, hA, ha1, hr1⟩ := FracL.at_ h1 hx
      replace hA := Lib.hid hA
      have hS : Hid (Sm x.num x.den) := OK.out.fl x (List.mem_of_getElem? hx)
      have HX := Lib.hid hx
      have hfit : 0 + k * 4 + 4 ≤ cur.size := by rw [r1.1, E1.out]; omega
      have R1 := Lib.hid r1
      clear hx r1
      go_upto_region 5 with ((first | ((with_reducible refine kAny ?_); go_skip) | ((first | ((with_reducible refine kIx ?_); first | (refine t_ixa rfl rfl rfl ?_; (try simp only [Nat.mul_one])) | (refine t_ixaA rfl rfl rfl ?_; (try simp only [Nat.mul_one]))) | ((with_reducible refine kFd ?_); first | refine t_fda0 rfl rfl ?_ | (refine t_fda rfl rfl ?_; (try simp only [Nat.zero_add, Nat.reduceAdd]))) | ((with_reducible refine kLd ?_); first | refine t_loadR hL rfl rfl ?_ | refine t_loadW hL rfl rfl ?_ | refine t_load2 hL rfl rfl ?_ | refine t_load1 hL rfl rfl ?_ | refine t_loadV hL.vw rfl rfl ?_ | refine t_loadV1 hL.vw rfl rfl ?_) | ((with_reducible refine kSt ?_); first | (refine t_storeR hL rfl rfl rfl ?_; clear hL; intro _ hL; simp only [zq2, zq3] at hL) | ((first | refine t_store hL rfl rfl rfl ?_ | refine t_sts hL rfl rfl rfl ?_ | refine t_sti hL rfl rfl rfl ?_ | refine t_stb hL rfl rfl rfl ?_ | refine t_store1 hL rfl rfl rfl ?_); clear hL; intro _ hL; simp only [splice, zq1, zq2, zq3] at hL)) | ((with_reducible refine kBx ?_); (refine t_box hL rfl rfl ?_; clear hL; intro _ _ hL _)) | ((with_reducible refine kAl ?_); (refine t_alloc hL rfl ?_; clear hL; intro _ _ hL _))); simp only [Act.put, zq1, zq2, zq3])))
      (try simp only [eq_self] at *)
      refine wp_region_by2 7 [false, false, false, false, false, false, false] [false, false, false, false, false, false, false] [(fun v _ _ => v = ?c5_0), (fun v _ _ => v = ?c5_1), (fun v _ _ => v = ?c5_2), (fun v _ _ => v = ?c5_3), (fun v _ _ => v = ?c5_4), Of (fun um v => FracC um v x), (fun v _ _ => v = ?c5_6)] hL.vw mixed [36, 37, 38, 39, 40, 41, 42] _ (by kernel_rfl) (fun vs => by simp only [lay, Act.put, zq1, zq2, zq3]; rfl) (by kernel_rfl) (by decide) (by decide) ?s5 ?l5 ?r5
      case s5 =>
        refine ⟨?_, ?_, ?_, ?_, ?_, ?_, ?_, trivial⟩
        · intro vs W1 m1 hE hM hV hD
          clear hD
          replace hL := hL.call hE hM hV
          exact sFd
        · intro vs W1 m1 hE hM hV hD
          obtain ⟨⟨_, _, -, -, f36⟩, -⟩ := hD
          have f36 : vs 36 = _ := f36
          generalize vs 36 = x36 at f36 ⊢
          subst x36
          replace hL := hL.call hE hM hV
          exact sLd
        · intro vs W1 m1 hE hM hV hD
          clear hD
          replace hL := hL.call hE hM hV
          exact sPu
        · intro vs W1 m1 hE hM hV hD
          clear hD
          replace hL := hL.call hE hM hV
          exact sLd
        · intro vs W1 m1 hE hM hV hD
          clear hD
          replace hL := hL.call hE hM hV
          exact sPu
        · intro vs W1 m1 hE hM hV hD
          obtain ⟨⟨_, _, -, -, f39⟩, ⟨_, _, -, -, f40⟩, -⟩ := hD
          have f39 : vs 39 = _ := f39
          generalize vs 39 = x39 at f39 ⊢
          subst x39
          have f40 : vs 40 = _ := f40
          generalize vs 40 = x40 at f40 ⊢
          subst x40
          go_wp2_with fail
          refine (q_AddZero _ x _ _ hV (ha1.le leX) hS.out).mono ?_
          rintro e W2 ⟨v, m2, rfl, hE2, hM2, hV2, h⟩
          go_wp2_with fail
          refine One2.call hE2 hM2 hV2 ?_; first | exact h | exact rfl
        · intro vs W1 m1 hE hM hV hD
          obtain ⟨⟨_, _, -, -, f37⟩, ⟨_, _, -, -, f38⟩, -, -, -, -, -, -, -⟩ := hD
          have f37 : vs 37 = _ := f37
          generalize vs 37 = x37 at f37 ⊢
          subst x37
          have f38 : vs 38 = _ := f38
          generalize vs 38 = x38 at f38 ⊢
          subst x38
          replace hL := hL.call hE hM hV
          exact sIx
      case l5 =>
        refine ⟨fun h => (by cases h), fun h => (by cases h), fun h => (by cases h), fun h => (by cases h), fun h => (by cases h), fun h => (by cases h), fun h => (by cases h), trivial⟩
      intro vs W1 m1 hE hM hV hF hD
      clear hD
      obtain ⟨-, -, -, -, -, ⟨_, _, -, i41, f41⟩, ⟨_, _, -, -, f42⟩, -⟩ := hF
      replace hL := hL.call hE hM hV
      replace f41 : FracC _ (vs 41) x := f41
      replace f41 := f41.le i41.le
      clear i41
      obtain ⟨g41, A41, n41, c41, h41, B41, k41, d41, e41, f41⟩ := f41.lit
      generalize vs 41 = x41 at e41 ⊢
      subst x41
      have f42 : vs 42 = _ := f42
      generalize vs 42 = x42 at f42 ⊢
      subst x42
      clear hE hV
      simp only [List.drop_succ_cons, List.drop_zero]
      go_wp2_with (first | ((with_reducible refine kAny ?_); go_skip) | ((first | ((with_reducible refine kIx ?_); first | (refine t_ixa rfl rfl rfl ?_; (try simp only [Nat.mul_one])) | (refine t_ixaA rfl rfl rfl ?_; (try simp only [Nat.mul_one]))) | ((with_reducible refine kFd ?_); first | refine t_fda0 rfl rfl ?_ | (refine t_fda rfl rfl ?_; (try simp only [Nat.zero_add, Nat.reduceAdd]))) | ((with_reducible refine kLd ?_); first | refine t_loadR hL rfl rfl ?_ | refine t_loadW hL rfl rfl ?_ | refine t_load2 hL rfl rfl ?_ | refine t_load1 hL rfl rfl ?_ | refine t_loadV hL.vw rfl rfl ?_ | refine t_loadV1 hL.vw rfl rfl ?_) | ((with_reducible refine kSt ?_); first | (refine t_storeR hL rfl rfl rfl ?_; clear hL; intro _ hL; simp only [zq2, zq3] at hL) | ((first | refine t_store hL rfl rfl rfl ?_ | refine t_sts hL rfl rfl rfl ?_ | refine t_sti hL rfl rfl rfl ?_ | refine t_stb hL rfl rfl rfl ?_ | refine t_store1 hL rfl rfl rfl ?_); clear hL; intro _ hL; simp only [splice, zq1, zq2, zq3] at hL)) | ((with_reducible refine kBx ?_); (refine t_box hL rfl rfl ?_; clear hL; intro _ _ hL _)) | ((with_reducible refine kAl ?_); (refine t_alloc hL rfl ?_; clear hL; intro _ _ hL _))); simp only [Act.put, zq1, zq2, zq3]))
      refine QN.mk ?_
      go_wp2_with (first | ((with_reducible refine kAny ?_); go_skip) | ((first | ((with_reducible refine kIx ?_); first | (refine t_ixa rfl rfl rfl ?_; (try simp only [Nat.mul_one])) | (refine t_ixaA rfl rfl rfl ?_; (try simp only [Nat.mul_one]))) | ((with_reducible refine kFd ?_); first | refine t_fda0 rfl rfl ?_ | (refine t_fda rfl rfl ?_; (try simp only [Nat.zero_add, Nat.reduceAdd]))) | ((with_reducible refine kLd ?_); first | refine t_loadR hL rfl rfl ?_ | refine t_loadW hL rfl rfl ?_ | refine t_load2 hL rfl rfl ?_ | refine t_load1 hL rfl rfl ?_ | refine t_loadV hL.vw rfl rfl ?_ | refine t_loadV1 hL.vw rfl rfl ?_) | ((with_reducible refine kSt ?_); first | (refine t_storeR hL rfl rfl rfl ?_; clear hL; intro _ hL; simp only [zq2, zq3] at hL) | ((first | refine t_store hL rfl rfl rfl ?_ | refine t_sts hL rfl rfl rfl ?_ | refine t_sti hL rfl rfl rfl ?_ | refine t_stb hL rfl rfl rfl ?_ | refine t_store1 hL rfl rfl rfl ?_); clear hL; intro _ hL; simp only [splice, zq1, zq2, zq3] at hL)) | ((with_reducible refine kBx ?_); (refine t_box hL rfl rfl ?_; clear hL; intro _ _ hL _)) | ((with_reducible refine kAl ?_); (refine t_alloc hL rfl ?_; clear hL; intro _ _ hL _))); simp only [Act.put, zq1, zq2, zq3]))
      go_roundw
      case rel => exact ⟨k + 1, _, _, by omega, by go_num, hL.tail, (RowP.le FracC.mono R1.out leX).step HX.out rfl f41, exX⟩
      case measure => simp [intOf] <;> omega
    · replace r1 : Hid (FrRow mm cur fl) := r1.done E1.out hlt
      replace r2 : CuRowP mm 0 q2 cu := RowP.le CutR.mono r2 hX.le
      replace r3 : FrRowP mm 0 q3 cd := RowP.le FracC.mono r3 hX.le
      replace hd4 : DecL mm (.slice A5 de.length c5) de := DecL.le hd4 hX.le
      clear hX
      go_wp2_with (first | ((with_reducible refine kAny ?_); go_skip) | ((first | ((with_reducible refine kIx ?_); first | (refine t_ixa rfl rfl rfl ?_; (try simp only [Nat.mul_one])) | (refine t_ixaA rfl rfl rfl ?_; (try simp only [Nat.mul_one]))) | ((with_reducible refine kFd ?_); first | refine t_fda0 rfl rfl ?_ | (refine t_fda rfl rfl ?_; (try simp only [Nat.zero_add, Nat.reduceAdd]))) | ((with_reducible refine kLd ?_); first | refine t_loadR hL rfl rfl ?_ | refine t_loadW hL rfl rfl ?_ | refine t_load2 hL rfl rfl ?_ | refine t_load1 hL rfl rfl ?_ | refine t_loadV hL.vw rfl rfl ?_ | refine t_loadV1 hL.vw rfl rfl ?_) | ((with_reducible refine kSt ?_); first | (refine t_storeR hL rfl rfl rfl ?_; clear hL; intro _ hL; simp only [zq2, zq3] at hL) | ((first | refine t_store hL rfl rfl rfl ?_ | refine t_sts hL rfl rfl rfl ?_ | refine t_sti hL rfl rfl rfl ?_ | refine t_stb hL rfl rfl rfl ?_ | refine t_store1 hL rfl rfl rfl ?_); clear hL; intro _ hL; simp only [splice, zq1, zq2, zq3] at hL)) | ((with_reducible refine kBx ?_); (refine t_box hL rfl rfl ?_; clear hL; intro _ _ hL _)) | ((with_reducible refine kAl ?_); (refine t_alloc hL rfl ?_; clear hL; intro _ _ hL _))); simp only [Act.put, zq1, zq2, zq3]))
      clear hlt hk
      go_loopw [47] (fun i wr => ∃ (k : Nat) (m2 : World) (cur2 : Array Value), k ≤ nc ∧ i = .int .i64 k ∧ Loc w m wr m2 [(g1, 39, cur), (g2, 34, cur2), (g3, 39, q3), (b3, 31, #[.slice (some ⟨g1, 0, none⟩) nf nf, .slice (some ⟨g2, 0, none⟩) nc nc, .slice (some ⟨g3, 0, none⟩) nd nd, .slice A5 de.length c5, .bool fr]), (Wh1.heap.size, 31, #[.slice none 0 0, .slice none 0 0, .slice none 0 0, .slice none 0 0, .bool false]), (w.heap.size, 31, #[.slice A1 nf c1, .slice A2 nc c2, .slice A3 nd c3, .slice A4 de.length c4, .bool fr])] ∧ CuRowP m2 k cur2 cu ∧ Ext mm m2) (fun i _ => nc - (intOf i).toNat)
      case atStart => exact ⟨0, mm, _, Nat.zero_le _, rfl, hL, r2, Ext.refl _⟩
      case round =>
        clear hL r2
        obtain ⟨k2, m2, cur2, hk2, rfl, hL, r2, hX⟩ := hrel
        have hM2 := hL.mext
        by_cases hlt : k2 < nc
        · obtain ⟨⟨r, dv⟩, hx⟩ := at_some E2 hlt
          obtain ⟨b1, o1, A1', c1', hA, hs1, hl1, hc1', -, -, hr1⟩ := CutL.at_ h2 hx
          replace hA := Lib.hid hA
          have HL : Hid (r.length ≤ 1000) := OK.out.cu _ (List.mem_of_getElem? hx)
          have HX := Lib.hid hx
          have hfit : 0 + k2 * 2 + 2 ≤ cur2.size := by rw [r2.1, E2.out]; omega
          have R2 := Lib.hid r2
          simp only at hs1 hl1 hc1' hr1
          have hll := Lib.hid hl1
          clear hx r2 hl1
          go_upto_region 10 with ((first | ((with_reducible refine kAny ?_); go_skip) | ((first | ((with_reducible refine kIx ?_); first | (refine t_ixa rfl rfl rfl ?_; (try simp only [Nat.mul_one])) | (refine t_ixaA rfl rfl rfl ?_; (try simp only [Nat.mul_one]))) | ((with_reducible refine kFd ?_); first | refine t_fda0 rfl rfl ?_ | (refine t_fda rfl rfl ?_; (try simp only [Nat.zero_add, Nat.reduceAdd]))) | ((with_reducible refine kLd ?_); first | refine t_loadR hL rfl rfl ?_ | refine t_loadW hL rfl rfl ?_ | refine t_load2 hL rfl rfl ?_ | refine t_load1 hL rfl rfl ?_ | refine t_loadV hL.vw rfl rfl ?_ | refine t_loadV1 hL.vw rfl rfl ?_) | ((with_reducible refine kSt ?_); first | (refine t_storeR hL rfl rfl rfl ?_; clear hL; intro _ hL; simp only [zq2, zq3] at hL) | ((first | refine t_store hL rfl rfl rfl ?_ | refine t_sts hL rfl rfl rfl ?_ | refine t_sti hL rfl rfl rfl ?_ | refine t_stb hL rfl rfl rfl ?_ | refine t_store1 hL rfl rfl rfl ?_); clear hL; intro _ hL; simp only [splice, zq1, zq2, zq3] at hL)) | ((with_reducible refine kBx ?_); (refine t_box hL rfl rfl ?_; clear hL; intro _ _ hL _)) | ((with_reducible refine kAl ?_); (refine t_alloc hL rfl ?_; clear hL; intro _ _ hL _))); simp only [Act.put, zq1, zq2, zq3])))
          (try simp only [eq_self] at *)
          refine wp_region_by2 10 [false, false, false, false, false, false, false, false, false, false] [false, false, false, false, false, false, false, false, false, false] [(fun v _ _ => v = ?c10_0), (fun v _ _ => v = ?c10_1), (fun v _ _ => v = ?c10_2), (fun v _ _ => v = ?c10_3), (fun v _ _ => v = ?c10_4), Of (fun um v => IntL um v r), (fun v _ _ => v = ?c10_6), (fun v _ _ => v = ?c10_7), Of (fun um v => CutR um v (r, dv)), (fun v _ _ => v = ?c10_9)] hL.vw mixed [52, 53, 54, 55, 56, 57, 58, 59, 60, 61] _ (by kernel_rfl) (fun vs => by simp only [lay, Act.put, zq1, zq2, zq3]; rfl) (by kernel_rfl) (by decide) (by decide) ?s10 ?l10 ?r10
          case s10 =>
            refine ⟨?_, ?_, ?_, ?_, ?_, ?_, ?_, ?_, ?_, ?_, trivial⟩
            · intro vs W1 m1 hE hM hV hD
              clear hD
              replace hL := hL.call hE hM hV
              exact sFd
            · intro vs W1 m1 hE hM hV hD
              obtain ⟨⟨_, _, -, -, f52⟩, -⟩ := hD
              have f52 : vs 52 = _ := f52
              generalize vs 52 = x52 at f52 ⊢
              subst x52
              replace hL := hL.call hE hM hV
              exact sLd
            · intro vs W1 m1 hE hM hV hD
              clear hD
              replace hL := hL.call hE hM hV
              exact sPu
            · intro vs W1 m1 hE hM hV hD
              clear hD
              replace hL := hL.call hE hM hV
              exact sFd
            · intro vs W1 m1 hE hM hV hD
              obtain ⟨⟨_, _, -, -, f55⟩, -⟩ := hD
              have f55 : vs 55 = _ := f55
              generalize vs 55 = x55 at f55 ⊢
              subst x55
              replace hL := hL.call hE hM hV
              exact sLd
            · intro vs W1 m1 hE hM hV hD
              obtain ⟨⟨_, _, -, -, f56⟩, -⟩ := hD
              have f56 : vs 56 = _ := f56
              generalize vs 56 = x56 at f56 ⊢
              subst x56
              go_wp2_with fail
              refine (s_CloneInts _ r _ _ hV (IntL.le hs1 leX) HL.out).mono ?_
              rintro e W2 ⟨v, m2, rfl, hE2, hM2, hV2, h⟩
              go_wp2_with fail
              refine One2.call hE2 hM2 hV2 ?_; first | exact h | exact rfl
            · intro vs W1 m1 hE hM hV hD
              clear hD
              replace hL := hL.call hE hM hV
              exact sFd
            · intro vs W1 m1 hE hM hV hD
              obtain ⟨⟨_, _, -, -, f58⟩, -⟩ := hD
              have f58 : vs 58 = _ := f58
              generalize vs 58 = x58 at f58 ⊢
              subst x58
              replace hL := hL.call hE hM hV
              exact sLd
            · intro vs W1 m1 hE hM hV hD
              obtain ⟨⟨_, _, -, i57, f57⟩, ⟨_, _, -, -, f59⟩, -⟩ := hD
              have f59 : vs 59 = _ := f59
              generalize vs 59 = x59 at f59 ⊢
              subst x59
              have f57 : IntL _ (vs 57) r := f57
              replace f57 := f57.le i57.le
              clear i57
              (obtain ⟨A7, c7, e57, hc7, f57⟩ := f57.lit; generalize vs 57 = x57 at e57 ⊢; subst x57; go_wp2_with fail; refine One2.still hV ?_; exact ⟨_, rfl, f57, hll.out⟩)
            · intro vs W1 m1 hE hM hV hD
              obtain ⟨⟨_, _, -, -, f53⟩, ⟨_, _, -, -, f54⟩, -, -, -, -, -, -, -, -, -, -⟩ := hD
              have f53 : vs 53 = _ := f53
              generalize vs 53 = x53 at f53 ⊢
              subst x53
              have f54 : vs 54 = _ := f54
              generalize vs 54 = x54 at f54 ⊢
              subst x54
              replace hL := hL.call hE hM hV
              exact sIx
          case l10 =>
            refine ⟨fun h => (by cases h), fun h => (by cases h), fun h => (by cases h), fun h => (by cases h), fun h => (by cases h), fun h => (by cases h), fun h => (by cases h), fun h => (by cases h), fun h => (by cases h), fun h => (by cases h), trivial⟩
          intro vs W1 m1 hE hM hV hF hD
          clear hD
          obtain ⟨-, -, -, -, -, ⟨_, _, -, i57, f57⟩, -, -, ⟨_, _, -, i60, f60⟩, ⟨_, _, -, -, f61⟩, -⟩ := hF
          replace hL := hL.call hE hM hV
          replace f57 : IntL _ (vs 57) r := f57
          replace f57 := f57.le i57.le
          clear i57
          replace f60 : CutR _ (vs 60) (r, dv) := f60
          replace f60 := f60.le i60.le
          clear i60
          have f61 : vs 61 = _ := f61
          generalize vs 61 = x61 at f61 ⊢
          subst x61
          clear hE hV
          obtain ⟨s60, e60, k60, -⟩ := f60
          generalize vs 60 = x60 at e60 ⊢
          subst x60
          obtain ⟨A7, c7, rfl, hc7, k60⟩ := k60.lit
          simp only [List.drop_succ_cons, List.drop_zero]
          go_wp2_with (first | ((with_reducible refine kAny ?_); go_skip) | ((first | ((with_reducible refine kIx ?_); first | (refine t_ixa rfl rfl rfl ?_; (try simp only [Nat.mul_one])) | (refine t_ixaA rfl rfl rfl ?_; (try simp only [Nat.mul_one]))) | ((with_reducible refine kFd ?_); first | refine t_fda0 rfl rfl ?_ | (refine t_fda rfl rfl ?_; (try simp only [Nat.zero_add, Nat.reduceAdd]))) | ((with_reducible refine kLd ?_); first | refine t_loadR hL rfl rfl ?_ | refine t_loadW hL rfl rfl ?_ | refine t_load2 hL rfl rfl ?_ | refine t_load1 hL rfl rfl ?_ | refine t_loadV hL.vw rfl rfl ?_ | refine t_loadV1 hL.vw rfl rfl ?_) | ((with_reducible refine kSt ?_); first | (refine t_storeR hL rfl rfl rfl ?_; clear hL; intro _ hL; simp only [zq2, zq3] at hL) | ((first | refine t_store hL rfl rfl rfl ?_ | refine t_sts hL rfl rfl rfl ?_ | refine t_sti hL rfl rfl rfl ?_ | refine t_stb hL rfl rfl rfl ?_ | refine t_store1 hL rfl rfl rfl ?_); clear hL; intro _ hL; simp only [splice, zq1, zq2, zq3] at hL)) | ((with_reducible refine kBx ?_); (refine t_box hL rfl rfl ?_; clear hL; intro _ _ hL _)) | ((with_reducible refine kAl ?_); (refine t_alloc hL rfl ?_; clear hL; intro _ _ hL _))); simp only [Act.put, zq1, zq2, zq3]))
          refine QN.mk ?_
          go_wp2_with (first | ((with_reducible refine kAny ?_); go_skip) | ((first | ((with_reducible refine kIx ?_); first | (refine t_ixa rfl rfl rfl ?_; (try simp only [Nat.mul_one])) | (refine t_ixaA rfl rfl rfl ?_; (try simp only [Nat.mul_one]))) | ((with_reducible refine kFd ?_); first | refine t_fda0 rfl rfl ?_ | (refine t_fda rfl rfl ?_; (try simp only [Nat.zero_add, Nat.reduceAdd]))) | ((with_reducible refine kLd ?_); first | refine t_loadR hL rfl rfl ?_ | refine t_loadW hL rfl rfl ?_ | refine t_load2 hL rfl rfl ?_ | refine t_load1 hL rfl rfl ?_ | refine t_loadV hL.vw rfl rfl ?_ | refine t_loadV1 hL.vw rfl rfl ?_) | ((with_reducible refine kSt ?_); first | (refine t_storeR hL rfl rfl rfl ?_; clear hL; intro _ hL; simp only [zq2, zq3] at hL) | ((first | refine t_store hL rfl rfl rfl ?_ | refine t_sts hL rfl rfl rfl ?_ | refine t_sti hL rfl rfl rfl ?_ | refine t_stb hL rfl rfl rfl ?_ | refine t_store1 hL rfl rfl rfl ?_); clear hL; intro _ hL; simp only [splice, zq1, zq2, zq3] at hL)) | ((with_reducible refine kBx ?_); (refine t_box hL rfl rfl ?_; clear hL; intro _ _ hL _)) | ((with_reducible refine kAl ?_); (refine t_alloc hL rfl ?_; clear hL; intro _ _ hL _))); simp only [Act.put, zq1, zq2, zq3]))
          go_roundw
          case rel => exact ⟨k2 + 1, _, _, by omega, by go_num, hL.tail, (RowP.le CutR.mono R2.out leX).step HX.out rfl ⟨_, rfl, k60, hll.out⟩, exX⟩
          case measure => simp [intOf] <;> omega
        · replace r1 : Hid (FrRow m2 cur fl) := RowF.le FracC.mono r1.out hX.le
          replace r2 : Hid (RowF 2 CutR m2 cur2 cu) := r2.done E2.out hlt
          replace r3 : FrRowP m2 0 q3 cd := RowP.le FracC.mono r3 hX.le
          replace hd4 : DecL m2 (.slice A5 de.length c5) de := DecL.le hd4 hX.le
          clear hX
          go_wp2_with (first | ((with_reducible refine kAny ?_); go_skip) | ((first | ((with_reducible refine kIx ?_); first | (refine t_ixa rfl rfl rfl ?_; (try simp only [Nat.mul_one])) | (refine t_ixaA rfl rfl rfl ?_; (try simp only [Nat.mul_one]))) | ((with_reducible refine kFd ?_); first | refine t_fda0 rfl rfl ?_ | (refine t_fda rfl rfl ?_; (try simp only [Nat.zero_add, Nat.reduceAdd]))) | ((with_reducible refine kLd ?_); first | refine t_loadR hL rfl rfl ?_ | refine t_loadW hL rfl rfl ?_ | refine t_load2 hL rfl rfl ?_ | refine t_load1 hL rfl rfl ?_ | refine t_loadV hL.vw rfl rfl ?_ | refine t_loadV1 hL.vw rfl rfl ?_) | ((with_reducible refine kSt ?_); first | (refine t_storeR hL rfl rfl rfl ?_; clear hL; intro _ hL; simp only [zq2, zq3] at hL) | ((first | refine t_store hL rfl rfl rfl ?_ | refine t_sts hL rfl rfl rfl ?_ | refine t_sti hL rfl rfl rfl ?_ | refine t_stb hL rfl rfl rfl ?_ | refine t_store1 hL rfl rfl rfl ?_); clear hL; intro _ hL; simp only [splice, zq1, zq2, zq3] at hL)) | ((with_reducible refine kBx ?_); (refine t_box hL rfl rfl ?_; clear hL; intro _ _ hL _)) | ((with_reducible refine kAl ?_); (refine t_alloc hL rfl ?_; clear hL; intro _ _ hL _))); simp only [Act.put, zq1, zq2, zq3]))
          clear hlt hk2
          go_loopw [66] (fun i wr => ∃ (k : Nat) (m3 : World) (cur3 : Array Value), k ≤ nd ∧ i = .int .i64 k ∧ Loc w m wr m3 [(g1, 39, cur), (g2, 34, cur2), (g3, 39, cur3), (b3, 31, #[.slice (some ⟨g1, 0, none⟩) nf nf, .slice (some ⟨g2, 0, none⟩) nc nc, .slice (some ⟨g3, 0, none⟩) nd nd, .slice A5 de.length c5, .bool fr]), (Wh1.heap.size, 31, #[.slice none 0 0, .slice none 0 0, .slice none 0 0, .slice none 0 0, .bool false]), (w.heap.size, 31, #[.slice A1 nf c1, .slice A2 nc c2, .slice A3 nd c3, .slice A4 de.length c4, .bool fr])] ∧ FrRowP m3 k cur3 cd ∧ Ext m2 m3) (fun i _ => nd - (intOf i).toNat)
          case atStart => exact ⟨0, m2, _, Nat.zero_le _, rfl, hL, r3, Ext.refl _⟩
          case round =>
            clear hL r3
            obtain ⟨k3, m3, cur3, hk3, rfl, hL, r3, hX⟩ := hrel
            have hM3 := hL.mext
            by_cases hlt : k3 < nd
            · obtain ⟨x, hx⟩ := at_some E3 hlt
              obtain ⟨b1, o1, g1', A1', n1, c1', g1'', B1, k1, d1, hA, ha1, hr1⟩ := FracL.at_ h3 hx
              replace hA := Lib.hid hA
              have hS : Hid (Sm x.num x.den) := OK.out.cd x (List.mem_of_getElem? hx)
              have HX := Lib.hid hx
              have hfit : 0 + k3 * 4 + 4 ≤ cur3.size := by rw [r3.1, E3.out]; omega
              have R3 := Lib.hid r3
              clear hx r3
              go_upto_region 15 with ((first | ((with_reducible refine kAny ?_); go_skip) | ((first | ((with_reducible refine kIx ?_); first | (refine t_ixa rfl rfl rfl ?_; (try simp only [Nat.mul_one])) | (refine t_ixaA rfl rfl rfl ?_; (try simp only [Nat.mul_one]))) | ((with_reducible refine kFd ?_); first | refine t_fda0 rfl rfl ?_ | (refine t_fda rfl rfl ?_; (try simp only [Nat.zero_add, Nat.reduceAdd]))) | ((with_reducible refine kLd ?_); first | refine t_loadR hL rfl rfl ?_ | refine t_loadW hL rfl rfl ?_ | refine t_load2 hL rfl rfl ?_ | refine t_load1 hL rfl rfl ?_ | refine t_loadV hL.vw rfl rfl ?_ | refine t_loadV1 hL.vw rfl rfl ?_) | ((with_reducible refine kSt ?_); first | (refine t_storeR hL rfl rfl rfl ?_; clear hL; intro _ hL; simp only [zq2, zq3] at hL) | ((first | refine t_store hL rfl rfl rfl ?_ | refine t_sts hL rfl rfl rfl ?_ | refine t_sti hL rfl rfl rfl ?_ | refine t_stb hL rfl rfl rfl ?_ | refine t_store1 hL rfl rfl rfl ?_); clear hL; intro _ hL; simp only [splice, zq1, zq2, zq3] at hL)) | ((with_reducible refine kBx ?_); (refine t_box hL rfl rfl ?_; clear hL; intro _ _ hL _)) | ((with_reducible refine kAl ?_); (refine t_alloc hL rfl ?_; clear hL; intro _ _ hL _))); simp only [Act.put, zq1, zq2, zq3])))
              (try simp only [eq_self] at *)
              refine wp_region_by2 7 [false, false, false, false, false, false, false] [false, false, false, false, false, false, false] [(fun v _ _ => v = ?c15_0), (fun v _ _ => v = ?c15_1), (fun v _ _ => v = ?c15_2), (fun v _ _ => v = ?c15_3), (fun v _ _ => v = ?c15_4), Of (fun um v => FracC um v x), (fun v _ _ => v = ?c15_6)] hL.vw mixed [71, 72, 73, 74, 75, 76, 77] _ (by kernel_rfl) (fun vs => by simp only [lay, Act.put, zq1, zq2, zq3]; rfl) (by kernel_rfl) (by decide) (by decide) ?s15 ?l15 ?r15
              case s15 =>
                refine ⟨?_, ?_, ?_, ?_, ?_, ?_, ?_, trivial⟩
                · intro vs W1 m1 hE hM hV hD
                  clear hD
                  replace hL := hL.call hE hM hV
                  exact sFd
                · intro vs W1 m1 hE hM hV hD
                  obtain ⟨⟨_, _, -, -, f71⟩, -⟩ := hD
                  have f71 : vs 71 = _ := f71
                  generalize vs 71 = x71 at f71 ⊢
                  subst x71
                  replace hL := hL.call hE hM hV
                  exact sLd
                · intro vs W1 m1 hE hM hV hD
                  clear hD
                  replace hL := hL.call hE hM hV
                  exact sPu
                · intro vs W1 m1 hE hM hV hD
                  clear hD
                  replace hL := hL.call hE hM hV
                  exact sLd
                · intro vs W1 m1 hE hM hV hD
                  clear hD
                  replace hL := hL.call hE hM hV
                  exact sPu
                · intro vs W1 m1 hE hM hV hD
                  obtain ⟨⟨_, _, -, -, f74⟩, ⟨_, _, -, -, f75⟩, -⟩ := hD
                  have f74 : vs 74 = _ := f74
                  generalize vs 74 = x74 at f74 ⊢
                  subst x74
                  have f75 : vs 75 = _ := f75
                  generalize vs 75 = x75 at f75 ⊢
                  subst x75
                  go_wp2_with fail
                  refine (q_AddZero _ x _ _ hV (ha1.le leX) hS.out).mono ?_
                  rintro e W2 ⟨v, m2, rfl, hE2, hM2, hV2, h⟩
                  go_wp2_with fail
                  refine One2.call hE2 hM2 hV2 ?_; first | exact h | exact rfl
                · intro vs W1 m1 hE hM hV hD
                  obtain ⟨⟨_, _, -, -, f72⟩, ⟨_, _, -, -, f73⟩, -, -, -, -, -, -, -⟩ := hD
                  have f72 : vs 72 = _ := f72
                  generalize vs 72 = x72 at f72 ⊢
                  subst x72
                  have f73 : vs 73 = _ := f73
                  generalize vs 73 = x73 at f73 ⊢
                  subst x73
                  replace hL := hL.call hE hM hV
                  exact sIx
              case l15 =>
                refine ⟨fun h => (by cases h), fun h => (by cases h), fun h => (by cases h), fun h => (by cases h), fun h => (by cases h), fun h => (by cases h), fun h => (by cases h), trivial⟩
              intro vs W1 m1 hE hM hV hF hD
              clear hD
              obtain ⟨-, -, -, -, -, ⟨_, _, -, i76, f76⟩, ⟨_, _, -, -, f77⟩, -⟩ := hF
              replace hL := hL.call hE hM hV
              replace f76 : FracC _ (vs 76) x := f76
              replace f76 := f76.le i76.le
              clear i76
              obtain ⟨g76, A76, n76, c76, h76, B76, k76, d76, e76, f76⟩ := f76.lit
              generalize vs 76 = x76 at e76 ⊢
              subst x76
              have f77 : vs 77 = _ := f77
              generalize vs 77 = x77 at f77 ⊢
              subst x77
              clear hE hV
              simp only [List.drop_succ_cons, List.drop_zero]
              go_wp2_with (first | ((with_reducible refine kAny ?_); go_skip) | ((first | ((with_reducible refine kIx ?_); first | (refine t_ixa rfl rfl rfl ?_; (try simp only [Nat.mul_one])) | (refine t_ixaA rfl rfl rfl ?_; (try simp only [Nat.mul_one]))) | ((with_reducible refine kFd ?_); first | refine t_fda0 rfl rfl ?_ | (refine t_fda rfl rfl ?_; (try simp only [Nat.zero_add, Nat.reduceAdd]))) | ((with_reducible refine kLd ?_); first | refine t_loadR hL rfl rfl ?_ | refine t_loadW hL rfl rfl ?_ | refine t_load2 hL rfl rfl ?_ | refine t_load1 hL rfl rfl ?_ | refine t_loadV hL.vw rfl rfl ?_ | refine t_loadV1 hL.vw rfl rfl ?_) | ((with_reducible refine kSt ?_); first | (refine t_storeR hL rfl rfl rfl ?_; clear hL; intro _ hL; simp only [zq2, zq3] at hL) | ((first | refine t_store hL rfl rfl rfl ?_ | refine t_sts hL rfl rfl rfl ?_ | refine t_sti hL rfl rfl rfl ?_ | refine t_stb hL rfl rfl rfl ?_ | refine t_store1 hL rfl rfl rfl ?_); clear hL; intro _ hL; simp only [splice, zq1, zq2, zq3] at hL)) | ((with_reducible refine kBx ?_); (refine t_box hL rfl rfl ?_; clear hL; intro _ _ hL _)) | ((with_reducible refine kAl ?_); (refine t_alloc hL rfl ?_; clear hL; intro _ _ hL _))); simp only [Act.put, zq1, zq2, zq3]))
              refine QN.mk ?_
              go_wp2_with (first | ((with_reducible refine kAny ?_); go_skip) | ((first | ((with_reducible refine kIx ?_); first | (refine t_ixa rfl rfl rfl ?_; (try simp only [Nat.mul_one])) | (refine t_ixaA rfl rfl rfl ?_; (try simp only [Nat.mul_one]))) | ((with_reducible refine kFd ?_); first | refine t_fda0 rfl rfl ?_ | (refine t_fda rfl rfl ?_; (try simp only [Nat.zero_add, Nat.reduceAdd]))) | ((with_reducible refine kLd ?_); first | refine t_loadR hL rfl rfl ?_ | refine t_loadW hL rfl rfl ?_ | refine t_load2 hL rfl rfl ?_ | refine t_load1 hL rfl rfl ?_ | refine t_loadV hL.vw rfl rfl ?_ | refine t_loadV1 hL.vw rfl rfl ?_) | ((with_reducible refine kSt ?_); first | (refine t_storeR hL rfl rfl rfl ?_; clear hL; intro _ hL; simp only [zq2, zq3] at hL) | ((first | refine t_store hL rfl rfl rfl ?_ | refine t_sts hL rfl rfl rfl ?_ | refine t_sti hL rfl rfl rfl ?_ | refine t_stb hL rfl rfl rfl ?_ | refine t_store1 hL rfl rfl rfl ?_); clear hL; intro _ hL; simp only [splice, zq1, zq2, zq3] at hL)) | ((with_reducible refine kBx ?_); (refine t_box hL rfl rfl ?_; clear hL; intro _ _ hL _)) | ((with_reducible refine kAl ?_); (refine t_alloc hL rfl ?_; clear hL; intro _ _ hL _))); simp only [Act.put, zq1, zq2, zq3]))
              go_roundw
              case rel => exact ⟨k3 + 1, _, _, by omega, by go_num, hL.tail, (RowP.le FracC.mono R3.out leX).step HX.out rfl f76, exX⟩
              case measure => simp [intOf] <;> omega
            · replace r1 : Hid (FrRow m3 cur fl) := RowF.le FracC.mono r1.out hX.le
              replace r2 : Hid (RowF 2 CutR m3 cur2 cu) := RowF.le CutR.mono r2.out hX.le
              replace r3 : Hid (FrRow m3 cur3 cd) := r3.done E3.out hlt
              replace hd4 : DecL m3 (.slice A5 de.length c5) de := DecL.le hd4 hX.le
              go_wp2_with (first | ((with_reducible refine kAny ?_); go_skip) | ((first | ((with_reducible refine kIx ?_); first | (refine t_ixa rfl rfl rfl ?_; (try simp only [Nat.mul_one])) | (refine t_ixaA rfl rfl rfl ?_; (try simp only [Nat.mul_one]))) | ((with_reducible refine kFd ?_); first | refine t_fda0 rfl rfl ?_ | (refine t_fda rfl rfl ?_; (try simp only [Nat.zero_add, Nat.reduceAdd]))) | ((with_reducible refine kLd ?_); first | refine t_loadR hL rfl rfl ?_ | refine t_loadW hL rfl rfl ?_ | refine t_load2 hL rfl rfl ?_ | refine t_load1 hL rfl rfl ?_ | refine t_loadV hL.vw rfl rfl ?_ | refine t_loadV1 hL.vw rfl rfl ?_) | ((with_reducible refine kSt ?_); first | (refine t_storeR hL rfl rfl rfl ?_; clear hL; intro _ hL; simp only [zq2, zq3] at hL) | ((first | refine t_store hL rfl rfl rfl ?_ | refine t_sts hL rfl rfl rfl ?_ | refine t_sti hL rfl rfl rfl ?_ | refine t_stb hL rfl rfl rfl ?_ | refine t_store1 hL rfl rfl rfl ?_); clear hL; intro _ hL; simp only [splice, zq1, zq2, zq3] at hL)) | ((with_reducible refine kBx ?_); (refine t_box hL rfl rfl ?_; clear hL; intro _ _ hL _)) | ((with_reducible refine kAl ?_); (refine t_alloc hL rfl ?_; clear hL; intro _ _ hL _))); simp only [Act.put, zq1, zq2, zq3]))
              refine fin_aggP hL Tryz.results84 rfl rfl loX ag_Prices (by exact rfl) ?_
              have hL3 := Loc.perm (hL.sub (List.sublist_append_left [_, _, _] _)) (List.Perm.cons _ (List.Perm.swap _ _ []))
              obtain ⟨m4, hL4, hle, hcu⟩ := Loc.showF (A := [_, _]) CutR.mono hL3 r2.out E2.out
              refine ⟨m4, g1, g3, cur, cur3, _, _, ?_, hL4, RowF.le FracC.mono r1.out hle, RowF.le FracC.mono r3.out hle, hcu, DecL.le hd4 hle⟩
              simp only [E1.out, E3.out]
end Go.Proofs.YtmhkmmmompediaaGreat

/- Bounds, the mixture of lists. -/
namespace Go.Proofs.YtmhkmmmompediaaGreat
open Go.RowKit

/-- Small enough for a product and a sum. -/
def Tn (k : Nat) (q : Rat) : Prop := q.num.natAbs ≤ k ∧ q.den ≤ k
theorem mul_bound (p q : Rat) : (p * q).num.natAbs ≤ p.num.natAbs * q.num.natAbs ∧ (p * q).den ≤ p.den * q.den := by
  have hp : (0 : Int) < (p.den : Int) * q.den := Int.mul_pos (by have := p.den_pos; omega) (by have := q.den_pos; omega)
  have e : p * q = Rat.divInt (p.num * q.num) ((p.den : Int) * q.den) := by
    conv => lhs; rw [← Rat.num_divInt_den p, ← Rat.num_divInt_den q]
    rw [Rat.divInt_mul_divInt]
  obtain ⟨h1, h2⟩ := frac_pos (x := p.num * q.num) hp
  rw [← e] at h1 h2
  constructor
  · rw [h1, ← Int.natAbs_mul]
    exact Int.natAbs_ediv_le_natAbs _ _
  · have h3 : (p * q).den = ((p * q).den : Int).natAbs := rfl
    have h4 : p.den * q.den = ((p.den : Int) * q.den).natAbs := by simp [Int.natAbs_mul]
    rw [h3, h4, h2]
    exact Int.natAbs_ediv_le_natAbs _ _
theorem Tn.sm {k : Nat} {q : Rat} (h : Tn k q) (hk : k < 1073741824) : Sm q.num q.den := ⟨by have := h.1; omega, by have := h.2; omega⟩
theorem Tn.mul {k l : Nat} {p q : Rat} (h : Tn k p) (h' : Tn l q) : Tn (k * l) (p * q) :=
  ⟨Nat.le_trans (mul_bound p q).1 (Nat.mul_le_mul h.1 h'.1), Nat.le_trans (mul_bound p q).2 (Nat.mul_le_mul h.2 h'.2)⟩
theorem Tn.divInt {x y : Int} {k : Nat} (hy : 0 < y) (hx : x.natAbs ≤ k) (hk : y ≤ k) : Tn k (Rat.divInt x y) := by
  obtain ⟨h1, h2⟩ := frac_pos (x := x) hy
  refine ⟨?_, ?_⟩
  · rw [h1]; exact Nat.le_trans (Int.natAbs_ediv_le_natAbs _ _) hx
  · have h3 : (Rat.divInt x y).den = ((Rat.divInt x y).den : Int).natAbs := rfl
    rw [h3, h2]
    refine Nat.le_trans (Int.natAbs_ediv_le_natAbs _ _) (by omega)
theorem q_MulC (a b : Value) (p q : Rat) (w m : World) (hV : Vw m w) (ha : FracC m a p) (hb : FracC m b q) (hs : Sm p.num p.den) (hs' : Sm q.num q.den) :
    Calls Tryz.prog 74 #[a, b] w (RetV w m fun m' r => FracC m' r (p * q)) := by
  have h := q_Mul a b p.num p.den q.num q.den w m hV (ha.toS hs) (hb.toS hs') hs hs'
  rwa [Rat.num_divInt_den, Rat.num_divInt_den] at h
theorem q_AddC (a b : Value) (p q : Rat) (w m : World) (hV : Vw m w) (ha : FracC m a p) (hb : FracC m b q) (hs : Sm p.num p.den) (hs' : Sm q.num q.den) :
    Calls Tryz.prog 72 #[a, b] w (RetV w m fun m' r => FracC m' r (p + q)) := by
  have h := q_Add a b p.num p.den q.num q.den w m hV (ha.toS hs) (hb.toS hs') hs hs'
  rwa [Rat.num_divInt_den, Rat.num_divInt_den] at h
/-- The mixture of two lists. -/
def mixL (s t : Rat) (xs ys : List Rat) : List Rat := List.zipWith (fun x y => s * x + t * y) xs ys
def lst (ms xs : List Rat) (k : Nat) : List Rat := ms.take k ++ xs.drop k
theorem lst_get {ms xs : List Rat} {k : Nat} (h : ms.length = xs.length) (hk : k ≤ xs.length) : (lst ms xs k)[k]? = xs[k]? := by
  unfold lst
  rw [List.getElem?_append_right (by rw [List.length_take]; omega), List.length_take, List.getElem?_drop]
  congr 1; omega
theorem lst_set {ms xs : List Rat} {k : Nat} {z : Rat} (h : ms.length = xs.length) (hk : k < xs.length) (hz : ms[k]? = some z) : (lst ms xs k).set k z = lst ms xs (k + 1) := by
  unfold lst
  apply List.ext_getElem?
  intro j
  rw [List.getElem?_set]
  have hl : (ms.take k ++ xs.drop k).length = xs.length := by simp; omega
  have hl1 : (ms.take k).length = k := by rw [List.length_take]; omega
  have hl2 : (ms.take (k + 1)).length = k + 1 := by rw [List.length_take]; omega
  by_cases e : k = j
  · subst e
    rw [if_pos rfl, hl, if_pos hk, List.getElem?_append_left (by omega), List.getElem?_take, if_pos (by omega), hz]
  · rw [if_neg e]
    by_cases hj : j < k
    · rw [List.getElem?_append_left (by omega), List.getElem?_append_left (by omega), List.getElem?_take, List.getElem?_take, if_pos hj, if_pos (by omega)]
    · rw [List.getElem?_append_right (by omega), List.getElem?_append_right (by omega), hl1, hl2, List.getElem?_drop, List.getElem?_drop]
      congr 1; omega
theorem lst_zero (ms xs : List Rat) : lst ms xs 0 = xs := by simp [lst]
theorem lst_all {ms xs : List Rat} {n k : Nat} (h : ms.length = xs.length) (hn : xs.length = n) (hk : ¬ k < n) : lst ms xs k = ms := by
  unfold lst
  rw [List.take_of_length_le (by omega), List.drop_eq_nil_of_le (by omega), List.append_nil]
theorem lst_len {ms xs : List Rat} {k : Nat} (h : ms.length = xs.length) (hk : k ≤ xs.length) : (lst ms xs k).length = xs.length := by unfold lst; simp; omega
theorem mixL_len {s t : Rat} {xs ys : List Rat} (h : ys.length = xs.length) : (mixL s t xs ys).length = xs.length := by simp [mixL, h]
theorem mixL_at {s t : Rat} {xs ys : List Rat} {k : Nat} {x y : Rat} (hx : xs[k]? = some x) (hy : ys[k]? = some y) : (mixL s t xs ys)[k]? = some (s * x + t * y) := by
  simp [mixL, List.getElem?_zipWith, hx, hy]
theorem RowF.at4 {m : World} {cur : Array Value} {xs : List Rat} (h : FrRow m cur xs) {k : Nat} {x : Rat} (hk : xs[k]? = some x) :
    ∃ g A n c g' B k' d, FracC m (.agg #[.bool g, .slice A n c, .bool g', .slice B k' d]) x ∧ ∀ j, j < 4 → cur[0 + k * 4 + j]? = [Value.bool g, .slice A n c, .bool g', .slice B k' d][j]? := by
  obtain ⟨v, hv, hs, hr⟩ := RowF.at_ h hk
  obtain ⟨g, A, n, c, g', B, k', d, rfl, hv⟩ := hv.lit
  exact ⟨g, A, n, c, g', B, k', d, hv, fun j hj => by rw [hr j hj]; simp [Value.cells]⟩
/-- All values small. -/
structure Pr.tn (p : Pr) : Prop where
  fl : ∀ q ∈ p.fl, Tn 1000 q
  cd : ∀ q ∈ p.cd, Tn 1000 q
def mixP (s t : Rat) (p q : Pr) : Pr := ⟨mixL s t p.fl q.fl, p.cu, mixL s t p.cd q.cd, p.de, p.fr⟩

end Go.Proofs.YtmhkmmmompediaaGreat

/- Contract of pairingref27.SamePrices (equal prices). -/
namespace Go.Proofs.YtmhkmmmompediaaGreat
open Go.RowKit

structure Pr.fit (p : Pr) : Prop where
  fl : ∀ q ∈ p.fl, Fit 200 q
  cd : ∀ q ∈ p.cd, Fit 200 q
  nf : p.fl.length ≤ 1000
  nc : p.cu.length ≤ 1000
  nd : p.cd.length ≤ 1000
  ne : p.de.length ≤ 1000

set_option maxRecDepth 100000 in
set_option maxHeartbeats 16000000 in
theorem r_SamePrices (va vb : Value) (p : Pr) (w m : World) (hV : Vw m w) (ha : PricesR m va p) (hb : PricesR m vb p) (ok : p.fit) :
    Calls Tryz.prog 28 #[va, vb] w (RetV w m fun _ r => r = .bool true) := by
  obtain ⟨fl, cu, cd, de, fr⟩ := p
  obtain ⟨a, b, c, d, rfl, a1, a2, a3, a4⟩ := ha
  obtain ⟨a', b', c', d', rfl, b1, b2, b3, b4⟩ := hb
  simp only at a1 a2 a3 a4 b1 b2 b3 b4
  obtain ⟨A1, c1, rfl, -, a1⟩ := a1.lit
  obtain ⟨A2, c2, rfl, -, a2⟩ := a2.lit
  obtain ⟨A3, c3, rfl, -, a3⟩ := a3.lit
  obtain ⟨A4, c4, rfl, -, a4⟩ := a4.lit
  obtain ⟨B1, d1, rfl, -, b1⟩ := b1.lit
  obtain ⟨B2, d2, rfl, -, b2⟩ := b2.lit
  obtain ⟨B3, d3, rfl, -, b3⟩ := b3.lit
  obtain ⟨B4, d4, rfl, -, b4⟩ := b4.lit
  have OK := Lib.hid ok
  have K1 : Hid (fl.length ≤ 1000000) := by show _ ≤ _; have := ok.nf; simp only at this; omega
  have K2 : Hid (cu.length ≤ 1000000) := by show _ ≤ _; have := ok.nc; simp only at this; omega
  have K3 : Hid (cd.length ≤ 1000000) := by show _ ≤ _; have := ok.nd; simp only at this; omega
  have K4 : Hid (de.length ≤ 1000000) := by show _ ≤ _; have := ok.ne; simp only at this; omega
  clear ok
  have KE : Hid (∀ w m a b, Vw m w → DecL m a de → DecL m b de → Calls Tryz.prog 59 #[a, b] w (RetV w m fun _ r => r = .bool true)) := by
    show ∀ w m a b, _
    intro w m a b hV h1 h2
    have := r_SameDecisions a b de de w m hV h1 h2 K4.out K4.out
    rwa [decide_eq_true rfl] at this
  have e4 : (fr == fr) = true := by simp
  have hL := Loc.start hV
  clear hV
  go_enter Tryz.func28, Tryz.ntmps28
  go_wp2_with (first | ((with_reducible refine kAny ?_); go_skip) | ((first | ((with_reducible refine kFd ?_); first | refine t_fda0 rfl rfl ?_ | (refine t_fda rfl rfl ?_; (try simp only [Nat.zero_add, Nat.reduceAdd]))) | ((with_reducible refine kLd ?_); first | refine t_loadR hL rfl rfl ?_ | refine t_loadW hL rfl rfl ?_ | refine t_load2 hL rfl rfl ?_ | refine t_load1 hL rfl rfl ?_ | refine t_loadV hL.vw rfl rfl ?_ | refine t_loadV1 hL.vw rfl rfl ?_) | ((with_reducible refine kBx ?_); (refine t_box hL rfl rfl ?_; clear hL; intro _ _ hL _))); simp only [Act.put, zq1, zq2, zq3]))
  refine (r_SameList _ _ fl _ _ hL.vw (FracL.le a1 leX) (FracL.le b1 leX) OK.out.fl K1.out).mono ?_
  rintro e Wc1 ⟨_, mc1, rfl, hE, hMc1, hV, rfl⟩
  replace hL := hL.call hE (by assumption) hV; clear hE hV
  go_wp2_with (first | ((with_reducible refine kAny ?_); go_skip) | ((first | ((with_reducible refine kFd ?_); first | refine t_fda0 rfl rfl ?_ | (refine t_fda rfl rfl ?_; (try simp only [Nat.zero_add, Nat.reduceAdd]))) | ((with_reducible refine kLd ?_); first | refine t_loadR hL rfl rfl ?_ | refine t_loadW hL rfl rfl ?_ | refine t_load2 hL rfl rfl ?_ | refine t_load1 hL rfl rfl ?_ | refine t_loadV hL.vw rfl rfl ?_ | refine t_loadV1 hL.vw rfl rfl ?_) | ((with_reducible refine kBx ?_); (refine t_box hL rfl rfl ?_; clear hL; intro _ _ hL _))); simp only [Act.put, zq1, zq2, zq3]))
  refine (r_SameCuts _ _ cu _ _ hL.vw (CutL.le a2 leX) (CutL.le b2 leX) K2.out).mono ?_
  rintro e Wc2 ⟨_, mc2, rfl, hE, hMc2, hV, rfl⟩
  replace hL := hL.call hE (by assumption) hV; clear hE hV
  go_wp2_with (first | ((with_reducible refine kAny ?_); go_skip) | ((first | ((with_reducible refine kFd ?_); first | refine t_fda0 rfl rfl ?_ | (refine t_fda rfl rfl ?_; (try simp only [Nat.zero_add, Nat.reduceAdd]))) | ((with_reducible refine kLd ?_); first | refine t_loadR hL rfl rfl ?_ | refine t_loadW hL rfl rfl ?_ | refine t_load2 hL rfl rfl ?_ | refine t_load1 hL rfl rfl ?_ | refine t_loadV hL.vw rfl rfl ?_ | refine t_loadV1 hL.vw rfl rfl ?_) | ((with_reducible refine kBx ?_); (refine t_box hL rfl rfl ?_; clear hL; intro _ _ hL _))); simp only [Act.put, zq1, zq2, zq3]))
  refine (r_SameList _ _ cd _ _ hL.vw (FracL.le a3 leX) (FracL.le b3 leX) OK.out.cd K3.out).mono ?_
  rintro e Wc3 ⟨_, mc3, rfl, hE, hMc3, hV, rfl⟩
  replace hL := hL.call hE (by assumption) hV; clear hE hV
  go_wp2_with (first | ((with_reducible refine kAny ?_); go_skip) | ((first | ((with_reducible refine kFd ?_); first | refine t_fda0 rfl rfl ?_ | (refine t_fda rfl rfl ?_; (try simp only [Nat.zero_add, Nat.reduceAdd]))) | ((with_reducible refine kLd ?_); first | refine t_loadR hL rfl rfl ?_ | refine t_loadW hL rfl rfl ?_ | refine t_load2 hL rfl rfl ?_ | refine t_load1 hL rfl rfl ?_ | refine t_loadV hL.vw rfl rfl ?_ | refine t_loadV1 hL.vw rfl rfl ?_) | ((with_reducible refine kBx ?_); (refine t_box hL rfl rfl ?_; clear hL; intro _ _ hL _))); simp only [Act.put, zq1, zq2, zq3]))
  refine (KE.out _ _ _ _ hL.vw (DecL.le a4 leX) (DecL.le b4 leX)).mono ?_
  rintro e Wc4 ⟨_, mc4, rfl, hE, hMc4, hV, rfl⟩
  replace hL := hL.call hE (by assumption) hV; clear hE hV
  go_wp2_with (first | ((with_reducible refine kAny ?_); go_skip) | ((first | ((with_reducible refine kFd ?_); first | refine t_fda0 rfl rfl ?_ | (refine t_fda rfl rfl ?_; (try simp only [Nat.zero_add, Nat.reduceAdd]))) | ((with_reducible refine kLd ?_); first | refine t_loadR hL rfl rfl ?_ | refine t_loadW hL rfl rfl ?_ | refine t_load2 hL rfl rfl ?_ | refine t_load1 hL rfl rfl ?_ | refine t_loadV hL.vw rfl rfl ?_ | refine t_loadV1 hL.vw rfl rfl ?_) | ((with_reducible refine kBx ?_); (refine t_box hL rfl rfl ?_; clear hL; intro _ _ hL _))); simp only [Act.put, zq1, zq2, zq3]))
  go_ret
  exact RetV.mk hL rfl
end Go.Proofs.YtmhkmmmompediaaGreat
