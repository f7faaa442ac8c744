/- Part 1 of 3 of the proof: the law ConsoleLimits returns true for every input, and its arguments read as before; there is no condition. -/
import Derived.WalkKit
import Derived.LoopTactic
import Derived.Lib.Hide
import Derived.Laws.MakeOwn
import Derived.Deep.AppendLies
import Derived.Deep.Draws
import Derived.Deep.LoopGhost
import Derived.Deep.QuietTactic
import Derived.BigQuiet
import Derived.Outline
import Derived.Maps.AppendAt
import Derived.RegionTactic
import Derived.WalkSpells
import Derived.Deep.DeepCutAuto
import Derived.Deep.CutBlock
import Derived.Deep.RegionHeld3
import Derived.StillTailTactics
import Derived.Deep.RegionLaw
import Derived.Deep.RegionWith
import Derived.Deep.DeepFit
import Derived.Laws.Rows
import Derived.Laws.Tables
import Derived.Lib.Builder
import Derived.Lib.AppendStr
import Derived.Lib.UnsafeStr
import Derived.Test.YtjianicbagcekaaGreatDoorProg
import Derived.Shelf.Strings.Builder1
import Derived.Shelf.Strings.Repeat
import Derived.Shelf.Strings.Split
import Derived.Shelf.Strings.Cut
import Derived.Shelf.Strings.Prefix
import Derived.Shelf.Strconv.Itoa3
import Derived.Lib.SplitLaws
set_option linter.unusedVariables false
set_option linter.unusedSimpArgs false
set_option maxRecDepth 100000
set_option maxHeartbeats 64000000
/- Digits in base 2^32: values of digit lists, the canonical digits of a number, and trimming. Plain facts; no program. -/
namespace Go.Proofs.YtjianicbagcekaaGreatDoor

def Dg (ds : List Nat) : Prop := ∀ d, d ∈ ds → d < 4294967296

theorem Dg.nil : Dg [] := fun _ h => by cases h
theorem Dg.cons {d : Nat} {ds : List Nat} (h : d < 4294967296) (hs : Dg ds) : Dg (d :: ds) := by
 intro x hx
 rcases List.mem_cons.1 hx with rfl | hx
 ·exact h
 ·exact hs x hx
theorem Dg.tail {d : Nat} {ds : List Nat} (h : Dg (d :: ds)) : Dg ds := fun x hx => h x (by simp [hx])
theorem Dg.take {ds : List Nat} (h : Dg ds) (n : Nat) : Dg (ds.take n) := fun x hx => h x (List.mem_of_mem_take hx)
theorem Dg.append {a b : List Nat} (h : Dg a) (k : Dg b) : Dg (a ++ b) := fun x hx => by
 rcases List.mem_append.1 hx with hx | hx
 ·exact h x hx
 ·exact k x hx
theorem Dg.getD {ds : List Nat} (h : Dg ds) (i : Nat) : ds.getD i 0 < 4294967296 := by
 rw [List.getD_eq_getElem?_getD]
 cases e : ds[i]? with
 | none => simp
 | some z => simpa using h z (List.mem_of_getElem? e)
theorem Dg.replicate (n : Nat) : Dg (List.replicate n 0) := fun x hx => by rw [List.eq_of_mem_replicate hx]; omega

theorem Dg.set {l : List Nat} (h : Dg l) {x : Nat} (hx : x < 4294967296) (k : Nat) : Dg (l.set k x) := fun y hy => by
 rcases List.mem_or_eq_of_mem_set hy with hy | rfl
 ·exact h y hy
 ·exact hx
theorem getD_set_ne (l : List Nat) (k j x : Nat) (h : k ≠ j) : (l.set k x).getD j 0 = l.getD j 0 := by
 simp only [List.getD_eq_getElem?_getD, List.getElem?_set_ne h]
end Go.Proofs.YtjianicbagcekaaGreatDoor

/- Words for memory: slices that read as lists of cells, blocks known whole, worlds that only grew. No program. -/
namespace Go.Proofs.YtjianicbagcekaaGreatDoor
open Go.RowKit

abbrev Ext (w w' : World) : Prop := Below w.heap.size w w'
theorem Ext.refl (w : World) : Ext w w := Below.refl _ _
theorem Ext.trans {a b c : World} (h : Ext a b) (k : Ext b c) : Ext a c := Below.trans h (Below.mono k h.size)
theorem Ext.new (w : World) (o : Obj) : Ext w (w.alloc o) := (Below.refl _ _).alloc (Nat.le_refl _) _
theorem Ext.alloc {a w : World} (h : Ext a w) (o : Obj) : Ext a (w.alloc o) := Below.alloc h h.size o
theorem Ext.drew {a w : World} (h : Ext a w) : Ext a w.drew := Below.drew h
theorem Ext.drewN {a w : World} (h : Ext a w) (n : Nat) : Ext a (w.drewN n) := ⟨h.os, h.tape, h.output, h.size, h.block⟩
theorem Ext.setCell {a w : World} (h : Ext a w) {p : Addr} (hp : a.heap.size ≤ p.block) (u : Value) : Ext a (w.setCell p u) := Below.setCell h hp u
theorem Ext.grown {a w w' : World} {row : Option Nat} (h : Ext a w) (hg : w.grownBy w' row) (hr : ∀ k, row = some k → a.heap.size ≤ k) : Ext a w' :=
 Below.grown h hg h.size hr

theorem lt_of_cell {W : World} {b o : Nat} {u : Value} (h : W.cell? ⟨b, o, none⟩ = some u) : b < W.heap.size := World.block_lt_of_cell? W _ h
theorem cell_keep {W w1 : World} (hb : Ext W w1) {b o : Nat} {u : Value} (h : W.cell? ⟨b, o, none⟩ = some u) : w1.cell? ⟨b, o, none⟩ = some u :=
 (hb.cell (p := ⟨b, o, none⟩) (lt_of_cell h)).trans h
theorem add_mk (b o n : Nat) : (Addr.add ⟨b, o, none⟩ n) = ⟨b, o + n, none⟩ := by unfold Addr.add; split <;> simp_all

def Sl (w : World) (A : Option Addr) (cs : List Value) : Prop :=
 0 < cs.length → ∃ b off, A = some ⟨b, off, none⟩ ∧ b < w.heap.size ∧ ∀ j u, cs[j]? = some u → w.cell? ⟨b, off + j, none⟩ = some u

theorem Sl.nil {w : World} {A : Option Addr} : Sl w A [] := fun h => absurd h (by simp)
theorem Sl.ext {w w' : World} {A : Option Addr} {cs : List Value} (h : Sl w A cs) (hb : Ext w w') : Sl w' A cs := fun hl => by
 obtain ⟨b, off, e, hlt, hc⟩ := h hl
 exact ⟨b, off, e, Nat.lt_of_lt_of_le hlt hb.size, fun j u hu => (hb.cell (p := ⟨b, off + j, none⟩) hlt).trans (hc j u hu)⟩
theorem Sl.at_ {w : World} {A : Option Addr} {cs : List Value} {k : Nat} (h : Sl w A cs) (hk : k < cs.length) :
  ∃ b off, A = some ⟨b, off, none⟩ ∧ b < w.heap.size ∧ w.cell? ⟨b, off + k, none⟩ = some (cs[k]'hk) := by
 obtain ⟨b, off, e, hlt, hc⟩ := h (by omega)
 exact ⟨b, off, e, hlt, hc k _ (List.getElem?_eq_getElem hk)⟩
theorem Sl.take {w : World} {A : Option Addr} {cs : List Value} (h : Sl w A cs) (n : Nat) : Sl w A (cs.take n) := fun hl => by
 obtain ⟨b, off, e, hlt, hc⟩ := h (by simp at hl; omega)
 refine ⟨b, off, e, hlt, fun j u hu => hc j u ?_⟩
 rw [List.getElem?_take] at hu
 split at hu
 ·exact hu
 ·cases hu

def Blk (w : World) (g : Nat) (t : TypeId) (cs : Array Value) : Prop := w.heap[g]? = some (.cells cs t (0, 0))
section
variable {w w' : World} {g : Nat} {t : TypeId} {cs : Array Value}
theorem Blk.lt (h : Blk w g t cs) : g < w.heap.size := by
 rcases Nat.lt_or_ge g w.heap.size with hlt | hge
 ·exact hlt
 ·unfold Blk at h; rw [Array.getElem?_eq_none hge] at h; cases h
theorem Blk.cell (h : Blk w g t cs) (i : Nat) : w.cell? ⟨g, i, none⟩ = cs[i]? := by unfold Blk at h; simp [World.cell?, h]
theorem Blk.frozen (h : Blk w g t cs) (i : Nat) : w.frozen? ⟨g, i, none⟩ = false := by
 unfold Blk at h
 simp [World.frozen?, h]
theorem Blk.new (w : World) (t : TypeId) (cs : Array Value) : Blk (w.alloc (.cells cs t)) w.heap.size t cs := heap_alloc_new w _
theorem Blk.drew (h : Blk w g t cs) : Blk w.drew g t cs := h
theorem Blk.drewN (h : Blk w g t cs) (n : Nat) : Blk (w.drewN n) g t cs := h
theorem Blk.alloc (h : Blk w g t cs) (o : Obj) : Blk (w.alloc o) g t cs := (Below.heap_alloc w o g h.lt).trans h
theorem Blk.set_ (h : Blk w g t cs) (i : Nat) (u : Value) : Blk (w.setCell ⟨g, i, none⟩ u) g t (cs.setIfInBounds i u) := by
 unfold Blk at h ⊢
 simp [World.setCell, Array.getElem?_modify, h]
theorem Blk.ext (h : Blk w g t cs) (hb : Ext w w') : Blk w' g t cs := (hb.block g h.lt).trans h
theorem Blk.below {B : Nat} (h : Blk w g t cs) (hb : Below B w w') (hg : g < B) : Blk w' g t cs := (hb.block g hg).trans h
theorem Blk.sl (h : Blk w g t cs) {xs : List Value} {n : Nat} (e : cs.toList.take n = xs) : Sl w (some ⟨g, 0, none⟩) xs := fun _ => by
 refine ⟨g, 0, rfl, h.lt, fun j u hu => ?_⟩
 rw [Nat.zero_add, h.cell]
 subst e
 rw [List.getElem?_take] at hu
 split at hu
 ·simpa using hu
 ·cases hu
end

theorem Blk.facts3 {w : World} {g : Nat} {t : TypeId} {v0 v1 v2 : Value} (h : Blk w g t #[v0, v1, v2]) : w.cell? ⟨g, 0, none⟩ = some v0 ∧ w.cell? ⟨g, 1, none⟩ = some v1 ∧ w.cell? ⟨g, 2, none⟩ = some v2 ∧ w.frozen? ⟨g, 0, none⟩ = false ∧ w.frozen? ⟨g, 1, none⟩ = false ∧ w.frozen? ⟨g, 2, none⟩ = false :=
 ⟨h.cell 0, h.cell 1, h.cell 2, h.frozen 0, h.frozen 1, h.frozen 2⟩
def U (n : Nat) : Value := .int .u32 n
def DigR (w : World) (base : Nat) (v : Value) (ds : List Nat) : Prop :=
 ∃ A c, v = .slice A ds.length c ∧ ds.length ≤ c ∧ Sl w A (ds.map U) ∧ ∀ a, A = some a → base ≤ a.block ∧ a.block < w.heap.size
theorem DigR.ext {w w' : World} {base : Nat} {v : Value} {ds : List Nat} (h : DigR w base v ds) (hb : Ext w w') : DigR w' base v ds := by
 obtain ⟨A, c, e, hl, hs, hg⟩ := h
 exact ⟨A, c, e, hl, hs.ext hb, fun a ha => ⟨(hg a ha).1, Nat.lt_of_lt_of_le (hg a ha).2 hb.size⟩⟩
theorem DigR.nil {w : World} {base : Nat} : DigR w base (.slice none 0 0) [] := ⟨none, 0, rfl, Nat.le_refl _, Sl.nil, fun _ h => by cases h⟩
theorem DigR.base {w : World} {base base' : Nat} {v : Value} {ds : List Nat} (h : DigR w base v ds) (hb : base' ≤ base) : DigR w base' v ds := by
 obtain ⟨A, c, e, hl, hs, hg⟩ := h
 exact ⟨A, c, e, hl, hs, fun a ha => ⟨Nat.le_trans hb (hg a ha).1, (hg a ha).2⟩⟩
section
variable {P : Program} (w : World)

theorem run_append_of_nil (base : Nat) (t ty e : TypeId) (i : TypeInfo) (size : Nat) (ht : P.underlying t = some (.slice e)) (hi : P.info? e = some i)
  (v : Value) (n : Nat) (xs : List Value) (hown : w.ownsRow base e size v n xs) (c : Nat) : (Builtin.append_ #[t, t] ty #[v, .slice none 0 c]).run P w = .ok v w := by
 rcases hown.2 with ⟨rfl, rfl⟩ | ⟨g, cap, cur, rfl, _, _, hnc, _⟩
 ·simp [Builtin.append_, run_underlying ht, sizeOf, typeInfo, hi, Builtin.lenOf, Builtin.firstCells]
 ·simp [Builtin.append_, run_underlying ht, sizeOf, typeInfo, hi, Builtin.lenOf, Builtin.firstCells, hnc, storeCells]

theorem run_append_any (base : Nat) (t ty e : TypeId) (i : TypeInfo) (z : Value) (size bytes : Nat) (ht : P.underlying t = some (.slice e)) (hi : P.info? e = some i) (hz : i.zero = some z)
  (hsize : i.size = size) (hby : i.bytes = bytes) (hzs : z.cells.size = size) (hsz : 0 < size)
  (v : Value) (n : Nat) (xs : List Value) (hown : w.ownsRow base e size v n xs)
  (A : Option Addr) (m c : Nat) (news : List Value) (hl : news.length = m * size) (hr : Sl w A news) (h1 : ∀ u ∈ news, u.oneCell' = true)
  (h63 : n + m ≤ maxLen) (hbytes : (n + m) * bytes ≤ 140737488355328) (hbase : base ≤ w.heap.size) :
  ∃ v' w', (Builtin.append_ #[t, t] ty #[v, .slice A m c]).run P w = .ok v' w' ∧ w'.ownsRow base e size v' (n + m) (xs ++ news) ∧ w.grownBy w' v.ownBlock ∧
   (v'.ownBlock = v.ownBlock ∨ v'.ownBlock = some w.heap.size) := by
 rcases A with _ | ad
 ·have hm : m = 0 := by
   rcases Nat.eq_zero_or_pos m with h0 | h0
   ·exact h0
   ·obtain ⟨b, o, h, _⟩ := hr (by rw [hl]; exact Nat.mul_pos h0 hsz)
    cases h
  subst hm
  have hn : news = [] := List.eq_nil_of_length_eq_zero (by simpa using hl)
  subst hn
  exact ⟨v, w, run_append_of_nil w base t ty e i size ht hi v n xs hown c, by simpa using hown, World.grownBy.refl w _, .inl rfl⟩
 ·have hcells : ∀ j u, news[j]? = some u → w.cell? (ad.add j) = some u := by
   intro j u hu
   have hjl : j < news.length := by
    rcases Nat.lt_or_ge j news.length with h | h
    ·exact h
    ·rw [List.getElem?_eq_none h] at hu; cases hu
   obtain ⟨b, o, h, _, hc⟩ := hr (by omega)
   injection h with h
   subst h
   rw [add_mk]
   exact hc j u hu
  obtain ⟨v', w', hrun, h2, h3, _, h5⟩ := run_append_own_at (P := P) w base t ty e i z size bytes ht hi hz hsize hby hzs hsz v n xs hown ad m c news hl hcells h1 h63 hbytes hbase
  exact ⟨v', w', hrun, h2, h3, h5⟩

theorem wp_append_any {o : Oper} {a : Act} {K : Act → World → Prop} {Q : Exit → Act → World → Prop} (s x : Operand) (t : TypeId)
  (ho : o.op = .call { callee := .builtin .append, args := #[s, x], argTypes := #[t, t] })
  (base : Nat) (e : TypeId) (i : TypeInfo) (z : Value) (size bytes : Nat) (ht : P.underlying t = some (.slice e)) (hi : P.info? e = some i) (hz : i.zero = some z)
  (hsize : i.size = size) (hby : i.bytes = bytes) (hzs : z.cells.size = size) (hsz : 0 < size)
  (v : Value) (n : Nat) (xs : List Value) (hs : a.eval s = v) (hown : w.ownsRow base e size v n xs)
  (A : Option Addr) (m c : Nat) (news : List Value) (hx : a.eval x = .slice A m c) (hl : news.length = m * size) (hr : Sl w A news) (h1 : ∀ u ∈ news, u.oneCell' = true)
  (h63 : n + m ≤ maxLen) (hbytes : (n + m) * bytes ≤ 140737488355328) (hbase : base ≤ w.heap.size)
  (h : ∀ v' w', w'.ownsRow base e size v' (n + m) (xs ++ news) → w.grownBy w' v.ownBlock → (v'.ownBlock = v.ownBlock ∨ v'.ownBlock = some w.heap.size) → K (a.put o.dst v') w') : o.wp P a w K Q := by
 obtain ⟨v', w', hrun, h2, h3, h4⟩ := run_append_any (P := P) w base t o.type e i z size bytes ht hi hz hsize hby hzs hsz v n xs hown A m c news hl hr h1 h63 hbytes hbase
 unfold Oper.wp execOp
 simp only [ho, resolve, invoke, builtin, Sem.run_bind, Sem.run_pure, Result.andThen_ok, List.map_toArray, List.map_cons, List.map_nil, hs, hx, hrun]
 exact h v' w' h2 h3 h4

end
theorem Sl.drew {w : World} {A : Option Addr} {cs : List Value} (h : Sl w A cs) : Sl w.drew A cs := h
theorem heap_setRow_other (w : World) (g : Nat) (cs : Array Value) (k : Nat) (h : k ≠ g) : (w.setRow g cs).heap[k]? = w.heap[k]? := by
 simp only [World.setRow, Array.getElem?_modify]
 rw [if_neg (by omega)]
theorem size_setRow (w : World) (g : Nat) (cs : Array Value) : (w.setRow g cs).heap.size = w.heap.size := by simp [World.setRow]
theorem Blk.row {w : World} {g : Nat} {t : TypeId} {cs : Array Value} (h : Blk w g t cs) (new : Array Value) : Blk (w.setRow g new) g t new := by
 unfold Blk at h ⊢
 simp [World.setRow, Array.getElem?_modify, h]
theorem Ext.row {a w : World} {g : Nat} (h : Ext a w) (hg : a.heap.size ≤ g) (new : Array Value) : Ext a (w.setRow g new) :=
 ⟨h.os, h.tape, h.output, by rw [size_setRow]; exact h.size, fun k hk => (heap_setRow_other w g new k (by omega)).trans (h.block k hk)⟩
end Go.Proofs.YtjianicbagcekaaGreatDoor

/- Views: a view shows a part of the memory. Facts on data are said of the view; a function's own variables are hidden from it, so that writing them disturbs no fact. Laws for the walk over a list of the variables' blocks. No program. -/
namespace Go.Proofs.YtjianicbagcekaaGreatDoor
open Go.RowKit

structure Vw (m w : World) : Prop where
 os : m.os = w.os
 tape : m.tape = w.tape
 output : m.output = w.output
 size : m.heap.size = w.heap.size
 cell : ∀ a u, m.cell? a = some u → w.cell? a = some u
structure Le (m m' : World) : Prop where
 size : m.heap.size ≤ m'.heap.size
 cell : ∀ a u, m.cell? a = some u → m'.cell? a = some u
theorem Vw.refl (w : World) : Vw w w := ⟨rfl, rfl, rfl, rfl, fun _ _ h => h⟩
theorem Vw.le {m w : World} (h : Vw m w) : Le m w := ⟨Nat.le_of_eq h.size, h.cell⟩
theorem Le.refl (w : World) : Le w w := ⟨Nat.le_refl _, fun _ _ h => h⟩
theorem Le.trans {a b c : World} (h : Le a b) (k : Le b c) : Le a c := ⟨Nat.le_trans h.size k.size, fun p u hp => k.cell p u (h.cell p u hp)⟩
theorem Ext.le {a b : World} (h : Ext a b) : Le a b := ⟨h.size, fun p u hp => (h.cell (p := p) (World.block_lt_of_cell? a _ hp)).trans hp⟩
theorem Sl.le {w w' : World} {A : Option Addr} {cs : List Value} (h : Sl w A cs) (hb : Le w w') : Sl w' A cs := fun hl => by
 obtain ⟨b, off, e, hlt, hc⟩ := h hl
 exact ⟨b, off, e, Nat.lt_of_lt_of_le hlt hb.size, fun j u hu => hb.cell _ _ (hc j u hu)⟩

abbrev Lo := Nat × TypeId × Array Value
structure Loc (w0 m0 W m : World) (Ls : List Lo) : Prop where
 size0 : m0.heap.size = w0.heap.size
 ext : Ext w0 W
 mext : Ext m0 m
 vw : Vw m W
 low : ∀ x ∈ Ls, w0.heap.size ≤ x.1
 blk : ∀ x ∈ Ls, Blk W x.1 x.2.1 x.2.2
 hid : ∀ x ∈ Ls, ∀ a : Addr, a.block = x.1 → m.cell? a = none
 apart : Ls.Pairwise fun x y => x.1 ≠ y.1

theorem Loc.start {m w : World} (h : Vw m w) : Loc w m w m [] :=
 ⟨h.size, Ext.refl _, Ext.refl _, h, (fun _ h => by cases h), (fun _ h => by cases h), (fun _ h => by cases h), List.Pairwise.nil⟩

theorem cell_alloc_old {w : World} {o : Obj} {a : Addr} {u : Value} (h : w.cell? a = some u) : (w.alloc o).cell? a = some u := (Ext.new w o).le.cell _ _ h
theorem cell_alloc_iff {w : World} {cs : Array Value} {t : TypeId} {a : Addr} {u : Value} (h : (w.alloc (.cells cs t)).cell? a = some u) (hb : a.block ≠ w.heap.size) : w.cell? a = some u := by
 have hlt := World.block_lt_of_cell? _ _ h
 rw [size_alloc'] at hlt
 exact ((Ext.new w (.cells cs t)).cell (p := a) (by omega)).symm.trans h
 where size_alloc' : (w.alloc (.cells cs t)).heap.size = w.heap.size + 1 := by simp
theorem cell_hidden (w : World) (t : TypeId) (a : Addr) (hb : a.block = w.heap.size) : (w.alloc (.cells #[] t)).cell? a = none := by
 have h := Blk.new w t #[]
 unfold Blk at h
 obtain ⟨b, o, s⟩ := a
 simp only at hb
 subst hb
 unfold World.cell?
 rw [h]
 cases s <;> simp

theorem Loc.alloc {w0 m0 W m : World} {Ls : List Lo} (h : Loc w0 m0 W m Ls) (cs : Array Value) (t : TypeId) :
  Loc w0 m0 (W.alloc (.cells cs t)) (m.alloc (.cells #[] t)) ((W.heap.size, t, cs) :: Ls) := by
 have hs := h.vw.size
 refine ⟨h.size0, h.ext.alloc _, h.mext.alloc _, ⟨h.vw.os, h.vw.tape, h.vw.output, by simp [hs], fun a u hu => ?_⟩, ?_, ?_, ?_, ?_⟩
 ·by_cases e : a.block = m.heap.size
  ·rw [cell_hidden m t a e] at hu; cases hu
  ·exact cell_alloc_old (h.vw.cell _ _ (cell_alloc_iff hu e))
 ·intro x hx
  rcases List.mem_cons.1 hx with rfl | hx
  ·exact h.ext.size
  ·exact h.low x hx
 ·intro x hx
  rcases List.mem_cons.1 hx with rfl | hx
  ·exact Blk.new W t cs
  ·exact (h.blk x hx).alloc _
 ·intro x hx a ha
  rcases List.mem_cons.1 hx with rfl | hx
  ·exact cell_hidden m t a (ha.trans hs.symm)
  ·cases hc : (m.alloc (.cells #[] t)).cell? a with
   | none => rfl
   | some u =>
    have := cell_alloc_iff hc (by rw [ha, hs]; exact Nat.ne_of_lt (h.blk x hx).lt)
    rw [h.hid x hx a ha] at this; cases this
 ·refine List.Pairwise.cons (fun y hy => ?_) h.apart
  have := (h.blk y hy).lt
  simp only; omega

theorem Loc.call {w0 m0 W m W' m' : World} {Ls : List Lo} (h : Loc w0 m0 W m Ls) (hE : Ext W W') (hM : Ext m m') (hV : Vw m' W') : Loc w0 m0 W' m' Ls := by
 refine ⟨h.size0, h.ext.trans hE, h.mext.trans hM, hV, h.low, fun x hx => (h.blk x hx).ext hE, fun x hx a ha => ?_, h.apart⟩
 have hlt : a.block < m.heap.size := by rw [ha, h.vw.size]; exact (h.blk x hx).lt
 rw [hM.cell (p := a) hlt]
 exact h.hid x hx a ha
theorem Loc.drew {w0 m0 W m : World} {Ls : List Lo} (h : Loc w0 m0 W m Ls) : Loc w0 m0 W.drew m Ls :=
 ⟨h.size0, h.ext.drew, h.mext, ⟨h.vw.os, h.vw.tape, h.vw.output, h.vw.size, h.vw.cell⟩, h.low, h.blk, h.hid, h.apart⟩

theorem Loc.at_ {w0 m0 W m : World} {Ls : List Lo} (h : Loc w0 m0 W m Ls) {n g : Nat} {t : TypeId} {cs : Array Value} (hn : Ls[n]? = some (g, t, cs)) : Blk W g t cs :=
 h.blk (g, t, cs) (List.mem_of_getElem? hn)
theorem Loc.low_at {w0 m0 W m : World} {Ls : List Lo} (h : Loc w0 m0 W m Ls) {n g : Nat} {t : TypeId} {cs : Array Value} (hn : Ls[n]? = some (g, t, cs)) : w0.heap.size ≤ g :=
 h.low (g, t, cs) (List.mem_of_getElem? hn)

def splice (cs : Array Value) : Nat → List Value → Array Value
 | _, [] => cs
 | o, v :: r => splice (cs.setIfInBounds o v) (o + 1) r
theorem Blk.setCells {g : Nat} {t : TypeId} : ∀ (vs : List Value) (o : Nat) (w : World) (cs : Array Value), Blk w g t cs → Blk (w.setCells g o vs) g t (splice cs o vs)
 | [], _, _, _, h => h
 | v :: r, o, w, cs, h => Blk.setCells r (o + 1) (w.setCell ⟨g, o, none⟩ v) _ (h.set_ o v)
theorem heap_setCells_other (g : Nat) : ∀ (vs : List Value) (o : Nat) (w : World) (k : Nat), k ≠ g → (w.setCells g o vs).heap[k]? = w.heap[k]?
 | [], _, _, _, _ => rfl
 | v :: r, o, w, k, h => (heap_setCells_other g r (o + 1) _ k h).trans (heap_setCell_other w ⟨g, o, none⟩ k v h)
theorem size_setCells (g : Nat) : ∀ (vs : List Value) (o : Nat) (w : World), (w.setCells g o vs).heap.size = w.heap.size
 | [], _, _ => rfl
 | v :: r, o, w => (size_setCells g r (o + 1) _).trans (by simp [World.setCell])
theorem same_setCells (g : Nat) : ∀ (vs : List Value) (o : Nat) (w : World), (w.setCells g o vs).os = w.os ∧ (w.setCells g o vs).tape = w.tape ∧ (w.setCells g o vs).output = w.output
 | [], _, _ => ⟨rfl, rfl, rfl⟩
 | v :: r, o, w => same_setCells g r (o + 1) (w.setCell ⟨g, o, none⟩ v)
theorem Ext.setCells {a : World} {g : Nat} : ∀ (vs : List Value) (o : Nat) (w : World), Ext a w → a.heap.size ≤ g → Ext a (w.setCells g o vs)
 | [], _, _, h, _ => h
 | v :: r, o, w, h, hg => Ext.setCells r (o + 1) _ (h.setCell (p := ⟨g, o, none⟩) hg v) hg
theorem cell_of_heap {w w' : World} {a : Addr} (h : w'.heap[a.block]? = w.heap[a.block]?) : w'.cell? a = w.cell? a := by simp [World.cell?, h]

theorem pairwise_set {α : Type} {R : α → α → Prop} : ∀ {l : List α} {n : Nat} {x y : α}, l.Pairwise R → l[n]? = some x → (∀ z, R x z → R y z) → (∀ z, R z x → R z y) → (l.set n y).Pairwise R
 | [], _, _, _, _, h, _, _ => by simp at h
 | a :: l, 0, x, y, h, hn, h1, h2 => by
  simp at hn; subst hn
  cases h with
  | cons ha hl => exact List.Pairwise.cons (fun z hz => h1 z (ha z hz)) hl
 | a :: l, n + 1, x, y, h, hn, h1, h2 => by
  simp at hn
  cases h with
  | cons ha hl =>
   refine List.Pairwise.cons (fun z hz => ?_) (pairwise_set hl hn h1 h2)
   rcases List.mem_or_eq_of_mem_set hz with hz | rfl
   ·exact ha z hz
   ·exact h2 a (ha x (List.mem_of_getElem? hn))

theorem Loc.store {w0 m0 W m : World} {Ls : List Lo} (h : Loc w0 m0 W m Ls) {n g : Nat} {t : TypeId} {cs : Array Value} (hn : Ls[n]? = some (g, t, cs)) (o : Nat) (vs : List Value) :
  Loc w0 m0 (W.setCells g o vs) m (Ls.set n (g, t, splice cs o vs)) := by
 have hb := h.at_ hn
 have hg := h.low_at hn
 have hm : (g, t, cs) ∈ Ls := List.mem_of_getElem? hn
 have hin : n < Ls.length := (List.getElem?_eq_some_iff.1 hn).1
 have old : ∀ x ∈ Ls.set n (g, t, splice cs o vs), x = (g, t, splice cs o vs) ∨ (x ∈ Ls ∧ x.1 ≠ g) := by
  intro x hx
  obtain ⟨k, hk⟩ := List.mem_iff_getElem?.1 hx
  by_cases e : n = k
  ·subst e
   rw [List.getElem?_set_self hin] at hk
   exact .inl (Option.some.inj hk).symm
  ·rw [List.getElem?_set_ne e] at hk
   refine .inr ⟨List.mem_of_getElem? hk, ?_⟩
   have hpw := List.pairwise_iff_getElem.1 h.apart
   have hkl : k < Ls.length := (List.getElem?_eq_some_iff.1 hk).1
   have e1 : Ls[n] = (g, t, cs) := (List.getElem?_eq_some_iff.1 hn).2
   have e2 : Ls[k] = x := (List.getElem?_eq_some_iff.1 hk).2
   rcases Nat.lt_or_ge n k with hlt | hge
   ·have := hpw n k hin hkl hlt
    rw [e1, e2] at this
    exact fun h => this h.symm
   ·have := hpw k n hkl hin (by omega)
    rw [e1, e2] at this
    exact this
 refine ⟨h.size0, Ext.setCells _ _ _ h.ext hg, h.mext, ⟨h.vw.os.trans (same_setCells g vs o W).1.symm, h.vw.tape.trans (same_setCells g vs o W).2.1.symm, h.vw.output.trans (same_setCells g vs o W).2.2.symm, by rw [size_setCells]; exact h.vw.size, fun a u hu => ?_⟩, fun x hx => ?_, fun x hx => ?_, fun x hx a ha => ?_, ?_⟩
 ·have hne : a.block ≠ g := fun e => by rw [h.hid _ hm a e] at hu; cases hu
  exact (cell_of_heap (heap_setCells_other g vs o W _ hne)).trans (h.vw.cell _ _ hu)
 ·rcases old x hx with rfl | ⟨hx, _⟩
  ·exact hg
  ·exact h.low x hx
 ·rcases old x hx with rfl | ⟨hx, hne⟩
  ·exact Blk.setCells vs o W cs hb
  ·exact (heap_setCells_other g vs o W _ hne).trans (h.blk x hx)
 ·rcases old x hx with rfl | ⟨hx, _⟩
  ·exact h.hid _ hm a ha
  ·exact h.hid x hx a ha
 ·exact pairwise_set h.apart hn (fun z hz => hz) (fun z hz => hz)

theorem lo0 {x : Lo} {l : List Lo} : (x :: l)[0]? = some x := rfl
theorem lo1 {a x : Lo} {l : List Lo} : (a :: x :: l)[1]? = some x := rfl
theorem lo2 {a b x : Lo} {l : List Lo} : (a :: b :: x :: l)[2]? = some x := rfl
theorem lo3 {a b c x : Lo} {l : List Lo} : (a :: b :: c :: x :: l)[3]? = some x := rfl
theorem lo4 {a b c d x : Lo} {l : List Lo} : (a :: b :: c :: d :: x :: l)[4]? = some x := rfl
theorem lo5 {a b c d e x : Lo} {l : List Lo} : (a :: b :: c :: d :: e :: x :: l)[5]? = some x := rfl
theorem lo6 {a b c d e f x : Lo} {l : List Lo} : (a :: b :: c :: d :: e :: f :: x :: l)[6]? = some x := rfl
theorem lo7 {a b c d e f g x : Lo} {l : List Lo} : (a :: b :: c :: d :: e :: f :: g :: x :: l)[7]? = some x := rfl
theorem lo8 {a b c d e f g h x : Lo} {l : List Lo} : (a :: b :: c :: d :: e :: f :: g :: h :: x :: l)[8]? = some x := rfl
theorem lo9 {a b c d e f g h i x : Lo} {l : List Lo} : (a :: b :: c :: d :: e :: f :: g :: h :: i :: x :: l)[9]? = some x := rfl
theorem lo10 {a b c d e f g h i j x : Lo} {l : List Lo} : (a :: b :: c :: d :: e :: f :: g :: h :: i :: j :: x :: l)[10]? = some x := rfl
theorem lo11 {a b c d e f g h i j k x : Lo} {l : List Lo} : (a :: b :: c :: d :: e :: f :: g :: h :: i :: j :: k :: x :: l)[11]? = some x := rfl

theorem at0 {x : Value} {l : List Value} : (List.toArray (x :: l))[0]? = some x := by simp
theorem at1 {a x : Value} {l : List Value} : (List.toArray (a :: x :: l))[1]? = some x := by simp
theorem at2 {a b x : Value} {l : List Value} : (List.toArray (a :: b :: x :: l))[2]? = some x := by simp
theorem at3 {a b c x : Value} {l : List Value} : (List.toArray (a :: b :: c :: x :: l))[3]? = some x := by simp
theorem at4 {a b c d x : Value} {l : List Value} : (List.toArray (a :: b :: c :: d :: x :: l))[4]? = some x := by simp
theorem at5 {a b c d e x : Value} {l : List Value} : (List.toArray (a :: b :: c :: d :: e :: x :: l))[5]? = some x := by simp
theorem at6 {a b c d e f x : Value} {l : List Value} : (List.toArray (a :: b :: c :: d :: e :: f :: x :: l))[6]? = some x := by simp
theorem at7 {a b c d e f g x : Value} {l : List Value} : (List.toArray (a :: b :: c :: d :: e :: f :: g :: x :: l))[7]? = some x := by simp
theorem at8 {a b c d e f g h x : Value} {l : List Value} : (List.toArray (a :: b :: c :: d :: e :: f :: g :: h :: x :: l))[8]? = some x := by simp
theorem at9 {a b c d e f g h i x : Value} {l : List Value} : (List.toArray (a :: b :: c :: d :: e :: f :: g :: h :: i :: x :: l))[9]? = some x := by simp
theorem at10 {a b c d e f g h i j x : Value} {l : List Value} : (List.toArray (a :: b :: c :: d :: e :: f :: g :: h :: i :: j :: x :: l))[10]? = some x := by simp
theorem at11 {a b c d e f g h i j k x : Value} {l : List Value} : (List.toArray (a :: b :: c :: d :: e :: f :: g :: h :: i :: j :: k :: x :: l))[11]? = some x := by simp

def zc (P : Program) (t : TypeId) : Option (Array Value) := (P.info? t).bind fun i => i.zero.map Value.cells
def agS (P : Program) (t : TypeId) : Option Nat :=
 match P.underlying t with
 | some (.struct _) | some (.array _ _) => (P.info? t).map (·.size)
 | _ => none
def lfB (P : Program) (t : TypeId) : Bool :=
 (match P.underlying t with | some (.struct _) | some (.array _ _) | none => false | _ => true) && ((P.info? t).map (·.size) == some 1)

section
variable {P : Program} {ops : Array Oper} {Q : Exit → Act → World → Prop} {rest : List Oper} {o : Oper} {a : Act} {w0 m0 W m : World} {Ls : List Lo}

theorem wpList_wanted (hw : Region.wanted o (yielded ops a.tmps) = true) (h : ∀ K : Act → World → Prop, (∀ a w, wpList P ops Q rest a w → K a w) → o.wp P a W K Q) : wpList P ops Q (o :: rest) a W := by
 unfold wpList
 rw [if_pos hw]
 exact .inl (h _ fun _ _ h => h)
theorem run_zero {t : TypeId} {cs : Array Value} (hz : zc P t = some cs) (w : World) : ∃ z, z.cells = cs ∧ (zeroValue t).run P w = .ok z w := by
 unfold zc at hz
 cases hi : P.info? t with
 | none => simp [hi] at hz
 | some i =>
  cases hzz : i.zero with
  | none => simp [hi, hzz] at hz
  | some z =>
   simp [hi, hzz] at hz
   exact ⟨z, hz, by simp [zeroValue, typeInfo, hi, hzz]⟩

theorem op_alloc {K : Act → World → Prop} {t : TypeId} (ho : o.op = .alloc t) {cs : Array Value} (hz : zc P t = some cs)
  (h : K (a.put o.dst (.pointer (some ⟨W.heap.size, 0, none⟩))) (W.alloc (.cells cs t))) : o.wp P a W K Q := by
 obtain ⟨z, hzc, hrun⟩ := run_zero (P := P) hz W
 unfold Oper.wp execOp
 simp only [ho, Instr.alloc, Sem.run_bind, hrun, Result.andThen_ok, newVar, newRow, hzc]
 simpa [Oper.upon, go_sem] using h
theorem wl_alloc (hL : Loc w0 m0 W m Ls) (hw : Region.wanted o (yielded ops a.tmps) = true) {t : TypeId} (ho : o.op = .alloc t) {cs : Array Value} (hz : zc P t = some cs)
  (h : ∀ W' m', Loc w0 m0 W' m' ((W.heap.size, t, cs) :: Ls) → Ext m m' → wpList P ops Q rest (a.put o.dst (.pointer (some ⟨W.heap.size, 0, none⟩))) W') :
  wpList P ops Q (o :: rest) a W :=
 wpList_wanted hw fun _ hK => op_alloc ho hz (hK _ _ (h _ _ (hL.alloc cs t) (Ext.new _ _)))

theorem op_box {K : Act → World → Prop} {t : TypeId} {x : Operand} (ho : o.op = .box t x)
  (h : K (a.put o.dst (.pointer (some ⟨W.heap.size, 0, none⟩))) (W.alloc (.cells (a.eval x).cells t))) : o.wp P a W K Q := by
 unfold Oper.wp execOp
 simp only [ho, Instr.box, newVar, newRow]
 simpa [Oper.upon, go_sem] using h
theorem wl_boxA (hL : Loc w0 m0 W m Ls) (hw : Region.wanted o (yielded ops a.tmps) = true) {t : TypeId} {x : Operand} (ho : o.op = .box t x) {cs : Array Value} (hx : a.eval x = .agg cs)
  (h : ∀ W' m', Loc w0 m0 W' m' ((W.heap.size, t, cs) :: Ls) → Ext m m' → wpList P ops Q rest (a.put o.dst (.pointer (some ⟨W.heap.size, 0, none⟩))) W') :
  wpList P ops Q (o :: rest) a W :=
 wpList_wanted hw fun _ hK => op_box ho (by rw [hx]; exact hK _ _ (h _ _ (hL.alloc cs t) (Ext.new _ _)))

theorem ag_desc {t : TypeId} {k : Nat} (h : agS P t = some k) : ∃ d, P.underlying t = some d ∧ d.isRow = true ∧ (P.info? t).map (·.size) = some k := by
 unfold agS at h
 split at h
 ·rename_i fs e; exact ⟨_, e, rfl, h⟩
 ·rename_i n s e; exact ⟨_, e, rfl, h⟩
 ·cases h

theorem op_load {K : Act → World → Prop} {ty : TypeId} {x : Operand} (ho : o.op = .load ty x) {g off : Nat} (hx : a.eval x = .pointer (some ⟨g, off, none⟩)) {vs : List Value}
  (hty : agS P ty = some vs.length) (hr : W.rangeAt g off vs) (h : K (a.put o.dst (.agg vs.toArray)) W) : o.wp P a W K Q := by
 obtain ⟨d, hu, hd, hi⟩ := ag_desc hty
 exact wp_load_mid ty x ho g off hx vs d hr hu hd hi h
theorem op_load1 {K : Act → World → Prop} {ty : TypeId} {x : Operand} (ho : o.op = .load ty x) {g off : Nat} (hx : a.eval x = .pointer (some ⟨g, off, none⟩)) {v : Value}
  (hty : lfB P ty = true) (hv : W.cell? ⟨g, off, none⟩ = some v) (h : K (a.put o.dst v) W) : o.wp P a W K Q := by
 have hagg : (isAgg ty).run P W = .ok false W := by
  unfold lfB at hty
  unfold isAgg
  cases hu : P.underlying ty with
  | none => simp [hu] at hty
  | some d =>
   rw [Sem.run_bind, run_underlying hu W]
   cases d <;> simp_all
 unfold Oper.wp execOp
 simp only [ho, hx, Instr.loadAt, Instr.sureAddr, Sem.run_bind, Sem.run_pure, Result.andThen_ok, loadVar, hagg]
 simpa [Oper.upon, go_sem, hv] using h

theorem Blk.range2 {w : World} {g off : Nat} {t : TypeId} {cs : Array Value} (h : Blk w g t cs) {v0 v1 : Value} (h0 : cs[off]? = some v0) (h1 : cs[off + 1]? = some v1) : w.rangeAt g off [v0, v1] := by
 intro j v hv
 rw [h.cell]
 match j, hv with
 | 0, hv => simp at hv; subst hv; exact h0
 | 1, hv => simp at hv; subst hv; exact h1
theorem Blk.rangeAll {w : World} {g : Nat} {t : TypeId} {cs : List Value} (h : Blk w g t cs.toArray) : w.rangeAt g 0 cs := by
 intro j v hv
 rw [h.cell, Nat.zero_add]
 simpa using hv

theorem wl_load2 (hL : Loc w0 m0 W m Ls) (hw : Region.wanted o (yielded ops a.tmps) = true) {ty : TypeId} {x : Operand} (ho : o.op = .load ty x) {g off : Nat} (hx : a.eval x = .pointer (some ⟨g, off, none⟩))
  (hty : agS P ty = some 2) {n : Nat} {t : TypeId} {cs : Array Value} (hn : Ls[n]? = some (g, t, cs)) {v0 v1 : Value} (h0 : cs[off]? = some v0) (h1 : cs[off + 1]? = some v1)
  (h : wpList P ops Q rest (a.put o.dst (.agg #[v0, v1])) W) : wpList P ops Q (o :: rest) a W :=
 wpList_wanted hw fun _ hK => op_load ho hx (vs := [v0, v1]) hty ((hL.at_ hn).range2 h0 h1) (hK _ _ h)
theorem wl_loadW (hL : Loc w0 m0 W m Ls) (hw : Region.wanted o (yielded ops a.tmps) = true) {ty : TypeId} {x : Operand} (ho : o.op = .load ty x) {g : Nat} (hx : a.eval x = .pointer (some ⟨g, 0, none⟩))
  {n : Nat} {t : TypeId} {cs : List Value} (hn : Ls[n]? = some (g, t, cs.toArray)) {k : Nat} (hty : agS P ty = some k) (hk : cs.length = k)
  (h : wpList P ops Q rest (a.put o.dst (.agg cs.toArray)) W) : wpList P ops Q (o :: rest) a W :=
 wpList_wanted hw fun _ hK => op_load ho hx (vs := cs) (hk ▸ hty) (Blk.rangeAll (hL.at_ hn)) (hK _ _ h)
theorem wl_load1 (hL : Loc w0 m0 W m Ls) (hw : Region.wanted o (yielded ops a.tmps) = true) {ty : TypeId} {x : Operand} (ho : o.op = .load ty x) {g off : Nat} (hx : a.eval x = .pointer (some ⟨g, off, none⟩))
  (hty : lfB P ty = true) {n : Nat} {t : TypeId} {cs : Array Value} (hn : Ls[n]? = some (g, t, cs)) {v : Value} (hv : cs[off]? = some v)
  (h : wpList P ops Q rest (a.put o.dst v) W) : wpList P ops Q (o :: rest) a W :=
 wpList_wanted hw fun _ hK => op_load1 ho hx hty (((hL.at_ hn).cell off).trans hv) (hK _ _ h)

theorem op_store {K : Act → World → Prop} {ty : TypeId} {x y : Operand} (ho : o.op = .store ty x y) {g off : Nat} (hx : a.eval x = .pointer (some ⟨g, off, none⟩)) {vs : List Value}
  (hy : a.eval y = .agg vs.toArray) (hty : agS P ty = some vs.length) {t : TypeId} {cs : Array Value} (hb : Blk W g t cs) (hfit : off + vs.length ≤ cs.size) (h1 : vs.all (·.oneCell') = true)
  (h : K (a.put o.dst undef) (W.setCells g off vs)) : o.wp P a W K Q := by
 obtain ⟨d, hu, hd, hi⟩ := ag_desc hty
 refine wp_store_mid ty x y ho g off vs.toArray hx hy (fun j hj => ⟨?_, hb.frozen _⟩) (by simpa using hi) (by simpa using h1) h
 rw [hb.cell]
 simp at hj
 simp; omega
theorem wl_store (hL : Loc w0 m0 W m Ls) (hw : Region.wanted o (yielded ops a.tmps) = true) {ty : TypeId} {x y : Operand} (ho : o.op = .store ty x y) {g off : Nat} (hx : a.eval x = .pointer (some ⟨g, off, none⟩)) {vs : List Value}
  (hy : a.eval y = .agg vs.toArray) {k : Nat} (hty : agS P ty = some k) (hk : vs.length = k) {n : Nat} {t : TypeId} {cs : Array Value} (hn : Ls[n]? = some (g, t, cs)) (hfit : off + vs.length ≤ cs.size) (h1 : vs.all (·.oneCell') = true)
  (h : ∀ W', Loc w0 m0 W' m (Ls.set n (g, t, splice cs off vs)) → wpList P ops Q rest (a.put o.dst undef) W') : wpList P ops Q (o :: rest) a W :=
 wpList_wanted hw fun _ hK => op_store ho hx hy (hk ▸ hty) (hL.at_ hn) hfit h1 (hK _ _ (h _ (hL.store hn off vs)))

theorem op_store1 {K : Act → World → Prop} {ty : TypeId} {x y : Operand} (ho : o.op = .store ty x y) {g off : Nat} (hx : a.eval x = .pointer (some ⟨g, off, none⟩)) {v : Value}
  (hy : a.eval y = v) (hty : lfB P ty = true) {t : TypeId} {cs : Array Value} (hb : Blk W g t cs) (hfit : off < cs.size) (h1 : v.oneCell' = true) (hc : v.cells = #[v])
  (h : K (a.put o.dst undef) (W.setCells g off [v])) : o.wp P a W K Q := by
 have hsz : (sizeOf ty).run P W = .ok 1 W := by
  unfold lfB at hty
  cases hi : P.info? ty with
  | none => simp [hi] at hty
  | some i =>
   have : i.size = 1 := by simp [hi] at hty; exact hty.2
   simp [sizeOf, typeInfo, hi, this]
 have hst : (store ⟨g, off, none⟩ v).run P W = .ok () (W.setCell ⟨g, off, none⟩ v) := by
  rw [run_store P W _ v _ h1]
  have h2 := hb.cell off
  have h3 := hb.frozen off
  simp [stored, h3, h2, hfit]
 unfold Oper.wp execOp
 simp only [ho, hx, hy, Instr.storeAt, Instr.sureAddr, Sem.run_bind, Sem.run_pure, Result.andThen_ok, storeVar, hsz, hc]
 simp only [storeCells, Addr.add_mid, Nat.add_zero, Sem.run_bind, hst, Result.andThen_ok]
 simpa [Oper.upon, go_sem, hst, World.setCells] using h
theorem wl_store1 (hL : Loc w0 m0 W m Ls) (hw : Region.wanted o (yielded ops a.tmps) = true) {ty : TypeId} {x y : Operand} (ho : o.op = .store ty x y) {g off : Nat} (hx : a.eval x = .pointer (some ⟨g, off, none⟩)) {v : Value}
  (hy : a.eval y = v) (hty : lfB P ty = true) {n : Nat} {t : TypeId} {cs : Array Value} (hn : Ls[n]? = some (g, t, cs)) (hfit : off < cs.size) (h1 : v.oneCell' = true) (hc : v.cells = #[v])
  (h : ∀ W', Loc w0 m0 W' m (Ls.set n (g, t, splice cs off [v])) → wpList P ops Q rest (a.put o.dst undef) W') : wpList P ops Q (o :: rest) a W :=
 wpList_wanted hw fun _ hK => op_store1 ho hx hy hty (hL.at_ hn) hfit h1 hc (hK _ _ (h _ (hL.store hn off [v])))
end

def fldS (P : Program) (t : TypeId) (k : Nat) : Option (TypeId × Nat) :=
 match P.underlying t with
 | some (.struct fs) => (fs[k]?).map fun f => (f.type, f.offset)
 | _ => none
section
variable {P : Program} {ops : Array Oper} {Q : Exit → Act → World → Prop} {rest : List Oper} {o : Oper} {a : Act} {W : World}
theorem extract2 {cs : Array Value} {off : Nat} {v0 v1 : Value} (h0 : cs[off]? = some v0) (h1 : cs[off + 1]? = some v1) : cs.extract off (off + 2) = #[v0, v1] := by
 have l1 : off + 1 < cs.size := (Array.getElem?_eq_some_iff.1 h1).1
 apply Array.ext_getElem?
 intro i
 rw [Array.getElem?_extract]
 match i with
 | 0 => simp [h0]; omega
 | 1 => simp [h1]; omega
 | i + 2 =>
  have : ¬ (i + 2 < min (off + 2) cs.size - off) := by omega
  simp [this]
theorem run_fields {t : TypeId} {k : Nat} {ft : TypeId} {off : Nat} (hf : fldS P t k = some (ft, off)) (cs : Array Value) (w : World) : (Instr.field t (.agg cs) k).run P w = (part ft cs off).run P w := by
 unfold fldS at hf
 split at hf
 ·rename_i fs hu
  cases hk : fs[k]? with
  | none => simp [hk] at hf
  | some f =>
   simp [hk] at hf
   obtain ⟨rfl, rfl⟩ := hf
   unfold Instr.field
   rw [Sem.run_bind, run_underlying hu w]
   simp [hk, asAgg]
 ·cases hf
theorem run_part2 {ft : TypeId} {off : Nat} {cs : Array Value} {v0 v1 : Value} (hty : agS P ft = some 2) (h0 : cs[off]? = some v0) (h1 : cs[off + 1]? = some v1) (w : World) : (part ft cs off).run P w = .ok (.agg #[v0, v1]) w := by
 obtain ⟨d, hu, hd, hi⟩ := ag_desc hty
 cases hq : P.info? ft with
 | none => simp [hq] at hi
 | some i =>
  have hs : i.size = 2 := by simpa [hq] using hi
  have hagg : (isAgg ft).run P w = .ok true w := by
   unfold isAgg
   rw [Sem.run_bind, run_underlying hu w]
   cases d <;> simp_all [TypeDesc.isRow]
  simp [part, Sem.run_bind, hagg, sizeOf, typeInfo, hq, hs, extract2 h0 h1]
theorem run_part1 {ft : TypeId} {off : Nat} {cs : Array Value} {v : Value} (hty : lfB P ft = true) (h0 : cs[off]? = some v) (w : World) : (part ft cs off).run P w = .ok v w := by
 have hagg : (isAgg ft).run P w = .ok false w := by
  unfold lfB at hty
  unfold isAgg
  cases hu : P.underlying ft with
  | none => simp [hu] at hty
  | some d =>
   rw [Sem.run_bind, run_underlying hu w]
   cases d <;> simp_all
 simp [part, Sem.run_bind, hagg, h0]
theorem wl_field2 (hw : Region.wanted o (yielded ops a.tmps) = true) {t : TypeId} {x : Operand} {k : Nat} (ho : o.op = .field t x k) {cs : Array Value} (hx : a.eval x = .agg cs) {ft : TypeId} {off : Nat} (hf : fldS P t k = some (ft, off))
  (hty : agS P ft = some 2) {v0 v1 : Value} (h0 : cs[off]? = some v0) (h1 : cs[off + 1]? = some v1) (h : wpList P ops Q rest (a.put o.dst (.agg #[v0, v1])) W) : wpList P ops Q (o :: rest) a W :=
 wpList_wanted hw fun _ hK => by
  unfold Oper.wp execOp
  simp only [ho, hx, Sem.run_bind, run_fields hf, run_part2 hty h0 h1, Result.andThen_ok, Sem.run_pure]
  exact hK _ _ h
theorem wl_field1 (hw : Region.wanted o (yielded ops a.tmps) = true) {t : TypeId} {x : Operand} {k : Nat} (ho : o.op = .field t x k) {cs : Array Value} (hx : a.eval x = .agg cs) {ft : TypeId} {off : Nat} (hf : fldS P t k = some (ft, off))
  (hty : lfB P ft = true) {v : Value} (h0 : cs[off]? = some v) (h : wpList P ops Q rest (a.put o.dst v) W) : wpList P ops Q (o :: rest) a W :=
 wpList_wanted hw fun _ hK => by
  unfold Oper.wp execOp
  simp only [ho, hx, Sem.run_bind, run_fields hf, run_part1 hty h0, Result.andThen_ok, Sem.run_pure]
  exact hK _ _ h
end

def RetV (w m : World) (R : World → Value → Prop) (e : Ending) (w' : World) : Prop :=
 ∃ v m', e = .returned v ∧ Ext w w' ∧ Ext m m' ∧ Vw m' w' ∧ R m' v
theorem RetV.mk {w m W m' : World} {R : World → Value → Prop} {v : Value} {Ls : List Lo} (hL : Loc w m W m' Ls) (h : R m' v) : RetV w m R (.returned v) W := ⟨v, m', rfl, hL.ext, hL.mext, hL.vw, h⟩

theorem wanted_none {ops : Array Oper} {o : Oper} {tmps : Array Value} (h : o.guard = none) : Region.wanted o (yielded ops tmps) = true := by simp [Region.wanted, h]
theorem wanted_some {ops : Array Oper} {o p : Oper} {tmps : Array Value} {j d : Nat} {b : Bool} (h : o.guard = some (j, b)) (hp : ops[j]? = some p) (hd : p.dst = some d) (hv : tmps[d]? = some (.bool b)) : Region.wanted o (yielded ops tmps) = true := by
 simp [Region.wanted, h, yielded, hp, hd, hv]
class AgC (P : Program) (t : TypeId) (k : outParam Nat) : Prop where
 h : agS P t = some k
class LfC (P : Program) (t : TypeId) : Prop where
 h : lfB P t = true
class ZcC (P : Program) (t : TypeId) (cs : outParam (Array Value)) : Prop where
 h : zc P t = some cs
class FlC (P : Program) (t : TypeId) (k : Nat) (ft : outParam TypeId) (off : outParam Nat) : Prop where
 h : fldS P t k = some (ft, off)
section
variable {P : Program} {ops : Array Oper} {Q : Exit → Act → World → Prop} {rest : List Oper} {o : Oper} {a : Act} {w0 m0 W m : World} {Ls : List Lo}
theorem t_box (hL : Loc w0 m0 W m Ls) {t : TypeId} {x : Operand} (ho : o.op = .box t x) {cs : Array Value} (hx : a.eval x = .agg cs)
  (h : ∀ W' m', Loc w0 m0 W' m' ((W.heap.size, t, cs) :: Ls) → Ext m m' → wpList P ops Q rest (a.put o.dst (.pointer (some ⟨W.heap.size, 0, none⟩))) W')
  (hw : Region.wanted o (yielded ops a.tmps) = true := by first | exact wanted_none rfl | exact wanted_some rfl rfl rfl rfl) :
  wpList P ops Q (o :: rest) a W := wl_boxA hL hw ho hx h
theorem t_alloc (hL : Loc w0 m0 W m Ls) {t : TypeId} (ho : o.op = .alloc t) {cs : Array Value} [hz : ZcC P t cs]
  (h : ∀ W' m', Loc w0 m0 W' m' ((W.heap.size, t, cs) :: Ls) → Ext m m' → wpList P ops Q rest (a.put o.dst (.pointer (some ⟨W.heap.size, 0, none⟩))) W')
  (hw : Region.wanted o (yielded ops a.tmps) = true := by first | exact wanted_none rfl | exact wanted_some rfl rfl rfl rfl) :
  wpList P ops Q (o :: rest) a W := wl_alloc hL hw ho hz.h h
theorem t_load2 (hL : Loc w0 m0 W m Ls) {ty : TypeId} {x : Operand} (ho : o.op = .load ty x) {g off : Nat} (hx : a.eval x = .pointer (some ⟨g, off, none⟩)) [hty : AgC P ty 2] {n : Nat} {t : TypeId} {cs : Array Value} {v0 v1 : Value}
  (h : wpList P ops Q rest (a.put o.dst (.agg #[v0, v1])) W)
  (hn : Ls[n]? = some (g, t, cs) ∧ cs[off]? = some v0 ∧ cs[off + 1]? = some v1 := by refine ⟨?_, ?_, ?_⟩; (first | with_reducible exact lo0 | with_reducible exact lo1 | with_reducible exact lo2 | with_reducible exact lo3 | with_reducible exact lo4 | with_reducible exact lo5 | with_reducible exact lo6 | with_reducible exact lo7 | with_reducible exact lo8 | with_reducible exact lo9 | with_reducible exact lo10 | with_reducible exact lo11); (first | with_reducible exact at0 | with_reducible exact at1 | with_reducible exact at2 | with_reducible exact at3 | with_reducible exact at4 | with_reducible exact at5 | with_reducible exact at6 | with_reducible exact at7 | with_reducible exact at8 | with_reducible exact at9 | with_reducible exact at10 | with_reducible exact at11); (first | with_reducible exact at0 | with_reducible exact at1 | with_reducible exact at2 | with_reducible exact at3 | with_reducible exact at4 | with_reducible exact at5 | with_reducible exact at6 | with_reducible exact at7 | with_reducible exact at8 | with_reducible exact at9 | with_reducible exact at10 | with_reducible exact at11))
  (hw : Region.wanted o (yielded ops a.tmps) = true := by first | exact wanted_none rfl | exact wanted_some rfl rfl rfl rfl) :
  wpList P ops Q (o :: rest) a W := wl_load2 hL hw ho hx hty.h hn.1 hn.2.1 hn.2.2 h
theorem t_loadW (hL : Loc w0 m0 W m Ls) {ty : TypeId} {x : Operand} (ho : o.op = .load ty x) {g : Nat} (hx : a.eval x = .pointer (some ⟨g, 0, none⟩)) {n : Nat} {t : TypeId} {cs : List Value} {k : Nat} [hty : AgC P ty k]
  (h : wpList P ops Q rest (a.put o.dst (.agg cs.toArray)) W)
  (hn : Ls[n]? = some (g, t, cs.toArray) ∧ cs.length = k := by refine ⟨?_, ?_⟩; (first | with_reducible exact lo0 | with_reducible exact lo1 | with_reducible exact lo2 | with_reducible exact lo3 | with_reducible exact lo4 | with_reducible exact lo5 | with_reducible exact lo6 | with_reducible exact lo7 | with_reducible exact lo8 | with_reducible exact lo9 | with_reducible exact lo10 | with_reducible exact lo11); exact rfl)
  (hw : Region.wanted o (yielded ops a.tmps) = true := by first | exact wanted_none rfl | exact wanted_some rfl rfl rfl rfl) :
  wpList P ops Q (o :: rest) a W := wl_loadW hL hw ho hx hn.1 hty.h hn.2 h
theorem t_load1 (hL : Loc w0 m0 W m Ls) {ty : TypeId} {x : Operand} (ho : o.op = .load ty x) {g off : Nat} (hx : a.eval x = .pointer (some ⟨g, off, none⟩)) [hty : LfC P ty] {n : Nat} {t : TypeId} {cs : Array Value} {v : Value}
  (h : wpList P ops Q rest (a.put o.dst v) W)
  (hn : Ls[n]? = some (g, t, cs) ∧ cs[off]? = some v := by refine ⟨?_, ?_⟩; (first | with_reducible exact lo0 | with_reducible exact lo1 | with_reducible exact lo2 | with_reducible exact lo3 | with_reducible exact lo4 | with_reducible exact lo5 | with_reducible exact lo6 | with_reducible exact lo7 | with_reducible exact lo8 | with_reducible exact lo9 | with_reducible exact lo10 | with_reducible exact lo11); (first | with_reducible exact at0 | with_reducible exact at1 | with_reducible exact at2 | with_reducible exact at3 | with_reducible exact at4 | with_reducible exact at5 | with_reducible exact at6 | with_reducible exact at7 | with_reducible exact at8 | with_reducible exact at9 | with_reducible exact at10 | with_reducible exact at11))
  (hw : Region.wanted o (yielded ops a.tmps) = true := by first | exact wanted_none rfl | exact wanted_some rfl rfl rfl rfl) :
  wpList P ops Q (o :: rest) a W := wl_load1 hL hw ho hx hty.h hn.1 hn.2 h
theorem t_store (hL : Loc w0 m0 W m Ls) {ty : TypeId} {x y : Operand} (ho : o.op = .store ty x y) {g off : Nat} (hx : a.eval x = .pointer (some ⟨g, off, none⟩)) {vs : List Value} (hy : a.eval y = .agg vs.toArray) {k : Nat} [hty : AgC P ty k] {n : Nat} {t : TypeId} {cs : Array Value}
  (h : ∀ W', Loc w0 m0 W' m (Ls.set n (g, t, splice cs off vs)) → wpList P ops Q rest (a.put o.dst undef) W')
  (hn : Ls[n]? = some (g, t, cs) ∧ vs.length = k ∧ off + vs.length ≤ cs.size ∧ vs.all (·.oneCell') = true := by refine ⟨?_, ?_, ?_, ?_⟩; (first | with_reducible exact lo0 | with_reducible exact lo1 | with_reducible exact lo2 | with_reducible exact lo3 | with_reducible exact lo4 | with_reducible exact lo5 | with_reducible exact lo6 | with_reducible exact lo7 | with_reducible exact lo8 | with_reducible exact lo9 | with_reducible exact lo10 | with_reducible exact lo11); exact rfl; exact Nat.le_of_ble_eq_true rfl; exact rfl)
  (hw : Region.wanted o (yielded ops a.tmps) = true := by first | exact wanted_none rfl | exact wanted_some rfl rfl rfl rfl) :
  wpList P ops Q (o :: rest) a W := wl_store hL hw ho hx hy hty.h hn.2.1 hn.1 hn.2.2.1 hn.2.2.2 h
theorem t_store1 (hL : Loc w0 m0 W m Ls) {ty : TypeId} {x y : Operand} (ho : o.op = .store ty x y) {g off : Nat} (hx : a.eval x = .pointer (some ⟨g, off, none⟩)) {v : Value} (hy : a.eval y = v) [hty : LfC P ty] {n : Nat} {t : TypeId} {cs : Array Value}
  (h : ∀ W', Loc w0 m0 W' m (Ls.set n (g, t, splice cs off [v])) → wpList P ops Q rest (a.put o.dst undef) W')
  (hn : Ls[n]? = some (g, t, cs) ∧ off < cs.size ∧ v.oneCell' = true ∧ v.cells = #[v] := by refine ⟨?_, ?_, ?_, ?_⟩; (first | with_reducible exact lo0 | with_reducible exact lo1 | with_reducible exact lo2 | with_reducible exact lo3 | with_reducible exact lo4 | with_reducible exact lo5 | with_reducible exact lo6 | with_reducible exact lo7 | with_reducible exact lo8 | with_reducible exact lo9 | with_reducible exact lo10 | with_reducible exact lo11); exact Nat.le_of_ble_eq_true rfl; exact rfl; exact rfl)
  (hw : Region.wanted o (yielded ops a.tmps) = true := by first | exact wanted_none rfl | exact wanted_some rfl rfl rfl rfl) :
  wpList P ops Q (o :: rest) a W := wl_store1 hL hw ho hx hy hty.h hn.1 hn.2.1 hn.2.2.1 hn.2.2.2 h
theorem t_sts (hL : Loc w0 m0 W m Ls) {ty : TypeId} {x y : Operand} (ho : o.op = .store ty x y) {g off : Nat} (hx : a.eval x = .pointer (some ⟨g, off, none⟩)) {A : Option Addr} {k c : Nat} (hy : a.eval y = .slice A k c) [hty : LfC P ty] {n : Nat} {t : TypeId} {cs : Array Value}
  (h : ∀ W', Loc w0 m0 W' m (Ls.set n (g, t, splice cs off [.slice A k c])) → wpList P ops Q rest (a.put o.dst undef) W')
  (hn : Ls[n]? = some (g, t, cs) ∧ off < cs.size := by refine ⟨?_, ?_⟩; (first | with_reducible exact lo0 | with_reducible exact lo1 | with_reducible exact lo2 | with_reducible exact lo3 | with_reducible exact lo4 | with_reducible exact lo5 | with_reducible exact lo6 | with_reducible exact lo7 | with_reducible exact lo8 | with_reducible exact lo9 | with_reducible exact lo10 | with_reducible exact lo11); exact Nat.le_of_ble_eq_true rfl)
  (hw : Region.wanted o (yielded ops a.tmps) = true := by first | exact wanted_none rfl | exact wanted_some rfl rfl rfl rfl) :
  wpList P ops Q (o :: rest) a W := wl_store1 hL hw ho hx hy hty.h hn.1 hn.2 rfl rfl h
theorem t_sti (hL : Loc w0 m0 W m Ls) {ty : TypeId} {x y : Operand} (ho : o.op = .store ty x y) {g off : Nat} (hx : a.eval x = .pointer (some ⟨g, off, none⟩)) {kd : IntKind} {z : Int} (hy : a.eval y = .int kd z) [hty : LfC P ty] {n : Nat} {t : TypeId} {cs : Array Value}
  (h : ∀ W', Loc w0 m0 W' m (Ls.set n (g, t, splice cs off [.int kd z])) → wpList P ops Q rest (a.put o.dst undef) W')
  (hn : Ls[n]? = some (g, t, cs) ∧ off < cs.size := by refine ⟨?_, ?_⟩; (first | with_reducible exact lo0 | with_reducible exact lo1 | with_reducible exact lo2 | with_reducible exact lo3 | with_reducible exact lo4 | with_reducible exact lo5 | with_reducible exact lo6 | with_reducible exact lo7 | with_reducible exact lo8 | with_reducible exact lo9 | with_reducible exact lo10 | with_reducible exact lo11); exact Nat.le_of_ble_eq_true rfl)
  (hw : Region.wanted o (yielded ops a.tmps) = true := by first | exact wanted_none rfl | exact wanted_some rfl rfl rfl rfl) :
  wpList P ops Q (o :: rest) a W := wl_store1 hL hw ho hx hy hty.h hn.1 hn.2 rfl rfl h
theorem t_stb (hL : Loc w0 m0 W m Ls) {ty : TypeId} {x y : Operand} (ho : o.op = .store ty x y) {g off : Nat} (hx : a.eval x = .pointer (some ⟨g, off, none⟩)) {b : Bool} (hy : a.eval y = .bool b) [hty : LfC P ty] {n : Nat} {t : TypeId} {cs : Array Value}
  (h : ∀ W', Loc w0 m0 W' m (Ls.set n (g, t, splice cs off [.bool b])) → wpList P ops Q rest (a.put o.dst undef) W')
  (hn : Ls[n]? = some (g, t, cs) ∧ off < cs.size := by refine ⟨?_, ?_⟩; (first | with_reducible exact lo0 | with_reducible exact lo1 | with_reducible exact lo2 | with_reducible exact lo3 | with_reducible exact lo4 | with_reducible exact lo5 | with_reducible exact lo6 | with_reducible exact lo7 | with_reducible exact lo8 | with_reducible exact lo9 | with_reducible exact lo10 | with_reducible exact lo11); exact Nat.le_of_ble_eq_true rfl)
  (hw : Region.wanted o (yielded ops a.tmps) = true := by first | exact wanted_none rfl | exact wanted_some rfl rfl rfl rfl) :
  wpList P ops Q (o :: rest) a W := wl_store1 hL hw ho hx hy hty.h hn.1 hn.2 rfl rfl h
theorem t_field2 {t : TypeId} {x : Operand} {k : Nat} (ho : o.op = .field t x k) {cs : Array Value} (hx : a.eval x = .agg cs) {ft : TypeId} {off : Nat} [hf : FlC P t k ft off] [hty : AgC P ft 2] {v0 v1 : Value}
  (h : wpList P ops Q rest (a.put o.dst (.agg #[v0, v1])) W) (h0 : cs[off]? = some v0 := by first | with_reducible exact at0 | with_reducible exact at1 | with_reducible exact at2 | with_reducible exact at3 | with_reducible exact at4 | with_reducible exact at5 | with_reducible exact at6 | with_reducible exact at7 | with_reducible exact at8 | with_reducible exact at9 | with_reducible exact at10 | with_reducible exact at11) (h1 : cs[off + 1]? = some v1 := by first | with_reducible exact at0 | with_reducible exact at1 | with_reducible exact at2 | with_reducible exact at3 | with_reducible exact at4 | with_reducible exact at5 | with_reducible exact at6 | with_reducible exact at7 | with_reducible exact at8 | with_reducible exact at9 | with_reducible exact at10 | with_reducible exact at11)
  (hw : Region.wanted o (yielded ops a.tmps) = true := by first | exact wanted_none rfl | exact wanted_some rfl rfl rfl rfl) :
  wpList P ops Q (o :: rest) a W := wl_field2 hw ho hx hf.h hty.h h0 h1 h
theorem t_field1 {t : TypeId} {x : Operand} {k : Nat} (ho : o.op = .field t x k) {cs : Array Value} (hx : a.eval x = .agg cs) {ft : TypeId} {off : Nat} [hf : FlC P t k ft off] [hty : LfC P ft] {v : Value}
  (h : wpList P ops Q rest (a.put o.dst v) W) (h0 : cs[off]? = some v := by first | with_reducible exact at0 | with_reducible exact at1 | with_reducible exact at2 | with_reducible exact at3 | with_reducible exact at4 | with_reducible exact at5 | with_reducible exact at6 | with_reducible exact at7 | with_reducible exact at8 | with_reducible exact at9 | with_reducible exact at10 | with_reducible exact at11)
  (hw : Region.wanted o (yielded ops a.tmps) = true := by first | exact wanted_none rfl | exact wanted_some rfl rfl rfl rfl) :
  wpList P ops Q (o :: rest) a W := wl_field1 hw ho hx hf.h hty.h h0 h
end
theorem zq1 {α : Type} (l : List α) (i : Nat) (a : α) : l.toArray.setIfInBounds i a = (l.set i a).toArray := List.setIfInBounds_toArray ..
theorem zq2 {α : Type} (x a : α) (l : List α) : (x :: l).set 0 a = a :: l := rfl
theorem zq3 {α : Type} (x a : α) (l : List α) (n : Nat) : (x :: l).set (n + 1) a = x :: l.set n a := rfl
section
variable {P : Program} {ops : Array Oper} {Q : Exit → Act → World → Prop} {rest : List Oper} {o : Oper} {a : Act} {W : World} {d : Option Tmp} {ty t : TypeId} {pos : String} {af : Array Edge} {gd : Option (Nat × Bool)} {x y : Operand} {n : Nat}
theorem kIx (h : wpList P ops Q (⟨d, .indexAddr t x y, ty, pos, af, gd⟩ :: rest) a W) : wpList P ops Q (⟨d, .indexAddr t x y, ty, pos, af, gd⟩ :: rest) a W := h
theorem kFd (h : wpList P ops Q (⟨d, .fieldAddr t x n, ty, pos, af, gd⟩ :: rest) a W) : wpList P ops Q (⟨d, .fieldAddr t x n, ty, pos, af, gd⟩ :: rest) a W := h
theorem kLd (h : wpList P ops Q (⟨d, .load t x, ty, pos, af, gd⟩ :: rest) a W) : wpList P ops Q (⟨d, .load t x, ty, pos, af, gd⟩ :: rest) a W := h
theorem kSt (h : wpList P ops Q (⟨d, .store t x y, ty, pos, af, gd⟩ :: rest) a W) : wpList P ops Q (⟨d, .store t x y, ty, pos, af, gd⟩ :: rest) a W := h
theorem kBx (h : wpList P ops Q (⟨d, .box t x, ty, pos, af, gd⟩ :: rest) a W) : wpList P ops Q (⟨d, .box t x, ty, pos, af, gd⟩ :: rest) a W := h
theorem kAl (h : wpList P ops Q (⟨d, .alloc t, ty, pos, af, gd⟩ :: rest) a W) : wpList P ops Q (⟨d, .alloc t, ty, pos, af, gd⟩ :: rest) a W := h
theorem kFl (h : wpList P ops Q (⟨d, .field t x n, ty, pos, af, gd⟩ :: rest) a W) : wpList P ops Q (⟨d, .field t x n, ty, pos, af, gd⟩ :: rest) a W := h
end
theorem leX {m m' : World} (h : Le m m' := by repeat' (first | with_reducible exact Le.refl _ | (with_reducible refine Le.trans ?_ (Ext.le (by assumption))))) : Le m m' := h
theorem exX {m m' : World} (h : Ext m m' := by repeat' (first | with_reducible exact Ext.refl _ | with_reducible assumption | (with_reducible refine Ext.alloc ?_ _) | (with_reducible refine Ext.drew ?_) | (with_reducible refine Ext.trans ?_ (by assumption)))) : Ext m m' := h
theorem loX {l : List Lo} {n : Nat} {x : Lo} (h : l[n]? = some x := by first | with_reducible exact lo0 | with_reducible exact lo1 | with_reducible exact lo2 | with_reducible exact lo3 | with_reducible exact lo4 | with_reducible exact lo5 | with_reducible exact lo6 | with_reducible exact lo7 | with_reducible exact lo8 | with_reducible exact lo9 | with_reducible exact lo10 | with_reducible exact lo11) : l[n]? = some x := h
/- Names for tactics: each closes 'A → B' by the laws for one kind of operation. -/
def Kp (p : Prop) : Prop := p
theorem Kp.out {p : Prop} (h : Kp p) : p := h
theorem tLd {A B : Prop} (h : A) (f : Kp A → B := by intro hg; (with_reducible refine kLd ?_); first | (refine t_loadR hL rfl rfl ?_; exact hg.out) | (refine t_loadW hL rfl rfl ?_; exact hg.out) | (refine t_load2 hL rfl rfl ?_; exact hg.out) | (refine t_load1 hL rfl rfl ?_; exact hg.out) | (refine t_loadV hL.vw rfl rfl ?_; exact hg.out) | (refine t_loadV1 hL.vw rfl rfl ?_; exact hg.out)) : B := f h
theorem tIx {A B : Prop} (h : A) (f : Kp A → B := by intro hg; (with_reducible refine kIx ?_); first | (refine t_ixa rfl rfl rfl ?_; (try simp only [Nat.mul_one]); exact hg.out) | (refine t_ixaA rfl rfl rfl ?_; (try simp only [Nat.mul_one]); exact hg.out)) : B := f h
theorem tFd {A B : Prop} (h : A) (f : Kp A → B := by intro hg; (with_reducible refine kFd ?_); first | (refine t_fda0 rfl rfl ?_; exact hg.out) | (refine t_fda rfl rfl ?_; (try simp only [Nat.zero_add, Nat.reduceAdd]); exact hg.out)) : B := f h
theorem tFl {A B : Prop} (h : A) (f : Kp A → B := by intro hg; (with_reducible refine kFl ?_); first | (refine t_field2 rfl rfl ?_; exact hg.out) | (refine t_field1 rfl rfl ?_; exact hg.out)) : B := f h
theorem tSr {A B : Prop} (h : A) (f : Kp A → B := by intro hg; (with_reducible refine kSt ?_); first | (refine t_storeR hL rfl rfl rfl ?_; exact hg.out)) : B := f h
theorem tSt {A B : Prop} (h : A) (f : Kp A → B := by intro hg; (with_reducible refine kSt ?_); first | (refine t_store hL rfl rfl rfl ?_; exact hg.out) | (refine t_sts hL rfl rfl rfl ?_; exact hg.out) | (refine t_sti hL rfl rfl rfl ?_; exact hg.out) | (refine t_stb hL rfl rfl rfl ?_; exact hg.out) | (refine t_store1 hL rfl rfl rfl ?_; exact hg.out)) : B := f h
theorem tBx {A B : Prop} (h : A) (f : Kp A → B := by intro hg; (with_reducible refine kBx ?_); first | (refine t_box hL rfl rfl ?_; exact hg.out)) : B := f h
theorem tAl {A B : Prop} (h : A) (f : Kp A → B := by intro hg; (with_reducible refine kAl ?_); first | (refine t_alloc hL rfl ?_; exact hg.out)) : B := f h
theorem tBs {A B : Prop} (h : A) (f : Kp A → B := by intro hg; (with_reducible refine kBs ?_); first | (refine t_bsA hL rfl rfl ?_; exact hg.out) | (refine t_bsV hL rfl rfl ?_; exact hg.out)) : B := f h
/- Several laws under one name: the step's own simplification stands within. -/
theorem tP {A B : Prop} (h : A) (f : Kp A → B := by intro hg; first | ((with_reducible refine stA ?_); exact hg.out) | ((first | refine tIx ?_ | refine tFd ?_ | refine tLd ?_ | refine tFl ?_); simp only [Act.put, zq1, zq2, zq3]; exact hg.out)) : B := f h
theorem tS {A B : Prop} (h : A) (f : Kp A → B := by intro hg; (first | refine tSr ?_ | refine tSt ?_); simp only [splice, Act.put, zq1, zq2, zq3]; exact hg.out) : B := f h
theorem tB {A B : Prop} (h : A) (f : Kp A → B := by intro hg; (first | refine tBx ?_ | refine tAl ?_); simp only [Act.put, zq1, zq2, zq3]; exact hg.out) : B := f h
theorem tC {A B : Prop} (h : A) (f : Kp A → B := by intro hg; refine tBs ?_; simp only [Act.put, zq1, zq2, zq3]; exact hg.out) : B := f h
end Go.Proofs.YtjianicbagcekaaGreatDoor

/- A rule for regions that draw their order: one fact for each operation, which no other operation disturbs; the tail runs in its order. No program. -/
namespace Go.Proofs.YtjianicbagcekaaGreatDoor
open Go.RowKit

def lay : List Nat → (Nat → Value) → Act → Act
 | [], _, a => a
 | d :: ds, vs, a => lay ds vs (a.put (some d) (vs d))
def upd (vs : Nat → Value) (d : Nat) (v : Value) : Nat → Value := fun k => if k = d then v else vs k

theorem lay_size (ds : List Nat) (vs : Nat → Value) (a : Act) : (lay ds vs a).tmps.size = a.tmps.size := by
 induction ds generalizing a with
 | nil => rfl
 | cons d ds ih => rw [lay, ih]; simp [Act.put]
theorem lay_defers (ds : List Nat) (vs : Nat → Value) (a : Act) : (lay ds vs a).defers = a.defers := by
 induction ds generalizing a with
 | nil => rfl
 | cons d ds ih => rw [lay, ih]; simp [Act.put]
theorem lay_at (ds : List Nat) (vs : Nat → Value) (a : Act) (k : Nat) :
  (lay ds vs a).tmps[k]? = if k ∈ ds then (if k < a.tmps.size then some (vs k) else none) else a.tmps[k]? := by
 induction ds generalizing a with
 | nil => simp [lay]
 | cons d ds ih =>
  rw [lay, ih]
  by_cases h : k ∈ ds
  ·simp [h, Act.put]
  ·by_cases e : k = d
   ·subst e; simp [h, Act.put, Array.getElem?_setIfInBounds]
   ·have e' : d ≠ k := fun h => e h.symm
    simp [h, e, e', Act.put, Array.getElem?_setIfInBounds]
theorem act_ext {a b : Act} (h : ∀ k : Nat, a.tmps[k]? = b.tmps[k]?) (hd : a.defers = b.defers) : a = b := by
 cases a; cases b
 congr
 exact Array.ext_getElem? h
theorem lay_put {ds : List Nat} {d : Nat} (hd : d ∈ ds) (vs : Nat → Value) (a : Act) (v : Value) : (lay ds vs a).put (some d) v = lay ds (upd vs d v) a := by
 refine act_ext (fun k => ?_) ?_
 ·rw [lay_at]
  simp only [Act.put, Array.getElem?_setIfInBounds, lay_size, lay_at]
  by_cases e : d = k
  ·subst e; simp [hd, upd]
  ·have e' : k ≠ d := fun h => e h.symm
   simp [e, e', upd]
 ·simp [Act.put, lay_defers]
section
variable {P : Program} {ops : Array Oper} {Q : Exit → Act → World → Prop}

theorem wpOp_of_one {i : Nat} {o : Oper} {a : Act} {w : World} {K : Act → World → Prop} {Q' : Exit → Act → World → Prop} (hi : ops[i]? = some o)
  (hN : ∀ e a w, Q' e a w → e = .normal) (hK : ∀ a w, Q' .normal a w → K a w) (h : wpList P ops Q' [o] a w) : wpOp P ops Q i K a w := by
 have hno : ¬ LetsOut Q' := fun ⟨a, w, h⟩ => by cases hN _ _ _ h
 unfold wpOp
 simp only [hi]
 unfold wpList at h
 split
 ·rename_i hw
  simp only [hw, if_true] at h
  rcases h with h | ⟨_, h⟩
  ·left
   unfold Oper.wp at h ⊢
   generalize (execOp a.eval o).run P w = r at h ⊢
   cases r with
   | ok n w' =>
    cases n <;> simp only [Oper.upon] at h ⊢ <;>
     first
      | exact hK _ _ h
      | exact Calls.mono h (fun e w'' he => by cases e <;> first | exact hK _ _ he | exact absurd (hN _ _ _ he) (by simp) | exact absurd he hno)
      | exact Rows.mono h (fun _ _ he => hK _ _ he)
      | exact h
   | halt x w' => cases x <;> simp only [Oper.upon] at h ⊢ <;> first | exact h.elim | exact absurd (hN _ _ _ h) (by simp)
  ·exact absurd h hno
 ·rename_i hw
  simp only [hw] at h
  exact hK _ _ h

def dsts (ops : Array Oper) (n : Nat) : List Nat := (ops.toList.take n).filterMap (·.dst)
def distinctB (ops : Array Oper) (n : Nat) : Bool :=
 (List.range n).all fun i => (List.range n).all fun j => i == j || match (ops[i]?).bind (·.dst), (ops[j]?).bind (·.dst) with | some a, some b => a != b | _, _ => true
theorem mem_dsts {n i d : Nat} {o : Oper} (hi : ops[i]? = some o) (hn : i < n) (hd : o.dst = some d) : d ∈ dsts ops n := by
 refine List.mem_filterMap.2 ⟨o, ?_, hd⟩
 have : (ops.toList.take n)[i]? = some o := by rw [List.getElem?_take_of_lt hn]; simpa using hi
 exact List.mem_of_getElem? this
theorem distinct_spec {n i j d : Nat} {o p : Oper} (h : distinctB ops n = true) (hi : ops[i]? = some o) (hj : ops[j]? = some p) (hin : i < n) (hjn : j < n) (hne : i ≠ j)
  (hd : o.dst = some d) : p.dst ≠ some d := by
 intro hp
 have h1 := List.all_eq_true.1 (List.all_eq_true.1 h i (List.mem_range.2 hin)) j (List.mem_range.2 hjn)
 simp [hi, hj, hd, hp, hne] at h1

def One (Φ : Value → World → World → Prop) (fl : Bool) (a : Act) (dst : Option Nat) (w m : World) (e : Exit) (a' : Act) (w' : World) : Prop :=
 e = .normal ∧ Ext w w' ∧ ∃ m' v, Ext m m' ∧ Vw m' w' ∧ a' = a.put dst v ∧ Φ v w' m' ∧ (fl = true → v = .pointer (some ⟨w.heap.size, 0, none⟩) ∧ w.heap.size < w'.heap.size)

end
section
variable {P : Program} {ops : Array Oper} {Q : Exit → Act → World → Prop}

def left (n : Nat) (L : Array Bool) : Nat := ((List.range n).filter fun i => !L.getD i true).length
abbrev Fct := Value → World → World → Prop
def Of (R : World → Value → Prop) : Fct := fun v _ um => R um v
theorem Of.mk {R : World → Value → Prop} {v : Value} {u um : World} (h : R um v) : Of R v u um := h
theorem One.call {Φ : Value → World → World → Prop} {a : Act} {dst : Option Nat} {w m w' m' : World} {v : Value} (hE : Ext w w') (hM : Ext m m') (hV : Vw m' w') (h : Φ v w' m') : One Φ false a dst w m .normal (a.put dst v) w' :=
 ⟨rfl, hE, m', v, hM, hV, rfl, h, (fun h => by cases h)⟩

def NewBlk (B : Nat) (t : TypeId) (cs : Array Value) (v : Value) (u um : World) : Prop :=
 ∃ g, v = .pointer (some ⟨g, 0, none⟩) ∧ B ≤ g ∧ g < um.heap.size ∧ Blk u g t cs ∧ ∀ a : Addr, a.block = g → um.cell? a = none
theorem Loc.add {w0 m0 W m u um : World} {B : Nat} {Ls Lt : List Lo} (hB1 : ∀ x ∈ Ls, x.1 < B) (hB2 : w0.heap.size ≤ B) (hL : Loc w0 m0 W m (Lt ++ Ls)) {t : TypeId} {cs : Array Value} {v : Value} (f : NewBlk B t cs v u um)
  (hu : Ext u W) (hum : Ext um m) (hne : ∀ x ∈ Lt, v ≠ .pointer (some ⟨x.1, 0, none⟩)) :
  ∃ g, v = .pointer (some ⟨g, 0, none⟩) ∧ Loc w0 m0 W m (((g, t, cs) :: Lt) ++ Ls) := by
 obtain ⟨g, rfl, h1, h2, h3, h4⟩ := f
 refine ⟨g, rfl, ⟨hL.size0, hL.ext, hL.mext, hL.vw, ?_, ?_, ?_, ?_⟩⟩
 ·intro x hx
  rcases List.mem_cons.1 hx with rfl | hx
  ·exact Nat.le_trans hB2 h1
  ·exact hL.low x hx
 ·intro x hx
  rcases List.mem_cons.1 hx with rfl | hx
  ·exact h3.ext hu
  ·exact hL.blk x hx
 ·intro x hx a ha
  rcases List.mem_cons.1 hx with rfl | hx
  ·rw [hum.cell (p := a) (by rw [ha]; exact h2)]
   exact h4 a ha
  ·exact hL.hid x hx a ha
 ·refine List.Pairwise.cons (fun y hy => ?_) hL.apart
  rcases List.mem_append.1 hy with hy | hy
  ·intro e
   exact hne y hy (by rw [show g = y.1 from e])
  ·have := hB1 y hy
   show g ≠ y.1
   omega
end
end Go.Proofs.YtjianicbagcekaaGreatDoor

/- The rule for regions that draw their order, with pure operations which nothing waits for ('late'): each is taken first as soon as it may come. No program. -/
namespace Go.Proofs.YtjianicbagcekaaGreatDoor
open Go.RowKit

def blkOf : Value → Option Nat
 | .pointer (some a) => some a.block
 | .slice (some a) _ _ => some a.block
 | .agg cs => match cs.toList with
  | [_, .slice (some a) _ _] => some a.block
  | _ => none
 | _ => none
section
variable {P : Program} {ops : Array Oper} {Q : Exit → Act → World → Prop}
def Mid2 (ops : Array Oper) (n : Nat) (fl : Nat → Bool) (Φ : Nat → Value → World → World → Prop) (a0 : Act) (w0 m0 : World) (L : Array Bool) (a : Act) (w : World) : Prop :=
 ∃ vs m, a = lay (dsts ops n) vs a0 ∧ Ext w0 w ∧ Ext m0 m ∧ Vw m w ∧
  (∀ i o d, i < n → ops[i]? = some o → o.dst = some d → L.getD i false = true → ∃ u um, Ext u w ∧ Ext um m ∧ Φ i (vs d) u um) ∧
  (∀ i o d, i < n → ops[i]? = some o → o.dst = some d → L.getD i false = true → fl i = true → ∀ k, blkOf (vs d) = some k → k < w.heap.size) ∧
  (∀ i j o p d c, i < n → j < n → i ≠ j → ops[i]? = some o → ops[j]? = some p → o.dst = some d → p.dst = some c → L.getD i false = true → L.getD j false = true → fl i = true → fl j = true → ∀ k, blkOf (vs d) = some k → blkOf (vs c) ≠ some k)

def One2 (Φ : Value → World → World → Prop) (fl : Bool) (a : Act) (dst : Option Nat) (w m : World) (e : Exit) (a' : Act) (w' : World) : Prop :=
 e = .normal ∧ Ext w w' ∧ ∃ m' v, Ext m m' ∧ Vw m' w' ∧ a' = a.put dst v ∧ Φ v w' m' ∧ (fl = true → ∀ k, blkOf v = some k → w.heap.size ≤ k ∧ k < w'.heap.size)

theorem Mid2.take {n : Nat} {fl : Nat → Bool} {Φ : Nat → Value → World → World → Prop} {a0 : Act} {w0 m0 : World} {L : Array Bool} {a : Act} {w : World} (hdis : distinctB ops n = true)
  (hM : Mid2 ops n fl Φ a0 w0 m0 L a w) {i : Nat} (hin : i < n) {o : Oper} (ho : ops[i]? = some o) (hfl : fl i = false)
  (hF : ∀ vs m, a = lay (dsts ops n) vs a0 → Ext w0 w → Ext m0 m → Vw m w → (∀ j p d, j < n → ops[j]? = some p → p.dst = some d → L.getD j false = true → ∃ u um, Ext u w ∧ Ext um m ∧ Φ j (vs d) u um) →
   ∃ v, Yields P ops o v a ∧ Φ i v w m) :
  ∃ v, Yields P ops o v a ∧ Mid2 ops n fl Φ a0 w0 m0 (L.setIfInBounds i true) (a.put o.dst v) w := by
 obtain ⟨vs, m, rfl, hE, hMm, hV, hFa, hG, hD⟩ := hM
 obtain ⟨v, hy, hv⟩ := hF vs m rfl hE hMm hV hFa
 refine ⟨v, hy, ?_⟩
 cases hd : o.dst with
 | none =>
  have back : ∀ j p d, ops[j]? = some p → p.dst = some d → (L.setIfInBounds i true).getD j false = true → L.getD j false = true := by
   intro j p d hp hpd hL
   have hne : i ≠ j := by
    rintro rfl
    rw [ho] at hp
    obtain rfl := Option.some.inj hp
    rw [hd] at hpd
    cases hpd
   rw [Go.getD_set_ne false hne] at hL
   exact hL
  exact ⟨vs, m, rfl, hE, hMm, hV, fun j p d hj hp hpd hL => hFa j p d hj hp hpd (back j p d hp hpd hL), fun j p d hj hp hpd hL => hG j p d hj hp hpd (back j p d hp hpd hL),
   fun j k p q d c hj hk hjk hp hq hpd hqd hLj hLk => hD j k p q d c hj hk hjk hp hq hpd hqd (back j p d hp hpd hLj) (back k q c hq hqd hLk)⟩
 | some di =>
  have other : ∀ j p d, j < n → i ≠ j → ops[j]? = some p → p.dst = some d → upd vs di v d = vs d := by
   intro j p d hj hne hp hpd
   have : d ≠ di := by
    rintro rfl
    exact distinct_spec hdis ho hp hin hj hne hd hpd
   simp [upd, this]
  have self : upd vs di v di = v := by simp [upd]
  refine ⟨upd vs di v, m, lay_put (mem_dsts ho hin hd) vs a0 v, hE, hMm, hV, fun j p d hj hp hpd hL => ?_, fun j p d hj hp hpd hL hf => ?_, fun j k p q d c hj hk hjk hp hq hpd hqd hLj hLk hfj hfk => ?_⟩
  ·by_cases hne : i = j
   ·subst hne
    rw [ho] at hp
    obtain rfl := Option.some.inj hp
    rw [hd] at hpd
    obtain rfl := Option.some.inj hpd
    exact ⟨w, m, Ext.refl _, Ext.refl _, by rw [self]; exact hv⟩
   ·rw [Go.getD_set_ne false hne] at hL
    rw [other j p d hj hne hp hpd]
    exact hFa j p d hj hp hpd hL
  ·have hne : i ≠ j := by rintro rfl; rw [hfl] at hf; cases hf
   rw [Go.getD_set_ne false hne] at hL
   rw [other j p d hj hne hp hpd]
   exact hG j p d hj hp hpd hL hf
  ·have hij : i ≠ j := by rintro rfl; rw [hfl] at hfj; cases hfj
   have hik : i ≠ k := by rintro rfl; rw [hfl] at hfk; cases hfk
   rw [Go.getD_set_ne false hij] at hLj
   rw [Go.getD_set_ne false hik] at hLk
   rw [other j p d hj hij hp hpd, other k q c hk hik hq hqd]
   exact hD j k p q d c hj hk hjk hp hq hpd hqd hLj hLk hfj hfk

def QN (Q : Exit → Act → World → Prop) (e : Exit) (a : Act) (w : World) : Prop := e = .normal ∧ Q .normal a w
theorem QN.mk {Q : Exit → Act → World → Prop} {a : Act} {w : World} (h : Q .normal a w) : QN Q .normal a w := ⟨rfl, h⟩
theorem One2.call {Φ : Value → World → World → Prop} {a : Act} {dst : Option Nat} {w m w' m' : World} {v : Value} (hE : Ext w w') (hM : Ext m m') (hV : Vw m' w') (h : Φ v w' m') : One2 Φ false a dst w m .normal (a.put dst v) w' :=
 ⟨rfl, hE, m', v, hM, hV, rfl, h, (fun h => by cases h)⟩
def NewRow (B : Nat) (e : TypeId) (cs : Array Value) (n : Nat) (v : Value) (u um : World) : Prop :=
 ∃ g, v = .slice (some ⟨g, 0, none⟩) n n ∧ B ≤ g ∧ g < um.heap.size ∧ Blk u g e cs ∧ ∀ a : Addr, a.block = g → um.cell? a = none
end
end Go.Proofs.YtjianicbagcekaaGreatDoor

/- Rows that a function builds by append, hidden from the view until they are shown; slices of values under a view. No program. -/
namespace Go.Proofs.YtjianicbagcekaaGreatDoor
open Go.RowKit

def Row (e : TypeId) (size : Nat) (v : Value) (n : Nat) (xs : List Value) (R : List Lo) : Prop :=
 xs.length = n * size ∧
  ((v = .slice none 0 0 ∧ n = 0 ∧ R = []) ∨
   ∃ g cap cur, v = .slice (some ⟨g, 0, none⟩) n cap ∧ R = [(g, e, cur)] ∧ n ≤ cap ∧ cap ≤ maxLen ∧ cur.size = cap * size ∧ cur.toList.take (n * size) = xs)
theorem Row.nil (e : TypeId) (size : Nat) : Row e size (.slice none 0 0) 0 [] [] := ⟨by simp, .inl ⟨rfl, rfl, rfl⟩⟩
theorem Row.lit {e : TypeId} {size : Nat} {v : Value} {n : Nat} {xs : List Value} {R : List Lo} (h : Row e size v n xs R) : ∃ A c, v = .slice A n c ∧ n ≤ c := by
 obtain ⟨_, ⟨rfl, rfl, _⟩ | ⟨g, cap, cur, rfl, _, h, _⟩⟩ := h
 ·exact ⟨_, _, rfl, Nat.le_refl _⟩
 ·exact ⟨_, _, rfl, h⟩
theorem Loc.perm {w0 m0 W m : World} {A B : List Lo} (h : Loc w0 m0 W m A) (hp : A.Perm B) : Loc w0 m0 W m B :=
 ⟨h.size0, h.ext, h.mext, h.vw, fun x hx => h.low x (hp.mem_iff.2 hx), fun x hx => h.blk x (hp.mem_iff.2 hx), fun x hx => h.hid x (hp.mem_iff.2 hx),
  hp.pairwise h.apart fun h => fun e => h e.symm⟩
theorem Loc.tail {w0 m0 W m : World} {x : Lo} {A : List Lo} (h : Loc w0 m0 W m (x :: A)) : Loc w0 m0 W m A :=
 ⟨h.size0, h.ext, h.mext, h.vw, fun y hy => h.low y (List.mem_cons_of_mem _ hy), fun y hy => h.blk y (List.mem_cons_of_mem _ hy), fun y hy => h.hid y (List.mem_cons_of_mem _ hy), (List.pairwise_cons.1 h.apart).2⟩
theorem Loc.own {w0 m0 W m : World} {A R : List Lo} (hL : Loc w0 m0 W m (A ++ R)) {e : TypeId} {size : Nat} {v : Value} {n : Nat} {xs : List Value} (hR : Row e size v n xs R) : W.ownsRow w0.heap.size e size v n xs := by
 obtain ⟨h1, ⟨rfl, rfl, _⟩ | ⟨g, cap, cur, rfl, rfl, h⟩⟩ := hR
 ·exact ⟨h1, .inl ⟨rfl, rfl⟩⟩
 ·have hm : (g, e, cur) ∈ A ++ [(g, e, cur)] := by simp
  exact ⟨h1, .inr ⟨g, cap, cur, rfl, hL.low _ hm, hL.blk _ hm, h⟩⟩

def hidTo (m : World) (n : Nat) : World := { m with heap := m.heap ++ Array.replicate (n - m.heap.size) (.cells #[] 0 (0, 0)) }
theorem hidTo_size {m : World} {n : Nat} (h : m.heap.size ≤ n) : (hidTo m n).heap.size = n := by simp [hidTo]; omega
theorem hidTo_old {m : World} {n k : Nat} (h : k < m.heap.size) : (hidTo m n).heap[k]? = m.heap[k]? := by simp [hidTo, Array.getElem?_append, h]
theorem hidTo_ext {m : World} {n : Nat} (h : m.heap.size ≤ n) : Ext m (hidTo m n) := ⟨rfl, rfl, rfl, by rw [hidTo_size h]; exact h, fun _ hk => hidTo_old hk⟩
theorem hidTo_new {m : World} {n : Nat} {a : Addr} (h : m.heap.size ≤ a.block) : (hidTo m n).cell? a = none := by
 obtain ⟨b, o, s⟩ := a
 simp only at h
 unfold World.cell?
 by_cases hb : b < n
 ·have : (hidTo m n).heap[b]? = some (.cells #[] 0 (0, 0)) := by
   simp only [hidTo, Array.getElem?_append, Nat.not_lt.2 h, if_false]
   rw [Array.getElem?_replicate]; rw [if_pos (by omega)]
  rw [this]; cases s <;> simp
 ·have : (hidTo m n).heap[b]? = none := by
   apply Array.getElem?_eq_none
   simp [hidTo]; omega
  rw [this]

theorem Loc.grown {w0 m0 W m W' : World} {A R R' : List Lo} (hL : Loc w0 m0 W m (A ++ R)) {row : Option Nat} (hg : W.grownBy W' row) (hrow : ∀ k, row = some k → ∃ x ∈ R, x.1 = k)
  (hR' : ∀ x ∈ R', Blk W' x.1 x.2.1 x.2.2 ∧ ((∃ y ∈ R, y.1 = x.1) ∨ x.1 = W.heap.size)) (hone : R'.length ≤ 1) : Loc w0 m0 W' (hidTo m W'.heap.size) (A ++ R') := by
 have hs : m.heap.size ≤ W'.heap.size := by rw [hL.vw.size]; exact hg.size
 have hrow' : ∀ k, row = some k → w0.heap.size ≤ k := fun k hk => by
  obtain ⟨x, hx, rfl⟩ := hrow k hk
  exact hL.low x (List.mem_append_right _ hx)
 have hap := List.pairwise_append.1 hL.apart
 refine ⟨hL.size0, hL.ext.grown hg hrow', hL.mext.trans (hidTo_ext hs), ⟨hL.vw.os.trans hg.os.symm, hL.vw.tape.trans hg.tape.symm, hL.vw.output.trans hg.output.symm, hidTo_size hs, fun a u hu => ?_⟩, ?_, ?_, ?_, ?_⟩
 ·rcases Nat.lt_or_ge a.block m.heap.size with h | h
  ·have h2 : (hidTo m W'.heap.size).cell? a = m.cell? a := cell_of_heap (hidTo_old h)
   rw [h2] at hu
   have hne : some a.block ≠ row := fun he => by
    obtain ⟨x, hx, hxa⟩ := hrow a.block he.symm
    rw [hL.hid x (List.mem_append_right _ hx) a hxa.symm] at hu; cases hu
   rw [cell_of_heap (hg.block a.block (by rw [← hL.vw.size]; exact h) hne)]
   exact hL.vw.cell _ _ hu
  ·rw [hidTo_new h] at hu; cases hu
 ·intro x hx
  rcases List.mem_append.1 hx with hx | hx
  ·exact hL.low x (List.mem_append_left _ hx)
  ·rcases (hR' x hx).2 with ⟨y, hy, e⟩ | e
   ·rw [← e]; exact hL.low y (List.mem_append_right _ hy)
   ·rw [e]; exact hL.ext.size
 ·intro x hx
  rcases List.mem_append.1 hx with hx | hx
  ·have hb := hL.blk x (List.mem_append_left _ hx)
   refine (hg.block x.1 hb.lt fun he => ?_).trans hb
   obtain ⟨y, hy, e⟩ := hrow x.1 he.symm
   exact hap.2.2 x hx y hy e.symm
  ·exact (hR' x hx).1
 ·intro x hx a ha
  have old : ∀ y ∈ A ++ R, y.1 = x.1 → (hidTo m W'.heap.size).cell? a = none := fun y hy e => by
   have hlt : a.block < m.heap.size := by rw [ha, ← e, hL.vw.size]; exact (hL.blk y hy).lt
   rw [cell_of_heap (hidTo_old hlt)]
   exact hL.hid y hy a (ha.trans e.symm)
  rcases List.mem_append.1 hx with hx | hx
  ·exact old x (List.mem_append_left _ hx) rfl
  ·rcases (hR' x hx).2 with ⟨y, hy, e⟩ | e
   ·exact old y (List.mem_append_right _ hy) e
   ·exact hidTo_new (by rw [ha, e, hL.vw.size]; exact Nat.le_refl _)
 ·refine List.pairwise_append.2 ⟨hap.1, ?_, fun x hx y hy => ?_⟩
  ·match R', hone with
   | [], _ => exact List.Pairwise.nil
   | [x], _ => exact List.pairwise_singleton _ _
  ·rcases (hR' y hy).2 with ⟨z, hz, e⟩ | e
   ·rw [← e]; exact hap.2.2 x hx z hz
   ·have := (hL.blk x (List.mem_append_left _ hx)).lt
    rw [e]; exact Nat.ne_of_lt this

def apS (P : Program) (t : TypeId) : Option (TypeId × Nat × Nat × Nat) :=
 match P.underlying t with
 | some (.slice e) => (P.info? e).bind fun i => i.zero.map fun z => (e, i.size, i.bytes, z.cells.size)
 | _ => none
theorem ap_desc {P : Program} {t e : TypeId} {size bytes zs : Nat} (h : apS P t = some (e, size, bytes, zs)) : ∃ i z, P.underlying t = some (.slice e) ∧ P.info? e = some i ∧ i.zero = some z ∧ i.size = size ∧ i.bytes = bytes ∧ z.cells.size = zs := by
 unfold apS at h
 split at h
 ·rename_i e' he
  cases hi : P.info? e' with
  | none => simp [hi] at h
  | some i =>
   cases hz : i.zero with
   | none => simp [hi, hz] at h
   | some z =>
    simp [hi, hz] at h
    obtain ⟨rfl, rfl, rfl, rfl⟩ := h
    exact ⟨i, z, he, hi, hz, rfl, rfl, rfl⟩
 ·cases h

section
variable {P : Program} {ops : Array Oper} {Q : Exit → Act → World → Prop} {rest : List Oper} {o : Oper} {a : Act} {w0 m0 W m : World}
theorem wl_append {A R : List Lo} (hL : Loc w0 m0 W m (A ++ R)) {e : TypeId} {size : Nat} {v : Value} {n : Nat} {xs : List Value} (hR : Row e size v n xs R)
  (hw : Region.wanted o (yielded ops a.tmps) = true) {s x : Operand} {t : TypeId} (ho : o.op = .call { callee := .builtin .append, args := #[s, x], argTypes := #[t, t] })
  {bytes : Nat} (hap : apS P t = some (e, size, bytes, size)) (hsz : 0 < size) (hs : a.eval s = v) {B : Option Addr} {k c : Nat} (hx : a.eval x = .slice B k c) {news : List Value}
  (hl : news.length = k * size) (hr : Sl W B news) (h1 : news.all (·.oneCell') = true) (hn : n + k ≤ 1000000) (hb : bytes ≤ 1000000)
  (h : ∀ v' W' m' R', Loc w0 m0 W' m' (A ++ R') → Row e size v' (n + k) (xs ++ news) R' → Ext m m' → wpList P ops Q rest (a.put o.dst v') W') : wpList P ops Q (o :: rest) a W := by
 obtain ⟨i, z, ht, hi, hz, hs1, hb1, hz1⟩ := ap_desc hap
 refine wpList_wanted hw fun K hK => ?_
 have hbb : (n + k) * bytes ≤ 140737488355328 := Nat.le_trans (Nat.mul_le_mul hn hb) (by decide)
 refine wp_append_any W s x t ho w0.heap.size e i z size bytes ht hi hz hs1 hb1 hz1 hsz v n xs hs (hL.own hR) B k c news hx hl hr (fun u hu => List.all_eq_true.1 h1 u hu) (Nat.le_trans hn (by decide)) hbb hL.ext.size ?_
 intro v' W' ho' hg hob
 refine hK _ _ ?_
 have hrow : ∀ j, v.ownBlock = some j → ∃ x ∈ R, x.1 = j := by
  intro j hj
  obtain ⟨_, ⟨rfl, _, _⟩ | ⟨g, cap, cur, rfl, rfl, _⟩⟩ := hR
  ·simp [Value.ownBlock] at hj
  ·simp [Value.ownBlock] at hj
   exact ⟨_, List.mem_singleton.2 rfl, hj⟩
 have hE : Ext m (hidTo m W'.heap.size) := hidTo_ext (by rw [hL.vw.size]; exact hg.size)
 obtain ⟨hlen, ⟨rfl, h0⟩ | ⟨g, cap, cur, rfl, hge, hh, hnc, hcm, hcs, htk⟩⟩ := ho'
 ·exact h _ W' _ [] (hL.grown hg hrow (fun x hx => by cases hx) (by simp)) ⟨hlen, .inl ⟨rfl, h0, rfl⟩⟩ hE
 ·refine h _ W' _ [(g, e, cur)] (hL.grown hg hrow (fun x hx => ?_) (by simp)) ⟨hlen, .inr ⟨g, cap, cur, rfl, rfl, hnc, hcm, hcs, htk⟩⟩ hE
  rcases List.mem_singleton.1 hx with rfl
  refine ⟨hh, ?_⟩
  rcases hob with hob | hob
  ·left
   obtain ⟨x, hx, hxe⟩ := hrow g (by rw [← hob]; rfl)
   exact ⟨x, hx, hxe⟩
  ·right
   simpa [Value.ownBlock] using hob
end

def shown (m : World) (g : Nat) (t : TypeId) (cs : Array Value) : World := { m with heap := m.heap.setIfInBounds g (.cells cs t (0, 0)) }
theorem shown_size (m : World) (g : Nat) (t : TypeId) (cs : Array Value) : (shown m g t cs).heap.size = m.heap.size := by simp [shown]
theorem shown_other (m : World) {g k : Nat} (t : TypeId) (cs : Array Value) (h : k ≠ g) : (shown m g t cs).heap[k]? = m.heap[k]? := by
 simp only [shown, Array.getElem?_setIfInBounds]
 rw [if_neg (by omega)]
theorem shown_at (m : World) {g : Nat} (t : TypeId) (cs : Array Value) (h : g < m.heap.size) : Blk (shown m g t cs) g t cs := by
 unfold Blk shown
 simp [h]
theorem Loc.show1 {w0 m0 W m : World} {A : List Lo} {g : Nat} {t : TypeId} {cur : Array Value} (hL : Loc w0 m0 W m (A ++ [(g, t, cur)])) (k : Nat) :
  ∃ m', Loc w0 m0 W m' A ∧ Le m m' ∧ Sl m' (some ⟨g, 0, none⟩) (cur.toList.take k) := by
 have hm : (g, t, cur) ∈ A ++ [(g, t, cur)] := by simp
 have hb := hL.blk _ hm
 have hlt : g < m.heap.size := by rw [hL.vw.size]; exact hb.lt
 have hap := List.pairwise_append.1 hL.apart
 have hle : Le m (shown m g t (cur.toList.take k).toArray) := ⟨by rw [shown_size]; exact Nat.le_refl _, fun a u hu => by
  have hne : a.block ≠ g := fun e => by rw [hL.hid _ hm a e] at hu; cases hu
  rw [cell_of_heap (shown_other m t _ hne)]; exact hu⟩
 have hbs := shown_at m t (cur.toList.take k).toArray hlt
 refine ⟨shown m g t (cur.toList.take k).toArray, ⟨hL.size0, hL.ext, ⟨hL.mext.os, hL.mext.tape, hL.mext.output, by rw [shown_size]; exact hL.mext.size, fun j hj => ?_⟩, ⟨hL.vw.os, hL.vw.tape, hL.vw.output, by rw [shown_size]; exact hL.vw.size, fun a u hu => ?_⟩,
  fun x hx => hL.low x (List.mem_append_left _ hx), fun x hx => hL.blk x (List.mem_append_left _ hx), fun x hx a ha => ?_, hap.1⟩, hle, hbs.sl (n := k) (by simp [List.take_take])⟩
 ·rw [shown_other m t _ (by have := hL.low _ hm; have := hL.size0; simp only at *; omega)]
  exact hL.mext.block j hj
 ·by_cases e : a.block = g
  ·obtain ⟨b, o, s⟩ := a
   simp only at e
   subst e
   unfold World.cell? at hu ⊢
   rw [hbs] at hu
   have hb' : W.heap[b]? = some (.cells cur t (0, 0)) := hb
   rw [hb']
   have key : ∀ v, (List.take k cur.toList).toArray[o]? = some v → cur[o]? = some v := fun v hv => by
    rw [List.getElem?_toArray, List.getElem?_take] at hv
    by_cases ho : o < k
    ·rw [if_pos ho] at hv; simpa using hv
    ·rw [if_neg ho] at hv; cases hv
   cases hq : (List.take k cur.toList).toArray[o]? with
   | none => cases s <;> simp [hq] at hu
   | some v =>
    have := key v hq
    simp only [hq] at hu
    simp only [this]
    exact hu
  ·rw [cell_of_heap (shown_other m t _ e)] at hu
   exact hL.vw.cell _ _ hu
 ·have hne : a.block ≠ g := by rw [ha]; exact hap.2.2 x hx _ (List.mem_singleton.2 rfl)
  rw [cell_of_heap (shown_other m t _ hne)]
  exact hL.hid x (List.mem_append_left _ hx) a ha
theorem Loc.show {w0 m0 W m : World} {A R : List Lo} (hL : Loc w0 m0 W m (A ++ R)) {e : TypeId} {size : Nat} {v : Value} {n : Nat} {xs : List Value} (hR : Row e size v n xs R) :
  ∃ m' B c, Loc w0 m0 W m' A ∧ Le m m' ∧ v = .slice B n c ∧ n ≤ c ∧ Sl m' B xs ∧ W.ownsRow w0.heap.size e size v n xs := by
 have ho := hL.own hR
 obtain ⟨h1, ⟨rfl, rfl, rfl⟩ | ⟨g, cap, cur, rfl, rfl, hn, _, _, ht⟩⟩ := hR
 ·rw [List.append_nil] at hL
  have : xs = [] := List.eq_nil_of_length_eq_zero (by simpa using h1)
  subst this
  exact ⟨m, none, 0, hL, Le.refl _, rfl, Nat.le_refl _, Sl.nil, ho⟩
 ·obtain ⟨m', h1, h2, h3⟩ := hL.show1 (n * size)
  rw [ht] at h3
  exact ⟨m', _, _, h1, h2, rfl, hn, h3, ho⟩

def RetW (w m : World) (R : World → World → Value → Prop) (e : Ending) (w' : World) : Prop :=
 ∃ v m', e = .returned v ∧ Ext w w' ∧ Ext m m' ∧ Vw m' w' ∧ R w' m' v
theorem RetW.mk {w m W m' : World} {R : World → World → Value → Prop} {v : Value} {Ls : List Lo} (hL : Loc w m W m' Ls) (h : R W m' v) : RetW w m R (.returned v) W := ⟨v, m', rfl, hL.ext, hL.mext, hL.vw, h⟩

def cellsOf (vs : List Value) : List Value := vs.flatMap fun v => v.cells.toList
theorem cellsOf_append (a b : List Value) : cellsOf (a ++ b) = cellsOf a ++ cellsOf b := by simp [cellsOf]
theorem cellsOf_one (v : Value) : cellsOf [v] = v.cells.toList := by simp [cellsOf]
theorem cellsOf_at {size : Nat} : ∀ {vs : List Value} {k : Nat} {v : Value}, (∀ u ∈ vs, u.cells.size = size) → vs[k]? = some v → ∀ j, j < size → (cellsOf vs)[k * size + j]? = v.cells.toList[j]?
 | [], k, v, _, h, _, _ => by simp at h
 | u :: vs, 0, v, hs, h, j, hj => by
  simp at h; subst h
  have : j < u.cells.toList.length := by simpa [hs u (by simp)] using hj
  simp only [cellsOf, List.flatMap_cons, Nat.zero_mul, Nat.zero_add]
  rw [List.getElem?_append_left this]
 | u :: vs, k + 1, v, hs, h, j, hj => by
  simp at h
  have hl : u.cells.toList.length = size := by simpa using hs u (by simp)
  have ih := cellsOf_at (vs := vs) (k := k) (fun x hx => hs x (by simp [hx])) h j hj
  simp only [cellsOf, List.flatMap_cons]
  rw [List.getElem?_append_right (by rw [hl, Nat.succ_mul]; omega), hl, show (k + 1) * size + j - size = k * size + j by rw [Nat.succ_mul]; omega]
  exact ih
theorem cellsOf_length {size : Nat} : ∀ {vs : List Value}, (∀ u ∈ vs, u.cells.size = size) → (cellsOf vs).length = vs.length * size
 | [], _ => by simp [cellsOf]
 | u :: vs, h => by
  have ih := cellsOf_length (vs := vs) fun x hx => h x (by simp [hx])
  have hl : u.cells.toList.length = size := by simpa using h u (by simp)
  simp only [cellsOf, List.flatMap_cons, List.length_append, hl, List.length_cons, Nat.succ_mul]
  simp only [cellsOf] at ih
  omega

def All2 {α : Type} (R : Value → α → Prop) : List Value → List α → Prop
 | [], [] => True
 | v :: vs, x :: xs => R v x ∧ All2 R vs xs
 | _, _ => False
theorem All2.length {α : Type} {R : Value → α → Prop} : ∀ {vs : List Value} {xs : List α}, All2 R vs xs → vs.length = xs.length
 | [], [], _ => rfl
 | _ :: _, _ :: _, h => by simp [All2.length h.2]
 | [], _ :: _, h => h.elim
 | _ :: _, [], h => h.elim
theorem All2.at_ {α : Type} {R : Value → α → Prop} : ∀ {vs : List Value} {xs : List α}, All2 R vs xs → ∀ {k : Nat} {x : α}, xs[k]? = some x → ∃ v, vs[k]? = some v ∧ R v x
 | v :: vs, x :: xs, h, 0, y, e => by simp at e; subst e; exact ⟨v, rfl, h.1⟩
 | v :: vs, x :: xs, h, k + 1, y, e => by simp at e; simpa using All2.at_ h.2 e
 | [], [], _, _, _, e => by simp at e
 | [], _ :: _, h, _, _, _ => h.elim
 | _ :: _, [], h, _, _, _ => h.elim
theorem All2.left {α : Type} {R : Value → α → Prop} : ∀ {vs : List Value} {xs : List α}, All2 R vs xs → ∀ {k : Nat} {v : Value}, vs[k]? = some v → ∃ x, R v x
 | v :: vs, x :: xs, h, 0, y, e => by simp at e; subst e; exact ⟨x, h.1⟩
 | v :: vs, x :: xs, h, k + 1, y, e => by simp at e; exact All2.left h.2 e
 | [], [], _, _, _, e => by simp at e
 | [], _ :: _, h, _, _, _ => h.elim
 | _ :: _, [], h, _, _, _ => h.elim
theorem All2.mono {α : Type} {R S : Value → α → Prop} (hRS : ∀ v x, R v x → S v x) : ∀ {vs : List Value} {xs : List α}, All2 R vs xs → All2 S vs xs
 | [], [], _ => trivial
 | _ :: _, _ :: _, h => ⟨hRS _ _ h.1, All2.mono hRS h.2⟩
 | [], _ :: _, h => h.elim
 | _ :: _, [], h => h.elim
theorem All2.snoc {α : Type} {R : Value → α → Prop} {v : Value} {x : α} (hv : R v x) : ∀ {vs : List Value} {xs : List α}, All2 R vs xs → All2 R (vs ++ [v]) (xs ++ [x])
 | [], [], _ => ⟨hv, trivial⟩
 | _ :: _, _ :: _, h => ⟨h.1, All2.snoc hv h.2⟩
 | [], _ :: _, h => h.elim
 | _ :: _, [], h => h.elim

def ListV {α : Type} (size : Nat) (R : World → Value → α → Prop) (m : World) (v : Value) (xs : List α) : Prop :=
 ∃ A c vs, v = .slice A xs.length c ∧ xs.length ≤ c ∧ (∀ u ∈ vs, u.cells.size = size) ∧ Sl m A (cellsOf vs) ∧ All2 (R m) vs xs
theorem ListV.lit {α : Type} {size : Nat} {R : World → Value → α → Prop} {m : World} {v : Value} {xs : List α} (h : ListV size R m v xs) : ∃ A c, v = .slice A xs.length c ∧ xs.length ≤ c ∧ ListV size R m (.slice A xs.length c) xs := by
 have h' := h
 obtain ⟨A, c, vs, rfl, hc, _⟩ := h
 exact ⟨A, c, rfl, hc, h'⟩
theorem ListV.le {α : Type} {size : Nat} {R : World → Value → α → Prop} (hR : ∀ m m' v x, R m v x → Le m m' → R m' v x) {m m' : World} {v : Value} {xs : List α} (h : ListV size R m v xs) (hb : Le m m') : ListV size R m' v xs := by
 obtain ⟨A, c, vs, e, hc, h1, h2, h3⟩ := h
 exact ⟨A, c, vs, e, hc, h1, h2.le hb, h3.mono fun v x hv => hR m m' v x hv hb⟩
theorem ListV.at_ {α : Type} {size : Nat} {R : World → Value → α → Prop} {m : World} {A : Option Addr} {n c : Nat} {xs : List α} (h : ListV size R m (.slice A n c) xs) (h0 : 0 < size) {k : Nat} {x : α} (hk : xs[k]? = some x) :
  ∃ b off v, A = some ⟨b, off, none⟩ ∧ R m v x ∧ v.cells.size = size ∧ m.rangeAt b (off + k * size) v.cells.toList := by
 obtain ⟨A', c', vs, e, hc, h1, h2, h3⟩ := h
 injection e with e1 e2 e3
 subst e1
 obtain ⟨v, hv, hR⟩ := h3.at_ hk
 have hvm : v ∈ vs := List.mem_of_getElem? hv
 have hkl : k < vs.length := (List.getElem?_eq_some_iff.1 hv).1
 have hlen := cellsOf_length h1
 have hpos : 0 < (cellsOf vs).length := by rw [hlen]; exact Nat.mul_pos (by omega) h0
 obtain ⟨b, off, rfl, hlt, hcell⟩ := h2 hpos
 refine ⟨b, off, v, rfl, hR, h1 v hvm, fun j u hu => ?_⟩
 have hj : j < size := by
  have := (List.getElem?_eq_some_iff.1 hu).1
  simpa [h1 v hvm] using this
 rw [Nat.add_assoc]
 exact hcell (k * size + j) u ((cellsOf_at h1 hv j hj).trans hu)
theorem ListV.nil {α : Type} {size : Nat} {R : World → Value → α → Prop} {m : World} {A : Option Addr} {c : Nat} : ListV size R m (.slice A 0 c) [] := ⟨A, c, [], rfl, Nat.zero_le _, (fun _ h => by cases h), Sl.nil, trivial⟩
theorem ListV.mk {α : Type} {size : Nat} {R : World → Value → α → Prop} {m : World} {A : Option Addr} {n c : Nat} {vs : List Value} {xs : List α} (hn : n ≤ c) (hl : vs.length = n) (h1 : ∀ u ∈ vs, u.cells.size = size) (h2 : Sl m A (cellsOf vs)) (h3 : All2 (R m) vs xs) :
  ListV size R m (.slice A n c) xs := by
 have := h3.length
 have e : n = xs.length := by omega
 subst e
 exact ⟨A, c, vs, rfl, hn, h1, h2, h3⟩
class ApC (P : Program) (t : TypeId) (e : outParam TypeId) (size bytes : outParam Nat) : Prop where
 h : apS P t = some (e, size, bytes, size)
section
variable {P : Program} {ops : Array Oper} {Q : Exit → Act → World → Prop} {rest : List Oper} {o : Oper} {a : Act} {W m : World}
theorem wl_loadV (hV : Vw m W) (hw : Region.wanted o (yielded ops a.tmps) = true) {ty : TypeId} {x : Operand} (ho : o.op = .load ty x) {g off : Nat} (hx : a.eval x = .pointer (some ⟨g, off, none⟩))
  {k : Nat} (hty : agS P ty = some k) {vs : List Value} (hr : m.rangeAt g off vs) (hk : vs.length = k)
  (h : wpList P ops Q rest (a.put o.dst (.agg vs.toArray)) W) : wpList P ops Q (o :: rest) a W :=
 wpList_wanted hw fun _ hK => op_load ho hx (vs := vs) (hk ▸ hty) (fun j v hv => hV.cell _ _ (hr j v hv)) (hK _ _ h)
theorem wl_loadV1 (hV : Vw m W) (hw : Region.wanted o (yielded ops a.tmps) = true) {ty : TypeId} {x : Operand} (ho : o.op = .load ty x) {g off : Nat} (hx : a.eval x = .pointer (some ⟨g, off, none⟩))
  (hty : lfB P ty = true) {v : Value} (hr : m.cell? ⟨g, off, none⟩ = some v)
  (h : wpList P ops Q rest (a.put o.dst v) W) : wpList P ops Q (o :: rest) a W :=
 wpList_wanted hw fun _ hK => op_load1 ho hx hty (hV.cell _ _ hr) (hK _ _ h)
theorem wl_indexAddr (hw : Region.wanted o (yielded ops a.tmps) = true) {t : TypeId} {s i : Operand} (ho : o.op = .indexAddr t s i) {e : TypeId} {size bytes zs : Nat} (hap : apS P t = some (e, size, bytes, zs))
  {b off n c k : Nat} {kd : IntKind} (hs : a.eval s = .slice (some ⟨b, off, none⟩) n c) (hi : a.eval i = .int kd k) (hk : k < n)
  (h : wpList P ops Q rest (a.put o.dst (.pointer (some ⟨b, off + k * size, none⟩))) W) : wpList P ops Q (o :: rest) a W := by
 obtain ⟨ti, z, ht, hti, hz, hs1, hb1, hz1⟩ := ap_desc hap
 have hrun : (Instr.indexAt t (.slice (some ⟨b, off, none⟩) n c) (.int kd k)).run P W = .ok (.pointer (some ⟨b, off + k * size, none⟩)) W := by
  unfold Instr.indexAt
  have h1 : (0 : Int) ≤ (k : Int) ∧ (k : Int) < n := by omega
  simp [asIntOf, Sem.run_bind, run_underlying ht, sizeOf, typeInfo, hti, hs1, h1, Addr.add, hk]
 refine wpList_wanted hw fun _ hK => ?_
 unfold Oper.wp execOp
 simp only [ho, hs, hi, Sem.run_bind, hrun, Result.andThen_ok, Sem.run_pure]
 exact hK _ _ h
theorem cell_le {m m' : World} {p : Addr} {v : Value} (h : m.cell? p = some v) (hl : Le m m') : m'.cell? p = some v := hl.cell _ _ h
theorem rangeAt_le {m m' : World} {g off : Nat} {vs : List Value} (h : m.rangeAt g off vs) (hl : Le m m') : m'.rangeAt g off vs := fun j v hv => hl.cell _ _ (h j v hv)
def fdS (P : Program) (t : TypeId) (k : Nat) : Option Nat :=
 match P.underlying t with
 | some (.struct fs) => (fs[k]?).bind fun f => match P.info? f.type with | some i => if i.size = 0 then none else some f.offset | none => none
 | _ => none
theorem run_fieldAt {t : TypeId} {k fo : Nat} (hf : fdS P t k = some fo) (g off : Nat) (w : World) : (Instr.fieldAt t (.pointer (some ⟨g, off, none⟩)) k).run P w = .ok (.pointer (some ⟨g, off + fo, none⟩)) w := by
 unfold fdS at hf
 split at hf
 ·rename_i fs hu
  cases hk : fs[k]? with
  | none => simp [hk] at hf
  | some f =>
   cases hi : P.info? f.type with
   | none => simp [hk, hi] at hf
   | some i =>
    simp only [hk, hi, Option.bind_some] at hf
    split at hf
    ·cases hf
    ·rename_i hne
     injection hf with hf
     subst hf
     unfold Instr.fieldAt fieldPlace
     rw [Sem.run_bind, run_underlying hu w]
     simp [hk, Instr.sureAddr, sizeOf, typeInfo, hi, hne, Addr.add]
 ·cases hf
theorem wl_fieldAddr (hw : Region.wanted o (yielded ops a.tmps) = true) {t : TypeId} {x : Operand} {k : Nat} (ho : o.op = .fieldAddr t x k) {fo : Nat} (hf : fdS P t k = some (fo + 1)) {g off : Nat} (hx : a.eval x = .pointer (some ⟨g, off, none⟩))
  (h : wpList P ops Q rest (a.put o.dst (.pointer (some ⟨g, off + (fo + 1), none⟩))) W) : wpList P ops Q (o :: rest) a W := by
 refine wpList_wanted hw fun _ hK => ?_
 unfold Oper.wp execOp
 simp only [ho, hx, Sem.run_bind, run_fieldAt hf, Result.andThen_ok, Sem.run_pure]
 exact hK _ _ h
theorem wl_fieldAddr0 (hw : Region.wanted o (yielded ops a.tmps) = true) {t : TypeId} {x : Operand} {k : Nat} (ho : o.op = .fieldAddr t x k) (hf : fdS P t k = some 0) {g off : Nat} (hx : a.eval x = .pointer (some ⟨g, off, none⟩))
  (h : wpList P ops Q rest (a.put o.dst (.pointer (some ⟨g, off, none⟩))) W) : wpList P ops Q (o :: rest) a W := by
 refine wpList_wanted hw fun _ hK => ?_
 unfold Oper.wp execOp
 simp only [ho, hx, Sem.run_bind, run_fieldAt hf, Result.andThen_ok, Sem.run_pure, Nat.add_zero]
 exact hK _ _ h
theorem NewRow.ext {B : Nat} {e : TypeId} {cs : Array Value} {n : Nat} {v : Value} {u um u' um' : World} (h : NewRow B e cs n v u um) (hu : Ext u u') (hm : Ext um um') : NewRow B e cs n v u' um' := by
 obtain ⟨g, rfl, h1, h2, h3, h4⟩ := h
 exact ⟨g, rfl, h1, Nat.lt_of_lt_of_le h2 hm.size, h3.ext hu, fun a ha => by rw [hm.cell (p := a) (by rw [ha]; exact h2)]; exact h4 a ha⟩
class FdC (P : Program) (t : TypeId) (k : Nat) (off : outParam Nat) : Prop where
 h : fdS P t k = some off
theorem t_ixa {t : TypeId} {s i : Operand} (ho : o.op = .indexAddr t s i) {e : TypeId} {size bytes : Nat} [hap : ApC P t e size bytes] {b off n c k : Nat} {kd : IntKind} (hs : a.eval s = .slice (some ⟨b, off, none⟩) n c) (hi : a.eval i = .int kd k)
  (h : wpList P ops Q rest (a.put o.dst (.pointer (some ⟨b, off + k * size, none⟩))) W) (hk : k < n := by first | with_reducible assumption | omega)
  (hw : Region.wanted o (yielded ops a.tmps) = true := by first | exact wanted_none rfl | exact wanted_some rfl rfl rfl rfl) : wpList P ops Q (o :: rest) a W := wl_indexAddr hw ho hap.h hs hi hk h
theorem t_fda {t : TypeId} {x : Operand} {k : Nat} (ho : o.op = .fieldAddr t x k) {fo : Nat} [hf : FdC P t k (fo + 1)] {g off : Nat} (hx : a.eval x = .pointer (some ⟨g, off, none⟩))
  (h : wpList P ops Q rest (a.put o.dst (.pointer (some ⟨g, off + (fo + 1), none⟩))) W)
  (hw : Region.wanted o (yielded ops a.tmps) = true := by first | exact wanted_none rfl | exact wanted_some rfl rfl rfl rfl) : wpList P ops Q (o :: rest) a W := wl_fieldAddr hw ho hf.h hx h
theorem t_fda0 {t : TypeId} {x : Operand} {k : Nat} (ho : o.op = .fieldAddr t x k) [hf : FdC P t k 0] {g off : Nat} (hx : a.eval x = .pointer (some ⟨g, off, none⟩))
  (h : wpList P ops Q rest (a.put o.dst (.pointer (some ⟨g, off, none⟩))) W)
  (hw : Region.wanted o (yielded ops a.tmps) = true := by first | exact wanted_none rfl | exact wanted_some rfl rfl rfl rfl) : wpList P ops Q (o :: rest) a W := wl_fieldAddr0 hw ho hf.h hx h
theorem t_loadV (hV : Vw m W) {ty : TypeId} {x : Operand} (ho : o.op = .load ty x) {g off : Nat} (hx : a.eval x = .pointer (some ⟨g, off, none⟩)) {k : Nat} [hty : AgC P ty k] {vs : List Value}
  (h : wpList P ops Q rest (a.put o.dst (.agg vs.toArray)) W) (hr : m.rangeAt g off vs ∧ vs.length = k := by refine ⟨?_, ?_⟩; exact rangeAt_le (by with_reducible assumption) (by repeat' (first | with_reducible exact Le.refl _ | (with_reducible refine Le.trans ?_ (Ext.le (by assumption))))); exact rfl)
  (hw : Region.wanted o (yielded ops a.tmps) = true := by first | exact wanted_none rfl | exact wanted_some rfl rfl rfl rfl) : wpList P ops Q (o :: rest) a W := wl_loadV hV hw ho hx hty.h hr.1 hr.2 h
theorem t_loadV1 (hV : Vw m W) {ty : TypeId} {x : Operand} (ho : o.op = .load ty x) {g off : Nat} (hx : a.eval x = .pointer (some ⟨g, off, none⟩)) [hty : LfC P ty] {v : Value}
  (h : wpList P ops Q rest (a.put o.dst v) W) (hr : m.cell? ⟨g, off, none⟩ = some v := by exact cell_le (by with_reducible assumption) (by repeat' (first | with_reducible exact Le.refl _ | (with_reducible refine Le.trans ?_ (Ext.le (by assumption))))))
  (hw : Region.wanted o (yielded ops a.tmps) = true := by first | exact wanted_none rfl | exact wanted_some rfl rfl rfl rfl) : wpList P ops Q (o :: rest) a W := wl_loadV1 hV hw ho hx hty.h hr h
end
end Go.Proofs.YtjianicbagcekaaGreatDoor

/- Rows that are made with their whole length and filled one by one; memory that a callee leaves to its caller. No program. -/
namespace Go.Proofs.YtjianicbagcekaaGreatDoor
open Go.RowKit

theorem splice_at (ws : List Value) : ∀ (o : Nat) (cs : Array Value), o + ws.length ≤ cs.size → ∀ j : Nat, (splice cs o ws)[j]? = if o ≤ j ∧ j < o + ws.length then ws[j - o]? else cs[j]? := by
 induction ws with
 | nil => intro o cs _ j; simp [splice]; omega
 | cons v ws ih =>
  intro o cs h j
  simp only [List.length_cons] at h
  rw [splice, ih (o + 1) _ (by simp; omega), Array.getElem?_setIfInBounds]
  simp only [List.length_cons]
  by_cases h1 : o + 1 ≤ j ∧ j < o + 1 + ws.length
  ·rw [if_pos h1, if_pos (by omega)]
   obtain ⟨i, rfl⟩ : ∃ i, j = o + 1 + i := ⟨j - (o + 1), by omega⟩
   rw [show o + 1 + i - (o + 1) = i by omega, show o + 1 + i - o = i + 1 by omega]
   simp
  ·rw [if_neg h1]
   by_cases h2 : o = j
   ·subst h2
    rw [if_pos rfl, if_pos (by omega), if_pos (by omega)]
    simp
   ·rw [if_neg h2, if_neg (by omega)]

def RowP {α : Type} (size : Nat) (R : World → Value → α → Prop) (m : World) (k : Nat) (cur : Array Value) (xs : List α) : Prop :=
 cur.size = xs.length * size ∧ ∃ vs, cur.toList.take (k * size) = cellsOf vs ∧ vs.length = k ∧ (∀ u ∈ vs, u.cells.size = size) ∧ All2 (R m) vs (xs.take k)
theorem RowP.zero {α : Type} {size : Nat} {R : World → Value → α → Prop} {m : World} {cur : Array Value} {xs : List α} (h : cur.size = xs.length * size) : RowP size R m 0 cur xs :=
 ⟨h, [], by simp [cellsOf], rfl, (fun _ h => by cases h), by simp [All2]⟩
theorem RowP.le {α : Type} {size : Nat} {R : World → Value → α → Prop} (hR : ∀ m m' v x, R m v x → Le m m' → R m' v x) {m m' : World} {k : Nat} {cur : Array Value} {xs : List α} (h : RowP size R m k cur xs) (hb : Le m m') : RowP size R m' k cur xs := by
 obtain ⟨h0, vs, h1, h2, h3, h4⟩ := h
 exact ⟨h0, vs, h1, h2, h3, h4.mono fun v x hv => hR m m' v x hv hb⟩
def RowF {α : Type} (size : Nat) (R : World → Value → α → Prop) (m : World) (cur : Array Value) (xs : List α) : Prop :=
 ∃ vs, cur.toList = cellsOf vs ∧ (∀ u ∈ vs, u.cells.size = size) ∧ All2 (R m) vs xs
theorem RowF.le {α : Type} {size : Nat} {R : World → Value → α → Prop} (hR : ∀ m m' v x, R m v x → Le m m' → R m' v x) {m m' : World} {cur : Array Value} {xs : List α} (h : RowF size R m cur xs) (hb : Le m m') : RowF size R m' cur xs := by
 obtain ⟨vs, h1, h3, h4⟩ := h
 exact ⟨vs, h1, h3, h4.mono fun v x hv => hR m m' v x hv hb⟩
theorem RowF.size {α : Type} {size : Nat} {R : World → Value → α → Prop} {m : World} {cur : Array Value} {xs : List α} (h : RowF size R m cur xs) : cur.size = xs.length * size := by
 obtain ⟨vs, h1, h3, h4⟩ := h
 have := cellsOf_length h3
 rw [← h1, h4.length] at this
 simpa using this
theorem All2.set {α : Type} {R : Value → α → Prop} : ∀ {vs : List Value} {xs : List α}, All2 R vs xs → ∀ {k : Nat} {v : Value} {x : α}, R v x → All2 R (vs.set k v) (xs.set k x)
 | v :: vs, x :: xs, h, 0, _, _, hv => ⟨hv, h.2⟩
 | v :: vs, x :: xs, h, k + 1, _, _, hv => ⟨h.1, All2.set h.2 hv⟩
 | [], [], _, _, _, _, _ => trivial
 | [], _ :: _, h, _, _, _, _ => h.elim
 | _ :: _, [], h, _, _, _, _ => h.elim
theorem cellsOf_set {size : Nat} : ∀ {vs : List Value} {k : Nat} {ws : List Value}, (∀ u ∈ vs, u.cells.size = size) → ws.length = size → k < vs.length → ∀ j : Nat, (cellsOf (vs.set k (.agg ws.toArray)))[j]? = if k * size ≤ j ∧ j < k * size + size then ws[j - k * size]? else (cellsOf vs)[j]?
 | [], k, ws, _, _, hk, _ => by simp at hk
 | u :: vs, 0, ws, h, hw, hk, j => by
  have hl : u.cells.toList.length = size := by simpa using h u (by simp)
  simp only [List.set_cons_zero, cellsOf, List.flatMap_cons, Nat.zero_mul, Nat.zero_add, Nat.zero_le, true_and, Nat.sub_zero]
  by_cases hj : j < size
  ·rw [if_pos hj, List.getElem?_append_left (by simpa [Value.cells, hw] using hj)]
   simp [Value.cells]
  ·rw [if_neg hj, List.getElem?_append_right (by simpa [Value.cells, hw] using hj), List.getElem?_append_right (by omega), hl]
   simp [Value.cells, hw]
 | u :: vs, k + 1, ws, h, hw, hk, j => by
  have hl : u.cells.toList.length = size := by simpa using h u (by simp)
  have ih := cellsOf_set (vs := vs) (k := k) (ws := ws) (fun x hx => h x (by simp [hx])) hw (by simpa using hk)
  simp only [cellsOf] at ih
  simp only [List.set_cons_succ, cellsOf, List.flatMap_cons, Nat.succ_mul]
  by_cases hj : j < size
  ·rw [List.getElem?_append_left (by omega), List.getElem?_append_left (by omega), if_neg (by omega)]
  ·rw [List.getElem?_append_right (by omega), List.getElem?_append_right (by omega), hl, ih (j - size)]
   by_cases hc : k * size ≤ j - size ∧ j - size < k * size + size
   ·rw [if_pos hc, if_pos (by omega), show j - size - k * size = j - (k * size + size) by omega]
   ·rw [if_neg hc, if_neg (by omega)]
theorem RowF.set {α : Type} {size : Nat} {R : World → Value → α → Prop} {m : World} {k : Nat} {cur : Array Value} {xs : List α} (h : RowF size R m cur xs) {ws : List Value} {x : α} (hk : k < xs.length) (hw : ws.length = size) (hv : R m (.agg ws.toArray) x) :
  RowF size R m (splice cur (0 + k * size) ws) (xs.set k x) := by
 have hsz := h.size
 obtain ⟨vs, h1, h3, h4⟩ := h
 have hl := h4.length
 have hfit : k * size + size ≤ cur.size := by rw [hsz, ← Nat.succ_mul]; exact Nat.mul_le_mul_right _ hk
 refine ⟨vs.set k (.agg ws.toArray), ?_, ?_, h4.set hv⟩
 ·apply List.ext_getElem?
  intro j
  rw [Array.getElem?_toList, Nat.zero_add, splice_at ws _ _ (by rw [hw]; exact hfit), cellsOf_set h3 hw (by omega), hw, ← h1]
  simp
 ·intro u hu
  rcases List.mem_or_eq_of_mem_set hu with hu | rfl
  ·exact h3 u hu
  ·simpa [Value.cells] using hw
theorem RowF.at_ {α : Type} {size : Nat} {R : World → Value → α → Prop} {m : World} {cur : Array Value} {xs : List α} (h : RowF size R m cur xs) {k : Nat} {x : α} (hk : xs[k]? = some x) :
  ∃ v, R m v x ∧ v.cells.size = size ∧ ∀ j, j < size → cur[0 + k * size + j]? = v.cells[j]? := by
 obtain ⟨vs, h1, h3, h4⟩ := h
 obtain ⟨v, hv, hR⟩ := h4.at_ hk
 refine ⟨v, hR, h3 v (List.mem_of_getElem? hv), fun j hj => ?_⟩
 have := cellsOf_at h3 hv j hj
 rw [← h1, Array.getElem?_toList] at this
 rw [Nat.zero_add, this, Array.getElem?_toList]

section
variable {P : Program} {ops : Array Oper} {Q : Exit → Act → World → Prop} {rest : List Oper} {o : Oper} {a : Act} {w0 m0 W m : World} {Ls : List Lo}
theorem wl_indexAddrA (hw : Region.wanted o (yielded ops a.tmps) = true) {t : TypeId} {s i : Operand} (ho : o.op = .indexAddr t s i) {e : TypeId} {size bytes zs : Nat} (hap : apS P t = some (e, size, bytes, zs))
  {A : Option Addr} {b off n c k : Nat} {kd : IntKind} (hs : a.eval s = .slice A n c) (hA : Hid (A = some ⟨b, off, none⟩)) (hi : a.eval i = .int kd k) (hk : k < n)
  (h : wpList P ops Q rest (a.put o.dst (.pointer (some ⟨b, off + k * size, none⟩))) W) : wpList P ops Q (o :: rest) a W := by
 rw [hA.out] at hs
 exact wl_indexAddr hw ho hap hs hi hk h
theorem wl_storeR (hL : Loc w0 m0 W m Ls) (hw : Region.wanted o (yielded ops a.tmps) = true) {ty : TypeId} {x y : Operand} (ho : o.op = .store ty x y) {g off : Nat} (hx : a.eval x = .pointer (some ⟨g, off, none⟩)) {vs : List Value}
  (hy : a.eval y = .agg vs.toArray) {k : Nat} (hty : agS P ty = some k) (hk : vs.length = k) {n : Nat} {t : TypeId} {cs : Array Value} (hn : Ls[n]? = some (g, t, cs)) (hfit : off + k ≤ cs.size) (h1 : vs.all (·.oneCell') = true)
  (h : ∀ W', Loc w0 m0 W' m (Ls.set n (g, t, splice cs off vs)) → wpList P ops Q rest (a.put o.dst undef) W') : wpList P ops Q (o :: rest) a W :=
 wl_store hL hw ho hx hy hty hk hn (by rw [hk]; exact hfit) h1 h
theorem wl_loadR (hL : Loc w0 m0 W m Ls) (hw : Region.wanted o (yielded ops a.tmps) = true) {ty : TypeId} {x : Operand} (ho : o.op = .load ty x) {g off : Nat} (hx : a.eval x = .pointer (some ⟨g, off, none⟩)) {k : Nat} (hty : agS P ty = some k)
  {n : Nat} {t : TypeId} {cs : Array Value} (hn : Ls[n]? = some (g, t, cs)) {vs : List Value} (hr : ∀ j, j < k → cs[off + j]? = vs[j]?) (hk : vs.length = k)
  (h : wpList P ops Q rest (a.put o.dst (.agg vs.toArray)) W) : wpList P ops Q (o :: rest) a W :=
 wpList_wanted hw fun _ hK => op_load ho hx (vs := vs) (hk ▸ hty) (fun j v hv => by
  have hj : j < k := by rw [← hk]; exact (List.getElem?_eq_some_iff.1 hv).1
  rw [(hL.at_ hn).cell, hr j hj, hv]) (hK _ _ h)
theorem t_ixaA {t : TypeId} {s i : Operand} (ho : o.op = .indexAddr t s i) {e : TypeId} {size bytes : Nat} [hap : ApC P t e size bytes] {A : Option Addr} {b off n c k : Nat} {kd : IntKind} (hs : a.eval s = .slice A n c) (hi : a.eval i = .int kd k)
  (h : wpList P ops Q rest (a.put o.dst (.pointer (some ⟨b, off + k * size, none⟩))) W) (hA : Hid (A = some ⟨b, off, none⟩) := by with_reducible assumption) (hk : k < n := by first | with_reducible assumption | omega)
  (hw : Region.wanted o (yielded ops a.tmps) = true := by first | exact wanted_none rfl | exact wanted_some rfl rfl rfl rfl) : wpList P ops Q (o :: rest) a W := wl_indexAddrA hw ho hap.h hs hA hi hk h
theorem t_storeR (hL : Loc w0 m0 W m Ls) {ty : TypeId} {x y : Operand} (ho : o.op = .store ty x y) {g off : Nat} (hx : a.eval x = .pointer (some ⟨g, off, none⟩)) {vs : List Value} (hy : a.eval y = .agg vs.toArray) {k : Nat} [hty : AgC P ty k] {n : Nat} {t : TypeId} {cs : Array Value}
  (h : ∀ W', Loc w0 m0 W' m (Ls.set n (g, t, splice cs off vs)) → wpList P ops Q rest (a.put o.dst undef) W')
  (hn : Ls[n]? = some (g, t, cs) ∧ off + k ≤ cs.size ∧ vs.length = k ∧ vs.all (·.oneCell') = true := by refine ⟨?_, ?_, ?_, ?_⟩; (first | with_reducible exact lo0 | with_reducible exact lo1 | with_reducible exact lo2 | with_reducible exact lo3 | with_reducible exact lo4 | with_reducible exact lo5 | with_reducible exact lo6 | with_reducible exact lo7 | with_reducible exact lo8 | with_reducible exact lo9 | with_reducible exact lo10 | with_reducible exact lo11); (with_reducible assumption); exact rfl; exact rfl)
  (hw : Region.wanted o (yielded ops a.tmps) = true := by first | exact wanted_none rfl | exact wanted_some rfl rfl rfl rfl) : wpList P ops Q (o :: rest) a W := wl_storeR hL hw ho hx hy hty.h hn.2.2.1 hn.1 hn.2.1 hn.2.2.2 h
theorem t_loadR (hL : Loc w0 m0 W m Ls) {ty : TypeId} {x : Operand} (ho : o.op = .load ty x) {g off : Nat} (hx : a.eval x = .pointer (some ⟨g, off, none⟩)) {k : Nat} [hty : AgC P ty k] {n : Nat} {t : TypeId} {cs : Array Value} {vs : List Value}
  (h : wpList P ops Q rest (a.put o.dst (.agg vs.toArray)) W) (hn : Ls[n]? = some (g, t, cs) ∧ (∀ j, j < k → cs[off + j]? = vs[j]?) ∧ vs.length = k := by refine ⟨?_, ?_, ?_⟩; (first | with_reducible exact lo0 | with_reducible exact lo1 | with_reducible exact lo2 | with_reducible exact lo3 | with_reducible exact lo4 | with_reducible exact lo5 | with_reducible exact lo6 | with_reducible exact lo7 | with_reducible exact lo8 | with_reducible exact lo9 | with_reducible exact lo10 | with_reducible exact lo11); (with_reducible assumption); exact rfl)
  (hw : Region.wanted o (yielded ops a.tmps) = true := by first | exact wanted_none rfl | exact wanted_some rfl rfl rfl rfl) : wpList P ops Q (o :: rest) a W := wl_loadR hL hw ho hx hty.h hn.1 hn.2.1 hn.2.2 h
end
end Go.Proofs.YtjianicbagcekaaGreatDoor

/- Lists that are built by append, element by element. No program. -/
namespace Go.Proofs.YtjianicbagcekaaGreatDoor
open Go.RowKit

def RowA {α : Type} (e : TypeId) (size : Nat) (R : World → Value → α → Prop) (m : World) (v : Value) (n : Nat) (xs : List α) (Rr : List Lo) : Prop :=
 ∃ vs, Row e size v n (cellsOf vs) Rr ∧ (∀ u ∈ vs, u.cells.size = size) ∧ All2 (R m) vs xs ∧ vs.length = n
theorem RowA.nil {α : Type} {e : TypeId} {size : Nat} {R : World → Value → α → Prop} {m : World} : RowA e size R m (.slice none 0 0) 0 [] [] :=
 ⟨[], by simpa [cellsOf] using Row.nil e size, (fun _ h => by cases h), trivial, rfl⟩
theorem RowA.le {α : Type} {e : TypeId} {size : Nat} {R : World → Value → α → Prop} (hR : ∀ m m' v x, R m v x → Le m m' → R m' v x) {m m' : World} {v : Value} {n : Nat} {xs : List α} {Rr : List Lo} (h : RowA e size R m v n xs Rr) (hb : Le m m') : RowA e size R m' v n xs Rr := by
 obtain ⟨vs, h1, h2, h3, h4⟩ := h
 exact ⟨vs, h1, h2, h3.mono fun v x hv => hR m m' v x hv hb, h4⟩
theorem RowA.snoc {α : Type} {e : TypeId} {size : Nat} {R : World → Value → α → Prop} {m : World} {n : Nat} {xs : List α} {vs : List Value} {ws : List Value} {x : α} {v' : Value} {R' : List Lo}
  (h1 : Row e size v' (n + 1) (cellsOf vs ++ ws) R') (h2 : ∀ u ∈ vs, u.cells.size = size) (h3 : All2 (R m) vs xs) (h4 : vs.length = n) (hw : ws.length = size) (hx : R m (.agg ws.toArray) x) : RowA e size R m v' (n + 1) (xs ++ [x]) R' := by
 refine ⟨vs ++ [.agg ws.toArray], ?_, ?_, h3.snoc hx, by simp [h4]⟩
 ·rw [cellsOf_append, cellsOf_one]
  simpa [Value.cells] using h1
 ·intro u hu
  rcases List.mem_append.1 hu with hu | hu
  ·exact h2 u hu
  ·rcases List.mem_singleton.1 hu with rfl
   simpa [Value.cells] using hw
theorem RowA.show {α : Type} {e : TypeId} {size : Nat} {R : World → Value → α → Prop} (hR : ∀ m m' v x, R m v x → Le m m' → R m' v x) {w0 m0 W m : World} {A Rr : List Lo} {v : Value} {n : Nat} {xs : List α} (hL : Loc w0 m0 W m (A ++ Rr)) (h : RowA e size R m v n xs Rr) :
  ∃ m', Loc w0 m0 W m' A ∧ Le m m' ∧ ListV size R m' v xs ∧ ∃ cs, W.ownsRow w0.heap.size e size v n cs := by
 obtain ⟨vs, h1, h2, h3, h4⟩ := h
 obtain ⟨m', B, c, hL', hle, rfl, hc, hs, ho⟩ := Loc.show hL h1
 exact ⟨m', hL', hle, ListV.mk hc h4 h2 hs (h3.mono fun v x hv => hR m m' v x hv hle), _, ho⟩
theorem RowA.lit {α : Type} {e : TypeId} {size : Nat} {R : World → Value → α → Prop} {m : World} {v : Value} {n : Nat} {xs : List α} {Rr : List Lo} (h : RowA e size R m v n xs Rr) : ∃ A c, v = .slice A n c ∧ RowA e size R m (.slice A n c) n xs Rr := by
 have h' := h
 obtain ⟨vs, h1, _⟩ := h
 obtain ⟨A, c, rfl, _⟩ := h1.lit
 exact ⟨A, c, rfl, h'⟩
theorem take_snoc {α : Type} {l : List α} {k : Nat} {x : α} (h : l[k]? = some x) : l.take k ++ [x] = l.take (k + 1) := by rw [List.take_add_one, h]; rfl
end Go.Proofs.YtjianicbagcekaaGreatDoor

/- Rows that are new and shown at once; slices of one element; a row that is taken out of the list. No program. -/
namespace Go.Proofs.YtjianicbagcekaaGreatDoor
open Go.RowKit

theorem Loc.allocV {w0 m0 W m : World} {Ls : List Lo} (h : Loc w0 m0 W m Ls) (cs : Array Value) (t : TypeId) :
  Loc w0 m0 (W.alloc (.cells cs t)) (m.alloc (.cells cs t)) Ls := by
 have hs := h.vw.size
 refine ⟨h.size0, h.ext.alloc _, h.mext.alloc _, ⟨h.vw.os, h.vw.tape, h.vw.output, by simp [hs], fun a u hu => ?_⟩, h.low, fun x hx => (h.blk x hx).alloc _, fun x hx a ha => ?_, h.apart⟩
 ·by_cases e : a.block = m.heap.size
  ·obtain ⟨b, o, s⟩ := a
   simp only at e
   subst e
   have b1 := Blk.new m t cs
   have b2 : Blk (W.alloc (.cells cs t)) m.heap.size t cs := by rw [hs]; exact Blk.new W t cs
   unfold Blk at b1 b2
   unfold World.cell? at hu ⊢
   rw [b1] at hu
   rw [b2]
   exact hu
  ·exact cell_alloc_old (h.vw.cell _ _ (cell_alloc_iff hu e))
 ·cases hc : (m.alloc (.cells cs t)).cell? a with
  | none => rfl
  | some u =>
   have := cell_alloc_iff hc (by rw [ha, hs]; exact Nat.ne_of_lt (h.blk x hx).lt)
   rw [h.hid x hx a ha] at this; cases this
section
variable {P : Program} {ops : Array Oper} {Q : Exit → Act → World → Prop} {rest : List Oper} {o : Oper} {a : Act} {w0 m0 W m : World} {Ls : List Lo}
theorem wl_bslice (hL : Loc w0 m0 W m Ls) (hw : Region.wanted o (yielded ops a.tmps) = true) {t : TypeId} {k : Nat} {parts : Array (Nat × Operand)} (_ho : o.op = .buildSlice t k parts) {n : Nat} {cs : Array Value} {e : TypeId}
  (hrun : ∀ w, (execOp a.eval o).run P w = .ok (.value (.slice (some ⟨w.heap.size, 0, none⟩) n n)) (w.alloc (.cells cs e)))
  (h : ∀ W' m', Loc w0 m0 W' m' Ls → Ext m m' → Blk m' W.heap.size e cs → wpList P ops Q rest (a.put o.dst (.slice (some ⟨W.heap.size, 0, none⟩) n n)) W') : wpList P ops Q (o :: rest) a W := by
 refine wpList_wanted hw fun _ hK => ?_
 unfold Oper.wp
 rw [hrun W]
 refine hK _ _ (h _ _ (hL.allocV cs e) (Ext.new _ _) ?_)
 rw [← hL.vw.size]
 exact Blk.new m e cs
end

theorem foldl_splice (off : Nat) : ∀ (l : List Value) (k : Nat) (cs : Array Value), (l.zipIdx k).foldl (fun cs (x : Value × Nat) => cs.setIfInBounds (off + x.2) x.1) cs = splice cs (off + k) l
 | [], _, _ => rfl
 | v :: r, k, cs => by
  rw [List.zipIdx_cons, List.foldl_cons, foldl_splice off r (k + 1), splice]; rfl
theorem splice_all {ws : List Value} {cs : Array Value} (h : cs.size = ws.length) : splice cs 0 ws = ws.toArray := by
 apply Array.ext_getElem?
 intro j
 rw [splice_at ws 0 cs (by omega)]
 by_cases hj : j < ws.length
 ·rw [if_pos ⟨by omega, by omega⟩]; simp
 ·rw [if_neg (by omega)]
  rw [Array.getElem?_eq_none (by omega)]; simp; omega
theorem run_bs1 {P : Program} {t e : TypeId} {size bytes : Nat} (hap : apS P t = some (e, size, bytes, size)) (h0 : 0 < size) (h1 : size ≤ 1000) {v : Value} {ws : List Value} (hv : v.cells = ws.toArray) (hw : ws.length = size) (w : World) :
  (Instr.buildSlice t 1 #[(0, v)]).run P w = .ok (.slice (some ⟨w.heap.size, 0, none⟩) 1 1) (w.alloc (.cells ws.toArray e)) := by
 obtain ⟨i, z, ht, hi, hz, hs, hb, hzs⟩ := ap_desc hap
 have hle : ¬ (1 * i.size > 2 ^ 24) := by omega
 have hne : ¬ (1 * i.size = 0) := by omega
 have hfill : ∀ cs : Array Value, cs.size = size → Instr.fill (fun j => some (j * i.size, i.size)) cs [(0, v)] = some ws.toArray := by
  intro cs hcs
  unfold Instr.fill
  have e1 : v.cells.size = i.size := by rw [hv]; simp [hw, hs]
  simp only [e1, ne_eq, not_true_eq_false, decide_false, Bool.false_or, Nat.zero_mul, Nat.zero_add]
  rw [if_neg (by simp; omega)]
  unfold Instr.fill
  congr 1
  rw [hv]
  have := foldl_splice 0 ws 0 cs
  simp only [Nat.zero_add, Nat.add_zero] at this
  have h2 := splice_all (cs := cs) (ws := ws) (by omega)
  rw [← Array.foldl_toList, Array.toList_zipIdx]
  exact this.trans h2
 have hsz : (sizeOf e).run P w = .ok i.size w := by simp [sizeOf, typeInfo, hi]
 have hzv : (zeroValue e).run P w = .ok z w := by simp [zeroValue, typeInfo, hi, hz]
 unfold Instr.buildSlice
 simp only [Sem.run_bind, run_underlying ht, hsz, Result.andThen_ok]
 rw [if_neg hle, if_neg hne]
 simp only [Sem.run_bind, hzv, Sem.run_pure, Result.andThen_ok]
 rw [hfill _ (by simp [hs])]
 simp [newRow, go_sem]
section
variable {P : Program} {ops : Array Oper} {Q : Exit → Act → World → Prop} {rest : List Oper} {o : Oper} {a : Act} {w0 m0 W m : World} {Ls : List Lo}
theorem wl_bs1 (hL : Loc w0 m0 W m Ls) (hw : Region.wanted o (yielded ops a.tmps) = true) {t : TypeId} {x : Operand} (ho : o.op = .buildSlice t 1 #[(0, x)]) {e : TypeId} {size bytes : Nat} (hap : apS P t = some (e, size, bytes, size)) (h0 : 0 < size) (h1 : size ≤ 1000)
  {v : Value} (hx : a.eval x = v) {ws : List Value} (hv : v.cells = ws.toArray) (hl : ws.length = size)
  (h : ∀ W' m', Loc w0 m0 W' m' Ls → Ext m m' → Blk m' W.heap.size e ws.toArray → wpList P ops Q rest (a.put o.dst (.slice (some ⟨W.heap.size, 0, none⟩) 1 1)) W') : wpList P ops Q (o :: rest) a W := by
 refine wl_bslice (e := e) (cs := ws.toArray) (n := 1) hL hw ho (fun w => ?_) h
 unfold execOp
 simp only [ho, List.map_toArray, List.map_cons, List.map_nil, hx, Sem.run_bind, run_bs1 hap h0 h1 hv hl, Result.andThen_ok, Sem.run_pure]
theorem t_bsA (hL : Loc w0 m0 W m Ls) {t : TypeId} {x : Operand} (ho : o.op = .buildSlice t 1 #[(0, x)]) {ws : List Value} (hx : a.eval x = .agg ws.toArray) {e : TypeId} {size bytes : Nat} [hap : ApC P t e size bytes]
  (h : ∀ W' m', Loc w0 m0 W' m' Ls → Ext m m' → Blk m' W.heap.size e ws.toArray → wpList P ops Q rest (a.put o.dst (.slice (some ⟨W.heap.size, 0, none⟩) 1 1)) W')
  (hz : 0 < size ∧ size ≤ 1000 ∧ ws.length = size := by refine ⟨by decide, by decide, rfl⟩)
  (hw : Region.wanted o (yielded ops a.tmps) = true := by first | exact wanted_none rfl | exact wanted_some rfl rfl rfl rfl) : wpList P ops Q (o :: rest) a W := wl_bs1 hL hw ho hap.h hz.1 hz.2.1 hx rfl hz.2.2 h
theorem t_bsV (hL : Loc w0 m0 W m Ls) {t : TypeId} {x : Operand} (ho : o.op = .buildSlice t 1 #[(0, x)]) {v : Value} (hx : a.eval x = v) {e : TypeId} {bytes : Nat} [hap : ApC P t e 1 bytes]
  (h : ∀ W' m', Loc w0 m0 W' m' Ls → Ext m m' → Blk m' W.heap.size e #[v] → wpList P ops Q rest (a.put o.dst (.slice (some ⟨W.heap.size, 0, none⟩) 1 1)) W')
  (hv : v.cells = #[v] := by exact rfl)
  (hw : Region.wanted o (yielded ops a.tmps) = true := by first | exact wanted_none rfl | exact wanted_some rfl rfl rfl rfl) : wpList P ops Q (o :: rest) a W := wl_bs1 (ws := [v]) hL hw ho hap.h (by omega) (by omega) hx hv rfl h
end
theorem kBs {P : Program} {ops : Array Oper} {Q : Exit → Act → World → Prop} {rest : List Oper} {a : Act} {W : World} {d : Option Tmp} {ty t : TypeId} {pos : String} {af : Array Edge} {gd : Option (Nat × Bool)} {ps : Array (Nat × Operand)} {n : Nat}
  (h : wpList P ops Q (⟨d, .buildSlice t n ps, ty, pos, af, gd⟩ :: rest) a W) : wpList P ops Q (⟨d, .buildSlice t n ps, ty, pos, af, gd⟩ :: rest) a W := h
theorem stA {P : Program} {ops : Array Oper} {Q : Exit → Act → World → Prop} {rest : List Oper} {a : Act} {W : World} {d : Option Tmp} {ty : TypeId} {pos : String} {af : Array Edge} {gd : Option (Nat × Bool)} {xs : Array Operand} {ts : Array TypeId}
  (h : Hid (wpList P ops Q (⟨d, .call { callee := .builtin .append, args := xs, argTypes := ts }, ty, pos, af, gd⟩ :: rest) a W)) : wpList P ops Q (⟨d, .call { callee := .builtin .append, args := xs, argTypes := ts }, ty, pos, af, gd⟩ :: rest) a W := h
theorem goA {p : Prop} (h : p) : Hid p := h
theorem RowA.snocV {α : Type} {e : TypeId} {size : Nat} {R : World → Value → α → Prop} {m : World} {n : Nat} {xs : List α} {vs : List Value} {v : Value} {x : α} {v' : Value} {R' : List Lo}
  (h1 : Row e size v' (n + 1) (cellsOf vs ++ [v]) R') (h2 : ∀ u ∈ vs, u.cells.size = size) (h3 : All2 (R m) vs xs) (h4 : vs.length = n) (hv : v.cells = #[v]) (hs : size = 1) (hx : R m v x) : RowA e size R m v' (n + 1) (xs ++ [x]) R' := by
 refine ⟨vs ++ [v], ?_, ?_, h3.snoc hx, by simp [h4]⟩
 ·rw [cellsOf_append, cellsOf_one, hv]
  exact h1
 ·intro u hu
  rcases List.mem_append.1 hu with hu | hu
  ·exact h2 u hu
  ·rcases List.mem_singleton.1 hu with rfl
   rw [hv, hs]; rfl
end Go.Proofs.YtjianicbagcekaaGreatDoor

/- Regions that draw their order and store, late, into cells that they load before: the loads are taken first under a condition that holds till the first store. No program. -/
namespace Go.Proofs.YtjianicbagcekaaGreatDoor
open Go.RowKit
section
variable {P : Program} {ops : Array Oper} {Q : Exit → Act → World → Prop} {S : World → Prop}

def wpL (P : Program) (ops : Array Oper) (Q : Exit → Act → World → Prop) (S : World → Prop) (s : Nat) : Nat → Array Bool → Act → World → Prop
 | 0, listed, a, w => Region.ready .any ops listed = [] ∧ Q .normal a w
 | fuel + 1, listed, a, w =>
  (Region.ready .any ops listed = [] → Q .normal a w) ∧
  ∀ i ∈ Region.ready .any ops listed, wpOp P ops Q i (fun a' w' => ((listed.setIfInBounds i true).getD s false = false → S w') ∧ wpL P ops Q S s fuel (listed.setIfInBounds i true) a' w') a w
theorem wpAny_of_L {s : Nat} : ∀ (fuel : Nat) (listed : Array Bool) (a : Act) (w : World), wpL P ops Q S s fuel listed a w → wpAny P .any ops Q fuel listed a w
 | 0, _, _, _, h => h
 | fuel + 1, _, _, _, h => ⟨h.1, fun i hi => wpOp_mono (fun a' w' h' => wpAny_of_L fuel _ a' w' h'.2) (h.2 i hi)⟩
theorem wpL_first {s i k : Nat} {oi os : Oper} {v : Value} (hi : ops[i]? = some oi) (hos : ops[s]? = some os) (hw : ∃ e ∈ os.after, Region.binds .any e = true ∧ e.on = k) (hk : k = i ∨ ∃ ok, ops[k]? = some ok ∧ ∃ e ∈ ok.after, Region.binds .any e = true ∧ e.on = i) (hsi : s ≠ i)
  (hsel : ∀ (j : Nat) (o : Oper) cs b, ops[j]? = some o → o.op ≠ .select cs b) (hQ : ∀ c a w, Q (.panic c) (a.put oi.dst v) w → Q (.panic c) a w) :
  ∀ (fuel : Nat) (listed : Array Bool) (a : Act) (w : World),
   (∀ j oj, ops[j]? = some oj → j ≠ i → listed.getD j true = false → (∀ e ∈ oj.after, Region.binds .any e = true → e.on ≠ i) → oi.apart ops oj = true) →
   i ∈ Region.ready .any ops listed → listed.getD s false = false → listed.getD k false = false → YieldsIf P ops S oi v a → S w →
   wpL P ops Q S s fuel (listed.setIfInBounds i true) (a.put oi.dst v) w → wpL P ops Q S s (fuel + 1) listed a w := by
 intro fuel
 induction fuel with
 | zero =>
  intro listed a w _ hr _ _ hy hS H
  refine ⟨fun h => (by rw [h] at hr; cases hr), fun j hj => ?_⟩
  by_cases hji : j = i
  ·subst hji; exact hy.wpOp hi hS ⟨fun _ => hS, H⟩
  ·have := ready_mono hj hji
   rw [H.1] at this
   cases this
 | succ fuel ih =>
  intro listed a w hfree hr hsl hkl hy hS H
  refine ⟨fun h => (by rw [h] at hr; cases hr), fun j hj => ?_⟩
  by_cases hji : j = i
  ·subst hji; exact hy.wpOp hi hS ⟨fun _ => hS, H⟩
  ·have h1 := H.2 j (ready_mono hj hji)
   obtain ⟨hjun, oj, hoj, hall⟩ := mem_ready.1 hj
   have hnot : ∀ e ∈ oj.after, Region.binds .any e = true → e.on ≠ i := fun e he hb heq => by
    have h1 := hall e he hb
    have h0 := (mem_ready.1 hr).1
    rw [heq] at h1
    rcases Nat.lt_or_ge i listed.size with h' | h'
    ·simp [h'] at h0 h1; rw [h0] at h1; cases h1
    ·simp [Array.getElem?_eq_none h'] at h1
   have hjs : j ≠ s := by
    rintro rfl
    rw [hos] at hoj
    obtain rfl := Option.some.inj hoj
    obtain ⟨e, he, hb, heq⟩ := hw
    have h9 := hall e he hb
    rw [heq, hkl] at h9
    cases h9
   have hjk : j ≠ k := by
    rintro rfl
    rcases hk with hk | ⟨ok, hok, e, he, hb, heq⟩
    ·exact hji hk
    ·rw [hok] at hoj
     obtain rfl := Option.some.inj hoj
     exact hnot e he hb heq
   have hkl' : (listed.setIfInBounds j true).getD k false = false := by rw [Go.getD_set_ne false hjk]; exact hkl
   have hsl' : (listed.setIfInBounds j true).getD s false = false := by rw [Go.getD_set_ne false hjs]; exact hsl
   have hsl2 : ((listed.setIfInBounds i true).setIfInBounds j true).getD s false = false := by rw [Go.getD_set_ne false hjs, Go.getD_set_ne false (Ne.symm hsi)]; exact hsl
   have h2 := wpOp_putIf hoj (hfree j oj hoj hji hjun hnot) (fun cs b => hsel i oi cs b hi) (fun cs b => hsel j oj cs b hoj) hQ hy h1
   have hfree' : ∀ k ok, ops[k]? = some ok → k ≠ i → (listed.setIfInBounds j true).getD k true = false →
     (∀ e ∈ ok.after, Region.binds .any e = true → e.on ≠ i) → oi.apart ops ok = true := fun k ok hk hki hun hno => by
    refine hfree k ok hk hki ?_ hno
    by_cases hjk : j = k
    ·subst hjk; exact hjun
    ·rw [Go.getD_set_ne true hjk] at hun; exact hun
   refine wpOp_mono (fun a' w' h3 => ⟨fun _ => h3.2.1 hsl2, ih (listed.setIfInBounds j true) a' w' hfree' (ready_mono hr (Ne.symm hji)) hsl' hkl' h3.1 (h3.2.1 hsl2) ?_⟩) h2
   rw [Array.setIfInBounds_comm _ _ hji]
   exact h3.2.2
def waits (ops : Array Oper) (s i : Nat) : Bool := match ops[s]? with
 | some o => o.after.any fun e => Region.binds .any e && e.on == i
 | none => false
theorem waits_spec {s i : Nat} (h : waits ops s i = true) : ∃ os, ops[s]? = some os ∧ ∃ e ∈ os.after, Region.binds .any e = true ∧ e.on = i := by
 unfold waits at h
 cases ho : ops[s]? with
 | none => rw [ho] at h; cases h
 | some os =>
  rw [ho] at h
  obtain ⟨k, hk, he⟩ := Array.any_eq_true.1 h
  simp only [Bool.and_eq_true, beq_iff_eq] at he
  exact ⟨os, rfl, _, Array.getElem_mem hk, he.1, he.2⟩
theorem wpL_take {s : Nat} (i k : Nat) {oi : Oper} {v : Value} {fuel : Nat} {listed : Array Bool} {a : Act} {w : World} (hi : ops[i]? = some oi)
  (hc : (Region.noSelect ops && Region.free .any ops listed i && (Region.ready .any ops listed).contains i && waits ops s k && (k == i || waits ops k i) && !listed.getD k false && !listed.getD s false && s != i) = true)
  (hQ : ∀ c a w, Q (.panic c) (a.put oi.dst v) w → Q (.panic c) a w) (hS : S w) (hw : Region.wanted oi (yielded ops a.tmps) = true) (hy : ∀ w, S w → (execOp a.eval oi).run P w = .ok (.value v) w)
  (h : wpL P ops Q S s fuel (listed.setIfInBounds i true) (a.put oi.dst v) w) : wpL P ops Q S s (fuel + 1) listed a w := by
 simp only [Bool.and_eq_true, Bool.or_eq_true, beq_iff_eq, Bool.not_eq_true', bne_iff_ne] at hc
 obtain ⟨⟨⟨⟨⟨⟨⟨h1, h2⟩, h3⟩, h4⟩, h7⟩, h8⟩, h5⟩, h6⟩ := hc
 obtain ⟨os, hos, hwt⟩ := waits_spec h4
 exact wpL_first hi hos hwt (h7.imp id waits_spec) h6 (Region.noSelect_spec h1) hQ fuel listed a w (Region.free_spec hi h2) (by simpa using h3) h5 h8 (.inl ⟨hw, hy⟩) hS h
def AllL (P : Program) (ops : Array Oper) (Q : Exit → Act → World → Prop) (S : World → Prop) (s fuel : Nat) (listed : Array Bool) (a : Act) (w : World) (rs : List Nat) : Prop :=
 ∀ i ∈ rs, wpOp P ops Q i (fun a' w' => ((listed.setIfInBounds i true).getD s false = false → S w') ∧ wpL P ops Q S s fuel (listed.setIfInBounds i true) a' w') a w
theorem AllL.nil {s fuel : Nat} {listed : Array Bool} {a : Act} {w : World} : AllL P ops Q S s fuel listed a w [] := fun _ h => by cases h
theorem AllL.cons {s fuel : Nat} {listed : Array Bool} {a : Act} {w : World} {i : Nat} {o : Oper} {rs : List Nat} (ho : ops[i]? = some o)
  (h : ∀ K' : Act → World → Prop, Shut (∀ a w, S w → (S w → wpL P ops Q S s fuel (listed.setIfInBounds i true) a w) → K' a w) → if Region.wanted o (yielded ops a.tmps) = true then Oper.wp P o a w K' Q else K' (a.put o.dst undef) w)
  (hs : AllL P ops Q S s fuel listed a w rs) : AllL P ops Q S s fuel listed a w (i :: rs) := fun j hj => by
 rcases List.mem_cons.1 hj with rfl | hj
 ·exact wpOp_step ho (fun K' hK => h K' (fun a w hS hW => hK a w ⟨fun _ => hS, hW hS⟩))
 ·exact hs j hj
theorem wpL_ready {s : Nat} (rs : List Nat) {fuel : Nat} {listed : Array Bool} {a : Act} {w : World} (hr : Region.ready .any ops listed = rs) (hne : rs ≠ [])
  (h : AllL P ops Q S s fuel listed a w rs) : wpL P ops Q S s (fuel + 1) listed a w := ⟨fun h0 => absurd (hr ▸ h0) hne, hr ▸ h⟩
theorem wpL_done {s : Nat} {listed : Array Bool} {a : Act} {w : World} (hr : Region.ready .any ops listed = []) (h : Q .normal a w) : ∀ fuel, wpL P ops Q S s fuel listed a w
 | 0 => ⟨hr, h⟩
 | _ + 1 => ⟨fun _ => h, by rw [hr]; simp⟩
theorem wp_region_L {id : Nat} {a : Act} {w : World} (s : Nat) (S : World → Prop) (hm : P.follows .mixedOrders = true) (h : wpL P ops (NoPanic Q) S s ops.size (Array.replicate ops.size false) a w.drew) : (Code.region id ops true).wp P Q a w :=
 wp_region_noPanic (wp_region_any hm (wpAny_of_L _ _ _ _ h))
end
end Go.Proofs.YtjianicbagcekaaGreatDoor

/- One operation of a region that draws its order, walked by the laws over a list of known blocks. No program. -/
namespace Go.Proofs.YtjianicbagcekaaGreatDoor
open Go.RowKit
section
variable {P : Program} {ops : Array Oper} {Q : Exit → Act → World → Prop} {S : World → Prop}
def StepL (P : Program) (ops : Array Oper) (Q : Exit → Act → World → Prop) (S : World → Prop) (s fuel : Nat) (listed : Array Bool) (i : Nat) (e : Exit) (a : Act) (w : World) : Prop :=
 e = .normal ∧ ((listed.setIfInBounds i true).getD s false = false → S w) ∧ wpL P ops Q S s fuel (listed.setIfInBounds i true) a w
theorem StepL.mk {s fuel i : Nat} {listed : Array Bool} {a : Act} {w : World} (hS : S w) (h : wpL P ops Q S s fuel (listed.setIfInBounds i true) a w) : StepL P ops Q S s fuel listed i .normal a w := ⟨rfl, fun _ => hS, h⟩
theorem StepL.mkL {s fuel i : Nat} {listed : Array Bool} {a : Act} {w : World} (hs : (listed.setIfInBounds i true).getD s false = true) (h : wpL P ops Q S s fuel (listed.setIfInBounds i true) a w) : StepL P ops Q S s fuel listed i .normal a w :=
 ⟨rfl, (fun h0 => by rw [hs] at h0; cases h0), h⟩
theorem AllL.one {s fuel : Nat} {listed : Array Bool} {a : Act} {w : World} {i : Nat} {o : Oper} {rs : List Nat} (ho : ops.toList[i]? = some o)
  (h : wpList P ops (StepL P ops Q S s fuel listed i) [o] a w) (hs : AllL P ops Q S s fuel listed a w rs) : AllL P ops Q S s fuel listed a w (i :: rs) := fun j hj => by
 rcases List.mem_cons.1 hj with rfl | hj
 ·exact wpOp_of_one (by rw [← Array.getElem?_toList]; exact ho) (fun _ _ _ h => h.1) (fun _ _ h => h.2) h
 ·exact hs j hj
theorem wpL_one {s : Nat} (i : Nat) {o : Oper} {fuel : Nat} {listed : Array Bool} {a : Act} {w : World} (hr : Region.ready .any ops listed = [i]) (ho : ops.toList[i]? = some o)
  (h : wpList P ops (StepL P ops Q S s fuel listed i) [o] a w) : wpL P ops Q S s (fuel + 1) listed a w := wpL_ready [i] hr (by simp) (AllL.one ho h AllL.nil)
end
end Go.Proofs.YtjianicbagcekaaGreatDoor

/- A strings.Builder among the variables of a walk. No program. -/
namespace Go.Proofs.YtjianicbagcekaaGreatDoor
open Go.RowKit

def Bld (T e : TypeId) (B b : Nat) (o : List Value) (Lb : List Lo) : Prop :=
 ∃ p v R, Lb = (b, T, #[p, v]) :: R ∧ (p = .pointer none ∨ p = .pointer (some ⟨b, 0, none⟩)) ∧ Row e 1 v o.length o R ∧ B ≤ b ∧ ∀ x ∈ R, B ≤ x.1 ∧ x.1 ≠ b
theorem Bld.new (T e : TypeId) (b : Nat) : Bld T e b b [] [(b, T, #[.pointer none, .slice none 0 0])] :=
 ⟨_, _, [], rfl, .inl rfl, Row.nil e 1, Nat.le_refl _, fun _ h => by cases h⟩
theorem Bld.shelf {T e : TypeId} {B b : Nat} {o : List Value} {A Lb : List Lo} {w0 m0 W m : World} (hL : Loc w0 m0 W m (A ++ Lb)) (h : Bld T e B b o Lb) : Lib.IsBuilder T e B b o W := by
 obtain ⟨p, v, R, rfl, hp, hr, hB, hR⟩ := h
 have hb : Blk W b T #[p, v] := hL.blk (b, T, #[p, v]) (by simp)
 have key : Lib.BuilderAt T e B b p o W := by
  refine ⟨hB, v, hb, ⟨hr.1, ?_⟩, ?_⟩
  ·obtain ⟨_, ⟨h1, h2, _⟩ | ⟨g, cap, cur, h1, h2, h3⟩⟩ := hr
   ·exact .inl ⟨h1, h2⟩
   ·exact .inr ⟨g, cap, cur, h1, (hR (g, e, cur) (by simp [h2])).1, hL.blk (g, e, cur) (by simp [h2]), h3⟩
  ·obtain ⟨_, ⟨rfl, _, _⟩ | ⟨g, cap, cur, rfl, h2, _⟩⟩ := hr
   ·simp [Value.ownBlock]
   ·have := (hR (g, e, cur) (by simp [h2])).2
    simpa [Value.ownBlock] using this
 rcases hp with rfl | rfl
 ·exact .inl key
 ·exact .inr key
theorem Loc.builder {w0 m0 W m W' ma : World} {A Lb : List Lo} {T e : TypeId} {B b : Nat} {o' : List Value} (hL : Loc w0 m0 W m (A ++ Lb)) (hA : ∀ x ∈ A, x.1 < B) (hm : Ext m0 ma) (hma : Ext ma m) (hsz : ma.heap.size = B) (hB0 : w0.heap.size ≤ B) (hBel : Below B W W')
  (hb : Lib.IsBuilder T e B b o' W') : ∃ Lb', Loc w0 m0 W' (hidTo ma W'.heap.size) (A ++ Lb') ∧ Bld T e B b o' Lb' := by
 have hWs : B ≤ W.heap.size := by rw [← hL.vw.size, ← hsz]; exact hma.size
 have hs : ma.heap.size ≤ W'.heap.size := by rw [hsz]; exact Nat.le_trans hWs hBel.size
 obtain ⟨p, hp, hBb, v, hbk, hown, hne⟩ : ∃ p, (p = .pointer none ∨ p = .pointer (some ⟨b, 0, none⟩)) ∧ Lib.BuilderAt T e B b p o' W' := by
  rcases hb with h | h
  ·exact ⟨_, .inl rfl, h⟩
  ·exact ⟨_, .inr rfl, h⟩
 have key : ∀ R : List Lo, (∀ x ∈ R, B ≤ x.1 ∧ x.1 ≠ b ∧ Blk W' x.1 x.2.1 x.2.2) → R.length ≤ 1 → Loc w0 m0 W' (hidTo ma W'.heap.size) (A ++ ((b, T, #[p, v]) :: R)) := by
  intro R hR h1
  refine ⟨hL.size0, Below.trans hL.ext (hBel.mono hB0), hm.trans (hidTo_ext hs), ⟨hma.os.symm.trans (hL.vw.os.trans hBel.os.symm), hma.tape.symm.trans (hL.vw.tape.trans hBel.tape.symm), hma.output.symm.trans (hL.vw.output.trans hBel.output.symm), hidTo_size hs, fun a u hu => ?_⟩, fun x hx => ?_, fun x hx => ?_, fun x hx a ha => ?_, ?_⟩
  ·rcases Nat.lt_or_ge a.block ma.heap.size with h | h
   ·rw [cell_of_heap (hidTo_old h)] at hu
    have := hL.vw.cell _ _ (hma.le.cell _ _ hu)
    rwa [cell_of_heap (hBel.block a.block (by omega))]
   ·rw [hidTo_new h] at hu; cases hu
  ·rcases List.mem_append.1 hx with hx | hx
   ·exact hL.low x (List.mem_append_left _ hx)
   ·rcases List.mem_cons.1 hx with rfl | hx
    ·exact Nat.le_trans hB0 hBb
    ·exact Nat.le_trans hB0 (hR x hx).1
  ·rcases List.mem_append.1 hx with hx | hx
   ·exact (hBel.block x.1 (hA x hx)).trans (hL.blk x (List.mem_append_left _ hx))
   ·rcases List.mem_cons.1 hx with rfl | hx
    ·exact hbk
    ·exact (hR x hx).2.2
  ·rcases List.mem_append.1 hx with hx | hx
   ·have h2 := hA x hx
    rw [cell_of_heap (hidTo_old (by omega))]
    have h3 := hL.hid x (List.mem_append_left _ hx) a ha
    cases hc : ma.cell? a with
    | none => rfl
    | some u => rw [hma.le.cell _ _ hc] at h3; cases h3
   ·refine hidTo_new ?_
    rw [ha, hsz]
    rcases List.mem_cons.1 hx with rfl | hx
    ·exact hBb
    ·exact (hR x hx).1
  ·refine List.pairwise_append.2 ⟨(List.pairwise_append.1 hL.apart).1, ?_, fun x hx y hy => ?_⟩
   ·refine List.Pairwise.cons (fun y hy => ((hR y hy).2.1).symm) ?_
    match R, h1 with
    | [], _ => exact List.Pairwise.nil
    | [x], _ => exact List.pairwise_singleton _ _
   ·have h2 := hA x hx
    rcases List.mem_cons.1 hy with rfl | hy
    ·show x.1 ≠ b
     omega
    ·have := (hR y hy).1
     omega
 obtain ⟨hlen, ⟨rfl, h0⟩ | ⟨g, cap, cur, rfl, h4, h5, h6⟩⟩ := hown
 ·exact ⟨_, key [] (fun _ h => by cases h) (by simp), p, _, [], rfl, hp, ⟨hlen, .inl ⟨rfl, h0, rfl⟩⟩, hBb, fun _ h => by cases h⟩
 ·have hgb : g ≠ b := by
   intro hgb
   subst hgb
   exact hne rfl
  refine ⟨_, key [(g, e, cur)] (fun x hx => ?_) (by simp), p, _, [(g, e, cur)], rfl, hp, ⟨hlen, .inr ⟨g, cap, cur, rfl, rfl, h6⟩⟩, hBb, fun x hx => ?_⟩
  ·rcases List.mem_singleton.1 hx with rfl
   exact ⟨h4, hgb, h5⟩
  ·rcases List.mem_singleton.1 hx with rfl
   exact ⟨h4, hgb⟩
end Go.Proofs.YtjianicbagcekaaGreatDoor

/- Facts on the types of the console (printed by genAQ1.py). -/
namespace Go.Proofs.YtjianicbagcekaaGreatDoor
open Go.RowKit

theorem ag_Timetable : agS Tryz.prog 48 = some 3 := by kernel_rfl
instance iAQ1_1 : AgC Tryz.prog 48 3 := ⟨ag_Timetable⟩
theorem zc_Timetable : zc Tryz.prog 48 = some #[.slice none 0 0, .slice none 0 0, .slice none 0 0] := by kernel_rfl
instance iAQ1_2 : ZcC Tryz.prog 48 #[.slice none 0 0, .slice none 0 0, .slice none 0 0] := ⟨zc_Timetable⟩
theorem fd_Timetable0 : fdS Tryz.prog 48 0 = some 0 := by kernel_rfl
instance iAQ1_3 : FdC Tryz.prog 48 0 0 := ⟨fd_Timetable0⟩
theorem fd_Timetable1 : fdS Tryz.prog 48 1 = some 1 := by kernel_rfl
instance iAQ1_4 : FdC Tryz.prog 48 1 1 := ⟨fd_Timetable1⟩
theorem fd_Timetable2 : fdS Tryz.prog 48 2 = some 2 := by kernel_rfl
instance iAQ1_5 : FdC Tryz.prog 48 2 2 := ⟨fd_Timetable2⟩
theorem ag_Zone : agS Tryz.prog 374 = some 3 := by kernel_rfl
instance iAQ1_6 : AgC Tryz.prog 374 3 := ⟨ag_Zone⟩
theorem zc_Zone : zc Tryz.prog 374 = some #[.string ⟨#[]⟩, .int .i64 0, .slice none 0 0] := by kernel_rfl
instance iAQ1_7 : ZcC Tryz.prog 374 #[.string ⟨#[]⟩, .int .i64 0, .slice none 0 0] := ⟨zc_Zone⟩
theorem fd_Zone0 : fdS Tryz.prog 374 0 = some 0 := by kernel_rfl
instance iAQ1_8 : FdC Tryz.prog 374 0 0 := ⟨fd_Zone0⟩
theorem fd_Zone1 : fdS Tryz.prog 374 1 = some 1 := by kernel_rfl
instance iAQ1_9 : FdC Tryz.prog 374 1 1 := ⟨fd_Zone1⟩
theorem fd_Zone2 : fdS Tryz.prog 374 2 = some 2 := by kernel_rfl
instance iAQ1_10 : FdC Tryz.prog 374 2 2 := ⟨fd_Zone2⟩
theorem ag_Problem : agS Tryz.prog 59 = some 21 := by kernel_rfl
instance iAQ1_11 : AgC Tryz.prog 59 21 := ⟨ag_Problem⟩
theorem zc_Problem : zc Tryz.prog 59 = some #[.slice none 0 0, .slice none 0 0, .slice none 0 0, .int .i64 0, .int .i64 0, .int .i64 0, .int .i64 0, .int .i64 0, .int .i64 0, .int .i64 0, .slice none 0 0, .slice none 0 0, .slice none 0 0, .slice none 0 0, .slice none 0 0, .slice none 0 0, .int .i64 0, .slice none 0 0, .slice none 0 0, .int .i64 0, .int .i64 0] := by kernel_rfl
instance iAQ1_12 : ZcC Tryz.prog 59 #[.slice none 0 0, .slice none 0 0, .slice none 0 0, .int .i64 0, .int .i64 0, .int .i64 0, .int .i64 0, .int .i64 0, .int .i64 0, .int .i64 0, .slice none 0 0, .slice none 0 0, .slice none 0 0, .slice none 0 0, .slice none 0 0, .slice none 0 0, .int .i64 0, .slice none 0 0, .slice none 0 0, .int .i64 0, .int .i64 0] := ⟨zc_Problem⟩
theorem fd_Problem0 : fdS Tryz.prog 59 0 = some 0 := by kernel_rfl
instance iAQ1_13 : FdC Tryz.prog 59 0 0 := ⟨fd_Problem0⟩
theorem fd_Problem1 : fdS Tryz.prog 59 1 = some 3 := by kernel_rfl
instance iAQ1_14 : FdC Tryz.prog 59 1 3 := ⟨fd_Problem1⟩
theorem fd_Problem2 : fdS Tryz.prog 59 2 = some 17 := by kernel_rfl
instance iAQ1_15 : FdC Tryz.prog 59 2 17 := ⟨fd_Problem2⟩
theorem fd_Problem3 : fdS Tryz.prog 59 3 = some 18 := by kernel_rfl
instance iAQ1_16 : FdC Tryz.prog 59 3 18 := ⟨fd_Problem3⟩
theorem fd_Problem4 : fdS Tryz.prog 59 4 = some 19 := by kernel_rfl
instance iAQ1_17 : FdC Tryz.prog 59 4 19 := ⟨fd_Problem4⟩
theorem fd_Problem5 : fdS Tryz.prog 59 5 = some 20 := by kernel_rfl
instance iAQ1_18 : FdC Tryz.prog 59 5 20 := ⟨fd_Problem5⟩
theorem ag_session : agS Tryz.prog 61 = some 29 := by kernel_rfl
instance iAQ1_19 : AgC Tryz.prog 61 29 := ⟨ag_session⟩
theorem zc_session : zc Tryz.prog 61 = some #[.string ⟨#[]⟩, .string ⟨#[]⟩, .string ⟨#[]⟩, .string ⟨#[]⟩, .string ⟨#[]⟩, .bool false, .slice none 0 0, .slice none 0 0, .slice none 0 0, .int .i64 0, .int .i64 0, .int .i64 0, .int .i64 0, .int .i64 0, .int .i64 0, .int .i64 0, .slice none 0 0, .slice none 0 0, .slice none 0 0, .slice none 0 0, .slice none 0 0, .slice none 0 0, .int .i64 0, .slice none 0 0, .slice none 0 0, .int .i64 0, .int .i64 0, .slice none 0 0, .slice none 0 0] := by kernel_rfl
instance iAQ1_20 : ZcC Tryz.prog 61 #[.string ⟨#[]⟩, .string ⟨#[]⟩, .string ⟨#[]⟩, .string ⟨#[]⟩, .string ⟨#[]⟩, .bool false, .slice none 0 0, .slice none 0 0, .slice none 0 0, .int .i64 0, .int .i64 0, .int .i64 0, .int .i64 0, .int .i64 0, .int .i64 0, .int .i64 0, .slice none 0 0, .slice none 0 0, .slice none 0 0, .slice none 0 0, .slice none 0 0, .slice none 0 0, .int .i64 0, .slice none 0 0, .slice none 0 0, .int .i64 0, .int .i64 0, .slice none 0 0, .slice none 0 0] := ⟨zc_session⟩
theorem fd_session0 : fdS Tryz.prog 61 0 = some 0 := by kernel_rfl
instance iAQ1_21 : FdC Tryz.prog 61 0 0 := ⟨fd_session0⟩
theorem fd_session1 : fdS Tryz.prog 61 1 = some 1 := by kernel_rfl
instance iAQ1_22 : FdC Tryz.prog 61 1 1 := ⟨fd_session1⟩
theorem fd_session2 : fdS Tryz.prog 61 2 = some 2 := by kernel_rfl
instance iAQ1_23 : FdC Tryz.prog 61 2 2 := ⟨fd_session2⟩
theorem fd_session3 : fdS Tryz.prog 61 3 = some 3 := by kernel_rfl
instance iAQ1_24 : FdC Tryz.prog 61 3 3 := ⟨fd_session3⟩
theorem fd_session4 : fdS Tryz.prog 61 4 = some 4 := by kernel_rfl
instance iAQ1_25 : FdC Tryz.prog 61 4 4 := ⟨fd_session4⟩
theorem fd_session5 : fdS Tryz.prog 61 5 = some 5 := by kernel_rfl
instance iAQ1_26 : FdC Tryz.prog 61 5 5 := ⟨fd_session5⟩
theorem fd_session6 : fdS Tryz.prog 61 6 = some 6 := by kernel_rfl
instance iAQ1_27 : FdC Tryz.prog 61 6 6 := ⟨fd_session6⟩
theorem fd_session7 : fdS Tryz.prog 61 7 = some 27 := by kernel_rfl
instance iAQ1_28 : FdC Tryz.prog 61 7 27 := ⟨fd_session7⟩
theorem fd_session8 : fdS Tryz.prog 61 8 = some 28 := by kernel_rfl
instance iAQ1_29 : FdC Tryz.prog 61 8 28 := ⟨fd_session8⟩
theorem ag_Builder : agS Tryz.prog 32 = some 2 := by kernel_rfl
instance iAQ1_30 : AgC Tryz.prog 32 2 := ⟨ag_Builder⟩
theorem zc_Builder : zc Tryz.prog 32 = some #[.pointer none, .slice none 0 0] := by kernel_rfl
instance iAQ1_31 : ZcC Tryz.prog 32 #[.pointer none, .slice none 0 0] := ⟨zc_Builder⟩
theorem fd_Builder0 : fdS Tryz.prog 32 0 = some 0 := by kernel_rfl
instance iAQ1_32 : FdC Tryz.prog 32 0 0 := ⟨fd_Builder0⟩
theorem fd_Builder1 : fdS Tryz.prog 32 1 = some 1 := by kernel_rfl
instance iAQ1_33 : FdC Tryz.prog 32 1 1 := ⟨fd_Builder1⟩
theorem ap_Strs : apS Tryz.prog 40 = some (9, 1, 16, 1) := by kernel_rfl
instance iAQ1_34 : ApC Tryz.prog 40 9 1 16 := ⟨ap_Strs⟩
theorem lf_Strs : lfB Tryz.prog 40 = true := by kernel_rfl
instance iAQ1_35 : LfC Tryz.prog 40 := ⟨lf_Strs⟩
theorem ap_Zones : apS Tryz.prog 44 = some (374, 3, 48, 3) := by kernel_rfl
instance iAQ1_36 : ApC Tryz.prog 44 374 3 48 := ⟨ap_Zones⟩
theorem lf_Zones : lfB Tryz.prog 44 = true := by kernel_rfl
instance iAQ1_37 : LfC Tryz.prog 44 := ⟨lf_Zones⟩
theorem ap_uint8s : apS Tryz.prog 30 = some (5, 1, 1, 1) := by kernel_rfl
instance iAQ1_38 : ApC Tryz.prog 30 5 1 1 := ⟨ap_uint8s⟩
theorem lf_uint8s : lfB Tryz.prog 30 = true := by kernel_rfl
instance iAQ1_39 : LfC Tryz.prog 30 := ⟨lf_uint8s⟩
theorem lf_string : lfB Tryz.prog 9 = true := by kernel_rfl
instance iAQ1_40 : LfC Tryz.prog 9 := ⟨lf_string⟩
theorem lf_bool : lfB Tryz.prog 4 = true := by kernel_rfl
instance iAQ1_41 : LfC Tryz.prog 4 := ⟨lf_bool⟩
theorem lf_int : lfB Tryz.prog 3 = true := by kernel_rfl
instance iAQ1_42 : LfC Tryz.prog 3 := ⟨lf_int⟩
theorem lf_Errno : lfB Tryz.prog 41 = true := by kernel_rfl
instance iAQ1_43 : LfC Tryz.prog 41 := ⟨lf_Errno⟩
end Go.Proofs.YtjianicbagcekaaGreatDoor

/- The library's contracts, laid at this program in plain words (printed by genShelf.py out of the kit's laying). -/
namespace Go.Proofs.YtjianicbagcekaaGreatDoor
open Go.RowKit Go.Shelf

def sl_lays169_ren : Go.Shelf.Ren := ⟨fun | 169 => 12 | n => n, fun | 70 => 29 | 9 => 9 | 0 => 0 | 72 => 32 | 37 => 30 | 127 => 70 | 3 => 3 | 5 => 5 | n => n, fun | n => n⟩
theorem sl_lays169 : Go.Proofs.Lays.n169 Tryz.prog sl_lays169_ren := {
 mixed := by kernel_rfl
 f169 := Tryz.func12.trans (congrArg some (by kernel_rfl))
 t0 := Tryz.underlying0
 a0 := Tryz.isAgg0
 z0 := Tryz.sizeOf0
 v0 := Tryz.zeroValue0
 t3 := Tryz.underlying3
 a3 := Tryz.isAgg3
 z3 := Tryz.sizeOf3
 v3 := Tryz.zeroValue3
 t9 := Tryz.underlying9
 a9 := Tryz.isAgg9
 z9 := Tryz.sizeOf9
 v9 := Tryz.zeroValue9
 t37 := Tryz.underlying30
 a37 := Tryz.isAgg30
 z37 := Tryz.sizeOf30
 v37 := Tryz.zeroValue30
 t70 := Tryz.underlying29
 a70 := Tryz.isAgg29
 z70 := Tryz.sizeOf29
 v70 := Tryz.zeroValue29
 t72 := Tryz.underlying32
 a72 := Tryz.isAgg32
 z72 := Tryz.sizeOf32
 v72 := Tryz.zeroValue32
 t127 := Tryz.underlying70
 a127 := Tryz.isAgg70
 z127 := Tryz.sizeOf70
 v127 := Tryz.zeroValue70 }
theorem sl_Builder_Extra_169 : Builder.Extra Tryz.prog sl_lays169_ren := {
 sizeBuilder := by kernel_rfl
 liesBuilder := by kernel_rfl
 t5 := Tryz.underlying5
 a5 := Tryz.isAgg5
 z5 := Tryz.sizeOf5
 v5 := Tryz.zeroValue5
 infoByte := by kernel_rfl
 cellsByte := by kernel_rfl
 sizeByte := by kernel_rfl
 neB5 := by decide }
open Go.RowKit in
theorem sl_Builder_String_any (B b : Nat) (l : List UInt8) (w : World) (h : Lib.IsBuilder 32 5 B b (Lib.byteCells l) w) (hBw : B ≤ w.heap.size) :
  Calls Tryz.prog 12 #[.pointer (some ⟨b, 0, none⟩)] w fun e w' => e = .returned (.string ⟨l.toArray⟩) ∧ Below B w w' := Go.Proofs.Any.Builder_String_any sl_lays169 sl_Builder_Extra_169 B b l w h hBw
def sl_lays171_ren : Go.Shelf.Ren := ⟨fun | 171 => 48 | 243 => 100 | 246 => 207 | 283 => 365 | 284 => 366 | 285 => 367 | 286 => 368 | 129 => 492 | 317 => 491 | 318 => 493 | 319 => 494 | 320 => 495 | 337 => 579 | 338 => 580 | n => n, fun | 3 => 3 | 9 => 9 | 2 => 2 | 4 => 4 | 171 => 602 | 0 => 0 | 53 => 67 | 37 => 30 | 5 => 5 | 173 => 604 | 212 => 741 | 51 => 64 | 20 => 20 | 213 => 742 | 46 => 25 | 232 => 867 | 233 => 868 | n => n, fun | 17 => 3 | 18 => 4 | 19 => 5 | n => n⟩
theorem sl_lays171 : Go.Proofs.Lays.n171 Tryz.prog sl_lays171_ren := {
 mixed := by kernel_rfl
 f129 := Tryz.func492.trans (congrArg some (by kernel_rfl))
 f171 := Tryz.func48.trans (congrArg some (by kernel_rfl))
 f243 := Tryz.func100.trans (congrArg some (by kernel_rfl))
 f246 := Tryz.func207.trans (congrArg some (by kernel_rfl))
 f283 := Tryz.func365.trans (congrArg some (by kernel_rfl))
 f284 := Tryz.func366.trans (congrArg some (by kernel_rfl))
 f285 := Tryz.func367.trans (congrArg some (by kernel_rfl))
 f286 := Tryz.func368.trans (congrArg some (by kernel_rfl))
 f317 := Tryz.func491.trans (congrArg some (by kernel_rfl))
 f318 := Tryz.func493.trans (congrArg some (by kernel_rfl))
 f319 := Tryz.func494.trans (congrArg some (by kernel_rfl))
 f320 := Tryz.func495.trans (congrArg some (by kernel_rfl))
 f337 := Tryz.func579.trans (congrArg some (by kernel_rfl))
 f338 := Tryz.func580.trans (congrArg some (by kernel_rfl))
 t0 := Tryz.underlying0
 a0 := Tryz.isAgg0
 z0 := Tryz.sizeOf0
 v0 := Tryz.zeroValue0
 t2 := Tryz.underlying2
 a2 := Tryz.isAgg2
 z2 := Tryz.sizeOf2
 v2 := Tryz.zeroValue2
 t3 := Tryz.underlying3
 a3 := Tryz.isAgg3
 z3 := Tryz.sizeOf3
 v3 := Tryz.zeroValue3
 t4 := Tryz.underlying4
 a4 := Tryz.isAgg4
 z4 := Tryz.sizeOf4
 v4 := Tryz.zeroValue4
 t5 := Tryz.underlying5
 a5 := Tryz.isAgg5
 z5 := Tryz.sizeOf5
 v5 := Tryz.zeroValue5
 t9 := Tryz.underlying9
 a9 := Tryz.isAgg9
 z9 := Tryz.sizeOf9
 v9 := Tryz.zeroValue9
 t20 := Tryz.underlying20
 a20 := Tryz.isAgg20
 z20 := Tryz.sizeOf20
 v20 := Tryz.zeroValue20
 t37 := Tryz.underlying30
 a37 := Tryz.isAgg30
 z37 := Tryz.sizeOf30
 v37 := Tryz.zeroValue30
 t46 := Tryz.underlying25
 a46 := Tryz.isAgg25
 z46 := Tryz.sizeOf25
 v46 := Tryz.zeroValue25
 t51 := Tryz.underlying64
 a51 := Tryz.isAgg64
 z51 := Tryz.sizeOf64
 v51 := Tryz.zeroValue64
 t53 := Tryz.underlying67
 a53 := Tryz.isAgg67
 z53 := Tryz.sizeOf67
 v53 := Tryz.zeroValue67
 t171 := Tryz.underlying602
 a171 := Tryz.isAgg602
 z171 := Tryz.sizeOf602
 v171 := Tryz.zeroValue602
 t173 := Tryz.underlying604
 a173 := Tryz.isAgg604
 z173 := Tryz.sizeOf604
 v173 := Tryz.zeroValue604
 t212 := Tryz.underlying741
 a212 := Tryz.isAgg741
 z212 := Tryz.sizeOf741
 v212 := Tryz.zeroValue741
 t213 := Tryz.underlying742
 a213 := Tryz.isAgg742
 z213 := Tryz.sizeOf742
 t232 := Tryz.underlying867
 a232 := Tryz.isAgg867
 z232 := Tryz.sizeOf867
 v232 := Tryz.zeroValue867
 t233 := Tryz.underlying868
 a233 := Tryz.isAgg868
 z233 := Tryz.sizeOf868
 v233 := Tryz.zeroValue868
 g17 := by kernel_rfl
 g18 := by kernel_rfl
 g19 := by kernel_rfl }
open Go.RowKit Go.Sort Go.Lib in
theorem sl_strconv_Itoa_small (i : Nat) (hi : i < 100) (w : World) :
  Calls Tryz.prog 48 #[.int .i64 i] w fun e w' => e = .returned (.string ⟨(Lib.decDigits i).toArray⟩) ∧ w' = w := Go.Proofs.Any.strconv_Itoa_small sl_lays171 i hi w
def sl_lays145_ren : Go.Shelf.Ren := ⟨fun | 145 => 25 | 220 => 41 | 219 => 79 | 217 => 160 | 225 => 161 | 224 => 162 | 267 => 163 | 266 => 333 | 314 => 334 | n => n, fun | 9 => 9 | 4 => 4 | 59 => 73 | 3 => 3 | 5 => 5 | 46 => 25 | 146 => 65 | 51 => 64 | n => n, fun | 1 => 0 | n => n⟩
theorem sl_lays145 : Go.Proofs.Lays.n145 Tryz.prog sl_lays145_ren := {
 mixed := by kernel_rfl
 f145 := Tryz.func25.trans (congrArg some (by kernel_rfl))
 f217 := Tryz.func160.trans (congrArg some (by kernel_rfl))
 f219 := Tryz.func79.trans (congrArg some (by kernel_rfl))
 f220 := Tryz.func41.trans (congrArg some (by kernel_rfl))
 f224 := Tryz.func162.trans (congrArg some (by kernel_rfl))
 f225 := Tryz.func161.trans (congrArg some (by kernel_rfl))
 f266 := Tryz.func333.trans (congrArg some (by kernel_rfl))
 f267 := Tryz.func163.trans (congrArg some (by kernel_rfl))
 f314 := Tryz.func334.trans (congrArg some (by kernel_rfl))
 t3 := Tryz.underlying3
 a3 := Tryz.isAgg3
 z3 := Tryz.sizeOf3
 v3 := Tryz.zeroValue3
 t4 := Tryz.underlying4
 a4 := Tryz.isAgg4
 z4 := Tryz.sizeOf4
 v4 := Tryz.zeroValue4
 t5 := Tryz.underlying5
 a5 := Tryz.isAgg5
 z5 := Tryz.sizeOf5
 v5 := Tryz.zeroValue5
 t9 := Tryz.underlying9
 a9 := Tryz.isAgg9
 z9 := Tryz.sizeOf9
 v9 := Tryz.zeroValue9
 t46 := Tryz.underlying25
 a46 := Tryz.isAgg25
 z46 := Tryz.sizeOf25
 v46 := Tryz.zeroValue25
 t51 := Tryz.underlying64
 a51 := Tryz.isAgg64
 z51 := Tryz.sizeOf64
 v51 := Tryz.zeroValue64
 t59 := Tryz.underlying73
 a59 := Tryz.isAgg73
 z59 := Tryz.sizeOf73
 v59 := Tryz.zeroValue73
 t146 := Tryz.underlying65
 a146 := Tryz.isAgg65
 z146 := Tryz.sizeOf65
 v146 := Tryz.zeroValue65
 g1 := by kernel_rfl }
open Go.RowKit Go.Lib in
theorem sl_strings_Cut (s sep : ByteArray) (m : Int) (w : World) (hs : s.size < 4294967281) (hm : w.cell? ⟨0, 0, none⟩ = some (.int .i64 m)) :
  Calls Tryz.prog 25 #[.string s, .string sep] w fun e w' => e = .returned (.tuple #[.string ⟨(Lib.cut s.data.toList sep.data.toList).1.toArray⟩, .string ⟨(Lib.cut s.data.toList sep.data.toList).2.1.toArray⟩, .bool (Lib.cut s.data.toList sep.data.toList).2.2]) ∧ ∃ n, w' = w.drewN n := Go.Proofs.Any.strings_Cut sl_lays145 s sep m w hs hm
def sl_lays99_ren : Go.Shelf.Ren := ⟨fun | 99 => 8 | 206 => 20 | n => n, fun | 9 => 9 | 4 => 4 | 3 => 3 | n => n, fun | n => n⟩
theorem sl_lays99 : Go.Proofs.Lays.n99 Tryz.prog sl_lays99_ren := {
 mixed := by kernel_rfl
 f99 := Tryz.func8.trans (congrArg some (by kernel_rfl))
 f206 := Tryz.func20.trans (congrArg some (by kernel_rfl))
 t3 := Tryz.underlying3
 a3 := Tryz.isAgg3
 z3 := Tryz.sizeOf3
 v3 := Tryz.zeroValue3
 t4 := Tryz.underlying4
 a4 := Tryz.isAgg4
 z4 := Tryz.sizeOf4
 v4 := Tryz.zeroValue4
 t9 := Tryz.underlying9
 a9 := Tryz.isAgg9
 z9 := Tryz.sizeOf9
 v9 := Tryz.zeroValue9 }
open Go.RowKit Go.Lib in
theorem sl_strings_HasPrefix (s p : ByteArray) (w : World) :
  Calls Tryz.prog 8 #[.string s, .string p] w fun e w' => e = .returned (.bool (Lib.hasPrefix s.data.toList p.data.toList)) ∧ w' = w := Go.Proofs.Any.strings_HasPrefix sl_lays99 s p w
def sl_lays102_ren : Go.Shelf.Ren := ⟨fun | 102 => 24 | 209 => 40 | 207 => 78 | n => n, fun | 9 => 9 | 4 => 4 | 3 => 3 | n => n, fun | n => n⟩
theorem sl_lays102 : Go.Proofs.Lays.n102 Tryz.prog sl_lays102_ren := {
 mixed := by kernel_rfl
 f102 := Tryz.func24.trans (congrArg some (by kernel_rfl))
 f207 := Tryz.func78.trans (congrArg some (by kernel_rfl))
 f209 := Tryz.func40.trans (congrArg some (by kernel_rfl))
 t3 := Tryz.underlying3
 a3 := Tryz.isAgg3
 z3 := Tryz.sizeOf3
 v3 := Tryz.zeroValue3
 t4 := Tryz.underlying4
 a4 := Tryz.isAgg4
 z4 := Tryz.sizeOf4
 v4 := Tryz.zeroValue4
 t9 := Tryz.underlying9
 a9 := Tryz.isAgg9
 z9 := Tryz.sizeOf9
 v9 := Tryz.zeroValue9 }
open Go.RowKit Go.Lib in
theorem sl_strings_TrimSuffix (s p : ByteArray) (w : World) (hs : s.size ≤ 9223372036854775807) :
  Calls Tryz.prog 24 #[.string s, .string p] w fun e w' => e = .returned (.string ⟨(Lib.trimSuffix s.data.toList p.data.toList).toArray⟩) ∧ w' = w := Go.Proofs.Any.strings_TrimSuffix sl_lays102 s p w hs
def sl_lays146_ren : Go.Shelf.Ren := ⟨fun | 146 => 23 | 221 => 39 | 268 => 75 | 138 => 76 | 143 => 77 | 195 => 157 | 197 => 158 | 218 => 159 | 219 => 79 | 260 => 332 | 217 => 160 | 225 => 161 | 224 => 162 | 267 => 163 | 266 => 333 | 314 => 334 | n => n, fun | 9 => 9 | 31 => 40 | 3 => 3 | 4 => 4 | 0 => 0 | 105 => 339 | 21 => 21 | 5 => 5 | 46 => 25 | 119 => 718 | 139 => 721 | 138 => 720 | 146 => 65 | 51 => 64 | n => n, fun | 1 => 0 | 3 => 1 | 4 => 2 | n => n⟩
theorem sl_lays146 : Go.Proofs.Lays.n146 Tryz.prog sl_lays146_ren := {
 mixed := by kernel_rfl
 f138 := Tryz.func76.trans (congrArg some (by kernel_rfl))
 f143 := Tryz.func77.trans (congrArg some (by kernel_rfl))
 f146 := Tryz.func23.trans (congrArg some (by kernel_rfl))
 f195 := Tryz.func157.trans (congrArg some (by kernel_rfl))
 f197 := Tryz.func158.trans (congrArg some (by kernel_rfl))
 f217 := Tryz.func160.trans (congrArg some (by kernel_rfl))
 f218 := Tryz.func159.trans (congrArg some (by kernel_rfl))
 f219 := Tryz.func79.trans (congrArg some (by kernel_rfl))
 f221 := Tryz.func39.trans (congrArg some (by kernel_rfl))
 f224 := Tryz.func162.trans (congrArg some (by kernel_rfl))
 f225 := Tryz.func161.trans (congrArg some (by kernel_rfl))
 f260 := Tryz.func332.trans (congrArg some (by kernel_rfl))
 f266 := Tryz.func333.trans (congrArg some (by kernel_rfl))
 f267 := Tryz.func163.trans (congrArg some (by kernel_rfl))
 f268 := Tryz.func75.trans (congrArg some (by kernel_rfl))
 f314 := Tryz.func334.trans (congrArg some (by kernel_rfl))
 t0 := Tryz.underlying0
 a0 := Tryz.isAgg0
 z0 := Tryz.sizeOf0
 v0 := Tryz.zeroValue0
 t3 := Tryz.underlying3
 a3 := Tryz.isAgg3
 z3 := Tryz.sizeOf3
 v3 := Tryz.zeroValue3
 t4 := Tryz.underlying4
 a4 := Tryz.isAgg4
 z4 := Tryz.sizeOf4
 v4 := Tryz.zeroValue4
 t5 := Tryz.underlying5
 a5 := Tryz.isAgg5
 z5 := Tryz.sizeOf5
 v5 := Tryz.zeroValue5
 t9 := Tryz.underlying9
 a9 := Tryz.isAgg9
 z9 := Tryz.sizeOf9
 v9 := Tryz.zeroValue9
 t21 := Tryz.underlying21
 a21 := Tryz.isAgg21
 z21 := Tryz.sizeOf21
 v21 := Tryz.zeroValue21
 t31 := Tryz.underlying40
 a31 := Tryz.isAgg40
 z31 := Tryz.sizeOf40
 v31 := Tryz.zeroValue40
 t46 := Tryz.underlying25
 a46 := Tryz.isAgg25
 z46 := Tryz.sizeOf25
 v46 := Tryz.zeroValue25
 t51 := Tryz.underlying64
 a51 := Tryz.isAgg64
 z51 := Tryz.sizeOf64
 v51 := Tryz.zeroValue64
 t105 := Tryz.underlying339
 a105 := Tryz.isAgg339
 z105 := Tryz.sizeOf339
 v105 := Tryz.zeroValue339
 t119 := Tryz.underlying718
 a119 := Tryz.isAgg718
 z119 := Tryz.sizeOf718
 t138 := Tryz.underlying720
 a138 := Tryz.isAgg720
 z138 := Tryz.sizeOf720
 v138 := Tryz.zeroValue720
 t139 := Tryz.underlying721
 a139 := Tryz.isAgg721
 z139 := Tryz.sizeOf721
 v139 := Tryz.zeroValue721
 t146 := Tryz.underlying65
 a146 := Tryz.isAgg65
 z146 := Tryz.sizeOf65
 v146 := Tryz.zeroValue65
 g1 := by kernel_rfl
 g3 := by kernel_rfl
 g4 := by kernel_rfl }
open Go.RowKit Go.Lib in
theorem sl_strings_Split (s sep : ByteArray) (m : Int) (w : World) (hs : s.size < 4294967281) (hm : w.cell? ⟨0, 0, none⟩ = some (.int .i64 m)) (h1 : 1 ≤ sep.size) :
  Calls Tryz.prog 23 #[.string s, .string sep] w fun e w' =>
   e = .returned (.slice (some ⟨w.heap.size, 0, none⟩) (Lib.countB s sep + 1) (Lib.countB s sep + 1)) ∧ w' = w.alloc (.cells ((Lib.splitB sep 0 (Lib.countB s sep) s).map Value.string).toArray 9) := Go.Proofs.Any.strings_Split sl_lays146 (by kernel_rfl) s sep m w hs hm h1
def sl_lays105_ren : Go.Shelf.Ren := ⟨fun | 105 => 4 | 212 => 7 | 99 => 8 | 165 => 9 | 166 => 10 | 170 => 11 | 169 => 12 | 263 => 18 | 264 => 19 | 206 => 20 | 240 => 21 | 241 => 22 | 276 => 37 | 277 => 38 | n => n, fun | 9 => 9 | 3 => 3 | 4 => 4 | 20 => 20 | 0 => 0 | 46 => 25 | 109 => 26 | 5 => 5 | 72 => 32 | 76 => 36 | 51 => 64 | 146 => 65 | 53 => 67 | 148 => 68 | 70 => 29 | 37 => 30 | 75 => 35 | 127 => 70 | 164 => 108 | 80 => 39 | n => n, fun | n => n⟩
theorem sl_lays105 : Go.Proofs.Lays.n105 Tryz.prog sl_lays105_ren := {
 mixed := by kernel_rfl
 f99 := Tryz.func8.trans (congrArg some (by kernel_rfl))
 f105 := Tryz.func4.trans (congrArg some (by kernel_rfl))
 f165 := Tryz.func9.trans (congrArg some (by kernel_rfl))
 f166 := Tryz.func10.trans (congrArg some (by kernel_rfl))
 f169 := Tryz.func12.trans (congrArg some (by kernel_rfl))
 f170 := Tryz.func11.trans (congrArg some (by kernel_rfl))
 f206 := Tryz.func20.trans (congrArg some (by kernel_rfl))
 f212 := Tryz.func7.trans (congrArg some (by kernel_rfl))
 f240 := Tryz.func21.trans (congrArg some (by kernel_rfl))
 f241 := Tryz.func22.trans (congrArg some (by kernel_rfl))
 f263 := Tryz.func18.trans (congrArg some (by kernel_rfl))
 f264 := Tryz.func19.trans (congrArg some (by kernel_rfl))
 f276 := Tryz.func37.trans (congrArg some (by kernel_rfl))
 f277 := Tryz.func38.trans (congrArg some (by kernel_rfl))
 t0 := Tryz.underlying0
 a0 := Tryz.isAgg0
 z0 := Tryz.sizeOf0
 v0 := Tryz.zeroValue0
 t3 := Tryz.underlying3
 a3 := Tryz.isAgg3
 z3 := Tryz.sizeOf3
 v3 := Tryz.zeroValue3
 t4 := Tryz.underlying4
 a4 := Tryz.isAgg4
 z4 := Tryz.sizeOf4
 v4 := Tryz.zeroValue4
 t5 := Tryz.underlying5
 a5 := Tryz.isAgg5
 z5 := Tryz.sizeOf5
 v5 := Tryz.zeroValue5
 t9 := Tryz.underlying9
 a9 := Tryz.isAgg9
 z9 := Tryz.sizeOf9
 v9 := Tryz.zeroValue9
 t20 := Tryz.underlying20
 a20 := Tryz.isAgg20
 z20 := Tryz.sizeOf20
 v20 := Tryz.zeroValue20
 t37 := Tryz.underlying30
 a37 := Tryz.isAgg30
 z37 := Tryz.sizeOf30
 v37 := Tryz.zeroValue30
 t46 := Tryz.underlying25
 a46 := Tryz.isAgg25
 z46 := Tryz.sizeOf25
 v46 := Tryz.zeroValue25
 t51 := Tryz.underlying64
 a51 := Tryz.isAgg64
 z51 := Tryz.sizeOf64
 v51 := Tryz.zeroValue64
 t53 := Tryz.underlying67
 a53 := Tryz.isAgg67
 z53 := Tryz.sizeOf67
 v53 := Tryz.zeroValue67
 t70 := Tryz.underlying29
 a70 := Tryz.isAgg29
 z70 := Tryz.sizeOf29
 v70 := Tryz.zeroValue29
 t72 := Tryz.underlying32
 a72 := Tryz.isAgg32
 z72 := Tryz.sizeOf32
 v72 := Tryz.zeroValue32
 t75 := Tryz.underlying35
 a75 := Tryz.isAgg35
 z75 := Tryz.sizeOf35
 v75 := Tryz.zeroValue35
 t76 := Tryz.underlying36
 a76 := Tryz.isAgg36
 z76 := Tryz.sizeOf36
 v76 := Tryz.zeroValue36
 t109 := Tryz.underlying26
 a109 := Tryz.isAgg26
 z109 := Tryz.sizeOf26
 v109 := Tryz.zeroValue26
 t127 := Tryz.underlying70
 a127 := Tryz.isAgg70
 z127 := Tryz.sizeOf70
 v127 := Tryz.zeroValue70
 t146 := Tryz.underlying65
 a146 := Tryz.isAgg65
 z146 := Tryz.sizeOf65
 v146 := Tryz.zeroValue65
 t148 := Tryz.underlying68
 a148 := Tryz.isAgg68
 z148 := Tryz.sizeOf68
 v148 := Tryz.zeroValue68
 t164 := Tryz.underlying108
 a164 := Tryz.isAgg108
 z164 := Tryz.sizeOf108
 v164 := Tryz.zeroValue108 }
theorem sl_Builder_Extra_105 : Builder.Extra Tryz.prog sl_lays105_ren := {
 sizeBuilder := by kernel_rfl
 liesBuilder := by kernel_rfl
 t5 := Tryz.underlying5
 a5 := Tryz.isAgg5
 z5 := Tryz.sizeOf5
 v5 := Tryz.zeroValue5
 infoByte := by kernel_rfl
 cellsByte := by kernel_rfl
 sizeByte := by kernel_rfl
 neB5 := by decide }
open Go.RowKit Go.Lib in
theorem sl_strings_Repeat (s : ByteArray) (c : Nat) (w : World) (hc : c ≤ 9223372036854775807) (hlen : s.size * c ≤ 140737488355328) :
  Calls Tryz.prog 4 #[.string s, .int .i64 c] w fun e w' => e = .returned (.string ⟨(Lib.repeatL s.data.toList c).toArray⟩) ∧ Below w.heap.size w w' := Go.Proofs.Any.strings_Repeat sl_lays105 sl_Builder_Extra_105 s c w hc hlen
def sl_lays166_ren : Go.Shelf.Ren := ⟨fun | 166 => 10 | 240 => 21 | 276 => 37 | n => n, fun | 0 => 0 | 3 => 3 | 4 => 4 | 5 => 5 | 9 => 9 | 20 => 20 | 37 => 30 | 70 => 29 | 72 => 32 | 75 => 35 | 80 => 39 | 164 => 108 | n => n, fun | n => n⟩
theorem sl_lays166 : Go.Proofs.Lays.n166 Tryz.prog sl_lays166_ren := {
 mixed := by kernel_rfl
 f166 := Tryz.func10.trans (congrArg some (by kernel_rfl))
 f240 := Tryz.func21.trans (congrArg some (by kernel_rfl))
 f276 := Tryz.func37.trans (congrArg some (by kernel_rfl))
 t0 := Tryz.underlying0
 a0 := Tryz.isAgg0
 z0 := Tryz.sizeOf0
 v0 := Tryz.zeroValue0
 t3 := Tryz.underlying3
 a3 := Tryz.isAgg3
 z3 := Tryz.sizeOf3
 v3 := Tryz.zeroValue3
 t4 := Tryz.underlying4
 a4 := Tryz.isAgg4
 z4 := Tryz.sizeOf4
 v4 := Tryz.zeroValue4
 t9 := Tryz.underlying9
 a9 := Tryz.isAgg9
 z9 := Tryz.sizeOf9
 v9 := Tryz.zeroValue9
 t20 := Tryz.underlying20
 a20 := Tryz.isAgg20
 z20 := Tryz.sizeOf20
 v20 := Tryz.zeroValue20
 t37 := Tryz.underlying30
 a37 := Tryz.isAgg30
 z37 := Tryz.sizeOf30
 v37 := Tryz.zeroValue30
 t70 := Tryz.underlying29
 a70 := Tryz.isAgg29
 z70 := Tryz.sizeOf29
 v70 := Tryz.zeroValue29
 t72 := Tryz.underlying32
 a72 := Tryz.isAgg32
 z72 := Tryz.sizeOf32
 v72 := Tryz.zeroValue32
 t75 := Tryz.underlying35
 a75 := Tryz.isAgg35
 z75 := Tryz.sizeOf35
 v75 := Tryz.zeroValue35
 t164 := Tryz.underlying108
 a164 := Tryz.isAgg108
 z164 := Tryz.sizeOf108
 v164 := Tryz.zeroValue108 }
theorem sl_Builder_Extra_166 : Go.Proofs.Builder.Extra Tryz.prog sl_lays166_ren := {
 sizeBuilder := by kernel_rfl
 liesBuilder := by kernel_rfl
 t5 := Tryz.underlying5
 a5 := Tryz.isAgg5
 z5 := Tryz.sizeOf5
 v5 := Tryz.zeroValue5
 infoByte := by kernel_rfl
 cellsByte := by kernel_rfl
 sizeByte := by kernel_rfl
 neB5 := by decide }
theorem sl_Builder_WriteString (B b : Nat) (bs : List Value) (s : ByteArray) (w : World) (h : Lib.IsBuilder 32 5 B b bs w) (hlen : bs.length + s.size ≤ 140737488355328) (hBw : B ≤ w.heap.size) :
  Calls Tryz.prog 10 #[.pointer (some ⟨b, 0, none⟩), .string s] w fun e w' => e = .returned (.tuple #[.int .i64 s.size, .nilIface]) ∧ (Lib.BuilderAt 32 5 B b (.pointer (some ⟨b, 0, none⟩)) (bs ++ Lib.strCells s) w' ∧ Below B w w') :=
 Go.Proofs.Any.Builder_WriteString sl_lays166 sl_Builder_Extra_166 B b bs s w h hlen hBw
end Go.Proofs.YtjianicbagcekaaGreatDoor

/- What the console takes from the library: lists of texts, trimming, splitting, cutting; plain facts on bytes. -/
namespace Go.Proofs.YtjianicbagcekaaGreatDoor
open Go.RowKit

theorem at_some {α : Type} {l : List α} {k n : Nat} (hn : Hid (l.length = n)) (hk : k < n) : ∃ x, l[k]? = some x := ⟨_, List.getElem?_eq_getElem (by rw [hn.out]; exact hk)⟩
def IsS (_ : World) (v : Value) (x : ByteArray) : Prop := v = .string x
theorem isS_mono (m m' : World) (v : Value) (x : ByteArray) (h : IsS m v x) (_ : Le m m') : IsS m' v x := h
abbrev StrL := ListV (α := ByteArray) 1 IsS
theorem StrL.le {m m' : World} {v : Value} {xs : List ByteArray} (h : StrL m v xs) (hb : Le m m') : StrL m' v xs := ListV.le isS_mono h hb
theorem StrL.at_ {m : World} {A : Option Addr} {n c : Nat} {xs : List ByteArray} (h : StrL m (.slice A n c) xs) {k : Nat} {x : ByteArray} (hk : xs[k]? = some x) :
  ∃ b off, A = some ⟨b, off, none⟩ ∧ m.cell? ⟨b, off + k, none⟩ = some (.string x) := by
 obtain ⟨b, off, v, e, rfl, _, hr⟩ := ListV.at_ h (by omega) hk
 exact ⟨b, off, e, by simpa using hr 0 _ rfl⟩
theorem StrL.ofBlk {m : World} {g : Nat} {e : TypeId} (xs : List ByteArray) (h : Blk m g e (xs.map Value.string).toArray) : StrL m (.slice (some ⟨g, 0, none⟩) xs.length xs.length) xs := by
 refine ListV.mk (vs := xs.map Value.string) (Nat.le_refl _) (by simp) (fun u hu => ?_) ?_ ?_
 ·obtain ⟨x, _, rfl⟩ := List.mem_map.1 hu; rfl
 ·refine Blk.sl h (n := xs.length) ?_
  rw [List.take_of_length_le (by simp)]
  exact ih' xs
 ·exact all2 xs
 where
 ih' : ∀ xs : List ByteArray, xs.map Value.string = cellsOf (xs.map Value.string)
  | [] => rfl
  | x :: xs => congrArg (Value.string x :: ·) (ih' xs)
 all2 : ∀ xs : List ByteArray, All2 (IsS m) (xs.map Value.string) xs
  | [] => trivial
  | x :: xs => ⟨rfl, all2 xs⟩
theorem toList_ne {s : ByteArray} (h : 0 < s.size) : (s.toList == ([] : List UInt8)) = false := by
 rw [Bool.eq_false_iff]
 intro e
 have h1 := congrArg List.length (beq_iff_eq.1 e)
 rw [Lib.toList_data, ← Lib.size_eq] at h1
 have h2 : s.size = 0 := h1
 omega
theorem size_ne {s : ByteArray} (h : s.toList.isEmpty = false) : (s.size != 0) = true := by
 have h1 : s.size ≠ 0 := by
  intro e
  have h2 : s.data.toList.length = 0 := by rw [← Lib.size_eq]; exact e
  rw [Lib.toList_data, List.eq_nil_of_length_eq_zero h2] at h
  exact absurd h (by decide)
 simpa using h1
theorem size_eq0 {s : ByteArray} (h : s.toList.isEmpty = true) : s.size = 0 := by
 have h1 := congrArg List.length (List.isEmpty_iff.1 h)
 rw [Lib.toList_data, ← Lib.size_eq] at h1
 exact h1
def trim10 (s : ByteArray) : ByteArray := ⟨(Lib.trimSuffix s.data.toList [10]).toArray⟩
def LinesOf (s : ByteArray) (L : List ByteArray) : Prop := L = Lib.splitB ⟨#[10]⟩ 0 (Lib.countB (trim10 s) ⟨#[10]⟩) (trim10 s)
def cut35 (s : ByteArray) : ByteArray := ⟨(Lib.cut s.data.toList [35]).1.toArray⟩
def PartsOf (s : ByteArray) (L : List ByteArray) : Prop := L = Lib.splitB ⟨#[32]⟩ 0 (Lib.countB (cut35 s) ⟨#[32]⟩) (cut35 s)
theorem cut35_le (s : ByteArray) : (cut35 s).size ≤ s.size := by
 rw [Lib.size_eq, Lib.size_eq s]
 unfold cut35 Lib.cut
 split
 ·simp; omega
 ·simp
theorem trim10_le (s : ByteArray) : (trim10 s).size ≤ s.size := by
 rw [Lib.size_eq, Lib.size_eq s]
 exact Lib.trimSuffix_le _ _
theorem t_TrimSuffix (s : ByteArray) (w : World) (hs : s.size ≤ 20000) : Calls Tryz.prog 24 #[.string s, .string ⟨#[10]⟩] w fun e w' => e = .returned (.string (trim10 s)) ∧ w' = w :=
 (sl_strings_TrimSuffix s ⟨#[10]⟩ w (by omega)).mono fun e w' h => h
theorem t_Split (c : UInt8) (s : ByteArray) (L : List ByteArray) (mx : Int) (w m : World) (hV : Vw m w) (hs : s.size ≤ 20000) (hm : w.cell? ⟨0, 0, none⟩ = some (.int .i64 mx))
  (hl : L = Lib.splitB ⟨#[c]⟩ 0 (Lib.countB s ⟨#[c]⟩) s) : Calls Tryz.prog 23 #[.string s, .string ⟨#[c]⟩] w (RetV w m fun m' r => ∃ A, r = .slice A L.length L.length ∧ StrL m' (.slice A L.length L.length) L) := by
 refine (sl_strings_Split s ⟨#[c]⟩ mx w (by omega) hm (Nat.le_refl 1)).mono ?_
 rintro e w' ⟨rfl, rfl⟩
 have hlen := Lib.splitB_all ⟨#[c]⟩ (Nat.le_refl 1) 0 _ s rfl
 rw [← hl] at hlen ⊢
 have h := (Loc.start hV).allocV (L.map Value.string).toArray 9
 refine ⟨_, _, rfl, h.ext, h.mext, h.vw, _, by rw [hlen], ?_⟩
 rw [← hV.size]
 exact StrL.ofBlk L (Blk.new m _ _)
theorem t_Split10 (s : ByteArray) (L : List ByteArray) (mx : Int) (w m : World) (hV : Vw m w) (hs : s.size ≤ 20000) (hm : w.cell? ⟨0, 0, none⟩ = some (.int .i64 mx)) (hl : LinesOf s L) :
  Calls Tryz.prog 23 #[.string (trim10 s), .string ⟨#[10]⟩] w (RetV w m fun m' r => ∃ A, r = .slice A L.length L.length ∧ StrL m' (.slice A L.length L.length) L) :=
 t_Split 10 (trim10 s) L mx w m hV (Nat.le_trans (trim10_le s) hs) hm hl
theorem t_Cut35 (s : ByteArray) (mx : Int) (w m : World) (hV : Vw m w) (hs : s.size ≤ 20000) (hm : w.cell? ⟨0, 0, none⟩ = some (.int .i64 mx)) :
  Calls Tryz.prog 25 #[.string s, .string ⟨#[35]⟩] w (RetV w m fun _ r => ∃ b f, r = .tuple #[.string (cut35 s), .string b, .bool f]) := by
 refine (sl_strings_Cut s ⟨#[35]⟩ mx w (by omega) hm).mono ?_
 rintro e w' ⟨rfl, n, rfl⟩
 have h := Loc.start hV
 exact ⟨_, m, rfl, h.ext.drewN n, h.mext, ⟨hV.os, hV.tape, hV.output, hV.size, hV.cell⟩, _, _, rfl⟩
end Go.Proofs.YtjianicbagcekaaGreatDoor

/- text.Lines and text.Fields. -/
namespace Go.Proofs.YtjianicbagcekaaGreatDoor
open Go.RowKit

theorem t_Lines (s : ByteArray) (L : List ByteArray) (mx : Int) (w m : World) (hV : Vw m w) (hs : s.size ≤ 20000) (h0 : 0 < s.size) (hok : Hid (∀ k (h : k < s.size), ((s[k]'h).toNat : Int) = 10 ∨ (32 ≤ ((s[k]'h).toNat : Int) ∧ ((s[k]'h).toNat : Int) ≤ 126)))
  (hm : Hid (w.cell? ⟨0, 0, none⟩ = some (.int .i64 mx))) (hl : Hid (LinesOf s L)) (hn : L.length ≤ 1000) :
  Calls Tryz.prog 13 #[.string s] w (RetV w m fun m' r => ∃ A c, r = .tuple #[.slice A L.length c, .int .i64 0] ∧ StrL m' (.slice A L.length c) L) := by
 have hL := Loc.start hV
 clear hV
 have hs' : ((s.size : Int) > 20000) = False := by simp; omega
 have hse : (s.toList == ([] : List UInt8)) = false := toList_ne h0
 go_enter Tryz.func13, Tryz.ntmps13
 go_wp2_with (first | go_skip | refine tP ?_)
 go_loopw [11] (fun i wr => ∃ (k : Nat) (mm : World), k ≤ s.size ∧ i = .int .i64 k ∧ Loc w m wr mm []) (fun i _ => s.size - (intOf i).toNat)
 case atStart => exact ⟨0, _, Nat.zero_le _, rfl, hL⟩
 case round =>
  clear hL
  obtain ⟨k, mm, hk, rfl, hL⟩ := hrel
  by_cases hlt : k < s.size
  ·have hlt' : (k : Int) < (s.size : Int) := by omega
   have hb := hok.out k hlt
   by_cases h10 : ((s[k]'hlt).toNat : Int) = 10
   ·clear hb
    go_wp2_with (first | go_skip | refine tP ?_)
    exact ⟨⟨k + 1, _, by omega, by go_num, hL⟩, by simp [intOf]; omega⟩
   ·have h11 : (((s[k]'hlt).toNat : Int) != 10) = true := by simpa using h10
    have h12 : decide (((s[k]'hlt).toNat : Int) < 32) = false := by rcases hb with hb | hb <;> simp <;> omega
    have h13 : decide (((s[k]'hlt).toNat : Int) > 126) = false := by rcases hb with hb | hb <;> simp <;> omega
    clear hb h10
    go_wp2_with (first | go_skip | refine tP ?_)
    exact ⟨⟨k + 1, _, by omega, by go_num, hL⟩, by simp [intOf]; omega⟩
  ·have hlt' : (s.size : Int) ≤ (k : Int) := by omega
   have hn' : ((L.length : Int) > 1000) = False := by simp; omega
   clear hlt hk
   go_wp2_with (first | go_skip | refine tP ?_)
   refine (t_TrimSuffix s _ (by omega)).mono ?_
   rintro e w' ⟨rfl, rfl⟩
   go_wp2_with (first | go_skip | refine tP ?_)
   refine (t_Split10 s L mx _ _ hL.vw hs (cell_keep hL.ext hm.out) hl.out).mono ?_
   rintro e W1 ⟨v1, m1, rfl, hE, hM1, hV, A1, rfl, h1⟩
   replace hL := hL.call hE (by assumption) hV; clear hE hV
   have H1 := Lib.hid h1
   clear h1
   go_wp2_with (first | go_skip | refine tP ?_)
   go_ret2
   exact RetV.mk hL ⟨_, _, rfl, H1.out⟩
theorem t_LinesBad (s : ByteArray) (w m : World) (hV : Vw m w) (hs : s.size ≤ 20000) (hbad : Hid (∃ k, ∃ h : k < s.size, ((s[k]'h).toNat : Int) = 9)) :
  Calls Tryz.prog 13 #[.string s] w (RetV w m fun _ r => r = .tuple #[.slice none 0 0, .int .i64 1]) := by
 have hL := Loc.start hV
 clear hV
 have hs' : ((s.size : Int) > 20000) = False := by simp; omega
 go_enter Tryz.func13, Tryz.ntmps13
 go_wp2_with (first | go_skip | refine tP ?_)
 go_loopw [11] (fun i wr => ∃ (k : Nat) (mm : World), k ≤ s.size ∧ i = .int .i64 k ∧ Loc w m wr mm [] ∧ Hid (∃ j, k ≤ j ∧ ∃ h : j < s.size, ((s[j]'h).toNat : Int) = 9)) (fun i _ => s.size - (intOf i).toNat)
 case atStart =>
  obtain ⟨j, h, e⟩ := hbad.out
  exact ⟨0, _, Nat.zero_le _, rfl, hL, j, Nat.zero_le _, h, e⟩
 case round =>
  clear hL
  obtain ⟨k, mm, hk, rfl, hL, HB⟩ := hrel
  have hlt : k < s.size := by obtain ⟨j, h1, h2, _⟩ := HB.out; omega
  have hlt' : (k : Int) < (s.size : Int) := by omega
  by_cases h9 : ((s[k]'hlt).toNat : Int) = 9
  ·have h11 : (((s[k]'hlt).toNat : Int) != 10) = true := by rw [h9]; rfl
   have h12 : decide (((s[k]'hlt).toNat : Int) < 32) = true := by rw [h9]; rfl
   clear h9
   go_wp2_with (first | go_skip | refine tP ?_)
   go_ret2
   exact RetV.mk hL rfl
  ·have HB2 : Hid (∃ j, k + 1 ≤ j ∧ ∃ h : j < s.size, ((s[j]'h).toNat : Int) = 9) := by
    obtain ⟨j, h1, h2, h3⟩ := HB.out
    refine ⟨j, ?_, h2, h3⟩
    rcases Nat.lt_or_ge k j with h | h
    ·exact h
    ·obtain rfl : k = j := by omega
     exact absurd h3 h9
   clear h9 HB
   go_wp2_with (first | go_skip | refine tP ?_)
   all_goals first
    | (go_ret2; exact RetV.mk hL rfl)
    | exact ⟨⟨k + 1, _, by omega, by go_num, hL, HB2.out⟩, by simp [intOf]; omega⟩
theorem t_Fields (s : ByteArray) (L : List ByteArray) (mx : Int) (w m : World) (hV : Vw m w) (hs : s.size ≤ 20000)
  (hm : Hid (w.cell? ⟨0, 0, none⟩ = some (.int .i64 mx))) (hl : Hid (PartsOf s L)) (hn : L.length ≤ 20000) :
  Calls Tryz.prog 14 #[.string s] w (RetV w m fun m' r => ∃ A c, r = .slice A (L.filter (·.size != 0)).length c ∧ StrL m' (.slice A (L.filter (·.size != 0)).length c) (L.filter (·.size != 0))) := by
 have hL := Loc.start hV
 clear hV
 go_enter Tryz.func14, Tryz.ntmps14
 go_wp2_with (first | go_skip | refine tP ?_ | (refine tC ?_; clear hL; intro _ _ hL _ hBs))
 refine (t_Cut35 s mx _ _ hL.vw hs (cell_keep hL.ext hm.out)).mono ?_
 rintro e W9 ⟨v9, m9, rfl, hE, hM9, hV, b9, f9, rfl⟩
 replace hL := hL.call hE (by assumption) hV; clear hE hV
 have hcs : (cut35 s).size ≤ 20000 := Nat.le_trans (cut35_le s) hs
 generalize hcc : cut35 s = cs at *
 have HCC := Lib.hid hcc
 clear hcc
 go_wp2_with (first | go_skip | refine tP ?_ | (refine tC ?_; clear hL; intro _ _ hL _ hBs))
 refine (t_Split 32 cs L mx _ _ hL.vw hcs (cell_keep hL.ext hm.out) (by have := hl.out; unfold PartsOf at this; rwa [HCC.out] at this)).mono ?_
 rintro e W1 ⟨v1, m1, rfl, hE, hM1, hV, A1, rfl, h1⟩
 replace hL := hL.call hE (by assumption) hV; clear hE hV
 have H1 := Lib.hid h1
 clear h1 hcs
 generalize hLn : L.length = n at *
 have HN := Lib.hid hLn
 clear hLn
 go_wp2_with (first | go_skip | refine tP ?_ | (refine tC ?_; clear hL; intro _ _ hL _ hBs))
 go_loopw [3, 15] (fun ov iv wr => ∃ (k j : Nat) (mm : World) (Rr : List Lo), k ≤ n ∧ j ≤ k ∧ iv = .int .i64 k ∧ Loc w m wr mm Rr ∧ Hid (RowA 9 1 IsS mm ov j ((L.take k).filter (·.size != 0)) Rr) ∧ Hid (Ext m1 mm)) (fun _ i _ => n - (intOf i).toNat)
 case atStart => exact ⟨0, 0, _, [], Nat.zero_le _, Nat.zero_le _, rfl, hL, RowA.nil, Ext.refl _⟩
 case round =>
  clear hL
  obtain ⟨k, j, mm, Rr, hk, hj, rfl, hL, row, HX⟩ := hrel
  have hX := HX.out
  obtain ⟨A3, c3, rfl, row1⟩ := row.out.lit
  have ROW := Lib.hid row1
  clear row row1
  by_cases hlt : k < n
  ·have hlt' : (k : Int) < (n : Int) := by omega
   obtain ⟨x, hx⟩ := at_some HN hlt
   have HTS := Lib.hid (take_snoc hx)
   obtain ⟨b1, o1, rfl, hc1⟩ := StrL.at_ H1.out hx
   clear hx
   obtain ⟨te, hte⟩ : ∃ te, x.toList.isEmpty = te := ⟨_, rfl⟩
   have hte2 : (!x.toList.isEmpty) = !te := by rw [hte]
   have HTE := Lib.hid hte
   clear hte
   rcases te with _ | _
   ·have hte3 : (!x.toList.isEmpty) = true := hte2
    clear hte2
    have hxz : (x.size != 0) = true := size_ne HTE.out
    have HF : Hid ((L.take k).filter (·.size != 0) ++ [x] = (L.take (k + 1)).filter (·.size != 0)) := by
     show _ = _
     rw [← HTS.out, List.filter_append, List.filter_cons_of_pos (by simpa using hxz), List.filter_nil]
    clear hxz
    go_wp2_with (first | go_skip | refine tP ?_ | (refine tC ?_; clear hL; intro _ _ hL _ hBs))
    refine goA ?_
    obtain ⟨vs7, r7, z7, y7, l7⟩ := ROW.out
    refine wl_append (A := []) hL r7 (wanted_none rfl) rfl ap_Strs (by omega) rfl rfl (news := [.string x]) rfl ((Blk.sl hBs (n := 1) rfl).le hL.vw.le) rfl (by omega) (by omega) ?_
    clear hL
    intro v9 W5 m5 R5 hL r8 e8
    obtain ⟨A11, c11, rfl, -⟩ := r8.lit
    simp only [List.nil_append] at hL
    have rd := RowA.snocV (R := IsS) (m := m5) (x := x) r8 z7 (y7.mono fun _ _ hv => hv) l7 rfl rfl rfl
    have RD := Lib.hid (HF.out ▸ rd)
    clear rd r8 r7 z7 y7 l7 ROW
    simp only [Act.put, zq1, zq2, zq3]
    go_wp2_with (first | go_skip | refine tP ?_ | (refine tC ?_; clear hL; intro _ _ hL _ hBs))
    exact ⟨⟨k + 1, j + 1, m5, R5, by omega, by omega, by go_num, hL, RD.out, hX.trans exX⟩, by simp [intOf]; omega⟩
   ·have hte3 : (!x.toList.isEmpty) = false := hte2
    clear hte2
    have HF : Hid ((L.take k).filter (·.size != 0) = (L.take (k + 1)).filter (·.size != 0)) := by
     show _ = _
     rw [← HTS.out, List.filter_append, List.filter_cons_of_neg (by simp [size_eq0 HTE.out]), List.filter_nil, List.append_nil]
    go_wp2_with (first | go_skip | refine tP ?_ | (refine tC ?_; clear hL; intro _ _ hL _ hBs))
    exact ⟨⟨k + 1, j, mm, Rr, by omega, by omega, by go_num, hL, HF.out ▸ ROW.out, hX⟩, by simp [intOf]; omega⟩
  ·have hlt' : (n : Int) ≤ (k : Int) := by omega
   have hkn : k = n := by omega
   subst hkn
   have HALL : Hid (L.take k = L) := List.take_of_length_le (by rw [HN.out]; omega)
   obtain ⟨m9, hL9, hle9, hl9, -⟩ := RowA.show (A := []) isS_mono hL ROW.out
   rw [HALL.out] at hl9
   obtain ⟨A9, c9, e9, -, h9⟩ := hl9.lit
   have H9 := Lib.hid h9
   injection e9 with ea eb ec
   subst ea eb ec
   clear hL hl9 h9 ROW hlt hlt'
   have hL := hL9
   clear hL9
   go_wp2_with (first | go_skip | refine tP ?_ | (refine tC ?_; clear hL; intro _ _ hL _ hBs))
   go_ret
   exact RetV.mk hL ⟨_, _, rfl, H9.out⟩
end Go.Proofs.YtjianicbagcekaaGreatDoor

/- The console's commands at the lines of ConsoleLimits (printed by genAQ4.py). -/
namespace Go.Proofs.YtjianicbagcekaaGreatDoor
open Go.RowKit

theorem Loc.sub {w0 m0 W m : World} {A B : List Lo} (h : Loc w0 m0 W m A) (hs : B.Sublist A) : Loc w0 m0 W m B :=
 ⟨h.size0, h.ext, h.mext, h.vw, fun y hy => h.low y (hs.subset hy), fun y hy => h.blk y (hs.subset hy), fun y hy => h.hid y (hs.subset hy), h.apart.sublist hs⟩
theorem res_ct {P : Program} {fn : Func} {p u : Tmp} {ty : TypeId} (h : fn.results = #[.cell p ty, .tmp u]) (tmps : Array Value) (w : World) (g : Nat) (t : TypeId) (cs : Array Value) (fr : Nat × Nat) (d : TypeDesc)
  (hp : tmps.getD p undef = .pointer (some ⟨g, 0, none⟩)) (hg : w.heap[g]? = some (.cells cs t fr))
  (hu : P.underlying ty = some d) (hd : (match d with | .struct _ | .array _ _ => true | _ => false) = true) (hi : (P.info? ty).map (·.size) = some cs.size) :
  (results fn tmps).run P w = .ok (.tuple #[.agg cs, tmps.getD u undef]) w := by
 have hp' : tmps[p]?.getD undef = .pointer (some ⟨g, 0, none⟩) := by simpa using hp
 simp [results, h, hp', asAddr, run_loadVar_row w g t ty cs fr d hg hu hd hi]
theorem res_ctt {P : Program} {fn : Func} {p u v : Tmp} {ty : TypeId} (h : fn.results = #[.cell p ty, .tmp u, .tmp v]) (tmps : Array Value) (w : World) (g : Nat) (t : TypeId) (cs : Array Value) (fr : Nat × Nat) (d : TypeDesc)
  (hp : tmps.getD p undef = .pointer (some ⟨g, 0, none⟩)) (hg : w.heap[g]? = some (.cells cs t fr))
  (hu : P.underlying ty = some d) (hd : (match d with | .struct _ | .array _ _ => true | _ => false) = true) (hi : (P.info? ty).map (·.size) = some cs.size) :
  (results fn tmps).run P w = .ok (.tuple #[.agg cs, tmps.getD u undef, tmps.getD v undef]) w := by
 have hp' : tmps[p]?.getD undef = .pointer (some ⟨g, 0, none⟩) := by simpa using hp
 simp [results, h, hp', asAddr, run_loadVar_row w g t ty cs fr d hg hu hd hi]
theorem fin_ct {P : Program} {fn : Func} {K : Ending → World → Prop} {w m W mm : World} {Ls : List Lo} (hL : Loc w m W mm Ls) {p q : Nat} {ty : TypeId} (hr : fn.results = #[.cell p ty, .tmp q]) {a : Act} (hdf : a.defers = []) {g : Nat}
  (hp : a.tmps.getD p undef = .pointer (some ⟨g, 0, none⟩)) {n : Nat} {t : TypeId} {cs : Array Value} (hn : Ls[n]? = some (g, t, cs)) {k : Nat} (hty : agS P ty = some k) (hk : cs.size = k) {u : Value} (hu : a.tmps.getD q undef = u) (h : K (.returned (.tuple #[.agg cs, u])) W) :
  bodyPost P fn K .ret a W := by
 subst hk hu
 obtain ⟨d, hd', hd, hi⟩ := ag_desc hty
 exact bodyPost_ret (res_ct hr _ _ g t cs (0, 0) d hp (hL.at_ hn) hd' (by cases d <;> first | rfl | exact hd) hi) hdf h
theorem fin_ctt {P : Program} {fn : Func} {K : Ending → World → Prop} {w m W mm : World} {Ls : List Lo} (hL : Loc w m W mm Ls) {p q r : Nat} {ty : TypeId} (hr : fn.results = #[.cell p ty, .tmp q, .tmp r]) {a : Act} (hdf : a.defers = []) {g : Nat}
  (hp : a.tmps.getD p undef = .pointer (some ⟨g, 0, none⟩)) {n : Nat} {t : TypeId} {cs : Array Value} (hn : Ls[n]? = some (g, t, cs)) {k : Nat} (hty : agS P ty = some k) (hk : cs.size = k) {u v : Value} (hu : a.tmps.getD q undef = u) (hv : a.tmps.getD r undef = v) (h : K (.returned (.tuple #[.agg cs, u, v])) W) :
  bodyPost P fn K .ret a W := by
 subst hk hu hv
 obtain ⟨d, hd', hd, hi⟩ := ag_desc hty
 exact bodyPost_ret (res_ctt hr _ _ g t cs (0, 0) d hp (hL.at_ hn) hd' (by cases d <;> first | rfl | exact hd) hi) hdf h
theorem t_FormatInt1 (w : World) (m : World) (hV : Vw m w) : Calls Tryz.prog 28 #[.int .i64 1] w (RetV w m fun _ r => r = .string ⟨#[49]⟩) := by
 have hL := Loc.start hV
 clear hV
 go_enter Tryz.func28, Tryz.ntmps28
 go_wp2_with (first | go_skip | refine tP ?_)
 refine (sl_strconv_Itoa_small 1 (by decide) _).mono ?_
 rintro e w' ⟨rfl, rfl⟩
 go_wp2_with (first | go_skip | refine tP ?_)
 go_ret
 exact RetV.mk hL (by kernel_rfl)
theorem c_number1 (w : World) (m : World) (hV : Vw m w) : Calls Tryz.prog 33 #[.int .i64 1] w (RetV w m fun _ r => r = .string ⟨#[49]⟩) := by
 have hL := Loc.start hV
 clear hV
 go_enter Tryz.func33, Tryz.ntmps33
 go_wp2_with (first | go_skip | refine tP ?_)
 refine (t_FormatInt1 _ _ hL.vw).mono ?_
 rintro e Wc1 ⟨_, mc1, rfl, hE, hMc1, hV, rfl⟩
 replace hL := hL.call hE (by assumption) hV; clear hE hV
 go_wp2_with (first | go_skip | refine tP ?_)
 go_ret
 exact RetV.mk hL rfl
theorem c_complaint (w : World) (m : World) (hV : Vw m w) : Calls Tryz.prog 50 #[.string ⟨#[116, 105, 109, 101, 116, 97, 98, 108, 101]⟩, .int .i64 1, .int .i64 1] w (RetV w m fun _ r => r = .string ⟨#[116, 105, 109, 101, 116, 97, 98, 108, 101, 32, 49, 32, 49]⟩) := by
 have hL := Loc.start hV
 clear hV
 go_enter Tryz.func50, Tryz.ntmps50
 go_wp2_with (first | go_skip | refine tP ?_)
 refine (c_number1 _ _ hL.vw).mono ?_
 rintro e Wc1 ⟨_, mc1, rfl, hE, hMc1, hV, rfl⟩
 replace hL := hL.call hE (by assumption) hV; clear hE hV
 go_wp2_with (first | go_skip | refine tP ?_)
 refine (t_FormatInt1 _ _ hL.vw).mono ?_
 rintro e Wc2 ⟨_, mc2, rfl, hE, hMc2, hV, rfl⟩
 replace hL := hL.call hE (by assumption) hV; clear hE hV
 go_wp2_with (first | go_skip | refine tP ?_)
 go_ret
 exact RetV.mk hL (by kernel_rfl)
theorem p_parseZone (A : Option Addr) (c : Nat) (w m : World) (hV : Vw m w) : Calls Tryz.prog 208 #[.slice A 2 c] w (RetV w m fun _ r => r = .tuple #[.agg #[.string ⟨#[]⟩, .int .i64 0, .slice none 0 0], .bool false]) := by
 have hL := Loc.start hV
 clear hV
 go_enter Tryz.func208, Tryz.ntmps208
 go_wp2_with (first | go_skip | refine tP ?_ | (refine tS ?_; clear hL; intro _ hL) | (refine tB ?_; clear hL; intro _ _ hL _) | (refine tC ?_; clear hL; intro _ _ hL _ hBs))
 refine fin_ct hL Tryz.results208 rfl rfl loX ag_Zone (by exact rfl) (u := .bool false) rfl ?_
 exact RetV.mk (hL.sub (List.nil_sublist _)) rfl
theorem p_parseLine (p : Nat) (A : Option Addr) (c : Nat) (Ls : List Lo) (w0 m0 W m : World) (hL : Loc w0 m0 W m ((p, 48, #[.slice none 0 0, .slice none 0 0, .slice none 0 0]) :: Ls)) (hF : StrL m (.slice A 2 c) [⟨#[122, 111, 110, 101]⟩, ⟨#[117, 116, 99]⟩]) :
  Calls Tryz.prog 101 #[.pointer (some ⟨p, 0, none⟩), .slice A 2 c] W (fun e W' => ∃ m' z, e = .returned (.bool false) ∧ Ext m m' ∧ Loc w0 m0 W' m' ((p, 48, #[z, .slice none 0 0, .slice none 0 0]) :: Ls)) := by
 obtain ⟨b0, o0, rfl, hc0⟩ := StrL.at_ hF (k := 0) rfl
 rw [Nat.add_zero] at hc0
 clear hF
 go_enter Tryz.func101, Tryz.ntmps101
 go_wp2_with (first | go_skip | refine tP ?_ | (refine tS ?_; clear hL; intro _ hL) | (refine tB ?_; clear hL; intro _ _ hL _) | (refine tC ?_; clear hL; intro _ _ hL _ hBs))
 refine (p_parseZone _ _ _ _ hL.vw).mono ?_
 rintro e Wc1 ⟨_, mc1, rfl, hE, hMc1, hV, rfl⟩
 replace hL := hL.call hE (by assumption) hV; clear hE hV
 go_upto_region 4 with ((first | go_skip | refine tP ?_ | (refine tS ?_; clear hL; intro _ hL) | (refine tB ?_; clear hL; intro _ _ hL _) | (refine tC ?_; clear hL; intro _ _ hL _ hBs)))
 refine wp_region_L 10 (fun w' => Blk w' Wc1.heap.size 374 #[.string ⟨#[]⟩, .int .i64 0, .slice none 0 0] ∧ Blk w' p 48 #[.slice none 0 0, .slice none 0 0, .slice none 0 0]) (by kernel_rfl) ?_
 have hL9 := hL.drew
 clear hL
 have hL := hL9
 clear hL9
 refine wpL_take 0 0 (v := ?_) rfl (by kernel_rfl) (fun _ _ _ h => h) ⟨hL.at_ lo0, hL.at_ lo1⟩ (by rfl) ?yld ?_
 case yld => (intro w' hSw; obtain ⟨u0, u1⟩ := hSw; obtain ⟨s1, s2, s3, s4, s5, s6⟩ := u0.facts3; obtain ⟨v1, v2, v3, v4, v5, v6⟩ := u1.facts3; go_simp; try with_reducible rfl)
 simp only [List.getElem_toArray, List.getElem_cons_succ, List.getElem_cons_zero, Act.put, zq1, zq2, zq3]
 refine wpL_take 1 1 (v := ?_) rfl (by kernel_rfl) (fun _ _ _ h => h) ⟨hL.at_ lo0, hL.at_ lo1⟩ (by rfl) ?yld ?_
 case yld => (intro w' hSw; obtain ⟨u0, u1⟩ := hSw; obtain ⟨s1, s2, s3, s4, s5, s6⟩ := u0.facts3; obtain ⟨v1, v2, v3, v4, v5, v6⟩ := u1.facts3; go_simp; try with_reducible rfl)
 simp only [List.getElem_toArray, List.getElem_cons_succ, List.getElem_cons_zero, Act.put, zq1, zq2, zq3]
 refine wpL_take 2 2 (v := ?_) rfl (by kernel_rfl) (fun _ _ _ h => h) ⟨hL.at_ lo0, hL.at_ lo1⟩ (by rfl) ?yld ?_
 case yld => (intro w' hSw; obtain ⟨u0, u1⟩ := hSw; obtain ⟨s1, s2, s3, s4, s5, s6⟩ := u0.facts3; obtain ⟨v1, v2, v3, v4, v5, v6⟩ := u1.facts3; go_simp; try with_reducible rfl)
 simp only [List.getElem_toArray, List.getElem_cons_succ, List.getElem_cons_zero, Act.put, zq1, zq2, zq3]
 refine wpL_take 3 3 (v := ?_) rfl (by kernel_rfl) (fun _ _ _ h => h) ⟨hL.at_ lo0, hL.at_ lo1⟩ (by rfl) ?yld ?_
 case yld => (intro w' hSw; obtain ⟨u0, u1⟩ := hSw; obtain ⟨s1, s2, s3, s4, s5, s6⟩ := u0.facts3; obtain ⟨v1, v2, v3, v4, v5, v6⟩ := u1.facts3; go_simp; try with_reducible rfl)
 simp only [List.getElem_toArray, List.getElem_cons_succ, List.getElem_cons_zero, Act.put, zq1, zq2, zq3]
 refine wpL_take 4 4 (v := ?_) rfl (by kernel_rfl) (fun _ _ _ h => h) ⟨hL.at_ lo0, hL.at_ lo1⟩ (by rfl) ?yld ?_
 case yld => (intro w' hSw; obtain ⟨u0, u1⟩ := hSw; obtain ⟨s1, s2, s3, s4, s5, s6⟩ := u0.facts3; obtain ⟨v1, v2, v3, v4, v5, v6⟩ := u1.facts3; go_simp; try with_reducible rfl)
 simp only [List.getElem_toArray, List.getElem_cons_succ, List.getElem_cons_zero, Act.put, zq1, zq2, zq3]
 refine wpL_take 5 5 (v := ?_) rfl (by kernel_rfl) (fun _ _ _ h => h) ⟨hL.at_ lo0, hL.at_ lo1⟩ (by rfl) ?yld ?_
 case yld => (intro w' hSw; obtain ⟨u0, u1⟩ := hSw; obtain ⟨s1, s2, s3, s4, s5, s6⟩ := u0.facts3; obtain ⟨v1, v2, v3, v4, v5, v6⟩ := u1.facts3; go_simp; try with_reducible rfl)
 simp only [List.getElem_toArray, List.getElem_cons_succ, List.getElem_cons_zero, Act.put, zq1, zq2, zq3]
 refine wpL_one 6 (by kernel_rfl) rfl ?_
 go_wp2_with (first | go_skip | refine tP ?_ | (refine tS ?_; clear hL; intro _ hL) | (refine tB ?_; clear hL; intro _ _ hL _) | (refine tC ?_; clear hL; intro _ _ hL _ hBs))
 refine StepL.mk ⟨hL.at_ lo0, hL.at_ lo1⟩ ?_
 refine wpL_one 7 (by kernel_rfl) rfl ?_
 refine wl_append (A := _ :: _ :: Ls) (R := []) (by rw [List.append_nil]; exact hL) (Row.nil 374 3) (wanted_none rfl) rfl ap_Zones (by omega) rfl rfl (news := [.string ⟨#[]⟩, .int .i64 0, .slice none 0 0]) rfl ((Blk.sl hBs (n := 3) rfl).le hL.vw.le) rfl (by omega) (by omega) ?_
 clear hL
 intro vN WN mN RN hL rN eN
 obtain ⟨AN, cN, rfl, -⟩ := rN.lit
 simp only [List.cons_append] at hL
 simp only [Act.put, zq1, zq2, zq3]
 refine StepL.mk ⟨hL.at_ lo0, hL.at_ lo1⟩ ?_
 refine wpL_take 8 9 (v := ?_) rfl (by kernel_rfl) (fun _ _ _ h => h) ⟨hL.at_ lo0, hL.at_ lo1⟩ (by rfl) ?yld ?_
 case yld => (intro w' hSw; obtain ⟨u0, u1⟩ := hSw; obtain ⟨s1, s2, s3, s4, s5, s6⟩ := u0.facts3; obtain ⟨v1, v2, v3, v4, v5, v6⟩ := u1.facts3; go_simp; try with_reducible rfl)
 simp only [List.getElem_toArray, List.getElem_cons_succ, List.getElem_cons_zero, Act.put, zq1, zq2, zq3]
 refine wpL_take 9 9 (v := ?_) rfl (by kernel_rfl) (fun _ _ _ h => h) ⟨hL.at_ lo0, hL.at_ lo1⟩ (by rfl) ?yld ?_
 case yld => (intro w' hSw; obtain ⟨u0, u1⟩ := hSw; obtain ⟨s1, s2, s3, s4, s5, s6⟩ := u0.facts3; obtain ⟨v1, v2, v3, v4, v5, v6⟩ := u1.facts3; go_simp; try with_reducible rfl)
 simp only [List.getElem_toArray, List.getElem_cons_succ, List.getElem_cons_zero, Act.put, zq1, zq2, zq3]
 refine wpL_one 10 (by kernel_rfl) rfl ?_
 go_wp2_with (first | go_skip | refine tP ?_ | (refine tS ?_; clear hL; intro _ hL) | (refine tB ?_; clear hL; intro _ _ hL _) | (refine tC ?_; clear hL; intro _ _ hL _ hBs))
 refine StepL.mkL (by kernel_rfl) ?_
 refine wpL_done (by kernel_rfl) ?_ _
 refine NoPanic.normal ?_
 go_wp2_with (first | go_skip | refine tP ?_ | (refine tS ?_; clear hL; intro _ hL) | (refine tB ?_; clear hL; intro _ _ hL _) | (refine tC ?_; clear hL; intro _ _ hL _ hBs))
 go_ret
 exact ⟨_, _, rfl, exX, hL.tail.sub (.cons_cons _ (List.sublist_append_left _ _))⟩
end Go.Proofs.YtjianicbagcekaaGreatDoor

/- The console: check, data, command at the lines of ConsoleLimits (printed by genAQ4.py). -/
namespace Go.Proofs.YtjianicbagcekaaGreatDoor
open Go.RowKit

def okb (b : UInt8) : Bool := b == 10 || (decide (32 ≤ b.toNat) && decide (b.toNat ≤ 126))
theorem ok_of {s : ByteArray} (h : s.data.toList.all okb = true) : ∀ k (h : k < s.size), ((s[k]'h).toNat : Int) = 10 ∨ (32 ≤ ((s[k]'h).toNat : Int) ∧ ((s[k]'h).toNat : Int) ≤ 126) := by
 intro k hk
 have h1 := Lib.data_getElem? s k hk
 have h2 := List.all_eq_true.1 h _ (List.mem_of_getElem? h1)
 unfold okb at h2
 simp only [Bool.or_eq_true, Bool.and_eq_true, beq_iff_eq, decide_eq_true_eq] at h2
 rcases h2 with h2 | h2
 ·left; rw [h2]; rfl
 ·right; omega
theorem t_Parse (mx : Int) (w m : World) (hV : Vw m w) (hm : Hid (w.cell? ⟨0, 0, none⟩ = some (.int .i64 mx))) :
  Calls Tryz.prog 49 #[.string ⟨#[122, 111, 110, 101, 32, 117, 116, 99, 10]⟩] w (RetV w m fun _ r => r = .tuple #[.agg #[.slice none 0 0, .slice none 0 0, .slice none 0 0], .int .i64 1, .int .i64 1]) := by
 have hL := Loc.start hV
 clear hV
 go_enter Tryz.func49, Tryz.ntmps49
 go_upto_region 0 with (fail)
 refine wp_region_lit ?_
 refine t_alloc hL rfl ?_; clear hL; intro Wh2 mh2 hL eh2; simp only [Act.put, zq1, zq2, zq3]
 go_wp2_with (first | go_skip | refine tP ?_ | (refine tS ?_; clear hL; intro _ hL) | (refine tB ?_; clear hL; intro _ _ hL _))
 refine (t_Lines _ [⟨#[122, 111, 110, 101, 32, 117, 116, 99]⟩] mx _ _ hL.vw (by decide) (by decide) (ok_of (by decide)) (cell_keep hL.ext hm.out) (by show LinesOf _ _; unfold LinesOf; kernel_rfl) (by decide)).mono ?_
 rintro e Wc1 ⟨v1, mc1, rfl, hE, hMc1, hV, A1, c1, rfl, h1⟩
 replace hL := hL.call hE (by assumption) hV; clear hE hV
 have H1 := Lib.hid h1
 clear h1
 go_wp2_with (first | go_skip | refine tP ?_ | (refine tS ?_; clear hL; intro _ hL) | (refine tB ?_; clear hL; intro _ _ hL _))
 go_loopw [21] (fun i wr => ∃ mm, i = .int .i64 0 ∧ Loc w m wr mm [(w.heap.size, 48, #[.slice none 0 0, .slice none 0 0, .slice none 0 0])] ∧ Hid (Ext mc1 mm)) (fun _ _ => 1)
 case atStart => exact ⟨_, rfl, hL, Ext.refl _⟩
 case round =>
  clear hL
  obtain ⟨mm, rfl, hL, HX⟩ := hrel
  have hX := HX.out
  obtain ⟨b1, o1, rfl, hc1⟩ := StrL.at_ H1.out (k := 0) rfl
  rw [Nat.add_zero] at hc1
  go_wp2_with (first | go_skip | refine tP ?_ | (refine tS ?_; clear hL; intro _ hL) | (refine tB ?_; clear hL; intro _ _ hL _))
  refine (t_Fields _ [⟨#[122, 111, 110, 101]⟩, ⟨#[117, 116, 99]⟩] mx _ _ hL.vw (by decide) (cell_keep hL.ext hm.out) (by show PartsOf _ _; unfold PartsOf; kernel_rfl) (by decide)).mono ?_
  rintro e Wc2 ⟨v2, mc2, rfl, hE, hMc2, hV, A2, c2, rfl, h2⟩
  replace hL := hL.call hE (by assumption) hV; clear hE hV
  have H2 : Hid (StrL mc2 (.slice A2 2 c2) [⟨#[122, 111, 110, 101]⟩, ⟨#[117, 116, 99]⟩]) := h2
  clear h2
  have hlen : (([⟨#[122, 111, 110, 101]⟩, ⟨#[117, 116, 99]⟩] : List ByteArray).filter (·.size != 0)).length = 2 := by decide
  rw [hlen]
  clear hlen
  go_wp2_with (first | go_skip | refine tP ?_ | (refine tS ?_; clear hL; intro _ hL) | (refine tB ?_; clear hL; intro _ _ hL _))
  refine (p_parseLine _ A2 c2 _ _ _ _ _ hL (H2.out.le leX)).mono ?_
  rintro e W3 ⟨m3, z3, rfl, hE3, hL3⟩
  clear hL
  have hL := hL3
  clear hL3
  go_wp2_with (first | go_skip | refine tP ?_ | (refine tS ?_; clear hL; intro _ hL) | (refine tB ?_; clear hL; intro _ _ hL _))
  refine fin_ctt hL Tryz.results49 rfl rfl loX ag_Timetable (by exact rfl) (u := .int .i64 1) (v := .int .i64 1) rfl rfl ?_
  exact RetV.mk (hL.sub (List.nil_sublist _)) rfl
theorem c_check (mx : Int) (sb : Nat) (Ls : List Lo) (w0 m0 W m : World) (hL : Loc w0 m0 W m ((sb, 61, #[.string ⟨#[122, 111, 110, 101, 32, 117, 116, 99, 10]⟩, .string ⟨#[]⟩, .string ⟨#[]⟩, .string ⟨#[]⟩, .string ⟨#[]⟩, .bool false, .slice none 0 0, .slice none 0 0, .slice none 0 0, .int .i64 0, .int .i64 0, .int .i64 0, .int .i64 0, .int .i64 0, .int .i64 0, .int .i64 0, .slice none 0 0, .slice none 0 0, .slice none 0 0, .slice none 0 0, .slice none 0 0, .slice none 0 0, .int .i64 0, .slice none 0 0, .slice none 0 0, .int .i64 0, .int .i64 0, .slice none 0 0, .slice none 0 0]) :: Ls)) (hm : Hid (W.cell? ⟨0, 0, none⟩ = some (.int .i64 mx))) :
  Calls Tryz.prog 29 #[.pointer (some ⟨sb, 0, none⟩)] W (fun e W' => ∃ m', e = .returned (.string ⟨#[116, 105, 109, 101, 116, 97, 98, 108, 101, 32, 49, 32, 49]⟩) ∧ Ext m m' ∧ Loc w0 m0 W' m' ((sb, 61, #[.string ⟨#[122, 111, 110, 101, 32, 117, 116, 99, 10]⟩, .string ⟨#[]⟩, .string ⟨#[]⟩, .string ⟨#[]⟩, .string ⟨#[]⟩, .bool false, .slice none 0 0, .slice none 0 0, .slice none 0 0, .int .i64 0, .int .i64 0, .int .i64 0, .int .i64 0, .int .i64 0, .int .i64 0, .int .i64 0, .slice none 0 0, .slice none 0 0, .slice none 0 0, .slice none 0 0, .slice none 0 0, .slice none 0 0, .int .i64 0, .slice none 0 0, .slice none 0 0, .int .i64 0, .int .i64 0, .slice none 0 0, .slice none 0 0]) :: Ls)) := by
 go_enter Tryz.func29, Tryz.ntmps29
 go_wp2_with (first | go_skip | refine tP ?_ | (refine tS ?_; clear hL; intro _ hL) | (refine tB ?_; clear hL; intro _ _ hL _))
 refine (t_Parse mx _ _ hL.vw hm).mono ?_
 rintro e Wc1 ⟨_, mc1, rfl, hE, hMc1, hV, rfl⟩
 replace hL := hL.call hE (by assumption) hV; clear hE hV
 go_wp2_with (first | go_skip | refine tP ?_ | (refine tS ?_; clear hL; intro _ hL) | (refine tB ?_; clear hL; intro _ _ hL _))
 refine (c_complaint _ _ hL.vw).mono ?_
 rintro e Wc2 ⟨_, mc2, rfl, hE, hMc2, hV, rfl⟩
 replace hL := hL.call hE (by assumption) hV; clear hE hV
 go_wp2_with (first | go_skip | refine tP ?_ | (refine tS ?_; clear hL; intro _ hL) | (refine tB ?_; clear hL; intro _ _ hL _))
 go_ret
 exact ⟨_, rfl, exX, hL.tail⟩
theorem c_dataPlan (p : Value) (x : ByteArray) (w m : World) (hV : Vw m w) : Calls Tryz.prog 15 #[p, .string x, .string ⟨#[112, 108, 97, 110]⟩] w (RetV w m fun _ r => r = .bool false) := by
 have hL := Loc.start hV
 clear hV
 go_enter Tryz.func15, Tryz.ntmps15
 go_wp2_with (first | go_skip | refine tP ?_ | (refine tS ?_; clear hL; intro _ hL))
 go_ret
 exact RetV.mk hL rfl
theorem c_dataSolve (p : Value) (x : ByteArray) (w m : World) (hV : Vw m w) : Calls Tryz.prog 15 #[p, .string x, .string ⟨#[115, 111, 108, 118, 101]⟩] w (RetV w m fun _ r => r = .bool false) := by
 have hL := Loc.start hV
 clear hV
 go_enter Tryz.func15, Tryz.ntmps15
 go_wp2_with (first | go_skip | refine tP ?_ | (refine tS ?_; clear hL; intro _ hL))
 go_ret
 exact RetV.mk hL rfl
theorem c_dataCheck (p : Value) (x : ByteArray) (w m : World) (hV : Vw m w) : Calls Tryz.prog 15 #[p, .string x, .string ⟨#[99, 104, 101, 99, 107]⟩] w (RetV w m fun _ r => r = .bool false) := by
 have hL := Loc.start hV
 clear hV
 go_enter Tryz.func15, Tryz.ntmps15
 go_wp2_with (first | go_skip | refine tP ?_ | (refine tS ?_; clear hL; intro _ hL))
 go_ret
 exact RetV.mk hL rfl
theorem c_dataZone (tt : ByteArray) (htt : tt.size ≤ 1000000) (sb : Nat) (Ls : List Lo) (w0 m0 W m : World) (hL : Loc w0 m0 W m ((sb, 61, #[.string tt, .string ⟨#[]⟩, .string ⟨#[]⟩, .string ⟨#[]⟩, .string ⟨#[]⟩, .bool false, .slice none 0 0, .slice none 0 0, .slice none 0 0, .int .i64 0, .int .i64 0, .int .i64 0, .int .i64 0, .int .i64 0, .int .i64 0, .int .i64 0, .slice none 0 0, .slice none 0 0, .slice none 0 0, .slice none 0 0, .slice none 0 0, .slice none 0 0, .int .i64 0, .slice none 0 0, .slice none 0 0, .int .i64 0, .int .i64 0, .slice none 0 0, .slice none 0 0]) :: Ls)) :
  Calls Tryz.prog 15 #[.pointer (some ⟨sb, 0, none⟩), .string ⟨#[122, 111, 110, 101, 32, 117, 116, 99]⟩, .string ⟨#[122, 111, 110, 101]⟩] W (fun e W' => ∃ m', e = .returned (.bool true) ∧ Ext m m' ∧ Loc w0 m0 W' m' ((sb, 61, #[.string (tt ++ (⟨#[122, 111, 110, 101, 32, 117, 116, 99]⟩ ++ ⟨#[10]⟩)), .string ⟨#[]⟩, .string ⟨#[]⟩, .string ⟨#[]⟩, .string ⟨#[]⟩, .bool false, .slice none 0 0, .slice none 0 0, .slice none 0 0, .int .i64 0, .int .i64 0, .int .i64 0, .int .i64 0, .int .i64 0, .int .i64 0, .int .i64 0, .slice none 0 0, .slice none 0 0, .slice none 0 0, .slice none 0 0, .slice none 0 0, .slice none 0 0, .int .i64 0, .slice none 0 0, .slice none 0 0, .int .i64 0, .int .i64 0, .slice none 0 0, .slice none 0 0]) :: Ls)) := by
 go_enter Tryz.func15, Tryz.ntmps15
 go_wp2_with (first | go_skip | refine tP ?_ | (refine tS ?_; clear hL; intro _ hL))
 go_ret
 exact ⟨_, rfl, exX, hL⟩
theorem c_cmdPlan (tt : ByteArray) (A : Option Addr) (c : Nat) (sb : Nat) (Ls : List Lo) (w0 m0 W m : World) (hL : Loc w0 m0 W m ((sb, 61, #[.string tt, .string ⟨#[]⟩, .string ⟨#[]⟩, .string ⟨#[]⟩, .string ⟨#[]⟩, .bool false, .slice none 0 0, .slice none 0 0, .slice none 0 0, .int .i64 0, .int .i64 0, .int .i64 0, .int .i64 0, .int .i64 0, .int .i64 0, .int .i64 0, .slice none 0 0, .slice none 0 0, .slice none 0 0, .slice none 0 0, .slice none 0 0, .slice none 0 0, .int .i64 0, .slice none 0 0, .slice none 0 0, .int .i64 0, .int .i64 0, .slice none 0 0, .slice none 0 0]) :: Ls)) (hF : StrL m (.slice A 1 c) [⟨#[112, 108, 97, 110]⟩]) :
  Calls Tryz.prog 17 #[.pointer (some ⟨sb, 0, none⟩), .slice A 1 c] W (fun e W' => ∃ m', e = .returned (.string ⟨#[101, 114, 114, 111, 114]⟩) ∧ Ext m m' ∧ Loc w0 m0 W' m' ((sb, 61, #[.string tt, .string ⟨#[]⟩, .string ⟨#[]⟩, .string ⟨#[]⟩, .string ⟨#[]⟩, .bool false, .slice none 0 0, .slice none 0 0, .slice none 0 0, .int .i64 0, .int .i64 0, .int .i64 0, .int .i64 0, .int .i64 0, .int .i64 0, .int .i64 0, .slice none 0 0, .slice none 0 0, .slice none 0 0, .slice none 0 0, .slice none 0 0, .slice none 0 0, .int .i64 0, .slice none 0 0, .slice none 0 0, .int .i64 0, .int .i64 0, .slice none 0 0, .slice none 0 0]) :: Ls)) := by
 obtain ⟨b0, o0, rfl, hc0⟩ := StrL.at_ hF (k := 0) rfl
 rw [Nat.add_zero] at hc0
 clear hF
 go_enter Tryz.func17, Tryz.ntmps17
 go_wp2_with (first | go_skip | refine tP ?_ | (refine tS ?_; clear hL; intro _ hL) | (refine tB ?_; clear hL; intro _ _ hL _))
 go_ret
 exact ⟨_, rfl, exX, hL⟩
theorem c_cmdSolve (tt : ByteArray) (A : Option Addr) (c : Nat) (sb : Nat) (Ls : List Lo) (w0 m0 W m : World) (hL : Loc w0 m0 W m ((sb, 61, #[.string tt, .string ⟨#[]⟩, .string ⟨#[]⟩, .string ⟨#[]⟩, .string ⟨#[]⟩, .bool false, .slice none 0 0, .slice none 0 0, .slice none 0 0, .int .i64 0, .int .i64 0, .int .i64 0, .int .i64 0, .int .i64 0, .int .i64 0, .int .i64 0, .slice none 0 0, .slice none 0 0, .slice none 0 0, .slice none 0 0, .slice none 0 0, .slice none 0 0, .int .i64 0, .slice none 0 0, .slice none 0 0, .int .i64 0, .int .i64 0, .slice none 0 0, .slice none 0 0]) :: Ls)) (hF : StrL m (.slice A 2 c) [⟨#[115, 111, 108, 118, 101]⟩, ⟨#[53]⟩]) :
  Calls Tryz.prog 17 #[.pointer (some ⟨sb, 0, none⟩), .slice A 2 c] W (fun e W' => ∃ m', e = .returned (.string ⟨#[101, 114, 114, 111, 114]⟩) ∧ Ext m m' ∧ Loc w0 m0 W' m' ((sb, 61, #[.string tt, .string ⟨#[]⟩, .string ⟨#[]⟩, .string ⟨#[]⟩, .string ⟨#[]⟩, .bool false, .slice none 0 0, .slice none 0 0, .slice none 0 0, .int .i64 0, .int .i64 0, .int .i64 0, .int .i64 0, .int .i64 0, .int .i64 0, .int .i64 0, .slice none 0 0, .slice none 0 0, .slice none 0 0, .slice none 0 0, .slice none 0 0, .slice none 0 0, .int .i64 0, .slice none 0 0, .slice none 0 0, .int .i64 0, .int .i64 0, .slice none 0 0, .slice none 0 0]) :: Ls)) := by
 obtain ⟨b0, o0, rfl, hc0⟩ := StrL.at_ hF (k := 0) rfl
 rw [Nat.add_zero] at hc0
 clear hF
 go_enter Tryz.func17, Tryz.ntmps17
 go_wp2_with (first | go_skip | refine tP ?_ | (refine tS ?_; clear hL; intro _ hL) | (refine tB ?_; clear hL; intro _ _ hL _))
 go_ret
 exact ⟨_, rfl, exX, hL⟩
theorem c_cmdCheck (mx : Int) (A : Option Addr) (c : Nat) (sb : Nat) (Ls : List Lo) (w0 m0 W m : World) (hL : Loc w0 m0 W m ((sb, 61, #[.string ⟨#[122, 111, 110, 101, 32, 117, 116, 99, 10]⟩, .string ⟨#[]⟩, .string ⟨#[]⟩, .string ⟨#[]⟩, .string ⟨#[]⟩, .bool false, .slice none 0 0, .slice none 0 0, .slice none 0 0, .int .i64 0, .int .i64 0, .int .i64 0, .int .i64 0, .int .i64 0, .int .i64 0, .int .i64 0, .slice none 0 0, .slice none 0 0, .slice none 0 0, .slice none 0 0, .slice none 0 0, .slice none 0 0, .int .i64 0, .slice none 0 0, .slice none 0 0, .int .i64 0, .int .i64 0, .slice none 0 0, .slice none 0 0]) :: Ls)) (hm : Hid (W.cell? ⟨0, 0, none⟩ = some (.int .i64 mx))) (hF : StrL m (.slice A 1 c) [⟨#[99, 104, 101, 99, 107]⟩]) :
  Calls Tryz.prog 17 #[.pointer (some ⟨sb, 0, none⟩), .slice A 1 c] W (fun e W' => ∃ m', e = .returned (.string ⟨#[116, 105, 109, 101, 116, 97, 98, 108, 101, 32, 49, 32, 49]⟩) ∧ Ext m m' ∧ Loc w0 m0 W' m' ((sb, 61, #[.string ⟨#[122, 111, 110, 101, 32, 117, 116, 99, 10]⟩, .string ⟨#[]⟩, .string ⟨#[]⟩, .string ⟨#[]⟩, .string ⟨#[]⟩, .bool false, .slice none 0 0, .slice none 0 0, .slice none 0 0, .int .i64 0, .int .i64 0, .int .i64 0, .int .i64 0, .int .i64 0, .int .i64 0, .int .i64 0, .slice none 0 0, .slice none 0 0, .slice none 0 0, .slice none 0 0, .slice none 0 0, .slice none 0 0, .int .i64 0, .slice none 0 0, .slice none 0 0, .int .i64 0, .int .i64 0, .slice none 0 0, .slice none 0 0]) :: Ls)) := by
 obtain ⟨b0, o0, rfl, hc0⟩ := StrL.at_ hF (k := 0) rfl
 rw [Nat.add_zero] at hc0
 clear hF
 go_enter Tryz.func17, Tryz.ntmps17
 go_wp2_with (first | go_skip | refine tP ?_ | (refine tS ?_; clear hL; intro _ hL) | (refine tB ?_; clear hL; intro _ _ hL _))
 refine (c_check mx sb Ls w0 m0 _ _ hL hm).mono ?_
 rintro e W3 ⟨m3, rfl, hE3, hL3⟩
 clear hL
 have hL := hL3
 clear hL3
 go_wp2_with (first | go_skip | refine tP ?_ | (refine tS ?_; clear hL; intro _ hL) | (refine tB ?_; clear hL; intro _ _ hL _))
 go_ret
 exact ⟨_, rfl, exX, hL⟩
end Go.Proofs.YtjianicbagcekaaGreatDoor

/- The console's run over the lines of ConsoleLimits (printed by genAQ4.py). -/
namespace Go.Proofs.YtjianicbagcekaaGreatDoor
open Go.RowKit

def stp (st : ByteArray × List UInt8) (x : ByteArray) : ByteArray × List UInt8 :=
 if x.data.toList = [112, 108, 97, 110] then (st.1, st.2 ++ [101, 114, 114, 111, 114, 10]) else if x.data.toList = [115, 111, 108, 118, 101, 32, 53] then (st.1, st.2 ++ [101, 114, 114, 111, 114, 10]) else if x.data.toList = [122, 111, 110, 101, 32, 117, 116, 99] then (st.1 ++ (⟨#[122, 111, 110, 101, 32, 117, 116, 99]⟩ ++ ⟨#[10]⟩), st.2)
 else if x.data.toList = [99, 104, 101, 99, 107] then (st.1, st.2 ++ [116, 105, 109, 101, 116, 97, 98, 108, 101, 32, 49, 32, 49, 10]) else st
def runL (L : List ByteArray) : ByteArray × List UInt8 := L.foldl stp (⟨#[]⟩, [])
theorem runL_snoc (L : List ByteArray) (x : ByteArray) : runL (L ++ [x]) = stp (runL L) x := by simp [runL]
theorem t_Write {w0 m0 W m ma : World} {A Lb : List Lo} {B b : Nat} {o : List UInt8} (hL : Loc w0 m0 W m (A ++ Lb)) (hb : Bld 32 5 B b (Lib.byteCells o) Lb) (hA : ∀ x ∈ A, x.1 < B) (hm : Ext m0 ma) (hma : Ext ma m) (hsz : ma.heap.size = B) (hB0 : w0.heap.size ≤ B)
  (x : ByteArray) (hx : o.length + x.size ≤ 1000000) (y : List UInt8) (hy : x.data.toList = y) : Calls Tryz.prog 10 #[.pointer (some ⟨b, 0, none⟩), .string x] W fun e W' => ∃ Lb' v, e = .returned v ∧ Loc w0 m0 W' (hidTo ma W'.heap.size) (A ++ Lb') ∧ Bld 32 5 B b (Lib.byteCells (o ++ y)) Lb' ∧ B ≤ W'.heap.size := by
 subst hy
 have hBW : B ≤ W.heap.size := by rw [← hL.vw.size, ← hsz]; exact hma.size
 refine (sl_Builder_WriteString B b (Lib.byteCells o) x W (hb.shelf hL) (by rw [Lib.byteCells_length]; omega) hBW).mono ?_
 rintro e W' ⟨rfl, hAt, hBel⟩
 obtain ⟨Lb', h1, h2⟩ := hL.builder hA hm hma hsz hB0 hBel (o' := Lib.byteCells o ++ Lib.strCells x) (.inr hAt)
 refine ⟨Lb', _, rfl, h1, ?_, Nat.le_trans hBW hBel.size⟩
 have e : Lib.byteCells (o ++ x.data.toList) = Lib.byteCells o ++ Lib.strCells x := by simp [Lib.byteCells, Lib.strCells]
 rw [e]
 exact h2
theorem RetV.below {w m W mm W' : World} {Ls : List Lo} {R : World → Value → Prop} {v : Value} (hL : Loc w m W mm Ls) {B : Nat} (hB : w.heap.size ≤ B) (hBel : Below B W W') (h : ∀ m', R m' v) : RetV w m R (.returned v) W' := by
 have hs : m.heap.size ≤ W'.heap.size := by rw [hL.size0]; exact Nat.le_trans hL.ext.size hBel.size
 refine ⟨v, hidTo m W'.heap.size, rfl, Below.trans hL.ext (hBel.mono hB), hidTo_ext hs, ⟨?_, ?_, ?_, hidTo_size hs, fun a u hu => ?_⟩, h _⟩
 ·exact (hL.mext.os.symm.trans hL.vw.os).trans hBel.os.symm
 ·exact (hL.mext.tape.symm.trans hL.vw.tape).trans hBel.tape.symm
 ·exact (hL.mext.output.symm.trans hL.vw.output).trans hBel.output.symm
 ·rcases Nat.lt_or_ge a.block m.heap.size with h1 | h1
  ·rw [cell_of_heap (hidTo_old h1)] at hu
   have h2 := hL.vw.cell _ _ (hL.mext.le.cell _ _ hu)
   rwa [cell_of_heap (hBel.block a.block (by rw [← hL.size0] at hB; omega))]
  ·rw [hidTo_new h1] at hu; cases hu
def LnR (L : List ByteArray) (m : World) (r : Value) : Prop := ∃ A c, r = .tuple #[.slice A L.length c, .int .i64 0] ∧ StrL m (.slice A L.length c) L
theorem c_Run (s : ByteArray) (L : List ByteArray) (n : Nat) (mx : Int) (w m : World) (hV : Vw m w) (hm : Hid (w.cell? ⟨0, 0, none⟩ = some (.int .i64 mx)))
  (hln : Hid (∀ w m, Vw m w → w.cell? ⟨0, 0, none⟩ = some (.int .i64 mx) → Calls Tryz.prog 13 #[.string s] w (RetV w m fun m' r => LnR L m' r)))
  (hn : Hid (L.length = n)) (hn2 : n ≤ 200) (h6 : Hid (∀ x ∈ L, x ∈ [⟨#[112, 108, 97, 110]⟩, ⟨#[115, 111, 108, 118, 101, 32, 53]⟩, ⟨#[122, 111, 110, 101, 32, 117, 116, 99]⟩, ⟨#[99, 104, 101, 99, 107]⟩, ⟨#[]⟩, ⟨#[35, 32, 110, 111, 116, 104, 105, 110, 103]⟩])) (hck : Hid (∀ k, L[k]? = some ⟨#[99, 104, 101, 99, 107]⟩ → (runL (L.take k)).1 = ⟨#[122, 111, 110, 101, 32, 117, 116, 99, 10]⟩)) (E : ByteArray) (hE0 : Hid ((runL L).2.toArray = E.data)) :
  Calls Tryz.prog 5 #[.string s] w (RetV w m fun _ r => r = .string E) := by
 have hL := Loc.start hV
 clear hV
 go_enter Tryz.func5, Tryz.ntmps5
 go_wp2_with (first | go_skip | refine tP ?_ | (refine tB ?_; clear hL; intro _ _ hL _))
 refine (hln.out _ _ hL.vw (cell_keep hL.ext hm.out)).mono ?_
 rintro e Wc1 ⟨v1, mc1, rfl, hE, hMc1, hV, A1, c1, rfl, h1⟩
 replace hL := hL.call hE (by assumption) hV; clear hE hV
 rw [hn.out] at h1 ⊢
 have H1 := Lib.hid h1
 clear h1
 have hn3 : ((n : Int) > 200) = False := by simp; omega
 go_upto_region 4 with ((first | go_skip | refine tP ?_ | (refine tB ?_; clear hL; intro _ _ hL _)))
 refine wp_region_lit ?_
 refine t_alloc hL rfl ?_
 clear hL
 intro W4 m4 hL e4
 simp only [Act.put, zq1, zq2, zq3]
 go_upto_region 5 with ((first | go_skip | refine tP ?_ | (refine tB ?_; clear hL; intro _ _ hL _)))
 have hsb : Wc1.heap.size < W4.heap.size := (hL.blk _ (List.mem_cons_self ..)).lt
 have hsz : m4.heap.size = W4.heap.size := hL.vw.size
 have hB0 : w.heap.size ≤ W4.heap.size := hL.ext.size
 have hmm : Ext m m4 := hL.mext
 refine wp_region_lit ?_
 refine t_alloc hL rfl ?_
 clear hL
 intro W5 m5 hL e5
 simp only [Act.put, zq1, zq2, zq3]
 have hSB := Lib.hid hsb
 have hSZ := Lib.hid hsz
 have hBZ := Lib.hid hB0
 have hMM := Lib.hid hmm
 have hLp := hL.perm (List.Perm.swap _ _ _)
 clear hL hsb hsz hB0 hmm
 have hL := hLp
 clear hLp
 generalize Wc1.heap.size = sb at *
 generalize W4.heap.size = b at *
 go_wp2_with (first | go_skip | refine tP ?_ | (refine tB ?_; clear hL; intro _ _ hL _))
 go_loopw [24] (fun i wr => ∃ (k : Nat) (tt : ByteArray) (o : List UInt8) (mm : World) (Lb : List Lo), k ≤ n ∧ i = .int .i64 k ∧ Loc w m wr mm ((sb, 61, #[.string tt, .string ⟨#[]⟩, .string ⟨#[]⟩, .string ⟨#[]⟩, .string ⟨#[]⟩, .bool false, .slice none 0 0, .slice none 0 0, .slice none 0 0, .int .i64 0, .int .i64 0, .int .i64 0, .int .i64 0, .int .i64 0, .int .i64 0, .int .i64 0, .slice none 0 0, .slice none 0 0, .slice none 0 0, .slice none 0 0, .slice none 0 0, .slice none 0 0, .int .i64 0, .slice none 0 0, .slice none 0 0, .int .i64 0, .int .i64 0, .slice none 0 0, .slice none 0 0]) :: Lb) ∧ Hid (Bld 32 5 b b (Lib.byteCells o) Lb) ∧ Hid (Ext m4 mm) ∧ Hid (runL (L.take k) = (tt, o)) ∧ tt.size ≤ 20 * k ∧ o.length ≤ 20 * k) (fun i _ => n - (intOf i).toNat)
 case atStart => exact ⟨0, _, [], _, _, Nat.zero_le _, rfl, hL, Bld.new _ _ _, e5, rfl, by decide, by decide⟩
 case round =>
  clear hL
  obtain ⟨k, tt, o, mm, Lb, hk, rfl, hL, HB, HX, HR, htt, hoo⟩ := hrel
  have hX := HX.out
  by_cases hlt : k < n
  ·have hlt' : (k : Int) < (n : Int) := by omega
   obtain ⟨x, hx⟩ := at_some hn hlt
   have HTS : Hid (runL (L.take (k + 1)) = stp (tt, o) x) := by
    show _ = _
    rw [← take_snoc hx, runL_snoc, HR.out]
   have hx6 := h6.out x (List.mem_of_getElem? hx)
   have HCK := Lib.hid (hck.out k)
   have HXK := Lib.hid hx
   obtain ⟨b1, o1, rfl, hc1⟩ := StrL.at_ H1.out hx
   clear hx
   simp only [List.mem_cons, List.not_mem_nil, or_false] at hx6
   rcases hx6 with rfl | rfl | rfl | rfl | rfl | rfl
   ·go_wp2_with (first | go_skip | refine tP ?_ | (refine tB ?_; clear hL; intro _ _ hL _))
    refine (t_Fields _ [⟨#[112, 108, 97, 110]⟩] mx _ _ hL.vw (by decide) (cell_keep hL.ext hm.out) (by show PartsOf _ _; unfold PartsOf; kernel_rfl) (by decide)).mono ?_
    rintro e Wc2 ⟨v2, mc2, rfl, hE, hMc2, hV, A2, c2, rfl, h2⟩
    replace hL := hL.call hE (by assumption) hV; clear hE hV
    have H2 : Hid (StrL mc2 (.slice A2 1 c2) [⟨#[112, 108, 97, 110]⟩]) := h2
    clear h2
    have hlen : (([⟨#[112, 108, 97, 110]⟩] : List ByteArray).filter (·.size != 0)).length = 1 := by decide
    rw [hlen]
    clear hlen
    obtain ⟨b2, o2, rfl, hc2⟩ := StrL.at_ H2.out (k := 0) rfl
    rw [Nat.add_zero] at hc2
    go_wp2_with (first | go_skip | refine tP ?_ | (refine tB ?_; clear hL; intro _ _ hL _))
    refine (c_dataPlan _ _ _ _ hL.vw).mono ?_
    rintro e Wc3 ⟨_, mc3, rfl, hE, hMc3, hV, rfl⟩
    replace hL := hL.call hE (by assumption) hV; clear hE hV
    go_wp2_with (first | go_skip | refine tP ?_ | (refine tB ?_; clear hL; intro _ _ hL _))
    refine (c_cmdPlan tt _ _ sb Lb w m _ _ hL (H2.out.le leX)).mono ?_
    rintro e W3 ⟨m3, rfl, hE3, hL3⟩
    clear hL
    have hL := hL3
    clear hL3
    go_wp2_with (first | go_skip | refine tP ?_ | (refine tB ?_; clear hL; intro _ _ hL _))
    refine (t_Write (A := [_]) (Lb := Lb) (ma := m4) hL HB.out (fun y hy => by rw [List.mem_singleton.1 hy]; exact hSB.out) hMM.out (hX.trans exX) hSZ.out hBZ.out _ (by show o.length + 6 ≤ _; omega) [101, 114, 114, 111, 114, 10] (by kernel_rfl)).mono ?_
    rintro e W6 ⟨Lb', v6, rfl, hL6, hB6, hle6⟩
    have HB6 := Lib.hid hB6
    have hX6 : Ext m4 (hidTo m4 W6.heap.size) := hidTo_ext (by rw [hSZ.out]; exact hle6)
    clear hL hB6 hle6
    have hL := hL6
    clear hL6
    simp only [List.cons_append, List.nil_append] at hL
    have hol : (o ++ [101, 114, 114, 111, 114, 10]).length = o.length + 6 := by rw [List.length_append]; rfl
    go_wp2_with (first | go_skip | refine tP ?_ | (refine tB ?_; clear hL; intro _ _ hL _))
    go_roundw
    case rel => exact ⟨k + 1, tt, o ++ [101, 114, 114, 111, 114, 10], _, Lb', by omega, by go_num, hL, HB6.out, hX6, HTS.out, by omega, by omega⟩
    case measure => simp [intOf] <;> omega
   ·go_wp2_with (first | go_skip | refine tP ?_ | (refine tB ?_; clear hL; intro _ _ hL _))
    refine (t_Fields _ [⟨#[115, 111, 108, 118, 101]⟩, ⟨#[53]⟩] mx _ _ hL.vw (by decide) (cell_keep hL.ext hm.out) (by show PartsOf _ _; unfold PartsOf; kernel_rfl) (by decide)).mono ?_
    rintro e Wc2 ⟨v2, mc2, rfl, hE, hMc2, hV, A2, c2, rfl, h2⟩
    replace hL := hL.call hE (by assumption) hV; clear hE hV
    have H2 : Hid (StrL mc2 (.slice A2 2 c2) [⟨#[115, 111, 108, 118, 101]⟩, ⟨#[53]⟩]) := h2
    clear h2
    have hlen : (([⟨#[115, 111, 108, 118, 101]⟩, ⟨#[53]⟩] : List ByteArray).filter (·.size != 0)).length = 2 := by decide
    rw [hlen]
    clear hlen
    obtain ⟨b2, o2, rfl, hc2⟩ := StrL.at_ H2.out (k := 0) rfl
    rw [Nat.add_zero] at hc2
    go_wp2_with (first | go_skip | refine tP ?_ | (refine tB ?_; clear hL; intro _ _ hL _))
    refine (c_dataSolve _ _ _ _ hL.vw).mono ?_
    rintro e Wc3 ⟨_, mc3, rfl, hE, hMc3, hV, rfl⟩
    replace hL := hL.call hE (by assumption) hV; clear hE hV
    go_wp2_with (first | go_skip | refine tP ?_ | (refine tB ?_; clear hL; intro _ _ hL _))
    refine (c_cmdSolve tt _ _ sb Lb w m _ _ hL (H2.out.le leX)).mono ?_
    rintro e W3 ⟨m3, rfl, hE3, hL3⟩
    clear hL
    have hL := hL3
    clear hL3
    go_wp2_with (first | go_skip | refine tP ?_ | (refine tB ?_; clear hL; intro _ _ hL _))
    refine (t_Write (A := [_]) (Lb := Lb) (ma := m4) hL HB.out (fun y hy => by rw [List.mem_singleton.1 hy]; exact hSB.out) hMM.out (hX.trans exX) hSZ.out hBZ.out _ (by show o.length + 6 ≤ _; omega) [101, 114, 114, 111, 114, 10] (by kernel_rfl)).mono ?_
    rintro e W6 ⟨Lb', v6, rfl, hL6, hB6, hle6⟩
    have HB6 := Lib.hid hB6
    have hX6 : Ext m4 (hidTo m4 W6.heap.size) := hidTo_ext (by rw [hSZ.out]; exact hle6)
    clear hL hB6 hle6
    have hL := hL6
    clear hL6
    simp only [List.cons_append, List.nil_append] at hL
    have hol : (o ++ [101, 114, 114, 111, 114, 10]).length = o.length + 6 := by rw [List.length_append]; rfl
    go_wp2_with (first | go_skip | refine tP ?_ | (refine tB ?_; clear hL; intro _ _ hL _))
    go_roundw
    case rel => exact ⟨k + 1, tt, o ++ [101, 114, 114, 111, 114, 10], _, Lb', by omega, by go_num, hL, HB6.out, hX6, HTS.out, by omega, by omega⟩
    case measure => simp [intOf] <;> omega
   ·go_wp2_with (first | go_skip | refine tP ?_ | (refine tB ?_; clear hL; intro _ _ hL _))
    refine (t_Fields _ [⟨#[122, 111, 110, 101]⟩, ⟨#[117, 116, 99]⟩] mx _ _ hL.vw (by decide) (cell_keep hL.ext hm.out) (by show PartsOf _ _; unfold PartsOf; kernel_rfl) (by decide)).mono ?_
    rintro e Wc2 ⟨v2, mc2, rfl, hE, hMc2, hV, A2, c2, rfl, h2⟩
    replace hL := hL.call hE (by assumption) hV; clear hE hV
    have H2 : Hid (StrL mc2 (.slice A2 2 c2) [⟨#[122, 111, 110, 101]⟩, ⟨#[117, 116, 99]⟩]) := h2
    clear h2
    have hlen : (([⟨#[122, 111, 110, 101]⟩, ⟨#[117, 116, 99]⟩] : List ByteArray).filter (·.size != 0)).length = 2 := by decide
    rw [hlen]
    clear hlen
    obtain ⟨b2, o2, rfl, hc2⟩ := StrL.at_ H2.out (k := 0) rfl
    rw [Nat.add_zero] at hc2
    go_wp2_with (first | go_skip | refine tP ?_ | (refine tB ?_; clear hL; intro _ _ hL _))
    refine (c_dataZone tt (by omega) sb Lb w m _ _ hL).mono ?_
    rintro e W3 ⟨m3, rfl, hE3, hL3⟩
    clear hL
    have hL := hL3
    clear hL3
    go_wp2_with (first | go_skip | refine tP ?_ | (refine tB ?_; clear hL; intro _ _ hL _))
    have hts : (tt ++ (⟨#[122, 111, 110, 101, 32, 117, 116, 99]⟩ ++ ⟨#[10]⟩)).size = tt.size + 9 := by rw [ByteArray.size_append]; rfl
    go_roundw
    case rel => exact ⟨k + 1, _, o, _, Lb, by omega, by go_num, hL, HB.out, hX.trans exX, HTS.out, by omega, by omega⟩
    case measure => simp [intOf] <;> omega
   ·go_wp2_with (first | go_skip | refine tP ?_ | (refine tB ?_; clear hL; intro _ _ hL _))
    refine (t_Fields _ [⟨#[99, 104, 101, 99, 107]⟩] mx _ _ hL.vw (by decide) (cell_keep hL.ext hm.out) (by show PartsOf _ _; unfold PartsOf; kernel_rfl) (by decide)).mono ?_
    rintro e Wc2 ⟨v2, mc2, rfl, hE, hMc2, hV, A2, c2, rfl, h2⟩
    replace hL := hL.call hE (by assumption) hV; clear hE hV
    have H2 : Hid (StrL mc2 (.slice A2 1 c2) [⟨#[99, 104, 101, 99, 107]⟩]) := h2
    clear h2
    have hlen : (([⟨#[99, 104, 101, 99, 107]⟩] : List ByteArray).filter (·.size != 0)).length = 1 := by decide
    rw [hlen]
    clear hlen
    obtain ⟨b2, o2, rfl, hc2⟩ := StrL.at_ H2.out (k := 0) rfl
    rw [Nat.add_zero] at hc2
    go_wp2_with (first | go_skip | refine tP ?_ | (refine tB ?_; clear hL; intro _ _ hL _))
    have hzu : tt = ⟨#[122, 111, 110, 101, 32, 117, 116, 99, 10]⟩ := by
     have h1 := HCK.out HXK.out
     rw [HR.out] at h1
     exact h1
    subst hzu
    refine (c_dataCheck _ _ _ _ hL.vw).mono ?_
    rintro e Wc3 ⟨_, mc3, rfl, hE, hMc3, hV, rfl⟩
    replace hL := hL.call hE (by assumption) hV; clear hE hV
    go_wp2_with (first | go_skip | refine tP ?_ | (refine tB ?_; clear hL; intro _ _ hL _))
    refine (c_cmdCheck mx _ _ sb Lb w m _ _ hL (cell_keep hL.ext hm.out) (H2.out.le leX)).mono ?_
    rintro e W3 ⟨m3, rfl, hE3, hL3⟩
    clear hL
    have hL := hL3
    clear hL3
    go_wp2_with (first | go_skip | refine tP ?_ | (refine tB ?_; clear hL; intro _ _ hL _))
    refine (t_Write (A := [_]) (Lb := Lb) (ma := m4) hL HB.out (fun y hy => by rw [List.mem_singleton.1 hy]; exact hSB.out) hMM.out (hX.trans exX) hSZ.out hBZ.out _ (by show o.length + 14 ≤ _; omega) [116, 105, 109, 101, 116, 97, 98, 108, 101, 32, 49, 32, 49, 10] (by kernel_rfl)).mono ?_
    rintro e W6 ⟨Lb', v6, rfl, hL6, hB6, hle6⟩
    have HB6 := Lib.hid hB6
    have hX6 : Ext m4 (hidTo m4 W6.heap.size) := hidTo_ext (by rw [hSZ.out]; exact hle6)
    clear hL hB6 hle6
    have hL := hL6
    clear hL6
    simp only [List.cons_append, List.nil_append] at hL
    have hol : (o ++ [116, 105, 109, 101, 116, 97, 98, 108, 101, 32, 49, 32, 49, 10]).length = o.length + 14 := by rw [List.length_append]; rfl
    go_wp2_with (first | go_skip | refine tP ?_ | (refine tB ?_; clear hL; intro _ _ hL _))
    go_roundw
    case rel => exact ⟨k + 1, _, o ++ [116, 105, 109, 101, 116, 97, 98, 108, 101, 32, 49, 32, 49, 10], _, Lb', by omega, by go_num, hL, HB6.out, hX6, HTS.out, by omega, by omega⟩
    case measure => simp [intOf] <;> omega
   ·go_wp2_with (first | go_skip | refine tP ?_ | (refine tB ?_; clear hL; intro _ _ hL _))
    refine (t_Fields _ [⟨#[]⟩] mx _ _ hL.vw (by decide) (cell_keep hL.ext hm.out) (by show PartsOf _ _; unfold PartsOf; kernel_rfl) (by decide)).mono ?_
    rintro e Wc2 ⟨v2, mc2, rfl, hE, hMc2, hV, A2, c2, rfl, h2⟩
    replace hL := hL.call hE (by assumption) hV; clear hE hV
    have H2 : Hid (StrL mc2 (.slice A2 0 c2) []) := h2
    clear h2
    have hlen : (([⟨#[]⟩] : List ByteArray).filter (·.size != 0)).length = 0 := by decide
    rw [hlen]
    clear hlen
    go_wp2_with (first | go_skip | refine tP ?_ | (refine tB ?_; clear hL; intro _ _ hL _))
    go_roundw
    case rel => exact ⟨k + 1, tt, o, _, Lb, by omega, by go_num, hL, HB.out, hX.trans exX, HTS.out, by omega, by omega⟩
    case measure => simp [intOf] <;> omega
   ·go_wp2_with (first | go_skip | refine tP ?_ | (refine tB ?_; clear hL; intro _ _ hL _))
    refine (t_Fields _ [⟨#[]⟩] mx _ _ hL.vw (by decide) (cell_keep hL.ext hm.out) (by show PartsOf _ _; unfold PartsOf; kernel_rfl) (by decide)).mono ?_
    rintro e Wc2 ⟨v2, mc2, rfl, hE, hMc2, hV, A2, c2, rfl, h2⟩
    replace hL := hL.call hE (by assumption) hV; clear hE hV
    have H2 : Hid (StrL mc2 (.slice A2 0 c2) []) := h2
    clear h2
    have hlen : (([⟨#[]⟩] : List ByteArray).filter (·.size != 0)).length = 0 := by decide
    rw [hlen]
    clear hlen
    go_wp2_with (first | go_skip | refine tP ?_ | (refine tB ?_; clear hL; intro _ _ hL _))
    go_roundw
    case rel => exact ⟨k + 1, tt, o, _, Lb, by omega, by go_num, hL, HB.out, hX.trans exX, HTS.out, by omega, by omega⟩
    case measure => simp [intOf] <;> omega
  ·have hlt' : (n : Int) ≤ (k : Int) := by omega
   have hkn : k = n := by omega
   have HOE : Hid ((⟨o.toArray⟩ : ByteArray) = E) := by
    show _ = _
    have h1 := HR.out
    rw [List.take_of_length_le (by rw [hn.out]; omega)] at h1
    have h2 := hE0.out
    rw [h1] at h2
    rw [h2]
   have hbs := Bld.shelf (A := [_]) (Lb := Lb) hL HB.out
   have hBW : b ≤ wr.heap.size := by rw [← hL.vw.size, ← hSZ.out]; exact hX.size
   have HBS := Lib.hid hbs
   clear hbs hlt hkn
   go_wp2_with (first | go_skip | refine tP ?_ | (refine tB ?_; clear hL; intro _ _ hL _))
   refine (sl_Builder_String_any b b o _ HBS.out hBW).mono ?_
   rintro e W7 ⟨rfl, hBel⟩
   rw [HOE.out]
   have HBL := Lib.hid hBel
   clear hBel
   go_wp2_with (first | go_skip | refine tP ?_ | (refine tB ?_; clear hL; intro _ _ hL _))
   go_ret
   exact RetV.below hL hBZ.out HBL.out (fun _ => rfl)
end Go.Proofs.YtjianicbagcekaaGreatDoor
