/- A program's reach by a table of its functions: the same lists, computed without the functions' bodies. -/
import GoSem.ClaimFn
import GoSem.ClaimGoes
import GoSem.ClaimSevenParts
import Derived.KernelRfl
namespace Go.Proofs.YtjianicbagcekaaGreatDoor
open Go
namespace Reach

/-- What the reach reads of one function. -/
structure Line where
  leads : List Nat
  inPlace : Option String
  globs : List Nat
  reads : Option String

def lineOf (P : Program) (fn : Func) : Line :=
  ⟨P.leadsTo fn, (if fn.ours || fn.body.isNone || fn.name == "runtime.NumGoroutine" then some fn.name else none),
   fn.body.elim [] Code.globalsNamed, (if fn.body.isNone then entryReads.lookup fn.name else none)⟩

def at2 : List (List Line) → Nat → Option Line
  | [], _ => none
  | c :: cs, f => match Nat.ble c.length f with
    | true => at2 cs (f - c.length)
    | false => c[f]?

theorem at2_eq : ∀ (R : List (List Line)) (f : Nat), at2 R f = R.flatten[f]?
  | [], f => by simp [at2]
  | c :: cs, f => by
    unfold at2
    rw [List.flatten_cons]
    cases h : Nat.ble c.length f with
    | true => rw [at2_eq cs, List.getElem?_append_right (Nat.le_of_ble_eq_true h)]
    | false =>
      have h' : f < c.length := by
        rcases Nat.lt_or_ge f c.length with h1 | h1
        · exact h1
        · rw [Nat.ble_eq_true_of_le h1] at h; cases h
      rw [List.getElem?_append_left h']

/-- The table tells the program's functions. -/
def ToldBy (P : Program) (R : List (List Line)) : Prop := P.funcs.toList.map (lineOf P) = R.flatten

theorem told_at {P : Program} {R : List (List Line)} (h : ToldBy P R) (f : Nat) : at2 R f = (P.funcs[f]?).map (lineOf P) := by
  rw [at2_eq, ← h, List.getElem?_map, Array.getElem?_toList]

theorem leads_at {P : Program} {R : List (List Line)} (h : ToldBy P R) (f : Nat) : (P.funcs[f]?).elim [] P.leadsTo = (at2 R f).elim [] Line.leads := by
  rw [told_at h]; cases P.funcs[f]? <;> rfl

def run (R : List (List Line)) : Nat → List Nat → Nat → List Nat → List Nat × Nat × List Nat
  | 0, todo, m, seen => (todo, m, seen)
  | _ + 1, [], m, seen => ([], m, seen)
  | n + 1, f :: todo, m, seen => match m.testBit f with
    | true => run R n todo m seen
    | false => run R n ((at2 R f).elim [] Line.leads ++ todo) (Nat.lor m (Nat.shiftLeft 1 f)) (f :: seen)

def Kept (m : Nat) (seen : List Nat) : Prop := ∀ x, m.testBit x = seen.contains x

theorem closureVia_nil (P : Program) (k : Nat) (seen : List Nat) : P.closureVia k [] seen = seen.reverse := by
  cases k <;> rfl

theorem kept_more {m : Nat} {seen : List Nat} (h : Kept m seen) (f : Nat) : Kept (Nat.lor m (Nat.shiftLeft 1 f)) (f :: seen) := by
  intro x
  have e : Nat.lor m (Nat.shiftLeft 1 f) = m ||| (1 <<< f) := rfl
  rw [e, Nat.testBit_or, h x, List.contains_cons, Bool.or_comm]
  congr 1
  rw [Nat.testBit_shiftLeft]
  rcases Nat.lt_trichotomy x f with hx | hx | hx
  · have h1 : ¬ x ≥ f := by omega
    have h2 : (x == f) = false := by simp; omega
    simp [h1, h2]
  · subst hx; simp
  · have h2 : (x == f) = false := by simp; omega
    have h3 : Nat.testBit 1 (x - f) = false := by
      obtain ⟨d, hd⟩ : ∃ d, x - f = d + 1 := ⟨x - f - 1, by omega⟩
      rw [hd, Nat.testBit_succ]; simp
    simp [h2, h3]

theorem run_spec {P : Program} {R : List (List Line)} (hT : ToldBy P R) : ∀ (n : Nat) (todo : List Nat) (m : Nat) (seen : List Nat) {todo' : List Nat} {m' : Nat} {seen' : List Nat},
    Kept m seen → run R n todo m seen = (todo', m', seen') → Kept m' seen' ∧ ∀ k, P.closureVia (k + n) todo seen = P.closureVia k todo' seen'
  | 0, todo, m, seen, _, _, _, hk, h => by
    simp only [run, Prod.mk.injEq] at h
    obtain ⟨rfl, rfl, rfl⟩ := h
    exact ⟨hk, fun k => rfl⟩
  | n + 1, [], m, seen, _, _, _, hk, h => by
    simp only [run, Prod.mk.injEq] at h
    obtain ⟨rfl, rfl, rfl⟩ := h
    exact ⟨hk, fun k => by rw [closureVia_nil, closureVia_nil]⟩
  | n + 1, f :: todo, m, seen, todo', m', seen', hk, h => by
    unfold run at h
    have hf := hk f
    cases hb : m.testBit f with
    | true =>
      rw [hb] at h hf
      obtain ⟨h1, h2⟩ := run_spec hT n todo m seen hk h
      refine ⟨h1, fun k => ?_⟩
      rw [← h2 k, show k + (n + 1) = (k + n) + 1 from by omega]
      show (if seen.contains f then _ else _) = _
      rw [← hf, if_pos rfl]
    | false =>
      rw [hb] at h hf
      obtain ⟨h1, h2⟩ := run_spec hT n _ _ _ (kept_more hk f) h
      refine ⟨h1, fun k => ?_⟩
      rw [← h2 k, show k + (n + 1) = (k + n) + 1 from by omega]
      show (if seen.contains f then _ else _) = _
      rw [← hf, if_neg (by simp), leads_at hT]

/-- The steps that the program's own closure allows itself. -/
def allowed (R : List (List Line)) : Nat := 1 + (R.flatten.map fun r => r.leads.length + 1).sum

theorem closure_fuel {P : Program} {R : List (List Line)} (hT : ToldBy P R) (f : Nat) : P.closure f = P.closureVia (allowed R) [f] [] := by
  unfold Program.closure allowed
  rw [← hT, List.map_map]
  rfl

theorem inPlace_at {P : Program} {R : List (List Line)} (hT : ToldBy P R) {f : Nat} {L : List Nat} (hL : P.closure f = L) :
    P.inPlace f = L.filterMap fun g => (at2 R g).bind Line.inPlace := by
  unfold Program.inPlace
  rw [hL]
  congr 1
  funext g
  rw [told_at hT]
  cases P.funcs[g]? <;> rfl

theorem varsNamed_at {P : Program} {R : List (List Line)} (hT : ToldBy P R) {f : Nat} {L : List Nat} (hL : P.closure f = L) :
    P.varsNamed f = (((L.flatMap fun g => (at2 R g).elim [] Line.globs).eraseDups).filterMap (fun g => (P.globals[g]?).map (·.name)) ++
      L.filterMap fun g => (at2 R g).bind Line.reads).eraseDups := by
  unfold Program.varsNamed
  rw [hL]
  have e1 : (fun g => ((P.funcs[g]?).bind (·.body)).elim [] Code.globalsNamed) = fun g => (at2 R g).elim [] Line.globs := by
    funext g
    rw [told_at hT]
    cases P.funcs[g]? <;> rfl
  have e2 : (fun g => (P.funcs[g]?).bind fun fn => if fn.body.isNone then entryReads.lookup fn.name else none) = fun g => (at2 R g).bind Line.reads := by
    funext g
    rw [told_at hT]
    cases P.funcs[g]? <;> rfl
  rw [e1, e2]

theorem unfollowed_by {P : Program} {f : Nat} {L : List Nat} (hL : P.closure f = L) (g : Nat) {fn : Func} (hg : L.contains g = true) (hfn : P.funcs[g]? = some fn)
    (h : (match fn.body with | some c => c.unfollowed | none => entryCalls fn) = true) : P.unfollowed f = true := by
  unfold Program.unfollowed
  rw [hL, List.any_eq_true]
  exact ⟨g, by simpa using hg, by rw [hfn]; exact h⟩

theorem recurses_by {P : Program} {f : Nat} (h : P.unfollowed f = true) : P.recurses f = true := by
  unfold Program.recurses
  rw [h]; rfl

theorem goes_none {P : Program} (h : P.funcs.toList.any Func.goes = false) (f : Nat) : P.goes f = false := by
  have hall : ∀ g : Nat, (P.funcs[g]?).any Func.goes = false := by
    intro g
    cases hg : P.funcs[g]? with
    | none => rfl
    | some fn =>
      have hm : fn ∈ P.funcs.toList := by
        obtain ⟨hlt, rfl⟩ := Array.getElem?_eq_some_iff.1 hg
        exact Array.mem_toList_iff.2 (Array.getElem_mem hlt)
      show fn.goes = false
      cases hb : fn.goes with
      | false => rfl
      | true => rw [List.any_eq_true.2 ⟨fn, hm, hb⟩] at h; cases h
  have e : P.funcs.any Func.goes = false := by rw [← Array.any_toList]; exact h
  unfold Program.goes
  rw [e, Bool.and_false, Bool.or_false]
  cases hc : (P.closure f).any fun g : Nat => (P.funcs[g]?).any Func.goes with
  | false => rfl
  | true =>
    obtain ⟨g, _, hg⟩ := List.any_eq_true.1 hc
    rw [hall g] at hg; cases hg

theorem goesBy_none {P : Program} (h : P.funcs.toList.any Func.goes = false) (c : OpenClaim) (hs : c.start = .entering) : c.goesBy P = false := by
  unfold OpenClaim.goesBy Program.goesAt Program.goesFrom
  rw [hs]
  cases P.funcNamed c.func with
  | none => rfl
  | some f => simp only [Option.any_some, goes_none h f, Bool.or_false]

def bodyLooks (P : Program) (fn : Func) : Bool := match fn.body with | some c => c.looks P | none => false

theorem looks_none {P : Program} (h : P.funcs.toList.any (bodyLooks P) = false) (skip : List FuncId) : P.looks skip = false := by
  unfold Program.looks
  cases hc : (List.range P.funcs.size).any (fun g : Nat => !skip.contains g && (P.funcs[g]?).any fun fn => match fn.body with | some c => c.looks P | none => false) with
  | false => rfl
  | true =>
    obtain ⟨g, _, hg⟩ := List.any_eq_true.1 hc
    rw [Bool.and_eq_true] at hg
    cases hf : P.funcs[g]? with
    | none => rw [hf] at hg; simp at hg
    | some fn =>
      have hm : fn ∈ P.funcs.toList := by
        obtain ⟨hlt, rfl⟩ := Array.getElem?_eq_some_iff.1 hf
        exact Array.mem_toList_iff.2 (Array.getElem_mem hlt)
      have hb : bodyLooks P fn = true := by
        have := hg.2
        rw [hf] at this
        exact this
      rw [List.any_eq_true.2 ⟨fn, hm, hb⟩] at h; cases h

end Reach
end Go.Proofs.YtjianicbagcekaaGreatDoor
